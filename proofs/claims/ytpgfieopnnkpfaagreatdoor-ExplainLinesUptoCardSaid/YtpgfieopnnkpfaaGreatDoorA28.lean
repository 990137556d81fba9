/- Lemmas for the claims of this seat, without a condition: part 28 (R25, E19, E20). -/
import Derived.Test.YtpgfieopnnkpfaaGreatDoorA27
namespace Go.Eng
open Go.Proofs
abbrev derR (x:List Rl) (roots:List Rq) (l:List Nf):AV:=.tup [sl encInc (deriveP x roots l).1,vi (deriveP x roots l).2]
theorem derR_no {x:List Rl} {roots:List Rq} {l:List Nf} {e:Int} (h:deriveP x roots l=([],e)):Sub (.tup [.v (.slice none 0 0),vi e]) (derR x roots l) :=
 (show Sub (.tup [.v (.slice none 0 0),vi e]) (.tup [.slice .none [],vi e]) from Sub.tup ⟨.nil,.refl _,trivial⟩).trans (.of_eq (show AV.tup [.slice .none [],vi e]=derR x roots l by unfold derR; rw [h]; rfl))
theorem deriveP_eq (x:List Rl) (roots:List Rq) (l:List Nf):deriveP x roots l=if checkIx x≠0∨checkRqs roots≠0 then ([],(1:Int)) else if 65536<l.length then ([],(7:Int)) else match deriveGo x roots l [] with | none=>([],(18:Int)) | some d=>(d,(0:Int)):=rfl
theorem ck_yes0 {a b:Int} (h:(decide (a=0)&&decide (b=0))=true):a=0∧b=0:=by simpa using h
theorem ck_yes {a b:Int} (h:(decide (a=0)&&decide (b=0))=true):¬ (a≠0∨b≠0):=by have:=ck_yes0 h; omega
theorem ck_no {a b:Int} (h:(decide (a=0)&&decide (b=0))=false):a≠0∨b≠0:=by
 simp only [Bool.and_eq_false_iff,decide_eq_false_iff_not] at h; exact h
set_option maxHeartbeats 4000000 in
theorem c13 (x:List Rl) (ifs:List (List AV)) (roots:List Rq) (l:List Nf) (hx:∀ r ∈ x,FewR r) (hr:∀ q ∈ roots,FewQ q):PC 59 [.agg (Ic x ifs),sl encRq roots,sl encNf l] (derR x roots l):=by
 refine Ps ⟨[],[],[],[],[],[],[],[],[],[],[3,8,10]⟩ Tryz.func59 rfl (Nz rfl) ?_;refine Yi (Nz rfl) ?_;refine Or.elim (Bt (decide (checkIx x=0)&&decide (checkRqs roots=0))) (fun h1=>?_) (fun h1=>?_)
 ·have h1:(decide (checkIx x=0)&&decide (checkRqs roots=0))=true:=h1;have hc2:=c37 x ifs roots hx hr;rw [show (decide (checkIx x=0)&&decide (checkRqs roots=0))=true from h1] at hc2;refine Xi .pure (Xi _ (Yi hc2 ?_));refine Xi ⟨[(1,sl encRq roots),(2,sl encNf l),(3,.ref 3 0)],[(3,.cells (Ic x ifs))],hfree⟩ (Yi ⟨Z3,Z1,Fh,Tv⟩ ?_)
  refine Yi (fun h3=>?_) (fun h3=>?_)
  ·have h3:(65536:Int)<((l.map encNf).length:Int):=h3;have n3:65536<l.length:=by have q:=h3; rw [Lm] at q; omega
   exact derR_no (by rw [deriveP_eq,if_neg (ck_yes h1),if_pos (by have h9:=h3; rw [Lm] at h9; omega)])
  have h3:¬ ((65536:Int)<((l.map encNf).length:Int)):=h3;have n3:¬ 65536<l.length:=by have q:=h3; rw [Lm] at q; omega
  have hb3:l.length≤65536:=by have h9:=h3; rw [Lm] at h9; omega
  have e0:checkIx x=0:=(ck_yes0 h1).1;have hU:=pathsU_few (x:=x) (roots:=roots) (l:=l) e0 (ck_yes0 h1).2 hb3;refine Xi {q:Nat × List (List Tm) // q.1≤l.length∧deriveGo x roots (l.take q.1) []=some q.2∧q.2.length=q.1∧∀ t ∈ q.2,InU (pathsU x roots l) t} (Xi (fun q=>⟨[(1,sl encRq roots),(2,sl encNf l),(3,.ref 3 0),(8,.slice (.id 19 1) (q.1.2.map encInc)),(9,vi q.1.1)],[(3,.cells (Ic x ifs)),(19,.tok 1 q.1.2.length)],hfree⟩) (Xi (fun q=>l.length - q.1.1) (Yi (Xi ⟨(0,[]),Nat.zero_le _,rfl,rfl,fun t ht=>by cases ht⟩ ?_) ?_)))
  ·exact ⟨Z5,Z2,Fh,Tv⟩
  intro ⟨⟨i,D⟩,i1,i2,i3,i4⟩;have i1:i≤l.length:=i1;have i2:deriveGo x roots (l.take i) []=some D:=i2;have i3:D.length=i:=i3;have i4:∀ t ∈ D,InU (pathsU x roots l) t:=i4;refine Yi (fun h5=>?_) (fun h5=>?_)
  ·have h5:(i:Int)<((l.map encNf).length:Int):=h5;have n5:i<l.length:=by have q:=h5; rw [Lm] at q; omega
   have g5:l[i]?=some l[i]:=Ge n5;refine Yi (Nz rfl) ?_;refine Xi (encNf l[i]) (Yi (Yi (Nn i) (map_at g5)) (Yi rfl ?_));refine Yi (Nz rfl) ?_;refine Or.elim (Bt (inferP x roots D l[i]).isSome) (fun h6=>?_) (fun h6=>?_)
   ·have h6:(inferP x roots D l[i]).isSome=true:=h6;have hc7:=(show PC 114 [ixV x ifs,sl encRq roots,.agg (encNf l[i]),sl encInc D] (.tup [sl encTm (inferL x roots D l[i]),vb (inferP x roots D l[i]).isSome]) from c38 x ifs roots D l[i] e0 hx (fun q hq=>(hr q hq).1) (fun t ht=>(i4 t ht).fewI hU));rw [show (inferP x roots D l[i]).isSome=true from h6] at hc7;refine Xi _ (Yi hc7 ?_);refine Yi (by kernel_rfl) ?_;refine Xi ⟨[(1,sl encRq roots),(2,sl encNf l),(3,.ref 3 0),(8,.slice (.id 19 1) (D.map encInc)),(9,vi i),(10,sl encTm (inferL x roots D l[i])),(11,vb true)],[(3,.cells (Ic x ifs)),(19,.tok 1 D.length)],hfree⟩ (Yi ⟨Z7,Z2,Fh,Tv⟩ ?_)
    have b8:AllLen 1 [[sl encTm (inferL x roots D l[i])]]∧(D.map encInc).length=D.length∧((D.map encInc).length+([[sl encTm (inferL x roots D l[i])]]:List (List AV)).length)*24≤140737488355328∧(D.map encInc).length+([[sl encTm (inferL x roots D l[i])]]:List (List AV)).length≤9223372036854775807:=⟨⟨rfl,trivial⟩,(by simp),(by simp only [Lm,List.length_cons,List.length_nil]; omega),(by simp only [Lm,List.length_cons,List.length_nil]; omega)⟩;refine Yi b8 ?_;refine Xi ⟨[(1,sl encRq roots),(2,sl encNf l),(3,.ref 3 0),(8,.slice (.id 19 1) ((D.map encInc)++[[sl encTm (inferL x roots D l[i])]])),(9,vi i)],[(3,.cells (Ic x ifs)),(19,.tok 1 ((D.map encInc).length+([[sl encTm (inferL x roots D l[i])]]:List (List AV)).length))],hfree⟩ (Yi ⟨Z5,Z2,Fh,Tv⟩ ?_)
    refine Yi (Ii i (by omega)) ?_;refine Exists.elim (Option.isSome_iff_exists.1 h6) (fun t ht=>?_);have etl:=inferL_ok ht;have hgt:=go_take n5 i2;rw [ht] at hgt;refine Xi ⟨(i+1,(D++[t])),by omega,hgt,by rw [List.length_append,i3]; rfl,fun u hu=>(List.mem_append.1 hu).elim (i4 u) (fun hu=>by rw [List.mem_singleton.1 hu]; exact inferP_in (List.getElem_mem n5) i4 ht)⟩ ?_;exact ⟨Dl l.length i (by omega),⟨Zr,Zr,Zr,⟨(show AV.slice (.id 19 1) (D.map encInc++[[sl encTm (inferL x roots D l[i])]])=.slice (.id 19 1) ((D++[t]).map encInc) by rw [etl,List.map_append]; rfl),rfl⟩,Zr,Tv⟩,⟨Zr,⟨(show HO.tok 1 ((D.map encInc).length+([[sl encTm (inferL x roots D l[i])]]:List (List AV)).length)=.tok 1 (D++[t]).length by rw [Lm,List.length_append]; rfl),rfl⟩,Tv⟩,Fh,Tv⟩
   have h6:(inferP x roots D l[i]).isSome=false:=h6;have hc10:=(show PC 114 [ixV x ifs,sl encRq roots,.agg (encNf l[i]),sl encInc D] (.tup [sl encTm (inferL x roots D l[i]),vb (inferP x roots D l[i]).isSome]) from c38 x ifs roots D l[i] e0 hx (fun q hq=>(hr q hq).1) (fun t ht=>(i4 t ht).fewI hU));rw [show (inferP x roots D l[i]).isSome=false from h6] at hc10;refine Xi _ (Yi hc10 ?_);refine Yi (by kernel_rfl) ?_;refine Xi ⟨[(1,sl encRq roots),(2,sl encNf l),(3,.ref 3 0),(8,.slice (.id 19 1) (D.map encInc)),(9,vi i),(10,sl encTm (inferL x roots D l[i])),(11,vb false)],[(3,.cells (Ic x ifs)),(19,.tok 1 D.length)],hfree⟩ (Yi ⟨Z7,Z2,Fh,Tv⟩ ?_)
   have hgt:=go_take n5 i2;rw [show inferP x roots D l[i]=none from Option.not_isSome_iff_eq_none.1 (by rw [h6]; decide)] at hgt;exact derR_no (by rw [deriveP_eq,if_neg (ck_yes h1),if_neg (by omega),go_none hgt])
  have h5:¬ ((i:Int)<((l.map encNf).length:Int)):=h5;have n5:¬ i<l.length:=by have q:=h5; rw [Lm] at q; omega
  rw [List.take_of_length_le (by omega)] at i2;exact .of_eq (show AV.tup [sl encInc D,vi 0]=derR x roots l by unfold derR; rw [deriveP_eq,if_neg (ck_yes h1),if_neg (by omega),i2])
 have h1:(decide (checkIx x=0)&&decide (checkRqs roots=0))=false:=h1;have hc13:=c37 x ifs roots hx hr;rw [show (decide (checkIx x=0)&&decide (checkRqs roots=0))=false from h1] at hc13;refine Xi .pure (Xi _ (Yi hc13 ?_));exact derR_no (by rw [deriveP_eq,if_pos (ck_no h1)])
end Go.Eng

namespace Go.Eng
open Go.Proofs
theorem itB_zz {n:Int} (h0:0≤n) (h1:n≤9223372036854775807):(itB n).size≤21:=itB_size (by omega) h1
theorem reasonR_size {y:Nf} (h:NfOk y) (_hn:NfI y):(reasonR y).size≤(reasonI y).size:=by
 rw [reason_eq h,bsize_app,bsize_app]; omega
abbrev linQ (x:List Rl) (roots:List Rq) (l:List Nf) (target:Int):AV:=.tup [sl encStr (linesQ x roots l target).1,vi (linesQ x roots l target).2]
theorem linQ_no {x:List Rl} {roots:List Rq} {l:List Nf} {target e:Int} (h:linesQ x roots l target=([],e)):Sub (.tup [.v (.slice none 0 0),vi e]) (linQ x roots l target) :=
 (show Sub (.tup [.v (.slice none 0 0),vi e]) (.tup [.slice .none [],vi e]) from Sub.tup ⟨.nil,.refl _,trivial⟩).trans (.of_eq (show AV.tup [.slice .none [],vi e]=linQ x roots l target by unfold linQ; rw [h]; rfl))
abbrev lnR (own:List Nf) (D:List (List Tm)) (i:Nat):List ByteArray:=(List.range i).map fun k=>lineR k (D.getD k []) (own.getD k nf0)
theorem lnR_succ (own:List Nf) (D:List (List Tm)) (i:Nat):lnR own D (i+1)=lnR own D i++[lineR i (D.getD i []) (own.getD i nf0)]:=by
 unfold lnR; rw [List.range_succ,List.map_append]; rfl
theorem short_own {x:List Rl} {roots:List Rq} {l own:List Nf} (h:ShortP x roots l) (ho:∀ y ∈ own,FewP y.path):ShortP x roots own:=fun p hp=>by
 unfold pathsU at hp;rcases List.mem_append.1 hp with h1 | h1
 ·exact h p (List.mem_append_left _ h1)
 ·rcases List.mem_append.1 h1 with h1 | h1
  ·exact h p (List.mem_append_right _ (List.mem_append_left _ h1))
  ·rcases List.mem_append.1 h1 with h1 | h1
   ·exact h p (List.mem_append_right _ (List.mem_append_right _ (List.mem_append_left _ h1)))
   ·obtain ⟨y,hy,rfl⟩:=List.mem_map.1 h1;exact ho y hy
theorem decZ_size {n:Int} (h0:0≤n) (h1:n≤9223372036854775807):(decZ n).size≤21:=by
 have:=itB_zz h0 h1
 rw [itB_eq h0] at this; exact this
theorem atR_size (p:ByteArray) (pl:Int):(atR p pl).size≤135000004:=setP_size _ _
set_option maxHeartbeats 4000000 in
theorem e60i:∀ (k:Nat) (n:Int),n<k→0≤n→n≤9223372036854775807→PC 60 [vi n] (vs (itB n)):=by
 intro k
 induction k with
 | zero=>intro n h h0; omega
 | succ k ih =>
  intro n hk h0 h1;refine Ps ⟨[],[],[],[],[],[],[],[],[],[],[]⟩ Tryz.func60 rfl (Nz rfl) ?_;refine Yi (fun h1=>?_) (fun h1=>?_)
  ·have h1:(n:Int)<(10:Int):=h1;refine Yi (by show InI64 ((48:Int)+(n:Int)); unfold InI64; omega) ?_;refine Xi [UInt8.ofNat (48+n.toNat)] (Yi (u8_one (n:=n) (by omega) (by omega)) ?_);exact .of_eq (show vs ⟨[UInt8.ofNat (48+n.toNat)].toArray⟩=vs (itB n) by rw [dec_one h0 h1])
  have h1:¬ ((n:Int)<(10:Int)):=h1;refine Yi ⟨by omega,by omega,(by show InI64 (n); unfold InI64; omega)⟩ ?_;refine Xi _ (Yi (ih (n / 10) (by omega) (by omega) (by omega)) ?_);refine Yi ⟨by omega,by omega⟩ ?_;refine Yi (by show InI64 ((48:Int)+(n % 10:Int)); unfold InI64; omega) ?_;refine Xi [UInt8.ofNat (48+(n % 10).toNat)] (Yi (u8_one (n:=n % 10) (by omega) (by omega)) ?_);refine Yi (cat_ok (Nat.le_trans (itB_zz (by omega) (by omega)) (by decide)) (Nz rfl)) ?_;refine Yi (by kernel_rfl) ?_;exact .of_eq (show vs (itB (n / 10)++⟨[UInt8.ofNat (48+(n % 10).toNat)].toArray⟩)=vs (itB n) by rw [← dec_one (n:=n % 10) (by omega) (by omega),← dec_two h0 h1])
theorem e60 (n:Int) (h0:0≤n) (h1:n≤9223372036854775807):PC 60 [vi n] (vs (decZ n)):=by
 have h:=e60i (n.toNat+1) n (by omega) h0 h1;rw [itB_eq h0] at h;exact h
set_option maxHeartbeats 4000000 in
theorem e81 (p:ByteArray) (pl:Int) (hp:FewS p) (hpl : -9223372036854775808≤pl∧pl<9223372036854775807):PC 81 [vs p,vi pl] (vs (atR p pl)):=by
 refine Ps ⟨[],[],[],[],[],[],[],[],[],[],[]⟩ Tryz.func81 rfl (Nz rfl) ?_;refine Yi (by show InI64 ((pl:Int)+(1:Int)); unfold InI64; omega) ?_;refine Xi .pure (Xi _ (Yi (e47 p [(pl,pl+1)] hp (by unfold Few; simp)) ?_));exact .refl _
set_option maxHeartbeats 4000000 in
theorem e61 (y:Nf) (hn:NfI y) (ho:NfOk y):PC 61 [.agg (encNf y)] (vs (reasonR y)):=by
 have hkd:=hn.kinds;refine Ps ⟨[],[],[],[],[],[],[],[],[],[],[]⟩ Tryz.func61 rfl (Nz rfl) ?_;refine Yi (fun h1=>?_) (fun h1=>?_)
 ·have h1:(y.kind:Int)=(0:Int):=h1;have hq1:=hn.number h1;have hq5:=ho.1 h1;refine Yi (by show InI64 ((y.number:Int)+(1:Int)); unfold InI64; omega) ?_;refine Xi .pure (Xi _ (Yi (e60 (y.number+1) (by omega) (by omega)) ?_));refine Yi (by have z0:y.path.size≤1048576:=hn.path; have z1:=atR_size y.path y.place; have z22:=decZ_size (n:=y.number+1) (by omega) (by omega); have l0:(⟨#[114,111,111,116,32]⟩ : ByteArray).size=5:=rfl; show ((((⟨#[114,111,111,116,32]⟩ : ByteArray)).size+((decZ (y.number+1))).size:Nat):Int)≤_; omega) ?_;exact .of_eq (show vs (⟨#[114,111,111,116,32]⟩++(decZ (y.number+1)))=vs (reasonR y) by unfold reasonR; rw [if_pos h1])
 have h1:¬ ((y.kind:Int)=(0:Int)):=h1;refine Yi (fun h3=>?_) (fun h3=>?_)
 ·have h3:(y.kind:Int)=(1:Int):=h3;have hq4:=ho.2.1 h3;refine Yi (by have z0:y.path.size≤1048576:=hn.path; have z1:=atR_size y.path y.place; have l0:(⟨#[98,121,32]⟩ : ByteArray).size=3:=rfl; show ((((⟨#[98,121,32]⟩ : ByteArray)).size+(y.path).size:Nat):Int)≤_; omega) ?_;refine Yi (by have z0:y.path.size≤1048576:=hn.path; have z1:=atR_size y.path y.place; have l0:(⟨#[32]⟩ : ByteArray).size=1:=rfl; have l1:(⟨#[98,121,32]⟩ : ByteArray).size=3:=rfl; show ((((⟨#[98,121,32]⟩ : ByteArray)++y.path).size+((⟨#[32]⟩ : ByteArray)).size:Nat):Int)≤_; simp only [bsize_app]; omega) ?_;refine Xi _ (Yi (e81 y.path y.place hn.path.s (by omega)) ?_);refine Yi (by have z0:y.path.size≤1048576:=hn.path; have z1:=atR_size y.path y.place; have l0:(⟨#[32]⟩ : ByteArray).size=1:=rfl; have l1:(⟨#[98,121,32]⟩ : ByteArray).size=3:=rfl; show ((((⟨#[98,121,32]⟩++y.path)++(⟨#[32]⟩ : ByteArray)).size+((atR y.path y.place)).size:Nat):Int)≤_; simp only [bsize_app]; omega) ?_;refine Yi (by kernel_rfl) ?_;exact .of_eq (show vs (((⟨#[98,121,32]⟩++y.path)++⟨#[32]⟩)++(atR y.path y.place))=vs (reasonR y) by unfold reasonR; rw [if_neg h1]; rw [if_pos h3])
 have h3:¬ ((y.kind:Int)=(1:Int)):=h3;refine Yi (fun h5=>?_) (fun h5=>?_)
 ·have h5:(y.kind:Int)=(2:Int):=h5;exact .of_eq (show vs ⟨#[110,111,32,111,116,104,101,114,32,114,101,108,101,97,115,101,115]⟩=vs (reasonR y) by unfold reasonR; rw [if_neg h1]; rw [if_neg h3]; rw [if_pos h5])
 have h5:¬ ((y.kind:Int)=(2:Int)):=h5;have hq2:=hn.refs (by omega);have hq3:=ho.2.2.1 (by omega);refine Yi (by show InI64 ((y.left:Int)+(1:Int)); unfold InI64; omega) ?_;refine Xi _ (Yi (e60 (y.left+1) (by omega) (by omega)) ?_);refine Yi (by have z0:y.path.size≤1048576:=hn.path; have z1:=atR_size y.path y.place; have z20:=decZ_size (n:=y.left+1) (by omega) (by omega); have l0:(⟨#[102,114,111,109,32]⟩ : ByteArray).size=5:=rfl; show ((((⟨#[102,114,111,109,32]⟩ : ByteArray)).size+((decZ (y.left+1))).size:Nat):Int)≤_; omega) ?_;refine Yi (by have z0:y.path.size≤1048576:=hn.path; have z1:=atR_size y.path y.place; have z20:=decZ_size (n:=y.left+1) (by omega) (by omega); have l0:(⟨#[102,114,111,109,32]⟩ : ByteArray).size=5:=rfl; have l1:(⟨#[32,97,110,100,32]⟩ : ByteArray).size=5:=rfl; show ((((⟨#[102,114,111,109,32]⟩ : ByteArray)++(decZ (y.left+1))).size+((⟨#[32,97,110,100,32]⟩ : ByteArray)).size:Nat):Int)≤_; simp only [bsize_app]; omega) ?_;refine Yi (by show InI64 ((y.right:Int)+(1:Int)); unfold InI64; omega) ?_;refine Xi _ (Yi (e60 (y.right+1) (by omega) (by omega)) ?_);refine Yi (by have z0:y.path.size≤1048576:=hn.path; have z1:=atR_size y.path y.place; have z20:=decZ_size (n:=y.left+1) (by omega) (by omega); have z21:=decZ_size (n:=y.right+1) (by omega) (by omega); have l0:(⟨#[102,114,111,109,32]⟩ : ByteArray).size=5:=rfl; have l1:(⟨#[32,97,110,100,32]⟩ : ByteArray).size=5:=rfl; show ((((⟨#[102,114,111,109,32]⟩++(decZ (y.left+1)))++(⟨#[32,97,110,100,32]⟩ : ByteArray)).size+((decZ (y.right+1))).size:Nat):Int)≤_; simp only [bsize_app]; omega) ?_;refine Yi (by kernel_rfl) ?_;exact .of_eq (show vs (((⟨#[102,114,111,109,32]⟩++(decZ (y.left+1)))++⟨#[32,97,110,100,32]⟩)++(decZ (y.right+1)))=vs (reasonR y) by unfold reasonR; rw [if_neg h1]; rw [if_neg h3]; rw [if_neg h5])
end Go.Eng

namespace Go.Eng
open Go.Proofs
theorem lineR_len {x:List Rl} {roots:List Rq} {l:List Nf} {target:Int} : (linesQ x roots l target).1.length≤65536:=by
 unfold linesQ;split
 ·simp
 ·split
  ·simp
  ·rename_i h0 h1;have hD:∀ z,(linesW lineR (trimL l target) z).length=(trimL l target).length:=fun z=>by unfold linesW; rw [Lm,List.length_range]
   show (linesW lineR (trimL l target) _).length≤_;rw [hD];obtain ⟨t,ht⟩ : ∃ t:Nat,target=t:=⟨target.toNat,by omega⟩;obtain ⟨m,f1,f2,f3,_⟩:=keeps_ok (Classical.not_not.1 h0) (show t<l.length by omega);rw [ht,f1,← f3]; exact derive_few
set_option maxHeartbeats 4000000 in
theorem e25 (x:List Rl) (ifs:List (List AV)) (roots:List Rq) (l:List Nf) (target:Int) (L:Lim x roots) (hl:Few l) (ht:InI64 target) (hP:ShortP x roots l):PC 25 [.agg (Ic x ifs),sl encRq roots,sl encNf l,vi target] (linQ x roots l target):=by
 have k59:=c13 x ifs roots l L.x L.rq;have hml:(l.map encNf).length=l.length:=Lm _;have hl:l.length≤1073741824:=hl;obtain ⟨d,hd⟩ : ∃ d,d=(deriveP x roots l).1:=⟨_,rfl⟩;obtain ⟨ee,he⟩ : ∃ ee,ee=(deriveP x roots l).2:=⟨_,rfl⟩;obtain ⟨own,how⟩ : ∃ own,own=trimL l target:=⟨_,rfl⟩;have k59o:=c13 x ifs roots own L.x L.rq;obtain ⟨D,hD⟩ : ∃ d,d=(deriveP x roots own).1:=⟨_,rfl⟩;obtain ⟨ce,hce⟩ : ∃ e,e=(deriveP x roots own).2:=⟨_,rfl⟩;unfold derR at k59 k59o;rw [← hd,← he] at k59;rw [← hD,← hce] at k59o;have k22:=e22 l target hl ht;rw [← how] at k22;refine Ps ⟨[],[],[],[],[],[],[],[],[],[],[2,4,6,7,8,13]⟩ Tryz.func25 rfl (Nz rfl) ?_;refine Yi (Nz rfl) ?_;refine Xi .pure (Xi _ (Yi k59 ?_));refine Xi ⟨[(1,sl encRq roots),(2,sl encNf l),(3,vi target),(4,.ref 4 0),(11,vi ee)],[(4,.cells (Ic x ifs))],hfree⟩ (Yi ⟨Z5,Z1,Fh,Tv⟩ ?_)
 refine Yi (fun h1=>?_) (fun h1=>?_)
 ·have h1:(ee:Int)≠(0:Int):=h1;exact linQ_no (by unfold linesQ; rw [if_pos (by rw [← he]; exact h1),← he])
 have h1:(ee:Int)=(0:Int):=Classical.byContradiction h1;refine Xi ⟨[(1,sl encRq roots),(2,sl encNf l),(3,vi target),(4,.ref 4 0)],[(4,.cells (Ic x ifs))],hfree⟩ (Yi ⟨Z4,Z1,Fh,Tv⟩ ?_)
 refine Yi (fun h3=>?_) (fun h3=>?_)
 ·have h3:(target:Int)<(0:Int):=h3;exact linQ_no (by unfold linesQ; rw [if_neg (fun h=>h (he.symm.trans h1)),if_pos (.inl h3)])
 have h3:¬ ((target:Int)<(0:Int)):=h3;refine Yi (fun h5=>?_) (fun h5=>?_)
 ·have h5:((l.map encNf).length:Int)≤(target:Int):=h5;exact linQ_no (by unfold linesQ; rw [if_neg (fun h=>h (he.symm.trans h1)),if_pos (.inr (by have q:=h5; rw [hml] at q; exact q))])
 have h5:¬ (((l.map encNf).length:Int)≤(target:Int)):=h5;refine Xi ⟨[(1,sl encRq roots),(2,sl encNf l),(3,vi target),(4,.ref 4 0)],[(4,.cells (Ic x ifs))],hfree⟩ (Yi ⟨Z4,Z1,Fh,Tv⟩ ?_)
 have hee:(deriveP x roots l).2=0:=by rw [← he]; exact h1
 obtain ⟨t,htt⟩ : ∃ t:Nat,target=t:=⟨target.toNat,by omega⟩;have htl:t<l.length:=by have q:=h5; rw [hml] at q; omega
 have hown:∀ y ∈ own,NfI y:=by rw [how,htt]; exact trim_nf hP (Nat.le_trans L.rs (by decide)) hee htl
 obtain ⟨m,f1,f2,f3,_⟩:=keeps_ok hee htl;rw [← htt,← how] at f1 f2 f3;rw [← hD] at f3;have hDt:∀ t ∈ D,TmsI t:=by rw [hD]; exact derived_tms (short_own hP (fun y hy=>(hown y hy).path)) f2
 have hDo:deriveGo x roots own []=some D:=by have q:=(deriveP_ok f2).2.2.2; rw [← hD] at q; exact q
 have hDl:D.length=own.length:=by omega
 have hol:own.length≤65536:=by rw [← hDl,hD]; exact derive_few
 refine Xi .pure (Xi _ (Yi k22 ?_));refine Xi ⟨[(1,sl encRq roots),(4,.ref 4 0),(12,sl encNf own)],[(4,.cells (Ic x ifs))],hfree⟩ (Yi ⟨Z3,Z1,Fh,Tv⟩ ?_)
 refine Yi (Nz rfl) ?_;refine Xi .pure (Xi _ (Yi k59o ?_));refine Xi ⟨[(12,sl encNf own),(13,sl encInc D)],[],hfree⟩ (Yi ⟨Z2,Tv,Fh,Tv⟩ ?_)
 refine Xi {i:Nat // i≤own.length} (Xi (fun q=>⟨[(12,sl encNf own),(13,sl encInc D),(15,.slice (.id 45 1) ((lnR own D q.1).map encStr)),(16,vi q.1)],[(45,.tok 1 q.1)],hfree⟩) (Xi (fun q=>own.length - q.1) (Yi (Xi ⟨0,Nat.zero_le _⟩ ?_) ?_)))
 ·exact ⟨Z4,Z1,Fh,Tv⟩
 intro ⟨i,i1⟩;have i1:i≤own.length:=i1;have hrl:(lnR own D i).length=i:=by unfold lnR; rw [Lm,List.length_range]
 have hrl2:(List.range i).length=i:=List.length_range;refine Yi (fun h7=>?_) (fun h7=>?_)
 ·have h7:(i:Int)<((own.map encNf).length:Int):=h7;have n7:i<own.length:=by have q:=h7; rw [Lm] at q; omega
  have g7:own[i]?=some own[i]:=Ge n7;have gD:D[i]?=some (D.getD i []):=getD_atD (by omega);have hyo:own.getD i nf0=own[i]:=by rw [List.getD_eq_getElem?_getD,Ge n7]; rfl
  have htm:TmsI (D.getD i []):=hDt _ (List.mem_of_getElem? gD);have hyn:NfI own[i]:=hown _ (List.getElem_mem n7);have hyk:NfOk own[i]:=by have q:=derive_ok hDo (i:=i) n7; rw [hyo] at q; exact q
  have s1:=decZ_size (n:=(i:Int)+1) (by omega) (by omega);have s2:=incText_size htm;have s3:=Nat.le_trans (reasonR_size hyk hyn) (reasonI_size hyn);refine Yi (Ii i (by omega)) ?_;refine Xi _ (Yi (e60 (i+1) (by omega) (by omega)) ?_);refine Yi (by have l0:(⟨#[46,32]⟩ : ByteArray).size=2:=rfl; show ((((decZ (i+1))).size+((⟨#[46,32]⟩ : ByteArray)).size:Nat):Int)≤_; omega) ?_;refine Xi (encInc (D.getD i [])) (Yi (Yi (show (0:Int)≤(i:Nat) by omega) (map_at gD)) (Yi rfl ?_));refine Xi _ (Yi (e16 (D.getD i []) htm.len htm.few htm.path) ?_);refine Yi (by have l0:(⟨#[46,32]⟩ : ByteArray).size=2:=rfl; show ((((decZ (i+1))++(⟨#[46,32]⟩ : ByteArray)).size+((incText (D.getD i []))).size:Nat):Int)≤_; simp only [bsize_app]; omega) ?_;refine Yi (by have l0:(⟨#[32,40]⟩ : ByteArray).size=2:=rfl; have l1:(⟨#[46,32]⟩ : ByteArray).size=2:=rfl; show (((((decZ (i+1))++(⟨#[46,32]⟩ : ByteArray))++(incText (D.getD i []))).size+((⟨#[32,40]⟩ : ByteArray)).size:Nat):Int)≤_; simp only [bsize_app]; omega) ?_;refine Xi (encNf own[i]) (Yi (Yi (Nn i) (map_at g7)) (Yi rfl ?_));refine Yi (Nz rfl) ?_;refine Xi _ (Yi (e61 own[i] hyn hyk) ?_);refine Yi (by have l0:(⟨#[32,40]⟩ : ByteArray).size=2:=rfl; have l1:(⟨#[46,32]⟩ : ByteArray).size=2:=rfl; show ((((((decZ (i+1))++(⟨#[46,32]⟩ : ByteArray))++(incText (D.getD i [])))++(⟨#[32,40]⟩ : ByteArray)).size+((reasonR own[i])).size:Nat):Int)≤_; simp only [bsize_app]; omega) ?_;refine Yi (by have l0:(⟨#[32,40]⟩ : ByteArray).size=2:=rfl; have l1:(⟨#[41]⟩ : ByteArray).size=1:=rfl; have l2:(⟨#[46,32]⟩ : ByteArray).size=2:=rfl; show (((((((decZ (i+1))++(⟨#[46,32]⟩ : ByteArray))++(incText (D.getD i [])))++(⟨#[32,40]⟩ : ByteArray))++(reasonR own[i])).size+((⟨#[41]⟩ : ByteArray)).size:Nat):Int)≤_; simp only [bsize_app]; omega) ?_;have b8:AllLen 1 [[vs ((((((decZ (i+1))++⟨#[46,32]⟩)++(incText (D.getD i [])))++⟨#[32,40]⟩)++(reasonR own[i]))++⟨#[41]⟩)]]∧((lnR own D i).map encStr).length=i∧(((lnR own D i).map encStr).length+([[vs ((((((decZ (i+1))++⟨#[46,32]⟩)++(incText (D.getD i [])))++⟨#[32,40]⟩)++(reasonR own[i]))++⟨#[41]⟩)]]:List (List AV)).length)*16≤140737488355328∧((lnR own D i).map encStr).length+([[vs ((((((decZ (i+1))++⟨#[46,32]⟩)++(incText (D.getD i [])))++⟨#[32,40]⟩)++(reasonR own[i]))++⟨#[41]⟩)]]:List (List AV)).length≤9223372036854775807:=⟨⟨rfl,trivial⟩,(by first | (simp; done) | (rw [Lm]; assumption)),(by simp only [Lm,List.length_cons,List.length_nil]; omega),(by simp only [Lm,List.length_cons,List.length_nil]; omega)⟩
  refine Yi b8 ?_;refine Yi (by kernel_rfl) ?_;refine Yi (Ii i (by omega)) ?_;have hcell : [vs ((((((decZ (i+1))++⟨#[46,32]⟩)++(incText (D.getD i [])))++⟨#[32,40]⟩)++(reasonR own[i]))++⟨#[41]⟩)]=encStr (lineR i (D.getD i []) (own.getD i nf0)):=by show [vs _]=[vs _]; unfold lineR; rw [hyo]
  refine Xi ⟨i+1,by omega⟩ ?_;exact ⟨Dl own.length i (by omega),⟨Zr,Zr,⟨(show AV.slice (.id 45 1) ((lnR own D i).map encStr++[[vs ((((((decZ (i+1))++⟨#[46,32]⟩)++(incText (D.getD i [])))++⟨#[32,40]⟩)++(reasonR own[i]))++⟨#[41]⟩)]])=.slice (.id 45 1) ((lnR own D (i+1)).map encStr) by rw [hcell,lnR_succ,List.map_append]; rfl),rfl⟩,Zr,Tv⟩,⟨⟨(show HO.tok 1 (((lnR own D i).map encStr).length+([[vs ((((((decZ (i+1))++⟨#[46,32]⟩)++(incText (D.getD i [])))++⟨#[32,40]⟩)++(reasonR own[i]))++⟨#[41]⟩)]]:List (List AV)).length)=.tok 1 (i+1) by rw [Lm,hrl]; rfl),rfl⟩,Tv⟩,Fh,Tv⟩
 have h7:¬ ((i:Int)<((own.map encNf).length:Int)):=h7;have n7:¬ i<own.length:=by have q:=h7; rw [Lm] at q; omega
 refine Xi ⟨[(15,.slice (.id 45 1) ((lnR own D i).map encStr))],[(45,.tok 1 i)],hfree⟩ (Yi ⟨Z1,Z1,Fh,Tv⟩ ?_)
 exact .of_eq (show AV.tup [sl encStr (lnR own D i),vi 0]=linQ x roots l target by unfold linQ linesQ; rw [if_neg (fun h=>h hee),if_neg (by omega),← how,← hD,show i=own.length by omega]; rfl)
set_option maxHeartbeats 4000000 in
theorem e5 (x:List Rl) (ifs:List (List AV)) (roots:List Rq) (l:List Nf) (target:Int) (L:Lim x roots) (hl:Few l) (ht:InI64 target) (hP:ShortP x roots l):PC 5 [.agg (Ic x ifs),sl encRq roots,sl encNf l,vi target] (vb true):=by
 have k23:=L.c11 ifs;have k24:=e24 x ifs roots l target (L.ck ifs) hl ht L.rs hP;have k25:=e25 x ifs roots l target L hl ht hP;have hAl:=lineR_len (x:=x) (roots:=roots) (l:=l) (target:=target);unfold linR at k24;unfold linQ at k25;rw [lines_eq] at k24;obtain ⟨A,hA⟩ : ∃ A,A=(linesQ x roots l target).1:=⟨_,rfl⟩;obtain ⟨ee,he⟩ : ∃ ee,ee=(linesQ x roots l target).2:=⟨_,rfl⟩;rw [← hA] at k24 k25 hAl;rw [← he] at k24 k25;have k26:=c20 A A (by unfold Few; omega);rw [decide_eq_true rfl] at k26;refine Ps ⟨[],[],[],[],[],[],[],[],[],[],[3,5,6,7]⟩ Tryz.func5 rfl (Nz rfl) ?_;refine Xi .pure (Xi _ (Yi e11 ?_));refine Xi ⟨[(1,sl encRq roots),(2,sl encNf l),(3,vi target),(4,.ref 4 0)],[(4,.cells (Ic x ifs))],hfree⟩ (Yi ⟨Z4,Z1,Fh,Tv⟩ ?_)
 refine Yi (Nz rfl) ?_;refine Or.elim (Bt (smallX x 16&&smallQs roots)) (fun h1=>?_) (fun h1=>?_)
 ·have h1:(smallX x 16&&smallQs roots)=true:=h1;have hc2:=k23;rw [show (smallX x 16&&smallQs roots)=true from h1] at hc2;refine Xi .pure (Xi _ (Yi hc2 ?_));refine Yi (fun h3=>?_) (fun h3=>?_)
  ·have h3:(400:Int)<((l.map encNf).length:Int):=h3;have n3:400<l.length:=by have q:=h3; rw [Lm] at q; omega
   exact .refl _
  have h3:¬ ((400:Int)<((l.map encNf).length:Int)):=h3;have n3:¬ 400<l.length:=by have q:=h3; rw [Lm] at q; omega
  refine Xi ⟨[(1,sl encRq roots),(2,sl encNf l),(3,vi target),(4,.ref 4 0)],[(4,.cells (Ic x ifs))],hfree⟩ (Yi ⟨Z4,Z1,Fh,Tv⟩ ?_)
  refine Yi (Nz rfl) ?_;refine Xi .pure (Xi _ (Yi k24 ?_));refine Xi ⟨[(1,sl encRq roots),(2,sl encNf l),(3,vi target),(4,.ref 4 0),(9,sl encStr A),(10,vi ee)],[(4,.cells (Ic x ifs))],hfree⟩ (Yi ⟨Z6,Z1,Fh,Tv⟩ ?_)
  refine Yi (Nz rfl) ?_;refine Xi .pure (Xi _ (Yi k25 ?_));refine Xi ⟨[(9,sl encStr A),(10,vi ee),(11,sl encStr A),(12,vi ee)],[],hfree⟩ (Yi ⟨Z4,Tv,Fh,Tv⟩ ?_)
  refine Xi .pure (Xi _ (Yi k26 ?_));refine Yi (fun h5=>?_) (fun h5=>?_)
  ·have h5:(ee:Int)=(ee:Int):=h5;exact .refl _
  have h5:¬ ((ee:Int)=(ee:Int)):=h5;exact absurd rfl h5
 have h1:(smallX x 16&&smallQs roots)=false:=h1;have hc8:=k23;rw [show (smallX x 16&&smallQs roots)=false from h1] at hc8;refine Xi .pure (Xi _ (Yi hc8 ?_));exact .refl _
end Go.Eng
