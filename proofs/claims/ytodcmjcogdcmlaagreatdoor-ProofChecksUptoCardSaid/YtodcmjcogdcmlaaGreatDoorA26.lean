/- Lemmas for the claims of this seat, without a condition: part 26 (R25, R26, R27). -/
import Derived.Test.YtodcmjcogdcmlaaGreatDoorA25
namespace Go.Eng
open Go.Proofs
abbrev derR (x:List Rl) (roots:List Rq) (l:List Nf):AV:=.tup [sl encInc (deriveP x roots l).1,vi (deriveP x roots l).2]
theorem derR_no {x:List Rl} {roots:List Rq} {l:List Nf} {e:Int} (h:deriveP x roots l=([],e)):Sub (.tup [.v (.slice none 0 0),vi e]) (derR x roots l) :=
 (show Sub (.tup [.v (.slice none 0 0),vi e]) (.tup [.slice .none [],vi e]) from Sub.tup ⟨.nil,.refl _,trivial⟩).trans (.of_eq (show AV.tup [.slice .none [],vi e]=derR x roots l by unfold derR; rw [h]; rfl))
theorem deriveP_eq (x:List Rl) (roots:List Rq) (l:List Nf):deriveP x roots l=if checkIx x≠0∨checkRqs roots≠0 then ([],(1:Int)) else if 65536<l.length then ([],(7:Int)) else match deriveGo x roots l [] with | none=>([],(18:Int)) | some d=>(d,(0:Int)):=rfl
theorem derived_fewA {x:List Rl} {roots:List Rq} {l:List Nf} : ∀ t ∈ (deriveP x roots l).1,FewT t:=by
 by_cases h:(deriveP x roots l).2=0
 ·exact derived_few h
 ·rw [derive_err h]; exact fun t ht=>by cases ht
theorem ck_yes0 {a b:Int} (h:(decide (a=0)&&decide (b=0))=true):a=0∧b=0:=by simpa using h
theorem ck_yes {a b:Int} (h:(decide (a=0)&&decide (b=0))=true):¬ (a≠0∨b≠0):=by have:=ck_yes0 h; omega
theorem ck_no {a b:Int} (h:(decide (a=0)&&decide (b=0))=false):a≠0∨b≠0:=by
 simp only [Bool.and_eq_false_iff,decide_eq_false_iff_not] at h; exact h
set_option maxHeartbeats 4000000 in
theorem c13 (x:List Rl) (ifs:List (List AV)) (roots:List Rq) (l:List Nf) (hx:∀ r ∈ x,FewR r) (hr:∀ q ∈ roots,FewQ q):PC 13 [.agg (Ic x ifs),sl encRq roots,sl encNf l] (derR x roots l):=by
 refine Ps ⟨[],[],[],[],[],[],[],[],[],[],[3,8,10]⟩ Tryz.func13 rfl (Nz rfl) ?_;refine Yi (Nz rfl) ?_;refine Or.elim (Bt (decide (checkIx x=0)&&decide (checkRqs roots=0))) (fun h1=>?_) (fun h1=>?_)
 ·have h1:(decide (checkIx x=0)&&decide (checkRqs roots=0))=true:=h1;have hc2:=c37 x ifs roots hx hr;rw [show (decide (checkIx x=0)&&decide (checkRqs roots=0))=true from h1] at hc2;refine Xi .pure (Xi _ (Yi hc2 ?_));refine Xi ⟨[(1,sl encRq roots),(2,sl encNf l),(3,.ref 3 0)],[(3,.cells (Ic x ifs))],hfree⟩ (Yi ⟨Z3,Z1,Fh,Tv⟩ ?_)
  refine Yi (fun h3=>?_) (fun h3=>?_)
  ·have h3:(65536:Int)<((l.map encNf).length:Int):=h3;have n3:65536<l.length:=by have q:=h3; rw [Lm] at q; omega
   exact derR_no (by rw [deriveP_eq,if_neg (ck_yes h1),if_pos (by have h9:=h3; rw [Lm] at h9; omega)])
  have h3:¬ ((65536:Int)<((l.map encNf).length:Int)):=h3;have n3:¬ 65536<l.length:=by have q:=h3; rw [Lm] at q; omega
  have hb3:l.length≤65536:=by have h9:=h3; rw [Lm] at h9; omega
  have e0:checkIx x=0:=(ck_yes0 h1).1;have hU:=pathsU_few (x:=x) (roots:=roots) (l:=l) e0 (ck_yes0 h1).2 hb3;refine Xi {q:Nat × List (List Tm) // q.1≤l.length∧deriveGo x roots (l.take q.1) []=some q.2∧q.2.length=q.1∧∀ t ∈ q.2,InU (pathsU x roots l) t} (Xi (fun q=>⟨[(1,sl encRq roots),(2,sl encNf l),(3,.ref 3 0),(8,.slice (.id 19 1) (q.1.2.map encInc)),(9,vi q.1.1)],[(3,.cells (Ic x ifs)),(19,.tok 1 q.1.2.length)],hfree⟩) (Xi (fun q=>l.length - q.1.1) (Yi (Xi ⟨(0,[]),Nat.zero_le _,rfl,rfl,fun t ht=>by cases ht⟩ ?_) ?_)))
  ·exact ⟨Z5,Z2,Fh,Tv⟩
  intro ⟨⟨i,D⟩,i1,i2,i3,i4⟩;have i1:i≤l.length:=i1;have i2:deriveGo x roots (l.take i) []=some D:=i2;have i3:D.length=i:=i3;have i4:∀ t ∈ D,InU (pathsU x roots l) t:=i4;refine Yi (fun h5=>?_) (fun h5=>?_)
  ·have h5:(i:Int)<((l.map encNf).length:Int):=h5;have n5:i<l.length:=by have q:=h5; rw [Lm] at q; omega
   have g5:l[i]?=some l[i]:=Ge n5;refine Yi (Nz rfl) ?_;refine Xi (encNf l[i]) (Yi (Yi (Nn i) (map_at g5)) (Yi rfl ?_));refine Yi (Nz rfl) ?_;refine Or.elim (Bt (inferP x roots D l[i]).isSome) (fun h6=>?_) (fun h6=>?_)
   ·have h6:(inferP x roots D l[i]).isSome=true:=h6;have hc7:=(show PC 38 [ixV x ifs,sl encRq roots,.agg (encNf l[i]),sl encInc D] (.tup [sl encTm (inferL x roots D l[i]),vb (inferP x roots D l[i]).isSome]) from c38 x ifs roots D l[i] e0 hx (fun q hq=>(hr q hq).1) (fun t ht=>(i4 t ht).fewI hU));rw [show (inferP x roots D l[i]).isSome=true from h6] at hc7;refine Xi _ (Yi hc7 ?_);refine Yi (by kernel_rfl) ?_;refine Xi ⟨[(1,sl encRq roots),(2,sl encNf l),(3,.ref 3 0),(8,.slice (.id 19 1) (D.map encInc)),(9,vi i),(10,sl encTm (inferL x roots D l[i])),(11,vb true)],[(3,.cells (Ic x ifs)),(19,.tok 1 D.length)],hfree⟩ (Yi ⟨Z7,Z2,Fh,Tv⟩ ?_)
    have b8:AllLen 1 [[sl encTm (inferL x roots D l[i])]]∧(D.map encInc).length=D.length∧((D.map encInc).length+([[sl encTm (inferL x roots D l[i])]]:List (List AV)).length)*24≤140737488355328∧(D.map encInc).length+([[sl encTm (inferL x roots D l[i])]]:List (List AV)).length≤9223372036854775807:=⟨⟨rfl,trivial⟩,(by simp),(by simp only [Lm,List.length_cons,List.length_nil]; omega),(by simp only [Lm,List.length_cons,List.length_nil]; omega)⟩;refine Yi b8 ?_;refine Xi ⟨[(1,sl encRq roots),(2,sl encNf l),(3,.ref 3 0),(8,.slice (.id 19 1) ((D.map encInc)++[[sl encTm (inferL x roots D l[i])]])),(9,vi i)],[(3,.cells (Ic x ifs)),(19,.tok 1 ((D.map encInc).length+([[sl encTm (inferL x roots D l[i])]]:List (List AV)).length))],hfree⟩ (Yi ⟨Z5,Z2,Fh,Tv⟩ ?_)
    refine Yi (Ii i (by omega)) ?_;refine Exists.elim (Option.isSome_iff_exists.1 h6) (fun t ht=>?_);have etl:=inferL_ok ht;have hgt:=go_take n5 i2;rw [ht] at hgt;refine Xi ⟨(i+1,(D++[t])),by omega,hgt,by rw [List.length_append,i3]; rfl,fun u hu=>(List.mem_append.1 hu).elim (i4 u) (fun hu=>by rw [List.mem_singleton.1 hu]; exact inferP_in (List.getElem_mem n5) i4 ht)⟩ ?_;exact ⟨Dl l.length i (by omega),⟨Zr,Zr,Zr,⟨(show AV.slice (.id 19 1) (D.map encInc++[[sl encTm (inferL x roots D l[i])]])=.slice (.id 19 1) ((D++[t]).map encInc) by rw [etl,List.map_append]; rfl),rfl⟩,Zr,Tv⟩,⟨Zr,⟨(show HO.tok 1 ((D.map encInc).length+([[sl encTm (inferL x roots D l[i])]]:List (List AV)).length)=.tok 1 (D++[t]).length by rw [Lm,List.length_append]; rfl),rfl⟩,Tv⟩,Fh,Tv⟩
   have h6:(inferP x roots D l[i]).isSome=false:=h6;have hc10:=(show PC 38 [ixV x ifs,sl encRq roots,.agg (encNf l[i]),sl encInc D] (.tup [sl encTm (inferL x roots D l[i]),vb (inferP x roots D l[i]).isSome]) from c38 x ifs roots D l[i] e0 hx (fun q hq=>(hr q hq).1) (fun t ht=>(i4 t ht).fewI hU));rw [show (inferP x roots D l[i]).isSome=false from h6] at hc10;refine Xi _ (Yi hc10 ?_);refine Yi (by kernel_rfl) ?_;refine Xi ⟨[(1,sl encRq roots),(2,sl encNf l),(3,.ref 3 0),(8,.slice (.id 19 1) (D.map encInc)),(9,vi i),(10,sl encTm (inferL x roots D l[i])),(11,vb false)],[(3,.cells (Ic x ifs)),(19,.tok 1 D.length)],hfree⟩ (Yi ⟨Z7,Z2,Fh,Tv⟩ ?_)
   have hgt:=go_take n5 i2;rw [show inferP x roots D l[i]=none from Option.not_isSome_iff_eq_none.1 (by rw [h6]; decide)] at hgt;exact derR_no (by rw [deriveP_eq,if_neg (ck_yes h1),if_neg (by omega),go_none hgt])
  have h5:¬ ((i:Int)<((l.map encNf).length:Int)):=h5;have n5:¬ i<l.length:=by have q:=h5; rw [Lm] at q; omega
  rw [List.take_of_length_le (by omega)] at i2;exact .of_eq (show AV.tup [sl encInc D,vi 0]=derR x roots l by unfold derR; rw [deriveP_eq,if_neg (ck_yes h1),if_neg (by omega),i2])
 have h1:(decide (checkIx x=0)&&decide (checkRqs roots=0))=false:=h1;have hc13:=c37 x ifs roots hx hr;rw [show (decide (checkIx x=0)&&decide (checkRqs roots=0))=false from h1] at hc13;refine Xi .pure (Xi _ (Yi hc13 ?_));exact derR_no (by rw [deriveP_eq,if_pos (ck_no h1)])
set_option maxHeartbeats 4000000 in
theorem c16 (x:List Rl) (ifs:List (List AV)) (roots:List Rq) (l:List Nf) (hx:∀ r ∈ x,FewR r) (hr:∀ q ∈ roots,FewQ q):PC 16 [.agg (Ic x ifs),sl encRq roots,sl encNf l] (vi (refutesP x roots l)):=by
 have hdl:=derive_few (x:=x) (roots:=roots) (l:=l);have hdm:((deriveP x roots l).1.map encInc).length≤65536:=by rw [Lm]; exact hdl
 refine Ps ⟨[],[],[],[],[],[],[],[],[],[],[2,5,6]⟩ Tryz.func16 rfl (Nz rfl) ?_;refine Yi (Nz rfl) ?_;refine Xi .pure (Xi _ (Yi (c13 x ifs roots l hx hr) ?_));refine Xi ⟨[(7,sl encInc (deriveP x roots l).1),(8,vi (deriveP x roots l).2)],[],hfree⟩ (Yi ⟨Z2,Tv,Fh,Tv⟩ ?_)
 refine Yi (fun h1=>?_) (fun h1=>?_)
 ·have h1:((deriveP x roots l).2:Int)≠(0:Int):=h1;exact .of_eq (congrArg vi (show (deriveP x roots l).2=refutesP x roots l by unfold refutesP; rw [if_pos h1]))
 have h1:((deriveP x roots l).2:Int)=(0:Int):=Classical.byContradiction h1;refine Yi (fun h3=>?_) (fun h3=>?_)
 ·have h3:(((deriveP x roots l).1.map encInc).length:Int)=(0:Int):=h3;refine Xi ⟨[],[],hfree⟩ (Yi ⟨Tv,Tv,Fh,Tv⟩ ?_)
  have hnil:(deriveP x roots l).1=[]:=List.eq_nil_of_length_eq_zero (by have h9:=h3; rw [Lm] at h9; omega);exact .of_eq (congrArg vi (show (18:Int)=refutesP x roots l by unfold refutesP; rw [if_neg (not_not_intro h1),show refutedB (deriveP x roots l).1=false by rw [hnil]; rfl]; rfl))
 have h3:¬ ((((deriveP x roots l).1.map encInc).length:Int)=(0:Int)):=h3;have hne:(deriveP x roots l).1≠[]:=fun e=>by rw [e] at h3; exact h3 rfl
 refine Exists.elim (show ∃ a t,(deriveP x roots l).1=a++[t] from ⟨_,_,(List.dropLast_concat_getLast hne).symm⟩) (fun a hat=>?_);refine Exists.elim hat (fun t hat=>?_);have hlz:(((deriveP x roots l).1.map encInc).length:Int)=(a.length:Int)+1:=by rw [hat,Lm,List.length_append]; rfl
 have hgz:(deriveP x roots l).1[((((deriveP x roots l).1.map encInc).length:Int) - 1).toNat]?=some t:=by
  rw [hlz,show ((a.length:Int)+1 - 1).toNat=a.length by omega,hat,List.getElem?_append_right (Nat.le_refl _),Nat.sub_self]; rfl
 refine Yi (by show InI64 ((((deriveP x roots l).1.map encInc).length:Int) - (1:Int)); unfold InI64; omega) ?_;refine Xi (encInc t) (Yi (Yi (show (0:Int)≤(((deriveP x roots l).1.map encInc).length:Int) - 1 by omega) (map_at hgz)) (Yi rfl ?_));refine Yi (fun h5=>?_) (fun h5=>?_)
 ·have h5:(0:Int)<((t.map encTm).length:Int):=h5;have n5:0<t.length:=by have q:=h5; rw [Lm] at q; omega
  refine Xi ⟨[],[],hfree⟩ (Yi ⟨Tv,Tv,Fh,Tv⟩ ?_)
  refine Exists.elim (show ∃ u m,t=u :: m by cases t with | nil=>exact absurd h5 (by decide) | cons u m=>exact ⟨u,m,rfl⟩) (fun u hu=>?_);refine Exists.elim hu (fun m hu=>?_);exact .of_eq (congrArg vi (show (18:Int)=refutesP x roots l by unfold refutesP; rw [if_neg (not_not_intro h1),show refutedB (deriveP x roots l).1=false by rw [hat,hu]; unfold refutedB; rw [List.getLast?_append]; rfl]; rfl))
 have h5:¬ ((0:Int)<((t.map encTm).length:Int)):=h5;have n5:¬ 0<t.length:=by have q:=h5; rw [Lm] at q; omega
 refine Xi ⟨[],[],hfree⟩ (Yi ⟨Tv,Tv,Fh,Tv⟩ ?_)
 have htn:t=[]:=List.eq_nil_of_length_eq_zero (by have h9:=h5; rw [Lm] at h9; omega);exact .of_eq (congrArg vi (show (0:Int)=refutesP x roots l by unfold refutesP; rw [if_neg (not_not_intro h1),show refutedB (deriveP x roots l).1=true by rw [hat,htn]; unfold refutedB; rw [List.getLast?_append]; rfl]; rfl))
end Go.Eng

namespace Go.Eng
open Go.Proofs
theorem awp_eq {cx:Cx} {c:Code} {Q:Ex→St→Prop} {s s' : LS} (h:s=s') (hk:awp cx c Q s'.st):awp cx c Q s.st:=by subst h; exact hk
theorem find_eq {x:List Rl} {p:ByteArray} {v:Ver} (h:checkIx x=0):findRl x ⟨p,v⟩=x.find? fun r=>decide (keyR r=⟨p,v⟩):=if_neg (not_not_intro h)
theorem keyR_eq {r:Rl} {p:ByteArray} {v:Ver} : keyR r=⟨p,v⟩↔r.path=p∧r.ver.a=v.a∧r.ver.b=v.b∧r.ver.c=v.c:=by
 unfold keyR;constructor
 ·intro h; cases h; exact ⟨rfl,rfl,rfl,rfl⟩
 ·rintro ⟨rfl,h1,h2,h3⟩
  cases hr:r.ver; cases v
  rw [hr] at h1 h2 h3;cases h1; cases h2; cases h3; rfl
def reqsAt (x:List Rl) (y:Sl):List Rq:=match findRl x y with | some r=>r.reqs | none=>[]
def needsP (x:List Rl) (roots:List Rq) (l:List Sl):List Rq:=roots++(l.map (reqsAt x)).flatten
theorem needsP_nil (x:List Rl) (roots:List Rq):needsP x roots []=roots:=by unfold needsP; simp
theorem needsP_add (x:List Rl) (roots:List Rq) (l:List Sl) (y:Sl):needsP x roots (l++[y])=needsP x roots l++reqsAt x y:=by unfold needsP; simp
theorem needsP_take (x:List Rl) (roots:List Rq) (l:List Sl) {i:Nat} (h:i<l.length):needsP x roots (l.take (i+1))=needsP x roots (l.take i)++reqsAt x l[i]:=by
 rw [List.take_add_one,Ge h]; exact needsP_add ..
theorem reqsAt_len {x:List Rl} (y:Sl):(reqsAt x y).length≤16:=by
 unfold reqsAt;split
 ·rename_i r hr;exact (ix_few (findRl_ok hr).1).2 r (findRl_ok hr).2.1
 ·simp
theorem needsP_len (x:List Rl) (roots:List Rq):∀ l:List Sl,(needsP x roots l).length≤roots.length+16*l.length:=fun l=>by
 unfold needsP;rw [List.length_append]
 have:∀ l:List Sl,((l.map (reqsAt x)).flatten).length≤16*l.length:=fun l=>by
  induction l with
  | nil=>simp
  | cons y l ih =>
   rw [List.map_cons,List.flatten_cons,List.length_append,List.length_cons]
   have:=reqsAt_len (x:=x) y
   omega
 have:=this l
 omega
theorem needsP_few {x:List Rl} {roots:List Rq} (hx:∀ r ∈ x,FewR r) (hr:∀ q ∈ roots,Few q.set) (l:List Sl):∀ q ∈ needsP x roots l,Few q.set:=fun q hq=>by
 unfold needsP at hq;rcases List.mem_append.1 hq with hq | hq
 ·exact hr q hq
 ·obtain ⟨m,hm,hqm⟩:=List.mem_flatten.1 hq;obtain ⟨y,_,rfl⟩:=List.mem_map.1 hm;unfold reqsAt at hqm;split at hqm
  ·rename_i r hr';exact ((hx r (findRl_ok hr').2.1).2 q hqm).1
  ·cases hqm
set_option maxHeartbeats 4000000 in
theorem c83 (x:List Rl) (ifs:List (List AV)) (p:ByteArray) (v:Ver) (hx:∀ r ∈ x,FewR r) (hxl:Few x):PC 83 [.agg (Ic x ifs),vs p,.agg (encVer v)] (optRl (findRl x ⟨p,v⟩)):=by
 have hxl:x.length≤1073741824:=hxl;refine Ps ⟨[],[],[],[],[],[],[],[],[],[],[3,5,7]⟩ Tryz.func83 rfl (Nz rfl) ?_;refine Yi (Nz rfl) ?_;refine Xi .pure (Xi _ (Yi (c67 x ifs hx) ?_));refine Yi (fun h1=>?_) (fun h1=>?_)
 ·have h1:(checkIx x:Int)≠(0:Int):=h1;refine Yi (Nz rfl) ?_;refine Yi (Nz rfl) ?_;exact .of_eq (show AV.tup [.agg zRl,vb false]=optRl (findRl x ⟨p,v⟩) by rw [show findRl x ⟨p,v⟩=none from if_pos h1])
 have h1:(checkIx x:Int)=(0:Int):=Classical.byContradiction h1;refine Xi ⟨[(1,vs p),(3,.ref 3 0),(5,.ref 5 0),(6,.ref 6 0)],[(3,.cells (Ic x ifs)),(5,.cells (encVer v)),(6,.cells [vs ⟨#[]⟩,vi 0,vi 0,vi 0,.v (.slice none 0 0),vs ⟨#[]⟩,vs ⟨#[]⟩,vs ⟨#[]⟩,vb false])],hfree⟩ (Yi ⟨Z4,Z3,Fh,Tv⟩ ?_)
 refine Xi {i:Nat // i≤x.length∧∀ j (h:j<x.length),j<i→decide (keyR x[j]=⟨p,v⟩)=false} (Xi (fun q=>⟨[(1,vs p),(3,.ref 3 0),(5,.ref 5 0),(6,.ref 6 0),(8,vi q.1)],[(3,.cells (Ic x ifs)),(5,.cells (encVer v)),(6,.cells [vs ⟨#[]⟩,vi 0,vi 0,vi 0,.v (.slice none 0 0),vs ⟨#[]⟩,vs ⟨#[]⟩,vs ⟨#[]⟩,vb false])],hfree⟩) (Xi (fun q=>x.length - q.1) (Yi (Xi ⟨0,Nat.zero_le _,fun j _ h=>by omega⟩ ?_) ?_)))
 ·exact ⟨Z5,Z3,Fh,Tv⟩
 intro ⟨i,i1,i2⟩;refine Yi (fun h3=>?_) (fun h3=>?_)
 ·have h3:(i:Int)<((x.map encRl).length:Int):=h3;have n3:i<x.length:=by have q:=h3; rw [Lm] at q; omega
  have g3:x[i]?=some x[i]:=Ge n3;refine Xi (encRl x[i]) (Yi (Yi (Nn i) (map_at g3)) (Yi rfl ?_));refine Yi (fun h4=>?_) (fun h4=>?_)
  ·have h4:(x[i].path:ByteArray)=p:=h4;refine Xi (encRl x[i]) (Yi (Yi (Nn i) (map_at g3)) (Yi rfl ?_));refine Yi (Nz rfl) ?_;refine Yi (Nz rfl) ?_;refine Yi (fun h5=>?_) (fun h5=>?_)
   ·have h5:(x[i].ver.a:Int)=v.a∧(x[i].ver.b:Int)=v.b∧(x[i].ver.c:Int)=v.c∧True:=h5;refine Yi (by kernel_rfl) ?_;refine Xi ⟨[(3,.ref 3 0),(6,.ref 6 0),(8,vi i)],[(3,.cells (Ic x ifs)),(6,.cells [vs ⟨#[]⟩,vi 0,vi 0,vi 0,.v (.slice none 0 0),vs ⟨#[]⟩,vs ⟨#[]⟩,vs ⟨#[]⟩,vb false])],hfree⟩ (Yi ⟨Z3,Z2,Fh,Tv⟩ ?_)
    refine Xi (encRl x[i]) (Yi (Yi (Nn i) (map_at g3)) (Yi rfl ?_));refine Yi (Nz rfl) ?_;refine Yi (Nz rfl) ?_;refine Yi (Nz rfl) ?_;exact .of_eq (show AV.tup [.agg (encRl x[i]),vb true]=optRl (findRl x ⟨p,v⟩) by rw [find_eq h1,find_hit n3 i2 (decide_eq_true (keyR_eq.2 ⟨h4,h5.1,h5.2.1,h5.2.2.1⟩))])
   have h5:¬ ((x[i].ver.a:Int)=v.a∧(x[i].ver.b:Int)=v.b∧(x[i].ver.c:Int)=v.c∧True):=h5;refine Yi (by kernel_rfl) ?_;refine Xi ⟨[(1,vs p),(3,.ref 3 0),(5,.ref 5 0),(6,.ref 6 0),(8,vi i)],[(3,.cells (Ic x ifs)),(5,.cells (encVer v)),(6,.cells [vs ⟨#[]⟩,vi 0,vi 0,vi 0,.v (.slice none 0 0),vs ⟨#[]⟩,vs ⟨#[]⟩,vs ⟨#[]⟩,vb false])],hfree⟩ (Yi ⟨Z5,Z3,Fh,Tv⟩ ?_)
   refine Yi (Ii i (by omega)) ?_;refine Xi ⟨i+1,by omega,fun j hj hji=>(Nat.lt_or_ge j i).elim (i2 j hj) (fun z=>by have e:j=i:=(by omega); subst e; exact decide_eq_false (fun h=>h5 ⟨(keyR_eq.1 h).2.1,(keyR_eq.1 h).2.2.1,(keyR_eq.1 h).2.2.2,trivial⟩))⟩ ?_;exact ⟨Dl x.length i (by omega),Z5,Z3,Fh,Tv⟩
  have h4:¬ (x[i].path:ByteArray)=p:=h4;refine Yi (by kernel_rfl) ?_;refine Xi ⟨[(1,vs p),(3,.ref 3 0),(5,.ref 5 0),(6,.ref 6 0),(8,vi i)],[(3,.cells (Ic x ifs)),(5,.cells (encVer v)),(6,.cells [vs ⟨#[]⟩,vi 0,vi 0,vi 0,.v (.slice none 0 0),vs ⟨#[]⟩,vs ⟨#[]⟩,vs ⟨#[]⟩,vb false])],hfree⟩ (Yi ⟨Z5,Z3,Fh,Tv⟩ ?_)
  refine Yi (Ii i (by omega)) ?_;refine Xi ⟨i+1,by omega,fun j hj hji=>(Nat.lt_or_ge j i).elim (i2 j hj) (fun z=>by have e:j=i:=(by omega); subst e; exact decide_eq_false (fun h=>h4 (keyR_eq.1 h).1))⟩ ?_;exact ⟨Dl x.length i (by omega),Z5,Z3,Fh,Tv⟩
 have h3:¬ ((i:Int)<((x.map encRl).length:Int)):=h3;have n3:¬ i<x.length:=by have q:=h3; rw [Lm] at q; omega
 refine Yi (Nz rfl) ?_;refine Yi (Nz rfl) ?_;exact .of_eq (show AV.tup [.agg zRl,vb false]=optRl (findRl x ⟨p,v⟩) by rw [find_eq h1,find_miss fun j hj=>i2 j hj (by omega)])
set_option maxHeartbeats 4000000 in
theorem c125 (x:List Rl) (ifs:List (List AV)) (roots:List Rq) (s:List Sl) (hx:∀ r ∈ x,FewR r) (hxl:Few x) (hrl:roots.length≤1000000) (hs:s.length≤1000000):PC 125 [.agg (Ic x ifs),sl encRq roots,sl encSl s] (sl encRq (needsP x roots s)):=by
 have c83f:∀ (p:ByteArray) (v:Ver),PC 83 [ixV x ifs,vs p,.agg (encVer v)] (optRl (findRl x ⟨p,v⟩)):=fun p v=>c83 x ifs p v hx hxl;refine Ps ⟨[],[],[],[],[],[],[],[],[],[],[6]⟩ Tryz.func125 rfl (Nz rfl) ?_;have b1:AllLen 2 (roots.map encRq)∧([]:List (List AV)).length=0∧(([]:List (List AV)).length+(roots.map encRq).length)*40≤140737488355328∧([]:List (List AV)).length+(roots.map encRq).length≤9223372036854775807:=⟨(allLen_map (enc:=encRq) (n:=2) (fun _=>rfl) roots),(by simp),(by simp only [Lm,List.length_nil]; omega),(by simp only [Lm,List.length_nil]; omega)⟩;refine Yi b1 ?_;refine Xi {q:Nat × List Rq // q.1≤s.length∧q.2=needsP x roots (s.take q.1)} (Xi (fun q=>⟨[(2,sl encSl s),(3,.ref 3 0),(7,.slice (.id 11 2) (q.1.2.map encRq)),(8,vi q.1.1)],[(3,.cells (Ic x ifs)),(11,.tok 2 q.1.2.length)],hfree⟩) (Xi (fun q=>s.length - q.1.1) (Yi (Xi ⟨(0,roots),Nat.zero_le _,(needsP_nil x roots).symm⟩ ?_) ?_)))
 ·exact ⟨⟨Zr,Zr,⟨(show AV.slice (.id 11 2) ([]++roots.map encRq)=.slice (.id 11 2) (roots.map encRq) by rw [List.nil_append]),rfl⟩,Zr,Tv⟩,⟨Zr,⟨(show HO.tok 2 (([]:List (List AV)).length+(roots.map encRq).length)=.tok 2 roots.length by rw [Lm,List.length_nil,Nat.zero_add]),rfl⟩,Tv⟩,Fh,Tv⟩
 intro ⟨⟨i,A⟩,i1,i2⟩;have i1:i≤s.length:=i1;have i2:A=needsP x roots (s.take i):=i2;have hA:A.length≤roots.length+16*i:=by
  have:=needsP_len x roots (s.take i)
  rw [List.length_take] at this; rw [i2]; omega
 refine Yi (fun h2=>?_) (fun h2=>?_)
 ·have h2:(i:Int)<((s.map encSl).length:Int):=h2;have n2:i<s.length:=by have q:=h2; rw [Lm] at q; omega
  have g2:s[i]?=some s[i]:=Ge n2;refine Yi (Nz rfl) ?_;refine Xi (encSl s[i]) (Yi (Yi (Nn i) (map_at g2)) (Yi rfl ?_));refine Xi (encSl s[i]) (Yi (Yi (Nn i) (map_at g2)) (Yi rfl ?_));refine Yi (Nz rfl) ?_;refine Or.elim (opt_cases (findRl x ⟨s[i].path,s[i].ver⟩)) (fun h3=>?_) (fun h3=>?_)
  ·refine Exists.elim h3 (fun r h3=>?_);have hc3:=c83f s[i].path s[i].ver;rw [h3] at hc3;have hrq:=reqsAt_len (x:=x) s[i];rw [show reqsAt x s[i]=r.reqs by unfold reqsAt; rw [show findRl x s[i]=some r from h3]] at hrq;refine Xi _ (Yi hc3 ?_);refine Yi (Nz rfl) ?_;refine Yi (by kernel_rfl) ?_;refine Xi ⟨[(2,sl encSl s),(3,.ref 3 0),(7,.slice (.id 11 2) (A.map encRq)),(8,vi i),(9,.ref 9 0)],[(3,.cells (Ic x ifs)),(9,.cells (encRl r)),(11,.tok 2 A.length)],hfree⟩ (Yi ⟨Z5,Z3,Fh,Tv⟩ ?_)
   have b4:AllLen 2 (r.reqs.map encRq)∧(A.map encRq).length=A.length∧((A.map encRq).length+(r.reqs.map encRq).length)*40≤140737488355328∧(A.map encRq).length+(r.reqs.map encRq).length≤9223372036854775807:=⟨(allLen_map (enc:=encRq) (n:=2) (fun _=>rfl) r.reqs),(by simp),(by simp only [Lm]; omega),(by simp only [Lm]; omega)⟩;refine Yi b4 ?_;refine Yi (Ii i (by omega)) ?_;refine Xi ⟨(i+1,A++r.reqs),by omega,by show A++r.reqs=needsP x roots (s.take (i+1)); rw [needsP_take x roots s n2,← i2,show reqsAt x s[i]=r.reqs by unfold reqsAt; rw [show findRl x s[i]=some r from h3]]⟩ ?_;exact ⟨Dl s.length i (by omega),⟨Zr,Zr,⟨(show AV.slice (.id 11 2) (A.map encRq++r.reqs.map encRq)=.slice (.id 11 2) ((A++r.reqs).map encRq) by simp),rfl⟩,Zr,Tv⟩,⟨Zr,⟨(show HO.tok 2 ((A.map encRq).length+(r.reqs.map encRq:List (List AV)).length)=.tok 2 (A++r.reqs).length by simp),rfl⟩,Tv⟩,Fh,Tv⟩
  have hc3:=c83f s[i].path s[i].ver;rw [h3] at hc3;refine Xi _ (Yi hc3 ?_);refine Yi (Nz rfl) ?_;refine Yi (by kernel_rfl) ?_;refine Xi ⟨[(2,sl encSl s),(3,.ref 3 0),(7,.slice (.id 11 2) (A.map encRq)),(8,vi i),(9,.ref 9 0)],[(3,.cells (Ic x ifs)),(9,.cells [vs ⟨#[]⟩,vi 0,vi 0,vi 0,.v (.slice none 0 0),vs ⟨#[]⟩,vs ⟨#[]⟩,vs ⟨#[]⟩,vb false]),(11,.tok 2 A.length)],hfree⟩ (Yi ⟨Z5,Z3,Fh,Tv⟩ ?_)
  have b6:AllLen 2 []∧(A.map encRq).length=A.length∧((A.map encRq).length+([]:List (List AV)).length)*40≤140737488355328∧(A.map encRq).length+([]:List (List AV)).length≤9223372036854775807:=⟨trivial,(by simp),(by simp only [Lm,List.length_nil]; omega),(by simp only [Lm,List.length_nil]; omega)⟩;refine Yi b6 ?_;refine Yi (Ii i (by omega)) ?_;refine Xi ⟨(i+1,A++([]:List Rq)),by omega,by show A++([]:List Rq)=needsP x roots (s.take (i+1)); rw [needsP_take x roots s n2,← i2,show reqsAt x s[i]=([]:List Rq) by unfold reqsAt; rw [show findRl x s[i]=none from h3]]⟩ ?_;exact ⟨Dl s.length i (by omega),⟨Zr,Zr,⟨(show AV.slice (.id 11 2) (A.map encRq++[])=.slice (.id 11 2) ((A++([]:List Rq)).map encRq) by simp),rfl⟩,Zr,Tv⟩,⟨Zr,⟨(show HO.tok 2 ((A.map encRq).length+([]:List (List AV)).length)=.tok 2 (A++([]:List Rq)).length by simp),rfl⟩,Tv⟩,Fh,Tv⟩
 have h2:¬ ((i:Int)<((s.map encSl).length:Int)):=h2;have n2:¬ i<s.length:=by have q:=h2; rw [Lm] at q; omega
 exact .of_eq (congrArg (sl encRq) (show A=needsP x roots s by rw [i2,List.take_of_length_le (by omega)]))
theorem has_find (s:List Sl) (p:ByteArray):hasPath s p=(findSl s p).isSome:=by unfold hasPath findSl; rw [List.isSome_find?]
section
variable {s:List Sl} {q:Rq} {o:Option ByteArray}
theorem next_old (h:(findSl s q.path).isSome=true):nextStep s o q=o:=by unfold nextStep; rw [has_find,if_pos h]
theorem next_new (h:(findSl s q.path).isSome=false) (ho:o.isSome=false):nextStep s o q=some q.path:=by
 unfold nextStep; rw [has_find,if_neg (by rw [h]; decide)];cases o with | none=>rfl | some p=>cases ho
theorem next_less (h:(findSl s q.path).isSome=false) (ho:o.isSome=true) (hb:blt q.path (o.getD mt)=true):nextStep s o q=some q.path:=by
 unfold nextStep; rw [has_find,if_neg (by rw [h]; decide)];cases o with | none=>cases ho | some p=>exact if_pos hb
theorem next_more (h:(findSl s q.path).isSome=false) (ho:o.isSome=true) (hb:blt q.path (o.getD mt)=false):nextStep s o q=o:=by
 unfold nextStep; rw [has_find,if_neg (by rw [h]; decide)];cases o with | none=>cases ho | some p=>exact if_neg (by rw [show blt q.path p=false from hb]; decide)
end
abbrev nextR (N:List Rq) (s:List Sl):AV:=.tup [vs ((nextP N s).getD mt),vb (nextP N s).isSome]
set_option maxHeartbeats 4000000 in
theorem c81 (x:List Rl) (ifs:List (List AV)) (roots:List Rq) (s:List Sl) (hx:∀ r ∈ x,FewR r) (hxl:Few x) (hrl:roots.length≤1000000) (hs:s.length≤1000000):PC 81 [.agg (Ic x ifs),sl encRq roots,sl encSl s] (nextR (needsP x roots s) s):=by
 obtain ⟨N,hN⟩ : ∃ N,N=needsP x roots s:=⟨_,rfl⟩;have h125:=c125 x ifs roots s hx hxl hrl hs;have hNl:=needsP_len x roots s;rw [← hN] at h125 hNl ⊢;have hsf:Few s:=by unfold Few; omega
 refine Ps ⟨[],[],[],[],[],[],[],[],[],[],[2,5,7,8]⟩ Tryz.func81 rfl (Nz rfl) ?_;refine Yi (Nz rfl) ?_;refine Xi .pure (Xi _ (Yi h125 ?_));refine Xi ⟨[(2,sl encSl s),(8,sl encRq N)],[],hfree⟩ (Yi ⟨Z2,Tv,Fh,Tv⟩ ?_)
 refine Xi {q:Nat × Option ByteArray // q.1≤N.length∧q.2=nextGo s (N.take q.1) none} (Xi (fun q=>⟨[(2,sl encSl s),(8,sl encRq N),(9,vs (q.1.2.getD mt)),(10,vb q.1.2.isSome),(11,vi q.1.1)],[],hfree⟩) (Xi (fun q=>N.length - q.1.1) (Yi (Xi ⟨(0,none),Nat.zero_le _,rfl⟩ ?_) ?_)))
 ·exact ⟨Z5,Tv,Fh,Tv⟩
 intro ⟨⟨i,o⟩,i1,i2⟩;have i1:i≤N.length:=i1;have i2:o=nextGo s (N.take i) none:=i2;refine Or.elim (Bt o.isSome) (fun h1=>?_) (fun h1=>?_)
 ·have h1:o.isSome=true:=h1;refine awp_eq (congrArg (fun bb=>(⟨[(2,sl encSl s),(8,sl encRq N),(9,vs (o.getD mt)),(10,vb bb),(11,vi i)],[],hfree⟩ : LS)) h1) ?_;refine Yi (fun h2=>?_) (fun h2=>?_)
  ·have h2:(i:Int)<((N.map encRq).length:Int):=h2;have n2:i<N.length:=by have q:=h2; rw [Lm] at q; omega
   have g2:N[i]?=some N[i]:=Ge n2;refine Xi (encRq N[i]) (Yi (Yi (Nn i) (map_at g2)) (Yi rfl ?_));refine Or.elim (Bt (findSl s N[i].path).isSome) (fun h3=>?_) (fun h3=>?_)
   ·have h3:(findSl s N[i].path).isSome=true:=h3;have hc4:=(show PC 82 [sl encSl s,vs N[i].path] (.tup [.agg (encSl ((findSl s N[i].path).getD sl0)),vb (findSl s N[i].path).isSome]) from c82 s N[i].path hsf);rw [show (findSl s N[i].path).isSome=true from h3] at hc4;refine Xi .pure (Xi _ (Yi hc4 ?_));refine Yi (Nz rfl) ?_;refine Xi ⟨[(2,sl encSl s),(8,sl encRq N),(9,vs (o.getD mt)),(10,vb true),(11,vi i),(13,vb true)],[],hfree⟩ (Yi ⟨Z6,Tv,Fh,Tv⟩ ?_)
    refine Xi ⟨[(2,sl encSl s),(8,sl encRq N),(9,vs (o.getD mt)),(10,vb true),(11,vi i)],[],hfree⟩ (Yi ⟨Z5,Tv,Fh,Tv⟩ ?_)
    refine Yi (Ii i (by omega)) ?_;refine Xi ⟨(i+1,o),by omega,by show o=nextGo s (N.take (i+1)) none; rw [nextGo_take s N none n2,← i2]; exact (next_old h3).symm⟩ ?_;exact ⟨Dl N.length i (by omega),⟨Zr,Zr,Zr,⟨(show vb true=vb o.isSome by rw [h1]),rfl⟩,Zr,Tv⟩,Tv,Fh,Tv⟩
   have h3:(findSl s N[i].path).isSome=false:=h3;have hc6:=(show PC 82 [sl encSl s,vs N[i].path] (.tup [.agg (encSl ((findSl s N[i].path).getD sl0)),vb (findSl s N[i].path).isSome]) from c82 s N[i].path hsf);rw [show (findSl s N[i].path).isSome=false from h3] at hc6;refine Xi .pure (Xi _ (Yi hc6 ?_));refine Yi (Nz rfl) ?_;refine Xi ⟨[(2,sl encSl s),(8,sl encRq N),(9,vs (o.getD mt)),(10,vb true),(11,vi i),(13,vb false)],[],hfree⟩ (Yi ⟨Z6,Tv,Fh,Tv⟩ ?_)
   refine Xi (encRq N[i]) (Yi (Yi (Nn i) (map_at g2)) (Yi rfl ?_));refine Yi (fun h7=>?_) (fun h7=>?_)
   ·have h7:blt N[i].path (o.getD mt)=true:=(blt_eq _ _).trans h7;refine Xi ⟨[(2,sl encSl s),(8,sl encRq N),(11,vi i)],[],hfree⟩ (Yi ⟨Z3,Tv,Fh,Tv⟩ ?_)
    refine Xi (encRq N[i]) (Yi (Yi (Nn i) (map_at g2)) (Yi rfl ?_));refine Xi ⟨[(2,sl encSl s),(8,sl encRq N),(9,vs N[i].path),(10,vb true),(11,vi i)],[],hfree⟩ (Yi ⟨Z5,Tv,Fh,Tv⟩ ?_)
    refine Yi (Ii i (by omega)) ?_;refine Xi ⟨(i+1,(some N[i].path)),by omega,by show (some N[i].path)=nextGo s (N.take (i+1)) none; rw [nextGo_take s N none n2,← i2]; exact (next_less h3 h1 h7).symm⟩ ?_;exact ⟨Dl N.length i (by omega),Z5,Tv,Fh,Tv⟩
   have h7:blt N[i].path (o.getD mt)=false:=(blt_eq _ _).trans (Bool.eq_false_iff.2 h7);refine Xi ⟨[(2,sl encSl s),(8,sl encRq N),(9,vs (o.getD mt)),(10,vb true),(11,vi i)],[],hfree⟩ (Yi ⟨Z5,Tv,Fh,Tv⟩ ?_)
   refine Yi (Ii i (by omega)) ?_;refine Xi ⟨(i+1,o),by omega,by show o=nextGo s (N.take (i+1)) none; rw [nextGo_take s N none n2,← i2]; exact (next_more h3 h1 h7).symm⟩ ?_;exact ⟨Dl N.length i (by omega),⟨Zr,Zr,Zr,⟨(show vb true=vb o.isSome by rw [h1]),rfl⟩,Zr,Tv⟩,Tv,Fh,Tv⟩
  have h2:¬ ((i:Int)<((N.map encRq).length:Int)):=h2;have n2:¬ i<N.length:=by have q:=h2; rw [Lm] at q; omega
  exact .of_eq (show AV.tup [vs (o.getD mt),vb true]=nextR N s by unfold nextR nextP; rw [List.take_of_length_le (by omega)] at i2; rw [← i2,h1])
 have h1:o.isSome=false:=h1;refine awp_eq (congrArg (fun bb=>(⟨[(2,sl encSl s),(8,sl encRq N),(9,vs (o.getD mt)),(10,vb bb),(11,vi i)],[],hfree⟩ : LS)) h1) ?_;refine Yi (fun h11=>?_) (fun h11=>?_)
 ·have h11:(i:Int)<((N.map encRq).length:Int):=h11;have n11:i<N.length:=by have q:=h11; rw [Lm] at q; omega
  have g11:N[i]?=some N[i]:=Ge n11;refine Xi (encRq N[i]) (Yi (Yi (Nn i) (map_at g11)) (Yi rfl ?_));refine Or.elim (Bt (findSl s N[i].path).isSome) (fun h12=>?_) (fun h12=>?_)
  ·have h12:(findSl s N[i].path).isSome=true:=h12;have hc13:=(show PC 82 [sl encSl s,vs N[i].path] (.tup [.agg (encSl ((findSl s N[i].path).getD sl0)),vb (findSl s N[i].path).isSome]) from c82 s N[i].path hsf);rw [show (findSl s N[i].path).isSome=true from h12] at hc13;refine Xi .pure (Xi _ (Yi hc13 ?_));refine Yi (Nz rfl) ?_;refine Xi ⟨[(2,sl encSl s),(8,sl encRq N),(9,vs (o.getD mt)),(10,vb false),(11,vi i),(13,vb true)],[],hfree⟩ (Yi ⟨Z6,Tv,Fh,Tv⟩ ?_)
   refine Xi ⟨[(2,sl encSl s),(8,sl encRq N),(9,vs (o.getD mt)),(10,vb false),(11,vi i)],[],hfree⟩ (Yi ⟨Z5,Tv,Fh,Tv⟩ ?_)
   refine Yi (Ii i (by omega)) ?_;refine Xi ⟨(i+1,o),by omega,by show o=nextGo s (N.take (i+1)) none; rw [nextGo_take s N none n11,← i2]; exact (next_old h12).symm⟩ ?_;exact ⟨Dl N.length i (by omega),⟨Zr,Zr,Zr,⟨(show vb false=vb o.isSome by rw [h1]),rfl⟩,Zr,Tv⟩,Tv,Fh,Tv⟩
  have h12:(findSl s N[i].path).isSome=false:=h12;have hc15:=(show PC 82 [sl encSl s,vs N[i].path] (.tup [.agg (encSl ((findSl s N[i].path).getD sl0)),vb (findSl s N[i].path).isSome]) from c82 s N[i].path hsf);rw [show (findSl s N[i].path).isSome=false from h12] at hc15;refine Xi .pure (Xi _ (Yi hc15 ?_));refine Yi (Nz rfl) ?_;refine Xi ⟨[(2,sl encSl s),(8,sl encRq N),(9,vs (o.getD mt)),(10,vb false),(11,vi i),(13,vb false)],[],hfree⟩ (Yi ⟨Z6,Tv,Fh,Tv⟩ ?_)
  refine Xi ⟨[(2,sl encSl s),(8,sl encRq N),(11,vi i)],[],hfree⟩ (Yi ⟨Z3,Tv,Fh,Tv⟩ ?_)
  refine Xi (encRq N[i]) (Yi (Yi (Nn i) (map_at g11)) (Yi rfl ?_));refine Xi ⟨[(2,sl encSl s),(8,sl encRq N),(9,vs N[i].path),(10,vb true),(11,vi i)],[],hfree⟩ (Yi ⟨Z5,Tv,Fh,Tv⟩ ?_)
  refine Yi (Ii i (by omega)) ?_;refine Xi ⟨(i+1,(some N[i].path)),by omega,by show (some N[i].path)=nextGo s (N.take (i+1)) none; rw [nextGo_take s N none n11,← i2]; exact (next_new h12 h1).symm⟩ ?_;exact ⟨Dl N.length i (by omega),Z5,Tv,Fh,Tv⟩
 have h11:¬ ((i:Int)<((N.map encRq).length:Int)):=h11;have n11:¬ i<N.length:=by have q:=h11; rw [Lm] at q; omega
 exact .of_eq (show AV.tup [vs (o.getD mt),vb false]=nextR N s by unfold nextR nextP; rw [List.take_of_length_le (by omega)] at i2; rw [← i2,h1])
end Go.Eng

namespace Go.Eng
open Go.Proofs
abbrev dstep (l:List Sl) (v:Vis):List Sl:=l++[keyR v.rel]
theorem fold_dstep:∀ (vs:List Vis) (l:List Sl),vs.foldl dstep l=l++vs.map keyVi
 | [],l=>by simp
 | v :: vs,l=>by rw [List.foldl_cons,fold_dstep vs]; simp
abbrev DD (x:List Rl) (roots:List Rq) (s A:List Sl) (n:Nat):Prop:=DI x roots s dstep [] A (needsP x roots A) n A
def decideR (x:List Rl) (roots:List Rq) (s:List Sl):List Sl × Int :=
 if checkIx x≠0∨checkRqs roots≠0∨increasing s=false then ([],1) else if (visits x roots s).2 then ((visits x roots s).1.map keyVi,0) else ([],6)
abbrev decR (x:List Rl) (roots:List Rq) (s:List Sl):AV:=.tup [sl encSl (decideR x roots s).1,vi (decideR x roots s).2]
section
variable {x:List Rl} {roots:List Rq} {s A:List Sl} {m:Nat}
theorem DD.start (hq:∀ q ∈ roots,Few q.set):DD x roots s [] (s.length+1):=by
 unfold DD; rw [needsP_nil]; exact DI.start hq []
theorem DD.next {p:ByteArray} {y:Sl} {r:Rl} (h:DD x roots s A (m+1)) (hp:nextP (needsP x roots A) A=some p) (hf:findSl s p=some y) (hr:findRl x y=some r) (hx:∀ r ∈ x,FewR r):DD x roots s (A++[y]) m:=by
 have h1:=DI.next h hp hf hr ((ix_few (findRl_ok hr).1).2 r (findRl_ok hr).2.1) (fun q hq=>((hx r (findRl_ok hr).2.1).2 q hq).1)
 have e:reqsAt x y=r.reqs:=by unfold reqsAt; rw [hr]
 rw [← e,← needsP_add] at h1;have e2:dstep A ⟨A,needsP x roots A,r⟩=A++[y]:=by show A++[keyR r]=_; rw [(findRl_ok hr).2.2]
 rw [e2] at h1;exact h1
theorem dec_stop (h:DD x roots s A (m+1)) (hc:¬ (checkIx x≠0∨checkRqs roots≠0∨increasing s=false)) (hp:nextP (needsP x roots A) A=none):decideR x roots s=(A,0):=by
 obtain ⟨h1,h2⟩:=DI.stop h hp;rw [fold_dstep,List.nil_append] at h2;unfold decideR; rw [if_neg hc,if_pos h1,h2]
theorem dec_bad {b:Bool} (hc:¬ (checkIx x≠0∨checkRqs roots≠0∨increasing s=false)) (hb:(visits x roots s).2=b) (e:b=false):decideR x roots s=([],6):=by
 unfold decideR; rw [if_neg hc,if_neg (by rw [hb,e]; decide)]
theorem decR_no {e:Int} (h:decideR x roots s=([],e)):Sub (.tup [.v (.slice none 0 0),vi e]) (decR x roots s) :=
 (show Sub (.tup [.v (.slice none 0 0),vi e]) (.tup [.slice .none [],vi e]) from Sub.tup ⟨.nil,.refl _,trivial⟩).trans (.of_eq (show AV.tup [.slice .none [],vi e]=decR x roots s by unfold decR; rw [h]; rfl))
theorem ck_bad (h:(decide (checkIx x=0)&&decide (checkRqs roots=0))=false):checkIx x≠0∨checkRqs roots≠0∨increasing s=false:=(ck_no h).elim .inl (fun h=>.inr (.inl h))
theorem ck_good (h:(decide (checkIx x=0)&&decide (checkRqs roots=0))=true) (hi:increasing s=true):¬ (checkIx x≠0∨checkRqs roots≠0∨increasing s=false):=by
 have:=ck_yes0 h; rw [hi]; rintro (h | h | h)
 ·exact h this.1
 ·exact h this.2
 ·cases h
end
theorem get_some {s:List Sl} {p:ByteArray} (h:(findSl s p).isSome=true):findSl s p=some ((findSl s p).getD sl0):=by
 cases e:findSl s p with
 | none=>rw [e] at h; cases h
 | some y=>rfl
set_option maxHeartbeats 4000000 in
theorem c44 (x:List Rl) (ifs:List (List AV)) (roots:List Rq) (s:List Sl) (hx:∀ r ∈ x,FewR r) (hxl:Few x) (hr:∀ q ∈ roots,FewQ q) (hrl:roots.length≤1000000) (hs:s.length≤100000):PC 44 [.agg (Ic x ifs),sl encRq roots,sl encSl s] (decR x roots s):=by
 have c83f:∀ (p:ByteArray) (v:Ver),PC 83 [ixV x ifs,vs p,.agg (encVer v)] (optRl (findRl x ⟨p,v⟩)):=fun p v=>c83 x ifs p v hx hxl;have hsf:Few s:=by unfold Few; omega
 have hrq:∀ q ∈ roots,Few q.set:=fun q hq=>(hr q hq).1;refine Ps ⟨[],[],[],[],[],[],[],[],[],[],[2,3,5,8,9,11]⟩ Tryz.func44 rfl (Nz rfl) ?_;refine Yi (Nz rfl) ?_;refine Or.elim (Bt (decide (checkIx x=0)&&decide (checkRqs roots=0))) (fun h1=>?_) (fun h1=>?_)
 ·have h1:(decide (checkIx x=0)&&decide (checkRqs roots=0))=true:=h1;have hc2:=(c37 x ifs roots hx hr);rw [show (decide (checkIx x=0)&&decide (checkRqs roots=0))=true from h1] at hc2;refine Xi .pure (Xi _ (Yi hc2 ?_));refine Or.elim (Bt (increasing s)) (fun h3=>?_) (fun h3=>?_)
  ·have h3:(increasing s)=true:=h3;have hc4:=(c80 s hsf);rw [show increasing s=true from h3] at hc4;refine Xi .pure (Xi _ (Yi hc4 ?_));refine Xi ⟨[(1,sl encRq roots),(2,sl encSl s),(3,.ref 3 0)],[(3,.cells (Ic x ifs))],hfree⟩ (Yi ⟨Z3,Z1,Fh,Tv⟩ ?_)
   refine Xi {q:List Sl × Nat // DD x roots s q.1 q.2} (Xi (fun q=>⟨[(1,sl encRq roots),(2,sl encSl s),(3,.ref 3 0),(8,.slice (.id 24 4) (q.1.1.map encSl))],[(3,.cells (Ic x ifs)),(24,.tok 4 q.1.1.length)],hfree⟩) (Xi (fun q=>q.1.2) (Yi (Xi ⟨([],s.length+1),DD.start hrq⟩ ?_) ?_)))
   ·exact ⟨Z4,Z2,Fh,Tv⟩
   intro ⟨⟨A,n⟩,dd⟩;have dd:DD x roots s A n:=dd;obtain ⟨m,rfl⟩:=dd.pos;have hAl:=dd.lt;refine Yi (Nz rfl) ?_;refine Or.elim (Bt (nextP (needsP x roots A) A).isSome) (fun h5=>?_) (fun h5=>?_)
   ·have h5:(nextP (needsP x roots A) A).isSome=true:=h5;refine Exists.elim (Option.isSome_iff_exists.1 h5) (fun p hp=>?_);have hpd:p=((nextP (needsP x roots A) A).getD mt):=by rw [hp]; rfl
    have hc6:=(show PC 81 [ixV x ifs,sl encRq roots,sl encSl A] (.tup [vs ((nextP (needsP x roots A) A).getD mt),vb (nextP (needsP x roots A) A).isSome]) from c81 x ifs roots A hx hxl hrl (by omega));rw [show (nextP (needsP x roots A) A).isSome=true from h5] at hc6;refine Xi .pure (Xi _ (Yi hc6 ?_));refine Xi ⟨[(1,sl encRq roots),(2,sl encSl s),(3,.ref 3 0),(8,.slice (.id 24 4) (A.map encSl)),(9,vs ((nextP (needsP x roots A) A).getD mt)),(10,vb true)],[(3,.cells (Ic x ifs)),(24,.tok 4 A.length)],hfree⟩ (Yi ⟨Z6,Z2,Fh,Tv⟩ ?_)
    refine Or.elim (Bt (findSl s p).isSome) (fun h7=>?_) (fun h7=>?_)
    ·have h7:(findSl s p).isSome=true:=h7;have hc8:=(show PC 82 [sl encSl s,vs ((nextP (needsP x roots A) A).getD mt)] (.tup [.agg (encSl ((findSl s p).getD sl0)),vb (findSl s p).isSome]) from hpd▸c82 s p hsf);rw [show (findSl s p).isSome=true from h7] at hc8;refine Xi .pure (Xi _ (Yi hc8 ?_));refine Yi (Nz rfl) ?_;refine Xi ⟨[(1,sl encRq roots),(2,sl encSl s),(3,.ref 3 0),(8,.slice (.id 24 4) (A.map encSl)),(11,.ref 11 0),(12,vb true)],[(3,.cells (Ic x ifs)),(11,.cells (encSl ((findSl s p).getD sl0))),(24,.tok 4 A.length)],hfree⟩ (Yi ⟨Z6,Z3,Fh,Tv⟩ ?_)
     refine Yi (Nz rfl) ?_;refine Yi (Nz rfl) ?_;refine Or.elim (opt_cases (findRl x ⟨((findSl s p).getD sl0).path,((findSl s p).getD sl0).ver⟩)) (fun h9=>?_) (fun h9=>?_)
     ·refine Exists.elim h9 (fun r h9=>?_);have hc9:=c83f ((findSl s p).getD sl0).path ((findSl s p).getD sl0).ver;rw [h9] at hc9;refine Xi .pure (Xi _ (Yi hc9 ?_));refine Yi (Nz rfl) ?_;refine Xi ⟨[(1,sl encRq roots),(2,sl encSl s),(3,.ref 3 0),(8,.slice (.id 24 4) (A.map encSl)),(11,.ref 11 0),(12,vb true),(14,vb true)],[(3,.cells (Ic x ifs)),(11,.cells (encSl ((findSl s p).getD sl0))),(24,.tok 4 A.length)],hfree⟩ (Yi ⟨Z7,Z3,Fh,Tv⟩ ?_)
      refine Xi ⟨[(1,sl encRq roots),(2,sl encSl s),(3,.ref 3 0),(8,.slice (.id 24 4) (A.map encSl)),(11,.ref 11 0)],[(3,.cells (Ic x ifs)),(11,.cells (encSl ((findSl s p).getD sl0))),(24,.tok 4 A.length)],hfree⟩ (Yi ⟨Z5,Z3,Fh,Tv⟩ ?_)
      refine Yi (Nz rfl) ?_;have b10:AllLen 4 [(encSl ((findSl s p).getD sl0))]∧(A.map encSl).length=A.length∧((A.map encSl).length+([(encSl ((findSl s p).getD sl0))]:List (List AV)).length)*40≤140737488355328∧(A.map encSl).length+([(encSl ((findSl s p).getD sl0))]:List (List AV)).length≤9223372036854775807:=⟨⟨rfl,trivial⟩,(by simp),(by simp only [Lm,List.length_cons,List.length_nil]; omega),(by simp only [Lm,List.length_cons,List.length_nil]; omega)⟩;refine Yi b10 ?_;refine Xi ⟨(A++[((findSl s p).getD sl0)],m),dd.next hp (get_some h7) h9 hx⟩ ?_
      exact ⟨by show m<m+1; omega,⟨Zr,Zr,Zr,⟨(show AV.slice (.id 24 4) (A.map encSl++[encSl ((findSl s p).getD sl0)])=.slice (.id 24 4) ((A++[((findSl s p).getD sl0)]).map encSl) by simp),rfl⟩,Tv⟩,⟨Zr,⟨(show HO.tok 4 ((A.map encSl).length+([encSl ((findSl s p).getD sl0)]:List (List AV)).length)=.tok 4 (A++[((findSl s p).getD sl0)]).length by simp),rfl⟩,Tv⟩,Fh,Tv⟩
     have hc9:=c83f ((findSl s p).getD sl0).path ((findSl s p).getD sl0).ver;rw [h9] at hc9;refine Xi .pure (Xi _ (Yi hc9 ?_));refine Yi (Nz rfl) ?_;refine Xi ⟨[(1,sl encRq roots),(2,sl encSl s),(3,.ref 3 0),(8,.slice (.id 24 4) (A.map encSl)),(11,.ref 11 0),(12,vb true),(14,vb false)],[(3,.cells (Ic x ifs)),(11,.cells (encSl ((findSl s p).getD sl0))),(24,.tok 4 A.length)],hfree⟩ (Yi ⟨Z7,Z3,Fh,Tv⟩ ?_)
     exact decR_no (dec_bad (ck_good h1 h3) (dd.gone hp (get_some h7) h9).1 rfl)
    have h7:(findSl s p).isSome=false:=h7;have hc13:=(show PC 82 [sl encSl s,vs ((nextP (needsP x roots A) A).getD mt)] (.tup [.agg (encSl ((findSl s p).getD sl0)),vb (findSl s p).isSome]) from hpd▸c82 s p hsf);rw [show (findSl s p).isSome=false from h7] at hc13;refine Xi .pure (Xi _ (Yi hc13 ?_));refine Yi (Nz rfl) ?_;refine Xi ⟨[(1,sl encRq roots),(2,sl encSl s),(3,.ref 3 0),(8,.slice (.id 24 4) (A.map encSl)),(11,.ref 11 0),(12,vb false)],[(3,.cells (Ic x ifs)),(11,.cells (encSl ((findSl s p).getD sl0))),(24,.tok 4 A.length)],hfree⟩ (Yi ⟨Z6,Z3,Fh,Tv⟩ ?_)
    refine Yi (Nz rfl) ?_;refine Yi (Nz rfl) ?_;refine Or.elim (opt_cases (findRl x ⟨((findSl s p).getD sl0).path,((findSl s p).getD sl0).ver⟩)) (fun h14=>?_) (fun h14=>?_)
    ·refine Exists.elim h14 (fun r h14=>?_);have hc14:=c83f ((findSl s p).getD sl0).path ((findSl s p).getD sl0).ver;rw [h14] at hc14;refine Xi .pure (Xi _ (Yi hc14 ?_));refine Yi (Nz rfl) ?_;refine Xi ⟨[(1,sl encRq roots),(2,sl encSl s),(3,.ref 3 0),(8,.slice (.id 24 4) (A.map encSl)),(11,.ref 11 0),(12,vb false),(14,vb true)],[(3,.cells (Ic x ifs)),(11,.cells (encSl ((findSl s p).getD sl0))),(24,.tok 4 A.length)],hfree⟩ (Yi ⟨Z7,Z3,Fh,Tv⟩ ?_)
     exact decR_no (dec_bad (ck_good h1 h3) (dd.lost hp (by simpa using h7)).1 rfl)
    have hc14:=c83f ((findSl s p).getD sl0).path ((findSl s p).getD sl0).ver;rw [h14] at hc14;refine Xi .pure (Xi _ (Yi hc14 ?_));refine Yi (Nz rfl) ?_;refine Xi ⟨[(1,sl encRq roots),(2,sl encSl s),(3,.ref 3 0),(8,.slice (.id 24 4) (A.map encSl)),(11,.ref 11 0),(12,vb false),(14,vb false)],[(3,.cells (Ic x ifs)),(11,.cells (encSl ((findSl s p).getD sl0))),(24,.tok 4 A.length)],hfree⟩ (Yi ⟨Z7,Z3,Fh,Tv⟩ ?_)
    exact decR_no (dec_bad (ck_good h1 h3) (dd.lost hp (by simpa using h7)).1 rfl)
   have h5:(nextP (needsP x roots A) A).isSome=false:=h5;have hc17:=(show PC 81 [ixV x ifs,sl encRq roots,sl encSl A] (.tup [vs ((nextP (needsP x roots A) A).getD mt),vb (nextP (needsP x roots A) A).isSome]) from c81 x ifs roots A hx hxl hrl (by omega));rw [show (nextP (needsP x roots A) A).isSome=false from h5] at hc17;refine Xi .pure (Xi _ (Yi hc17 ?_));refine Xi ⟨[(1,sl encRq roots),(2,sl encSl s),(3,.ref 3 0),(8,.slice (.id 24 4) (A.map encSl)),(9,vs ((nextP (needsP x roots A) A).getD mt)),(10,vb false)],[(3,.cells (Ic x ifs)),(24,.tok 4 A.length)],hfree⟩ (Yi ⟨Z6,Z2,Fh,Tv⟩ ?_)
   exact .of_eq (show AV.tup [sl encSl A,vi 0]=decR x roots s by unfold decR; rw [dec_stop dd (ck_good h1 h3) (by simpa using h5)])
  have h3:(increasing s)=false:=h3;have hc19:=(c80 s hsf);rw [show increasing s=false from h3] at hc19;refine Xi .pure (Xi _ (Yi hc19 ?_));refine Xi ⟨[],[],hfree⟩ (Yi ⟨Tv,Tv,Fh,Tv⟩ ?_)
  exact decR_no (by unfold decideR; rw [if_pos (.inr (.inr h3))])
 have h1:(decide (checkIx x=0)&&decide (checkRqs roots=0))=false:=h1;have hc21:=(c37 x ifs roots hx hr);rw [show (decide (checkIx x=0)&&decide (checkRqs roots=0))=false from h1] at hc21;refine Xi .pure (Xi _ (Yi hc21 ?_));refine Xi ⟨[],[],hfree⟩ (Yi ⟨Tv,Tv,Fh,Tv⟩ ?_)
 exact decR_no (by unfold decideR; rw [if_pos (ck_bad h1)])
abbrev dnsR (x:List Rl) (roots:List Rq) (s:List Sl):AV:=.tup [sl encStr1 (decisionsP x roots s).1,vi (decisionsP x roots s).2]
theorem dns_eq (x:List Rl) (roots:List Rq) (s:List Sl):decisionsP x roots s=((decideR x roots s).1.map (·.path),(decideR x roots s).2):=by
 unfold decisionsP decideR;split
 ·rfl
 ·split
  ·rw [List.map_map]; rfl
  ·rfl
theorem decR_err {x:List Rl} {roots:List Rq} {s:List Sl} (h:(decideR x roots s).2≠0):(decideR x roots s).1=[]:=by
 unfold decideR at *
 split
 ·rfl
 ·split
  ·rename_i h1 h2; rw [if_neg h1,if_pos h2] at h; exact absurd rfl h
  ·rfl
theorem dec_len {x:List Rl} {roots:List Rq} {s:List Sl} : (decideR x roots s).1.length≤s.length:=by
 unfold decideR;split
 ·simp
 ·split
  ·rename_i h
   have:=nodup_sub_len (m:=s.map (·.path)) (visits_run h).nodup fun p hp=>by
    obtain ⟨y,hy,e⟩:=List.mem_map.1 hp;rw [List.nil_append] at hy;obtain ⟨v,hv,rfl⟩:=List.mem_map.1 hy;exact List.mem_map.2 ⟨keyVi v,((visits_run h).mem v hv).1,e⟩
   rw [List.nil_append] at this;simpa using this
  ·simp
set_option maxHeartbeats 4000000 in
theorem c19 (x:List Rl) (ifs:List (List AV)) (roots:List Rq) (s:List Sl) (hx:∀ r ∈ x,FewR r) (hxl:Few x) (hr:∀ q ∈ roots,FewQ q) (hrl:roots.length≤1000000) (hs:s.length≤100000):PC 19 [.agg (Ic x ifs),sl encRq roots,sl encSl s] (dnsR x roots s):=by
 have h44:=c44 x ifs roots s hx hxl hr hrl hs;have hDl:=dec_len (x:=x) (roots:=roots) (s:=s);unfold decR at h44;obtain ⟨D,hD⟩ : ∃ D,D=(decideR x roots s).1:=⟨_,rfl⟩;rw [← hD] at h44 hDl;refine Ps ⟨[],[],[],[],[],[],[],[],[],[],[2,7]⟩ Tryz.func19 rfl (Nz rfl) ?_;refine Yi (Nz rfl) ?_;refine Xi .pure (Xi _ (Yi h44 ?_));refine Xi ⟨[(8,sl encSl D),(9,vi (decideR x roots s).2)],[],hfree⟩ (Yi ⟨Z2,Tv,Fh,Tv⟩ ?_)
 refine Yi (fun h1=>?_) (fun h1=>?_)
 ·have h1:((decideR x roots s).2:Int)≠(0:Int):=h1;exact (show Sub (.tup [.v (.slice none 0 0),vi (decideR x roots s).2]) (.tup [.slice .none [],vi (decideR x roots s).2]) from Sub.tup ⟨.nil,.refl _,trivial⟩).trans (.of_eq (show AV.tup [.slice .none [],vi (decideR x roots s).2]=dnsR x roots s by unfold dnsR; rw [dns_eq,decR_err h1]; rfl))
 have h1:((decideR x roots s).2:Int)=(0:Int):=Classical.byContradiction h1;refine Xi {i:Nat // i≤D.length} (Xi (fun q=>⟨[(8,sl encSl D),(10,.slice (.id 22 1) (((D.take q.1).map (·.path)).map encStr1)),(11,vi q.1)],[(22,.tok 1 q.1)],hfree⟩) (Xi (fun q=>D.length - q.1) (Yi (Xi ⟨0,Nat.zero_le _⟩ ?_) ?_)))
 ·exact ⟨Z3,Z1,Fh,Tv⟩
 intro ⟨i,i1⟩;refine Yi (fun h3=>?_) (fun h3=>?_)
 ·have h3:(i:Int)<((D.map encSl).length:Int):=h3;have n3:i<D.length:=by have q:=h3; rw [Lm] at q; omega
  have g3:D[i]?=some D[i]:=Ge n3;refine Xi (encSl D[i]) (Yi (Yi (Nn i) (map_at g3)) (Yi rfl ?_));have b4:AllLen 1 [[vs D[i].path]]∧(((D.take i).map (·.path)).map encStr1).length=i∧((((D.take i).map (·.path)).map encStr1).length+([[vs D[i].path]]:List (List AV)).length)*16≤140737488355328∧(((D.take i).map (·.path)).map encStr1).length+([[vs D[i].path]]:List (List AV)).length≤9223372036854775807:=⟨⟨rfl,trivial⟩,(by simp only [Lm,List.length_take]; omega),(by simp only [Lm,List.length_cons,List.length_nil,List.length_take]; omega),(by simp only [Lm,List.length_cons,List.length_nil,List.length_take]; omega)⟩;refine Yi b4 ?_;refine Xi ⟨[(8,sl encSl D),(10,.slice (.id 22 1) ((((D.take i).map (·.path)).map encStr1)++[[vs D[i].path]])),(11,vi i)],[(22,.tok 1 ((((D.take i).map (·.path)).map encStr1).length+([[vs D[i].path]]:List (List AV)).length))],hfree⟩ (Yi ⟨Z3,Z1,Fh,Tv⟩ ?_)
  refine Yi (Ii i (by omega)) ?_;have e19:((D.take (i+1)).map (·.path)).map encStr1=((D.take i).map (·.path)).map encStr1++[[vs D[i].path]]:=by rw [List.take_add_one,Ge n3,List.map_append,List.map_append]; rfl
  refine Xi ⟨i+1,by omega⟩ ?_;exact ⟨Dl D.length i (by omega),⟨Zr,⟨(show AV.slice (.id 22 1) (((D.take i).map (·.path)).map encStr1++[[vs D[i].path]])=.slice (.id 22 1) (((D.take (i+1)).map (·.path)).map encStr1) by rw [e19]),rfl⟩,Zr,Tv⟩,⟨⟨(show HO.tok 1 ((((D.take i).map (·.path)).map encStr1).length+([[vs D[i].path]]:List (List AV)).length)=.tok 1 (i+1) by rw [Lm,Lm,List.length_take,Nat.min_eq_left i1]; rfl),rfl⟩,Tv⟩,Fh,Tv⟩
 have h3:¬ ((i:Int)<((D.map encSl).length:Int)):=h3;have n3:¬ i<D.length:=by have q:=h3; rw [Lm] at q; omega
 exact .of_eq (show AV.tup [sl encStr1 ((D.take i).map (·.path)),vi 0]=dnsR x roots s by unfold dnsR; rw [dns_eq,← hD,List.take_of_length_le (by omega),h1])
end Go.Eng
