/- Lemmas for the claims of this seat, without a condition: part 27 (E16, E17, E18, R24, C74). -/
import Derived.Test.YtpgfieopnnkpfaaGreatDoorA26
namespace Go.Eng
open Go.Proofs
theorem itB_zb {n:Int} (h0:0≤n) (h1:n≤1000000000):(itB n).size≤21:=itB_size (by omega) (by omega)
theorem dec_one {n:Int} (h0:0≤n) (h1:n<10):itB n=⟨[UInt8.ofNat (48+n.toNat)].toArray⟩:=by
 rw [itB_eq h0,decB_small (by omega)]
theorem dec_two {n:Int} (h0:0≤n) (h1:¬ n<10):itB n=itB (n / 10)++itB (n % 10):=by
 rw [itB_eq h0,itB_eq (show 0≤n / 10 by omega),itB_eq (show 0≤n % 10 by omega),decB_big (by omega),decB_small (n:=(n % 10).toNat) (by omega)];have e1:(n / 10).toNat=n.toNat / 10:=by omega
 have e2:(n % 10).toNat=n.toNat % 10:=by omega
 rw [e1,e2]
theorem u8_one {n:Int} (h0:0≤n) (h1:n<10):([[AV.v (.int .u8 (IntKind.wrap .u8 (48+n)))]]:List (List AV))=[UInt8.ofNat (48+n.toNat)].map (fun b=>[AV.v (.int .u8 b.toNat)]):=by
 have e:(IntKind.wrap .u8 (48+n):Int)=((UInt8.ofNat (48+n.toNat)).toNat:Int):=by
  have h2:(UInt8.ofNat (48+n.toNat)).toNat=48+n.toNat:=by
   rw [UInt8.toNat_ofNat']; omega
  rw [h2];unfold IntKind.wrap;simp [IntKind.bits,IntKind.signed];omega
 rw [e]; rfl
theorem e333:∀ (k:Nat) (n:Int),n<k→0≤n→n≤1000000000→PC 333 [vi n] (vs (itB n)):=by
 intro k
 induction k with
 | zero=>intro n h h0; omega
 | succ k ih =>
  intro n hk h0 h1;refine Ps ⟨[],[],[],[],[],[],[],[],[],[],[]⟩ Tryz.func333 rfl (Nz rfl) ?_;refine Yi (fun h1=>?_) (fun h1=>?_)
  ·have h1:(n:Int)<(10:Int):=h1;refine Yi (by show InI64 (48+n); unfold InI64; omega) ?_;refine Xi [UInt8.ofNat (48+n.toNat)] (Yi (u8_one h0 h1) ?_);exact .of_eq (show vs ⟨[UInt8.ofNat (48+n.toNat)].toArray⟩=vs (itB n) by rw [dec_one h0 h1])
  have h1:¬ ((n:Int)<(10:Int)):=h1;refine Yi ⟨by omega,by omega,(by show InI64 (n); unfold InI64; omega)⟩ ?_;refine Xi .pure (Xi _ (Yi (ih (n / 10) (by omega) (by omega) (by omega)) ?_));refine Yi ⟨by omega,by omega⟩ ?_;refine Xi .pure (Xi _ (Yi (ih (n % 10) (by omega) (by omega) (by omega)) ?_));refine Yi (cat_ok (Nat.le_trans (itB_zb (by omega) (by omega)) (by decide)) (Nat.le_trans (itB_zb (by omega) (by omega)) (by decide))) ?_;exact .of_eq (show vs (itB (n / 10)++itB (n % 10))=vs (itB n) by rw [← dec_two h0 h1])
theorem e333z (n:Int) (h0:0≤n) (h1:n≤1000000000):PC 333 [vi n] (vs (itB n)):=e333 (n.toNat+1) n (by omega) h0 h1
set_option maxHeartbeats 4000000 in
theorem e297 (v:Ver) (hv:validB v=true):PC 297 [.agg (encVer v)] (.tup [vs (verT v.a v.b v.c),vi 0]):=by
 have h298:=c168 v;rw [hv] at h298;unfold validB at hv;simp only [Bool.and_eq_true,decide_eq_true_eq] at hv;obtain ⟨⟨va,vb'⟩,vc⟩:=hv;unfold okPart at va vb' vc;have za:=itB_zb (n:=v.a) (by omega) (by omega);have zb:=itB_zb (n:=v.b) (by omega) (by omega);have zc:=itB_zb (n:=v.c) (by omega) (by omega);refine Ps ⟨[],[],[],[],[],[],[],[],[],[],[]⟩ Tryz.func297 rfl (Nz rfl) ?_;refine Yi (Nz rfl) ?_;refine Xi .pure (Xi _ (Yi h298 ?_));refine Xi _ (Yi (e333z v.a (by omega) (by omega)) ?_);refine Yi (by have q1:=za; have q2:=zb; have q3:=zc; have q4:(⟨#[46]⟩ : ByteArray).size=1:=rfl; have q5:=bsize_app (itB v.a) ⟨#[46]⟩; have q6:=bsize_app (itB v.a++⟨#[46]⟩) (itB v.b); have q7:=bsize_app (itB v.a++⟨#[46]⟩++itB v.b) ⟨#[46]⟩; show ((_+_:Nat):Int)≤_; omega) ?_;refine Xi _ (Yi (e333z v.b (by omega) (by omega)) ?_);refine Yi (by have q1:=za; have q2:=zb; have q3:=zc; have q4:(⟨#[46]⟩ : ByteArray).size=1:=rfl; have q5:=bsize_app (itB v.a) ⟨#[46]⟩; have q6:=bsize_app (itB v.a++⟨#[46]⟩) (itB v.b); have q7:=bsize_app (itB v.a++⟨#[46]⟩++itB v.b) ⟨#[46]⟩; show ((_+_:Nat):Int)≤_; omega) ?_;refine Yi (by have q1:=za; have q2:=zb; have q3:=zc; have q4:(⟨#[46]⟩ : ByteArray).size=1:=rfl; have q5:=bsize_app (itB v.a) ⟨#[46]⟩; have q6:=bsize_app (itB v.a++⟨#[46]⟩) (itB v.b); have q7:=bsize_app (itB v.a++⟨#[46]⟩++itB v.b) ⟨#[46]⟩; show ((_+_:Nat):Int)≤_; omega) ?_;refine Xi _ (Yi (e333z v.c (by omega) (by omega)) ?_);refine Yi (by have q1:=za; have q2:=zb; have q3:=zc; have q4:(⟨#[46]⟩ : ByteArray).size=1:=rfl; have q5:=bsize_app (itB v.a) ⟨#[46]⟩; have q6:=bsize_app (itB v.a++⟨#[46]⟩) (itB v.b); have q7:=bsize_app (itB v.a++⟨#[46]⟩++itB v.b) ⟨#[46]⟩; show ((_+_:Nat):Int)≤_; omega) ?_;refine Yi (by kernel_rfl) ?_;exact .refl _
set_option maxHeartbeats 4000000 in
theorem e233 (m p:Int) (hM:0≤m∧m≤999) (hp:0≤p∧p<1000000):PC 233 [vi m,vi p] (vs (plcT m p)):=by
 have hvv:validB ⟨m,p / 1000,p % 1000⟩=true:=by
  have h1:okPart m:=hM;have h2:okPart (p / 1000):=by unfold okPart; omega
  have h3:okPart (p % 1000):=by unfold okPart; omega
  unfold validB;rw [decide_eq_true h1,decide_eq_true h2,decide_eq_true h3]; rfl
 have h297:=e297 ⟨m,p / 1000,p % 1000⟩ hvv;refine Ps ⟨[],[],[],[],[],[],[],[],[],[],[]⟩ Tryz.func233 rfl (Nz rfl) ?_;refine Yi ⟨by omega,by omega,(by show InI64 (p); unfold InI64; omega)⟩ ?_;refine Yi ⟨by omega,by omega⟩ ?_;refine Xi .pure (Xi _ (Yi h297 ?_));exact .refl _
set_option maxHeartbeats 4000000 in
theorem e165 (x:Int × Int) (m:Int) (hM:0≤m∧m≤999) (h1:0≤x.1) (h2:x.1<x.2) (h3:x.2≤1000000):PC 165 [.agg (encSpan x),vi m] (vs (spanT m x)):=by
 have z1:=plcT_size (p:=x.1) hM (by omega);have z2:=plcT_size (p:=x.2) hM (by omega);refine Ps ⟨[],[],[],[],[],[],[],[],[],[],[]⟩ Tryz.func165 rfl (Nz rfl) ?_;refine Yi (fun h1=>?_) (fun h1=>?_)
 ·have h1:(x.1:Int)=(0:Int):=h1;refine Yi (fun h2=>?_) (fun h2=>?_)
  ·have h2:(x.2:Int)=(1000000:Int):=h2;exact .of_eq (show vs ⟨#[42]⟩=vs (spanT m x) by unfold spanT; rw [if_pos (by omega)])
  have h2:¬ ((x.2:Int)=(1000000:Int)):=h2;refine Yi (by show InI64 ((x.1:Int)+(1:Int)); unfold InI64; omega) ?_;refine Yi (fun h4=>?_) (fun h4=>?_)
  ·have h4:(x.2:Int)=(x.1+1:Int):=h4;refine Xi .pure (Xi _ (Yi (e233 m x.1 hM (by omega)) ?_));exact .of_eq (show vs (plcT m x.1)=vs (spanT m x) by unfold spanT; rw [if_neg (by omega),if_pos (by omega)])
  have h4:¬ ((x.2:Int)=(x.1+1:Int)):=h4;refine Yi (fun hf=>absurd hf h2) (fun _=>?_);refine Yi (fun _=>?_) (fun hf=>absurd h1 hf);refine Xi .pure (Xi _ (Yi (e233 m x.2 hM (by omega)) ?_));refine Yi (cat_ok (by decide) (by have q1:=z1; have q2:=z2; have q3:(⟨#[46,46]⟩ : ByteArray).size=2:=rfl; omega)) ?_;exact .of_eq (show vs (⟨#[46,46]⟩++(plcT m x.2))=vs (spanT m x) by unfold spanT; rw [if_neg (by omega),if_neg (by omega),if_neg (by omega),if_pos (by omega)])
 have h1:¬ ((x.1:Int)=(0:Int)):=h1;refine Yi (by show InI64 ((x.1:Int)+(1:Int)); unfold InI64; omega) ?_;refine Yi (fun h7=>?_) (fun h7=>?_)
 ·have h7:(x.2:Int)=(x.1+1:Int):=h7;refine Xi .pure (Xi _ (Yi (e233 m x.1 hM (by omega)) ?_));exact .of_eq (show vs (plcT m x.1)=vs (spanT m x) by unfold spanT; rw [if_neg (by omega),if_pos (by omega)])
 have h7:¬ ((x.2:Int)=(x.1+1:Int)):=h7;refine Yi (fun h9=>?_) (fun h9=>?_)
 ·have h9:(x.2:Int)=(1000000:Int):=h9;refine Xi .pure (Xi _ (Yi (e233 m x.1 hM (by omega)) ?_));refine Yi (cat_ok (by have q1:=z1; have q2:=z2; have q3:(⟨#[46,46]⟩ : ByteArray).size=2:=rfl; omega) (by decide)) ?_;exact .of_eq (show vs ((plcT m x.1)++⟨#[46,46]⟩)=vs (spanT m x) by unfold spanT; rw [if_neg (by omega),if_neg (by omega),if_pos (by omega)])
 have h9:¬ ((x.2:Int)=(1000000:Int)):=h9;refine Yi (fun hf=>absurd hf h1) (fun _=>?_);refine Xi _ (Yi (e233 m x.1 hM (by omega)) ?_);refine Yi (cat_ok (by have q1:=z1; have q2:=z2; have q3:(⟨#[46,46]⟩ : ByteArray).size=2:=rfl; omega) (by decide)) ?_;refine Xi _ (Yi (e233 m x.2 hM (by omega)) ?_);refine Yi (cat_ok (by simp only [bsize_app]; have q1:=z1; have q2:=z2; have q3:(⟨#[46,46]⟩ : ByteArray).size=2:=rfl; omega) (by have q1:=z1; have q2:=z2; have q3:(⟨#[46,46]⟩ : ByteArray).size=2:=rfl; omega)) ?_;refine Yi (by kernel_rfl) ?_;exact .of_eq (show vs (((plcT m x.1)++⟨#[46,46]⟩)++(plcT m x.2))=vs (spanT m x) by unfold spanT; rw [if_neg (by omega),if_neg (by omega),if_neg (by omega),if_neg (by omega)])
end Go.Eng

namespace Go.Eng
open Go.Proofs
theorem joinB_bound {sep:ByteArray} {l:List ByteArray} (hB:∀ x ∈ l,x.size≤1000000000) (hl:l.length≤1000000) (hs:sep.size≤100):(joinB sep l).size≤1000000100000000:=by
 have h1:=joinB_size sep 1000000000 l hB;have h2:l.length*(1000000000+sep.size)≤1000000*1000000100:=Nat.mul_le_mul hl (by omega);omega
theorem spJ (m:Int) (s:SpanL) (i:Nat) (h:i<(canon s).length):joinB bBar (spT m s (i+1))=(if 0<i then joinB bBar (spT m s i)++bBar else joinB bBar (spT m s i))++spanT m (canon s)[i]:=by
 have:=joinB_take bBar (l:=(canon s).map (spanT m)) (i:=i) (by simpa using h)
 rw [List.getElem_map,← List.map_take,← List.map_take] at this;exact this
theorem spJ_size {m:Int} (hm:0≤m∧m≤999) (s:SpanL) (i:Nat) (h:i≤(canon s).length):(joinB bBar (spT m s i)).size≤270000000:=by
 have h1:=joinB_size bBar 132 (spT m s i) (fun x hx=>by
  obtain ⟨y,hy,rfl⟩:=List.mem_map.1 hx
  have:=canon_rng (canon_canon s) y (List.mem_of_mem_take hy)
  exact spanT_size hm this.1 this.2)
 have hl:=canon_len (canon_canon s);have e:bBar.size=3:=rfl;rw [Lm,List.length_take,e] at h1;have h2:min i (canon s).length*(132+3)≤i*135:=Nat.mul_le_mul (Nat.min_le_left ..) (by omega);omega
theorem e102 (p:ByteArray) (hp:FewS p):PC 102 [vs p] (.tup [vs (lnT p),vi (majorP p),vi (lnE p)]):=by
 have h:=c171 p hp;have e:lineV lineNm p=.tup [vs (lnT p),vi (majorP p),vi (lnE p)]:=by
  unfold lineV lnT lnE majorP;cases pathMajor p <;> rfl
 rwa [e] at h
theorem lnE_no {p:ByteArray} (h:lnE p≠0):majorP p=0:=by
 unfold lnE at h; unfold majorP;cases e:pathMajor p with
 | none=>rfl
 | some m=>rw [e] at h; exact absurd rfl h
set_option maxHeartbeats 4000000 in
theorem e51 (l:List ByteArray) (sep:ByteArray) (hB:∀ x ∈ l,x.size≤1000000000) (hl:l.length≤1000000) (hs:sep.size≤100):PC 51 [sl encStr l,vs sep] (vs (joinB sep l)):=by
 refine Ps ⟨[],[],[],[],[],[],[],[],[],[],[]⟩ Tryz.func51 rfl (Nz rfl) ?_;refine Xi {i:Nat // i≤l.length} (Xi (fun q=>⟨[(0,sl encStr l),(1,vs sep),(5,vs (joinB sep (l.take q.1))),(6,vi q.1)],[],hfree⟩) (Xi (fun q=>l.length - q.1) (Yi (Xi ⟨0,Nat.zero_le _⟩ ?_) ?_)))
 ·exact ⟨⟨Zr,Zr,⟨(show vs ⟨#[]⟩=vs (joinB sep (l.take 0)) from rfl),rfl⟩,Zr,Tv⟩,Tv,Fh,Tv⟩
 intro ⟨i,i1⟩;have i1:i≤l.length:=i1;have hjs:=joinB_bound (sep:=sep) (l:=l.take i) (fun x hx=>hB x (List.mem_of_mem_take hx)) (by rw [List.length_take]; omega) hs;refine Yi (fun h1=>?_) (fun h1=>?_)
 ·have h1:(i:Int)<((l.map encStr).length:Int):=h1;have n1:i<l.length:=by have q:=h1; rw [Lm] at q; omega
  have g1:l[i]?=some l[i]:=Ge n1;refine Yi (fun h2=>?_) (fun h2=>?_)
  ·have h2:(0:Int)<(i:Int):=h2;refine Yi (by have q1:=hB l[i] (List.getElem_mem n1); have q2:=bsize_app (joinB sep (l.take i)) sep; have q3:=hjs; have q4:=hs; show (((joinB sep (l.take i)).size+sep.size:Nat):Int)≤_; omega) ?_;refine Xi (encStr l[i]) (Yi (Yi (Nn i) (map_at g1)) (Yi rfl ?_));refine Yi (by have q1:=hB l[i] (List.getElem_mem n1); have q2:=bsize_app (joinB sep (l.take i)) sep; have q3:=hjs; have q4:=hs; show ((((joinB sep (l.take i))++sep).size+l[i].size:Nat):Int)≤_; omega) ?_;refine Yi (Ii i (by omega)) ?_;refine Xi ⟨i+1,by omega⟩ ?_;exact ⟨Dl l.length i (by omega),⟨Zr,Zr,⟨(show vs (((joinB sep (l.take i))++sep)++l[i])=vs (joinB sep (l.take (i+1))) by rw [joinB_take sep n1,if_pos (by omega)]),rfl⟩,Zr,Tv⟩,Tv,Fh,Tv⟩
  have h2:¬ ((0:Int)<(i:Int)):=h2;refine Xi (encStr l[i]) (Yi (Yi (Nn i) (map_at g1)) (Yi rfl ?_));refine Yi (by have q1:=hB l[i] (List.getElem_mem n1); have q2:=bsize_app (joinB sep (l.take i)) sep; have q3:=hjs; have q4:=hs; show (((joinB sep (l.take i)).size+l[i].size:Nat):Int)≤_; omega) ?_;refine Yi (Ii i (by omega)) ?_;refine Xi ⟨i+1,by omega⟩ ?_;exact ⟨Dl l.length i (by omega),⟨Zr,Zr,⟨(show vs ((joinB sep (l.take i))++l[i])=vs (joinB sep (l.take (i+1))) by rw [joinB_take sep n1,if_neg (by omega)]),rfl⟩,Zr,Tv⟩,Tv,Fh,Tv⟩
 have h1:¬ ((i:Int)<((l.map encStr).length:Int)):=h1;have n1:¬ i<l.length:=by have q:=h1; rw [Lm] at q; omega
 exact .of_eq (show vs (joinB sep (l.take i))=vs (joinB sep l) by rw [List.take_of_length_le (by omega)])
set_option maxHeartbeats 4000000 in
theorem e103 (s:SpanL) (m:Int) (hM:0≤m∧m≤999) (hs:Few s):PC 103 [sl encSpan s,vi m] (.tup [vs (setT m s),vi 0]):=by
 have hM:0≤m∧m≤999:=hM;have hcl:=canon_len (canon_canon s);refine Ps ⟨[],[],[],[],[],[],[],[],[],[],[2,3,5,6,9,10,12]⟩ Tryz.func103 rfl (Nz rfl) ?_;refine Yi (fun hf=>absurd hf (show ¬ m<0 by omega)) (fun _=>?_);refine Yi (fun hf=>absurd hf (show ¬ (999:Int)<m by omega)) (fun _=>?_);refine Xi ⟨[(0,sl encSpan s),(1,vi m)],[],hfree⟩ (Yi ⟨⟨Zr,Zr,Tv⟩,Tv,Fh,Tv⟩ ?_)
 refine Xi .pure (Xi _ (Yi (c115 s hs) ?_));refine Yi (fun h1=>?_) (fun h1=>?_)
 ·have h1:(((canon s).map encSpan).length:Int)=(0:Int):=h1;refine Xi ⟨[],[],hfree⟩ (Yi ⟨Tv,Tv,Fh,Tv⟩ ?_)
  exact .of_eq (show AV.tup [vs bNone,vi 0]=.tup [vs (setT m s),vi 0] by unfold setT; rw [if_pos (List.eq_nil_of_length_eq_zero (by have q:=h1; rw [Lm] at q; omega))])
 have h1:¬ ((((canon s).map encSpan).length:Int)=(0:Int)):=h1;refine Xi ⟨[(1,vi m),(6,sl encSpan (canon s))],[],hfree⟩ (Yi ⟨⟨Zr,Zr,Tv⟩,Tv,Fh,Tv⟩ ?_)
 refine Xi {i:Nat // i≤(canon s).length} (Xi (fun q=>⟨[(1,vi m),(6,sl encSpan (canon s)),(7,vs (joinB bBar (spT m s q.1))),(8,vi q.1)],[],hfree⟩) (Xi (fun q=>(canon s).length - q.1) (Yi (Xi ⟨0,Nat.zero_le _⟩ ?_) ?_)))
 ·exact ⟨⟨Zr,Zr,⟨(show vs ⟨#[]⟩=vs (joinB bBar (spT m s 0)) from rfl),rfl⟩,Zr,Tv⟩,Tv,Fh,Tv⟩
 intro ⟨i,i1⟩;have i1:i≤(canon s).length:=i1;have hjs:=spJ_size hM s i i1;refine Yi (fun h3=>?_) (fun h3=>?_)
 ·have h3:(i:Int)<(((canon s).map encSpan).length:Int):=h3;have n3:i<(canon s).length:=by have q:=h3; rw [Lm] at q; omega
  have g3:(canon s)[i]?=some (canon s)[i]:=Ge n3;have hca:=canon_at s i n3;refine Xi ⟨[(1,vi m),(6,sl encSpan (canon s)),(7,vs (joinB bBar (spT m s i))),(8,vi i)],[],hfree⟩ (Yi ⟨⟨Zr,Zr,Zr,Zr,Tv⟩,Tv,Fh,Tv⟩ ?_)
  refine Yi (fun h4=>?_) (fun h4=>?_)
  ·have h4:(0:Int)<(i:Int):=h4;refine Yi (by have q1:=spanT_size (x:=(canon s)[i]) hM (by omega) (by omega); have q2:=bsize_app (joinB bBar (spT m s i)) ⟨#[32,124,32]⟩; have q3:=hjs; have q4:(⟨#[32,124,32]⟩ : ByteArray).size=3:=rfl; show ((_+_:Nat):Int)≤_; omega) ?_;refine Xi ⟨[(1,vi m),(6,sl encSpan (canon s)),(7,vs ((joinB bBar (spT m s i))++⟨#[32,124,32]⟩)),(8,vi i)],[],hfree⟩ (Yi ⟨⟨Zr,Zr,Zr,Zr,Tv⟩,Tv,Fh,Tv⟩ ?_)
   refine Xi (encSpan ((canon s)[i])) (Yi (Yi (Nn i) (map_at g3)) (Yi rfl ?_));refine Yi (Nz rfl) ?_;refine Xi .pure (Xi _ (Yi (e165 (canon s)[i] m hM (by omega) (by omega) (by omega)) ?_));refine Yi (by have q1:=spanT_size (x:=(canon s)[i]) hM (by omega) (by omega); have q2:=bsize_app (joinB bBar (spT m s i)) ⟨#[32,124,32]⟩; have q3:=hjs; have q4:(⟨#[32,124,32]⟩ : ByteArray).size=3:=rfl; show ((_+_:Nat):Int)≤_; omega) ?_;refine Xi ⟨[(1,vi m),(6,sl encSpan (canon s)),(7,vs (((joinB bBar (spT m s i))++⟨#[32,124,32]⟩)++(spanT m (canon s)[i]))),(8,vi i)],[],hfree⟩ (Yi ⟨⟨Zr,Zr,Zr,Zr,Tv⟩,Tv,Fh,Tv⟩ ?_)
   refine Yi (Ii i (by omega)) ?_;refine Xi ⟨i+1,by omega⟩ ?_;exact ⟨by show (canon s).length - (i+1)<(canon s).length - i; omega,⟨Zr,Zr,⟨(show vs (((joinB bBar (spT m s i))++⟨#[32,124,32]⟩)++(spanT m (canon s)[i]))=vs (joinB bBar (spT m s (i+1))) by rw [spJ m s i n3,if_pos (by omega)]),rfl⟩,Zr,Tv⟩,Tv,Fh,Tv⟩
  have h4:¬ ((0:Int)<(i:Int)):=h4;refine Xi ⟨[(1,vi m),(6,sl encSpan (canon s)),(7,vs (joinB bBar (spT m s i))),(8,vi i)],[],hfree⟩ (Yi ⟨⟨Zr,Zr,Zr,Zr,Tv⟩,Tv,Fh,Tv⟩ ?_)
  refine Xi (encSpan ((canon s)[i])) (Yi (Yi (Nn i) (map_at g3)) (Yi rfl ?_));refine Yi (Nz rfl) ?_;refine Xi .pure (Xi _ (Yi (e165 (canon s)[i] m hM (by omega) (by omega) (by omega)) ?_));refine Yi (by have q1:=spanT_size (x:=(canon s)[i]) hM (by omega) (by omega); have q2:=bsize_app (joinB bBar (spT m s i)) ⟨#[32,124,32]⟩; have q3:=hjs; have q4:(⟨#[32,124,32]⟩ : ByteArray).size=3:=rfl; show ((_+_:Nat):Int)≤_; omega) ?_;refine Xi ⟨[(1,vi m),(6,sl encSpan (canon s)),(7,vs ((joinB bBar (spT m s i))++(spanT m (canon s)[i]))),(8,vi i)],[],hfree⟩ (Yi ⟨⟨Zr,Zr,Zr,Zr,Tv⟩,Tv,Fh,Tv⟩ ?_)
  refine Yi (Ii i (by omega)) ?_;refine Xi ⟨i+1,by omega⟩ ?_;exact ⟨by show (canon s).length - (i+1)<(canon s).length - i; omega,⟨Zr,Zr,⟨(show vs ((joinB bBar (spT m s i))++(spanT m (canon s)[i]))=vs (joinB bBar (spT m s (i+1))) by rw [spJ m s i n3,if_neg (by omega)]),rfl⟩,Zr,Tv⟩,Tv,Fh,Tv⟩
 have h3:¬ ((i:Int)<(((canon s).map encSpan).length:Int)):=h3;have n3:¬ i<(canon s).length:=by have q:=h3; rw [Lm] at q; omega
 exact .of_eq (show AV.tup [vs (joinB bBar (spT m s i)),vi 0]=.tup [vs (setT m s),vi 0] by unfold setT; rw [if_neg (fun h=>by have q:=h1; rw [Lm,h] at q; exact q rfl),show spT m s i=(canon s).map (spanT m) from by unfold spT; rw [List.take_of_length_le (by omega)]])
set_option maxHeartbeats 4000000 in
theorem e47 (p:ByteArray) (s:SpanL) (hp:FewS p) (hs:Few s):PC 47 [vs p,sl encSpan s] (vs (setP p s)):=by
 refine Ps ⟨[],[],[],[],[],[],[],[],[],[],[]⟩ Tryz.func47 rfl (Nz rfl) ?_;refine Xi .pure (Xi _ (Yi (e102 p hp) ?_));refine Yi (fun h1=>?_) (fun h1=>?_)
 ·have h1:((lnE p):Int)≠(0:Int):=h1;refine Xi .pure (Xi _ (Yi (e103 s 0 ⟨by decide,by decide⟩ hs) ?_));exact .of_eq (show vs (setT 0 s)=vs (setP p s) by unfold setP; rw [lnE_no (fun h=>absurd h h1)])
 have h1:((lnE p):Int)=(0:Int):=Classical.byContradiction h1;refine Xi .pure (Xi _ (Yi (e103 s (majorP p) (majorP_rng p) hs) ?_));exact .refl _
set_option maxHeartbeats 4000000 in
theorem e14 (t:Tm) (hp:FewP t.path) (hs:Few t.set):PC 14 [.agg (encTm t)] (vs (termT t)):=by
 have hcs:Few (compl t.set):=by have:=canon_len (compl_canon t.set); unfold Few; omega
 refine Ps ⟨[],[],[],[],[],[],[],[],[],[],[]⟩ Tryz.func14 rfl (Nz rfl) ?_;refine Yi (fun h1=>?_) (fun h1=>?_)
 ·have h1:t.absent=true:=h1;refine Yi (by have q1:t.path.size≤1048576:=hp; have q2:=bsize_app t.path ⟨#[32]⟩; have q3:(⟨#[32]⟩ : ByteArray).size=1:=rfl; have q4:=setP_size t.path t.set; have q5:=setP_size t.path (compl t.set); show ((_+_:Nat):Int)≤_; omega) ?_;refine Xi _ (Yi (c120 t.set hs) ?_);refine Xi _ (Yi (e47 t.path (compl t.set) hp.s hcs) ?_);refine Yi (by have q1:t.path.size≤1048576:=hp; have q2:=bsize_app t.path ⟨#[32]⟩; have q3:(⟨#[32]⟩ : ByteArray).size=1:=rfl; have q4:=setP_size t.path t.set; have q5:=setP_size t.path (compl t.set); show ((_+_:Nat):Int)≤_; omega) ?_;refine Yi (by kernel_rfl) ?_;exact .of_eq (show vs ((t.path++⟨#[32]⟩)++(setP t.path (compl t.set)))=vs (termT t) by unfold termT; rw [h1]; rfl)
 have h1:t.absent=false:=h1;refine Yi (by have q1:t.path.size≤1048576:=hp; have q2:=bsize_app t.path ⟨#[32]⟩; have q3:(⟨#[32]⟩ : ByteArray).size=1:=rfl; have q4:=setP_size t.path t.set; have q5:=setP_size t.path (compl t.set); show ((_+_:Nat):Int)≤_; omega) ?_;refine Xi _ (Yi (e47 t.path t.set hp.s hs) ?_);refine Yi (by have q1:t.path.size≤1048576:=hp; have q2:=bsize_app t.path ⟨#[32]⟩; have q3:(⟨#[32]⟩ : ByteArray).size=1:=rfl; have q4:=setP_size t.path t.set; have q5:=setP_size t.path (compl t.set); show ((_+_:Nat):Int)≤_; omega) ?_;refine Yi (by kernel_rfl) ?_;exact .of_eq (show vs ((t.path++⟨#[32]⟩)++(setP t.path t.set))=vs (termT t) by unfold termT; rw [h1]; rfl)
end Go.Eng

namespace Go.Eng
open Go.Proofs
theorem incF_len (c:List Tm):incF c=if (needL c).length=0 then (if (haveL c).length=0 then bThis else if (haveL c).length=1 then joinB bAnd (haveL c)++bImp else joinB bAnd (haveL c)++bDo)
  else if (haveL c).length=0 then joinB bOr (needL c)++bNeeded else if (haveL c).length=1 then joinB bAnd (haveL c)++bNeeds++joinB bOr (needL c) else joinB bAnd (haveL c)++bNeed++joinB bOr (needL c):=by
 unfold incF;simp only [List.length_eq_zero_iff]
theorem have_big {c:List Tm} (hp:∀ t ∈ c,FewP t.path):∀ x ∈ haveL c,x.size≤1000000000:=fun x hx=>by
 obtain ⟨t,ht,rfl⟩:=have_mem c x hx
 have:=termT_size (hp t ht); omega
theorem need_big {c:List Tm} (hp:∀ t ∈ c,FewP t.path):∀ x ∈ needL c,x.size≤1000000000:=fun x hx=>by
 obtain ⟨t,ht,rfl⟩:=need_mem c x hx
 have:=termT_size (hp t ht); omega
theorem take_all {α:Type} {l:List α} {p:α→Prop} {i:Nat} (h:i<l.length) (h1:∀ t ∈ l.take i,p t) (h2:p l[i]):∀ t ∈ l.take (i+1),p t:=fun t ht=>by
 rw [List.take_succ_eq_append_getElem h] at ht;rcases List.mem_append.1 ht with ht | ht
 ·exact h1 t ht
 ·rw [List.mem_singleton.1 ht]; exact h2
def smallT (l:List Tm):Bool:=decide (l.length≤12∧∀ t ∈ l,t.path.size≤100∧t.set.length≤12)
theorem smallT_yes {l:List Tm} (h:smallT l=true):l.length≤12∧∀ t ∈ l,t.path.size≤100∧t.set.length≤12:=of_decide_eq_true h
set_option maxHeartbeats 4000000 in
theorem e16 (l:List Tm) (hl:l.length≤500000) (hs:∀ t ∈ l,Few t.set) (hp:∀ t ∈ l,FewP t.path):PC 16 [sl encTm l] (vs (incText l)):=by
 have hl:l.length≤500000:=hl;have h50:=c121 l (by unfold Few; omega) hs;unfold canRes at h50;obtain ⟨c,hc0⟩ : ∃ c,c=ofT l:=⟨_,rfl⟩;rw [← hc0] at h50;refine Ps ⟨[],[],[],[],[],[],[],[],[],[],[2,5,7,8,9,10,12,14,15,17,19,20,22]⟩ Tryz.func16 rfl (Nz rfl) ?_;refine Or.elim (Bt (canonT l).isSome) (fun h1=>?_) (fun h1=>?_)
 ·have h1:(canonT l).isSome=true:=h1;have hcs:(canonT l).isSome=true:=h1;have hcd:c=ofT l:=hc0;have hce:canonT l=some c:=by rw [hcd]; exact ofT_mem hcs
  have hcl:c.length≤500000:=Nat.le_trans (canT_len hce) hl;have hcp:∀ t ∈ c,FewP t.path:=fun t ht=>by
   obtain ⟨u,hu,e⟩:=canonT_paths hce t ht;rw [e]; exact hp u hu
  have hcf:∀ t ∈ c,Few t.set:=fun t ht=>few_can ((canonT_sorted hce).canon t ht);obtain ⟨PP,hPP⟩ : ∃ PP,PP=joinB bAnd (haveL c):=⟨_,rfl⟩;obtain ⟨NN,hNN⟩ : ∃ NN,NN=joinB bOr (needL c):=⟨_,rfl⟩;have hPs:(haveL c).length≤500000→PP.size≤70000100000000:=fun h=>by rw [hPP]; exact texts_size (by decide) hcp (have_mem c) h
  have hNs:(needL c).length≤500000→NN.size≤70000100000000:=fun h=>by rw [hNN]; exact texts_size (by decide) hcp (need_mem c) h
  have hc2:=h50;rw [show (canonT l).isSome=true from h1] at hc2;refine Xi .pure (Xi _ (Yi hc2 ?_));refine Xi ⟨[(3,sl encTm c),(4,vb true)],[],hfree⟩ (Yi ⟨Z2,Tv,Fh,Tv⟩ ?_)
  refine Xi ⟨[(3,sl encTm c),(5,.slice (.id 17 1) []),(6,.slice (.id 18 1) [])],[(17,.tok 1 0),(18,.tok 1 0)],hfree⟩ (Yi ⟨Z3,Z2,Fh,Tv⟩ ?_)
  refine Xi {i:Nat // i≤c.length} (Xi (fun q=>⟨[(3,sl encTm c),(5,.slice (.id 17 1) ((haveL (c.take q.1)).map encStr)),(6,.slice (.id 18 1) ((needL (c.take q.1)).map encStr)),(7,vi q.1)],[(17,.tok 1 (haveL (c.take q.1)).length),(18,.tok 1 (needL (c.take q.1)).length)],hfree⟩) (Xi (fun q=>c.length - q.1) (Yi (Xi ⟨0,Nat.zero_le _⟩ ?_) ?_)))
  ·exact ⟨Z4,Z2,Fh,Tv⟩
  intro ⟨i,i1⟩;have i1:i≤c.length:=i1;have hl1:=hn_len (c.take i);rw [List.length_take,Nat.min_eq_left i1] at hl1;have hv1:(haveL (c.take i)).length≤500000:=by omega
  have hv2:(needL (c.take i)).length≤500000:=by omega
  refine Yi (fun h3=>?_) (fun h3=>?_)
  ·have h3:(i:Int)<((c.map encTm).length:Int):=h3;have n3:i<c.length:=by have q:=h3; rw [Lm] at q; omega
   have g3:c[i]?=some c[i]:=Ge n3;refine Xi ⟨[(3,sl encTm c),(5,.slice (.id 17 1) ((haveL (c.take i)).map encStr)),(6,.slice (.id 18 1) ((needL (c.take i)).map encStr)),(7,vi i)],[(17,.tok 1 (haveL (c.take i)).length),(18,.tok 1 (needL (c.take i)).length)],hfree⟩ (Yi ⟨Z4,Z2,Fh,Tv⟩ ?_)
   refine Xi (encTm c[i]) (Yi (Yi (Nn i) (map_at g3)) (Yi rfl ?_));refine Yi (fun h4=>?_) (fun h4=>?_)
   ·have h4:c[i].absent=true:=h4;refine Xi ⟨[(3,sl encTm c),(5,.slice (.id 17 1) ((haveL (c.take i)).map encStr)),(6,.slice (.id 18 1) ((needL (c.take i)).map encStr)),(7,vi i)],[(17,.tok 1 (haveL (c.take i)).length),(18,.tok 1 (needL (c.take i)).length)],hfree⟩ (Yi ⟨Z4,Z2,Fh,Tv⟩ ?_)
    refine Xi (encTm c[i]) (Yi (Yi (Nn i) (map_at g3)) (Yi rfl ?_));refine Yi (Nz rfl) ?_;refine Xi .pure (Xi _ (Yi (e14 c[i] (hcp _ (List.getElem_mem n3)) (hcf _ (List.getElem_mem n3))) ?_));have b5:AllLen 1 [[vs (termT c[i])]]∧((needL (c.take i)).map encStr).length=(needL (c.take i)).length∧(((needL (c.take i)).map encStr).length+([[vs (termT c[i])]]:List (List AV)).length)*16≤140737488355328∧((needL (c.take i)).map encStr).length+([[vs (termT c[i])]]:List (List AV)).length≤9223372036854775807:=⟨⟨rfl,trivial⟩,(by rw [Lm]),(by simp only [Lm,List.length_cons,List.length_nil]; omega),(by simp only [Lm,List.length_cons,List.length_nil]; omega)⟩;refine Yi b5 ?_;refine Xi ⟨[(3,sl encTm c),(5,.slice (.id 17 1) ((haveL (c.take i)).map encStr)),(6,.slice (.id 18 1) (((needL (c.take i)).map encStr)++[[vs (termT c[i])]])),(7,vi i)],[(17,.tok 1 (haveL (c.take i)).length),(18,.tok 1 (((needL (c.take i)).map encStr).length+([[vs (termT c[i])]]:List (List AV)).length))],hfree⟩ (Yi ⟨Z4,Z2,Fh,Tv⟩ ?_)
    refine Yi (Ii i (by omega)) ?_;have hs1:=have_succ c i n3;have hs2:=need_succ c i n3;rw [show c[i].absent=true from h4] at hs1 hs2;simp only [if_true] at hs1 hs2;refine Xi ⟨i+1,by omega⟩ ?_;exact ⟨Dl c.length i (by omega),⟨Zr,⟨(show AV.slice (.id 17 1) ((haveL (c.take i)).map encStr)=.slice (.id 17 1) ((haveL (c.take (i+1))).map encStr) by rw [hs1]),rfl⟩,⟨(show AV.slice (.id 18 1) ((needL (c.take i)).map encStr++[[vs (termT c[i])]])=.slice (.id 18 1) ((needL (c.take (i+1))).map encStr) by rw [hs2,List.map_append]; rfl),rfl⟩,Zr,Tv⟩,⟨⟨(show HO.tok 1 (haveL (c.take i)).length=.tok 1 (haveL (c.take (i+1))).length by rw [hs1]),rfl⟩,⟨(show HO.tok 1 (((needL (c.take i)).map encStr).length+([[vs (termT c[i])]]:List (List AV)).length)=.tok 1 (needL (c.take (i+1))).length by rw [hs2,List.length_append,Lm]; rfl),rfl⟩,Tv⟩,Fh,Tv⟩
   have h4:c[i].absent=false:=h4;refine Xi ⟨[(3,sl encTm c),(5,.slice (.id 17 1) ((haveL (c.take i)).map encStr)),(6,.slice (.id 18 1) ((needL (c.take i)).map encStr)),(7,vi i)],[(17,.tok 1 (haveL (c.take i)).length),(18,.tok 1 (needL (c.take i)).length)],hfree⟩ (Yi ⟨Z4,Z2,Fh,Tv⟩ ?_)
   refine Xi (encTm c[i]) (Yi (Yi (Nn i) (map_at g3)) (Yi rfl ?_));refine Yi (Nz rfl) ?_;refine Xi .pure (Xi _ (Yi (e14 c[i] (hcp _ (List.getElem_mem n3)) (hcf _ (List.getElem_mem n3))) ?_));have b7:AllLen 1 [[vs (termT c[i])]]∧((haveL (c.take i)).map encStr).length=(haveL (c.take i)).length∧(((haveL (c.take i)).map encStr).length+([[vs (termT c[i])]]:List (List AV)).length)*16≤140737488355328∧((haveL (c.take i)).map encStr).length+([[vs (termT c[i])]]:List (List AV)).length≤9223372036854775807:=⟨⟨rfl,trivial⟩,(by rw [Lm]),(by simp only [Lm,List.length_cons,List.length_nil]; omega),(by simp only [Lm,List.length_cons,List.length_nil]; omega)⟩;refine Yi b7 ?_;refine Xi ⟨[(3,sl encTm c),(5,.slice (.id 17 1) (((haveL (c.take i)).map encStr)++[[vs (termT c[i])]])),(6,.slice (.id 18 1) ((needL (c.take i)).map encStr)),(7,vi i)],[(17,.tok 1 (((haveL (c.take i)).map encStr).length+([[vs (termT c[i])]]:List (List AV)).length)),(18,.tok 1 (needL (c.take i)).length)],hfree⟩ (Yi ⟨Z4,Z2,Fh,Tv⟩ ?_)
   refine Yi (Ii i (by omega)) ?_;have hs1:=have_succ c i n3;have hs2:=need_succ c i n3;rw [show c[i].absent=false from h4] at hs1 hs2;simp only [Bool.false_eq_true,if_false] at hs1 hs2;refine Xi ⟨i+1,by omega⟩ ?_;exact ⟨Dl c.length i (by omega),⟨Zr,⟨(show AV.slice (.id 17 1) ((haveL (c.take i)).map encStr++[[vs (termT c[i])]])=.slice (.id 17 1) ((haveL (c.take (i+1))).map encStr) by rw [hs1,List.map_append]; rfl),rfl⟩,⟨(show AV.slice (.id 18 1) ((needL (c.take i)).map encStr)=.slice (.id 18 1) ((needL (c.take (i+1))).map encStr) by rw [hs2]),rfl⟩,Zr,Tv⟩,⟨⟨(show HO.tok 1 (((haveL (c.take i)).map encStr).length+([[vs (termT c[i])]]:List (List AV)).length)=.tok 1 (haveL (c.take (i+1))).length by rw [hs1,List.length_append,Lm]; rfl),rfl⟩,⟨(show HO.tok 1 (needL (c.take i)).length=.tok 1 (needL (c.take (i+1))).length by rw [hs2]),rfl⟩,Tv⟩,Fh,Tv⟩
  have h3:¬ ((i:Int)<((c.map encTm).length:Int)):=h3;have n3:¬ i<c.length:=by have q:=h3; rw [Lm] at q; omega
  have ej:c.take i=c:=List.take_of_length_le (by omega);rw [ej] at hv1 hv2;refine Xi .pure (Xi _ (Yi (show PC 51 [sl encStr (haveL (c.take i)),vs bAnd] (vs PP) by rw [ej,hPP]; exact e51 (haveL c) bAnd (have_big hcp) (by omega) (by decide)) ?_));refine Xi .pure (Xi _ (Yi (show PC 51 [sl encStr (needL (c.take i)),vs bOr] (vs NN) by rw [ej,hNN]; exact e51 (needL c) bOr (need_big hcp) (by omega) (by decide)) ?_));refine Xi ⟨[(5,.slice (.id 17 1) ((haveL (c.take i)).map encStr)),(6,.slice (.id 18 1) ((needL (c.take i)).map encStr)),(8,vs PP),(9,vs NN)],[(17,.tok 1 (haveL (c.take i)).length),(18,.tok 1 (needL (c.take i)).length)],hfree⟩ (Yi ⟨Z4,Z2,Fh,Tv⟩ ?_)
  refine Yi (fun h9=>?_) (fun h9=>?_)
  ·have h9:(((needL (c.take i)).map encStr).length:Int)=(0:Int):=h9;refine Yi (fun h10=>?_) (fun h10=>?_)
   ·have h10:(((haveL (c.take i)).map encStr).length:Int)=(0:Int):=h10;refine Xi ⟨[],[],hfree⟩ (Yi ⟨Tv,Tv,Fh,Tv⟩ ?_)
    exact .of_eq (show vs ⟨#[116,104,105,115,32,105,115,32,105,109,112,111,115,115,105,98,108,101]⟩=vs (incText l) by rw [incText_some hcs,← hcd,incF_len,if_pos (by have q:=h9; rw [Lm,ej] at q; omega),if_pos (by have q:=h10; rw [Lm,ej] at q; omega)])
   have h10:¬ ((((haveL (c.take i)).map encStr).length:Int)=(0:Int)):=h10;refine Xi ⟨[(5,.slice (.id 17 1) ((haveL (c.take i)).map encStr)),(8,vs PP)],[(17,.tok 1 (haveL (c.take i)).length)],hfree⟩ (Yi ⟨Z2,Z1,Fh,Tv⟩ ?_)
   refine Yi (fun h12=>?_) (fun h12=>?_)
   ·have h12:(((haveL (c.take i)).map encStr).length:Int)=(1:Int):=h12;refine Yi (by have q1:=hPs hv1; have q2:=hNs hv2; have l0:(⟨#[32,105,115,32,105,109,112,111,115,115,105,98,108,101]⟩ : ByteArray).size=14:=rfl; show ((PP.size+(⟨#[32,105,115,32,105,109,112,111,115,115,105,98,108,101]⟩ : ByteArray).size:Nat):Int)≤_; omega) ?_;exact .of_eq (show vs (PP++⟨#[32,105,115,32,105,109,112,111,115,115,105,98,108,101]⟩)=vs (incText l) by rw [incText_some hcs,← hcd,incF_len,if_pos (by have q:=h9; rw [Lm,ej] at q; omega),if_neg (by have q:=h10; rw [Lm,ej] at q; omega),if_pos (by have q:=h12; rw [Lm,ej] at q; omega),← hPP])
   have h12:¬ ((((haveL (c.take i)).map encStr).length:Int)=(1:Int)):=h12;refine Xi ⟨[(8,vs PP)],[],hfree⟩ (Yi ⟨Z1,Tv,Fh,Tv⟩ ?_)
   refine Yi (by have q1:=hPs hv1; have q2:=hNs hv2; have l0:(⟨#[32,100,111,32,110,111,116,32,103,111,32,116,111,103,101,116,104,101,114]⟩ : ByteArray).size=19:=rfl; show ((PP.size+(⟨#[32,100,111,32,110,111,116,32,103,111,32,116,111,103,101,116,104,101,114]⟩ : ByteArray).size:Nat):Int)≤_; omega) ?_;exact .of_eq (show vs (PP++⟨#[32,100,111,32,110,111,116,32,103,111,32,116,111,103,101,116,104,101,114]⟩)=vs (incText l) by rw [incText_some hcs,← hcd,incF_len,if_pos (by have q:=h9; rw [Lm,ej] at q; omega),if_neg (by have q:=h10; rw [Lm,ej] at q; omega),if_neg (by have q:=h12; rw [Lm,ej] at q; omega),← hPP])
  have h9:¬ ((((needL (c.take i)).map encStr).length:Int)=(0:Int)):=h9;refine Yi (fun h15=>?_) (fun h15=>?_)
  ·have h15:(((haveL (c.take i)).map encStr).length:Int)=(0:Int):=h15;refine Xi ⟨[(9,vs NN)],[],hfree⟩ (Yi ⟨Z1,Tv,Fh,Tv⟩ ?_)
   refine Yi (by have q1:=hPs hv1; have q2:=hNs hv2; have l0:(⟨#[32,105,115,32,110,101,101,100,101,100]⟩ : ByteArray).size=10:=rfl; show ((NN.size+(⟨#[32,105,115,32,110,101,101,100,101,100]⟩ : ByteArray).size:Nat):Int)≤_; omega) ?_;exact .of_eq (show vs (NN++⟨#[32,105,115,32,110,101,101,100,101,100]⟩)=vs (incText l) by rw [incText_some hcs,← hcd,incF_len,if_neg (by have q:=h9; rw [Lm,ej] at q; omega),if_pos (by have q:=h15; rw [Lm,ej] at q; omega),← hNN])
  have h15:¬ ((((haveL (c.take i)).map encStr).length:Int)=(0:Int)):=h15;refine Xi ⟨[(5,.slice (.id 17 1) ((haveL (c.take i)).map encStr)),(8,vs PP),(9,vs NN)],[(17,.tok 1 (haveL (c.take i)).length)],hfree⟩ (Yi ⟨Z3,Z1,Fh,Tv⟩ ?_)
  refine Yi (fun h17=>?_) (fun h17=>?_)
  ·have h17:(((haveL (c.take i)).map encStr).length:Int)=(1:Int):=h17;refine Yi (by have q1:=hPs hv1; have q2:=hNs hv2; have l0:(⟨#[32,110,101,101,100,115,32]⟩ : ByteArray).size=7:=rfl; show ((PP.size+(⟨#[32,110,101,101,100,115,32]⟩ : ByteArray).size:Nat):Int)≤_; omega) ?_;refine Yi (by have q1:=hPs hv1; have q2:=hNs hv2; have l0:(⟨#[32,110,101,101,100,115,32]⟩ : ByteArray).size=7:=rfl; have q0:=bsize_app PP ⟨#[32,110,101,101,100,115,32]⟩; show (((PP++⟨#[32,110,101,101,100,115,32]⟩).size+NN.size:Nat):Int)≤_; omega) ?_;exact .of_eq (show vs ((PP++⟨#[32,110,101,101,100,115,32]⟩)++NN)=vs (incText l) by rw [incText_some hcs,← hcd,incF_len,if_neg (by have q:=h9; rw [Lm,ej] at q; omega),if_neg (by have q:=h15; rw [Lm,ej] at q; omega),if_pos (by have q:=h17; rw [Lm,ej] at q; omega),← hPP,← hNN])
  have h17:¬ ((((haveL (c.take i)).map encStr).length:Int)=(1:Int)):=h17;refine Xi ⟨[(8,vs PP),(9,vs NN)],[],hfree⟩ (Yi ⟨Z2,Tv,Fh,Tv⟩ ?_)
  refine Yi (by have q1:=hPs hv1; have q2:=hNs hv2; have l0:(⟨#[32,110,101,101,100,32]⟩ : ByteArray).size=6:=rfl; show ((PP.size+(⟨#[32,110,101,101,100,32]⟩ : ByteArray).size:Nat):Int)≤_; omega) ?_;refine Yi (by have q1:=hPs hv1; have q2:=hNs hv2; have l0:(⟨#[32,110,101,101,100,32]⟩ : ByteArray).size=6:=rfl; have q0:=bsize_app PP ⟨#[32,110,101,101,100,32]⟩; show (((PP++⟨#[32,110,101,101,100,32]⟩).size+NN.size:Nat):Int)≤_; omega) ?_;exact .of_eq (show vs ((PP++⟨#[32,110,101,101,100,32]⟩)++NN)=vs (incText l) by rw [incText_some hcs,← hcd,incF_len,if_neg (by have q:=h9; rw [Lm,ej] at q; omega),if_neg (by have q:=h15; rw [Lm,ej] at q; omega),if_neg (by have q:=h17; rw [Lm,ej] at q; omega),← hPP,← hNN])
 have h1:(canonT l).isSome=false:=h1;have hc20:=h50;rw [show (canonT l).isSome=false from h1] at hc20;refine Xi .pure (Xi _ (Yi hc20 ?_));refine Xi ⟨[(3,sl encTm c),(4,vb false)],[],hfree⟩ (Yi ⟨Z2,Tv,Fh,Tv⟩ ?_)
 exact .of_eq (show vs bNothing=vs (incText l) by rw [incText_none h1])
theorem e12 (l:List Tm) (hl:Few l):PC 12 [sl encTm l] (vb (smallT l)):=by
 have hl:l.length≤1073741824:=hl;refine Ps ⟨[],[],[],[],[],[],[],[],[],[],[3,5]⟩ Tryz.func12 rfl (Nz rfl) ?_;refine Xi {i:Nat // i≤l.length∧∀ t ∈ l.take i,t.path.size≤100∧t.set.length≤12} (Xi (fun q=>⟨[(0,sl encTm l),(3,vi q.1)],[],hfree⟩) (Xi (fun q=>l.length - q.1) (Yi (Xi ⟨0,Nat.zero_le _,fun t h=>by simp at h⟩ ?_) ?_)))
 ·exact ⟨Z2,Tv,Fh,Tv⟩
 intro ⟨i,i1,i2⟩;have i1:i≤l.length:=i1;have i2:∀ t ∈ l.take i,t.path.size≤100∧t.set.length≤12:=i2;refine Yi (fun h1=>?_) (fun h1=>?_)
 ·have h1:(i:Int)<((l.map encTm).length:Int):=h1;have n1:i<l.length:=by have q:=h1; rw [Lm] at q; omega
  have g1:l[i]?=some l[i]:=Ge n1;refine Xi (encTm l[i]) (Yi (Yi (Nn i) (map_at g1)) (Yi rfl ?_));refine Yi (fun h2=>?_) (fun h2=>?_)
  ·have h2:(100:Int)<(l[i].path.size:Int):=h2;refine Xi ⟨[],[],hfree⟩ (Yi ⟨Tv,Tv,Fh,Tv⟩ ?_)
   exact .of_eq (show vb false=vb (smallT l) by unfold smallT; rw [decide_eq_false (fun h=>by have q:=h.2 l[i] (List.getElem_mem n1); have q1:=h2; (try rw [Lm] at q1); omega)])
  have h2:¬ ((100:Int)<(l[i].path.size:Int)):=h2;refine Xi (encTm l[i]) (Yi (Yi (Nn i) (map_at g1)) (Yi rfl ?_));refine Yi (fun h4=>?_) (fun h4=>?_)
  ·have h4:(12:Int)<((l[i].set.map encSpan).length:Int):=h4;have n4:12<l[i].set.length:=by have q:=h4; rw [Lm] at q; omega
   refine Xi ⟨[],[],hfree⟩ (Yi ⟨Tv,Tv,Fh,Tv⟩ ?_)
   exact .of_eq (show vb false=vb (smallT l) by unfold smallT; rw [decide_eq_false (fun h=>by have q:=h.2 l[i] (List.getElem_mem n1); have q1:=h4; (try rw [Lm] at q1); omega)])
  have h4:¬ ((12:Int)<((l[i].set.map encSpan).length:Int)):=h4;have n4:¬ 12<l[i].set.length:=by have q:=h4; rw [Lm] at q; omega
  refine Xi ⟨[(0,sl encTm l),(3,vi i)],[],hfree⟩ (Yi ⟨Z2,Tv,Fh,Tv⟩ ?_)
  refine Yi (Ii i (by omega)) ?_;have htk:∀ t ∈ l.take (i+1),t.path.size≤100∧t.set.length≤12:=take_all n1 i2 (by have q1:=h2; have q2:=h4; rw [Lm] at q2; omega);refine Xi ⟨i+1,by omega,htk⟩ ?_;exact ⟨Dl l.length i (by omega),Z2,Tv,Fh,Tv⟩
 have h1:¬ ((i:Int)<((l.map encTm).length:Int)):=h1;have n1:¬ i<l.length:=by have q:=h1; rw [Lm] at q; omega
 refine Yi (fun h7=>?_) (fun h7=>?_)
 ·have h7:((l.map encTm).length:Int)≤(12:Int):=h7;exact .of_eq (show vb true=vb (smallT l) by unfold smallT; rw [decide_eq_true ⟨by have q:=h7; rw [Lm] at q; omega,fun t ht=>i2 t (by rw [List.take_of_length_le (by omega)]; exact ht)⟩])
 have h7:¬ (((l.map encTm).length:Int)≤(12:Int)):=h7;exact .of_eq (show vb false=vb (smallT l) by unfold smallT; rw [decide_eq_false (fun h=>by have q:=h.1; have q1:=h7; rw [Lm] at q1; omega)])
set_option maxHeartbeats 4000000 in
theorem e3 (l:List Tm) (hl:Few l) (hs:∀ t ∈ l,Few t.set) (hp:∀ t ∈ l,FewP t.path):PC 3 [sl encTm l] (vb true):=by
 have k12:=e12 l hl;refine Ps ⟨[],[],[],[],[],[],[],[],[],[],[3,5,8,11]⟩ Tryz.func3 rfl (Nz rfl) ?_;refine Xi .pure (Xi _ (Yi e11 ?_));refine Xi ⟨[(0,sl encTm l)],[],hfree⟩ (Yi ⟨Z1,Tv,Fh,Tv⟩ ?_)
 refine Or.elim (Bt (smallT l)) (fun h1=>?_) (fun h1=>?_)
 ·have h1:(smallT l)=true:=h1;have hsm:=smallT_yes h1;have hl5:l.length≤500000:=by omega
  have hc2:=k12;rw [show (smallT l)=true from h1] at hc2;refine Xi .pure (Xi _ (Yi hc2 ?_));refine Xi ⟨[(0,sl encTm l)],[],hfree⟩ (Yi ⟨Z1,Tv,Fh,Tv⟩ ?_)
  refine Xi {i:Nat // i≤l.length} (Xi (fun q=>⟨[(0,sl encTm l),(10,sl encTm l),(11,vi (l.map encTm).length),(12,vi q.1)],[],hfree⟩) (Xi (fun q=>l.length - q.1) (Yi (Xi ⟨0,Nat.zero_le _⟩ ?_) ?_)))
  ·exact ⟨Z4,Tv,Fh,Tv⟩
  intro ⟨i,i1⟩;have i1:i≤l.length:=i1;refine Yi (fun h3=>?_) (fun h3=>?_)
  ·have h3:(i:Int)<((l.map encTm).length:Int):=h3;have n3:i<l.length:=by have q:=h3; rw [Lm] at q; omega
   have g3:l[i]?=some l[i]:=Ge n3;refine Xi (encTm l[i]) (Yi (Yi (Nn i) (map_at g3)) (Yi rfl ?_));refine Yi (Nz rfl) ?_;refine Yi (Nz rfl) ?_;refine Xi ⟨[(0,sl encTm l),(4,.ref 4 0),(10,sl encTm l),(11,vi (l.map encTm).length),(12,vi i)],[(4,.cells (encTm l[i]))],hfree⟩ (Yi ⟨Z5,Z1,Fh,Tv⟩ ?_)
   refine Yi (Nz rfl) ?_;refine Xi _ (Yi (e13 l[i] (hp _ (List.getElem_mem n3)) (hs _ (List.getElem_mem n3))) ?_);refine Yi (Nz rfl) ?_;refine Xi _ (Yi (e14 l[i] (hp _ (List.getElem_mem n3)) (hs _ (List.getElem_mem n3))) ?_);refine Yi (fun h5=>?_) (fun h5=>?_)
   ·have h5:((termT l[i]):ByteArray)≠(termT l[i]):=h5;refine Yi (by kernel_rfl) ?_;exact absurd rfl h5
   have h5:((termT l[i]):ByteArray)=(termT l[i]):=Classical.byContradiction h5;refine Yi (by kernel_rfl) ?_;refine Yi (Ii i (by omega)) ?_;refine Xi ⟨i+1,by omega⟩ ?_;exact ⟨Dl l.length i (by omega),Z4,Tv,Fh,Tv⟩
  have h3:¬ ((i:Int)<((l.map encTm).length:Int)):=h3;have n3:¬ i<l.length:=by have q:=h3; rw [Lm] at q; omega
  refine Xi ⟨[(0,sl encTm l)],[],hfree⟩ (Yi ⟨Z1,Tv,Fh,Tv⟩ ?_)
  refine Xi .pure (Xi _ (Yi (e15 l hl5 hs hp) ?_));refine Xi .pure (Xi _ (Yi (e16 l hl5 hs hp) ?_));refine Yi (fun h8=>?_) (fun h8=>?_)
  ·have h8:((incText l):ByteArray)=(incText l):=h8;exact .refl _
  have h8:¬ ((incText l):ByteArray)=(incText l):=h8;exact absurd rfl h8
 have h1:(smallT l)=false:=h1;have hc11:=k12;rw [show (smallT l)=false from h1] at hc11;refine Xi .pure (Xi _ (Yi hc11 ?_));exact .refl _
end Go.Eng

namespace Go.Eng
open Go.Proofs
theorem reqT_eq {p:ByteArray} {n:Int} (q:Rq) (h:0≤n∧n<1000000):ofT [⟨p,false,atPl n⟩,⟨q.path,true,compl q.set⟩]=requiresT p n q:=by
 unfold requiresT outside;refine ofT_head (canT1_congr fun k=>?_);unfold atPl;rw [if_neg (by omega)];exact has_one n k h
theorem rel_ok {x:List Rl} {p:ByteArray} {n:Int} {r:Rl} (h:releaseP x p n=some r):r ∈ x∧plc r.ver=n:=by
 have h1:=List.find?_some h;simp only [Bool.and_eq_true,decide_eq_true_eq] at h1;exact ⟨List.mem_of_find?_eq_some h,h1.2⟩
abbrev infR (x:List Rl) (roots:List Rq) (d:List (List Tm)) (i:Nf):AV:=.tup [sl encTm (inferL x roots d i),vb (inferP x roots d i).isSome]
section
variable {x:List Rl} {roots:List Rq} {d:List (List Tm)} {i:Nf}
theorem infR_no (h:inferP x roots d i=none) (h2:i.kind≠2):Sub (.tup [.v (.slice none 0 0),vb false]) (infR x roots d i) :=
 (show Sub (.tup [.v (.slice none 0 0),vb false]) (.tup [.slice .none [],vb false]) from Sub.tup ⟨.nil,.refl _,trivial⟩).trans (.of_eq (show AV.tup [.slice .none [],vb false]=infR x roots d i by unfold infR; rw [inf_none h h2,h]; rfl))
theorem infR_no3 {t:List Tm} (h:inferP x roots d i=none) (h2:i.kind≠2) (ht:t=[]):Sub (.tup [sl encTm t,vb false]) (infR x roots d i) :=
 .of_eq (show AV.tup [sl encTm t,vb false]=infR x roots d i by unfold infR; rw [inf_none h h2,h,ht]; rfl)
theorem infR_yes {t:List Tm} (h:inferP x roots d i=some t) (h2:i.kind≠2):Sub (.tup [sl encTm t,vb true]) (infR x roots d i) :=
 .of_eq (show AV.tup [sl encTm t,vb true]=infR x roots d i by unfold infR; rw [inf_some h h2,h]; rfl)
theorem infR_2 {b:Bool} (h2:i.kind=2) (hb:b=false) (h:inferP x roots d i=none):Sub (.tup [sl encTm (noneT i.path (availP x i.path)),vb b]) (infR x roots d i) :=
 .of_eq (show AV.tup [sl encTm (noneT i.path (availP x i.path)),vb b]=infR x roots d i by unfold infR inferL; rw [if_pos h2,h,hb]; rfl)
theorem infR_2y (h2:i.kind=2) (h:inferP x roots d i=some (noneT i.path (availP x i.path))):Sub (.tup [sl encTm (noneT i.path (availP x i.path)),vb true]) (infR x roots d i) :=
 .of_eq (show AV.tup [sl encTm (noneT i.path (availP x i.path)),vb true]=infR x roots d i by unfold infR inferL; rw [if_pos h2,h]; rfl)
end
set_option maxHeartbeats 4000000 in
theorem c38 (x:List Rl) (ifs:List (List AV)) (roots:List Rq) (d:List (List Tm)) (i:Nf) (h0:checkIx x=0) (hx:∀ r ∈ x,FewR r) (hrf:∀ q ∈ roots,Few q.set) (hdF:∀ t ∈ d,FewI t):PC 114 [.agg (Ic x ifs),sl encRq roots,.agg (encNf i),sl encInc d] (infR x roots d i):=by
 have hxf:Few x:=by have:=(ix_few h0).1; unfold Few; omega
 have hv:∀ r ∈ x,validB r.ver=true:=fun r hr=>((checkIx_ok h0).1 r hr).val;have hxq:∀ r ∈ x,∀ q ∈ r.reqs,Few q.set:=fun r hr q hq=>((hx r hr).2 q hq).1;refine Ps ⟨[],[],[],[],[],[],[],[],[],[],[3,6,7,10,11,12,13,14,17,20,22,23,24,25]⟩ Tryz.func114 rfl (Nz rfl) ?_;refine Yi (Nz rfl) ?_;refine Xi ⟨[(1,sl encRq roots),(3,sl encInc d),(4,.ref 4 0),(6,.ref 6 0),(10,.ref 10 0),(21,vi i.kind)],[(4,.cells (Ic x ifs)),(6,.cells (encNf i)),(10,.cells [vi i.kind,vs ⟨#[]⟩,vi 0,vi 0,vi 0,vi 0])],hfree⟩ (Yi ⟨Z6,Z3,Fh,Tv⟩ ?_)
 refine Yi (fun h1=>?_) (fun h1=>?_)
 ·have h1:(i.kind:Int)=(0:Int):=h1;refine Yi (Nz rfl) ?_;refine Yi (Nz rfl) ?_;refine Yi (Nz rfl) ?_;refine Yi (fun h2=>?_) (fun h2=>?_)
  ·have h2:(i.kind:Int)=i.kind∧(i.path:ByteArray)=⟨#[]⟩∧(i.place:Int)=0∧(i.number:Int)=i.number∧(i.left:Int)=0∧(i.right:Int)=0∧True:=h2;refine Yi (fun h3=>?_) (fun h3=>?_)
   ·have h3:(i.number:Int)<(0:Int):=h3;refine Xi ⟨[],[],hfree⟩ (Yi ⟨Tv,Tv,Fh,Tv⟩ ?_)
    exact infR_no (show inferP x roots d i=none by rw [inf0 h1,if_pos ⟨h2.2.1,h2.2.2.1,h2.2.2.2.2.1,h2.2.2.2.2.2.1⟩]; rw [nthZ_lo h3]; rfl) (by omega)
   have h3:¬ ((i.number:Int)<(0:Int)):=h3;refine Yi (fun h5=>?_) (fun h5=>?_)
   ·have h5:((roots.map encRq).length:Int)≤(i.number:Int):=h5;refine Xi ⟨[],[],hfree⟩ (Yi ⟨Tv,Tv,Fh,Tv⟩ ?_)
    exact infR_no (show inferP x roots d i=none by rw [inf0 h1,if_pos ⟨h2.2.1,h2.2.2.1,h2.2.2.2.2.1,h2.2.2.2.2.2.1⟩]; rw [nthZ_hi (by simpa using h5)]; rfl) (by omega)
   have h5:¬ (((roots.map encRq).length:Int)≤(i.number:Int)):=h5;have hnq:¬ ((roots.length:Nat):Int)≤i.number:=by simpa using h5
   refine Exists.elim (nthZ_in h3 hnq) (fun q hqx=>?_);have hq:=hqx.1;have hqg:=hqx.2.1;have hqm:=hqx.2.2;refine Xi ⟨[(1,sl encRq roots),(6,.ref 6 0)],[(6,.cells (encNf i))],hfree⟩ (Yi ⟨Z2,Z1,Fh,Tv⟩ ?_)
   refine Xi (encRq q) (Yi (Yi (show (0:Int)≤i.number by omega) (map_at hqg)) (Yi rfl ?_));refine Yi (Nz rfl) ?_;refine Xi .pure (Xi _ (Yi (c69 c121 q (hrf q hqm)) ?_));exact infR_yes (show inferP x roots d i=some (rootT q) by rw [inf0 h1,if_pos ⟨h2.2.1,h2.2.2.1,h2.2.2.2.2.1,h2.2.2.2.2.2.1⟩]; rw [hq]; rfl) (by omega)
  have h2:¬ ((i.kind:Int)=i.kind∧(i.path:ByteArray)=⟨#[]⟩∧(i.place:Int)=0∧(i.number:Int)=i.number∧(i.left:Int)=0∧(i.right:Int)=0∧True):=h2;refine Xi ⟨[],[],hfree⟩ (Yi ⟨Tv,Tv,Fh,Tv⟩ ?_)
  exact infR_no (show inferP x roots d i=none by rw [inf0 h1]; exact if_neg (fun hq=>h2 ⟨rfl,hq.1,hq.2.1,rfl,hq.2.2.1,hq.2.2.2,trivial⟩)) (by omega)
 have h1:¬ ((i.kind:Int)=(0:Int)):=h1;refine Yi (fun h9=>?_) (fun h9=>?_)
 ·have h9:(i.kind:Int)=(1:Int):=h9;refine Yi (Nz rfl) ?_;refine Yi (Nz rfl) ?_;refine Yi (Nz rfl) ?_;refine Yi (by kernel_rfl) ?_;refine Xi ⟨[(4,.ref 4 0),(6,.ref 6 0),(10,.ref 10 0)],[(4,.cells (Ic x ifs)),(6,.cells (encNf i)),(10,.cells [vi i.kind,vs i.path,vi i.place,vi i.number,vi 0,vi 0])],hfree⟩ (Yi ⟨Z3,Z3,Fh,Tv⟩ ?_)
  refine Yi (Nz rfl) ?_;refine Or.elim (opt_cases (releaseP x i.path i.place)) (fun h10=>?_) (fun h10=>?_)
  ·refine Exists.elim h10 (fun r h10=>?_);have hc10:=c70 x ifs i.path i.place hxf hv;rw [h10] at hc10;refine Xi .pure (Xi _ (Yi hc10 ?_));refine Yi (Nz rfl) ?_;refine Xi ⟨[(6,.ref 6 0),(10,.ref 10 0),(11,.ref 11 0),(12,vb true)],[(6,.cells (encNf i)),(10,.cells [vi i.kind,vs i.path,vi i.place,vi i.number,vi 0,vi 0]),(11,.cells (encRl r))],hfree⟩ (Yi ⟨Z4,Z3,Fh,Tv⟩ ?_)
   refine Yi (Nz rfl) ?_;refine Yi (Nz rfl) ?_;refine Yi (fun h11=>?_) (fun h11=>?_)
   ·have h11:(i.kind:Int)=i.kind∧(i.path:ByteArray)=i.path∧(i.place:Int)=i.place∧(i.number:Int)=i.number∧(i.left:Int)=0∧(i.right:Int)=0∧True:=h11;refine Yi (fun h12=>?_) (fun h12=>?_)
    ·have h12:(i.number:Int)<(0:Int):=h12;refine Xi ⟨[],[],hfree⟩ (Yi ⟨Tv,Tv,Fh,Tv⟩ ?_)
     exact infR_no (show inferP x roots d i=none by rw [inf1 h9,if_pos ⟨h11.2.2.2.2.1,h11.2.2.2.2.2.1⟩]; rw [h10]; show (match nthZ r.reqs i.number with | none=>none | some q=>_)=none; rw [nthZ_lo h12]) (by omega)
    have h12:¬ ((i.number:Int)<(0:Int)):=h12;refine Yi (fun h14=>?_) (fun h14=>?_)
    ·have h14:((r.reqs.map encRq).length:Int)≤(i.number:Int):=h14;refine Xi ⟨[],[],hfree⟩ (Yi ⟨Tv,Tv,Fh,Tv⟩ ?_)
     exact infR_no (show inferP x roots d i=none by rw [inf1 h9,if_pos ⟨h11.2.2.2.2.1,h11.2.2.2.2.2.1⟩]; rw [h10]; show (match nthZ r.reqs i.number with | none=>none | some q=>_)=none; rw [nthZ_hi (by simpa using h14)]) (by omega)
    have h14:¬ (((r.reqs.map encRq).length:Int)≤(i.number:Int)):=h14;have hnq:¬ ((r.reqs.length:Nat):Int)≤i.number:=by simpa using h14
    refine Exists.elim (nthZ_in h12 hnq) (fun q hqx=>?_);have hq:=hqx.1;have hqg:=hqx.2.1;have hqm:=hqx.2.2;have hro:=rel_ok h10;have hpr:=plc_rng r.ver;rw [hro.2] at hpr;have hqF:Few q.set:=(hxq r hro.1 q hqm);have hc71:PC 174 [vs i.path,vi i.place,.agg (encRq q)] (sl encTm (requiresT i.path i.place q)):=by
     rw [← reqT_eq q hpr];exact c71 c121 i.path i.place (by omega) q hqF
    refine Xi ⟨[(6,.ref 6 0),(11,.ref 11 0)],[(6,.cells (encNf i)),(11,.cells (encRl r))],hfree⟩ (Yi ⟨Z2,Z2,Fh,Tv⟩ ?_)
    refine Xi (encRq q) (Yi (Yi (show (0:Int)≤i.number by omega) (map_at hqg)) (Yi rfl ?_));refine Yi (Nz rfl) ?_;refine Xi _ (Yi hc71 ?_);refine Yi (by kernel_rfl) ?_;refine Xi ⟨[(13,sl encTm (requiresT i.path i.place q))],[],hfree⟩ (Yi ⟨Z1,Tv,Fh,Tv⟩ ?_)
    refine Yi (fun h16=>?_) (fun h16=>?_)
    ·have h16:(0:Int)<(((requiresT i.path i.place q).map encTm).length:Int):=h16;have n16:0<(requiresT i.path i.place q).length:=by simpa using h16
     have g16:(requiresT i.path i.place q)[0]?=some (requiresT i.path i.place q)[0]:=Ge n16;exact infR_yes (show inferP x roots d i=some (requiresT i.path i.place q) by rw [inf1 h9,if_pos ⟨h11.2.2.2.2.1,h11.2.2.2.2.2.1⟩]; rw [h10]; show (match nthZ r.reqs i.number with | none=>none | some q=>ne0 (requiresT i.path i.place q))=_; rw [hq]; exact ne0_ne (fun e0=>by rw [e0] at h16; exact absurd h16 (by decide))) (by omega)
    have h16:¬ ((0:Int)<(((requiresT i.path i.place q).map encTm).length:Int)):=h16;have n16:¬ 0<(requiresT i.path i.place q).length:=by simpa using h16
    have e0:requiresT i.path i.place q=[]:=List.eq_nil_of_length_eq_zero (by rw [Lm] at h16; omega);have e1:inferP x roots d i=none:=by rw [inf1 h9,if_pos ⟨h11.2.2.2.2.1,h11.2.2.2.2.2.1⟩]; rw [h10]; show (match nthZ r.reqs i.number with | none=>none | some q=>ne0 (requiresT i.path i.place q))=_; rw [hq]; show ne0 (requiresT i.path i.place q)=none; rw [e0]; rfl
    exact infR_no3 e1 (by omega) e0
   have h11:¬ ((i.kind:Int)=i.kind∧(i.path:ByteArray)=i.path∧(i.place:Int)=i.place∧(i.number:Int)=i.number∧(i.left:Int)=0∧(i.right:Int)=0∧True):=h11;refine Xi ⟨[],[],hfree⟩ (Yi ⟨Tv,Tv,Fh,Tv⟩ ?_)
   exact infR_no (show inferP x roots d i=none by rw [inf1 h9]; exact if_neg (fun hq=>h11 ⟨rfl,rfl,rfl,rfl,hq.1,hq.2,trivial⟩)) (by omega)
  have hc10:=c70 x ifs i.path i.place hxf hv;rw [h10] at hc10;refine Xi .pure (Xi _ (Yi hc10 ?_));refine Yi (Nz rfl) ?_;refine Xi ⟨[(6,.ref 6 0),(10,.ref 10 0),(11,.ref 11 0),(12,vb false)],[(6,.cells (encNf i)),(10,.cells [vi i.kind,vs i.path,vi i.place,vi i.number,vi 0,vi 0]),(11,.cells [vs ⟨#[]⟩,vi 0,vi 0,vi 0,.v (.slice none 0 0),vs ⟨#[]⟩,vs ⟨#[]⟩,vs ⟨#[]⟩,vb false])],hfree⟩ (Yi ⟨Z4,Z3,Fh,Tv⟩ ?_)
  refine Yi (Nz rfl) ?_;refine Yi (Nz rfl) ?_;refine Yi (fun h20=>?_) (fun h20=>?_)
  ·have h20:(i.kind:Int)=i.kind∧(i.path:ByteArray)=i.path∧(i.place:Int)=i.place∧(i.number:Int)=i.number∧(i.left:Int)=0∧(i.right:Int)=0∧True:=h20;refine Xi ⟨[],[],hfree⟩ (Yi ⟨Tv,Tv,Fh,Tv⟩ ?_)
   exact infR_no (show inferP x roots d i=none by rw [inf1 h9,if_pos ⟨h20.2.2.2.2.1,h20.2.2.2.2.2.1⟩]; rw [h10]) (by omega)
  have h20:¬ ((i.kind:Int)=i.kind∧(i.path:ByteArray)=i.path∧(i.place:Int)=i.place∧(i.number:Int)=i.number∧(i.left:Int)=0∧(i.right:Int)=0∧True):=h20;refine Xi ⟨[],[],hfree⟩ (Yi ⟨Tv,Tv,Fh,Tv⟩ ?_)
  exact infR_no (show inferP x roots d i=none by rw [inf1 h9]; exact if_neg (fun hq=>h20 ⟨rfl,rfl,rfl,rfl,hq.1,hq.2,trivial⟩)) (by omega)
 have h9:¬ ((i.kind:Int)=(1:Int)):=h9;refine Yi (fun h23=>?_) (fun h23=>?_)
 ·have h23:(i.kind:Int)=(2:Int):=h23;refine Yi (Nz rfl) ?_;refine Xi ⟨[(4,.ref 4 0),(6,.ref 6 0),(10,.ref 10 0)],[(4,.cells (Ic x ifs)),(6,.cells (encNf i)),(10,.cells [vi i.kind,vs i.path,vi 0,vi 0,vi 0,vi 0])],hfree⟩ (Yi ⟨Z3,Z3,Fh,Tv⟩ ?_)
  refine Yi (Nz rfl) ?_;refine Xi _ (Yi (c73 x ifs i.path hx) ?_);refine Xi _ (Yi (c72 c121 i.path (availP x i.path) (canon_fw _)) ?_);refine Yi (Nz rfl) ?_;refine Yi (Nz rfl) ?_;refine Yi (fun h24=>?_) (fun h24=>?_)
  ·have h24:(i.kind:Int)=i.kind∧(i.path:ByteArray)=i.path∧(i.place:Int)=0∧(i.number:Int)=0∧(i.left:Int)=0∧(i.right:Int)=0∧True:=h24;refine Yi (by kernel_rfl) ?_;exact infR_2y h23 (show inferP x roots d i=some (noneT i.path (availP x i.path)) by rw [inf2 h23,if_pos ⟨h24.2.2.1,h24.2.2.2.1,h24.2.2.2.2.1,h24.2.2.2.2.2.1⟩]; exact ne0_ne (none_ne x i.path i.path (fun h=>(ix_few h).1)))
  have h24:¬ ((i.kind:Int)=i.kind∧(i.path:ByteArray)=i.path∧(i.place:Int)=0∧(i.number:Int)=0∧(i.left:Int)=0∧(i.right:Int)=0∧True):=h24;refine Yi (by kernel_rfl) ?_;exact infR_2 h23 (by decide) (show inferP x roots d i=none by rw [inf2 h23]; exact if_neg (fun hq=>h24 ⟨rfl,rfl,hq.1,hq.2.1,hq.2.2.1,hq.2.2.2,trivial⟩))
 have h23:¬ ((i.kind:Int)=(2:Int)):=h23;refine Yi (fun h27=>?_) (fun h27=>?_)
 ·have h27:(i.kind:Int)=(3:Int):=h27;refine Yi (Nz rfl) ?_;refine Yi (Nz rfl) ?_;refine Yi (Nz rfl) ?_;refine Yi (by kernel_rfl) ?_;refine Xi ⟨[(3,sl encInc d),(6,.ref 6 0),(10,.ref 10 0)],[(6,.cells (encNf i)),(10,.cells [vi i.kind,vs i.path,vi 0,vi 0,vi i.left,vi i.right])],hfree⟩ (Yi ⟨Z3,Z2,Fh,Tv⟩ ?_)
  refine Yi (Nz rfl) ?_;refine Yi (Nz rfl) ?_;refine Yi (fun h28=>?_) (fun h28=>?_)
  ·have h28:(i.kind:Int)=i.kind∧(i.path:ByteArray)=i.path∧(i.place:Int)=0∧(i.number:Int)=0∧(i.left:Int)=i.left∧(i.right:Int)=i.right∧True:=h28;refine Yi (fun h29=>?_) (fun h29=>?_)
   ·have h29:(i.left:Int)<(0:Int):=h29;refine Xi ⟨[],[],hfree⟩ (Yi ⟨Tv,Tv,Fh,Tv⟩ ?_)
    exact infR_no (show inferP x roots d i=none by rw [inf3 h27,if_pos ⟨h28.2.2.1,h28.2.2.2.1⟩]; rw [nthZ_lo (l:=d) h29]) (by omega)
   have h29:¬ ((i.left:Int)<(0:Int)):=h29;refine Yi (fun h31=>?_) (fun h31=>?_)
   ·have h31:((d.map encInc).length:Int)≤(i.left:Int):=h31;refine Xi ⟨[],[],hfree⟩ (Yi ⟨Tv,Tv,Fh,Tv⟩ ?_)
    exact infR_no (show inferP x roots d i=none by rw [inf3 h27,if_pos ⟨h28.2.2.1,h28.2.2.2.1⟩]; rw [nthZ_hi (l:=d) (n:=i.left) (by simpa using h31)]) (by omega)
   have h31:¬ (((d.map encInc).length:Int)≤(i.left:Int)):=h31;have hnta:¬ ((d.length:Nat):Int)≤i.left:=by simpa using h31
   refine Exists.elim (nthZ_in h29 hnta) (fun ta htax=>?_);have hta:=htax.1;have htag:=htax.2.1;have htam:=htax.2.2;refine Yi (fun h33=>?_) (fun h33=>?_)
   ·have h33:(i.right:Int)<(0:Int):=h33;refine Xi ⟨[],[],hfree⟩ (Yi ⟨Tv,Tv,Fh,Tv⟩ ?_)
    exact infR_no (show inferP x roots d i=none by rw [inf3 h27,if_pos ⟨h28.2.2.1,h28.2.2.2.1⟩]; rw [hta,nthZ_lo (l:=d) (n:=i.right) h33]) (by omega)
   have h33:¬ ((i.right:Int)<(0:Int)):=h33;refine Yi (fun h35=>?_) (fun h35=>?_)
   ·have h35:((d.map encInc).length:Int)≤(i.right:Int):=h35;refine Xi ⟨[],[],hfree⟩ (Yi ⟨Tv,Tv,Fh,Tv⟩ ?_)
    exact infR_no (show inferP x roots d i=none by rw [inf3 h27,if_pos ⟨h28.2.2.1,h28.2.2.2.1⟩]; rw [hta,nthZ_hi (l:=d) (n:=i.right) (by simpa using h35)]) (by omega)
   have h35:¬ (((d.map encInc).length:Int)≤(i.right:Int)):=h35;have hntb:¬ ((d.length:Nat):Int)≤i.right:=by simpa using h35
   refine Exists.elim (nthZ_in h33 hntb) (fun tb htbx=>?_);have htb:=htbx.1;have htbg:=htbx.2.1;have htbm:=htbx.2.2;refine Xi ⟨[(3,sl encInc d),(6,.ref 6 0)],[(6,.cells (encNf i))],hfree⟩ (Yi ⟨Z2,Z1,Fh,Tv⟩ ?_)
   refine Xi (encInc ta) (Yi (Yi (show (0:Int)≤i.left by omega) (map_at htag)) (Yi rfl ?_));refine Xi (encInc tb) (Yi (Yi (show (0:Int)≤i.right by omega) (map_at htbg)) (Yi rfl ?_));refine Xi _ (Yi (c74 ta tb i.path (hdF ta htam) (hdF tb htbm)) ?_);refine Yi (by kernel_rfl) ?_;refine Xi ⟨[(15,sl encTm ((resolveT ta tb i.path).1)),(16,vi ((resolveT ta tb i.path).2))],[],hfree⟩ (Yi ⟨Z2,Tv,Fh,Tv⟩ ?_)
   refine Yi (fun h37=>?_) (fun h37=>?_)
   ·have h37:((resolveT ta tb i.path).2:Int)=(0:Int):=h37;exact infR_yes (show inferP x roots d i=some (resolveT ta tb i.path).1 by rw [inf3 h27,if_pos ⟨h28.2.2.1,h28.2.2.2.1⟩]; rw [hta,htb]; show (if (resolveT ta tb i.path).2=0 then some (resolveT ta tb i.path).1 else none)=_; exact if_pos h37) (by omega)
   have h37:¬ (((resolveT ta tb i.path).2:Int)=(0:Int)):=h37;exact infR_no3 (show inferP x roots d i=none by rw [inf3 h27,if_pos ⟨h28.2.2.1,h28.2.2.2.1⟩]; rw [hta,htb]; show (if (resolveT ta tb i.path).2=0 then some (resolveT ta tb i.path).1 else none)=_; exact if_neg h37) (by omega) (res_err h37)
  have h28:¬ ((i.kind:Int)=i.kind∧(i.path:ByteArray)=i.path∧(i.place:Int)=0∧(i.number:Int)=0∧(i.left:Int)=i.left∧(i.right:Int)=i.right∧True):=h28;refine Xi ⟨[],[],hfree⟩ (Yi ⟨Tv,Tv,Fh,Tv⟩ ?_)
  exact infR_no (show inferP x roots d i=none by rw [inf3 h27]; exact if_neg (fun hq=>h28 ⟨rfl,rfl,hq.1,hq.2,rfl,rfl,trivial⟩)) (by omega)
 have h27:¬ ((i.kind:Int)=(3:Int)):=h27;refine Xi ⟨[],[],hfree⟩ (Yi ⟨Tv,Tv,Fh,Tv⟩ ?_)
 exact infR_no (show inferP x roots d i=none by exact infx h1 h9 h23 h27) (by omega)
end Go.Eng

namespace Go.Eng
open Go.Proofs
end Go.Eng
