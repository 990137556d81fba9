/- Lemmas for the claims of this seat, without a condition: part 23 (R1, R2, R3, R4, R5, C60, C61, C62, C63, C64, R6). -/
import Derived.Test.YtpgfieopnnkpfaaGreatDoorA20
namespace Go.Eng
open Go.Proofs
theorem c250 (c:UInt8):PC 294 [vc c] (vb (smallC c)):=by
 refine Ps pl0 Tryz.func294 rfl (Nz rfl) ?_;have e1:decide ((97:UInt8)≤c)=decide ((97:Int)≤(c.toNat:Int)):=u8_le c 97 (by decide);have e2:decide (c≤(122:UInt8))=decide ((c.toNat:Int)≤(122:Int)):=u8_ge c 122 (by decide);have es:smallC c=(decide ((97:Int)≤(c.toNat:Int))&&decide ((c.toNat:Int)≤(122:Int))):=by unfold smallC; rw [e1,e2]
 refine Yi ?_ ?_
 ·intro h;have h:(97:Int)≤(c.toNat:Int):=h;refine Yi ?_ ?_
  ·intro h2;have h2:(c.toNat:Int)≤122:=h2;exact .of_eq (congrArg vb (show true=smallC c by rw [es,decide_eq_true h,decide_eq_true h2]; rfl))
  ·intro h2;have h2:¬ (c.toNat:Int)≤122:=h2;exact .of_eq (congrArg vb (show false=smallC c by rw [es,decide_eq_false h2,Bool.and_false]))
 ·intro h;have h:¬ (97:Int)≤(c.toNat:Int):=h;exact .of_eq (congrArg vb (show false=smallC c by rw [es,decide_eq_false h]; rfl))
theorem c251 (c:UInt8):PC 295 [vc c] (vb (digitC c)):=by
 refine Ps pl0 Tryz.func295 rfl (Nz rfl) ?_;have e1:decide ((48:UInt8)≤c)=decide ((48:Int)≤(c.toNat:Int)):=u8_le c 48 (by decide);have e2:decide (c≤(57:UInt8))=decide ((c.toNat:Int)≤(57:Int)):=u8_ge c 57 (by decide);have es:digitC c=(decide ((48:Int)≤(c.toNat:Int))&&decide ((c.toNat:Int)≤(57:Int))):=by unfold digitC; rw [e1,e2]
 refine Yi ?_ ?_
 ·intro h;have h:(48:Int)≤(c.toNat:Int):=h;refine Yi ?_ ?_
  ·intro h2;have h2:(c.toNat:Int)≤57:=h2;exact .of_eq (congrArg vb (show true=digitC c by rw [es,decide_eq_true h,decide_eq_true h2]; rfl))
  ·intro h2;have h2:¬ (c.toNat:Int)≤57:=h2;exact .of_eq (congrArg vb (show false=digitC c by rw [es,decide_eq_false h2,Bool.and_false]))
 ·intro h;have h:¬ (48:Int)≤(c.toNat:Int):=h;exact .of_eq (congrArg vb (show false=digitC c by rw [es,decide_eq_false h]; rfl))
theorem c279 (c:UInt8):PC 351 [vc c] (vb (capC c)):=by
 refine Ps pl0 Tryz.func351 rfl (Nz rfl) ?_;have e1:decide ((65:UInt8)≤c)=decide ((65:Int)≤(c.toNat:Int)):=u8_le c 65 (by decide);have e2:decide (c≤(90:UInt8))=decide ((c.toNat:Int)≤(90:Int)):=u8_ge c 90 (by decide);have es:capC c=(decide ((65:Int)≤(c.toNat:Int))&&decide ((c.toNat:Int)≤(90:Int))):=by unfold capC; rw [e1,e2]
 refine Yi ?_ ?_
 ·intro h;have h:(65:Int)≤(c.toNat:Int):=h;refine Yi ?_ ?_
  ·intro h2;have h2:(c.toNat:Int)≤90:=h2;exact .of_eq (congrArg vb (show true=capC c by rw [es,decide_eq_true h,decide_eq_true h2]; rfl))
  ·intro h2;have h2:¬ (c.toNat:Int)≤90:=h2;exact .of_eq (congrArg vb (show false=capC c by rw [es,decide_eq_false h2,Bool.and_false]))
 ·intro h;have h:¬ (65:Int)≤(c.toNat:Int):=h;exact .of_eq (congrArg vb (show false=capC c by rw [es,decide_eq_false h]; rfl))
theorem c273 (c:UInt8):PC 345 [vc c] (vb (wordC c)):=by
 have h1:=c250 c;have h2:=c279 c;have h3:=c251 c;have ew:wordC c=(smallC c||capC c||digitC c||decide (c=95)):=rfl;rcases Bt (smallC c) with e | e
 ·rw [e] at h1;refine Ps pl0 Tryz.func345 rfl (Nz rfl) ?_;refine Xi .pure (Xi _ (Yi (h1) ?_));exact .of_eq (congrArg vb (show true=wordC c by rw [ew,e]; rfl))
 rw [e] at h1;rcases Bt (capC c) with e2 | e2
 ·rw [e2] at h2;refine Ps pl0 Tryz.func345 rfl (Nz rfl) ?_;refine Xi .pure (Xi _ (Yi (h1) ?_));refine Xi .pure (Xi _ (Yi (h2) ?_));exact .of_eq (congrArg vb (show true=wordC c by rw [ew,e,e2]; rfl))
 rw [e2] at h2;rcases Bt (digitC c) with e3 | e3
 ·rw [e3] at h3;refine Ps pl0 Tryz.func345 rfl (Nz rfl) ?_;refine Xi .pure (Xi _ (Yi (h1) ?_));refine Xi .pure (Xi _ (Yi (h2) ?_));refine Xi .pure (Xi _ (Yi (h3) ?_));exact .of_eq (congrArg vb (show true=wordC c by rw [ew,e,e2,e3]; rfl))
 rw [e3] at h3;refine Ps pl0 Tryz.func345 rfl (Nz rfl) ?_;refine Xi .pure (Xi _ (Yi (h1) ?_));refine Xi .pure (Xi _ (Yi (h2) ?_));refine Xi .pure (Xi _ (Yi (h3) ?_));have eb:decide (c=95)=decide ((c.toNat:Int)=95):=by
  rw [Bool.eq_iff_iff,decide_eq_true_eq,decide_eq_true_eq];constructor
  ·intro h; subst h; rfl
  ·intro h; exact UInt8.toNat_inj.1 (by show c.toNat=95; omega)
 refine Yi ?_ ?_
 ·intro h;have h:(c.toNat:Int)=95:=h;exact .of_eq (congrArg vb (show true=wordC c by rw [ew,e,e2,e3,eb,decide_eq_true h]; rfl))
 ·intro h;have h:¬ (c.toNat:Int)=95:=h;exact .of_eq (congrArg vb (show false=wordC c by rw [ew,e,e2,e3,eb,decide_eq_false h]; rfl))
theorem c264 (s:ByteArray) (hs:s.data.toList.length<4611686018427387904):PC 330 [vs s] (vb (s.data.toList.all wordC)):=by
 have hsz:s.size=s.data.toList.length:=by simp
 refine Ps pl0 Tryz.func330 rfl (Nz rfl) ?_;refine Xi {i:Nat // i≤s.data.toList.length∧∀ j (hj:j<s.data.toList.length),j<i→wordC s.data.toList[j]=true} (Xi (fun i=>⟨[(0,vs s),(3,vi i.1)],[],hfree⟩) (Xi (fun i=>s.data.toList.length - i.1) (Yi (Xi ⟨0,Nat.zero_le _,fun j _ h=>by omega⟩ ?_) ?_)))
 ·exact ⟨Z2,Tv,Fh,Tv⟩
 intro ⟨i,h1,h2⟩;refine Yi ?_ ?_
 ·intro h;have h:(i:Int)<(s.size:Nat):=h;have h:i<s.data.toList.length:=by omega
  refine Xi s.data.toList[i] (Yi ⟨by show (0:Int)≤i; omega,by show s.data[((i:Nat):Int).toNat]?=_; rw [Int.toNat_natCast]; exact at_data s i h⟩ ?_);have hc:=c273 s.data.toList[i];refine Or.elim (Bt (wordC s.data.toList[i])) (fun e=>?_) (fun e=>?_)
  ·rw [e] at hc;refine Xi .pure (Xi _ (Yi (hc) ?_));refine Yi (Ii i (by omega)) ?_;refine Xi ⟨i+1,by omega,fun j hj hji=>?_⟩ ?_
   ·rcases Nat.lt_or_ge j i with z | z
    ·exact h2 j hj z
    ·have:j=i:=by omega
     subst this; exact e
   ·exact ⟨Dl s.data.toList.length i (by omega),Z2,Tv,Fh,Tv⟩
  ·rw [e] at hc;refine Xi .pure (Xi _ (Yi (hc) ?_));have er:s.data.toList.all wordC=false:=by
    rw [Bool.eq_false_iff];intro ha
    have:=List.all_eq_true.1 ha _ (List.getElem_mem h)
    rw [e] at this; cases this
   exact .of_eq (congrArg vb er.symm)
 ·intro h;have h:¬ (i:Int)<(s.size:Nat):=h;have er:s.data.toList.all wordC=true:=List.all_eq_true.2 fun c hc=>by
   obtain ⟨j,hj,rfl⟩:=List.getElem_of_mem hc;exact h2 j hj (by omega)
  exact .of_eq (congrArg vb er.symm)
end Go.Eng

namespace Go.Eng
open Go.Proofs
abbrev kwB:List ByteArray:=kwW.map bs
theorem c266:PC 332 [] (sl encStr kwB):=by
 refine Ps pl0 Tryz.func332 rfl (Nz rfl) ?_;exact .refl _
theorem c265 (l:List ByteArray) (s:ByteArray) (hl:Few l):PC 331 [sl encStr l,vs s] (vb (l.any fun q=>decide (q=s))):=by
 unfold Few at hl;refine Ps pl0 Tryz.func331 rfl (Nz rfl) ?_;refine Xi {i:Nat // i≤l.length∧∀ j (hj:j<l.length),j<i→l[j]≠s} (Xi (fun i=>⟨[(0,sl encStr l),(1,vs s),(5,vi i.1)],[],hfree⟩) (Xi (fun i=>l.length - i.1) (Yi (Xi ⟨0,Nat.zero_le _,fun j _ h=>by omega⟩ ?_) ?_)))
 ·exact ⟨Z3,Tv,Fh,Tv⟩
 intro ⟨i,h1,h2⟩;refine Yi ?_ ?_
 ·intro h;have h:(i:Int)<(l.map encStr).length:=h;have h:i<l.length:=by simpa using h
  have hg:l[i]?=some l[i]:=Ge h;refine Xi (encStr l[i]) (Yi (Yi (Nn i) (by simp [hg])) (Yi rfl ?_));refine Yi ?_ ?_
  ·intro he;have he:l[i]=s:=he;exact .of_eq (congrArg vb (show true=_ from (List.any_eq_true.2 ⟨l[i],List.getElem_mem h,by simpa using he⟩).symm))
  ·intro he;have he:¬ l[i]=s:=he;refine Yi (Ii i (by omega)) ?_;refine Xi ⟨i+1,by omega,fun j hj hji=>?_⟩ ?_
   ·rcases Nat.lt_or_ge j i with z | z
    ·exact h2 j hj z
    ·have:j=i:=by omega
     subst this; exact he
   ·exact ⟨Dl l.length i (by omega),Z3,Tv,Fh,Tv⟩
 ·intro h;have h:¬ (i:Int)<(l.map encStr).length:=h;have h:¬ i<l.length:=by simpa using h
  have er:(l.any fun q=>decide (q=s))=false:=by
   rw [List.any_eq_false];intro q hq;obtain ⟨j,hj,rfl⟩:=List.getElem_of_mem hq;simpa using h2 j hj (by omega)
  exact .of_eq (congrArg vb er.symm)
theorem bs_eq {w:List UInt8} {s:ByteArray} : bs w=s↔w=s.data.toList:=by
 constructor
 ·intro h; rw [← h]; rfl
 ·intro h; rw [h]; rfl
theorem kw_any (s:ByteArray):(kwB.any fun q=>decide (q=s))=kwW.any (fun w=>decide (w=s.data.toList)):=by
 unfold kwB;rw [List.any_map]
 congr 1
 funext w
 simp only [Function.comp];rw [decide_eq_decide];exact bs_eq
theorem c252 (s:ByteArray) (hs:s.data.toList.length<4611686018427387904):PC 296 [vs s] (vb (isNameL s.data.toList)):=by
 have hsz:s.size=s.data.toList.length:=by simp
 obtain ⟨N,hN⟩ : ∃ N,N=isNameL s.data.toList:=⟨_,rfl⟩;rw [← hN];unfold isNameL at hN;have h264:=c264 s hs;have h265:=c265 kwB s (by decide);rw [kw_any] at h265;refine Ps pl0 Tryz.func296 rfl (Nz rfl) ?_;refine Yi (fun h=>?_) (fun h=>?_)
 rotate_left
 ·have h:¬ (1:Int)≤(s.size:Nat):=h;have e:s.data.toList=[]:=List.eq_nil_of_length_eq_zero (by omega);exact .of_eq (congrArg vb (show false=N by rw [hN,e]; rfl))
 have h:(1:Int)≤(s.size:Nat):=h;have he:s.data.toList.isEmpty=false:=by
  cases e:s.data.toList with
  | nil=>rw [e,List.length_nil] at hsz; omega
  | cons _ _=>rfl
 refine Yi (fun h2=>?_) (fun h2=>?_)
 rotate_left
 ·have h2:¬ ((s.size:Nat):Int)≤32:=h2;exact .of_eq (congrArg vb (show false=N by rw [hN,he,decide_eq_false (by omega)]; rfl))
 have h2:((s.size:Nat):Int)≤32:=h2;refine Exists.elim (show ∃ c l,s.data.toList=c :: l by cases e:s.data.toList with | nil=>rw [e] at he; cases he | cons c l=>exact ⟨c,l,rfl⟩) (fun c hc=>?_);refine Exists.elim hc (fun l hc=>?_);refine Xi c (Yi ⟨by decide,by show s.data[(0:Int).toNat]?=_; rw [← Array.getElem?_toList,hc]; rfl⟩ ?_);have h250:=c250 c;have hN:N=(smallC c&&s.data.toList.all wordC&&!keyB s.data.toList):=by
  rw [hN,he,decide_eq_true (by omega),hc]; rfl
 refine Or.elim (Bt (smallC c)).symm (fun e=>?_) (fun e=>?_)
 ·rw [e] at h250;refine Xi .pure (Xi _ (Yi (h250) ?_));exact .of_eq (congrArg vb (show false=N by rw [hN,e]; rfl))
 rw [e] at h250;refine Xi .pure (Xi _ (Yi (h250) ?_));refine Or.elim (Bt (s.data.toList.all wordC)).symm (fun e2=>?_) (fun e2=>?_)
 ·rw [e2] at h264;refine Xi .pure (Xi _ (Yi (h264) ?_));exact .of_eq (congrArg vb (show false=N by rw [hN,e,e2]; rfl))
 rw [e2] at h264;refine Xi .pure (Xi _ (Yi (h264) ?_));refine Xi .pure (Xi _ (Yi (c266) ?_));rw [keyB_words e2] at hN;refine Or.elim (Bt (kwW.any (fun w=>decide (w=s.data.toList)))) (fun e3=>?_) (fun e3=>?_)
 ·rw [e3] at h265;refine Xi .pure (Xi _ (Yi (h265) ?_));exact .of_eq (congrArg vb (show false=N by rw [hN,e,e2,e3]; rfl))
 ·rw [e3] at h265;refine Xi .pure (Xi _ (Yi (h265) ?_));exact .of_eq (congrArg vb (show true=N by rw [hN,e,e2,e3]; rfl))
end Go.Eng

namespace Go.Eng
open Go.Proofs
theorem segC_and {s:ByteArray} : segOk s.data.toList=(s.data.toList.all segC&&isNameL s.data.toList):=by
 unfold segOk; rw [Bool.and_comm]
theorem c227 (s:ByteArray) (hs:s.data.toList.length<4611686018427387904):PC 231 [vs s] (vb (segOk s.data.toList)):=by
 have hsz:s.size=s.data.toList.length:=by simp
 have h252:=c252 s hs;rw [segC_and];refine Ps pl0 Tryz.func231 rfl (Nz rfl) ?_;refine Xi {i:Nat // i≤s.data.toList.length∧∀ j (hj:j<s.data.toList.length),j<i→segC s.data.toList[j]=true} (Xi (fun i=>⟨[(0,vs s),(3,vi i.1)],[],hfree⟩) (Xi (fun i=>s.data.toList.length - i.1) (Yi (Xi ⟨0,Nat.zero_le _,fun j _ h=>by omega⟩ ?_) ?_)))
 ·exact ⟨Z2,Tv,Fh,Tv⟩
 intro ⟨i,h1,h2⟩;refine Yi ?_ ?_
 ·intro h;have h:(i:Int)<(s.size:Nat):=h;have h:i<s.data.toList.length:=by omega
  have hat:(0:Int)≤i∧s.data[((i:Nat):Int).toNat]?=some s.data.toList[i]:=⟨by omega,by rw [Int.toNat_natCast]; exact at_data s i h⟩;have nx:segC s.data.toList[i]=true→∀ j (hj:j<s.data.toList.length),j<i+1→segC s.data.toList[j]=true:=fun e j hj hji=>by
   rcases Nat.lt_or_ge j i with z | z
   ·exact h2 j hj z
   ·have:j=i:=by omega
    subst this; exact e
  refine Xi s.data.toList[i] (Yi hat ?_);have h3:=c250 s.data.toList[i];have h4:=c251 s.data.toList[i];refine Or.elim (Bt (smallC s.data.toList[i])) (fun e=>?_) (fun e=>?_)
  ·rw [e] at h3;refine Xi .pure (Xi _ (Yi (h3) ?_));refine Yi (Ii i (by omega)) ?_;refine Xi ⟨i+1,by omega,nx (by unfold segC; rw [e]; rfl)⟩ ?_;exact ⟨Dl s.data.toList.length i (by omega),Z2,Tv,Fh,Tv⟩
  rw [e] at h3;refine Xi .pure (Xi _ (Yi (h3) ?_));refine Xi s.data.toList[i] (Yi hat ?_);refine Or.elim (Bt (digitC s.data.toList[i])) (fun e2=>?_) (fun e2=>?_)
  ·rw [e2] at h4;refine Xi .pure (Xi _ (Yi (h4) ?_));refine Yi (Ii i (by omega)) ?_;refine Xi ⟨i+1,by omega,nx (by unfold segC; rw [e2,Bool.or_true])⟩ ?_;exact ⟨Dl s.data.toList.length i (by omega),Z2,Tv,Fh,Tv⟩
  rw [e2] at h4;refine Xi .pure (Xi _ (Yi (h4) ?_));have er:s.data.toList.all segC=false:=by
   rw [Bool.eq_false_iff];intro ha
   have:=List.all_eq_true.1 ha _ (List.getElem_mem h)
   unfold segC at this;rw [e,e2] at this; cases this
  exact .of_eq (congrArg vb (by rw [er]; rfl))
 ·intro h;have h:¬ (i:Int)<(s.size:Nat):=h;have er:s.data.toList.all segC=true:=List.all_eq_true.2 fun c hc=>by
   obtain ⟨j,hj,rfl⟩:=List.getElem_of_mem hc;exact h2 j hj (by omega)
  refine Xi .pure (Xi _ (Yi (h252) ?_));exact .of_eq (congrArg vb (by rw [er]; rfl))
abbrev ver2:Option Int→AV
 | some n=>vi n
 | none=>vi (-1)
theorem c228 (s:ByteArray) (hs:s.data.toList.length<4611686018427387904):PC 232 [vs s] (ver2 (verL s.data.toList)):=by
 have hsz:s.size=s.data.toList.length:=by simp
 refine Ps (plcut [3]) Tryz.func232 rfl (Nz rfl) ?_;refine Yi (fun h=>?_) (fun h=>?_)
 ·have h:((s.size:Nat):Int)<2:=h;exact .of_eq (congrArg ver2 (show (none:Option Int)=verL s.data.toList by
   cases hs:s.data.toList with
   | nil=>rfl
   | cons c r =>
    cases r with
    | nil=>unfold verL; simp
    | cons d r=>rw [hs] at hsz; simp only [List.length_cons] at hsz; omega))
 have h:¬ ((s.size:Nat):Int)<2:=h;refine Exists.elim (show ∃ c r,s.data.toList=c :: r by
  cases e:s.data.toList with
  | nil=>rw [e] at hsz; simp only [List.length_nil] at hsz; omega
  | cons c l=>exact ⟨c,l,rfl⟩) (fun c hc=>?_)
 refine Exists.elim hc (fun r hr0=>?_);have hrl:s.size=r.length+1:=by rw [hsz,hr0]; rfl
 have hv0:verL s.data.toList=if c=118 then (if (r.isEmpty||decide (3<r.length)||(decide (1<r.length)&&decide (r.headD 0=48))||!r.all digitC)=true then none else some (numL r)) else none:=by rw [hr0]; rfl
 refine Yi (fun h2=>?_) (fun h2=>?_)
 ·have h2:(4:Int)<((s.size:Nat):Int):=h2;exact .of_eq (congrArg ver2 (show (none:Option Int)=verL s.data.toList by rw [hv0,decide_eq_true (by omega:3<r.length)]; simp))
 have h2:¬ (4:Int)<((s.size:Nat):Int):=h2;refine Xi c (Yi ⟨by decide,by show s.data[(0:Int).toNat]?=_; rw [← Array.getElem?_toList,hr0]; rfl⟩ ?_);refine Yi (fun h3=>?_) (fun h3=>?_)
 ·have h3:¬ (c.toNat:Int)=118:=h3;have h3:¬ c=118:=fun e=>h3 (by rw [e]; rfl);exact .of_eq (congrArg ver2 (show (none:Option Int)=verL s.data.toList by rw [hv0,if_neg h3]))
 have h3:¬ ¬ (c.toNat:Int)=118:=h3;have h3:(c.toNat:Int)=118:=Classical.not_not.1 h3;have h3:c=118:=UInt8.toNat_inj.1 (by show c.toNat=118; omega);have hr:s.data.toList=118 :: r:=by rw [hr0,h3]
 have hv:verL s.data.toList=if (r.isEmpty||decide (3<r.length)||(decide (1<r.length)&&decide (r.headD 0=48))||!r.all digitC)=true then none else some (numL r):=by rw [hv0,if_pos h3]
 have hlen:0<r.length:=by omega
 have hemp:r.isEmpty=false:=by
  cases hl:r with
  | nil=>rw [hl] at hlen; exact absurd hlen (by decide)
  | cons a l=>rfl
 have hl3:r.length≤3:=by omega
 have d3:decide (3<r.length)=false:=decide_eq_false (by omega);have z0:numL (r.take 0)=0:=rfl;have hh:=headD_zero r hlen;refine Xi r[0] (Yi ⟨by decide,by show s.data[(1:Int).toNat]?=_; rw [← Array.getElem?_toList,hr0]; show r[0]?=_; exact Ge hlen⟩ ?_);refine Yi (fun h4=>?_) (fun h4=>?_)
 ·have h4:(r[0].toNat:Int)=48:=h4;have h4:r[0]=48:=UInt8.toNat_inj.1 (by show r[0].toNat=48; omega);refine Yi (fun h5=>?_) (fun h5=>?_)
  ·have h5:(2:Int)<((s.size:Nat):Int):=h5;exact .of_eq (congrArg ver2 (show (none:Option Int)=verL s.data.toList by rw [hv,hh,h4,decide_eq_true (by omega:1<r.length)]; simp))
  have h5:¬ (2:Int)<((s.size:Nat):Int):=h5;have eo:(decide (1<r.length)&&decide (r.headD 0=48))=false:=by rw [decide_eq_false (by omega:¬ 1<r.length)]; rfl
  refine Xi ⟨[(0,vs s)],[],hfree⟩ (Yi ⟨Z1,Tv,Fh,Tv⟩ ?_)
  refine Xi {i:Nat // i≤r.length∧(∀ j (hj:j<r.length),j<i→digitC r[j]=true)∧0≤numL (r.take i)∧(i=0→numL (r.take i)≤0)∧(i≤1→numL (r.take i)≤9)∧(i≤2→numL (r.take i)≤99)∧numL (r.take i)≤999} (Xi (fun i=>⟨[(0,vs s),(3,vi (numL (r.take i.1))),(4,vi (1+(i.1:Int)))],[],hfree⟩) (Xi (fun i=>r.length - i.1) (Yi (Xi ⟨0,Nat.zero_le _,fun j _ h=>by omega,by omega,fun _=>by omega,fun _=>by omega,fun _=>by omega,by omega⟩ ?_) ?_)))
  ·exact ⟨Z3,Tv,Fh,Tv⟩
  intro ⟨i,i1,i0,i2,i3,i4,i5,i6⟩;refine Yi ?_ ?_
  ·intro h;have h:1+(i:Int)<(s.size:Nat):=h;have h:i<r.length:=by omega
   have hat:(0:Int)≤1+(i:Int)∧s.data[(1+(i:Int)).toNat]?=some r[i]:=⟨by omega,by rw [show (1+(i:Int)).toNat=i+1 by omega,← Array.getElem?_toList,hr,List.getElem?_cons_succ]; exact Ge h⟩;refine Xi r[i] (Yi hat ?_);have hc:=c251 r[i];refine Or.elim (Bt (digitC r[i])).symm (fun e=>?_) (fun e=>?_)
   ·rw [e] at hc;refine Xi .pure (Xi _ (Yi (hc) ?_));have hall:r.all digitC=false:=by
     rw [Bool.eq_false_iff];intro ha
     have:=List.all_eq_true.1 ha _ (List.getElem_mem h)
     rw [e] at this; cases this
    exact .of_eq (congrArg ver2 (show (none:Option Int)=verL s.data.toList by rw [hv,hall]; simp))
   rw [e] at hc;refine Xi .pure (Xi _ (Yi (hc) ?_));have hdr:=digit_rng e;have hnx:=numL_take r i h;have hwr:IntKind.u8.wrap ((r[i].toNat:Int) - 48)=(r[i].toNat:Int) - 48:=wrap_u8 (by omega) (by omega);refine Yi (by show InI64 (10*numL (r.take i)); unfold InI64; omega) ?_;refine Xi r[i] (Yi hat ?_);refine Yi (by show InI64 (IntKind.u8.wrap ((r[i].toNat:Int) - 48)); rw [hwr]; unfold InI64; omega) ?_;refine Yi (by show InI64 (10*numL (r.take i)+IntKind.u8.wrap ((r[i].toNat:Int) - 48)); rw [hwr]; unfold InI64; omega) ?_;refine Yi (by show InI64 (1+(i:Int)+1); unfold InI64; omega) ?_;have e5:vi (10*numL (r.take i)+IntKind.u8.wrap ((r[i].toNat:Int) - 48))=vi (numL (r.take (i+1))):=by rw [hwr,hnx]
   have e6:vi (1+(i:Int)+1)=vi (1+((i+1:Nat):Int)):=congrArg vi (by omega);refine Xi ⟨i+1,by omega,fun j hj hji=>?_,by omega,fun _=>by omega,fun _=>by omega,fun _=>by omega,by omega⟩ ?_
   ·rcases Nat.lt_or_ge j i with z | z
    ·exact i0 j hj z
    ·have:j=i:=by omega
     subst this; exact e
   ·exact ⟨Dl r.length i (by omega),⟨Zr,⟨e5,rfl⟩,⟨e6,rfl⟩,Tv⟩,Tv,Fh,Tv⟩
  ·intro h;have h:¬ 1+(i:Int)<(s.size:Nat):=h;have e3:r.all digitC=true:=List.all_eq_true.2 fun c hc=>by
    obtain ⟨j,hj,rfl⟩:=List.getElem_of_mem hc;exact i0 j hj (by omega)
   have e6:vi (numL (r.take i))=ver2 (verL s.data.toList):=by rw [hv,hemp,d3,eo,e3,List.take_of_length_le (by omega)]; rfl
   exact .of_eq e6
 have h4:¬ (r[0].toNat:Int)=48:=h4;have eo:(decide (1<r.length)&&decide (r.headD 0=48))=false:=by rw [hh,decide_eq_false (show ¬ r[0]=48 from fun e=>h4 (by rw [e]; rfl)),Bool.and_false]
 refine Xi ⟨[(0,vs s)],[],hfree⟩ (Yi ⟨Z1,Tv,Fh,Tv⟩ ?_)
 refine Xi {i:Nat // i≤r.length∧(∀ j (hj:j<r.length),j<i→digitC r[j]=true)∧0≤numL (r.take i)∧(i=0→numL (r.take i)≤0)∧(i≤1→numL (r.take i)≤9)∧(i≤2→numL (r.take i)≤99)∧numL (r.take i)≤999} (Xi (fun i=>⟨[(0,vs s),(3,vi (numL (r.take i.1))),(4,vi (1+(i.1:Int)))],[],hfree⟩) (Xi (fun i=>r.length - i.1) (Yi (Xi ⟨0,Nat.zero_le _,fun j _ h=>by omega,by omega,fun _=>by omega,fun _=>by omega,fun _=>by omega,by omega⟩ ?_) ?_)))
 ·exact ⟨Z3,Tv,Fh,Tv⟩
 intro ⟨i,i1,i0,i2,i3,i4,i5,i6⟩;refine Yi ?_ ?_
 ·intro h;have h:1+(i:Int)<(s.size:Nat):=h;have h:i<r.length:=by omega
  have hat:(0:Int)≤1+(i:Int)∧s.data[(1+(i:Int)).toNat]?=some r[i]:=⟨by omega,by rw [show (1+(i:Int)).toNat=i+1 by omega,← Array.getElem?_toList,hr,List.getElem?_cons_succ]; exact Ge h⟩;refine Xi r[i] (Yi hat ?_);have hc:=c251 r[i];refine Or.elim (Bt (digitC r[i])).symm (fun e=>?_) (fun e=>?_)
  ·rw [e] at hc;refine Xi .pure (Xi _ (Yi (hc) ?_));have hall:r.all digitC=false:=by
    rw [Bool.eq_false_iff];intro ha
    have:=List.all_eq_true.1 ha _ (List.getElem_mem h)
    rw [e] at this; cases this
   exact .of_eq (congrArg ver2 (show (none:Option Int)=verL s.data.toList by rw [hv,hall]; simp))
  rw [e] at hc;refine Xi .pure (Xi _ (Yi (hc) ?_));have hdr:=digit_rng e;have hnx:=numL_take r i h;have hwr:IntKind.u8.wrap ((r[i].toNat:Int) - 48)=(r[i].toNat:Int) - 48:=wrap_u8 (by omega) (by omega);refine Yi (by show InI64 (10*numL (r.take i)); unfold InI64; omega) ?_;refine Xi r[i] (Yi hat ?_);refine Yi (by show InI64 (IntKind.u8.wrap ((r[i].toNat:Int) - 48)); rw [hwr]; unfold InI64; omega) ?_;refine Yi (by show InI64 (10*numL (r.take i)+IntKind.u8.wrap ((r[i].toNat:Int) - 48)); rw [hwr]; unfold InI64; omega) ?_;refine Yi (by show InI64 (1+(i:Int)+1); unfold InI64; omega) ?_;have e5:vi (10*numL (r.take i)+IntKind.u8.wrap ((r[i].toNat:Int) - 48))=vi (numL (r.take (i+1))):=by rw [hwr,hnx]
  have e6:vi (1+(i:Int)+1)=vi (1+((i+1:Nat):Int)):=congrArg vi (by omega);refine Xi ⟨i+1,by omega,fun j hj hji=>?_,by omega,fun _=>by omega,fun _=>by omega,fun _=>by omega,by omega⟩ ?_
  ·rcases Nat.lt_or_ge j i with z | z
   ·exact i0 j hj z
   ·have:j=i:=by omega
    subst this; exact e
  ·exact ⟨Dl r.length i (by omega),⟨Zr,⟨e5,rfl⟩,⟨e6,rfl⟩,Tv⟩,Tv,Fh,Tv⟩
 ·intro h;have h:¬ 1+(i:Int)<(s.size:Nat):=h;have e3:r.all digitC=true:=List.all_eq_true.2 fun c hc=>by
   obtain ⟨j,hj,rfl⟩:=List.getElem_of_mem hc;exact i0 j hj (by omega)
  have e6:vi (numL (r.take i))=ver2 (verL s.data.toList):=by rw [hv,hemp,d3,eo,e3,List.take_of_length_le (by omega)]; rfl
  exact .of_eq e6
end Go.Eng

namespace Go.Eng
open Go.Proofs
abbrev pSL (l:List UInt8):List ByteArray:=(splitL 47 l).map bs
def pushL:List (List UInt8)→UInt8→List (List UInt8)
 | [],_=>[]
 | [x],b=>[x++[b]]
 | x :: l,b=>x :: pushL l b
theorem splitL_ne (c:UInt8) (s:List UInt8):splitL c s≠[]:=by
 cases s with
 | nil=>rw [splitL]; exact List.cons_ne_nil _ _
 | cons b r =>
  rw [splitL];split
  ·exact List.cons_ne_nil _ _
  ·split <;> exact List.cons_ne_nil _ _
theorem splitL_sep (c:UInt8):∀ s:List UInt8,splitL c (s++[c])=splitL c s++[[]]
 | []=>by simp [splitL]
 | b :: r=>by
  rw [List.cons_append,splitL,splitL_sep c r,splitL]
  by_cases e:b=c
  ·rw [if_pos e,if_pos e]; rfl
  ·rw [if_neg e,if_neg e];cases h:splitL c r with
   | nil=>exact absurd h (splitL_ne c r)
   | cons x l=>rfl
theorem pushL_cons (x:List UInt8) {l:List (List UInt8)} (b:UInt8) (h:l≠[]):pushL (x :: l) b=x :: pushL l b:=by
 cases l with
 | nil=>exact absurd rfl h
 | cons y l=>rfl
theorem splitL_byte (c b:UInt8) (hb:b≠c):∀ s:List UInt8,splitL c (s++[b])=pushL (splitL c s) b
 | []=>by simp [splitL,hb,pushL]
 | a :: r=>by
  rw [List.cons_append,splitL,splitL_byte c b hb r,splitL]
  by_cases e:a=c
  ·rw [if_pos e,if_pos e,pushL_cons _ _ (splitL_ne c r)]
  ·rw [if_neg e,if_neg e];cases h:splitL c r with
   | nil=>exact absurd h (splitL_ne c r)
   | cons x l =>
    cases l with
    | nil=>rfl
    | cons y l=>rfl
theorem pushL_set (b:UInt8):∀ (l:List (List UInt8)) (x:List UInt8),l[l.length - 1]?=some x→l.set (l.length - 1) (x++[b])=pushL l b
 | [],_,h=>by cases h
 | [y],x,h=>by
  have h:some y=some x:=h;rw [Option.some.inj h]; rfl
 | y :: z :: l,x,h=>by
  have h:(z :: l)[(z :: l).length - 1]?=some x:=h;rw [pushL_cons y b (List.cons_ne_nil _ _),← pushL_set b (z :: l) x h]; rfl
theorem splitL_few (c:UInt8) (s:List UInt8):(splitL c s).length≤s.length+1:=by
 induction s with
 | nil=>rw [splitL]; exact Nat.le_refl _
 | cons b r ih =>
  rw [splitL,List.length_cons];split
  ·rw [List.length_cons]; omega
  ·split
   ·simp
   ·rename_i x l e;rw [e,List.length_cons] at ih;rw [List.length_cons]; omega
abbrev pl226:Pol:=⟨[],[],[(5,1)],[],[],[],[],[],[],[(36,3)],[4]⟩
theorem pSL_push {l:List UInt8} {c:UInt8} (hc:c≠47) {x:ByteArray} (h:(pSL l)[(pSL l).length - 1]?=some x):(pSL l).set ((pSL l).length - 1) (x++bs [c])=pSL (l++[c]):=by
 have h2:=h;rw [List.getElem?_map,Lm] at h;obtain ⟨y,hy,e⟩:=Option.map_eq_some_iff.1 h;subst e;show _=(splitL 47 (l++[c])).map bs;rw [splitL_byte 47 c hc l,← pushL_set c (splitL 47 l) y hy,List.map_set,Lm]
 congr 1
theorem c226 (s:ByteArray) (hs:FewS s):PC 230 [vs s] (sl encS (pSL s.data.toList)):=by
 unfold FewS at hs;have hsz:s.size=s.data.toList.length:=by simp
 refine Ps pl226 Tryz.func230 rfl (Nz rfl) ?_;refine Xi {p:Nat × List ByteArray // p.1≤s.data.toList.length∧p.2=pSL (s.data.toList.take p.1)} (Xi (fun p=>⟨[(0,vs s),(3,.msl 5 p.1.2.length),(4,vi p.1.1)],[(5,.arr 1 (p.1.2.map encS))],hfree⟩) (Xi (fun p=>s.data.toList.length - p.1.1) (Yi (Xi ⟨(0,[bs []]),Nat.zero_le _,rfl⟩ ?_) ?_)))
 ·exact ⟨Z3,Z1,Fh,Tv⟩
 intro ⟨⟨i,A⟩,h1,hA⟩;have h1:i≤s.data.toList.length:=h1;have hA:A=pSL (s.data.toList.take i):=hA;have hpl:A.length≤i+1:=by
  have:=splitL_few 47 (s.data.toList.take i)
  rw [List.length_take] at this;rw [hA,Lm]; omega
 have hpp:0<A.length:=by
  rw [hA,Lm]; exact List.length_pos_iff.2 (splitL_ne 47 _)
 refine Yi (fun h=>?_) (fun h=>?_)
 ·have h:(i:Int)<(s.size:Nat):=h;have h:i<s.data.toList.length:=by omega
  have hat:(0:Int)≤i∧s.data[((i:Nat):Int).toNat]?=some s.data.toList[i]:=⟨by omega,by rw [Int.toNat_natCast]; exact at_data s i h⟩;have htk:s.data.toList.take (i+1)=s.data.toList.take i++[s.data.toList[i]]:=by rw [List.take_add_one,Ge h]; rfl
  refine Xi s.data.toList[i] (Yi hat ?_);refine Yi (fun h2=>?_) (fun h2=>?_)
  ·have h2:(s.data.toList[i].toNat:Int)=47:=h2;have h2:s.data.toList[i]=47:=UInt8.toNat_inj.1 (by show s.data.toList[i].toNat=47; omega);have bulk:AllLen 1 [[vs (bs [])]]∧(A.map encS).length=A.length∧((A.map encS).length+[[vs (bs [])]].length)*16≤140737488355328∧(A.map encS).length+[[vs (bs [])]].length≤9223372036854775807 :=
    ⟨⟨rfl,trivial⟩,by rw [Lm],by rw [Lm,List.length_singleton]; omega,by rw [Lm,List.length_singleton]; omega⟩
   refine Yi bulk ?_;refine Xi ⟨[(0,vs s),(3,.msl 5 (A++[bs []]).length),(4,vi i)],[(5,.arr 1 ((A++[bs []]).map encS))],hfree⟩ (Yi ?_ ?_)
   ·have e1:AV.msl 5 ((A.map encS).length+[[vs (bs [])]].length)=.msl 5 (A++[bs []]).length:=by simp
    have e2:HO.arr 1 (A.map encS++[[vs (bs [])]])=.arr 1 ((A++[bs []]).map encS):=by rw [List.map_append]; rfl
    exact ⟨⟨Zr,⟨e1,rfl⟩,Zr,Tv⟩,⟨⟨e2,rfl⟩,Tv⟩,Fh,Tv⟩
   refine Yi (Ii i (by omega)) ?_;have eA:A++[bs []]=pSL (s.data.toList.take (i+1)):=by
    rw [hA,htk,h2]; show _=(splitL 47 _).map bs; rw [splitL_sep,List.map_append]; rfl
   refine Xi ⟨(i+1,A++[bs []]),by omega,eA⟩ ?_;exact ⟨Dl s.data.toList.length i (by omega),Z3,Z1,Fh,Tv⟩
  have h2:¬ (s.data.toList[i].toNat:Int)=47:=h2;have h2:s.data.toList[i]≠47:=fun e=>h2 (by rw [e]; rfl);have hi1:InI64 ((A.length:Int) - 1):=by unfold InI64; omega
  have hlt:A.length - 1<A.length:=by omega
  have hn:((A.length:Int) - 1).toNat=A.length - 1:=by omega
  have hg:A[A.length - 1]?=some A[A.length - 1]:=Ge hlt;have hfew:FewS A[A.length - 1]:=by
   have hmm:∀ x ∈ A,x ∈ pSL (s.data.toList.take i):=fun x hx=>hA▸hx;obtain ⟨y,hy,e⟩:=List.mem_map.1 (hmm _ (List.getElem_mem hlt));have h5:=splitL_len 47 _ y hy;rw [List.length_take] at h5;unfold FewS;rw [← e,show (bs y).size=y.length from rfl];omega
  have hsum:((A[A.length - 1].size+(⟨[s.data.toList[i]].toArray⟩ : ByteArray).size:Nat):Int)≤9223372036854775807:=by
   unfold FewS at hfew
   have:(⟨[s.data.toList[i]].toArray⟩ : ByteArray).size=1:=rfl
   omega
  refine Yi hi1 (Yi hi1 ?_);refine Yi (show (0:Int)≤(A.length:Int) - 1∧(A.length:Int) - 1<(A.length:Int) by omega) ?_;refine Yi (by rw [Lm]) ?_;have hgm:(A.map encS)[((A.length:Int) - 1).toNat]?=some (encS A[A.length - 1]):=by rw [hn]; exact map_at hg
  refine Xi (encS A[A.length - 1]) (Yi hgm ?_);refine Xi s.data.toList[i] (Yi hat ?_);refine Xi [s.data.toList[i]] (Yi rfl ?_);refine Yi hsum ?_;refine Yi (show (0:Int)≤(A.length:Int) - 1∧(A.length:Int) - 1<(A.length:Int) by omega) ?_;refine Yi (by rw [Lm]) ?_;refine Xi (encS A[A.length - 1]) (Yi hgm (Yi (Nz rfl) ?_));refine Yi (by kernel_rfl) ?_;refine Exists.elim (show ∃ B,B=A.set (A.length - 1) (A[A.length - 1]++bs [s.data.toList[i]]) from ⟨_,rfl⟩) (fun B hB=>?_);have hBl:B.length=A.length:=by rw [hB,List.length_set]
  have e2:HO.arr 1 ((A.map encS).set ((A.length:Int) - 1).toNat [vs (A[A.length - 1]++⟨[s.data.toList[i]].toArray⟩)])=.arr 1 (B.map encS):=by rw [hn,hB,List.map_set]; rfl
  refine Xi ⟨[(0,vs s),(3,.msl 5 B.length),(4,vi i)],[(5,.arr 1 (B.map encS))],hfree⟩ (Yi ⟨⟨Zr,⟨congrArg (AV.msl 5) hBl.symm,rfl⟩,Zr,Tv⟩,⟨⟨e2,rfl⟩,Tv⟩,Fh,Tv⟩ ?_)
  refine Yi (Ii i (by omega)) ?_;have eB:B=pSL (s.data.toList.take (i+1)):=by
   rw [htk,hB];subst hA;exact pSL_push h2 hg
  refine Xi ⟨(i+1,B),by omega,eB⟩ ?_;exact ⟨Dl s.data.toList.length i (by omega),Z3,Z1,Fh,Tv⟩
 ·have h:¬ (i:Int)<(s.size:Nat):=h;refine Yi (by rw [Lm]) ?_;exact .of_eq (congrArg (sl encS) (show A=pSL s.data.toList by rw [hA,List.take_of_length_le (by omega)]))
end Go.Eng

namespace Go.Eng
open Go.Proofs
theorem verL_nonneg {s:List UInt8} {n:Int} (h:verL s=some n):0≤n:=by
 cases s with
 | nil=>unfold verL at h; cases h
 | cons c r =>
  have h:(if c=118 then (if (r.isEmpty||decide (3<r.length)||(decide (1<r.length)&&decide (r.headD 0=48))||!r.all digitC)=true then none else some (numL r)) else none)=some n:=h
  by_cases hc:c=118
  ·rw [if_pos hc] at h
   by_cases hb:(r.isEmpty||decide (3<r.length)||(decide (1<r.length)&&decide (r.headD 0=48))||!r.all digitC)=true
   ·rw [if_pos hb] at h; cases h
   ·rw [if_neg hb] at h;have ha:r.all digitC=true:=by
     cases hr:r.all digitC
     ·rw [hr] at hb; simp at hb
     ·rfl
    rw [← Option.some.inj h]
    suffices hh:∀ i,i≤r.length→0≤numL (r.take i) by
     have:=hh r.length (Nat.le_refl _)
     rwa [List.take_length] at this
    intro i
    induction i with
    | zero=>intro _; exact Int.le_refl _
    | succ i ih =>
     intro hi;have hd:=digit_rng (List.all_eq_true.1 ha _ (List.getElem_mem (show i<r.length by omega)))
     have:=ih (by omega)
     rw [numL_take r i (by omega)]; omega
  ·rw [if_neg hc] at h; cases h
theorem pSL_last {l:List UInt8} {x:ByteArray} (h:(pSL l)[(pSL l).length - 1]?=some x):(splitL 47 l).getLastD []=x.data.toList:=by
 rw [Lm,List.getElem?_map,← List.getLast?_eq_getElem?] at h;obtain ⟨y,hy,e⟩:=Option.map_eq_some_iff.1 h;rw [List.getLastD_eq_getLast?,hy,← e]; rfl
theorem c199 (p:ByteArray) (hp:FewS p):PC 164 [vs p] (majV (pathMajor p)):=by
 have hsz:p.size=p.data.toList.length:=by simp
 have hc:=c226 p hp;unfold FewS at hp;obtain ⟨A,hA⟩ : ∃ A,A=pSL p.data.toList:=⟨_,rfl⟩;rw [← hA] at hc;have hAl:A.length=(splitL 47 p.data.toList).length:=by rw [hA,Lm]
 have hpl:=splitL_few 47 p.data.toList;have hpp:0<A.length:=by rw [hAl]; exact List.length_pos_iff.2 (splitL_ne 47 _)
 have hmem:∀ x ∈ A,x.data.toList.length<4611686018427387904:=fun x hx=>by
  obtain ⟨y,hy,e⟩:=List.mem_map.1 (hA▸hx:x ∈ pSL p.data.toList);have h5:=splitL_len 47 _ y hy;rw [← e]; show y.length<_; omega
 have hall:(splitL 47 p.data.toList).all segOk=A.all fun x=>segOk x.data.toList:=by rw [hA,List.all_map]; rfl
 have hlt:A.length - 1<A.length:=by omega
 have hg:A[A.length - 1]?=some A[A.length - 1]:=Ge hlt;have hlast:(splitL 47 p.data.toList).getLastD []=A[A.length - 1].data.toList:=by
  subst hA; exact pSL_last hg
 have em:pathMajor p=match verL A[A.length - 1].data.toList with
  | none=>none
  | some n=>if (decide (64<p.data.toList.length)||decide (A.length<2))=true then none else if (A.all fun x=>segOk x.data.toList)=true then some n else none:=by
  unfold pathMajor majorL;rw [hlast,hall,← hAl];cases verL A[A.length - 1].data.toList with
  | none=>rfl
  | some n=>rfl
 clear hall hlast
 have hv:=c228 A[A.length - 1] (hmem _ (List.getElem_mem hlt));obtain ⟨o,ho⟩ : ∃ o,o=verL A[A.length - 1].data.toList:=⟨_,rfl⟩;rw [← ho] at hv em;have hz:∀ n,o=some n→0≤n:=fun n e=>by
  rw [e] at ho;exact verL_nonneg ho.symm
 refine Ps (plcut [4,9,10]) Tryz.func164 rfl (Nz rfl) ?_;refine Yi (fun h=>?_) (fun h=>?_)
 ·have h:(64:Int)<((p.size:Nat):Int):=h;exact .of_eq (congrArg majV (show (none:Option Int)=pathMajor p by rw [em,decide_eq_true (by omega:64<p.data.toList.length)]; cases o <;> rfl))
 have h:¬ (64:Int)<((p.size:Nat):Int):=h;have d1:decide (64<p.data.toList.length)=false:=decide_eq_false (by omega);refine Xi .pure (Xi _ (Yi (hc) ?_));refine Xi ⟨[(4,sl encS A)],[],hfree⟩ (Yi ⟨Z1,Tv,Fh,Tv⟩ ?_)
 refine Xi {i:Nat // i≤A.length∧∀ j (hj:j<A.length),j<i→segOk (A[j]).data.toList=true} (Xi (fun i=>⟨[(4,sl encS A),(5,vi i.1)],[],hfree⟩) (Xi (fun i=>A.length - i.1) (Yi (Xi ⟨0,Nat.zero_le _,fun j _ h=>by omega⟩ ?_) ?_)))
 ·exact ⟨Z2,Tv,Fh,Tv⟩
 intro ⟨i,i1,i2⟩;refine Yi (fun h2=>?_) (fun h2=>?_)
 ·have h2:(i:Int)<((A.map encS).length:Int):=h2;have h2:i<A.length:=by simpa using h2
  have hg:A[i]?=some A[i]:=Ge h2;refine Xi (encS A[i]) (Yi (Yi (Nn i) (by simp [hg])) (Yi rfl ?_));have hn:=c227 A[i] (hmem _ (List.getElem_mem h2));refine Or.elim (Bt (segOk A[i].data.toList)).symm (fun e1=>?_) (fun e1=>?_)
  ·rw [e1] at hn;refine Xi .pure (Xi _ (Yi (hn) ?_));have e2:(A.all fun x=>segOk x.data.toList)=false:=by
    rw [Bool.eq_false_iff];intro hh
    have:=List.all_eq_true.1 hh _ (List.getElem_mem h2)
    rw [e1] at this; cases this
   exact .of_eq (congrArg majV (show (none:Option Int)=pathMajor p by
    rw [em,e2];cases o with
    | none=>rfl
    | some n=>cases (decide (64<p.data.toList.length)||decide (A.length<2)) <;> rfl))
  rw [e1] at hn;refine Xi .pure (Xi _ (Yi (hn) ?_));refine Yi (Ii i (by omega)) ?_;refine Xi ⟨i+1,by omega,fun j hj hji=>?_⟩ ?_
  ·rcases Nat.lt_or_ge j i with z | z
   ·exact i2 j hj z
   ·have:j=i:=by omega
    subst this; exact e1
  ·exact ⟨Dl A.length i (by omega),Z2,Tv,Fh,Tv⟩
 have h2:¬ (i:Int)<((A.map encS).length:Int):=h2;have h2:¬ i<A.length:=by simpa using h2
 have e2:(A.all fun x=>segOk x.data.toList)=true:=List.all_eq_true.2 fun x hx=>by
  obtain ⟨j,hj,rfl⟩:=List.getElem_of_mem hx;exact i2 j hj (by omega)
 have em:pathMajor p=match (generalizing:=false) o with
  | none=>none
  | some n=>if decide (A.length<2)=true then none else some n:=by
  rw [em,e2,d1];cases o <;> rfl
 refine Xi ⟨[(4,sl encS A)],[],hfree⟩ (Yi ⟨Z1,Tv,Fh,Tv⟩ ?_)
 have hin:(((A.map encS).length:Int) - 1).toNat=A.length - 1:=by rw [Lm]; omega
 refine Yi (by show InI64 (((A.map encS).length:Int) - 1); rw [Lm]; unfold InI64; omega) ?_;refine Xi (encS A[A.length - 1]) (Yi (Yi (by show (0:Int)≤((A.map encS).length:Int) - 1; rw [Lm]; omega) (by rw [hin]; exact map_at hg)) (Yi rfl ?_));refine Xi .pure (Xi _ (Yi (hv) ?_));refine Exists.elim (show ∃ z:Int,ver2 o=vi z∧(z<0↔o=none)∧∀ n,o=some n→z=n by
  cases o with
  | none=>exact ⟨-1,rfl,⟨fun _=>rfl,fun _=>by decide⟩,fun n h=>by cases h⟩
  | some n=>exact ⟨n,rfl,⟨fun h=>absurd (hz n rfl) (by omega),fun h=>by cases h⟩,fun m h=>by cases h; rfl⟩) (fun z hz2=>?_)
 refine Xi ⟨[(4,sl encS A),(6,vi z)],[],hfree⟩ (Yi ⟨⟨Zr,⟨hz2.1,rfl⟩,Tv⟩,Tv,Fh,Tv⟩ ?_)
 refine Yi (fun h3=>?_) (fun h3=>?_)
 ·have h3:((A.map encS).length:Int)<2:=h3;rw [Lm] at h3;exact .of_eq (congrArg majV (show (none:Option Int)=pathMajor p by rw [em,decide_eq_true (by omega:A.length<2)]; cases o <;> rfl))
 have h3:¬ ((A.map encS).length:Int)<2:=h3;rw [Lm] at h3;refine Yi (fun h4=>?_) (fun h4=>?_)
 ·have h4:z<0:=h4;exact .of_eq (congrArg majV (show (none:Option Int)=pathMajor p by rw [em,hz2.2.1.1 h4]))
 have h4:¬ z<0:=h4;refine Exists.elim (show ∃ n,o=some n by
  cases o with
  | none=>exact absurd (hz2.2.1.2 rfl) h4
  | some n=>exact ⟨n,rfl⟩) (fun n hn=>?_)
 exact .of_eq (show AV.tup [vi z,vi 0]=majV (pathMajor p) by rw [em,hn,hz2.2.2 n hn,decide_eq_false (by omega:¬ A.length<2)]; rfl)
theorem c198 (p:ByteArray) (hp:FewS p):PC 163 [vs p] (vb (pathMajor p).isSome):=by
 have hc:=c199 p hp;cases h:pathMajor p with
 | none =>
  rw [h] at hc;refine Ps pl0 Tryz.func163 rfl (Nz rfl) ?_;refine Xi .pure (Xi _ (Yi (hc) ?_));refine Yi ?_ ?_
  ·intro h; exact absurd (show (4:Int)=0 from h) (by decide)
  ·intro _; exact .refl _
 | some n =>
  rw [h] at hc;refine Ps pl0 Tryz.func163 rfl (Nz rfl) ?_;refine Xi .pure (Xi _ (Yi (hc) ?_));refine Yi ?_ ?_
  ·intro _; exact .refl _
  ·intro h; exact absurd rfl h
end Go.Eng

namespace Go.Eng
open Go.Proofs
end Go.Eng

namespace Go.Eng
open Go.Proofs
theorem c70 (x:List Rl) (ifs:List (List AV)) (p:ByteArray) (pl:Int) (hx:Few x) (hv:∀ r ∈ x,validB r.ver=true):PC 173 [ixV x ifs,vs p,vi pl] (optRl (releaseP x p pl)):=by
 unfold Few at hx;refine Ps (plcut [5]) Tryz.func173 rfl (Nz rfl) ?_;refine Xi {i:Nat // i≤x.length∧∀ j (hj:j<x.length),j<i→(decide (x[j].path=p)&&decide (plc x[j].ver=pl))=false} (Xi (fun i=>⟨[(1,vs p),(2,vi pl),(3,.ref 3 0),(6,.ref 6 0),(8,vi i.1)],[(3,.cells (Ic x ifs)),(6,.cells zRl)],hfree⟩) (Xi (fun i=>x.length - i.1) (Yi (Xi ⟨0,Nat.zero_le _,fun j _ h=>by omega⟩ ?_) ?_)))
 ·exact ⟨Z5,Z2,Fh,Tv⟩
 intro ⟨i,h1,h2⟩;refine Yi ?_ ?_
 ·intro h;have h:(i:Int)<(x.map encRl).length:=h;have h:i<x.length:=by simpa using h
  have hg:x[i]?=some x[i]:=Ge h;refine Xi (encRl x[i]) (Yi (Yi (Nn i) (by simp [hg])) (Yi rfl ?_));have hpl:place x[i].ver=plc x[i].ver:=by unfold plc; rw [if_pos (hv _ (List.getElem_mem h))]
  refine Yi (Nz rfl) (Yi (Nz rfl) ?_);refine Xi ⟨[(1,vs p),(2,vi pl),(3,.ref 3 0),(6,.ref 6 0),(8,vi i),(9,.ref 9 0)],[(3,.cells (Ic x ifs)),(6,.cells zRl),(9,.cells (encRl x[i]))],hfree⟩ (Yi ⟨Z6,Z3,Fh,Tv⟩ ?_)
  have next:(decide (x[i].path=p)&&decide (plc x[i].ver=pl))=false→∀ j (hj:j<x.length),j<i+1→(decide (x[j].path=p)&&decide (plc x[j].ver=pl))=false:=fun hf j hj hji=>by
   rcases Nat.lt_or_ge j i with q | q
   ·exact h2 j hj q
   ·have:j=i:=by omega
    subst this; exact hf
  refine Yi ?_ ?_
  ·intro hp;have hp:x[i].path=p:=hp;refine Yi (Nz rfl) ?_;refine Xi .pure (Xi _ (Yi (c95 x[i].ver (hv _ (List.getElem_mem h))) ?_));refine Yi ?_ ?_
   ·intro hq;have hq:place x[i].ver=pl:=hq;have hr:releaseP x p pl=some x[i]:=find_hit h (fun j hj hji=>h2 j hj hji) (by rw [decide_eq_true hp,← hpl,decide_eq_true hq]; rfl);refine Yi (Nz rfl) (Yi (Nz rfl) (Yi (Nz rfl) ?_));exact .of_eq (show AV.tup [.agg (encRl x[i]),vb true]=optRl (releaseP x p pl) by rw [hr])
   ·intro hq;have hq:¬ place x[i].ver=pl:=hq;refine Yi (Ii i (by omega)) ?_;refine Xi ⟨i+1,by omega,next (by rw [← hpl,decide_eq_false hq,Bool.and_false])⟩ ?_
    exact ⟨Dl x.length i (by omega),Z5,Z2,Fh,Tv⟩
  ·intro hp;have hp:¬ x[i].path=p:=hp;refine Yi (Ii i (by omega)) ?_;refine Xi ⟨i+1,by omega,next (by rw [decide_eq_false hp,Bool.false_and])⟩ ?_
   exact ⟨Dl x.length i (by omega),Z5,Z2,Fh,Tv⟩
 ·intro h;have h:¬ (i:Int)<(x.map encRl).length:=h;have h:¬ i<x.length:=by simpa using h
  have hr:releaseP x p pl=none:=find_miss fun j hj=>h2 j hj (by omega);refine Yi (Nz rfl) (Yi (Nz rfl) ?_);exact .of_eq (show AV.tup [.agg zRl,vb false]=optRl (releaseP x p pl) by rw [hr])
end Go.Eng

namespace Go.Eng
open Go.Proofs
end Go.Eng

namespace Go.Eng
open Go.Proofs
end Go.Eng

namespace Go.Eng
open Go.Proofs
abbrev majI (p:ByteArray):Int:=match pathMajor p with | none=>-1 | some m=>m
abbrev H114:Prop:=∀ p:ByteArray,FewS p→PC 238 [vs p] (vi (majI p))
abbrev H115:Prop:=∀ s:SpanL,Few s→PC 104 [sl encSpan s] (sl encSpan (canon s))
theorem numL_nn {r:List UInt8} (h:r.all digitC=true):0≤numL r:=by
 have:∀ (l:List UInt8) (n:Int),0≤n→(∀ c ∈ l,digitC c=true)→0≤l.foldl (fun n c=>10*n+((c.toNat:Int) - 48)) n:=by
  intro l
  induction l with
  | nil=>intro n hn _; exact hn
  | cons c l ih =>
   intro n hn hc
   have:=digit_rng (hc c (List.mem_cons_self ..))
   exact ih _ (show 0≤10*n+((c.toNat:Int) - 48) by omega) fun d hd=>hc d (List.mem_cons_of_mem _ hd)
 exact this r 0 (Int.le_refl _) (fun c hc=>List.all_eq_true.1 h c hc)
theorem verL_nn {s:List UInt8} {n:Int} (h:verL s=some n):0≤n:=by
 unfold verL at h;split at h
 ·split at h
  ·split at h
   ·cases h
   ·rename_i r _ hc;cases h;refine numL_nn ?_;cases hd:r.all digitC with
    | true=>rfl
    | false=>rw [hd] at hc; simp at hc
  ·cases h
 ·cases h
theorem major_nn {p:ByteArray} {m:Int} (h:pathMajor p=some m):0≤m:=by
 unfold pathMajor majorL at h;split at h
 ·cases h
 ·rename_i n e;split at h
  ·cases h
  ·split at h
   ·cases h; exact verL_nn e
   ·cases h
theorem majI_neg (p:ByteArray):majI p<0↔(pathMajor p).isNone=true:=by
 unfold majI;cases h:pathMajor p with
 | none=>simp
 | some m=>have:=major_nn h; simp; omega
theorem c68 (h114:H114) (h115:H115) (l:List Rq) (hs:∀ q ∈ l,FewQ q):PC 171 [sl encRq l] (vi (checkRqs l)):=by
 refine Ps (plcut [8,10]) Tryz.func171 rfl (Nz rfl) ?_;refine Yi ?_ ?_
 ·intro h;have h:(16:Int)<(l.map encRq).length:=h;exact .of_eq (congrArg vi (show (7:Int)=checkRqs l by unfold checkRqs; rw [if_pos (by rw [Lm] at h; omega)]))
 intro h;have h:¬ (16:Int)<(l.map encRq).length:=h;have hl:l.length≤16:=by rw [Lm] at h; omega
 have hck:checkRqs l=checkRqsGo none l:=by unfold checkRqs; rw [if_neg (by omega)]
 refine Xi {i:Nat // i≤l.length∧checkRqsGo none l=checkRqsGo (befAt l i) (l.drop i)} (Xi (fun i=>⟨[(0,sl encRq l),(3,vi i.1)],[],hfree⟩) (Xi (fun i=>l.length - i.1) (Yi (Xi ⟨0,Nat.zero_le _,rfl⟩ ?_) ?_)))
 ·exact ⟨Z2,Tv,Fh,Tv⟩
 intro ⟨i,h1,h2⟩;refine Yi ?_ ?_
 ·intro h;have h:(i:Int)<(l.map encRq).length:=h;have h:i<l.length:=by simpa using h
  have hg:l[i]?=some l[i]:=Ge h;have hd:l.drop i=l[i] :: l.drop (i+1):=List.drop_eq_getElem_cons h;have hq:=hs l[i] (List.getElem_mem h);have hgo:checkRqsGo none l=if rqOk (befAt l i) l[i]=0 then checkRqsGo (some l[i].path) (l.drop (i+1)) else rqOk (befAt l i) l[i]:=by rw [h2,hd]; rfl
  have fail:∀ e:Int,rqOk (befAt l i) l[i]=e→e≠0→e=checkRqs l:=fun e he hz=>by rw [hck,hgo,he,if_neg hz]
  have hnx:befAt l (i+1)=some l[i].path:=befAt_eq h;refine Xi (encRq l[i]) (Yi (Yi (Nn i) (by simp [hg])) (Yi rfl ?_));refine Xi .pure (Xi _ (Yi (h114 l[i].path hq.2) ?_));refine Yi ?_ ?_
  ·intro h3;have h3:majI l[i].path<0:=h3;exact .of_eq (congrArg vi (fail 4 (by unfold rqOk; rw [if_pos ((majI_neg _).1 h3)]) (by decide)))
  intro h3;have h3:¬ majI l[i].path<0:=h3;have hmj:(pathMajor l[i].path).isNone=false:=by
   rw [Bool.eq_false_iff]; exact fun e=>h3 ((majI_neg _).2 e)
  have er:rqOk (befAt l i) l[i]=if (l[i].set.isEmpty||!decide (l[i].set=canon l[i].set)||(match befAt l i with | some b=>!blt b l[i].path | none=>false))=true then 1 else 0:=by unfold rqOk; rw [hmj]; rfl
  refine Xi ⟨[(0,sl encRq l),(3,vi i)],[],hfree⟩ (Yi ⟨Z2,Tv,Fh,Tv⟩ ?_)
  refine Xi (encRq l[i]) (Yi (Yi (Nn i) (by simp [hg])) (Yi rfl ?_));refine Yi ?_ ?_
  ·intro h4;have h4:((l[i].set.map encSpan).length:Int)=0:=h4;have h5:l[i].set.isEmpty=true:=by
    rw [Lm] at h4; rw [List.isEmpty_iff]; exact List.eq_nil_of_length_eq_zero (by omega)
   refine Yi (by kernel_rfl) ?_;exact .of_eq (congrArg vi (fail 1 (by rw [er,h5]; rfl) (by decide)))
  intro h4;have h4:¬ ((l[i].set.map encSpan).length:Int)=0:=h4;have h5:l[i].set.isEmpty=false:=by
   cases hqs:l[i].set with
   | nil=>rw [hqs] at h4; exact absurd rfl h4
   | cons a b=>rfl
  have he:=c75 l[i].set (canon l[i].set) hq.1;refine Xi (encRq l[i]) (Yi (Yi (Nn i) (by simp [hg])) (Yi rfl ?_));refine Xi (encRq l[i]) (Yi (Yi (Nn i) (by simp [hg])) (Yi rfl ?_));refine Xi _ (Yi (h115 l[i].set hq.1) ?_);refine Or.elim (Bt (decide (l[i].set=canon l[i].set))) (fun e=>?_) (fun e=>?_)
  rotate_left
  ·rw [e] at he;refine Xi _ (Yi (he) ?_);refine Yi (by kernel_rfl) ?_;exact .of_eq (congrArg vi (fail 1 (by rw [er,h5,e]; rfl) (by decide)))
  rw [e] at he;refine Xi _ (Yi (he) ?_);refine Yi (by kernel_rfl) ?_;refine Xi ⟨[(0,sl encRq l),(3,vi i)],[],hfree⟩ (Yi ⟨Z2,Tv,Fh,Tv⟩ ?_)
  refine Yi ?_ ?_
  ·intro h6;have h6:(0:Int)<i:=h6;have h7:i - 1<l.length:=by omega
   have hb:befAt l i=some l[i - 1].path:=by
    obtain ⟨k,rfl⟩ : ∃ k,i=k+1:=⟨i - 1,by omega⟩;exact befAt_eq h7
   refine Xi (encRq l[i]) (Yi (Yi (Nn i) (by simp [hg])) (Yi rfl ?_));refine Yi (by show InI64 ((i:Int) - 1); unfold InI64; omega) ?_;refine Xi (encRq l[i - 1]) (Yi (Yi (by show (0:Int)≤(i:Int) - 1; omega) (by rw [show ((i:Int) - 1).toNat=i - 1 by omega]; exact map_at (Ge h7))) (Yi rfl ?_));refine Yi ?_ ?_
   ·intro h8;have h8:Op.bytesLess l[i - 1].path.toList l[i].path.toList=false:=h8;refine Yi (by kernel_rfl) ?_;exact .of_eq (congrArg vi (fail 1 (by rw [er,h5,e,hb]; show (if (!blt l[i - 1].path l[i].path)=true then (1:Int) else 0)=1; rw [blt_eq,h8]; rfl) (by decide)))
   ·intro h8;have h8:¬ Op.bytesLess l[i - 1].path.toList l[i].path.toList=false:=h8;have h8:Op.bytesLess l[i - 1].path.toList l[i].path.toList=true:=by simpa using h8
    refine Yi (by kernel_rfl) ?_;refine Yi (Ii i (by omega)) ?_;refine Xi ⟨i+1,by omega,by rw [hgo,hnx,if_pos (by rw [er,h5,e,hb]; show (if (!blt l[i - 1].path l[i].path)=true then (1:Int) else 0)=0; rw [blt_eq,h8]; rfl)]⟩ ?_;exact ⟨Dl l.length i (by omega),Z2,Tv,Fh,Tv⟩
  ·intro h6;have h6:¬ (0:Int)<i:=h6;have h7:i=0:=by omega
   refine Yi (by kernel_rfl) ?_;refine Yi (Ii i (by omega)) ?_;refine Xi ⟨i+1,by omega,by rw [hgo,hnx,if_pos (by rw [er,h5,e]; subst h7; rfl)]⟩ ?_;exact ⟨Dl l.length i (by omega),Z2,Tv,Fh,Tv⟩
 ·intro h;have h:¬ (i:Int)<(l.map encRq).length:=h;have h:¬ i<l.length:=by simpa using h
  have e:(0:Int)=checkRqs l:=by rw [hck,h2,List.drop_eq_nil_of_le (by omega)]; rfl
  exact .of_eq (congrArg vi e)
end Go.Eng

namespace Go.Eng
open Go.Proofs
theorem lastIdx_go (p:ByteArray) (k:Nat) (hk:k<p.data.toList.length) (h1:p.data.toList[k]=47) (h2:∀ j (hj:j<p.data.toList.length),k<j→p.data.toList[j]≠47):Go.Lib.lastIndex p.data.toList [47]=k:=by
 have hoc:∀ i (hi:i<p.data.toList.length),Go.Lib.occAt p.data.toList [47] i=true↔p.data.toList[i]=47:=fun i hi=>by
  unfold Go.Lib.occAt;rw [List.drop_eq_getElem_cons hi];simp;exact eq_comm
 unfold Go.Lib.lastIndex;rw [if_pos (by simp only [List.length_singleton]; omega)];rcases Go.Lib.lastOcc_spec p.data.toList [47] (p.data.toList.length - [(47:UInt8)].length+1) with ⟨_,h3⟩ | ⟨j,h3,h4,h5,h6⟩
 ·have:=h3 k (by simp only [List.length_singleton]; omega)
  rw [(hoc k hk).2 h1] at this; cases this
 ·rw [h4];simp only [List.length_singleton] at h3;have e:j=k:=by
   rcases Nat.lt_trichotomy j k with z | z | z
   ·have:=h6 k z (by simp only [List.length_singleton]; omega)
    rw [(hoc k hk).2 h1] at this; cases this
   ·exact z
   ·exact absurd ((hoc j (by omega)).1 h5) (h2 j (by omega) z)
  rw [e]
theorem slash_mem {p:ByteArray} {m:Int} (h:pathMajor p=some m):(47:UInt8) ∈ p.data.toList:=by
 refine splitL_mem 47 _ ?_;unfold pathMajor majorL at h;split at h
 ·cases h
 ·split at h
  ·cases h
  ·rename_i hn;simp only [Bool.or_eq_true,decide_eq_true_eq] at hn;omega
theorem c171 (p:ByteArray) (hp:FewS p):PC 102 [vs p] (lineV lineNm p):=by
 have hc:=c199 p hp;have hi:=c198 p hp;have hsz:p.size=p.data.toList.length:=by simp
 unfold lineV;cases h:pathMajor p with
 | none =>
  rw [h] at hi;refine Ps pl0 Tryz.func102 rfl (Nz rfl) ?_;refine Xi .pure (Xi _ (Yi (hi) ?_));exact .refl _
 | some n =>
  have hsm:=slash_mem h;rw [h] at hc hi;unfold FewS at hp;refine Exists.elim (show ∃ q,∃ hq:q<p.data.toList.length,p.data.toList[q]=47 from List.getElem_of_mem hsm) (fun q hq=>?_);refine Exists.elim hq (fun hq eq=>?_);refine Ps pl0 Tryz.func102 rfl (Nz rfl) ?_;refine Xi .pure (Xi _ (Yi (hi) ?_));refine Xi .pure (Xi _ (Yi (hc) ?_));refine Yi (fun h=>absurd rfl h) (fun _=>?_);refine Yi (show InI64 (((p.size:Nat):Int) - 1) by unfold InI64; omega) ?_;refine Xi {k:Nat // k<p.data.toList.length∧∀ j (hj:j<p.data.toList.length),k<j→p.data.toList[j]≠47} (Xi (fun k=>⟨[(0,vs p),(5,vi n),(7,vi k.1)],[],hfree⟩) (Xi (fun k=>k.1) (Yi (Xi ⟨p.data.toList.length - 1,by omega,fun j hj hji=>by omega⟩ ?_) ?_)))
  ·have e1:vi (((p.size:Nat):Int) - 1)=vi ((p.data.toList.length - 1:Nat):Int):=congrArg vi (by omega);exact ⟨⟨Zr,Zr,⟨e1,rfl⟩,Tv⟩,Tv,Fh,Tv⟩
  intro ⟨k,k1,k2⟩;have hat:(0:Int)≤k∧p.data[((k:Nat):Int).toNat]?=some p.data.toList[k]:=⟨by omega,by rw [Int.toNat_natCast]; exact at_data p k k1⟩;refine Xi p.data.toList[k] (Yi hat ?_);refine Yi (fun h2=>?_) (fun h2=>?_)
  ·have h2:¬ (p.data.toList[k].toNat:Int)=47:=h2;have h2:p.data.toList[k]≠47:=fun e=>h2 (by rw [e]; rfl);have hqk:q≤k:=by
    rcases Nat.lt_or_ge k q with z | z
    ·exact absurd eq (k2 q hq z)
    ·exact z
   have hk0:q≠k:=fun e=>by subst e; exact h2 eq
   refine Yi (show InI64 ((k:Int) - 1) by unfold InI64; omega) ?_;have e1:vi ((k:Int) - 1)=vi ((k - 1:Nat):Int):=congrArg vi (by omega);refine Xi ⟨k - 1,by omega,fun j hj hji=>?_⟩ ?_
   ·rcases Nat.lt_or_ge k j with z | z
    ·exact k2 j hj z
    ·have:j=k:=by omega
     subst this; exact h2
   ·exact ⟨by show k - 1<k; omega,⟨Zr,Zr,⟨e1,rfl⟩,Tv⟩,Tv,Fh,Tv⟩
  ·have h2:¬ ¬ (p.data.toList[k].toNat:Int)=47:=h2;have h2:p.data.toList[k]=47:=UInt8.toNat_inj.1 (by have:=Classical.not_not.1 h2; show p.data.toList[k].toNat=47; omega);have el:=lastIdx_go p k k1 h2 k2;refine Yi ⟨Int.le_refl _,by show (0:Int)≤k; omega,by show (k:Int)≤p.size; omega⟩ ?_;have e3:p.extract 0 ((k:Nat):Int).toNat=lineNm p:=by unfold lineNm; rw [el]
   exact .of_eq (show AV.tup [vs (p.extract 0 ((k:Nat):Int).toNat),vi n,vi 0]=_ by rw [e3])
theorem c114 (p:ByteArray) (hp:FewS p):PC 238 [vs p] (vi (majI p)):=by
 have hc:=c171 p hp;unfold lineV at hc;unfold majI;cases h:pathMajor p with
 | none =>
  rw [h] at hc;refine Ps pl0 Tryz.func238 rfl (Nz rfl) ?_;refine Xi .pure (Xi _ (Yi (hc) ?_));refine Yi (fun _=>?_) (fun h=>absurd (show (4:Int)≠0 by decide) h);exact .refl _
 | some m =>
  rw [h] at hc;refine Ps pl0 Tryz.func238 rfl (Nz rfl) ?_;refine Xi .pure (Xi _ (Yi (hc) ?_));refine Yi (fun h=>absurd rfl h) (fun _=>?_);exact .refl _
theorem h114:H114:=c114
end Go.Eng
