/- Lemmas for the claims of this seat, without a condition: part 25 (R5, C60, C61, C62, C63, C64, R6, R7, R8, R9, R10, R11, R12, R13, R14, R15, R16, R17, R18, R19, R20, R21, R22, R23, E14, E15, E16, E17, E18). -/
import Derived.Test.YtpgfieopnnkpfaaGreatDoorNA24
namespace Go.Eng
open Go.Proofs
theorem verL_nonneg {s:List UInt8} {n:Int} (h:verL s=some n):0≤n:=by
 cases s with
 | nil=>unfold verL at h; cases h
 | cons c r =>
  have h:(if c=118 then (if (r.isEmpty||decide (3<r.length)||(decide (1<r.length)&&decide (r.headD 0=48))||!r.all digitC)=true then none else some (numL r)) else none)=some n:=h
  by_cases hc:c=118
  ·rw [if_pos hc] at h
   by_cases hb:(r.isEmpty||decide (3<r.length)||(decide (1<r.length)&&decide (r.headD 0=48))||!r.all digitC)=true
   ·rw [if_pos hb] at h; cases h
   ·rw [if_neg hb] at h;have ha:r.all digitC=true:=by
     cases hr:r.all digitC
     ·rw [hr] at hb; simp at hb
     ·rfl
    rw [← Option.some.inj h]
    suffices hh:∀ i,i≤r.length→0≤numL (r.take i) by
     have:=hh r.length (Nat.le_refl _)
     rwa [List.take_length] at this
    intro i
    induction i with
    | zero=>intro _; exact Int.le_refl _
    | succ i ih =>
     intro hi;have hd:=digit_rng (List.all_eq_true.1 ha _ (List.getElem_mem (show i<r.length by omega)))
     have:=ih (by omega)
     rw [numL_take r i (by omega)]; omega
  ·rw [if_neg hc] at h; cases h
theorem pSL_last {l:List UInt8} {x:ByteArray} (h:(pSL l)[(pSL l).length - 1]?=some x):(splitL 47 l).getLastD []=x.data.toList:=by
 rw [Lm,List.getElem?_map,← List.getLast?_eq_getElem?] at h;obtain ⟨y,hy,e⟩:=Option.map_eq_some_iff.1 h;rw [List.getLastD_eq_getLast?,hy,← e]; rfl
theorem c199 (p:ByteArray) (hp:FewS p):PC 164 [vs p] (majV (pathMajor p)):=by
 have hsz:p.size=p.data.toList.length:=by simp
 have hc:=c226 p hp;unfold FewS at hp;obtain ⟨A,hA⟩ : ∃ A,A=pSL p.data.toList:=⟨_,rfl⟩;rw [← hA] at hc;have hAl:A.length=(splitL 47 p.data.toList).length:=by rw [hA,Lm]
 have hpl:=splitL_few 47 p.data.toList;have hpp:0<A.length:=by rw [hAl]; exact List.length_pos_iff.2 (splitL_ne 47 _)
 have hmem:∀ x ∈ A,x.data.toList.length<4611686018427387904:=fun x hx=>by
  obtain ⟨y,hy,e⟩:=List.mem_map.1 (hA▸hx:x ∈ pSL p.data.toList);have h5:=splitL_len 47 _ y hy;rw [← e]; show y.length<_; omega
 have hall:(splitL 47 p.data.toList).all segOk=A.all fun x=>segOk x.data.toList:=by rw [hA,List.all_map]; rfl
 have hlt:A.length - 1<A.length:=by omega
 have hg:A[A.length - 1]?=some A[A.length - 1]:=Ge hlt;have hlast:(splitL 47 p.data.toList).getLastD []=A[A.length - 1].data.toList:=by
  subst hA; exact pSL_last hg
 have em:pathMajor p=match verL A[A.length - 1].data.toList with
  | none=>none
  | some n=>if (decide (64<p.data.toList.length)||decide (A.length<2))=true then none else if (A.all fun x=>segOk x.data.toList)=true then some n else none:=by
  unfold pathMajor majorL;rw [hlast,hall,← hAl];cases verL A[A.length - 1].data.toList with
  | none=>rfl
  | some n=>rfl
 clear hall hlast
 have hv:=c228 A[A.length - 1] (hmem _ (List.getElem_mem hlt));obtain ⟨o,ho⟩ : ∃ o,o=verL A[A.length - 1].data.toList:=⟨_,rfl⟩;rw [← ho] at hv em;have hz:∀ n,o=some n→0≤n:=fun n e=>by
  rw [e] at ho;exact verL_nonneg ho.symm
 refine Ps (plcut [4,9,10]) Tryz.func164 rfl (Nz rfl) ?_;refine Yi (fun h=>?_) (fun h=>?_)
 ·have h:(64:Int)<((p.size:Nat):Int):=h;exact .of_eq (congrArg majV (show (none:Option Int)=pathMajor p by rw [em,decide_eq_true (by omega:64<p.data.toList.length)]; cases o <;> rfl))
 have h:¬ (64:Int)<((p.size:Nat):Int):=h;have d1:decide (64<p.data.toList.length)=false:=decide_eq_false (by omega);refine Xi .pure (Xi _ (Yi (hc) ?_));refine Xi ⟨[(4,sl encS A)],[],hfree⟩ (Yi ⟨Z1,Tv,Fh,Tv⟩ ?_)
 refine Xi {i:Nat // i≤A.length∧∀ j (hj:j<A.length),j<i→segOk (A[j]).data.toList=true} (Xi (fun i=>⟨[(4,sl encS A),(5,vi i.1)],[],hfree⟩) (Xi (fun i=>A.length - i.1) (Yi (Xi ⟨0,Nat.zero_le _,fun j _ h=>by omega⟩ ?_) ?_)))
 ·exact ⟨Z2,Tv,Fh,Tv⟩
 intro ⟨i,i1,i2⟩;refine Yi (fun h2=>?_) (fun h2=>?_)
 ·have h2:(i:Int)<((A.map encS).length:Int):=h2;have h2:i<A.length:=by simpa using h2
  have hg:A[i]?=some A[i]:=Ge h2;refine Xi (encS A[i]) (Yi (Yi (Nn i) (by simp [hg])) (Yi rfl ?_));have hn:=c227 A[i] (hmem _ (List.getElem_mem h2));refine Or.elim (Bt (segOk A[i].data.toList)).symm (fun e1=>?_) (fun e1=>?_)
  ·rw [e1] at hn;refine Xi .pure (Xi _ (Yi (hn) ?_));have e2:(A.all fun x=>segOk x.data.toList)=false:=by
    rw [Bool.eq_false_iff];intro hh
    have:=List.all_eq_true.1 hh _ (List.getElem_mem h2)
    rw [e1] at this; cases this
   exact .of_eq (congrArg majV (show (none:Option Int)=pathMajor p by
    rw [em,e2];cases o with
    | none=>rfl
    | some n=>cases (decide (64<p.data.toList.length)||decide (A.length<2)) <;> rfl))
  rw [e1] at hn;refine Xi .pure (Xi _ (Yi (hn) ?_));refine Yi (Ii i (by omega)) ?_;refine Xi ⟨i+1,by omega,fun j hj hji=>?_⟩ ?_
  ·rcases Nat.lt_or_ge j i with z | z
   ·exact i2 j hj z
   ·have:j=i:=by omega
    subst this; exact e1
  ·exact ⟨Dl A.length i (by omega),Z2,Tv,Fh,Tv⟩
 have h2:¬ (i:Int)<((A.map encS).length:Int):=h2;have h2:¬ i<A.length:=by simpa using h2
 have e2:(A.all fun x=>segOk x.data.toList)=true:=List.all_eq_true.2 fun x hx=>by
  obtain ⟨j,hj,rfl⟩:=List.getElem_of_mem hx;exact i2 j hj (by omega)
 have em:pathMajor p=match (generalizing:=false) o with
  | none=>none
  | some n=>if decide (A.length<2)=true then none else some n:=by
  rw [em,e2,d1];cases o <;> rfl
 refine Xi ⟨[(4,sl encS A)],[],hfree⟩ (Yi ⟨Z1,Tv,Fh,Tv⟩ ?_)
 have hin:(((A.map encS).length:Int) - 1).toNat=A.length - 1:=by rw [Lm]; omega
 refine Yi (by show InI64 (((A.map encS).length:Int) - 1); rw [Lm]; unfold InI64; omega) ?_;refine Xi (encS A[A.length - 1]) (Yi (Yi (by show (0:Int)≤((A.map encS).length:Int) - 1; rw [Lm]; omega) (by rw [hin]; exact map_at hg)) (Yi rfl ?_));refine Xi .pure (Xi _ (Yi (hv) ?_));refine Exists.elim (show ∃ z:Int,ver2 o=vi z∧(z<0↔o=none)∧∀ n,o=some n→z=n by
  cases o with
  | none=>exact ⟨-1,rfl,⟨fun _=>rfl,fun _=>by decide⟩,fun n h=>by cases h⟩
  | some n=>exact ⟨n,rfl,⟨fun h=>absurd (hz n rfl) (by omega),fun h=>by cases h⟩,fun m h=>by cases h; rfl⟩) (fun z hz2=>?_)
 refine Xi ⟨[(4,sl encS A),(6,vi z)],[],hfree⟩ (Yi ⟨⟨Zr,⟨hz2.1,rfl⟩,Tv⟩,Tv,Fh,Tv⟩ ?_)
 refine Yi (fun h3=>?_) (fun h3=>?_)
 ·have h3:((A.map encS).length:Int)<2:=h3;rw [Lm] at h3;exact .of_eq (congrArg majV (show (none:Option Int)=pathMajor p by rw [em,decide_eq_true (by omega:A.length<2)]; cases o <;> rfl))
 have h3:¬ ((A.map encS).length:Int)<2:=h3;rw [Lm] at h3;refine Yi (fun h4=>?_) (fun h4=>?_)
 ·have h4:z<0:=h4;exact .of_eq (congrArg majV (show (none:Option Int)=pathMajor p by rw [em,hz2.2.1.1 h4]))
 have h4:¬ z<0:=h4;refine Exists.elim (show ∃ n,o=some n by
  cases o with
  | none=>exact absurd (hz2.2.1.2 rfl) h4
  | some n=>exact ⟨n,rfl⟩) (fun n hn=>?_)
 exact .of_eq (show AV.tup [vi z,vi 0]=majV (pathMajor p) by rw [em,hn,hz2.2.2 n hn,decide_eq_false (by omega:¬ A.length<2)]; rfl)
theorem c198 (p:ByteArray) (hp:FewS p):PC 163 [vs p] (vb (pathMajor p).isSome):=by
 have hc:=c199 p hp;cases h:pathMajor p with
 | none =>
  rw [h] at hc;refine Ps pl0 Tryz.func163 rfl (Nz rfl) ?_;refine Xi .pure (Xi _ (Yi (hc) ?_));refine Yi ?_ ?_
  ·intro h; exact absurd (show (4:Int)=0 from h) (by decide)
  ·intro _; exact .refl _
 | some n =>
  rw [h] at hc;refine Ps pl0 Tryz.func163 rfl (Nz rfl) ?_;refine Xi .pure (Xi _ (Yi (hc) ?_));refine Yi ?_ ?_
  ·intro _; exact .refl _
  ·intro h; exact absurd rfl h
end Go.Eng

namespace Go.Eng
open Go.Proofs
end Go.Eng

namespace Go.Eng
open Go.Proofs
end Go.Eng

namespace Go.Eng
open Go.Proofs
theorem c80 (s:List Sl) (hs:Few s):PC 201 [sl encSl s] (vb (increasing s)):=by
 unfold Few at hs;refine Ps pl0 Tryz.func201 rfl (Nz rfl) ?_;refine Xi {i:Nat // 1≤i∧(s=[]∨i≤s.length)∧increasing s=(match s[i - 1]? with | none=>true | some y=>incGo (some y.path) (s.drop i))} (Xi (fun i=>⟨[(0,sl encSl s),(3,vi i.1)],[],hfree⟩) (Xi (fun i=>s.length - i.1) (Yi (Xi ⟨1,Nat.le_refl _,by cases s with | nil=>exact .inl rfl | cons _ _=>exact .inr (by simp),by cases s <;> rfl⟩ ?_) ?_)))
 ·exact ⟨Z2,Tv,Fh,Tv⟩
 intro ⟨i,h1,h2,h3⟩;refine Yi ?_ ?_
 ·intro h;have h:(i:Int)<(s.map encSl).length:=h;have h:i<s.length:=by simpa using h
  have hg:s[i]?=some s[i]:=Ge h;have h' : i - 1<s.length:=by omega
  have hg' : s[i - 1]?=some s[i - 1]:=Ge h';have e1:((i:Int) - 1).toNat=i - 1:=by omega
  have hstep:increasing s=(blt s[i - 1].path s[i].path&&incGo (some s[i].path) (s.drop (i+1))):=by
   rw [h3,hg']
   have:=incGo_at s (i - 1) (by omega)
   simp only [show i - 1+1=i by omega,show i - 1+2=i+1 by omega] at this;exact this
  refine Xi (encSl s[i]) (Yi (Yi (Nn i) (by simp [hg])) (Yi rfl ?_));refine Yi (by show InI64 ((i:Int) - 1); unfold InI64; omega) ?_;refine Xi (encSl s[i - 1]) (Yi (Yi (by show (0:Int)≤(i:Int) - 1; omega) (by show (s.map encSl)[((i:Int) - 1).toNat]?=_; rw [e1]; simp [hg'])) (Yi rfl ?_));refine Yi ?_ ?_
  ·intro h4;have h4:Op.bytesLess s[i - 1].path.toList s[i].path.toList=false:=h4;rw [← blt_eq] at h4;refine Yi (by kernel_rfl) ?_;exact .of_eq (congrArg vb (show false=increasing s by rw [hstep,h4]; rfl))
  ·intro h4;have h4:¬ Op.bytesLess s[i - 1].path.toList s[i].path.toList=false:=h4;rw [← blt_eq,Bool.not_eq_false] at h4;refine Yi (by kernel_rfl) ?_;refine Yi (Ii i (by omega)) ?_;refine Xi ⟨i+1,by omega,.inr (by omega),by rw [hstep,h4,show i+1 - 1=i by omega,hg]; rfl⟩ ?_;exact ⟨Dl s.length i (by omega),Z2,Tv,Fh,Tv⟩
 ·intro h;have h:¬ (i:Int)<(s.map encSl).length:=h;have h:¬ i<s.length:=by simpa using h
  have hinc:increasing s=true:=by
   rcases h2 with h2 | h2
   ·rw [h2]; rfl
   ·have e:i=s.length:=by omega
    rw [h3,e,List.drop_length];cases s[s.length - 1]? <;> rfl
  exact .of_eq (congrArg vb hinc.symm)
end Go.Eng

namespace Go.Eng
open Go.Proofs
end Go.Eng

namespace Go.Eng
open Go.Proofs
abbrev majI (p:ByteArray):Int:=match pathMajor p with | none=>-1 | some m=>m
abbrev H114:Prop:=∀ p:ByteArray,FewS p→PC 238 [vs p] (vi (majI p))
abbrev H115:Prop:=∀ s:SpanL,Few s→PC 104 [sl encSpan s] (sl encSpan (canon s))
theorem numL_nn {r:List UInt8} (h:r.all digitC=true):0≤numL r:=by
 have:∀ (l:List UInt8) (n:Int),0≤n→(∀ c ∈ l,digitC c=true)→0≤l.foldl (fun n c=>10*n+((c.toNat:Int) - 48)) n:=by
  intro l
  induction l with
  | nil=>intro n hn _; exact hn
  | cons c l ih =>
   intro n hn hc
   have:=digit_rng (hc c (List.mem_cons_self ..))
   exact ih _ (show 0≤10*n+((c.toNat:Int) - 48) by omega) fun d hd=>hc d (List.mem_cons_of_mem _ hd)
 exact this r 0 (Int.le_refl _) (fun c hc=>List.all_eq_true.1 h c hc)
theorem verL_nn {s:List UInt8} {n:Int} (h:verL s=some n):0≤n:=by
 unfold verL at h;split at h
 ·split at h
  ·split at h
   ·cases h
   ·rename_i r _ hc;cases h;refine numL_nn ?_;cases hd:r.all digitC with
    | true=>rfl
    | false=>rw [hd] at hc; simp at hc
  ·cases h
 ·cases h
theorem major_nn {p:ByteArray} {m:Int} (h:pathMajor p=some m):0≤m:=by
 unfold pathMajor majorL at h;split at h
 ·cases h
 ·rename_i n e;split at h
  ·cases h
  ·split at h
   ·cases h; exact verL_nn e
   ·cases h
theorem majI_neg (p:ByteArray):majI p<0↔(pathMajor p).isNone=true:=by
 unfold majI;cases h:pathMajor p with
 | none=>simp
 | some m=>have:=major_nn h; simp; omega
theorem c68 (h114:H114) (h115:H115) (l:List Rq) (hs:∀ q ∈ l,FewQ q):PC 171 [sl encRq l] (vi (checkRqs l)):=by
 refine Ps (plcut [8,10]) Tryz.func171 rfl (Nz rfl) ?_;refine Yi ?_ ?_
 ·intro h;have h:(16:Int)<(l.map encRq).length:=h;exact .of_eq (congrArg vi (show (7:Int)=checkRqs l by unfold checkRqs; rw [if_pos (by rw [Lm] at h; omega)]))
 intro h;have h:¬ (16:Int)<(l.map encRq).length:=h;have hl:l.length≤16:=by rw [Lm] at h; omega
 have hck:checkRqs l=checkRqsGo none l:=by unfold checkRqs; rw [if_neg (by omega)]
 refine Xi {i:Nat // i≤l.length∧checkRqsGo none l=checkRqsGo (befAt l i) (l.drop i)} (Xi (fun i=>⟨[(0,sl encRq l),(3,vi i.1)],[],hfree⟩) (Xi (fun i=>l.length - i.1) (Yi (Xi ⟨0,Nat.zero_le _,rfl⟩ ?_) ?_)))
 ·exact ⟨Z2,Tv,Fh,Tv⟩
 intro ⟨i,h1,h2⟩;refine Yi ?_ ?_
 ·intro h;have h:(i:Int)<(l.map encRq).length:=h;have h:i<l.length:=by simpa using h
  have hg:l[i]?=some l[i]:=Ge h;have hd:l.drop i=l[i] :: l.drop (i+1):=List.drop_eq_getElem_cons h;have hq:=hs l[i] (List.getElem_mem h);have hgo:checkRqsGo none l=if rqOk (befAt l i) l[i]=0 then checkRqsGo (some l[i].path) (l.drop (i+1)) else rqOk (befAt l i) l[i]:=by rw [h2,hd]; rfl
  have fail:∀ e:Int,rqOk (befAt l i) l[i]=e→e≠0→e=checkRqs l:=fun e he hz=>by rw [hck,hgo,he,if_neg hz]
  have hnx:befAt l (i+1)=some l[i].path:=befAt_eq h;refine Xi (encRq l[i]) (Yi (Yi (Nn i) (by simp [hg])) (Yi rfl ?_));refine Xi .pure (Xi _ (Yi (h114 l[i].path hq.2) ?_));refine Yi ?_ ?_
  ·intro h3;have h3:majI l[i].path<0:=h3;exact .of_eq (congrArg vi (fail 4 (by unfold rqOk; rw [if_pos ((majI_neg _).1 h3)]) (by decide)))
  intro h3;have h3:¬ majI l[i].path<0:=h3;have hmj:(pathMajor l[i].path).isNone=false:=by
   rw [Bool.eq_false_iff]; exact fun e=>h3 ((majI_neg _).2 e)
  have er:rqOk (befAt l i) l[i]=if (l[i].set.isEmpty||!decide (l[i].set=canon l[i].set)||(match befAt l i with | some b=>!blt b l[i].path | none=>false))=true then 1 else 0:=by unfold rqOk; rw [hmj]; rfl
  refine Xi ⟨[(0,sl encRq l),(3,vi i)],[],hfree⟩ (Yi ⟨Z2,Tv,Fh,Tv⟩ ?_)
  refine Xi (encRq l[i]) (Yi (Yi (Nn i) (by simp [hg])) (Yi rfl ?_));refine Yi ?_ ?_
  ·intro h4;have h4:((l[i].set.map encSpan).length:Int)=0:=h4;have h5:l[i].set.isEmpty=true:=by
    rw [Lm] at h4; rw [List.isEmpty_iff]; exact List.eq_nil_of_length_eq_zero (by omega)
   refine Yi (by kernel_rfl) ?_;exact .of_eq (congrArg vi (fail 1 (by rw [er,h5]; rfl) (by decide)))
  intro h4;have h4:¬ ((l[i].set.map encSpan).length:Int)=0:=h4;have h5:l[i].set.isEmpty=false:=by
   cases hqs:l[i].set with
   | nil=>rw [hqs] at h4; exact absurd rfl h4
   | cons a b=>rfl
  have he:=c75 l[i].set (canon l[i].set) hq.1;refine Xi (encRq l[i]) (Yi (Yi (Nn i) (by simp [hg])) (Yi rfl ?_));refine Xi (encRq l[i]) (Yi (Yi (Nn i) (by simp [hg])) (Yi rfl ?_));refine Xi _ (Yi (h115 l[i].set hq.1) ?_);refine Or.elim (Bt (decide (l[i].set=canon l[i].set))) (fun e=>?_) (fun e=>?_)
  rotate_left
  ·rw [e] at he;refine Xi _ (Yi (he) ?_);refine Yi (by kernel_rfl) ?_;exact .of_eq (congrArg vi (fail 1 (by rw [er,h5,e]; rfl) (by decide)))
  rw [e] at he;refine Xi _ (Yi (he) ?_);refine Yi (by kernel_rfl) ?_;refine Xi ⟨[(0,sl encRq l),(3,vi i)],[],hfree⟩ (Yi ⟨Z2,Tv,Fh,Tv⟩ ?_)
  refine Yi ?_ ?_
  ·intro h6;have h6:(0:Int)<i:=h6;have h7:i - 1<l.length:=by omega
   have hb:befAt l i=some l[i - 1].path:=by
    obtain ⟨k,rfl⟩ : ∃ k,i=k+1:=⟨i - 1,by omega⟩;exact befAt_eq h7
   refine Xi (encRq l[i]) (Yi (Yi (Nn i) (by simp [hg])) (Yi rfl ?_));refine Yi (by show InI64 ((i:Int) - 1); unfold InI64; omega) ?_;refine Xi (encRq l[i - 1]) (Yi (Yi (by show (0:Int)≤(i:Int) - 1; omega) (by rw [show ((i:Int) - 1).toNat=i - 1 by omega]; exact map_at (Ge h7))) (Yi rfl ?_));refine Yi ?_ ?_
   ·intro h8;have h8:Op.bytesLess l[i - 1].path.toList l[i].path.toList=false:=h8;refine Yi (by kernel_rfl) ?_;exact .of_eq (congrArg vi (fail 1 (by rw [er,h5,e,hb]; show (if (!blt l[i - 1].path l[i].path)=true then (1:Int) else 0)=1; rw [blt_eq,h8]; rfl) (by decide)))
   ·intro h8;have h8:¬ Op.bytesLess l[i - 1].path.toList l[i].path.toList=false:=h8;have h8:Op.bytesLess l[i - 1].path.toList l[i].path.toList=true:=by simpa using h8
    refine Yi (by kernel_rfl) ?_;refine Yi (Ii i (by omega)) ?_;refine Xi ⟨i+1,by omega,by rw [hgo,hnx,if_pos (by rw [er,h5,e,hb]; show (if (!blt l[i - 1].path l[i].path)=true then (1:Int) else 0)=0; rw [blt_eq,h8]; rfl)]⟩ ?_;exact ⟨Dl l.length i (by omega),Z2,Tv,Fh,Tv⟩
  ·intro h6;have h6:¬ (0:Int)<i:=h6;have h7:i=0:=by omega
   refine Yi (by kernel_rfl) ?_;refine Yi (Ii i (by omega)) ?_;refine Xi ⟨i+1,by omega,by rw [hgo,hnx,if_pos (by rw [er,h5,e]; subst h7; rfl)]⟩ ?_;exact ⟨Dl l.length i (by omega),Z2,Tv,Fh,Tv⟩
 ·intro h;have h:¬ (i:Int)<(l.map encRq).length:=h;have h:¬ i<l.length:=by simpa using h
  have e:(0:Int)=checkRqs l:=by rw [hck,h2,List.drop_eq_nil_of_le (by omega)]; rfl
  exact .of_eq (congrArg vi e)
end Go.Eng

namespace Go.Eng
open Go.Proofs
theorem lastIdx_go (p:ByteArray) (k:Nat) (hk:k<p.data.toList.length) (h1:p.data.toList[k]=47) (h2:∀ j (hj:j<p.data.toList.length),k<j→p.data.toList[j]≠47):Go.Lib.lastIndex p.data.toList [47]=k:=by
 have hoc:∀ i (hi:i<p.data.toList.length),Go.Lib.occAt p.data.toList [47] i=true↔p.data.toList[i]=47:=fun i hi=>by
  unfold Go.Lib.occAt;rw [List.drop_eq_getElem_cons hi];simp;exact eq_comm
 unfold Go.Lib.lastIndex;rw [if_pos (by simp only [List.length_singleton]; omega)];rcases Go.Lib.lastOcc_spec p.data.toList [47] (p.data.toList.length - [(47:UInt8)].length+1) with ⟨_,h3⟩ | ⟨j,h3,h4,h5,h6⟩
 ·have:=h3 k (by simp only [List.length_singleton]; omega)
  rw [(hoc k hk).2 h1] at this; cases this
 ·rw [h4];simp only [List.length_singleton] at h3;have e:j=k:=by
   rcases Nat.lt_trichotomy j k with z | z | z
   ·have:=h6 k z (by simp only [List.length_singleton]; omega)
    rw [(hoc k hk).2 h1] at this; cases this
   ·exact z
   ·exact absurd ((hoc j (by omega)).1 h5) (h2 j (by omega) z)
  rw [e]
theorem slash_mem {p:ByteArray} {m:Int} (h:pathMajor p=some m):(47:UInt8) ∈ p.data.toList:=by
 refine splitL_mem 47 _ ?_;unfold pathMajor majorL at h;split at h
 ·cases h
 ·split at h
  ·cases h
  ·rename_i hn;simp only [Bool.or_eq_true,decide_eq_true_eq] at hn;omega
theorem c171 (p:ByteArray) (hp:FewS p):PC 102 [vs p] (lineV lineNm p):=by
 have hc:=c199 p hp;have hi:=c198 p hp;have hsz:p.size=p.data.toList.length:=by simp
 unfold lineV;cases h:pathMajor p with
 | none =>
  rw [h] at hi;refine Ps pl0 Tryz.func102 rfl (Nz rfl) ?_;refine Xi .pure (Xi _ (Yi (hi) ?_));exact .refl _
 | some n =>
  have hsm:=slash_mem h;rw [h] at hc hi;unfold FewS at hp;refine Exists.elim (show ∃ q,∃ hq:q<p.data.toList.length,p.data.toList[q]=47 from List.getElem_of_mem hsm) (fun q hq=>?_);refine Exists.elim hq (fun hq eq=>?_);refine Ps pl0 Tryz.func102 rfl (Nz rfl) ?_;refine Xi .pure (Xi _ (Yi (hi) ?_));refine Xi .pure (Xi _ (Yi (hc) ?_));refine Yi (fun h=>absurd rfl h) (fun _=>?_);refine Yi (show InI64 (((p.size:Nat):Int) - 1) by unfold InI64; omega) ?_;refine Xi {k:Nat // k<p.data.toList.length∧∀ j (hj:j<p.data.toList.length),k<j→p.data.toList[j]≠47} (Xi (fun k=>⟨[(0,vs p),(5,vi n),(7,vi k.1)],[],hfree⟩) (Xi (fun k=>k.1) (Yi (Xi ⟨p.data.toList.length - 1,by omega,fun j hj hji=>by omega⟩ ?_) ?_)))
  ·have e1:vi (((p.size:Nat):Int) - 1)=vi ((p.data.toList.length - 1:Nat):Int):=congrArg vi (by omega);exact ⟨⟨Zr,Zr,⟨e1,rfl⟩,Tv⟩,Tv,Fh,Tv⟩
  intro ⟨k,k1,k2⟩;have hat:(0:Int)≤k∧p.data[((k:Nat):Int).toNat]?=some p.data.toList[k]:=⟨by omega,by rw [Int.toNat_natCast]; exact at_data p k k1⟩;refine Xi p.data.toList[k] (Yi hat ?_);refine Yi (fun h2=>?_) (fun h2=>?_)
  ·have h2:¬ (p.data.toList[k].toNat:Int)=47:=h2;have h2:p.data.toList[k]≠47:=fun e=>h2 (by rw [e]; rfl);have hqk:q≤k:=by
    rcases Nat.lt_or_ge k q with z | z
    ·exact absurd eq (k2 q hq z)
    ·exact z
   have hk0:q≠k:=fun e=>by subst e; exact h2 eq
   refine Yi (show InI64 ((k:Int) - 1) by unfold InI64; omega) ?_;have e1:vi ((k:Int) - 1)=vi ((k - 1:Nat):Int):=congrArg vi (by omega);refine Xi ⟨k - 1,by omega,fun j hj hji=>?_⟩ ?_
   ·rcases Nat.lt_or_ge k j with z | z
    ·exact k2 j hj z
    ·have:j=k:=by omega
     subst this; exact h2
   ·exact ⟨by show k - 1<k; omega,⟨Zr,Zr,⟨e1,rfl⟩,Tv⟩,Tv,Fh,Tv⟩
  ·have h2:¬ ¬ (p.data.toList[k].toNat:Int)=47:=h2;have h2:p.data.toList[k]=47:=UInt8.toNat_inj.1 (by have:=Classical.not_not.1 h2; show p.data.toList[k].toNat=47; omega);have el:=lastIdx_go p k k1 h2 k2;refine Yi ⟨Int.le_refl _,by show (0:Int)≤k; omega,by show (k:Int)≤p.size; omega⟩ ?_;have e3:p.extract 0 ((k:Nat):Int).toNat=lineNm p:=by unfold lineNm; rw [el]
   exact .of_eq (show AV.tup [vs (p.extract 0 ((k:Nat):Int).toNat),vi n,vi 0]=_ by rw [e3])
theorem c114 (p:ByteArray) (hp:FewS p):PC 238 [vs p] (vi (majI p)):=by
 have hc:=c171 p hp;unfold lineV at hc;unfold majI;cases h:pathMajor p with
 | none =>
  rw [h] at hc;refine Ps pl0 Tryz.func238 rfl (Nz rfl) ?_;refine Xi .pure (Xi _ (Yi (hc) ?_));refine Yi (fun _=>?_) (fun h=>absurd (show (4:Int)≠0 by decide) h);exact .refl _
 | some m =>
  rw [h] at hc;refine Ps pl0 Tryz.func238 rfl (Nz rfl) ?_;refine Xi .pure (Xi _ (Yi (hc) ?_));refine Yi (fun h=>absurd rfl h) (fun _=>?_);exact .refl _
theorem h114:H114:=c114
end Go.Eng

namespace Go.Eng
open Go.Proofs
abbrev pl115:Pol:=⟨[],[(3,0)],[(63,2)],[],[],[],[],[],[],[(112,7)],[4,6,10,11,14,16,17,18]⟩
theorem span_len (s:SpanL):∀ cs ∈ s.map encSpan,cs.length=2:=fun cs h=>by
 obtain ⟨x,_,rfl⟩:=List.mem_map.1 h; rfl
theorem allLen_of {n:Nat} : ∀ {l:List (List AV)},(∀ c ∈ l,c.length=n)→AllLen n l
 | [],_=>trivial
 | c :: _,h=>⟨h c (List.mem_cons_self ..),allLen_of fun d hd=>h d (List.mem_cons_of_mem _ hd)⟩
abbrev restE (s:SpanL) (k:Nat):List (List AV):=((s.map encSpan).take (((s.map encSpan).length:Nat):Int).toNat).drop ((k:Nat):Int).toNat
theorem restE_eq (s:SpanL) (k:Nat):restE s k=(s.drop k).map encSpan:=by
 unfold restE;rw [Int.toNat_natCast,Int.toNat_natCast,List.take_of_length_le (Nat.le_refl _),List.map_drop]
theorem bulk1 (s:SpanL) (x:Int × Int) (k:Nat) (h:s.length≤1073741824):AllLen 2 (restE s k)∧[encSpan x].length=1∧([encSpan x].length+(restE s k).length)*16≤140737488355328∧[encSpan x].length+(restE s k).length≤9223372036854775807:=by
 rw [restE_eq];refine ⟨allLen_of (span_len _),rfl,?_,?_⟩ <;> rw [Lm,List.length_drop,List.length_singleton] <;> omega
abbrev headE (s:SpanL) (k:Nat):List (List AV):=((s.map encSpan).take ((k:Nat):Int).toNat).drop ((0:Int)).toNat
theorem headE_eq (s:SpanL) (k:Nat):headE s k=(s.take k).map encSpan:=by
 unfold headE;rw [Int.toNat_natCast,show (0:Int).toNat=0 from rfl,List.drop_zero,List.map_take]
theorem bulk2 (s:SpanL) (x:Int × Int) (k:Nat) (hk:k≤s.length) (h:s.length≤1073741824):AllLen 2 ([encSpan x]++restE s k)∧(headE s k).length=((k:Nat):Int).toNat - ((0:Int)).toNat∧((headE s k).length+([encSpan x]++restE s k).length)*16≤140737488355328∧(headE s k).length+([encSpan x]++restE s k).length≤9223372036854775807:=by
 rw [restE_eq,headE_eq];refine ⟨⟨rfl,allLen_of (span_len _)⟩,?_,?_,?_⟩
 ·rw [Lm,List.length_take,Int.toNat_natCast]; show min k s.length=k - 0; omega
 ·rw [List.length_append,Lm,Lm,List.length_take,List.length_drop,List.length_singleton]; omega
 ·rw [List.length_append,Lm,Lm,List.length_take,List.length_drop,List.length_singleton]; omega
theorem insE (s:SpanL) (x:Int × Int) (k:Nat):headE s k++([encSpan x]++restE s k)=(s.take k++([x]++s.drop k)).map encSpan:=by
 rw [restE_eq,headE_eq,List.map_append,List.map_append]; rfl
theorem join_last {s A:SpanL} {j:Nat} (h:j<s.length) (hA:A=(mergeR (s.take j)).reverse) {y:Int × Int} (hy:A[A.length - 1]?=some y) (hle:s[j].1≤y.2):A.set (A.length - 1) (y.1,max y.2 s[j].2)=(mergeR (s.take (j+1))).reverse:=by
 rw [mergeR_take s j h];cases hr:mergeR (s.take j) with
 | nil=>rw [hA,hr] at hy; cases hy
 | cons z t =>
  have eA:A=t.reverse++[z]:=by rw [hA,hr,List.reverse_cons]
  have eL:A.length - 1=t.reverse.length:=by rw [eA,List.length_append,List.length_singleton]; omega
  rw [eL,eA,List.getElem?_append_right (Nat.le_refl _),Nat.sub_self] at hy;have ez:z=y:=Option.some.inj hy;have e2:stepR (z :: t) s[j]=(z.1,max z.2 s[j].2) :: t:=by show (if s[j].1≤z.2 then _ else _)=_; rw [if_pos (ez▸hle)]
  rw [e2,eL,eA,List.set_append_right _ _ (Nat.le_refl _),Nat.sub_self,List.reverse_cons,ez]; rfl
theorem join_new {s A:SpanL} {j:Nat} (h:j<s.length) (hA:A=(mergeR (s.take j)).reverse) (hn:∀ y,A[A.length - 1]?=some y→¬ s[j].1≤y.2):A++[s[j]]=(mergeR (s.take (j+1))).reverse:=by
 rw [mergeR_take s j h];cases hr:mergeR (s.take j) with
 | nil=>rw [hA,hr]; rfl
 | cons z t =>
  have eA:A=t.reverse++[z]:=by rw [hA,hr,List.reverse_cons]
  have eL:A.length - 1=t.reverse.length:=by rw [eA,List.length_append,List.length_singleton]; omega
  have:=hn z (by rw [eL,eA,List.getElem?_append_right (Nat.le_refl _),Nat.sub_self]; rfl)
  have e2:stepR (z :: t) s[j]=s[j] :: z :: t:=by show (if s[j].1≤z.2 then _ else _)=_; rw [if_neg this]
  rw [e2,eA,List.reverse_cons,List.reverse_cons]
theorem joinE (A:SpanL) (k:Nat) (y x:Int × Int):(A.map encSpan).set k [vi y.1,vi (max y.2 x.2)]=(A.set k (y.1,max y.2 x.2)).map encSpan:=by rw [List.map_set]
set_option maxHeartbeats 4000000 in
theorem c115 (l:SpanL) (hl:Few l):PC 104 [sl encSpan l] (sl encSpan (canon l)):=by
 have hl:l.length≤1073741824:=hl;refine Ps pl115 Tryz.func104 rfl (Nz rfl) ?_;refine Xi {p:Nat × SpanL // p.1≤l.length∧p.2.Perm (clipL (l.take p.1))∧p.2.Pairwise fun a b=>a.1≤b.1} (Xi (fun p=>⟨[(0,sl encSpan l),(3,sl encSpan p.1.2),(4,vi p.1.1)],[],hfree⟩) (Xi (fun p=>l.length - p.1.1) (Yi (Xi ⟨(0,[]),Nat.zero_le _,.refl _,.nil⟩ ?_) ?_)))
 ·exact ⟨Z3,Tv,Fh,Tv⟩
 intro ⟨⟨i,s⟩,i1,i2,i3⟩;have i1:i≤l.length:=i1;have i2:s.Perm (clipL (l.take i)):=i2;have i3:s.Pairwise fun a b=>a.1≤b.1:=i3;have hsl:s.length≤i:=by rw [i2.length_eq]; exact clipL_take l i
 refine Yi (fun h=>?_) (fun h=>?_)
 ·skip
  have h:(i:Int)<(l.map encSpan).length:=h;have h:i<l.length:=by simpa using h
  have hg:l[i]?=some l[i]:=Ge h;refine Xi (encSpan l[i]) (Yi (Yi (Nn i) (by simp [hg])) (Yi rfl ?_));refine Xi (encSpan l[i]) (Yi (Yi (Nn i) (by simp [hg])) (Yi rfl ?_));refine Yi (Nz rfl) ?_;refine Yi (by kernel_rfl) ?_;refine Xi ⟨[(0,sl encSpan l),(3,sl encSpan s),(4,vi i),(5,.ref 5 0)],[(5,.cells (encSpan (clip l[i])))],hfree⟩ (Yi ?_ ?_)
  ·have e0:HO.cells [vi (max 0 l[i].1),vi (min 1000000 l[i].2)]=.cells (encSpan (clip l[i])):=by
    rw [Int.max_comm,Int.min_comm]; rfl
   exact ⟨Z4,⟨⟨e0,rfl⟩,Tv⟩,Fh,Tv⟩
  refine Yi (fun h3=>?_) (fun h3=>?_)
  ·have h3:(clip l[i]).2≤(clip l[i]).1:=h3;refine Xi ⟨[(0,sl encSpan l),(3,sl encSpan s),(4,vi i)],[],hfree⟩ (Yi ⟨Z3,Tv,Fh,Tv⟩ ?_)
   refine Yi (Ii i (by omega)) ?_;have e:=clipL_no h (show ¬ (clip l[i]).1<(clip l[i]).2 by omega);refine Xi ⟨(i+1,s),by omega,by show s.Perm (clipL (l.take (i+1))); rw [e]; exact i2,i3⟩ ?_;exact ⟨Dl l.length i (by omega),Z3,Tv,Fh,Tv⟩
  have h3:¬ (clip l[i]).2≤(clip l[i]).1:=h3;have e:=clipL_yes h (show (clip l[i]).1<(clip l[i]).2 by omega);refine Xi {k:Nat // k≤s.length∧∀ j (hj:j<s.length),k≤j→(clip l[i]).1<s[j].1} (Xi (fun k=>⟨[(0,sl encSpan l),(3,sl encSpan s),(4,vi i),(5,.ref 5 0),(6,vi k.1)],[(5,.cells (encSpan (clip l[i])))],hfree⟩) (Xi (fun k=>k.1) (Yi (Xi ⟨s.length,Nat.le_refl _,fun j hj hji=>by omega⟩ ?_) ?_)))
  ·have e1:vi ((s.map encSpan).length:Int)=vi (s.length:Int):=by rw [Lm]
   exact ⟨⟨Zr,Zr,Zr,Zr,⟨e1,rfl⟩,Tv⟩,Z1,Fh,Tv⟩
  intro ⟨k,k1,k2⟩;refine Yi (fun h4=>?_) (fun h4=>?_)
  ·have h4:(0:Int)<k:=h4;refine Yi (show InI64 ((k:Int) - 1) by unfold InI64; omega) ?_;have hk:k - 1<s.length:=by omega
   have hg:s[k - 1]?=some s[k - 1]:=Ge hk;have hn:((k:Int) - 1).toNat=k - 1:=by omega
   refine Xi (encSpan s[k - 1]) (Yi (Yi (by show (0:Int)≤(k:Int) - 1; omega) (by rw [hn]; exact map_at hg)) (Yi rfl ?_));refine Yi (fun h5=>?_) (fun h5=>?_)
   ·have h5:(clip l[i]).1<s[k - 1].1:=h5;refine Yi (by kernel_rfl) ?_;refine Yi (show InI64 ((k:Int) - 1) by unfold InI64; omega) ?_;have e1:vi ((k:Int) - 1)=vi ((k - 1:Nat):Int):=congrArg vi (by omega);refine Xi ⟨k - 1,by omega,fun j hj hji=>?_⟩ ?_
    ·rcases Nat.lt_or_ge j k with z | z
     ·have:j=k - 1:=by omega
      subst this; exact h5
     ·exact k2 j hj z
    ·exact ⟨by show k - 1<k; omega,⟨Zr,Zr,Zr,Zr,⟨e1,rfl⟩,Tv⟩,Z1,Fh,Tv⟩
   have h5:¬ (clip l[i]).1<s[k - 1].1:=h5;have hk2:k=0∨∃ h:k - 1<s.length,s[k - 1].1≤(clip l[i]).1:=.inr ⟨hk,by omega⟩;refine Yi (by kernel_rfl) ?_;refine Xi ⟨[(0,sl encSpan l),(3,sl encSpan s),(4,vi i),(5,.ref 5 0),(6,vi k)],[(5,.cells (encSpan (clip l[i])))],hfree⟩ (Yi ⟨Z5,Z1,Fh,Tv⟩ ?_)
   refine Yi (show (0:Int)≤0∧(0:Int)≤k∧(k:Int)=k∧(k:Int)≤((s.map encSpan).length:Nat) by rw [Lm]; omega) (Yi (span_len s) ?_);refine Yi (Nz rfl) ?_;refine Yi (show (0:Int)≤k∧(k:Int)≤((s.map encSpan).length:Nat)∧(((s.map encSpan).length:Nat):Int)≤((s.map encSpan).length:Nat) by rw [Lm]; omega) (Yi (span_len s) ?_);refine Yi (bulk1 s (clip l[i]) k (by omega)) ?_;refine Yi (bulk2 s (clip l[i]) k k1 (by omega)) ?_;refine Yi (by kernel_rfl) ?_;refine Exists.elim (show ∃ t,t=s.take k++([clip l[i]]++s.drop k) from ⟨_,rfl⟩) (fun t ht=>?_);refine Xi ⟨[(0,sl encSpan l),(3,sl encSpan t),(4,vi i)],[],hfree⟩ (Yi ?_ ?_)
   ·have e3:AV.slice .none (headE s k++([encSpan (clip l[i])]++restE s k))=sl encSpan t:=by rw [ht]; exact congrArg (AV.slice .none) (insE s (clip l[i]) k)
    exact ⟨⟨Zr,⟨e3,rfl⟩,Zr,Tv⟩,Tv,Fh,Tv⟩
   refine Yi (Ii i (by omega)) ?_;refine Xi ⟨(i+1,t),by omega,by show t.Perm (clipL (l.take (i+1))); rw [e,ht]; exact ins_perm s _ k i2,by show t.Pairwise _; rw [ht]; exact ins_sorted s _ k i3 k2 hk2⟩ ?_;exact ⟨Dl l.length i (by omega),Z3,Tv,Fh,Tv⟩
  ·have h4:¬ (0:Int)<k:=h4;have hk2:k=0∨∃ h:k - 1<s.length,s[k - 1].1≤(clip l[i]).1:=.inl (by omega);refine Yi (by kernel_rfl) ?_;refine Xi ⟨[(0,sl encSpan l),(3,sl encSpan s),(4,vi i),(5,.ref 5 0),(6,vi k)],[(5,.cells (encSpan (clip l[i])))],hfree⟩ (Yi ⟨Z5,Z1,Fh,Tv⟩ ?_)
   refine Yi (show (0:Int)≤0∧(0:Int)≤k∧(k:Int)=k∧(k:Int)≤((s.map encSpan).length:Nat) by rw [Lm]; omega) (Yi (span_len s) ?_);refine Yi (Nz rfl) ?_;refine Yi (show (0:Int)≤k∧(k:Int)≤((s.map encSpan).length:Nat)∧(((s.map encSpan).length:Nat):Int)≤((s.map encSpan).length:Nat) by rw [Lm]; omega) (Yi (span_len s) ?_);refine Yi (bulk1 s (clip l[i]) k (by omega)) ?_;refine Yi (bulk2 s (clip l[i]) k k1 (by omega)) ?_;refine Yi (by kernel_rfl) ?_;refine Exists.elim (show ∃ t,t=s.take k++([clip l[i]]++s.drop k) from ⟨_,rfl⟩) (fun t ht=>?_);refine Xi ⟨[(0,sl encSpan l),(3,sl encSpan t),(4,vi i)],[],hfree⟩ (Yi ?_ ?_)
   ·have e3:AV.slice .none (headE s k++([encSpan (clip l[i])]++restE s k))=sl encSpan t:=by rw [ht]; exact congrArg (AV.slice .none) (insE s (clip l[i]) k)
    exact ⟨⟨Zr,⟨e3,rfl⟩,Zr,Tv⟩,Tv,Fh,Tv⟩
   refine Yi (Ii i (by omega)) ?_;refine Xi ⟨(i+1,t),by omega,by show t.Perm (clipL (l.take (i+1))); rw [e,ht]; exact ins_perm s _ k i2,by show t.Pairwise _; rw [ht]; exact ins_sorted s _ k i3 k2 hk2⟩ ?_;exact ⟨Dl l.length i (by omega),Z3,Tv,Fh,Tv⟩
 ·skip
  have h:¬ (i:Int)<(l.map encSpan).length:=h;have h:¬ i<l.length:=by simpa using h
  have fin:(mergeR s).reverse=canon l:=canon_of_sorted (by rw [List.take_of_length_le (by omega)] at i2; exact i2) i3;refine Xi ⟨[(3,sl encSpan s)],[],hfree⟩ (Yi ⟨Z1,Tv,Fh,Tv⟩ ?_)
  refine Xi {p:Nat × SpanL // p.1≤s.length∧p.2=(mergeR (s.take p.1)).reverse} (Xi (fun p=>⟨[(3,sl encSpan s),(7,.msl 63 p.1.2.length),(8,vi p.1.1)],[(63,arrSp p.1.2)],hfree⟩) (Xi (fun p=>s.length - p.1.1) (Yi (Xi ⟨(0,[]),Nat.zero_le _,rfl⟩ ?_) ?_)))
  ·exact ⟨Z3,Z1,Fh,Tv⟩
  intro ⟨⟨j,A⟩,j1,hA⟩;have j1:j≤s.length:=j1;have hA:A=(mergeR (s.take j)).reverse:=hA;have hAl:A.length≤j:=by rw [hA,List.length_reverse]; exact (mergeR_len s j j1).1
  refine Yi (fun h2=>?_) (fun h2=>?_)
  ·have h2:(j:Int)<((s.map encSpan).length:Int):=h2;have h2:j<s.length:=by simpa using h2
   have hgj:s[j]?=some s[j]:=Ge h2;refine Xi ⟨[(3,sl encSpan s),(7,.msl 63 A.length),(8,vi j),(9,vi A.length)],[(63,arrSp A)],hfree⟩ (Yi ⟨Z4,Z1,Fh,Tv⟩ ?_)
   refine Yi (fun h3=>?_) (fun h3=>?_)
   ·have h3:(0:Int)<A.length:=h3;have hi1:InI64 ((A.length:Int) - 1):=by unfold InI64; omega
    have hn:((A.length:Int) - 1).toNat=A.length - 1:=by omega
    have hin:(0:Int)≤(A.length:Int) - 1∧(A.length:Int) - 1<(A.length:Int):=by omega
    have hlt:A.length - 1<A.length:=by omega
    have hg:A[A.length - 1]?=some A[A.length - 1]:=Ge hlt;have hgm:(A.map encSpan)[((A.length:Int) - 1).toNat]?=some (encSpan A[A.length - 1]):=by rw [hn]; exact map_at hg
    have hln:A.length=(A.map encSpan).length:=by rw [Lm]
    have hsj:(0:Int)≤j∧(s.map encSpan)[((j:Nat):Int).toNat]?=some (encSpan s[j]):=⟨by omega,by rw [Int.toNat_natCast]; exact map_at hgj⟩;refine Xi (encSpan s[j]) (Yi hsj (Yi rfl ?_));refine Yi hi1 (Yi hin (Yi hln (Xi (encSpan A[A.length - 1]) (Yi hgm ?_))));refine Yi (fun h4=>?_) (fun h4=>?_)
    ·have h4:s[j].1≤A[A.length - 1].2:=h4;refine Yi (by kernel_rfl) ?_;refine Xi ⟨[(3,sl encSpan s),(7,.msl 63 A.length),(8,vi j),(9,vi A.length)],[(63,arrSp A)],hfree⟩ (Yi ⟨Z4,Z1,Fh,Tv⟩ ?_)
     refine Yi hi1 (Yi hi1 (Yi hin (Yi hln (Xi (encSpan A[A.length - 1]) (Yi hgm ?_)))));refine Xi (encSpan s[j]) (Yi hsj (Yi rfl ?_));refine Yi hin (Yi hln (Xi (encSpan A[A.length - 1]) (Yi hgm (Yi (Nz rfl) ?_))));refine Yi (by kernel_rfl) ?_;refine Exists.elim (show ∃ B,B=A.set (A.length - 1) (A[A.length - 1].1,max A[A.length - 1].2 s[j].2) from ⟨_,rfl⟩) (fun B hB=>?_);have e2:HO.arr 2 ((A.map encSpan).set ((A.length:Int) - 1).toNat [vi A[A.length - 1].1,vi (max A[A.length - 1].2 s[j].2)])=arrSp B:=by rw [hn,hB]; exact congrArg (HO.arr 2) (joinE A _ _ _)
     have e1:AV.msl 63 A.length=.msl 63 B.length:=by rw [hB,List.length_set]
     refine Xi ⟨[(3,sl encSpan s),(7,.msl 63 B.length),(8,vi j)],[(63,arrSp B)],hfree⟩ (Yi ⟨⟨Zr,⟨e1,rfl⟩,Zr,Tv⟩,⟨⟨e2,rfl⟩,Tv⟩,Fh,Tv⟩ ?_)
     refine Yi (Ii j (by omega)) ?_;refine Xi ⟨(j+1,B),by omega,by rw [hB]; exact join_last h2 hA hg h4⟩ ?_;exact ⟨Dl s.length j (by omega),Z3,Z1,Fh,Tv⟩
    have h4:¬ s[j].1≤A[A.length - 1].2:=h4;have hjn:A++[s[j]]=(mergeR (s.take (j+1))).reverse:=join_new h2 hA fun y hy=>by
     rw [hg] at hy; rw [← Option.some.inj hy]; exact h4
    refine Yi (by kernel_rfl) ?_;refine Xi ⟨[(3,sl encSpan s),(7,.msl 63 A.length),(8,vi j),(9,vi A.length)],[(63,arrSp A)],hfree⟩ (Yi ⟨Z4,Z1,Fh,Tv⟩ ?_)
    refine Xi (encSpan s[j]) (Yi hsj (Yi rfl ?_));refine Yi (Nz rfl) ?_;have bulk:AllLen 2 [encSpan s[j]]∧(A.map encSpan).length=A.length∧((A.map encSpan).length+[encSpan s[j]].length)*16≤140737488355328∧(A.map encSpan).length+[encSpan s[j]].length≤9223372036854775807 :=
     ⟨⟨rfl,trivial⟩,by rw [Lm],by rw [Lm,List.length_singleton]; omega,by rw [Lm,List.length_singleton]; omega⟩
    refine Yi bulk ?_;refine Exists.elim (show ∃ B,B=A++[s[j]] from ⟨_,rfl⟩) (fun B hB=>?_);have e1:AV.msl 63 ((A.map encSpan).length+[encSpan s[j]].length)=.msl 63 B.length:=by rw [hB]; simp
    have e2:HO.arr 2 (A.map encSpan++[encSpan s[j]])=arrSp B:=by rw [hB]; simp
    refine Xi ⟨[(3,sl encSpan s),(7,.msl 63 B.length),(8,vi j)],[(63,arrSp B)],hfree⟩ (Yi ⟨⟨Zr,⟨e1,rfl⟩,Zr,Tv⟩,⟨⟨e2,rfl⟩,Tv⟩,Fh,Tv⟩ ?_)
    refine Yi (Ii j (by omega)) ?_;refine Xi ⟨(j+1,B),by omega,by rw [hB]; exact hjn⟩ ?_;exact ⟨Dl s.length j (by omega),Z3,Z1,Fh,Tv⟩
   ·have h3:¬ (0:Int)<A.length:=h3;have hsj:(0:Int)≤j∧(s.map encSpan)[((j:Nat):Int).toNat]?=some (encSpan s[j]):=⟨by omega,by rw [Int.toNat_natCast]; exact map_at hgj⟩;have hjn:A++[s[j]]=(mergeR (s.take (j+1))).reverse:=join_new h2 hA fun y hy=>by
     rw [List.eq_nil_of_length_eq_zero (by omega:A.length=0)] at hy; cases hy
    refine Yi (by kernel_rfl) ?_;refine Xi ⟨[(3,sl encSpan s),(7,.msl 63 A.length),(8,vi j),(9,vi A.length)],[(63,arrSp A)],hfree⟩ (Yi ⟨Z4,Z1,Fh,Tv⟩ ?_)
    refine Xi (encSpan s[j]) (Yi hsj (Yi rfl ?_));refine Yi (Nz rfl) ?_;have bulk:AllLen 2 [encSpan s[j]]∧(A.map encSpan).length=A.length∧((A.map encSpan).length+[encSpan s[j]].length)*16≤140737488355328∧(A.map encSpan).length+[encSpan s[j]].length≤9223372036854775807 :=
     ⟨⟨rfl,trivial⟩,by rw [Lm],by rw [Lm,List.length_singleton]; omega,by rw [Lm,List.length_singleton]; omega⟩
    refine Yi bulk ?_;refine Exists.elim (show ∃ B,B=A++[s[j]] from ⟨_,rfl⟩) (fun B hB=>?_);have e1:AV.msl 63 ((A.map encSpan).length+[encSpan s[j]].length)=.msl 63 B.length:=by rw [hB]; simp
    have e2:HO.arr 2 (A.map encSpan++[encSpan s[j]])=arrSp B:=by rw [hB]; simp
    refine Xi ⟨[(3,sl encSpan s),(7,.msl 63 B.length),(8,vi j)],[(63,arrSp B)],hfree⟩ (Yi ⟨⟨Zr,⟨e1,rfl⟩,Zr,Tv⟩,⟨⟨e2,rfl⟩,Tv⟩,Fh,Tv⟩ ?_)
    refine Yi (Ii j (by omega)) ?_;refine Xi ⟨(j+1,B),by omega,by rw [hB]; exact hjn⟩ ?_;exact ⟨Dl s.length j (by omega),Z3,Z1,Fh,Tv⟩
  ·have h2:¬ (j:Int)<((s.map encSpan).length:Int):=h2;have h2:¬ j<s.length:=by simpa using h2
   refine Yi (by rw [Lm]) ?_;exact .of_eq (congrArg (sl encSpan) (show A=canon l by rw [hA,List.take_of_length_le (by omega)]; exact fin))
theorem h115:H115:=c115
end Go.Eng

namespace Go.Eng
open Go.Proofs
end Go.Eng

namespace Go.Eng
open Go.Proofs
end Go.Eng

namespace Go.Eng
open Go.Proofs
end Go.Eng

namespace Go.Eng
open Go.Proofs
theorem c169 (s:ByteArray):PC 299 [vs s] (vb (dgOk s)):=by
 refine Ps pl0 Tryz.func299 rfl (Nz rfl) ?_;refine Yi (fun h=>?_) (fun h=>?_)
 ·have h:((s.size:Nat):Int)=0:=h;exact .of_eq (congrArg vb (show true=dgOk s by unfold dgOk; rw [decide_eq_true (by omega:s.size=0)]; rfl))
 have h:¬ ((s.size:Nat):Int)=0:=h;refine Yi (fun h2=>?_) (fun h2=>?_)
 ·have h2:((s.size:Nat):Int)=32:=h2;exact .of_eq (congrArg vb (show true=dgOk s by unfold dgOk; rw [decide_eq_true (by omega:s.size=32),Bool.or_true]))
 have h2:¬ ((s.size:Nat):Int)=32:=h2;exact .of_eq (congrArg vb (show false=dgOk s by unfold dgOk; rw [decide_eq_false (by omega:¬ s.size=0),decide_eq_false (by omega:¬ s.size=32)]; rfl))
def nthV (v:Ver):Nat→Int
 | 0=>v.a
 | 1=>v.b
 | _=>v.c
abbrev threeE (v:Ver):List (List AV):=[[vi v.a],[vi v.b],[vi v.c]]
theorem three_at (v:Ver) (i:Nat) (h:i<3):(threeE v)[((i:Nat):Int).toNat]?=some [vi (nthV v i)]:=by
 rw [Int.toNat_natCast]
 match i,h with
 | 0,_=>rfl
 | 1,_=>rfl
 | 2,_=>rfl
theorem cmpV3_lt (a b:Ver) (i:Nat) (hi:i<3) (h:∀ j,j<i→nthV a j=nthV b j) (hl:nthV a i<nthV b i):cmpV a b=-1:=by
 match i,hi,h,hl with
 | 0,_,h,hl =>
  have hl:a.a<b.a:=hl;unfold cmpV cmpI; simp [hl]
 | 1,_,h,hl =>
  have hl:a.b<b.b:=hl;have h0:a.a=b.a:=h 0 (by omega);unfold cmpV cmpI; simp [hl,h0]
 | 2,_,h,hl =>
  have hl:a.c<b.c:=hl;have h0:a.a=b.a:=h 0 (by omega);have h1:a.b=b.b:=h 1 (by omega);unfold cmpV cmpI; simp [hl,h0,h1]
theorem cmpV3_gt (a b:Ver) (i:Nat) (hi:i<3) (h:∀ j,j<i→nthV a j=nthV b j) (hl:nthV b i<nthV a i):cmpV a b=1:=by
 match i,hi,h,hl with
 | 0,_,h,hl =>
  have hl:b.a<a.a:=hl;have hn:¬ a.a<b.a:=by omega
  unfold cmpV cmpI; simp [hl,hn]
 | 1,_,h,hl =>
  have hl:b.b<a.b:=hl;have hn:¬ a.b<b.b:=by omega
  have h0:a.a=b.a:=h 0 (by omega);unfold cmpV cmpI; simp [hl,hn,h0]
 | 2,_,h,hl =>
  have hl:b.c<a.c:=hl;have hn:¬ a.c<b.c:=by omega
  have h0:a.a=b.a:=h 0 (by omega);have h1:a.b=b.b:=h 1 (by omega);unfold cmpV cmpI; simp [hl,hn,h0,h1]
theorem cmpV3_eq (a b:Ver) (h:∀ j,j<3→nthV a j=nthV b j):cmpV a b=0:=by
 have h0:a.a=b.a:=h 0 (by omega);have h1:a.b=b.b:=h 1 (by omega);have h2:a.c=b.c:=h 2 (by omega);unfold cmpV cmpI; simp [h0,h1,h2]
theorem c170 (a b:Ver):PC 300 [.agg (encVer a),.agg (encVer b)] (vi (cmpV a b)):=by
 refine Ps (plcut [3,5]) Tryz.func300 rfl (Nz rfl) ?_;refine Xi ⟨[(5,.slice (.id 14 1) (threeE a)),(6,.slice (.id 21 1) (threeE b))],[(14,.tok 1 3),(21,.tok 1 3)],hfree⟩ (Yi ⟨Z2,Z2,Fh,Tv⟩ ?_)
 refine Xi {i:Nat // i≤3∧∀ j,j<i→nthV a j=nthV b j} (Xi (fun i=>⟨[(5,.slice (.id 14 1) (threeE a)),(6,.slice (.id 21 1) (threeE b)),(7,vi i.1)],[(14,.tok 1 3),(21,.tok 1 3)],hfree⟩) (Xi (fun i=>3 - i.1) (Yi (Xi ⟨0,Nat.zero_le _,fun j h=>by omega⟩ ?_) ?_)))
 ·exact ⟨Z3,Z2,Fh,Tv⟩
 intro ⟨i,i1,i2⟩;refine Yi (fun h=>?_) (fun h=>?_)
 ·have h:(i:Int)<3:=h;have h:i<3:=by omega
  refine Xi [vi (nthV a i)] (Yi (Yi (Nn i) (three_at a i h)) (Yi rfl ?_));refine Xi [vi (nthV b i)] (Yi (Yi (Nn i) (three_at b i h)) (Yi rfl ?_));refine Yi (fun h2=>?_) (fun h2=>?_)
  ·have h2:nthV a i<nthV b i:=h2;refine Yi (by kernel_rfl) ?_;exact .of_eq (congrArg vi (cmpV3_lt a b i h i2 h2).symm)
  have h2:¬ nthV a i<nthV b i:=h2;refine Yi (by kernel_rfl) ?_;refine Xi [vi (nthV a i)] (Yi (Yi (Nn i) (three_at a i h)) (Yi rfl ?_));refine Xi [vi (nthV b i)] (Yi (Yi (Nn i) (three_at b i h)) (Yi rfl ?_));refine Yi (fun h3=>?_) (fun h3=>?_)
  ·have h3:nthV b i<nthV a i:=h3;refine Yi (by kernel_rfl) ?_;exact .of_eq (congrArg vi (cmpV3_gt a b i h i2 h3).symm)
  have h3:¬ nthV b i<nthV a i:=h3;refine Yi (by kernel_rfl) ?_;refine Xi ⟨[(5,.slice (.id 14 1) (threeE a)),(6,.slice (.id 21 1) (threeE b)),(7,vi i)],[(14,.tok 1 3),(21,.tok 1 3)],hfree⟩ (Yi ⟨Z3,Z2,Fh,Tv⟩ ?_)
  refine Yi (Ii i (by omega)) ?_;refine Xi ⟨i+1,by omega,fun j hj=>?_⟩ ?_
  ·rcases Nat.lt_or_ge j i with z | z
   ·exact i2 j z
   ·have:j=i:=by omega
    subst this; omega
  exact ⟨Dl 3 i (by omega),Z3,Z2,Fh,Tv⟩
 ·have h:¬ (i:Int)<3:=h;exact .of_eq (congrArg vi (cmpV3_eq a b fun j hj=>i2 j (by omega)).symm)
theorem c113 (a b:Rl):PC 237 [.agg (encRl a),.agg (encRl b)] (vi (cmpR a b)):=by
 have hc:=c170 a.ver b.ver;refine Ps pl0 Tryz.func237 rfl (Nz rfl) ?_;refine Yi (fun h=>?_) (fun h=>?_)
 ·have h:Op.bytesLess a.path.toList b.path.toList=true:=h;exact .of_eq (congrArg vi (show (-1:Int)=cmpR a b by unfold cmpR cmpB; rw [if_pos (show blt a.path b.path=true by rw [blt_eq]; exact h)]; rfl))
 have h:¬ Op.bytesLess a.path.toList b.path.toList=true:=h;refine Yi (fun h2=>?_) (fun h2=>?_)
 ·have h2:Op.bytesLess b.path.toList a.path.toList=true:=h2;exact .of_eq (congrArg vi (show (1:Int)=cmpR a b by unfold cmpR cmpB; rw [if_neg (show ¬ blt a.path b.path=true by rw [blt_eq]; exact h),if_pos (show blt b.path a.path=true by rw [blt_eq]; exact h2)]; rfl))
 have h2:¬ Op.bytesLess b.path.toList a.path.toList=true:=h2;refine Yi (Nz rfl) (Yi (Nz rfl) ?_);refine Xi .pure (Xi _ (Yi (hc) ?_));exact .of_eq (congrArg vi (show cmpV a.ver b.ver=cmpR a b by unfold cmpR cmpB; rw [if_neg (show ¬ blt a.path b.path=true by rw [blt_eq]; exact h),if_neg (show ¬ blt b.path a.path=true by rw [blt_eq]; exact h2)]; rfl))
end Go.Eng

namespace Go.Eng
open Go.Proofs
theorem c112 (r:Rl) (hr:FewR r):PC 236 [.agg (encRl r)] (vi (checkRl r)):=by
 have h1:=h114 r.path hr.1;have h2:=c168 r.ver;have h3:=c68 h114 h115 r.reqs hr.2;have h4:=c169 r.arch;have h5:=c169 r.ifc;have h6:=c169 r.cert;obtain ⟨N,hN⟩ : ∃ N,N=checkRl r:=⟨_,rfl⟩;rw [← hN];refine Ps pl0 Tryz.func236 rfl (Nz rfl) ?_;refine Xi .pure (Xi _ (Yi (h1) ?_));refine Yi (fun h=>?_) (fun h=>?_)
 ·have h:majI r.path<0:=h;exact .of_eq (congrArg vi (show (4:Int)=N by
   have e:=(majI_neg r.path).1 h;rw [hN]; unfold checkRl;cases hp:pathMajor r.path with
   | none=>rfl
   | some m=>rw [hp] at e; cases e))
 have h:¬ majI r.path<0:=h;refine Exists.elim (show ∃ m,pathMajor r.path=some m by
  cases hp:pathMajor r.path with
  | none=>exact absurd ((majI_neg r.path).2 (by rw [hp]; rfl)) h
  | some m=>exact ⟨m,rfl⟩) (fun m hp=>?_)
 have em:majI r.path=m:=by unfold majI; rw [hp]
 have hN:N=if !validB r.ver||!decide (r.ver.a=m) then 2 else if checkRqs r.reqs≠0 then checkRqs r.reqs else if dgOk r.arch&&dgOk r.ifc&&dgOk r.cert then 0 else 1:=by
  rw [hN]; unfold checkRl; rw [hp]
 refine Yi (Nz rfl) ?_;refine Or.elim (Bt (validB r.ver)).symm (fun e=>?_) (fun e=>?_)
 ·rw [e] at h2;refine Xi .pure (Xi _ (Yi (h2) ?_));exact .of_eq (congrArg vi (show (2:Int)=N by rw [hN,e]; rfl))
 rw [e] at h2;refine Xi .pure (Xi _ (Yi (h2) ?_));refine Yi (fun h7=>?_) (fun h7=>?_)
 ·have h7:r.ver.a≠majI r.path:=h7;exact .of_eq (congrArg vi (show (2:Int)=N by rw [hN,e,decide_eq_false (by rw [← em]; exact h7)]; rfl))
 have h7:¬ r.ver.a≠majI r.path:=h7;have hN:N=if checkRqs r.reqs≠0 then checkRqs r.reqs else if dgOk r.arch&&dgOk r.ifc&&dgOk r.cert then 0 else 1:=by
  rw [hN,e,decide_eq_true (by rw [← em]; exact Classical.not_not.1 h7)]; rfl
 refine Xi .pure (Xi _ (Yi (h3) ?_));refine Yi (fun h8=>?_) (fun h8=>?_)
 ·have h8:checkRqs r.reqs≠0:=h8;exact .of_eq (congrArg vi (show checkRqs r.reqs=N by rw [hN,if_pos h8]))
 have h8:¬ checkRqs r.reqs≠0:=h8;have hN:N=if dgOk r.arch&&dgOk r.ifc&&dgOk r.cert then 0 else 1:=by rw [hN,if_neg h8]
 refine Or.elim (Bt (dgOk r.arch)).symm (fun e1=>?_) (fun e1=>?_)
 ·rw [e1] at h4;refine Xi .pure (Xi _ (Yi (h4) ?_));exact .of_eq (congrArg vi (show (1:Int)=N by rw [hN,e1]; rfl))
 rw [e1] at h4;refine Xi .pure (Xi _ (Yi (h4) ?_));refine Or.elim (Bt (dgOk r.ifc)).symm (fun e2=>?_) (fun e2=>?_)
 ·rw [e2] at h5;refine Xi .pure (Xi _ (Yi (h5) ?_));exact .of_eq (congrArg vi (show (1:Int)=N by rw [hN,e1,e2]; rfl))
 rw [e2] at h5;refine Xi .pure (Xi _ (Yi (h5) ?_));refine Or.elim (Bt (dgOk r.cert)).symm (fun e3=>?_) (fun e3=>?_)
 ·rw [e3] at h6;refine Xi .pure (Xi _ (Yi (h6) ?_));exact .of_eq (congrArg vi (show (1:Int)=N by rw [hN,e1,e2,e3]; rfl))
 rw [e3] at h6;refine Xi .pure (Xi _ (Yi (h6) ?_));exact .of_eq (congrArg vi (show (0:Int)=N by rw [hN,e1,e2,e3]; rfl))
end Go.Eng

namespace Go.Eng
open Go.Proofs
theorem cmpR_key {a b:Rl} (h:keyR a=keyR b):cmpR a b=0:=by
 obtain ⟨h1,h2,h3,h4⟩:=key_parts h;unfold cmpR cmpB cmpV cmpI;rw [h1,h2,h3,h4,blt_irrefl];simp
theorem c67 (x:List Rl) (ifs:List (List AV)) (hs:∀ r ∈ x,FewR r):PC 170 [ixV x ifs] (vi (checkIx x)):=by
 refine Ps (plcut [4,6,8,10,12]) Tryz.func170 rfl (Nz rfl) ?_;refine Exists.elim (show ∃ N,N=checkIx x from ⟨_,rfl⟩) (fun N hN=>?_);refine Yi (fun h=>?_) (fun h=>?_)
 ·have h:(256:Int)<(x.map encRl).length:=h;exact .of_eq (congrArg vi (show (7:Int)=checkIx x by unfold checkIx; rw [if_pos (by rw [Lm] at h; omega)]))
 have h:¬ (256:Int)<(x.map encRl).length:=h;have hl:x.length≤256:=by rw [Lm] at h; omega
 have hck:checkIx x=checkIxGo none x:=by unfold checkIx; rw [if_neg (by omega)]
 refine Xi ⟨[(3,sl encRl x)],[],hfree⟩ (Yi ⟨Z1,Tv,Fh,Tv⟩ ?_)
 refine Xi {i:Nat // i≤x.length∧checkIxGo none x=checkIxGo (befR x i) (x.drop i)} (Xi (fun i=>⟨[(3,sl encRl x),(4,vi i.1)],[],hfree⟩) (Xi (fun i=>x.length - i.1) (Yi (Xi ⟨0,Nat.zero_le _,rfl⟩ ?_) ?_)))
 ·exact ⟨Z2,Tv,Fh,Tv⟩
 intro ⟨i,h1,h2⟩;refine Yi (fun h=>?_) (fun h=>?_)
 ·skip
  have h:(i:Int)<(x.map encRl).length:=h;have h:i<x.length:=by simpa using h
  have hg:x[i]?=some x[i]:=Ge h;have hd:x.drop i=x[i] :: x.drop (i+1):=List.drop_eq_getElem_cons h;have hc:=c112 x[i] (hs x[i] (List.getElem_mem h));have hgo:checkIxGo none x=if checkRl x[i]≠0 then checkRl x[i] else match befR x i with
   | none=>checkIxGo (some x[i]) (x.drop (i+1))
   | some b=>if keyR b=keyR x[i] then 5 else if 0<cmpR b x[i] then 1 else checkIxGo (some x[i]) (x.drop (i+1)):=by rw [h2,hd]; rfl
  have hnext:befR x (i+1)=some x[i]:=Ge h;refine Xi (encRl x[i]) (Yi (Yi (Nn i) (by simp [hg])) (Yi rfl ?_));refine Yi (Nz rfl) ?_;refine Xi .pure (Xi _ (Yi (hc) ?_));refine Xi ⟨[(3,sl encRl x),(4,vi i),(5,vi (checkRl x[i]))],[],hfree⟩ (Yi ⟨Z3,Tv,Fh,Tv⟩ ?_)
  refine Yi (fun h3=>?_) (fun h3=>?_)
  ·have h3:checkRl x[i]≠0:=h3;exact .of_eq (congrArg vi (show checkRl x[i]=checkIx x by rw [hck,hgo,if_pos h3]))
  have h3:¬ checkRl x[i]≠0:=h3;rw [if_neg h3] at hgo;refine Xi ⟨[(3,sl encRl x),(4,vi i)],[],hfree⟩ (Yi ⟨Z2,Tv,Fh,Tv⟩ ?_)
  refine Yi (fun h4=>?_) (fun h4=>?_)
  ·have h4:(0:Int)<i:=h4;have hk:i - 1<x.length:=by omega
   have hg1:x[i - 1]?=some x[i - 1]:=Ge hk;have hn:((i:Int) - 1).toNat=i - 1:=by omega
   have hb:befR x i=some x[i - 1]:=by
    cases i with
    | zero=>omega
    | succ k=>exact hg1
   rw [hb] at hgo;have hgo:checkIxGo none x=if keyR x[i - 1]=keyR x[i] then 5 else if 0<cmpR x[i - 1] x[i] then 1 else checkIxGo (some x[i]) (x.drop (i+1)):=hgo
   have hcm:=c113 x[i - 1] x[i];have hat:(0:Int)≤(i:Int) - 1∧(x.map encRl)[((i:Int) - 1).toNat]?=some (encRl x[i - 1]):=⟨by omega,by rw [hn]; exact map_at hg1⟩;refine Yi (show InI64 ((i:Int) - 1) by unfold InI64; omega) ?_;refine Xi (encRl x[i - 1]) (Yi hat (Yi rfl ?_));refine Yi (Nz rfl) ?_;refine Xi (encRl x[i]) (Yi (Yi (Nn i) (by simp [hg])) (Yi rfl ?_));refine Yi (Nz rfl) ?_;refine Xi _ (Yi (hcm) ?_);refine Yi (fun h5=>?_) (fun h5=>?_)
   ·have h5:cmpR x[i - 1] x[i]=0:=h5;refine Yi (by kernel_rfl) ?_;exact .of_eq (congrArg vi (show (5:Int)=checkIx x by rw [hck,hgo,if_pos (cmpR_zero h5)]))
   have h5:¬ cmpR x[i - 1] x[i]=0:=h5;refine Yi (by kernel_rfl) ?_;refine Xi ⟨[(3,sl encRl x),(4,vi i)],[],hfree⟩ (Yi ⟨Z2,Tv,Fh,Tv⟩ ?_)
   refine Yi (fun _=>?_) (fun h9=>absurd h4 h9);refine Yi (show InI64 ((i:Int) - 1) by unfold InI64; omega) ?_;refine Xi (encRl x[i - 1]) (Yi hat (Yi rfl ?_));refine Yi (Nz rfl) ?_;refine Xi (encRl x[i]) (Yi (Yi (Nn i) (by simp [hg])) (Yi rfl ?_));refine Yi (Nz rfl) ?_;refine Xi _ (Yi (hcm) ?_);refine Yi (fun h6=>?_) (fun h6=>?_)
   ·have h6:0<cmpR x[i - 1] x[i]:=h6;refine Yi (by kernel_rfl) ?_;exact .of_eq (congrArg vi (show (1:Int)=checkIx x by rw [hck,hgo,if_neg (fun e=>h5 (cmpR_key e)),if_pos h6]))
   have h6:¬ 0<cmpR x[i - 1] x[i]:=h6;refine Yi (by kernel_rfl) ?_;refine Xi ⟨[(3,sl encRl x),(4,vi i)],[],hfree⟩ (Yi ⟨Z2,Tv,Fh,Tv⟩ ?_)
   refine Yi (Ii i (by omega)) ?_;refine Xi ⟨i+1,by omega,by rw [hgo,if_neg (fun e=>h5 (cmpR_key e)),if_neg h6,hnext]⟩ ?_;exact ⟨Dl x.length i (by omega),Z2,Tv,Fh,Tv⟩
  have h4:¬ (0:Int)<i:=h4;have hb:befR x i=none:=by
   rw [show i=0 by omega]
  rw [hb] at hgo;have hgo:checkIxGo none x=checkIxGo (some x[i]) (x.drop (i+1)):=hgo;refine Yi (by kernel_rfl) ?_;refine Xi ⟨[(3,sl encRl x),(4,vi i)],[],hfree⟩ (Yi ⟨Z2,Tv,Fh,Tv⟩ ?_)
  refine Yi (fun h9=>absurd h9 h4) (fun _=>?_);refine Yi (by kernel_rfl) ?_;refine Xi ⟨[(3,sl encRl x),(4,vi i)],[],hfree⟩ (Yi ⟨Z2,Tv,Fh,Tv⟩ ?_)
  refine Yi (Ii i (by omega)) ?_;refine Xi ⟨i+1,by omega,by rw [hgo,hnext]⟩ ?_;exact ⟨Dl x.length i (by omega),Z2,Tv,Fh,Tv⟩
 ·skip
  have h:¬ (i:Int)<(x.map encRl).length:=h;have h:¬ i<x.length:=by simpa using h
  have e:(0:Int)=checkIx x:=by rw [hck,h2,List.drop_eq_nil_of_le (by omega)]; rfl
  exact .of_eq (congrArg vi e)
end Go.Eng

namespace Go.Eng
open Go.Proofs
theorem c37 (x:List Rl) (ifs:List (List AV)) (roots:List Rq) (hs:∀ r ∈ x,FewR r) (hq:∀ q ∈ roots,FewQ q):PC 113 [ixV x ifs,sl encRq roots] (vb (decide (checkIx x=0)&&decide (checkRqs roots=0))):=by
 have h1:=c67 x ifs hs;have h2:=c68 h114 h115 roots hq;refine Ps pl0 Tryz.func113 rfl (Nz rfl) ?_;refine Yi (Nz rfl) ?_;refine Xi .pure (Xi _ (Yi (h1) ?_));refine Yi (fun h=>?_) (fun h=>?_)
 ·have h:checkIx x=0:=h;refine Xi .pure (Xi _ (Yi (h2) ?_));refine Yi (fun h3=>?_) (fun h3=>?_)
  ·have h3:checkRqs roots=0:=h3;exact .of_eq (congrArg vb (show true=_ by rw [decide_eq_true h,decide_eq_true h3]; rfl))
  ·have h3:¬ checkRqs roots=0:=h3;exact .of_eq (congrArg vb (show false=_ by rw [decide_eq_false h3,Bool.and_false]))
 ·have h:¬ checkIx x=0:=h;exact .of_eq (congrArg vb (show false=_ by rw [decide_eq_false h]; rfl))
theorem c173 (t:Tm):PC 109 [.agg (encTm t)] (vb (!t.absent&&decide (t.set=[]))):=by
 refine Ps pl0 Tryz.func109 rfl (Nz rfl) ?_;refine Yi (fun h=>?_) (fun h=>?_)
 ·have h:t.absent=true:=h;exact .of_eq (congrArg vb (show false=_ by rw [h]; rfl))
 have h:t.absent=false:=h;refine Yi (fun h2=>?_) (fun h2=>?_)
 ·have h2:((t.set.map encSpan).length:Int)=0:=h2;have h2:t.set=[]:=List.eq_nil_of_length_eq_zero (by rw [Lm] at h2; omega);exact .of_eq (congrArg vb (show true=_ by rw [h,decide_eq_true h2]; rfl))
 ·have h2:¬ ((t.set.map encSpan).length:Int)=0:=h2;have h2:¬ t.set=[]:=fun e=>h2 (by rw [e]; rfl);exact .of_eq (congrArg vb (show false=_ by rw [decide_eq_false h2,Bool.and_false]))
end Go.Eng

namespace Go.Eng
open Go.Proofs
end Go.Eng

namespace Go.Eng
open Go.Proofs
end Go.Eng

namespace Go.Eng
open Go.Proofs
end Go.Eng

namespace Go.Eng
open Go.Proofs
end Go.Eng

namespace Go.Eng
open Go.Proofs
end Go.Eng

namespace Go.Eng
open Go.Proofs
end Go.Eng

namespace Go.Eng
open Go.Proofs
end Go.Eng

namespace Go.Eng
open Go.Proofs

end Go.Eng

namespace Go.Eng
open Go.Proofs
end Go.Eng

namespace Go.Eng
open Go.Proofs
end Go.Eng

namespace Go.Eng
open Go.Proofs
end Go.Eng

namespace Go.Eng
open Go.Proofs
end Go.Eng

namespace Go.Eng
open Go.Proofs
end Go.Eng

namespace Go.Eng
open Go.Proofs
theorem take_all {α:Type} {l:List α} {p:α→Prop} {i:Nat} (h:i<l.length) (h1:∀ t ∈ l.take i,p t) (h2:p l[i]):∀ t ∈ l.take (i+1),p t:=fun t ht=>by
 rw [List.take_succ_eq_append_getElem h] at ht;rcases List.mem_append.1 ht with ht | ht
 ·exact h1 t ht
 ·rw [List.mem_singleton.1 ht]; exact h2
end Go.Eng
