/- Lemmas for the claims of this seat, without a condition: part 24 (R7, R8, R9, R10, R11, R12, R13, R14, R15, R16, R17, R18, R19, R20, R21). -/
import Derived.Test.YtpgfieopnnkpfaaGreatDoorA23
namespace Go.Eng
open Go.Proofs
abbrev pl115:Pol:=⟨[],[(3,0)],[(63,2)],[],[],[],[],[],[],[(112,7)],[4,6,10,11,14,16,17,18]⟩
theorem span_len (s:SpanL):∀ cs ∈ s.map encSpan,cs.length=2:=fun cs h=>by
 obtain ⟨x,_,rfl⟩:=List.mem_map.1 h; rfl
theorem allLen_of {n:Nat} : ∀ {l:List (List AV)},(∀ c ∈ l,c.length=n)→AllLen n l
 | [],_=>trivial
 | c :: _,h=>⟨h c (List.mem_cons_self ..),allLen_of fun d hd=>h d (List.mem_cons_of_mem _ hd)⟩
abbrev restE (s:SpanL) (k:Nat):List (List AV):=((s.map encSpan).take (((s.map encSpan).length:Nat):Int).toNat).drop ((k:Nat):Int).toNat
theorem restE_eq (s:SpanL) (k:Nat):restE s k=(s.drop k).map encSpan:=by
 unfold restE;rw [Int.toNat_natCast,Int.toNat_natCast,List.take_of_length_le (Nat.le_refl _),List.map_drop]
theorem bulk1 (s:SpanL) (x:Int × Int) (k:Nat) (h:s.length≤1073741824):AllLen 2 (restE s k)∧[encSpan x].length=1∧([encSpan x].length+(restE s k).length)*16≤140737488355328∧[encSpan x].length+(restE s k).length≤9223372036854775807:=by
 rw [restE_eq];refine ⟨allLen_of (span_len _),rfl,?_,?_⟩ <;> rw [Lm,List.length_drop,List.length_singleton] <;> omega
abbrev headE (s:SpanL) (k:Nat):List (List AV):=((s.map encSpan).take ((k:Nat):Int).toNat).drop ((0:Int)).toNat
theorem headE_eq (s:SpanL) (k:Nat):headE s k=(s.take k).map encSpan:=by
 unfold headE;rw [Int.toNat_natCast,show (0:Int).toNat=0 from rfl,List.drop_zero,List.map_take]
theorem bulk2 (s:SpanL) (x:Int × Int) (k:Nat) (hk:k≤s.length) (h:s.length≤1073741824):AllLen 2 ([encSpan x]++restE s k)∧(headE s k).length=((k:Nat):Int).toNat - ((0:Int)).toNat∧((headE s k).length+([encSpan x]++restE s k).length)*16≤140737488355328∧(headE s k).length+([encSpan x]++restE s k).length≤9223372036854775807:=by
 rw [restE_eq,headE_eq];refine ⟨⟨rfl,allLen_of (span_len _)⟩,?_,?_,?_⟩
 ·rw [Lm,List.length_take,Int.toNat_natCast]; show min k s.length=k - 0; omega
 ·rw [List.length_append,Lm,Lm,List.length_take,List.length_drop,List.length_singleton]; omega
 ·rw [List.length_append,Lm,Lm,List.length_take,List.length_drop,List.length_singleton]; omega
theorem insE (s:SpanL) (x:Int × Int) (k:Nat):headE s k++([encSpan x]++restE s k)=(s.take k++([x]++s.drop k)).map encSpan:=by
 rw [restE_eq,headE_eq,List.map_append,List.map_append]; rfl
theorem join_last {s A:SpanL} {j:Nat} (h:j<s.length) (hA:A=(mergeR (s.take j)).reverse) {y:Int × Int} (hy:A[A.length - 1]?=some y) (hle:s[j].1≤y.2):A.set (A.length - 1) (y.1,max y.2 s[j].2)=(mergeR (s.take (j+1))).reverse:=by
 rw [mergeR_take s j h];cases hr:mergeR (s.take j) with
 | nil=>rw [hA,hr] at hy; cases hy
 | cons z t =>
  have eA:A=t.reverse++[z]:=by rw [hA,hr,List.reverse_cons]
  have eL:A.length - 1=t.reverse.length:=by rw [eA,List.length_append,List.length_singleton]; omega
  rw [eL,eA,List.getElem?_append_right (Nat.le_refl _),Nat.sub_self] at hy;have ez:z=y:=Option.some.inj hy;have e2:stepR (z :: t) s[j]=(z.1,max z.2 s[j].2) :: t:=by show (if s[j].1≤z.2 then _ else _)=_; rw [if_pos (ez▸hle)]
  rw [e2,eL,eA,List.set_append_right _ _ (Nat.le_refl _),Nat.sub_self,List.reverse_cons,ez]; rfl
theorem join_new {s A:SpanL} {j:Nat} (h:j<s.length) (hA:A=(mergeR (s.take j)).reverse) (hn:∀ y,A[A.length - 1]?=some y→¬ s[j].1≤y.2):A++[s[j]]=(mergeR (s.take (j+1))).reverse:=by
 rw [mergeR_take s j h];cases hr:mergeR (s.take j) with
 | nil=>rw [hA,hr]; rfl
 | cons z t =>
  have eA:A=t.reverse++[z]:=by rw [hA,hr,List.reverse_cons]
  have eL:A.length - 1=t.reverse.length:=by rw [eA,List.length_append,List.length_singleton]; omega
  have:=hn z (by rw [eL,eA,List.getElem?_append_right (Nat.le_refl _),Nat.sub_self]; rfl)
  have e2:stepR (z :: t) s[j]=s[j] :: z :: t:=by show (if s[j].1≤z.2 then _ else _)=_; rw [if_neg this]
  rw [e2,eA,List.reverse_cons,List.reverse_cons]
theorem joinE (A:SpanL) (k:Nat) (y x:Int × Int):(A.map encSpan).set k [vi y.1,vi (max y.2 x.2)]=(A.set k (y.1,max y.2 x.2)).map encSpan:=by rw [List.map_set]
set_option maxHeartbeats 4000000 in
theorem c115 (l:SpanL) (hl:Few l):PC 104 [sl encSpan l] (sl encSpan (canon l)):=by
 have hl:l.length≤1073741824:=hl;refine Ps pl115 Tryz.func104 rfl (Nz rfl) ?_;refine Xi {p:Nat × SpanL // p.1≤l.length∧p.2.Perm (clipL (l.take p.1))∧p.2.Pairwise fun a b=>a.1≤b.1} (Xi (fun p=>⟨[(0,sl encSpan l),(3,sl encSpan p.1.2),(4,vi p.1.1)],[],hfree⟩) (Xi (fun p=>l.length - p.1.1) (Yi (Xi ⟨(0,[]),Nat.zero_le _,.refl _,.nil⟩ ?_) ?_)))
 ·exact ⟨Z3,Tv,Fh,Tv⟩
 intro ⟨⟨i,s⟩,i1,i2,i3⟩;have i1:i≤l.length:=i1;have i2:s.Perm (clipL (l.take i)):=i2;have i3:s.Pairwise fun a b=>a.1≤b.1:=i3;have hsl:s.length≤i:=by rw [i2.length_eq]; exact clipL_take l i
 refine Yi (fun h=>?_) (fun h=>?_)
 ·skip
  have h:(i:Int)<(l.map encSpan).length:=h;have h:i<l.length:=by simpa using h
  have hg:l[i]?=some l[i]:=Ge h;refine Xi (encSpan l[i]) (Yi (Yi (Nn i) (by simp [hg])) (Yi rfl ?_));refine Xi (encSpan l[i]) (Yi (Yi (Nn i) (by simp [hg])) (Yi rfl ?_));refine Yi (Nz rfl) ?_;refine Yi (by kernel_rfl) ?_;refine Xi ⟨[(0,sl encSpan l),(3,sl encSpan s),(4,vi i),(5,.ref 5 0)],[(5,.cells (encSpan (clip l[i])))],hfree⟩ (Yi ?_ ?_)
  ·have e0:HO.cells [vi (max 0 l[i].1),vi (min 1000000 l[i].2)]=.cells (encSpan (clip l[i])):=by
    rw [Int.max_comm,Int.min_comm]; rfl
   exact ⟨Z4,⟨⟨e0,rfl⟩,Tv⟩,Fh,Tv⟩
  refine Yi (fun h3=>?_) (fun h3=>?_)
  ·have h3:(clip l[i]).2≤(clip l[i]).1:=h3;refine Xi ⟨[(0,sl encSpan l),(3,sl encSpan s),(4,vi i)],[],hfree⟩ (Yi ⟨Z3,Tv,Fh,Tv⟩ ?_)
   refine Yi (Ii i (by omega)) ?_;have e:=clipL_no h (show ¬ (clip l[i]).1<(clip l[i]).2 by omega);refine Xi ⟨(i+1,s),by omega,by show s.Perm (clipL (l.take (i+1))); rw [e]; exact i2,i3⟩ ?_;exact ⟨Dl l.length i (by omega),Z3,Tv,Fh,Tv⟩
  have h3:¬ (clip l[i]).2≤(clip l[i]).1:=h3;have e:=clipL_yes h (show (clip l[i]).1<(clip l[i]).2 by omega);refine Xi {k:Nat // k≤s.length∧∀ j (hj:j<s.length),k≤j→(clip l[i]).1<s[j].1} (Xi (fun k=>⟨[(0,sl encSpan l),(3,sl encSpan s),(4,vi i),(5,.ref 5 0),(6,vi k.1)],[(5,.cells (encSpan (clip l[i])))],hfree⟩) (Xi (fun k=>k.1) (Yi (Xi ⟨s.length,Nat.le_refl _,fun j hj hji=>by omega⟩ ?_) ?_)))
  ·have e1:vi ((s.map encSpan).length:Int)=vi (s.length:Int):=by rw [Lm]
   exact ⟨⟨Zr,Zr,Zr,Zr,⟨e1,rfl⟩,Tv⟩,Z1,Fh,Tv⟩
  intro ⟨k,k1,k2⟩;refine Yi (fun h4=>?_) (fun h4=>?_)
  ·have h4:(0:Int)<k:=h4;refine Yi (show InI64 ((k:Int) - 1) by unfold InI64; omega) ?_;have hk:k - 1<s.length:=by omega
   have hg:s[k - 1]?=some s[k - 1]:=Ge hk;have hn:((k:Int) - 1).toNat=k - 1:=by omega
   refine Xi (encSpan s[k - 1]) (Yi (Yi (by show (0:Int)≤(k:Int) - 1; omega) (by rw [hn]; exact map_at hg)) (Yi rfl ?_));refine Yi (fun h5=>?_) (fun h5=>?_)
   ·have h5:(clip l[i]).1<s[k - 1].1:=h5;refine Yi (by kernel_rfl) ?_;refine Yi (show InI64 ((k:Int) - 1) by unfold InI64; omega) ?_;have e1:vi ((k:Int) - 1)=vi ((k - 1:Nat):Int):=congrArg vi (by omega);refine Xi ⟨k - 1,by omega,fun j hj hji=>?_⟩ ?_
    ·rcases Nat.lt_or_ge j k with z | z
     ·have:j=k - 1:=by omega
      subst this; exact h5
     ·exact k2 j hj z
    ·exact ⟨by show k - 1<k; omega,⟨Zr,Zr,Zr,Zr,⟨e1,rfl⟩,Tv⟩,Z1,Fh,Tv⟩
   have h5:¬ (clip l[i]).1<s[k - 1].1:=h5;have hk2:k=0∨∃ h:k - 1<s.length,s[k - 1].1≤(clip l[i]).1:=.inr ⟨hk,by omega⟩;refine Yi (by kernel_rfl) ?_;refine Xi ⟨[(0,sl encSpan l),(3,sl encSpan s),(4,vi i),(5,.ref 5 0),(6,vi k)],[(5,.cells (encSpan (clip l[i])))],hfree⟩ (Yi ⟨Z5,Z1,Fh,Tv⟩ ?_)
   refine Yi (show (0:Int)≤0∧(0:Int)≤k∧(k:Int)=k∧(k:Int)≤((s.map encSpan).length:Nat) by rw [Lm]; omega) (Yi (span_len s) ?_);refine Yi (Nz rfl) ?_;refine Yi (show (0:Int)≤k∧(k:Int)≤((s.map encSpan).length:Nat)∧(((s.map encSpan).length:Nat):Int)≤((s.map encSpan).length:Nat) by rw [Lm]; omega) (Yi (span_len s) ?_);refine Yi (bulk1 s (clip l[i]) k (by omega)) ?_;refine Yi (bulk2 s (clip l[i]) k k1 (by omega)) ?_;refine Yi (by kernel_rfl) ?_;refine Exists.elim (show ∃ t,t=s.take k++([clip l[i]]++s.drop k) from ⟨_,rfl⟩) (fun t ht=>?_);refine Xi ⟨[(0,sl encSpan l),(3,sl encSpan t),(4,vi i)],[],hfree⟩ (Yi ?_ ?_)
   ·have e3:AV.slice .none (headE s k++([encSpan (clip l[i])]++restE s k))=sl encSpan t:=by rw [ht]; exact congrArg (AV.slice .none) (insE s (clip l[i]) k)
    exact ⟨⟨Zr,⟨e3,rfl⟩,Zr,Tv⟩,Tv,Fh,Tv⟩
   refine Yi (Ii i (by omega)) ?_;refine Xi ⟨(i+1,t),by omega,by show t.Perm (clipL (l.take (i+1))); rw [e,ht]; exact ins_perm s _ k i2,by show t.Pairwise _; rw [ht]; exact ins_sorted s _ k i3 k2 hk2⟩ ?_;exact ⟨Dl l.length i (by omega),Z3,Tv,Fh,Tv⟩
  ·have h4:¬ (0:Int)<k:=h4;have hk2:k=0∨∃ h:k - 1<s.length,s[k - 1].1≤(clip l[i]).1:=.inl (by omega);refine Yi (by kernel_rfl) ?_;refine Xi ⟨[(0,sl encSpan l),(3,sl encSpan s),(4,vi i),(5,.ref 5 0),(6,vi k)],[(5,.cells (encSpan (clip l[i])))],hfree⟩ (Yi ⟨Z5,Z1,Fh,Tv⟩ ?_)
   refine Yi (show (0:Int)≤0∧(0:Int)≤k∧(k:Int)=k∧(k:Int)≤((s.map encSpan).length:Nat) by rw [Lm]; omega) (Yi (span_len s) ?_);refine Yi (Nz rfl) ?_;refine Yi (show (0:Int)≤k∧(k:Int)≤((s.map encSpan).length:Nat)∧(((s.map encSpan).length:Nat):Int)≤((s.map encSpan).length:Nat) by rw [Lm]; omega) (Yi (span_len s) ?_);refine Yi (bulk1 s (clip l[i]) k (by omega)) ?_;refine Yi (bulk2 s (clip l[i]) k k1 (by omega)) ?_;refine Yi (by kernel_rfl) ?_;refine Exists.elim (show ∃ t,t=s.take k++([clip l[i]]++s.drop k) from ⟨_,rfl⟩) (fun t ht=>?_);refine Xi ⟨[(0,sl encSpan l),(3,sl encSpan t),(4,vi i)],[],hfree⟩ (Yi ?_ ?_)
   ·have e3:AV.slice .none (headE s k++([encSpan (clip l[i])]++restE s k))=sl encSpan t:=by rw [ht]; exact congrArg (AV.slice .none) (insE s (clip l[i]) k)
    exact ⟨⟨Zr,⟨e3,rfl⟩,Zr,Tv⟩,Tv,Fh,Tv⟩
   refine Yi (Ii i (by omega)) ?_;refine Xi ⟨(i+1,t),by omega,by show t.Perm (clipL (l.take (i+1))); rw [e,ht]; exact ins_perm s _ k i2,by show t.Pairwise _; rw [ht]; exact ins_sorted s _ k i3 k2 hk2⟩ ?_;exact ⟨Dl l.length i (by omega),Z3,Tv,Fh,Tv⟩
 ·skip
  have h:¬ (i:Int)<(l.map encSpan).length:=h;have h:¬ i<l.length:=by simpa using h
  have fin:(mergeR s).reverse=canon l:=canon_of_sorted (by rw [List.take_of_length_le (by omega)] at i2; exact i2) i3;refine Xi ⟨[(3,sl encSpan s)],[],hfree⟩ (Yi ⟨Z1,Tv,Fh,Tv⟩ ?_)
  refine Xi {p:Nat × SpanL // p.1≤s.length∧p.2=(mergeR (s.take p.1)).reverse} (Xi (fun p=>⟨[(3,sl encSpan s),(7,.msl 63 p.1.2.length),(8,vi p.1.1)],[(63,arrSp p.1.2)],hfree⟩) (Xi (fun p=>s.length - p.1.1) (Yi (Xi ⟨(0,[]),Nat.zero_le _,rfl⟩ ?_) ?_)))
  ·exact ⟨Z3,Z1,Fh,Tv⟩
  intro ⟨⟨j,A⟩,j1,hA⟩;have j1:j≤s.length:=j1;have hA:A=(mergeR (s.take j)).reverse:=hA;have hAl:A.length≤j:=by rw [hA,List.length_reverse]; exact (mergeR_len s j j1).1
  refine Yi (fun h2=>?_) (fun h2=>?_)
  ·have h2:(j:Int)<((s.map encSpan).length:Int):=h2;have h2:j<s.length:=by simpa using h2
   have hgj:s[j]?=some s[j]:=Ge h2;refine Xi ⟨[(3,sl encSpan s),(7,.msl 63 A.length),(8,vi j),(9,vi A.length)],[(63,arrSp A)],hfree⟩ (Yi ⟨Z4,Z1,Fh,Tv⟩ ?_)
   refine Yi (fun h3=>?_) (fun h3=>?_)
   ·have h3:(0:Int)<A.length:=h3;have hi1:InI64 ((A.length:Int) - 1):=by unfold InI64; omega
    have hn:((A.length:Int) - 1).toNat=A.length - 1:=by omega
    have hin:(0:Int)≤(A.length:Int) - 1∧(A.length:Int) - 1<(A.length:Int):=by omega
    have hlt:A.length - 1<A.length:=by omega
    have hg:A[A.length - 1]?=some A[A.length - 1]:=Ge hlt;have hgm:(A.map encSpan)[((A.length:Int) - 1).toNat]?=some (encSpan A[A.length - 1]):=by rw [hn]; exact map_at hg
    have hln:A.length=(A.map encSpan).length:=by rw [Lm]
    have hsj:(0:Int)≤j∧(s.map encSpan)[((j:Nat):Int).toNat]?=some (encSpan s[j]):=⟨by omega,by rw [Int.toNat_natCast]; exact map_at hgj⟩;refine Xi (encSpan s[j]) (Yi hsj (Yi rfl ?_));refine Yi hi1 (Yi hin (Yi hln (Xi (encSpan A[A.length - 1]) (Yi hgm ?_))));refine Yi (fun h4=>?_) (fun h4=>?_)
    ·have h4:s[j].1≤A[A.length - 1].2:=h4;refine Yi (by kernel_rfl) ?_;refine Xi ⟨[(3,sl encSpan s),(7,.msl 63 A.length),(8,vi j),(9,vi A.length)],[(63,arrSp A)],hfree⟩ (Yi ⟨Z4,Z1,Fh,Tv⟩ ?_)
     refine Yi hi1 (Yi hi1 (Yi hin (Yi hln (Xi (encSpan A[A.length - 1]) (Yi hgm ?_)))));refine Xi (encSpan s[j]) (Yi hsj (Yi rfl ?_));refine Yi hin (Yi hln (Xi (encSpan A[A.length - 1]) (Yi hgm (Yi (Nz rfl) ?_))));refine Yi (by kernel_rfl) ?_;refine Exists.elim (show ∃ B,B=A.set (A.length - 1) (A[A.length - 1].1,max A[A.length - 1].2 s[j].2) from ⟨_,rfl⟩) (fun B hB=>?_);have e2:HO.arr 2 ((A.map encSpan).set ((A.length:Int) - 1).toNat [vi A[A.length - 1].1,vi (max A[A.length - 1].2 s[j].2)])=arrSp B:=by rw [hn,hB]; exact congrArg (HO.arr 2) (joinE A _ _ _)
     have e1:AV.msl 63 A.length=.msl 63 B.length:=by rw [hB,List.length_set]
     refine Xi ⟨[(3,sl encSpan s),(7,.msl 63 B.length),(8,vi j)],[(63,arrSp B)],hfree⟩ (Yi ⟨⟨Zr,⟨e1,rfl⟩,Zr,Tv⟩,⟨⟨e2,rfl⟩,Tv⟩,Fh,Tv⟩ ?_)
     refine Yi (Ii j (by omega)) ?_;refine Xi ⟨(j+1,B),by omega,by rw [hB]; exact join_last h2 hA hg h4⟩ ?_;exact ⟨Dl s.length j (by omega),Z3,Z1,Fh,Tv⟩
    have h4:¬ s[j].1≤A[A.length - 1].2:=h4;have hjn:A++[s[j]]=(mergeR (s.take (j+1))).reverse:=join_new h2 hA fun y hy=>by
     rw [hg] at hy; rw [← Option.some.inj hy]; exact h4
    refine Yi (by kernel_rfl) ?_;refine Xi ⟨[(3,sl encSpan s),(7,.msl 63 A.length),(8,vi j),(9,vi A.length)],[(63,arrSp A)],hfree⟩ (Yi ⟨Z4,Z1,Fh,Tv⟩ ?_)
    refine Xi (encSpan s[j]) (Yi hsj (Yi rfl ?_));refine Yi (Nz rfl) ?_;have bulk:AllLen 2 [encSpan s[j]]∧(A.map encSpan).length=A.length∧((A.map encSpan).length+[encSpan s[j]].length)*16≤140737488355328∧(A.map encSpan).length+[encSpan s[j]].length≤9223372036854775807 :=
     ⟨⟨rfl,trivial⟩,by rw [Lm],by rw [Lm,List.length_singleton]; omega,by rw [Lm,List.length_singleton]; omega⟩
    refine Yi bulk ?_;refine Exists.elim (show ∃ B,B=A++[s[j]] from ⟨_,rfl⟩) (fun B hB=>?_);have e1:AV.msl 63 ((A.map encSpan).length+[encSpan s[j]].length)=.msl 63 B.length:=by rw [hB]; simp
    have e2:HO.arr 2 (A.map encSpan++[encSpan s[j]])=arrSp B:=by rw [hB]; simp
    refine Xi ⟨[(3,sl encSpan s),(7,.msl 63 B.length),(8,vi j)],[(63,arrSp B)],hfree⟩ (Yi ⟨⟨Zr,⟨e1,rfl⟩,Zr,Tv⟩,⟨⟨e2,rfl⟩,Tv⟩,Fh,Tv⟩ ?_)
    refine Yi (Ii j (by omega)) ?_;refine Xi ⟨(j+1,B),by omega,by rw [hB]; exact hjn⟩ ?_;exact ⟨Dl s.length j (by omega),Z3,Z1,Fh,Tv⟩
   ·have h3:¬ (0:Int)<A.length:=h3;have hsj:(0:Int)≤j∧(s.map encSpan)[((j:Nat):Int).toNat]?=some (encSpan s[j]):=⟨by omega,by rw [Int.toNat_natCast]; exact map_at hgj⟩;have hjn:A++[s[j]]=(mergeR (s.take (j+1))).reverse:=join_new h2 hA fun y hy=>by
     rw [List.eq_nil_of_length_eq_zero (by omega:A.length=0)] at hy; cases hy
    refine Yi (by kernel_rfl) ?_;refine Xi ⟨[(3,sl encSpan s),(7,.msl 63 A.length),(8,vi j),(9,vi A.length)],[(63,arrSp A)],hfree⟩ (Yi ⟨Z4,Z1,Fh,Tv⟩ ?_)
    refine Xi (encSpan s[j]) (Yi hsj (Yi rfl ?_));refine Yi (Nz rfl) ?_;have bulk:AllLen 2 [encSpan s[j]]∧(A.map encSpan).length=A.length∧((A.map encSpan).length+[encSpan s[j]].length)*16≤140737488355328∧(A.map encSpan).length+[encSpan s[j]].length≤9223372036854775807 :=
     ⟨⟨rfl,trivial⟩,by rw [Lm],by rw [Lm,List.length_singleton]; omega,by rw [Lm,List.length_singleton]; omega⟩
    refine Yi bulk ?_;refine Exists.elim (show ∃ B,B=A++[s[j]] from ⟨_,rfl⟩) (fun B hB=>?_);have e1:AV.msl 63 ((A.map encSpan).length+[encSpan s[j]].length)=.msl 63 B.length:=by rw [hB]; simp
    have e2:HO.arr 2 (A.map encSpan++[encSpan s[j]])=arrSp B:=by rw [hB]; simp
    refine Xi ⟨[(3,sl encSpan s),(7,.msl 63 B.length),(8,vi j)],[(63,arrSp B)],hfree⟩ (Yi ⟨⟨Zr,⟨e1,rfl⟩,Zr,Tv⟩,⟨⟨e2,rfl⟩,Tv⟩,Fh,Tv⟩ ?_)
    refine Yi (Ii j (by omega)) ?_;refine Xi ⟨(j+1,B),by omega,by rw [hB]; exact hjn⟩ ?_;exact ⟨Dl s.length j (by omega),Z3,Z1,Fh,Tv⟩
  ·have h2:¬ (j:Int)<((s.map encSpan).length:Int):=h2;have h2:¬ j<s.length:=by simpa using h2
   refine Yi (by rw [Lm]) ?_;exact .of_eq (congrArg (sl encSpan) (show A=canon l by rw [hA,List.take_of_length_le (by omega)]; exact fin))
theorem h115:H115:=c115
end Go.Eng

namespace Go.Eng
open Go.Proofs
abbrev tokS (d:Nat) (A:SpanL):AV:=.slice (.id d 2) (A.map encSpan)
theorem c120 (s:SpanL) (hs:Few s):PC 48 [sl encSpan s] (sl encSpan (compl s)):=by
 have hc:=c115 s hs;have hC:compl s=complF 0 (canon s):=rfl;have hn:(canon s).length≤1000000:=canon_len (canon_canon s);obtain ⟨C,eC⟩ : ∃ C,C=canon s:=⟨_,rfl⟩;rw [← eC] at hc hC hn;refine Ps (plcut [2,6,9,12]) Tryz.func48 rfl (Nz rfl) ?_;refine Xi .pure (Xi _ (Yi (hc) ?_));refine Xi ⟨[(3,sl encSpan C)],[],hfree⟩ (Yi ⟨Z1,Tv,Fh,Tv⟩ ?_)
 refine Xi {p:Nat × Int × SpanL // p.1≤C.length∧p.2.2.length≤p.1∧p.2.2++complF p.2.1 (C.drop p.1)=complF 0 C} (Xi (fun p=>⟨[(3,sl encSpan C),(4,tokS 9 p.1.2.2),(5,vi p.1.2.1),(6,vi p.1.1)],[(9,.tok 2 p.1.2.2.length)],hfree⟩) (Xi (fun p=>C.length - p.1.1) (Yi (Xi ⟨(0,0,[]),Nat.zero_le _,Nat.zero_le _,rfl⟩ ?_) ?_)))
 ·exact ⟨Z4,Z1,Fh,Tv⟩
 intro ⟨⟨i,z,A⟩,i1,i2,i3⟩;have i1:i≤C.length:=i1;have i2:A.length≤i:=i2;have i3:A++complF z (C.drop i)=complF 0 C:=i3;refine Yi (fun h=>?_) (fun h=>?_)
 ·skip
  have h:(i:Int)<(C.map encSpan).length:=h;have h:i<C.length:=by simpa using h
  have hg:C[i]?=some C[i]:=Ge h;refine Xi (encSpan C[i]) (Yi (Yi (Nn i) (by simp [hg])) (Yi rfl ?_));rw [List.drop_eq_getElem_cons h] at i3;refine Yi (fun h2=>?_) (fun h2=>?_)
  ·have h2:z<C[i].1:=h2;refine Xi (encSpan C[i]) (Yi (Yi (Nn i) (by simp [hg])) (Yi rfl ?_));have bulk:AllLen 2 [encSpan (z,C[i].1)]∧(A.map encSpan).length=A.length∧((A.map encSpan).length+[encSpan (z,C[i].1)].length)*16≤140737488355328∧(A.map encSpan).length+[encSpan (z,C[i].1)].length≤9223372036854775807 :=
    ⟨⟨rfl,trivial⟩,by rw [Lm],by rw [Lm,List.length_singleton]; omega,by rw [Lm,List.length_singleton]; omega⟩
   refine Yi bulk ?_;refine Exists.elim (show ∃ B,B=A++[(z,C[i].1)] from ⟨_,rfl⟩) (fun B hB=>?_);have e1:AV.slice (.id 9 2) (A.map encSpan++[encSpan (z,C[i].1)])=tokS 9 B:=by rw [hB]; simp
   have e2:HO.tok 2 ((A.map encSpan).length+[encSpan (z,C[i].1)].length)=.tok 2 B.length:=by rw [hB]; simp
   refine Xi ⟨[(3,sl encSpan C),(4,tokS 9 B),(5,vi z),(6,vi i)],[(9,.tok 2 B.length)],hfree⟩ (Yi ⟨⟨Zr,⟨e1,rfl⟩,Zr,Zr,Tv⟩,⟨⟨e2,rfl⟩,Tv⟩,Fh,Tv⟩ ?_)
   refine Xi (encSpan C[i]) (Yi (Yi (Nn i) (by simp [hg])) (Yi rfl ?_));refine Xi ⟨[(3,sl encSpan C),(4,tokS 9 B),(5,vi C[i].2),(6,vi i)],[(9,.tok 2 B.length)],hfree⟩ (Yi ⟨Z4,Z1,Fh,Tv⟩ ?_)
   refine Yi (Ii i (by omega)) ?_;refine Xi ⟨(i+1,C[i].2,B),by omega,by show B.length≤i+1; rw [hB,List.length_append,List.length_singleton]; omega,by show B++complF C[i].2 (C.drop (i+1))=_; rw [← i3,complF,if_pos h2,hB,List.append_assoc]; rfl⟩ ?_;exact ⟨Dl C.length i (by omega),Z4,Z1,Fh,Tv⟩
  have h2:¬ z<C[i].1:=h2;refine Xi ⟨[(3,sl encSpan C),(4,tokS 9 A),(5,vi z),(6,vi i)],[(9,.tok 2 A.length)],hfree⟩ (Yi ⟨Z4,Z1,Fh,Tv⟩ ?_)
  refine Xi (encSpan C[i]) (Yi (Yi (Nn i) (by simp [hg])) (Yi rfl ?_));refine Xi ⟨[(3,sl encSpan C),(4,tokS 9 A),(5,vi C[i].2),(6,vi i)],[(9,.tok 2 A.length)],hfree⟩ (Yi ⟨Z4,Z1,Fh,Tv⟩ ?_)
  refine Yi (Ii i (by omega)) ?_;refine Xi ⟨(i+1,C[i].2,A),by omega,by show A.length≤i+1; omega,by show A++complF C[i].2 (C.drop (i+1))=_; rw [← i3,complF,if_neg h2]⟩ ?_;exact ⟨Dl C.length i (by omega),Z4,Z1,Fh,Tv⟩
 ·skip
  have h:¬ (i:Int)<(C.map encSpan).length:=h;have h:¬ i<C.length:=by simpa using h
  rw [List.drop_of_length_le (by omega),complF] at i3;refine Yi (fun h2=>?_) (fun h2=>?_)
  ·have h2:z<1000000:=h2;have bulk:AllLen 2 [encSpan (z,1000000)]∧(A.map encSpan).length=A.length∧((A.map encSpan).length+[encSpan (z,1000000)].length)*16≤140737488355328∧(A.map encSpan).length+[encSpan (z,1000000)].length≤9223372036854775807 :=
    ⟨⟨rfl,trivial⟩,by rw [Lm],by rw [Lm,List.length_singleton]; omega,by rw [Lm,List.length_singleton]; omega⟩
   refine Yi bulk ?_;refine Exists.elim (show ∃ B,B=A++[(z,(1000000:Int))] from ⟨_,rfl⟩) (fun B hB=>?_);have e1:AV.slice (.id 9 2) (A.map encSpan++[encSpan (z,1000000)])=tokS 9 B:=by rw [hB]; simp
   have e2:HO.tok 2 ((A.map encSpan).length+[encSpan (z,1000000)].length)=.tok 2 B.length:=by rw [hB]; simp
   refine Xi ⟨[(4,tokS 9 B)],[(9,.tok 2 B.length)],hfree⟩ (Yi ⟨⟨⟨e1,rfl⟩,Tv⟩,⟨⟨e2,rfl⟩,Tv⟩,Fh,Tv⟩ ?_)
   exact .of_eq (show sl encSpan B=sl encSpan (compl s) by rw [hC,← i3,hB,if_pos h2])
  ·have h2:¬ z<1000000:=h2;refine Xi ⟨[(4,tokS 9 A)],[(9,.tok 2 A.length)],hfree⟩ (Yi ⟨Z1,Z1,Fh,Tv⟩ ?_)
   exact .of_eq (show sl encSpan A=sl encSpan (compl s) by rw [hC,← i3,if_neg h2,List.append_nil])
end Go.Eng

namespace Go.Eng
open Go.Proofs
theorem flat_take (l:List SpanL) (i:Nat) (h:i<l.length):(l.take (i+1)).flatten=(l.take i).flatten++l[i]∧((l.take i).flatten++l[i]).length≤l.flatten.length:=by
 have e:(l.take (i+1)).flatten=(l.take i).flatten++l[i]:=by
  rw [List.take_add_one,Ge h,List.flatten_append]; simp
 refine ⟨e,?_⟩;rw [← e];have e2:l.flatten=(l.take (i+1)).flatten++(l.drop (i+1)).flatten:=by rw [← List.flatten_append,List.take_append_drop]
 rw [e2,List.length_append]; omega
theorem c123 (l:List SpanL) (hl:Few l) (hf:Few l.flatten):PC 168 [sl encSet l] (sl encSpan (unionL l)):=by
 have hc:=c115 l.flatten hf;have hl:l.length≤1073741824:=hl;have hf:l.flatten.length≤1073741824:=hf;refine Ps (plcut [4,6]) Tryz.func168 rfl (Nz rfl) ?_;refine Xi {p:Nat × SpanL // p.1≤l.length∧p.2=(l.take p.1).flatten} (Xi (fun p=>⟨[(0,sl encSet l),(3,tokS 5 p.1.2),(4,vi p.1.1)],[(5,.tok 2 p.1.2.length)],hfree⟩) (Xi (fun p=>l.length - p.1.1) (Yi (Xi ⟨(0,[]),Nat.zero_le _,rfl⟩ ?_) ?_)))
 ·exact ⟨Z3,Z1,Fh,Tv⟩
 intro ⟨⟨i,A⟩,i1,i2⟩;have i1:i≤l.length:=i1;have i2:A=(l.take i).flatten:=i2;refine Yi (fun h=>?_) (fun h=>?_)
 ·skip
  have h:(i:Int)<(l.map encSet).length:=h;have h:i<l.length:=by simpa using h
  have hg:l[i]?=some l[i]:=Ge h;refine Xi (encSet l[i]) (Yi (Yi (Nn i) (by simp [hg])) (Yi rfl ?_));have ht:=flat_take l i h;rw [← i2] at ht;have htl:=ht.2;rw [List.length_append] at htl;have bulk:AllLen 2 (l[i].map encSpan)∧(A.map encSpan).length=A.length∧((A.map encSpan).length+(l[i].map encSpan).length)*16≤140737488355328∧(A.map encSpan).length+(l[i].map encSpan).length≤9223372036854775807 :=
   ⟨allLen_of (span_len _),by rw [Lm],by rw [Lm,Lm]; omega,by rw [Lm,Lm]; omega⟩
  refine Yi bulk ?_;refine Exists.elim (show ∃ B,B=A++l[i] from ⟨_,rfl⟩) (fun B hB=>?_);have e1:AV.slice (.id 5 2) (A.map encSpan++l[i].map encSpan)=tokS 5 B:=by rw [hB]; simp
  have e2:HO.tok 2 ((A.map encSpan).length+(l[i].map encSpan).length)=.tok 2 B.length:=by rw [hB]; simp
  refine Xi ⟨[(0,sl encSet l),(3,tokS 5 B),(4,vi i)],[(5,.tok 2 B.length)],hfree⟩ (Yi ⟨⟨Zr,⟨e1,rfl⟩,Zr,Tv⟩,⟨⟨e2,rfl⟩,Tv⟩,Fh,Tv⟩ ?_)
  refine Yi (Ii i (by omega)) ?_;refine Xi ⟨(i+1,B),by omega,by show B=(l.take (i+1)).flatten; rw [hB,ht.1]⟩ ?_;exact ⟨Dl l.length i (by omega),Z3,Z1,Fh,Tv⟩
 ·skip
  have h:¬ (i:Int)<(l.map encSet).length:=h;have h:¬ i<l.length:=by simpa using h
  have eA:A=l.flatten:=by rw [i2,List.take_of_length_le (by omega)]
  rw [← eA] at hc;refine Xi ⟨[(3,tokS 5 A)],[(5,.tok 2 A.length)],hfree⟩ (Yi ⟨Z1,Z1,Fh,Tv⟩ ?_)
  refine Xi .pure (Xi _ (Yi (hc) ?_));exact .of_eq (show sl encSpan (canon A)=sl encSpan (unionL l) by rw [eA]; rfl)
theorem c200:PC 169 [] (sl encSpan [(0,1000000)]):=by
 refine Ps pl0 Tryz.func169 rfl (Nz rfl) ?_;exact .refl _
theorem c119 (n:Int):PC 242 [vi n] (sl encSpan (canon [(n,1000000)])):=by
 have hc:=c115 [(n,1000000)] (by unfold Few; simp);refine Ps pl0 Tryz.func242 rfl (Nz rfl) ?_;refine Xi .pure (Xi _ (Yi (hc) ?_));exact .refl _
end Go.Eng

namespace Go.Eng
open Go.Proofs
abbrev tokD (d:Nat) (A:List SpanL):AV:=.slice (.id d 1) (A.map encSet)
theorem c172 (l:List SpanL) (hl:Few l) (hs:∀ s ∈ l,Few s) (hf:Few (l.map compl).flatten):PC 108 [sl encSet l] (sl encSpan (interL l)):=by
 have hc:=c123 (l.map compl) (by unfold Few at hl ⊢; rw [Lm]; exact hl) hf;have hu:Few (unionL (l.map compl)):=by
  have:=canon_len (unionL_canon (l.map compl))
  unfold Few; omega
 have hd:=c120 (unionL (l.map compl)) hu;have hl:l.length≤1073741824:=hl;refine Ps (plcut [4,6]) Tryz.func108 rfl (Nz rfl) ?_;refine Xi {p:Nat × List SpanL // p.1≤l.length∧p.2=(l.take p.1).map compl} (Xi (fun p=>⟨[(0,sl encSet l),(3,tokD 5 p.1.2),(4,vi p.1.1)],[(5,.tok 1 p.1.2.length)],hfree⟩) (Xi (fun p=>l.length - p.1.1) (Yi (Xi ⟨(0,[]),Nat.zero_le _,rfl⟩ ?_) ?_)))
 ·exact ⟨Z3,Z1,Fh,Tv⟩
 intro ⟨⟨i,A⟩,i1,i2⟩;have i1:i≤l.length:=i1;have i2:A=(l.take i).map compl:=i2;have hA:A.length≤i:=by rw [i2,Lm,List.length_take]; omega
 refine Yi (fun h=>?_) (fun h=>?_)
 ·skip
  have h:(i:Int)<(l.map encSet).length:=h;have h:i<l.length:=by simpa using h
  have hg:l[i]?=some l[i]:=Ge h;refine Xi (encSet l[i]) (Yi (Yi (Nn i) (by simp [hg])) (Yi rfl ?_));refine Xi .pure (Xi _ (Yi (c120 l[i] (hs _ (List.getElem_mem h))) ?_));have bulk:AllLen 1 [encSet (compl l[i])]∧(A.map encSet).length=A.length∧((A.map encSet).length+[encSet (compl l[i])].length)*24≤140737488355328∧(A.map encSet).length+[encSet (compl l[i])].length≤9223372036854775807 :=
   ⟨⟨rfl,trivial⟩,by rw [Lm],by rw [Lm,List.length_singleton]; omega,by rw [Lm,List.length_singleton]; omega⟩
  refine Yi bulk ?_;refine Exists.elim (show ∃ B,B=A++[compl l[i]] from ⟨_,rfl⟩) (fun B hB=>?_);have e1:AV.slice (.id 5 1) (A.map encSet++[encSet (compl l[i])])=tokD 5 B:=by rw [hB]; simp
  have e2:HO.tok 1 ((A.map encSet).length+[encSet (compl l[i])].length)=.tok 1 B.length:=by rw [hB]; simp
  refine Xi ⟨[(0,sl encSet l),(3,tokD 5 B),(4,vi i)],[(5,.tok 1 B.length)],hfree⟩ (Yi ⟨⟨Zr,⟨e1,rfl⟩,Zr,Tv⟩,⟨⟨e2,rfl⟩,Tv⟩,Fh,Tv⟩ ?_)
  refine Yi (Ii i (by omega)) ?_;refine Xi ⟨(i+1,B),by omega,by show B=(l.take (i+1)).map compl; rw [hB,i2,List.take_add_one,Ge h,List.map_append]; rfl⟩ ?_;exact ⟨Dl l.length i (by omega),Z3,Z1,Fh,Tv⟩
 ·skip
  have h:¬ (i:Int)<(l.map encSet).length:=h;have h:¬ i<l.length:=by simpa using h
  have eA:A=l.map compl:=by rw [i2,List.take_of_length_le (by omega)]
  rw [← eA] at hc hd;refine Xi ⟨[(3,tokD 5 A)],[(5,.tok 1 A.length)],hfree⟩ (Yi ⟨Z1,Z1,Fh,Tv⟩ ?_)
  refine Xi .pure (Xi _ (Yi (hc) ?_));refine Xi .pure (Xi _ (Yi (hd) ?_));exact .of_eq (show sl encSpan (compl (unionL A))=sl encSpan (interL l) by
   rw [eA]; exact congrArg (sl encSpan) (compl_canonS _))
theorem compl_few (s:SpanL):(compl s).length≤1000000:=canon_len (compl_canon s)
theorem c118 (a b:SpanL) (ha:Few a) (hb:Few b):PC 241 [sl encSpan a,sl encSpan b] (sl encSpan (minus a b)):=by
 have h1:=c120 b hb;have h2:=compl_few b;have h3:=compl_few a;have h4:=compl_few (compl b);have hc:=c172 [a,compl b] (by unfold Few; simp) (fun s hs=>by
  rcases List.mem_cons.1 hs with rfl | hs
  ·exact ha
  ·rw [List.mem_singleton.1 hs]; unfold Few; omega) (by
  unfold Few;rw [List.map_cons,List.map_cons,List.map_nil,List.flatten_cons,List.flatten_cons,List.flatten_nil,List.append_nil,List.length_append];omega)
 refine Ps pl0 Tryz.func241 rfl (Nz rfl) ?_;refine Xi .pure (Xi _ (Yi (h1) ?_));refine Xi .pure (Xi _ (Yi (hc) ?_));exact .refl _
end Go.Eng

namespace Go.Eng
open Go.Proofs
theorem c169 (s:ByteArray):PC 299 [vs s] (vb (dgOk s)):=by
 refine Ps pl0 Tryz.func299 rfl (Nz rfl) ?_;refine Yi (fun h=>?_) (fun h=>?_)
 ·have h:((s.size:Nat):Int)=0:=h;exact .of_eq (congrArg vb (show true=dgOk s by unfold dgOk; rw [decide_eq_true (by omega:s.size=0)]; rfl))
 have h:¬ ((s.size:Nat):Int)=0:=h;refine Yi (fun h2=>?_) (fun h2=>?_)
 ·have h2:((s.size:Nat):Int)=32:=h2;exact .of_eq (congrArg vb (show true=dgOk s by unfold dgOk; rw [decide_eq_true (by omega:s.size=32),Bool.or_true]))
 have h2:¬ ((s.size:Nat):Int)=32:=h2;exact .of_eq (congrArg vb (show false=dgOk s by unfold dgOk; rw [decide_eq_false (by omega:¬ s.size=0),decide_eq_false (by omega:¬ s.size=32)]; rfl))
def nthV (v:Ver):Nat→Int
 | 0=>v.a
 | 1=>v.b
 | _=>v.c
abbrev threeE (v:Ver):List (List AV):=[[vi v.a],[vi v.b],[vi v.c]]
theorem three_at (v:Ver) (i:Nat) (h:i<3):(threeE v)[((i:Nat):Int).toNat]?=some [vi (nthV v i)]:=by
 rw [Int.toNat_natCast]
 match i,h with
 | 0,_=>rfl
 | 1,_=>rfl
 | 2,_=>rfl
theorem cmpV3_lt (a b:Ver) (i:Nat) (hi:i<3) (h:∀ j,j<i→nthV a j=nthV b j) (hl:nthV a i<nthV b i):cmpV a b=-1:=by
 match i,hi,h,hl with
 | 0,_,h,hl =>
  have hl:a.a<b.a:=hl;unfold cmpV cmpI; simp [hl]
 | 1,_,h,hl =>
  have hl:a.b<b.b:=hl;have h0:a.a=b.a:=h 0 (by omega);unfold cmpV cmpI; simp [hl,h0]
 | 2,_,h,hl =>
  have hl:a.c<b.c:=hl;have h0:a.a=b.a:=h 0 (by omega);have h1:a.b=b.b:=h 1 (by omega);unfold cmpV cmpI; simp [hl,h0,h1]
theorem cmpV3_gt (a b:Ver) (i:Nat) (hi:i<3) (h:∀ j,j<i→nthV a j=nthV b j) (hl:nthV b i<nthV a i):cmpV a b=1:=by
 match i,hi,h,hl with
 | 0,_,h,hl =>
  have hl:b.a<a.a:=hl;have hn:¬ a.a<b.a:=by omega
  unfold cmpV cmpI; simp [hl,hn]
 | 1,_,h,hl =>
  have hl:b.b<a.b:=hl;have hn:¬ a.b<b.b:=by omega
  have h0:a.a=b.a:=h 0 (by omega);unfold cmpV cmpI; simp [hl,hn,h0]
 | 2,_,h,hl =>
  have hl:b.c<a.c:=hl;have hn:¬ a.c<b.c:=by omega
  have h0:a.a=b.a:=h 0 (by omega);have h1:a.b=b.b:=h 1 (by omega);unfold cmpV cmpI; simp [hl,hn,h0,h1]
theorem cmpV3_eq (a b:Ver) (h:∀ j,j<3→nthV a j=nthV b j):cmpV a b=0:=by
 have h0:a.a=b.a:=h 0 (by omega);have h1:a.b=b.b:=h 1 (by omega);have h2:a.c=b.c:=h 2 (by omega);unfold cmpV cmpI; simp [h0,h1,h2]
theorem c170 (a b:Ver):PC 300 [.agg (encVer a),.agg (encVer b)] (vi (cmpV a b)):=by
 refine Ps (plcut [3,5]) Tryz.func300 rfl (Nz rfl) ?_;refine Xi ⟨[(5,.slice (.id 14 1) (threeE a)),(6,.slice (.id 21 1) (threeE b))],[(14,.tok 1 3),(21,.tok 1 3)],hfree⟩ (Yi ⟨Z2,Z2,Fh,Tv⟩ ?_)
 refine Xi {i:Nat // i≤3∧∀ j,j<i→nthV a j=nthV b j} (Xi (fun i=>⟨[(5,.slice (.id 14 1) (threeE a)),(6,.slice (.id 21 1) (threeE b)),(7,vi i.1)],[(14,.tok 1 3),(21,.tok 1 3)],hfree⟩) (Xi (fun i=>3 - i.1) (Yi (Xi ⟨0,Nat.zero_le _,fun j h=>by omega⟩ ?_) ?_)))
 ·exact ⟨Z3,Z2,Fh,Tv⟩
 intro ⟨i,i1,i2⟩;refine Yi (fun h=>?_) (fun h=>?_)
 ·have h:(i:Int)<3:=h;have h:i<3:=by omega
  refine Xi [vi (nthV a i)] (Yi (Yi (Nn i) (three_at a i h)) (Yi rfl ?_));refine Xi [vi (nthV b i)] (Yi (Yi (Nn i) (three_at b i h)) (Yi rfl ?_));refine Yi (fun h2=>?_) (fun h2=>?_)
  ·have h2:nthV a i<nthV b i:=h2;refine Yi (by kernel_rfl) ?_;exact .of_eq (congrArg vi (cmpV3_lt a b i h i2 h2).symm)
  have h2:¬ nthV a i<nthV b i:=h2;refine Yi (by kernel_rfl) ?_;refine Xi [vi (nthV a i)] (Yi (Yi (Nn i) (three_at a i h)) (Yi rfl ?_));refine Xi [vi (nthV b i)] (Yi (Yi (Nn i) (three_at b i h)) (Yi rfl ?_));refine Yi (fun h3=>?_) (fun h3=>?_)
  ·have h3:nthV b i<nthV a i:=h3;refine Yi (by kernel_rfl) ?_;exact .of_eq (congrArg vi (cmpV3_gt a b i h i2 h3).symm)
  have h3:¬ nthV b i<nthV a i:=h3;refine Yi (by kernel_rfl) ?_;refine Xi ⟨[(5,.slice (.id 14 1) (threeE a)),(6,.slice (.id 21 1) (threeE b)),(7,vi i)],[(14,.tok 1 3),(21,.tok 1 3)],hfree⟩ (Yi ⟨Z3,Z2,Fh,Tv⟩ ?_)
  refine Yi (Ii i (by omega)) ?_;refine Xi ⟨i+1,by omega,fun j hj=>?_⟩ ?_
  ·rcases Nat.lt_or_ge j i with z | z
   ·exact i2 j z
   ·have:j=i:=by omega
    subst this; omega
  exact ⟨Dl 3 i (by omega),Z3,Z2,Fh,Tv⟩
 ·have h:¬ (i:Int)<3:=h;exact .of_eq (congrArg vi (cmpV3_eq a b fun j hj=>i2 j (by omega)).symm)
theorem c113 (a b:Rl):PC 237 [.agg (encRl a),.agg (encRl b)] (vi (cmpR a b)):=by
 have hc:=c170 a.ver b.ver;refine Ps pl0 Tryz.func237 rfl (Nz rfl) ?_;refine Yi (fun h=>?_) (fun h=>?_)
 ·have h:Op.bytesLess a.path.toList b.path.toList=true:=h;exact .of_eq (congrArg vi (show (-1:Int)=cmpR a b by unfold cmpR cmpB; rw [if_pos (show blt a.path b.path=true by rw [blt_eq]; exact h)]; rfl))
 have h:¬ Op.bytesLess a.path.toList b.path.toList=true:=h;refine Yi (fun h2=>?_) (fun h2=>?_)
 ·have h2:Op.bytesLess b.path.toList a.path.toList=true:=h2;exact .of_eq (congrArg vi (show (1:Int)=cmpR a b by unfold cmpR cmpB; rw [if_neg (show ¬ blt a.path b.path=true by rw [blt_eq]; exact h),if_pos (show blt b.path a.path=true by rw [blt_eq]; exact h2)]; rfl))
 have h2:¬ Op.bytesLess b.path.toList a.path.toList=true:=h2;refine Yi (Nz rfl) (Yi (Nz rfl) ?_);refine Xi .pure (Xi _ (Yi (hc) ?_));exact .of_eq (congrArg vi (show cmpV a.ver b.ver=cmpR a b by unfold cmpR cmpB; rw [if_neg (show ¬ blt a.path b.path=true by rw [blt_eq]; exact h),if_neg (show ¬ blt b.path a.path=true by rw [blt_eq]; exact h2)]; rfl))
end Go.Eng

namespace Go.Eng
open Go.Proofs
theorem c112 (r:Rl) (hr:FewR r):PC 236 [.agg (encRl r)] (vi (checkRl r)):=by
 have h1:=h114 r.path hr.1;have h2:=c168 r.ver;have h3:=c68 h114 h115 r.reqs hr.2;have h4:=c169 r.arch;have h5:=c169 r.ifc;have h6:=c169 r.cert;obtain ⟨N,hN⟩ : ∃ N,N=checkRl r:=⟨_,rfl⟩;rw [← hN];refine Ps pl0 Tryz.func236 rfl (Nz rfl) ?_;refine Xi .pure (Xi _ (Yi (h1) ?_));refine Yi (fun h=>?_) (fun h=>?_)
 ·have h:majI r.path<0:=h;exact .of_eq (congrArg vi (show (4:Int)=N by
   have e:=(majI_neg r.path).1 h;rw [hN]; unfold checkRl;cases hp:pathMajor r.path with
   | none=>rfl
   | some m=>rw [hp] at e; cases e))
 have h:¬ majI r.path<0:=h;refine Exists.elim (show ∃ m,pathMajor r.path=some m by
  cases hp:pathMajor r.path with
  | none=>exact absurd ((majI_neg r.path).2 (by rw [hp]; rfl)) h
  | some m=>exact ⟨m,rfl⟩) (fun m hp=>?_)
 have em:majI r.path=m:=by unfold majI; rw [hp]
 have hN:N=if !validB r.ver||!decide (r.ver.a=m) then 2 else if checkRqs r.reqs≠0 then checkRqs r.reqs else if dgOk r.arch&&dgOk r.ifc&&dgOk r.cert then 0 else 1:=by
  rw [hN]; unfold checkRl; rw [hp]
 refine Yi (Nz rfl) ?_;refine Or.elim (Bt (validB r.ver)).symm (fun e=>?_) (fun e=>?_)
 ·rw [e] at h2;refine Xi .pure (Xi _ (Yi (h2) ?_));exact .of_eq (congrArg vi (show (2:Int)=N by rw [hN,e]; rfl))
 rw [e] at h2;refine Xi .pure (Xi _ (Yi (h2) ?_));refine Yi (fun h7=>?_) (fun h7=>?_)
 ·have h7:r.ver.a≠majI r.path:=h7;exact .of_eq (congrArg vi (show (2:Int)=N by rw [hN,e,decide_eq_false (by rw [← em]; exact h7)]; rfl))
 have h7:¬ r.ver.a≠majI r.path:=h7;have hN:N=if checkRqs r.reqs≠0 then checkRqs r.reqs else if dgOk r.arch&&dgOk r.ifc&&dgOk r.cert then 0 else 1:=by
  rw [hN,e,decide_eq_true (by rw [← em]; exact Classical.not_not.1 h7)]; rfl
 refine Xi .pure (Xi _ (Yi (h3) ?_));refine Yi (fun h8=>?_) (fun h8=>?_)
 ·have h8:checkRqs r.reqs≠0:=h8;exact .of_eq (congrArg vi (show checkRqs r.reqs=N by rw [hN,if_pos h8]))
 have h8:¬ checkRqs r.reqs≠0:=h8;have hN:N=if dgOk r.arch&&dgOk r.ifc&&dgOk r.cert then 0 else 1:=by rw [hN,if_neg h8]
 refine Or.elim (Bt (dgOk r.arch)).symm (fun e1=>?_) (fun e1=>?_)
 ·rw [e1] at h4;refine Xi .pure (Xi _ (Yi (h4) ?_));exact .of_eq (congrArg vi (show (1:Int)=N by rw [hN,e1]; rfl))
 rw [e1] at h4;refine Xi .pure (Xi _ (Yi (h4) ?_));refine Or.elim (Bt (dgOk r.ifc)).symm (fun e2=>?_) (fun e2=>?_)
 ·rw [e2] at h5;refine Xi .pure (Xi _ (Yi (h5) ?_));exact .of_eq (congrArg vi (show (1:Int)=N by rw [hN,e1,e2]; rfl))
 rw [e2] at h5;refine Xi .pure (Xi _ (Yi (h5) ?_));refine Or.elim (Bt (dgOk r.cert)).symm (fun e3=>?_) (fun e3=>?_)
 ·rw [e3] at h6;refine Xi .pure (Xi _ (Yi (h6) ?_));exact .of_eq (congrArg vi (show (1:Int)=N by rw [hN,e1,e2,e3]; rfl))
 rw [e3] at h6;refine Xi .pure (Xi _ (Yi (h6) ?_));exact .of_eq (congrArg vi (show (0:Int)=N by rw [hN,e1,e2,e3]; rfl))
end Go.Eng

namespace Go.Eng
open Go.Proofs
theorem cmpR_key {a b:Rl} (h:keyR a=keyR b):cmpR a b=0:=by
 obtain ⟨h1,h2,h3,h4⟩:=key_parts h;unfold cmpR cmpB cmpV cmpI;rw [h1,h2,h3,h4,blt_irrefl];simp
theorem c67 (x:List Rl) (ifs:List (List AV)) (hs:∀ r ∈ x,FewR r):PC 170 [ixV x ifs] (vi (checkIx x)):=by
 refine Ps (plcut [4,6,8,10,12]) Tryz.func170 rfl (Nz rfl) ?_;refine Exists.elim (show ∃ N,N=checkIx x from ⟨_,rfl⟩) (fun N hN=>?_);refine Yi (fun h=>?_) (fun h=>?_)
 ·have h:(256:Int)<(x.map encRl).length:=h;exact .of_eq (congrArg vi (show (7:Int)=checkIx x by unfold checkIx; rw [if_pos (by rw [Lm] at h; omega)]))
 have h:¬ (256:Int)<(x.map encRl).length:=h;have hl:x.length≤256:=by rw [Lm] at h; omega
 have hck:checkIx x=checkIxGo none x:=by unfold checkIx; rw [if_neg (by omega)]
 refine Xi ⟨[(3,sl encRl x)],[],hfree⟩ (Yi ⟨Z1,Tv,Fh,Tv⟩ ?_)
 refine Xi {i:Nat // i≤x.length∧checkIxGo none x=checkIxGo (befR x i) (x.drop i)} (Xi (fun i=>⟨[(3,sl encRl x),(4,vi i.1)],[],hfree⟩) (Xi (fun i=>x.length - i.1) (Yi (Xi ⟨0,Nat.zero_le _,rfl⟩ ?_) ?_)))
 ·exact ⟨Z2,Tv,Fh,Tv⟩
 intro ⟨i,h1,h2⟩;refine Yi (fun h=>?_) (fun h=>?_)
 ·skip
  have h:(i:Int)<(x.map encRl).length:=h;have h:i<x.length:=by simpa using h
  have hg:x[i]?=some x[i]:=Ge h;have hd:x.drop i=x[i] :: x.drop (i+1):=List.drop_eq_getElem_cons h;have hc:=c112 x[i] (hs x[i] (List.getElem_mem h));have hgo:checkIxGo none x=if checkRl x[i]≠0 then checkRl x[i] else match befR x i with
   | none=>checkIxGo (some x[i]) (x.drop (i+1))
   | some b=>if keyR b=keyR x[i] then 5 else if 0<cmpR b x[i] then 1 else checkIxGo (some x[i]) (x.drop (i+1)):=by rw [h2,hd]; rfl
  have hnext:befR x (i+1)=some x[i]:=Ge h;refine Xi (encRl x[i]) (Yi (Yi (Nn i) (by simp [hg])) (Yi rfl ?_));refine Yi (Nz rfl) ?_;refine Xi .pure (Xi _ (Yi (hc) ?_));refine Xi ⟨[(3,sl encRl x),(4,vi i),(5,vi (checkRl x[i]))],[],hfree⟩ (Yi ⟨Z3,Tv,Fh,Tv⟩ ?_)
  refine Yi (fun h3=>?_) (fun h3=>?_)
  ·have h3:checkRl x[i]≠0:=h3;exact .of_eq (congrArg vi (show checkRl x[i]=checkIx x by rw [hck,hgo,if_pos h3]))
  have h3:¬ checkRl x[i]≠0:=h3;rw [if_neg h3] at hgo;refine Xi ⟨[(3,sl encRl x),(4,vi i)],[],hfree⟩ (Yi ⟨Z2,Tv,Fh,Tv⟩ ?_)
  refine Yi (fun h4=>?_) (fun h4=>?_)
  ·have h4:(0:Int)<i:=h4;have hk:i - 1<x.length:=by omega
   have hg1:x[i - 1]?=some x[i - 1]:=Ge hk;have hn:((i:Int) - 1).toNat=i - 1:=by omega
   have hb:befR x i=some x[i - 1]:=by
    cases i with
    | zero=>omega
    | succ k=>exact hg1
   rw [hb] at hgo;have hgo:checkIxGo none x=if keyR x[i - 1]=keyR x[i] then 5 else if 0<cmpR x[i - 1] x[i] then 1 else checkIxGo (some x[i]) (x.drop (i+1)):=hgo
   have hcm:=c113 x[i - 1] x[i];have hat:(0:Int)≤(i:Int) - 1∧(x.map encRl)[((i:Int) - 1).toNat]?=some (encRl x[i - 1]):=⟨by omega,by rw [hn]; exact map_at hg1⟩;refine Yi (show InI64 ((i:Int) - 1) by unfold InI64; omega) ?_;refine Xi (encRl x[i - 1]) (Yi hat (Yi rfl ?_));refine Yi (Nz rfl) ?_;refine Xi (encRl x[i]) (Yi (Yi (Nn i) (by simp [hg])) (Yi rfl ?_));refine Yi (Nz rfl) ?_;refine Xi _ (Yi (hcm) ?_);refine Yi (fun h5=>?_) (fun h5=>?_)
   ·have h5:cmpR x[i - 1] x[i]=0:=h5;refine Yi (by kernel_rfl) ?_;exact .of_eq (congrArg vi (show (5:Int)=checkIx x by rw [hck,hgo,if_pos (cmpR_zero h5)]))
   have h5:¬ cmpR x[i - 1] x[i]=0:=h5;refine Yi (by kernel_rfl) ?_;refine Xi ⟨[(3,sl encRl x),(4,vi i)],[],hfree⟩ (Yi ⟨Z2,Tv,Fh,Tv⟩ ?_)
   refine Yi (fun _=>?_) (fun h9=>absurd h4 h9);refine Yi (show InI64 ((i:Int) - 1) by unfold InI64; omega) ?_;refine Xi (encRl x[i - 1]) (Yi hat (Yi rfl ?_));refine Yi (Nz rfl) ?_;refine Xi (encRl x[i]) (Yi (Yi (Nn i) (by simp [hg])) (Yi rfl ?_));refine Yi (Nz rfl) ?_;refine Xi _ (Yi (hcm) ?_);refine Yi (fun h6=>?_) (fun h6=>?_)
   ·have h6:0<cmpR x[i - 1] x[i]:=h6;refine Yi (by kernel_rfl) ?_;exact .of_eq (congrArg vi (show (1:Int)=checkIx x by rw [hck,hgo,if_neg (fun e=>h5 (cmpR_key e)),if_pos h6]))
   have h6:¬ 0<cmpR x[i - 1] x[i]:=h6;refine Yi (by kernel_rfl) ?_;refine Xi ⟨[(3,sl encRl x),(4,vi i)],[],hfree⟩ (Yi ⟨Z2,Tv,Fh,Tv⟩ ?_)
   refine Yi (Ii i (by omega)) ?_;refine Xi ⟨i+1,by omega,by rw [hgo,if_neg (fun e=>h5 (cmpR_key e)),if_neg h6,hnext]⟩ ?_;exact ⟨Dl x.length i (by omega),Z2,Tv,Fh,Tv⟩
  have h4:¬ (0:Int)<i:=h4;have hb:befR x i=none:=by
   rw [show i=0 by omega]
  rw [hb] at hgo;have hgo:checkIxGo none x=checkIxGo (some x[i]) (x.drop (i+1)):=hgo;refine Yi (by kernel_rfl) ?_;refine Xi ⟨[(3,sl encRl x),(4,vi i)],[],hfree⟩ (Yi ⟨Z2,Tv,Fh,Tv⟩ ?_)
  refine Yi (fun h9=>absurd h9 h4) (fun _=>?_);refine Yi (by kernel_rfl) ?_;refine Xi ⟨[(3,sl encRl x),(4,vi i)],[],hfree⟩ (Yi ⟨Z2,Tv,Fh,Tv⟩ ?_)
  refine Yi (Ii i (by omega)) ?_;refine Xi ⟨i+1,by omega,by rw [hgo,hnext]⟩ ?_;exact ⟨Dl x.length i (by omega),Z2,Tv,Fh,Tv⟩
 ·skip
  have h:¬ (i:Int)<(x.map encRl).length:=h;have h:¬ i<x.length:=by simpa using h
  have e:(0:Int)=checkIx x:=by rw [hck,h2,List.drop_eq_nil_of_le (by omega)]; rfl
  exact .of_eq (congrArg vi e)
end Go.Eng

namespace Go.Eng
open Go.Proofs
theorem c37 (x:List Rl) (ifs:List (List AV)) (roots:List Rq) (hs:∀ r ∈ x,FewR r) (hq:∀ q ∈ roots,FewQ q):PC 113 [ixV x ifs,sl encRq roots] (vb (decide (checkIx x=0)&&decide (checkRqs roots=0))):=by
 have h1:=c67 x ifs hs;have h2:=c68 h114 h115 roots hq;refine Ps pl0 Tryz.func113 rfl (Nz rfl) ?_;refine Yi (Nz rfl) ?_;refine Xi .pure (Xi _ (Yi (h1) ?_));refine Yi (fun h=>?_) (fun h=>?_)
 ·have h:checkIx x=0:=h;refine Xi .pure (Xi _ (Yi (h2) ?_));refine Yi (fun h3=>?_) (fun h3=>?_)
  ·have h3:checkRqs roots=0:=h3;exact .of_eq (congrArg vb (show true=_ by rw [decide_eq_true h,decide_eq_true h3]; rfl))
  ·have h3:¬ checkRqs roots=0:=h3;exact .of_eq (congrArg vb (show false=_ by rw [decide_eq_false h3,Bool.and_false]))
 ·have h:¬ checkIx x=0:=h;exact .of_eq (congrArg vb (show false=_ by rw [decide_eq_false h]; rfl))
theorem c173 (t:Tm):PC 109 [.agg (encTm t)] (vb (!t.absent&&decide (t.set=[]))):=by
 refine Ps pl0 Tryz.func109 rfl (Nz rfl) ?_;refine Yi (fun h=>?_) (fun h=>?_)
 ·have h:t.absent=true:=h;exact .of_eq (congrArg vb (show false=_ by rw [h]; rfl))
 have h:t.absent=false:=h;refine Yi (fun h2=>?_) (fun h2=>?_)
 ·have h2:((t.set.map encSpan).length:Int)=0:=h2;have h2:t.set=[]:=List.eq_nil_of_length_eq_zero (by rw [Lm] at h2; omega);exact .of_eq (congrArg vb (show true=_ by rw [h,decide_eq_true h2]; rfl))
 ·have h2:¬ ((t.set.map encSpan).length:Int)=0:=h2;have h2:¬ t.set=[]:=fun e=>h2 (by rw [e]; rfl);exact .of_eq (congrArg vb (show false=_ by rw [decide_eq_false h2,Bool.and_false]))
theorem c174 (t:Tm) (ht:Few t.set):PC 110 [.agg (encTm t)] (vb (t.absent&&decide (t.set=[(0,1000000)]))):=by
 have hc:=c75 t.set [(0,1000000)] ht;refine Ps pl0 Tryz.func110 rfl (Nz rfl) ?_;refine Yi (fun h=>?_) (fun h=>?_)
 ·have h:t.absent=true:=h;refine Xi _ (Yi (c200) ?_);refine Xi _ (Yi (hc) ?_);refine Yi (by kernel_rfl) ?_;exact .of_eq (congrArg vb (show decide (t.set=[(0,1000000)])=_ by rw [h]; rfl))
 ·have h:t.absent=false:=h;refine Yi (by kernel_rfl) ?_;exact .of_eq (congrArg vb (show false=_ by rw [h]; rfl))
end Go.Eng

namespace Go.Eng
open Go.Proofs
theorem c117 (q:Rq) (hq:Few q.set):PC 240 [.agg (encRq q)] (.agg (encTm ⟨q.path,true,compl q.set⟩)):=by
 have hc:=c120 q.set hq;refine Ps pl0 Tryz.func240 rfl (Nz rfl) ?_;refine Xi _ (Yi (hc) ?_);refine Yi (Nz rfl) ?_;refine Yi (by kernel_rfl) ?_;refine Yi (Nz rfl) ?_;exact .refl _
theorem c122 (l:List Tm) (hl:Few l) (p:ByteArray):PC 243 [sl encTm l,vs p] (match l.find? (fun t=>decide (t.path=p)) with | some t=>.tup [.agg (encTm t),vb true] | none=>.tup [.agg [vs ⟨#[]⟩,vb false,.v (.slice none 0 0)],vb false]):=by
 have hl:l.length≤1073741824:=hl;obtain ⟨R,hR⟩ : ∃ R,R=(match l.find? (fun t=>decide (t.path=p)) with | some t=>AV.tup [.agg (encTm t),vb true] | none=>.tup [.agg [vs ⟨#[]⟩,vb false,.v (.slice none 0 0)],vb false]):=⟨_,rfl⟩;rw [← hR];refine Ps pl0 Tryz.func243 rfl (Nz rfl) ?_;refine Xi {i:Nat // i≤l.length∧∀ j (hj:j<l.length),j<i→l[j].path≠p} (Xi (fun i=>⟨[(0,sl encTm l),(1,vs p),(4,.ref 4 0),(6,vi i.1)],[(4,.cells [vs ⟨#[]⟩,vb false,.v (.slice none 0 0)])],hfree⟩) (Xi (fun i=>l.length - i.1) (Yi (Xi ⟨0,Nat.zero_le _,fun j _ h=>by omega⟩ ?_) ?_)))
 ·exact ⟨Z4,Z1,Fh,Tv⟩
 intro ⟨i,h1,h2⟩;refine Yi (fun h=>?_) (fun h=>?_)
 ·skip
  have h:(i:Int)<(l.map encTm).length:=h;have h:i<l.length:=by simpa using h
  have hg:l[i]?=some l[i]:=Ge h;refine Xi (encTm l[i]) (Yi (Yi (Nn i) (by simp [hg])) (Yi rfl ?_));refine Yi (fun h3=>?_) (fun h3=>?_)
  ·have h3:l[i].path=p:=h3;refine Xi (encTm l[i]) (Yi (Yi (Nn i) (by simp [hg])) (Yi rfl ?_));refine Yi (Nz rfl) (Yi (Nz rfl) ?_);have ef:l.find? (fun t=>decide (t.path=p))=some l[i]:=by
    rw [List.find?_eq_some_iff_getElem];exact ⟨by simpa using h3,i,h,rfl,fun j hj=>by simpa using h2 j (by omega) hj⟩
   refine Yi (Nz rfl) ?_;exact .of_eq (show AV.tup [.agg (encTm l[i]),vb true]=R by rw [hR,ef])
  have h3:¬ l[i].path=p:=h3;refine Yi (Ii i (by omega)) ?_;refine Xi ⟨i+1,by omega,fun j hj hji=>?_⟩ ?_
  ·rcases Nat.lt_or_ge j i with z | z
   ·exact h2 j hj z
   ·have:j=i:=by omega
    subst this; exact h3
  exact ⟨Dl l.length i (by omega),Z4,Z1,Fh,Tv⟩
 ·skip
  have h:¬ (i:Int)<(l.map encTm).length:=h;have h:¬ i<l.length:=by simpa using h
  have ef:l.find? (fun t=>decide (t.path=p))=none:=by
   rw [List.find?_eq_none];intro x hx;obtain ⟨j,hj,rfl⟩:=List.getElem_of_mem hx;simpa using h2 j hj (by omega)
  refine Yi (Nz rfl) ?_;refine Yi (Nz rfl) ?_;exact .of_eq (show AV.tup [.agg [vs ⟨#[]⟩,vb false,.v (.slice none 0 0)],vb false]=R by rw [hR,ef])
end Go.Eng

namespace Go.Eng
open Go.Proofs
abbrev tokT (d:Nat) (A:List Tm):AV:=.slice (.id d 3) (A.map encTm)
theorem c124 (l:List Tm) (hl:Few l) (p:ByteArray):PC 244 [sl encTm l,vs p] (sl encTm (l.filter fun t=>!decide (t.path=p))):=by
 have hl:l.length≤1073741824:=hl;refine Ps (plcut [4]) Tryz.func244 rfl (Nz rfl) ?_;refine Xi {q:Nat × List Tm // q.1≤l.length∧q.2=(l.take q.1).filter fun t=>!decide (t.path=p)} (Xi (fun q=>⟨[(0,sl encTm l),(1,vs p),(5,tokT 7 q.1.2),(6,vi q.1.1)],[(7,.tok 3 q.1.2.length)],hfree⟩) (Xi (fun q=>l.length - q.1.1) (Yi (Xi ⟨(0,[]),Nat.zero_le _,rfl⟩ ?_) ?_)))
 ·exact ⟨Z4,Z1,Fh,Tv⟩
 intro ⟨⟨i,A⟩,i1,i2⟩;have i1:i≤l.length:=i1;have i2:A=(l.take i).filter fun t=>!decide (t.path=p):=i2;have hA:A.length≤i:=by
  have:=List.length_filter_le (fun t:Tm=>!decide (t.path=p)) (l.take i)
  rw [List.length_take] at this; rw [i2]; omega
 refine Yi (fun h=>?_) (fun h=>?_)
 ·skip
  have h:(i:Int)<(l.map encTm).length:=h;have h:i<l.length:=by simpa using h
  have hg:l[i]?=some l[i]:=Ge h;refine Xi (encTm l[i]) (Yi (Yi (Nn i) (by simp [hg])) (Yi rfl ?_));have etk:(l.take (i+1)).filter (fun t=>!decide (t.path=p))=A++[l[i]].filter (fun t=>!decide (t.path=p)):=by rw [List.take_add_one,Ge h,List.filter_append,i2]; rfl
  refine Yi (fun h3=>?_) (fun h3=>?_)
  ·have h3:l[i].path≠p:=h3;refine Xi (encTm l[i]) (Yi (Yi (Nn i) (by simp [hg])) (Yi rfl ?_));refine Yi (Nz rfl) ?_;have bulk:AllLen 3 [encTm l[i]]∧(A.map encTm).length=A.length∧((A.map encTm).length+[encTm l[i]].length)*48≤140737488355328∧(A.map encTm).length+[encTm l[i]].length≤9223372036854775807 :=
    ⟨⟨rfl,trivial⟩,by rw [Lm],by rw [Lm,List.length_singleton]; omega,by rw [Lm,List.length_singleton]; omega⟩
   refine Yi bulk ?_;refine Exists.elim (show ∃ B,B=A++[l[i]] from ⟨_,rfl⟩) (fun B hB=>?_);have e1:AV.slice (.id 7 3) (A.map encTm++[encTm l[i]])=tokT 7 B:=by rw [hB]; simp
   have e2:HO.tok 3 ((A.map encTm).length+[encTm l[i]].length)=.tok 3 B.length:=by rw [hB]; simp
   refine Xi ⟨[(0,sl encTm l),(1,vs p),(5,tokT 7 B),(6,vi i)],[(7,.tok 3 B.length)],hfree⟩ (Yi ⟨⟨Zr,Zr,⟨e1,rfl⟩,Zr,Tv⟩,⟨⟨e2,rfl⟩,Tv⟩,Fh,Tv⟩ ?_)
   refine Yi (Ii i (by omega)) ?_;refine Xi ⟨(i+1,B),by omega,by show B=(l.take (i+1)).filter _; rw [etk,hB,List.filter_cons,if_pos (by rw [decide_eq_false h3]; rfl)]; rfl⟩ ?_;exact ⟨Dl l.length i (by omega),Z4,Z1,Fh,Tv⟩
  have h3:¬ l[i].path≠p:=h3;refine Xi ⟨[(0,sl encTm l),(1,vs p),(5,tokT 7 A),(6,vi i)],[(7,.tok 3 A.length)],hfree⟩ (Yi ⟨Z4,Z1,Fh,Tv⟩ ?_)
  refine Yi (Ii i (by omega)) ?_;refine Xi ⟨(i+1,A),by omega,by show A=(l.take (i+1)).filter _; rw [etk,List.filter_cons,if_neg (by rw [decide_eq_true (Classical.not_not.1 h3)]; decide)]; simp⟩ ?_;exact ⟨Dl l.length i (by omega),Z4,Z1,Fh,Tv⟩
 ·skip
  have h:¬ (i:Int)<(l.map encTm).length:=h;have h:¬ i<l.length:=by simpa using h
  exact .of_eq (congrArg (sl encTm) (show A=_ by rw [i2,List.take_of_length_le (by omega)]))
end Go.Eng

namespace Go.Eng
open Go.Proofs
abbrev H121:Prop:=∀ l:List Tm,Few l→(∀ t ∈ l,Few t.set)→PC 50 [sl encTm l] (canRes l)
theorem c116 (h121:H121) (l:List Tm) (hl:Few l) (hs:∀ t ∈ l,Few t.set):PC 239 [sl encTm l] (sl encTm (ofT l)):=by
 have hc:=h121 l hl hs;refine Ps pl0 Tryz.func239 rfl (Nz rfl) ?_;refine Xi .pure (Xi _ (Yi (hc) ?_));exact .refl _
theorem compl_fw (s:SpanL):Few (compl s):=by have:=compl_few s; unfold Few; omega
theorem c69 (h121:H121) (q:Rq) (hq:Few q.set):PC 172 [.agg (encRq q)] (sl encTm (ofT [⟨q.path,true,compl q.set⟩])):=by
 have h1:=c117 q hq;have h2:=c116 h121 [⟨q.path,true,compl q.set⟩] (by unfold Few; simp) (fun t ht=>by rw [List.mem_singleton.1 ht]; exact compl_fw _);refine Ps pl0 Tryz.func172 rfl (Nz rfl) ?_;refine Yi (Nz rfl) ?_;refine Xi .pure (Xi _ (Yi (h1) ?_));refine Xi .pure (Xi _ (Yi (h2) ?_));exact .refl _
theorem c72 (h121:H121) (p:ByteArray) (s:SpanL) (hs:Few s):PC 175 [vs p,sl encSpan s] (sl encTm (ofT [⟨p,false,compl s⟩])):=by
 have h1:=c120 s hs;have h2:=c116 h121 [⟨p,false,compl s⟩] (by unfold Few; simp) (fun t ht=>by rw [List.mem_singleton.1 ht]; exact compl_fw _);refine Ps pl0 Tryz.func175 rfl (Nz rfl) ?_;refine Xi .pure (Xi _ (Yi (h1) ?_));refine Xi .pure (Xi _ (Yi (h2) ?_));exact .refl _
end Go.Eng

namespace Go.Eng
open Go.Proofs
theorem canon_fw (s:SpanL):Few (canon s):=by have:=canon_len (canon_canon s); unfold Few; omega
abbrev atPl (n:Int):SpanL:=if n<0∨1000000≤n then [] else minus (canon [(n,1000000)]) (canon [(n+1,1000000)])
abbrev pl71:Pol:=⟨[],[(7,2)],[],[],[],[],[],[],[],[],[]⟩
theorem c71 (h121:H121) (p:ByteArray) (n:Int) (hn : -4611686018427387904≤n∧n≤4611686018427387904) (q:Rq) (hq:Few q.set):PC 174 [vs p,vi n,.agg (encRq q)] (sl encTm (ofT [⟨p,false,atPl n⟩,⟨q.path,true,compl q.set⟩])):=by
 have h1:=c119 n;have h2:=c119 (n+1);have h3:=c118 (canon [(n,1000000)]) (canon [(n+1,1000000)]) (canon_fw _) (canon_fw _);have h4:=c117 q hq;have hmi:Few (minus (canon [(n,1000000)]) (canon [(n+1,1000000)])):=by
  have:=canon_len (inter_canon (canon [(n,1000000)]) (compl (canon [(n+1,1000000)])))
  show (inter _ _).length≤_; omega
 have hat:Few (atPl n):=by
  unfold atPl;split
  ·unfold Few; simp
  ·exact hmi
 have h5:=c116 h121 [⟨p,false,atPl n⟩,⟨q.path,true,compl q.set⟩] (by unfold Few; simp) (fun t ht=>by
  rcases List.mem_cons.1 ht with rfl | ht
  ·exact hat
  ·rw [List.mem_singleton.1 ht]; exact compl_fw _)
 obtain ⟨N,hN⟩ : ∃ N,N=ofT [⟨p,false,atPl n⟩,⟨q.path,true,compl q.set⟩]:=⟨_,rfl⟩;rw [← hN] at h5 ⊢;refine Ps pl71 Tryz.func174 rfl (Nz rfl) ?_;refine Xi .pure (Xi _ (Yi (h1) ?_));refine Yi (show InI64 (n+1) by unfold InI64; omega) ?_;refine Xi .pure (Xi _ (Yi (h2) ?_));refine Xi .pure (Xi _ (Yi (h3) ?_));refine Yi (fun ha=>?_) (fun ha=>?_)
 ·have ha:n<0:=ha;have e:atPl n=[]:=if_pos (.inl ha);rw [e] at h5;refine Yi (Nz rfl) ?_;refine Xi .pure (Xi _ (Yi (h4) ?_));refine Xi .pure (Xi _ (Yi (h5) ?_));exact .refl _
 have ha:¬ n<0:=ha;refine Yi (fun hb=>?_) (fun hb=>?_)
 ·have hb:1000000≤n:=hb;have e:atPl n=[]:=if_pos (.inr hb);rw [e] at h5;refine Yi (Nz rfl) ?_;refine Xi .pure (Xi _ (Yi (h4) ?_));refine Xi .pure (Xi _ (Yi (h5) ?_));exact .refl _
 have hb:¬ 1000000≤n:=hb;have e:atPl n=minus (canon [(n,1000000)]) (canon [(n+1,1000000)]):=if_neg (fun h=>h.elim ha hb);rw [e] at h5;refine Yi (Nz rfl) ?_;refine Xi .pure (Xi _ (Yi (h4) ?_));refine Xi .pure (Xi _ (Yi (h5) ?_));exact .refl _
end Go.Eng

namespace Go.Eng
open Go.Proofs
def goodR (p:ByteArray) (r:Rl):Bool:=decide (r.path=p)&&!r.yanked
def spanR (r:Rl):Int × Int:=(plc r.ver,plc r.ver+1)
theorem availP_ok {x:List Rl} {p:ByteArray} (h:checkIx x=0):availP x p=canon ((x.filter (goodR p)).map spanR):=by
 unfold availP ofPath;rw [if_neg (not_not_intro h),List.filter_filter]
 congr 3
 funext r
 unfold goodR;rw [Bool.and_comm]
theorem availP_no {x:List Rl} {p:ByteArray} (h:checkIx x≠0):availP x p=canon []:=by
 unfold availP ofPath;rw [if_pos h]; rfl
end Go.Eng

namespace Go.Eng
open Go.Proofs
theorem c73n (x:List Rl) (ifs:List (List AV)) (p:ByteArray) (hs:∀ r ∈ x,FewR r) (h:checkIx x≠0):PC 176 [ixV x ifs,vs p] (sl encSpan (availP x p)):=by
 have h1:=c67 x ifs hs;have h2:=c115 [] (by unfold Few; simp);rw [availP_no h];refine Ps (plcut [8]) Tryz.func176 rfl (Nz rfl) ?_;refine Xi {i:Nat // i=0} (Xi (fun i=>⟨[(1,vs p),(2,.ref 2 0),(5,tokS 8 []),(6,vi i.1)],[(2,.cells (Ic x ifs)),(8,.tok 2 0)],hfree⟩) (Xi (fun i=>i.1) (Yi (Xi ⟨0,rfl⟩ ?_) ?_)))
 ·exact ⟨Z4,Z2,Fh,Tv⟩
 intro ⟨i,hi⟩;refine Yi (fun h3=>?_) (fun h3=>?_)
 ·refine Yi (Nz rfl) ?_;refine Xi .pure (Xi _ (Yi (h1) ?_));refine Yi (fun h4=>absurd h4 h) (fun _=>?_);refine Xi ⟨[(5,tokS 8 [])],[(8,.tok 2 0)],hfree⟩ (Yi ⟨Z1,Z1,Fh,Tv⟩ ?_)
  refine Xi .pure (Xi _ (Yi (h2) ?_));exact .refl _
 ·refine Xi ⟨[(5,tokS 8 [])],[(8,.tok 2 0)],hfree⟩ (Yi ⟨Z1,Z1,Fh,Tv⟩ ?_)
  refine Xi .pure (Xi _ (Yi (h2) ?_));exact .refl _
end Go.Eng

namespace Go.Eng
open Go.Proofs
theorem c73y (x:List Rl) (ifs:List (List AV)) (p:ByteArray) (hs:∀ r ∈ x,FewR r) (h0:checkIx x=0):PC 176 [ixV x ifs,vs p] (sl encSpan (availP x p)):=by
 have h1:=c67 x ifs hs;rw [h0] at h1;have hx:=(ix_few h0).1;have hv:∀ r ∈ x,validB r.ver=true:=fun r hr=>((checkIx_ok h0).1 r hr).val;have h2:=c115 ((x.filter (goodR p)).map spanR) (by
  have:=List.length_filter_le (goodR p) x
  unfold Few; rw [Lm]; omega)
 rw [availP_ok h0];refine Ps (plcut [4,6,8]) Tryz.func176 rfl (Nz rfl) ?_;refine Xi {q:Nat × SpanL // q.1≤x.length∧q.2=((x.take q.1).filter (goodR p)).map spanR} (Xi (fun q=>⟨[(1,vs p),(2,.ref 2 0),(5,tokS 8 q.1.2),(6,vi q.1.1)],[(2,.cells (Ic x ifs)),(8,.tok 2 q.1.2.length)],hfree⟩) (Xi (fun q=>x.length - q.1.1) (Yi (Xi ⟨(0,[]),Nat.zero_le _,rfl⟩ ?_) ?_)))
 ·exact ⟨Z4,Z2,Fh,Tv⟩
 intro ⟨⟨i,A⟩,i1,i2⟩;have i1:i≤x.length:=i1;have i2:A=((x.take i).filter (goodR p)).map spanR:=i2;have hA:A.length≤i:=by
  have:=List.length_filter_le (goodR p) (x.take i)
  rw [List.length_take] at this; rw [i2,Lm]; omega
 refine Yi (fun h=>?_) (fun h=>?_)
 ·skip
  have h:(i:Int)<(x.map encRl).length:=h;have h:i<x.length:=by simpa using h
  have hg:x[i]?=some x[i]:=Ge h;have etk:((x.take (i+1)).filter (goodR p)).map spanR=A++([x[i]].filter (goodR p)).map spanR:=by rw [List.take_add_one,Ge h,List.filter_append,List.map_append,i2]; rfl
  refine Yi (Nz rfl) ?_;refine Xi .pure (Xi _ (Yi (h1) ?_));refine Yi (fun _=>?_) (fun h9=>absurd rfl h9);refine Xi (encRl x[i]) (Yi (Yi (Nn i) (by simp [hg])) (Yi rfl ?_));refine Yi (Nz rfl) (Yi (Nz rfl) ?_);refine Xi ⟨[(1,vs p),(2,.ref 2 0),(5,tokS 8 A),(6,vi i),(7,.ref 7 0)],[(2,.cells (Ic x ifs)),(7,.cells (encRl x[i])),(8,.tok 2 A.length)],hfree⟩ (Yi ⟨Z5,Z3,Fh,Tv⟩ ?_)
  have hvx:=hv x[i] (List.getElem_mem h);have hpl:plc x[i].ver=place x[i].ver:=if_pos hvx;have hpr:=plc_rng x[i].ver;have h5:=c95 x[i].ver hvx;rw [← hpl] at h5;refine Yi (fun h3=>?_) (fun h3=>?_)
  ·have h3:x[i].path=p:=h3;refine Yi (fun hy=>?_) (fun hy=>?_)
   ·have hy:x[i].yanked=true:=hy;have hgd:goodR p x[i]=false:=by unfold goodR; rw [hy]; simp
    refine Xi ⟨[(1,vs p),(2,.ref 2 0),(5,tokS 8 A),(6,vi i)],[(2,.cells (Ic x ifs)),(8,.tok 2 A.length)],hfree⟩ (Yi ⟨Z4,Z2,Fh,Tv⟩ ?_)
    refine Yi (Ii i (by omega)) ?_;refine Xi ⟨(i+1,A),by omega,by show A=((x.take (i+1)).filter (goodR p)).map spanR; rw [etk,List.filter_cons,if_neg (by rw [hgd]; decide)]; simp⟩ ?_;exact ⟨Dl x.length i (by omega),Z4,Z2,Fh,Tv⟩
   have hy:x[i].yanked=false:=hy;have hgd:goodR p x[i]=true:=by unfold goodR; rw [hy,decide_eq_true h3]; rfl
   refine Yi (Nz rfl) ?_;refine Xi _ (Yi (h5) ?_);refine Yi (Nz rfl) ?_;refine Xi _ (Yi (h5) ?_);refine Yi (show InI64 (plc x[i].ver+1) by unfold InI64; omega) ?_;have bulk:AllLen 2 [encSpan (spanR x[i])]∧(A.map encSpan).length=A.length∧((A.map encSpan).length+[encSpan (spanR x[i])].length)*16≤140737488355328∧(A.map encSpan).length+[encSpan (spanR x[i])].length≤9223372036854775807 :=
    ⟨⟨rfl,trivial⟩,by rw [Lm],by rw [Lm,List.length_singleton]; omega,by rw [Lm,List.length_singleton]; omega⟩
   refine Yi bulk ?_;refine Yi (by kernel_rfl) ?_;refine Exists.elim (show ∃ B,B=A++[spanR x[i]] from ⟨_,rfl⟩) (fun B hB=>?_);have e1:AV.slice (.id 8 2) (A.map encSpan++[encSpan (spanR x[i])])=tokS 8 B:=by rw [hB]; simp
   have e2:HO.tok 2 ((A.map encSpan).length+[encSpan (spanR x[i])].length)=.tok 2 B.length:=by rw [hB]; simp
   refine Xi ⟨[(1,vs p),(2,.ref 2 0),(5,tokS 8 B),(6,vi i)],[(2,.cells (Ic x ifs)),(8,.tok 2 B.length)],hfree⟩ (Yi ⟨⟨Zr,Zr,⟨e1,rfl⟩,Zr,Tv⟩,⟨Zr,⟨e2,rfl⟩,Tv⟩,Fh,Tv⟩ ?_)
   refine Yi (Ii i (by omega)) ?_;refine Xi ⟨(i+1,B),by omega,by show B=((x.take (i+1)).filter (goodR p)).map spanR; rw [etk,hB,List.filter_cons,if_pos hgd]; rfl⟩ ?_;exact ⟨Dl x.length i (by omega),Z4,Z2,Fh,Tv⟩
  have h3:¬ x[i].path=p:=h3;have hgd:goodR p x[i]=false:=by unfold goodR; rw [decide_eq_false h3]; rfl
  refine Xi ⟨[(1,vs p),(2,.ref 2 0),(5,tokS 8 A),(6,vi i)],[(2,.cells (Ic x ifs)),(8,.tok 2 A.length)],hfree⟩ (Yi ⟨Z4,Z2,Fh,Tv⟩ ?_)
  refine Yi (Ii i (by omega)) ?_;refine Xi ⟨(i+1,A),by omega,by show A=((x.take (i+1)).filter (goodR p)).map spanR; rw [etk,List.filter_cons,if_neg (by rw [hgd]; decide)]; simp⟩ ?_;exact ⟨Dl x.length i (by omega),Z4,Z2,Fh,Tv⟩
 ·skip
  have h:¬ (i:Int)<(x.map encRl).length:=h;have h:¬ i<x.length:=by simpa using h
  have eA:A=(x.filter (goodR p)).map spanR:=by rw [i2,List.take_of_length_le (by omega)]
  rw [← eA] at h2;rw [← eA];refine Xi ⟨[(5,tokS 8 A)],[(8,.tok 2 A.length)],hfree⟩ (Yi ⟨Z1,Z1,Fh,Tv⟩ ?_)
  refine Xi .pure (Xi _ (Yi (h2) ?_));exact .refl _
theorem c73 (x:List Rl) (ifs:List (List AV)) (p:ByteArray) (hs:∀ r ∈ x,FewR r):PC 176 [ixV x ifs,vs p] (sl encSpan (availP x p)):=by
 by_cases h:checkIx x=0
 ·exact c73y x ifs p hs h
 ·exact c73n x ifs p hs h
end Go.Eng
