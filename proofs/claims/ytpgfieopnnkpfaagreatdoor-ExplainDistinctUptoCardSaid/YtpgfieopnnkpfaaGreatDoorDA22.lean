/- Lemmas for the claims of this seat, without a condition: part 22 (E7, E8, J2, E9, E10, E11, LayGrow). -/
import Derived.Test.YtpgfieopnnkpfaaGreatDoorDA21
import Derived.Test.YtpgfieopnnkpfaaGreatDoorDA14
import Derived.Test.YtpgfieopnnkpfaaGreatDoorDA03
import Derived.Shelf.Spec.SlicesGrow
import Derived.Shelf.SlGeneric
import Derived.Ground.Names8Prog
namespace Go.Eng
open Go.Proofs
theorem e17 (l m:List Nat) (hl:Few l):PC 17 [sl encNat l,sl encNat m] (vb (decide (l=m))):=by
 refine Ps pl0 Tryz.func17 rfl (Nz rfl) ?_;refine Yi ?_ ?_
 ·intro h;have h:¬ ((l.map encNat).length:Int)=(m.map encNat).length:=h
  have:l≠m:=fun e=>h (by rw [e])
  rw [decide_eq_false this];exact .refl _
 ·intro h;have h:¬ ((l.map encNat).length:Int)≠(m.map encNat).length:=h;have hlen:l.length=m.length:=by simp at h; omega
  refine Xi {i:Nat // i≤l.length∧l.take i=m.take i} (Xi (fun i=>⟨[(0,sl encNat l),(1,sl encNat m),(12,vi (l.map encNat).length),(13,vi i.1)],[],hfree⟩) (Xi (fun i=>l.length - i.1) (Yi (Xi ⟨0,by simp⟩ ?_) ?_)))
  ·exact ⟨Z4,Tv,Fh,Tv⟩
  ·intro ⟨i,h1,h2⟩;refine Yi ?_ ?_
   ·intro h;have h:(i:Int)<(l.map encNat).length:=h;have h:i<l.length:=by simpa using h
    have h' : i<m.length:=by omega
    have hg:l[i]?=some l[i]:=Ge h;have hg' : m[i]?=some m[i]:=Ge h';refine Xi (encNat l[i]) (Yi (Yi (Nn i) (by simp [hg])) (Yi rfl ?_));refine Xi (encNat m[i]) (Yi (Yi (Nn i) (by simp [hg'])) (Yi rfl ?_));refine Yi ?_ ?_
    ·intro h5;refine Yi (by kernel_rfl) ?_;have h5:(l[i]:Int)≠(m[i]:Int):=h5
     have:l≠m:=fun e=>h5 (by subst e; rfl)
     rw [decide_eq_false this];exact .refl _
    ·intro h5;have h5:¬ (l[i]:Int)≠(m[i]:Int):=h5;have e:l[i]=m[i]:=by have:=Classical.not_not.1 h5; omega
     refine Yi (by kernel_rfl) ?_;refine Yi (by show InI64 ((i:Int)+1); unfold Few at hl; unfold InI64; omega) ?_;refine Xi ⟨i+1,by omega,?_⟩ ?_
     ·rw [List.take_add_one,List.take_add_one,h2,hg,hg',e]
     ·exact ⟨Dl l.length i (by omega),Z4,Tv,Fh,Tv⟩
   ·intro h;have h:¬ (i:Int)<(l.map encNat).length:=h;have h:¬ i<l.length:=by simpa using h
    have e:l=m:=by
     rw [← List.take_of_length_le (l:=l) (i:=i) (by omega),h2,List.take_of_length_le (by omega)]
    rw [decide_eq_true e];exact .refl _

theorem pos_found {L:List Nat} {n:Int} {i:Nat} (h:i<L.length) (hj:∀ j (hj:j<L.length),j<i→¬ (L[j]:Int)=n) (e:(L[i]:Int)=n):posL L n=i:=by
 have:L.findIdx? (fun i:Nat=>decide ((i:Int)=n))=some i:=by
  rw [List.findIdx?_eq_some_iff_getElem];refine ⟨h,by simpa using e,fun j hj'=>by simpa using hj j (by omega) hj'⟩
 unfold posL; rw [this]
theorem pos_none {L:List Nat} {n:Int} (hj:∀ j (hj:j<L.length),¬ (L[j]:Int)=n):posL L n=-1:=by
 have:L.findIdx? (fun i:Nat=>decide ((i:Int)=n))=none:=by
  rw [List.findIdx?_eq_none_iff];intro x hx;obtain ⟨j,h,rfl⟩:=List.getElem_of_mem hx;simpa using hj j h
 unfold posL; rw [this]
theorem usedL_lt {l:List Nf} {target:Int} : ∀ i ∈ usedL l target,i<l.length:=by
 intro i hi;unfold usedL at hi;split at hi
 ·cases hi
 ·split at hi
  ·cases hi
  ·rename_i u hu;unfold marksL at hu;have h1:=markGo_len hu;unfold usedU at hi;have h2:=List.mem_range.1 (List.mem_filter.1 hi).1;simp at h1; omega
theorem usedL_len {l:List Nf} {target:Int} : (usedL l target).length≤l.length:=by
 unfold usedL;split
 ·simp
 ·split
  ·simp
  ·rename_i u hu;unfold marksL at hu;have h1:=markGo_len hu;have h2:(usedU u).length≤u.length:=usK_len u u.length;rw [List.length_set,List.length_replicate] at h1;exact h1▸h2
theorem getD_at {l:List Nf} {i:Nat} (h:i<l.length):l[i]?=some (l.getD i nf0):=by
 rw [List.getD_eq_getElem?_getD,Ge h]; rfl
theorem e54 (L:List Nat) (n:Int) (hl:Few L):PC 54 [sl encNat L,vi (n:Int)] (vi (posL L n)):=by
 have hl:L.length≤1073741824:=hl;refine Ps ⟨[],[],[],[],[],[],[],[],[],[],[]⟩ Tryz.func54 rfl (Nz rfl) ?_;refine Xi {i:Nat // i≤L.length∧∀ j (hj:j<L.length),j<i→¬ (L[j]:Int)=n} (Xi (fun q=>⟨[(0,sl encNat L),(1,vi (n:Int)),(7,vi (L.map encNat).length),(8,vi q.1)],[],hfree⟩) (Xi (fun q=>L.length - q.1) (Yi (Xi ⟨0,Nat.zero_le _,fun j _ h=>by omega⟩ ?_) ?_)))
 ·exact ⟨Z4,Tv,Fh,Tv⟩
 intro ⟨i,i1,i2⟩;have i1:i≤L.length:=i1;have i2:∀ j (hj:j<L.length),j<i→¬ (L[j]:Int)=n:=i2;refine Yi (fun h1=>?_) (fun h1=>?_)
 ·have h1:(i:Int)<((L.map encNat).length:Int):=h1;have n1:i<L.length:=by have q:=h1; rw [Lm] at q; omega
  have g1:L[i]?=some L[i]:=Ge n1;refine Xi (encNat L[i]) (Yi (Yi (Nn i) (map_at g1)) (Yi rfl ?_));refine Yi (fun h2=>?_) (fun h2=>?_)
  ·have h2:((n:Int):Int)=(L[i]:Int):=h2;exact .of_eq (show vi i=vi (posL L n) by rw [pos_found n1 i2 (by have q:=h2; omega)])
  have h2:¬ (((n:Int):Int)=(L[i]:Int)):=h2;refine Yi (Ii i (by omega)) ?_;refine Xi ⟨i+1,by omega,fun j hj hji=>(Nat.lt_or_ge j i).elim (i2 j hj) (fun z=>by have e:j=i:=(by omega); subst e; exact fun hq=>h2 hq.symm)⟩ ?_;exact ⟨Dl L.length i (by omega),Z4,Tv,Fh,Tv⟩
 have h1:¬ ((i:Int)<((L.map encNat).length:Int)):=h1;have n1:¬ i<L.length:=by have q:=h1; rw [Lm] at q; omega
 exact .of_eq (show vi (-1)=vi (posL L n) by rw [pos_none fun j hj=>i2 j hj (by omega)])
theorem e53 (L:List Nat) (n:Int) (hl:Few L):PC 53 [vi (n:Int),.cptr [sl encNat L]] (vi (posL L n)):=by
 refine Ps ⟨[],[],[],[],[],[],[],[],[],[],[]⟩ Tryz.func53 rfl (Nz rfl) ?_;refine Xi .pure (Xi _ (Yi (e54 L n hl) ?_));exact .refl _
set_option maxHeartbeats 4000000 in
theorem e21 (l:List Nf) (target:Int) (hl:Few l) (ht:InI64 target):PC 21 [sl encNf l,vi (target:Int)] (sl encNf (trimL l target)):=by
 have hUl:∀ i ∈ usedL l target,i<l.length:=usedL_lt;have hUn:=usedL_len (l:=l) (target:=target);have h18:=e18 l target hl ht;obtain ⟨U,hU⟩ : ∃ U,U=usedL l target:=⟨_,rfl⟩;rw [← hU] at hUl hUn h18;have hl:l.length≤1073741824:=hl;have hUf:Few U:=by unfold Few; omega
 refine Ps ⟨[5],[(7,6)],[],[],[],[],[],[],[],[],[2,8,10]⟩ Tryz.func21 rfl (Nz rfl) ?_;refine Xi .pure (Xi _ (Yi h18 ?_));refine Yi (Nz rfl) ?_;refine Xi ⟨[(0,sl encNf l),(5,.ref 5 0)],[(5,.ro [sl encNat U])],hfree⟩ (Yi ⟨Z2,Z1,Fh,Tv⟩ ?_)
 refine Xi {i:Nat // i≤U.length} (Xi (fun q=>⟨[(0,sl encNf l),(6,.clo 53 [.cptr [sl encNat U]]),(7,.slice (.id 7 6) (((U.take q.1).map fun k=>trimN U (l.getD k nf0)).map encNf)),(15,sl encNat U),(16,vi (U.map encNat).length),(17,vi q.1)],[(7,.tok 6 q.1)],hfree⟩) (Xi (fun q=>U.length - q.1) (Yi (Xi ⟨0,Nat.zero_le _⟩ ?_) ?_)))
 ·exact ⟨Z6,Z1,Fh,Tv⟩
 intro ⟨i,i1⟩;have i1:i≤U.length:=i1;have hrl:((U.take i).map fun k=>trimN U (l.getD k nf0)).length=i:=by rw [Lm,List.length_take]; omega
 refine Yi (fun h1=>?_) (fun h1=>?_)
 ·have h1:(i:Int)<((U.map encNat).length:Int):=h1;have n1:i<U.length:=by have q:=h1; rw [Lm] at q; omega
  have g1:U[i]?=some U[i]:=Ge n1;have gy:l[U[i]]?=some (l.getD U[i] nf0):=getD_at (hUl _ (List.getElem_mem n1));refine Xi (encNat U[i]) (Yi (Yi (Nn i) (map_at g1)) (Yi rfl ?_));refine Xi (encNf (l.getD U[i] nf0)) (Yi (Yi (show (0:Int)≤(U[i]:Nat) by omega) (map_at gy)) (Yi rfl ?_));refine Yi (Nz rfl) ?_;refine Yi (Nz rfl) ?_;refine Xi ⟨[(0,sl encNf l),(6,.clo 53 [.cptr [sl encNat U]]),(7,.slice (.id 7 6) (((U.take i).map fun k=>trimN U (l.getD k nf0)).map encNf)),(10,.ref 10 0),(15,sl encNat U),(16,vi (U.map encNat).length),(17,vi i)],[(7,.tok 6 i),(10,.cells (encNf (l.getD U[i] nf0)))],hfree⟩ (Yi ⟨Z7,Z2,Fh,Tv⟩ ?_)
  refine Yi (fun h2=>?_) (fun h2=>?_)
  ·have h2:((l.getD U[i] nf0).kind:Int)=(3:Int):=h2;refine Xi _ (Yi (e53 U (l.getD U[i] nf0).left hUf) ?_);refine Xi _ (Yi (e53 U (l.getD U[i] nf0).right hUf) ?_);refine Yi (Nz rfl) ?_;refine Yi (Nz rfl) ?_;refine Yi (by kernel_rfl) ?_;refine Xi ⟨[(0,sl encNf l),(6,.clo 53 [.cptr [sl encNat U]]),(7,.slice (.id 7 6) (((U.take i).map fun k=>trimN U (l.getD k nf0)).map encNf)),(10,.ref 10 0),(15,sl encNat U),(16,vi (U.map encNat).length),(17,vi i)],[(7,.tok 6 i),(10,.cells [vi (l.getD U[i] nf0).kind,vs (l.getD U[i] nf0).path,vi (l.getD U[i] nf0).place,vi (l.getD U[i] nf0).number,vi (posL U (l.getD U[i] nf0).left),vi (posL U (l.getD U[i] nf0).right)])],hfree⟩ (Yi ⟨Z7,Z2,Fh,Tv⟩ ?_)
   refine Yi (Nz rfl) ?_;have b3:AllLen 6 [[vi (l.getD U[i] nf0).kind,vs (l.getD U[i] nf0).path,vi (l.getD U[i] nf0).place,vi (l.getD U[i] nf0).number,vi (posL U (l.getD U[i] nf0).left),vi (posL U (l.getD U[i] nf0).right)]]∧(((U.take i).map fun k=>trimN U (l.getD k nf0)).map encNf).length=i∧((((U.take i).map fun k=>trimN U (l.getD k nf0)).map encNf).length+([[vi (l.getD U[i] nf0).kind,vs (l.getD U[i] nf0).path,vi (l.getD U[i] nf0).place,vi (l.getD U[i] nf0).number,vi (posL U (l.getD U[i] nf0).left),vi (posL U (l.getD U[i] nf0).right)]]:List (List AV)).length)*56≤140737488355328∧(((U.take i).map fun k=>trimN U (l.getD k nf0)).map encNf).length+([[vi (l.getD U[i] nf0).kind,vs (l.getD U[i] nf0).path,vi (l.getD U[i] nf0).place,vi (l.getD U[i] nf0).number,vi (posL U (l.getD U[i] nf0).left),vi (posL U (l.getD U[i] nf0).right)]]:List (List AV)).length≤9223372036854775807:=⟨⟨rfl,trivial⟩,(by simp only [Lm,List.length_take]; omega),(by simp only [Lm,List.length_cons,List.length_nil,List.length_take]; omega),(by simp only [Lm,List.length_cons,List.length_nil,List.length_take]; omega)⟩;refine Yi b3 ?_;refine Yi (Ii i (by omega)) ?_;have hy : [vi (l.getD U[i] nf0).kind,vs (l.getD U[i] nf0).path,vi (l.getD U[i] nf0).place,vi (l.getD U[i] nf0).number,vi (posL U (l.getD U[i] nf0).left),vi (posL U (l.getD U[i] nf0).right)]=encNf (trimN U (l.getD U[i] nf0)):=by unfold trimN; rw [if_pos h2]; try rfl
   have ht:(U.take (i+1)).map (fun k=>trimN U (l.getD k nf0))=(U.take i).map (fun k=>trimN U (l.getD k nf0))++[trimN U (l.getD U[i] nf0)]:=by rw [List.take_succ_eq_append_getElem n1,List.map_append]; rfl
   refine Xi ⟨i+1,by omega⟩ ?_;exact ⟨Dl U.length i (by omega),⟨Zr,Zr,⟨(show AV.slice (.id 7 6) (((U.take i).map fun k=>trimN U (l.getD k nf0)).map encNf++[[vi (l.getD U[i] nf0).kind,vs (l.getD U[i] nf0).path,vi (l.getD U[i] nf0).place,vi (l.getD U[i] nf0).number,vi (posL U (l.getD U[i] nf0).left),vi (posL U (l.getD U[i] nf0).right)]])=.slice (.id 7 6) (((U.take (i+1)).map fun k=>trimN U (l.getD k nf0)).map encNf) by rw [ht,List.map_append,hy]; rfl),rfl⟩,Zr,Zr,Zr,Tv⟩,⟨⟨(show HO.tok 6 ((((U.take i).map fun k=>trimN U (l.getD k nf0)).map encNf).length+([[vi (l.getD U[i] nf0).kind,vs (l.getD U[i] nf0).path,vi (l.getD U[i] nf0).place,vi (l.getD U[i] nf0).number,vi (posL U (l.getD U[i] nf0).left),vi (posL U (l.getD U[i] nf0).right)]]:List (List AV)).length)=.tok 6 (i+1) by rw [Lm,hrl]; rfl),rfl⟩,Tv⟩,Fh,Tv⟩
  have h2:¬ (((l.getD U[i] nf0).kind:Int)=(3:Int)):=h2;refine Xi ⟨[(0,sl encNf l),(6,.clo 53 [.cptr [sl encNat U]]),(7,.slice (.id 7 6) (((U.take i).map fun k=>trimN U (l.getD k nf0)).map encNf)),(10,.ref 10 0),(15,sl encNat U),(16,vi (U.map encNat).length),(17,vi i)],[(7,.tok 6 i),(10,.cells (encNf (l.getD U[i] nf0)))],hfree⟩ (Yi ⟨Z7,Z2,Fh,Tv⟩ ?_)
  refine Yi (Nz rfl) ?_;have b5:AllLen 6 [(encNf (l.getD U[i] nf0))]∧(((U.take i).map fun k=>trimN U (l.getD k nf0)).map encNf).length=i∧((((U.take i).map fun k=>trimN U (l.getD k nf0)).map encNf).length+([(encNf (l.getD U[i] nf0))]:List (List AV)).length)*56≤140737488355328∧(((U.take i).map fun k=>trimN U (l.getD k nf0)).map encNf).length+([(encNf (l.getD U[i] nf0))]:List (List AV)).length≤9223372036854775807:=⟨⟨rfl,trivial⟩,(by simp only [Lm,List.length_take]; omega),(by simp only [Lm,List.length_cons,List.length_nil,List.length_take]; omega),(by simp only [Lm,List.length_cons,List.length_nil,List.length_take]; omega)⟩;refine Yi b5 ?_;refine Yi (Ii i (by omega)) ?_;have hy:(encNf (l.getD U[i] nf0))=encNf (trimN U (l.getD U[i] nf0)):=by unfold trimN; rw [if_neg h2]; try rfl
  have ht:(U.take (i+1)).map (fun k=>trimN U (l.getD k nf0))=(U.take i).map (fun k=>trimN U (l.getD k nf0))++[trimN U (l.getD U[i] nf0)]:=by rw [List.take_succ_eq_append_getElem n1,List.map_append]; rfl
  refine Xi ⟨i+1,by omega⟩ ?_;exact ⟨Dl U.length i (by omega),⟨Zr,Zr,⟨(show AV.slice (.id 7 6) (((U.take i).map fun k=>trimN U (l.getD k nf0)).map encNf++[(encNf (l.getD U[i] nf0))])=.slice (.id 7 6) (((U.take (i+1)).map fun k=>trimN U (l.getD k nf0)).map encNf) by rw [ht,List.map_append,hy]; rfl),rfl⟩,Zr,Zr,Zr,Tv⟩,⟨⟨(show HO.tok 6 ((((U.take i).map fun k=>trimN U (l.getD k nf0)).map encNf).length+([(encNf (l.getD U[i] nf0))]:List (List AV)).length)=.tok 6 (i+1) by rw [Lm,hrl]; rfl),rfl⟩,Tv⟩,Fh,Tv⟩
 have h1:¬ ((i:Int)<((U.map encNat).length:Int)):=h1;have n1:¬ i<U.length:=by have q:=h1; rw [Lm] at q; omega
 exact .of_eq (show sl encNf ((U.take i).map fun k=>trimN U (l.getD k nf0))=sl encNf (trimL l target) by unfold trimL; rw [← hU,List.take_of_length_le (by omega)])
structure NfI (y:Nf):Prop where
 path:FewP y.path
 place:y.kind=1→InI64 y.place
 number:y.kind=0→-9223372036854775808≤y.number∧y.number<9223372036854775807
 refs:y.kind=3→(-9223372036854775808≤y.left∧y.left<9223372036854775807)∧(-9223372036854775808≤y.right∧y.right<9223372036854775807)
 kinds:y.kind=0∨y.kind=1∨y.kind=2∨y.kind=3
theorem itC_size {n:Int} (h0 : -9223372036854775808≤n) (h1:n≤9223372036854775807):(itB n++bClose).size≤22:=by
 have:=itB_size h0 h1
 rw [bsize_app]; show _+1≤_; omega
theorem atC_size (p:ByteArray) (pl:Int):(atT p pl++bClose).size≤66:=by
 have:=atT_size p pl
 rw [bsize_app]; show _+1≤_; omega
set_option maxHeartbeats 4000000 in
theorem e112 (y:Nf) (hn:NfI y):PC 112 [.agg (encNf y)] (vs (reasonI y)):=by
 have hkd:=hn.kinds;refine Ps ⟨[],[],[],[],[],[],[],[],[],[],[]⟩ Tryz.func112 rfl (Nz rfl) ?_;refine Yi (fun h1=>?_) (fun h1=>?_)
 ·have h1:(y.kind:Int)=(0:Int):=h1;have hq1:=hn.number h1;refine Yi (by show InI64 ((y.number:Int)+(1:Int)); unfold InI64; omega) ?_;refine Xi .pure (Xi _ (Yi (e39 (y.number+1) (by unfold InI64; omega)) ?_));refine Yi (cat_ok (Nat.le_trans (itB_size (by omega) (by omega)) (by decide)) (by decide)) ?_;refine Xi .pure (Xi _ (Yi (e44 [(⟨#[40,114,111,111,116]⟩ : ByteArray),(itB (y.number+1))++(⟨#[41]⟩ : ByteArray)] (by simp) (words_bound (B:=1048576) (List.forall_mem_cons.2 ⟨(by decide),List.forall_mem_cons.2 ⟨(Nat.le_trans (itC_size (by omega) (by omega)) (by decide)),List.forall_mem_nil _⟩⟩) (by simp))) ?_));exact .of_eq (show vs (wordsB [(⟨#[40,114,111,111,116]⟩ : ByteArray),(itB (y.number+1))++(⟨#[41]⟩ : ByteArray)])=vs (reasonI y) by unfold reasonI; rw [if_pos h1]; try rfl)
 have h1:¬ ((y.kind:Int)=(0:Int)):=h1;refine Yi (fun h3=>?_) (fun h3=>?_)
 ·have h3:(y.kind:Int)=(1:Int):=h3;have hq4:=hn.place h3;refine Xi _ (Yi (e75 y.path y.place hn.path.s hq4) ?_);refine Yi (cat_ok (Nat.le_trans (atT_size _ _) (by decide)) (by decide)) ?_;refine Xi _ (Yi (e44 [(⟨#[40,98,121]⟩ : ByteArray),y.path,(atT y.path y.place)++(⟨#[41]⟩ : ByteArray)] (by simp) (words_bound (B:=1048576) (List.forall_mem_cons.2 ⟨(by decide),List.forall_mem_cons.2 ⟨(show y.path.size≤1048576 from hn.path),List.forall_mem_cons.2 ⟨(Nat.le_trans (atC_size _ _) (by decide)),List.forall_mem_nil _⟩⟩⟩) (by simp))) ?_);refine Yi (by kernel_rfl) ?_;exact .of_eq (show vs (wordsB [(⟨#[40,98,121]⟩ : ByteArray),y.path,(atT y.path y.place)++(⟨#[41]⟩ : ByteArray)])=vs (reasonI y) by unfold reasonI; rw [if_neg h1]; rw [if_pos h3]; try rfl)
 have h3:¬ ((y.kind:Int)=(1:Int)):=h3;refine Yi (fun h5=>?_) (fun h5=>?_)
 ·have h5:(y.kind:Int)=(2:Int):=h5;exact .of_eq (show vs ⟨#[40,110,111,32,111,116,104,101,114,32,114,101,108,101,97,115,101,115,41]⟩=vs (reasonI y) by unfold reasonI; rw [if_neg h1]; rw [if_neg h3]; rw [if_pos h5]; try rfl)
 have h5:¬ ((y.kind:Int)=(2:Int)):=h5;have hq2:=hn.refs (by omega);refine Yi (by show InI64 ((y.left:Int)+(1:Int)); unfold InI64; omega) ?_;refine Xi _ (Yi (e39 (y.left+1) (by unfold InI64; omega)) ?_);refine Yi (by show InI64 ((y.right:Int)+(1:Int)); unfold InI64; omega) ?_;refine Xi _ (Yi (e39 (y.right+1) (by unfold InI64; omega)) ?_);refine Yi (cat_ok (Nat.le_trans (itB_size (by omega) (by omega)) (by decide)) (by decide)) ?_;refine Xi _ (Yi (e44 [(⟨#[40,102,114,111,109]⟩ : ByteArray),(itB (y.left+1)),(⟨#[97,110,100]⟩ : ByteArray),(itB (y.right+1))++(⟨#[41]⟩ : ByteArray)] (by simp) (words_bound (B:=1048576) (List.forall_mem_cons.2 ⟨(by decide),List.forall_mem_cons.2 ⟨(Nat.le_trans (itB_size (by omega) (by omega)) (by decide)),List.forall_mem_cons.2 ⟨(by decide),List.forall_mem_cons.2 ⟨(Nat.le_trans (itC_size (by omega) (by omega)) (by decide)),List.forall_mem_nil _⟩⟩⟩⟩) (by simp))) ?_);refine Yi (by kernel_rfl) ?_;exact .of_eq (show vs (wordsB [(⟨#[40,102,114,111,109]⟩ : ByteArray),(itB (y.left+1)),(⟨#[97,110,100]⟩ : ByteArray),(itB (y.right+1))++(⟨#[41]⟩ : ByteArray)])=vs (reasonI y) by unfold reasonI; rw [if_neg h1]; rw [if_neg h3]; rw [if_neg h5]; rfl)
end Go.Eng

namespace Go.Eng
open Go.Proofs
structure TmsI (t:List Tm):Prop where
 len:t.length≤500000
 few:∀ u ∈ t,Few u.set
 path:∀ u ∈ t,FewP u.path
theorem TmsI.canon {l c:List Tm} (h:TmsI l) (e:canonT l=some c):TmsI c where
 len:=Nat.le_trans (canT_len e) h.len
 few:=fun t ht=>few_can ((canonT_sorted e).canon t ht)
 path:=fun t ht=>by
  obtain ⟨u,hu,q⟩:=canonT_paths e t ht;rw [q]; exact h.path u hu
theorem incF_size {c:List Tm} (h:TmsI c):(incF c).size≤90000000000000:=by
 have hl:=hn_len c;have hc:=h.len;have h1:=texts_size (sep:=bAnd) (by decide) h.path (have_mem c) (by omega);have h2:=texts_size (sep:=bOr) (by decide) h.path (need_mem c) (by omega);have a1:=joinB_size bAnd 140000000 (haveL c) (fun x hx=>by
  obtain ⟨t,ht,rfl⟩:=have_mem c x hx;exact termT_size (h.path t ht))
 have a2:=joinB_size bOr 140000000 (needL c) (fun x hx=>by
  obtain ⟨t,ht,rfl⟩:=need_mem c x hx;exact termT_size (h.path t ht))
 have e1:bAnd.size=5:=rfl;have e2:bOr.size=4:=rfl;rw [e1] at a1; rw [e2] at a2;have e3:bThis.size=18:=rfl;have e4:bImp.size=14:=rfl;have e5:bDo.size=19:=rfl;have e6:bNeeded.size=10:=rfl;have e7:bNeeds.size=7:=rfl;have e8:bNeed.size=6:=rfl;have key:(joinB bAnd (haveL c)).size+(joinB bOr (needL c)).size≤70000002500000:=by omega
 clear a1 a2 h1 h2
 unfold incF
 repeat' split
 all_goals (try simp only [bsize_app])
 all_goals omega
theorem incText_size {l:List Tm} (h:TmsI l):(incText l).size≤90000000000000:=by
 unfold incText;cases e:canonT l with
 | none=>decide
 | some c=>exact incF_size (h.canon e)
theorem reasonI_size {y:Nf} (h:NfI y):(reasonI y).size≤5000000:=by
 have hp:y.path.size≤1048576:=h.path;have e0:bBlank.size=1:=rfl;unfold reasonI;split
 ·rename_i k;have q:=h.number k
  have:=joinB_size bBlank 1048576 [bRoot,itB (y.number+1)++bClose] (List.forall_mem_cons.2 ⟨by decide,List.forall_mem_cons.2 ⟨Nat.le_trans (itC_size (by omega) (by omega)) (by decide),List.forall_mem_nil _⟩⟩)
  rw [e0] at this; simp only [List.length_cons,List.length_nil] at this; omega
 ·split
  ·have:=joinB_size bBlank 1048576 [bBy,y.path,atT y.path y.place++bClose] (List.forall_mem_cons.2 ⟨by decide,List.forall_mem_cons.2 ⟨hp,List.forall_mem_cons.2 ⟨Nat.le_trans (atC_size _ _) (by decide),List.forall_mem_nil _⟩⟩⟩)
   rw [e0] at this; simp only [List.length_cons,List.length_nil] at this; omega
  ·split
   ·decide
   ·rename_i k0 k1 k2;have q:=h.refs (by have:=h.kinds; omega)
    have:=joinB_size bBlank 1048576 [bFrom,itB (y.left+1),bAnd1,itB (y.right+1)++bClose] (List.forall_mem_cons.2 ⟨by decide,List.forall_mem_cons.2 ⟨Nat.le_trans (itB_size (by omega) (by omega)) (by decide),List.forall_mem_cons.2 ⟨by decide,List.forall_mem_cons.2 ⟨Nat.le_trans (itC_size (by omega) (by omega)) (by decide),List.forall_mem_nil _⟩⟩⟩⟩)
    rw [e0] at this; simp only [List.length_cons,List.length_nil] at this; omega
def ShortP (x:List Rl) (roots:List Rq) (l:List Nf):Prop:=∀ p ∈ pathsU x roots l,FewP p
theorem derived_tms {x:List Rl} {roots:List Rq} {l:List Nf} (hP:ShortP x roots l) (h:(deriveP x roots l).2=0):∀ t ∈ (deriveP x roots l).1,TmsI t:=fun t ht=>by
 obtain ⟨h1,h2,h3,h4⟩:=deriveP_ok h;have hu:=deriveGo_in (l0:=l) l [] _ (fun _ h=>h) (fun _ h=>by cases h) h4 t ht;have hf:=hu.fewI (pathsU_few h1 h2 h3)
 have:=hu.len
 have:=pathsU_few h1 h2 h3
 exact ⟨by omega,hf.2,fun u hu'=>hP _ (hu.2 u hu')⟩
theorem derive_nf {x:List Rl} {roots:List Rq} {l:List Nf} {d:List (List Tm)} (hr:roots.length≤1073741824) (hl:l.length≤1073741824) (h:deriveGo x roots l []=some d) {i:Nat} (hi:i<l.length) (hp:FewP (l.getD i nf0).path):NfI (l.getD i nf0):=by
 have hok:=derive_ok h hi;have hin:=(derive_at h).2 i hi;have hdl:d.length=l.length:=(derive_at h).1;refine ⟨hp,fun k=>?_,fun k=>?_,fun k=>?_,hok.2.2.2⟩
 ·have:=hok.2.1 k; unfold InI64; omega
 ·unfold inferP at hin;rw [if_pos k] at hin;split at hin
  ·cases e:nthZ roots (l.getD i nf0).number with
   | none=>rw [e] at hin; cases hin
   | some q=>have:=nthZ_lt e; omega
  ·cases hin
 ·obtain ⟨a,b,ha,hb,_⟩:=infer_ref hin k;have h1:=nthZ_lt ha;have h2:=nthZ_lt hb;rw [List.length_take] at h1 h2;omega
theorem trim_nf {x:List Rl} {roots:List Rq} {l:List Nf} (hP:ShortP x roots l) (hr:roots.length≤1073741824) (h:(deriveP x roots l).2=0) {t:Nat} (ht:t<l.length):∀ y ∈ trimL l t,NfI y:=by
 obtain ⟨h1,h2,h3,h4⟩:=deriveP_ok h;have hD:=derive_trim h4 ht;have hlen:(trimL l t).length≤l.length:=by unfold trimL; rw [Lm]; exact usedL_len
 intro y hy;obtain ⟨i,hi,e⟩:=List.getElem_of_mem hy;have ey:(trimL l t).getD i nf0=y:=by rw [List.getD_eq_getElem?_getD,Ge hi]; exact e
 have hp:FewP y.path:=by
  unfold trimL at hy;obtain ⟨k,hk,rfl⟩:=List.mem_map.1 hy;have hk':=usedL_lt k hk;have e1:(trimN (usedL l t) (l.getD k nf0)).path=(l.getD k nf0).path:=by unfold trimN; split <;> rfl
  rw [e1];refine hP _ ?_;unfold pathsU;refine List.mem_append_right _ (List.mem_append_right _ (List.mem_append_right _ (List.mem_map.2 ⟨_,List.mem_of_getElem? (getD_at hk'),rfl⟩)))
 have:=derive_nf hr (by omega) hD hi (by rw [ey]; exact hp)
 rwa [ey] at this
end Go.Eng

namespace Go.Proofs.YtpgfieopnnkpfaaGreatDoor.joins
open Go Go.Eng Go.Proofs Go.ChangeShapes Go.WideShapes Go.ChangeAt Go.RowKit
theorem own:ownKnob Tryz.prog.godebug=none:=by kernel_rfl
def flatD:Nat→DataW Unit→List Value
 | 0,_=>[]
 | n+1,.agg l=>l.flatMap (flatD n)
 | _+1,.lit (.int k i)=>[.int k i]
 | _+1,_=>[]
def layIn (d:DataW Unit):Obj→Obj
 | .cells _ t frozen=>.cells (flatD 4 d).toArray t frozen
 | o=>o
noncomputable def laidWorld (os:Os):World :=
 { World.holding Tryz.prog os ⟨#[],#[],[]⟩ with heap:=(((((World.holding Tryz.prog os ⟨#[],#[],[]⟩).heap.modify 3 (layIn Rows.laid_internal_strconv_uint64pow10)).modify 4 (layIn Rows.laid_math_bits_deBruijn32tab)).modify 5 (layIn Rows.laid_math_bits_deBruijn64tab)).modify 6 (layIn Rows.laid_unicode_utf8_first)).modify 7 (layIn Rows.laid_unicode_utf8_acceptRanges) }
abbrev nilV:Value:=.slice none 0 0
theorem arr1 {args:Array Value} {a:Value} (h:args.toList=[a]):args=#[a]:=by
 cases args; simp_all
theorem arr2 {args:Array Value} {a b:Value} (h:args.toList=[a,b]):args=#[a,b]:=by
 cases args; simp_all
theorem arr3 {args:Array Value} {a b c:Value} (h:args.toList=[a,b,c]):args=#[a,b,c]:=by
 cases args; simp_all
theorem arr4 {args:Array Value} {a b c d:Value} (h:args.toList=[a,b,c,d]):args=#[a,b,c,d]:=by
 cases args; simp_all
theorem arr5 {args:Array Value} {a b c d e:Value} (h:args.toList=[a,b,c,d,e]):args=#[a,b,c,d,e]:=by
 cases args; simp_all
theorem oU16 {H:Type} {enc:TypeId × Value→H} {w:World} : Op enc w 51 (fun n:Int=>[.v (.int .u16 n)]) (fun n=>0≤n∧n≤65535):=(opens_int Tryz.underlying51).to id (fun _ h=>⟨rfl,h⟩)
theorem oInt {H:Type} {enc:TypeId × Value→H} {w:World} : Op enc w 3 (fun n:Int=>[vi n]) InI64:=(opens_int Tryz.underlying3).to id (fun x h=>⟨rfl,by
  have h1:(-9223372036854775808:Int)≤x:=h.1
  have h2:x≤(9223372036854775807:Int):=h.2
  show -9223372036854775808≤x∧x<9223372036854775808
  omega⟩)
theorem short_of {x:List Rl} {roots:List Rq} {l:List Nf} (h:x.length≤NB∧∀ r ∈ x,OkRl r) (k:OkRqs roots) (q:l.length≤NB∧∀ i ∈ l,i.path.size≤NB):ShortP x roots l:=fun p hp=>by
 unfold pathsU at hp
 rcases List.mem_append.1 hp with hp | hp
 ·obtain ⟨r,hr,rfl⟩:=List.mem_map.1 hp
  exact (h.2 r hr).1
 ·rcases List.mem_append.1 hp with hp | hp
  ·obtain ⟨y,hy,rfl⟩:=List.mem_map.1 hp
   obtain ⟨g,hg,hyg⟩:=List.mem_flatten.1 hy
   obtain ⟨r,hr,rfl⟩:=List.mem_map.1 hg
   exact ((h.2 r hr).2.2 y hyg).1
  ·rcases List.mem_append.1 hp with hp | hp
   ·obtain ⟨y,hy,rfl⟩:=List.mem_map.1 hp
    exact (k.2 y hy).1
   ·obtain ⟨y,hy,rfl⟩:=List.mem_map.1 hp
    exact q.2 y hy
theorem looksOff:true=Tryz.pinned.checked.prog.looks []:=by kernel_rfl
theorem noStand:∀ t ∈ ([42,43,32,51,66,3,23]:List Nat),Tryz.pinned.checked.prog.wantsStandIn t=false:=by
 intro t ht
 simp only [List.mem_cons,List.mem_nil_iff,or_false] at ht
 rcases ht with rfl | rfl | rfl | rfl | rfl | rfl | rfl <;> exact (show Tryz.prog.wantsStandIn _=false by kernel_rfl)
end Go.Proofs.YtpgfieopnnkpfaaGreatDoor.joins

namespace Go.Eng
open Go.Proofs
theorem YCall.pre {P:Program} {Y Y' : Gh→World→Prop} {l:Nat} {args:List AV} {h0:Nat→HO} {Q:AV→(Nat→HO)→Prop} (h:YCall P Y l args h0 Q) (hp:∀ g w,Y' g w→Y g w):YCall P Y' l args h0 Q :=
 fun g w vals q1 q2 q3 q4=>h g w vals q1 q2 q3 (hp g w q4)
abbrev idR:Ren:=[(1000,1000),(1001,1001)]
abbrev lnH (L:List ByteArray) (k:Nat):List (Nat × HO):=[(1000,.cells [.slice (.id 1001 1) ((L.take k).map encStr)]),(1001,.tok 1 ((L.take k).map encStr).length)]
noncomputable abbrev cxy (pl:Pol) (l:Nat) (Y:Gh→World→Prop):Cx:=⟨Tryz.prog,tab,pl,true,0,fun l' σ' g w=>l'=l→σ'=idR→Y g w⟩
abbrev linesL (own:List Nf) (kept:List (List Tm)):List ByteArray:=linesW lineI own kept
theorem linesL_len (own:List Nf) (kept:List (List Tm)):(linesL own kept).length=own.length:=by unfold linesL linesW; rw [Lm,List.length_range]
theorem linesL_at (own:List Nf) (kept:List (List Tm)) {i:Nat} (h1:i<own.length) (h2:i<kept.length):(linesL own kept)[i]?=some (lineI i kept[i] own[i]):=by
 unfold linesL linesW;rw [List.getElem?_map,List.getElem?_range h1];simp only [Option.map_some];rw [List.getD_eq_getElem?_getD,List.getD_eq_getElem?_getD,Ge h1,Ge h2]; rfl
theorem lnH_succ (L:List ByteArray) {i:Nat} {s:ByteArray} (h:L[i]?=some s):L.take (i+1)=L.take i++[s]:=by rw [List.take_add_one,h]; rfl

theorem e58 (own:List Nf) (kept:List (List Tm)):PC 58 [sl encNf own,sl encInc kept] (.clo 111 [.cptr [sl encNf own],.cptr [sl encInc kept]]):=by
 refine Ps ⟨[2,3],[],[],[],[],[],[],[],[],[],[]⟩ Tryz.func58 rfl (Nz rfl) ?_;exact .refl _
theorem itD_size {n:Int} (h0 : -9223372036854775808≤n) (h1:n≤9223372036854775807):(itB n++bDot).size≤22:=by
 have:=itB_size h0 h1
 rw [bsize_app]; show _+1≤_; omega
set_option maxHeartbeats 4000000 in
theorem e111 {Y:Gh→World→Prop} (l:Nat) (own:List Nf) (kept:List (List Tm)) (hlen:kept.length=own.length) (hn:own.length≤1073741824) (hown:∀ y ∈ own,NfI y) (hkept:∀ t ∈ kept,TmsI t)
  (hy:∀ i s,i<own.length→(linesL own kept)[i]?=some s→YCall Tryz.prog Y l [vs s] (heapOf (lnH (linesL own kept) i) hfree) fun r h'=>r=vb true∧h'=heapOf (lnH (linesL own kept) (i+1)) hfree) :
  ICall Tryz.prog Y idR 111 [.v (.func (.yield l) #[] #[]),.cptr [sl encNf own],.cptr [sl encInc kept]] (heapOf (lnH (linesL own kept) 0) hfree) fun _ h'=>h'=heapOf (lnH (linesL own kept) own.length) hfree:=by
 refine icall_of (l:=l) (cxy ⟨[],[],[],[],[],[],[],[],[(27,4)],[],[3,4]⟩ l Y) idR rfl tab_ok hm rfl Tryz.func111 (by kernel_rfl) rfl (Nz rfl) (by kernel_rfl) rfl rfl ?_;refine Xi {i:Nat // i≤own.length} (Xi (fun q=>⟨[(0,.v (.func (.yield l) #[] #[])),(2,.cptr [sl encInc kept]),(6,sl encNf own),(7,vi (own.map encNf).length),(8,vi q.1)],[(1000,.cells [.slice (.id 1001 1) (((linesL own kept).take q.1).map encStr)]),(1001,.tok 1 (((linesL own kept).take q.1).map encStr).length)],hfree⟩) (Xi (fun q=>own.length - q.1) (Yi (Xi ⟨0,Nat.zero_le _⟩ ?_) ?_)))
 ·exact ⟨Z5,Z2,Fh,ext_dec (by kernel_rfl)⟩
 intro ⟨i,i1⟩;have i1:i≤own.length:=i1;refine Yi (fun h1=>?_) (fun h1=>?_)
 ·have h1:(i:Int)<((own.map encNf).length:Int):=h1;have n1:i<own.length:=by have q:=h1; rw [Lm] at q; omega
  have g1:own[i]?=some own[i]:=Ge n1;have hki:i<kept.length:=by omega
  have gk:kept[i]?=some kept[i]:=Ge hki;have hoi:=hown own[i] (List.getElem_mem n1);have hti:=hkept kept[i] (List.getElem_mem hki);have hLi:=linesL_at own kept n1 hki;refine Xi (encNf own[i]) (Yi (Yi (Nn i) (map_at g1)) (Yi rfl ?_));refine Yi (Nz rfl) ?_;refine Yi (Nz rfl) ?_;refine Xi ⟨[(0,.v (.func (.yield l) #[] #[])),(2,.cptr [sl encInc kept]),(4,vi i),(5,.ref 5 0),(6,sl encNf own),(7,vi (own.map encNf).length),(8,vi i)],[(5,.cells (encNf own[i])),(1000,.cells [.slice (.id 1001 1) (((linesL own kept).take i).map encStr)]),(1001,.tok 1 (((linesL own kept).take i).map encStr).length)],hfree⟩ (Yi ⟨Z7,Z3,Fh,ext_dec (by kernel_rfl)⟩ ?_)
  refine Yi (Ii i (by omega)) ?_;refine Xi _ (Yi (e39 (i+1) (by unfold InI64; omega)) ?_);refine Yi (cat_ok (Nat.le_trans (itB_size (by omega) (by omega)) (by decide)) (by decide)) ?_;refine Xi (encInc kept[i]) (Yi (Yi (Nn i) (map_at gk)) (Yi rfl ?_));refine Xi _ (Yi (e15 kept[i] hti.len hti.few hti.path) ?_);refine Yi (Nz rfl) ?_;refine Xi _ (Yi (e112 own[i] hoi) ?_);refine Xi _ (Yi (show PC 44 [sl encStr [(itB (i+1))++(⟨#[46]⟩ : ByteArray),(incText kept[i]),(reasonI own[i])]] (vs (lineI i kept[i] own[i])) from e44 [(itB (i+1))++(⟨#[46]⟩ : ByteArray),(incText kept[i]),(reasonI own[i])] (by simp) (words_bound (B:=90000000000000) (List.forall_mem_cons.2 ⟨Nat.le_trans (itD_size (by omega) (by omega)) (by decide),List.forall_mem_cons.2 ⟨incText_size hti,List.forall_mem_cons.2 ⟨Nat.le_trans (reasonI_size hoi) (by decide),List.forall_mem_nil _⟩⟩⟩) (by simp))) ?_);refine Yi ⟨rfl,rfl⟩ (Xi (.bool true) (Xi (((linesL own kept).take (i+1)).map encStr) (Xi (((linesL own kept).take (i+1)).map encStr).length (Yi (YCall.pre (hy i (lineI i kept[i] own[i]) n1 hLi) (fun g w q=>q rfl rfl)) ?_))));refine Yi (by kernel_rfl) ?_;refine Xi ⟨[(0,.v (.func (.yield l) #[] #[])),(2,.cptr [sl encInc kept]),(6,sl encNf own),(7,vi (own.map encNf).length),(8,vi i)],[(1000,.cells [.slice (.id 1001 1) (((linesL own kept).take (i+1)).map encStr)]),(1001,.tok 1 (((linesL own kept).take (i+1)).map encStr).length)],hfree⟩ (Yi ⟨Z5,Z2,Fh,ext_dec (by kernel_rfl)⟩ ?_)
  refine Yi (Ii i (by omega)) ?_;refine Xi ⟨i+1,by omega⟩ ?_;exact ⟨Dl own.length i (by omega),Z5,Z2,Fh,ext_dec (by kernel_rfl)⟩
 have h1:¬ ((i:Int)<((own.map encNf).length:Int)):=h1;have n1:¬ i<own.length:=by have q:=h1; rw [Lm] at q; omega
 have hie:i=own.length:=by omega
 exact (show heapOf (lnH (linesL own kept) i) hfree=heapOf (lnH (linesL own kept) own.length) hfree by rw [hie])
end Go.Eng

namespace Go.Eng
open Go.Proofs
theorem rfk_mk {cx2:Cx} {P:Program} {N:Nat} {fn:Func} {res:AV} {b rest:Code} {st:St} (σF σ:Ren) (H0 Hn:List (Nat × HO)) (gf:Nat) (caps:List AV) {bid s:Nat} {ps:Array Tmp} {asg body:Code}
  (hb:b=.block bid (.rangeFunc (.tmp s) ps asg body)) (k1:(renOk σF&&newFree st.h 0 0&&newApart σF 0 0)=true) (k2:renH σF st.h=heapOf H0 hfree) (k3:(renInj σ&&extOk σ H0)=true) (k4:extOk σ Hn=true)
  (k5:ren (rfwd σF) st.h (st.t s)=.clo gf caps)
  (k6:∀ (l D:Nat) (f' : FuncId) (tm:Array Value),tm.size=N→ICall P (fun g w=>w.heap[l]?=some (.loop (recL f' tm ps asg body D .ready))∧∀ i,Rep g w (used (heapOf H0 hfree)) (ren (rfwd σF) st.h (st.t i)) (tm.getD i undef)) σ gf
   (.v (.func (.yield l) #[] #[]) :: caps) (heapOf H0 hfree) fun _ h'=>h'=heapOf Hn hfree)
  (k7:codeOk N rest=true) (k8:awp cx2 rest (endK cx2 fn.results.toList fun r=>Sub r res) ⟨fun i=>ren (rfwd σF) st.h (st.t i),heapOf Hn hfree⟩):RfK cx2 P N fn res b rest st :=
 ⟨σF,σ,H0,Hn,bid,s,ps,asg,body,gf,caps,hb,k1,k2,k3,k4,k5,k6,k7,k8⟩
theorem lnH_used (L:List ByteArray) (a b:Nat):∀ i,used (heapOf (lnH L a) hfree) i→used (heapOf (lnH L b) hfree) i:=by
 intro i h;unfold used at *
 by_cases e:i=1000
 ·subst e; intro q; cases q
 ·by_cases e' : i=1001
  ·subst e'; intro q; cases q
  ·exfalso; apply h
   simp only [heapOf,beq_ne e,beq_ne e',cond_false]; rfl
abbrev linR (x:List Rl) (roots:List Rq) (l:List Nf) (target:Int):AV:=.tup [sl encStr (linesP x roots l target).1,vi (linesP x roots l target).2]
theorem linR_no {x:List Rl} {roots:List Rq} {l:List Nf} {target e:Int} (h:linesP x roots l target=([],e)):Sub (.tup [.v (.slice none 0 0),vi e]) (linR x roots l target) :=
 (show Sub (.tup [.v (.slice none 0 0),vi e]) (.tup [.slice .none [],vi e]) from Sub.tup ⟨.nil,.refl _,trivial⟩).trans (.of_eq (show AV.tup [.slice .none [],vi e]=linR x roots l target by unfold linR; rw [h]; rfl))
abbrev kp (d:List (List Tm)) (U:List Nat) (i:Nat):List (List Tm):=(U.take i).map fun k=>d.getD k []
theorem kp_succ (d:List (List Tm)) (U:List Nat) (i:Nat) (h:i<U.length):kp d U (i+1)=kp d U i++[d.getD U[i] []]:=by
 unfold kp; rw [List.take_succ_eq_append_getElem h,List.map_append]; rfl
theorem getD_atD {d:List (List Tm)} {i:Nat} (h:i<d.length):d[i]?=some (d.getD i []):=by
 rw [List.getD_eq_getElem?_getD,Ge h]; rfl
set_option maxHeartbeats 4000000 in
theorem e24 (x:List Rl) (ifs:List (List AV)) (roots:List Rq) (l:List Nf) (target:Int) (hk:Ck x ifs roots) (hl:Few l) (ht:InI64 target) (hr:roots.length≤1073741824) (hP:ShortP x roots l):PC 24 [ixV x ifs,sl encRq roots,sl encNf l,vi target] (linR x roots l target):=by
 have hk12:=c12 x ifs roots l hk;have hl:l.length≤1073741824:=hl;have hml:(l.map encNf).length=l.length:=Lm _;obtain ⟨d,hd⟩ : ∃ d,d=(deriveP x roots l).1:=⟨_,rfl⟩;obtain ⟨ee,he⟩ : ∃ ee,ee=(deriveP x roots l).2:=⟨_,rfl⟩;rw [← hd,← he] at hk12;have hUl:∀ i ∈ usedL l target,i<l.length:=usedL_lt;have hUn:=usedL_len (l:=l) (target:=target);have h18:=e18 l target hl ht;obtain ⟨U,hU⟩ : ∃ U,U=usedL l target:=⟨_,rfl⟩;rw [← hU] at hUl hUn h18;have h21:=e21 l target hl ht;obtain ⟨own,how⟩ : ∃ own,own=trimL l target:=⟨_,rfl⟩;have hwl:own.length=U.length:=by rw [how]; unfold trimL; rw [Lm,hU]
 rw [← how] at h21;refine pcall_rf (cxp ⟨[4],[(12,1)],[],[],[],[],[],[(53,(15,0,16,1))],[],[],[2,4,5,6,10,11,16]⟩) (cxe pl0) rfl tab_ok rfl tab_ok hm rfl rfl Tryz.func24 (by kernel_rfl) rfl (Nz rfl) (by kernel_rfl) 7 (fun _ _=>Zr) ?_;refine Yi (Nz rfl) ?_;refine Xi .pure (Xi _ (Yi hk12 ?_));refine Xi ⟨[(2,sl encNf l),(3,vi (target:Int)),(10,sl encInc d),(11,vi ee)],[],hfree⟩ (Yi ⟨Z4,Tv,Fh,Tv⟩ ?_)
 refine Yi (fun h1=>?_) (fun h1=>?_)
 ·have h1:(ee:Int)≠(0:Int):=h1;exact linR_no (by unfold linesP; rw [if_pos (by rw [← he]; exact h1),← he])
 have h1:(ee:Int)=(0:Int):=Classical.byContradiction h1;have hee:(deriveP x roots l).2=0:=by rw [← he]; exact h1
 obtain ⟨q1,q2,q3,q4⟩:=deriveP_ok hee;have hdl:d.length=l.length:=by rw [hd]; exact (derive_at q4).1
 have hdt:∀ t ∈ d,TmsI t:=by rw [hd]; exact derived_tms hP hee
 refine Xi ⟨[(2,sl encNf l),(3,vi (target:Int)),(10,sl encInc d)],[],hfree⟩ (Yi ⟨Z3,Tv,Fh,Tv⟩ ?_)
 refine Yi (fun h3=>?_) (fun h3=>?_)
 ·have h3:((target:Int):Int)<(0:Int):=h3;refine Xi ⟨[],[],hfree⟩ (Yi ⟨Tv,Tv,Fh,Tv⟩ ?_)
  exact linR_no (by unfold linesP; rw [if_neg (fun h=>h hee),if_pos (.inl h3)])
 have h3:¬ (((target:Int):Int)<(0:Int)):=h3;refine Yi (fun h5=>?_) (fun h5=>?_)
 ·have h5:((l.map encNf).length:Int)≤((target:Int):Int):=h5;refine Xi ⟨[],[],hfree⟩ (Yi ⟨Tv,Tv,Fh,Tv⟩ ?_)
  exact linR_no (by unfold linesP; rw [if_neg (fun h=>h hee),if_pos (.inr (by have q:=h5; rw [hml] at q; exact q))])
 have h5:¬ (((l.map encNf).length:Int)≤((target:Int):Int)):=h5;refine Xi ⟨[(2,sl encNf l),(3,vi (target:Int)),(10,sl encInc d)],[],hfree⟩ (Yi ⟨Z3,Tv,Fh,Tv⟩ ?_)
 refine Xi .pure (Xi _ (Yi h18 ?_));refine Xi {i:Nat // i≤U.length} (Xi (fun q=>⟨[(2,sl encNf l),(3,vi (target:Int)),(10,sl encInc d),(12,.slice (.id 12 1) ((kp d U q.1).map encInc)),(37,sl encNat U),(38,vi (U.map encNat).length),(39,vi q.1)],[(12,.tok 1 q.1)],hfree⟩) (Xi (fun q=>U.length - q.1) (Yi (Xi ⟨0,Nat.zero_le _⟩ ?_) ?_)))
 ·exact ⟨Z7,Z1,Fh,Tv⟩
 intro ⟨i,i1⟩;have i1:i≤U.length:=i1;have hrl:(kp d U i).length=i:=by unfold kp; rw [Lm,List.length_take]; omega
 have hrl2:(U.take i).length=i:=by rw [List.length_take]; omega
 refine Yi (fun h7=>?_) (fun h7=>?_)
 ·have h7:(i:Int)<((U.map encNat).length:Int):=h7;have n7:i<U.length:=by have q:=h7; rw [Lm] at q; omega
  have g7:U[i]?=some U[i]:=Ge n7;have gy:d[U[i]]?=some (d.getD U[i] []):=getD_atD (by have:=hUl _ (List.getElem_mem n7); omega);refine Xi (encNat U[i]) (Yi (Yi (Nn i) (map_at g7)) (Yi rfl ?_));refine Xi ⟨[(2,sl encNf l),(3,vi (target:Int)),(10,sl encInc d),(12,.slice (.id 12 1) ((kp d U i).map encInc)),(14,vi U[i]),(37,sl encNat U),(38,vi (U.map encNat).length),(39,vi i)],[(12,.tok 1 i)],hfree⟩ (Yi ⟨Z8,Z1,Fh,Tv⟩ ?_)
  refine Xi (encInc (d.getD U[i] [])) (Yi (Yi (show (0:Int)≤(U[i]:Nat) by omega) (map_at gy)) (Yi rfl ?_));have b8:AllLen 1 [[sl encTm (d.getD U[i] [])]]∧((kp d U i).map encInc).length=i∧(((kp d U i).map encInc).length+([[sl encTm (d.getD U[i] [])]]:List (List AV)).length)*24≤140737488355328∧((kp d U i).map encInc).length+([[sl encTm (d.getD U[i] [])]]:List (List AV)).length≤9223372036854775807:=⟨⟨rfl,trivial⟩,(by first | (simp; done) | (rw [Lm]; assumption)),(by simp only [Lm,List.length_cons,List.length_nil]; omega),(by simp only [Lm,List.length_cons,List.length_nil]; omega)⟩
  refine Yi b8 ?_;refine Xi ⟨[(2,sl encNf l),(3,vi (target:Int)),(10,sl encInc d),(12,.slice (.id 12 1) (((kp d U i).map encInc)++[[sl encTm (d.getD U[i] [])]])),(37,sl encNat U),(38,vi (U.map encNat).length),(39,vi i)],[(12,.tok 1 (((kp d U i).map encInc).length+([[sl encTm (d.getD U[i] [])]]:List (List AV)).length))],hfree⟩ (Yi ⟨Z7,Z1,Fh,Tv⟩ ?_)
  refine Yi (Ii i (by omega)) ?_;refine Xi ⟨i+1,by omega⟩ ?_;exact ⟨Dl U.length i (by omega),⟨Zr,Zr,Zr,⟨(show AV.slice (.id 12 1) ((kp d U i).map encInc++[[sl encTm (d.getD U[i] [])]])=.slice (.id 12 1) ((kp d U (i+1)).map encInc) by rw [kp_succ d U i n7,List.map_append]; rfl),rfl⟩,Zr,Zr,Zr,Tv⟩,⟨⟨(show HO.tok 1 (((kp d U i).map encInc).length+([[sl encTm (d.getD U[i] [])]]:List (List AV)).length)=.tok 1 (i+1) by rw [Lm,hrl]; rfl),rfl⟩,Tv⟩,Fh,Tv⟩
 have h7:¬ ((i:Int)<((U.map encNat).length:Int)):=h7;have n7:¬ i<U.length:=by have q:=h7; rw [Lm] at q; omega
 refine Xi .pure (Xi _ (Yi h21 ?_));refine Xi .pure (Xi _ (Yi (e58 own (kp d U i)) ?_));have htl:¬ (target<0∨(l.length:Int)≤target):=by have q:=h5; rw [hml] at q; omega
 obtain ⟨t,htt⟩ : ∃ t:Nat,target=t:=⟨target.toNat,by omega⟩;have hown:∀ y ∈ own,NfI y:=by rw [how,htt]; exact trim_nf hP hr hee (by omega)
 have hkq:kp d U i=kp d U U.length:=by rw [show i=U.length by omega]
 obtain ⟨kept,hkp⟩ : ∃ kept,kept=kp d U U.length:=⟨_,rfl⟩;have hkl:kept.length=own.length:=by rw [hkp,hwl]; unfold kp; rw [Lm,List.length_take]; omega
 have hkt:∀ t ∈ kept,TmsI t:=by
  rw [hkp];intro t ht';obtain ⟨k,hk',rfl⟩:=List.mem_map.1 ht';exact hdt _ (List.mem_of_getElem? (getD_atD (by have:=hUl k (List.mem_of_mem_take hk'); omega)))
 have hLn:(linesL own kept).length≤65536:=by rw [linesL_len]; omega
 refine rfk_mk [(15,1000),(16,1001)] idR (lnH (linesL own kept) 0) (lnH (linesL own kept) own.length) 111 [.cptr [sl encNf own],.cptr [sl encInc kept]] rfl rfl rfl rfl rfl (show AV.clo 111 [.cptr [sl encNf own],.cptr [sl encInc (kp d U i)]]=.clo 111 [.cptr [sl encNf own],.cptr [sl encInc kept]] by rw [hkq,hkp]) (fun l9 D9 f9 tm9 htm=>e111 l9 own kept hkl (by omega) hown hkt (fun i9 s9 hi9 hs9=>ycall_of (σ:=idR) (cxe pl0) rfl tab_ok hm rfl rfl rfl htm (by kernel_rfl) (by kernel_rfl) (by kernel_rfl) (lnH_used _ _ _) ?_)) (by kernel_rfl) ?_
 ·have b9:AllLen 1 [[vs s9]]∧(((linesL own kept).take i9).map encStr).length=(((linesL own kept).take i9).map encStr).length∧((((linesL own kept).take i9).map encStr).length+([[vs s9]]:List (List AV)).length)*16≤140737488355328∧(((linesL own kept).take i9).map encStr).length+([[vs s9]]:List (List AV)).length≤9223372036854775807 :=
   ⟨⟨rfl,trivial⟩,rfl,by rw [Lm,List.length_take,List.length_singleton]; omega,by rw [Lm,List.length_take,List.length_singleton]; omega⟩
  refine Yi b9 ?_;refine Yi (Nz rfl) ?_;have e9:=lnH_succ (linesL own kept) hs9;exact Yi rfl (show heapOf [(1000,.cells [.slice (.id 1001 1) (((linesL own kept).take i9).map encStr++[[vs s9]])]),(1001,.tok 1 ((((linesL own kept).take i9).map encStr).length+1))] hfree=heapOf (lnH (linesL own kept) (i9+1)) hfree by unfold lnH; rw [e9,List.map_append,List.length_append]; rfl)
 have hLe:(linesL own kept).take own.length=linesL own kept:=List.take_of_length_le (by rw [linesL_len]; omega);exact .of_eq (show AV.tup [.slice .none (((linesL own kept).take own.length).map encStr),vi 0]=linR x roots l target by
  rw [hLe]; unfold linR linesP;rw [if_neg (fun h=>h hee),if_neg htl,← hU,← how,← hd,hkp]; unfold kp; rw [List.take_of_length_le (by omega)])
end Go.Eng

namespace Go.Eng
open Go.Proofs
abbrev rlN (a b:Int):List AV:=[vs exB,vi a,vi b,vi 0,nilA,vs mt,vs mt,vs mt,vb false]
abbrev exC:List AV:=[.slice .none [encRl ⟨exA,⟨1,0,0⟩,[⟨exB,[(2000,1000000)]⟩],mt,mt,mt,false⟩,rlN 1 0,rlN 1 1],nilA]
theorem ex_sub:Sub (.agg exC) (ixV exIx []) :=
 have h (a b:Int):SubL (rlN a b) (encRl ⟨exB,⟨a,b,0⟩,[],mt,mt,mt,false⟩):=⟨.refl _,.refl _,.refl _,.refl _,.nil,.refl _,.refl _,.refl _,.refl _,trivial⟩
 Sub.agg ⟨Sub.slice ⟨⟨.refl _,.refl _,.refl _,.refl _,.refl _,.refl _,.refl _,.refl _,.refl _,trivial⟩,h 1 0,h 1 1,trivial⟩,.nil,trivial⟩
theorem ex_short:ShortP exIx exRoots exInf:=by
 have h:∀ p ∈ pathsU exIx exRoots exInf,p.size≤100:=by decide +kernel
 intro p hp
 have:=h p hp
 show p.size≤1048576;omega
set_option maxHeartbeats 4000000 in
theorem e11  : PC 11 [] (vb true):=by
 have ha:=awake38_true;unfold awake38 at ha;simp only [Bool.and_eq_true,decide_eq_true_eq] at ha;obtain ⟨⟨⟨⟨⟨⟨⟨b1,b2⟩,b3⟩,b4⟩,b5⟩,b6⟩,b7⟩,b8⟩:=ha;have h24:=e24 exIx [] exRoots exInf 6 ex_ck (by decide) ⟨by decide,by decide⟩ (by decide) ex_short;have h24:=h24.args (args':=[.agg exC,sl encRq exRoots,sl encNf exInf,vi 6]) ⟨ex_sub,.refl _,.refl _,.refl _,trivial⟩;have h18:=e18 exInf 5 (by decide) ⟨by decide,by decide⟩;have h21:=e21 exInf 2 (by decide) ⟨by decide,by decide⟩;rw [b7] at h18;have h17:=e17 [3,4,5] [3,4,5] (by decide);rw [decide_eq_true rfl] at h17;unfold linR at h24;rw [b1] at h24;generalize (linesP exIx exRoots exInf 6).1=L at h24 b2 b3 b4 b5 b6;generalize trimL exInf 2=M at h21 b8;have hg (k:Nat) (s:ByteArray) (h:L[k]?=some s):(L.map encStr)[k]?=some (encStr s):=by rw [List.getElem?_map,h]; rfl
 have hg2:=hg 2 _ b3;have hg3:=hg 3 _ b4;have hg5:=hg 5 _ b5;have hg6:=hg 6 _ b6;have hLl:((L.map encStr).length:Int)=7:=by rw [Lm,b2]; rfl
 have hMl:((M.map encNf).length:Int)=3:=by rw [Lm,b8]; rfl
 refine Ps ⟨[],[],[],[],[],[],[],[],[],[],[2,3,4,5,6,7]⟩ Tryz.func11 rfl (Nz rfl) ?_;refine Yi (Nz rfl) ?_;refine Xi ⟨[(1,.ref 1 0)],[(1,.cells [vi 1,vi 0,vi 0])],hfree⟩ (Yi ⟨Z1,Z1,Fh,Tv⟩ ?_)
 refine Xi ⟨[(1,.ref 1 0),(2,.slice (.id 12 2) [[vs ⟨#[98,47,118,49]⟩,.slice .none [[vi 2000,vi 1000000]]]])],[(1,.cells [vi 1,vi 0,vi 0]),(12,.tok 2 1)],hfree⟩ (Yi ⟨Z2,Z2,Fh,Tv⟩ ?_)
 refine Yi (Nz rfl) ?_;refine Yi (Nz rfl) ?_;refine Yi (Nz rfl) ?_;refine Xi ⟨[(3,.ref 3 0)],[(3,.cells [.slice (.id 20 9) [[vs ⟨#[97,47,118,49]⟩,vi 1,vi 0,vi 0,.slice .none [[vs ⟨#[98,47,118,49]⟩,.slice .none [[vi 2000,vi 1000000]]]],vs ⟨#[]⟩,vs ⟨#[]⟩,vs ⟨#[]⟩,vb false],[vs ⟨#[98,47,118,49]⟩,vi 1,vi 0,vi 0,.v (.slice none 0 0),vs ⟨#[]⟩,vs ⟨#[]⟩,vs ⟨#[]⟩,vb false],[vs ⟨#[98,47,118,49]⟩,vi 1,vi 1,vi 0,.v (.slice none 0 0),vs ⟨#[]⟩,vs ⟨#[]⟩,vs ⟨#[]⟩,vb false]],.v (.slice none 0 0)]),(20,.tok 9 3)],hfree⟩ (Yi ⟨Z1,Z2,Fh,Tv⟩ ?_)
 refine Xi ⟨[(3,.ref 3 0),(4,.slice (.id 25 2) [[vs ⟨#[97,47,118,49]⟩,.slice .none [[vi 0,vi 1000000]]]])],[(3,.cells [.slice (.id 20 9) [[vs ⟨#[97,47,118,49]⟩,vi 1,vi 0,vi 0,.slice .none [[vs ⟨#[98,47,118,49]⟩,.slice .none [[vi 2000,vi 1000000]]]],vs ⟨#[]⟩,vs ⟨#[]⟩,vs ⟨#[]⟩,vb false],[vs ⟨#[98,47,118,49]⟩,vi 1,vi 0,vi 0,.v (.slice none 0 0),vs ⟨#[]⟩,vs ⟨#[]⟩,vs ⟨#[]⟩,vb false],[vs ⟨#[98,47,118,49]⟩,vi 1,vi 1,vi 0,.v (.slice none 0 0),vs ⟨#[]⟩,vs ⟨#[]⟩,vs ⟨#[]⟩,vb false]],.v (.slice none 0 0)]),(20,.tok 9 3),(25,.tok 2 1)],hfree⟩ (Yi ⟨Z2,Z3,Fh,Tv⟩ ?_)
 refine Xi ⟨[(3,.ref 3 0),(4,.slice (.id 25 2) [[vs ⟨#[97,47,118,49]⟩,.slice .none [[vi 0,vi 1000000]]]]),(5,.slice (.id 33 6) [[vi 0,vs ⟨#[]⟩,vi 0,vi 0,vi 0,vi 0],[vi 2,vs ⟨#[97,47,118,49]⟩,vi 0,vi 0,vi 0,vi 0],[vi 3,vs ⟨#[97,47,118,49]⟩,vi 0,vi 0,vi 0,vi 1],[vi 1,vs ⟨#[97,47,118,49]⟩,vi 0,vi 0,vi 0,vi 0],[vi 2,vs ⟨#[98,47,118,49]⟩,vi 0,vi 0,vi 0,vi 0],[vi 3,vs ⟨#[98,47,118,49]⟩,vi 0,vi 0,vi 3,vi 4],[vi 3,vs ⟨#[97,47,118,49]⟩,vi 0,vi 0,vi 2,vi 5]])],[(3,.cells [.slice (.id 20 9) [[vs ⟨#[97,47,118,49]⟩,vi 1,vi 0,vi 0,.slice .none [[vs ⟨#[98,47,118,49]⟩,.slice .none [[vi 2000,vi 1000000]]]],vs ⟨#[]⟩,vs ⟨#[]⟩,vs ⟨#[]⟩,vb false],[vs ⟨#[98,47,118,49]⟩,vi 1,vi 0,vi 0,.v (.slice none 0 0),vs ⟨#[]⟩,vs ⟨#[]⟩,vs ⟨#[]⟩,vb false],[vs ⟨#[98,47,118,49]⟩,vi 1,vi 1,vi 0,.v (.slice none 0 0),vs ⟨#[]⟩,vs ⟨#[]⟩,vs ⟨#[]⟩,vb false]],.v (.slice none 0 0)]),(20,.tok 9 3),(25,.tok 2 1),(33,.tok 6 7)],hfree⟩ (Yi ⟨Z3,Z4,Fh,Tv⟩ ?_)
 refine Yi (Nz rfl) ?_;refine Xi .pure (Xi _ (Yi h24 ?_));refine Xi ⟨[(5,.slice (.id 33 6) [[vi 0,vs ⟨#[]⟩,vi 0,vi 0,vi 0,vi 0],[vi 2,vs ⟨#[97,47,118,49]⟩,vi 0,vi 0,vi 0,vi 0],[vi 3,vs ⟨#[97,47,118,49]⟩,vi 0,vi 0,vi 0,vi 1],[vi 1,vs ⟨#[97,47,118,49]⟩,vi 0,vi 0,vi 0,vi 0],[vi 2,vs ⟨#[98,47,118,49]⟩,vi 0,vi 0,vi 0,vi 0],[vi 3,vs ⟨#[98,47,118,49]⟩,vi 0,vi 0,vi 3,vi 4],[vi 3,vs ⟨#[97,47,118,49]⟩,vi 0,vi 0,vi 2,vi 5]]),(6,sl encStr L),(7,vi 0)],[(33,.tok 6 7)],hfree⟩ (Yi ⟨Z3,Z1,Fh,Tv⟩ ?_)
 refine Yi (fun _=>?_) (fun h=>absurd (by decide) h);refine Yi (fun h1=>?_) (fun h1=>?_)
 ·have h1:((L.map encStr).length:Int)=(7:Int):=h1;refine Xi (encStr exL2) (Yi ⟨by decide,hg2⟩ (Yi rfl ?_));refine Yi (fun h2=>?_) (fun h2=>?_)
  ·have h2:(exL2:ByteArray)=⟨#[51,46,32,97,47,118,49,32,49,46,48,46,48,32,105,115,32,110,101,101,100,101,100,32,40,102,114,111,109,32,49,32,97,110,100,32,50,41]⟩:=h2;refine Xi (encStr exL3) (Yi ⟨by decide,hg3⟩ (Yi rfl ?_));refine Yi (fun h3=>?_) (fun h3=>?_)
   ·have h3:(exL3:ByteArray)=⟨#[52,46,32,97,47,118,49,32,49,46,48,46,48,32,110,101,101,100,115,32,98,47,118,49,32,49,46,50,46,48,46,46,32,40,98,121,32,97,47,118,49,32,49,46,48,46,48,41]⟩:=h3;refine Xi (encStr exL5) (Yi ⟨by decide,hg5⟩ (Yi rfl ?_));refine Yi (fun h4=>?_) (fun h4=>?_)
    ·have h4:(exL5:ByteArray)=⟨#[54,46,32,97,47,118,49,32,49,46,48,46,48,32,105,115,32,105,109,112,111,115,115,105,98,108,101,32,40,102,114,111,109,32,52,32,97,110,100,32,53,41]⟩:=h4;refine Xi (encStr exL6) (Yi ⟨by decide,hg6⟩ (Yi rfl ?_));refine Yi (fun h5=>?_) (fun h5=>?_)
     ·have h5:(exL6:ByteArray)=⟨#[55,46,32,116,104,105,115,32,105,115,32,105,109,112,111,115,115,105,98,108,101,32,40,102,114,111,109,32,51,32,97,110,100,32,54,41]⟩:=h5;refine Xi .pure (Xi _ (Yi h18 ?_));refine Xi .pure (Xi _ (Yi h17 ?_));refine Xi .pure (Xi _ (Yi h21 ?_));refine Yi (fun h6=>?_) (fun h6=>?_)
      ·have h6:((M.map encNf).length:Int)=(3:Int):=h6;exact .refl _
      have h6:¬ (((M.map encNf).length:Int)=(3:Int)):=h6;exact absurd hMl h6
     have h5:¬ (exL6:ByteArray)=⟨#[55,46,32,116,104,105,115,32,105,115,32,105,109,112,111,115,115,105,98,108,101,32,40,102,114,111,109,32,51,32,97,110,100,32,54,41]⟩:=h5;exact absurd rfl h5
    have h4:¬ (exL5:ByteArray)=⟨#[54,46,32,97,47,118,49,32,49,46,48,46,48,32,105,115,32,105,109,112,111,115,115,105,98,108,101,32,40,102,114,111,109,32,52,32,97,110,100,32,53,41]⟩:=h4;exact absurd rfl h4
   have h3:¬ (exL3:ByteArray)=⟨#[52,46,32,97,47,118,49,32,49,46,48,46,48,32,110,101,101,100,115,32,98,47,118,49,32,49,46,50,46,48,46,46,32,40,98,121,32,97,47,118,49,32,49,46,48,46,48,41]⟩:=h3;exact absurd rfl h3
  have h2:¬ (exL2:ByteArray)=⟨#[51,46,32,97,47,118,49,32,49,46,48,46,48,32,105,115,32,110,101,101,100,101,100,32,40,102,114,111,109,32,49,32,97,110,100,32,50,41]⟩:=h2;exact absurd rfl h2
 have h1:¬ (((L.map encStr).length:Int)=(7:Int)):=h1;exact absurd hLl h1
end Go.Eng

namespace Go.Proofs
open Go.Shelf
def Tryz.layGrow_ren:Go.Shelf.Ren:=⟨fun | 4=>72 | n=>n,fun | 22=>23 | 25=>29 | 3=>3 | 4=>4 | 9=>9 | 20=>20 | 0=>0 | n=>n,fun | n=>n⟩
theorem Tryz.layGrow:Go.Proofs.Lays8.n4 Tryz.prog Tryz.layGrow_ren:={
 mixed:=by kernel_rfl
 f4:=⟨Tryz.f72.name,by decide,Tryz.func72.trans (congrArg some (by kernel_rfl))⟩
 t0:=Tryz.underlying0
 a0:=Tryz.isAgg0
 z0:=Tryz.sizeOf0
 v0:=Tryz.zeroValue0
 t3:=Tryz.underlying3
 a3:=Tryz.isAgg3
 z3:=Tryz.sizeOf3
 v3:=Tryz.zeroValue3
 t4:=Tryz.underlying4
 a4:=Tryz.isAgg4
 z4:=Tryz.sizeOf4
 v4:=Tryz.zeroValue4
 t9:=Tryz.underlying9
 a9:=Tryz.isAgg9
 z9:=Tryz.sizeOf9
 v9:=Tryz.zeroValue9
 t20:=Tryz.underlying20
 a20:=Tryz.isAgg20
 z20:=Tryz.sizeOf20
 v20:=Tryz.zeroValue20
 t22:=Tryz.underlying23
 a22:=Tryz.isAgg23
 z22:=Tryz.sizeOf23
 v22:=Tryz.zeroValue23 }
end Go.Proofs
