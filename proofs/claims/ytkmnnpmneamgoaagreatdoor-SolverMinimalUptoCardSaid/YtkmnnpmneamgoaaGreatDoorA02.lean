/- Lemmas for the claims of this seat, without a condition: part 2 (P8, P9, P10, P11, P12, Q1, Q2). -/
import Derived.Test.YtkmnnpmneamgoaaGreatDoorA01
import Derived.Lib.SplitLaws
import Derived.Lib.IndexBytes
namespace Go.Eng
def clipL (l:SpanL):SpanL:=(l.map clip).filter fun x=>decide (x.1<x.2)
theorem clipL_append (a b:SpanL):clipL (a++b)=clipL a++clipL b:=by unfold clipL; rw [List.map_append,List.filter_append]
theorem clipL_mem {l:SpanL} {x:Int × Int} (h:x ∈ clipL l):0≤x.1∧x.1<x.2∧x.2≤1000000:=by
 unfold clipL at h;rw [List.mem_filter,List.mem_map] at h;obtain ⟨⟨y,_,rfl⟩,h2⟩:=h;have h2:=of_decide_eq_true h2;refine ⟨?_,h2,?_⟩ <;> simp only [clip] <;> omega
theorem clipL_any (l:SpanL) (p:Int):(clipL l).any (inSpan p)=has l p:=by
 rw [← canon_any]
 induction l with
 | nil=>rfl
 | cons x r ih =>
  have e:clipL (x :: r)=(if (clip x).1<(clip x).2 then [clip x] else [])++clipL r:=by
   unfold clipL;rw [List.map_cons,List.filter_cons]
   by_cases h:(clip x).1<(clip x).2 <;> simp [h]
  have ec:canon (x :: r)=if (clip x).1<(clip x).2 then addS (clip x) (canon r) else canon r:=rfl
  rw [e,List.any_append,ih,ec]
  by_cases h:(clip x).1<(clip x).2
  ·rw [if_pos h,if_pos h,addS_any _ p (canon_canon r) h]; simp
  ·rw [if_neg h,if_neg h]; simp
theorem canonF_iff:∀ {l:SpanL} {lo:Int},CanonF lo l↔(∀ y ∈ l,lo≤y.1∧y.1<y.2∧y.2≤1000000)∧l.Pairwise fun a b=>a.2<b.1
 | [],lo=>by simp [CanonF]
 | y :: r,lo=>by
  rw [List.pairwise_cons];constructor
  ·intro h;have hl:=h.low;refine ⟨hl,fun z hz=>?_,((canonF_iff (l:=r)).1 h.2.2.2).2⟩
   have:=h.2.2.2.low z hz; omega
  ·intro ⟨h1,h2,h3⟩;have hy:=h1 y (List.mem_cons_self ..);refine ⟨hy.1,hy.2.1,hy.2.2,canonF_iff.2 ⟨fun z hz=>?_,h3⟩⟩
   have:=h1 z (List.mem_cons_of_mem _ hz)
   have:=h2 z hz
   omega
def stepR (r:SpanL) (x:Int × Int):SpanL:=match r with
 | []=>[x]
 | y :: t=>if x.1≤y.2 then (y.1,max y.2 x.2) :: t else x :: y :: t
def mergeR (s:SpanL):SpanL:=s.foldl stepR []
theorem mergeR_take (s:SpanL) (i:Nat) (h:i<s.length):mergeR (s.take (i+1))=stepR (mergeR (s.take i)) s[i]:=by
 unfold mergeR;rw [List.take_add_one,List.getElem?_eq_getElem h,List.foldl_append]; rfl
theorem stepR_len (r:SpanL) (x:Int × Int):(stepR r x).length≤r.length+1∧r.length≤(stepR r x).length∧0<(stepR r x).length:=by
 unfold stepR;split
 ·simp
 ·split <;> simp
theorem mergeR_len (s:SpanL):∀ i,i≤s.length→(mergeR (s.take i)).length≤i∧(0<i→0<(mergeR (s.take i)).length):=by
 intro i
 induction i with
 | zero=>intro _; simp [mergeR]
 | succ i ih =>
  intro h;rw [mergeR_take s i (by omega)]
  have:=stepR_len (mergeR (s.take i)) s[i]
  have:=ih (by omega)
  omega
structure RInv (r done:SpanL):Prop where
 ok:∀ y ∈ r,0≤y.1∧y.1<y.2∧y.2≤1000000
 pw:r.Pairwise fun a b=>b.2<a.1
 has:∀ p,r.any (inSpan p)=done.any (inSpan p)
 first:∀ y t,r=y :: t→∃ x ∈ done,y.1=x.1
theorem stepR_inv {r done:SpanL} {x:Int × Int} (h:RInv r done) (hx:0≤x.1∧x.1<x.2∧x.2≤1000000) (hs:∀ y ∈ done,y.1≤x.1):RInv (stepR r x) (done++[x]):=by
 unfold stepR;split
 ·refine ⟨fun y hy=>?_,by simp,fun p=>?_,fun y t e=>?_⟩
  ·rw [List.mem_singleton.1 hy]; exact hx
  ·rw [List.any_append,← h.has]; rfl
  ·cases e; exact ⟨x,by simp,rfl⟩
 ·rename_i y t;have hy:=h.ok y (List.mem_cons_self ..);obtain ⟨pw1,pw2⟩:=List.pairwise_cons.1 h.pw;obtain ⟨z,hz,e⟩:=h.first y t rfl
  have hyx:=hs z hz;split
  ·rename_i hle;refine ⟨fun u hu=>?_,List.pairwise_cons.2 ⟨pw1,pw2⟩,fun p=>?_,fun u t' e'=>?_⟩
   ·rcases List.mem_cons.1 hu with rfl | hu
    ·exact ⟨hy.1,by dsimp only; omega,by dsimp only; omega⟩
    ·exact h.ok u (List.mem_cons_of_mem _ hu)
   ·rw [List.any_append,← h.has,List.any_cons,List.any_cons,List.any_cons,List.any_nil,Bool.or_false]
    have:inSpan p (y.1,max y.2 x.2)=(inSpan p y||inSpan p x):=by
     simp only [inSpan];rw [Bool.eq_iff_iff];simp only [Bool.and_eq_true,Bool.or_eq_true,decide_eq_true_eq];omega
    rw [this];cases inSpan p y <;> cases inSpan p x <;> cases t.any (inSpan p) <;> rfl
   ·cases e'; exact ⟨z,List.mem_append_left _ hz,e⟩
  ·rename_i hle;refine ⟨fun u hu=>?_,List.pairwise_cons.2 ⟨fun u hu=>?_,h.pw⟩,fun p=>?_,fun u t' e'=>?_⟩
   ·rcases List.mem_cons.1 hu with rfl | hu
    ·exact hx
    ·exact h.ok u hu
   ·rcases List.mem_cons.1 hu with rfl | hu
    ·omega
    ·have:=pw1 u hu; omega
   ·rw [List.any_append,← h.has,List.any_cons,List.any_cons,List.any_cons,List.any_nil,Bool.or_false];cases inSpan p y <;> cases inSpan p x <;> cases t.any (inSpan p) <;> rfl
   ·cases e'; exact ⟨x,by simp,rfl⟩
theorem mergeR_inv {s:SpanL} (hok:∀ y ∈ s,0≤y.1∧y.1<y.2∧y.2≤1000000) (hs:s.Pairwise fun a b=>a.1≤b.1):∀ i,i≤s.length→RInv (mergeR (s.take i)) (s.take i):=by
 intro i
 induction i with
 | zero=>intro _; exact ⟨fun _ h=>by simp [mergeR] at h,by simp [mergeR],fun p=>by simp [mergeR],fun y t e=>by simp [mergeR] at e⟩
 | succ i ih =>
  intro h;have hi:i<s.length:=by omega
  rw [mergeR_take s i hi];have e:s.take (i+1)=s.take i++[s[i]]:=by rw [List.take_add_one,List.getElem?_eq_getElem hi]; rfl
  rw [e];refine stepR_inv (ih (by omega)) (hok _ (List.getElem_mem hi)) fun y hy=>?_;obtain ⟨j,hj,rfl⟩:=List.mem_iff_getElem.1 hy;rw [List.getElem_take];rw [List.length_take] at hj;exact (List.pairwise_iff_getElem.1 hs) j i (by omega) hi (by omega)
theorem canon_of_sorted {l s:SpanL} (hp:s.Perm (clipL l)) (hs:s.Pairwise fun a b=>a.1≤b.1):(mergeR s).reverse=canon l:=by
 have hi:=mergeR_inv (s:=s) (fun y hy=>clipL_mem (hp.mem_iff.1 hy)) hs s.length (Nat.le_refl _);rw [List.take_length] at hi;have hc:Canon (mergeR s).reverse:=by
  unfold Canon;rw [canonF_iff];refine ⟨fun y hy=>hi.ok y (List.mem_reverse.1 hy),?_⟩;rw [List.pairwise_reverse]; exact hi.pw
 refine canon_eq hc fun p=>?_;rw [has_of_canon hc,List.any_reverse,hi.has,← clipL_any];rw [Bool.eq_iff_iff,List.any_eq_true,List.any_eq_true];constructor
 ·rintro ⟨y,h1,h2⟩; exact ⟨y,hp.mem_iff.1 h1,h2⟩
 ·rintro ⟨y,h1,h2⟩; exact ⟨y,hp.mem_iff.2 h1,h2⟩
end Go.Eng

namespace Go.Eng
-- maps from numbers to numbers,as lists in the order in which they are met
def valM (m:List (Int × Int)) (k:Int):Int:=match m.find? (fun p=>decide (p.1=k)) with | some p=>p.2 | none=>0
def putM (m:List (Int × Int)) (k v:Int):List (Int × Int):=if m.any (fun p=>decide (p.1=k)) then m.map (fun p=>if p.1=k then (k,v) else p) else m++[(k,v)]
theorem valM_cons (p:Int × Int) (m:List (Int × Int)) (k:Int):valM (p :: m) k=if p.1=k then p.2 else valM m k:=by
 unfold valM; rw [List.find?_cons]; by_cases h:p.1=k <;> simp [h]
theorem valM_put (m:List (Int × Int)) (k v j:Int):valM (putM m k v) j=if j=k then v else valM m j:=by
 unfold putM;split
 ·rename_i h
  induction m with
  | nil=>simp at h
  | cons p m ih =>
   rw [List.map_cons,valM_cons,valM_cons]
   by_cases e:p.1=k
   ·rw [if_pos e];dsimp only
    by_cases ej:j=k
    ·subst ej; simp
    ·rw [if_neg (fun c=>ej c.symm),if_neg ej,if_neg (fun c=>ej (c.symm.trans e))]
     by_cases hm:(m.any fun p=>decide (p.1=k))=true
     ·rw [ih hm,if_neg ej]
     ·have:∀ q ∈ m,q.1≠k:=fun q hq e=>hm (List.any_eq_true.2 ⟨q,hq,by simp [e]⟩)
      have:m.map (fun p=>if p.1=k then (k,v) else p)=m:=by
       conv=>rhs; rw [← List.map_id m]
       exact List.map_congr_left fun q hq=>by simp [this q hq]
      rw [this]
   ·rw [if_neg e];have hm:(m.any fun p=>decide (p.1=k))=true:=by simpa [e] using h
    rw [ih hm]
    by_cases ej:j=k
    ·subst ej; simp [e]
    ·simp [ej]
 ·rename_i h;have hn:∀ q ∈ m,q.1≠k:=fun q hq e=>h (List.any_eq_true.2 ⟨q,hq,by simp [e]⟩)
  induction m with
  | nil =>
   rw [List.nil_append,valM_cons]
   by_cases ej:j=k
   ·simp [ej]
   ·have:¬ k=j:=fun c=>ej c.symm
    simp [ej,this]
  | cons p m ih =>
   rw [List.cons_append,valM_cons,valM_cons];have e:=hn p (List.mem_cons_self ..);have ih:=ih (by simpa [e] using h) fun q hq=>hn q (List.mem_cons_of_mem _ hq)
   by_cases ep:p.1=j
   ·have:¬ j=k:=fun c=>e (ep.trans c)
    simp [ep,this]
   ·simp only [ep,if_false]; exact ih
def keysM (m:List (Int × Int)):List Int:=m.map (·.1)
theorem keysM_put (m:List (Int × Int)) (k v:Int):keysM (putM m k v)=if k ∈ keysM m then keysM m else keysM m++[k]:=by
 unfold putM keysM;have e:(m.any fun p=>decide (p.1=k))=decide (k ∈ m.map (·.1)):=by
  rw [Bool.eq_iff_iff]; simp only [List.any_eq_true,decide_eq_true_eq,List.mem_map]
 rw [e]
 by_cases h:k ∈ m.map (·.1)
 ·simp only [h,decide_true,if_true,List.map_map];apply List.map_congr_left;intro p _;simp only [Function.comp];split
  ·rename_i e; exact e.symm
  ·rfl
 ·simp [h]
theorem keysM_nodup {m:List (Int × Int)} (h:(keysM m).Nodup) (k v:Int):(keysM (putM m k v)).Nodup:=by
 rw [keysM_put];split
 ·exact h
 ·rename_i hn;rw [List.nodup_append];exact ⟨h,by simp,fun a ha b hb e=>by subst e; rw [List.mem_singleton.1 hb] at ha; exact hn ha⟩
theorem keysM_mem (m:List (Int × Int)) (k v j:Int):j ∈ keysM (putM m k v)↔j=k∨j ∈ keysM m:=by
 rw [keysM_put];split
 ·rename_i h;constructor
  ·exact .inr
  ·rintro (rfl | h')
   ·exact h
   ·exact h'
 ·simp [or_comm]
theorem valM_mem {m:List (Int × Int)} (h:(keysM m).Nodup) {p:Int × Int} (hp:p ∈ m):valM m p.1=p.2:=by
 induction m with
 | nil=>cases hp
 | cons q m ih =>
  rw [valM_cons];unfold keysM at h ih;rw [List.map_cons,List.nodup_cons] at h;rcases List.mem_cons.1 hp with rfl | hp
  ·simp
  ·have:¬ q.1=p.1:=fun e=>h.1 (e▸List.mem_map.2 ⟨p,hp,rfl⟩)
   rw [if_neg this]; exact ih h.2 hp
theorem valM_not {m:List (Int × Int)} {k:Int} (h:k ∉ keysM m):valM m k=0:=by
 unfold valM
 have:m.find? (fun p=>decide (p.1=k))=none:=by
  rw [List.find?_eq_none];intro p hp;simp only [decide_eq_true_eq];exact fun e=>h (List.mem_map.2 ⟨p,hp,e⟩)
 rw [this]
-- counting
def cF (S:SpanL) (k:Int):Nat:=S.countP fun x=>decide (x.1=k)
def cT (S:SpanL) (k:Int):Nat:=S.countP fun x=>decide (x.2=k)
def lF (S:SpanL) (k:Int):Nat:=S.countP fun x=>decide (x.1≤k)
def lT (S:SpanL) (k:Int):Nat:=S.countP fun x=>decide (x.2≤k)
theorem countP_split {α:Type} {p q r:α→Bool} : ∀ {l:List α},(∀ x ∈ l,(p x=true↔q x=true∨r x=true)∧¬ (q x=true∧r x=true))→l.countP p=l.countP q+l.countP r
 | [],_=>rfl
 | x :: l,h=>by
  have ih:=countP_split fun y hy=>h y (List.mem_cons_of_mem _ hy);obtain ⟨h1,h2⟩:=h x (List.mem_cons_self ..);rw [List.countP_cons,List.countP_cons,List.countP_cons,ih];cases hp:p x <;> cases hq:q x <;> cases hr:r x <;> simp_all <;> omega
structure ChInv (m:List (Int × Int)) (S:SpanL):Prop where
 nd:(keysM m).Nodup
 val:∀ k,valM m k=(cF S k:Int) - cT S k
 keys:0 ∈ keysM m∧1000000 ∈ keysM m∧∀ x ∈ S,x.1 ∈ keysM m∧x.2 ∈ keysM m
 rng:∀ k ∈ keysM m,0≤k∧k≤1000000
def ch0:List (Int × Int):=[(0,0),(1000000,0)]
theorem ch0_inv:ChInv ch0 []:=⟨by decide,fun k=>by
  unfold ch0; rw [valM_cons,valM_cons]; simp [valM,cF,cT],⟨by decide,by decide,fun _ h=>by cases h⟩,fun k hk=>by
  unfold ch0 keysM at hk; simp at hk; omega⟩
def stepM (m:List (Int × Int)) (x:Int × Int):List (Int × Int):=putM (putM m x.1 (valM m x.1+1)) x.2 (valM (putM m x.1 (valM m x.1+1)) x.2 - 1)
theorem stepM_inv {m:List (Int × Int)} {S:SpanL} {x:Int × Int} (h:ChInv m S) (hx:0≤x.1∧x.1<x.2∧x.2≤1000000):ChInv (stepM m x) (S++[x]):=by
 unfold stepM;refine ⟨keysM_nodup (keysM_nodup h.nd _ _) _ _,fun k=>?_,⟨?_,?_,fun y hy=>?_⟩,fun k hk=>?_⟩
 ·rw [valM_put,valM_put,valM_put,h.val,h.val,h.val];unfold cF cT;simp only [List.countP_append,List.countP_singleton,decide_eq_true_eq]
  by_cases e1:k=x.2
  ·subst e1
   have:¬ x.2=x.1:=by omega
   have:¬ x.1=x.2:=by omega
   simp [*]; omega
  ·by_cases e2:k=x.1
   ·subst e2
    have:¬ x.2=x.1:=by omega
    have:¬ x.1=x.2:=by omega
    simp [*]; omega
   ·have a1:¬ x.1=k:=fun c=>e2 c.symm;have a2:¬ x.2=k:=fun c=>e1 c.symm;simp [e1,e2,a1,a2]
 ·rw [keysM_mem,keysM_mem]; exact .inr (.inr h.keys.1)
 ·rw [keysM_mem,keysM_mem]; exact .inr (.inr h.keys.2.1)
 ·simp only [keysM_mem];rcases List.mem_append.1 hy with hy | hy
  ·have:=h.keys.2.2 y hy
   exact ⟨.inr (.inr this.1),.inr (.inr this.2)⟩
  ·rw [List.mem_singleton.1 hy]; exact ⟨.inr (.inl rfl),.inl rfl⟩
 ·rw [keysM_mem,keysM_mem] at hk;rcases hk with rfl | rfl | hk
  ·omega
  ·omega
  ·exact h.rng k hk
def sumM (m:List (Int × Int)) (B:List Int):Int:=(B.map (valM m)).foldl (·+·) 0
theorem sumM_take (m:List (Int × Int)) (B:List Int) (i:Nat) (h:i<B.length):sumM m (B.take (i+1))=sumM m (B.take i)+valM m B[i]:=by
 unfold sumM;rw [List.take_add_one,List.getElem?_eq_getElem h,List.map_append,List.foldl_append];simp only [Option.toList_some,List.map_cons,List.map_nil,List.foldl_cons,List.foldl_nil]
structure BInv (B:List Int) (m:List (Int × Int)):Prop where
 perm:B.Perm (keysM m)
 srt:B.Pairwise fun a b=>a<b
theorem sumM_eq {m:List (Int × Int)} {S:SpanL} {B:List Int} (h:ChInv m S) (hB:BInv B m):∀ i (hi:i<B.length),sumM m (B.take (i+1))=(lF S B[i]:Int) - lT S B[i]:=by
 have mem:∀ k,k ∈ keysM m→∃ j,∃ hj:j<B.length,B[j]=k:=fun k hk=>by
  have:=hB.perm.mem_iff.2 hk
  obtain ⟨j,hj,e⟩:=List.mem_iff_getElem.1 this;exact ⟨j,hj,e⟩
 have lt:∀ i j (hi:i<B.length) (hj:j<B.length),i<j→B[i]<B[j]:=fun i j hi hj hij=>(List.pairwise_iff_getElem.1 hB.srt) i j hi hj hij;intro i
 induction i with
 | zero =>
  intro hi;rw [sumM_take m B 0 hi,h.val]
  have:sumM m (B.take 0)=0:=by simp [sumM]
  rw [this];have low:∀ k ∈ keysM m,B[0]≤k:=fun k hk=>by
   obtain ⟨j,hj,rfl⟩:=mem k hk;cases j with
   | zero=>exact Int.le_refl _
   | succ j=>have:=lt 0 (j+1) hi hj (by omega); omega
  have e1:lF S B[0]=cF S B[0]:=by
   unfold lF cF;apply List.countP_congr;intro x hx
   have:=low _ (h.keys.2.2 x hx).1
   simp only [decide_eq_true_eq]; omega
  have e2:lT S B[0]=cT S B[0]:=by
   unfold lT cT;apply List.countP_congr;intro x hx
   have:=low _ (h.keys.2.2 x hx).2
   simp only [decide_eq_true_eq]; omega
  rw [e1,e2]; omega
 | succ i ih =>
  intro hi;rw [sumM_take m B (i+1) hi,ih (by omega),h.val];have nb:∀ k ∈ keysM m,k≤B[i+1]↔k≤B[i]∨k=B[i+1]:=fun k hk=>by
   obtain ⟨j,hj,rfl⟩:=mem k hk;have l0:=lt i (i+1) (by omega) hi (by omega);rcases Nat.lt_trichotomy j (i+1) with c | c | c
   ·have:B[j]≤B[i]:=by
     rcases Nat.lt_or_ge j i with d | d
     ·have:=lt j i hj (by omega) d; omega
     ·have:j=i:=by omega
      subst this; exact Int.le_refl _
    omega
   ·subst c; omega
   ·have:=lt (i+1) j hi hj c; omega
  have l0:=lt i (i+1) (by omega) hi (by omega);have e1:lF S B[i+1]=lF S B[i]+cF S B[i+1]:=by
   unfold lF cF;apply countP_split;intro x hx
   have:=nb _ (h.keys.2.2 x hx).1
   simp only [decide_eq_true_eq]; omega
  have e2:lT S B[i+1]=lT S B[i]+cT S B[i+1]:=by
   unfold lT cT;apply countP_split;intro x hx
   have:=nb _ (h.keys.2.2 x hx).2
   simp only [decide_eq_true_eq]; omega
  rw [e1,e2]; omega
theorem cover_eq {S:SpanL} (hS:∀ x ∈ S,x.1<x.2) (p:Int):(lF S p:Int) - lT S p=(S.countP (inSpan p):Nat):=by
 have:lF S p=S.countP (inSpan p)+lT S p:=by
  unfold lF lT;apply countP_split;intro x hx
  have:=hS x hx
  simp only [inSpan,Bool.and_eq_true,decide_eq_true_eq]; omega
 omega
theorem countP_canon:∀ {l:SpanL} {lo:Int} (p:Int),CanonF lo l→l.countP (inSpan p)=if l.any (inSpan p) then 1 else 0
 | [],_,_,_=>rfl
 | y :: r,lo,p,⟨h1,h2,h3,h4⟩=>by
  rw [List.countP_cons,countP_canon p h4,List.any_cons];cases hy:inSpan p y with
  | false=>rw [Bool.false_or]; simp
  | true =>
   have:=inSpan_iff.1 hy
   have:r.any (inSpan p)=false:=by
    rw [Bool.eq_false_iff]; intro hr; have:=any_low h4 hr; omega
   simp [this]
theorem countP_flat:∀ (l:List SpanL) (p:Int),((l.map canon).flatten).countP (inSpan p)=cnt l p
 | [],_=>rfl
 | s :: l,p=>by
  rw [List.map_cons,List.flatten_cons,List.countP_append,countP_flat l p,countP_canon p (canon_canon s),canon_any];unfold cnt;rw [List.countP_cons]; omega
def keptB (keep:Nat→Bool) (m:List (Int × Int)) (B:List Int):Nat→SpanL
 | 0=>[]
 | i+1=>keptB keep m B i++(match B[i]?,B[i+1]? with
  | some a,some b=>if keep (sumM m (B.take (i+1))).toNat then [(a,b)] else []
  | _,_=>[])
theorem keptB_mem {keep:Nat→Bool} {m:List (Int × Int)} {B:List Int} {x:Int × Int} : ∀ {n:Nat},x ∈ keptB keep m B n↔∃ i,i<n∧∃ (h1:i<B.length) (h2:i+1<B.length),keep (sumM m (B.take (i+1))).toNat=true∧x=(B[i],B[i+1])
 | 0=>by simp [keptB]
 | n+1=>by
  unfold keptB;rw [List.mem_append,keptB_mem (n:=n)];constructor
  ·rintro (⟨i,h1,h2⟩ | h)
   ·exact ⟨i,by omega,h2⟩
   ·split at h
    ·rename_i a b ha hb;obtain ⟨h1,e1⟩:=List.getElem?_eq_some_iff.1 ha;obtain ⟨h2,e2⟩:=List.getElem?_eq_some_iff.1 hb;split at h
     ·rename_i hk;refine ⟨n,by omega,h1,h2,hk,?_⟩;rw [List.mem_singleton.1 h,e1,e2]
     ·cases h
    ·cases h
  ·rintro ⟨i,h1,h2,h3,h4,rfl⟩
   by_cases e:i=n
   ·subst e;refine .inr ?_;rw [List.getElem?_eq_getElem h2,List.getElem?_eq_getElem h3];simp [h4]
   ·exact .inl ⟨i,by omega,h2,h3,h4,rfl⟩
theorem bounds_cover {B:List Int} (hs:B.Pairwise fun a b=>a<b) {p:Int} : ∀ (n:Nat) (h0:0<B.length) (hn:n<B.length),B[0]≤p→p<B[n]→∃ i,∃ (h1:i<B.length) (h2:i+1<B.length),B[i]≤p∧p<B[i+1]
 | 0,h0,hn,h1,h2=>by omega
 | n+1,h0,hn,h1,h2=>by
  by_cases e:B[n]≤p
  ·exact ⟨n,by omega,hn,e,h2⟩
  ·exact bounds_cover hs n h0 (by omega) h1 (by omega)
theorem kept_has {keep:Nat→Bool} {l:List SpanL} {m:List (Int × Int)} {B:List Int} (h:ChInv m (l.map canon).flatten) (hB:BInv B m) (p:Int):has (keptB keep m B (B.length - 1)) p=(inPl p&&keep (cnt l p)):=by
 have hS:∀ x ∈ (l.map canon).flatten,x.1<x.2:=fun x hx=>by
  obtain ⟨s,hs,hx⟩:=List.mem_flatten.1 hx;obtain ⟨t,_,rfl⟩:=List.mem_map.1 hs;exact ((canon_canon t).low x hx).2.1
 have mem:∀ k,k ∈ keysM m→∃ j,∃ hj:j<B.length,B[j]=k:=fun k hk=>by
  obtain ⟨j,hj,e⟩:=List.mem_iff_getElem.1 (hB.perm.mem_iff.2 hk);exact ⟨j,hj,e⟩
 have lt:∀ i j (hi:i<B.length) (hj:j<B.length),i<j→B[i]<B[j]:=fun i j hi hj hij=>(List.pairwise_iff_getElem.1 hB.srt) i j hi hj hij;have rng:∀ i (hi:i<B.length),0≤B[i]∧B[i]≤1000000:=fun i hi=>h.rng _ (hB.perm.mem_iff.1 (List.getElem_mem hi))
 -- between two bounds
 have between:∀ i (h1:i<B.length) (h2:i+1<B.length),B[i]≤p→p<B[i+1]→(sumM m (B.take (i+1))).toNat=cnt l p:=fun i h1 h2 a b=>by
  have same:∀ k ∈ keysM m,k≤B[i]↔k≤p:=fun k hk=>by
   obtain ⟨j,hj,rfl⟩:=mem k hk;constructor
   ·intro c; omega
   ·intro c;rcases Nat.lt_or_ge i j with d | d
    ·rcases Nat.lt_or_ge (i+1) j with f | f
     ·have:=lt (i+1) j h2 hj f; omega
     ·have:j=i+1:=by omega
      subst this; omega
    ·rcases Nat.lt_or_ge j i with f | f
     ·have:=lt j i hj h1 f; omega
     ·have:j=i:=by omega
      subst this; exact Int.le_refl _
  have e1:lF (l.map canon).flatten B[i]=lF (l.map canon).flatten p:=by
   unfold lF;apply List.countP_congr;intro x hx
   have:=same _ (h.keys.2.2 x hx).1
   simp only [decide_eq_true_eq]; exact this
  have e2:lT (l.map canon).flatten B[i]=lT (l.map canon).flatten p:=by
   unfold lT;apply List.countP_congr;intro x hx
   have:=same _ (h.keys.2.2 x hx).2
   simp only [decide_eq_true_eq]; exact this
  rw [sumM_eq h hB i h1,e1,e2,cover_eq hS,countP_flat]; simp
 rw [Bool.eq_iff_iff];constructor
 ·intro hh;have hin:=has_in hh;unfold has at hh;simp only [hin,decide_true,Bool.true_and] at hh;obtain ⟨x,hx,hp⟩:=List.any_eq_true.1 hh;obtain ⟨i,_,h1,h2,hk,rfl⟩:=keptB_mem.1 hx
  have:=inSpan_iff.1 hp
  dsimp only at this;rw [← between i h1 h2 this.1 this.2];simp [inPl,hin,hk]
 ·intro hh;simp only [Bool.and_eq_true,inPl,decide_eq_true_eq] at hh;obtain ⟨⟨p0,p1⟩,hk⟩:=hh;obtain ⟨j0,hj0,e0⟩:=mem 0 h.keys.1;obtain ⟨j1,hj1,e1⟩:=mem 1000000 h.keys.2.1;have hb0:B[0]'(by omega)≤p:=by
   have:B[0]'(by omega)≤0:=by
    cases j0 with
    | zero=>omega
    | succ j=>have:=lt 0 (j+1) (by omega) hj0 (by omega); omega
   omega
  obtain ⟨i,h1,h2,a,b⟩:=bounds_cover hB.srt j1 (by omega) hj1 hb0 (by omega);unfold has;simp only [p0,p1,decide_true,Bool.true_and];exact List.any_eq_true.2 ⟨(B[i],B[i+1]),keptB_mem.2 ⟨i,by omega,h1,h2,by rw [between i h1 h2 a b]; exact hk,rfl⟩,inSpan_iff.2 ⟨a,b⟩⟩
theorem sumM_rng {l:List SpanL} {m:List (Int × Int)} {B:List Int} (h:ChInv m (l.map canon).flatten) (hB:BInv B m) (i:Nat) (hi:i<B.length):0≤sumM m (B.take (i+1))∧sumM m (B.take (i+1))≤l.length:=by
 have hS:∀ x ∈ (l.map canon).flatten,x.1<x.2:=fun x hx=>by
  obtain ⟨s,hs,hx⟩:=List.mem_flatten.1 hx;obtain ⟨t,_,rfl⟩:=List.mem_map.1 hs;exact ((canon_canon t).low x hx).2.1
 rw [sumM_eq h hB i hi,cover_eq hS,countP_flat]
 have:cnt l B[i]≤l.length:=List.countP_le_length
 omega
end Go.Eng

namespace Go.Eng
def putT (m:List Tm) (t:Tm):List Tm:=if m.any (fun u=>decide (u.path=t.path)) then m.map (fun u=>if u.path=t.path then t else u) else m++[t]
def stepT (m:List Tm) (t:Tm):List Tm:=putT m (putO (findT m t.path) t)
def mergeM (l:List Tm):List Tm:=l.foldl stepT []
theorem findT_put (t:Tm) (p:ByteArray):∀ m:List Tm,findT (putT m t) p=if t.path=p then some t else findT m p:=by
 intro m;unfold putT
 by_cases h:(m.any fun u=>decide (u.path=t.path))=true
 ·rw [if_pos h]
  induction m with
  | nil=>simp at h
  | cons u m ih =>
   rw [List.map_cons,findT_cons,findT_cons]
   by_cases e:u.path=t.path
   ·rw [if_pos e]
    by_cases ep:t.path=p
    ·simp [ep]
    ·rw [if_neg ep,if_neg ep,if_neg (fun c=>ep (e.symm.trans c))]
     by_cases hm:(m.any fun u=>decide (u.path=t.path))=true
     ·rw [ih hm,if_neg ep]
     ·have:∀ q ∈ m,q.path≠t.path:=fun q hq c=>hm (List.any_eq_true.2 ⟨q,hq,by simp [c]⟩)
      have:m.map (fun u=>if u.path=t.path then t else u)=m:=by
       conv=>rhs; rw [← List.map_id m]
       exact List.map_congr_left fun q hq=>by simp [this q hq]
      rw [this]
   ·rw [if_neg e];have hm:(m.any fun u=>decide (u.path=t.path))=true:=by simpa [e] using h
    rw [ih hm]
    by_cases ep:t.path=p
    ·subst ep; simp [e]
    ·simp [ep]
 ·rw [if_neg h];have hn:∀ q ∈ m,q.path≠t.path:=fun q hq e=>h (List.any_eq_true.2 ⟨q,hq,by simp [e]⟩)
  clear h
  induction m with
  | nil=>rw [List.nil_append,findT_cons]
  | cons u m ih =>
   rw [List.cons_append,findT_cons,findT_cons,ih fun q hq=>hn q (List.mem_cons_of_mem _ hq)]
   have:=hn u (List.mem_cons_self ..)
   by_cases e:u.path=p
   ·have:¬ t.path=p:=fun c=>this (e.trans c.symm)
    simp [e,this]
   ·simp [e]
def pathsT (m:List Tm):List ByteArray:=m.map (·.path)
open Classical in
theorem pathsT_put (m:List Tm) (t:Tm):pathsT (putT m t)=if t.path ∈ pathsT m then pathsT m else pathsT m++[t.path]:=by
 unfold putT pathsT;have e:(m.any fun u=>decide (u.path=t.path))=true↔t.path ∈ m.map (·.path):=by
  simp only [List.any_eq_true,decide_eq_true_eq,List.mem_map]
 by_cases h:t.path ∈ m.map (·.path)
 ·rw [if_pos (e.2 h),if_pos h,List.map_map];apply List.map_congr_left;intro p _;simp only [Function.comp];split
  ·rename_i e; exact e.symm
  ·rfl
 ·rw [if_neg (fun c=>h (e.1 c)),if_neg h,List.map_append]; rfl
theorem nodup_put {m:List Tm} (h:(pathsT m).Nodup) (t:Tm):(pathsT (putT m t)).Nodup:=by
 rw [pathsT_put];split
 ·exact h
 ·rename_i hn;rw [List.nodup_append];exact ⟨h,by simp,fun a ha b hb e=>by subst e; rw [List.mem_singleton.1 hb] at ha; exact hn ha⟩
theorem mergeM_take (l:List Tm) (i:Nat) (h:i<l.length):mergeM (l.take (i+1))=stepT (mergeM (l.take i)) l[i]:=by
 unfold mergeM; rw [List.take_add_one,List.getElem?_eq_getElem h,List.foldl_append]; rfl
theorem foldlM_nodup:∀ (l m:List Tm),(pathsT m).Nodup→(pathsT (l.foldl stepT m)).Nodup
 | [],_,h=>h
 | _ :: l,_,h=>foldlM_nodup l _ (nodup_put h _)
theorem mergeM_nodup (l:List Tm):(pathsT (mergeM l)).Nodup:=foldlM_nodup l [] .nil
theorem findT_stepT (m:List Tm) (t:Tm) (p:ByteArray):findT (stepT m t) p=stepO p (findT m p) t:=by
 unfold stepT stepO;have hp:(putO (findT m t.path) t).path=t.path:=putO_path _ _ fun u h=>findT_path h;rw [findT_put,hp]
 by_cases e:t.path=p
 ·rw [if_pos e,if_pos e,e]
 ·rw [if_neg e,if_neg e]
theorem findT_mergeM (p:ByteArray):∀ (l m:List Tm),findT (l.foldl stepT m) p=l.foldl (stepO p) (findT m p)
 | [],_=>rfl
 | t :: l,m=>by rw [List.foldl_cons,List.foldl_cons,findT_mergeM p l,findT_stepT]
theorem find_merge (l:List Tm) (p:ByteArray):findT (mergeM l) p=findT (mergeT l) p:=by
 unfold mergeM; rw [findT_mergeM,findT_mergeT]; rfl
theorem findT_nodup {m:List Tm} (h:(pathsT m).Nodup) {t:Tm} : t ∈ m↔findT m t.path=some t:=by
 constructor
 ·induction m with
  | nil=>intro h; cases h
  | cons u m ih =>
   intro ht;unfold pathsT at h ih;rw [List.map_cons,List.nodup_cons] at h;rw [findT_cons];rcases List.mem_cons.1 ht with rfl | ht
   ·rw [if_pos rfl]
   ·have:¬ u.path=t.path:=fun e=>h.1 (e▸List.mem_map.2 ⟨t,ht,rfl⟩)
    rw [if_neg this]; exact ih h.2 ht
 ·exact findT_mem
theorem nodup_of_paths {m:List Tm} (h:(pathsT m).Nodup):m.Nodup:=by
 unfold pathsT at h
 induction m with
 | nil=>exact .nil
 | cons u m ih =>
  rw [List.map_cons,List.nodup_cons] at h;exact List.nodup_cons.2 ⟨fun hu=>h.1 (List.mem_map.2 ⟨u,hu,rfl⟩),ih h.2⟩
theorem sorted_nodup {l:List Tm} {lo:Option ByteArray} (h:SortedT lo l):(pathsT l).Nodup:=by
 unfold pathsT
 induction l generalizing lo with
 | nil=>exact .nil
 | cons t l ih =>
  rw [List.map_cons,List.nodup_cons];refine ⟨fun hm=>?_,ih h.2.2⟩;obtain ⟨u,hu,e⟩:=List.mem_map.1 hm
  have:=h.2.2.low u hu
  rw [e,blt_irrefl] at this; cases this
theorem mem_merge (l:List Tm) (t:Tm):t ∈ mergeM l↔t ∈ mergeT l:=by
 rw [findT_nodup (mergeM_nodup l),find_merge,← findT_nodup (sorted_nodup (mergeT_sorted l))]
theorem mergeM_canon (l:List Tm):∀ t ∈ mergeM l,Canon t.set:=fun t ht=>(mergeT_sorted l).canon t ((mem_merge l t).1 ht)
theorem stepT_len (m:List Tm) (t:Tm):(stepT m t).length≤m.length+1:=by
 unfold stepT putT;split <;> simp
theorem mergeM_len (l:List Tm):∀ i,i≤l.length→(mergeM (l.take i)).length≤i:=by
 intro i
 induction i with
 | zero=>intro _; simp [mergeM]
 | succ i ih =>
  intro h;rw [mergeM_take l i (by omega)]
  have:=stepT_len (mergeM (l.take i)) l[i]
  have:=ih (by omega)
  omega
theorem sortedT_of {s:List Tm} (hs:s.Pairwise fun x y=>blt x.path y.path=true) (hc:∀ t ∈ s,Canon t.set):SortedT none s:=by
 have:∀ (s:List Tm) (lo:Option ByteArray),s.Pairwise (fun x y=>blt x.path y.path=true)→(∀ t ∈ s,Canon t.set)→(∀ p,lo=some p→∀ t ∈ s,blt p t.path=true)→SortedT lo s:=by
  intro s
  induction s with
  | nil=>intro _ _ _ _; trivial
  | cons t s ih =>
   intro lo hs hc hl;obtain ⟨h1,h2⟩:=List.pairwise_cons.1 hs;exact ⟨fun p e=>hl p e t (List.mem_cons_self ..),hc t (List.mem_cons_self ..),ih _ h2 (fun u hu=>hc u (List.mem_cons_of_mem _ hu)) fun p e u hu=>by cases e; exact h1 u hu⟩
 exact this s none hs hc fun _ e=>by cases e
theorem canonT_of_sorted {l s:List Tm} (q:Tm→Bool) (hp:s.Perm ((mergeM l).filter q)) (hs:s.Pairwise fun x y=>blt y.path x.path=false):s=(mergeT l).filter q:=by
 have hm:∀ t,t ∈ s↔t ∈ (mergeT l).filter q:=fun t=>by
  rw [hp.mem_iff,List.mem_filter,List.mem_filter,mem_merge]
 have hnd:(pathsT s).Nodup:=by
  have h1:(pathsT ((mergeM l).filter q)).Nodup:=by
   unfold pathsT;exact List.Nodup.sublist (List.Sublist.map _ List.filter_sublist) (mergeM_nodup l)
  unfold pathsT at h1 ⊢;exact (hp.map (·.path)).nodup_iff.2 h1
 have hst:s.Pairwise fun x y=>blt x.path y.path=true:=by
  rw [List.pairwise_iff_getElem] at hs ⊢;intro i j hi hj hij;cases hb:blt s[i].path s[j].path with
  | true=>rfl
  | false =>
   have e:=blt_tri hb (hs i j hi hj hij);unfold pathsT at hnd
   have:=(List.pairwise_iff_getElem.1 hnd) i j (by simpa using hi) (by simpa using hj) hij
   simp at this;exact absurd e this
 have hss:SortedT none s:=sortedT_of hst fun t ht=>(mergeT_sorted l).canon t (List.mem_filter.1 ((hm t).1 ht)).1;have hsm:SortedT none ((mergeT l).filter q):=SortedT.filter q (mergeT_sorted l);refine sortedT_unique hss hsm fun p=>?_;cases h1:findT s p with
 | some t =>
  have:=(hm t).1 (findT_mem h1)
  rw [findT_some_iff hsm,findT_path h1] at this;exact this.symm
 | none =>
  cases h2:findT ((mergeT l).filter q) p with
  | none=>rfl
  | some t =>
   have:=(hm t).2 (findT_mem h2)
   rw [findT_some_iff hss,findT_path h2,h1] at this;cases this
theorem bothT_self (t:Tm):bothT t t=canT1 t:=by unfold bothT canT1; rw [inter_self,Bool.and_self]
theorem putO_eq (o:Option Tm) (t:Tm):putO o t=bothT (o.getD t) t:=by cases o with | none=>exact (bothT_self t).symm | some u=>rfl
theorem always_eq {t:Tm} (h:Canon t.set):(t.absent&&(compl t.set).isEmpty)=alwaysT t:=by
 unfold alwaysT
 congr 1
 rw [Bool.eq_iff_iff,List.isEmpty_iff,decide_eq_true_eq];have ha:Canon [(0,1000000)]:=⟨Int.le_refl _,by dsimp only; omega,Int.le_refl _,trivial⟩;constructor
 ·intro e;refine canon_unique h ha fun p=>?_
  have:=has_compl t.set p
  rw [e] at this;have h0:has [] p=false:=by simp [has]
  rw [h0] at this;have h1:has [(0,1000000)] p=inPl p:=by simp [has,inPl,inSpan]
  rw [h1];cases hp:inPl p with
  | true=>rw [hp] at this; simpa using this.symm
  | false =>
   rw [Bool.eq_false_iff];intro hh
   have:=has_in hh
   simp [inPl,this] at hp
 ·intro e;rw [nil_iff_of_canon (compl_canon _)];intro p;rw [has_compl,e];have h1:has [(0,1000000)] p=inPl p:=by simp [has,inPl,inSpan]
  rw [h1]; simp
theorem never_eq {t:Tm} (h:Canon t.set):(!t.absent&&(canon t.set).isEmpty)=neverT t:=by unfold neverT; rw [canon_of_canon h]
end Go.Eng

namespace Go.Eng
open Go.Lib
theorem splitK_eq (c:UInt8):∀ (s:List UInt8) (k:Nat),s.count c≤k→splitK [c] 0 k s=splitL c s
 | [],k,_=>by
  cases k with
  | zero=>rfl
  | succ k=>rfl
 | b :: r,k,h=>by
  rw [splitL]
  by_cases e:b=c
  ·subst e;rw [List.count_cons_self] at h;obtain ⟨k',rfl⟩ : ∃ k',k=k'+1:=⟨k - 1,by omega⟩;rw [if_pos rfl,splitK,index_one,indexByte];simp only [beq_self_eq_true,if_true];rw [if_neg (by decide)];show [] :: splitK [b] 0 k' r=_;rw [splitK_eq b r k' (by omega)]
  ·have hne:(b == c)=false:=by simpa using e
   rw [List.count_cons_of_ne (by simpa using e)] at h;have ih:=splitK_eq c r k h;rw [if_neg e];cases k with
   | zero =>
    rw [← ih]; rfl
   | succ k =>
    rw [← ih,splitK,splitK,index_one,index_one,indexByte,hne]
    by_cases h0:indexByte r c=-1
    ·rw [h0]; rfl
    ·have h1:(indexByte r c == -1)=false:=by simpa using h0
     have h2:=indexByte_ge r c;have h3:(indexByte r c+1 == -1)=false:=by rw [beq_eq_false_iff_ne]; omega
     simp only [Bool.false_eq_true,if_false,h1,h3];obtain ⟨i,hi⟩ : ∃ i:Nat,indexByte r c=i:=⟨(indexByte r c).toNat,by omega⟩;rw [hi];show (b :: r).take (((i:Int)+1).toNat+0) :: _=(b :: r.take ((i:Int).toNat+0)) :: _;rw [show ((i:Int)+1).toNat=i+1 by omega,show ((i:Nat):Int).toNat=i by omega]
     rfl
theorem count_eq (c:UInt8):∀ (n:Nat) (s:List UInt8),s.length≤n→count s [c]=s.count c
 | n,s,hn=>by
  rcases Int.lt_or_le (indexByte s c) 0 with h | h
  ·have h2:=indexByte_ge s c;have h3:indexByte s c=-1:=by omega
   rw [count_miss (by rw [index_one]; exact h3)]
   symm
   rw [List.count_eq_zero];intro hm;obtain ⟨k,hk,e⟩:=List.getElem_of_mem hm;exact indexByte_none h3 k (by rw [List.getElem?_eq_getElem hk,e])
  ·obtain ⟨i,hi⟩ : ∃ i:Nat,indexByte s c=i:=⟨(indexByte s c).toNat,by omega⟩;obtain ⟨h1,h2⟩:=indexByte_some hi;obtain ⟨hl,hg⟩:=List.getElem?_eq_some_iff.1 h1;cases n with
   | zero=>omega
   | succ n =>
    have hc:=count_hit (s:=s) (sub:=[c]) (i:=i) (by simp) (by rw [index_one]; exact hi);rw [hc];have ih:=count_eq c n (s.drop (i+1)) (by rw [List.length_drop]; omega);have hsp:s=s.take i++c :: s.drop (i+1):=by
     rw [← hg,← List.drop_eq_getElem_cons hl,List.take_append_drop]
    have h0:(s.take i).count c=0:=by
     rw [List.count_eq_zero];intro hm;obtain ⟨k,hk,e⟩:=List.getElem_of_mem hm;rw [List.length_take] at hk;rw [List.getElem_take] at e;exact h2 k (by omega) (by rw [List.getElem?_eq_getElem (by omega),e])
    conv=>rhs; rw [hsp]
    rw [List.count_append,h0,List.count_cons_self];show 1+count (s.drop (i+1)) [c]=_;rw [ih]; omega
theorem splitB_eq (s:ByteArray) (c:UInt8):((splitB ⟨#[c]⟩ 0 (countB s ⟨#[c]⟩) s).map (·.data.toList))=splitL c s.data.toList:=by
 rw [splitB_data];refine splitK_eq c _ _ ?_;show _≤count s.data.toList [c];rw [count_eq c _ _ (Nat.le_refl _)]; exact Nat.le_refl _
end Go.Eng

namespace Go.Eng
theorem nodup_len {α:Type} : ∀ {l m:List α},l.Nodup→(∀ x ∈ l,x ∈ m)→l.length≤m.length
 | [],_,_,_=>Nat.zero_le _
 | a :: l,m,hn,hs=>by
  obtain ⟨h1,h2⟩:=List.nodup_cons.1 hn;obtain ⟨s,t,rfl⟩:=List.append_of_mem (hs a (List.mem_cons_self ..))
  have:l.length≤(s++t).length:=nodup_len h2 fun x hx=>by
   rcases List.mem_append.1 (hs x (List.mem_cons_of_mem _ hx)) with h | h
   ·exact List.mem_append_left _ h
   ·rcases List.mem_cons.1 h with rfl | h
    ·exact absurd hx h1
    ·exact List.mem_append_right _ h
  simp only [List.length_append,List.length_cons] at this ⊢; omega
theorem foldl_step_none (p:ByteArray):∀ (l:List Tm) (o:Option Tm),(∀ u ∈ l,u.path≠p)→l.foldl (stepO p) o=o
 | [],_,_=>rfl
 | t :: l,o,h=>by
  rw [List.foldl_cons,show stepO p o t=o by unfold stepO; rw [if_neg (h t (List.mem_cons_self ..))]];exact foldl_step_none p l o fun u hu=>h u (List.mem_cons_of_mem _ hu)
theorem merge_path {l:List Tm} {t:Tm} (h:t ∈ mergeT l):∃ u ∈ l,u.path=t.path:=by
 apply Classical.byContradiction;intro hn
 have:∀ u ∈ l,u.path≠t.path:=fun u hu e=>hn ⟨u,hu,e⟩
 have h1:=(findT_some_iff (mergeT_sorted l)).1 h;rw [findT_mergeT,foldl_step_none _ _ _ this] at h1;cases h1
def InU (U:List ByteArray) (t:List Tm):Prop:=SortedT none t∧∀ u ∈ t,u.path ∈ U
theorem InU.len {U:List ByteArray} {t:List Tm} (h:InU U t):t.length≤U.length:=by
 have:=nodup_len (sorted_nodup h.1) (m:=U) fun p hp=>by
  obtain ⟨u,hu,rfl⟩:=List.mem_map.1 hp;exact h.2 u hu
 unfold pathsT at this
 rwa [List.length_map] at this
theorem canonT_mem {l c:List Tm} (h:canonT l=some c) {t:Tm} (ht:t ∈ c):t ∈ mergeT l:=by
 unfold canonT at h;split at h
 ·cases h
 ·cases h; exact (List.mem_filter.1 ht).1
theorem canonT_in {U:List ByteArray} {l c:List Tm} (h:canonT l=some c) (hu:∀ u ∈ l,u.path ∈ U):InU U c :=
 ⟨canonT_sorted h,fun t ht=>by
  obtain ⟨u,h1,h2⟩:=merge_path (canonT_mem h ht);rw [← h2]; exact hu u h1⟩
theorem InU.nil (U:List ByteArray):InU U []:=⟨trivial,fun u hu=>by cases hu⟩
theorem ofT_in {U:List ByteArray} {l:List Tm} (hu:∀ u ∈ l,u.path ∈ U):InU U (ofT l):=by
 unfold ofT;cases h:canonT l with
 | none=>exact .nil U
 | some c=>exact canonT_in h hu
theorem resolveT_in {U:List ByteArray} {a b:List Tm} {p:ByteArray} (ha:InU U a) (hb:InU U b):InU U (resolveT a b p).1:=by
 have sp:∀ {l r:List Tm} {t:Tm},InU U l→splitT l p=some (t,r)→t.path ∈ U∧∀ u ∈ r,u.path ∈ U:=by
  intro l r t hl h;unfold splitT at h;cases e:canonT l with
  | none=>rw [e] at h; cases h
  | some c =>
   rw [e] at h;have h:(match findT c p with | none=>none | some t=>some (t,withoutT c p))=some (t,r):=h;have hc:=canonT_in e hl.2;cases e2:findT c p with
   | none=>rw [e2] at h; cases h
   | some u =>
    rw [e2] at h; cases h;exact ⟨hc.2 _ (findT_mem e2),fun u hu=>hc.2 u (List.mem_filter.1 hu).1⟩
 unfold resolveT;split
 ·rename_i t r u m e1 e2;obtain ⟨a1,a2⟩:=sp ha e1;obtain ⟨b1,b2⟩:=sp hb e2;split
  ·rename_i o e3;refine canonT_in e3 fun v hv=>?_;rcases List.mem_append.1 hv with hv | hv
   ·rcases List.mem_append.1 hv with hv | hv
    ·exact a2 v hv
    ·exact b2 v hv
   ·rw [List.mem_singleton.1 hv]; exact a1
  ·exact .nil U
 ·exact .nil U
def pathsU (x:List Rl) (roots:List Rq) (l:List Nf):List ByteArray:=(x.map (·.path))++((x.map (·.reqs)).flatten.map (·.path)++(roots.map (·.path)++l.map (·.path)))
theorem inferP_in {x:List Rl} {roots:List Rq} {l:List Nf} {d:List (List Tm)} {i:Nf} (hi:i ∈ l) (hd:∀ t ∈ d,InU (pathsU x roots l) t) {t:List Tm} (h:inferP x roots d i=some t):InU (pathsU x roots l) t:=by
 have hp:i.path ∈ pathsU x roots l:=by
  unfold pathsU;exact List.mem_append_right _ (List.mem_append_right _ (List.mem_append_right _ (List.mem_map.2 ⟨i,hi,rfl⟩)))
 have nz:∀ {α:Type} {l:List α} {k:Int} {a:α},nthZ l k=some a→a ∈ l:=by
  intro α l k a h;unfold nthZ at h;split at h
  ·cases h
  ·exact List.mem_of_getElem? h
 have n0:∀ {a b:List Tm},ne0 a=some b→b=a:=by
  intro a b h;unfold ne0 at h;split at h
  ·cases h
  ·cases h; rfl
 unfold inferP at h;split at h
 ·split at h
  ·cases e:nthZ roots i.number with
   | none=>rw [e] at h; cases h
   | some q =>
    rw [e] at h; cases h;refine ofT_in fun u hu=>?_;rw [List.mem_singleton.1 hu];unfold pathsU;exact List.mem_append_right _ (List.mem_append_right _ (List.mem_append_left _ (List.mem_map.2 ⟨q,nz e,rfl⟩)))
  ·cases h
 split at h
 ·split at h
  ·cases e:releaseP x i.path i.place with
   | none=>rw [e] at h; cases h
   | some r =>
    rw [e] at h;have h:(match nthZ r.reqs i.number with | none=>none | some q=>ne0 (requiresT i.path i.place q))=some t:=h;cases e2:nthZ r.reqs i.number with
    | none=>rw [e2] at h; cases h
    | some q =>
     rw [e2] at h;have h:=n0 (show ne0 (requiresT i.path i.place q)=some t from h);subst h;refine ofT_in fun u hu=>?_;rcases List.mem_cons.1 hu with rfl | hu
     ·exact hp
     ·rw [List.mem_singleton.1 hu];unfold pathsU;refine List.mem_append_right _ (List.mem_append_left _ (List.mem_map.2 ⟨q,?_,rfl⟩));exact List.mem_flatten.2 ⟨r.reqs,List.mem_map.2 ⟨r,List.mem_of_find?_eq_some e,rfl⟩,nz e2⟩
  ·cases h
 split at h
 ·split at h
  ·have h:=n0 h;subst h;refine ofT_in fun u hu=>?_;rw [List.mem_singleton.1 hu]; exact hp
  ·cases h
 split at h
 ·split at h
  ·cases e:nthZ d i.left with
   | none=>rw [e] at h; cases h
   | some a =>
    cases e2:nthZ d i.right with
    | none=>rw [e,e2] at h; cases h
    | some b =>
     rw [e,e2] at h;have h:(if (resolveT a b i.path).2=0 then some (resolveT a b i.path).1 else none)=some t:=h;split at h
     ·cases h; exact resolveT_in (hd a (nz e)) (hd b (nz e2))
     ·cases h
  ·cases h
 ·cases h
end Go.Eng

namespace Go.Eng
structure Cd where
 place:Int
 rel:Rl
structure Nd where
 rq:Rq
 path:ByteArray
 place:Int
 number:Int
structure SS where
 infs:List Nf
 drv:List (List Tm)
 full:Bool
abbrev keyC (c:Cd):Sl:=⟨c.rel.path,c.rel.ver⟩
abbrev keysC (l:List Cd):List Sl:=l.map keyC
def candsP (x:List Rl) (p:ByteArray):List Cd:=(x.filter fun r=>decide (r.path=p)&&!r.yanked).map fun r=>⟨plc r.ver,r⟩
def numG (f:Rq→Nat→Nd):Nat→List Rq→List Nd
 | _,[]=>[]
 | i,q :: l=>f q i :: numG f (i+1) l
def rootN (roots:List Rq):List Nd:=numG (fun q i=>⟨q,mt,0,i⟩) 0 roots
def relN (c:Cd):List Nd:=numG (fun q i=>⟨q,c.rel.path,c.place,i⟩) 0 c.rel.reqs
def needsN (roots:List Rq) (dec:List Cd):List Nd:=rootN roots++(dec.map relN).flatten
def doneC (dec:List Cd) (p:ByteArray):Bool:=dec.any fun c=>decide (c.rel.path=p)
def nxStep (dec:List Cd) (a:ByteArray × List Nd) (n:Nd):ByteArray × List Nd :=
 if doneC dec n.rq.path=true∨(a.2≠[]∧blt a.1 n.rq.path=true) then a
 else if a.2≠[]∧blt n.rq.path a.1=true then (n.rq.path,[n]) else (n.rq.path,a.2++[n])
def nextN (roots:List Rq) (dec:List Cd):ByteArray × List Nd:=(needsN roots dec).foldl (nxStep dec) (mt,[])
def missB (l:List Cd) (n:Nd):Bool:=l.any fun d=>decide (d.rel.path=n.rq.path)&&!has n.rq.set d.place
def clashN (dec:List Cd) (c:Cd):Option Nd:=(relN c).find? (missB (dec++[c]))
def entGo (s:List Sl):Nat→List (List Tm)→Option Nat
 | _,[]=>none
 | i,t :: l=>if entailed t s then some i else entGo s (i+1) l
def entN (d:List (List Tm)) (s:List Sl):Option Nat:=entGo s 0 d
def concB (l:List Tm) (p:ByteArray):Bool:=l.any fun t=>decide (t.path=p)
instance:DecidableEq Nf:=fun a b=>by
 obtain ⟨a1,a2,a3,a4,a5,a6⟩:=a;obtain ⟨b1,b2,b3,b4,b5,b6⟩:=b;exact decidable_of_iff (a1=b1∧a2=b2∧a3=b3∧a4=b4∧a5=b5∧a6=b6) ⟨fun ⟨h1,h2,h3,h4,h5,h6⟩=>by subst h1 h2 h3 h4 h5 h6; rfl,fun h=>by cases h; exact ⟨rfl,rfl,rfl,rfl,rfl,rfl⟩⟩
def posN (i:Nf):Nat→List Nf→Option Nat
 | _,[]=>none
 | k,j :: l=>if j=i then some k else posN i (k+1) l
def addI (s:SS) (i:Nf) (l:List Tm):Nat × SS :=
 match posN i 0 s.infs with
 | some k=>(k,s)
 | none=>if 65536≤s.infs.length then (s.infs.length - 1,⟨s.infs,s.drv,true⟩) else (s.infs.length,⟨s.infs++[i],s.drv++[l],s.full⟩)
def infN (n:Nd):Nf:=if n.path=mt then ⟨0,mt,0,n.number,0,0⟩ else ⟨1,n.path,n.place,n.number,0,0⟩
def incN (n:Nd):List Tm:=if n.path=mt then rootT n.rq else requiresT n.path n.place n.rq
def infS (s:SS) (n:Nd):Nat × SS:=addI s (infN n) (incN n)
abbrev atD (s:SS) (k:Nat):List Tm:=s.drv.getD k []
def learnGo (p:ByteArray):List Nat→Nat→SS→Nat × SS
 | [],k,s=>(k,s)
 | r :: l,k,s =>
  if s.full=true∨concB (atD s k) p=false then (k,s)
  else if r=k then learnGo p l k s
  else if (resolveT (atD s k) (atD s r) p).2≠0 then learnGo p l k s
  else learnGo p l (addI s ⟨3,p,0,0,k,r⟩ (resolveT (atD s k) (atD s r) p).1).1 (addI s ⟨3,p,0,0,k,r⟩ (resolveT (atD s k) (atD s r) p).1).2
def noneS (x:List Rl) (p:ByteArray) (s:SS):Nat × SS:=addI s ⟨2,p,0,0,0,0⟩ (noneT p (availP x p))
def learnS (x:List Rl) (p:ByteArray) (n:Nd) (reasons:List Nat) (s:SS):Nat × SS :=
 learnGo p ((noneS x p (infS s n).2).1 :: reasons) (infS s n).1 (noneS x p (infS s n).2).2
structure SOut where
 res:Nat
 found:Bool
 ss:SS
 dec:List Cd
 stack:List (List Sk)
def candGo (rec:List Cd→SS→List (List Sk)→SOut) (x:List Rl) (p:ByteArray) (needs:List Nd) (n0:Nd) (dec:List Cd) (stack:List (List Sk)):List Cd→SS→List Nat→List Sk→SOut
 | [],s,reasons,_=>⟨(learnS x p n0 reasons s).1,false,(learnS x p n0 reasons s).2,dec,stack⟩
 | c :: cs,s,reasons,skips =>
  let after (k:Nat) (s:SS):SOut:=if concB (atD s k) p=false then ⟨k,false,s,dec,stack⟩ else candGo rec x p needs n0 dec stack cs s (reasons++[k]) (skips++[⟨p,c.place,k⟩])
  if s.full=true then ⟨0,false,s,dec,stack⟩
  else match needs.find? fun n=>!has n.rq.set c.place with
   | some n=>candGo rec x p needs n0 dec stack cs (infS s n).2 (reasons++[(infS s n).1]) skips
   | none=>match entN s.drv (keysC (dec++[c])) with
    | some k=>after k s
    | none=>match clashN dec c with
     | some n=>after (infS s n).1 (infS s n).2
     | none =>
      let o:=rec (dec++[c]) s (stack++[skips])
      if o.found=true then ⟨0,true,o.ss,o.dec,o.stack⟩
      else if o.ss.full=true then ⟨0,false,o.ss,dec,stack⟩
      else after o.res o.ss
def solveS (x:List Rl) (roots:List Rq):Nat→List Cd→SS→List (List Sk)→SOut
 | 0,dec,s,stack=>⟨0,false,s,dec,stack⟩
 | n+1,dec,s,stack=>match (nextN roots dec).2 with
  | []=>⟨0,true,s,dec,stack⟩
  | n0 :: l=>candGo (solveS x roots n) x (nextN roots dec).1 (n0 :: l) n0 dec stack (candsP x (nextN roots dec).1) s [] []
abbrev ss0:SS:=⟨[],[],false⟩
def freeN (x:List Rl) (dec:List Cd):Nat:=(x.filter fun r=>!r.yanked&&!doneC dec r.path).length
def solveX (x:List Rl) (roots:List Rq):SOut:=solveS x roots (x.length+1) [] ss0 []
end Go.Eng

namespace Go.Eng
theorem numG_get (f:Rq→Nat→Nd):∀ (l:List Rq) (i k:Nat),(numG f i l)[k]?=(l[k]?).map fun q=>f q (i+k)
 | [],i,k=>by simp [numG]
 | q :: l,i,0=>by simp [numG]
 | q :: l,i,k+1=>by
  have h:=numG_get f l (i+1) k;simp only [numG,List.getElem?_cons_succ,h];rw [show i+1+k=i+(k+1) by omega]
theorem numG_len (f:Rq→Nat→Nd):∀ (l:List Rq) (i:Nat),(numG f i l).length=l.length
 | [],_=>rfl
 | _ :: l,i=>by simp [numG,numG_len f l (i+1)]
theorem numG_mem {f:Rq→Nat→Nd} {l:List Rq} {n:Nd} (h:n ∈ numG f 0 l):∃ k q,l[k]?=some q∧n=f q k:=by
 obtain ⟨k,hk⟩:=List.mem_iff_getElem?.1 h;rw [numG_get,Option.map_eq_some_iff] at hk;obtain ⟨q,h1,h2⟩:=hk;exact ⟨k,q,h1,by rw [← h2,Nat.zero_add]⟩
theorem numG_rq {f:Rq→Nat→Nd} (hf:∀ q i,(f q i).rq=q):∀ (l:List Rq) (i:Nat),(numG f i l).map (·.rq)=l
 | [],_=>rfl
 | q :: l,i=>by simp [numG,hf,numG_rq hf l (i+1)]
abbrev reqsC (roots:List Rq) (dec:List Cd):List Rq:=roots++(dec.map fun c=>c.rel.reqs).flatten
theorem needsN_rq (roots:List Rq) (dec:List Cd):(needsN roots dec).map (·.rq)=reqsC roots dec:=by
 unfold needsN rootN;rw [List.map_append,numG_rq (fun _ _=>rfl),List.map_flatten,List.map_map]
 congr 2
 exact List.map_congr_left fun c _=>numG_rq (fun _ _=>rfl) _ _
theorem doneC_path (dec:List Cd) (p:ByteArray):hasPath (keysC dec) p=doneC dec p:=by
 unfold hasPath doneC keysC;rw [List.any_map]; rfl
theorem nextGo_low (before:List Sl):∀ {l:List Rq} {a p:ByteArray},nextGo before l (some a)=some p→p=a∨blt p a=true
 | [],a,p,h=>by cases h; exact .inl rfl
 | q :: l,a,p,h=>by
  unfold nextGo at h;split at h
  ·exact nextGo_low before h
  ·dsimp only at h;split at h
   ·rename_i hb;rcases nextGo_low before h with e | e
    ·exact .inr (by rw [e]; exact hb)
    ·exact .inr (blt_trans e hb)
   ·exact nextGo_low before h
theorem nextGo_some (before:List Sl):∀ {l:List Rq} {a:ByteArray},nextGo before l (some a)≠none
 | [],a=>by simp [nextGo]
 | q :: l,a=>by
  unfold nextGo;split
  ·exact nextGo_some before
  ·dsimp only;split <;> exact nextGo_some before
theorem filt_ne {n:Nd} {p:ByteArray} (e:n.rq.path≠p) (L:List Nd):((n :: L).filter fun n=>decide (n.rq.path=p))=L.filter fun n=>decide (n.rq.path=p):=by rw [List.filter_cons,if_neg (by simpa using e)]
theorem filt_eq {n:Nd} {p:ByteArray} (e:n.rq.path=p) (L:List Nd):((n :: L).filter fun n=>decide (n.rq.path=p))=n :: L.filter fun n=>decide (n.rq.path=p):=by rw [List.filter_cons,if_pos (by simpa using e)]
theorem nx_fold (dec:List Cd):∀ (L:List Nd) (a:ByteArray × List Nd),(a.2≠[]→doneC dec a.1=false) →
  L.foldl (nxStep dec) a=match nextGo (keysC dec) (L.map (·.rq)) (if a.2=[] then none else some a.1) with
   | none=>a
   | some p=>(p,(if a.2≠[]∧a.1=p then a.2 else [])++L.filter fun n=>decide (n.rq.path=p))
 | [],a,h=>by
  obtain ⟨p,o⟩:=a;cases o with
  | nil=>simp [nextGo]
  | cons n o=>simp [nextGo]
 | n :: L,a,h=>by
  obtain ⟨p0,o⟩:=a;rw [List.foldl_cons,List.map_cons];have hspec:∀ (acc:Option ByteArray) (l:List Rq),(∀ p,acc=some p→doneC dec p=false)→∀ p,nextGo (keysC dec) l acc=some p→doneC dec p=false:=fun acc l ha p hp=>by
   have:=((nextGo_spec (keysC dec) (l:=l) (acc:=acc) (fun p e=>by rw [doneC_path]; exact ha p e)).1 p hp).1
   rw [doneC_path] at this; exact this
  cases hd:doneC dec n.rq.path with
  | true =>
   have e1:nxStep dec (p0,o) n=(p0,o):=by unfold nxStep; rw [if_pos (.inl hd)]
   have e2:nextGo (keysC dec) (n.rq :: L.map (·.rq)) (if o=[] then none else some p0)=nextGo (keysC dec) (L.map (·.rq)) (if o=[] then none else some p0):=by
    conv=>lhs; unfold nextGo
    rw [if_pos (by rw [doneC_path]; exact hd)]
   rw [e1,e2,nx_fold dec L (p0,o) h];dsimp only;cases hg:nextGo (keysC dec) (L.map (·.rq)) (if o=[] then none else some p0) with
   | none=>rfl
   | some p =>
    dsimp only;have hp:=hspec _ _ (fun q e=>by
     split at e
     ·cases e
     ·rename_i ho;cases e; exact h ho) p hg
    have hne:n.rq.path≠p:=fun e=>by rw [e,hp] at hd; cases hd
    rw [filt_ne hne]
  | false =>
   have hnd:hasPath (keysC dec) n.rq.path=false:=by rw [doneC_path]; exact hd
   by_cases ho:o=[]
   ·subst ho;have e1:nxStep dec (p0,[]) n=(n.rq.path,[n]):=by
     unfold nxStep;rw [if_neg (by simp [hd]),if_neg (by simp)]; rfl
    have e2:nextGo (keysC dec) (n.rq :: L.map (·.rq)) none=nextGo (keysC dec) (L.map (·.rq)) (some n.rq.path):=by
     conv=>lhs; unfold nextGo
     rw [if_neg (by rw [hnd]; decide)]
    rw [e1,nx_fold dec L (n.rq.path,[n]) (fun _=>hd),if_pos rfl,e2];rw [if_neg (by simp)];cases hg:nextGo (keysC dec) (L.map (·.rq)) (some n.rq.path) with
    | none=>exact absurd hg (nextGo_some _)
    | some p =>
     dsimp only;rw [if_neg (show ¬ (([]:List Nd)≠[]∧p0=p) from fun h=>h.1 rfl)]
     by_cases e:n.rq.path=p
     ·rw [filt_eq e,if_pos ⟨by simp,e⟩]; rfl
     ·rw [filt_ne e,if_neg (fun h=>e h.2)]
   ·have hif:(if o=[] then none else some p0)=some p0:=if_neg ho;rw [hif];cases hb:blt p0 n.rq.path with
    | true =>
     have e1:nxStep dec (p0,o) n=(p0,o):=by unfold nxStep; rw [if_pos (.inr ⟨ho,hb⟩)]
     have hb2:blt n.rq.path p0=false:=blt_asymm hb;have e2:nextGo (keysC dec) (n.rq :: L.map (·.rq)) (some p0)=nextGo (keysC dec) (L.map (·.rq)) (some p0):=by
      conv=>lhs; unfold nextGo
      rw [if_neg (by rw [hnd]; decide)];dsimp only;rw [if_neg (by rw [hb2]; decide)]
     rw [e1,e2,nx_fold dec L (p0,o) h];dsimp only;rw [hif];cases hg:nextGo (keysC dec) (L.map (·.rq)) (some p0) with
     | none=>rfl
     | some p =>
      dsimp only;have hne:n.rq.path≠p:=fun e=>by
       rcases nextGo_low _ hg with e3 | e3
       ·rw [e,e3,blt_irrefl] at hb; cases hb
       ·rw [e,blt_asymm e3] at hb; cases hb
      rw [filt_ne hne]
    | false =>
     cases hb2:blt n.rq.path p0 with
     | true =>
      have e1:nxStep dec (p0,o) n=(n.rq.path,[n]):=by
       unfold nxStep;rw [if_neg (by simp [hd,hb]),if_pos ⟨ho,hb2⟩]
      have e2:nextGo (keysC dec) (n.rq :: L.map (·.rq)) (some p0)=nextGo (keysC dec) (L.map (·.rq)) (some n.rq.path):=by
       conv=>lhs; unfold nextGo
       rw [if_neg (by rw [hnd]; decide)];dsimp only;rw [if_pos hb2]
      rw [e1,e2,nx_fold dec L (n.rq.path,[n]) (fun _=>hd),if_neg (by simp)];cases hg:nextGo (keysC dec) (L.map (·.rq)) (some n.rq.path) with
      | none=>exact absurd hg (nextGo_some _)
      | some p =>
       dsimp only;have hne:p0≠p:=fun e=>by
        rcases nextGo_low _ hg with e3 | e3
        ·rw [e,e3,blt_irrefl] at hb2; cases hb2
        ·rw [e] at hb2; rw [blt_asymm e3] at hb2; cases hb2
       rw [if_neg (show ¬ (o≠[]∧p0=p) from fun h=>hne h.2)]
       by_cases e:n.rq.path=p
       ·rw [filt_eq e,if_pos ⟨by simp,e⟩]; rfl
       ·rw [filt_ne e,if_neg (fun h=>e h.2)]
     | false =>
      have e0:n.rq.path=p0:=blt_tri hb2 hb;have e1:nxStep dec (p0,o) n=(p0,o++[n]):=by
       unfold nxStep;rw [if_neg (by simp [hd,hb]),if_neg (by simp [hb2]),e0]
      have e2:nextGo (keysC dec) (n.rq :: L.map (·.rq)) (some p0)=nextGo (keysC dec) (L.map (·.rq)) (some p0):=by
       conv=>lhs; unfold nextGo
       rw [if_neg (by rw [hnd]; decide)];dsimp only;rw [if_neg (by rw [hb2]; decide)]
      rw [e1,e2,nx_fold dec L (p0,o++[n]) (fun _=>by rw [← e0]; exact hd),if_neg (by simp)];cases hg:nextGo (keysC dec) (L.map (·.rq)) (some p0) with
      | none=>exact absurd hg (nextGo_some _)
      | some p =>
       dsimp only
       by_cases e:p0=p
       ·rw [filt_eq (e0.trans e),if_pos ⟨by simp,e⟩,if_pos ⟨ho,e⟩,List.append_assoc]; rfl
       ·rw [filt_ne (fun h=>e (e0.symm.trans h)),if_neg (fun h=>e h.2),if_neg (fun h=>e h.2)]
theorem nextN_eq (roots:List Rq) (dec:List Cd):nextN roots dec=match nextP (reqsC roots dec) (keysC dec) with
  | none=>(mt,[])
  | some p=>(p,(needsN roots dec).filter fun n=>decide (n.rq.path=p)):=by
 unfold nextN nextP;rw [nx_fold dec _ (mt,[]) (fun h=>absurd rfl h),if_pos rfl,needsN_rq];cases nextGo (keysC dec) (reqsC roots dec) none with
 | none=>rfl
 | some p=>dsimp only; rw [if_neg (by simp)]; rfl
theorem nextN_none {roots:List Rq} {dec:List Cd} : (nextN roots dec).2=[]↔nextP (reqsC roots dec) (keysC dec)=none:=by
 rw [nextN_eq];cases h:nextP (reqsC roots dec) (keysC dec) with
 | none=>simp
 | some p =>
  simp only [reduceCtorEq,iff_false];obtain ⟨_,q,hq,e⟩:=nextP_some h;rw [← needsN_rq] at hq;obtain ⟨n,hn,rfl⟩:=List.mem_map.1 hq;exact List.ne_nil_of_mem (List.mem_filter.2 ⟨hn,by simpa using e⟩)
structure Nxt (roots:List Rq) (dec:List Cd) (p:ByteArray) (l:List Nd):Prop where
 next:nextP (reqsC roots dec) (keysC dec)=some p
 undone:doneC dec p=false
 mem:∀ n,n ∈ l↔n ∈ needsN roots dec∧n.rq.path=p
theorem nextN_some {roots:List Rq} {dec:List Cd} {n0:Nd} {l:List Nd} (h:(nextN roots dec).2=n0 :: l):Nxt roots dec (nextN roots dec).1 (n0 :: l):=by
 rw [← h];rw [nextN_eq] at *
 cases hp:nextP (reqsC roots dec) (keysC dec) with
 | none=>rw [hp] at h; cases h
 | some p =>
  dsimp only;refine ⟨hp,by rw [← doneC_path]; exact (nextP_some hp).1,fun n=>?_⟩;rw [List.mem_filter]; simp
theorem candsP_mem {x:List Rl} {p:ByteArray} {c:Cd} : c ∈ candsP x p↔∃ r ∈ x,r.path=p∧r.yanked=false∧c=⟨plc r.ver,r⟩:=by
 unfold candsP;simp only [List.mem_map,List.mem_filter,Bool.and_eq_true,decide_eq_true_eq,Bool.not_eq_true'];constructor
 ·rintro ⟨r,⟨h1,h2,h3⟩,rfl⟩; exact ⟨r,h1,h2,h3,rfl⟩
 ·rintro ⟨r,h1,h2,h3,rfl⟩; exact ⟨r,⟨h1,h2,h3⟩,rfl⟩
theorem posN_some {i:Nf} : ∀ {l:List Nf} {k m:Nat},posN i k l=some m→∃ j,m=k+j∧l[j]?=some i
 | [],_,_,h=>by cases h
 | y :: l,k,m,h=>by
  unfold posN at h;split at h
  ·rename_i e; cases h; exact ⟨0,rfl,by rw [← e]; rfl⟩
  ·obtain ⟨j,h1,h2⟩:=posN_some h;exact ⟨j+1,by omega,h2⟩
theorem posN_none {i:Nf} : ∀ {l:List Nf} {k:Nat},posN i k l=none→i ∉ l
 | [],_,_=>by simp
 | y :: l,k,h=>by
  unfold posN at h;split at h
  ·cases h
  ·rename_i e
   have:=posN_none h
   simp only [List.mem_cons,not_or];exact ⟨fun e'=>e e'.symm,this⟩
theorem nthZ_prefix {α:Type} {d d' : List α} {i:Int} {a:α} (h:nthZ d i=some a) (hp:d <+: d'):nthZ d' i=some a:=by
 unfold nthZ at *
 split at h
 ·cases h
 ·rename_i hi;rw [if_neg hi];obtain ⟨t,rfl⟩:=hp;rw [List.getElem?_append_left (List.getElem?_eq_some_iff.1 h).1]; exact h
theorem inferP_mono {x:List Rl} {roots:List Rq} {d d' : List (List Tm)} {i:Nf} {o:List Tm} (h:inferP x roots d i=some o) (hp:d <+: d'):inferP x roots d' i=some o:=by
 unfold inferP at *
 split
 ·rename_i e; rw [if_pos e] at h; exact h
 rename_i e0;rw [if_neg e0] at h;split
 ·rename_i e; rw [if_pos e] at h; exact h
 rename_i e1;rw [if_neg e1] at h;split
 ·rename_i e; rw [if_pos e] at h; exact h
 rename_i e2;rw [if_neg e2] at h;split
 ·rename_i e;rw [if_pos e] at h;split
  ·rename_i e4;rw [if_pos e4] at h;cases ha:nthZ d i.left with
   | none=>rw [ha] at h; cases h
   | some a =>
    cases hb:nthZ d i.right with
    | none=>rw [ha,hb] at h; cases h
    | some b =>
     rw [ha,hb] at h;rw [nthZ_prefix ha hp,nthZ_prefix hb hp];exact h
  ·rename_i e4; rw [if_neg e4] at h; cases h
 ·rename_i e; rw [if_neg e] at h; cases h
structure DerOk (x:List Rl) (roots:List Rq) (s:SS):Prop where
 der:deriveGo x roots s.infs []=some s.drv
 len:s.infs.length≤65536
theorem DerOk.dlen {x:List Rl} {roots:List Rq} {s:SS} (h:DerOk x roots s):s.drv.length=s.infs.length:=by simpa using deriveGo_len h.der
theorem DerOk.nil (x:List Rl) (roots:List Rq):DerOk x roots ss0:=⟨rfl,by simp⟩
theorem DerOk.at {x:List Rl} {roots:List Rq} {s:SS} (h:DerOk x roots s) {k:Nat} {i:Nf} (hk:s.infs[k]?=some i):inferP x roots s.drv i=some (s.drv.getD k []):=by
 have h1:=deriveGo_take h.der (k+1);have h0:=deriveGo_take h.der k;have hlt:=(List.getElem?_eq_some_iff.1 hk).1;rw [List.take_add_one,hk,deriveGo_append,h0] at h1;have h1:deriveGo x roots [i] (s.drv.take k)=some (s.drv.take (k+1)):=h1;unfold deriveGo at h1;cases hi:inferP x roots (s.drv.take k) i with
 | none=>rw [hi] at h1; cases h1
 | some t =>
  rw [hi] at h1;have h1:some (s.drv.take k++[t])=some (s.drv.take (k+1)):=h1;have hd:k<s.drv.length:=by rw [h.dlen]; exact hlt
  have:t=s.drv[k]:=by
   have h2:=Option.some.inj h1;rw [List.take_succ_eq_append_getElem hd] at h2;exact List.singleton_inj.1 (List.append_cancel_left h2)
  rw [inferP_mono hi (List.take_prefix ..),this];simp [List.getD_eq_getElem?_getD,hd]
structure Grow (s s' : SS):Prop where
 pre:s.drv <+: s'.drv
 preI:s.infs <+: s'.infs
 full:s.full=true→s'.full=true
theorem Grow.refl (s:SS):Grow s s:=⟨List.prefix_rfl,List.prefix_rfl,id⟩
theorem Grow.trans {a b c:SS} (h:Grow a b) (k:Grow b c):Grow a c:=⟨h.pre.trans k.pre,h.preI.trans k.preI,fun e=>k.full (h.full e)⟩
theorem Grow.at {s s' : SS} (h:Grow s s') {k:Nat} (hk:k<s.drv.length):atD s' k=atD s k:=by
 obtain ⟨t,e⟩:=h.pre;unfold atD;rw [← e,List.getD_eq_getElem?_getD,List.getD_eq_getElem?_getD,List.getElem?_append_left hk]
theorem Grow.len {s s' : SS} (h:Grow s s'):s.drv.length≤s'.drv.length:=h.pre.length_le
theorem addI_grow (s:SS) (i:Nf) (l:List Tm):Grow s (addI s i l).2:=by
 unfold addI;split
 ·exact .refl s
 ·split
  ·exact ⟨List.prefix_rfl,List.prefix_rfl,fun _=>rfl⟩
  ·exact ⟨List.prefix_append ..,List.prefix_append ..,id⟩
theorem addI_der {x:List Rl} {roots:List Rq} {s:SS} (h:DerOk x roots s) {i:Nf} {l:List Tm} (hi:inferP x roots s.drv i=some l) :
  DerOk x roots (addI s i l).2∧(addI s i l).1<(addI s i l).2.drv.length∧((addI s i l).2.full=false→atD (addI s i l).2 (addI s i l).1=l):=by
 have hdl:=h.dlen;unfold addI;split
 ·rename_i k hk;obtain ⟨j,e,hj⟩:=posN_some hk
  have:k=j:=by omega
  subst this;have hlt:=(List.getElem?_eq_some_iff.1 hj).1;refine ⟨h,by show k<s.drv.length; omega,fun _=>?_⟩
  have:=h.at hj
  rw [hi] at this;exact (Option.some.inj this).symm
 ·rename_i hk;split
  ·rename_i hf;exact ⟨⟨h.der,h.len⟩,by show s.infs.length - 1<s.drv.length; omega,fun e=>by cases e⟩
  ·rename_i hf;refine ⟨⟨?_,by show (s.infs++[i]).length≤65536; rw [List.length_append]; simp; omega⟩,by show s.infs.length<(s.drv++[l]).length; rw [List.length_append]; simp; omega,fun _=>?_⟩
   ·show deriveGo x roots (s.infs++[i]) []=some (s.drv++[l]);rw [deriveGo_append,h.der];show deriveGo x roots [i] s.drv=_;unfold deriveGo;rw [hi]; rfl
   ·show (s.drv++[l]).getD s.infs.length []=l;rw [← hdl]; simp [List.getD_eq_getElem?_getD]
theorem addI_count (s:SS) (i:Nf) (l:List Tm):(addI s i l).2.infs.length≤s.infs.length+1:=by
 unfold addI;split
 ·simp
 ·split <;> simp
theorem addI_nofull {s:SS} (i:Nf) (l:List Tm) (hf:s.full=false) (hc:s.infs.length<65536):(addI s i l).2.full=false:=by
 unfold addI;split
 ·exact hf
 ·split
  ·omega
  ·exact hf
theorem entGo_spec (S:List Sl):∀ {l:List (List Tm)} {i k:Nat},entGo S i l=some k→∃ j,k=i+j∧∃ t,l[j]?=some t∧entailed t S=true
 | [],_,_,h=>by cases h
 | t :: l,i,k,h=>by
  unfold entGo at h;split at h
  ·rename_i e; cases h; exact ⟨0,rfl,t,rfl,e⟩
  ·obtain ⟨j,h1,t',h2,h3⟩:=entGo_spec S h;exact ⟨j+1,by omega,t',h2,h3⟩
theorem entN_some {d:List (List Tm)} {S:List Sl} {k:Nat} (h:entN d S=some k):k<d.length∧entailed (d.getD k []) S=true:=by
 obtain ⟨j,h1,t,h2,h3⟩:=entGo_spec S h
 have:k=j:=by omega
 subst this;refine ⟨(List.getElem?_eq_some_iff.1 h2).1,?_⟩;rw [List.getD_eq_getElem?_getD,h2]; exact h3
end Go.Eng
