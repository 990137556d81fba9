/- Lemmas for the claims of this seat, without a condition: part 8 (EngN, EngO, EngP, EngQ). -/
import Derived.Test.YtkmnnpmneamgoaaGreatDoorA07
namespace Go.Eng

def Does (P:Program) (w0:World) (g0:Gh) (h0 h:Nat→HO) (g:Gh) (w:World) (m:Sem Value) (K:HK):Prop :=
 ∃ x w' g' av h',m.run P w=.ok x w'∧K av h'∧Inv w0 g0 h0 h' g' w'∧Le h g w h' g' w'∧Rep g' w' (used h') av x
def DoesU (P:Program) (w0:World) (g0:Gh) (h0 h:Nat→HO) (g:Gh) (w:World) (m:Sem Unit) (K:HK):Prop :=
 ∃ w' g' h',m.run P w=.ok () w'∧K (.v undef) h'∧Inv w0 g0 h0 h' g' w'∧Le h g w h' g' w'

section
variable {P:Program} {w0:World} {g0:Gh} {h0 h:Nat→HO} {g:Gh} {w:World} (hI:Inv w0 g0 h0 h g w)
include hI

theorem Gives.does {m:Sem Value} {K:HK} (hg:Gives P h g w m (fun v=>K v h)):Does P w0 g0 h0 h g w m K :=
 let ⟨x,av,h1,h2,h3⟩:=hg
 ⟨x,w,g,av,h,h1,h2,hI,.refl _ _ _,h3⟩


theorem Inv.newOwn {d:Nat} (hd:h d=.free) (o' : HO) (ob:Obj) (x:Value) (n:Nat) (t:Bool) (w1:World) (hw1:w1.heap=w.heap∧w1.os=w.os∧w1.tape=w.tape∧w1.output=w.output) (hne:o'≠.free)
  (hobj:GhLe g (g.upd d x n t (some w.heap.size) g.S) (used h)→Keeps g w (g.upd d x n t (some w.heap.size) g.S) (w1.alloc ob) →
   ObjRep (g.upd d x n t (some w.heap.size) g.S) (w1.alloc ob) (used (hput h d o')) d o') :
  Inv w0 g0 h0 (hput h d o') (g.upd d x n t (some w.heap.size) g.S) (w1.alloc ob)∧Le h g w (hput h d o') (g.upd d x n t (some w.heap.size) g.S) (w1.alloc ob):=by
 refine hI.upd d o' x n t _ _ _ none ⟨hw1.2.1,hw1.2.2.1,hw1.2.2.2,by rw [World.size_alloc,hw1.1]; omega⟩ (fun k hk _=>?_) (fun b e=>by cases e) (fun _ _ h=>h) (fun _ _ h=>.inl h) (fun b o e=>by cases e)
  (fun b _ e=>?_) hne (fun hu=>absurd hd hu) hobj
 ·rw [heap_alloc_old _ _ (by rw [hw1.1]; exact hk),hw1.1]
 ·cases e; rw [World.size_alloc,hw1.1]; exact ⟨by omega,.inr (Nat.le_refl _)⟩

def Gh.more (g:Gh) (b n:Nat):Nat→Nat→Prop:=fun b' o=>g.S b' o∨(b'=b∧o<n)
theorem Inv.newStable {d:Nat} (hd:h d=.free) (o' : HO) (vs:Array Value) (E:TypeId) (m:Nat) (x:Value) (n:Nat) (t:Bool) (w1:World) (hw1:w1.heap=w.heap∧w1.os=w.os∧w1.tape=w.tape∧w1.output=w.output) (hne:o'≠.free)
  (hobj:GhLe g (g.upd d x n t none (g.more w.heap.size m)) (used h)→Keeps g w (g.upd d x n t none (g.more w.heap.size m)) (w1.alloc (.cells vs E (0,0))) →
   ObjRep (g.upd d x n t none (g.more w.heap.size m)) (w1.alloc (.cells vs E (0,0))) (used (hput h d o')) d o') :
  Inv w0 g0 h0 (hput h d o') (g.upd d x n t none (g.more w.heap.size m)) (w1.alloc (.cells vs E (0,0))) ∧
   Le h g w (hput h d o') (g.upd d x n t none (g.more w.heap.size m)) (w1.alloc (.cells vs E (0,0))):=by
 refine hI.upd d o' x n t _ _ _ none ⟨hw1.2.1,hw1.2.2.1,hw1.2.2.2,by rw [World.size_alloc,hw1.1]; omega⟩ (fun k hk _=>?_) (fun b e=>by cases e) (fun _ _ h=>.inl h) (fun b o hb=>?_) (fun b o e=>by cases e)
  (fun b _ e=>by cases e) hne (fun hu=>absurd hd hu) hobj
 ·rw [heap_alloc_old _ _ (by rw [hw1.1]; exact hk),hw1.1]
 ·rcases hb with hb | ⟨rfl,_⟩
  ·exact .inl hb
  ·exact .inr ⟨by rw [World.size_alloc,hw1.1]; omega,.inl (Nat.le_refl _)⟩
end

theorem upd_same (g:Gh) (r:Nat) (x:Value) (n:Nat) (t:Bool) (o:Option Nat) (S:Nat→Nat→Prop) :
  (g.upd r x n t o S).ρ r=x∧(g.upd r x n t o S).ln r=n∧(g.upd r x n t o S).tk r=t∧(g.upd r x n t o S).own r=o:=by simp [Gh.upd]
theorem heap_new (w:World) (o:Obj) {b:Nat} (hb:b=w.heap.size):(w.alloc o).heap[b]?=some o:=by subst hb; exact heap_alloc_new w o

theorem Rep.cptr_row {g:Gh} {w:World} {U:Nat→Prop} {b:Nat} {cs:List AV} {vs:Array Value} {E:TypeId} {f:Nat × Nat} (hb:w.heap[b]?=some (.cells vs E f)) (hr:RepL g w NoU cs vs.toList)
  (hS:∀ o,o<cs.length→g.S b o):Rep g w U (.cptr cs) (.pointer (some ⟨b,0,none⟩)):=by
 refine .cptr U cs b 0 (fun j=>vs[j]?.getD default) (fun j av hj=>?_) (fun j av hj=>?_)
 ·obtain ⟨x,x1,x2,x3⟩:=hr.at hj;rw [Array.getElem?_toList] at x1;refine ⟨hS _ (by rw [Nat.zero_add]; exact (List.getElem?_eq_some_iff.1 hj).1),?_,?_⟩
  ·rw [cell_row hb,Nat.zero_add,x1]; rfl
  ·rw [x1]; exact x2
 ·obtain ⟨x,x1,x2,x3⟩:=hr.at hj;rw [Array.getElem?_toList] at x1;rw [x1]; exact x3
theorem Rep.slice_off {g:Gh} {w:World} {U:Nat→Prop} {b off sz cap:Nat} {es:List (List AV)} {vs:Array Value} {E:TypeId} {f:Nat × Nat} (hb:w.heap[b]?=some (.cells vs E f)) (hl:∀ cs ∈ es,cs.length=sz)
  (hc:es.length≤cap) (hr:RepL g w NoU es.flatten ((vs.toList.drop off).take (es.length*sz))) (hS:∀ o,o<es.length*sz→g.S b (off+o)):Rep g w U (.slice .none es) (.slice (some ⟨b,off,none⟩) es.length cap):=by
 have key:∀ (i:Nat) (cs:List AV) (j:Nat) (av:AV),es[i]?=some cs→cs[j]?=some av→∃ x,vs[off+(i*sz+j)]?=some x∧x.oneCell'=true∧Rep g w NoU av x∧i*sz+j<es.length*sz:=by
  intro i cs j av h1 h2;have hcl:=hl cs (List.mem_of_getElem? h1);have hj:j<sz:=by rw [← hcl]; exact (List.getElem?_eq_some_iff.1 h2).1
  have hi:=(List.getElem?_eq_some_iff.1 h1).1;have hlt:i*sz+j<es.length*sz:=by
   have:=Nat.mul_le_mul_right sz (show i+1≤es.length from hi)
   rw [Nat.succ_mul] at this; omega
  have hf:=flatten_get hl h1 hj;rw [h2] at hf;obtain ⟨x,x1,x2,x3⟩:=hr.at hf;rw [List.getElem?_take_of_lt hlt,List.getElem?_drop,Array.getElem?_toList] at x1;exact ⟨x,x1,x2,x3,hlt⟩
 refine .slice U es b off sz cap (fun i j=>vs[off+(i*sz+j)]?.getD default) hc (fun i cs h=>hl cs (List.mem_of_getElem? h)) (fun i cs j av h1 h2=>?_) (fun i cs j av h1 h2=>?_)
 ·obtain ⟨x,x1,x2,x3,x4⟩:=key i cs j av h1 h2;rw [Nat.add_assoc];refine ⟨hS _ x4,?_,?_⟩
  ·rw [cell_row hb,x1]; rfl
  ·rw [x1]; exact x2
 ·obtain ⟨x,x1,x2,x3,x4⟩:=key i cs j av h1 h2;rw [x1]; exact x3
theorem Rep.slice_row {g:Gh} {w:World} {U:Nat→Prop} {b sz cap:Nat} {es:List (List AV)} {vs:Array Value} {E:TypeId} {f:Nat × Nat} (hb:w.heap[b]?=some (.cells vs E f)) (hl:∀ cs ∈ es,cs.length=sz)
  (hc:es.length≤cap) (hr:RepL g w NoU es.flatten (vs.toList.take (es.length*sz))) (hS:∀ o,o<es.length*sz→g.S b o):Rep g w U (.slice .none es) (.slice (some ⟨b,0,none⟩) es.length cap):=by
 have key:∀ (i:Nat) (cs:List AV) (j:Nat) (av:AV),es[i]?=some cs→cs[j]?=some av→∃ x,vs[i*sz+j]?=some x∧x.oneCell'=true∧Rep g w NoU av x∧i*sz+j<es.length*sz:=by
  intro i cs j av h1 h2;have hcl:=hl cs (List.mem_of_getElem? h1);have hj:j<sz:=by rw [← hcl]; exact (List.getElem?_eq_some_iff.1 h2).1
  have hi:=(List.getElem?_eq_some_iff.1 h1).1;have hlt:i*sz+j<es.length*sz:=by
   have:=Nat.mul_le_mul_right sz (show i+1≤es.length from hi)
   rw [Nat.succ_mul] at this; omega
  have hf:=flatten_get hl h1 hj;rw [h2] at hf;obtain ⟨x,x1,x2,x3⟩:=hr.at hf;rw [List.getElem?_take_of_lt hlt,Array.getElem?_toList] at x1;exact ⟨x,x1,x2,x3,hlt⟩
 refine .slice U es b 0 sz cap (fun i j=>vs[i*sz+j]?.getD default) hc (fun i cs h=>hl cs (List.mem_of_getElem? h)) (fun i cs j av h1 h2=>?_) (fun i cs j av h1 h2=>?_)
 ·obtain ⟨x,x1,x2,x3,x4⟩:=key i cs j av h1 h2;rw [Nat.zero_add];refine ⟨hS _ x4,?_,?_⟩
  ·rw [cell_row hb,x1]; rfl
  ·rw [x1]; exact x2
 ·obtain ⟨x,x1,x2,x3,x4⟩:=key i cs j av h1 h2;rw [x1]; exact x3

section
variable {P:Program} {w0:World} {g0:Gh} {h0 h:Nat→HO} {g:Gh} {w:World}

theorem newCells_ok (hI:Inv w0 g0 h0 h g w) {d:Nat} (hd:h d=.free) {cs:List AV} {vs:Array Value} (E:TypeId) (hr:RepL g w (used h) cs vs.toList) :
  ∃ g',Inv w0 g0 h0 (hput h d (.cells cs)) g' (w.alloc (.cells vs E (0,0)))∧Le h g w (hput h d (.cells cs)) g' (w.alloc (.cells vs E (0,0))) ∧
   Rep g' (w.alloc (.cells vs E (0,0))) (used (hput h d (.cells cs))) (.ref d 0) (.pointer (some ⟨w.heap.size,0,none⟩)):=by
 obtain ⟨k1,k2⟩:=hI.newOwn hd (.cells cs) (.cells vs E (0,0)) (.pointer (some ⟨w.heap.size,0,none⟩)) 0 false w ⟨rfl,rfl,rfl,rfl⟩ (by simp) (fun hg hk=>by
  obtain ⟨u1,u2,u3,u4⟩:=upd_same g d (.pointer (some ⟨w.heap.size,0,none⟩)) 0 false (some w.heap.size) g.S;exact ⟨u3,w.heap.size,E,vs,u4,u1,heap_new w _ rfl,hr.mono hk (fun i hi=>used_hput (by simp) i hi) hg,fun o ho=>by have:=hI.slt _ _ ho; omega⟩)
 refine ⟨_,k1,k2,.ref _ d 0 w.heap.size (by unfold used; rw [hput_same]; simp) ?_ ?_⟩
 ·simp [Gh.upd]
 ·simp [Gh.upd]
theorem newRo_ok (hI:Inv w0 g0 h0 h g w) {d:Nat} (hd:h d=.free) {cs:List AV} {vs:Array Value} (E:TypeId) (hr:RepL g w NoU cs vs.toList) :
  ∃ g',Inv w0 g0 h0 (hput h d (.ro cs)) g' (w.alloc (.cells vs E (0,0)))∧Le h g w (hput h d (.ro cs)) g' (w.alloc (.cells vs E (0,0))) ∧
   Rep g' (w.alloc (.cells vs E (0,0))) (used (hput h d (.ro cs))) (.ref d 0) (.pointer (some ⟨w.heap.size,0,none⟩)):=by
 obtain ⟨k1,k2⟩:=hI.newStable hd (.ro cs) vs E cs.length (.pointer (some ⟨w.heap.size,0,none⟩)) 0 false w ⟨rfl,rfl,rfl,rfl⟩ (by simp) (fun hg hk=>by
  obtain ⟨u1,u2,u3,u4⟩:=upd_same g d (.pointer (some ⟨w.heap.size,0,none⟩)) 0 false none (g.more w.heap.size cs.length);exact ⟨u3,w.heap.size,u1,Rep.cptr_row (heap_new w _ rfl) (hr.mono hk (fun _ h=>h) (fun _ h=>h.elim)) (fun o ho=>.inr ⟨rfl,ho⟩)⟩)
 refine ⟨_,k1,k2,.ref _ d 0 w.heap.size (by unfold used; rw [hput_same]; simp) ?_ ?_⟩
 ·simp [Gh.upd]
 ·simp [Gh.upd]
theorem newSlice_ok (hI:Inv w0 g0 h0 h g w) {cx:Cx} {d:Option Nat} {sz:Nat} {es:List (List AV)} {K:HK} (hk:newSliceK cx d h sz es K) {vs:Array Value} {cap:Nat} (E:TypeId) (hl:∀ cs ∈ es,cs.length=sz)
  (hc:es.length≤cap) (hs:vs.size=cap*sz) (hr:RepL g w NoU es.flatten (vs.toList.take (es.length*sz))) (w1:World) (hw1:w1.heap=w.heap∧w1.os=w.os∧w1.tape=w.tape∧w1.output=w.output) :
  ∃ g' av h',K av h'∧Inv w0 g0 h0 h' g' (w1.alloc (.cells vs E (0,0)))∧Le h g w h' g' (w1.alloc (.cells vs E (0,0))) ∧
   Rep g' (w1.alloc (.cells vs E (0,0))) (used h') av (.slice (some ⟨w.heap.size,0,none⟩) es.length cap):=by
 have hnew:(w1.alloc (.cells vs E (0,0))).heap[w.heap.size]?=some (.cells vs E (0,0)):=heap_new w1 _ (by rw [hw1.1]);unfold newSliceK at hk;split at hk
 ·exact hk.elim
 ·rename_i d;generalize did cx d=d1 at hk;split at hk
  ·rename_i hd;split at hk
   ·obtain ⟨k1,k2⟩:=hI.newOwn hd (.arr sz es) (.cells vs E (0,0)) (.slice (some ⟨w.heap.size,0,none⟩) es.length cap) es.length true w1 hw1 (by simp) (fun hg hkp=>by
     obtain ⟨u1,u2,u3,u4⟩:=upd_same g d1 (.slice (some ⟨w.heap.size,0,none⟩) es.length cap) es.length true (some w.heap.size) g.S;exact ⟨u3,u2,hl,.inr ⟨w.heap.size,cap,E,vs,u1,u4,hc,hnew,hs,hr.mono hkp (fun _ h=>h) (fun _ h=>h.elim),fun o ho=>by have:=hI.slt _ _ ho; omega⟩⟩)
    refine ⟨_,_,_,hk,k1,k2,.msl _ d1 es.length _ cap (by unfold used; rw [hput_same]; simp) ?_ ?_ (.inr ⟨_,rfl⟩) ?_⟩ <;> simp [Gh.upd]
   ·by_cases hfull:es.length=cap
    ·obtain ⟨k1,k2⟩:=hI.newStable hd (.tok sz es.length) vs E (es.length*sz) (.slice (some ⟨w.heap.size,0,none⟩) es.length cap) es.length true w1 hw1 (by simp) (fun hg hkp=>by
      obtain ⟨u1,u2,u3,u4⟩:=upd_same g d1 (.slice (some ⟨w.heap.size,0,none⟩) es.length cap) es.length true none (g.more w.heap.size (es.length*sz));exact ⟨u3,u2,_,cap,u1,.inl ⟨hfull,u4⟩⟩)
     refine ⟨_,_,_,hk,k1,k2,.tok _ d1 sz es _ (Rep.slice_row hnew hl hc (hr.mono k2.keeps (fun _ h=>h) (fun _ h=>h.elim)) (fun o ho=>.inr ⟨rfl,ho⟩)) hl (by unfold used; rw [hput_same]; simp) ?_ ?_ ?_⟩ <;> simp [Gh.upd]
    ·have hcc:=hI.upd d1 (.tok sz es.length) (.slice (some ⟨w.heap.size,0,none⟩) es.length cap) es.length true (some w.heap.size) (g.more w.heap.size (es.length*sz)) (w1.alloc (.cells vs E (0,0))) none
      ⟨hw1.2.1,hw1.2.2.1,hw1.2.2.2,by rw [World.size_alloc,hw1.1]; omega⟩ (fun k hk' _=>by rw [heap_alloc_old _ _ (by rw [hw1.1]; exact hk'),hw1.1]) (fun b e=>by cases e) (fun _ _ h=>.inl h)
      (fun b o hb=>by
       rcases hb with hb | ⟨rfl,_⟩
       ·exact .inl hb
       ·exact .inr ⟨by rw [World.size_alloc,hw1.1]; omega,.inl (Nat.le_refl _)⟩) (fun b o e=>by cases e)
      (fun b _ e=>by cases e; rw [World.size_alloc,hw1.1]; exact ⟨by omega,.inr (Nat.le_refl _)⟩) (by simp) (fun hu=>absurd hd hu) (fun hg hkp=>by
       obtain ⟨u1,u2,u3,u4⟩:=upd_same g d1 (.slice (some ⟨w.heap.size,0,none⟩) es.length cap) es.length true (some w.heap.size) (g.more w.heap.size (es.length*sz));exact ⟨u3,u2,_,cap,u1,.inr ⟨hc,w.heap.size,E,vs,0,rfl,u4,hnew,by rw [hs,Nat.zero_add],fun o ho=>by
        rcases ho with ho | ⟨_,ho⟩
        ·have:=hI.slt _ _ ho; omega
        ·omega⟩⟩)
     obtain ⟨k1,k2⟩:=hcc;refine ⟨_,_,_,hk,k1,k2,.tok _ d1 sz es _ (Rep.slice_row hnew hl hc (hr.mono k2.keeps (fun _ h=>h) (fun _ h=>h.elim)) (fun o ho=>.inr ⟨rfl,ho⟩)) hl (by unfold used; rw [hput_same]; simp) ?_ ?_ ?_⟩ <;> simp [Gh.upd]
  ·exact hk.elim
end
end Go.Eng

namespace Go.Eng

theorem over_eq {α:Type} : ∀ (cs:List α) (o:Nat) (vs:List α),o+vs.length≤cs.length→over cs o vs=cs.take o++vs++cs.drop (o+vs.length)
 | [],o,vs,h=>by
  simp at h;obtain ⟨rfl,rfl⟩:=h
  rfl
 | c :: cs,o+1,vs,h=>by
  rw [over,over_eq cs o vs (by simp at h; omega)];simp only [List.take_succ_cons,List.cons_append,List.append_assoc,Nat.add_right_comm o 1,List.drop_succ_cons]
 | c :: cs,0,[],h=>by simp [over]
 | c :: cs,0,v :: vs,h=>by
  rw [over,over_eq cs 0 vs (by simp at h; omega)];simp
theorem over_take {α:Type} (cs:List α) (o n:Nat) (vs:List α) (h:o+vs.length≤n) (hn:n≤cs.length):(over cs o vs).take n=over (cs.take n) o vs:=by
 apply List.ext_getElem?;intro i;rw [over_get _ _ _ _ (by simp; omega)]
 by_cases hi:i<n
 ·rw [List.getElem?_take_of_lt hi,over_get _ _ _ _ (by omega),List.getElem?_take_of_lt hi]
 ·rw [if_neg (by omega),List.getElem?_eq_none (by rw [List.length_take,over_len]; omega),List.getElem?_eq_none (by simp; omega)]
theorem flatten_set {α:Type} {n:Nat} : ∀ {es:List (List α)},(∀ c ∈ es,c.length=n)→∀ {i:Nat} {c:List α},es[i]?=some c→∀ (o:Nat) (vs:List α),o+vs.length≤n →
  (es.set i (over c o vs)).flatten=over es.flatten (i*n+o) vs
 | [],_,i,c,h,_,_,_=>by simp at h
 | d :: es,hl,i,c,h,o,vs,hle=>by
  have hd:=hl d (List.mem_cons_self ..);have hfl:=flatten_len (es:=d :: es) (n:=n) hl;have hlt:=(List.getElem?_eq_some_iff.1 h).1;have hle2:i*n+o+vs.length≤(d :: es).flatten.length:=by
   rw [hfl]
   have:=Nat.mul_le_mul_right n (show i+1≤(d :: es).length from hlt)
   rw [Nat.succ_mul] at this; omega
  have hcl:=hl c (List.mem_of_getElem? h);apply List.ext_getElem?;intro j;rw [over_get _ _ _ _ hle2];have hset:∀ e ∈ (d :: es).set i (over c o vs),e.length=n:=fun e he=>by
   rcases List.mem_or_eq_of_mem_set he with he | rfl
   ·exact hl e he
   ·rw [over_len]; exact hcl
  by_cases hn:n=0
  ·subst hn;have h1:=flatten_len hset;have h2:=hfl;simp only [Nat.mul_zero,List.length_eq_zero_iff] at h1 h2;rw [h1,h2]
   have:¬ (i*0+o≤j∧j<i*0+o+vs.length):=by omega
   rw [if_neg this]
  ·have hdm:j=j / n*n+j % n:=by rw [Nat.mul_comm]; exact (Nat.div_add_mod j n).symm
   have hmod:j % n<n:=Nat.mod_lt _ (by omega)
   by_cases hj:j / n<(d :: es).length
   ·have g1:(d :: es)[j / n]?=some ((d :: es)[j / n]):=List.getElem?_eq_getElem hj;have g2:((d :: es).set i (over c o vs))[j / n]?=some (if i=j / n then over c o vs else (d :: es)[j / n]):=by
     rw [List.getElem?_set]
     by_cases e:i=j / n
     ·rw [if_pos e,if_pos (by omega),if_pos e]
     ·rw [if_neg e,if_neg e]; exact g1
    have f1:=flatten_get hl g1 hmod;have f2:=flatten_get hset g2 hmod;rw [← hdm] at f1 f2;rw [f1,f2];split
    ·rename_i e;rw [e] at h;rw [g1] at h;cases h;rw [over_get _ _ _ _ (by omega)];have e2:i*n+o≤j↔o≤j % n:=by rw [e]; omega
     have e3:j<i*n+o+vs.length↔j % n<o+vs.length:=by rw [e]; omega
     simp only [e2,e3];split
     ·congr 1; rw [e]; omega
     ·rfl
    ·rename_i e
     have:¬ (i*n+o≤j∧j<i*n+o+vs.length):=by
      rintro ⟨q1,q2⟩
      apply e;have a1:i*n≤j:=by omega
      have a2:j<(i+1)*n:=by rw [Nat.succ_mul]; omega
      have:=(Nat.le_div_iff_mul_le (by omega)).2 a1
      have:=(Nat.div_lt_iff_lt_mul (by omega)).2 a2
      omega
     rw [if_neg this]
   ·have hge:(d :: es).length*n≤j:=by
     have:=Nat.not_lt.1 hj
     have:=(Nat.le_div_iff_mul_le (by omega)).1 this
     exact this
    have:¬ (i*n+o≤j∧j<i*n+o+vs.length):=by rw [hfl] at hle2; omega
    rw [if_neg this,List.getElem?_eq_none (by rw [flatten_len hset,List.length_set]; exact hge),List.getElem?_eq_none (by rw [hfl]; exact hge)]

theorem run_storeVar {P:Program} {T:Tab} (hT:TabOk P T) (w:World) {t b off:Nat} {x:Value} {cur:Array Value} {E:TypeId} (hd:(T t).d≠.other) (hs:x.cells.toList.length=(T t).size)
  (h1:∀ v ∈ x.cells.toList,v.oneCell'=true) (hb:w.heap[b]?=some (.cells cur E (0,0))) (hle:off+x.cells.toList.length≤cur.size) :
  (Instr.storeAt t (.pointer (some ⟨b,off,none⟩)) x).run P w=.ok () (w.setRow b (over cur.toList off x.cells.toList).toArray):=by
 have hst:=run_storeCells_at P b off E x.cells.toList 0 cur w hb (by simpa using hle) h1;simp only [Nat.add_zero] at hst;have hs' : x.cells.size=(T t).size:=by simpa using hs
 rw [over_eq _ _ _ (by simpa using hle)];simp only [Instr.storeAt,Sem.run_bind,Instr.sureAddr,Sem.run_pure,Result.andThen_ok,storeVar,hT.size w hd,hs',ne_eq,not_true_eq_false,if_false];exact hst

section
variable {P:Program} {w0:World} {g0:Gh} {h0 h:Nat→HO} {g:Gh} {w:World} (hI:Inv w0 g0 h0 h g w)
include hI

theorem allocK_ok {T:Tab} (hT:TabOk P T) {d:Option Nat} {e:Nat} {K:HK} (hk:allocK T d h e K):Does P w0 g0 h0 h g w (Instr.alloc e true (.tuple #[])) K:=by
 unfold allocK at hk;split at hk
 ·exact hk.elim
 ·split at hk
  ·rename_i hd;split at hk
   ·exact hk.elim
   ·rename_i hne;split at hk
    ·rename_i ha;obtain ⟨z,z1,z2,_⟩:=zero_run hT (w:=w) hne;have hr:RepL g w (used h) ((T e).zc.map .v) z.cells.toList:=by rw [z2] at ha ⊢; exact RepL.vals ha
     obtain ⟨g',k1,k2,k3⟩:=newCells_ok hI hd (vs:=z.cells) e hr;refine ⟨_,_,g',_,_,?_,hk,k1,k2,k3⟩;simp [Instr.alloc,z1,newVar,newRow]
    ·exact hk.elim
  ·exact hk.elim

theorem strL_ok {cs:List AV} {vs:List Value} (hr:RepL g w (used h) cs vs):RepL g w NoU (cs.map (str h)) vs:=by
 refine ⟨by rw [List.length_map]; exact hr.1,hr.2.1,fun i av x h1 h2=>?_⟩;rw [List.getElem?_map,Option.map_eq_some_iff] at h1;obtain ⟨a,a1,rfl⟩:=h1;exact (hr.2.2 i a x a1 h2).str hI.objs

theorem boxK_ok {cx:Cx} {d:Option Nat} {e:Nat} {x:AV} {vx:Value} {K:HK} (hx:Rep g w (used h) x vx) (hk:boxK cx d h e x K):Does P w0 g0 h0 h g w (Instr.box e vx) K:=by
 unfold boxK at hk;split at hk
 ·exact hk.elim
 ·split at hk
  ·rename_i hd;split at hk
   ·exact hk.elim
   ·obtain ⟨cs,hk,hn,hr⟩:=cellsK_ok hx hk;split at hk
    ·obtain ⟨g',k1,k2,k3⟩:=newRo_ok hI hd (vs:=vx.cells) e (strL_ok hI hr);exact ⟨_,_,g',_,_,rfl,hk,k1,k2,k3⟩
    ·obtain ⟨g',k1,k2,k3⟩:=newCells_ok hI hd (vs:=vx.cells) e hr;exact ⟨_,_,g',_,_,rfl,hk,k1,k2,k3⟩
  ·exact hk.elim

theorem Inv.write {r b:Nat} (hl:(h r).live) (ho:g.own r=some b) (o' : HO) {cur:Array Value} {E:TypeId} (hb:w.heap[b]?=some (.cells cur E (0,0))) (new:Array Value) (n:Nat) (ow:Option Nat) (S' : Nat→Nat→Prop)
  (hne:o'≠.free) (hn:n=g.ln r) (how:∀ b',ow=some b'→b'=b) (hS:∀ b o,g.S b o→S' b o) (hSn:∀ b' o,S' b' o→g.S b' o∨b'=b) (hkeep:∀ o,g.S b o→new[o]?=cur[o]?)
  (hobj:GhLe g (g.upd r (g.ρ r) n (g.tk r) ow S') (used h)→Keeps g w (g.upd r (g.ρ r) n (g.tk r) ow S') (w.setRow b new)→(w.setRow b new).heap[b]?=some (.cells new E (0,0)) →
   ObjRep (g.upd r (g.ρ r) n (g.tk r) ow S') (w.setRow b new) (used (hput h r o')) r o') :
  Inv w0 g0 h0 (hput h r o') (g.upd r (g.ρ r) n (g.tk r) ow S') (w.setRow b new)∧Le h g w (hput h r o') (g.upd r (g.ρ r) n (g.tk r) ow S') (w.setRow b new):=by
 have hnew:=setRow_heap w b cur new E (0,0) hb;have hlt:=(hI.loc r b hl ho).1
 refine hI.upd r o' _ _ _ _ _ _ (some b) ⟨rfl,rfl,rfl,by rw [size_setRow]; exact Nat.le_refl _⟩ (fun k hk hne=>setRow_other w b k new (fun e=>hne (by rw [e]))) (fun b' e=>by cases e; exact ⟨hl,ho⟩) hS (fun b' o hs=>?_)
  (fun b' o e hs=>?_) (fun b' _ e=>?_) hne (fun _=>⟨rfl,by omega,fun _=>rfl,fun _=>rfl⟩) (fun hg hk=>hobj hg hk hnew)
 ·rcases hSn b' o hs with h1 | rfl
  ·exact .inl h1
  ·exact .inr ⟨by rw [size_setRow]; exact hlt,.inr ⟨hl,ho⟩⟩
 ·cases e
  refine ⟨?_,fun es ck he=>by rw [hb] at he; cases he⟩;rw [cell_row hnew,cell_row hb]; exact hkeep o hs
 ·obtain rfl:=how b' e;exact ⟨by rw [size_setRow]; exact hlt,.inl ⟨hl,ho⟩⟩

theorem storeK_ok {cx:Cx} (hT:TabOk P cx.T) {t:Nat} {p x:AV} {vp vx:Value} {K:HK} (hp:Rep g w (used h) p vp) (hx:Rep g w (used h) x vx) (hk:storeK cx h t p x K) :
  DoesU P w0 g0 h0 h g w (Instr.storeAt t vp vx) K:=by
 unfold storeK at hk;split at hk
 ·exact hk.elim
 ·rename_i hd;have h5:=cellsK_ok hx hk
  clear hk
  obtain ⟨vs,hk,hn,hr⟩:=h5;have hlen:vx.cells.toList.length=vs.length:=hr.1;split at hk
  ·rename_i r off;have ho:=hI.objs r;split at hk
   ·rename_i cs e;obtain ⟨hle,hk⟩:=hk;rw [e] at ho;obtain ⟨t0,b,E,cur,a1,a2,a3,a4,a5⟩:=ho;cases hp with
    | ref _ _ _ b' hu ht hpp =>
     rw [a2] at hpp; cases hpp;have hcs:cur.toList.length=cs.length:=a4.1;have hrun:=run_storeVar hT w (t:=t) (off:=off) (x:=vx) hd (by rw [hlen,hn]) hr.2.1 a3 (by rw [hlen]; simp at hcs; omega);have hl:(h r).live:=by rw [e]; trivial
     have hov:=a4.over hr off hle;split at hk
     ·obtain ⟨k1,k2⟩:=hI.write hl a1 (.ro ((over cs off vs).map (str h))) a3 (over cur.toList off vx.cells.toList).toArray (g.ln r) none (g.more b cs.length) (by simp) rfl (fun _ e=>by cases e) (fun _ _ h=>.inl h)
       (fun b' o hs=>hs.elim .inl (fun hs=>.inr hs.1)) (fun o hs=>absurd hs (a5 o)) (fun hg hkp hnew=>by
        obtain ⟨u1,u2,u3,u4⟩:=upd_same g r (g.ρ r) (g.ln r) (g.tk r) none (g.more b cs.length);refine ⟨u3.trans t0,b,u1.trans a2,Rep.cptr_row hnew ?_ (fun o ho=>.inr ⟨rfl,?_⟩)⟩
        ·exact (strL_ok hI hov).mono hkp (fun _ h=>h) (fun _ h=>h.elim)
        ·rw [List.length_map,over_len] at ho; exact ho)
      exact ⟨_,_,_,hrun,hk,k1,k2⟩
     ·obtain ⟨k1,k2⟩:=hI.write hl a1 (.cells (over cs off vs)) a3 (over cur.toList off vx.cells.toList).toArray (g.ln r) (g.own r) g.S (by simp) rfl (fun b' e=>by rw [a1] at e; cases e; rfl) (fun _ _ h=>h)
       (fun b' o hs=>.inl hs) (fun o hs=>absurd hs (a5 o)) (fun hg hkp hnew=>by
        obtain ⟨u1,u2,u3,u4⟩:=upd_same g r (g.ρ r) (g.ln r) (g.tk r) (g.own r) g.S;exact ⟨u3.trans t0,b,E,_,u4.trans a1,u1.trans a2,hnew,hov.mono hkp (fun i hi=>used_hput (by simp) i hi) hg,a5⟩)
      exact ⟨_,_,_,hrun,hk,k1,k2⟩
   ·exact hk.elim
  ·rename_i r n sz i off;have ho:=hI.objs r;split at hk
   ·rename_i sz' es e;rw [e] at ho;split at hk
    ·rename_i hz;obtain rfl:=Nat.eq_of_beq_eq_true hz;obtain ⟨hnl,cs,hi,hle,hk⟩:=hk;obtain ⟨t1,l1,al,a1⟩:=ho;have hlt:=(List.getElem?_eq_some_iff.1 hi).1;rcases a1 with ⟨rfl,_⟩ | ⟨b,cap,E,cur,e1,e2,e3,e4,e5,e6,e7⟩
     ·simp at hi
     ·cases hp with
      | eref _ _ _ _ _ _ b' cap' hu ht hn' hpp =>
       have hpp:=hpp (hnl.trans l1.symm);rw [e1] at hpp;simp only [Value.slice.injEq,Option.some.injEq,Addr.mk.injEq] at hpp;obtain ⟨⟨rfl,_,_⟩,_,_⟩:=hpp;have hcl:=al cs (List.mem_of_getElem? hi);have hmul:i*sz+sz≤es.length*sz:=by
        have:=Nat.mul_le_mul_right sz (show i+1≤es.length from hlt)
        rwa [Nat.succ_mul] at this
       have hmul2:es.length*sz≤cap*sz:=Nat.mul_le_mul_right sz e3;have hrun:=run_storeVar hT w (t:=t) (off:=i*sz+off) (x:=vx) hd (by rw [hlen,hn]) hr.2.1 e4 (by rw [hlen]; omega);have hl:(h r).live:=by rw [e]; trivial
       have hal' : ∀ c ∈ es.set i (over cs off (vs.map (str h))),c.length=sz:=fun c hc=>by
        rcases List.mem_or_eq_of_mem_set hc with hc | rfl
        ·exact al c hc
        ·rw [over_len]; exact hcl
       have hfl:=flatten_set al hi off (vs.map (str h)) (by rw [List.length_map]; exact hle);have hcur:cur.toList.length=cap*sz:=by rw [Array.length_toList]; exact e5
       have htk:((over cur.toList (i*sz+off) vx.cells.toList).toArray.toList.take ((es.set i (over cs off (vs.map (str h)))).length*sz))=over (cur.toList.take (es.length*sz)) (i*sz+off) vx.cells.toList:=by
        rw [List.length_set];exact over_take _ _ _ _ (by rw [hlen]; omega) (by rw [hcur]; exact hmul2)
       have hov:RepL g w NoU (es.set i (over cs off (vs.map (str h)))).flatten ((over cur.toList (i*sz+off) vx.cells.toList).toArray.toList.take ((es.set i (over cs off (vs.map (str h)))).length*sz)):=by
        rw [htk,hfl];exact e6.over (strL_ok hI hr) _ (by rw [List.length_map,flatten_len al]; omega)
       obtain ⟨k1,k2⟩:=hI.write hl e2 (.arr sz (es.set i (over cs off (vs.map (str h))))) e4 (over cur.toList (i*sz+off) vx.cells.toList).toArray (g.ln r) (g.own r) g.S (by simp) rfl (fun b' e=>by rw [e2] at e; cases e; rfl) (fun _ _ h=>h)
        (fun b' o hs=>.inl hs) (fun o hs=>absurd hs (e7 o)) (fun hg hkp hnew=>by
         obtain ⟨u1,u2,u3,u4⟩:=upd_same g r (g.ρ r) (g.ln r) (g.tk r) (g.own r) g.S;refine ⟨u3.trans t1,u2.trans (by rw [List.length_set]; exact l1),hal',.inr ⟨b,cap,E,_,?_,u4.trans e2,by rw [List.length_set]; exact e3,hnew,?_,hov.mono hkp (fun _ h=>h) (fun _ h=>h.elim),e7⟩⟩
         ·rw [u1,e1,List.length_set]
         ·simp only [List.size_toArray,over_len,Array.length_toList]; exact e5)
       exact ⟨_,_,_,hrun,hk,k1,k2⟩
    ·exact hk.elim
   ·exact hk.elim
  ·exact hk.elim
end
end Go.Eng

namespace Go.Eng

theorem over_full {α:Type} (c vs:List α) (h:vs.length=c.length):over c 0 vs=vs:=by
 rw [over_eq _ _ _ (by omega)];simp [h]
theorem replicate_flatten {α:Type} [Inhabited α] (n:Nat) (z:List α) (hz:z≠[]):(List.replicate n z).flatten=(List.range (n*z.length)).map fun k=>z[k % z.length]!:=by
 have hl:∀ c ∈ List.replicate n z,c.length=z.length:=fun c hc=>by rw [List.eq_of_mem_replicate hc]
 have hpos:0<z.length:=List.length_pos_iff.2 hz;apply List.ext_getElem?;intro k
 by_cases hk:k<n*z.length
 ·have hdm:k=k / z.length*z.length+k % z.length:=by rw [Nat.mul_comm]; exact (Nat.div_add_mod k _).symm
  have hmod:k % z.length<z.length:=Nat.mod_lt _ hpos;have hi:k / z.length<n:=(Nat.div_lt_iff_lt_mul hpos).2 hk;have f1:=flatten_get hl (i:=k / z.length) (c:=z) (by rw [List.getElem?_replicate,if_pos hi]) hmod;rw [← hdm] at f1;rw [f1];simp [hk,hmod]
 ·rw [List.getElem?_eq_none (by rw [flatten_len hl,List.length_replicate]; omega),List.getElem?_eq_none (by simp; omega)]

section
variable {P:Program} {w0:World} {g0:Gh} {h0 h:Nat→HO} {g:Gh} {w:World} (hI:Inv w0 g0 h0 h g w)
include hI

theorem fillE_ok {n sz:Nat} {t:Nat→AV} {ρ:Operand→Value} (ht:∀ x:Operand,Rep g w (used h) (ev t x) (ρ x)) :
  ∀ {ps:List (Nat × Operand)} {es:List (List AV)} {xs:Array Value} {K:List (List AV)→Prop},es.length=n→(∀ c ∈ es,c.length=sz)→RepL g w NoU es.flatten xs.toList→fillE n sz h es t ps K →
   ∃ es' xs',K es'∧es'.length=n∧(∀ c ∈ es',c.length=sz)∧RepL g w NoU es'.flatten xs'.toList∧Instr.fill (fun i=>some (i*sz,sz)) xs (ps.map fun (i,x)=>(i,ρ x))=some xs'
 | [],es,xs,K,hn,hl,h,hk=>⟨es,xs,hk,hn,hl,h,rfl⟩
 | (i,x) :: ps,es,xs,K,hn,hl,h,hk=>by
  unfold fillE at hk;split at hk
  ·rename_i hi;have hi:i<n:=Nat.le_of_ble_eq_true hi;have h5:=cellsK_ok (ht x) hk
   clear hk
   obtain ⟨as1,hk,hna,hr⟩:=h5;have hsz:(ρ x).cells.size=sz:=by rw [← hna]; simpa using hr.1
   have hsl:=strL_ok hI hr;obtain ⟨c,hc⟩ : ∃ c,es[i]?=some c:=⟨_,List.getElem?_eq_getElem (by omega)⟩;have hcl:=hl c (List.mem_of_getElem? hc);have hle:i*sz+sz≤es.flatten.length:=by
    rw [flatten_len hl,hn]
    have:=Nat.mul_le_mul_right sz (show i+1≤n from hi)
    rwa [Nat.succ_mul] at this
   have hfl:=flatten_set hl hc 0 (as1.map (str ‹Nat→HO›)) (by rw [List.length_map,hna]; omega);rw [over_full _ _ (by rw [List.length_map,hna,hcl]),Nat.add_zero] at hfl;have hnew:=h.over hsl (i*sz) (by rw [List.length_map,hna]; exact hle);have hxs:xs.size=es.flatten.length:=by have:=h.1; rwa [Array.length_toList] at this
   have e:=foldl_over (ρ x).cells.toList 0 (i*sz) xs (by rw [Array.length_toList]; omega);simp only [Nat.add_zero] at e;rw [← e,← hfl] at hnew;obtain ⟨es',xs',k1,k2,k3,k4,k5⟩:=fillE_ok ht (es:=es.set i (as1.map (str _))) (by rw [List.length_set]; exact hn) (fun c' hc'=>by
    rcases List.mem_or_eq_of_mem_set hc' with hc' | rfl
    ·exact hl c' hc'
    ·rw [List.length_map]; exact hna) hnew hk
   refine ⟨es',xs',k1,k2,k3,k4,?_⟩;simp only [List.map_cons,Instr.fill];have e2:(ρ x).cells.zipIdx.foldl (fun cs (c,j)=>cs.setIfInBounds (i*sz+j) c) xs=((ρ x).cells.toList.zipIdx 0).foldl (fun (cs:Array Value) (p:Value × Nat)=>cs.setIfInBounds (i*sz+p.2) p.1) xs:=by
    rw [← Array.foldl_toList]; simp
   rw [if_neg (by simp [hsz]; omega),e2];exact k5
  ·exact hk.elim

theorem buildSliceK_ok {cx:Cx} (hT:TabOk P cx.T) {d:Option Nat} {ty n:Nat} {t:Nat→AV} {ρ:Operand→Value} {K:HK} (ht:∀ x:Operand,Rep g w (used h) (ev t x) (ρ x)) {ps:Array (Nat × Operand)}
  (hk:buildSliceK cx d h ty n t ps.toList K):Does P w0 g0 h0 h g w (Instr.buildSlice ty n (ps.map fun (i,x)=>(i,ρ x))) K:=by
 unfold buildSliceK at hk;split at hk
 ·rename_i e hs;split at hk
  ·rename_i hone hzl;have hzl:=Nat.eq_of_beq_eq_true hzl;split at hk
   ·exact hk.elim
   ·rename_i m hm;split at hk
    ·rename_i hle;have hle:=Nat.le_of_ble_eq_true hle;have hz0:(cx.T e).zc≠[]:=fun e0=>by rw [e0] at hzl; rw [hm] at hzl; cases hzl
     have hlr:∀ c ∈ List.replicate n ((cx.T e).zc.map AV.v),c.length=(cx.T e).size:=fun c hc=>by rw [List.eq_of_mem_replicate hc,List.length_map]; exact hzl
     have hinit:RepL g w NoU (List.replicate n ((cx.T e).zc.map AV.v)).flatten ((Array.range (n*(cx.T e).size)).map fun k=>(cx.T e).zc.toArray[k % (cx.T e).zc.toArray.size]!).toList:=by
      have e1:((Array.range (n*(cx.T e).size)).map fun k=>(cx.T e).zc.toArray[k % (cx.T e).zc.toArray.size]!).toList=(List.replicate n (cx.T e).zc).flatten:=by
       rw [replicate_flatten n _ hz0];simp [hzl]
      have e2:(List.replicate n ((cx.T e).zc.map AV.v)).flatten=(List.replicate n (cx.T e).zc).flatten.map AV.v:=by
       rw [List.map_flatten,List.map_replicate]
      rw [e1,e2];refine RepL.vals ?_;have hall:∀ l:List AV,(∀ a ∈ l,one a=true)→allOne l=true:=by
       intro l
       induction l with
       | nil=>intro _; rfl
       | cons a l ih=>intro h; simp [allOne,h a (List.mem_cons_self ..),ih (fun b hb=>h b (List.mem_cons_of_mem _ hb))]
      refine hall _ (fun a ha=>?_);obtain ⟨x,hx,rfl⟩:=List.mem_map.1 ha;obtain ⟨l,hl,hx⟩:=List.mem_flatten.1 hx;rw [List.eq_of_mem_replicate hl] at hx;exact allOne_ok hone _ (List.mem_map.2 ⟨x,hx,rfl⟩)
     obtain ⟨es',xs',k1,k2,k3,k4,k5⟩:=fillE_ok hI ht (by rw [List.length_replicate]) hlr hinit hk;have hxs:xs'.size=n*(cx.T e).size:=by
      have:=k4.1
      rw [Array.length_toList,flatten_len k3,k2] at this;exact this
     obtain ⟨g',av,h',q1,q2,q3,q4⟩:=newSlice_ok hI k1 (vs:=xs') (cap:=n) e k3 (by omega) hxs (by
      rw [k2,List.take_of_length_le (by rw [Array.length_toList,hxs]; exact Nat.le_refl _)];exact k4) w ⟨rfl,rfl,rfl,rfl⟩
     rw [k2] at q4;refine ⟨_,_,g',av,h',?_,q1,q2,q3,q4⟩;obtain ⟨z,z1,z2⟩:=zero_run1 hT (w:=w) hm;have hsz:=hT.size1 w hm;have e3:(Array.map (fun x:Nat × Operand=>match x with | (i,x)=>(i,ρ x)) ps).toList=ps.toList.map fun (i,x)=>(i,ρ x):=by simp
     have hnle:¬ (n*(m+1) > 2 ^ 24):=by rw [hm] at hle; have hle:n*(m+1)≤16777216:=hle; omega
     simp only [Instr.buildSlice,Sem.run_bind,run_underlying (hT.slice hs),Result.andThen_ok,hsz,if_neg hnle];rw [e3];rw [hm] at k5
     by_cases h0:n*(m+1)=0
     ·have hn0:n=0:=by
       rcases Nat.mul_eq_zero.1 h0 with h | h
       ·exact h
       ·cases h
      subst hn0;have er:Array.range 0=#[]:=rfl;simp only [Nat.zero_mul,er,List.map_toArray,List.map_nil] at k5;simp only [Nat.zero_mul,if_true,er,List.map_toArray,List.map_nil,k5];simp [newRow]
     ·rw [z2] at k5;simp only [Array.toArray_toList] at k5;simp only [if_neg h0,Sem.run_bind,z1,Result.andThen_ok,Sem.run_pure,k5];simp [newRow]
    ·exact hk.elim
  ·exact hk.elim
 ·exact hk.elim
end
end Go.Eng

namespace Go.Eng

theorem AllLen_mem {sz:Nat} : ∀ {es:List (List AV)},AllLen sz es→∀ c ∈ es,c.length=sz
 | [],_,c,h=>by cases h
 | d :: es,h,c,hc=>by
  rcases List.mem_cons.1 hc with rfl | hc
  ·exact h.1
  ·exact AllLen_mem h.2 c hc

def Shows (w:World) (x:Value) (n sz:Nat) (news:List Value):Prop :=
 news.length=n*sz∧(∀ v ∈ news,v.oneCell'=true)∧∃ (a:Option Addr) (c:Nat),x=.slice a n c∧(n=0∨∃ b:Addr,a=some b∧∀ j u,news[j]?=some u→w.cell? (b.add j)=some u)

theorem Shows.of_rep {g:Gh} {w:World} {U:Nat→Prop} {es:List (List AV)} {sz:Nat} {x:Value} (h:Rep g w U (.slice .none es) x) (hl:∀ c ∈ es,c.length=sz) :
  ∃ news,Shows w x es.length sz news∧RepL g w NoU es.flatten news:=by
 cases h with
 | snil _ a cap=>exact ⟨[],⟨by simp,by simp,a,cap,rfl,.inl rfl⟩,by simp,by simp,fun i av x h1 h2=>by simp at h2⟩
 | slice _ _ b off sz' cap val hc hl' hcell hrep =>
  have hf:=flatten_len hl;have key:∀ j,j<es.length*sz→∃ cs,es[j / sz]?=some cs∧es.flatten[j]?=cs[j % sz]?∧j % sz<cs.length∧sz'=sz∧j=j / sz*sz+j % sz:=by
   intro j hj;have hpos:0<sz:=Nat.pos_of_ne_zero (fun e=>by rw [e] at hj; omega);have hdm:j=j / sz*sz+j % sz:=by rw [Nat.mul_comm]; exact (Nat.div_add_mod j sz).symm
   have hi:j / sz<es.length:=(Nat.div_lt_iff_lt_mul hpos).2 hj;have hmod:j % sz<sz:=Nat.mod_lt _ hpos;have h1:es[j / sz]?=some es[j / sz]:=List.getElem?_eq_getElem hi;have h2:=flatten_get hl h1 hmod;rw [← hdm] at h2;have h3:=hl _ (List.getElem_mem hi);exact ⟨_,h1,h2,by rw [h3]; exact hmod,by rw [← h3]; exact (hl' _ _ h1).symm,hdm⟩
  have hcells:∀ j,j<es.length*sz→∃ av,es.flatten[j]?=some av∧w.cell? ⟨b,off+j,none⟩=some (val (j / sz) (j % sz))∧(val (j / sz) (j % sz)).oneCell'=true∧Rep g w NoU av (val (j / sz) (j % sz)):=by
   intro j hj;obtain ⟨cs,k1,k2,k3,rfl,k5⟩:=key j hj;have hav:cs[j % sz']?=some cs[j % sz']:=List.getElem?_eq_getElem k3;obtain ⟨_,c2,c3⟩:=hcell _ _ _ _ k1 hav;rw [Nat.add_assoc,← k5] at c2;exact ⟨_,k2.trans hav,c2,c3,hrep _ _ _ _ k1 hav⟩
  refine ⟨(List.range (es.length*sz)).map fun j=>val (j / sz) (j % sz),⟨by simp,fun v hv=>?_,some ⟨b,off,none⟩,cap,rfl,.inr ⟨_,rfl,fun j u hu=>?_⟩⟩,by rw [hf]; simp,fun v hv=>?_,fun i av x h1 h2=>?_⟩
  ·obtain ⟨j,hj,rfl⟩:=List.mem_map.1 hv;obtain ⟨_,_,_,c,_⟩:=hcells j (List.mem_range.1 hj);exact c
  ·obtain ⟨hj,rfl⟩:=range_map_get hu;rw [Addr.add_lit];exact (hcells j hj).choose_spec.2.1
  ·obtain ⟨j,hj,rfl⟩:=List.mem_map.1 hv;obtain ⟨_,_,_,c,_⟩:=hcells j (List.mem_range.1 hj);exact c
  ·obtain ⟨hj,rfl⟩:=range_map_get h2;obtain ⟨av',c1,_,_,c4⟩:=hcells i hj;rw [h1] at c1; cases c1; exact c4

section
variable {P:Program} {T:Tab} (hT:TabOk P T)
include hT

theorem append_facts {e n:Nat} (hs:(T e).size=n+1):∃ i z,P.info? e=some i∧i.zero=some z∧i.size=(T e).size∧i.bytes=(T e).bytes∧(T e).zc=z.cells.toList:=by
 rcases hT e with h | h
 ·rw [h] at hs; cases hs
 unfold tiOf at h;split at h
 ·split at h
  ·rename_i d i h1 h2 _ z h3;exact ⟨i,z,h2,h3,by rw [h],by rw [h],by rw [TI.zc_cells,h]⟩
  ·rw [h] at hs; cases hs
 ·rw [h] at hs; cases hs

theorem run_append_zero (w:World) {t e ty k:Nat} (ht:(T t).d=.slice e) (hk:(T e).size=k+1) (a a' : Option Addr) (n cap c:Nat) (hc:n≤cap) :
  (Builtin.append_ #[t,t] ty #[.slice a n cap,.slice a' 0 c]).run P w=.ok (.slice a n cap) w:=by
 have hu:=hT.slice ht;cases a <;> cases a' <;> simp [Builtin.append_,run_underlying hu,hT.size1 w hk,Builtin.lenOf,hc,Builtin.firstCells,loadCells,loadCellsFrom,storeCells]

theorem run_append_new (w:World) {t e ty k:Nat} (ht:(T t).d=.slice e) (hk:(T e).size=k+1) (hz:(T e).zc.length=(T e).size) {s x:Value} {n m cap c:Nat} {olds news:List Value} {a a' : Option Addr}
  (hso:Shows w s n (T e).size olds) (hs:s=.slice a n cap) (hcap:a=none→cap=0) (hsx:Shows w x m (T e).size news) (hx:x=.slice a' m c) (hm:0<m) (hg:cap<n+m) (hb:(n+m)*(T e).bytes≤140737488355328) (h63:n+m≤9223372036854775807) :
  ∃ nc rest,(Builtin.append_ #[t,t] ty #[s,x]).run P w=.ok (.slice (some ⟨w.heap.size,0,none⟩) (n+m) nc) (w.drew.alloc (.cells (olds++news++rest).toArray e (0,0)))∧n+m≤nc ∧
   (olds++news++rest).length=nc*(T e).size:=by
 obtain ⟨i,z,i1,i2,i3,i4,i5⟩:=append_facts hT hk;have hu:=hT.slice ht;obtain ⟨n1,n2,a1,c1,n3,n4⟩:=hsx;subst hx;cases n3;rcases n4 with h | ⟨b,rfl,hnews⟩
 ·omega
 ·have hzl:z.cells.size=(T e).size:=by rw [← hz,i5]; simp
  have hlast:∀ (nc:Nat) (pre:List Value),pre.length=(n+m)*(T e).size→n+m≤nc→(pre++(Builtin.zeroCells z.cells (nc - (n+m))).toList).length=nc*(T e).size:=by
   intro nc pre hp hle;have e1:(Builtin.zeroCells z.cells (nc - (n+m))).toList.length=(nc - (n+m))*(T e).size:=by simp only [Array.length_toList,size_zeroCells,hzl]
   rw [List.length_append,e1,hp,← Nat.add_mul]
   congr 1; omega
  obtain ⟨o1,o2,a2,c2,o3,o4⟩:=hso;subst hs;cases o3;cases a with
  | none =>
   obtain rfl:=hcap rfl;have hn0:n=0:=by
    rcases o4 with h | ⟨b',h,_⟩
    ·exact h
    ·cases h
   subst hn0;have ho:olds=[]:=List.eq_nil_of_length_eq_zero (by simpa using o1);subst ho;have hr:=run_append_nil (P:=P) w t ty e i z hu i1 i2 b m c news (by rw [i3]; exact n1) hnews hm (by omega) (by rw [i4]; rw [Nat.zero_add] at hb; omega);refine ⟨grownCap w m 0 e,(Builtin.zeroCells z.cells (grownCap w m 0 e - m)).toList,?_,by rw [Nat.zero_add]; exact grownCap_ge w m 0 e,?_⟩
   ·rw [hr,Nat.zero_add]
    congr 3
    apply Array.ext'; simp
   ·have:=hlast (grownCap w m 0 e) news (by rw [Nat.zero_add]; exact n1) (by rw [Nat.zero_add]; exact grownCap_ge w m 0 e)
    rw [Nat.zero_add] at this;simpa using this
  | some b' =>
   have holds:∀ j u,olds[j]?=some u→w.cell? (b'.add j)=some u:=by
    rcases o4 with h | ⟨b2,h,h'⟩
    ·intro j u hj;rw [h,Nat.zero_mul] at o1
     have:olds=[]:=List.eq_nil_of_length_eq_zero o1
     rw [this] at hj; simp at hj
    ·cases h; exact h'
   have hr:=run_append_grow (P:=P) w t ty e i z hu i1 i2 b' n cap olds (by rw [i3]; exact o1) holds b m c news (by rw [i3]; exact n1) hnews hg (by omega) (by rw [i4]; exact growslice_fits hg hb);refine ⟨grownCap w (n+m) cap e,(Builtin.zeroCells z.cells (grownCap w (n+m) cap e - (n+m))).toList,?_,grownCap_ge w (n+m) cap e,hlast _ _ (by rw [List.length_append,o1,n1,← Nat.add_mul]) (grownCap_ge w (n+m) cap e)⟩;rw [hr]
   congr 3
   apply Array.ext'; simp
end
end Go.Eng
