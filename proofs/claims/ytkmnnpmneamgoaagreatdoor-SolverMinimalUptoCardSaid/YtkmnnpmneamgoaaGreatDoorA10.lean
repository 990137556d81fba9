/- Lemmas for the claims of this seat, without a condition: part 10 (EngT, EngU, EngV, EngW). -/
import Derived.Test.YtkmnnpmneamgoaaGreatDoorA09
import Derived.Maps.RangeRun
namespace Go.Eng
open Go.ChangeMaps (setBlock)

theorem setBlock_same {w:World} {r:Nat} {o o' : Obj} (h:w.heap[r]?=some o):(setBlock w r o').heap[r]?=some o':=by
 have:=(Array.getElem?_eq_some_iff.1 h).1
 simp [setBlock,this]
theorem setBlock_other {w:World} {r k:Nat} {o' : Obj} (h:k≠r):(setBlock w r o').heap[k]?=w.heap[k]?:=by
 simp [setBlock,Ne.symm h]
theorem setBlock_size (w:World) (r:Nat) (o' : Obj):(setBlock w r o').heap.size=w.heap.size:=by simp [setBlock]

theorem nodup_of_map {α β:Type} {f:α→β} {l:List α} (h:(l.map f).Nodup):l.Nodup:=by
 induction l with
 | nil=>exact List.nodup_nil
 | cons c l ih =>
  rw [List.map_cons,List.nodup_cons] at h;exact List.nodup_cons.2 ⟨fun hc=>h.1 (List.mem_map.2 ⟨c,hc,rfl⟩),ih h.2⟩
theorem nodup_idx {α β:Type} {f:α→β} {l:List α} (h:(l.map f).Nodup) {i j:Nat} {a b:α} (ha:l[i]?=some a) (hb:l[j]?=some b) (he:f a=f b):i=j:=by
 induction l generalizing i j with
 | nil=>simp at ha
 | cons c l ih =>
  rw [List.map_cons,List.nodup_cons] at h;cases i with
  | zero =>
   cases j with
   | zero=>rfl
   | succ j =>
    simp only [List.getElem?_cons_zero,Option.some.injEq,List.getElem?_cons_succ] at ha hb;exact absurd (List.mem_map.2 ⟨b,List.mem_of_getElem? hb,by rw [← he,ha]⟩) h.1
  | succ i =>
   cases j with
   | zero =>
    simp only [List.getElem?_cons_zero,Option.some.injEq,List.getElem?_cons_succ] at ha hb;exact absurd (List.mem_map.2 ⟨a,List.mem_of_getElem? ha,by rw [he,hb]⟩) h.1
   | succ j=>exact congrArg (·+1) (ih h.2 ha hb)

open Classical in
theorem mput_some {kvs:List (Value × AV)} {k:Value} {a b:AV} (h:(k,b) ∈ kvs):mput kvs k a=kvs.map fun p=>if p.1=k then (k,a) else p:=if_pos ⟨b,h⟩
open Classical in
theorem mput_none {kvs:List (Value × AV)} {k:Value} {a:AV} (h:∀ b,(k,b) ∉ kvs):mput kvs k a=kvs++[(k,a)]:=if_neg (fun ⟨b,e⟩=>h b e)

theorem mapOk_map {sh:Shape} {es:Array MapEntry} {ck:Nat} {kvs:List (Value × AV)} (f:AV→AV) (h:MapOk sh es ck kvs):MapOk sh es ck (kvs.map fun p=>(p.1,f p.2)):=by
 obtain ⟨h1,h2,h3,h4,h5,h6⟩:=h;refine ⟨by simp [h1],fun i kv e q1 q2=>?_,fun kv hkv=>?_,?_,h5,h6⟩
 ·rw [List.getElem?_map] at q1;obtain ⟨p,q3,rfl⟩:=Option.map_eq_some_iff.1 q1;exact h2 i p e q3 q2
 ·obtain ⟨p,hp,rfl⟩:=List.mem_map.1 hkv;exact h3 p hp
 ·rw [List.map_map];exact h4
theorem mapOk_modify {sh:Shape} {es:Array MapEntry} {ck:Nat} {kvs:List (Value × AV)} (h:MapOk sh es ck kvs) {x:Value} {a v:AV} {y:Value} {j:Nat} (hj:kvs[j]?=some (x,a)) :
  MapOk sh (es.modify j fun e=>{ e with key:=x,val:=y }) ck (mput kvs x v) ∧
   ∀ (i:Nat) (kv:Value × AV) (e:MapEntry),(mput kvs x v)[i]?=some kv→(es.modify j fun e=>{ e with key:=x,val:=y })[i]?=some e →
    (kv.2=v∧e.val=y)∨(kvs[i]?=some kv∧es[i]?=some e):=by
 classical
 rw [mput_some (List.mem_of_getElem? hj)];obtain ⟨h1,h2,h3,h4,h5,h6⟩:=h;have hm:∀ i e,(es.modify j fun e=>{ e with key:=x,val:=y })[i]?=some e→∃ e0,es[i]?=some e0∧e.born=e0.born∧(if i=j then e.key=x∧e.val=y else e=e0):=by
  intro i e he;rw [Array.getElem?_modify] at he;split at he
  ·rename_i e1; subst e1;obtain ⟨e0,q1,q2⟩:=Option.map_eq_some_iff.1 he;exact ⟨e0,q1,by rw [← q2],by rw [if_pos rfl,← q2]; exact ⟨rfl,rfl⟩⟩
  ·rename_i e1;exact ⟨e,he,rfl,by rw [if_neg (fun q=>e1 q.symm)]⟩
 have hk:∀ i kv,(kvs.map fun p=>if p.1=x then (x,v) else p)[i]?=some kv→∃ p,kvs[i]?=some p∧kv.1=p.1∧(if i=j then kv.2=v else kv=p):=by
  intro i kv hkv;rw [List.getElem?_map] at hkv;obtain ⟨p,q1,q2⟩:=Option.map_eq_some_iff.1 hkv;refine ⟨p,q1,?_⟩
  by_cases e:p.1=x
  ·rw [if_pos e] at q2;subst q2
   have:=nodup_idx h4 q1 hj e
   exact ⟨e.symm,by rw [if_pos this]⟩
  ·rw [if_neg e] at q2;subst q2;refine ⟨rfl,?_⟩;rw [if_neg];intro e2; subst e2;rw [q1] at hj; cases hj; exact e rfl
 have hkeys:(kvs.map fun p=>if p.1=x then (x,v) else p).map (·.1)=kvs.map (·.1):=by
  rw [List.map_map];apply List.map_congr_left;intro p _;simp only [Function.comp];split
  ·rename_i e; exact e.symm
  ·rfl
 refine ⟨⟨by simp [h1],fun i kv e q1 q2=>?_,fun kv hkv=>?_,by rw [hkeys]; exact h4,fun i e q=>?_,fun i i' e e' q q' hb=>?_⟩,fun i kv e q1 q2=>?_⟩
 ·obtain ⟨p,p1,p2,p3⟩:=hk i kv q1;obtain ⟨e0,r1,r2,r3⟩:=hm i e q2
  have:=h2 i p e0 p1 r1
  split at r3
  ·rename_i ij; subst ij;rw [hj] at p1; cases p1;rw [r3.1,p2]
  ·rw [r3,p2]; exact this
 ·obtain ⟨i,hi⟩:=List.mem_iff_getElem?.1 hkv;obtain ⟨p,p1,p2,p3⟩:=hk i kv hi;rw [p2]; exact h3 p (List.mem_of_getElem? p1)
 ·obtain ⟨e0,r1,r2,_⟩:=hm i e q;rw [r2]; exact h5 i e0 r1
 ·obtain ⟨e0,r1,r2,_⟩:=hm i e q;obtain ⟨e1,s1,s2,_⟩:=hm i' e' q';exact h6 i i' e0 e1 r1 s1 (by rw [← r2,← s2]; exact hb)
 ·obtain ⟨p,p1,p2,p3⟩:=hk i kv q1;obtain ⟨e0,r1,r2,r3⟩:=hm i e q2;split at r3
  ·rename_i ij;rw [if_pos ij] at p3;exact .inl ⟨p3,r3.2⟩
  ·rename_i ij;rw [if_neg ij] at p3;exact .inr ⟨by rw [p3]; exact p1,by rw [r3]; exact r1⟩

theorem mapOk_push {sh:Shape} {es:Array MapEntry} {ck:Nat} {kvs:List (Value × AV)} (h:MapOk sh es ck kvs) {x:Value} {v:AV} {y:Value} (hx:shB sh x=true) (hn:∀ a,(x,a) ∉ kvs) :
  MapOk sh (es.push { key:=x,val:=y,born:=ck }) (ck+1) (mput kvs x v) ∧
   ∀ (i:Nat) (kv:Value × AV) (e:MapEntry),(mput kvs x v)[i]?=some kv→(es.push { key:=x,val:=y,born:=ck })[i]?=some e →
    (kv.2=v∧e.val=y)∨(kvs[i]?=some kv∧es[i]?=some e):=by
 rw [mput_none hn];obtain ⟨h1,h2,h3,h4,h5,h6⟩:=h;have hm:∀ i e,(es.push { key:=x,val:=y,born:=ck })[i]?=some e→(es[i]?=some e∧i<es.size)∨(i=es.size∧e={ key:=x,val:=y,born:=ck }):=by
  intro i e he;rw [Array.getElem?_push] at he;split at he
  ·rename_i q; cases he; exact .inr ⟨q,rfl⟩
  ·exact .inl ⟨he,(Array.getElem?_eq_some_iff.1 he).1⟩
 have hk:∀ i kv,(kvs++[(x,v)])[i]?=some kv→(kvs[i]?=some kv∧i<es.size)∨(i=es.size∧kv=(x,v)):=by
  intro i kv hkv;rw [List.getElem?_append] at hkv;split at hkv
  ·rename_i q; exact .inl ⟨hkv,by omega⟩
  ·rename_i q
   have:i - kvs.length=0:=by
    have:=(List.getElem?_eq_some_iff.1 hkv).1
    simp at this; omega
   rw [this] at hkv;simp at hkv;exact .inr ⟨by omega,hkv.symm⟩
 refine ⟨⟨by simp [h1],fun i kv e q1 q2=>?_,fun kv hkv=>?_,?_,fun i e q=>?_,fun i i' e e' q q' hb=>?_⟩,fun i kv e q1 q2=>?_⟩
 ·rcases hk i kv q1 with ⟨p1,p2⟩ | ⟨p1,p2⟩ <;> rcases hm i e q2 with ⟨r1,r2⟩ | ⟨r1,r2⟩
  ·exact h2 i kv e p1 r1
  ·omega
  ·omega
  ·rw [p2,r2]
 ·rcases List.mem_append.1 hkv with q | q
  ·exact h3 kv q
  ·rw [List.mem_singleton.1 q]; exact hx
 ·rw [List.map_append,List.nodup_append];refine ⟨h4,by simp,fun a ha b hb e=>?_⟩;simp only [List.map_cons,List.map_nil,List.mem_singleton] at hb;obtain ⟨p,p1,p2⟩:=List.mem_map.1 ha;refine hn p.2 ?_
  have:p=(x,p.2):=by rw [← hb,← e,← p2]
  rw [← this]; exact p1
 ·rcases hm i e q with ⟨r1,_⟩ | ⟨_,r2⟩
  ·have:=h5 i e r1; omega
  ·rw [r2]; exact Nat.lt_succ_self _
 ·rcases hm i e q with ⟨r1,_⟩ | ⟨r1,r2⟩ <;> rcases hm i' e' q' with ⟨s1,_⟩ | ⟨s1,s2⟩
  ·exact h6 i i' e e' r1 s1 hb
  ·have:=h5 i e r1; rw [s2] at hb; dsimp only at hb; omega
  ·have:=h5 i' e' s1; rw [r2] at hb; dsimp only at hb; omega
  ·omega
 ·rcases hk i kv q1 with ⟨p1,p2⟩ | ⟨p1,p2⟩ <;> rcases hm i e q2 with ⟨r1,r2⟩ | ⟨r1,r2⟩
  ·exact .inr ⟨p1,r1⟩
  ·omega
  ·omega
  ·exact .inl ⟨by rw [p2],by rw [r2]⟩

section
variable {P:Program} {w0:World} {g0:Gh} {h0 h:Nat→HO} {g:Gh} {w:World} (hI:Inv w0 g0 h0 h g w)
include hI

theorem Inv.swap {r b:Nat} (hl:(h r).live) (ho:g.own r=some b) (hn:∀ o,¬ g.S b o) (o' : HO) {ob:Obj} (hb:w.heap[b]?=some ob) (ob' : Obj) (w1:World) (hw1:w1.heap=w.heap∧w1.os=w.os∧w1.tape=w.tape∧w1.output=w.output) (hne:o'≠.free)
  (hobj:GhLe g (g.upd r (g.ρ r) (g.ln r) (g.tk r) (g.own r) g.S) (used h)→Keeps g w (g.upd r (g.ρ r) (g.ln r) (g.tk r) (g.own r) g.S) (setBlock w1 b ob')→(setBlock w1 b ob').heap[b]?=some ob' →
   (∀ k,k≠b→(setBlock w1 b ob').heap[k]?=w.heap[k]?) →
   ObjRep (g.upd r (g.ρ r) (g.ln r) (g.tk r) (g.own r) g.S) (setBlock w1 b ob') (used (hput h r o')) r o') :
  Inv w0 g0 h0 (hput h r o') (g.upd r (g.ρ r) (g.ln r) (g.tk r) (g.own r) g.S) (setBlock w1 b ob')∧Le h g w (hput h r o') (g.upd r (g.ρ r) (g.ln r) (g.tk r) (g.own r) g.S) (setBlock w1 b ob'):=by
 have hlt:=(hI.loc r b hl ho).1;have hnew:(setBlock w1 b ob').heap[b]?=some ob':=setBlock_same (by rw [hw1.1]; exact hb);have hoth:∀ k,k≠b→(setBlock w1 b ob').heap[k]?=w.heap[k]?:=fun k hk=>by rw [setBlock_other hk,hw1.1]
 refine hI.upd r o' _ _ _ _ _ _ (some b) ⟨hw1.2.1,hw1.2.2.1,hw1.2.2.2,by rw [setBlock_size,hw1.1]; exact Nat.le_refl _⟩ (fun k _ hne=>hoth k (fun e=>hne (by rw [e]))) (fun b' e=>by cases e; exact ⟨hl,ho⟩) (fun _ _ h=>h) (fun _ _ h=>.inl h)
  (fun b' o e hs=>by cases e; exact absurd hs (hn o)) (fun b' _ e=>?_) hne (fun _=>⟨rfl,Nat.le_refl _,fun _=>rfl,fun _=>rfl⟩) (fun hg hk=>hobj hg hk hnew hoth)
 rw [ho] at e; cases e;exact ⟨by rw [setBlock_size,hw1.1]; exact hlt,.inl ⟨hl,ho⟩⟩

theorem mapUpdateK_ok {T:Tab} (hT:TabOk P T) {ty:Nat} {m k x:AV} {vm vk vx:Value} {K:HK} (hm:Rep g w (used h) m vm) (hk' : Rep g w (used h) k vk) (hx:Rep g w (used h) x vx) (hk:mapUpdateK T h ty m k x K) :
  DoesU P w0 g0 h0 h g w (Instr.mapUpdate ty vm vk vx) K:=by
 unfold mapUpdateK at hk;split at hk
 ·rename_i r;split at hk
  ·rename_i sh kvs e0;obtain ⟨kt,e,k1,k2,k3,k4⟩:=keyK_ok hk' hk;have ho:=hI.objs r;rw [e0] at ho;obtain ⟨t1,b,es,ck,a1,a2,a3,a4,a5,a6⟩:=ho;have hl:(h r).live:=by rw [e0]; trivial
   cases hm with
   | mref _ _ b' hu ht hp =>
    rw [a2] at hp; cases hp;have hu':=hT.map k1;have hget:=run_getObj_map (P:=P) w b es ck a3;have hset:∀ o',(setObj b o').run P w=.ok () (setBlock w b o'):=fun o'=>by simp [setObj,Sem.run,a3,setBlock]
    have hck:=fun bb=>shape_check hT k2 w bb k3;obtain ⟨res,r1,r2⟩:=shape_find hT k2 w k3 es.toList a4.shape;have hxs:=Rep.str hI.objs hx;rcases r2 with ⟨rfl,hn⟩ | ⟨j,en,rfl,hj,hkey⟩
    ·obtain ⟨m1,m2⟩:=mapOk_push a4 (x:=vk) (v:=str h x) (y:=vx) k3 (fun a=>a4.none hn a);obtain ⟨i1,i2⟩:=Inv.swap hI hl a1 a6 (.map sh (mput kvs vk (str h x))) a3 (.map (es.push { key:=vk,val:=vx,born:=ck }) (ck+1)) w ⟨rfl,rfl,rfl,rfl⟩ (by simp) (fun hg hkp hnew hoth=>by
      obtain ⟨u1,u2,u3,u4⟩:=upd_same g r (g.ρ r) (g.ln r) (g.tk r) (g.own r) g.S;refine ⟨u3.trans t1,b,_,_,u4.trans a1,u1.trans a2,hnew,m1,fun i kv e q1 q2=>?_,a6⟩;rcases m2 i kv e q1 q2 with ⟨p1,p2⟩ | ⟨p1,p2⟩
      ·rw [p1,p2]; exact hxs.mono hkp (fun _ h=>h) (fun _ h=>h.elim)
      ·exact (a5 i kv e p1 p2).mono hkp (fun _ h=>h) (fun _ h=>h.elim))
     refine ⟨_,_,_,?_,k4,i1,i2⟩;simp [Instr.mapUpdate,run_underlying hu',hget,hck,r1,hset]
    ·obtain ⟨a,q1,q2⟩:=a4.some hj hkey;obtain ⟨m1,m2⟩:=mapOk_modify a4 (x:=vk) (v:=str h x) (y:=vx) q1;obtain ⟨i1,i2⟩:=Inv.swap hI hl a1 a6 (.map sh (mput kvs vk (str h x))) a3 (.map (es.modify j fun e=>{ e with key:=vk,val:=vx }) ck) w ⟨rfl,rfl,rfl,rfl⟩ (by simp) (fun hg hkp hnew hoth=>by
      obtain ⟨u1,u2,u3,u4⟩:=upd_same g r (g.ρ r) (g.ln r) (g.tk r) (g.own r) g.S;refine ⟨u3.trans t1,b,_,_,u4.trans a1,u1.trans a2,hnew,m1,fun i kv e q1 q2=>?_,a6⟩;rcases m2 i kv e q1 q2 with ⟨p1,p2⟩ | ⟨p1,p2⟩
      ·rw [p1,p2]; exact hxs.mono hkp (fun _ h=>h) (fun _ h=>h.elim)
      ·exact (a5 i kv e p1 p2).mono hkp (fun _ h=>h) (fun _ h=>h.elim))
     refine ⟨_,_,_,?_,k4,i1,i2⟩;have hj' : es[j]?=some en:=by simpa using hj
     have hst:=shape_stays (P:=P) w k3;simp [Instr.mapUpdate,run_underlying hu',hget,hck,r1,hset,hj',hkey,hst]
  ·rename_i sh kvs e0;obtain ⟨kt,e,k1,k2,k3,k4⟩:=keyK_ok hk' hk;have ho:=hI.objs r;rw [e0] at ho;obtain ⟨t1,b,es,ck,a1,a2,a3,a4,a5,a6⟩:=ho;have hl:(h r).live:=by rw [e0]; trivial
   cases hm with
   | mref _ _ b' hu ht hp =>
    rw [a2] at hp; cases hp;have hu':=hT.map k1;have hget:=run_getObj_map (P:=P) w b es ck a3;have hset:∀ o',(setObj b o').run P w=.ok () (setBlock w b o'):=fun o'=>by simp [setObj,Sem.run,a3,setBlock]
    have hck:=fun bb=>shape_check hT k2 w bb k3;obtain ⟨res,r1,r2⟩:=shape_find hT k2 w k3 es.toList a4.shape;rcases r2 with ⟨rfl,hn⟩ | ⟨j,en,rfl,hj,hkey⟩
    ·obtain ⟨m1,m2⟩:=mapOk_push a4 (x:=vk) (v:=x) (y:=vx) k3 (fun a=>a4.none hn a);obtain ⟨i1,i2⟩:=Inv.swap hI hl a1 a6 (.mapU sh (mput kvs vk (x))) a3 (.map (es.push { key:=vk,val:=vx,born:=ck }) (ck+1)) w ⟨rfl,rfl,rfl,rfl⟩ (by simp) (fun hg hkp hnew hoth=>by
      obtain ⟨u1,u2,u3,u4⟩:=upd_same g r (g.ρ r) (g.ln r) (g.tk r) (g.own r) g.S;have hus:∀ i,used h i→used (hput h r (.mapU sh (mput kvs vk x))) i:=fun i hi=>used_hput (by simp) i hi;refine ⟨u3.trans t1,b,_,_,u4.trans a1,u1.trans a2,hnew,m1,fun i kv e q1 q2=>?_,a6⟩;rcases m2 i kv e q1 q2 with ⟨p1,p2⟩ | ⟨p1,p2⟩
      ·rw [p1,p2]; exact hx.mono hkp hus hg
      ·exact (a5 i kv e p1 p2).mono hkp hus hg)
     refine ⟨_,_,_,?_,k4,i1,i2⟩;simp [Instr.mapUpdate,run_underlying hu',hget,hck,r1,hset]
    ·obtain ⟨a,q1,q2⟩:=a4.some hj hkey;obtain ⟨m1,m2⟩:=mapOk_modify a4 (x:=vk) (v:=x) (y:=vx) q1;obtain ⟨i1,i2⟩:=Inv.swap hI hl a1 a6 (.mapU sh (mput kvs vk (x))) a3 (.map (es.modify j fun e=>{ e with key:=vk,val:=vx }) ck) w ⟨rfl,rfl,rfl,rfl⟩ (by simp) (fun hg hkp hnew hoth=>by
      obtain ⟨u1,u2,u3,u4⟩:=upd_same g r (g.ρ r) (g.ln r) (g.tk r) (g.own r) g.S;have hus:∀ i,used h i→used (hput h r (.mapU sh (mput kvs vk x))) i:=fun i hi=>used_hput (by simp) i hi;refine ⟨u3.trans t1,b,_,_,u4.trans a1,u1.trans a2,hnew,m1,fun i kv e q1 q2=>?_,a6⟩;rcases m2 i kv e q1 q2 with ⟨p1,p2⟩ | ⟨p1,p2⟩
      ·rw [p1,p2]; exact hx.mono hkp hus hg
      ·exact (a5 i kv e p1 p2).mono hkp hus hg)
     refine ⟨_,_,_,?_,k4,i1,i2⟩;have hj' : es[j]?=some en:=by simpa using hj
     have hst:=shape_stays (P:=P) w k3;simp [Instr.mapUpdate,run_underlying hu',hget,hck,r1,hset,hj',hkey,hst]
  ·exact hk.elim
 ·exact hk.elim

theorem newIter_ok {d b:Nat} {es:Array MapEntry} {ck:Nat} {sh:Shape} {kvs:List (Value × AV)} (hd:h d=.free) (hS:g.S b 0) (hb:w.heap[b]?=some (.map es ck)) (hm:MapOk sh es ck kvs)
  (hv:∀ (i:Nat) (kv:Value × AV) (e:MapEntry),kvs[i]?=some kv→es[i]?=some e→Rep g w NoU kv.2 e.val) :
  ∃ g',Inv w0 g0 h0 (hput h d (.iter kvs kvs none)) g' (w.alloc (.mapIter (some b) ck #[] ck))∧Le h g w (hput h d (.iter kvs kvs none)) g' (w.alloc (.mapIter (some b) ck #[] ck)) ∧
   Rep g' (w.alloc (.mapIter (some b) ck #[] ck)) (used (hput h d (.iter kvs kvs none))) (.ref d 0) (.pointer (some ⟨w.heap.size,0,none⟩)):=by
 obtain ⟨k1,k2⟩:=hI.newOwn hd (.iter kvs kvs none) (.mapIter (some b) ck #[] ck) (.pointer (some ⟨w.heap.size,0,none⟩)) 0 false w ⟨rfl,rfl,rfl,rfl⟩ (by simp) (fun hg hk=>by
  obtain ⟨u1,u2,u3,u4⟩:=upd_same g d (.pointer (some ⟨w.heap.size,0,none⟩)) 0 false (some w.heap.size) g.S;obtain ⟨c1,c2,c3⟩:=hk b 0 hS
  exact ⟨u3,w.heap.size,b,ck,#[],ck,es,ck,u4,u1,heap_new w _ rfl,c1,c3 es ck hb,⟨sh,hm⟩,rfl,rfl,fun i kv e q1 q2=>(hv i kv e q1 q2).mono hk (fun _ h=>h) (fun _ h=>h.elim),
   ⟨nodup_of_map hm.2.2.2.1,fun _ h=>h⟩,fun i kv e q1 q2=>by simp [List.mem_of_getElem? q1],trivial,fun o ho=>by have:=hI.slt _ _ ho; omega⟩)
 refine ⟨_,k1,k2,.ref _ d 0 w.heap.size (by unfold used; rw [hput_same]; simp) ?_ ?_⟩ <;> simp [Gh.upd]

theorem mapStill_ok {r b:Nat} {sh:Shape} {kvs:List (Value × AV)} {es:Array MapEntry} {ck:Nat} (e0:h r=.map sh kvs) (a1:g.own r=some b) (a2:g.ρ r=.map (some b)) (a3:w.heap[b]?=some (.map es ck)) (a4:MapOk sh es ck kvs)
  (a5:∀ (i:Nat) (kv:Value × AV) (e:MapEntry),kvs[i]?=some kv→es[i]?=some e→Rep g w NoU kv.2 e.val) (t1:g.tk r=false) :
  ∃ g',Inv w0 g0 h0 (hput h r (.rom sh kvs)) g' w∧Le h g w (hput h r (.rom sh kvs)) g' w∧g'.S b 0:=by
 have hl:(h r).live:=by rw [e0]; trivial
 have hlt:=(hI.loc r b hl a1).1
 obtain ⟨k1,k2⟩:=hI.upd r (.rom sh kvs) (g.ρ r) (g.ln r) (g.tk r) none (g.more b 1) w none ⟨rfl,rfl,rfl,Nat.le_refl _⟩ (fun _ _ _=>rfl) (fun b e=>by cases e) (fun _ _ h=>.inl h)
  (fun b' o hs=>hs.elim .inl (fun hs=>.inr ⟨by rw [hs.1]; exact hlt,.inr ⟨hl,by rw [hs.1]; exact a1⟩⟩)) (fun b o e=>by cases e) (fun b hh _=>by cases hh) (by simp)
  (fun _=>⟨rfl,Nat.le_refl _,fun _=>rfl,fun _=>rfl⟩) (fun hg hk=>by
   obtain ⟨u1,u2,u3,u4⟩:=upd_same g r (g.ρ r) (g.ln r) (g.tk r) none (g.more b 1);exact ⟨u3.trans t1,b,u1.trans a2,.cmap _ sh kvs b es ck (.inr ⟨rfl,Nat.zero_lt_one⟩) a3 a4 (fun i kv e q1 q2=>(a5 i kv e q1 q2).mono hk (fun _ h=>h) (fun _ h=>h.elim))⟩)
 exact ⟨_,k1,k2,.inr ⟨rfl,Nat.zero_lt_one⟩⟩

theorem mapUStill_ok {r b:Nat} {sh:Shape} {kvs:List (Value × AV)} {es:Array MapEntry} {ck:Nat} (e0:h r=.mapU sh kvs) (a1:g.own r=some b) (a2:g.ρ r=.map (some b)) (a3:w.heap[b]?=some (.map es ck)) (a4:MapOk sh es ck kvs)
  (a5:∀ (i:Nat) (kv:Value × AV) (e:MapEntry),kvs[i]?=some kv→es[i]?=some e→Rep g w (used h) kv.2 e.val) (t1:g.tk r=false) :
  ∃ g',Inv w0 g0 h0 (hput h r (.rom sh (strM h kvs))) g' w∧Le h g w (hput h r (.rom sh (strM h kvs))) g' w∧g'.S b 0:=by
 have hl:(h r).live:=by rw [e0]; trivial
 have hlt:=(hI.loc r b hl a1).1
 obtain ⟨k1,k2⟩:=hI.upd r (.rom sh (strM h kvs)) (g.ρ r) (g.ln r) (g.tk r) none (g.more b 1) w none ⟨rfl,rfl,rfl,Nat.le_refl _⟩ (fun _ _ _=>rfl) (fun b e=>by cases e) (fun _ _ h=>.inl h)
  (fun b' o hs=>hs.elim .inl (fun hs=>.inr ⟨by rw [hs.1]; exact hlt,.inr ⟨hl,by rw [hs.1]; exact a1⟩⟩)) (fun b o e=>by cases e) (fun b hh _=>by cases hh) (by simp)
  (fun _=>⟨rfl,Nat.le_refl _,fun _=>rfl,fun _=>rfl⟩) (fun hg hk=>by
   obtain ⟨u1,u2,u3,u4⟩:=upd_same g r (g.ρ r) (g.ln r) (g.tk r) none (g.more b 1);refine ⟨u3.trans t1,b,u1.trans a2,.cmap _ sh _ b es ck (.inr ⟨rfl,Nat.zero_lt_one⟩) a3 (mapOk_map _ a4) (fun i kv e q1 q2=>?_)⟩;unfold strM at q1;rw [List.getElem?_map] at q1;obtain ⟨p,q3,rfl⟩:=Option.map_eq_some_iff.1 q1;exact ((a5 i p e q3 q2).str hI.objs).mono hk (fun _ h=>h) (fun _ h=>h.elim))
 exact ⟨_,k1,k2,.inr ⟨rfl,Nat.zero_lt_one⟩⟩

theorem rangeK_ok {T:Tab} (hT:TabOk P T) {ty kt e:Nat} (ht:(T ty).d=.map kt e) {d:Option Nat} {x:AV} {vx:Value} {K:HK} (hx:Rep g w (used h) x vx) (hk:rangeK d h x K) :
  Does P w0 g0 h0 h g w (Instr.range ty vx) K:=by
 have hu:=hT.map ht;unfold rangeK at hk;split at hk
 ·exact hk.elim
 ·rename_i d;split at hk
  ·rename_i hd;have hrun:∀ b es ck,w.heap[b]?=some (.map es ck)→(Instr.range ty (.map (some b))).run P w=.ok (.pointer (some ⟨w.heap.size,0,none⟩)) (w.alloc (.mapIter (some b) ck #[] ck)):=fun b es ck hb=>by
    simp [Instr.range,run_underlying hu,run_getObj_map (P:=P) w b es ck hb]
   split at hk
   ·cases hx with
    | cmap _ _ _ b es ck hS hb hm hv =>
     obtain ⟨g',k1,k2,k3⟩:=newIter_ok hI hd hS hb hm hv;exact ⟨_,_,_,_,_,hrun _ _ _ hb,hk,k1,k2,k3⟩
   ·rename_i r;have ho:=hI.objs r;cases hx with
    | mref _ _ b hu' ht' hp =>
     split at hk
     ·rename_i sh kvs e0;rw [e0] at ho;obtain ⟨_,b',a1,a2⟩:=ho;rw [a1] at hp; cases hp;cases a2 with
      | cmap _ _ _ _ es ck hS hb hm hv =>
       obtain ⟨g',k1,k2,k3⟩:=newIter_ok hI hd hS hb hm hv;exact ⟨_,_,_,_,_,hrun _ _ _ hb,hk,k1,k2,k3⟩
     ·rename_i sh kvs e0;rw [e0] at ho;obtain ⟨t1,b',es,ck,a1,a2,a3,a4,a5,a6⟩:=ho;rw [a2] at hp; cases hp;obtain ⟨g1,i1,i2,i3⟩:=mapStill_ok hI e0 a1 a2 a3 a4 a5 t1;have hne:d≠r:=fun e=>by rw [e,e0] at hd; cases hd
      obtain ⟨g',k1,k2,k3⟩:=newIter_ok i1 (by rw [hput_ne _ _ _ _ hne]; exact hd) i3 a3 a4 (fun i kv e q1 q2=>(a5 i kv e q1 q2).mono i2.keeps (fun _ h=>h) (fun _ h=>h.elim));exact ⟨_,_,_,_,_,hrun _ _ _ a3,hk,k1,i2.trans k2,k3⟩
     ·exact hk.elim
   ·exact hk.elim
  ·exact hk.elim

theorem nextK_ok {ty:TypeId} {x:AV} {vx:Value} {K:HK} (hx:Rep g w (used h) x vx) (hk:nextK h x K):Does P w0 g0 h0 h g w (Instr.next vx false ty) K:=by
 unfold nextK at hk;split at hk
 ·rename_i r;split at hk
  ·rename_i all rem cur e0;have ho:=hI.objs r;rw [e0] at ho;obtain ⟨t1,b,mb,since,seen,st,es,ck,a1,a2,a3,a4,a5,⟨sh,a6⟩,a7,a8,a9,a10,a11,a12,a13⟩:=ho;have hl:(h r).live:=by rw [e0]; trivial
   cases hx with
   | ref _ _ _ b' hu ht hp =>
    rw [a2] at hp; cases hp;have hlt:∀ e ∈ es.toList,e.born<since:=fun e he=>by
     obtain ⟨i,hi⟩:=List.mem_iff_getElem?.1 he
     have:=a6.2.2.2.2.1 i e (by simpa using hi)
     omega
    rcases run_next_at (P:=P) w ty b mb since st seen es ck a3 a5 hlt (by omega) with ⟨q1,q2⟩ | ⟨e,q1,w1,q2,q3⟩
    ·have hrem:rem=[]:=by
      apply List.eq_nil_iff_forall_not_mem.2;intro kv hkv;obtain ⟨i,hi⟩:=List.mem_iff_getElem?.1 (a10.2 kv hkv);have hil:i<es.size:=by rw [a6.1]; exact (List.getElem?_eq_some_iff.1 hi).1
      have hb:=(a11 i kv es[i] hi (by simp [hil])).1 hkv;have hm:es[i] ∈ leftOf es seen:=by simp [leftOf,hb]
      have:=Array.size_pos_of_mem hm
      omega
     exact ⟨_,w,g,_,h,q2,hk.1 hrem,hI,.refl _ _ _,.tup _ _ _ rfl (fun i av x h1 h2=>by
      match i,h1,h2 with
      | 0,h1,h2=>simp at h1 h2; subst h1; subst h2; exact .v _ _)⟩
    ·have hq:e ∈ es∧e.born ∉ seen:=by simpa [leftOf] using q1
     obtain ⟨i,hi⟩:=Array.mem_iff_getElem?.1 hq.1;have hil:i<all.length:=by rw [← a6.1]; exact (Array.getElem?_eq_some_iff.1 hi).1
     have hai:all[i]?=some all[i]:=List.getElem?_eq_getElem hil;have hin:=(a11 i _ e hai hi).2 hq.2;obtain ⟨s1,s2,hs⟩:=List.append_of_mem hin;have hperm:rem.Perm (all[i] :: (s1++s2)):=by rw [hs]; exact List.perm_middle
     have hnd:(all[i] :: (s1++s2)).Nodup:=hperm.nodup_iff.1 a10.1;have hr:=a9 i _ e hai hi;have hkey:=a6.2.1 i _ e hai hi;have hw1:w1.heap=w.heap∧w1.os=w.os∧w1.tape=w.tape∧w1.output=w.output:=by rcases q2 with rfl | rfl <;> exact ⟨rfl,rfl,rfl,rfl⟩
     obtain ⟨k1,k2⟩:=Inv.swap hI hl a1 a13 (.iter all (s1++s2) (some all[i])) a3 (.mapIter (some mb) since (seen.push e.born) ck) w1 hw1 (by simp) (fun hg hkp hnew hoth=>by
      obtain ⟨u1,u2,u3,u4⟩:=upd_same g r (g.ρ r) (g.ln r) (g.tk r) (g.own r) g.S;obtain ⟨c1,c2,c3⟩:=hkp mb 0 a4
      refine ⟨u3.trans t1,b,mb,since,_,ck,es,ck,u4.trans a1,u1.trans a2,hnew,c1,c3 _ _ a5,⟨sh,a6⟩,a7,rfl,fun i kv e p q=>(a9 i kv e p q).mono hkp (fun _ h=>h) (fun _ h=>h.elim),
       ⟨(List.nodup_cons.1 hnd).2,fun kv hkv=>a10.2 kv (hperm.mem_iff.2 (List.mem_cons_of_mem _ hkv))⟩,fun j kv e' p q=>?_,⟨i,e,hai,hi,by simp⟩,a13⟩
      rw [Array.mem_push];have h1:=a11 j kv e' p q;rw [hperm.mem_iff,List.mem_cons] at h1;constructor
      ·intro hkv hc;rcases hc with hc | hc
       ·exact (h1.1 (.inr hkv)) hc
       ·obtain rfl:=a6.2.2.2.2.2 j i e' e q hi hc;rw [hai] at p; cases p;exact (List.nodup_cons.1 hnd).1 hkv
      ·intro hc;rcases h1.2 (fun hm=>hc (.inl hm)) with e2 | e2
       ·have:j=i:=nodup_idx (f:=fun x=>x) (l:=all) (by simpa using nodup_of_map a6.2.2.2.1) p hai e2
        subst this;rw [hi] at q; cases q;exact absurd (.inr rfl) hc
       ·exact e2)
     refine ⟨_,_,_,_,_,q3,hk.2 all[i] (s1++s2) hperm,k1,k2,.tup _ _ _ rfl (fun j av x h1 h2=>?_)⟩
     match j,h1,h2 with
     | 0,h1,h2=>simp at h1 h2; subst h1; subst h2; exact .v _ _
     | 1,h1,h2=>simp at h1 h2; subst h1; subst h2; rw [hkey]; exact .v _ _
     | 2,h1,h2=>simp at h1 h2; subst h1; subst h2; exact (hr.up _).le k2
  ·exact hk.elim
 ·exact hk.elim
end
end Go.Eng

namespace Go.Eng

def Pick (F:(AV→Prop)→Prop):Prop:=∀ K,F K→∃ v,K v∧∀ K',K' v→F K'

theorem pick_id (v:AV):Pick (fun K=>K v):=fun _ h=>⟨v,h,fun _ h=>h⟩
theorem pick_and {p:Prop} {F:(AV→Prop)→Prop} (h:Pick F):Pick (fun K=>p∧F K):=fun K ⟨hp,hk⟩ =>
 let ⟨v,h1,h2⟩:=h K hk
 ⟨v,h1,fun K' h'=>⟨hp,h2 K' h'⟩⟩
theorem pick_false:Pick (fun _=>False):=fun _ h=>h.elim
theorem pick_bool (p:Prop):Pick (boolK p):=fun K h=>by
 by_cases hp:p
 ·exact ⟨_,h.1 hp,fun K' h'=>⟨fun _=>h',fun hn=>absurd hp hn⟩⟩
 ·exact ⟨_,h.2 hp,fun K' h'=>⟨fun q=>absurd q hp,fun _=>h'⟩⟩
theorem pick_not {F:(AV→Prop)→Prop} (h:Pick F):Pick (fun K=>F (notK K)):=fun K hk=>by
 obtain ⟨v,h1,h2⟩:=h _ hk;unfold notK at h1;split at h1
 ·exact ⟨_,h1,fun K' h'=>h2 _ h'⟩
 ·exact ⟨_,h1,fun K' h'=>h2 _ h'⟩
 ·exact h1.elim
theorem pick_ex {α:Type} {F:α→(AV→Prop)→Prop} (h:∀ x,Pick (F x)):Pick (fun K=>∃ x,F x K):=fun K ⟨x,hk⟩ =>
 let ⟨v,h1,h2⟩:=h x K hk
 ⟨v,h1,fun K' h'=>⟨x,h2 K' h'⟩⟩

theorem pick_load (T:Tab) (t:Nat) (cs:List AV):Pick (loadK T t cs):=by
 have head:Pick (headK cs):=by unfold headK; cases cs with | nil=>exact pick_false | cons a _=>exact pick_id a
 unfold loadK;split
 ·exact pick_and (pick_id _)
 ·exact pick_and (pick_id _)
 ·cases cs with
  | nil=>exact pick_false
  | cons a _ =>
   intro K h;simp only [headK] at h ⊢;split at h
   ·rename_i b;cases b with
    | true=>exact ⟨_,h.1 rfl,fun K' h'=>⟨fun _=>h',fun e=>by cases e⟩⟩
    | false=>exact ⟨_,h.2 rfl,fun K' h'=>⟨fun e=>(by cases e),fun _=>h'⟩⟩
   ·exact h.elim
 ·exact pick_false
 ·exact head
theorem pick_eq (T:Tab) (t:Nat) (x y:AV) (hx:∀ tk es,x≠.slice tk es):Pick (eqK T t x y):=by
 unfold eqK
 repeat' split
 all_goals first | exact pick_false | exact pick_id _ | exact pick_bool _ | exact pick_and (pick_id _) | exact absurd rfl (hx _ _)
theorem pick_arith (op:BinOp) (k:IntKind) (a b:Int):Pick (arithK op k a b):=by
 unfold arithK
 repeat' split
 all_goals first | exact pick_false | exact pick_and (pick_id _) | (unfold arithU; split <;> first | exact pick_false | exact pick_id _)
theorem pick_bin (T:Tab) (op:BinOp) (t:Nat) (x y:AV) (hx:∀ tk es,x≠.slice tk es):Pick (binK T op t x y):=by
 unfold binK
 repeat' split
 all_goals first | exact pick_false | exact pick_bool _ | exact pick_arith _ _ _ _ | exact pick_and (pick_id _) | exact pick_eq _ _ _ _ hx | exact pick_not (pick_eq _ _ _ _ hx)
theorem pick_bin2 (T:Tab) (op:BinOp) (t:Nat) (Y:Operand) (x y:AV) (hx:∀ tk es,x≠.slice tk es):Pick (binK2 T op t Y x y):=by
 unfold binK2
 repeat' split
 all_goals first | exact pick_false | exact pick_id _ | exact pick_bin _ _ _ _ _ hx
theorem pick_conv (T:Tab) (s t:Nat) (x:AV):Pick (convK T s t x):=by
 unfold convK
 repeat' split
 all_goals first | exact pick_false | exact pick_id _ | exact pick_and (pick_id _) | exact pick_ex fun _=>pick_and (pick_id _)
theorem pick_field (T:Tab) (s f:Nat) (x:AV):Pick (fieldK T s f x):=by
 unfold fieldK
 repeat' split
 all_goals first | exact pick_false | exact pick_id _
theorem pick_fieldV (T:Tab) (s f:Nat) (x:AV):Pick (fieldVK T s f x):=by
 unfold fieldVK
 repeat' split
 all_goals first | exact pick_false | exact pick_load _ _ _
theorem pick_indexAddr (T:Tab) (t:Nat) (x ix:AV):Pick (indexAddrK T t x ix):=by
 unfold indexAddrK
 repeat' split
 all_goals first | exact pick_false | exact pick_and (pick_id _) | exact pick_ex fun _=>pick_and (pick_and (pick_id _))
theorem pick_index (T:Tab) (t:Nat) (x ix:AV):Pick (indexK T t x ix):=by
 unfold indexK
 repeat' split
 all_goals first | exact pick_false | exact pick_and (pick_load _ _ _) | exact pick_ex fun _=>pick_and (pick_id _)
theorem pick_extract (x:AV) (i:Nat):Pick (extractK x i):=by
 unfold extractK
 repeat' split
 all_goals first | exact pick_false | exact pick_id _
theorem pick_nil (x:AV):Pick (nilCheckK x):=by
 unfold nilCheckK
 repeat' split
 all_goals first | exact pick_false | exact pick_id _
theorem pick_pick (c a b:AV):Pick (pickK c a b):=by
 unfold pickK
 repeat' split
 all_goals first | exact pick_false | exact pick_id _
theorem pick_mm (f:Int→Int→Int) (x y:AV):Pick (mmK f x y):=by
 unfold mmK
 repeat' split
 all_goals first | exact pick_false | exact pick_id _
theorem pick_unop (op:UnOp) (x:AV):Pick (unopK op x):=by
 unfold unopK
 repeat' split
 all_goals first | exact pick_false | exact pick_not (pick_id _) | exact pick_and (pick_id _)
def PickL {α:Type} (F:(α→Prop)→Prop):Prop:=∀ K,F K→∃ v,K v∧∀ K',K' v→F K'
theorem pickL_cells (n:Nat) (a:AV):PickL (cellsK n a):=by
 intro K h;unfold cellsK at h ⊢
 repeat' split at h
 all_goals first | exact h.elim | skip
 all_goals exact ⟨_,h,fun K' h'=>h'⟩
theorem pickL_fill (pl:Nat→Option (Nat × Nat)) (t:Nat→AV):∀ (ps:List (Nat × Operand)) (cs:List AV),PickL (fillK pl cs t ps)
 | [],cs=>fun K h=>⟨cs,h,fun _ h=>h⟩
 | (i,x) :: r,cs=>by
  intro K h;unfold fillK at h;split at h
  ·exact h.elim
  ·rename_i o n e;obtain ⟨vs,h1,h2⟩:=pickL_cells _ _ _ h;split at h1
   ·rename_i hb;obtain ⟨c,h3,h4⟩:=pickL_fill pl t r _ _ h1;refine ⟨c,h3,fun K' h'=>?_⟩;unfold fillK;simp only [e];refine h2 _ ?_;simp only [hb];exact h4 K' h'
   ·exact h1.elim
theorem pick_build (T:Tab) (ty:Nat) (t:Nat→AV) (ps:List (Nat × Operand)):Pick (buildK T ty t ps):=by
 unfold buildK
 repeat' split
 all_goals first
  | exact pick_false
  | exact fun K h=>let ⟨c,h1,h2⟩:=pickL_fill _ _ _ _ _ h; ⟨_,h1,fun K' h'=>h2 _ h'⟩
end Go.Eng

namespace Go.Eng

def eff (h:Nat→HO) (e:Option (Nat × HO)):Nat→HO:=match e with | none=>h | some (r,o)=>hput h r o
structure Alike (o:Oper) (R:List Nat) (st st2:St):Prop where
 t:∀ x ∈ o.op.operands,ev st2.t x=ev st.t x
 h:∀ r ∈ R,st2.h r=st.h r
def Framed (cx:Cx) (o:Oper) (st:St) (R:List Nat) (w:Option Nat) (K:HK):Prop :=
 ∃ v e,K v (eff st.h e)∧(∀ r o',e=some (r,o')→w=some r∧r ∈ R)∧∀ st2,Alike o R st st2→∀ K' : HK,K' v (eff st2.h e)→aop cx true o st2 K'

def Covers (w:Option Nat) (r:Nat):Prop:=match w with | none=>False | some x=>x=r∨(10000000≤x∧(x % 10000000=r∨x / 10000000=r))∨x=allN
def effL (h:Nat→HO):List (Nat × HO)→Nat→HO
 | []=>h
 | p :: l=>effL (hput h p.1 p.2) l
def FramedL (cx:Cx) (o:Oper) (st:St) (R:List Nat) (w:Option Nat) (K:HK):Prop :=
 ∃ v e,K v (effL st.h e)∧(∀ r o',(r,o') ∈ e→Covers w r∧r ∈ R)∧∀ st2,Alike o R st st2→∀ K' : HK,K' v (effL st2.h e)→aop cx true o st2 K'

section
variable {cx:Cx} {o:Oper} {st:St} {R:List Nat} {w:Option Nat} {K:HK}
theorem Framed.pick {F:(AV→Prop)→Prop} (hF:Pick F) (h:F fun v=>K v st.h) (h2:∀ st2,Alike o R st st2→∀ K' : HK,F (fun v=>K' v st2.h)→aop cx true o st2 K'):Framed cx o st R w K :=
 let ⟨v,h1,h3⟩:=hF _ h
 ⟨v,none,h1,fun _ _ e=>(by cases e),fun st2 ha K' hk=>h2 st2 ha K' (h3 _ hk)⟩

theorem mem_idlL {cs:List AV} {a:AV} (h:a ∈ cs):∀ r ∈ idl0 a,r ∈ idlL cs:=by
 induction cs with
 | nil=>cases h
 | cons c cs ih =>
  intro r hr;rcases List.mem_cons.1 h with rfl | h
  ·exact List.mem_append_left _ hr
  ·exact List.mem_append_right _ (ih h r hr)
theorem mem_idlC {cs:List AV} {a:AV} (h:a ∈ cs):∀ r ∈ idl1 a,r ∈ idlC cs:=by
 induction cs with
 | nil=>cases h
 | cons c cs ih =>
  intro r hr;rcases List.mem_cons.1 h with rfl | h
  ·exact List.mem_append_left _ hr
  ·exact List.mem_append_right _ (ih h r hr)
theorem mem_idlA {cs:List AV} {a:AV} (h:a ∈ cs):∀ r ∈ idl a,r ∈ idlA cs:=by
 induction cs with
 | nil=>cases h
 | cons c cs ih =>
  intro r hr;rcases List.mem_cons.1 h with rfl | h
  ·exact List.mem_append_left _ hr
  ·exact List.mem_append_right _ (ih h r hr)
theorem idl0_idl1 (a:AV):∀ r ∈ idl0 a,r ∈ idl1 a:=by cases a <;> simp [idl0,idl1]
theorem str0_same {h h2:Nat→HO} {a:AV} (e:∀ r ∈ idl0 a,h2 r=h r):str0 h2 a=str0 h a:=by
 cases a <;> simp only [str0]
 ·rw [e _ (by simp [idl0])]
 ·rw [e _ (by simp [idl0])]
theorem str_same1 {h h2:Nat→HO} {a:AV} (e:∀ r ∈ idl1 a,h2 r=h r):str h2 a=str h a:=by
 cases a with
 | agg cs=>simp only [str]; exact congrArg _ (List.map_congr_left fun c hc=>str0_same fun r hr=>e r (mem_idlL hc r hr))
 | clo f cs=>simp only [str]; exact congrArg _ (List.map_congr_left fun c hc=>str0_same fun r hr=>e r (mem_idlL hc r hr))
 | _=>exact str0_same (fun r hr=>e r (idl0_idl1 _ r hr))
theorem idl1_idl (a:AV):∀ r ∈ idl1 a,r ∈ idl a:=by
 cases a with
 | agg cs =>
  intro r hr;simp only [idl,idl1] at *
  induction cs with
  | nil=>exact hr
  | cons c cs ih =>
   rcases List.mem_append.1 hr with h | h
   ·exact List.mem_append_left _ (idl0_idl1 c r h)
   ·exact List.mem_append_right _ (ih h)
 | _=>exact fun r hr=>hr
theorem str_same {h h2:Nat→HO} {a:AV} (e:∀ r ∈ idl a,h2 r=h r):str h2 a=str h a:=str_same1 fun r hr=>e r (idl1_idl a r hr)
theorem strA_same {h h2:Nat→HO} {l:List AV} (e:∀ r ∈ idlA l,h2 r=h r):l.map (str h2)=l.map (str h) :=
 List.map_congr_left fun _ ha=>str_same fun r hr=>e r (mem_idlA ha r hr)
theorem rsv_same {h h2:Nat→HO} {a:AV} (e:∀ r ∈ idl a,h2 r=h r):rsv h2 a=rsv h a:=by
 cases a <;> simp only [rsv]
 ·rw [e _ (by simp [idl,idl1,idl0])]
 ·rw [e _ (by simp [idl,idl1,idl0])]
theorem cells_same {n:Nat} {a:AV} {K:List AV→Prop} (hk:cellsK n a K):∃ cs,K cs∧(∀ K' : List AV→Prop,K' cs→cellsK n a K')∧∀ h h2:Nat→HO,(∀ r ∈ idl a,h2 r=h r)→cs.map (str h2)=cs.map (str h):=by
 have single:K [a]→(∀ K' : List AV→Prop,K' [a]→cellsK n a K')→∃ cs,K cs∧(∀ K' : List AV→Prop,K' cs→cellsK n a K')∧∀ h h2:Nat→HO,(∀ r ∈ idl a,h2 r=h r)→cs.map (str h2)=cs.map (str h) :=
  fun h1 h2=>⟨[a],h1,h2,fun h h2 e=>by simp [str_same e]⟩
 unfold cellsK at hk;split at hk
 ·rename_i cs;split at hk
  ·rename_i hn;refine ⟨cs,hk,fun K' h=>by unfold cellsK; simp only [hn]; exact h,fun h h2 e=>List.map_congr_left fun c hc=>str_same1 fun r hr=>e r (mem_idlC hc r hr)⟩
  ·exact hk.elim
 ·rename_i hna;split at hk
  ·rename_i h1;split at hk
   ·refine single hk fun K' h=>?_;unfold cellsK;split
    ·rename_i cs; exact absurd rfl (hna cs)
    ·rw [h1]; exact h
   ·exact hk.elim
  ·exact hk.elim

theorem fillE_same {n sz:Nat} {t:Nat→AV} : ∀ {ps:List (Nat × Operand)} {es:List (List AV)} {h:Nat→HO} {K:List (List AV)→Prop},fillE n sz h es t ps K →
  ∃ es',K es'∧∀ (t2:Nat→AV) (h2:Nat→HO),(∀ r ∈ idlA (ps.map fun p=>ev t p.2),h2 r=h r)→(∀ p ∈ ps,ev t2 p.2=ev t p.2)→∀ K' : List (List AV)→Prop,K' es'→fillE n sz h2 es t2 ps K'
 | [],es,h,K,hk=>⟨es,hk,fun _ _ _ _ _ h=>h⟩
 | (i,x) :: r,es,h,K,hk=>by
  unfold fillE at hk;split at hk
  ·rename_i hb;obtain ⟨cs,c1,c2,c3⟩:=cells_same hk;obtain ⟨es',e1,e2⟩:=fillE_same c1;refine ⟨es',e1,fun t2 h2 hh ht K' hk'=>?_⟩;unfold fillE;rw [hb,ht (i,x) (List.mem_cons_self ..)];refine c2 _ ?_;rw [c3 h h2 (fun r hr=>hh r (List.mem_append_left _ hr))];exact e2 t2 h2 (fun r hr=>hh r (List.mem_append_right _ hr)) (fun p hp=>ht p (List.mem_cons_of_mem _ hp)) K' hk'
  ·exact hk.elim
theorem newSlice_same {d:Option Nat} {h:Nat→HO} {sz:Nat} {es:List (List AV)} (hk:newSliceK cx d h sz es K) :
  ∃ d',d.map (did cx)=some d'∧∃ v x,K v (hput h d' x)∧∀ h2:Nat→HO,h2 d'=h d'→∀ K' : HK,K' v (hput h2 d' x)→newSliceK cx d h2 sz es K':=by
 unfold newSliceK at hk;split at hk
 ·exact hk.elim
 ·rename_i d;split at hk
  ·rename_i hd;split at hk
   ·rename_i e;exact ⟨did cx d,rfl,_,_,hk,fun h2 hh K' h'=>by unfold newSliceK; simp only [hh,hd,e]; exact h'⟩
   ·rename_i e;exact ⟨did cx d,rfl,_,_,hk,fun h2 hh K' h'=>by unfold newSliceK; simp only [hh,hd,e]; exact h'⟩
  ·exact hk.elim
theorem elems_same {h:Nat→HO} {x:AV} {K:List (List AV)→Prop} (hk:elemsK h x K):∃ es,K es∧∀ h2:Nat→HO,(∀ r n,x=.msl r n→h2 r=h r)→∀ K' : List (List AV)→Prop,K' es→elemsK h2 x K':=by
 unfold elemsK at hk;split at hk
 ·exact ⟨_,hk,fun _ _ K' h=>h⟩
 ·exact ⟨_,hk,fun _ _ K' h=>h⟩
 ·rename_i r n;split at hk
  ·rename_i sz es e;exact ⟨_,hk.2,fun h2 hh K' h=>by unfold elemsK; simp only [hh r n rfl,e]; exact ⟨hk.1,h⟩⟩
  ·exact hk.elim
 ·exact hk.elim
end
end Go.Eng

namespace Go.Eng

section
variable {cx:Cx} {dst:Option Nat} {ty:Nat} {pos:String} {after:Array Edge} {gd:Option (Nat × Bool)} {st:St} {R:List Nat} {w:Option Nat} {K:HK}

theorem foot_own {d:Option Nat} {l:List Nat} {f:Foot} (h:footD d l=some f):∃ d',d=some d'∧f=(d' :: l,some d'):=by
 unfold footD at h;cases d with
 | none=>cases h
 | some d=>cases h; exact ⟨d,rfl,rfl⟩

theorem frame_alloc {e:Nat} (hk:aop cx true ⟨dst,.alloc e,ty,pos,after,gd⟩ st K) (hf:foot cx ⟨dst,.alloc e,ty,pos,after,gd⟩ st=some (R,w)):Framed cx ⟨dst,.alloc e,ty,pos,after,gd⟩ st R w K:=by
 simp only [aop] at hk;obtain ⟨d,rfl,e0⟩:=foot_own hf;cases e0;unfold allocK at hk;simp only at hk;split at hk
 ·rename_i hd;split at hk
  ·exact hk.elim
  ·rename_i hne;split at hk
   ·rename_i ha;refine ⟨_,some (d,_),hk,fun r o' e=>(by cases e; exact ⟨rfl,List.mem_cons_self ..⟩),fun st2 ha2 K' h'=>?_⟩;simp only [aop,allocK];rw [ha2.h d (List.mem_cons_self ..),hd];simp only [ha];exact h'
   ·exact hk.elim
 ·exact hk.elim
theorem frame_box {e:Nat} {x:Operand} (hk:aop cx true ⟨dst,.box e x,ty,pos,after,gd⟩ st K) (hf:foot cx ⟨dst,.box e x,ty,pos,after,gd⟩ st=some (R,w)):Framed cx ⟨dst,.box e x,ty,pos,after,gd⟩ st R w K:=by
 simp only [aop] at hk;obtain ⟨d,rfl,e0⟩:=foot_own hf;cases e0;unfold boxK at hk;simp only at hk;split at hk
 ·rename_i hd;split at hk
  ·exact hk.elim
  ·rename_i hne;obtain ⟨cs,c1,c2,c3⟩:=cells_same hk;split at c1
   ·rename_i hm;refine ⟨_,some (d,_),c1,fun r o' e=>(by cases e; exact ⟨rfl,List.mem_cons_self ..⟩),fun st2 ha2 K' h'=>?_⟩;have hx:ev st2.t x=ev st.t x:=ha2.t x (by simp [Op.operands]);simp only [aop,boxK];rw [ha2.h d (List.mem_cons_self ..),hd,hx];simp only [hm];refine c2 _ ?_;rw [c3 st.h st2.h (fun r hr=>ha2.h r (List.mem_cons_of_mem _ hr))];exact h'
   ·rename_i hm;refine ⟨_,some (d,_),c1,fun r o' e=>(by cases e; exact ⟨rfl,List.mem_cons_self ..⟩),fun st2 ha2 K' h'=>?_⟩;have hx:ev st2.t x=ev st.t x:=ha2.t x (by simp [Op.operands]);simp only [aop,boxK];rw [ha2.h d (List.mem_cons_self ..),hd,hx];simp only [hm];exact c2 _ h'
 ·exact hk.elim
theorem frame_buildSlice {t n:Nat} {ps:Array (Nat × Operand)} (hk:aop cx true ⟨dst,.buildSlice t n ps,ty,pos,after,gd⟩ st K) (hf:foot cx ⟨dst,.buildSlice t n ps,ty,pos,after,gd⟩ st=some (R,w)) :
  Framed cx ⟨dst,.buildSlice t n ps,ty,pos,after,gd⟩ st R w K:=by
 simp only [aop] at hk;obtain ⟨d,hd0,e0⟩:=foot_own hf;cases e0;unfold buildSliceK at hk;split at hk
 ·rename_i e he;split at hk
  ·rename_i h1 h2;split at hk
   ·exact hk.elim
   ·rename_i k hsz;split at hk
    ·rename_i hb;obtain ⟨es,q1,q2⟩:=fillE_same hk;obtain ⟨d',hd,v,x,q3,q4⟩:=newSlice_same q1;have hd:dst.map (did cx)=some d':=hd;have hd0:dst.map (did cx)=some d:=hd0;rw [hd0] at hd; cases hd;refine ⟨v,some (d,x),q3,fun r o' e=>(by cases e; exact ⟨rfl,List.mem_cons_self ..⟩),fun st2 ha2 K' h'=>?_⟩;have hx:∀ p ∈ ps.toList,ev st2.t p.2=ev st.t p.2:=fun p hp=>ha2.t p.2 (by
      simp only [Op.operands,List.mem_toArray];exact List.mem_map.2 ⟨p,hp,rfl⟩)
     simp only [aop,buildSliceK,he,h1,h2];split
     ·rename_i e0; rw [hsz] at e0; cases e0
     ·rw [hb];exact q2 st2.t st2.h (fun r hr=>ha2.h r (List.mem_cons_of_mem _ hr)) hx _ (q4 st2.h (ha2.h d (List.mem_cons_self ..)) K' h')
    ·exact hk.elim
  ·exact hk.elim
 ·exact hk.elim
theorem frame_makeSlice {t:Nat} {n c:Operand} (hk:aop cx true ⟨dst,.makeSlice t n c,ty,pos,after,gd⟩ st K) (hf:foot cx ⟨dst,.makeSlice t n c,ty,pos,after,gd⟩ st=some (R,w)) :
  Framed cx ⟨dst,.makeSlice t n c,ty,pos,after,gd⟩ st R w K:=by
 simp only [aop] at hk;obtain ⟨d,hd0,e0⟩:=foot_own hf;cases e0;have hn:∀ st2,Alike ⟨dst,.makeSlice t n c,ty,pos,after,gd⟩ (d :: []) st st2→ev st2.t n=ev st.t n∧ev st2.t c=ev st.t c:=fun st2 ha=>⟨ha.t n (by simp [Op.operands]),ha.t c (by simp [Op.operands])⟩;unfold makeSliceK at hk;split at hk
 ·rename_i e a b h1 h2 h3;split at hk
  ·rename_i h4;split at hk
   ·rename_i h5;split at hk
    ·exact hk.elim
    ·rename_i k hsz;obtain ⟨d',hd,v,x,q3,q4⟩:=newSlice_same hk.2;have hd:dst.map (did cx)=some d':=hd;have hd0:dst.map (did cx)=some d:=hd0;rw [hd0] at hd; cases hd;refine ⟨v,some (d,x),q3,fun r o' e=>(by cases e; exact ⟨rfl,List.mem_cons_self ..⟩),fun st2 ha2 K' h'=>?_⟩;simp only [aop,makeSliceK,(hn st2 ha2).1,(hn st2 ha2).2,h1,h2,h3,h4,h5];split
     ·rename_i e0; rw [hsz] at e0; cases e0
     ·exact ⟨hk.1,q4 st2.h (ha2.h d (List.mem_cons_self ..)) K' h'⟩
   ·exact hk.elim
  ·exact hk.elim
 ·exact hk.elim
theorem frame_makeMap {t:Nat} {r:Option Operand} (hk:aop cx true ⟨dst,.makeMap t r,ty,pos,after,gd⟩ st K) (hf:foot cx ⟨dst,.makeMap t r,ty,pos,after,gd⟩ st=some (R,w)) :
  Framed cx ⟨dst,.makeMap t r,ty,pos,after,gd⟩ st R w K:=by
 cases r with
 | some r=>exact hk.elim
 | none =>
  simp only [aop] at hk;obtain ⟨d,rfl,e0⟩:=foot_own hf;cases e0;unfold makeMapK at hk;simp only at hk;split at hk
  ·rename_i hd;split at hk
   ·rename_i h1;split at hk
    ·rename_i h2;split at hk
     ·rename_i h3;refine ⟨_,some (d,_),hk,fun r o' e=>(by cases e; exact ⟨rfl,List.mem_cons_self ..⟩),fun st2 ha2 K' h'=>?_⟩;simp only [aop,makeMapK];rw [ha2.h d (List.mem_cons_self ..),hd];simp only [h1,h2,h3];exact h'
     ·rename_i h3;refine ⟨_,some (d,_),hk,fun r o' e=>(by cases e; exact ⟨rfl,List.mem_cons_self ..⟩),fun st2 ha2 K' h'=>?_⟩;simp only [aop,makeMapK];rw [ha2.h d (List.mem_cons_self ..),hd];simp only [h1,h2,h3];exact h'
    ·exact hk.elim
   ·exact hk.elim
  ·exact hk.elim
theorem frame_store {t:Nat} {p x:Operand} (hk:aop cx true ⟨dst,.store t p x,ty,pos,after,gd⟩ st K) (hf:foot cx ⟨dst,.store t p x,ty,pos,after,gd⟩ st=some (R,w)) :
  Framed cx ⟨dst,.store t p x,ty,pos,after,gd⟩ st R w K:=by
 simp only [aop] at hk;have hn:∀ st2,Alike ⟨dst,.store t p x,ty,pos,after,gd⟩ R st st2→ev st2.t p=ev st.t p∧ev st2.t x=ev st.t x:=fun st2 ha=>⟨ha.t p (by simp [Op.operands]),ha.t x (by simp [Op.operands])⟩;unfold storeK at hk;split at hk
 ·exact hk.elim
 ·rename_i hne;obtain ⟨cs,c1,c2,c3⟩:=cells_same hk;simp only [foot] at hf;split at hf
  ·rename_i r off hp;split at hf
   ·cases hf
   ·rename_i hm;cases hf;rw [hp] at c1;simp only at c1;split at c1
    ·rename_i cur hr;obtain ⟨hle,hk'⟩:=c1;rw [hm] at hk';refine ⟨_,some (r,_),hk',fun r o' e=>(by cases e; exact ⟨rfl,List.mem_cons_self ..⟩),fun st2 ha2 K' h'=>?_⟩;simp only [aop,storeK,(hn st2 ha2).1,(hn st2 ha2).2];refine c2 _ ?_;rw [hp];simp only [ha2.h r (List.mem_cons_self ..),hr,hm];exact ⟨hle,h'⟩
    ·exact c1.elim
  ·rename_i r n sz i off hp;cases hf;rw [hp] at c1;simp only at c1;split at c1
   ·rename_i sz' es hr;split at c1
    ·rename_i hs;obtain ⟨hle,cell,e1,e2,hk'⟩:=c1;refine ⟨_,some (r,_),hk',fun r o' e=>(by cases e; exact ⟨rfl,List.mem_cons_self ..⟩),fun st2 ha2 K' h'=>?_⟩;simp only [aop,storeK,(hn st2 ha2).1,(hn st2 ha2).2];refine c2 _ ?_;rw [hp];simp only [ha2.h r (List.mem_cons_self ..),hr,hs];refine ⟨hle,cell,e1,e2,?_⟩;rw [c3 st.h st2.h (fun r hr=>ha2.h r (List.mem_cons_of_mem _ hr))];exact h'
    ·exact c1.elim
   ·exact c1.elim
  ·cases hf
theorem frame_mapUpdate {t:Nat} {m k x:Operand} (hk:aop cx true ⟨dst,.mapUpdate t m k x,ty,pos,after,gd⟩ st K) (hf:foot cx ⟨dst,.mapUpdate t m k x,ty,pos,after,gd⟩ st=some (R,w)) :
  Framed cx ⟨dst,.mapUpdate t m k x,ty,pos,after,gd⟩ st R w K:=by
 simp only [aop] at hk;have hn:∀ st2,Alike ⟨dst,.mapUpdate t m k x,ty,pos,after,gd⟩ R st st2→ev st2.t m=ev st.t m∧ev st2.t k=ev st.t k∧ev st2.t x=ev st.t x:=fun st2 ha=>⟨ha.t m (by simp [Op.operands]),ha.t k (by simp [Op.operands]),ha.t x (by simp [Op.operands])⟩;simp only [foot] at hf;split at hf
 ·rename_i r hm;cases hf;unfold mapUpdateK at hk;rw [hm] at hk;simp only at hk;split at hk
  ·rename_i sh kvs hr;unfold keyK at hk;split at hk
   ·rename_i kt e h1;split at hk
    ·rename_i sh' h2;split at hk
     ·rename_i h3;split at hk
      ·rename_i kx h4;split at hk
       ·rename_i h5;refine ⟨_,some (r,_),hk,fun r o' e=>(by cases e; exact ⟨rfl,List.mem_cons_self ..⟩),fun st2 ha2 K' h'=>?_⟩;obtain ⟨n1,n2,n3⟩:=hn st2 ha2;simp only [aop,mapUpdateK,n1,n2,n3,hm,ha2.h r (List.mem_cons_self ..),hr,keyK,h1,h2,h3,h4,h5];rw [str_same (h:=st.h) (h2:=st2.h) (fun r hr=>ha2.h r (List.mem_cons_of_mem _ hr))];exact h'
       ·exact hk.elim
      ·exact hk.elim
     ·exact hk.elim
    ·exact hk.elim
   ·exact hk.elim
  ·rename_i sh kvs hr;unfold keyK at hk;split at hk
   ·rename_i kt e h1;split at hk
    ·rename_i sh' h2;split at hk
     ·rename_i h3;split at hk
      ·rename_i kx h4;split at hk
       ·rename_i h5;refine ⟨_,some (r,_),hk,fun r o' e=>(by cases e; exact ⟨rfl,List.mem_cons_self ..⟩),fun st2 ha2 K' h'=>?_⟩;obtain ⟨n1,n2,n3⟩:=hn st2 ha2;simp only [aop,mapUpdateK,n1,n2,n3,hm,ha2.h r (List.mem_cons_self ..),hr,keyK,h1,h2,h3,h4,h5];exact h'
       ·exact hk.elim
      ·exact hk.elim
     ·exact hk.elim
    ·exact hk.elim
   ·exact hk.elim
  ·exact hk.elim
 ·cases hf
theorem pick_or {A B:(AV→Prop)→Prop} (ha:Pick A) (hb:Pick B):Pick fun K=>A K∨B K:=by
 intro K hk;rcases hk with hk | hk
 ·obtain ⟨v,h1,h2⟩:=ha K hk; exact ⟨v,h1,fun K' h=>.inl (h2 K' h)⟩
 ·obtain ⟨v,h1,h2⟩:=hb K hk; exact ⟨v,h1,fun K' h=>.inr (h2 K' h)⟩
theorem frame_makeFunc {fn:Fn} {first cap:Array Operand} (hk:aop cx true ⟨dst,.makeFunc fn first cap,ty,pos,after,gd⟩ st K) (hf:foot cx ⟨dst,.makeFunc fn first cap,ty,pos,after,gd⟩ st=some (R,w)) :
  Framed cx ⟨dst,.makeFunc fn first cap,ty,pos,after,gd⟩ st R w K:=by
 simp only [aop] at hk;simp only [foot] at hf;cases hf;unfold makeFuncK at hk;split at hk
 ·rename_i f h1;refine ⟨_,none,hk,fun r o' e=>(by cases e),fun st2 ha2 K' h'=>?_⟩;simp only [aop,h1,makeFuncK]
  have:cap.toList.map (fun x=>rsv st2.h (ev st2.t x))=cap.toList.map (fun x=>rsv st.h (ev st.t x)):=List.map_congr_left fun x hx=>by
   rw [ha2.t x (by simp only [Op.operands,Array.mem_append]; exact .inr (by simpa using hx))];exact rsv_same fun r hr=>ha2.h r (mem_idlA (List.mem_map.2 ⟨x,hx,rfl⟩) r hr)
  rw [this];exact h'
 ·exact hk.elim
end
end Go.Eng
