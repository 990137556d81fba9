/- Lemmas for the claims of this seat, without a condition: part 10 (EngT, EngU, EngV, EngW). -/
import Derived.Test.YtkmnnpmneamgoaaGreatDoorA09
import Derived.Maps.RangeRun
namespace Go.Eng
open Go.ChangeMaps (setBlock)

theorem UM{w:World}{r:Nat}{o o' : Obj}(h:w.heap[r]?=some o):(setBlock w r o').heap[r]?=some o':=by
 have:=(A7.1 h).1
 simp[setBlock,this]
theorem T9{w:World}{r k:Nat}{o' : Obj}(h:k≠r):(setBlock w r o').heap[k]?=w.heap[k]?:=by
 simp[setBlock,Ne.symm h]
theorem NI(w:World)(r:Nat)(o' : Obj):(setBlock w r o').heap.size=w.heap.size:=by simp[setBlock]

theorem Pc{α β:Type}{f:α→β}{l:List α}(h:(l.map f).Nodup):l.Nodup:=by
 induction l with
 |nil=>exact Ft
 |cons c l ih =>
  rw[AN,Db]at h;exact Db.2 ⟨fun hc=>h.1 (Ar.2 ⟨c,hc,rfl⟩),ih h.2⟩
theorem Vz{α β:Type}{f:α→β}{l:List α}(h:(l.map f).Nodup){i j:Nat}{a b:α}(ha:l[i]?=some a)(hb:l[j]?=some b)(he:f a=f b):i=j:=by
 induction l generalizing i j with
 |nil=>simp at ha
 |cons c l ih =>
  rw[AN,Db]at h;cases i with
  |zero =>
   cases j with
   |zero=>rfl
   |succ j =>
    simp only[Bk,Bv,EB]at ha hb;exact absurd (Ar.2 ⟨b,AA hb,by rw[←he,ha]⟩) h.1
  |succ i =>
   cases j with
   |zero =>
    simp only[Bk,Bv,EB]at ha hb;exact absurd (Ar.2 ⟨a,AA ha,by rw[he,hb]⟩) h.1
   |succ j=>exact Ac (·+1) (ih h.2 ha hb)

open Classical in
theorem Qi{Cb:List (Value×AV)}{k:Value}{a b:AV}(h:(k,b)∈Cb):Fg Cb k a=Cb.map fun p=>if p.1=k then(k,a)else p:=Ax ⟨b,h⟩
open Classical in
theorem Qh{Cb:List (Value×AV)}{k:Value}{a:AV}(h:∀b,(k,b)∉Cb):Fg Cb k a=Cb++[(k,a)]:=Aq (fun⟨b,e⟩=>h b e)

theorem Vx{sh:ES}{es:Array MapEntry}{ck:Nat}{Cb:List (Value×AV)}(f:AV→AV)(h:Hl sh es ck Cb):Hl sh es ck (Cb.map fun p=>(p.1,f p.2)):=by
 obtain⟨h1,h2,h3,h4,h5,h6⟩:=h;refine⟨by simp[h1],fun i kv e q1 q2=>?_,fun kv Px=>?_,?_,h5,h6⟩
 ·rw[AJ]at q1;obtain⟨p,q3,rfl⟩:=AQ.1 q1;exact h2 i p e q3 q2
 ·obtain⟨p,hp,rfl⟩:=Ar.1 Px;exact h3 p hp
 ·rw[BY];exact h4
theorem O6{sh:ES}{es:Array MapEntry}{ck:Nat}{Cb:List (Value×AV)}(h:Hl sh es ck Cb){x:Value}{a v:AV}{y:Value}{j:Nat}(hj:Cb[j]?=some (x,a)) :
  Hl sh (es.modify j fun e=>{ e with key:=x,val:=y }) ck (Fg Cb x v) ∧
   ∀(i:Nat) (kv:Value×AV) (e:MapEntry),(Fg Cb x v)[i]?=some kv→(es.modify j fun e=>{ e with key:=x,val:=y })[i]?=some e →
    (kv.2=v∧e.val=y)∨(Cb[i]?=some kv∧es[i]?=some e):=by
 classical
 rw[Qi (AA hj)];obtain⟨h1,h2,h3,h4,h5,h6⟩:=h;have hm:∀i e,(es.modify j fun e=>{ e with key:=x,val:=y })[i]?=some e→∃e0,es[i]?=some e0∧e.born=e0.born∧(if i=j then e.key=x∧e.val=y else e=e0):=by
  intro i e he;rw[LD]at he;split at he
  ·rename_i e1;subst e1;obtain⟨e0,q1,q2⟩:=AQ.1 he;exact⟨e0,q1,by rw[←q2],by rw[Ax rfl,←q2];exact⟨rfl,rfl⟩⟩
  ·rename_i e1;exact⟨e,he,rfl,by rw[Aq (fun q=>e1 q.symm)]⟩
 have hk:∀i kv,(Cb.map fun p=>if p.1=x then(x,v)else p)[i]?=some kv→∃p,Cb[i]?=some p∧kv.1=p.1∧(if i=j then kv.2=v else kv=p):=by
  intro i kv Px;rw[AJ]at Px;obtain⟨p,q1,q2⟩:=AQ.1 Px;refine⟨p,q1,?_⟩
  by_cases e:p.1=x
  ·rw[Ax e]at q2;subst q2
   have:=Vz h4 q1 hj e
   exact⟨e.symm,by rw[Ax this]⟩
  ·rw[Aq e]at q2;subst q2;refine⟨rfl,?_⟩;rw[Aq];intro e2;subst e2;rw[q1]at hj;cases hj;exact e rfl
 have sb:(Cb.map fun p=>if p.1=x then(x,v)else p).map (·.1)=Cb.map (·.1):=by
  rw[BY];apply A8;intro p _;simp only[Function.comp];split
  ·rename_i e;exact e.symm
  ·rfl
 refine⟨⟨by simp[h1],fun i kv e q1 q2=>?_,fun kv Px=>?_,by rw[sb];exact h4,fun i e q=>?_,fun i i' e e' q q' hb=>?_⟩,fun i kv e q1 q2=>?_⟩
 ·obtain⟨p,p1,p2,p3⟩:=hk i kv q1;obtain⟨e0,r1,r2,r3⟩:=hm i e q2
  have:=h2 i p e0 p1 r1
  split at r3
  ·rename_i ij;subst ij;rw[hj]at p1;cases p1;rw[r3.1,p2]
  ·rw[r3,p2];exact this
 ·obtain⟨i,hi⟩:=Cj.1 Px;obtain⟨p,p1,p2,p3⟩:=hk i kv hi;rw[p2];exact h3 p (AA p1)
 ·obtain⟨e0,r1,r2,_⟩:=hm i e q;rw[r2];exact h5 i e0 r1
 ·obtain⟨e0,r1,r2,_⟩:=hm i e q;obtain⟨e1,s1,s2,_⟩:=hm i' e' q';exact h6 i i' e0 e1 r1 s1 (by rw[←r2,←s2];exact hb)
 ·obtain⟨p,p1,p2,p3⟩:=hk i kv q1;obtain⟨e0,r1,r2,r3⟩:=hm i e q2;split at r3
  ·rename_i ij;rw[Ax ij]at p3;exact .inl ⟨p3,r3.2⟩
  ·rename_i ij;rw[Aq ij]at p3;exact .inr ⟨by rw[p3];exact p1,by rw[r3];exact r1⟩

theorem TJ{sh:ES}{es:Array MapEntry}{ck:Nat}{Cb:List (Value×AV)}(h:Hl sh es ck Cb){x:Value}{v:AV}{y:Value}(hx:VM sh x=true)(hn:∀a,(x,a)∉Cb) :
  Hl sh (es.push { key:=x,val:=y,born:=ck }) (ck+1) (Fg Cb x v) ∧
   ∀(i:Nat) (kv:Value×AV) (e:MapEntry),(Fg Cb x v)[i]?=some kv→(es.push { key:=x,val:=y,born:=ck })[i]?=some e →
    (kv.2=v∧e.val=y)∨(Cb[i]?=some kv∧es[i]?=some e):=by
 rw[Qh hn];obtain⟨h1,h2,h3,h4,h5,h6⟩:=h;have hm:∀i e,(es.push { key:=x,val:=y,born:=ck })[i]?=some e→(es[i]?=some e∧i<es.size)∨(i=es.size∧e={ key:=x,val:=y,born:=ck }):=by
  intro i e he;rw[Array.getElem?_push]at he;split at he
  ·rename_i q;cases he;exact .inr ⟨q,rfl⟩
  ·exact .inl ⟨he,(A7.1 he).1⟩
 have hk:∀i kv,(Cb++[(x,v)])[i]?=some kv→(Cb[i]?=some kv∧i<es.size)∨(i=es.size∧kv=(x,v)):=by
  intro i kv Px;rw[L7]at Px;split at Px
  ·rename_i q;exact .inl ⟨Px,by omega⟩
  ·rename_i q
   have:i-Cb.length=0:=by
    have:=(Aw.1 Px).1
    simp at this;omega
   rw[this]at Px;simp at Px;exact .inr ⟨by omega,Px.symm⟩
 refine⟨⟨by simp[h1],fun i kv e q1 q2=>?_,fun kv Px=>?_,?_,fun i e q=>?_,fun i i' e e' q q' hb=>?_⟩,fun i kv e q1 q2=>?_⟩
 ·rcases hk i kv q1 with ⟨p1,p2⟩ | ⟨p1,p2⟩<;>rcases hm i e q2 with ⟨r1,r2⟩ | ⟨r1,r2⟩
  ·exact h2 i kv e p1 r1
  ·omega
  ·omega
  ·rw[p2,r2]
 ·rcases A4.1 Px with q | q
  ·exact h3 kv q
  ·rw[As.1 q];exact hx
 ·rw[Az,Gz];refine⟨h4,by simp,fun a ha b hb e=>?_⟩;simp only[AN,Fj,As]at hb;obtain⟨p,p1,p2⟩:=Ar.1 ha;refine hn p.2 ?_
  have:p=(x,p.2):=by rw[←hb,←e,←p2]
  rw[←this];exact p1
 ·rcases hm i e q with ⟨r1,_⟩ | ⟨_,r2⟩
  ·have:=h5 i e r1;omega
  ·rw[r2];exact LX _
 ·rcases hm i e q with ⟨r1,_⟩ | ⟨r1,r2⟩<;>rcases hm i' e' q' with ⟨s1,_⟩ | ⟨s1,s2⟩
  ·exact h6 i i' e e' r1 s1 hb
  ·have:=h5 i e r1;rw[s2]at hb;dsimp only at hb;omega
  ·have:=h5 i' e' s1;rw[r2]at hb;dsimp only at hb;omega
  ·omega
 ·rcases hk i kv q1 with ⟨p1,p2⟩ | ⟨p1,p2⟩<;>rcases hm i e q2 with ⟨r1,r2⟩ | ⟨r1,r2⟩
  ·exact .inr ⟨p1,r1⟩
  ·omega
  ·omega
  ·exact .inl ⟨by rw[p2],by rw[r2]⟩

section
variable {P:Program}{w0:World}{g0:Gh}{h0 h:Nat→HO}{g:Gh}{w:World}(hI:DF w0 g0 h0 h g w)
include hI

theorem DF.swap{r b:Nat}(hl:(h r).live)(ho:g.own r=some b)(hn:∀o,¬g.S b o)(o' : HO){ob:Obj}(hb:w.heap[b]?=some ob)(dK : Obj)(w1:World)(K9:w1.heap=w.heap∧w1.os=w.os∧w1.tape=w.tape∧w1.output=w.output)(DB:o'≠.free)
  (JA:Ke g (g.upd r (g.ρ r) (g.ln r) (g.tk r) (g.own r) g.S) (AM h)→E5 g w (g.upd r (g.ρ r) (g.ln r) (g.tk r) (g.own r) g.S) (setBlock w1 b dK)→(setBlock w1 b dK).heap[b]?=some dK →
   (∀k,k≠b→(setBlock w1 b dK).heap[k]?=w.heap[k]?) →
   Ej (g.upd r (g.ρ r) (g.ln r) (g.tk r) (g.own r) g.S) (setBlock w1 b dK) (AM (AZ h r o')) r o') :
  DF w0 g0 h0 (AZ h r o') (g.upd r (g.ρ r) (g.ln r) (g.tk r) (g.own r) g.S) (setBlock w1 b dK)∧Le h g w (AZ h r o') (g.upd r (g.ρ r) (g.ln r) (g.tk r) (g.own r) g.S) (setBlock w1 b dK):=by
 have Dy:=(hI.loc r b hl ho).1;have Fx:(setBlock w1 b dK).heap[b]?=some dK:=UM (by rw[K9.1];exact hb);have ZO:∀k,k≠b→(setBlock w1 b dK).heap[k]?=w.heap[k]?:=fun k hk=>by rw[T9 hk,K9.1]
 refine hI.upd r o' _ _ _ _ _ _ (some b) ⟨K9.2.1,K9.2.2.1,K9.2.2.2,by rw[NI,K9.1];exact Ao _⟩ (fun k _ DB=>ZO k (fun e=>DB (by rw[e]))) (fun b' e=>by cases e;exact⟨hl,ho⟩) (fun _ _ h=>h) (fun _ _ h=>.inl h)
  (fun b' o e hs=>by cases e;exact absurd hs (hn o)) (fun b' _ e=>?_) DB (fun _=>⟨rfl,Ao _,fun _=>rfl,fun _=>rfl⟩) (fun hg hk=>JA hg hk Fx ZO)
 rw[ho]at e;cases e;exact⟨by rw[NI,K9.1];exact Dy,.inl ⟨hl,ho⟩⟩

theorem ND{T:GT}(hT:Cu P T){ty:Nat}{m k x:AV}{vm vk vx:Value}{K:HK}(hm:BK g w (AM h) m vm)(LM : BK g w (AM h) k vk)(hx:BK g w (AM h) x vx)(hk:Hi T h ty m k x K) :
  fe P w0 g0 h0 h g w (Instr.mapUpdate ty vm vk vx) K:=by
 unfold Hi at hk;split at hk
 ·rename_i r;split at hk
  ·rename_i sh Cb e0;obtain⟨kt,e,k1,k2,k3,k4⟩:=MS LM hk;have ho:=hI.objs r;rw[e0]at ho;obtain⟨t1,b,es,ck,a1,a2,a3,a4,a5,a6⟩:=ho;have hl:(h r).live:=by rw[e0];trivial
   cases hm with
   |mref _ _ b' hu ht hp =>
    rw[a2]at hp;cases hp;have hZ:=hT.map k1;have EU:=run_getObj_map (P:=P) w b es ck a3;have NX:∀o',(setObj b o').run P w=.ok () (setBlock w b o'):=fun o'=>by simp[setObj,Sem.run,a3,setBlock]
    have Ok:=fun bb=>MD hT k2 w bb k3;obtain⟨res,r1,r2⟩:=Od hT k2 w k3 es.toList a4.shape;have j8:=BK.str hI.objs hx;rcases r2 with ⟨rfl,hn⟩ | ⟨j,en,rfl,hj,hkey⟩
    ·obtain⟨m1,m2⟩:=TJ a4 (x:=vk) (v:=str h x) (y:=vx) k3 (fun a=>a4.none hn a);obtain⟨i1,i2⟩:=DF.swap hI hl a1 a6 (.map sh (Fg Cb vk (str h x))) a3 (.map (es.push { key:=vk,val:=vx,born:=ck }) (ck+1)) w ⟨rfl,rfl,rfl,rfl⟩ (by simp) (fun hg Jj Fx ZO=>by
      obtain⟨u1,u2,u3,u4⟩:=BU g r (g.ρ r) (g.ln r) (g.tk r) (g.own r) g.S;refine⟨u3.trans t1,b,_,_,u4.trans a1,u1.trans a2,Fx,m1,fun i kv e q1 q2=>?_,a6⟩;rcases m2 i kv e q1 q2 with ⟨p1,p2⟩ | ⟨p1,p2⟩
      ·rw[p1,p2];exact j8.mono Jj (fun _ h=>h) (fun _ h=>h.elim)
      ·exact(a5 i kv e p1 p2).mono Jj (fun _ h=>h) (fun _ h=>h.elim))
     refine⟨_,_,_,?_,k4,i1,i2⟩;simp[Instr.mapUpdate,run_underlying hZ,EU,Ok,r1,NX]
    ·obtain⟨a,q1,q2⟩:=a4.some hj hkey;obtain⟨m1,m2⟩:=O6 a4 (x:=vk) (v:=str h x) (y:=vx) q1;obtain⟨i1,i2⟩:=DF.swap hI hl a1 a6 (.map sh (Fg Cb vk (str h x))) a3 (.map (es.modify j fun e=>{ e with key:=vk,val:=vx }) ck) w ⟨rfl,rfl,rfl,rfl⟩ (by simp) (fun hg Jj Fx ZO=>by
      obtain⟨u1,u2,u3,u4⟩:=BU g r (g.ρ r) (g.ln r) (g.tk r) (g.own r) g.S;refine⟨u3.trans t1,b,_,_,u4.trans a1,u1.trans a2,Fx,m1,fun i kv e q1 q2=>?_,a6⟩;rcases m2 i kv e q1 q2 with ⟨p1,p2⟩ | ⟨p1,p2⟩
      ·rw[p1,p2];exact j8.mono Jj (fun _ h=>h) (fun _ h=>h.elim)
      ·exact(a5 i kv e p1 p2).mono Jj (fun _ h=>h) (fun _ h=>h.elim))
     refine⟨_,_,_,?_,k4,i1,i2⟩;have oQ : es[j]?=some en:=by simpa using hj
     have GD:=Rs (P:=P) w k3;simp[Instr.mapUpdate,run_underlying hZ,EU,Ok,r1,NX,oQ,hkey,GD]
  ·rename_i sh Cb e0;obtain⟨kt,e,k1,k2,k3,k4⟩:=MS LM hk;have ho:=hI.objs r;rw[e0]at ho;obtain⟨t1,b,es,ck,a1,a2,a3,a4,a5,a6⟩:=ho;have hl:(h r).live:=by rw[e0];trivial
   cases hm with
   |mref _ _ b' hu ht hp =>
    rw[a2]at hp;cases hp;have hZ:=hT.map k1;have EU:=run_getObj_map (P:=P) w b es ck a3;have NX:∀o',(setObj b o').run P w=.ok () (setBlock w b o'):=fun o'=>by simp[setObj,Sem.run,a3,setBlock]
    have Ok:=fun bb=>MD hT k2 w bb k3;obtain⟨res,r1,r2⟩:=Od hT k2 w k3 es.toList a4.shape;rcases r2 with ⟨rfl,hn⟩ | ⟨j,en,rfl,hj,hkey⟩
    ·obtain⟨m1,m2⟩:=TJ a4 (x:=vk) (v:=x) (y:=vx) k3 (fun a=>a4.none hn a);obtain⟨i1,i2⟩:=DF.swap hI hl a1 a6 (.mapU sh (Fg Cb vk (x))) a3 (.map (es.push { key:=vk,val:=vx,born:=ck }) (ck+1)) w ⟨rfl,rfl,rfl,rfl⟩ (by simp) (fun hg Jj Fx ZO=>by
      obtain⟨u1,u2,u3,u4⟩:=BU g r (g.ρ r) (g.ln r) (g.tk r) (g.own r) g.S;have KN:∀i,AM h i→AM (AZ h r (.mapU sh (Fg Cb vk x))) i:=fun i hi=>D4 (by simp) i hi;refine⟨u3.trans t1,b,_,_,u4.trans a1,u1.trans a2,Fx,m1,fun i kv e q1 q2=>?_,a6⟩;rcases m2 i kv e q1 q2 with ⟨p1,p2⟩ | ⟨p1,p2⟩
      ·rw[p1,p2];exact hx.mono Jj KN hg
      ·exact(a5 i kv e p1 p2).mono Jj KN hg)
     refine⟨_,_,_,?_,k4,i1,i2⟩;simp[Instr.mapUpdate,run_underlying hZ,EU,Ok,r1,NX]
    ·obtain⟨a,q1,q2⟩:=a4.some hj hkey;obtain⟨m1,m2⟩:=O6 a4 (x:=vk) (v:=x) (y:=vx) q1;obtain⟨i1,i2⟩:=DF.swap hI hl a1 a6 (.mapU sh (Fg Cb vk (x))) a3 (.map (es.modify j fun e=>{ e with key:=vk,val:=vx }) ck) w ⟨rfl,rfl,rfl,rfl⟩ (by simp) (fun hg Jj Fx ZO=>by
      obtain⟨u1,u2,u3,u4⟩:=BU g r (g.ρ r) (g.ln r) (g.tk r) (g.own r) g.S;have KN:∀i,AM h i→AM (AZ h r (.mapU sh (Fg Cb vk x))) i:=fun i hi=>D4 (by simp) i hi;refine⟨u3.trans t1,b,_,_,u4.trans a1,u1.trans a2,Fx,m1,fun i kv e q1 q2=>?_,a6⟩;rcases m2 i kv e q1 q2 with ⟨p1,p2⟩ | ⟨p1,p2⟩
      ·rw[p1,p2];exact hx.mono Jj KN hg
      ·exact(a5 i kv e p1 p2).mono Jj KN hg)
     refine⟨_,_,_,?_,k4,i1,i2⟩;have oQ : es[j]?=some en:=by simpa using hj
     have GD:=Rs (P:=P) w k3;simp[Instr.mapUpdate,run_underlying hZ,EU,Ok,r1,NX,oQ,hkey,GD]
  ·exact hk.elim
 ·exact hk.elim

theorem N7{d b:Nat}{es:Array MapEntry}{ck:Nat}{sh:ES}{Cb:List (Value×AV)}(hd:h d=.free)(hS:g.S b 0)(hb:w.heap[b]?=some (.map es ck))(hm:Hl sh es ck Cb)
  (hv:∀(i:Nat) (kv:Value×AV) (e:MapEntry),Cb[i]?=some kv→es[i]?=some e→BK g w Fp kv.2 e.val) :
  ∃g',DF w0 g0 h0 (AZ h d (.iter Cb Cb none)) g' (w.alloc (.mapIter (some b) ck #[] ck))∧Le h g w (AZ h d (.iter Cb Cb none)) g' (w.alloc (.mapIter (some b) ck #[] ck)) ∧
   BK g' (w.alloc (.mapIter (some b) ck #[] ck)) (AM (AZ h d (.iter Cb Cb none))) (.ref d 0) (.pointer (some ⟨w.heap.size,0,none⟩)):=by
 obtain⟨k1,k2⟩:=hI.newOwn hd (.iter Cb Cb none) (.mapIter (some b) ck #[] ck) (.pointer (some ⟨w.heap.size,0,none⟩)) 0 false w ⟨rfl,rfl,rfl,rfl⟩ (by simp) (fun hg hk=>by
  obtain⟨u1,u2,u3,u4⟩:=BU g d (.pointer (some ⟨w.heap.size,0,none⟩)) 0 false (some w.heap.size) g.S;obtain⟨c1,c2,c3⟩:=hk b 0 hS
  exact⟨u3,w.heap.size,b,ck,#[],ck,es,ck,u4,u1,HM w _ rfl,c1,c3 es ck hb,⟨sh,hm⟩,rfl,rfl,fun i kv e q1 q2=>(hv i kv e q1 q2).mono hk (fun _ h=>h) (fun _ h=>h.elim),
   ⟨Pc hm.2.2.2.1,fun _ h=>h⟩,fun i kv e q1 q2=>by simp[List.mem_of_getElem? q1],trivial,fun o ho=>by have:=hI.slt _ _ ho;omega⟩)
 refine⟨_,k1,k2,.ref _ d 0 w.heap.size (by unfold AM;rw[Bg];simp) ?_ ?_⟩<;>simp[Gh.upd]

theorem Rg{r b:Nat}{sh:ES}{Cb:List (Value×AV)}{es:Array MapEntry}{ck:Nat}(e0:h r=.map sh Cb)(a1:g.own r=some b)(a2:g.ρ r=.map (some b))(a3:w.heap[b]?=some (.map es ck))(a4:Hl sh es ck Cb)
  (a5:∀(i:Nat) (kv:Value×AV) (e:MapEntry),Cb[i]?=some kv→es[i]?=some e→BK g w Fp kv.2 e.val) (t1:g.tk r=false) :
  ∃g',DF w0 g0 h0 (AZ h r (.rom sh Cb)) g' w∧Le h g w (AZ h r (.rom sh Cb)) g' w∧g'.S b 0:=by
 have hl:(h r).live:=by rw[e0];trivial
 have Dy:=(hI.loc r b hl a1).1
 obtain⟨k1,k2⟩:=hI.upd r (.rom sh Cb) (g.ρ r) (g.ln r) (g.tk r) none (g.more b 1) w none ⟨rfl,rfl,rfl,Ao _⟩ (fun _ _ _=>rfl) (fun b e=>by cases e) (fun _ _ h=>.inl h)
  (fun b' o hs=>hs.elim .inl (fun hs=>.inr ⟨by rw[hs.1];exact Dy,.inr ⟨hl,by rw[hs.1];exact a1⟩⟩)) (fun b o e=>by cases e) (fun b hh _=>by cases hh) (by simp)
  (fun _=>⟨rfl,Ao _,fun _=>rfl,fun _=>rfl⟩) (fun hg hk=>by
   obtain⟨u1,u2,u3,u4⟩:=BU g r (g.ρ r) (g.ln r) (g.tk r) none (g.more b 1);exact⟨u3.trans t1,b,u1.trans a2,.cmap _ sh Cb b es ck (.inr ⟨rfl,US⟩) a3 a4 (fun i kv e q1 q2=>(a5 i kv e q1 q2).mono hk (fun _ h=>h) (fun _ h=>h.elim))⟩)
 exact⟨_,k1,k2,.inr ⟨rfl,US⟩⟩

theorem WO{r b:Nat}{sh:ES}{Cb:List (Value×AV)}{es:Array MapEntry}{ck:Nat}(e0:h r=.mapU sh Cb)(a1:g.own r=some b)(a2:g.ρ r=.map (some b))(a3:w.heap[b]?=some (.map es ck))(a4:Hl sh es ck Cb)
  (a5:∀(i:Nat) (kv:Value×AV) (e:MapEntry),Cb[i]?=some kv→es[i]?=some e→BK g w (AM h) kv.2 e.val) (t1:g.tk r=false) :
  ∃g',DF w0 g0 h0 (AZ h r (.rom sh (RH h Cb))) g' w∧Le h g w (AZ h r (.rom sh (RH h Cb))) g' w∧g'.S b 0:=by
 have hl:(h r).live:=by rw[e0];trivial
 have Dy:=(hI.loc r b hl a1).1
 obtain⟨k1,k2⟩:=hI.upd r (.rom sh (RH h Cb)) (g.ρ r) (g.ln r) (g.tk r) none (g.more b 1) w none ⟨rfl,rfl,rfl,Ao _⟩ (fun _ _ _=>rfl) (fun b e=>by cases e) (fun _ _ h=>.inl h)
  (fun b' o hs=>hs.elim .inl (fun hs=>.inr ⟨by rw[hs.1];exact Dy,.inr ⟨hl,by rw[hs.1];exact a1⟩⟩)) (fun b o e=>by cases e) (fun b hh _=>by cases hh) (by simp)
  (fun _=>⟨rfl,Ao _,fun _=>rfl,fun _=>rfl⟩) (fun hg hk=>by
   obtain⟨u1,u2,u3,u4⟩:=BU g r (g.ρ r) (g.ln r) (g.tk r) none (g.more b 1);refine⟨u3.trans t1,b,u1.trans a2,.cmap _ sh _ b es ck (.inr ⟨rfl,US⟩) a3 (Vx _ a4) (fun i kv e q1 q2=>?_)⟩;unfold RH at q1;rw[AJ]at q1;obtain⟨p,q3,rfl⟩:=AQ.1 q1;exact((a5 i p e q3 q2).str hI.objs).mono hk (fun _ h=>h) (fun _ h=>h.elim))
 exact⟨_,k1,k2,.inr ⟨rfl,US⟩⟩

theorem d8{T:GT}(hT:Cu P T){ty kt e:Nat}(ht:(T ty).d=.map kt e){d:Option Nat}{x:AV}{vx:Value}{K:HK}(hx:BK g w (AM h) x vx)(hk:aA d h x K) :
  Oo P w0 g0 h0 h g w (Instr.range ty vx) K:=by
 have hu:=hT.map ht;unfold aA at hk;split at hk
 ·exact hk.elim
 ·rename_i d;split at hk
  ·rename_i hd;have Do:∀b es ck,w.heap[b]?=some (.map es ck)→(Instr.range ty (.map (some b))).run P w=.ok (.pointer (some ⟨w.heap.size,0,none⟩)) (w.alloc (.mapIter (some b) ck #[] ck)):=fun b es ck hb=>by
    simp[Instr.range,run_underlying hu,run_getObj_map (P:=P) w b es ck hb]
   split at hk
   ·cases hx with
    |cmap _ _ _ b es ck hS hb hm hv =>
     obtain⟨g',k1,k2,k3⟩:=N7 hI hd hS hb hm hv;exact⟨_,_,_,_,_,Do _ _ _ hb,hk,k1,k2,k3⟩
   ·rename_i r;have ho:=hI.objs r;cases hx with
    |mref _ _ b hZ ht' hp =>
     split at hk
     ·rename_i sh Cb e0;rw[e0]at ho;obtain⟨_,b',a1,a2⟩:=ho;rw[a1]at hp;cases hp;cases a2 with
      |cmap _ _ _ _ es ck hS hb hm hv =>
       obtain⟨g',k1,k2,k3⟩:=N7 hI hd hS hb hm hv;exact⟨_,_,_,_,_,Do _ _ _ hb,hk,k1,k2,k3⟩
     ·rename_i sh Cb e0;rw[e0]at ho;obtain⟨t1,b',es,ck,a1,a2,a3,a4,a5,a6⟩:=ho;rw[a2]at hp;cases hp;obtain⟨g1,i1,i2,i3⟩:=Rg hI e0 a1 a2 a3 a4 a5 t1;have DB:d≠r:=fun e=>by rw[e,e0]at hd;cases hd
      obtain⟨g',k1,k2,k3⟩:=N7 i1 (by rw[B9 _ _ _ _ DB];exact hd) i3 a3 a4 (fun i kv e q1 q2=>(a5 i kv e q1 q2).mono i2.keeps (fun _ h=>h) (fun _ h=>h.elim));exact⟨_,_,_,_,_,Do _ _ _ a3,hk,k1,i2.trans k2,k3⟩
     ·exact hk.elim
   ·exact hk.elim
  ·exact hk.elim

theorem iK{ty:TypeId}{x:AV}{vx:Value}{K:HK}(hx:BK g w (AM h) x vx)(hk:iJ h x K):Oo P w0 g0 h0 h g w (Instr.next vx false ty) K:=by
 unfold iJ at hk;split at hk
 ·rename_i r;split at hk
  ·rename_i all rem F9 e0;have ho:=hI.objs r;rw[e0]at ho;obtain⟨t1,b,mb,Kc,seen,st,es,ck,a1,a2,a3,a4,a5,⟨sh,a6⟩,a7,a8,a9,Xg,aN,a12,nF⟩:=ho;have hl:(h r).live:=by rw[e0];trivial
   cases hx with
   |ref _ _ _ b' hu ht hp =>
    rw[a2]at hp;cases hp;have Dy:∀e∈es.toList,e.born<Kc:=fun e he=>by
     obtain⟨i,hi⟩:=Cj.1 he
     have:=a6.2.2.2.2.1 i e (by simpa using hi)
     omega
    rcases run_next_at (P:=P) w ty b mb Kc st seen es ck a3 a5 Dy (by omega)with ⟨q1,q2⟩ | ⟨e,q1,w1,q2,q3⟩
    ·have xu:rem=[]:=by
      apply LU.2;intro kv Px;obtain⟨i,hi⟩:=Cj.1 (Xg.2 kv Px);have qe:i<es.size:=by rw[a6.1];exact(Aw.1 hi).1
      have hb:=(aN i kv es[i] hi (by simp[qe])).1 Px;have hm:es[i]∈leftOf es seen:=by simp[leftOf,hb]
      have:=Array.size_pos_of_mem hm
      omega
     exact⟨_,w,g,_,h,q2,hk.1 xu,hI,.refl _ _ _,.tup _ _ _ rfl (fun i av x h1 h2=>by
      match i,h1,h2 with
      |0,h1,h2=>simp at h1 h2;subst h1;subst h2;exact .v _ _)⟩
    ·have hq:e∈es∧e.born∉seen:=by simpa[leftOf]using q1
     obtain⟨i,hi⟩:=Array.mem_iff_getElem?.1 hq.1;have qe:i<all.length:=by rw[←a6.1];exact(A7.1 hi).1
     have p7:all[i]?=some all[i]:=AE qe;have Y4:=(aN i _ e p7 hi).2 hq.2;obtain⟨s1,s2,hs⟩:=List.append_of_mem Y4;have J4:rem.Perm (all[i]::(s1++s2)):=by rw[hs];exact List.perm_middle
     have MP:(all[i]::(s1++s2)).Nodup:=J4.nodup_iff.1 Xg.1;have hr:=a9 i _ e p7 hi;have hkey:=a6.2.1 i _ e p7 hi;have K9:w1.heap=w.heap∧w1.os=w.os∧w1.tape=w.tape∧w1.output=w.output:=by rcases q2 with rfl | rfl<;>exact⟨rfl,rfl,rfl,rfl⟩
     obtain⟨k1,k2⟩:=DF.swap hI hl a1 nF (.iter all (s1++s2) (some all[i])) a3 (.mapIter (some mb) Kc (seen.push e.born) ck) w1 K9 (by simp) (fun hg Jj Fx ZO=>by
      obtain⟨u1,u2,u3,u4⟩:=BU g r (g.ρ r) (g.ln r) (g.tk r) (g.own r) g.S;obtain⟨c1,c2,c3⟩:=Jj mb 0 a4
      refine⟨u3.trans t1,b,mb,Kc,_,ck,es,ck,u4.trans a1,u1.trans a2,Fx,c1,c3 _ _ a5,⟨sh,a6⟩,a7,rfl,fun i kv e p q=>(a9 i kv e p q).mono Jj (fun _ h=>h) (fun _ h=>h.elim),
       ⟨(Db.1 MP).2,fun kv Px=>Xg.2 kv (J4.mem_iff.2 (Ai _ Px))⟩,fun j kv e' p q=>?_,⟨i,e,p7,hi,by simp⟩,nF⟩
      rw[Array.mem_push];have h1:=aN j kv e' p q;rw[J4.mem_iff,AF]at h1;constructor
      ·intro Px hc;rcases hc with hc | hc
       ·exact(h1.1 (.inr Px)) hc
       ·obtain rfl:=a6.2.2.2.2.2 j i e' e q hi hc;rw[p7]at p;cases p;exact(Db.1 MP).1 Px
      ·intro hc;rcases h1.2 (fun hm=>hc (.inl hm))with e2 | e2
       ·have:j=i:=Vz (f:=fun x=>x) (l:=all) (by simpa using Pc a6.2.2.2.1) p p7 e2
        subst this;rw[hi]at q;cases q;exact absurd (.inr rfl) hc
       ·exact e2)
     refine⟨_,_,_,_,_,q3,hk.2 all[i] (s1++s2) J4,k1,k2,.tup _ _ _ rfl (fun j av x h1 h2=>?_)⟩
     match j,h1,h2 with
     |0,h1,h2=>simp at h1 h2;subst h1;subst h2;exact .v _ _
     |1,h1,h2=>simp at h1 h2;subst h1;subst h2;rw[hkey];exact .v _ _
     |2,h1,h2=>simp at h1 h2;subst h1;subst h2;exact(hr.up _).le k2
  ·exact hk.elim
 ·exact hk.elim
end
end Go.Eng

namespace Go.Eng

def Gr(F:(AV→Prop)→Prop):Prop:=∀K,F K→∃v,K v∧∀K',K' v→F K'

theorem Dz(v:AV):Gr (fun K=>K v):=fun _ h=>⟨v,h,fun _ h=>h⟩
theorem DM{p:Prop}{F:(AV→Prop)→Prop}(h:Gr F):Gr (fun K=>p∧F K):=fun K ⟨hp,hk⟩ =>
 let ⟨v,h1,h2⟩:=h K hk
 ⟨v,h1,fun K' h'=>⟨hp,h2 K' h'⟩⟩
theorem CF:Gr (fun _=>False):=fun _ h=>h.elim
theorem VF(p:Prop):Gr (I1 p):=fun K h=>by
 by_cases hp:p
 ·exact⟨_,h.1 hp,fun K' h'=>⟨fun _=>h',fun hn=>absurd hp hn⟩⟩
 ·exact⟨_,h.2 hp,fun K' h'=>⟨fun q=>absurd q hp,fun _=>h'⟩⟩
theorem YS{F:(AV→Prop)→Prop}(h:Gr F):Gr (fun K=>F (dI K)):=fun K hk=>by
 obtain⟨v,h1,h2⟩:=h _ hk;unfold dI at h1;split at h1
 ·exact⟨_,h1,fun K' h'=>h2 _ h'⟩
 ·exact⟨_,h1,fun K' h'=>h2 _ h'⟩
 ·exact h1.elim
theorem M2{α:Type}{F:α→(AV→Prop)→Prop}(h:∀x,Gr (F x)):Gr (fun K=>∃x,F x K):=fun K ⟨x,hk⟩ =>
 let ⟨v,h1,h2⟩:=h x K hk
 ⟨v,h1,fun K' h'=>⟨x,h2 K' h'⟩⟩

theorem Jr(T:GT)(t:Nat)(cs:List AV):Gr (Mw T t cs):=by
 have head:Gr (Mr cs):=by unfold Mr;cases cs with | nil=>exact CF | cons a _=>exact Dz a
 unfold Mw;split
 ·exact DM (Dz _)
 ·exact DM (Dz _)
 ·cases cs with
  |nil=>exact CF
  |cons a _ =>
   intro K h;simp only[Mr]at h⊢;split at h
   ·rename_i b;cases b with
    |true=>exact⟨_,h.1 rfl,fun K' h'=>⟨fun _=>h',fun e=>by cases e⟩⟩
    |false=>exact⟨_,h.2 rfl,fun K' h'=>⟨fun e=>(by cases e),fun _=>h'⟩⟩
   ·exact h.elim
 ·exact CF
 ·exact head
theorem bG(T:GT)(t:Nat)(x y:AV)(hx:∀tk es,x≠.slice tk es):Gr (pZ T t x y):=by
 unfold pZ
 repeat' split
 all_goals first | exact CF | exact Dz _ | exact VF _ | exact DM (Dz _) | exact absurd rfl (hx _ _)
theorem ar(op:BinOp)(k:IntKind)(a b:Int):Gr (Su op k a b):=by
 unfold Su
 repeat' split
 all_goals first | exact CF | exact DM (Dz _) | (unfold Zh;split<;>first | exact CF | exact Dz _)
theorem jc(T:GT)(op:BinOp)(t:Nat)(x y:AV)(hx:∀tk es,x≠.slice tk es):Gr (Sx T op t x y):=by
 unfold Sx
 repeat' split
 all_goals first | exact CF | exact VF _ | exact ar _ _ _ _ | exact DM (Dz _) | exact bG _ _ _ _ hx | exact YS (bG _ _ _ _ hx)
theorem dZ(T:GT)(op:BinOp)(t:Nat)(Y:Operand)(x y:AV)(hx:∀tk es,x≠.slice tk es):Gr (Xq T op t Y x y):=by
 unfold Xq
 repeat' split
 all_goals first | exact CF | exact Dz _ | exact jc _ _ _ _ _ hx
theorem d4(T:GT)(s t:Nat)(x:AV):Gr (Xw T s t x):=by
 unfold Xw
 repeat' split
 all_goals first | exact CF | exact Dz _ | exact DM (Dz _) | exact M2 fun _=>DM (Dz _)
theorem aw(T:GT)(s f:Nat)(x:AV):Gr (ST T s f x):=by
 unfold ST
 repeat' split
 all_goals first | exact CF | exact Dz _
theorem YQ(T:GT)(s f:Nat)(x:AV):Gr (OL T s f x):=by
 unfold OL
 repeat' split
 all_goals first | exact CF | exact Jr _ _ _
theorem TZ(T:GT)(t:Nat)(x ix:AV):Gr (JB T t x ix):=by
 unfold JB
 repeat' split
 all_goals first | exact CF | exact DM (Dz _) | exact M2 fun _=>DM (DM (Dz _))
theorem ax(T:GT)(t:Nat)(x ix:AV):Gr (Tt T t x ix):=by
 unfold Tt
 repeat' split
 all_goals first | exact CF | exact DM (Jr _ _ _) | exact M2 fun _=>DM (Dz _)
theorem WV(x:AV)(i:Nat):Gr (Mj x i):=by
 unfold Mj
 repeat' split
 all_goals first | exact CF | exact Dz _
theorem je(x:AV):Gr (KT x):=by
 unfold KT
 repeat' split
 all_goals first | exact CF | exact Dz _
theorem d5(c a b:AV):Gr (YO c a b):=by
 unfold YO
 repeat' split
 all_goals first | exact CF | exact Dz _
theorem md(f:Int→Int→Int)(x y:AV):Gr (lR f x y):=by
 unfold lR
 repeat' split
 all_goals first | exact CF | exact Dz _
theorem d6(op:UnOp)(x:AV):Gr (YZ op x):=by
 unfold YZ
 repeat' split
 all_goals first | exact CF | exact YS (Dz _) | exact DM (Dz _)
def mO{α:Type}(F:(α→Prop)→Prop):Prop:=∀K,F K→∃v,K v∧∀K',K' v→F K'
theorem YP(n:Nat)(a:AV):mO (Hg n a):=by
 intro K h;unfold Hg at h⊢
 repeat' split at h
 all_goals first | exact h.elim | skip
 all_goals exact⟨_,h,fun K' h'=>h'⟩
theorem TX(pl:Nat→Option (Nat×Nat))(t:Nat→AV):∀(ps:List (Nat×Operand)) (cs:List AV),mO (KL pl cs t ps)
 | [],cs=>fun K h=>⟨cs,h,fun _ h=>h⟩
 |(i,x)::r,cs=>by
  intro K h;unfold KL at h;split at h
  ·exact h.elim
  ·rename_i o n e;obtain⟨vs,h1,h2⟩:=YP _ _ _ h;split at h1
   ·rename_i hb;obtain⟨c,h3,h4⟩:=TX pl t r _ _ h1;refine⟨c,h3,fun K' h'=>?_⟩;unfold KL;simp only[e];refine h2 _ ?_;simp only[hb];exact h4 K' h'
   ·exact h1.elim
theorem au(T:GT)(ty:Nat)(t:Nat→AV)(ps:List (Nat×Operand)):Gr (PH T ty t ps):=by
 unfold PH
 repeat' split
 all_goals first
  |exact CF
  |exact fun K h=>let ⟨c,h1,h2⟩:=TX _ _ _ _ _ h;⟨_,h1,fun K' h'=>h2 _ h'⟩
end Go.Eng

namespace Go.Eng

def zn(h:Nat→HO)(e:Option (Nat×HO)):Nat→HO:=match e with | none=>h | some (r,o)=>AZ h r o
structure IY(o:Oper)(R:List Nat)(st st2:St):Prop where
 t:∀x∈o.op.operands,ev st2.t x=ev st.t x
 h:∀r∈R,st2.h r=st.h r
def Eo(cx:Cx)(o:Oper)(st:St)(R:List Nat)(w:Option Nat)(K:HK):Prop :=
 ∃v e,K v (zn st.h e)∧(∀r o',e=some (r,o')→w=some r∧r∈R)∧∀st2,IY o R st st2→∀K' : HK,K' v (zn st2.h e)→F8 cx true o st2 K'

def Si(w:Option Nat)(r:Nat):Prop:=match w with | none=>False | some x=>x=r∨(10000000≤x∧(x % 10000000=r∨x / 10000000=r))∨x=Wd
def Ij(h:Nat→HO):List (Nat×HO)→Nat→HO
 | []=>h
 |p::l=>Ij (AZ h p.1 p.2) l
def RJ(cx:Cx)(o:Oper)(st:St)(R:List Nat)(w:Option Nat)(K:HK):Prop :=
 ∃v e,K v (Ij st.h e)∧(∀r o',(r,o')∈e→Si w r∧r∈R)∧∀st2,IY o R st st2→∀K' : HK,K' v (Ij st2.h e)→F8 cx true o st2 K'

section
variable {cx:Cx}{o:Oper}{st:St}{R:List Nat}{w:Option Nat}{K:HK}
theorem Eo.pick{F:(AV→Prop)→Prop}(hF:Gr F)(h:F fun v=>K v st.h)(h2:∀st2,IY o R st st2→∀K' : HK,F (fun v=>K' v st2.h)→F8 cx true o st2 K'):Eo cx o st R w K :=
 let ⟨v,h1,h3⟩:=hF _ h
 ⟨v,none,h1,fun _ _ e=>(by cases e),fun st2 ha K' hk=>h2 st2 ha K' (h3 _ hk)⟩

theorem Yx{cs:List AV}{a:AV}(h:a∈cs):∀r∈UG a,r∈lA cs:=by
 induction cs with
 |nil=>cases h
 |cons c cs ih =>
  intro r hr;rcases AF.1 h with rfl | h
  ·exact Bz _ hr
  ·exact Bq _ (ih h r hr)
theorem iB{cs:List AV}{a:AV}(h:a∈cs):∀r∈UH a,r∈o6 cs:=by
 induction cs with
 |nil=>cases h
 |cons c cs ih =>
  intro r hr;rcases AF.1 h with rfl | h
  ·exact Bz _ hr
  ·exact Bq _ (ih h r hr)
theorem Yw{cs:List AV}{a:AV}(h:a∈cs):∀r∈Xc a,r∈To cs:=by
 induction cs with
 |nil=>cases h
 |cons c cs ih =>
  intro r hr;rcases AF.1 h with rfl | h
  ·exact Bz _ hr
  ·exact Bq _ (ih h r hr)
theorem Vm(a:AV):∀r∈UG a,r∈UH a:=by cases a<;>simp[UG,UH]
theorem QC{h h2:Nat→HO}{a:AV}(e:∀r∈UG a,h2 r=h r):str0 h2 a=str0 h a:=by
 cases a<;>simp only[str0]
 ·rw[e _ (by simp[UG])]
 ·rw[e _ (by simp[UG])]
theorem VU{h h2:Nat→HO}{a:AV}(e:∀r∈UH a,h2 r=h r):str h2 a=str h a:=by
 cases a with
 |agg cs=>simp only[str];exact Ac _ (A8 fun c hc=>QC fun r hr=>e r (Yx hc r hr))
 |clo f cs=>simp only[str];exact Ac _ (A8 fun c hc=>QC fun r hr=>e r (Yx hc r hr))
 |_=>exact QC (fun r hr=>e r (Vm _ r hr))
theorem ic(a:AV):∀r∈UH a,r∈Xc a:=by
 cases a with
 |agg cs =>
  intro r hr;simp only[Xc,UH]at *
  induction cs with
  |nil=>exact hr
  |cons c cs ih =>
   rcases A4.1 hr with h | h
   ·exact Bz _ (Vm c r h)
   ·exact Bq _ (ih h)
 |_=>exact fun r hr=>hr
theorem K5{h h2:Nat→HO}{a:AV}(e:∀r∈Xc a,h2 r=h r):str h2 a=str h a:=VU fun r hr=>e r (ic a r hr)
theorem QD{h h2:Nat→HO}{l:List AV}(e:∀r∈To l,h2 r=h r):l.map (str h2)=l.map (str h) :=
 A8 fun _ ha=>K5 fun r hr=>e r (Yw ha r hr)
theorem jp{h h2:Nat→HO}{a:AV}(e:∀r∈Xc a,h2 r=h r):rsv h2 a=rsv h a:=by
 cases a<;>simp only[rsv]
 ·rw[e _ (by simp[Xc,UH,UG])]
 ·rw[e _ (by simp[Xc,UH,UG])]
theorem NQ{n:Nat}{a:AV}{K:List AV→Prop}(hk:Hg n a K):∃cs,K cs∧(∀K' : List AV→Prop,K' cs→Hg n a K')∧∀h h2:Nat→HO,(∀r∈Xc a,h2 r=h r)→cs.map (str h2)=cs.map (str h):=by
 have single:K [a]→(∀K' : List AV→Prop,K' [a]→Hg n a K')→∃cs,K cs∧(∀K' : List AV→Prop,K' cs→Hg n a K')∧∀h h2:Nat→HO,(∀r∈Xc a,h2 r=h r)→cs.map (str h2)=cs.map (str h) :=
  fun h1 h2=>⟨[a],h1,h2,fun h h2 e=>by simp[K5 e]⟩
 unfold Hg at hk;split at hk
 ·rename_i cs;split at hk
  ·rename_i hn;refine⟨cs,hk,fun K' h=>by unfold Hg;simp only[hn];exact h,fun h h2 e=>A8 fun c hc=>VU fun r hr=>e r (iB hc r hr)⟩
  ·exact hk.elim
 ·rename_i oV;split at hk
  ·rename_i h1;split at hk
   ·refine single hk fun K' h=>?_;unfold Hg;split
    ·rename_i cs;exact absurd rfl (oV cs)
    ·rw[h1];exact h
   ·exact hk.elim
  ·exact hk.elim

theorem SU{n sz:Nat}{t:Nat→AV}:∀{ps:List (Nat×Operand)} {es:List (List AV)} {h:Nat→HO} {K:List (List AV)→Prop},QU n sz h es t ps K →
  ∃ET,K ET∧∀(t2:Nat→AV) (h2:Nat→HO),(∀r∈To (ps.map fun p=>ev t p.2),h2 r=h r)→(∀p∈ps,ev t2 p.2=ev t p.2)→∀K' : List (List AV)→Prop,K' ET→QU n sz h2 es t2 ps K'
 | [],es,h,K,hk=>⟨es,hk,fun _ _ _ _ _ h=>h⟩
 |(i,x)::r,es,h,K,hk=>by
  unfold QU at hk;split at hk
  ·rename_i hb;obtain⟨cs,c1,c2,c3⟩:=NQ hk;obtain⟨ET,e1,e2⟩:=SU c1;refine⟨ET,e1,fun t2 h2 hh ht K' LM=>?_⟩;unfold QU;rw[hb,ht (i,x) (Ab ..)];refine c2 _ ?_;rw[c3 h h2 (fun r hr=>hh r (Bz _ hr))];exact e2 t2 h2 (fun r hr=>hh r (Bq _ hr)) (fun p hp=>ht p (Ai _ hp)) K' LM
  ·exact hk.elim
theorem Iq{d:Option Nat}{h:Nat→HO}{sz:Nat}{es:List (List AV)}(hk:EL cx d h sz es K) :
  ∃d',d.map (KJ cx)=some d'∧∃v x,K v (AZ h d' x)∧∀h2:Nat→HO,h2 d'=h d'→∀K' : HK,K' v (AZ h2 d' x)→EL cx d h2 sz es K':=by
 unfold EL at hk;split at hk
 ·exact hk.elim
 ·rename_i d;split at hk
  ·rename_i hd;split at hk
   ·rename_i e;exact⟨KJ cx d,rfl,_,_,hk,fun h2 hh K' h'=>by unfold EL;simp only[hh,hd,e];exact h'⟩
   ·rename_i e;exact⟨KJ cx d,rfl,_,_,hk,fun h2 hh K' h'=>by unfold EL;simp only[hh,hd,e];exact h'⟩
  ·exact hk.elim
theorem Zx{h:Nat→HO}{x:AV}{K:List (List AV)→Prop}(hk:Lj h x K):∃es,K es∧∀h2:Nat→HO,(∀r n,x=.msl r n→h2 r=h r)→∀K' : List (List AV)→Prop,K' es→Lj h2 x K':=by
 unfold Lj at hk;split at hk
 ·exact⟨_,hk,fun _ _ K' h=>h⟩
 ·exact⟨_,hk,fun _ _ K' h=>h⟩
 ·rename_i r n;split at hk
  ·rename_i sz es e;exact⟨_,hk.2,fun h2 hh K' h=>by unfold Lj;simp only[hh r n rfl,e];exact⟨hk.1,h⟩⟩
  ·exact hk.elim
 ·exact hk.elim
end
end Go.Eng

namespace Go.Eng

section
variable {cx:Cx}{dst:Option Nat}{ty:Nat}{pos:String}{after:Array Edge}{gd:Option (Nat×Bool)}{st:St}{R:List Nat}{w:Option Nat}{K:HK}

theorem IC{d:Option Nat}{l:List Nat}{f:FK}(h:IB d l=some f):∃d',d=some d'∧f=(d' :: l,some d'):=by
 unfold IB at h;cases d with
 |none=>cases h
 |some d=>cases h;exact⟨d,rfl,rfl⟩

theorem XL{e:Nat}(hk:F8 cx true ⟨dst,.alloc e,ty,pos,after,gd⟩ st K)(hf:Fw cx ⟨dst,.alloc e,ty,pos,after,gd⟩ st=some (R,w)):Eo cx ⟨dst,.alloc e,ty,pos,after,gd⟩ st R w K:=by
 simp only[F8]at hk;obtain⟨d,rfl,e0⟩:=IC hf;cases e0;unfold Sq at hk;simp only at hk;split at hk
 ·rename_i hd;split at hk
  ·exact hk.elim
  ·rename_i DB;split at hk
   ·rename_i ha;refine⟨_,some (d,_),hk,fun r o' e=>(by cases e;exact⟨rfl,Ab ..⟩),fun st2 Hz K' h'=>?_⟩;simp only[F8,Sq];rw[Hz.h d (Ab ..),hd];simp only[ha];exact h'
   ·exact hk.elim
 ·exact hk.elim
theorem cL{e:Nat}{x:Operand}(hk:F8 cx true ⟨dst,.box e x,ty,pos,after,gd⟩ st K)(hf:Fw cx ⟨dst,.box e x,ty,pos,after,gd⟩ st=some (R,w)):Eo cx ⟨dst,.box e x,ty,pos,after,gd⟩ st R w K:=by
 simp only[F8]at hk;obtain⟨d,rfl,e0⟩:=IC hf;cases e0;unfold co at hk;simp only at hk;split at hk
 ·rename_i hd;split at hk
  ·exact hk.elim
  ·rename_i DB;obtain⟨cs,c1,c2,c3⟩:=NQ hk;split at c1
   ·rename_i hm;refine⟨_,some (d,_),c1,fun r o' e=>(by cases e;exact⟨rfl,Ab ..⟩),fun st2 Hz K' h'=>?_⟩;have hx:ev st2.t x=ev st.t x:=Hz.t x (by simp[Op.operands]);simp only[F8,co];rw[Hz.h d (Ab ..),hd,hx];simp only[hm];refine c2 _ ?_;rw[c3 st.h st2.h (fun r hr=>Hz.h r (Ai _ hr))];exact h'
   ·rename_i hm;refine⟨_,some (d,_),c1,fun r o' e=>(by cases e;exact⟨rfl,Ab ..⟩),fun st2 Hz K' h'=>?_⟩;have hx:ev st2.t x=ev st.t x:=Hz.t x (by simp[Op.operands]);simp only[F8,co];rw[Hz.h d (Ab ..),hd,hx];simp only[hm];exact c2 _ h'
 ·exact hk.elim
theorem PS{t n:Nat}{ps:Array (Nat×Operand)}(hk:F8 cx true ⟨dst,.buildSlice t n ps,ty,pos,after,gd⟩ st K)(hf:Fw cx ⟨dst,.buildSlice t n ps,ty,pos,after,gd⟩ st=some (R,w)) :
  Eo cx ⟨dst,.buildSlice t n ps,ty,pos,after,gd⟩ st R w K:=by
 simp only[F8]at hk;obtain⟨d,cU,e0⟩:=IC hf;cases e0;unfold Iz at hk;split at hk
 ·rename_i e he;split at hk
  ·rename_i h1 h2;split at hk
   ·exact hk.elim
   ·rename_i k En;split at hk
    ·rename_i hb;obtain⟨es,q1,q2⟩:=SU hk;obtain⟨d',hd,v,x,q3,q4⟩:=Iq q1;have hd:dst.map (KJ cx)=some d':=hd;have cU:dst.map (KJ cx)=some d:=cU;rw[cU]at hd;cases hd;refine⟨v,some (d,x),q3,fun r o' e=>(by cases e;exact⟨rfl,Ab ..⟩),fun st2 Hz K' h'=>?_⟩;have hx:∀p∈ps.toList,ev st2.t p.2=ev st.t p.2:=fun p hp=>Hz.t p.2 (by
      simp only[Op.operands,List.mem_toArray];exact Ar.2 ⟨p,hp,rfl⟩)
     simp only[F8,Iz,he,h1,h2];split
     ·rename_i e0;rw[En]at e0;cases e0
     ·rw[hb];exact q2 st2.t st2.h (fun r hr=>Hz.h r (Ai _ hr)) hx _ (q4 st2.h (Hz.h d (Ab ..)) K' h')
    ·exact hk.elim
  ·exact hk.elim
 ·exact hk.elim
theorem Ry{t:Nat}{n c:Operand}(hk:F8 cx true ⟨dst,.makeSlice t n c,ty,pos,after,gd⟩ st K)(hf:Fw cx ⟨dst,.makeSlice t n c,ty,pos,after,gd⟩ st=some (R,w)) :
  Eo cx ⟨dst,.makeSlice t n c,ty,pos,after,gd⟩ st R w K:=by
 simp only[F8]at hk;obtain⟨d,cU,e0⟩:=IC hf;cases e0;have hn:∀st2,IY ⟨dst,.makeSlice t n c,ty,pos,after,gd⟩ (d::[]) st st2→ev st2.t n=ev st.t n∧ev st2.t c=ev st.t c:=fun st2 ha=>⟨ha.t n (by simp[Op.operands]),ha.t c (by simp[Op.operands])⟩;unfold JE at hk;split at hk
 ·rename_i e a b h1 h2 h3;split at hk
  ·rename_i h4;split at hk
   ·rename_i h5;split at hk
    ·exact hk.elim
    ·rename_i k En;obtain⟨d',hd,v,x,q3,q4⟩:=Iq hk.2;have hd:dst.map (KJ cx)=some d':=hd;have cU:dst.map (KJ cx)=some d:=cU;rw[cU]at hd;cases hd;refine⟨v,some (d,x),q3,fun r o' e=>(by cases e;exact⟨rfl,Ab ..⟩),fun st2 Hz K' h'=>?_⟩;simp only[F8,JE,(hn st2 Hz).1,(hn st2 Hz).2,h1,h2,h3,h4,h5];split
     ·rename_i e0;rw[En]at e0;cases e0
     ·exact⟨hk.1,q4 st2.h (Hz.h d (Ab ..)) K' h'⟩
   ·exact hk.elim
  ·exact hk.elim
 ·exact hk.elim
theorem Ux{t:Nat}{r:Option Operand}(hk:F8 cx true ⟨dst,.makeMap t r,ty,pos,after,gd⟩ st K)(hf:Fw cx ⟨dst,.makeMap t r,ty,pos,after,gd⟩ st=some (R,w)) :
  Eo cx ⟨dst,.makeMap t r,ty,pos,after,gd⟩ st R w K:=by
 cases r with
 |some r=>exact hk.elim
 |none =>
  simp only[F8]at hk;obtain⟨d,rfl,e0⟩:=IC hf;cases e0;unfold KQ at hk;simp only at hk;split at hk
  ·rename_i hd;split at hk
   ·rename_i h1;split at hk
    ·rename_i h2;split at hk
     ·rename_i h3;refine⟨_,some (d,_),hk,fun r o' e=>(by cases e;exact⟨rfl,Ab ..⟩),fun st2 Hz K' h'=>?_⟩;simp only[F8,KQ];rw[Hz.h d (Ab ..),hd];simp only[h1,h2,h3];exact h'
     ·rename_i h3;refine⟨_,some (d,_),hk,fun r o' e=>(by cases e;exact⟨rfl,Ab ..⟩),fun st2 Hz K' h'=>?_⟩;simp only[F8,KQ];rw[Hz.h d (Ab ..),hd];simp only[h1,h2,h3];exact h'
    ·exact hk.elim
   ·exact hk.elim
  ·exact hk.elim
theorem XM{t:Nat}{p x:Operand}(hk:F8 cx true ⟨dst,.store t p x,ty,pos,after,gd⟩ st K)(hf:Fw cx ⟨dst,.store t p x,ty,pos,after,gd⟩ st=some (R,w)) :
  Eo cx ⟨dst,.store t p x,ty,pos,after,gd⟩ st R w K:=by
 simp only[F8]at hk;have hn:∀st2,IY ⟨dst,.store t p x,ty,pos,after,gd⟩ R st st2→ev st2.t p=ev st.t p∧ev st2.t x=ev st.t x:=fun st2 ha=>⟨ha.t p (by simp[Op.operands]),ha.t x (by simp[Op.operands])⟩;unfold QB at hk;split at hk
 ·exact hk.elim
 ·rename_i DB;obtain⟨cs,c1,c2,c3⟩:=NQ hk;simp only[Fw]at hf;split at hf
  ·rename_i r off hp;split at hf
   ·cases hf
   ·rename_i hm;cases hf;rw[hp]at c1;simp only at c1;split at c1
    ·rename_i F9 hr;obtain⟨HN,LM⟩:=c1;rw[hm]at LM;refine⟨_,some (r,_),LM,fun r o' e=>(by cases e;exact⟨rfl,Ab ..⟩),fun st2 Hz K' h'=>?_⟩;simp only[F8,QB,(hn st2 Hz).1,(hn st2 Hz).2];refine c2 _ ?_;rw[hp];simp only[Hz.h r (Ab ..),hr,hm];exact⟨HN,h'⟩
    ·exact c1.elim
  ·rename_i r n sz i off hp;cases hf;rw[hp]at c1;simp only at c1;split at c1
   ·rename_i GZ es hr;split at c1
    ·rename_i hs;obtain⟨HN,cell,e1,e2,LM⟩:=c1;refine⟨_,some (r,_),LM,fun r o' e=>(by cases e;exact⟨rfl,Ab ..⟩),fun st2 Hz K' h'=>?_⟩;simp only[F8,QB,(hn st2 Hz).1,(hn st2 Hz).2];refine c2 _ ?_;rw[hp];simp only[Hz.h r (Ab ..),hr,hs];refine⟨HN,cell,e1,e2,?_⟩;rw[c3 st.h st2.h (fun r hr=>Hz.h r (Ai _ hr))];exact h'
    ·exact c1.elim
   ·exact c1.elim
  ·cases hf
theorem Rz{t:Nat}{m k x:Operand}(hk:F8 cx true ⟨dst,.mapUpdate t m k x,ty,pos,after,gd⟩ st K)(hf:Fw cx ⟨dst,.mapUpdate t m k x,ty,pos,after,gd⟩ st=some (R,w)) :
  Eo cx ⟨dst,.mapUpdate t m k x,ty,pos,after,gd⟩ st R w K:=by
 simp only[F8]at hk;have hn:∀st2,IY ⟨dst,.mapUpdate t m k x,ty,pos,after,gd⟩ R st st2→ev st2.t m=ev st.t m∧ev st2.t k=ev st.t k∧ev st2.t x=ev st.t x:=fun st2 ha=>⟨ha.t m (by simp[Op.operands]),ha.t k (by simp[Op.operands]),ha.t x (by simp[Op.operands])⟩;simp only[Fw]at hf;split at hf
 ·rename_i r hm;cases hf;unfold Hi at hk;rw[hm]at hk;simp only at hk;split at hk
  ·rename_i sh Cb hr;unfold Kk at hk;split at hk
   ·rename_i kt e h1;split at hk
    ·rename_i uv h2;split at hk
     ·rename_i h3;split at hk
      ·rename_i kx h4;split at hk
       ·rename_i h5;refine⟨_,some (r,_),hk,fun r o' e=>(by cases e;exact⟨rfl,Ab ..⟩),fun st2 Hz K' h'=>?_⟩;obtain⟨n1,n2,n3⟩:=hn st2 Hz;simp only[F8,Hi,n1,n2,n3,hm,Hz.h r (Ab ..),hr,Kk,h1,h2,h3,h4,h5];rw[K5 (h:=st.h) (h2:=st2.h) (fun r hr=>Hz.h r (Ai _ hr))];exact h'
       ·exact hk.elim
      ·exact hk.elim
     ·exact hk.elim
    ·exact hk.elim
   ·exact hk.elim
  ·rename_i sh Cb hr;unfold Kk at hk;split at hk
   ·rename_i kt e h1;split at hk
    ·rename_i uv h2;split at hk
     ·rename_i h3;split at hk
      ·rename_i kx h4;split at hk
       ·rename_i h5;refine⟨_,some (r,_),hk,fun r o' e=>(by cases e;exact⟨rfl,Ab ..⟩),fun st2 Hz K' h'=>?_⟩;obtain⟨n1,n2,n3⟩:=hn st2 Hz;simp only[F8,Hi,n1,n2,n3,hm,Hz.h r (Ab ..),hr,Kk,h1,h2,h3,h4,h5];exact h'
       ·exact hk.elim
      ·exact hk.elim
     ·exact hk.elim
    ·exact hk.elim
   ·exact hk.elim
  ·exact hk.elim
 ·cases hf
theorem bH{A B:(AV→Prop)→Prop}(ha:Gr A)(hb:Gr B):Gr fun K=>A K∨B K:=by
 intro K hk;rcases hk with hk | hk
 ·obtain⟨v,h1,h2⟩:=ha K hk;exact⟨v,h1,fun K' h=>.inl (h2 K' h)⟩
 ·obtain⟨v,h1,h2⟩:=hb K hk;exact⟨v,h1,fun K' h=>.inr (h2 K' h)⟩
theorem Tb{fn:Fn}{first cap:Array Operand}(hk:F8 cx true ⟨dst,.makeFunc fn first cap,ty,pos,after,gd⟩ st K)(hf:Fw cx ⟨dst,.makeFunc fn first cap,ty,pos,after,gd⟩ st=some (R,w)) :
  Eo cx ⟨dst,.makeFunc fn first cap,ty,pos,after,gd⟩ st R w K:=by
 simp only[F8]at hk;simp only[Fw]at hf;cases hf;unfold KP at hk;split at hk
 ·rename_i f h1;refine⟨_,none,hk,fun r o' e=>(by cases e),fun st2 Hz K' h'=>?_⟩;simp only[F8,h1,KP]
  have:cap.toList.map (fun x=>rsv st2.h (ev st2.t x))=cap.toList.map (fun x=>rsv st.h (ev st.t x)):=A8 fun x hx=>by
   rw[Hz.t x (by simp only[Op.operands,Sg];exact .inr (by simpa using hx))];exact jp fun r hr=>Hz.h r (Yw (Ar.2 ⟨x,hx,rfl⟩) r hr)
  rw[this];exact h'
 ·exact hk.elim
end
end Go.Eng
