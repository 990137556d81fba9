/- Lemmas for the claims of this seat, without a condition: part 10 (EngT, EngU, EngV, EngW). -/
import Derived.Test.YtkmnnpmneamgoaaGreatDoorA09
import Derived.Maps.RangeRun
namespace Go.Eng
open Go.ChangeMaps (setBlock)

theorem Uu{w:World}{r:Nat}{o o' : Obj}(h:w.heap[r]?=some o):(setBlock w r o').heap[r]?=some o':=by
 have:=(Bn.1 h).1
 simp[setBlock,this]
theorem TU{w:World}{r k:Nat}{o' : Obj}(h:k≠r):(setBlock w r o').heap[k]?=w.heap[k]?:=by
 simp[setBlock,Ne.symm h]
theorem Nv(w:World)(r:Nat)(o' : Obj):(setBlock w r o').heap.size=w.heap.size:=by simp[setBlock]

theorem O1{α β:Type}{f:α→β}{l:List α}(h:(l.map f).Nodup):l.Nodup:=by
 induction l with
 |nil=>exact Fo
 |cons c l ih =>
  rw[AN,CZ]at h;exact CZ.2 ⟨fun hc=>h.1 (Aq.2 ⟨c,hc,rfl⟩),ih h.2⟩
theorem Vh{α β:Type}{f:α→β}{l:List α}(h:(l.map f).Nodup){i j:Nat}{a b:α}(ha:l[i]?=some a)(hb:l[j]?=some b)(he:f a=f b):i=j:=by
 induction l generalizing i j with
 |nil=>simp at ha
 |cons c l ih =>
  rw[AN,CZ]at h;cases i with
  |zero =>
   cases j with
   |zero=>rfl
   |succ j =>
    simp only[Bj,Br,Eu]at ha hb;exact absurd (Aq.2 ⟨b,Ay hb,by rw[←he,ha]⟩) h.1
  |succ i =>
   cases j with
   |zero =>
    simp only[Bj,Br,Eu]at ha hb;exact absurd (Aq.2 ⟨a,Ay ha,by rw[he,hb]⟩) h.1
   |succ j=>exact Ac (·+1) (ih h.2 ha hb)

open Classical in
theorem PX{Cb:List (Value×AV)}{k:Value}{a b:AV}(h:(k,b)∈Cb):Fa Cb k a=Cb.map fun p=>if p.1=k then(k,a)else p:=AB ⟨b,h⟩
open Classical in
theorem PW{Cb:List (Value×AV)}{k:Value}{a:AV}(h:∀b,(k,b)∉Cb):Fa Cb k a=Cb++[(k,a)]:=Ar (fun⟨b,e⟩=>h b e)

theorem Ve{sh:EL}{es:Array MapEntry}{ck:Nat}{Cb:List (Value×AV)}(f:AV→AV)(h:He sh es ck Cb):He sh es ck (Cb.map fun p=>(p.1,f p.2)):=by
 obtain⟨h1,h2,h3,h4,h5,h6⟩:=h;refine⟨by simp[h1],fun i kv e q1 q2=>?_,fun kv Pn=>?_,?_,h5,h6⟩
 ·rw[AI]at q1;obtain⟨p,q3,rfl⟩:=AQ.1 q1;exact h2 i p e q3 q2
 ·obtain⟨p,hp,rfl⟩:=Aq.1 Pn;exact h3 p hp
 ·rw[BX];exact h4
theorem OV{sh:EL}{es:Array MapEntry}{ck:Nat}{Cb:List (Value×AV)}(h:He sh es ck Cb){x:Value}{a v:AV}{y:Value}{j:Nat}(hj:Cb[j]?=some (x,a)) :
  He sh (es.modify j fun e=>{ e with key:=x,val:=y }) ck (Fa Cb x v) ∧
   ∀(i:Nat) (kv:Value×AV) (e:MapEntry),(Fa Cb x v)[i]?=some kv→(es.modify j fun e=>{ e with key:=x,val:=y })[i]?=some e →
    (kv.2=v∧e.val=y)∨(Cb[i]?=some kv∧es[i]?=some e):=by
 classical
 rw[PX (Ay hj)];obtain⟨h1,h2,h3,h4,h5,h6⟩:=h;have hm:∀i e,(es.modify j fun e=>{ e with key:=x,val:=y })[i]?=some e→∃e0,es[i]?=some e0∧e.born=e0.born∧(if i=j then e.key=x∧e.val=y else e=e0):=by
  intro i e he;rw[Lx]at he;split at he
  ·rename_i e1;subst e1;obtain⟨e0,q1,q2⟩:=AQ.1 he;exact⟨e0,q1,by rw[←q2],by rw[AB rfl,←q2];exact⟨rfl,rfl⟩⟩
  ·rename_i e1;exact⟨e,he,rfl,by rw[Ar (fun q=>e1 q.symm)]⟩
 have hk:∀i kv,(Cb.map fun p=>if p.1=x then(x,v)else p)[i]?=some kv→∃p,Cb[i]?=some p∧kv.1=p.1∧(if i=j then kv.2=v else kv=p):=by
  intro i kv Pn;rw[AI]at Pn;obtain⟨p,q1,q2⟩:=AQ.1 Pn;refine⟨p,q1,?_⟩
  by_cases e:p.1=x
  ·rw[AB e]at q2;subst q2
   have:=Vh h4 q1 hj e
   exact⟨e.symm,by rw[AB this]⟩
  ·rw[Ar e]at q2;subst q2;refine⟨rfl,?_⟩;rw[Ar];intro e2;subst e2;rw[q1]at hj;cases hj;exact e rfl
 have rC:(Cb.map fun p=>if p.1=x then(x,v)else p).map (·.1)=Cb.map (·.1):=by
  rw[BX];apply Ba;intro p _;simp only[Function.comp];split
  ·rename_i e;exact e.symm
  ·rfl
 refine⟨⟨by simp[h1],fun i kv e q1 q2=>?_,fun kv Pn=>?_,by rw[rC];exact h4,fun i e q=>?_,fun i i' e e' q q' hb=>?_⟩,fun i kv e q1 q2=>?_⟩
 ·obtain⟨p,p1,p2,p3⟩:=hk i kv q1;obtain⟨e0,r1,r2,r3⟩:=hm i e q2
  have:=h2 i p e0 p1 r1
  split at r3
  ·rename_i ij;subst ij;rw[hj]at p1;cases p1;rw[r3.1,p2]
  ·rw[r3,p2];exact this
 ·obtain⟨i,hi⟩:=Cg.1 Pn;obtain⟨p,p1,p2,p3⟩:=hk i kv hi;rw[p2];exact h3 p (Ay p1)
 ·obtain⟨e0,r1,r2,_⟩:=hm i e q;rw[r2];exact h5 i e0 r1
 ·obtain⟨e0,r1,r2,_⟩:=hm i e q;obtain⟨e1,s1,s2,_⟩:=hm i' e' q';exact h6 i i' e0 e1 r1 s1 (by rw[←r2,←s2];exact hb)
 ·obtain⟨p,p1,p2,p3⟩:=hk i kv q1;obtain⟨e0,r1,r2,r3⟩:=hm i e q2;split at r3
  ·rename_i ij;rw[AB ij]at p3;exact .inl ⟨p3,r3.2⟩
  ·rename_i ij;rw[Ar ij]at p3;exact .inr ⟨by rw[p3];exact p1,by rw[r3];exact r1⟩

theorem Tp{sh:EL}{es:Array MapEntry}{ck:Nat}{Cb:List (Value×AV)}(h:He sh es ck Cb){x:Value}{v:AV}{y:Value}(hx:Vs sh x=true)(hn:∀a,(x,a)∉Cb) :
  He sh (es.push { key:=x,val:=y,born:=ck }) (ck+1) (Fa Cb x v) ∧
   ∀(i:Nat) (kv:Value×AV) (e:MapEntry),(Fa Cb x v)[i]?=some kv→(es.push { key:=x,val:=y,born:=ck })[i]?=some e →
    (kv.2=v∧e.val=y)∨(Cb[i]?=some kv∧es[i]?=some e):=by
 rw[PW hn];obtain⟨h1,h2,h3,h4,h5,h6⟩:=h;have hm:∀i e,(es.push { key:=x,val:=y,born:=ck })[i]?=some e→(es[i]?=some e∧i<es.size)∨(i=es.size∧e={ key:=x,val:=y,born:=ck }):=by
  intro i e he;rw[Array.getElem?_push]at he;split at he
  ·rename_i q;cases he;exact .inr ⟨q,rfl⟩
  ·exact .inl ⟨he,(Bn.1 he).1⟩
 have hk:∀i kv,(Cb++[(x,v)])[i]?=some kv→(Cb[i]?=some kv∧i<es.size)∨(i=es.size∧kv=(x,v)):=by
  intro i kv Pn;rw[LY]at Pn;split at Pn
  ·rename_i q;exact .inl ⟨Pn,by omega⟩
  ·rename_i q
   have:i-Cb.length=0:=by
    have:=(Aw.1 Pn).1
    simp at this;omega
   rw[this]at Pn;simp at Pn;exact .inr ⟨by omega,Pn.symm⟩
 refine⟨⟨by simp[h1],fun i kv e q1 q2=>?_,fun kv Pn=>?_,?_,fun i e q=>?_,fun i i' e e' q q' hb=>?_⟩,fun i kv e q1 q2=>?_⟩
 ·rcases hk i kv q1 with ⟨p1,p2⟩ | ⟨p1,p2⟩<;>rcases hm i e q2 with ⟨r1,r2⟩ | ⟨r1,r2⟩
  ·exact h2 i kv e p1 r1
  ·omega
  ·omega
  ·rw[p2,r2]
 ·rcases A5.1 Pn with q | q
  ·exact h3 kv q
  ·rw[Au.1 q];exact hx
 ·rw[AA,Gt];refine⟨h4,by simp,fun a ha b hb e=>?_⟩;simp only[AN,Fe,Au]at hb;obtain⟨p,p1,p2⟩:=Aq.1 ha;refine hn p.2 ?_
  have:p=(x,p.2):=by rw[←hb,←e,←p2]
  rw[←this];exact p1
 ·rcases hm i e q with ⟨r1,_⟩ | ⟨_,r2⟩
  ·have:=h5 i e r1;omega
  ·rw[r2];exact LO _
 ·rcases hm i e q with ⟨r1,_⟩ | ⟨r1,r2⟩<;>rcases hm i' e' q' with ⟨s1,_⟩ | ⟨s1,s2⟩
  ·exact h6 i i' e e' r1 s1 hb
  ·have:=h5 i e r1;rw[s2]at hb;dsimp only at hb;omega
  ·have:=h5 i' e' s1;rw[r2]at hb;dsimp only at hb;omega
  ·omega
 ·rcases hk i kv q1 with ⟨p1,p2⟩ | ⟨p1,p2⟩<;>rcases hm i e q2 with ⟨r1,r2⟩ | ⟨r1,r2⟩
  ·exact .inr ⟨p1,r1⟩
  ·omega
  ·omega
  ·exact .inl ⟨by rw[p2],by rw[r2]⟩

section
variable {P:Program}{w0:World}{g0:Gh}{h0 h:Nat→HO}{g:Gh}{w:World}(hI:Dx w0 g0 h0 h g w)
include hI

theorem Dx.swap{r b:Nat}(hl:(h r).live)(ho:g.own r=some b)(hn:∀o,¬g.S b o)(o' : HO){ob:Obj}(hb:w.heap[b]?=some ob)(ob' : Obj)(w1:World)(K4:w1.heap=w.heap∧w1.os=w.os∧w1.tape=w.tape∧w1.output=w.output)(Dy:o'≠.free)
  (Js:J6 g (g.upd r (g.ρ r) (g.ln r) (g.tk r) (g.own r) g.S) (AM h)→E0 g w (g.upd r (g.ρ r) (g.ln r) (g.tk r) (g.own r) g.S) (setBlock w1 b ob')→(setBlock w1 b ob').heap[b]?=some ob' →
   (∀k,k≠b→(setBlock w1 b ob').heap[k]?=w.heap[k]?) →
   Ec (g.upd r (g.ρ r) (g.ln r) (g.tk r) (g.own r) g.S) (setBlock w1 b ob') (AM (AW h r o')) r o') :
  Dx w0 g0 h0 (AW h r o') (g.upd r (g.ρ r) (g.ln r) (g.tk r) (g.own r) g.S) (setBlock w1 b ob')∧Le h g w (AW h r o') (g.upd r (g.ρ r) (g.ln r) (g.tk r) (g.own r) g.S) (setBlock w1 b ob'):=by
 have Dz:=(hI.loc r b hl ho).1;have Fr:(setBlock w1 b ob').heap[b]?=some ob':=Uu (by rw[K4.1];exact hb);have Zp:∀k,k≠b→(setBlock w1 b ob').heap[k]?=w.heap[k]?:=fun k hk=>by rw[TU hk,K4.1]
 refine hI.upd r o' _ _ _ _ _ _ (some b) ⟨K4.2.1,K4.2.2.1,K4.2.2.2,by rw[Nv,K4.1];exact Ao _⟩ (fun k _ Dy=>Zp k (fun e=>Dy (by rw[e]))) (fun b' e=>by cases e;exact⟨hl,ho⟩) (fun _ _ h=>h) (fun _ _ h=>.inl h)
  (fun b' o e hs=>by cases e;exact absurd hs (hn o)) (fun b' _ e=>?_) Dy (fun _=>⟨rfl,Ao _,fun _=>rfl,fun _=>rfl⟩) (fun hg hk=>Js hg hk Fr Zp)
 rw[ho]at e;cases e;exact⟨by rw[Nv,K4.1];exact Dz,.inl ⟨hl,ho⟩⟩

theorem Nq{T:GQ}(hT:Cu P T){ty:Nat}{m k x:AV}{vm vk vx:Value}{K:HK}(hm:BI g w (AM h) m vm)(K3 : BI g w (AM h) k vk)(hx:BI g w (AM h) x vx)(hk:Ha T h ty m k x K) :
  d9 P w0 g0 h0 h g w (Instr.mapUpdate ty vm vk vx) K:=by
 unfold Ha at hk;split at hk
 ·rename_i r;split at hk
  ·rename_i sh Cb e0;obtain⟨kt,e,k1,k2,k3,k4⟩:=MM K3 hk;have ho:=hI.objs r;rw[e0]at ho;obtain⟨t1,b,es,ck,a1,a2,a3,a4,a5,a6⟩:=ho;have hl:(h r).live:=by rw[e0];trivial
   cases hm with
   |mref _ _ b' hu ht hp =>
    rw[a2]at hp;cases hp;have gI:=hT.map k1;have EN:=run_getObj_map (P:=P) w b es ck a3;have NL:∀o',(setObj b o').run P w=.ok () (setBlock w b o'):=fun o'=>by simp[setObj,Sem.run,a3,setBlock]
    have N7:=fun bb=>Mv hT k2 w bb k3;obtain⟨res,r1,r2⟩:=N1 hT k2 w k3 es.toList a4.shape;have jE:=BI.str hI.objs hx;rcases r2 with ⟨rfl,hn⟩ | ⟨j,en,rfl,hj,hkey⟩
    ·obtain⟨m1,m2⟩:=Tp a4 (x:=vk) (v:=str h x) (y:=vx) k3 (fun a=>a4.none hn a);obtain⟨i1,i2⟩:=Dx.swap hI hl a1 a6 (.map sh (Fa Cb vk (str h x))) a3 (.map (es.push { key:=vk,val:=vx,born:=ck }) (ck+1)) w ⟨rfl,rfl,rfl,rfl⟩ (by simp) (fun hg Jb Fr Zp=>by
      obtain⟨u1,u2,u3,u4⟩:=BM g r (g.ρ r) (g.ln r) (g.tk r) (g.own r) g.S;refine⟨u3.trans t1,b,_,_,u4.trans a1,u1.trans a2,Fr,m1,fun i kv e q1 q2=>?_,a6⟩;rcases m2 i kv e q1 q2 with ⟨p1,p2⟩ | ⟨p1,p2⟩
      ·rw[p1,p2];exact jE.mono Jb (fun _ h=>h) (fun _ h=>h.elim)
      ·exact(a5 i kv e p1 p2).mono Jb (fun _ h=>h) (fun _ h=>h.elim))
     refine⟨_,_,_,?_,k4,i1,i2⟩;simp[Instr.mapUpdate,run_underlying gI,EN,N7,r1,NL]
    ·obtain⟨a,q1,q2⟩:=a4.some hj hkey;obtain⟨m1,m2⟩:=OV a4 (x:=vk) (v:=str h x) (y:=vx) q1;obtain⟨i1,i2⟩:=Dx.swap hI hl a1 a6 (.map sh (Fa Cb vk (str h x))) a3 (.map (es.modify j fun e=>{ e with key:=vk,val:=vx }) ck) w ⟨rfl,rfl,rfl,rfl⟩ (by simp) (fun hg Jb Fr Zp=>by
      obtain⟨u1,u2,u3,u4⟩:=BM g r (g.ρ r) (g.ln r) (g.tk r) (g.own r) g.S;refine⟨u3.trans t1,b,_,_,u4.trans a1,u1.trans a2,Fr,m1,fun i kv e q1 q2=>?_,a6⟩;rcases m2 i kv e q1 q2 with ⟨p1,p2⟩ | ⟨p1,p2⟩
      ·rw[p1,p2];exact jE.mono Jb (fun _ h=>h) (fun _ h=>h.elim)
      ·exact(a5 i kv e p1 p2).mono Jb (fun _ h=>h) (fun _ h=>h.elim))
     refine⟨_,_,_,?_,k4,i1,i2⟩;have nX : es[j]?=some en:=by simpa using hj
     have Gy:=Rc (P:=P) w k3;simp[Instr.mapUpdate,run_underlying gI,EN,N7,r1,NL,nX,hkey,Gy]
  ·rename_i sh Cb e0;obtain⟨kt,e,k1,k2,k3,k4⟩:=MM K3 hk;have ho:=hI.objs r;rw[e0]at ho;obtain⟨t1,b,es,ck,a1,a2,a3,a4,a5,a6⟩:=ho;have hl:(h r).live:=by rw[e0];trivial
   cases hm with
   |mref _ _ b' hu ht hp =>
    rw[a2]at hp;cases hp;have gI:=hT.map k1;have EN:=run_getObj_map (P:=P) w b es ck a3;have NL:∀o',(setObj b o').run P w=.ok () (setBlock w b o'):=fun o'=>by simp[setObj,Sem.run,a3,setBlock]
    have N7:=fun bb=>Mv hT k2 w bb k3;obtain⟨res,r1,r2⟩:=N1 hT k2 w k3 es.toList a4.shape;rcases r2 with ⟨rfl,hn⟩ | ⟨j,en,rfl,hj,hkey⟩
    ·obtain⟨m1,m2⟩:=Tp a4 (x:=vk) (v:=x) (y:=vx) k3 (fun a=>a4.none hn a);obtain⟨i1,i2⟩:=Dx.swap hI hl a1 a6 (.mapU sh (Fa Cb vk (x))) a3 (.map (es.push { key:=vk,val:=vx,born:=ck }) (ck+1)) w ⟨rfl,rfl,rfl,rfl⟩ (by simp) (fun hg Jb Fr Zp=>by
      obtain⟨u1,u2,u3,u4⟩:=BM g r (g.ρ r) (g.ln r) (g.tk r) (g.own r) g.S;have KH:∀i,AM h i→AM (AW h r (.mapU sh (Fa Cb vk x))) i:=fun i hi=>DW (by simp) i hi;refine⟨u3.trans t1,b,_,_,u4.trans a1,u1.trans a2,Fr,m1,fun i kv e q1 q2=>?_,a6⟩;rcases m2 i kv e q1 q2 with ⟨p1,p2⟩ | ⟨p1,p2⟩
      ·rw[p1,p2];exact hx.mono Jb KH hg
      ·exact(a5 i kv e p1 p2).mono Jb KH hg)
     refine⟨_,_,_,?_,k4,i1,i2⟩;simp[Instr.mapUpdate,run_underlying gI,EN,N7,r1,NL]
    ·obtain⟨a,q1,q2⟩:=a4.some hj hkey;obtain⟨m1,m2⟩:=OV a4 (x:=vk) (v:=x) (y:=vx) q1;obtain⟨i1,i2⟩:=Dx.swap hI hl a1 a6 (.mapU sh (Fa Cb vk (x))) a3 (.map (es.modify j fun e=>{ e with key:=vk,val:=vx }) ck) w ⟨rfl,rfl,rfl,rfl⟩ (by simp) (fun hg Jb Fr Zp=>by
      obtain⟨u1,u2,u3,u4⟩:=BM g r (g.ρ r) (g.ln r) (g.tk r) (g.own r) g.S;have KH:∀i,AM h i→AM (AW h r (.mapU sh (Fa Cb vk x))) i:=fun i hi=>DW (by simp) i hi;refine⟨u3.trans t1,b,_,_,u4.trans a1,u1.trans a2,Fr,m1,fun i kv e q1 q2=>?_,a6⟩;rcases m2 i kv e q1 q2 with ⟨p1,p2⟩ | ⟨p1,p2⟩
      ·rw[p1,p2];exact hx.mono Jb KH hg
      ·exact(a5 i kv e p1 p2).mono Jb KH hg)
     refine⟨_,_,_,?_,k4,i1,i2⟩;have nX : es[j]?=some en:=by simpa using hj
     have Gy:=Rc (P:=P) w k3;simp[Instr.mapUpdate,run_underlying gI,EN,N7,r1,NL,nX,hkey,Gy]
  ·exact hk.elim
 ·exact hk.elim

theorem NV{d b:Nat}{es:Array MapEntry}{ck:Nat}{sh:EL}{Cb:List (Value×AV)}(hd:h d=.free)(hS:g.S b 0)(hb:w.heap[b]?=some (.map es ck))(hm:He sh es ck Cb)
  (hv:∀(i:Nat) (kv:Value×AV) (e:MapEntry),Cb[i]?=some kv→es[i]?=some e→BI g w Fj kv.2 e.val) :
  ∃g',Dx w0 g0 h0 (AW h d (.iter Cb Cb none)) g' (w.alloc (.mapIter (some b) ck #[] ck))∧Le h g w (AW h d (.iter Cb Cb none)) g' (w.alloc (.mapIter (some b) ck #[] ck)) ∧
   BI g' (w.alloc (.mapIter (some b) ck #[] ck)) (AM (AW h d (.iter Cb Cb none))) (.ref d 0) (.pointer (some ⟨w.heap.size,0,none⟩)):=by
 obtain⟨k1,k2⟩:=hI.newOwn hd (.iter Cb Cb none) (.mapIter (some b) ck #[] ck) (.pointer (some ⟨w.heap.size,0,none⟩)) 0 false w ⟨rfl,rfl,rfl,rfl⟩ (by simp) (fun hg hk=>by
  obtain⟨u1,u2,u3,u4⟩:=BM g d (.pointer (some ⟨w.heap.size,0,none⟩)) 0 false (some w.heap.size) g.S;obtain⟨c1,c2,c3⟩:=hk b 0 hS
  exact⟨u3,w.heap.size,b,ck,#[],ck,es,ck,u4,u1,HF w _ rfl,c1,c3 es ck hb,⟨sh,hm⟩,rfl,rfl,fun i kv e q1 q2=>(hv i kv e q1 q2).mono hk (fun _ h=>h) (fun _ h=>h.elim),
   ⟨O1 hm.2.2.2.1,fun _ h=>h⟩,fun i kv e q1 q2=>by simp[List.mem_of_getElem? q1],trivial,fun o ho=>by have:=hI.slt _ _ ho;omega⟩)
 refine⟨_,k1,k2,.ref _ d 0 w.heap.size (by unfold AM;rw[Bd];simp) ?_ ?_⟩<;>simp[Gh.upd]

theorem QU{r b:Nat}{sh:EL}{Cb:List (Value×AV)}{es:Array MapEntry}{ck:Nat}(e0:h r=.map sh Cb)(a1:g.own r=some b)(a2:g.ρ r=.map (some b))(a3:w.heap[b]?=some (.map es ck))(a4:He sh es ck Cb)
  (a5:∀(i:Nat) (kv:Value×AV) (e:MapEntry),Cb[i]?=some kv→es[i]?=some e→BI g w Fj kv.2 e.val) (t1:g.tk r=false) :
  ∃g',Dx w0 g0 h0 (AW h r (.rom sh Cb)) g' w∧Le h g w (AW h r (.rom sh Cb)) g' w∧g'.S b 0:=by
 have hl:(h r).live:=by rw[e0];trivial
 have Dz:=(hI.loc r b hl a1).1
 obtain⟨k1,k2⟩:=hI.upd r (.rom sh Cb) (g.ρ r) (g.ln r) (g.tk r) none (g.more b 1) w none ⟨rfl,rfl,rfl,Ao _⟩ (fun _ _ _=>rfl) (fun b e=>by cases e) (fun _ _ h=>.inl h)
  (fun b' o hs=>hs.elim .inl (fun hs=>.inr ⟨by rw[hs.1];exact Dz,.inr ⟨hl,by rw[hs.1];exact a1⟩⟩)) (fun b o e=>by cases e) (fun b hh _=>by cases hh) (by simp)
  (fun _=>⟨rfl,Ao _,fun _=>rfl,fun _=>rfl⟩) (fun hg hk=>by
   obtain⟨u1,u2,u3,u4⟩:=BM g r (g.ρ r) (g.ln r) (g.tk r) none (g.more b 1);exact⟨u3.trans t1,b,u1.trans a2,.cmap _ sh Cb b es ck (.inr ⟨rfl,UB⟩) a3 a4 (fun i kv e q1 q2=>(a5 i kv e q1 q2).mono hk (fun _ h=>h) (fun _ h=>h.elim))⟩)
 exact⟨_,k1,k2,.inr ⟨rfl,UB⟩⟩

theorem Wu{r b:Nat}{sh:EL}{Cb:List (Value×AV)}{es:Array MapEntry}{ck:Nat}(e0:h r=.mapU sh Cb)(a1:g.own r=some b)(a2:g.ρ r=.map (some b))(a3:w.heap[b]?=some (.map es ck))(a4:He sh es ck Cb)
  (a5:∀(i:Nat) (kv:Value×AV) (e:MapEntry),Cb[i]?=some kv→es[i]?=some e→BI g w (AM h) kv.2 e.val) (t1:g.tk r=false) :
  ∃g',Dx w0 g0 h0 (AW h r (.rom sh (Rs h Cb))) g' w∧Le h g w (AW h r (.rom sh (Rs h Cb))) g' w∧g'.S b 0:=by
 have hl:(h r).live:=by rw[e0];trivial
 have Dz:=(hI.loc r b hl a1).1
 obtain⟨k1,k2⟩:=hI.upd r (.rom sh (Rs h Cb)) (g.ρ r) (g.ln r) (g.tk r) none (g.more b 1) w none ⟨rfl,rfl,rfl,Ao _⟩ (fun _ _ _=>rfl) (fun b e=>by cases e) (fun _ _ h=>.inl h)
  (fun b' o hs=>hs.elim .inl (fun hs=>.inr ⟨by rw[hs.1];exact Dz,.inr ⟨hl,by rw[hs.1];exact a1⟩⟩)) (fun b o e=>by cases e) (fun b hh _=>by cases hh) (by simp)
  (fun _=>⟨rfl,Ao _,fun _=>rfl,fun _=>rfl⟩) (fun hg hk=>by
   obtain⟨u1,u2,u3,u4⟩:=BM g r (g.ρ r) (g.ln r) (g.tk r) none (g.more b 1);refine⟨u3.trans t1,b,u1.trans a2,.cmap _ sh _ b es ck (.inr ⟨rfl,UB⟩) a3 (Ve _ a4) (fun i kv e q1 q2=>?_)⟩;unfold Rs at q1;rw[AI]at q1;obtain⟨p,q3,rfl⟩:=AQ.1 q1;exact((a5 i p e q3 q2).str hI.objs).mono hk (fun _ h=>h) (fun _ h=>h.elim))
 exact⟨_,k1,k2,.inr ⟨rfl,UB⟩⟩

theorem dD{T:GQ}(hT:Cu P T){ty kt e:Nat}(ht:(T ty).d=.map kt e){d:Option Nat}{x:AV}{vx:Value}{K:HK}(hx:BI g w (AM h) x vx)(hk:ZV d h x K) :
  Ob P w0 g0 h0 h g w (Instr.range ty vx) K:=by
 have hu:=hT.map ht;unfold ZV at hk;split at hk
 ·exact hk.elim
 ·rename_i d;split at hk
  ·rename_i hd;have Dd:∀b es ck,w.heap[b]?=some (.map es ck)→(Instr.range ty (.map (some b))).run P w=.ok (.pointer (some ⟨w.heap.size,0,none⟩)) (w.alloc (.mapIter (some b) ck #[] ck)):=fun b es ck hb=>by
    simp[Instr.range,run_underlying hu,run_getObj_map (P:=P) w b es ck hb]
   split at hk
   ·cases hx with
    |cmap _ _ _ b es ck hS hb hm hv =>
     obtain⟨g',k1,k2,k3⟩:=NV hI hd hS hb hm hv;exact⟨_,_,_,_,_,Dd _ _ _ hb,hk,k1,k2,k3⟩
   ·rename_i r;have ho:=hI.objs r;cases hx with
    |mref _ _ b gI ht' hp =>
     split at hk
     ·rename_i sh Cb e0;rw[e0]at ho;obtain⟨_,b',a1,a2⟩:=ho;rw[a1]at hp;cases hp;cases a2 with
      |cmap _ _ _ _ es ck hS hb hm hv =>
       obtain⟨g',k1,k2,k3⟩:=NV hI hd hS hb hm hv;exact⟨_,_,_,_,_,Dd _ _ _ hb,hk,k1,k2,k3⟩
     ·rename_i sh Cb e0;rw[e0]at ho;obtain⟨t1,b',es,ck,a1,a2,a3,a4,a5,a6⟩:=ho;rw[a2]at hp;cases hp;obtain⟨g1,i1,i2,i3⟩:=QU hI e0 a1 a2 a3 a4 a5 t1;have Dy:d≠r:=fun e=>by rw[e,e0]at hd;cases hd
      obtain⟨g',k1,k2,k3⟩:=NV i1 (by rw[B9 _ _ _ _ Dy];exact hd) i3 a3 a4 (fun i kv e q1 q2=>(a5 i kv e q1 q2).mono i2.keeps (fun _ h=>h) (fun _ h=>h.elim));exact⟨_,_,_,_,_,Dd _ _ _ a3,hk,k1,i2.trans k2,k3⟩
     ·exact hk.elim
   ·exact hk.elim
  ·exact hk.elim

theorem il{ty:TypeId}{x:AV}{vx:Value}{K:HK}(hx:BI g w (AM h) x vx)(hk:ik h x K):Ob P w0 g0 h0 h g w (Instr.next vx false ty) K:=by
 unfold ik at hk;split at hk
 ·rename_i r;split at hk
  ·rename_i all rem F6 e0;have ho:=hI.objs r;rw[e0]at ho;obtain⟨t1,b,mb,J3,seen,st,es,ck,a1,a2,a3,a4,a5,⟨sh,a6⟩,a7,a8,a9,WV,am,a12,mP⟩:=ho;have hl:(h r).live:=by rw[e0];trivial
   cases hx with
   |ref _ _ _ b' hu ht hp =>
    rw[a2]at hp;cases hp;have Dz:∀e∈es.toList,e.born<J3:=fun e he=>by
     obtain⟨i,hi⟩:=Cg.1 he
     have:=a6.2.2.2.2.1 i e (by simpa using hi)
     omega
    rcases run_next_at (P:=P) w ty b mb J3 st seen es ck a3 a5 Dz (by omega)with ⟨q1,q2⟩ | ⟨e,q1,w1,q2,q3⟩
    ·have wQ:rem=[]:=by
      apply LL.2;intro kv Pn;obtain⟨i,hi⟩:=Cg.1 (WV.2 kv Pn);have wm:i<es.size:=by rw[a6.1];exact(Aw.1 hi).1
      have hb:=(am i kv es[i] hi (by simp[wm])).1 Pn;have hm:es[i]∈leftOf es seen:=by simp[leftOf,hb]
      have:=Array.size_pos_of_mem hm
      omega
     exact⟨_,w,g,_,h,q2,hk.1 wQ,hI,.refl _ _ _,.tup _ _ _ rfl (fun i av x h1 h2=>by
      match i,h1,h2 with
      |0,h1,h2=>simp at h1 h2;subst h1;subst h2;exact .v _ _)⟩
    ·have hq:e∈es∧e.born∉seen:=by simpa[leftOf]using q1
     obtain⟨i,hi⟩:=Array.mem_iff_getElem?.1 hq.1;have wm:i<all.length:=by rw[←a6.1];exact(Bn.1 hi).1
     have pq:all[i]?=some all[i]:=AD wm;have YF:=(am i _ e pq hi).2 hq.2;obtain⟨s1,s2,hs⟩:=List.append_of_mem YF;have JU:rem.Perm (all[i]::(s1++s2)):=by rw[hs];exact List.perm_middle
     have MJ:(all[i]::(s1++s2)).Nodup:=JU.nodup_iff.1 WV.1;have hr:=a9 i _ e pq hi;have hkey:=a6.2.1 i _ e pq hi;have K4:w1.heap=w.heap∧w1.os=w.os∧w1.tape=w.tape∧w1.output=w.output:=by rcases q2 with rfl | rfl<;>exact⟨rfl,rfl,rfl,rfl⟩
     obtain⟨k1,k2⟩:=Dx.swap hI hl a1 mP (.iter all (s1++s2) (some all[i])) a3 (.mapIter (some mb) J3 (seen.push e.born) ck) w1 K4 (by simp) (fun hg Jb Fr Zp=>by
      obtain⟨u1,u2,u3,u4⟩:=BM g r (g.ρ r) (g.ln r) (g.tk r) (g.own r) g.S;obtain⟨c1,c2,c3⟩:=Jb mb 0 a4
      refine⟨u3.trans t1,b,mb,J3,_,ck,es,ck,u4.trans a1,u1.trans a2,Fr,c1,c3 _ _ a5,⟨sh,a6⟩,a7,rfl,fun i kv e p q=>(a9 i kv e p q).mono Jb (fun _ h=>h) (fun _ h=>h.elim),
       ⟨(CZ.1 MJ).2,fun kv Pn=>WV.2 kv (JU.mem_iff.2 (Ai _ Pn))⟩,fun j kv e' p q=>?_,⟨i,e,pq,hi,by simp⟩,mP⟩
      rw[Array.mem_push];have h1:=am j kv e' p q;rw[JU.mem_iff,AF]at h1;constructor
      ·intro Pn hc;rcases hc with hc | hc
       ·exact(h1.1 (.inr Pn)) hc
       ·obtain rfl:=a6.2.2.2.2.2 j i e' e q hi hc;rw[pq]at p;cases p;exact(CZ.1 MJ).1 Pn
      ·intro hc;rcases h1.2 (fun hm=>hc (.inl hm))with e2 | e2
       ·have:j=i:=Vh (f:=fun x=>x) (l:=all) (by simpa using O1 a6.2.2.2.1) p pq e2
        subst this;rw[hi]at q;cases q;exact absurd (.inr rfl) hc
       ·exact e2)
     refine⟨_,_,_,_,_,q3,hk.2 all[i] (s1++s2) JU,k1,k2,.tup _ _ _ rfl (fun j av x h1 h2=>?_)⟩
     match j,h1,h2 with
     |0,h1,h2=>simp at h1 h2;subst h1;subst h2;exact .v _ _
     |1,h1,h2=>simp at h1 h2;subst h1;subst h2;rw[hkey];exact .v _ _
     |2,h1,h2=>simp at h1 h2;subst h1;subst h2;exact(hr.up _).le k2
  ·exact hk.elim
 ·exact hk.elim
end
end Go.Eng

namespace Go.Eng

def Gm(F:(AV→Prop)→Prop):Prop:=∀K,F K→∃v,K v∧∀K',K' v→F K'

theorem Dv(v:AV):Gm (fun K=>K v):=fun _ h=>⟨v,h,fun _ h=>h⟩
theorem DH{p:Prop}{F:(AV→Prop)→Prop}(h:Gm F):Gm (fun K=>p∧F K):=fun K ⟨hp,hk⟩ =>
 let ⟨v,h1,h2⟩:=h K hk
 ⟨v,h1,fun K' h'=>⟨hp,h2 K' h'⟩⟩
theorem CD:Gm (fun _=>False):=fun _ h=>h.elim
theorem Vl(p:Prop):Gm (IQ p):=fun K h=>by
 by_cases hp:p
 ·exact⟨_,h.1 hp,fun K' h'=>⟨fun _=>h',fun hn=>absurd hp hn⟩⟩
 ·exact⟨_,h.2 hp,fun K' h'=>⟨fun q=>absurd q hp,fun _=>h'⟩⟩
theorem Yv{F:(AV→Prop)→Prop}(h:Gm F):Gm (fun K=>F (cZ K)):=fun K hk=>by
 obtain⟨v,h1,h2⟩:=h _ hk;unfold cZ at h1;split at h1
 ·exact⟨_,h1,fun K' h'=>h2 _ h'⟩
 ·exact⟨_,h1,fun K' h'=>h2 _ h'⟩
 ·exact h1.elim
theorem MU{α:Type}{F:α→(AV→Prop)→Prop}(h:∀x,Gm (F x)):Gm (fun K=>∃x,F x K):=fun K ⟨x,hk⟩ =>
 let ⟨v,h1,h2⟩:=h x K hk
 ⟨v,h1,fun K' h'=>⟨x,h2 K' h'⟩⟩

theorem Jk(T:GQ)(t:Nat)(cs:List AV):Gm (Mo T t cs):=by
 have head:Gm (Mi cs):=by unfold Mi;cases cs with | nil=>exact CD | cons a _=>exact Dv a
 unfold Mo;split
 ·exact DH (Dv _)
 ·exact DH (Dv _)
 ·cases cs with
  |nil=>exact CD
  |cons a _ =>
   intro K h;simp only[Mi]at h⊢;split at h
   ·rename_i b;cases b with
    |true=>exact⟨_,h.1 rfl,fun K' h'=>⟨fun _=>h',fun e=>by cases e⟩⟩
    |false=>exact⟨_,h.2 rfl,fun K' h'=>⟨fun e=>(by cases e),fun _=>h'⟩⟩
   ·exact h.elim
 ·exact CD
 ·exact head
theorem aZ(T:GQ)(t:Nat)(x y:AV)(hx:∀tk es,x≠.slice tk es):Gm (pn T t x y):=by
 unfold pn
 repeat' split
 all_goals first | exact CD | exact Dv _ | exact Vl _ | exact DH (Dv _) | exact absurd rfl (hx _ _)
theorem ZP(op:BinOp)(k:IntKind)(a b:Int):Gm (Sa op k a b):=by
 unfold Sa
 repeat' split
 all_goals first | exact CD | exact DH (Dv _) | (unfold YS;split<;>first | exact CD | exact Dv _)
theorem iG(T:GQ)(op:BinOp)(t:Nat)(x y:AV)(hx:∀tk es,x≠.slice tk es):Gm (Sd T op t x y):=by
 unfold Sd
 repeat' split
 all_goals first | exact CD | exact Vl _ | exact ZP _ _ _ _ | exact DH (Dv _) | exact aZ _ _ _ _ hx | exact Yv (aZ _ _ _ _ hx)
theorem dy(T:GQ)(op:BinOp)(t:Nat)(Y:Operand)(x y:AV)(hx:∀tk es,x≠.slice tk es):Gm (W3 T op t Y x y):=by
 unfold W3
 repeat' split
 all_goals first | exact CD | exact Dv _ | exact iG _ _ _ _ _ hx
theorem dz(T:GQ)(s t:Nat)(x:AV):Gm (W9 T s t x):=by
 unfold W9
 repeat' split
 all_goals first | exact CD | exact Dv _ | exact DH (Dv _) | exact MU fun _=>DH (Dv _)
theorem ZR(T:GQ)(s f:Nat)(x:AV):Gm (Sy T s f x):=by
 unfold Sy
 repeat' split
 all_goals first | exact CD | exact Dv _
theorem Yt(T:GQ)(s f:Nat)(x:AV):Gm (OA T s f x):=by
 unfold OA
 repeat' split
 all_goals first | exact CD | exact Jk _ _ _
theorem TH(T:GQ)(t:Nat)(x ix:AV):Gm (Jt T t x ix):=by
 unfold Jt
 repeat' split
 all_goals first | exact CD | exact DH (Dv _) | exact MU fun _=>DH (DH (Dv _))
theorem ZS(T:GQ)(t:Nat)(x ix:AV):Gm (Ta T t x ix):=by
 unfold Ta
 repeat' split
 all_goals first | exact CD | exact DH (Jk _ _ _) | exact MU fun _=>DH (Dv _)
theorem WA(x:AV)(i:Nat):Gm (Mb x i):=by
 unfold Mb
 repeat' split
 all_goals first | exact CD | exact Dv _
theorem iI(x:AV):Gm (KM x):=by
 unfold KM
 repeat' split
 all_goals first | exact CD | exact Dv _
theorem dA(c a b:AV):Gm (Yr c a b):=by
 unfold Yr
 repeat' split
 all_goals first | exact CD | exact Dv _
theorem lA(f:Int→Int→Int)(x y:AV):Gm (lh f x y):=by
 unfold lh
 repeat' split
 all_goals first | exact CD | exact Dv _
theorem dB(op:UnOp)(x:AV):Gm (YA op x):=by
 unfold YA
 repeat' split
 all_goals first | exact CD | exact Yv (Dv _) | exact DH (Dv _)
def l6{α:Type}(F:(α→Prop)→Prop):Prop:=∀K,F K→∃v,K v∧∀K',K' v→F K'
theorem Ys(n:Nat)(a:AV):l6 (G8 n a):=by
 intro K h;unfold G8 at h⊢
 repeat' split at h
 all_goals first | exact h.elim | skip
 all_goals exact⟨_,h,fun K' h'=>h'⟩
theorem TF(pl:Nat→Option (Nat×Nat))(t:Nat→AV):∀(ps:List (Nat×Operand)) (cs:List AV),l6 (KD pl cs t ps)
 | [],cs=>fun K h=>⟨cs,h,fun _ h=>h⟩
 |(i,x)::r,cs=>by
  intro K h;unfold KD at h;split at h
  ·exact h.elim
  ·rename_i o n e;obtain⟨vs,h1,h2⟩:=Ys _ _ _ h;split at h1
   ·rename_i hb;obtain⟨c,h3,h4⟩:=TF pl t r _ _ h1;refine⟨c,h3,fun K' h'=>?_⟩;unfold KD;simp only[e];refine h2 _ ?_;simp only[hb];exact h4 K' h'
   ·exact h1.elim
theorem ZQ(T:GQ)(ty:Nat)(t:Nat→AV)(ps:List (Nat×Operand)):Gm (Pw T ty t ps):=by
 unfold Pw
 repeat' split
 all_goals first
  |exact CD
  |exact fun K h=>let ⟨c,h1,h2⟩:=TF _ _ _ _ _ h;⟨_,h1,fun K' h'=>h2 _ h'⟩
end Go.Eng

namespace Go.Eng

def yI(h:Nat→HO)(e:Option (Nat×HO)):Nat→HO:=match e with | none=>h | some (r,o)=>AW h r o
structure IM(o:Oper)(R:List Nat)(st st2:St):Prop where
 t:∀x∈o.op.operands,ev st2.t x=ev st.t x
 h:∀r∈R,st2.h r=st.h r
def Ei(cx:Cx)(o:Oper)(st:St)(R:List Nat)(w:Option Nat)(K:HK):Prop :=
 ∃v e,K v (yI st.h e)∧(∀r o',e=some (r,o')→w=some r∧r∈R)∧∀st2,IM o R st st2→∀K' : HK,K' v (yI st2.h e)→F5 cx true o st2 K'

def RS(w:Option Nat)(r:Nat):Prop:=match w with | none=>False | some x=>x=r∨(10000000≤x∧(x % 10000000=r∨x / 10000000=r))∨x=VU
def H9(h:Nat→HO):List (Nat×HO)→Nat→HO
 | []=>h
 |p::l=>H9 (AW h p.1 p.2) l
def Ru(cx:Cx)(o:Oper)(st:St)(R:List Nat)(w:Option Nat)(K:HK):Prop :=
 ∃v e,K v (H9 st.h e)∧(∀r o',(r,o')∈e→RS w r∧r∈R)∧∀st2,IM o R st st2→∀K' : HK,K' v (H9 st2.h e)→F5 cx true o st2 K'

section
variable {cx:Cx}{o:Oper}{st:St}{R:List Nat}{w:Option Nat}{K:HK}
theorem Ei.pick{F:(AV→Prop)→Prop}(hF:Gm F)(h:F fun v=>K v st.h)(h2:∀st2,IM o R st st2→∀K' : HK,F (fun v=>K' v st2.h)→F5 cx true o st2 K'):Ei cx o st R w K :=
 let ⟨v,h1,h3⟩:=hF _ h
 ⟨v,none,h1,fun _ _ e=>(by cases e),fun st2 ha K' hk=>h2 st2 ha K' (h3 _ hk)⟩

theorem X8{cs:List AV}{a:AV}(h:a∈cs):∀r∈Uo a,r∈kQ cs:=by
 induction cs with
 |nil=>cases h
 |cons c cs ih =>
  intro r hr;rcases AF.1 h with rfl | h
  ·exact Bz _ hr
  ·exact Bp _ (ih h r hr)
theorem hJ{cs:List AV}{a:AV}(h:a∈cs):∀r∈Up a,r∈ol cs:=by
 induction cs with
 |nil=>cases h
 |cons c cs ih =>
  intro r hr;rcases AF.1 h with rfl | h
  ·exact Bz _ hr
  ·exact Bp _ (ih h r hr)
theorem X7{cs:List AV}{a:AV}(h:a∈cs):∀r∈WR a,r∈SX cs:=by
 induction cs with
 |nil=>cases h
 |cons c cs ih =>
  intro r hr;rcases AF.1 h with rfl | h
  ·exact Bz _ hr
  ·exact Bp _ (ih h r hr)
theorem U3(a:AV):∀r∈Uo a,r∈Up a:=by cases a<;>simp[Uo,Up]
theorem Qn{h h2:Nat→HO}{a:AV}(e:∀r∈Uo a,h2 r=h r):str0 h2 a=str0 h a:=by
 cases a<;>simp only[str0]
 ·rw[e _ (by simp[Uo])]
 ·rw[e _ (by simp[Uo])]
theorem Vz{h h2:Nat→HO}{a:AV}(e:∀r∈Up a,h2 r=h r):str h2 a=str h a:=by
 cases a with
 |agg cs=>simp only[str];exact Ac _ (Ba fun c hc=>Qn fun r hr=>e r (X8 hc r hr))
 |clo f cs=>simp only[str];exact Ac _ (Ba fun c hc=>Qn fun r hr=>e r (X8 hc r hr))
 |_=>exact Qn (fun r hr=>e r (U3 _ r hr))
theorem gL(a:AV):∀r∈Up a,r∈WR a:=by
 cases a with
 |agg cs =>
  intro r hr;simp only[WR,Up]at *
  induction cs with
  |nil=>exact hr
  |cons c cs ih =>
   rcases A5.1 hr with h | h
   ·exact Bz _ (U3 c r h)
   ·exact Bp _ (ih h)
 |_=>exact fun r hr=>hr
theorem KX{h h2:Nat→HO}{a:AV}(e:∀r∈WR a,h2 r=h r):str h2 a=str h a:=Vz fun r hr=>e r (gL a r hr)
theorem Qo{h h2:Nat→HO}{l:List AV}(e:∀r∈SX l,h2 r=h r):l.map (str h2)=l.map (str h) :=
 Ba fun _ ha=>KX fun r hr=>e r (X7 ha r hr)
theorem iX{h h2:Nat→HO}{a:AV}(e:∀r∈WR a,h2 r=h r):rsv h2 a=rsv h a:=by
 cases a<;>simp only[rsv]
 ·rw[e _ (by simp[WR,Up,Uo])]
 ·rw[e _ (by simp[WR,Up,Uo])]
theorem NF{n:Nat}{a:AV}{K:List AV→Prop}(hk:G8 n a K):∃cs,K cs∧(∀K' : List AV→Prop,K' cs→G8 n a K')∧∀h h2:Nat→HO,(∀r∈WR a,h2 r=h r)→cs.map (str h2)=cs.map (str h):=by
 have single:K [a]→(∀K' : List AV→Prop,K' [a]→G8 n a K')→∃cs,K cs∧(∀K' : List AV→Prop,K' cs→G8 n a K')∧∀h h2:Nat→HO,(∀r∈WR a,h2 r=h r)→cs.map (str h2)=cs.map (str h) :=
  fun h1 h2=>⟨[a],h1,h2,fun h h2 e=>by simp[KX e]⟩
 unfold G8 at hk;split at hk
 ·rename_i cs;split at hk
  ·rename_i hn;refine⟨cs,hk,fun K' h=>by unfold G8;simp only[hn];exact h,fun h h2 e=>Ba fun c hc=>Vz fun r hr=>e r (hJ hc r hr)⟩
  ·exact hk.elim
 ·rename_i nZ;split at hk
  ·rename_i h1;split at hk
   ·refine single hk fun K' h=>?_;unfold G8;split
    ·rename_i cs;exact absurd rfl (nZ cs)
    ·rw[h1];exact h
   ·exact hk.elim
  ·exact hk.elim

theorem Sz{n sz:Nat}{t:Nat→AV}:∀{ps:List (Nat×Operand)} {es:List (List AV)} {h:Nat→HO} {K:List (List AV)→Prop},QH n sz h es t ps K →
  ∃EM,K EM∧∀(t2:Nat→AV) (h2:Nat→HO),(∀r∈SX (ps.map fun p=>ev t p.2),h2 r=h r)→(∀p∈ps,ev t2 p.2=ev t p.2)→∀K' : List (List AV)→Prop,K' EM→QH n sz h2 es t2 ps K'
 | [],es,h,K,hk=>⟨es,hk,fun _ _ _ _ _ h=>h⟩
 |(i,x)::r,es,h,K,hk=>by
  unfold QH at hk;split at hk
  ·rename_i hb;obtain⟨cs,c1,c2,c3⟩:=NF hk;obtain⟨EM,e1,e2⟩:=Sz c1;refine⟨EM,e1,fun t2 h2 hh ht K' K3=>?_⟩;unfold QH;rw[hb,ht (i,x) (Ab ..)];refine c2 _ ?_;rw[c3 h h2 (fun r hr=>hh r (Bz _ hr))];exact e2 t2 h2 (fun r hr=>hh r (Bp _ hr)) (fun p hp=>ht p (Ai _ hp)) K' K3
  ·exact hk.elim
theorem Ih{d:Option Nat}{h:Nat→HO}{sz:Nat}{es:List (List AV)}(hk:EF cx d h sz es K) :
  ∃d',d.map (KB cx)=some d'∧∃v x,K v (AW h d' x)∧∀h2:Nat→HO,h2 d'=h d'→∀K' : HK,K' v (AW h2 d' x)→EF cx d h2 sz es K':=by
 unfold EF at hk;split at hk
 ·exact hk.elim
 ·rename_i d;split at hk
  ·rename_i hd;split at hk
   ·rename_i e;exact⟨KB cx d,rfl,_,_,hk,fun h2 hh K' h'=>by unfold EF;simp only[hh,hd,e];exact h'⟩
   ·rename_i e;exact⟨KB cx d,rfl,_,_,hk,fun h2 hh K' h'=>by unfold EF;simp only[hh,hd,e];exact h'⟩
  ·exact hk.elim
theorem Y6{h:Nat→HO}{x:AV}{K:List (List AV)→Prop}(hk:Ld h x K):∃es,K es∧∀h2:Nat→HO,(∀r n,x=.msl r n→h2 r=h r)→∀K' : List (List AV)→Prop,K' es→Ld h2 x K':=by
 unfold Ld at hk;split at hk
 ·exact⟨_,hk,fun _ _ K' h=>h⟩
 ·exact⟨_,hk,fun _ _ K' h=>h⟩
 ·rename_i r n;split at hk
  ·rename_i sz es e;exact⟨_,hk.2,fun h2 hh K' h=>by unfold Ld;simp only[hh r n rfl,e];exact⟨hk.1,h⟩⟩
  ·exact hk.elim
 ·exact hk.elim
end
end Go.Eng

namespace Go.Eng

section
variable {cx:Cx}{dst:Option Nat}{ty:Nat}{pos:String}{after:Array Edge}{gd:Option (Nat×Bool)}{st:St}{R:List Nat}{w:Option Nat}{K:HK}

theorem Is{d:Option Nat}{l:List Nat}{f:FE}(h:Ir d l=some f):∃d',d=some d'∧f=(d' :: l,some d'):=by
 unfold Ir at h;cases d with
 |none=>cases h
 |some d=>cases h;exact⟨d,rfl,rfl⟩

theorem Xp{e:Nat}(hk:F5 cx true ⟨dst,.alloc e,ty,pos,after,gd⟩ st K)(hf:Fq cx ⟨dst,.alloc e,ty,pos,after,gd⟩ st=some (R,w)):Ei cx ⟨dst,.alloc e,ty,pos,after,gd⟩ st R w K:=by
 simp only[F5]at hk;obtain⟨d,rfl,e0⟩:=Is hf;cases e0;unfold RX at hk;simp only at hk;split at hk
 ·rename_i hd;split at hk
  ·exact hk.elim
  ·rename_i Dy;split at hk
   ·rename_i ha;refine⟨_,some (d,_),hk,fun r o' e=>(by cases e;exact⟨rfl,Ab ..⟩),fun st2 Hr K' h'=>?_⟩;simp only[F5,RX];rw[Hr.h d (Ab ..),hd];simp only[ha];exact h'
   ·exact hk.elim
 ·exact hk.elim
theorem cb{e:Nat}{x:Operand}(hk:F5 cx true ⟨dst,.box e x,ty,pos,after,gd⟩ st K)(hf:Fq cx ⟨dst,.box e x,ty,pos,after,gd⟩ st=some (R,w)):Ei cx ⟨dst,.box e x,ty,pos,after,gd⟩ st R w K:=by
 simp only[F5]at hk;obtain⟨d,rfl,e0⟩:=Is hf;cases e0;unfold bL at hk;simp only at hk;split at hk
 ·rename_i hd;split at hk
  ·exact hk.elim
  ·rename_i Dy;obtain⟨cs,c1,c2,c3⟩:=NF hk;split at c1
   ·rename_i hm;refine⟨_,some (d,_),c1,fun r o' e=>(by cases e;exact⟨rfl,Ab ..⟩),fun st2 Hr K' h'=>?_⟩;have hx:ev st2.t x=ev st.t x:=Hr.t x (by simp[Op.operands]);simp only[F5,bL];rw[Hr.h d (Ab ..),hd,hx];simp only[hm];refine c2 _ ?_;rw[c3 st.h st2.h (fun r hr=>Hr.h r (Ai _ hr))];exact h'
   ·rename_i hm;refine⟨_,some (d,_),c1,fun r o' e=>(by cases e;exact⟨rfl,Ab ..⟩),fun st2 Hr K' h'=>?_⟩;have hx:ev st2.t x=ev st.t x:=Hr.t x (by simp[Op.operands]);simp only[F5,bL];rw[Hr.h d (Ab ..),hd,hx];simp only[hm];exact c2 _ h'
 ·exact hk.elim
theorem PI{t n:Nat}{ps:Array (Nat×Operand)}(hk:F5 cx true ⟨dst,.buildSlice t n ps,ty,pos,after,gd⟩ st K)(hf:Fq cx ⟨dst,.buildSlice t n ps,ty,pos,after,gd⟩ st=some (R,w)) :
  Ei cx ⟨dst,.buildSlice t n ps,ty,pos,after,gd⟩ st R w K:=by
 simp only[F5]at hk;obtain⟨d,cl,e0⟩:=Is hf;cases e0;unfold Ip at hk;split at hk
 ·rename_i e he;split at hk
  ·rename_i h1 h2;split at hk
   ·exact hk.elim
   ·rename_i k Ed;split at hk
    ·rename_i hb;obtain⟨es,q1,q2⟩:=Sz hk;obtain⟨d',hd,v,x,q3,q4⟩:=Ih q1;have hd:dst.map (KB cx)=some d':=hd;have cl:dst.map (KB cx)=some d:=cl;rw[cl]at hd;cases hd;refine⟨v,some (d,x),q3,fun r o' e=>(by cases e;exact⟨rfl,Ab ..⟩),fun st2 Hr K' h'=>?_⟩;have hx:∀p∈ps.toList,ev st2.t p.2=ev st.t p.2:=fun p hp=>Hr.t p.2 (by
      simp only[Op.operands,List.mem_toArray];exact Aq.2 ⟨p,hp,rfl⟩)
     simp only[F5,Ip,he,h1,h2];split
     ·rename_i e0;rw[Ed]at e0;cases e0
     ·rw[hb];exact q2 st2.t st2.h (fun r hr=>Hr.h r (Ai _ hr)) hx _ (q4 st2.h (Hr.h d (Ab ..)) K' h')
    ·exact hk.elim
  ·exact hk.elim
 ·exact hk.elim
theorem Rh{t:Nat}{n c:Operand}(hk:F5 cx true ⟨dst,.makeSlice t n c,ty,pos,after,gd⟩ st K)(hf:Fq cx ⟨dst,.makeSlice t n c,ty,pos,after,gd⟩ st=some (R,w)) :
  Ei cx ⟨dst,.makeSlice t n c,ty,pos,after,gd⟩ st R w K:=by
 simp only[F5]at hk;obtain⟨d,cl,e0⟩:=Is hf;cases e0;have hn:∀st2,IM ⟨dst,.makeSlice t n c,ty,pos,after,gd⟩ (d::[]) st st2→ev st2.t n=ev st.t n∧ev st2.t c=ev st.t c:=fun st2 ha=>⟨ha.t n (by simp[Op.operands]),ha.t c (by simp[Op.operands])⟩;unfold Jw at hk;split at hk
 ·rename_i e a b h1 h2 h3;split at hk
  ·rename_i h4;split at hk
   ·rename_i h5;split at hk
    ·exact hk.elim
    ·rename_i k Ed;obtain⟨d',hd,v,x,q3,q4⟩:=Ih hk.2;have hd:dst.map (KB cx)=some d':=hd;have cl:dst.map (KB cx)=some d:=cl;rw[cl]at hd;cases hd;refine⟨v,some (d,x),q3,fun r o' e=>(by cases e;exact⟨rfl,Ab ..⟩),fun st2 Hr K' h'=>?_⟩;simp only[F5,Jw,(hn st2 Hr).1,(hn st2 Hr).2,h1,h2,h3,h4,h5];split
     ·rename_i e0;rw[Ed]at e0;cases e0
     ·exact⟨hk.1,q4 st2.h (Hr.h d (Ab ..)) K' h'⟩
   ·exact hk.elim
  ·exact hk.elim
 ·exact hk.elim
theorem Uh{t:Nat}{r:Option Operand}(hk:F5 cx true ⟨dst,.makeMap t r,ty,pos,after,gd⟩ st K)(hf:Fq cx ⟨dst,.makeMap t r,ty,pos,after,gd⟩ st=some (R,w)) :
  Ei cx ⟨dst,.makeMap t r,ty,pos,after,gd⟩ st R w K:=by
 cases r with
 |some r=>exact hk.elim
 |none =>
  simp only[F5]at hk;obtain⟨d,rfl,e0⟩:=Is hf;cases e0;unfold KK at hk;simp only at hk;split at hk
  ·rename_i hd;split at hk
   ·rename_i h1;split at hk
    ·rename_i h2;split at hk
     ·rename_i h3;refine⟨_,some (d,_),hk,fun r o' e=>(by cases e;exact⟨rfl,Ab ..⟩),fun st2 Hr K' h'=>?_⟩;simp only[F5,KK];rw[Hr.h d (Ab ..),hd];simp only[h1,h2,h3];exact h'
     ·rename_i h3;refine⟨_,some (d,_),hk,fun r o' e=>(by cases e;exact⟨rfl,Ab ..⟩),fun st2 Hr K' h'=>?_⟩;simp only[F5,KK];rw[Hr.h d (Ab ..),hd];simp only[h1,h2,h3];exact h'
    ·exact hk.elim
   ·exact hk.elim
  ·exact hk.elim
theorem Xq{t:Nat}{p x:Operand}(hk:F5 cx true ⟨dst,.store t p x,ty,pos,after,gd⟩ st K)(hf:Fq cx ⟨dst,.store t p x,ty,pos,after,gd⟩ st=some (R,w)) :
  Ei cx ⟨dst,.store t p x,ty,pos,after,gd⟩ st R w K:=by
 simp only[F5]at hk;have hn:∀st2,IM ⟨dst,.store t p x,ty,pos,after,gd⟩ R st st2→ev st2.t p=ev st.t p∧ev st2.t x=ev st.t x:=fun st2 ha=>⟨ha.t p (by simp[Op.operands]),ha.t x (by simp[Op.operands])⟩;unfold Qm at hk;split at hk
 ·exact hk.elim
 ·rename_i Dy;obtain⟨cs,c1,c2,c3⟩:=NF hk;simp only[Fq]at hf;split at hf
  ·rename_i r off hp;split at hf
   ·cases hf
   ·rename_i hm;cases hf;rw[hp]at c1;simp only at c1;split at c1
    ·rename_i F6 hr;obtain⟨Hs,K3⟩:=c1;rw[hm]at K3;refine⟨_,some (r,_),K3,fun r o' e=>(by cases e;exact⟨rfl,Ab ..⟩),fun st2 Hr K' h'=>?_⟩;simp only[F5,Qm,(hn st2 Hr).1,(hn st2 Hr).2];refine c2 _ ?_;rw[hp];simp only[Hr.h r (Ab ..),hr,hm];exact⟨Hs,h'⟩
    ·exact c1.elim
  ·rename_i r n sz i off hp;cases hf;rw[hp]at c1;simp only at c1;split at c1
   ·rename_i GW es hr;split at c1
    ·rename_i hs;obtain⟨Hs,cell,e1,e2,K3⟩:=c1;refine⟨_,some (r,_),K3,fun r o' e=>(by cases e;exact⟨rfl,Ab ..⟩),fun st2 Hr K' h'=>?_⟩;simp only[F5,Qm,(hn st2 Hr).1,(hn st2 Hr).2];refine c2 _ ?_;rw[hp];simp only[Hr.h r (Ab ..),hr,hs];refine⟨Hs,cell,e1,e2,?_⟩;rw[c3 st.h st2.h (fun r hr=>Hr.h r (Ai _ hr))];exact h'
    ·exact c1.elim
   ·exact c1.elim
  ·cases hf
theorem Ri{t:Nat}{m k x:Operand}(hk:F5 cx true ⟨dst,.mapUpdate t m k x,ty,pos,after,gd⟩ st K)(hf:Fq cx ⟨dst,.mapUpdate t m k x,ty,pos,after,gd⟩ st=some (R,w)) :
  Ei cx ⟨dst,.mapUpdate t m k x,ty,pos,after,gd⟩ st R w K:=by
 simp only[F5]at hk;have hn:∀st2,IM ⟨dst,.mapUpdate t m k x,ty,pos,after,gd⟩ R st st2→ev st2.t m=ev st.t m∧ev st2.t k=ev st.t k∧ev st2.t x=ev st.t x:=fun st2 ha=>⟨ha.t m (by simp[Op.operands]),ha.t k (by simp[Op.operands]),ha.t x (by simp[Op.operands])⟩;simp only[Fq]at hf;split at hf
 ·rename_i r hm;cases hf;unfold Ha at hk;rw[hm]at hk;simp only at hk;split at hk
  ·rename_i sh Cb hr;unfold Ke at hk;split at hk
   ·rename_i kt e h1;split at hk
    ·rename_i tO h2;split at hk
     ·rename_i h3;split at hk
      ·rename_i kx h4;split at hk
       ·rename_i h5;refine⟨_,some (r,_),hk,fun r o' e=>(by cases e;exact⟨rfl,Ab ..⟩),fun st2 Hr K' h'=>?_⟩;obtain⟨n1,n2,n3⟩:=hn st2 Hr;simp only[F5,Ha,n1,n2,n3,hm,Hr.h r (Ab ..),hr,Ke,h1,h2,h3,h4,h5];rw[KX (h:=st.h) (h2:=st2.h) (fun r hr=>Hr.h r (Ai _ hr))];exact h'
       ·exact hk.elim
      ·exact hk.elim
     ·exact hk.elim
    ·exact hk.elim
   ·exact hk.elim
  ·rename_i sh Cb hr;unfold Ke at hk;split at hk
   ·rename_i kt e h1;split at hk
    ·rename_i tO h2;split at hk
     ·rename_i h3;split at hk
      ·rename_i kx h4;split at hk
       ·rename_i h5;refine⟨_,some (r,_),hk,fun r o' e=>(by cases e;exact⟨rfl,Ab ..⟩),fun st2 Hr K' h'=>?_⟩;obtain⟨n1,n2,n3⟩:=hn st2 Hr;simp only[F5,Ha,n1,n2,n3,hm,Hr.h r (Ab ..),hr,Ke,h1,h2,h3,h4,h5];exact h'
       ·exact hk.elim
      ·exact hk.elim
     ·exact hk.elim
    ·exact hk.elim
   ·exact hk.elim
  ·exact hk.elim
 ·cases hf
theorem bc{A B:(AV→Prop)→Prop}(ha:Gm A)(hb:Gm B):Gm fun K=>A K∨B K:=by
 intro K hk;rcases hk with hk | hk
 ·obtain⟨v,h1,h2⟩:=ha K hk;exact⟨v,h1,fun K' h=>.inl (h2 K' h)⟩
 ·obtain⟨v,h1,h2⟩:=hb K hk;exact⟨v,h1,fun K' h=>.inr (h2 K' h)⟩
theorem SI{fn:Fn}{first cap:Array Operand}(hk:F5 cx true ⟨dst,.makeFunc fn first cap,ty,pos,after,gd⟩ st K)(hf:Fq cx ⟨dst,.makeFunc fn first cap,ty,pos,after,gd⟩ st=some (R,w)) :
  Ei cx ⟨dst,.makeFunc fn first cap,ty,pos,after,gd⟩ st R w K:=by
 simp only[F5]at hk;simp only[Fq]at hf;cases hf;unfold KJ at hk;split at hk
 ·rename_i f h1;refine⟨_,none,hk,fun r o' e=>(by cases e),fun st2 Hr K' h'=>?_⟩;simp only[F5,h1,KJ]
  have:cap.toList.map (fun x=>rsv st2.h (ev st2.t x))=cap.toList.map (fun x=>rsv st.h (ev st.t x)):=Ba fun x hx=>by
   rw[Hr.t x (by simp only[Op.operands,RQ];exact .inr (by simpa using hx))];exact iX fun r hr=>Hr.h r (X7 (Aq.2 ⟨x,hx,rfl⟩) r hr)
  rw[this];exact h'
 ·exact hk.elim
end
end Go.Eng
