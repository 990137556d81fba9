/- Lemmas for the claims of this seat, without a condition: part 10 (EngT, EngU, EngV, EngW). -/
import Derived.Test.YtddfphmpfnmknaaGreatDoorCA09
import Derived.Maps.RangeRun
namespace Go.Eng
open Go.ChangeMaps (setBlock)
theorem Ui{w:World}{r:Nat}{o o' : Obj}(h:w.heap[r]?=some o):(setBlock w r o').heap[r]?=some o':=by
 have:=(Bl.1 h).1
 simp[setBlock,this]
theorem TC{w:World}{r k:Nat}{o' : Obj}(h:k≠r):(setBlock w r o').heap[k]?=w.heap[k]?:=by
 simp[setBlock,Ne.symm h]
theorem Nk(w:World)(r:Nat)(o' : Obj):(setBlock w r o').heap.size=w.heap.size:=by simp[setBlock]
theorem OR{α β:Type}{f:α→β}{l:List α}(h:(l.map f).Nodup):l.Nodup:=by
 induction l with
 |nil=>exact E9
 |cons c l ih =>
  rw[AH,CI]at h;exact CI.2 ⟨fun hc=>h.1 (Aj.2 ⟨c,hc,rfl⟩),ih h.2⟩
theorem U7{α β:Type}{f:α→β}{l:List α}(h:(l.map f).Nodup){i j:Nat}{a b:α}(ha:l[i]?=some a)(hb:l[j]?=some b)(he:f a=f b):i=j:=by
 induction l generalizing i j with
 |nil=>simp at ha
 |cons c l ih =>
  rw[AH,CI]at h;cases i with
  |zero =>
   cases j with
   |zero=>rfl
   |succ j =>
    simp only[A5,Bh,GH]at ha hb;exact absurd (Aj.2 ⟨b,Ar hb,by rw[←he,ha]⟩) h.1
  |succ i =>
   cases j with
   |zero =>
    simp only[A5,Bh,GH]at ha hb;exact absurd (Aj.2 ⟨a,Ar ha,by rw[he,hb]⟩) h.1
   |succ j=>exact Ac (·+1) (ih h.2 ha hb)
open Classical in
theorem PJ{BW:List (Value×AV)}{k:Value}{a b:AV}(h:(k,b)∈BW):ET BW k a=BW.map fun p=>if p.1=k then(k,a)else p:=Ao ⟨b,h⟩
open Classical in
theorem KB{BW:List (Value×AV)}{k:Value}{a:AV}(h:∀b,(k,b)∉BW):ET BW k a=BW++[(k,a)]:=Ah (fun⟨b,e⟩=>h b e)
theorem U4{sh:EG}{es:Array MapEntry}{ck:Nat}{BW:List (Value×AV)}(f:AV→AV)(h:G3 sh es ck BW):G3 sh es ck (BW.map fun p=>(p.1,f p.2)):=by
 obtain⟨h1,h2,h3,h4,h5,h6⟩:=h;refine⟨by simp[h1],fun i kv e q1 q2=>?_,fun kv Pl=>?_,?_,h5,h6⟩
 ·rw[AF]at q1;obtain⟨p,q3,rfl⟩:=AS.1 q1;exact h2 i p e q3 q2
 ·obtain⟨p,hp,rfl⟩:=Aj.1 Pl;exact h3 p hp
 ·rw[BB];exact h4
theorem OM{sh:EG}{es:Array MapEntry}{ck:Nat}{BW:List (Value×AV)}(h:G3 sh es ck BW){x:Value}{a v:AV}{y:Value}{j:Nat}(hj:BW[j]?=some (x,a)) :
  G3 sh (es.modify j fun e=>{ e with key:=x,val:=y }) ck (ET BW x v) ∧
   ∀(i:Nat) (kv:Value×AV) (e:MapEntry),(ET BW x v)[i]?=some kv→(es.modify j fun e=>{ e with key:=x,val:=y })[i]?=some e →
    (kv.2=v∧e.val=y)∨(BW[i]?=some kv∧es[i]?=some e):=by
 classical
 rw[PJ (Ar hj)];obtain⟨h1,h2,h3,h4,h5,h6⟩:=h;have hm:∀i e,(es.modify j fun e=>{ e with key:=x,val:=y })[i]?=some e→∃e0,es[i]?=some e0∧e.born=e0.born∧(if i=j then e.key=x∧e.val=y else e=e0):=by
  intro i e he;rw[Array.getElem?_modify]at he;split at he
  ·rename_i e1;subst e1;obtain⟨e0,q1,q2⟩:=AS.1 he;exact⟨e0,q1,by rw[←q2],by rw[Ao rfl,←q2];exact⟨rfl,rfl⟩⟩
  ·rename_i e1;exact⟨e,he,rfl,by rw[Ah (fun q=>e1 q.symm)]⟩
 have hk:∀i kv,(BW.map fun p=>if p.1=x then(x,v)else p)[i]?=some kv→∃p,BW[i]?=some p∧kv.1=p.1∧(if i=j then kv.2=v else kv=p):=by
  intro i kv Pl;rw[AF]at Pl;obtain⟨p,q1,q2⟩:=AS.1 Pl;refine⟨p,q1,?_⟩
  by_cases e:p.1=x
  ·rw[Ao e]at q2;subst q2
   have:=U7 h4 q1 hj e
   exact⟨e.symm,by rw[Ao this]⟩
  ·rw[Ah e]at q2;subst q2;refine⟨rfl,?_⟩;rw[Ah];intro e2;subst e2;rw[q1]at hj;cases hj;exact e rfl
 have qG:(BW.map fun p=>if p.1=x then(x,v)else p).map (·.1)=BW.map (·.1):=by
  rw[BB];apply A9;intro p _;simp only[Function.comp];split
  ·rename_i e;exact e.symm
  ·rfl
 refine⟨⟨by simp[h1],fun i kv e q1 q2=>?_,fun kv Pl=>?_,by rw[qG];exact h4,fun i e q=>?_,fun i i' e e' q q' hb=>?_⟩,fun i kv e q1 q2=>?_⟩
 ·obtain⟨p,p1,p2,p3⟩:=hk i kv q1;obtain⟨e0,r1,r2,r3⟩:=hm i e q2
  have:=h2 i p e0 p1 r1
  split at r3
  ·rename_i ij;subst ij;rw[hj]at p1;cases p1;rw[r3.1,p2]
  ·rw[r3,p2];exact this
 ·obtain⟨i,hi⟩:=B5.1 Pl;obtain⟨p,p1,p2,p3⟩:=hk i kv hi;rw[p2];exact h3 p (Ar p1)
 ·obtain⟨e0,r1,r2,_⟩:=hm i e q;rw[r2];exact h5 i e0 r1
 ·obtain⟨e0,r1,r2,_⟩:=hm i e q;obtain⟨e1,s1,s2,_⟩:=hm i' e' q';exact h6 i i' e0 e1 r1 s1 (by rw[←r2,←s2];exact hb)
 ·obtain⟨p,p1,p2,p3⟩:=hk i kv q1;obtain⟨e0,r1,r2,r3⟩:=hm i e q2;split at r3
  ·rename_i ij;rw[Ao ij]at p3;exact .inl ⟨p3,r3.2⟩
  ·rename_i ij;rw[Ah ij]at p3;exact .inr ⟨by rw[p3];exact p1,by rw[r3];exact r1⟩
theorem Tc{sh:EG}{es:Array MapEntry}{ck:Nat}{BW:List (Value×AV)}(h:G3 sh es ck BW){x:Value}{v:AV}{y:Value}(hx:Ve sh x=true)(hn:∀a,(x,a)∉BW) :
  G3 sh (es.push { key:=x,val:=y,born:=ck }) (ck+1) (ET BW x v) ∧
   ∀(i:Nat) (kv:Value×AV) (e:MapEntry),(ET BW x v)[i]?=some kv→(es.push { key:=x,val:=y,born:=ck })[i]?=some e →
    (kv.2=v∧e.val=y)∨(BW[i]?=some kv∧es[i]?=some e):=by
 rw[KB hn];obtain⟨h1,h2,h3,h4,h5,h6⟩:=h;have hm:∀i e,(es.push { key:=x,val:=y,born:=ck })[i]?=some e→(es[i]?=some e∧i<es.size)∨(i=es.size∧e={ key:=x,val:=y,born:=ck }):=by
  intro i e he;rw[Array.getElem?_push]at he;split at he
  ·rename_i q;cases he;exact .inr ⟨q,rfl⟩
  ·exact .inl ⟨he,(Bl.1 he).1⟩
 have hk:∀i kv,(BW++[(x,v)])[i]?=some kv→(BW[i]?=some kv∧i<es.size)∨(i=es.size∧kv=(x,v)):=by
  intro i kv Pl;rw[LK]at Pl;split at Pl
  ·rename_i q;exact .inl ⟨Pl,by omega⟩
  ·rename_i q
   have:i-BW.length=0:=by
    have:=(Ap.1 Pl).1
    simp at this;omega
   rw[this]at Pl;simp at Pl;exact .inr ⟨by omega,Pl.symm⟩
 refine⟨⟨by simp[h1],fun i kv e q1 q2=>?_,fun kv Pl=>?_,?_,fun i e q=>?_,fun i i' e e' q q' hb=>?_⟩,fun i kv e q1 q2=>?_⟩
 ·rcases hk i kv q1 with ⟨p1,p2⟩ | ⟨p1,p2⟩<;>rcases hm i e q2 with ⟨r1,r2⟩ | ⟨r1,r2⟩
  ·exact h2 i kv e p1 r1
  ·omega
  ·omega
  ·rw[p2,r2]
 ·rcases AU.1 Pl with q | q
  ·exact h3 kv q
  ·rw[Am.1 q];exact hx
 ·rw[Ax,Gc];refine⟨h4,by simp,fun a ha b hb e=>?_⟩;simp only[AH,E1,Am]at hb;obtain⟨p,p1,p2⟩:=Aj.1 ha;refine hn p.2 ?_
  have:p=(x,p.2):=by rw[←hb,←e,←p2]
  rw[←this];exact p1
 ·rcases hm i e q with ⟨r1,_⟩ | ⟨_,r2⟩
  ·have:=h5 i e r1;omega
  ·rw[r2];exact LB _
 ·rcases hm i e q with ⟨r1,_⟩ | ⟨r1,r2⟩<;>rcases hm i' e' q' with ⟨s1,_⟩ | ⟨s1,s2⟩
  ·exact h6 i i' e e' r1 s1 hb
  ·have:=h5 i e r1;rw[s2]at hb;dsimp only at hb;omega
  ·have:=h5 i' e' s1;rw[r2]at hb;dsimp only at hb;omega
  ·omega
 ·rcases hk i kv q1 with ⟨p1,p2⟩ | ⟨p1,p2⟩<;>rcases hm i e q2 with ⟨r1,r2⟩ | ⟨r1,r2⟩
  ·exact .inr ⟨p1,r1⟩
  ·omega
  ·omega
  ·exact .inl ⟨by rw[p2],by rw[r2]⟩
section
variable {P:Program}{w0:World}{g0:Gh}{h0 h:Nat→HO}{g:Gh}{w:World}(hI:DA w0 g0 h0 h g w)
include hI
theorem DA.swap{r b:Nat}(hl:(h r).live)(ho:g.own r=some b)(hn:∀o,¬g.S b o)(o' : HO){ob:Obj}(hb:w.heap[b]?=some ob)(aE : Obj)(w1:World)(KP:w1.heap=w.heap∧w1.os=w.os∧w1.tape=w.tape∧w1.output=w.output)(Dr:o'≠.free)
  (Je:JY g (g.upd r (g.ρ r) (g.ln r) (g.tk r) (g.own r) g.S) (AP h)→EE g w (g.upd r (g.ρ r) (g.ln r) (g.tk r) (g.own r) g.S) (setBlock w1 b aE)→(setBlock w1 b aE).heap[b]?=some aE →
   (∀k,k≠b→(setBlock w1 b aE).heap[k]?=w.heap[k]?) →
   D8 (g.upd r (g.ρ r) (g.ln r) (g.tk r) (g.own r) g.S) (setBlock w1 b aE) (AP (AR h r o')) r o') :
  DA w0 g0 h0 (AR h r o') (g.upd r (g.ρ r) (g.ln r) (g.tk r) (g.own r) g.S) (setBlock w1 b aE)∧Le h g w (AR h r o') (g.upd r (g.ρ r) (g.ln r) (g.tk r) (g.own r) g.S) (setBlock w1 b aE):=by
 have Dz:=(hI.loc r b hl ho).1;have ES:(setBlock w1 b aE).heap[b]?=some aE:=Ui (by rw[KP.1];exact hb);have Y7:∀k,k≠b→(setBlock w1 b aE).heap[k]?=w.heap[k]?:=fun k hk=>by rw[TC hk,KP.1]
 refine hI.upd r o' _ _ _ _ _ _ (some b) ⟨KP.2.1,KP.2.2.1,KP.2.2.2,by rw[Nk,KP.1];exact Al _⟩ (fun k _ Dr=>Y7 k (fun e=>Dr (by rw[e]))) (fun b' e=>by cases e;exact⟨hl,ho⟩) (fun _ _ h=>h) (fun _ _ h=>.inl h)
  (fun b' o e hs=>by cases e;exact absurd hs (hn o)) (fun b' _ e=>?_) Dr (fun _=>⟨rfl,Al _,fun _=>rfl,fun _=>rfl⟩) (fun hg hk=>Je hg hk ES Y7)
 rw[ho]at e;cases e;exact⟨by rw[Nk,KP.1];exact Dz,.inl ⟨hl,ho⟩⟩
theorem Nb{T:Gr}(hT:Ck P T){ty:Nat}{m k x:AV}{vm vk vx:Value}{K:HK}(hm:BD g w (AP h) m vm)(J6 : BD g w (AP h) k vk)(hx:BD g w (AP h) x vx)(hk:GW T h ty m k x K) :
  dN P w0 g0 h0 h g w (Instr.mapUpdate ty vm vk vx) K:=by
 unfold GW at hk;split at hk
 ·rename_i r;split at hk
  ·rename_i sh BW e0;obtain⟨kt,e,k1,k2,k3,k4⟩:=MD J6 hk;have ho:=hI.objs r;rw[e0]at ho;obtain⟨t1,b,es,ck,a1,a2,a3,a4,a5,a6⟩:=ho;have hl:(h r).live:=by rw[e0];trivial
   cases hm with
   |mref _ _ b' hu ht hp =>
    rw[a2]at hp;cases hp;have fR:=hT.map k1;have Fc:=run_getObj_map (P:=P) w b es ck a3;have ND:∀o',(setObj b o').run P w=.ok () (setBlock w b o'):=fun o'=>by simp[setObj,Sem.run,a3,setBlock]
    have TS:=fun bb=>Ml hT k2 w bb k3;obtain⟨res,r1,r2⟩:=NU hT k2 w k3 es.toList a4.shape;have i7:=BD.str hI.objs hx;rcases r2 with ⟨rfl,hn⟩ | ⟨j,en,rfl,hj,hkey⟩
    ·obtain⟨m1,m2⟩:=Tc a4 (x:=vk) (v:=str h x) (y:=vx) k3 (fun a=>a4.none hn a);obtain⟨i1,i2⟩:=DA.swap hI hl a1 a6 (.map sh (ET BW vk (str h x))) a3 (.map (es.push { key:=vk,val:=vx,born:=ck }) (ck+1)) w ⟨rfl,rfl,rfl,rfl⟩ (by simp) (fun hg HT ES Y7=>by
      obtain⟨u1,u2,u3,u4⟩:=Bw g r (g.ρ r) (g.ln r) (g.tk r) (g.own r) g.S;refine⟨u3.trans t1,b,_,_,u4.trans a1,u1.trans a2,ES,m1,fun i kv e q1 q2=>?_,a6⟩;rcases m2 i kv e q1 q2 with ⟨p1,p2⟩ | ⟨p1,p2⟩
      ·rw[p1,p2];exact i7.mono HT (fun _ h=>h) (fun _ h=>h.elim)
      ·exact(a5 i kv e p1 p2).mono HT (fun _ h=>h) (fun _ h=>h.elim))
     refine⟨_,_,_,?_,k4,i1,i2⟩;simp[Instr.mapUpdate,run_underlying fR,Fc,TS,r1,ND]
    ·obtain⟨a,q1,q2⟩:=a4.some hj hkey;obtain⟨m1,m2⟩:=OM a4 (x:=vk) (v:=str h x) (y:=vx) q1;obtain⟨i1,i2⟩:=DA.swap hI hl a1 a6 (.map sh (ET BW vk (str h x))) a3 (.map (es.modify j fun e=>{ e with key:=vk,val:=vx }) ck) w ⟨rfl,rfl,rfl,rfl⟩ (by simp) (fun hg HT ES Y7=>by
      obtain⟨u1,u2,u3,u4⟩:=Bw g r (g.ρ r) (g.ln r) (g.tk r) (g.own r) g.S;refine⟨u3.trans t1,b,_,_,u4.trans a1,u1.trans a2,ES,m1,fun i kv e q1 q2=>?_,a6⟩;rcases m2 i kv e q1 q2 with ⟨p1,p2⟩ | ⟨p1,p2⟩
      ·rw[p1,p2];exact i7.mono HT (fun _ h=>h) (fun _ h=>h.elim)
      ·exact(a5 i kv e p1 p2).mono HT (fun _ h=>h) (fun _ h=>h.elim))
     refine⟨_,_,_,?_,k4,i1,i2⟩;have nw : es[j]?=some en:=by simpa using hj
     have Jf:=QT (P:=P) w k3;simp[Instr.mapUpdate,run_underlying fR,Fc,TS,r1,ND,nw,hkey,Jf]
  ·rename_i sh BW e0;obtain⟨kt,e,k1,k2,k3,k4⟩:=MD J6 hk;have ho:=hI.objs r;rw[e0]at ho;obtain⟨t1,b,es,ck,a1,a2,a3,a4,a5,a6⟩:=ho;have hl:(h r).live:=by rw[e0];trivial
   cases hm with
   |mref _ _ b' hu ht hp =>
    rw[a2]at hp;cases hp;have fR:=hT.map k1;have Fc:=run_getObj_map (P:=P) w b es ck a3;have ND:∀o',(setObj b o').run P w=.ok () (setBlock w b o'):=fun o'=>by simp[setObj,Sem.run,a3,setBlock]
    have TS:=fun bb=>Ml hT k2 w bb k3;obtain⟨res,r1,r2⟩:=NU hT k2 w k3 es.toList a4.shape;rcases r2 with ⟨rfl,hn⟩ | ⟨j,en,rfl,hj,hkey⟩
    ·obtain⟨m1,m2⟩:=Tc a4 (x:=vk) (v:=x) (y:=vx) k3 (fun a=>a4.none hn a);obtain⟨i1,i2⟩:=DA.swap hI hl a1 a6 (.mapU sh (ET BW vk (x))) a3 (.map (es.push { key:=vk,val:=vx,born:=ck }) (ck+1)) w ⟨rfl,rfl,rfl,rfl⟩ (by simp) (fun hg HT ES Y7=>by
      obtain⟨u1,u2,u3,u4⟩:=Bw g r (g.ρ r) (g.ln r) (g.tk r) (g.own r) g.S;have Kf:∀i,AP h i→AP (AR h r (.mapU sh (ET BW vk x))) i:=fun i hi=>DJ (by simp) i hi;refine⟨u3.trans t1,b,_,_,u4.trans a1,u1.trans a2,ES,m1,fun i kv e q1 q2=>?_,a6⟩;rcases m2 i kv e q1 q2 with ⟨p1,p2⟩ | ⟨p1,p2⟩
      ·rw[p1,p2];exact hx.mono HT Kf hg
      ·exact(a5 i kv e p1 p2).mono HT Kf hg)
     refine⟨_,_,_,?_,k4,i1,i2⟩;simp[Instr.mapUpdate,run_underlying fR,Fc,TS,r1,ND]
    ·obtain⟨a,q1,q2⟩:=a4.some hj hkey;obtain⟨m1,m2⟩:=OM a4 (x:=vk) (v:=x) (y:=vx) q1;obtain⟨i1,i2⟩:=DA.swap hI hl a1 a6 (.mapU sh (ET BW vk (x))) a3 (.map (es.modify j fun e=>{ e with key:=vk,val:=vx }) ck) w ⟨rfl,rfl,rfl,rfl⟩ (by simp) (fun hg HT ES Y7=>by
      obtain⟨u1,u2,u3,u4⟩:=Bw g r (g.ρ r) (g.ln r) (g.tk r) (g.own r) g.S;have Kf:∀i,AP h i→AP (AR h r (.mapU sh (ET BW vk x))) i:=fun i hi=>DJ (by simp) i hi;refine⟨u3.trans t1,b,_,_,u4.trans a1,u1.trans a2,ES,m1,fun i kv e q1 q2=>?_,a6⟩;rcases m2 i kv e q1 q2 with ⟨p1,p2⟩ | ⟨p1,p2⟩
      ·rw[p1,p2];exact hx.mono HT Kf hg
      ·exact(a5 i kv e p1 p2).mono HT Kf hg)
     refine⟨_,_,_,?_,k4,i1,i2⟩;have nw : es[j]?=some en:=by simpa using hj
     have Jf:=QT (P:=P) w k3;simp[Instr.mapUpdate,run_underlying fR,Fc,TS,r1,ND,nw,hkey,Jf]
  ·exact hk.elim
 ·exact hk.elim
theorem NP{d b:Nat}{es:Array MapEntry}{ck:Nat}{sh:EG}{BW:List (Value×AV)}(hd:h d=.free)(hS:g.S b 0)(hb:w.heap[b]?=some (.map es ck))(hm:G3 sh es ck BW)
  (hv:∀(i:Nat) (kv:Value×AV) (e:MapEntry),BW[i]?=some kv→es[i]?=some e→BD g w Fg kv.2 e.val) :
  ∃g',DA w0 g0 h0 (AR h d (.iter BW BW none)) g' (w.alloc (.mapIter (some b) ck #[] ck))∧Le h g w (AR h d (.iter BW BW none)) g' (w.alloc (.mapIter (some b) ck #[] ck)) ∧
   BD g' (w.alloc (.mapIter (some b) ck #[] ck)) (AP (AR h d (.iter BW BW none))) (.ref d 0) (.pointer (some ⟨w.heap.size,0,none⟩)):=by
 obtain⟨k1,k2⟩:=hI.newOwn hd (.iter BW BW none) (.mapIter (some b) ck #[] ck) (.pointer (some ⟨w.heap.size,0,none⟩)) 0 false w ⟨rfl,rfl,rfl,rfl⟩ (by simp) (fun hg hk=>by
  obtain⟨u1,u2,u3,u4⟩:=Bw g d (.pointer (some ⟨w.heap.size,0,none⟩)) 0 false (some w.heap.size) g.S;obtain⟨c1,c2,c3⟩:=hk b 0 hS
  exact⟨u3,w.heap.size,b,ck,#[],ck,es,ck,u4,u1,Hw w _ rfl,c1,c3 es ck hb,⟨sh,hm⟩,rfl,rfl,fun i kv e q1 q2=>(hv i kv e q1 q2).mono hk (fun _ h=>h) (fun _ h=>h.elim),
   ⟨OR hm.2.2.2.1,fun _ h=>h⟩,fun i kv e q1 q2=>by simp[List.mem_of_getElem? q1],trivial,fun o ho=>by have:=hI.slt _ _ ho;omega⟩)
 refine⟨_,k1,k2,.ref _ d 0 w.heap.size (by unfold AP;rw[A8];simp) ?_ ?_⟩<;>simp[Gh.upd]
theorem QK{r b:Nat}{sh:EG}{BW:List (Value×AV)}{es:Array MapEntry}{ck:Nat}(e0:h r=.map sh BW)(a1:g.own r=some b)(a2:g.ρ r=.map (some b))(a3:w.heap[b]?=some (.map es ck))(a4:G3 sh es ck BW)
  (a5:∀(i:Nat) (kv:Value×AV) (e:MapEntry),BW[i]?=some kv→es[i]?=some e→BD g w Fg kv.2 e.val) (t1:g.tk r=false) :
  ∃g',DA w0 g0 h0 (AR h r (.rom sh BW)) g' w∧Le h g w (AR h r (.rom sh BW)) g' w∧g'.S b 0:=by
 have hl:(h r).live:=by rw[e0];trivial
 have Dz:=(hI.loc r b hl a1).1
 obtain⟨k1,k2⟩:=hI.upd r (.rom sh BW) (g.ρ r) (g.ln r) (g.tk r) none (g.more b 1) w none ⟨rfl,rfl,rfl,Al _⟩ (fun _ _ _=>rfl) (fun b e=>by cases e) (fun _ _ h=>.inl h)
  (fun b' o hs=>hs.elim .inl (fun hs=>.inr ⟨by rw[hs.1];exact Dz,.inr ⟨hl,by rw[hs.1];exact a1⟩⟩)) (fun b o e=>by cases e) (fun b hh _=>by cases hh) (by simp)
  (fun _=>⟨rfl,Al _,fun _=>rfl,fun _=>rfl⟩) (fun hg hk=>by
   obtain⟨u1,u2,u3,u4⟩:=Bw g r (g.ρ r) (g.ln r) (g.tk r) none (g.more b 1);exact⟨u3.trans t1,b,u1.trans a2,.cmap _ sh BW b es ck (.inr ⟨rfl,Uo⟩) a3 a4 (fun i kv e q1 q2=>(a5 i kv e q1 q2).mono hk (fun _ h=>h) (fun _ h=>h.elim))⟩)
 exact⟨_,k1,k2,.inr ⟨rfl,Uo⟩⟩
theorem Wo{r b:Nat}{sh:EG}{BW:List (Value×AV)}{es:Array MapEntry}{ck:Nat}(e0:h r=.mapU sh BW)(a1:g.own r=some b)(a2:g.ρ r=.map (some b))(a3:w.heap[b]?=some (.map es ck))(a4:G3 sh es ck BW)
  (a5:∀(i:Nat) (kv:Value×AV) (e:MapEntry),BW[i]?=some kv→es[i]?=some e→BD g w (AP h) kv.2 e.val) (t1:g.tk r=false) :
  ∃g',DA w0 g0 h0 (AR h r (.rom sh (Rg h BW))) g' w∧Le h g w (AR h r (.rom sh (Rg h BW))) g' w∧g'.S b 0:=by
 have hl:(h r).live:=by rw[e0];trivial
 have Dz:=(hI.loc r b hl a1).1
 obtain⟨k1,k2⟩:=hI.upd r (.rom sh (Rg h BW)) (g.ρ r) (g.ln r) (g.tk r) none (g.more b 1) w none ⟨rfl,rfl,rfl,Al _⟩ (fun _ _ _=>rfl) (fun b e=>by cases e) (fun _ _ h=>.inl h)
  (fun b' o hs=>hs.elim .inl (fun hs=>.inr ⟨by rw[hs.1];exact Dz,.inr ⟨hl,by rw[hs.1];exact a1⟩⟩)) (fun b o e=>by cases e) (fun b hh _=>by cases hh) (by simp)
  (fun _=>⟨rfl,Al _,fun _=>rfl,fun _=>rfl⟩) (fun hg hk=>by
   obtain⟨u1,u2,u3,u4⟩:=Bw g r (g.ρ r) (g.ln r) (g.tk r) none (g.more b 1);refine⟨u3.trans t1,b,u1.trans a2,.cmap _ sh _ b es ck (.inr ⟨rfl,Uo⟩) a3 (U4 _ a4) (fun i kv e q1 q2=>?_)⟩;unfold Rg at q1;rw[AF]at q1;obtain⟨p,q3,rfl⟩:=AS.1 q1;exact((a5 i p e q3 q2).str hI.objs).mono hk (fun _ h=>h) (fun _ h=>h.elim))
 exact⟨_,k1,k2,.inr ⟨rfl,Uo⟩⟩
theorem df{T:Gr}(hT:Ck P T){ty kt e:Nat}(ht:(T ty).d=.map kt e){d:Option Nat}{x:AV}{vx:Value}{K:HK}(hx:BD g w (AP h) x vx)(hk:Zy d h x K) :
  N1 P w0 g0 h0 h g w (Instr.range ty vx) K:=by
 have hu:=hT.map ht;unfold Zy at hk;split at hk
 ·exact hk.elim
 ·rename_i d;split at hk
  ·rename_i hd;have CB:∀b es ck,w.heap[b]?=some (.map es ck)→(Instr.range ty (.map (some b))).run P w=.ok (.pointer (some ⟨w.heap.size,0,none⟩)) (w.alloc (.mapIter (some b) ck #[] ck)):=fun b es ck hb=>by
    simp[Instr.range,run_underlying hu,run_getObj_map (P:=P) w b es ck hb]
   split at hk
   ·cases hx with
    |cmap _ _ _ b es ck hS hb hm hv =>
     obtain⟨g',k1,k2,k3⟩:=NP hI hd hS hb hm hv;exact⟨_,_,_,_,_,CB _ _ _ hb,hk,k1,k2,k3⟩
   ·rename_i r;have ho:=hI.objs r;cases hx with
    |mref _ _ b fR ht' hp =>
     split at hk
     ·rename_i sh BW e0;rw[e0]at ho;obtain⟨_,b',a1,a2⟩:=ho;rw[a1]at hp;cases hp;cases a2 with
      |cmap _ _ _ _ es ck hS hb hm hv =>
       obtain⟨g',k1,k2,k3⟩:=NP hI hd hS hb hm hv;exact⟨_,_,_,_,_,CB _ _ _ hb,hk,k1,k2,k3⟩
     ·rename_i sh BW e0;rw[e0]at ho;obtain⟨t1,b',es,ck,a1,a2,a3,a4,a5,a6⟩:=ho;rw[a2]at hp;cases hp;obtain⟨g1,i1,i2,i3⟩:=QK hI e0 a1 a2 a3 a4 a5 t1;have Dr:d≠r:=fun e=>by rw[e,e0]at hd;cases hd
      obtain⟨g',k1,k2,k3⟩:=NP i1 (by rw[BT _ _ _ _ Dr];exact hd) i3 a3 a4 (fun i kv e q1 q2=>(a5 i kv e q1 q2).mono i2.keeps (fun _ h=>h) (fun _ h=>h.elim));exact⟨_,_,_,_,_,CB _ _ _ a3,hk,k1,i2.trans k2,k3⟩
     ·exact hk.elim
   ·exact hk.elim
  ·exact hk.elim
theorem gF{ty:TypeId}{x:AV}{vx:Value}{K:HK}(hx:BD g w (AP h) x vx)(hk:gE h x K):N1 P w0 g0 h0 h g w (Instr.next vx false ty) K:=by
 unfold gE at hk;split at hk
 ·rename_i r;split at hk
  ·rename_i all rem Fx e0;have ho:=hI.objs r;rw[e0]at ho;obtain⟨t1,b,mb,JU,seen,st,es,ck,a1,a2,a3,a4,a5,⟨sh,a6⟩,a7,a8,a9,WQ,ZM,a12,mq⟩:=ho;have hl:(h r).live:=by rw[e0];trivial
   cases hx with
   |ref _ _ _ b' hu ht hp =>
    rw[a2]at hp;cases hp;have Dz:∀e∈es.toList,e.born<JU:=fun e he=>by
     obtain⟨i,hi⟩:=B5.1 he
     have:=a6.2.2.2.2.1 i e (by simpa using hi)
     omega
    rcases run_next_at (P:=P) w ty b mb JU st seen es ck a3 a5 Dz (by omega)with ⟨q1,q2⟩ | ⟨e,q1,w1,q2,q3⟩
    ·have vv:rem=[]:=by
      apply Lz.2;intro kv Pl;obtain⟨i,hi⟩:=B5.1 (WQ.2 kv Pl);have uT:i<es.size:=by rw[a6.1];exact(Ap.1 hi).1
      have hb:=(ZM i kv es[i] hi (by simp[uT])).1 Pl;have hm:es[i]∈leftOf es seen:=by simp[leftOf,hb]
      have:=Array.size_pos_of_mem hm
      omega
     exact⟨_,w,g,_,h,q2,hk.1 vv,hI,.refl _ _ _,.tup _ _ _ rfl (fun i av x h1 h2=>by
      match i,h1,h2 with
      |0,h1,h2=>simp at h1 h2;subst h1;subst h2;exact .v _ _)⟩
    ·have hq:e∈es∧e.born∉seen:=by simpa[leftOf]using q1
     obtain⟨i,hi⟩:=Array.mem_iff_getElem?.1 hq.1;have uT:i<all.length:=by rw[←a6.1];exact(Bl.1 hi).1
     have oV:all[i]?=some all[i]:=At uT;have iW:=(ZM i _ e oV hi).2 hq.2;obtain⟨s1,s2,hs⟩:=List.append_of_mem iW;have IM:rem.Perm (all[i]::(s1++s2)):=by rw[hs];exact List.perm_middle
     have Rb:(all[i]::(s1++s2)).Nodup:=IM.nodup_iff.1 WQ.1;have hr:=a9 i _ e oV hi;have hkey:=a6.2.1 i _ e oV hi;have KP:w1.heap=w.heap∧w1.os=w.os∧w1.tape=w.tape∧w1.output=w.output:=by rcases q2 with rfl | rfl<;>exact⟨rfl,rfl,rfl,rfl⟩
     obtain⟨k1,k2⟩:=DA.swap hI hl a1 mq (.iter all (s1++s2) (some all[i])) a3 (.mapIter (some mb) JU (seen.push e.born) ck) w1 KP (by simp) (fun hg HT ES Y7=>by
      obtain⟨u1,u2,u3,u4⟩:=Bw g r (g.ρ r) (g.ln r) (g.tk r) (g.own r) g.S;obtain⟨c1,c2,c3⟩:=HT mb 0 a4
      refine⟨u3.trans t1,b,mb,JU,_,ck,es,ck,u4.trans a1,u1.trans a2,ES,c1,c3 _ _ a5,⟨sh,a6⟩,a7,rfl,fun i kv e p q=>(a9 i kv e p q).mono HT (fun _ h=>h) (fun _ h=>h.elim),
       ⟨(CI.1 Rb).2,fun kv Pl=>WQ.2 kv (IM.mem_iff.2 (Ag _ Pl))⟩,fun j kv e' p q=>?_,⟨i,e,oV,hi,by simp⟩,mq⟩
      rw[Array.mem_push];have h1:=ZM j kv e' p q;rw[IM.mem_iff,Av]at h1;constructor
      ·intro Pl hc;rcases hc with hc | hc
       ·exact(h1.1 (.inr Pl)) hc
       ·obtain rfl:=a6.2.2.2.2.2 j i e' e q hi hc;rw[oV]at p;cases p;exact(CI.1 Rb).1 Pl
      ·intro hc;rcases h1.2 (fun hm=>hc (.inl hm))with e2 | e2
       ·have:j=i:=U7 (f:=fun x=>x) (l:=all) (by simpa using OR a6.2.2.2.1) p oV e2
        subst this;rw[hi]at q;cases q;exact absurd (.inr rfl) hc
       ·exact e2)
     refine⟨_,_,_,_,_,q3,hk.2 all[i] (s1++s2) IM,k1,k2,.tup _ _ _ rfl (fun j av x h1 h2=>?_)⟩
     match j,h1,h2 with
     |0,h1,h2=>simp at h1 h2;subst h1;subst h2;exact .v _ _
     |1,h1,h2=>simp at h1 h2;subst h1;subst h2;rw[hkey];exact .v _ _
     |2,h1,h2=>simp at h1 h2;subst h1;subst h2;exact(hr.up _).le k2
  ·exact hk.elim
 ·exact hk.elim
end
end Go.Eng
namespace Go.Eng
def F4(F:(AV→Prop)→Prop):Prop:=∀K,F K→∃v,K v∧∀K',K' v→F K'
theorem CN(v:AV):F4 (fun K=>K v):=fun _ h=>⟨v,h,fun _ h=>h⟩
theorem Dg{p:Prop}{F:(AV→Prop)→Prop}(h:F4 F):F4 (fun K=>p∧F K):=fun K ⟨hp,hk⟩ =>
 let ⟨v,h1,h2⟩:=h K hk
 ⟨v,h1,fun K' h'=>⟨hp,h2 K' h'⟩⟩
theorem Cm:F4 (fun _=>False):=fun _ h=>h.elim
theorem Vb(p:Prop):F4 (IK p):=fun K h=>by
 by_cases hp:p
 ·exact⟨_,h.1 hp,fun K' h'=>⟨fun _=>h',fun hn=>absurd hp hn⟩⟩
 ·exact⟨_,h.2 hp,fun K' h'=>⟨fun q=>absurd q hp,fun _=>h'⟩⟩
theorem Yj{F:(AV→Prop)→Prop}(h:F4 F):F4 (fun K=>F (cK K)):=fun K hk=>by
 obtain⟨v,h1,h2⟩:=h _ hk;unfold cK at h1;split at h1
 ·exact⟨_,h1,fun K' h'=>h2 _ h'⟩
 ·exact⟨_,h1,fun K' h'=>h2 _ h'⟩
 ·exact h1.elim
theorem MN{α:Type}{F:α→(AV→Prop)→Prop}(h:∀x,F4 (F x)):F4 (fun K=>∃x,F x K):=fun K ⟨x,hk⟩ =>
 let ⟨v,h1,h2⟩:=h x K hk
 ⟨v,h1,fun K' h'=>⟨x,h2 K' h'⟩⟩
theorem H6(T:Gr)(t:Nat)(cs:List AV):F4 (Lw T t cs):=by
 have head:F4 (L1 cs):=by unfold L1;cases cs with | nil=>exact Cm | cons a _=>exact CN a
 unfold Lw;split
 ·exact Dg (CN _)
 ·exact Dg (CN _)
 ·cases cs with
  |nil=>exact Cm
  |cons a _ =>
   intro K h;simp only[L1]at h⊢;split at h
   ·rename_i b;cases b with
    |true=>exact⟨_,h.1 rfl,fun K' h'=>⟨fun _=>h',fun e=>by cases e⟩⟩
    |false=>exact⟨_,h.2 rfl,fun K' h'=>⟨fun e=>(by cases e),fun _=>h'⟩⟩
   ·exact h.elim
 ·exact Cm
 ·exact head
theorem aH(T:Gr)(t:Nat)(x y:AV)(hx:∀tk es,x≠.slice tk es):F4 (oQ T t x y):=by
 unfold oQ
 repeat' split
 all_goals first | exact Cm | exact CN _ | exact Vb _ | exact Dg (CN _) | exact absurd rfl (hx _ _)
theorem Tu(op:BinOp)(k:IntKind)(a b:Int):F4 (TE op k a b):=by
 unfold TE;split<;>first | exact Cm | exact Dg (CN _)
theorem Zu(op:BinOp)(k:IntKind)(a b:Int):F4 (RP op k a b):=by
 unfold RP
 repeat' split
 all_goals first | exact Cm | exact Dg (CN _) | (unfold VG;split<;>first | exact CN _ | exact Dg (CN _) | exact Tu _ _ _ _)
theorem gU(T:Gr)(op:BinOp)(t:Nat)(x y:AV)(hx:∀tk es,x≠.slice tk es):F4 (RT T op t x y):=by
 unfold RT
 repeat' split
 all_goals first | exact Cm | exact Vb _ | exact Zu _ _ _ _ | exact Tu _ _ _ _ | exact Dg (CN _) | exact aH _ _ _ _ hx | exact Yj (aH _ _ _ _ hx)
theorem cZ(T:Gr)(op:BinOp)(t:Nat)(Y:Operand)(x y:AV)(hx:∀tk es,x≠.slice tk es):F4 (WX T op t Y x y):=by
 unfold WX
 repeat' split
 all_goals first | exact Cm | exact CN _ | exact gU _ _ _ _ _ hx
theorem c8(T:Gr)(s t:Nat)(x:AV):F4 (W5 T s t x):=by
 unfold W5
 repeat' split
 all_goals first | exact Cm | exact CN _ | exact Dg (CN _) | exact MN fun _=>Dg (CN _)
theorem Zw(T:Gr)(s f:Nat)(x:AV):F4 (Sn T s f x):=by
 unfold Sn
 repeat' split
 all_goals first | exact Cm | exact CN _
theorem Yg(T:Gr)(s f:Nat)(x:AV):F4 (Oq T s f x):=by
 unfold Oq
 repeat' split
 all_goals first | exact Cm | exact H6 _ _ _
theorem Tt(T:Gr)(t:Nat)(x ix:AV):F4 (Jh T t x ix):=by
 unfold Jh
 repeat' split
 all_goals first | exact Cm | exact Dg (CN _) | exact MN fun _=>Dg (Dg (CN _))
theorem Zx(T:Gr)(t:Nat)(x ix:AV):F4 (SO T t x ix):=by
 unfold SO
 repeat' split
 all_goals first | exact Cm | exact Dg (H6 _ _ _) | exact MN fun _=>Dg (CN _)
theorem Ws(x:AV)(i:Nat):F4 (LR x i):=by
 unfold LR
 repeat' split
 all_goals first | exact Cm | exact CN _
theorem gW(x:AV):F4 (KD x):=by
 unfold KD
 repeat' split
 all_goals first | exact Cm | exact CN _
theorem c9(c a b:AV):F4 (Ye c a b):=by
 unfold Ye
 repeat' split
 all_goals first | exact Cm | exact CN _
theorem kH(f:Int→Int→Int)(x y:AV):F4 (km f x y):=by
 unfold km
 repeat' split
 all_goals first | exact Cm | exact CN _
theorem da(op:UnOp)(x:AV):F4 (Yr op x):=by
 unfold Yr
 repeat' split
 all_goals first | exact Cm | exact CN _ | exact Yj (CN _) | exact Dg (CN _)
def lm{α:Type}(F:(α→Prop)→Prop):Prop:=∀K,F K→∃v,K v∧∀K',K' v→F K'
theorem Yf(n:Nat)(a:AV):lm (GU n a):=by
 intro K h;unfold GU at h⊢
 repeat' split at h
 all_goals first | exact h.elim | skip
 all_goals exact⟨_,h,fun K' h'=>h'⟩
theorem Tr(pl:Nat→Option (Nat×Nat))(t:Nat→AV):∀(ps:List (Nat×Operand)) (cs:List AV),lm (Ku pl cs t ps)
 | [],cs=>fun K h=>⟨cs,h,fun _ h=>h⟩
 |(i,x)::r,cs=>by
  intro K h;unfold Ku at h;split at h
  ·exact h.elim
  ·rename_i o n e;obtain⟨vs,h1,h2⟩:=Yf _ _ _ h;split at h1
   ·rename_i hb;obtain⟨c,h3,h4⟩:=Tr pl t r _ _ h1;refine⟨c,h3,fun K' h'=>?_⟩;unfold Ku;simp only[e];refine h2 _ ?_;simp only[hb];exact h4 K' h'
   ·exact h1.elim
theorem Zv(T:Gr)(ty:Nat)(t:Nat→AV)(ps:List (Nat×Operand)):F4 (Pr T ty t ps):=by
 unfold Pr
 repeat' split
 all_goals first
  |exact Cm
  |exact fun K h=>let ⟨c,h1,h2⟩:=Tr _ _ _ _ _ h;⟨_,h1,fun K' h'=>h2 _ h'⟩
def xo(h:Nat→HO)(e:Option (Nat×HO)):Nat→HO:=match e with | none=>h | some (r,o)=>AR h r o
structure IH(o:Oper)(R:List Nat)(st st2:St):Prop where
 t:∀x∈o.op.operands,ev st2.t x=ev st.t x
 h:∀r∈R,st2.h r=st.h r
def Ee(cx:Cx)(o:Oper)(st:St)(R:List Nat)(w:Option Nat)(K:HK):Prop :=
 ∃v e,K v (xo st.h e)∧(∀r o',e=some (r,o')→w=some r∧r∈R)∧∀st2,IH o R st st2→∀K' : HK,K' v (xo st2.h e)→FL cx true o st2 K'
def RF(w:Option Nat)(r:Nat):Prop:=match w with | none=>False | some x=>x=r∨(10000000≤x∧(x % 10000000=r∨x / 10000000=r))∨x=VD
def HZ(h:Nat→HO):List (Nat×HO)→Nat→HO
 | []=>h
 |p::l=>HZ (AR h p.1 p.2) l
def Rk(cx:Cx)(o:Oper)(st:St)(R:List Nat)(w:Option Nat)(K:HK):Prop :=
 ∃v e,K v (HZ st.h e)∧(∀r o',(r,o')∈e→RF w r∧r∈R)∧∀st2,IH o R st st2→∀K' : HK,K' v (HZ st2.h e)→FL cx true o st2 K'
section
variable {cx:Cx}{o:Oper}{st:St}{R:List Nat}{w:Option Nat}{K:HK}
theorem Ee.pick{F:(AV→Prop)→Prop}(hF:F4 F)(h:F fun v=>K v st.h)(h2:∀st2,IH o R st st2→∀K' : HK,F (fun v=>K' v st2.h)→FL cx true o st2 K'):Ee cx o st R w K :=
 let ⟨v,h1,h3⟩:=hF _ h
 ⟨v,none,h1,fun _ _ e=>(by cases e),fun st2 ha K' hk=>h2 st2 ha K' (h3 _ hk)⟩
theorem XX{cs:List AV}{a:AV}(h:a∈cs):∀r∈Uc a,r∈j8 cs:=by
 induction cs with
 |nil=>cases h
 |cons c cs ih =>
  intro r hr;rcases Av.1 h with rfl | h
  ·exact Bn _ hr
  ·exact Bf _ (ih h r hr)
theorem gt{cs:List AV}{a:AV}(h:a∈cs):∀r∈Ud a,r∈nO cs:=by
 induction cs with
 |nil=>cases h
 |cons c cs ih =>
  intro r hr;rcases Av.1 h with rfl | h
  ·exact Bn _ hr
  ·exact Bf _ (ih h r hr)
theorem XW{cs:List AV}{a:AV}(h:a∈cs):∀r∈WM a,r∈SK cs:=by
 induction cs with
 |nil=>cases h
 |cons c cs ih =>
  intro r hr;rcases Av.1 h with rfl | h
  ·exact Bn _ hr
  ·exact Bf _ (ih h r hr)
theorem US(a:AV):∀r∈Uc a,r∈Ud a:=by cases a<;>simp[Uc,Ud]
theorem Qc{h h2:Nat→HO}{a:AV}(e:∀r∈Uc a,h2 r=h r):str0 h2 a=str0 h a:=by
 cases a<;>simp only[str0]
 ·rw[e _ (by simp[Uc])]
 ·rw[e _ (by simp[Uc])]
theorem Vm{h h2:Nat→HO}{a:AV}(e:∀r∈Ud a,h2 r=h r):str h2 a=str h a:=by
 cases a with
 |agg cs=>simp only[str];exact Ac _ (A9 fun c hc=>Qc fun r hr=>e r (XX hc r hr))
 |clo f cs=>simp only[str];exact Ac _ (A9 fun c hc=>Qc fun r hr=>e r (XX hc r hr))
 |_=>exact Qc (fun r hr=>e r (US _ r hr))
theorem fT(a:AV):∀r∈Ud a,r∈WM a:=by
 cases a with
 |agg cs =>
  intro r hr;simp only[WM,Ud]at *
  induction cs with
  |nil=>exact hr
  |cons c cs ih =>
   rcases AU.1 hr with h | h
   ·exact Bn _ (US c r h)
   ·exact Bf _ (ih h)
 |_=>exact fun r hr=>hr
theorem KN{h h2:Nat→HO}{a:AV}(e:∀r∈WM a,h2 r=h r):str h2 a=str h a:=Vm fun r hr=>e r (fT a r hr)
theorem Qd{h h2:Nat→HO}{l:List AV}(e:∀r∈SK l,h2 r=h r):l.map (str h2)=l.map (str h) :=
 A9 fun _ ha=>KN fun r hr=>e r (XW ha r hr)
theorem ii{h h2:Nat→HO}{a:AV}(e:∀r∈WM a,h2 r=h r):rsv h2 a=rsv h a:=by
 cases a<;>simp only[rsv]
 ·rw[e _ (by simp[WM,Ud,Uc])]
 ·rw[e _ (by simp[WM,Ud,Uc])]
theorem Ns{n:Nat}{a:AV}{K:List AV→Prop}(hk:GU n a K):∃cs,K cs∧(∀K' : List AV→Prop,K' cs→GU n a K')∧∀h h2:Nat→HO,(∀r∈WM a,h2 r=h r)→cs.map (str h2)=cs.map (str h):=by
 have single:K [a]→(∀K' : List AV→Prop,K' [a]→GU n a K')→∃cs,K cs∧(∀K' : List AV→Prop,K' cs→GU n a K')∧∀h h2:Nat→HO,(∀r∈WM a,h2 r=h r)→cs.map (str h2)=cs.map (str h) :=
  fun h1 h2=>⟨[a],h1,h2,fun h h2 e=>by simp[KN e]⟩
 unfold GU at hk;split at hk
 ·rename_i cs;split at hk
  ·rename_i hn;refine⟨cs,hk,fun K' h=>by unfold GU;simp only[hn];exact h,fun h h2 e=>A9 fun c hc=>Vm fun r hr=>e r (gt hc r hr)⟩
  ·exact hk.elim
 ·rename_i nA;split at hk
  ·rename_i h1;split at hk
   ·refine single hk fun K' h=>?_;unfold GU;split
    ·rename_i cs;exact absurd rfl (nA cs)
    ·rw[h1];exact h
   ·exact hk.elim
  ·exact hk.elim
theorem So{n sz:Nat}{t:Nat→AV}:∀{ps:List (Nat×Operand)} {es:List (List AV)} {h:Nat→HO} {K:List (List AV)→Prop},Qy n sz h es t ps K →
  ∃Fy,K Fy∧∀(t2:Nat→AV) (h2:Nat→HO),(∀r∈SK (ps.map fun p=>ev t p.2),h2 r=h r)→(∀p∈ps,ev t2 p.2=ev t p.2)→∀K' : List (List AV)→Prop,K' Fy→Qy n sz h2 es t2 ps K'
 | [],es,h,K,hk=>⟨es,hk,fun _ _ _ _ _ h=>h⟩
 |(i,x)::r,es,h,K,hk=>by
  unfold Qy at hk;split at hk
  ·rename_i hb;obtain⟨cs,c1,c2,c3⟩:=Ns hk;obtain⟨Fy,e1,e2⟩:=So c1;refine⟨Fy,e1,fun t2 h2 hh ht K' J6=>?_⟩;unfold Qy;rw[hb,ht (i,x) (Ab ..)];refine c2 _ ?_;rw[c3 h h2 (fun r hr=>hh r (Bn _ hr))];exact e2 t2 h2 (fun r hr=>hh r (Bf _ hr)) (fun p hp=>ht p (Ag _ hp)) K' J6
  ·exact hk.elim
theorem Ib{d:Option Nat}{h:Nat→HO}{sz:Nat}{es:List (List AV)}(hk:EA cx d h sz es K) :
  ∃d',d.map (Ks cx)=some d'∧∃v x,K v (AR h d' x)∧∀h2:Nat→HO,h2 d'=h d'→∀K' : HK,K' v (AR h2 d' x)→EA cx d h2 sz es K':=by
 unfold EA at hk;split at hk
 ·exact hk.elim
 ·rename_i d;split at hk
  ·rename_i hd;split at hk
   ·rename_i e;exact⟨Ks cx d,rfl,_,_,hk,fun h2 hh K' h'=>by unfold EA;simp only[hh,hd,e];exact h'⟩
   ·rename_i e;exact⟨Ks cx d,rfl,_,_,hk,fun h2 hh K' h'=>by unfold EA;simp only[hh,hd,e];exact h'⟩
  ·exact hk.elim
theorem YU{h:Nat→HO}{x:AV}{K:List (List AV)→Prop}(hk:K3 h x K):∃es,K es∧∀h2:Nat→HO,(∀r n,x=.msl r n→h2 r=h r)→∀K' : List (List AV)→Prop,K' es→K3 h2 x K':=by
 unfold K3 at hk;split at hk
 ·exact⟨_,hk,fun _ _ K' h=>h⟩
 ·exact⟨_,hk,fun _ _ K' h=>h⟩
 ·rename_i r n;split at hk
  ·rename_i sz es e;exact⟨_,hk.2,fun h2 hh K' h=>by unfold K3;simp only[hh r n rfl,e];exact⟨hk.1,h⟩⟩
  ·exact hk.elim
 ·exact hk.elim
end
section
variable {cx:Cx}{dst:Option Nat}{ty:Nat}{pos:String}{after:Array Edge}{gd:Option (Nat×Bool)}{st:St}{R:List Nat}{w:Option Nat}{K:HK}
theorem Ip{d:Option Nat}{l:List Nat}{f:Fs}(h:Io d l=some f):∃d',d=some d'∧f=(d' :: l,some d'):=by
 unfold Io at h;cases d with
 |none=>cases h
 |some d=>cases h;exact⟨d,rfl,rfl⟩
theorem Xp{e:Nat}(hk:FL cx true ⟨dst,.alloc e,ty,pos,after,gd⟩ st K)(hf:Fb cx ⟨dst,.alloc e,ty,pos,after,gd⟩ st=some (R,w)):Ee cx ⟨dst,.alloc e,ty,pos,after,gd⟩ st R w K:=by
 simp only[FL]at hk;obtain⟨d,rfl,e0⟩:=Ip hf;cases e0;unfold RN at hk;simp only at hk;split at hk
 ·rename_i hd;split at hk
  ·exact hk.elim
  ·rename_i Dr;split at hk
   ·rename_i ha;refine⟨_,some (d,_),hk,fun r o' e=>(by cases e;exact⟨rfl,Ab ..⟩),fun st2 GQ K' h'=>?_⟩;simp only[FL,RN];rw[GQ.h d (Ab ..),hd];simp only[ha];exact h'
   ·exact hk.elim
 ·exact hk.elim
theorem bQ{e:Nat}{x:Operand}(hk:FL cx true ⟨dst,.box e x,ty,pos,after,gd⟩ st K)(hf:Fb cx ⟨dst,.box e x,ty,pos,after,gd⟩ st=some (R,w)):Ee cx ⟨dst,.box e x,ty,pos,after,gd⟩ st R w K:=by
 simp only[FL]at hk;obtain⟨d,rfl,e0⟩:=Ip hf;cases e0;unfold bx at hk;simp only at hk;split at hk
 ·rename_i hd;split at hk
  ·exact hk.elim
  ·rename_i Dr;obtain⟨cs,c1,c2,c3⟩:=Ns hk;split at c1
   ·rename_i hm;refine⟨_,some (d,_),c1,fun r o' e=>(by cases e;exact⟨rfl,Ab ..⟩),fun st2 GQ K' h'=>?_⟩;have hx:ev st2.t x=ev st.t x:=GQ.t x (by simp[Op.operands]);simp only[FL,bx];rw[GQ.h d (Ab ..),hd,hx];simp only[hm];refine c2 _ ?_;rw[c3 st.h st2.h (fun r hr=>GQ.h r (Ag _ hr))];exact h'
   ·rename_i hm;refine⟨_,some (d,_),c1,fun r o' e=>(by cases e;exact⟨rfl,Ab ..⟩),fun st2 GQ K' h'=>?_⟩;have hx:ev st2.t x=ev st.t x:=GQ.t x (by simp[Op.operands]);simp only[FL,bx];rw[GQ.h d (Ab ..),hd,hx];simp only[hm];exact c2 _ h'
 ·exact hk.elim
theorem Pz{t n:Nat}{ps:Array (Nat×Operand)}(hk:FL cx true ⟨dst,.buildSlice t n ps,ty,pos,after,gd⟩ st K)(hf:Fb cx ⟨dst,.buildSlice t n ps,ty,pos,after,gd⟩ st=some (R,w)) :
  Ee cx ⟨dst,.buildSlice t n ps,ty,pos,after,gd⟩ st R w K:=by
 simp only[FL]at hk;obtain⟨d,bY,e0⟩:=Ip hf;cases e0;unfold Im at hk;split at hk
 ·rename_i e he;split at hk
  ·rename_i h1 h2;split at hk
   ·exact hk.elim
   ·rename_i k EC;split at hk
    ·rename_i hb;obtain⟨es,q1,q2⟩:=So hk;obtain⟨d',hd,v,x,q3,q4⟩:=Ib q1;have hd:dst.map (Ks cx)=some d':=hd;have bY:dst.map (Ks cx)=some d:=bY;rw[bY]at hd;cases hd;refine⟨v,some (d,x),q3,fun r o' e=>(by cases e;exact⟨rfl,Ab ..⟩),fun st2 GQ K' h'=>?_⟩;have hx:∀p∈ps.toList,ev st2.t p.2=ev st.t p.2:=fun p hp=>GQ.t p.2 (by
      simp only[Op.operands,List.mem_toArray];exact Aj.2 ⟨p,hp,rfl⟩)
     simp only[FL,Im,he,h1,h2];split
     ·rename_i e0;rw[EC]at e0;cases e0
     ·rw[hb];exact q2 st2.t st2.h (fun r hr=>GQ.h r (Ag _ hr)) hx _ (q4 st2.h (GQ.h d (Ab ..)) K' h')
    ·exact hk.elim
  ·exact hk.elim
 ·exact hk.elim
theorem QZ{t:Nat}{n c:Operand}(hk:FL cx true ⟨dst,.makeSlice t n c,ty,pos,after,gd⟩ st K)(hf:Fb cx ⟨dst,.makeSlice t n c,ty,pos,after,gd⟩ st=some (R,w)) :
  Ee cx ⟨dst,.makeSlice t n c,ty,pos,after,gd⟩ st R w K:=by
 simp only[FL]at hk;obtain⟨d,bY,e0⟩:=Ip hf;cases e0;have hn:∀st2,IH ⟨dst,.makeSlice t n c,ty,pos,after,gd⟩ (d::[]) st st2→ev st2.t n=ev st.t n∧ev st2.t c=ev st.t c:=fun st2 ha=>⟨ha.t n (by simp[Op.operands]),ha.t c (by simp[Op.operands])⟩;unfold Jj at hk;split at hk
 ·rename_i e a b h1 h2 h3;split at hk
  ·rename_i h4;split at hk
   ·rename_i h5;split at hk
    ·exact hk.elim
    ·rename_i k EC;obtain⟨d',hd,v,x,q3,q4⟩:=Ib hk.2;have hd:dst.map (Ks cx)=some d':=hd;have bY:dst.map (Ks cx)=some d:=bY;rw[bY]at hd;cases hd;refine⟨v,some (d,x),q3,fun r o' e=>(by cases e;exact⟨rfl,Ab ..⟩),fun st2 GQ K' h'=>?_⟩;simp only[FL,Jj,(hn st2 GQ).1,(hn st2 GQ).2,h1,h2,h3,h4,h5];split
     ·rename_i e0;rw[EC]at e0;cases e0
     ·exact⟨hk.1,q4 st2.h (GQ.h d (Ab ..)) K' h'⟩
   ·exact hk.elim
  ·exact hk.elim
 ·exact hk.elim
theorem T6{t:Nat}{r:Option Operand}(hk:FL cx true ⟨dst,.makeMap t r,ty,pos,after,gd⟩ st K)(hf:Fb cx ⟨dst,.makeMap t r,ty,pos,after,gd⟩ st=some (R,w)) :
  Ee cx ⟨dst,.makeMap t r,ty,pos,after,gd⟩ st R w K:=by
 cases r with
 |some r=>exact hk.elim
 |none =>
  simp only[FL]at hk;obtain⟨d,rfl,e0⟩:=Ip hf;cases e0;unfold KA at hk;simp only at hk;split at hk
  ·rename_i hd;split at hk
   ·rename_i h1;split at hk
    ·rename_i h2;split at hk
     ·rename_i h3;refine⟨_,some (d,_),hk,fun r o' e=>(by cases e;exact⟨rfl,Ab ..⟩),fun st2 GQ K' h'=>?_⟩;simp only[FL,KA];rw[GQ.h d (Ab ..),hd];simp only[h1,h2,h3];exact h'
     ·rename_i h3;refine⟨_,some (d,_),hk,fun r o' e=>(by cases e;exact⟨rfl,Ab ..⟩),fun st2 GQ K' h'=>?_⟩;simp only[FL,KA];rw[GQ.h d (Ab ..),hd];simp only[h1,h2,h3];exact h'
    ·exact hk.elim
   ·exact hk.elim
  ·exact hk.elim
theorem Xq{t:Nat}{p x:Operand}(hk:FL cx true ⟨dst,.store t p x,ty,pos,after,gd⟩ st K)(hf:Fb cx ⟨dst,.store t p x,ty,pos,after,gd⟩ st=some (R,w)) :
  Ee cx ⟨dst,.store t p x,ty,pos,after,gd⟩ st R w K:=by
 simp only[FL]at hk;have hn:∀st2,IH ⟨dst,.store t p x,ty,pos,after,gd⟩ R st st2→ev st2.t p=ev st.t p∧ev st2.t x=ev st.t x:=fun st2 ha=>⟨ha.t p (by simp[Op.operands]),ha.t x (by simp[Op.operands])⟩;unfold NX at hk;split at hk
 ·exact hk.elim
 ·rename_i Dr;obtain⟨cs,c1,c2,c3⟩:=Ns hk;simp only[Fb]at hf;split at hf
  ·rename_i r off hp;split at hf
   ·cases hf
   ·rename_i hm;cases hf;rw[hp]at c1;simp only at c1;split at c1
    ·rename_i Fx hr;obtain⟨Hg,J6⟩:=c1;rw[hm]at J6;refine⟨_,some (r,_),J6,fun r o' e=>(by cases e;exact⟨rfl,Ab ..⟩),fun st2 GQ K' h'=>?_⟩;simp only[FL,NX,(hn st2 GQ).1,(hn st2 GQ).2];refine c2 _ ?_;rw[hp];simp only[GQ.h r (Ab ..),hr,hm];exact⟨Hg,h'⟩
    ·exact c1.elim
  ·rename_i r n sz i off hp;cases hf;rw[hp]at c1;simp only at c1;split at c1
   ·rename_i Gp es hr;split at c1
    ·rename_i hs;obtain⟨Hg,cell,e1,e2,J6⟩:=c1;split at J6
     ·rename_i j m;refine⟨_,some (r,_),J6,fun r o' e=>(by cases e;exact⟨rfl,Ab ..⟩),fun st2 GQ K' h'=>?_⟩;simp only[FL,NX,(hn st2 GQ).1,(hn st2 GQ).2];refine c2 _ ?_;rw[hp];simp only[GQ.h r (Ab ..),hr,hs];exact⟨Hg,cell,e1,e2,h'⟩
     ·rename_i Rc;refine⟨_,some (r,_),J6,fun r o' e=>(by cases e;exact⟨rfl,Ab ..⟩),fun st2 GQ K' h'=>?_⟩;simp only[FL,NX,(hn st2 GQ).1,(hn st2 GQ).2];refine c2 _ ?_;rw[hp];simp only[GQ.h r (Ab ..),hr,hs];refine⟨Hg,cell,e1,e2,?_⟩;rw[c3 st.h st2.h (fun r hr=>GQ.h r (Ag _ hr))];exact h'
    ·exact c1.elim
   ·exact c1.elim
  ·cases hf
theorem Q0{t:Nat}{m k x:Operand}(hk:FL cx true ⟨dst,.mapUpdate t m k x,ty,pos,after,gd⟩ st K)(hf:Fb cx ⟨dst,.mapUpdate t m k x,ty,pos,after,gd⟩ st=some (R,w)) :
  Ee cx ⟨dst,.mapUpdate t m k x,ty,pos,after,gd⟩ st R w K:=by
 simp only[FL]at hk;have hn:∀st2,IH ⟨dst,.mapUpdate t m k x,ty,pos,after,gd⟩ R st st2→ev st2.t m=ev st.t m∧ev st2.t k=ev st.t k∧ev st2.t x=ev st.t x:=fun st2 ha=>⟨ha.t m (by simp[Op.operands]),ha.t k (by simp[Op.operands]),ha.t x (by simp[Op.operands])⟩;simp only[Fb]at hf;split at hf
 ·rename_i r hm;cases hf;unfold GW at hk;rw[hm]at hk;simp only at hk;split at hk
  ·rename_i sh BW hr;unfold J8 at hk;split at hk
   ·rename_i kt e h1;split at hk
    ·rename_i s5 h2;split at hk
     ·rename_i h3;split at hk
      ·rename_i kx h4;split at hk
       ·rename_i h5;refine⟨_,some (r,_),hk,fun r o' e=>(by cases e;exact⟨rfl,Ab ..⟩),fun st2 GQ K' h'=>?_⟩;obtain⟨n1,n2,n3⟩:=hn st2 GQ;simp only[FL,GW,n1,n2,n3,hm,GQ.h r (Ab ..),hr,J8,h1,h2,h3,h4,h5];rw[KN (h:=st.h) (h2:=st2.h) (fun r hr=>GQ.h r (Ag _ hr))];exact h'
       ·exact hk.elim
      ·exact hk.elim
     ·exact hk.elim
    ·exact hk.elim
   ·exact hk.elim
  ·rename_i sh BW hr;unfold J8 at hk;split at hk
   ·rename_i kt e h1;split at hk
    ·rename_i s5 h2;split at hk
     ·rename_i h3;split at hk
      ·rename_i kx h4;split at hk
       ·rename_i h5;refine⟨_,some (r,_),hk,fun r o' e=>(by cases e;exact⟨rfl,Ab ..⟩),fun st2 GQ K' h'=>?_⟩;obtain⟨n1,n2,n3⟩:=hn st2 GQ;simp only[FL,GW,n1,n2,n3,hm,GQ.h r (Ab ..),hr,J8,h1,h2,h3,h4,h5];exact h'
       ·exact hk.elim
      ·exact hk.elim
     ·exact hk.elim
    ·exact hk.elim
   ·exact hk.elim
  ·exact hk.elim
 ·cases hf
theorem aI{A B:(AV→Prop)→Prop}(ha:F4 A)(hb:F4 B):F4 fun K=>A K∨B K:=by
 intro K hk;rcases hk with hk | hk
 ·obtain⟨v,h1,h2⟩:=ha K hk;exact⟨v,h1,fun K' h=>.inl (h2 K' h)⟩
 ·obtain⟨v,h1,h2⟩:=hb K hk;exact⟨v,h1,fun K' h=>.inr (h2 K' h)⟩
theorem Sw{fn:Fn}{first cap:Array Operand}(hk:FL cx true ⟨dst,.makeFunc fn first cap,ty,pos,after,gd⟩ st K)(hf:Fb cx ⟨dst,.makeFunc fn first cap,ty,pos,after,gd⟩ st=some (R,w)) :
  Ee cx ⟨dst,.makeFunc fn first cap,ty,pos,after,gd⟩ st R w K:=by
 simp only[FL]at hk;simp only[Fb]at hf;cases hf;unfold Kz at hk;split at hk
 ·rename_i f h1;refine⟨_,none,hk,fun r o' e=>(by cases e),fun st2 GQ K' h'=>?_⟩;simp only[FL,h1,Kz]
  have:cap.toList.map (fun x=>rsv st2.h (ev st2.t x))=cap.toList.map (fun x=>rsv st.h (ev st.t x)):=A9 fun x hx=>by
   rw[GQ.t x (by simp only[Op.operands,RD];exact .inr (by simpa using hx))];exact ii fun r hr=>GQ.h r (XW (Aj.2 ⟨x,hx,rfl⟩) r hr)
  rw[this];exact h'
 ·exact hk.elim
end
end Go.Eng
