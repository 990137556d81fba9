/- Lemmas for the claims of this seat, without a condition: part 10 (EngT, EngU, EngV, EngW). -/
import Derived.Test.YtddfphmpfnmknaaGreatDoorA09
import Derived.Maps.RangeRun
namespace Go.Eng
open Go.ChangeMaps (setBlock)
theorem TV{w:World}{r:Nat}{o o' : Obj}(h:w.heap[r]?=some o):(setBlock w r o').heap[r]?=some o':=by
 have:=(Bm.1 h).1
 simp[setBlock,this]
theorem Te{w:World}{r k:Nat}{o' : Obj}(h:k≠r):(setBlock w r o').heap[k]?=w.heap[k]?:=by
 simp[setBlock,Ne.symm h]
theorem M1(w:World)(r:Nat)(o' : Obj):(setBlock w r o').heap.size=w.heap.size:=by simp[setBlock]
theorem Ow{α β:Type}{f:α→β}{l:List α}(h:(l.map f).Nodup):l.Nodup:=by
 induction l with
 |nil=>exact E2
 |cons c l ih =>
  rw[AK,CI]at h;exact CI.2 ⟨fun hc=>h.1 (Ak.2 ⟨c,hc,rfl⟩),ih h.2⟩
theorem UH{α β:Type}{f:α→β}{l:List α}(h:(l.map f).Nodup){i j:Nat}{a b:α}(ha:l[i]?=some a)(hb:l[j]?=some b)(he:f a=f b):i=j:=by
 induction l generalizing i j with
 |nil=>simp at ha
 |cons c l ih =>
  rw[AK,CI]at h;cases i with
  |zero =>
   cases j with
   |zero=>rfl
   |succ j =>
    simp only[A4,Bj,GA]at ha hb;exact absurd (Ak.2 ⟨b,Ar hb,by rw[←he,ha]⟩) h.1
  |succ i =>
   cases j with
   |zero =>
    simp only[A4,Bj,GA]at ha hb;exact absurd (Ak.2 ⟨a,Ar ha,by rw[he,hb]⟩) h.1
   |succ j=>exact Ac (·+1) (ih h.2 ha hb)
open Classical in
theorem Po{BU:List (Value×AV)}{k:Value}{a b:AV}(h:(k,b)∈BU):EL BU k a=BU.map fun p=>if p.1=k then(k,a)else p:=Aq ⟨b,h⟩
open Classical in
theorem Kq{BU:List (Value×AV)}{k:Value}{a:AV}(h:∀b,(k,b)∉BU):EL BU k a=BU++[(k,a)]:=Ai (fun⟨b,e⟩=>h b e)
theorem UE{sh:EB}{es:Array MapEntry}{ck:Nat}{BU:List (Value×AV)}(f:AV→AV)(h:GW sh es ck BU):GW sh es ck (BU.map fun p=>(p.1,f p.2)):=by
 obtain⟨h1,h2,h3,h4,h5,h6⟩:=h;refine⟨by simp[h1],fun i kv e q1 q2=>?_,fun kv OT=>?_,?_,h5,h6⟩
 ·rw[AF]at q1;obtain⟨p,q3,rfl⟩:=AT.1 q1;exact h2 i p e q3 q2
 ·obtain⟨p,hp,rfl⟩:=Ak.1 OT;exact h3 p hp
 ·rw[BG];exact h4
theorem Oo{sh:EB}{es:Array MapEntry}{ck:Nat}{BU:List (Value×AV)}(h:GW sh es ck BU){x:Value}{a v:AV}{y:Value}{j:Nat}(hj:BU[j]?=some (x,a)) :
  GW sh (es.modify j fun e=>{ e with key:=x,val:=y }) ck (EL BU x v) ∧
   ∀(i:Nat) (kv:Value×AV) (e:MapEntry),(EL BU x v)[i]?=some kv→(es.modify j fun e=>{ e with key:=x,val:=y })[i]?=some e →
    (kv.2=v∧e.val=y)∨(BU[i]?=some kv∧es[i]?=some e):=by
 classical
 rw[Po (Ar hj)];obtain⟨h1,h2,h3,h4,h5,h6⟩:=h;have hm:∀i e,(es.modify j fun e=>{ e with key:=x,val:=y })[i]?=some e→∃e0,es[i]?=some e0∧e.born=e0.born∧(if i=j then e.key=x∧e.val=y else e=e0):=by
  intro i e he;rw[Array.getElem?_modify]at he;split at he
  ·rename_i e1;subst e1;obtain⟨e0,q1,q2⟩:=AT.1 he;exact⟨e0,q1,by rw[←q2],by rw[Aq rfl,←q2];exact⟨rfl,rfl⟩⟩
  ·rename_i e1;exact⟨e,he,rfl,by rw[Ai (fun q=>e1 q.symm)]⟩
 have hk:∀i kv,(BU.map fun p=>if p.1=x then(x,v)else p)[i]?=some kv→∃p,BU[i]?=some p∧kv.1=p.1∧(if i=j then kv.2=v else kv=p):=by
  intro i kv OT;rw[AF]at OT;obtain⟨p,q1,q2⟩:=AT.1 OT;refine⟨p,q1,?_⟩
  by_cases e:p.1=x
  ·rw[Aq e]at q2;subst q2
   have:=UH h4 q1 hj e
   exact⟨e.symm,by rw[Aq this]⟩
  ·rw[Ai e]at q2;subst q2;refine⟨rfl,?_⟩;rw[Ai];intro e2;subst e2;rw[q1]at hj;cases hj;exact e rfl
 have pT:(BU.map fun p=>if p.1=x then(x,v)else p).map (·.1)=BU.map (·.1):=by
  rw[BG];apply A8;intro p _;simp only[Function.comp];split
  ·rename_i e;exact e.symm
  ·rfl
 refine⟨⟨by simp[h1],fun i kv e q1 q2=>?_,fun kv OT=>?_,by rw[pT];exact h4,fun i e q=>?_,fun i i' e e' q q' hb=>?_⟩,fun i kv e q1 q2=>?_⟩
 ·obtain⟨p,p1,p2,p3⟩:=hk i kv q1;obtain⟨e0,r1,r2,r3⟩:=hm i e q2
  have:=h2 i p e0 p1 r1
  split at r3
  ·rename_i ij;subst ij;rw[hj]at p1;cases p1;rw[r3.1,p2]
  ·rw[r3,p2];exact this
 ·obtain⟨i,hi⟩:=B1.1 OT;obtain⟨p,p1,p2,p3⟩:=hk i kv hi;rw[p2];exact h3 p (Ar p1)
 ·obtain⟨e0,r1,r2,_⟩:=hm i e q;rw[r2];exact h5 i e0 r1
 ·obtain⟨e0,r1,r2,_⟩:=hm i e q;obtain⟨e1,s1,s2,_⟩:=hm i' e' q';exact h6 i i' e0 e1 r1 s1 (by rw[←r2,←s2];exact hb)
 ·obtain⟨p,p1,p2,p3⟩:=hk i kv q1;obtain⟨e0,r1,r2,r3⟩:=hm i e q2;split at r3
  ·rename_i ij;rw[Aq ij]at p3;exact .inl ⟨p3,r3.2⟩
  ·rename_i ij;rw[Ai ij]at p3;exact .inr ⟨by rw[p3];exact p1,by rw[r3];exact r1⟩
theorem SH{sh:EB}{es:Array MapEntry}{ck:Nat}{BU:List (Value×AV)}(h:GW sh es ck BU){x:Value}{v:AV}{y:Value}(hx:UP sh x=true)(hn:∀a,(x,a)∉BU) :
  GW sh (es.push { key:=x,val:=y,born:=ck }) (ck+1) (EL BU x v) ∧
   ∀(i:Nat) (kv:Value×AV) (e:MapEntry),(EL BU x v)[i]?=some kv→(es.push { key:=x,val:=y,born:=ck })[i]?=some e →
    (kv.2=v∧e.val=y)∨(BU[i]?=some kv∧es[i]?=some e):=by
 rw[Kq hn];obtain⟨h1,h2,h3,h4,h5,h6⟩:=h;have hm:∀i e,(es.push { key:=x,val:=y,born:=ck })[i]?=some e→(es[i]?=some e∧i<es.size)∨(i=es.size∧e={ key:=x,val:=y,born:=ck }):=by
  intro i e he;rw[Array.getElem?_push]at he;split at he
  ·rename_i q;cases he;exact .inr ⟨q,rfl⟩
  ·exact .inl ⟨he,(Bm.1 he).1⟩
 have hk:∀i kv,(BU++[(x,v)])[i]?=some kv→(BU[i]?=some kv∧i<es.size)∨(i=es.size∧kv=(x,v)):=by
  intro i kv OT;rw[Lu]at OT;split at OT
  ·rename_i q;exact .inl ⟨OT,by omega⟩
  ·rename_i q
   have:i-BU.length=0:=by
    have:=(Ap.1 OT).1
    simp at this;omega
   rw[this]at OT;simp at OT;exact .inr ⟨by omega,OT.symm⟩
 refine⟨⟨by simp[h1],fun i kv e q1 q2=>?_,fun kv OT=>?_,?_,fun i e q=>?_,fun i i' e e' q q' hb=>?_⟩,fun i kv e q1 q2=>?_⟩
 ·rcases hk i kv q1 with ⟨p1,p2⟩ | ⟨p1,p2⟩<;>rcases hm i e q2 with ⟨r1,r2⟩ | ⟨r1,r2⟩
  ·exact h2 i kv e p1 r1
  ·omega
  ·omega
  ·rw[p2,r2]
 ·rcases AW.1 OT with q | q
  ·exact h3 kv q
  ·rw[Am.1 q];exact hx
 ·rw[Az,F4];refine⟨h4,by simp,fun a ha b hb e=>?_⟩;simp only[AK,EU,Am]at hb;obtain⟨p,p1,p2⟩:=Ak.1 ha;refine hn p.2 ?_
  have:p=(x,p.2):=by rw[←hb,←e,←p2]
  rw[←this];exact p1
 ·rcases hm i e q with ⟨r1,_⟩ | ⟨_,r2⟩
  ·have:=h5 i e r1;omega
  ·rw[r2];exact Lk _
 ·rcases hm i e q with ⟨r1,_⟩ | ⟨r1,r2⟩<;>rcases hm i' e' q' with ⟨s1,_⟩ | ⟨s1,s2⟩
  ·exact h6 i i' e e' r1 s1 hb
  ·have:=h5 i e r1;rw[s2]at hb;dsimp only at hb;omega
  ·have:=h5 i' e' s1;rw[r2]at hb;dsimp only at hb;omega
  ·omega
 ·rcases hk i kv q1 with ⟨p1,p2⟩ | ⟨p1,p2⟩<;>rcases hm i e q2 with ⟨r1,r2⟩ | ⟨r1,r2⟩
  ·exact .inr ⟨p1,r1⟩
  ·omega
  ·omega
  ·exact .inl ⟨by rw[p2],by rw[r2]⟩
section
variable {P:Program}{w0:World}{g0:Gh}{h0 h:Nat→HO}{g:Gh}{w:World}(hI:DA w0 g0 h0 h g w)
include hI
theorem DA.swap{r b:Nat}(hl:(h r).live)(ho:g.own r=some b)(hn:∀o,¬g.S b o)(o' : HO){ob:Obj}(hb:w.heap[b]?=some ob)(ZI : Obj)(w1:World)(KE:w1.heap=w.heap∧w1.os=w.os∧w1.tape=w.tape∧w1.output=w.output)(Dt:o'≠.free)
  (I9:JM g (g.upd r (g.ρ r) (g.ln r) (g.tk r) (g.own r) g.S) (AP h)→Ez g w (g.upd r (g.ρ r) (g.ln r) (g.tk r) (g.own r) g.S) (setBlock w1 b ZI)→(setBlock w1 b ZI).heap[b]?=some ZI →
   (∀k,k≠b→(setBlock w1 b ZI).heap[k]?=w.heap[k]?) →
   D3 (g.upd r (g.ρ r) (g.ln r) (g.tk r) (g.own r) g.S) (setBlock w1 b ZI) (AP (AS h r o')) r o') :
  DA w0 g0 h0 (AS h r o') (g.upd r (g.ρ r) (g.ln r) (g.tk r) (g.own r) g.S) (setBlock w1 b ZI)∧Le h g w (AS h r o') (g.upd r (g.ρ r) (g.ln r) (g.tk r) (g.own r) g.S) (setBlock w1 b ZI):=by
 have Dz:=(hI.loc r b hl ho).1;have EK:(setBlock w1 b ZI).heap[b]?=some ZI:=TV (by rw[KE.1];exact hb);have Yz:∀k,k≠b→(setBlock w1 b ZI).heap[k]?=w.heap[k]?:=fun k hk=>by rw[Te hk,KE.1]
 refine hI.upd r o' _ _ _ _ _ _ (some b) ⟨KE.2.1,KE.2.2.1,KE.2.2.2,by rw[M1,KE.1];exact Al _⟩ (fun k _ Dt=>Yz k (fun e=>Dt (by rw[e]))) (fun b' e=>by cases e;exact⟨hl,ho⟩) (fun _ _ h=>h) (fun _ _ h=>.inl h)
  (fun b' o e hs=>by cases e;exact absurd hs (hn o)) (fun b' _ e=>?_) Dt (fun _=>⟨rfl,Al _,fun _=>rfl,fun _=>rfl⟩) (fun hg hk=>I9 hg hk EK Yz)
 rw[ho]at e;cases e;exact⟨by rw[M1,KE.1];exact Dz,.inl ⟨hl,ho⟩⟩
theorem MV{T:Gg}(hT:Ck P T){ty:Nat}{m k x:AV}{vm vk vx:Value}{K:HK}(hm:BC g w (AP h) m vm)(JS : BC g w (AP h) k vk)(hx:BC g w (AP h) x vx)(hk:GQ T h ty m k x K) :
  c8 P w0 g0 h0 h g w (Instr.mapUpdate ty vm vk vx) K:=by
 unfold GQ at hk;split at hk
 ·rename_i r;split at hk
  ·rename_i sh BU e0;obtain⟨kt,e,k1,k2,k3,k4⟩:=Mo JS hk;have ho:=hI.objs r;rw[e0]at ho;obtain⟨t1,b,es,ck,a1,a2,a3,a4,a5,a6⟩:=ho;have hl:(h r).live:=by rw[e0];trivial
   cases hm with
   |mref _ _ b' hu ht hp =>
    rw[a2]at hp;cases hp;have eY:=hT.map k1;have E6:=run_getObj_map (P:=P) w b es ck a3;have Ni:∀o',(setObj b o').run P w=.ok () (setBlock w b o'):=fun o'=>by simp[setObj,Sem.run,a3,setBlock]
    have Tt:=fun bb=>L5 hT k2 w bb k3;obtain⟨res,r1,r2⟩:=ND hT k2 w k3 es.toList a4.shape;have ip:=BC.str hI.objs hx;rcases r2 with ⟨rfl,hn⟩ | ⟨j,en,rfl,hj,hkey⟩
    ·obtain⟨m1,m2⟩:=SH a4 (x:=vk) (v:=str h x) (y:=vx) k3 (fun a=>a4.none hn a);obtain⟨i1,i2⟩:=DA.swap hI hl a1 a6 (.map sh (EL BU vk (str h x))) a3 (.map (es.push { key:=vk,val:=vx,born:=ck }) (ck+1)) w ⟨rfl,rfl,rfl,rfl⟩ (by simp) (fun hg HL EK Yz=>by
      obtain⟨u1,u2,u3,u4⟩:=Bw g r (g.ρ r) (g.ln r) (g.tk r) (g.own r) g.S;refine⟨u3.trans t1,b,_,_,u4.trans a1,u1.trans a2,EK,m1,fun i kv e q1 q2=>?_,a6⟩;rcases m2 i kv e q1 q2 with ⟨p1,p2⟩ | ⟨p1,p2⟩
      ·rw[p1,p2];exact ip.mono HL (fun _ h=>h) (fun _ h=>h.elim)
      ·exact(a5 i kv e p1 p2).mono HL (fun _ h=>h) (fun _ h=>h.elim))
     refine⟨_,_,_,?_,k4,i1,i2⟩;simp[Instr.mapUpdate,run_underlying eY,E6,Tt,r1,Ni]
    ·obtain⟨a,q1,q2⟩:=a4.some hj hkey;obtain⟨m1,m2⟩:=Oo a4 (x:=vk) (v:=str h x) (y:=vx) q1;obtain⟨i1,i2⟩:=DA.swap hI hl a1 a6 (.map sh (EL BU vk (str h x))) a3 (.map (es.modify j fun e=>{ e with key:=vk,val:=vx }) ck) w ⟨rfl,rfl,rfl,rfl⟩ (by simp) (fun hg HL EK Yz=>by
      obtain⟨u1,u2,u3,u4⟩:=Bw g r (g.ρ r) (g.ln r) (g.tk r) (g.own r) g.S;refine⟨u3.trans t1,b,_,_,u4.trans a1,u1.trans a2,EK,m1,fun i kv e q1 q2=>?_,a6⟩;rcases m2 i kv e q1 q2 with ⟨p1,p2⟩ | ⟨p1,p2⟩
      ·rw[p1,p2];exact ip.mono HL (fun _ h=>h) (fun _ h=>h.elim)
      ·exact(a5 i kv e p1 p2).mono HL (fun _ h=>h) (fun _ h=>h.elim))
     refine⟨_,_,_,?_,k4,i1,i2⟩;have mE : es[j]?=some en:=by simpa using hj
     have Ja:=Qx (P:=P) w k3;simp[Instr.mapUpdate,run_underlying eY,E6,Tt,r1,Ni,mE,hkey,Ja]
  ·rename_i sh BU e0;obtain⟨kt,e,k1,k2,k3,k4⟩:=Mo JS hk;have ho:=hI.objs r;rw[e0]at ho;obtain⟨t1,b,es,ck,a1,a2,a3,a4,a5,a6⟩:=ho;have hl:(h r).live:=by rw[e0];trivial
   cases hm with
   |mref _ _ b' hu ht hp =>
    rw[a2]at hp;cases hp;have eY:=hT.map k1;have E6:=run_getObj_map (P:=P) w b es ck a3;have Ni:∀o',(setObj b o').run P w=.ok () (setBlock w b o'):=fun o'=>by simp[setObj,Sem.run,a3,setBlock]
    have Tt:=fun bb=>L5 hT k2 w bb k3;obtain⟨res,r1,r2⟩:=ND hT k2 w k3 es.toList a4.shape;rcases r2 with ⟨rfl,hn⟩ | ⟨j,en,rfl,hj,hkey⟩
    ·obtain⟨m1,m2⟩:=SH a4 (x:=vk) (v:=x) (y:=vx) k3 (fun a=>a4.none hn a);obtain⟨i1,i2⟩:=DA.swap hI hl a1 a6 (.mapU sh (EL BU vk (x))) a3 (.map (es.push { key:=vk,val:=vx,born:=ck }) (ck+1)) w ⟨rfl,rfl,rfl,rfl⟩ (by simp) (fun hg HL EK Yz=>by
      obtain⟨u1,u2,u3,u4⟩:=Bw g r (g.ρ r) (g.ln r) (g.tk r) (g.own r) g.S;have J4:∀i,AP h i→AP (AS h r (.mapU sh (EL BU vk x))) i:=fun i hi=>DI (by simp) i hi;refine⟨u3.trans t1,b,_,_,u4.trans a1,u1.trans a2,EK,m1,fun i kv e q1 q2=>?_,a6⟩;rcases m2 i kv e q1 q2 with ⟨p1,p2⟩ | ⟨p1,p2⟩
      ·rw[p1,p2];exact hx.mono HL J4 hg
      ·exact(a5 i kv e p1 p2).mono HL J4 hg)
     refine⟨_,_,_,?_,k4,i1,i2⟩;simp[Instr.mapUpdate,run_underlying eY,E6,Tt,r1,Ni]
    ·obtain⟨a,q1,q2⟩:=a4.some hj hkey;obtain⟨m1,m2⟩:=Oo a4 (x:=vk) (v:=x) (y:=vx) q1;obtain⟨i1,i2⟩:=DA.swap hI hl a1 a6 (.mapU sh (EL BU vk (x))) a3 (.map (es.modify j fun e=>{ e with key:=vk,val:=vx }) ck) w ⟨rfl,rfl,rfl,rfl⟩ (by simp) (fun hg HL EK Yz=>by
      obtain⟨u1,u2,u3,u4⟩:=Bw g r (g.ρ r) (g.ln r) (g.tk r) (g.own r) g.S;have J4:∀i,AP h i→AP (AS h r (.mapU sh (EL BU vk x))) i:=fun i hi=>DI (by simp) i hi;refine⟨u3.trans t1,b,_,_,u4.trans a1,u1.trans a2,EK,m1,fun i kv e q1 q2=>?_,a6⟩;rcases m2 i kv e q1 q2 with ⟨p1,p2⟩ | ⟨p1,p2⟩
      ·rw[p1,p2];exact hx.mono HL J4 hg
      ·exact(a5 i kv e p1 p2).mono HL J4 hg)
     refine⟨_,_,_,?_,k4,i1,i2⟩;have mE : es[j]?=some en:=by simpa using hj
     have Ja:=Qx (P:=P) w k3;simp[Instr.mapUpdate,run_underlying eY,E6,Tt,r1,Ni,mE,hkey,Ja]
  ·exact hk.elim
 ·exact hk.elim
theorem Nv{d b:Nat}{es:Array MapEntry}{ck:Nat}{sh:EB}{BU:List (Value×AV)}(hd:h d=.free)(hS:g.S b 0)(hb:w.heap[b]?=some (.map es ck))(hm:GW sh es ck BU)
  (hv:∀(i:Nat) (kv:Value×AV) (e:MapEntry),BU[i]?=some kv→es[i]?=some e→BC g w E9 kv.2 e.val) :
  ∃g',DA w0 g0 h0 (AS h d (.iter BU BU none)) g' (w.alloc (.mapIter (some b) ck #[] ck))∧Le h g w (AS h d (.iter BU BU none)) g' (w.alloc (.mapIter (some b) ck #[] ck)) ∧
   BC g' (w.alloc (.mapIter (some b) ck #[] ck)) (AP (AS h d (.iter BU BU none))) (.ref d 0) (.pointer (some ⟨w.heap.size,0,none⟩)):=by
 obtain⟨k1,k2⟩:=hI.newOwn hd (.iter BU BU none) (.mapIter (some b) ck #[] ck) (.pointer (some ⟨w.heap.size,0,none⟩)) 0 false w ⟨rfl,rfl,rfl,rfl⟩ (by simp) (fun hg hk=>by
  obtain⟨u1,u2,u3,u4⟩:=Bw g d (.pointer (some ⟨w.heap.size,0,none⟩)) 0 false (some w.heap.size) g.S;obtain⟨c1,c2,c3⟩:=hk b 0 hS
  exact⟨u3,w.heap.size,b,ck,#[],ck,es,ck,u4,u1,Hr w _ rfl,c1,c3 es ck hb,⟨sh,hm⟩,rfl,rfl,fun i kv e q1 q2=>(hv i kv e q1 q2).mono hk (fun _ h=>h) (fun _ h=>h.elim),
   ⟨Ow hm.2.2.2.1,fun _ h=>h⟩,fun i kv e q1 q2=>by simp[List.mem_of_getElem? q1],trivial,fun o ho=>by have:=hI.slt _ _ ho;omega⟩)
 refine⟨_,k1,k2,.ref _ d 0 w.heap.size (by unfold AP;rw[A9];simp) ?_ ?_⟩<;>simp[Gh.upd]
theorem Qn{r b:Nat}{sh:EB}{BU:List (Value×AV)}{es:Array MapEntry}{ck:Nat}(e0:h r=.map sh BU)(a1:g.own r=some b)(a2:g.ρ r=.map (some b))(a3:w.heap[b]?=some (.map es ck))(a4:GW sh es ck BU)
  (a5:∀(i:Nat) (kv:Value×AV) (e:MapEntry),BU[i]?=some kv→es[i]?=some e→BC g w E9 kv.2 e.val) (t1:g.tk r=false) :
  ∃g',DA w0 g0 h0 (AS h r (.rom sh BU)) g' w∧Le h g w (AS h r (.rom sh BU)) g' w∧g'.S b 0:=by
 have hl:(h r).live:=by rw[e0];trivial
 have Dz:=(hI.loc r b hl a1).1
 obtain⟨k1,k2⟩:=hI.upd r (.rom sh BU) (g.ρ r) (g.ln r) (g.tk r) none (g.more b 1) w none ⟨rfl,rfl,rfl,Al _⟩ (fun _ _ _=>rfl) (fun b e=>by cases e) (fun _ _ h=>.inl h)
  (fun b' o hs=>hs.elim .inl (fun hs=>.inr ⟨by rw[hs.1];exact Dz,.inr ⟨hl,by rw[hs.1];exact a1⟩⟩)) (fun b o e=>by cases e) (fun b hh _=>by cases hh) (by simp)
  (fun _=>⟨rfl,Al _,fun _=>rfl,fun _=>rfl⟩) (fun hg hk=>by
   obtain⟨u1,u2,u3,u4⟩:=Bw g r (g.ρ r) (g.ln r) (g.tk r) none (g.more b 1);exact⟨u3.trans t1,b,u1.trans a2,.cmap _ sh BU b es ck (.inr ⟨rfl,T1⟩) a3 a4 (fun i kv e q1 q2=>(a5 i kv e q1 q2).mono hk (fun _ h=>h) (fun _ h=>h.elim))⟩)
 exact⟨_,k1,k2,.inr ⟨rfl,T1⟩⟩
theorem VM{r b:Nat}{sh:EB}{BU:List (Value×AV)}{es:Array MapEntry}{ck:Nat}(e0:h r=.mapU sh BU)(a1:g.own r=some b)(a2:g.ρ r=.map (some b))(a3:w.heap[b]?=some (.map es ck))(a4:GW sh es ck BU)
  (a5:∀(i:Nat) (kv:Value×AV) (e:MapEntry),BU[i]?=some kv→es[i]?=some e→BC g w (AP h) kv.2 e.val) (t1:g.tk r=false) :
  ∃g',DA w0 g0 h0 (AS h r (.rom sh (QM h BU))) g' w∧Le h g w (AS h r (.rom sh (QM h BU))) g' w∧g'.S b 0:=by
 have hl:(h r).live:=by rw[e0];trivial
 have Dz:=(hI.loc r b hl a1).1
 obtain⟨k1,k2⟩:=hI.upd r (.rom sh (QM h BU)) (g.ρ r) (g.ln r) (g.tk r) none (g.more b 1) w none ⟨rfl,rfl,rfl,Al _⟩ (fun _ _ _=>rfl) (fun b e=>by cases e) (fun _ _ h=>.inl h)
  (fun b' o hs=>hs.elim .inl (fun hs=>.inr ⟨by rw[hs.1];exact Dz,.inr ⟨hl,by rw[hs.1];exact a1⟩⟩)) (fun b o e=>by cases e) (fun b hh _=>by cases hh) (by simp)
  (fun _=>⟨rfl,Al _,fun _=>rfl,fun _=>rfl⟩) (fun hg hk=>by
   obtain⟨u1,u2,u3,u4⟩:=Bw g r (g.ρ r) (g.ln r) (g.tk r) none (g.more b 1);refine⟨u3.trans t1,b,u1.trans a2,.cmap _ sh _ b es ck (.inr ⟨rfl,T1⟩) a3 (UE _ a4) (fun i kv e q1 q2=>?_)⟩;unfold QM at q1;rw[AF]at q1;obtain⟨p,q3,rfl⟩:=AT.1 q1;exact((a5 i p e q3 q2).str hI.objs).mono hk (fun _ h=>h) (fun _ h=>h.elim))
 exact⟨_,k1,k2,.inr ⟨rfl,T1⟩⟩
theorem cj{T:Gg}(hT:Ck P T){ty kt e:Nat}(ht:(T ty).d=.map kt e){d:Option Nat}{x:AV}{vx:Value}{K:HK}(hx:BC g w (AP h) x vx)(hk:YX d h x K) :
  NI P w0 g0 h0 h g w (Instr.range ty vx) K:=by
 have hu:=hT.map ht;unfold YX at hk;split at hk
 ·exact hk.elim
 ·rename_i d;split at hk
  ·rename_i hd;have CA:∀b es ck,w.heap[b]?=some (.map es ck)→(Instr.range ty (.map (some b))).run P w=.ok (.pointer (some ⟨w.heap.size,0,none⟩)) (w.alloc (.mapIter (some b) ck #[] ck)):=fun b es ck hb=>by
    simp[Instr.range,run_underlying hu,run_getObj_map (P:=P) w b es ck hb]
   split at hk
   ·cases hx with
    |cmap _ _ _ b es ck hS hb hm hv =>
     obtain⟨g',k1,k2,k3⟩:=Nv hI hd hS hb hm hv;exact⟨_,_,_,_,_,CA _ _ _ hb,hk,k1,k2,k3⟩
   ·rename_i r;have ho:=hI.objs r;cases hx with
    |mref _ _ b eY ht' hp =>
     split at hk
     ·rename_i sh BU e0;rw[e0]at ho;obtain⟨_,b',a1,a2⟩:=ho;rw[a1]at hp;cases hp;cases a2 with
      |cmap _ _ _ _ es ck hS hb hm hv =>
       obtain⟨g',k1,k2,k3⟩:=Nv hI hd hS hb hm hv;exact⟨_,_,_,_,_,CA _ _ _ hb,hk,k1,k2,k3⟩
     ·rename_i sh BU e0;rw[e0]at ho;obtain⟨t1,b',es,ck,a1,a2,a3,a4,a5,a6⟩:=ho;rw[a2]at hp;cases hp;obtain⟨g1,i1,i2,i3⟩:=Qn hI e0 a1 a2 a3 a4 a5 t1;have Dt:d≠r:=fun e=>by rw[e,e0]at hd;cases hd
      obtain⟨g',k1,k2,k3⟩:=Nv i1 (by rw[BR _ _ _ _ Dt];exact hd) i3 a3 a4 (fun i kv e q1 q2=>(a5 i kv e q1 q2).mono i2.keeps (fun _ h=>h) (fun _ h=>h.elim));exact⟨_,_,_,_,_,CA _ _ _ a3,hk,k1,i2.trans k2,k3⟩
     ·exact hk.elim
   ·exact hk.elim
  ·exact hk.elim
theorem fL{ty:TypeId}{x:AV}{vx:Value}{K:HK}(hx:BC g w (AP h) x vx)(hk:fK h x K):NI P w0 g0 h0 h g w (Instr.next vx false ty) K:=by
 unfold fK at hk;split at hk
 ·rename_i r;split at hk
  ·rename_i all rem Fs e0;have ho:=hI.objs r;rw[e0]at ho;obtain⟨t1,b,mb,JI,seen,st,es,ck,a1,a2,a3,a4,a5,⟨sh,a6⟩,a7,a8,a9,Wn,Y9,a12,lB⟩:=ho;have hl:(h r).live:=by rw[e0];trivial
   cases hx with
   |ref _ _ _ b' hu ht hp =>
    rw[a2]at hp;cases hp;have Dz:∀e∈es.toList,e.born<JI:=fun e he=>by
     obtain⟨i,hi⟩:=B1.1 he
     have:=a6.2.2.2.2.1 i e (by simpa using hi)
     omega
    rcases run_next_at (P:=P) w ty b mb JI st seen es ck a3 a5 Dz (by omega)with ⟨q1,q2⟩ | ⟨e,q1,w1,q2,q3⟩
    ·have uB:rem=[]:=by
      apply Li.2;intro kv OT;obtain⟨i,hi⟩:=B1.1 (Wn.2 kv OT);have uc:i<es.size:=by rw[a6.1];exact(Ap.1 hi).1
      have hb:=(Y9 i kv es[i] hi (by simp[uc])).1 OT;have hm:es[i]∈leftOf es seen:=by simp[leftOf,hb]
      have:=Array.size_pos_of_mem hm
      omega
     exact⟨_,w,g,_,h,q2,hk.1 uB,hI,.refl _ _ _,.tup _ _ _ rfl (fun i av x h1 h2=>by
      match i,h1,h2 with
      |0,h1,h2=>simp at h1 h2;subst h1;subst h2;exact .v _ _)⟩
    ·have hq:e∈es∧e.born∉seen:=by simpa[leftOf]using q1
     obtain⟨i,hi⟩:=Array.mem_iff_getElem?.1 hq.1;have uc:i<all.length:=by rw[←a6.1];exact(Bm.1 hi).1
     have nU:all[i]?=some all[i]:=As uc;have ii:=(Y9 i _ e nU hi).2 hq.2;obtain⟨s1,s2,hs⟩:=List.append_of_mem ii;have II:rem.Perm (all[i]::(s1++s2)):=by rw[hs];exact List.perm_middle
     have QH:(all[i]::(s1++s2)).Nodup:=II.nodup_iff.1 Wn.1;have hr:=a9 i _ e nU hi;have hkey:=a6.2.1 i _ e nU hi;have KE:w1.heap=w.heap∧w1.os=w.os∧w1.tape=w.tape∧w1.output=w.output:=by rcases q2 with rfl | rfl<;>exact⟨rfl,rfl,rfl,rfl⟩
     obtain⟨k1,k2⟩:=DA.swap hI hl a1 lB (.iter all (s1++s2) (some all[i])) a3 (.mapIter (some mb) JI (seen.push e.born) ck) w1 KE (by simp) (fun hg HL EK Yz=>by
      obtain⟨u1,u2,u3,u4⟩:=Bw g r (g.ρ r) (g.ln r) (g.tk r) (g.own r) g.S;obtain⟨c1,c2,c3⟩:=HL mb 0 a4
      refine⟨u3.trans t1,b,mb,JI,_,ck,es,ck,u4.trans a1,u1.trans a2,EK,c1,c3 _ _ a5,⟨sh,a6⟩,a7,rfl,fun i kv e p q=>(a9 i kv e p q).mono HL (fun _ h=>h) (fun _ h=>h.elim),
       ⟨(CI.1 QH).2,fun kv OT=>Wn.2 kv (II.mem_iff.2 (Ah _ OT))⟩,fun j kv e' p q=>?_,⟨i,e,nU,hi,by simp⟩,lB⟩
      rw[Array.mem_push];have h1:=Y9 j kv e' p q;rw[II.mem_iff,Av]at h1;constructor
      ·intro OT hc;rcases hc with hc | hc
       ·exact(h1.1 (.inr OT)) hc
       ·obtain rfl:=a6.2.2.2.2.2 j i e' e q hi hc;rw[nU]at p;cases p;exact(CI.1 QH).1 OT
      ·intro hc;rcases h1.2 (fun hm=>hc (.inl hm))with e2 | e2
       ·have:j=i:=UH (f:=fun x=>x) (l:=all) (by simpa using Ow a6.2.2.2.1) p nU e2
        subst this;rw[hi]at q;cases q;exact absurd (.inr rfl) hc
       ·exact e2)
     refine⟨_,_,_,_,_,q3,hk.2 all[i] (s1++s2) II,k1,k2,.tup _ _ _ rfl (fun j av x h1 h2=>?_)⟩
     match j,h1,h2 with
     |0,h1,h2=>simp at h1 h2;subst h1;subst h2;exact .v _ _
     |1,h1,h2=>simp at h1 h2;subst h1;subst h2;rw[hkey];exact .v _ _
     |2,h1,h2=>simp at h1 h2;subst h1;subst h2;exact(hr.up _).le k2
  ·exact hk.elim
 ·exact hk.elim
end
end Go.Eng
namespace Go.Eng
def F0(F:(AV→Prop)→Prop):Prop:=∀K,F K→∃v,K v∧∀K',K' v→F K'
theorem Dh(v:AV):F0 (fun K=>K v):=fun _ h=>⟨v,h,fun _ h=>h⟩
theorem Dq{p:Prop}{F:(AV→Prop)→Prop}(h:F0 F):F0 (fun K=>p∧F K):=fun K ⟨hp,hk⟩ =>
 let ⟨v,h1,h2⟩:=h K hk
 ⟨v,h1,fun K' h'=>⟨hp,h2 K' h'⟩⟩
theorem Cm:F0 (fun _=>False):=fun _ h=>h.elim
theorem UM(p:Prop):F0 (IF p):=fun K h=>by
 by_cases hp:p
 ·exact⟨_,h.1 hp,fun K' h'=>⟨fun _=>h',fun hn=>absurd hp hn⟩⟩
 ·exact⟨_,h.2 hp,fun K' h'=>⟨fun q=>absurd q hp,fun _=>h'⟩⟩
theorem XJ{F:(AV→Prop)→Prop}(h:F0 F):F0 (fun K=>F (bM K)):=fun K hk=>by
 obtain⟨v,h1,h2⟩:=h _ hk;unfold bM at h1;split at h1
 ·exact⟨_,h1,fun K' h'=>h2 _ h'⟩
 ·exact⟨_,h1,fun K' h'=>h2 _ h'⟩
 ·exact h1.elim
theorem Mz{α:Type}{F:α→(AV→Prop)→Prop}(h:∀x,F0 (F x)):F0 (fun K=>∃x,F x K):=fun K ⟨x,hk⟩ =>
 let ⟨v,h1,h2⟩:=h x K hk
 ⟨v,h1,fun K' h'=>⟨x,h2 K' h'⟩⟩
theorem H2(T:Gg)(t:Nat)(cs:List AV):F0 (Ld T t cs):=by
 have head:F0 (LJ cs):=by unfold LJ;cases cs with | nil=>exact Cm | cons a _=>exact Dh a
 unfold Ld;split
 ·exact Dq (Dh _)
 ·exact Dq (Dh _)
 ·cases cs with
  |nil=>exact Cm
  |cons a _ =>
   intro K h;simp only[LJ]at h⊢;split at h
   ·rename_i b;cases b with
    |true=>exact⟨_,h.1 rfl,fun K' h'=>⟨fun _=>h',fun e=>by cases e⟩⟩
    |false=>exact⟨_,h.2 rfl,fun K' h'=>⟨fun e=>(by cases e),fun _=>h'⟩⟩
   ·exact h.elim
 ·exact Cm
 ·exact head
theorem ZM(T:Gg)(t:Nat)(x y:AV)(hx:∀tk es,x≠.slice tk es):F0 (nR T t x y):=by
 unfold nR
 repeat' split
 all_goals first | exact Cm | exact Dh _ | exact UM _ | exact Dq (Dh _) | exact absurd rfl (hx _ _)
theorem YT(op:BinOp)(k:IntKind)(a b:Int):F0 (Ru op k a b):=by
 unfold Ru
 repeat' split
 all_goals first | exact Cm | exact Dq (Dh _) | (unfold X7;split<;>first | exact Cm | exact Dh _)
theorem fZ(T:Gg)(op:BinOp)(t:Nat)(x y:AV)(hx:∀tk es,x≠.slice tk es):F0 (Ry T op t x y):=by
 unfold Ry
 repeat' split
 all_goals first | exact Cm | exact UM _ | exact YT _ _ _ _ | exact Dq (Dh _) | exact ZM _ _ _ _ hx | exact XJ (ZM _ _ _ _ hx)
theorem cc(T:Gg)(op:BinOp)(t:Nat)(Y:Operand)(x y:AV)(hx:∀tk es,x≠.slice tk es):F0 (Wt T op t Y x y):=by
 unfold Wt
 repeat' split
 all_goals first | exact Cm | exact Dh _ | exact fZ _ _ _ _ _ hx
theorem cd(T:Gg)(s t:Nat)(x:AV):F0 (WA T s t x):=by
 unfold WA
 repeat' split
 all_goals first | exact Cm | exact Dh _ | exact Dq (Dh _) | exact Mz fun _=>Dq (Dh _)
theorem YV(T:Gg)(s f:Nat)(x:AV):F0 (RP T s f x):=by
 unfold RP
 repeat' split
 all_goals first | exact Cm | exact Dh _
theorem XH(T:Gg)(s f:Nat)(x:AV):F0 (N6 T s f x):=by
 unfold N6
 repeat' split
 all_goals first | exact Cm | exact H2 _ _ _
theorem SZ(T:Gg)(t:Nat)(x ix:AV):F0 (Jb T t x ix):=by
 unfold Jb
 repeat' split
 all_goals first | exact Cm | exact Dq (Dh _) | exact Mz fun _=>Dq (Dq (Dh _))
theorem YW(T:Gg)(t:Nat)(x ix:AV):F0 (Ss T t x ix):=by
 unfold Ss
 repeat' split
 all_goals first | exact Cm | exact Dq (H2 _ _ _) | exact Mz fun _=>Dq (Dh _)
theorem VQ(x:AV)(i:Nat):F0 (LA x i):=by
 unfold LA
 repeat' split
 all_goals first | exact Cm | exact Dh _
theorem gg(x:AV):F0 (Ks x):=by
 unfold Ks
 repeat' split
 all_goals first | exact Cm | exact Dh _
theorem ce(c a b:AV):F0 (XF c a b):=by
 unfold XF
 repeat' split
 all_goals first | exact Cm | exact Dh _
theorem jS(f:Int→Int→Int)(x y:AV):F0 (jD f x y):=by
 unfold jD
 repeat' split
 all_goals first | exact Cm | exact Dh _
theorem cf(op:UnOp)(x:AV):F0 (XS op x):=by
 unfold XS
 repeat' split
 all_goals first | exact Cm | exact XJ (Dh _) | exact Dq (Dh _)
def kr{α:Type}(F:(α→Prop)→Prop):Prop:=∀K,F K→∃v,K v∧∀K',K' v→F K'
theorem XG(n:Nat)(a:AV):kr (GN n a):=by
 intro K h;unfold GN at h⊢
 repeat' split at h
 all_goals first | exact h.elim | skip
 all_goals exact⟨_,h,fun K' h'=>h'⟩
theorem SX(pl:Nat→Option (Nat×Nat))(t:Nat→AV):∀(ps:List (Nat×Operand)) (cs:List AV),kr (Kl pl cs t ps)
 | [],cs=>fun K h=>⟨cs,h,fun _ h=>h⟩
 |(i,x)::r,cs=>by
  intro K h;unfold Kl at h;split at h
  ·exact h.elim
  ·rename_i o n e;obtain⟨vs,h1,h2⟩:=XG _ _ _ h;split at h1
   ·rename_i hb;obtain⟨c,h3,h4⟩:=SX pl t r _ _ h1;refine⟨c,h3,fun K' h'=>?_⟩;unfold Kl;simp only[e];refine h2 _ ?_;simp only[hb];exact h4 K' h'
   ·exact h1.elim
theorem YU(T:Gg)(ty:Nat)(t:Nat→AV)(ps:List (Nat×Operand)):F0 (OZ T ty t ps):=by
 unfold OZ
 repeat' split
 all_goals first
  |exact Cm
  |exact fun K h=>let ⟨c,h1,h2⟩:=SX _ _ _ _ _ h;⟨_,h1,fun K' h'=>h2 _ h'⟩
def wE(h:Nat→HO)(e:Option (Nat×HO)):Nat→HO:=match e with | none=>h | some (r,o)=>AS h r o
structure IB(o:Oper)(R:List Nat)(st st2:St):Prop where
 t:∀x∈o.op.operands,ev st2.t x=ev st.t x
 h:∀r∈R,st2.h r=st.h r
def D8(cx:Cx)(o:Oper)(st:St)(R:List Nat)(w:Option Nat)(K:HK):Prop :=
 ∃v e,K v (wE st.h e)∧(∀r o',e=some (r,o')→w=some r∧r∈R)∧∀st2,IB o R st st2→∀K' : HK,K' v (wE st2.h e)→FF cx true o st2 K'
def Ri(w:Option Nat)(r:Nat):Prop:=match w with | none=>False | some x=>x=r∨(10000000≤x∧(x % 10000000=r∨x / 10000000=r))∨x=Vd
def HS(h:Nat→HO):List (Nat×HO)→Nat→HO
 | []=>h
 |p::l=>HS (AS h p.1 p.2) l
def QQ(cx:Cx)(o:Oper)(st:St)(R:List Nat)(w:Option Nat)(K:HK):Prop :=
 ∃v e,K v (HS st.h e)∧(∀r o',(r,o')∈e→Ri w r∧r∈R)∧∀st2,IB o R st st2→∀K' : HK,K' v (HS st2.h e)→FF cx true o st2 K'
section
variable {cx:Cx}{o:Oper}{st:St}{R:List Nat}{w:Option Nat}{K:HK}
theorem D8.pick{F:(AV→Prop)→Prop}(hF:F0 F)(h:F fun v=>K v st.h)(h2:∀st2,IB o R st st2→∀K' : HK,F (fun v=>K' v st2.h)→FF cx true o st2 K'):D8 cx o st R w K :=
 let ⟨v,h1,h3⟩:=hF _ h
 ⟨v,none,h1,fun _ _ e=>(by cases e),fun st2 ha K' hk=>h2 st2 ha K' (h3 _ hk)⟩
theorem Xo{cs:List AV}{a:AV}(h:a∈cs):∀r∈TP a,r∈jr cs:=by
 induction cs with
 |nil=>cases h
 |cons c cs ih =>
  intro r hr;rcases Av.1 h with rfl | h
  ·exact Bn _ hr
  ·exact Bf _ (ih h r hr)
theorem fB{cs:List AV}{a:AV}(h:a∈cs):∀r∈TQ a,r∈mS cs:=by
 induction cs with
 |nil=>cases h
 |cons c cs ih =>
  intro r hr;rcases Av.1 h with rfl | h
  ·exact Bn _ hr
  ·exact Bf _ (ih h r hr)
theorem Xn{cs:List AV}{a:AV}(h:a∈cs):∀r∈Wi a,r∈So cs:=by
 induction cs with
 |nil=>cases h
 |cons c cs ih =>
  intro r hr;rcases Av.1 h with rfl | h
  ·exact Bn _ hr
  ·exact Bf _ (ih h r hr)
theorem Uu(a:AV):∀r∈TP a,r∈TQ a:=by cases a<;>simp[TP,TQ]
theorem PG{h h2:Nat→HO}{a:AV}(e:∀r∈TP a,h2 r=h r):str0 h2 a=str0 h a:=by
 cases a<;>simp only[str0]
 ·rw[e _ (by simp[TP])]
 ·rw[e _ (by simp[TP])]
theorem UW{h h2:Nat→HO}{a:AV}(e:∀r∈TQ a,h2 r=h r):str h2 a=str h a:=by
 cases a with
 |agg cs=>simp only[str];exact Ac _ (A8 fun c hc=>PG fun r hr=>e r (Xo hc r hr))
 |clo f cs=>simp only[str];exact Ac _ (A8 fun c hc=>PG fun r hr=>e r (Xo hc r hr))
 |_=>exact PG (fun r hr=>e r (Uu _ r hr))
theorem fb(a:AV):∀r∈TQ a,r∈Wi a:=by
 cases a with
 |agg cs =>
  intro r hr;simp only[Wi,TQ]at *
  induction cs with
  |nil=>exact hr
  |cons c cs ih =>
   rcases AW.1 hr with h | h
   ·exact Bn _ (Uu c r h)
   ·exact Bf _ (ih h)
 |_=>exact fun r hr=>hr
theorem KB{h h2:Nat→HO}{a:AV}(e:∀r∈Wi a,h2 r=h r):str h2 a=str h a:=UW fun r hr=>e r (fb a r hr)
theorem PH{h h2:Nat→HO}{l:List AV}(e:∀r∈So l,h2 r=h r):l.map (str h2)=l.map (str h) :=
 A8 fun _ ha=>KB fun r hr=>e r (Xn ha r hr)
theorem gy{h h2:Nat→HO}{a:AV}(e:∀r∈Wi a,h2 r=h r):rsv h2 a=rsv h a:=by
 cases a<;>simp only[rsv]
 ·rw[e _ (by simp[Wi,TQ,TP])]
 ·rw[e _ (by simp[Wi,TQ,TP])]
theorem M8{n:Nat}{a:AV}{K:List AV→Prop}(hk:GN n a K):∃cs,K cs∧(∀K' : List AV→Prop,K' cs→GN n a K')∧∀h h2:Nat→HO,(∀r∈Wi a,h2 r=h r)→cs.map (str h2)=cs.map (str h):=by
 have single:K [a]→(∀K' : List AV→Prop,K' [a]→GN n a K')→∃cs,K cs∧(∀K' : List AV→Prop,K' cs→GN n a K')∧∀h h2:Nat→HO,(∀r∈Wi a,h2 r=h r)→cs.map (str h2)=cs.map (str h) :=
  fun h1 h2=>⟨[a],h1,h2,fun h h2 e=>by simp[KB e]⟩
 unfold GN at hk;split at hk
 ·rename_i cs;split at hk
  ·rename_i hn;refine⟨cs,hk,fun K' h=>by unfold GN;simp only[hn];exact h,fun h h2 e=>A8 fun c hc=>UW fun r hr=>e r (fB hc r hr)⟩
  ·exact hk.elim
 ·rename_i mG;split at hk
  ·rename_i h1;split at hk
   ·refine single hk fun K' h=>?_;unfold GN;split
    ·rename_i cs;exact absurd rfl (mG cs)
    ·rw[h1];exact h
   ·exact hk.elim
  ·exact hk.elim
theorem RQ{n sz:Nat}{t:Nat→AV}:∀{ps:List (Nat×Operand)} {es:List (List AV)} {h:Nat→HO} {K:List (List AV)→Prop},P0 n sz h es t ps K →
  ∃Ft,K Ft∧∀(t2:Nat→AV) (h2:Nat→HO),(∀r∈So (ps.map fun p=>ev t p.2),h2 r=h r)→(∀p∈ps,ev t2 p.2=ev t p.2)→∀K' : List (List AV)→Prop,K' Ft→P0 n sz h2 es t2 ps K'
 | [],es,h,K,hk=>⟨es,hk,fun _ _ _ _ _ h=>h⟩
 |(i,x)::r,es,h,K,hk=>by
  unfold P0 at hk;split at hk
  ·rename_i hb;obtain⟨cs,c1,c2,c3⟩:=M8 hk;obtain⟨Ft,e1,e2⟩:=RQ c1;refine⟨Ft,e1,fun t2 h2 hh ht K' JS=>?_⟩;unfold P0;rw[hb,ht (i,x) (Ab ..)];refine c2 _ ?_;rw[c3 h h2 (fun r hr=>hh r (Bn _ hr))];exact e2 t2 h2 (fun r hr=>hh r (Bf _ hr)) (fun p hp=>ht p (Ah _ hp)) K' JS
  ·exact hk.elim
theorem H8{d:Option Nat}{h:Nat→HO}{sz:Nat}{es:List (List AV)}(hk:Es cx d h sz es K) :
  ∃d',d.map (Kj cx)=some d'∧∃v x,K v (AS h d' x)∧∀h2:Nat→HO,h2 d'=h d'→∀K' : HK,K' v (AS h2 d' x)→Es cx d h2 sz es K':=by
 unfold Es at hk;split at hk
 ·exact hk.elim
 ·rename_i d;split at hk
  ·rename_i hd;split at hk
   ·rename_i e;exact⟨Kj cx d,rfl,_,_,hk,fun h2 hh K' h'=>by unfold Es;simp only[hh,hd,e];exact h'⟩
   ·rename_i e;exact⟨Kj cx d,rfl,_,_,hk,fun h2 hh K' h'=>by unfold Es;simp only[hh,hd,e];exact h'⟩
  ·exact hk.elim
theorem Yl{h:Nat→HO}{x:AV}{K:List (List AV)→Prop}(hk:KP h x K):∃es,K es∧∀h2:Nat→HO,(∀r n,x=.msl r n→h2 r=h r)→∀K' : List (List AV)→Prop,K' es→KP h2 x K':=by
 unfold KP at hk;split at hk
 ·exact⟨_,hk,fun _ _ K' h=>h⟩
 ·exact⟨_,hk,fun _ _ K' h=>h⟩
 ·rename_i r n;split at hk
  ·rename_i sz es e;exact⟨_,hk.2,fun h2 hh K' h=>by unfold KP;simp only[hh r n rfl,e];exact⟨hk.1,h⟩⟩
  ·exact hk.elim
 ·exact hk.elim
end
section
variable {cx:Cx}{dst:Option Nat}{ty:Nat}{pos:String}{after:Array Edge}{gd:Option (Nat×Bool)}{st:St}{R:List Nat}{w:Option Nat}{K:HK}
theorem Il{d:Option Nat}{l:List Nat}{f:Fl}(h:Ik d l=some f):∃d',d=some d'∧f=(d' :: l,some d'):=by
 unfold Ik at h;cases d with
 |none=>cases h
 |some d=>cases h;exact⟨d,rfl,rfl⟩
theorem WT{e:Nat}(hk:FF cx true ⟨dst,.alloc e,ty,pos,after,gd⟩ st K)(hf:E5 cx ⟨dst,.alloc e,ty,pos,after,gd⟩ st=some (R,w)):D8 cx ⟨dst,.alloc e,ty,pos,after,gd⟩ st R w K:=by
 simp only[FF]at hk;obtain⟨d,rfl,e0⟩:=Il hf;cases e0;unfold Rs at hk;simp only at hk;split at hk
 ·rename_i hd;split at hk
  ·exact hk.elim
  ·rename_i Dt;split at hk
   ·rename_i ha;refine⟨_,some (d,_),hk,fun r o' e=>(by cases e;exact⟨rfl,Ab ..⟩),fun st2 GJ K' h'=>?_⟩;simp only[FF,Rs];rw[GJ.h d (Ab ..),hd];simp only[ha];exact h'
   ·exact hk.elim
 ·exact hk.elim
theorem aU{e:Nat}{x:Operand}(hk:FF cx true ⟨dst,.box e x,ty,pos,after,gd⟩ st K)(hf:E5 cx ⟨dst,.box e x,ty,pos,after,gd⟩ st=some (R,w)):D8 cx ⟨dst,.box e x,ty,pos,after,gd⟩ st R w K:=by
 simp only[FF]at hk;obtain⟨d,rfl,e0⟩:=Il hf;cases e0;unfold aC at hk;simp only at hk;split at hk
 ·rename_i hd;split at hk
  ·exact hk.elim
  ·rename_i Dt;obtain⟨cs,c1,c2,c3⟩:=M8 hk;split at c1
   ·rename_i hm;refine⟨_,some (d,_),c1,fun r o' e=>(by cases e;exact⟨rfl,Ab ..⟩),fun st2 GJ K' h'=>?_⟩;have hx:ev st2.t x=ev st.t x:=GJ.t x (by simp[Op.operands]);simp only[FF,aC];rw[GJ.h d (Ab ..),hd,hx];simp only[hm];refine c2 _ ?_;rw[c3 st.h st2.h (fun r hr=>GJ.h r (Ah _ hr))];exact h'
   ·rename_i hm;refine⟨_,some (d,_),c1,fun r o' e=>(by cases e;exact⟨rfl,Ab ..⟩),fun st2 GJ K' h'=>?_⟩;have hx:ev st2.t x=ev st.t x:=GJ.t x (by simp[Op.operands]);simp only[FF,aC];rw[GJ.h d (Ab ..),hd,hx];simp only[hm];exact c2 _ h'
 ·exact hk.elim
theorem Pf{t n:Nat}{ps:Array (Nat×Operand)}(hk:FF cx true ⟨dst,.buildSlice t n ps,ty,pos,after,gd⟩ st K)(hf:E5 cx ⟨dst,.buildSlice t n ps,ty,pos,after,gd⟩ st=some (R,w)) :
  D8 cx ⟨dst,.buildSlice t n ps,ty,pos,after,gd⟩ st R w K:=by
 simp only[FF]at hk;obtain⟨d,bf,e0⟩:=Il hf;cases e0;unfold Ih at hk;split at hk
 ·rename_i e he;split at hk
  ·rename_i h1 h2;split at hk
   ·exact hk.elim
   ·rename_i k Eu;split at hk
    ·rename_i hb;obtain⟨es,q1,q2⟩:=RQ hk;obtain⟨d',hd,v,x,q3,q4⟩:=H8 q1;have hd:dst.map (Kj cx)=some d':=hd;have bf:dst.map (Kj cx)=some d:=bf;rw[bf]at hd;cases hd;refine⟨v,some (d,x),q3,fun r o' e=>(by cases e;exact⟨rfl,Ab ..⟩),fun st2 GJ K' h'=>?_⟩;have hx:∀p∈ps.toList,ev st2.t p.2=ev st.t p.2:=fun p hp=>GJ.t p.2 (by
      simp only[Op.operands,List.mem_toArray];exact Ak.2 ⟨p,hp,rfl⟩)
     simp only[FF,Ih,he,h1,h2];split
     ·rename_i e0;rw[Eu]at e0;cases e0
     ·rw[hb];exact q2 st2.t st2.h (fun r hr=>GJ.h r (Ah _ hr)) hx _ (q4 st2.h (GJ.h d (Ab ..)) K' h')
    ·exact hk.elim
  ·exact hk.elim
 ·exact hk.elim
theorem QC{t:Nat}{n c:Operand}(hk:FF cx true ⟨dst,.makeSlice t n c,ty,pos,after,gd⟩ st K)(hf:E5 cx ⟨dst,.makeSlice t n c,ty,pos,after,gd⟩ st=some (R,w)) :
  D8 cx ⟨dst,.makeSlice t n c,ty,pos,after,gd⟩ st R w K:=by
 simp only[FF]at hk;obtain⟨d,bf,e0⟩:=Il hf;cases e0;have hn:∀st2,IB ⟨dst,.makeSlice t n c,ty,pos,after,gd⟩ (d::[]) st st2→ev st2.t n=ev st.t n∧ev st2.t c=ev st.t c:=fun st2 ha=>⟨ha.t n (by simp[Op.operands]),ha.t c (by simp[Op.operands])⟩;unfold Jd at hk;split at hk
 ·rename_i e a b h1 h2 h3;split at hk
  ·rename_i h4;split at hk
   ·rename_i h5;split at hk
    ·exact hk.elim
    ·rename_i k Eu;obtain⟨d',hd,v,x,q3,q4⟩:=H8 hk.2;have hd:dst.map (Kj cx)=some d':=hd;have bf:dst.map (Kj cx)=some d:=bf;rw[bf]at hd;cases hd;refine⟨v,some (d,x),q3,fun r o' e=>(by cases e;exact⟨rfl,Ab ..⟩),fun st2 GJ K' h'=>?_⟩;simp only[FF,Jd,(hn st2 GJ).1,(hn st2 GJ).2,h1,h2,h3,h4,h5];split
     ·rename_i e0;rw[Eu]at e0;cases e0
     ·exact⟨hk.1,q4 st2.h (GJ.h d (Ab ..)) K' h'⟩
   ·exact hk.elim
  ·exact hk.elim
 ·exact hk.elim
theorem TJ{t:Nat}{r:Option Operand}(hk:FF cx true ⟨dst,.makeMap t r,ty,pos,after,gd⟩ st K)(hf:E5 cx ⟨dst,.makeMap t r,ty,pos,after,gd⟩ st=some (R,w)) :
  D8 cx ⟨dst,.makeMap t r,ty,pos,after,gd⟩ st R w K:=by
 cases r with
 |some r=>exact hk.elim
 |none =>
  simp only[FF]at hk;obtain⟨d,rfl,e0⟩:=Il hf;cases e0;unfold Kp at hk;simp only at hk;split at hk
  ·rename_i hd;split at hk
   ·rename_i h1;split at hk
    ·rename_i h2;split at hk
     ·rename_i h3;refine⟨_,some (d,_),hk,fun r o' e=>(by cases e;exact⟨rfl,Ab ..⟩),fun st2 GJ K' h'=>?_⟩;simp only[FF,Kp];rw[GJ.h d (Ab ..),hd];simp only[h1,h2,h3];exact h'
     ·rename_i h3;refine⟨_,some (d,_),hk,fun r o' e=>(by cases e;exact⟨rfl,Ab ..⟩),fun st2 GJ K' h'=>?_⟩;simp only[FF,Kp];rw[GJ.h d (Ab ..),hd];simp only[h1,h2,h3];exact h'
    ·exact hk.elim
   ·exact hk.elim
  ·exact hk.elim
theorem WU{t:Nat}{p x:Operand}(hk:FF cx true ⟨dst,.store t p x,ty,pos,after,gd⟩ st K)(hf:E5 cx ⟨dst,.store t p x,ty,pos,after,gd⟩ st=some (R,w)) :
  D8 cx ⟨dst,.store t p x,ty,pos,after,gd⟩ st R w K:=by
 simp only[FF]at hk;have hn:∀st2,IB ⟨dst,.store t p x,ty,pos,after,gd⟩ R st st2→ev st2.t p=ev st.t p∧ev st2.t x=ev st.t x:=fun st2 ha=>⟨ha.t p (by simp[Op.operands]),ha.t x (by simp[Op.operands])⟩;unfold NE at hk;split at hk
 ·exact hk.elim
 ·rename_i Dt;obtain⟨cs,c1,c2,c3⟩:=M8 hk;simp only[E5]at hf;split at hf
  ·rename_i r off hp;split at hf
   ·cases hf
   ·rename_i hm;cases hf;rw[hp]at c1;simp only at c1;split at c1
    ·rename_i Fs hr;obtain⟨Hb,JS⟩:=c1;rw[hm]at JS;refine⟨_,some (r,_),JS,fun r o' e=>(by cases e;exact⟨rfl,Ab ..⟩),fun st2 GJ K' h'=>?_⟩;simp only[FF,NE,(hn st2 GJ).1,(hn st2 GJ).2];refine c2 _ ?_;rw[hp];simp only[GJ.h r (Ab ..),hr,hm];exact⟨Hb,h'⟩
    ·exact c1.elim
  ·rename_i r n sz i off hp;cases hf;rw[hp]at c1;simp only at c1;split at c1
   ·rename_i Gd es hr;split at c1
    ·rename_i hs;obtain⟨Hb,cell,e1,e2,JS⟩:=c1;split at JS
     ·rename_i j m;refine⟨_,some (r,_),JS,fun r o' e=>(by cases e;exact⟨rfl,Ab ..⟩),fun st2 GJ K' h'=>?_⟩;simp only[FF,NE,(hn st2 GJ).1,(hn st2 GJ).2];refine c2 _ ?_;rw[hp];simp only[GJ.h r (Ab ..),hr,hs];exact⟨Hb,cell,e1,e2,h'⟩
     ·rename_i QI;refine⟨_,some (r,_),JS,fun r o' e=>(by cases e;exact⟨rfl,Ab ..⟩),fun st2 GJ K' h'=>?_⟩;simp only[FF,NE,(hn st2 GJ).1,(hn st2 GJ).2];refine c2 _ ?_;rw[hp];simp only[GJ.h r (Ab ..),hr,hs];refine⟨Hb,cell,e1,e2,?_⟩;rw[c3 st.h st2.h (fun r hr=>GJ.h r (Ah _ hr))];exact h'
    ·exact c1.elim
   ·exact c1.elim
  ·cases hf
theorem QD{t:Nat}{m k x:Operand}(hk:FF cx true ⟨dst,.mapUpdate t m k x,ty,pos,after,gd⟩ st K)(hf:E5 cx ⟨dst,.mapUpdate t m k x,ty,pos,after,gd⟩ st=some (R,w)) :
  D8 cx ⟨dst,.mapUpdate t m k x,ty,pos,after,gd⟩ st R w K:=by
 simp only[FF]at hk;have hn:∀st2,IB ⟨dst,.mapUpdate t m k x,ty,pos,after,gd⟩ R st st2→ev st2.t m=ev st.t m∧ev st2.t k=ev st.t k∧ev st2.t x=ev st.t x:=fun st2 ha=>⟨ha.t m (by simp[Op.operands]),ha.t k (by simp[Op.operands]),ha.t x (by simp[Op.operands])⟩;simp only[E5]at hf;split at hf
 ·rename_i r hm;cases hf;unfold GQ at hk;rw[hm]at hk;simp only at hk;split at hk
  ·rename_i sh BU hr;unfold JV at hk;split at hk
   ·rename_i kt e h1;split at hk
    ·rename_i r6 h2;split at hk
     ·rename_i h3;split at hk
      ·rename_i kx h4;split at hk
       ·rename_i h5;refine⟨_,some (r,_),hk,fun r o' e=>(by cases e;exact⟨rfl,Ab ..⟩),fun st2 GJ K' h'=>?_⟩;obtain⟨n1,n2,n3⟩:=hn st2 GJ;simp only[FF,GQ,n1,n2,n3,hm,GJ.h r (Ab ..),hr,JV,h1,h2,h3,h4,h5];rw[KB (h:=st.h) (h2:=st2.h) (fun r hr=>GJ.h r (Ah _ hr))];exact h'
       ·exact hk.elim
      ·exact hk.elim
     ·exact hk.elim
    ·exact hk.elim
   ·exact hk.elim
  ·rename_i sh BU hr;unfold JV at hk;split at hk
   ·rename_i kt e h1;split at hk
    ·rename_i r6 h2;split at hk
     ·rename_i h3;split at hk
      ·rename_i kx h4;split at hk
       ·rename_i h5;refine⟨_,some (r,_),hk,fun r o' e=>(by cases e;exact⟨rfl,Ab ..⟩),fun st2 GJ K' h'=>?_⟩;obtain⟨n1,n2,n3⟩:=hn st2 GJ;simp only[FF,GQ,n1,n2,n3,hm,GJ.h r (Ab ..),hr,JV,h1,h2,h3,h4,h5];exact h'
       ·exact hk.elim
      ·exact hk.elim
     ·exact hk.elim
    ·exact hk.elim
   ·exact hk.elim
  ·exact hk.elim
 ·cases hf
theorem ZN{A B:(AV→Prop)→Prop}(ha:F0 A)(hb:F0 B):F0 fun K=>A K∨B K:=by
 intro K hk;rcases hk with hk | hk
 ·obtain⟨v,h1,h2⟩:=ha K hk;exact⟨v,h1,fun K' h=>.inl (h2 K' h)⟩
 ·obtain⟨v,h1,h2⟩:=hb K hk;exact⟨v,h1,fun K' h=>.inr (h2 K' h)⟩
theorem RX{fn:Fn}{first cap:Array Operand}(hk:FF cx true ⟨dst,.makeFunc fn first cap,ty,pos,after,gd⟩ st K)(hf:E5 cx ⟨dst,.makeFunc fn first cap,ty,pos,after,gd⟩ st=some (R,w)) :
  D8 cx ⟨dst,.makeFunc fn first cap,ty,pos,after,gd⟩ st R w K:=by
 simp only[FF]at hk;simp only[E5]at hf;cases hf;unfold Ko at hk;split at hk
 ·rename_i f h1;refine⟨_,none,hk,fun r o' e=>(by cases e),fun st2 GJ K' h'=>?_⟩;simp only[FF,h1,Ko]
  have:cap.toList.map (fun x=>rsv st2.h (ev st2.t x))=cap.toList.map (fun x=>rsv st.h (ev st.t x)):=A8 fun x hx=>by
   rw[GJ.t x (by simp only[Op.operands,Rg];exact .inr (by simpa using hx))];exact gy fun r hr=>GJ.h r (Xn (Ak.2 ⟨x,hx,rfl⟩) r hr)
  rw[this];exact h'
 ·exact hk.elim
end
end Go.Eng
