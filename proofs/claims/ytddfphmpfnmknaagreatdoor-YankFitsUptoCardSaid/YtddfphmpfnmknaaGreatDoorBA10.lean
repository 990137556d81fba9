/- Lemmas for the claims of this seat, without a condition: part 10 (EngT, EngU, EngV, EngW). -/
import Derived.Test.YtddfphmpfnmknaaGreatDoorBA09
import Derived.Maps.RangeRun
namespace Go.Eng
open Go.ChangeMaps (setBlock)
theorem TR{w:World}{r:Nat}{o o' : Obj}(h:w.heap[r]?=some o):(setBlock w r o').heap[r]?=some o':=by
 have:=(Bm.1 h).1
 simp[setBlock,this]
theorem S8{w:World}{r k:Nat}{o' : Obj}(h:k≠r):(setBlock w r o').heap[k]?=w.heap[k]?:=by
 simp[setBlock,Ne.symm h]
theorem MW(w:World)(r:Nat)(o' : Obj):(setBlock w r o').heap.size=w.heap.size:=by simp[setBlock]
theorem Ou{α β:Type}{f:α→β}{l:List α}(h:(l.map f).Nodup):l.Nodup:=by
 induction l with
 |nil=>exact E1
 |cons c l ih =>
  rw[AJ,CI]at h;exact CI.2 ⟨fun hc=>h.1 (Al.2 ⟨c,hc,rfl⟩),ih h.2⟩
theorem UF{α β:Type}{f:α→β}{l:List α}(h:(l.map f).Nodup){i j:Nat}{a b:α}(ha:l[i]?=some a)(hb:l[j]?=some b)(he:f a=f b):i=j:=by
 induction l generalizing i j with
 |nil=>simp at ha
 |cons c l ih =>
  rw[AJ,CI]at h;cases i with
  |zero =>
   cases j with
   |zero=>rfl
   |succ j =>
    simp only[A4,Bj,Gz]at ha hb;exact absurd (Al.2 ⟨b,Ar hb,by rw[←he,ha]⟩) h.1
  |succ i =>
   cases j with
   |zero =>
    simp only[A4,Bj,Gz]at ha hb;exact absurd (Al.2 ⟨a,Ar ha,by rw[he,hb]⟩) h.1
   |succ j=>exact Ad (·+1) (ih h.2 ha hb)
open Classical in
theorem Pm{BU:List (Value×AV)}{k:Value}{a b:AV}(h:(k,b)∈BU):EK BU k a=BU.map fun p=>if p.1=k then(k,a)else p:=Ao ⟨b,h⟩
open Classical in
theorem Kn{BU:List (Value×AV)}{k:Value}{a:AV}(h:∀b,(k,b)∉BU):EK BU k a=BU++[(k,a)]:=Ai (fun⟨b,e⟩=>h b e)
theorem UC{sh:EA}{es:Array MapEntry}{ck:Nat}{BU:List (Value×AV)}(f:AV→AV)(h:GW sh es ck BU):GW sh es ck (BU.map fun p=>(p.1,f p.2)):=by
 obtain⟨h1,h2,h3,h4,h5,h6⟩:=h;refine⟨by simp[h1],fun i kv e q1 q2=>?_,fun kv OP=>?_,?_,h5,h6⟩
 ·rw[AC]at q1;obtain⟨p,q3,rfl⟩:=AW.1 q1;exact h2 i p e q3 q2
 ·obtain⟨p,hp,rfl⟩:=Al.1 OP;exact h3 p hp
 ·rw[BK];exact h4
theorem Om{sh:EA}{es:Array MapEntry}{ck:Nat}{BU:List (Value×AV)}(h:GW sh es ck BU){x:Value}{a v:AV}{y:Value}{j:Nat}(hj:BU[j]?=some (x,a)) :
  GW sh (es.modify j fun e=>{ e with key:=x,val:=y }) ck (EK BU x v) ∧
   ∀(i:Nat) (kv:Value×AV) (e:MapEntry),(EK BU x v)[i]?=some kv→(es.modify j fun e=>{ e with key:=x,val:=y })[i]?=some e →
    (kv.2=v∧e.val=y)∨(BU[i]?=some kv∧es[i]?=some e):=by
 classical
 rw[Pm (Ar hj)];obtain⟨h1,h2,h3,h4,h5,h6⟩:=h;have hm:∀i e,(es.modify j fun e=>{ e with key:=x,val:=y })[i]?=some e→∃e0,es[i]?=some e0∧e.born=e0.born∧(if i=j then e.key=x∧e.val=y else e=e0):=by
  intro i e he;rw[Array.getElem?_modify]at he;split at he
  ·rename_i e1;subst e1;obtain⟨e0,q1,q2⟩:=AW.1 he;exact⟨e0,q1,by rw[←q2],by rw[Ao rfl,←q2];exact⟨rfl,rfl⟩⟩
  ·rename_i e1;exact⟨e,he,rfl,by rw[Ai (fun q=>e1 q.symm)]⟩
 have hk:∀i kv,(BU.map fun p=>if p.1=x then(x,v)else p)[i]?=some kv→∃p,BU[i]?=some p∧kv.1=p.1∧(if i=j then kv.2=v else kv=p):=by
  intro i kv OP;rw[AC]at OP;obtain⟨p,q1,q2⟩:=AW.1 OP;refine⟨p,q1,?_⟩
  by_cases e:p.1=x
  ·rw[Ao e]at q2;subst q2
   have:=UF h4 q1 hj e
   exact⟨e.symm,by rw[Ao this]⟩
  ·rw[Ai e]at q2;subst q2;refine⟨rfl,?_⟩;rw[Ai];intro e2;subst e2;rw[q1]at hj;cases hj;exact e rfl
 have pX:(BU.map fun p=>if p.1=x then(x,v)else p).map (·.1)=BU.map (·.1):=by
  rw[BK];apply Ba;intro p _;simp only[Function.comp];split
  ·rename_i e;exact e.symm
  ·rfl
 refine⟨⟨by simp[h1],fun i kv e q1 q2=>?_,fun kv OP=>?_,by rw[pX];exact h4,fun i e q=>?_,fun i i' e e' q q' hb=>?_⟩,fun i kv e q1 q2=>?_⟩
 ·obtain⟨p,p1,p2,p3⟩:=hk i kv q1;obtain⟨e0,r1,r2,r3⟩:=hm i e q2
  have:=h2 i p e0 p1 r1
  split at r3
  ·rename_i ij;subst ij;rw[hj]at p1;cases p1;rw[r3.1,p2]
  ·rw[r3,p2];exact this
 ·obtain⟨i,hi⟩:=B1.1 OP;obtain⟨p,p1,p2,p3⟩:=hk i kv hi;rw[p2];exact h3 p (Ar p1)
 ·obtain⟨e0,r1,r2,_⟩:=hm i e q;rw[r2];exact h5 i e0 r1
 ·obtain⟨e0,r1,r2,_⟩:=hm i e q;obtain⟨e1,s1,s2,_⟩:=hm i' e' q';exact h6 i i' e0 e1 r1 s1 (by rw[←r2,←s2];exact hb)
 ·obtain⟨p,p1,p2,p3⟩:=hk i kv q1;obtain⟨e0,r1,r2,r3⟩:=hm i e q2;split at r3
  ·rename_i ij;rw[Ao ij]at p3;exact .inl ⟨p3,r3.2⟩
  ·rename_i ij;rw[Ai ij]at p3;exact .inr ⟨by rw[p3];exact p1,by rw[r3];exact r1⟩
theorem SC{sh:EA}{es:Array MapEntry}{ck:Nat}{BU:List (Value×AV)}(h:GW sh es ck BU){x:Value}{v:AV}{y:Value}(hx:UP sh x=true)(hn:∀a,(x,a)∉BU) :
  GW sh (es.push { key:=x,val:=y,born:=ck }) (ck+1) (EK BU x v) ∧
   ∀(i:Nat) (kv:Value×AV) (e:MapEntry),(EK BU x v)[i]?=some kv→(es.push { key:=x,val:=y,born:=ck })[i]?=some e →
    (kv.2=v∧e.val=y)∨(BU[i]?=some kv∧es[i]?=some e):=by
 rw[Kn hn];obtain⟨h1,h2,h3,h4,h5,h6⟩:=h;have hm:∀i e,(es.push { key:=x,val:=y,born:=ck })[i]?=some e→(es[i]?=some e∧i<es.size)∨(i=es.size∧e={ key:=x,val:=y,born:=ck }):=by
  intro i e he;rw[Array.getElem?_push]at he;split at he
  ·rename_i q;cases he;exact .inr ⟨q,rfl⟩
  ·exact .inl ⟨he,(Bm.1 he).1⟩
 have hk:∀i kv,(BU++[(x,v)])[i]?=some kv→(BU[i]?=some kv∧i<es.size)∨(i=es.size∧kv=(x,v)):=by
  intro i kv OP;rw[Lq]at OP;split at OP
  ·rename_i q;exact .inl ⟨OP,by omega⟩
  ·rename_i q
   have:i-BU.length=0:=by
    have:=(Ap.1 OP).1
    simp at this;omega
   rw[this]at OP;simp at OP;exact .inr ⟨by omega,OP.symm⟩
 refine⟨⟨by simp[h1],fun i kv e q1 q2=>?_,fun kv OP=>?_,?_,fun i e q=>?_,fun i i' e e' q q' hb=>?_⟩,fun i kv e q1 q2=>?_⟩
 ·rcases hk i kv q1 with ⟨p1,p2⟩ | ⟨p1,p2⟩<;>rcases hm i e q2 with ⟨r1,r2⟩ | ⟨r1,r2⟩
  ·exact h2 i kv e p1 r1
  ·omega
  ·omega
  ·rw[p2,r2]
 ·rcases AL.1 OP with q | q
  ·exact h3 kv q
  ·rw[Ak.1 q];exact hx
 ·rw[Ay,F2];refine⟨h4,by simp,fun a ha b hb e=>?_⟩;simp only[AJ,ET,Ak]at hb;obtain⟨p,p1,p2⟩:=Al.1 ha;refine hn p.2 ?_
  have:p=(x,p.2):=by rw[←hb,←e,←p2]
  rw[←this];exact p1
 ·rcases hm i e q with ⟨r1,_⟩ | ⟨_,r2⟩
  ·have:=h5 i e r1;omega
  ·rw[r2];exact Lg _
 ·rcases hm i e q with ⟨r1,_⟩ | ⟨r1,r2⟩<;>rcases hm i' e' q' with ⟨s1,_⟩ | ⟨s1,s2⟩
  ·exact h6 i i' e e' r1 s1 hb
  ·have:=h5 i e r1;rw[s2]at hb;dsimp only at hb;omega
  ·have:=h5 i' e' s1;rw[r2]at hb;dsimp only at hb;omega
  ·omega
 ·rcases hk i kv q1 with ⟨p1,p2⟩ | ⟨p1,p2⟩<;>rcases hm i e q2 with ⟨r1,r2⟩ | ⟨r1,r2⟩
  ·exact .inr ⟨p1,r1⟩
  ·omega
  ·omega
  ·exact .inl ⟨by rw[p2],by rw[r2]⟩
section
variable {P:Program}{w0:World}{g0:Gh}{h0 h:Nat→HO}{g:Gh}{w:World}(hI:Dz w0 g0 h0 h g w)
include hI
theorem Dz.swap{r b:Nat}(hl:(h r).live)(ho:g.own r=some b)(hn:∀o,¬g.S b o)(o' : HO){ob:Obj}(hb:w.heap[b]?=some ob)(ZI : Obj)(w1:World)(KA:w1.heap=w.heap∧w1.os=w.os∧w1.tape=w.tape∧w1.output=w.output)(Dt:o'≠.free)
  (I6:JI g (g.upd r (g.ρ r) (g.ln r) (g.tk r) (g.own r) g.S) (AQ h)→Ey g w (g.upd r (g.ρ r) (g.ln r) (g.tk r) (g.own r) g.S) (setBlock w1 b ZI)→(setBlock w1 b ZI).heap[b]?=some ZI →
   (∀k,k≠b→(setBlock w1 b ZI).heap[k]?=w.heap[k]?) →
   D1 (g.upd r (g.ρ r) (g.ln r) (g.tk r) (g.own r) g.S) (setBlock w1 b ZI) (AQ (AU h r o')) r o') :
  Dz w0 g0 h0 (AU h r o') (g.upd r (g.ρ r) (g.ln r) (g.tk r) (g.own r) g.S) (setBlock w1 b ZI)∧Le h g w (AU h r o') (g.upd r (g.ρ r) (g.ln r) (g.tk r) (g.own r) g.S) (setBlock w1 b ZI):=by
 have Ds:=(hI.loc r b hl ho).1;have EJ:(setBlock w1 b ZI).heap[b]?=some ZI:=TR (by rw[KA.1];exact hb);have Yx:∀k,k≠b→(setBlock w1 b ZI).heap[k]?=w.heap[k]?:=fun k hk=>by rw[S8 hk,KA.1]
 refine hI.upd r o' _ _ _ _ _ _ (some b) ⟨KA.2.1,KA.2.2.1,KA.2.2.2,by rw[MW,KA.1];exact Am _⟩ (fun k _ Dt=>Yx k (fun e=>Dt (by rw[e]))) (fun b' e=>by cases e;exact⟨hl,ho⟩) (fun _ _ h=>h) (fun _ _ h=>.inl h)
  (fun b' o e hs=>by cases e;exact absurd hs (hn o)) (fun b' _ e=>?_) Dt (fun _=>⟨rfl,Am _,fun _=>rfl,fun _=>rfl⟩) (fun hg hk=>I6 hg hk EJ Yx)
 rw[ho]at e;cases e;exact⟨by rw[MW,KA.1];exact Ds,.inl ⟨hl,ho⟩⟩
theorem MQ{T:Gf}(hT:Cq P T){ty:Nat}{m k x:AV}{vm vk vx:Value}{K:HK}(hm:BC g w (AQ h) m vm)(JP : BC g w (AQ h) k vk)(hx:BC g w (AQ h) x vx)(hk:GP T h ty m k x K) :
  cU P w0 g0 h0 h g w (Instr.mapUpdate ty vm vk vx) K:=by
 unfold GP at hk;split at hk
 ·rename_i r;split at hk
  ·rename_i sh BU e0;obtain⟨kt,e,k1,k2,k3,k4⟩:=Mh JP hk;have ho:=hI.objs r;rw[e0]at ho;obtain⟨t1,b,es,ck,a1,a2,a3,a4,a5,a6⟩:=ho;have hl:(h r).live:=by rw[e0];trivial
   cases hm with
   |mref _ _ b' hu ht hp =>
    rw[a2]at hp;cases hp;have eZ:=hT.map k1;have E5:=run_getObj_map (P:=P) w b es ck a3;have Nc:∀o',(setObj b o').run P w=.ok () (setBlock w b o'):=fun o'=>by simp[setObj,Sem.run,a3,setBlock]
    have Tq:=fun bb=>LY hT k2 w bb k3;obtain⟨res,r1,r2⟩:=Ny hT k2 w k3 es.toList a4.shape;have io:=BC.str hI.objs hx;rcases r2 with ⟨rfl,hn⟩ | ⟨j,en,rfl,hj,hkey⟩
    ·obtain⟨m1,m2⟩:=SC a4 (x:=vk) (v:=str h x) (y:=vx) k3 (fun a=>a4.none hn a);obtain⟨i1,i2⟩:=Dz.swap hI hl a1 a6 (.map sh (EK BU vk (str h x))) a3 (.map (es.push { key:=vk,val:=vx,born:=ck }) (ck+1)) w ⟨rfl,rfl,rfl,rfl⟩ (by simp) (fun hg HL EJ Yx=>by
      obtain⟨u1,u2,u3,u4⟩:=Bw g r (g.ρ r) (g.ln r) (g.tk r) (g.own r) g.S;refine⟨u3.trans t1,b,_,_,u4.trans a1,u1.trans a2,EJ,m1,fun i kv e q1 q2=>?_,a6⟩;rcases m2 i kv e q1 q2 with ⟨p1,p2⟩ | ⟨p1,p2⟩
      ·rw[p1,p2];exact io.mono HL (fun _ h=>h) (fun _ h=>h.elim)
      ·exact(a5 i kv e p1 p2).mono HL (fun _ h=>h) (fun _ h=>h.elim))
     refine⟨_,_,_,?_,k4,i1,i2⟩;simp[Instr.mapUpdate,run_underlying eZ,E5,Tq,r1,Nc]
    ·obtain⟨a,q1,q2⟩:=a4.some hj hkey;obtain⟨m1,m2⟩:=Om a4 (x:=vk) (v:=str h x) (y:=vx) q1;obtain⟨i1,i2⟩:=Dz.swap hI hl a1 a6 (.map sh (EK BU vk (str h x))) a3 (.map (es.modify j fun e=>{ e with key:=vk,val:=vx }) ck) w ⟨rfl,rfl,rfl,rfl⟩ (by simp) (fun hg HL EJ Yx=>by
      obtain⟨u1,u2,u3,u4⟩:=Bw g r (g.ρ r) (g.ln r) (g.tk r) (g.own r) g.S;refine⟨u3.trans t1,b,_,_,u4.trans a1,u1.trans a2,EJ,m1,fun i kv e q1 q2=>?_,a6⟩;rcases m2 i kv e q1 q2 with ⟨p1,p2⟩ | ⟨p1,p2⟩
      ·rw[p1,p2];exact io.mono HL (fun _ h=>h) (fun _ h=>h.elim)
      ·exact(a5 i kv e p1 p2).mono HL (fun _ h=>h) (fun _ h=>h.elim))
     refine⟨_,_,_,?_,k4,i1,i2⟩;have mA : es[j]?=some en:=by simpa using hj
     have I7:=Qw (P:=P) w k3;simp[Instr.mapUpdate,run_underlying eZ,E5,Tq,r1,Nc,mA,hkey,I7]
  ·rename_i sh BU e0;obtain⟨kt,e,k1,k2,k3,k4⟩:=Mh JP hk;have ho:=hI.objs r;rw[e0]at ho;obtain⟨t1,b,es,ck,a1,a2,a3,a4,a5,a6⟩:=ho;have hl:(h r).live:=by rw[e0];trivial
   cases hm with
   |mref _ _ b' hu ht hp =>
    rw[a2]at hp;cases hp;have eZ:=hT.map k1;have E5:=run_getObj_map (P:=P) w b es ck a3;have Nc:∀o',(setObj b o').run P w=.ok () (setBlock w b o'):=fun o'=>by simp[setObj,Sem.run,a3,setBlock]
    have Tq:=fun bb=>LY hT k2 w bb k3;obtain⟨res,r1,r2⟩:=Ny hT k2 w k3 es.toList a4.shape;rcases r2 with ⟨rfl,hn⟩ | ⟨j,en,rfl,hj,hkey⟩
    ·obtain⟨m1,m2⟩:=SC a4 (x:=vk) (v:=x) (y:=vx) k3 (fun a=>a4.none hn a);obtain⟨i1,i2⟩:=Dz.swap hI hl a1 a6 (.mapU sh (EK BU vk (x))) a3 (.map (es.push { key:=vk,val:=vx,born:=ck }) (ck+1)) w ⟨rfl,rfl,rfl,rfl⟩ (by simp) (fun hg HL EJ Yx=>by
      obtain⟨u1,u2,u3,u4⟩:=Bw g r (g.ρ r) (g.ln r) (g.tk r) (g.own r) g.S;have JZ:∀i,AQ h i→AQ (AU h r (.mapU sh (EK BU vk x))) i:=fun i hi=>DG (by simp) i hi;refine⟨u3.trans t1,b,_,_,u4.trans a1,u1.trans a2,EJ,m1,fun i kv e q1 q2=>?_,a6⟩;rcases m2 i kv e q1 q2 with ⟨p1,p2⟩ | ⟨p1,p2⟩
      ·rw[p1,p2];exact hx.mono HL JZ hg
      ·exact(a5 i kv e p1 p2).mono HL JZ hg)
     refine⟨_,_,_,?_,k4,i1,i2⟩;simp[Instr.mapUpdate,run_underlying eZ,E5,Tq,r1,Nc]
    ·obtain⟨a,q1,q2⟩:=a4.some hj hkey;obtain⟨m1,m2⟩:=Om a4 (x:=vk) (v:=x) (y:=vx) q1;obtain⟨i1,i2⟩:=Dz.swap hI hl a1 a6 (.mapU sh (EK BU vk (x))) a3 (.map (es.modify j fun e=>{ e with key:=vk,val:=vx }) ck) w ⟨rfl,rfl,rfl,rfl⟩ (by simp) (fun hg HL EJ Yx=>by
      obtain⟨u1,u2,u3,u4⟩:=Bw g r (g.ρ r) (g.ln r) (g.tk r) (g.own r) g.S;have JZ:∀i,AQ h i→AQ (AU h r (.mapU sh (EK BU vk x))) i:=fun i hi=>DG (by simp) i hi;refine⟨u3.trans t1,b,_,_,u4.trans a1,u1.trans a2,EJ,m1,fun i kv e q1 q2=>?_,a6⟩;rcases m2 i kv e q1 q2 with ⟨p1,p2⟩ | ⟨p1,p2⟩
      ·rw[p1,p2];exact hx.mono HL JZ hg
      ·exact(a5 i kv e p1 p2).mono HL JZ hg)
     refine⟨_,_,_,?_,k4,i1,i2⟩;have mA : es[j]?=some en:=by simpa using hj
     have I7:=Qw (P:=P) w k3;simp[Instr.mapUpdate,run_underlying eZ,E5,Tq,r1,Nc,mA,hkey,I7]
  ·exact hk.elim
 ·exact hk.elim
theorem Ns{d b:Nat}{es:Array MapEntry}{ck:Nat}{sh:EA}{BU:List (Value×AV)}(hd:h d=.free)(hS:g.S b 0)(hb:w.heap[b]?=some (.map es ck))(hm:GW sh es ck BU)
  (hv:∀(i:Nat) (kv:Value×AV) (e:MapEntry),BU[i]?=some kv→es[i]?=some e→BC g w E8 kv.2 e.val) :
  ∃g',Dz w0 g0 h0 (AU h d (.iter BU BU none)) g' (w.alloc (.mapIter (some b) ck #[] ck))∧Le h g w (AU h d (.iter BU BU none)) g' (w.alloc (.mapIter (some b) ck #[] ck)) ∧
   BC g' (w.alloc (.mapIter (some b) ck #[] ck)) (AQ (AU h d (.iter BU BU none))) (.ref d 0) (.pointer (some ⟨w.heap.size,0,none⟩)):=by
 obtain⟨k1,k2⟩:=hI.newOwn hd (.iter BU BU none) (.mapIter (some b) ck #[] ck) (.pointer (some ⟨w.heap.size,0,none⟩)) 0 false w ⟨rfl,rfl,rfl,rfl⟩ (by simp) (fun hg hk=>by
  obtain⟨u1,u2,u3,u4⟩:=Bw g d (.pointer (some ⟨w.heap.size,0,none⟩)) 0 false (some w.heap.size) g.S;obtain⟨c1,c2,c3⟩:=hk b 0 hS
  exact⟨u3,w.heap.size,b,ck,#[],ck,es,ck,u4,u1,Hq w _ rfl,c1,c3 es ck hb,⟨sh,hm⟩,rfl,rfl,fun i kv e q1 q2=>(hv i kv e q1 q2).mono hk (fun _ h=>h) (fun _ h=>h.elim),
   ⟨Ou hm.2.2.2.1,fun _ h=>h⟩,fun i kv e q1 q2=>by simp[List.mem_of_getElem? q1],trivial,fun o ho=>by have:=hI.slt _ _ ho;omega⟩)
 refine⟨_,k1,k2,.ref _ d 0 w.heap.size (by unfold AQ;rw[A9];simp) ?_ ?_⟩<;>simp[Gh.upd]
theorem Qm{r b:Nat}{sh:EA}{BU:List (Value×AV)}{es:Array MapEntry}{ck:Nat}(e0:h r=.map sh BU)(a1:g.own r=some b)(a2:g.ρ r=.map (some b))(a3:w.heap[b]?=some (.map es ck))(a4:GW sh es ck BU)
  (a5:∀(i:Nat) (kv:Value×AV) (e:MapEntry),BU[i]?=some kv→es[i]?=some e→BC g w E8 kv.2 e.val) (t1:g.tk r=false) :
  ∃g',Dz w0 g0 h0 (AU h r (.rom sh BU)) g' w∧Le h g w (AU h r (.rom sh BU)) g' w∧g'.S b 0:=by
 have hl:(h r).live:=by rw[e0];trivial
 have Ds:=(hI.loc r b hl a1).1
 obtain⟨k1,k2⟩:=hI.upd r (.rom sh BU) (g.ρ r) (g.ln r) (g.tk r) none (g.more b 1) w none ⟨rfl,rfl,rfl,Am _⟩ (fun _ _ _=>rfl) (fun b e=>by cases e) (fun _ _ h=>.inl h)
  (fun b' o hs=>hs.elim .inl (fun hs=>.inr ⟨by rw[hs.1];exact Ds,.inr ⟨hl,by rw[hs.1];exact a1⟩⟩)) (fun b o e=>by cases e) (fun b hh _=>by cases hh) (by simp)
  (fun _=>⟨rfl,Am _,fun _=>rfl,fun _=>rfl⟩) (fun hg hk=>by
   obtain⟨u1,u2,u3,u4⟩:=Bw g r (g.ρ r) (g.ln r) (g.tk r) none (g.more b 1);exact⟨u3.trans t1,b,u1.trans a2,.cmap _ sh BU b es ck (.inr ⟨rfl,TY⟩) a3 a4 (fun i kv e q1 q2=>(a5 i kv e q1 q2).mono hk (fun _ h=>h) (fun _ h=>h.elim))⟩)
 exact⟨_,k1,k2,.inr ⟨rfl,TY⟩⟩
theorem VL{r b:Nat}{sh:EA}{BU:List (Value×AV)}{es:Array MapEntry}{ck:Nat}(e0:h r=.mapU sh BU)(a1:g.own r=some b)(a2:g.ρ r=.map (some b))(a3:w.heap[b]?=some (.map es ck))(a4:GW sh es ck BU)
  (a5:∀(i:Nat) (kv:Value×AV) (e:MapEntry),BU[i]?=some kv→es[i]?=some e→BC g w (AQ h) kv.2 e.val) (t1:g.tk r=false) :
  ∃g',Dz w0 g0 h0 (AU h r (.rom sh (QK h BU))) g' w∧Le h g w (AU h r (.rom sh (QK h BU))) g' w∧g'.S b 0:=by
 have hl:(h r).live:=by rw[e0];trivial
 have Ds:=(hI.loc r b hl a1).1
 obtain⟨k1,k2⟩:=hI.upd r (.rom sh (QK h BU)) (g.ρ r) (g.ln r) (g.tk r) none (g.more b 1) w none ⟨rfl,rfl,rfl,Am _⟩ (fun _ _ _=>rfl) (fun b e=>by cases e) (fun _ _ h=>.inl h)
  (fun b' o hs=>hs.elim .inl (fun hs=>.inr ⟨by rw[hs.1];exact Ds,.inr ⟨hl,by rw[hs.1];exact a1⟩⟩)) (fun b o e=>by cases e) (fun b hh _=>by cases hh) (by simp)
  (fun _=>⟨rfl,Am _,fun _=>rfl,fun _=>rfl⟩) (fun hg hk=>by
   obtain⟨u1,u2,u3,u4⟩:=Bw g r (g.ρ r) (g.ln r) (g.tk r) none (g.more b 1);refine⟨u3.trans t1,b,u1.trans a2,.cmap _ sh _ b es ck (.inr ⟨rfl,TY⟩) a3 (UC _ a4) (fun i kv e q1 q2=>?_)⟩;unfold QK at q1;rw[AC]at q1;obtain⟨p,q3,rfl⟩:=AW.1 q1;exact((a5 i p e q3 q2).str hI.objs).mono hk (fun _ h=>h) (fun _ h=>h.elim))
 exact⟨_,k1,k2,.inr ⟨rfl,TY⟩⟩
theorem ce{T:Gf}(hT:Cq P T){ty kt e:Nat}(ht:(T ty).d=.map kt e){d:Option Nat}{x:AV}{vx:Value}{K:HK}(hx:BC g w (AQ h) x vx)(hk:YV d h x K) :
  NF P w0 g0 h0 h g w (Instr.range ty vx) K:=by
 have hu:=hT.map ht;unfold YV at hk;split at hk
 ·exact hk.elim
 ·rename_i d;split at hk
  ·rename_i hd;have CB:∀b es ck,w.heap[b]?=some (.map es ck)→(Instr.range ty (.map (some b))).run P w=.ok (.pointer (some ⟨w.heap.size,0,none⟩)) (w.alloc (.mapIter (some b) ck #[] ck)):=fun b es ck hb=>by
    simp[Instr.range,run_underlying hu,run_getObj_map (P:=P) w b es ck hb]
   split at hk
   ·cases hx with
    |cmap _ _ _ b es ck hS hb hm hv =>
     obtain⟨g',k1,k2,k3⟩:=Ns hI hd hS hb hm hv;exact⟨_,_,_,_,_,CB _ _ _ hb,hk,k1,k2,k3⟩
   ·rename_i r;have ho:=hI.objs r;cases hx with
    |mref _ _ b eZ ht' hp =>
     split at hk
     ·rename_i sh BU e0;rw[e0]at ho;obtain⟨_,b',a1,a2⟩:=ho;rw[a1]at hp;cases hp;cases a2 with
      |cmap _ _ _ _ es ck hS hb hm hv =>
       obtain⟨g',k1,k2,k3⟩:=Ns hI hd hS hb hm hv;exact⟨_,_,_,_,_,CB _ _ _ hb,hk,k1,k2,k3⟩
     ·rename_i sh BU e0;rw[e0]at ho;obtain⟨t1,b',es,ck,a1,a2,a3,a4,a5,a6⟩:=ho;rw[a2]at hp;cases hp;obtain⟨g1,i1,i2,i3⟩:=Qm hI e0 a1 a2 a3 a4 a5 t1;have Dt:d≠r:=fun e=>by rw[e,e0]at hd;cases hd
      obtain⟨g',k1,k2,k3⟩:=Ns i1 (by rw[BR _ _ _ _ Dt];exact hd) i3 a3 a4 (fun i kv e q1 q2=>(a5 i kv e q1 q2).mono i2.keeps (fun _ h=>h) (fun _ h=>h.elim));exact⟨_,_,_,_,_,CB _ _ _ a3,hk,k1,i2.trans k2,k3⟩
     ·exact hk.elim
   ·exact hk.elim
  ·exact hk.elim
theorem fN{ty:TypeId}{x:AV}{vx:Value}{K:HK}(hx:BC g w (AQ h) x vx)(hk:fM h x K):NF P w0 g0 h0 h g w (Instr.next vx false ty) K:=by
 unfold fM at hk;split at hk
 ·rename_i r;split at hk
  ·rename_i all rem Fq e0;have ho:=hI.objs r;rw[e0]at ho;obtain⟨t1,b,mb,JF,seen,st,es,ck,a1,a2,a3,a4,a5,⟨sh,a6⟩,a7,a8,a9,Wo,Y7,a12,ly⟩:=ho;have hl:(h r).live:=by rw[e0];trivial
   cases hx with
   |ref _ _ _ b' hu ht hp =>
    rw[a2]at hp;cases hp;have Ds:∀e∈es.toList,e.born<JF:=fun e he=>by
     obtain⟨i,hi⟩:=B1.1 he
     have:=a6.2.2.2.2.1 i e (by simpa using hi)
     omega
    rcases run_next_at (P:=P) w ty b mb JF st seen es ck a3 a5 Ds (by omega)with ⟨q1,q2⟩ | ⟨e,q1,w1,q2,q3⟩
    ·have uz:rem=[]:=by
      apply Lc.2;intro kv OP;obtain⟨i,hi⟩:=B1.1 (Wo.2 kv OP);have ua:i<es.size:=by rw[a6.1];exact(Ap.1 hi).1
      have hb:=(Y7 i kv es[i] hi (by simp[ua])).1 OP;have hm:es[i]∈leftOf es seen:=by simp[leftOf,hb]
      have:=Array.size_pos_of_mem hm
      omega
     exact⟨_,w,g,_,h,q2,hk.1 uz,hI,.refl _ _ _,.tup _ _ _ rfl (fun i av x h1 h2=>by
      match i,h1,h2 with
      |0,h1,h2=>simp at h1 h2;subst h1;subst h2;exact .v _ _)⟩
    ·have hq:e∈es∧e.born∉seen:=by simpa[leftOf]using q1
     obtain⟨i,hi⟩:=Array.mem_iff_getElem?.1 hq.1;have ua:i<all.length:=by rw[←a6.1];exact(Bm.1 hi).1
     have nS:all[i]?=some all[i]:=As ua;have ii:=(Y7 i _ e nS hi).2 hq.2;obtain⟨s1,s2,hs⟩:=List.append_of_mem ii;have IE:rem.Perm (all[i]::(s1++s2)):=by rw[hs];exact List.perm_middle
     have QF:(all[i]::(s1++s2)).Nodup:=IE.nodup_iff.1 Wo.1;have hr:=a9 i _ e nS hi;have hkey:=a6.2.1 i _ e nS hi;have KA:w1.heap=w.heap∧w1.os=w.os∧w1.tape=w.tape∧w1.output=w.output:=by rcases q2 with rfl | rfl<;>exact⟨rfl,rfl,rfl,rfl⟩
     obtain⟨k1,k2⟩:=Dz.swap hI hl a1 ly (.iter all (s1++s2) (some all[i])) a3 (.mapIter (some mb) JF (seen.push e.born) ck) w1 KA (by simp) (fun hg HL EJ Yx=>by
      obtain⟨u1,u2,u3,u4⟩:=Bw g r (g.ρ r) (g.ln r) (g.tk r) (g.own r) g.S;obtain⟨c1,c2,c3⟩:=HL mb 0 a4
      refine⟨u3.trans t1,b,mb,JF,_,ck,es,ck,u4.trans a1,u1.trans a2,EJ,c1,c3 _ _ a5,⟨sh,a6⟩,a7,rfl,fun i kv e p q=>(a9 i kv e p q).mono HL (fun _ h=>h) (fun _ h=>h.elim),
       ⟨(CI.1 QF).2,fun kv OP=>Wo.2 kv (IE.mem_iff.2 (Ag _ OP))⟩,fun j kv e' p q=>?_,⟨i,e,nS,hi,by simp⟩,ly⟩
      rw[Array.mem_push];have h1:=Y7 j kv e' p q;rw[IE.mem_iff,Au]at h1;constructor
      ·intro OP hc;rcases hc with hc | hc
       ·exact(h1.1 (.inr OP)) hc
       ·obtain rfl:=a6.2.2.2.2.2 j i e' e q hi hc;rw[nS]at p;cases p;exact(CI.1 QF).1 OP
      ·intro hc;rcases h1.2 (fun hm=>hc (.inl hm))with e2 | e2
       ·have:j=i:=UF (f:=fun x=>x) (l:=all) (by simpa using Ou a6.2.2.2.1) p nS e2
        subst this;rw[hi]at q;cases q;exact absurd (.inr rfl) hc
       ·exact e2)
     refine⟨_,_,_,_,_,q3,hk.2 all[i] (s1++s2) IE,k1,k2,.tup _ _ _ rfl (fun j av x h1 h2=>?_)⟩
     match j,h1,h2 with
     |0,h1,h2=>simp at h1 h2;subst h1;subst h2;exact .v _ _
     |1,h1,h2=>simp at h1 h2;subst h1;subst h2;rw[hkey];exact .v _ _
     |2,h1,h2=>simp at h1 h2;subst h1;subst h2;exact(hr.up _).le k2
  ·exact hk.elim
 ·exact hk.elim
end
end Go.Eng
namespace Go.Eng
def FU(F:(AV→Prop)→Prop):Prop:=∀K,F K→∃v,K v∧∀K',K' v→F K'
theorem CM(v:AV):FU (fun K=>K v):=fun _ h=>⟨v,h,fun _ h=>h⟩
theorem Dg{p:Prop}{F:(AV→Prop)→Prop}(h:FU F):FU (fun K=>p∧F K):=fun K ⟨hp,hk⟩ =>
 let ⟨v,h1,h2⟩:=h K hk
 ⟨v,h1,fun K' h'=>⟨hp,h2 K' h'⟩⟩
theorem Cr:FU (fun _=>False):=fun _ h=>h.elim
theorem UM(p:Prop):FU (IC p):=fun K h=>by
 by_cases hp:p
 ·exact⟨_,h.1 hp,fun K' h'=>⟨fun _=>h',fun hn=>absurd hp hn⟩⟩
 ·exact⟨_,h.2 hp,fun K' h'=>⟨fun q=>absurd q hp,fun _=>h'⟩⟩
theorem XJ{F:(AV→Prop)→Prop}(h:FU F):FU (fun K=>F (bJ K)):=fun K hk=>by
 obtain⟨v,h1,h2⟩:=h _ hk;unfold bJ at h1;split at h1
 ·exact⟨_,h1,fun K' h'=>h2 _ h'⟩
 ·exact⟨_,h1,fun K' h'=>h2 _ h'⟩
 ·exact h1.elim
theorem Mr{α:Type}{F:α→(AV→Prop)→Prop}(h:∀x,FU (F x)):FU (fun K=>∃x,F x K):=fun K ⟨x,hk⟩ =>
 let ⟨v,h1,h2⟩:=h x K hk
 ⟨v,h1,fun K' h'=>⟨x,h2 K' h'⟩⟩
theorem HZ(T:Gf)(t:Nat)(cs:List AV):FU (K9 T t cs):=by
 have head:FU (LF cs):=by unfold LF;cases cs with | nil=>exact Cr | cons a _=>exact CM a
 unfold K9;split
 ·exact Dg (CM _)
 ·exact Dg (CM _)
 ·cases cs with
  |nil=>exact Cr
  |cons a _ =>
   intro K h;simp only[LF]at h⊢;split at h
   ·rename_i b;cases b with
    |true=>exact⟨_,h.1 rfl,fun K' h'=>⟨fun _=>h',fun e=>by cases e⟩⟩
    |false=>exact⟨_,h.2 rfl,fun K' h'=>⟨fun e=>(by cases e),fun _=>h'⟩⟩
   ·exact h.elim
 ·exact Cr
 ·exact head
theorem ZL(T:Gf)(t:Nat)(x y:AV)(hx:∀tk es,x≠.slice tk es):FU (nP T t x y):=by
 unfold nP
 repeat' split
 all_goals first | exact Cr | exact CM _ | exact UM _ | exact Dg (CM _) | exact absurd rfl (hx _ _)
theorem SV(op:BinOp)(k:IntKind)(a b:Int):FU (Ta op k a b):=by
 unfold Ta;split<;>first | exact Cr | exact Dg (CM _)
theorem YR(op:BinOp)(k:IntKind)(a b:Int):FU (Rp op k a b):=by
 unfold Rp
 repeat' split
 all_goals first | exact Cr | exact Dg (CM _) | (unfold Vf;split<;>first | exact CM _ | exact Dg (CM _) | exact SV _ _ _ _)
theorem ge(T:Gf)(op:BinOp)(t:Nat)(x y:AV)(hx:∀tk es,x≠.slice tk es):FU (Ru T op t x y):=by
 unfold Ru
 repeat' split
 all_goals first | exact Cr | exact UM _ | exact YR _ _ _ _ | exact SV _ _ _ _ | exact Dg (CM _) | exact ZL _ _ _ _ hx | exact XJ (ZL _ _ _ _ hx)
theorem bX(T:Gf)(op:BinOp)(t:Nat)(Y:Operand)(x y:AV)(hx:∀tk es,x≠.slice tk es):FU (Wu T op t Y x y):=by
 unfold Wu
 repeat' split
 all_goals first | exact Cr | exact CM _ | exact ge _ _ _ _ _ hx
theorem bY(T:Gf)(s t:Nat)(x:AV):FU (WB T s t x):=by
 unfold WB
 repeat' split
 all_goals first | exact Cr | exact CM _ | exact Dg (CM _) | exact Mr fun _=>Dg (CM _)
theorem YT(T:Gf)(s f:Nat)(x:AV):FU (RL T s f x):=by
 unfold RL
 repeat' split
 all_goals first | exact Cr | exact CM _
theorem XH(T:Gf)(s f:Nat)(x:AV):FU (N4 T s f x):=by
 unfold N4
 repeat' split
 all_goals first | exact Cr | exact HZ _ _ _
theorem SU(T:Gf)(t:Nat)(x ix:AV):FU (I8 T t x ix):=by
 unfold I8
 repeat' split
 all_goals first | exact Cr | exact Dg (CM _) | exact Mr fun _=>Dg (Dg (CM _))
theorem YU(T:Gf)(t:Nat)(x ix:AV):FU (So T t x ix):=by
 unfold So
 repeat' split
 all_goals first | exact Cr | exact Dg (HZ _ _ _) | exact Mr fun _=>Dg (CM _)
theorem VP(x:AV)(i:Nat):FU (Lw x i):=by
 unfold Lw
 repeat' split
 all_goals first | exact Cr | exact CM _
theorem gj(x:AV):FU (Kp x):=by
 unfold Kp
 repeat' split
 all_goals first | exact Cr | exact CM _
theorem bZ(c a b:AV):FU (XF c a b):=by
 unfold XF
 repeat' split
 all_goals first | exact Cr | exact CM _
theorem jT(f:Int→Int→Int)(x y:AV):FU (jD f x y):=by
 unfold jD
 repeat' split
 all_goals first | exact Cr | exact CM _
theorem ca(op:UnOp)(x:AV):FU (XQ op x):=by
 unfold XQ
 repeat' split
 all_goals first | exact Cr | exact CM _ | exact XJ (CM _) | exact Dg (CM _)
def kq{α:Type}(F:(α→Prop)→Prop):Prop:=∀K,F K→∃v,K v∧∀K',K' v→F K'
theorem XG(n:Nat)(a:AV):kq (GN n a):=by
 intro K h;unfold GN at h⊢
 repeat' split at h
 all_goals first | exact h.elim | skip
 all_goals exact⟨_,h,fun K' h'=>h'⟩
theorem SP(pl:Nat→Option (Nat×Nat))(t:Nat→AV):∀(ps:List (Nat×Operand)) (cs:List AV),kq (Kh pl cs t ps)
 | [],cs=>fun K h=>⟨cs,h,fun _ h=>h⟩
 |(i,x)::r,cs=>by
  intro K h;unfold Kh at h;split at h
  ·exact h.elim
  ·rename_i o n e;obtain⟨vs,h1,h2⟩:=XG _ _ _ h;split at h1
   ·rename_i hb;obtain⟨c,h3,h4⟩:=SP pl t r _ _ h1;refine⟨c,h3,fun K' h'=>?_⟩;unfold Kh;simp only[e];refine h2 _ ?_;simp only[hb];exact h4 K' h'
   ·exact h1.elim
theorem YS(T:Gf)(ty:Nat)(t:Nat→AV)(ps:List (Nat×Operand)):FU (OW T ty t ps):=by
 unfold OW
 repeat' split
 all_goals first
  |exact Cr
  |exact fun K h=>let ⟨c,h1,h2⟩:=SP _ _ _ _ _ h;⟨_,h1,fun K' h'=>h2 _ h'⟩
def wE(h:Nat→HO)(e:Option (Nat×HO)):Nat→HO:=match e with | none=>h | some (r,o)=>AU h r o
structure Iy(o:Oper)(R:List Nat)(st st2:St):Prop where
 t:∀x∈o.op.operands,ev st2.t x=ev st.t x
 h:∀r∈R,st2.h r=st.h r
def D6(cx:Cx)(o:Oper)(st:St)(R:List Nat)(w:Option Nat)(K:HK):Prop :=
 ∃v e,K v (wE st.h e)∧(∀r o',e=some (r,o')→w=some r∧r∈R)∧∀st2,Iy o R st st2→∀K' : HK,K' v (wE st2.h e)→FD cx true o st2 K'
def Rf(w:Option Nat)(r:Nat):Prop:=match w with | none=>False | some x=>x=r∨(10000000≤x∧(x % 10000000=r∨x / 10000000=r))∨x=Vd
def HS(h:Nat→HO):List (Nat×HO)→Nat→HO
 | []=>h
 |p::l=>HS (AU h p.1 p.2) l
def QO(cx:Cx)(o:Oper)(st:St)(R:List Nat)(w:Option Nat)(K:HK):Prop :=
 ∃v e,K v (HS st.h e)∧(∀r o',(r,o')∈e→Rf w r∧r∈R)∧∀st2,Iy o R st st2→∀K' : HK,K' v (HS st2.h e)→FD cx true o st2 K'
section
variable {cx:Cx}{o:Oper}{st:St}{R:List Nat}{w:Option Nat}{K:HK}
theorem D6.pick{F:(AV→Prop)→Prop}(hF:FU F)(h:F fun v=>K v st.h)(h2:∀st2,Iy o R st st2→∀K' : HK,F (fun v=>K' v st2.h)→FD cx true o st2 K'):D6 cx o st R w K :=
 let ⟨v,h1,h3⟩:=hF _ h
 ⟨v,none,h1,fun _ _ e=>(by cases e),fun st2 ha K' hk=>h2 st2 ha K' (h3 _ hk)⟩
theorem Xo{cs:List AV}{a:AV}(h:a∈cs):∀r∈TL a,r∈jr cs:=by
 induction cs with
 |nil=>cases h
 |cons c cs ih =>
  intro r hr;rcases Au.1 h with rfl | h
  ·exact Bd _ hr
  ·exact Bc _ (ih h r hr)
theorem fD{cs:List AV}{a:AV}(h:a∈cs):∀r∈TM a,r∈mQ cs:=by
 induction cs with
 |nil=>cases h
 |cons c cs ih =>
  intro r hr;rcases Au.1 h with rfl | h
  ·exact Bd _ hr
  ·exact Bc _ (ih h r hr)
theorem Xn{cs:List AV}{a:AV}(h:a∈cs):∀r∈Wi a,r∈Si cs:=by
 induction cs with
 |nil=>cases h
 |cons c cs ih =>
  intro r hr;rcases Au.1 h with rfl | h
  ·exact Bd _ hr
  ·exact Bc _ (ih h r hr)
theorem Us(a:AV):∀r∈TL a,r∈TM a:=by cases a<;>simp[TL,TM]
theorem PF{h h2:Nat→HO}{a:AV}(e:∀r∈TL a,h2 r=h r):str0 h2 a=str0 h a:=by
 cases a<;>simp only[str0]
 ·rw[e _ (by simp[TL])]
 ·rw[e _ (by simp[TL])]
theorem UW{h h2:Nat→HO}{a:AV}(e:∀r∈TM a,h2 r=h r):str h2 a=str h a:=by
 cases a with
 |agg cs=>simp only[str];exact Ad _ (Ba fun c hc=>PF fun r hr=>e r (Xo hc r hr))
 |clo f cs=>simp only[str];exact Ad _ (Ba fun c hc=>PF fun r hr=>e r (Xo hc r hr))
 |_=>exact PF (fun r hr=>e r (Us _ r hr))
theorem fc(a:AV):∀r∈TM a,r∈Wi a:=by
 cases a with
 |agg cs =>
  intro r hr;simp only[Wi,TM]at *
  induction cs with
  |nil=>exact hr
  |cons c cs ih =>
   rcases AL.1 hr with h | h
   ·exact Bd _ (Us c r h)
   ·exact Bc _ (ih h)
 |_=>exact fun r hr=>hr
theorem Ky{h h2:Nat→HO}{a:AV}(e:∀r∈Wi a,h2 r=h r):str h2 a=str h a:=UW fun r hr=>e r (fc a r hr)
theorem PG{h h2:Nat→HO}{l:List AV}(e:∀r∈Si l,h2 r=h r):l.map (str h2)=l.map (str h) :=
 Ba fun _ ha=>Ky fun r hr=>e r (Xn ha r hr)
theorem gz{h h2:Nat→HO}{a:AV}(e:∀r∈Wi a,h2 r=h r):rsv h2 a=rsv h a:=by
 cases a<;>simp only[rsv]
 ·rw[e _ (by simp[Wi,TM,TL])]
 ·rw[e _ (by simp[Wi,TM,TL])]
theorem M3{n:Nat}{a:AV}{K:List AV→Prop}(hk:GN n a K):∃cs,K cs∧(∀K' : List AV→Prop,K' cs→GN n a K')∧∀h h2:Nat→HO,(∀r∈Wi a,h2 r=h r)→cs.map (str h2)=cs.map (str h):=by
 have single:K [a]→(∀K' : List AV→Prop,K' [a]→GN n a K')→∃cs,K cs∧(∀K' : List AV→Prop,K' cs→GN n a K')∧∀h h2:Nat→HO,(∀r∈Wi a,h2 r=h r)→cs.map (str h2)=cs.map (str h) :=
  fun h1 h2=>⟨[a],h1,h2,fun h h2 e=>by simp[Ky e]⟩
 unfold GN at hk;split at hk
 ·rename_i cs;split at hk
  ·rename_i hn;refine⟨cs,hk,fun K' h=>by unfold GN;simp only[hn];exact h,fun h h2 e=>Ba fun c hc=>UW fun r hr=>e r (fD hc r hr)⟩
  ·exact hk.elim
 ·rename_i mD;split at hk
  ·rename_i h1;split at hk
   ·refine single hk fun K' h=>?_;unfold GN;split
    ·rename_i cs;exact absurd rfl (mD cs)
    ·rw[h1];exact h
   ·exact hk.elim
  ·exact hk.elim
theorem RM{n sz:Nat}{t:Nat→AV}:∀{ps:List (Nat×Operand)} {es:List (List AV)} {h:Nat→HO} {K:List (List AV)→Prop},PZ n sz h es t ps K →
  ∃Fr,K Fr∧∀(t2:Nat→AV) (h2:Nat→HO),(∀r∈Si (ps.map fun p=>ev t p.2),h2 r=h r)→(∀p∈ps,ev t2 p.2=ev t p.2)→∀K' : List (List AV)→Prop,K' Fr→PZ n sz h2 es t2 ps K'
 | [],es,h,K,hk=>⟨es,hk,fun _ _ _ _ _ h=>h⟩
 |(i,x)::r,es,h,K,hk=>by
  unfold PZ at hk;split at hk
  ·rename_i hb;obtain⟨cs,c1,c2,c3⟩:=M3 hk;obtain⟨Fr,e1,e2⟩:=RM c1;refine⟨Fr,e1,fun t2 h2 hh ht K' JP=>?_⟩;unfold PZ;rw[hb,ht (i,x) (Ab ..)];refine c2 _ ?_;rw[c3 h h2 (fun r hr=>hh r (Bd _ hr))];exact e2 t2 h2 (fun r hr=>hh r (Bc _ hr)) (fun p hp=>ht p (Ag _ hp)) K' JP
  ·exact hk.elim
theorem H6{d:Option Nat}{h:Nat→HO}{sz:Nat}{es:List (List AV)}(hk:Er cx d h sz es K) :
  ∃d',d.map (Kf cx)=some d'∧∃v x,K v (AU h d' x)∧∀h2:Nat→HO,h2 d'=h d'→∀K' : HK,K' v (AU h2 d' x)→Er cx d h2 sz es K':=by
 unfold Er at hk;split at hk
 ·exact hk.elim
 ·rename_i d;split at hk
  ·rename_i hd;split at hk
   ·rename_i e;exact⟨Kf cx d,rfl,_,_,hk,fun h2 hh K' h'=>by unfold Er;simp only[hh,hd,e];exact h'⟩
   ·rename_i e;exact⟨Kf cx d,rfl,_,_,hk,fun h2 hh K' h'=>by unfold Er;simp only[hh,hd,e];exact h'⟩
  ·exact hk.elim
theorem Yg{h:Nat→HO}{x:AV}{K:List (List AV)→Prop}(hk:KM h x K):∃es,K es∧∀h2:Nat→HO,(∀r n,x=.msl r n→h2 r=h r)→∀K' : List (List AV)→Prop,K' es→KM h2 x K':=by
 unfold KM at hk;split at hk
 ·exact⟨_,hk,fun _ _ K' h=>h⟩
 ·exact⟨_,hk,fun _ _ K' h=>h⟩
 ·rename_i r n;split at hk
  ·rename_i sz es e;exact⟨_,hk.2,fun h2 hh K' h=>by unfold KM;simp only[hh r n rfl,e];exact⟨hk.1,h⟩⟩
  ·exact hk.elim
 ·exact hk.elim
end
section
variable {cx:Cx}{dst:Option Nat}{ty:Nat}{pos:String}{after:Array Edge}{gd:Option (Nat×Bool)}{st:St}{R:List Nat}{w:Option Nat}{K:HK}
theorem Ih{d:Option Nat}{l:List Nat}{f:Fj}(h:Ig d l=some f):∃d',d=some d'∧f=(d' :: l,some d'):=by
 unfold Ig at h;cases d with
 |none=>cases h
 |some d=>cases h;exact⟨d,rfl,rfl⟩
theorem WU{e:Nat}(hk:FD cx true ⟨dst,.alloc e,ty,pos,after,gd⟩ st K)(hf:E4 cx ⟨dst,.alloc e,ty,pos,after,gd⟩ st=some (R,w)):D6 cx ⟨dst,.alloc e,ty,pos,after,gd⟩ st R w K:=by
 simp only[FD]at hk;obtain⟨d,rfl,e0⟩:=Ih hf;cases e0;unfold Rn at hk;simp only at hk;split at hk
 ·rename_i hd;split at hk
  ·exact hk.elim
  ·rename_i Dt;split at hk
   ·rename_i ha;refine⟨_,some (d,_),hk,fun r o' e=>(by cases e;exact⟨rfl,Ab ..⟩),fun st2 GJ K' h'=>?_⟩;simp only[FD,Rn];rw[GJ.h d (Ab ..),hd];simp only[ha];exact h'
   ·exact hk.elim
 ·exact hk.elim
theorem aR{e:Nat}{x:Operand}(hk:FD cx true ⟨dst,.box e x,ty,pos,after,gd⟩ st K)(hf:E4 cx ⟨dst,.box e x,ty,pos,after,gd⟩ st=some (R,w)):D6 cx ⟨dst,.box e x,ty,pos,after,gd⟩ st R w K:=by
 simp only[FD]at hk;obtain⟨d,rfl,e0⟩:=Ih hf;cases e0;unfold aA at hk;simp only at hk;split at hk
 ·rename_i hd;split at hk
  ·exact hk.elim
  ·rename_i Dt;obtain⟨cs,c1,c2,c3⟩:=M3 hk;split at c1
   ·rename_i hm;refine⟨_,some (d,_),c1,fun r o' e=>(by cases e;exact⟨rfl,Ab ..⟩),fun st2 GJ K' h'=>?_⟩;have hx:ev st2.t x=ev st.t x:=GJ.t x (by simp[Op.operands]);simp only[FD,aA];rw[GJ.h d (Ab ..),hd,hx];simp only[hm];refine c2 _ ?_;rw[c3 st.h st2.h (fun r hr=>GJ.h r (Ag _ hr))];exact h'
   ·rename_i hm;refine⟨_,some (d,_),c1,fun r o' e=>(by cases e;exact⟨rfl,Ab ..⟩),fun st2 GJ K' h'=>?_⟩;have hx:ev st2.t x=ev st.t x:=GJ.t x (by simp[Op.operands]);simp only[FD,aA];rw[GJ.h d (Ab ..),hd,hx];simp only[hm];exact c2 _ h'
 ·exact hk.elim
theorem Pc{t n:Nat}{ps:Array (Nat×Operand)}(hk:FD cx true ⟨dst,.buildSlice t n ps,ty,pos,after,gd⟩ st K)(hf:E4 cx ⟨dst,.buildSlice t n ps,ty,pos,after,gd⟩ st=some (R,w)) :
  D6 cx ⟨dst,.buildSlice t n ps,ty,pos,after,gd⟩ st R w K:=by
 simp only[FD]at hk;obtain⟨d,aZ,e0⟩:=Ih hf;cases e0;unfold Ie at hk;split at hk
 ·rename_i e he;split at hk
  ·rename_i h1 h2;split at hk
   ·exact hk.elim
   ·rename_i k Et;split at hk
    ·rename_i hb;obtain⟨es,q1,q2⟩:=RM hk;obtain⟨d',hd,v,x,q3,q4⟩:=H6 q1;have hd:dst.map (Kf cx)=some d':=hd;have aZ:dst.map (Kf cx)=some d:=aZ;rw[aZ]at hd;cases hd;refine⟨v,some (d,x),q3,fun r o' e=>(by cases e;exact⟨rfl,Ab ..⟩),fun st2 GJ K' h'=>?_⟩;have hx:∀p∈ps.toList,ev st2.t p.2=ev st.t p.2:=fun p hp=>GJ.t p.2 (by
      simp only[Op.operands,List.mem_toArray];exact Al.2 ⟨p,hp,rfl⟩)
     simp only[FD,Ie,he,h1,h2];split
     ·rename_i e0;rw[Et]at e0;cases e0
     ·rw[hb];exact q2 st2.t st2.h (fun r hr=>GJ.h r (Ag _ hr)) hx _ (q4 st2.h (GJ.h d (Ab ..)) K' h')
    ·exact hk.elim
  ·exact hk.elim
 ·exact hk.elim
theorem QB{t:Nat}{n c:Operand}(hk:FD cx true ⟨dst,.makeSlice t n c,ty,pos,after,gd⟩ st K)(hf:E4 cx ⟨dst,.makeSlice t n c,ty,pos,after,gd⟩ st=some (R,w)) :
  D6 cx ⟨dst,.makeSlice t n c,ty,pos,after,gd⟩ st R w K:=by
 simp only[FD]at hk;obtain⟨d,aZ,e0⟩:=Ih hf;cases e0;have hn:∀st2,Iy ⟨dst,.makeSlice t n c,ty,pos,after,gd⟩ (d::[]) st st2→ev st2.t n=ev st.t n∧ev st2.t c=ev st.t c:=fun st2 ha=>⟨ha.t n (by simp[Op.operands]),ha.t c (by simp[Op.operands])⟩;unfold Ja at hk;split at hk
 ·rename_i e a b h1 h2 h3;split at hk
  ·rename_i h4;split at hk
   ·rename_i h5;split at hk
    ·exact hk.elim
    ·rename_i k Et;obtain⟨d',hd,v,x,q3,q4⟩:=H6 hk.2;have hd:dst.map (Kf cx)=some d':=hd;have aZ:dst.map (Kf cx)=some d:=aZ;rw[aZ]at hd;cases hd;refine⟨v,some (d,x),q3,fun r o' e=>(by cases e;exact⟨rfl,Ab ..⟩),fun st2 GJ K' h'=>?_⟩;simp only[FD,Ja,(hn st2 GJ).1,(hn st2 GJ).2,h1,h2,h3,h4,h5];split
     ·rename_i e0;rw[Et]at e0;cases e0
     ·exact⟨hk.1,q4 st2.h (GJ.h d (Ab ..)) K' h'⟩
   ·exact hk.elim
  ·exact hk.elim
 ·exact hk.elim
theorem TF{t:Nat}{r:Option Operand}(hk:FD cx true ⟨dst,.makeMap t r,ty,pos,after,gd⟩ st K)(hf:E4 cx ⟨dst,.makeMap t r,ty,pos,after,gd⟩ st=some (R,w)) :
  D6 cx ⟨dst,.makeMap t r,ty,pos,after,gd⟩ st R w K:=by
 cases r with
 |some r=>exact hk.elim
 |none =>
  simp only[FD]at hk;obtain⟨d,rfl,e0⟩:=Ih hf;cases e0;unfold Km at hk;simp only at hk;split at hk
  ·rename_i hd;split at hk
   ·rename_i h1;split at hk
    ·rename_i h2;split at hk
     ·rename_i h3;refine⟨_,some (d,_),hk,fun r o' e=>(by cases e;exact⟨rfl,Ab ..⟩),fun st2 GJ K' h'=>?_⟩;simp only[FD,Km];rw[GJ.h d (Ab ..),hd];simp only[h1,h2,h3];exact h'
     ·rename_i h3;refine⟨_,some (d,_),hk,fun r o' e=>(by cases e;exact⟨rfl,Ab ..⟩),fun st2 GJ K' h'=>?_⟩;simp only[FD,Km];rw[GJ.h d (Ab ..),hd];simp only[h1,h2,h3];exact h'
    ·exact hk.elim
   ·exact hk.elim
  ·exact hk.elim
theorem WV{t:Nat}{p x:Operand}(hk:FD cx true ⟨dst,.store t p x,ty,pos,after,gd⟩ st K)(hf:E4 cx ⟨dst,.store t p x,ty,pos,after,gd⟩ st=some (R,w)) :
  D6 cx ⟨dst,.store t p x,ty,pos,after,gd⟩ st R w K:=by
 simp only[FD]at hk;have hn:∀st2,Iy ⟨dst,.store t p x,ty,pos,after,gd⟩ R st st2→ev st2.t p=ev st.t p∧ev st2.t x=ev st.t x:=fun st2 ha=>⟨ha.t p (by simp[Op.operands]),ha.t x (by simp[Op.operands])⟩;unfold NA at hk;split at hk
 ·exact hk.elim
 ·rename_i Dt;obtain⟨cs,c1,c2,c3⟩:=M3 hk;simp only[E4]at hf;split at hf
  ·rename_i r off hp;split at hf
   ·cases hf
   ·rename_i hm;cases hf;rw[hp]at c1;simp only at c1;split at c1
    ·rename_i Fq hr;obtain⟨Hb,JP⟩:=c1;rw[hm]at JP;refine⟨_,some (r,_),JP,fun r o' e=>(by cases e;exact⟨rfl,Ab ..⟩),fun st2 GJ K' h'=>?_⟩;simp only[FD,NA,(hn st2 GJ).1,(hn st2 GJ).2];refine c2 _ ?_;rw[hp];simp only[GJ.h r (Ab ..),hr,hm];exact⟨Hb,h'⟩
    ·exact c1.elim
  ·rename_i r n sz i off hp;cases hf;rw[hp]at c1;simp only at c1;split at c1
   ·rename_i Gc es hr;split at c1
    ·rename_i hs;obtain⟨Hb,cell,e1,e2,JP⟩:=c1;split at JP
     ·rename_i j m;refine⟨_,some (r,_),JP,fun r o' e=>(by cases e;exact⟨rfl,Ab ..⟩),fun st2 GJ K' h'=>?_⟩;simp only[FD,NA,(hn st2 GJ).1,(hn st2 GJ).2];refine c2 _ ?_;rw[hp];simp only[GJ.h r (Ab ..),hr,hs];exact⟨Hb,cell,e1,e2,h'⟩
     ·rename_i QG;refine⟨_,some (r,_),JP,fun r o' e=>(by cases e;exact⟨rfl,Ab ..⟩),fun st2 GJ K' h'=>?_⟩;simp only[FD,NA,(hn st2 GJ).1,(hn st2 GJ).2];refine c2 _ ?_;rw[hp];simp only[GJ.h r (Ab ..),hr,hs];refine⟨Hb,cell,e1,e2,?_⟩;rw[c3 st.h st2.h (fun r hr=>GJ.h r (Ag _ hr))];exact h'
    ·exact c1.elim
   ·exact c1.elim
  ·cases hf
theorem QC{t:Nat}{m k x:Operand}(hk:FD cx true ⟨dst,.mapUpdate t m k x,ty,pos,after,gd⟩ st K)(hf:E4 cx ⟨dst,.mapUpdate t m k x,ty,pos,after,gd⟩ st=some (R,w)) :
  D6 cx ⟨dst,.mapUpdate t m k x,ty,pos,after,gd⟩ st R w K:=by
 simp only[FD]at hk;have hn:∀st2,Iy ⟨dst,.mapUpdate t m k x,ty,pos,after,gd⟩ R st st2→ev st2.t m=ev st.t m∧ev st2.t k=ev st.t k∧ev st2.t x=ev st.t x:=fun st2 ha=>⟨ha.t m (by simp[Op.operands]),ha.t k (by simp[Op.operands]),ha.t x (by simp[Op.operands])⟩;simp only[E4]at hf;split at hf
 ·rename_i r hm;cases hf;unfold GP at hk;rw[hm]at hk;simp only at hk;split at hk
  ·rename_i sh BU hr;unfold JS at hk;split at hk
   ·rename_i kt e h1;split at hk
    ·rename_i r5 h2;split at hk
     ·rename_i h3;split at hk
      ·rename_i kx h4;split at hk
       ·rename_i h5;refine⟨_,some (r,_),hk,fun r o' e=>(by cases e;exact⟨rfl,Ab ..⟩),fun st2 GJ K' h'=>?_⟩;obtain⟨n1,n2,n3⟩:=hn st2 GJ;simp only[FD,GP,n1,n2,n3,hm,GJ.h r (Ab ..),hr,JS,h1,h2,h3,h4,h5];rw[Ky (h:=st.h) (h2:=st2.h) (fun r hr=>GJ.h r (Ag _ hr))];exact h'
       ·exact hk.elim
      ·exact hk.elim
     ·exact hk.elim
    ·exact hk.elim
   ·exact hk.elim
  ·rename_i sh BU hr;unfold JS at hk;split at hk
   ·rename_i kt e h1;split at hk
    ·rename_i r5 h2;split at hk
     ·rename_i h3;split at hk
      ·rename_i kx h4;split at hk
       ·rename_i h5;refine⟨_,some (r,_),hk,fun r o' e=>(by cases e;exact⟨rfl,Ab ..⟩),fun st2 GJ K' h'=>?_⟩;obtain⟨n1,n2,n3⟩:=hn st2 GJ;simp only[FD,GP,n1,n2,n3,hm,GJ.h r (Ab ..),hr,JS,h1,h2,h3,h4,h5];exact h'
       ·exact hk.elim
      ·exact hk.elim
     ·exact hk.elim
    ·exact hk.elim
   ·exact hk.elim
  ·exact hk.elim
 ·cases hf
theorem ZM{A B:(AV→Prop)→Prop}(ha:FU A)(hb:FU B):FU fun K=>A K∨B K:=by
 intro K hk;rcases hk with hk | hk
 ·obtain⟨v,h1,h2⟩:=ha K hk;exact⟨v,h1,fun K' h=>.inl (h2 K' h)⟩
 ·obtain⟨v,h1,h2⟩:=hb K hk;exact⟨v,h1,fun K' h=>.inr (h2 K' h)⟩
theorem RT{fn:Fn}{first cap:Array Operand}(hk:FD cx true ⟨dst,.makeFunc fn first cap,ty,pos,after,gd⟩ st K)(hf:E4 cx ⟨dst,.makeFunc fn first cap,ty,pos,after,gd⟩ st=some (R,w)) :
  D6 cx ⟨dst,.makeFunc fn first cap,ty,pos,after,gd⟩ st R w K:=by
 simp only[FD]at hk;simp only[E4]at hf;cases hf;unfold Kl at hk;split at hk
 ·rename_i f h1;refine⟨_,none,hk,fun r o' e=>(by cases e),fun st2 GJ K' h'=>?_⟩;simp only[FD,h1,Kl]
  have:cap.toList.map (fun x=>rsv st2.h (ev st2.t x))=cap.toList.map (fun x=>rsv st.h (ev st.t x)):=Ba fun x hx=>by
   rw[GJ.t x (by simp only[Op.operands,Rd];exact .inr (by simpa using hx))];exact gz fun r hr=>GJ.h r (Xn (Al.2 ⟨x,hx,rfl⟩) r hr)
  rw[this];exact h'
 ·exact hk.elim
end
end Go.Eng
