/- Lemmas for the claims of this seat, without a condition: part 10 (EngT, EngU, EngV, EngW). -/
import Derived.Test.YtddfphmpfnmknaaGreatDoorFA09
import Derived.Maps.RangeRun
namespace Go.Eng
open Go.ChangeMaps (setBlock)
theorem Uq{w:World}{r:Nat}{o o' : Obj}(h:w.heap[r]?=some o):(setBlock w r o').heap[r]?=some o':=by
 have:=(Bl.1 h).1
 simp[setBlock,this]
theorem TK{w:World}{r k:Nat}{o' : Obj}(h:k≠r):(setBlock w r o').heap[k]?=w.heap[k]?:=by
 simp[setBlock,Ne.symm h]
theorem Nh(w:World)(r:Nat)(o' : Obj):(setBlock w r o').heap.size=w.heap.size:=by simp[setBlock]
theorem OT{α β:Type}{f:α→β}{l:List α}(h:(l.map f).Nodup):l.Nodup:=by
 induction l with
 |nil=>exact E9
 |cons c l ih =>
  rw[AL,CK]at h;exact CK.2 ⟨fun hc=>h.1 (Ak.2 ⟨c,hc,rfl⟩),ih h.2⟩
theorem Vd{α β:Type}{f:α→β}{l:List α}(h:(l.map f).Nodup){i j:Nat}{a b:α}(ha:l[i]?=some a)(hb:l[j]?=some b)(he:f a=f b):i=j:=by
 induction l generalizing i j with
 |nil=>simp at ha
 |cons c l ih =>
  rw[AL,CK]at h;cases i with
  |zero =>
   cases j with
   |zero=>rfl
   |succ j =>
    simp only[A7,Bi,GK]at ha hb;exact absurd (Ak.2 ⟨b,Ar hb,by rw[←he,ha]⟩) h.1
  |succ i =>
   cases j with
   |zero =>
    simp only[A7,Bi,GK]at ha hb;exact absurd (Ak.2 ⟨a,Ar ha,by rw[he,hb]⟩) h.1
   |succ j=>exact Ac (·+1) (ih h.2 ha hb)
open Classical in
theorem PN{BX:List (Value×AV)}{k:Value}{a b:AV}(h:(k,b)∈BX):ER BX k a=BX.map fun p=>if p.1=k then(k,a)else p:=Ao ⟨b,h⟩
open Classical in
theorem Kw{BX:List (Value×AV)}{k:Value}{a:AV}(h:∀b,(k,b)∉BX):ER BX k a=BX++[(k,a)]:=Ah (fun⟨b,e⟩=>h b e)
theorem Va{sh:EE}{es:Array MapEntry}{ck:Nat}{BX:List (Value×AV)}(f:AV→AV)(h:G8 sh es ck BX):G8 sh es ck (BX.map fun p=>(p.1,f p.2)):=by
 obtain⟨h1,h2,h3,h4,h5,h6⟩:=h;refine⟨by simp[h1],fun i kv e q1 q2=>?_,fun kv Po=>?_,?_,h5,h6⟩
 ·rw[AG]at q1;obtain⟨p,q3,rfl⟩:=AW.1 q1;exact h2 i p e q3 q2
 ·obtain⟨p,hp,rfl⟩:=Ak.1 Po;exact h3 p hp
 ·rw[BB];exact h4
theorem OO{sh:EE}{es:Array MapEntry}{ck:Nat}{BX:List (Value×AV)}(h:G8 sh es ck BX){x:Value}{a v:AV}{y:Value}{j:Nat}(hj:BX[j]?=some (x,a)) :
  G8 sh (es.modify j fun e=>{ e with key:=x,val:=y }) ck (ER BX x v) ∧
   ∀(i:Nat) (kv:Value×AV) (e:MapEntry),(ER BX x v)[i]?=some kv→(es.modify j fun e=>{ e with key:=x,val:=y })[i]?=some e →
    (kv.2=v∧e.val=y)∨(BX[i]?=some kv∧es[i]?=some e):=by
 classical
 rw[PN (Ar hj)];obtain⟨h1,h2,h3,h4,h5,h6⟩:=h;have hm:∀i e,(es.modify j fun e=>{ e with key:=x,val:=y })[i]?=some e→∃e0,es[i]?=some e0∧e.born=e0.born∧(if i=j then e.key=x∧e.val=y else e=e0):=by
  intro i e he;rw[Array.getElem?_modify]at he;split at he
  ·rename_i e1;subst e1;obtain⟨e0,q1,q2⟩:=AW.1 he;exact⟨e0,q1,by rw[←q2],by rw[Ao rfl,←q2];exact⟨rfl,rfl⟩⟩
  ·rename_i e1;exact⟨e,he,rfl,by rw[Ah (fun q=>e1 q.symm)]⟩
 have hk:∀i kv,(BX.map fun p=>if p.1=x then(x,v)else p)[i]?=some kv→∃p,BX[i]?=some p∧kv.1=p.1∧(if i=j then kv.2=v else kv=p):=by
  intro i kv Po;rw[AG]at Po;obtain⟨p,q1,q2⟩:=AW.1 Po;refine⟨p,q1,?_⟩
  by_cases e:p.1=x
  ·rw[Ao e]at q2;subst q2
   have:=Vd h4 q1 hj e
   exact⟨e.symm,by rw[Ao this]⟩
  ·rw[Ah e]at q2;subst q2;refine⟨rfl,?_⟩;rw[Ah];intro e2;subst e2;rw[q1]at hj;cases hj;exact e rfl
 have qM:(BX.map fun p=>if p.1=x then(x,v)else p).map (·.1)=BX.map (·.1):=by
  rw[BB];apply A5;intro p _;simp only[Function.comp];split
  ·rename_i e;exact e.symm
  ·rfl
 refine⟨⟨by simp[h1],fun i kv e q1 q2=>?_,fun kv Po=>?_,by rw[qM];exact h4,fun i e q=>?_,fun i i' e e' q q' hb=>?_⟩,fun i kv e q1 q2=>?_⟩
 ·obtain⟨p,p1,p2,p3⟩:=hk i kv q1;obtain⟨e0,r1,r2,r3⟩:=hm i e q2
  have:=h2 i p e0 p1 r1
  split at r3
  ·rename_i ij;subst ij;rw[hj]at p1;cases p1;rw[r3.1,p2]
  ·rw[r3,p2];exact this
 ·obtain⟨i,hi⟩:=B4.1 Po;obtain⟨p,p1,p2,p3⟩:=hk i kv hi;rw[p2];exact h3 p (Ar p1)
 ·obtain⟨e0,r1,r2,_⟩:=hm i e q;rw[r2];exact h5 i e0 r1
 ·obtain⟨e0,r1,r2,_⟩:=hm i e q;obtain⟨e1,s1,s2,_⟩:=hm i' e' q';exact h6 i i' e0 e1 r1 s1 (by rw[←r2,←s2];exact hb)
 ·obtain⟨p,p1,p2,p3⟩:=hk i kv q1;obtain⟨e0,r1,r2,r3⟩:=hm i e q2;split at r3
  ·rename_i ij;rw[Ao ij]at p3;exact .inl ⟨p3,r3.2⟩
  ·rename_i ij;rw[Ah ij]at p3;exact .inr ⟨by rw[p3];exact p1,by rw[r3];exact r1⟩
theorem Tg{sh:EE}{es:Array MapEntry}{ck:Nat}{BX:List (Value×AV)}(h:G8 sh es ck BX){x:Value}{v:AV}{y:Value}(hx:Vm sh x=true)(hn:∀a,(x,a)∉BX) :
  G8 sh (es.push { key:=x,val:=y,born:=ck }) (ck+1) (ER BX x v) ∧
   ∀(i:Nat) (kv:Value×AV) (e:MapEntry),(ER BX x v)[i]?=some kv→(es.push { key:=x,val:=y,born:=ck })[i]?=some e →
    (kv.2=v∧e.val=y)∨(BX[i]?=some kv∧es[i]?=some e):=by
 rw[Kw hn];obtain⟨h1,h2,h3,h4,h5,h6⟩:=h;have hm:∀i e,(es.push { key:=x,val:=y,born:=ck })[i]?=some e→(es[i]?=some e∧i<es.size)∨(i=es.size∧e={ key:=x,val:=y,born:=ck }):=by
  intro i e he;rw[Array.getElem?_push]at he;split at he
  ·rename_i q;cases he;exact .inr ⟨q,rfl⟩
  ·exact .inl ⟨he,(Bl.1 he).1⟩
 have hk:∀i kv,(BX++[(x,v)])[i]?=some kv→(BX[i]?=some kv∧i<es.size)∨(i=es.size∧kv=(x,v)):=by
  intro i kv Po;rw[LI]at Po;split at Po
  ·rename_i q;exact .inl ⟨Po,by omega⟩
  ·rename_i q
   have:i-BX.length=0:=by
    have:=(Ap.1 Po).1
    simp at this;omega
   rw[this]at Po;simp at Po;exact .inr ⟨by omega,Po.symm⟩
 refine⟨⟨by simp[h1],fun i kv e q1 q2=>?_,fun kv Po=>?_,?_,fun i e q=>?_,fun i i' e e' q q' hb=>?_⟩,fun i kv e q1 q2=>?_⟩
 ·rcases hk i kv q1 with ⟨p1,p2⟩ | ⟨p1,p2⟩<;>rcases hm i e q2 with ⟨r1,r2⟩ | ⟨r1,r2⟩
  ·exact h2 i kv e p1 r1
  ·omega
  ·omega
  ·rw[p2,r2]
 ·rcases AU.1 Po with q | q
  ·exact h3 kv q
  ·rw[Am.1 q];exact hx
 ·rw[Ay,Gd];refine⟨h4,by simp,fun a ha b hb e=>?_⟩;simp only[AL,E1,Am]at hb;obtain⟨p,p1,p2⟩:=Ak.1 ha;refine hn p.2 ?_
  have:p=(x,p.2):=by rw[←hb,←e,←p2]
  rw[←this];exact p1
 ·rcases hm i e q with ⟨r1,_⟩ | ⟨_,r2⟩
  ·have:=h5 i e r1;omega
  ·rw[r2];exact Lx _
 ·rcases hm i e q with ⟨r1,_⟩ | ⟨r1,r2⟩<;>rcases hm i' e' q' with ⟨s1,_⟩ | ⟨s1,s2⟩
  ·exact h6 i i' e e' r1 s1 hb
  ·have:=h5 i e r1;rw[s2]at hb;dsimp only at hb;omega
  ·have:=h5 i' e' s1;rw[r2]at hb;dsimp only at hb;omega
  ·omega
 ·rcases hk i kv q1 with ⟨p1,p2⟩ | ⟨p1,p2⟩<;>rcases hm i e q2 with ⟨r1,r2⟩ | ⟨r1,r2⟩
  ·exact .inr ⟨p1,r1⟩
  ·omega
  ·omega
  ·exact .inl ⟨by rw[p2],by rw[r2]⟩
section
variable {P:Program}{w0:World}{g0:Gh}{h0 h:Nat→HO}{g:Gh}{w:World}(hI:DB w0 g0 h0 h g w)
include hI
theorem DB.swap{r b:Nat}(hl:(h r).live)(ho:g.own r=some b)(hn:∀o,¬g.S b o)(o' : HO){ob:Obj}(hb:w.heap[b]?=some ob)(aM : Obj)(w1:World)(KK:w1.heap=w.heap∧w1.os=w.os∧w1.tape=w.tape∧w1.output=w.output)(Dt:o'≠.free)
  (Jk:JX g (g.upd r (g.ρ r) (g.ln r) (g.tk r) (g.own r) g.S) (AP h)→EA g w (g.upd r (g.ρ r) (g.ln r) (g.tk r) (g.own r) g.S) (setBlock w1 b aM)→(setBlock w1 b aM).heap[b]?=some aM →
   (∀k,k≠b→(setBlock w1 b aM).heap[k]?=w.heap[k]?) →
   D6 (g.upd r (g.ρ r) (g.ln r) (g.tk r) (g.own r) g.S) (setBlock w1 b aM) (AP (AT h r o')) r o') :
  DB w0 g0 h0 (AT h r o') (g.upd r (g.ρ r) (g.ln r) (g.tk r) (g.own r) g.S) (setBlock w1 b aM)∧Le h g w (AT h r o') (g.upd r (g.ρ r) (g.ln r) (g.tk r) (g.own r) g.S) (setBlock w1 b aM):=by
 have DA:=(hI.loc r b hl ho).1;have EQ:(setBlock w1 b aM).heap[b]?=some aM:=Uq (by rw[KK.1];exact hb);have Zf:∀k,k≠b→(setBlock w1 b aM).heap[k]?=w.heap[k]?:=fun k hk=>by rw[TK hk,KK.1]
 refine hI.upd r o' _ _ _ _ _ _ (some b) ⟨KK.2.1,KK.2.2.1,KK.2.2.2,by rw[Nh,KK.1];exact Al _⟩ (fun k _ Dt=>Zf k (fun e=>Dt (by rw[e]))) (fun b' e=>by cases e;exact⟨hl,ho⟩) (fun _ _ h=>h) (fun _ _ h=>.inl h)
  (fun b' o e hs=>by cases e;exact absurd hs (hn o)) (fun b' _ e=>?_) Dt (fun _=>⟨rfl,Al _,fun _=>rfl,fun _=>rfl⟩) (fun hg hk=>Jk hg hk EQ Zf)
 rw[ho]at e;cases e;exact⟨by rw[Nh,KK.1];exact DA,.inl ⟨hl,ho⟩⟩
theorem M8{T:Gs}(hT:Cn P T){ty:Nat}{m k x:AV}{vm vk vx:Value}{K:HK}(hm:BD g w (AP h) m vm)(J4 : BD g w (AP h) k vk)(hx:BD g w (AP h) x vx)(hk:G0 T h ty m k x K) :
  dS P w0 g0 h0 h g w (Instr.mapUpdate ty vm vk vx) K:=by
 unfold G0 at hk;split at hk
 ·rename_i r;split at hk
  ·rename_i sh BX e0;obtain⟨kt,e,k1,k2,k3,k4⟩:=Mz J4 hk;have ho:=hI.objs r;rw[e0]at ho;obtain⟨t1,b,es,ck,a1,a2,a3,a4,a5,a6⟩:=ho;have hl:(h r).live:=by rw[e0];trivial
   cases hm with
   |mref _ _ b' hu ht hp =>
    rw[a2]at hp;cases hp;have fZ:=hT.map k1;have Fc:=run_getObj_map (P:=P) w b es ck a3;have NA:∀o',(setObj b o').run P w=.ok () (setBlock w b o'):=fun o'=>by simp[setObj,Sem.run,a3,setBlock]
    have TZ:=fun bb=>Mh hT k2 w bb k3;obtain⟨res,r1,r2⟩:=NS hT k2 w k3 es.toList a4.shape;have ji:=BD.str hI.objs hx;rcases r2 with ⟨rfl,hn⟩ | ⟨j,en,rfl,hj,hkey⟩
    ·obtain⟨m1,m2⟩:=Tg a4 (x:=vk) (v:=str h x) (y:=vx) k3 (fun a=>a4.none hn a);obtain⟨i1,i2⟩:=DB.swap hI hl a1 a6 (.map sh (ER BX vk (str h x))) a3 (.map (es.push { key:=vk,val:=vx,born:=ck }) (ck+1)) w ⟨rfl,rfl,rfl,rfl⟩ (by simp) (fun hg HZ EQ Zf=>by
      obtain⟨u1,u2,u3,u4⟩:=Bw g r (g.ρ r) (g.ln r) (g.tk r) (g.own r) g.S;refine⟨u3.trans t1,b,_,_,u4.trans a1,u1.trans a2,EQ,m1,fun i kv e q1 q2=>?_,a6⟩;rcases m2 i kv e q1 q2 with ⟨p1,p2⟩ | ⟨p1,p2⟩
      ·rw[p1,p2];exact ji.mono HZ (fun _ h=>h) (fun _ h=>h.elim)
      ·exact(a5 i kv e p1 p2).mono HZ (fun _ h=>h) (fun _ h=>h.elim))
     refine⟨_,_,_,?_,k4,i1,i2⟩;simp[Instr.mapUpdate,run_underlying fZ,Fc,TZ,r1,NA]
    ·obtain⟨a,q1,q2⟩:=a4.some hj hkey;obtain⟨m1,m2⟩:=OO a4 (x:=vk) (v:=str h x) (y:=vx) q1;obtain⟨i1,i2⟩:=DB.swap hI hl a1 a6 (.map sh (ER BX vk (str h x))) a3 (.map (es.modify j fun e=>{ e with key:=vk,val:=vx }) ck) w ⟨rfl,rfl,rfl,rfl⟩ (by simp) (fun hg HZ EQ Zf=>by
      obtain⟨u1,u2,u3,u4⟩:=Bw g r (g.ρ r) (g.ln r) (g.tk r) (g.own r) g.S;refine⟨u3.trans t1,b,_,_,u4.trans a1,u1.trans a2,EQ,m1,fun i kv e q1 q2=>?_,a6⟩;rcases m2 i kv e q1 q2 with ⟨p1,p2⟩ | ⟨p1,p2⟩
      ·rw[p1,p2];exact ji.mono HZ (fun _ h=>h) (fun _ h=>h.elim)
      ·exact(a5 i kv e p1 p2).mono HZ (fun _ h=>h) (fun _ h=>h.elim))
     refine⟨_,_,_,?_,k4,i1,i2⟩;have nG : es[j]?=some en:=by simpa using hj
     have Jl:=QY (P:=P) w k3;simp[Instr.mapUpdate,run_underlying fZ,Fc,TZ,r1,NA,nG,hkey,Jl]
  ·rename_i sh BX e0;obtain⟨kt,e,k1,k2,k3,k4⟩:=Mz J4 hk;have ho:=hI.objs r;rw[e0]at ho;obtain⟨t1,b,es,ck,a1,a2,a3,a4,a5,a6⟩:=ho;have hl:(h r).live:=by rw[e0];trivial
   cases hm with
   |mref _ _ b' hu ht hp =>
    rw[a2]at hp;cases hp;have fZ:=hT.map k1;have Fc:=run_getObj_map (P:=P) w b es ck a3;have NA:∀o',(setObj b o').run P w=.ok () (setBlock w b o'):=fun o'=>by simp[setObj,Sem.run,a3,setBlock]
    have TZ:=fun bb=>Mh hT k2 w bb k3;obtain⟨res,r1,r2⟩:=NS hT k2 w k3 es.toList a4.shape;rcases r2 with ⟨rfl,hn⟩ | ⟨j,en,rfl,hj,hkey⟩
    ·obtain⟨m1,m2⟩:=Tg a4 (x:=vk) (v:=x) (y:=vx) k3 (fun a=>a4.none hn a);obtain⟨i1,i2⟩:=DB.swap hI hl a1 a6 (.mapU sh (ER BX vk (x))) a3 (.map (es.push { key:=vk,val:=vx,born:=ck }) (ck+1)) w ⟨rfl,rfl,rfl,rfl⟩ (by simp) (fun hg HZ EQ Zf=>by
      obtain⟨u1,u2,u3,u4⟩:=Bw g r (g.ρ r) (g.ln r) (g.tk r) (g.own r) g.S;have Kd:∀i,AP h i→AP (AT h r (.mapU sh (ER BX vk x))) i:=fun i hi=>DI (by simp) i hi;refine⟨u3.trans t1,b,_,_,u4.trans a1,u1.trans a2,EQ,m1,fun i kv e q1 q2=>?_,a6⟩;rcases m2 i kv e q1 q2 with ⟨p1,p2⟩ | ⟨p1,p2⟩
      ·rw[p1,p2];exact hx.mono HZ Kd hg
      ·exact(a5 i kv e p1 p2).mono HZ Kd hg)
     refine⟨_,_,_,?_,k4,i1,i2⟩;simp[Instr.mapUpdate,run_underlying fZ,Fc,TZ,r1,NA]
    ·obtain⟨a,q1,q2⟩:=a4.some hj hkey;obtain⟨m1,m2⟩:=OO a4 (x:=vk) (v:=x) (y:=vx) q1;obtain⟨i1,i2⟩:=DB.swap hI hl a1 a6 (.mapU sh (ER BX vk (x))) a3 (.map (es.modify j fun e=>{ e with key:=vk,val:=vx }) ck) w ⟨rfl,rfl,rfl,rfl⟩ (by simp) (fun hg HZ EQ Zf=>by
      obtain⟨u1,u2,u3,u4⟩:=Bw g r (g.ρ r) (g.ln r) (g.tk r) (g.own r) g.S;have Kd:∀i,AP h i→AP (AT h r (.mapU sh (ER BX vk x))) i:=fun i hi=>DI (by simp) i hi;refine⟨u3.trans t1,b,_,_,u4.trans a1,u1.trans a2,EQ,m1,fun i kv e q1 q2=>?_,a6⟩;rcases m2 i kv e q1 q2 with ⟨p1,p2⟩ | ⟨p1,p2⟩
      ·rw[p1,p2];exact hx.mono HZ Kd hg
      ·exact(a5 i kv e p1 p2).mono HZ Kd hg)
     refine⟨_,_,_,?_,k4,i1,i2⟩;have nG : es[j]?=some en:=by simpa using hj
     have Jl:=QY (P:=P) w k3;simp[Instr.mapUpdate,run_underlying fZ,Fc,TZ,r1,NA,nG,hkey,Jl]
  ·exact hk.elim
 ·exact hk.elim
theorem NN{d b:Nat}{es:Array MapEntry}{ck:Nat}{sh:EE}{BX:List (Value×AV)}(hd:h d=.free)(hS:g.S b 0)(hb:w.heap[b]?=some (.map es ck))(hm:G8 sh es ck BX)
  (hv:∀(i:Nat) (kv:Value×AV) (e:MapEntry),BX[i]?=some kv→es[i]?=some e→BD g w Fi kv.2 e.val) :
  ∃g',DB w0 g0 h0 (AT h d (.iter BX BX none)) g' (w.alloc (.mapIter (some b) ck #[] ck))∧Le h g w (AT h d (.iter BX BX none)) g' (w.alloc (.mapIter (some b) ck #[] ck)) ∧
   BD g' (w.alloc (.mapIter (some b) ck #[] ck)) (AP (AT h d (.iter BX BX none))) (.ref d 0) (.pointer (some ⟨w.heap.size,0,none⟩)):=by
 obtain⟨k1,k2⟩:=hI.newOwn hd (.iter BX BX none) (.mapIter (some b) ck #[] ck) (.pointer (some ⟨w.heap.size,0,none⟩)) 0 false w ⟨rfl,rfl,rfl,rfl⟩ (by simp) (fun hg hk=>by
  obtain⟨u1,u2,u3,u4⟩:=Bw g d (.pointer (some ⟨w.heap.size,0,none⟩)) 0 false (some w.heap.size) g.S;obtain⟨c1,c2,c3⟩:=hk b 0 hS
  exact⟨u3,w.heap.size,b,ck,#[],ck,es,ck,u4,u1,HB w _ rfl,c1,c3 es ck hb,⟨sh,hm⟩,rfl,rfl,fun i kv e q1 q2=>(hv i kv e q1 q2).mono hk (fun _ h=>h) (fun _ h=>h.elim),
   ⟨OT hm.2.2.2.1,fun _ h=>h⟩,fun i kv e q1 q2=>by simp[List.mem_of_getElem? q1],trivial,fun o ho=>by have:=hI.slt _ _ ho;omega⟩)
 refine⟨_,k1,k2,.ref _ d 0 w.heap.size (by unfold AP;rw[Ba];simp) ?_ ?_⟩<;>simp[Gh.upd]
theorem QQ{r b:Nat}{sh:EE}{BX:List (Value×AV)}{es:Array MapEntry}{ck:Nat}(e0:h r=.map sh BX)(a1:g.own r=some b)(a2:g.ρ r=.map (some b))(a3:w.heap[b]?=some (.map es ck))(a4:G8 sh es ck BX)
  (a5:∀(i:Nat) (kv:Value×AV) (e:MapEntry),BX[i]?=some kv→es[i]?=some e→BD g w Fi kv.2 e.val) (t1:g.tk r=false) :
  ∃g',DB w0 g0 h0 (AT h r (.rom sh BX)) g' w∧Le h g w (AT h r (.rom sh BX)) g' w∧g'.S b 0:=by
 have hl:(h r).live:=by rw[e0];trivial
 have DA:=(hI.loc r b hl a1).1
 obtain⟨k1,k2⟩:=hI.upd r (.rom sh BX) (g.ρ r) (g.ln r) (g.tk r) none (g.more b 1) w none ⟨rfl,rfl,rfl,Al _⟩ (fun _ _ _=>rfl) (fun b e=>by cases e) (fun _ _ h=>.inl h)
  (fun b' o hs=>hs.elim .inl (fun hs=>.inr ⟨by rw[hs.1];exact DA,.inr ⟨hl,by rw[hs.1];exact a1⟩⟩)) (fun b o e=>by cases e) (fun b hh _=>by cases hh) (by simp)
  (fun _=>⟨rfl,Al _,fun _=>rfl,fun _=>rfl⟩) (fun hg hk=>by
   obtain⟨u1,u2,u3,u4⟩:=Bw g r (g.ρ r) (g.ln r) (g.tk r) none (g.more b 1);exact⟨u3.trans t1,b,u1.trans a2,.cmap _ sh BX b es ck (.inr ⟨rfl,Uw⟩) a3 a4 (fun i kv e q1 q2=>(a5 i kv e q1 q2).mono hk (fun _ h=>h) (fun _ h=>h.elim))⟩)
 exact⟨_,k1,k2,.inr ⟨rfl,Uw⟩⟩
theorem Wt{r b:Nat}{sh:EE}{BX:List (Value×AV)}{es:Array MapEntry}{ck:Nat}(e0:h r=.mapU sh BX)(a1:g.own r=some b)(a2:g.ρ r=.map (some b))(a3:w.heap[b]?=some (.map es ck))(a4:G8 sh es ck BX)
  (a5:∀(i:Nat) (kv:Value×AV) (e:MapEntry),BX[i]?=some kv→es[i]?=some e→BD g w (AP h) kv.2 e.val) (t1:g.tk r=false) :
  ∃g',DB w0 g0 h0 (AT h r (.rom sh (Ro h BX))) g' w∧Le h g w (AT h r (.rom sh (Ro h BX))) g' w∧g'.S b 0:=by
 have hl:(h r).live:=by rw[e0];trivial
 have DA:=(hI.loc r b hl a1).1
 obtain⟨k1,k2⟩:=hI.upd r (.rom sh (Ro h BX)) (g.ρ r) (g.ln r) (g.tk r) none (g.more b 1) w none ⟨rfl,rfl,rfl,Al _⟩ (fun _ _ _=>rfl) (fun b e=>by cases e) (fun _ _ h=>.inl h)
  (fun b' o hs=>hs.elim .inl (fun hs=>.inr ⟨by rw[hs.1];exact DA,.inr ⟨hl,by rw[hs.1];exact a1⟩⟩)) (fun b o e=>by cases e) (fun b hh _=>by cases hh) (by simp)
  (fun _=>⟨rfl,Al _,fun _=>rfl,fun _=>rfl⟩) (fun hg hk=>by
   obtain⟨u1,u2,u3,u4⟩:=Bw g r (g.ρ r) (g.ln r) (g.tk r) none (g.more b 1);refine⟨u3.trans t1,b,u1.trans a2,.cmap _ sh _ b es ck (.inr ⟨rfl,Uw⟩) a3 (Va _ a4) (fun i kv e q1 q2=>?_)⟩;unfold Ro at q1;rw[AG]at q1;obtain⟨p,q3,rfl⟩:=AW.1 q1;exact((a5 i p e q3 q2).str hI.objs).mono hk (fun _ h=>h) (fun _ h=>h.elim))
 exact⟨_,k1,k2,.inr ⟨rfl,Uw⟩⟩
theorem dk{T:Gs}(hT:Cn P T){ty kt e:Nat}(ht:(T ty).d=.map kt e){d:Option Nat}{x:AV}{vx:Value}{K:HK}(hx:BD g w (AP h) x vx)(hk:ZG d h x K) :
  N0 P w0 g0 h0 h g w (Instr.range ty vx) K:=by
 have hu:=hT.map ht;unfold ZG at hk;split at hk
 ·exact hk.elim
 ·rename_i d;split at hk
  ·rename_i hd;have CD:∀b es ck,w.heap[b]?=some (.map es ck)→(Instr.range ty (.map (some b))).run P w=.ok (.pointer (some ⟨w.heap.size,0,none⟩)) (w.alloc (.mapIter (some b) ck #[] ck)):=fun b es ck hb=>by
    simp[Instr.range,run_underlying hu,run_getObj_map (P:=P) w b es ck hb]
   split at hk
   ·cases hx with
    |cmap _ _ _ b es ck hS hb hm hv =>
     obtain⟨g',k1,k2,k3⟩:=NN hI hd hS hb hm hv;exact⟨_,_,_,_,_,CD _ _ _ hb,hk,k1,k2,k3⟩
   ·rename_i r;have ho:=hI.objs r;cases hx with
    |mref _ _ b fZ ht' hp =>
     split at hk
     ·rename_i sh BX e0;rw[e0]at ho;obtain⟨_,b',a1,a2⟩:=ho;rw[a1]at hp;cases hp;cases a2 with
      |cmap _ _ _ _ es ck hS hb hm hv =>
       obtain⟨g',k1,k2,k3⟩:=NN hI hd hS hb hm hv;exact⟨_,_,_,_,_,CD _ _ _ hb,hk,k1,k2,k3⟩
     ·rename_i sh BX e0;rw[e0]at ho;obtain⟨t1,b',es,ck,a1,a2,a3,a4,a5,a6⟩:=ho;rw[a2]at hp;cases hp;obtain⟨g1,i1,i2,i3⟩:=QQ hI e0 a1 a2 a3 a4 a5 t1;have Dt:d≠r:=fun e=>by rw[e,e0]at hd;cases hd
      obtain⟨g',k1,k2,k3⟩:=NN i1 (by rw[BV _ _ _ _ Dt];exact hd) i3 a3 a4 (fun i kv e q1 q2=>(a5 i kv e q1 q2).mono i2.keeps (fun _ h=>h) (fun _ h=>h.elim));exact⟨_,_,_,_,_,CD _ _ _ a3,hk,k1,i2.trans k2,k3⟩
     ·exact hk.elim
   ·exact hk.elim
  ·exact hk.elim
theorem gM{ty:TypeId}{x:AV}{vx:Value}{K:HK}(hx:BD g w (AP h) x vx)(hk:gL h x K):N0 P w0 g0 h0 h g w (Instr.next vx false ty) K:=by
 unfold gL at hk;split at hk
 ·rename_i r;split at hk
  ·rename_i all rem FA e0;have ho:=hI.objs r;rw[e0]at ho;obtain⟨t1,b,mb,JT,seen,st,es,ck,a1,a2,a3,a4,a5,⟨sh,a6⟩,a7,a8,a9,WV,ZV,a12,mG⟩:=ho;have hl:(h r).live:=by rw[e0];trivial
   cases hx with
   |ref _ _ _ b' hu ht hp =>
    rw[a2]at hp;cases hp;have DA:∀e∈es.toList,e.born<JT:=fun e he=>by
     obtain⟨i,hi⟩:=B4.1 he
     have:=a6.2.2.2.2.1 i e (by simpa using hi)
     omega
    rcases run_next_at (P:=P) w ty b mb JT st seen es ck a3 a5 DA (by omega)with ⟨q1,q2⟩ | ⟨e,q1,w1,q2,q3⟩
    ·have vI:rem=[]:=by
      apply Lv.2;intro kv Po;obtain⟨i,hi⟩:=B4.1 (WV.2 kv Po);have vd:i<es.size:=by rw[a6.1];exact(Ap.1 hi).1
      have hb:=(ZV i kv es[i] hi (by simp[vd])).1 Po;have hm:es[i]∈leftOf es seen:=by simp[leftOf,hb]
      have:=Array.size_pos_of_mem hm
      omega
     exact⟨_,w,g,_,h,q2,hk.1 vI,hI,.refl _ _ _,.tup _ _ _ rfl (fun i av x h1 h2=>by
      match i,h1,h2 with
      |0,h1,h2=>simp at h1 h2;subst h1;subst h2;exact .v _ _)⟩
    ·have hq:e∈es∧e.born∉seen:=by simpa[leftOf]using q1
     obtain⟨i,hi⟩:=Array.mem_iff_getElem?.1 hq.1;have vd:i<all.length:=by rw[←a6.1];exact(Bl.1 hi).1
     have o5:all[i]?=some all[i]:=At vd;have je:=(ZV i _ e o5 hi).2 hq.2;obtain⟨s1,s2,hs⟩:=List.append_of_mem je;have IR:rem.Perm (all[i]::(s1++s2)):=by rw[hs];exact List.perm_middle
     have Rh:(all[i]::(s1++s2)).Nodup:=IR.nodup_iff.1 WV.1;have hr:=a9 i _ e o5 hi;have hkey:=a6.2.1 i _ e o5 hi;have KK:w1.heap=w.heap∧w1.os=w.os∧w1.tape=w.tape∧w1.output=w.output:=by rcases q2 with rfl | rfl<;>exact⟨rfl,rfl,rfl,rfl⟩
     obtain⟨k1,k2⟩:=DB.swap hI hl a1 mG (.iter all (s1++s2) (some all[i])) a3 (.mapIter (some mb) JT (seen.push e.born) ck) w1 KK (by simp) (fun hg HZ EQ Zf=>by
      obtain⟨u1,u2,u3,u4⟩:=Bw g r (g.ρ r) (g.ln r) (g.tk r) (g.own r) g.S;obtain⟨c1,c2,c3⟩:=HZ mb 0 a4
      refine⟨u3.trans t1,b,mb,JT,_,ck,es,ck,u4.trans a1,u1.trans a2,EQ,c1,c3 _ _ a5,⟨sh,a6⟩,a7,rfl,fun i kv e p q=>(a9 i kv e p q).mono HZ (fun _ h=>h) (fun _ h=>h.elim),
       ⟨(CK.1 Rh).2,fun kv Po=>WV.2 kv (IR.mem_iff.2 (Ag _ Po))⟩,fun j kv e' p q=>?_,⟨i,e,o5,hi,by simp⟩,mG⟩
      rw[Array.mem_push];have h1:=ZV j kv e' p q;rw[IR.mem_iff,Au]at h1;constructor
      ·intro Po hc;rcases hc with hc | hc
       ·exact(h1.1 (.inr Po)) hc
       ·obtain rfl:=a6.2.2.2.2.2 j i e' e q hi hc;rw[o5]at p;cases p;exact(CK.1 Rh).1 Po
      ·intro hc;rcases h1.2 (fun hm=>hc (.inl hm))with e2 | e2
       ·have:j=i:=Vd (f:=fun x=>x) (l:=all) (by simpa using OT a6.2.2.2.1) p o5 e2
        subst this;rw[hi]at q;cases q;exact absurd (.inr rfl) hc
       ·exact e2)
     refine⟨_,_,_,_,_,q3,hk.2 all[i] (s1++s2) IR,k1,k2,.tup _ _ _ rfl (fun j av x h1 h2=>?_)⟩
     match j,h1,h2 with
     |0,h1,h2=>simp at h1 h2;subst h1;subst h2;exact .v _ _
     |1,h1,h2=>simp at h1 h2;subst h1;subst h2;rw[hkey];exact .v _ _
     |2,h1,h2=>simp at h1 h2;subst h1;subst h2;exact(hr.up _).le k2
  ·exact hk.elim
 ·exact hk.elim
end
end Go.Eng
namespace Go.Eng
def F2(F:(AV→Prop)→Prop):Prop:=∀K,F K→∃v,K v∧∀K',K' v→F K'
theorem CQ(v:AV):F2 (fun K=>K v):=fun _ h=>⟨v,h,fun _ h=>h⟩
theorem Di{p:Prop}{F:(AV→Prop)→Prop}(h:F2 F):F2 (fun K=>p∧F K):=fun K ⟨hp,hk⟩ =>
 let ⟨v,h1,h2⟩:=h K hk
 ⟨v,h1,fun K' h'=>⟨hp,h2 K' h'⟩⟩
theorem Cp:F2 (fun _=>False):=fun _ h=>h.elim
theorem Vi(p:Prop):F2 (IP p):=fun K h=>by
 by_cases hp:p
 ·exact⟨_,h.1 hp,fun K' h'=>⟨fun _=>h',fun hn=>absurd hp hn⟩⟩
 ·exact⟨_,h.2 hp,fun K' h'=>⟨fun q=>absurd q hp,fun _=>h'⟩⟩
theorem Yp{F:(AV→Prop)→Prop}(h:F2 F):F2 (fun K=>F (cP K)):=fun K hk=>by
 obtain⟨v,h1,h2⟩:=h _ hk;unfold cP at h1;split at h1
 ·exact⟨_,h1,fun K' h'=>h2 _ h'⟩
 ·exact⟨_,h1,fun K' h'=>h2 _ h'⟩
 ·exact h1.elim
theorem MJ{α:Type}{F:α→(AV→Prop)→Prop}(h:∀x,F2 (F x)):F2 (fun K=>∃x,F x K):=fun K ⟨x,hk⟩ =>
 let ⟨v,h1,h2⟩:=h x K hk
 ⟨v,h1,fun K' h'=>⟨x,h2 K' h'⟩⟩
theorem Ib(T:Gs)(t:Nat)(cs:List AV):F2 (Ls T t cs):=by
 have head:F2 (LY cs):=by unfold LY;cases cs with | nil=>exact Cp | cons a _=>exact CQ a
 unfold Ls;split
 ·exact Di (CQ _)
 ·exact Di (CQ _)
 ·cases cs with
  |nil=>exact Cp
  |cons a _ =>
   intro K h;simp only[LY]at h⊢;split at h
   ·rename_i b;cases b with
    |true=>exact⟨_,h.1 rfl,fun K' h'=>⟨fun _=>h',fun e=>by cases e⟩⟩
    |false=>exact⟨_,h.2 rfl,fun K' h'=>⟨fun e=>(by cases e),fun _=>h'⟩⟩
   ·exact h.elim
 ·exact Cp
 ·exact head
theorem aQ(T:Gs)(t:Nat)(x y:AV)(hx:∀tk es,x≠.slice tk es):F2 (oY T t x y):=by
 unfold oY
 repeat' split
 all_goals first | exact Cp | exact CQ _ | exact Vi _ | exact Di (CQ _) | exact absurd rfl (hx _ _)
theorem Tz(op:BinOp)(k:IntKind)(a b:Int):F2 (TL op k a b):=by
 unfold TL;split<;>first | exact Cp | exact Di (CQ _)
theorem ZC(op:BinOp)(k:IntKind)(a b:Int):F2 (RT op k a b):=by
 unfold RT
 repeat' split
 all_goals first | exact Cp | exact Di (CQ _) | (unfold VM;split<;>first | exact CQ _ | exact Di (CQ _) | exact Tz _ _ _ _)
theorem g9(T:Gs)(op:BinOp)(t:Nat)(x y:AV)(hx:∀tk es,x≠.slice tk es):F2 (RX T op t x y):=by
 unfold RX
 repeat' split
 all_goals first | exact Cp | exact Vi _ | exact ZC _ _ _ _ | exact Tz _ _ _ _ | exact Di (CQ _) | exact aQ _ _ _ _ hx | exact Yp (aQ _ _ _ _ hx)
theorem de(T:Gs)(op:BinOp)(t:Nat)(Y:Operand)(x y:AV)(hx:∀tk es,x≠.slice tk es):F2 (W3 T op t Y x y):=by
 unfold W3
 repeat' split
 all_goals first | exact Cp | exact CQ _ | exact g9 _ _ _ _ _ hx
theorem df(T:Gs)(s t:Nat)(x:AV):F2 (Xd T s t x):=by
 unfold Xd
 repeat' split
 all_goals first | exact Cp | exact CQ _ | exact Di (CQ _) | exact MJ fun _=>Di (CQ _)
theorem ZE(T:Gs)(s f:Nat)(x:AV):F2 (Sr T s f x):=by
 unfold Sr
 repeat' split
 all_goals first | exact Cp | exact CQ _
theorem Yn(T:Gs)(s f:Nat)(x:AV):F2 (Ou T s f x):=by
 unfold Ou
 repeat' split
 all_goals first | exact Cp | exact Ib _ _ _
theorem Ty(T:Gs)(t:Nat)(x ix:AV):F2 (Jn T t x ix):=by
 unfold Jn
 repeat' split
 all_goals first | exact Cp | exact Di (CQ _) | exact MJ fun _=>Di (Di (CQ _))
theorem ZF(T:Gs)(t:Nat)(x ix:AV):F2 (SV T t x ix):=by
 unfold SV
 repeat' split
 all_goals first | exact Cp | exact Di (Ib _ _ _) | exact MJ fun _=>Di (CQ _)
theorem Wx(x:AV)(i:Nat):F2 (LO x i):=by
 unfold LO
 repeat' split
 all_goals first | exact Cp | exact CQ _
theorem ia(x:AV):F2 (Ky x):=by
 unfold Ky
 repeat' split
 all_goals first | exact Cp | exact CQ _
theorem dg(c a b:AV):F2 (Yl c a b):=by
 unfold Yl
 repeat' split
 all_goals first | exact Cp | exact CQ _
theorem kW(f:Int→Int→Int)(x y:AV):F2 (kG f x y):=by
 unfold kG
 repeat' split
 all_goals first | exact Cp | exact CQ _
theorem dh(op:UnOp)(x:AV):F2 (YA op x):=by
 unfold YA
 repeat' split
 all_goals first | exact Cp | exact CQ _ | exact Yp (CQ _) | exact Di (CQ _)
def lD{α:Type}(F:(α→Prop)→Prop):Prop:=∀K,F K→∃v,K v∧∀K',K' v→F K'
theorem Ym(n:Nat)(a:AV):lD (GX n a):=by
 intro K h;unfold GX at h⊢
 repeat' split at h
 all_goals first | exact h.elim | skip
 all_goals exact⟨_,h,fun K' h'=>h'⟩
theorem Tw(pl:Nat→Option (Nat×Nat))(t:Nat→AV):∀(ps:List (Nat×Operand)) (cs:List AV),lD (Kr pl cs t ps)
 | [],cs=>fun K h=>⟨cs,h,fun _ h=>h⟩
 |(i,x)::r,cs=>by
  intro K h;unfold Kr at h;split at h
  ·exact h.elim
  ·rename_i o n e;obtain⟨vs,h1,h2⟩:=Ym _ _ _ h;split at h1
   ·rename_i hb;obtain⟨c,h3,h4⟩:=Tw pl t r _ _ h1;refine⟨c,h3,fun K' h'=>?_⟩;unfold Kr;simp only[e];refine h2 _ ?_;simp only[hb];exact h4 K' h'
   ·exact h1.elim
theorem ZD(T:Gs)(ty:Nat)(t:Nat→AV)(ps:List (Nat×Operand)):F2 (Pv T ty t ps):=by
 unfold Pv
 repeat' split
 all_goals first
  |exact Cp
  |exact fun K h=>let ⟨c,h1,h2⟩:=Tw _ _ _ _ _ h;⟨_,h1,fun K' h'=>h2 _ h'⟩
def xB(h:Nat→HO)(e:Option (Nat×HO)):Nat→HO:=match e with | none=>h | some (r,o)=>AT h r o
structure IK(o:Oper)(R:List Nat)(st st2:St):Prop where
 t:∀x∈o.op.operands,ev st2.t x=ev st.t x
 h:∀r∈R,st2.h r=st.h r
def Ea(cx:Cx)(o:Oper)(st:St)(R:List Nat)(w:Option Nat)(K:HK):Prop :=
 ∃v e,K v (xB st.h e)∧(∀r o',e=some (r,o')→w=some r∧r∈R)∧∀st2,IK o R st st2→∀K' : HK,K' v (xB st2.h e)→FN cx true o st2 K'
def RJ(w:Option Nat)(r:Nat):Prop:=match w with | none=>False | some x=>x=r∨(10000000≤x∧(x % 10000000=r∨x / 10000000=r))∨x=VJ
def H5(h:Nat→HO):List (Nat×HO)→Nat→HO
 | []=>h
 |p::l=>H5 (AT h p.1 p.2) l
def Rs(cx:Cx)(o:Oper)(st:St)(R:List Nat)(w:Option Nat)(K:HK):Prop :=
 ∃v e,K v (H5 st.h e)∧(∀r o',(r,o')∈e→RJ w r∧r∈R)∧∀st2,IK o R st st2→∀K' : HK,K' v (H5 st2.h e)→FN cx true o st2 K'
section
variable {cx:Cx}{o:Oper}{st:St}{R:List Nat}{w:Option Nat}{K:HK}
theorem Ea.pick{F:(AV→Prop)→Prop}(hF:F2 F)(h:F fun v=>K v st.h)(h2:∀st2,IK o R st st2→∀K' : HK,F (fun v=>K' v st2.h)→FN cx true o st2 K'):Ea cx o st R w K :=
 let ⟨v,h1,h3⟩:=hF _ h
 ⟨v,none,h1,fun _ _ e=>(by cases e),fun st2 ha K' hk=>h2 st2 ha K' (h3 _ hk)⟩
theorem X3{cs:List AV}{a:AV}(h:a∈cs):∀r∈Uj a,r∈kn cs:=by
 induction cs with
 |nil=>cases h
 |cons c cs ih =>
  intro r hr;rcases Au.1 h with rfl | h
  ·exact Bm _ hr
  ·exact Bd _ (ih h r hr)
theorem gD{cs:List AV}{a:AV}(h:a∈cs):∀r∈Uk a,r∈nX cs:=by
 induction cs with
 |nil=>cases h
 |cons c cs ih =>
  intro r hr;rcases Au.1 h with rfl | h
  ·exact Bm _ hr
  ·exact Bd _ (ih h r hr)
theorem X2{cs:List AV}{a:AV}(h:a∈cs):∀r∈WR a,r∈SO cs:=by
 induction cs with
 |nil=>cases h
 |cons c cs ih =>
  intro r hr;rcases Au.1 h with rfl | h
  ·exact Bm _ hr
  ·exact Bd _ (ih h r hr)
theorem UZ(a:AV):∀r∈Uj a,r∈Uk a:=by cases a<;>simp[Uj,Uk]
theorem Qg{h h2:Nat→HO}{a:AV}(e:∀r∈Uj a,h2 r=h r):str0 h2 a=str0 h a:=by
 cases a<;>simp only[str0]
 ·rw[e _ (by simp[Uj])]
 ·rw[e _ (by simp[Uj])]
theorem Vt{h h2:Nat→HO}{a:AV}(e:∀r∈Uk a,h2 r=h r):str h2 a=str h a:=by
 cases a with
 |agg cs=>simp only[str];exact Ac _ (A5 fun c hc=>Qg fun r hr=>e r (X3 hc r hr))
 |clo f cs=>simp only[str];exact Ac _ (A5 fun c hc=>Qg fun r hr=>e r (X3 hc r hr))
 |_=>exact Qg (fun r hr=>e r (UZ _ r hr))
theorem gg(a:AV):∀r∈Uk a,r∈WR a:=by
 cases a with
 |agg cs =>
  intro r hr;simp only[WR,Uk]at *
  induction cs with
  |nil=>exact hr
  |cons c cs ih =>
   rcases AU.1 hr with h | h
   ·exact Bm _ (UZ c r h)
   ·exact Bd _ (ih h)
 |_=>exact fun r hr=>hr
theorem KI{h h2:Nat→HO}{a:AV}(e:∀r∈WR a,h2 r=h r):str h2 a=str h a:=Vt fun r hr=>e r (gg a r hr)
theorem Qh{h h2:Nat→HO}{l:List AV}(e:∀r∈SO l,h2 r=h r):l.map (str h2)=l.map (str h) :=
 A5 fun _ ha=>KI fun r hr=>e r (X2 ha r hr)
theorem ir{h h2:Nat→HO}{a:AV}(e:∀r∈WR a,h2 r=h r):rsv h2 a=rsv h a:=by
 cases a<;>simp only[rsv]
 ·rw[e _ (by simp[WR,Uk,Uj])]
 ·rw[e _ (by simp[WR,Uk,Uj])]
theorem Np{n:Nat}{a:AV}{K:List AV→Prop}(hk:GX n a K):∃cs,K cs∧(∀K' : List AV→Prop,K' cs→GX n a K')∧∀h h2:Nat→HO,(∀r∈WR a,h2 r=h r)→cs.map (str h2)=cs.map (str h):=by
 have single:K [a]→(∀K' : List AV→Prop,K' [a]→GX n a K')→∃cs,K cs∧(∀K' : List AV→Prop,K' cs→GX n a K')∧∀h h2:Nat→HO,(∀r∈WR a,h2 r=h r)→cs.map (str h2)=cs.map (str h) :=
  fun h1 h2=>⟨[a],h1,h2,fun h h2 e=>by simp[KI e]⟩
 unfold GX at hk;split at hk
 ·rename_i cs;split at hk
  ·rename_i hn;refine⟨cs,hk,fun K' h=>by unfold GX;simp only[hn];exact h,fun h h2 e=>A5 fun c hc=>Vt fun r hr=>e r (gD hc r hr)⟩
  ·exact hk.elim
 ·rename_i nJ;split at hk
  ·rename_i h1;split at hk
   ·refine single hk fun K' h=>?_;unfold GX;split
    ·rename_i cs;exact absurd rfl (nJ cs)
    ·rw[h1];exact h
   ·exact hk.elim
  ·exact hk.elim
theorem Ss{n sz:Nat}{t:Nat→AV}:∀{ps:List (Nat×Operand)} {es:List (List AV)} {h:Nat→HO} {K:List (List AV)→Prop},QE n sz h es t ps K →
  ∃FB,K FB∧∀(t2:Nat→AV) (h2:Nat→HO),(∀r∈SO (ps.map fun p=>ev t p.2),h2 r=h r)→(∀p∈ps,ev t2 p.2=ev t p.2)→∀K' : List (List AV)→Prop,K' FB→QE n sz h2 es t2 ps K'
 | [],es,h,K,hk=>⟨es,hk,fun _ _ _ _ _ h=>h⟩
 |(i,x)::r,es,h,K,hk=>by
  unfold QE at hk;split at hk
  ·rename_i hb;obtain⟨cs,c1,c2,c3⟩:=Np hk;obtain⟨FB,e1,e2⟩:=Ss c1;refine⟨FB,e1,fun t2 h2 hh ht K' J4=>?_⟩;unfold QE;rw[hb,ht (i,x) (Aa ..)];refine c2 _ ?_;rw[c3 h h2 (fun r hr=>hh r (Bm _ hr))];exact e2 t2 h2 (fun r hr=>hh r (Bd _ hr)) (fun p hp=>ht p (Ag _ hp)) K' J4
  ·exact hk.elim
theorem Ih{d:Option Nat}{h:Nat→HO}{sz:Nat}{es:List (List AV)}(hk:Eu cx d h sz es K) :
  ∃d',d.map (Kp cx)=some d'∧∃v x,K v (AT h d' x)∧∀h2:Nat→HO,h2 d'=h d'→∀K' : HK,K' v (AT h2 d' x)→Eu cx d h2 sz es K':=by
 unfold Eu at hk;split at hk
 ·exact hk.elim
 ·rename_i d;split at hk
  ·rename_i hd;split at hk
   ·rename_i e;exact⟨Kp cx d,rfl,_,_,hk,fun h2 hh K' h'=>by unfold Eu;simp only[hh,hd,e];exact h'⟩
   ·rename_i e;exact⟨Kp cx d,rfl,_,_,hk,fun h2 hh K' h'=>by unfold Eu;simp only[hh,hd,e];exact h'⟩
  ·exact hk.elim
theorem Y2{h:Nat→HO}{x:AV}{K:List (List AV)→Prop}(hk:KW h x K):∃es,K es∧∀h2:Nat→HO,(∀r n,x=.msl r n→h2 r=h r)→∀K' : List (List AV)→Prop,K' es→KW h2 x K':=by
 unfold KW at hk;split at hk
 ·exact⟨_,hk,fun _ _ K' h=>h⟩
 ·exact⟨_,hk,fun _ _ K' h=>h⟩
 ·rename_i r n;split at hk
  ·rename_i sz es e;exact⟨_,hk.2,fun h2 hh K' h=>by unfold KW;simp only[hh r n rfl,e];exact⟨hk.1,h⟩⟩
  ·exact hk.elim
 ·exact hk.elim
end
section
variable {cx:Cx}{dst:Option Nat}{ty:Nat}{pos:String}{after:Array Edge}{gd:Option (Nat×Bool)}{st:St}{R:List Nat}{w:Option Nat}{K:HK}
theorem Is{d:Option Nat}{l:List Nat}{f:Fu}(h:Ir d l=some f):∃d',d=some d'∧f=(d' :: l,some d'):=by
 unfold Ir at h;cases d with
 |none=>cases h
 |some d=>cases h;exact⟨d,rfl,rfl⟩
theorem Xx{e:Nat}(hk:FN cx true ⟨dst,.alloc e,ty,pos,after,gd⟩ st K)(hf:Fb cx ⟨dst,.alloc e,ty,pos,after,gd⟩ st=some (R,w)):Ea cx ⟨dst,.alloc e,ty,pos,after,gd⟩ st R w K:=by
 simp only[FN]at hk;obtain⟨d,rfl,e0⟩:=Is hf;cases e0;unfold RR at hk;simp only at hk;split at hk
 ·rename_i hd;split at hk
  ·exact hk.elim
  ·rename_i Dt;split at hk
   ·rename_i ha;refine⟨_,some (d,_),hk,fun r o' e=>(by cases e;exact⟨rfl,Aa ..⟩),fun st2 GT K' h'=>?_⟩;simp only[FN,RR];rw[GT.h d (Aa ..),hd];simp only[ha];exact h'
   ·exact hk.elim
 ·exact hk.elim
theorem bY{e:Nat}{x:Operand}(hk:FN cx true ⟨dst,.box e x,ty,pos,after,gd⟩ st K)(hf:Fb cx ⟨dst,.box e x,ty,pos,after,gd⟩ st=some (R,w)):Ea cx ⟨dst,.box e x,ty,pos,after,gd⟩ st R w K:=by
 simp only[FN]at hk;obtain⟨d,rfl,e0⟩:=Is hf;cases e0;unfold bH at hk;simp only at hk;split at hk
 ·rename_i hd;split at hk
  ·exact hk.elim
  ·rename_i Dt;obtain⟨cs,c1,c2,c3⟩:=Np hk;split at c1
   ·rename_i hm;refine⟨_,some (d,_),c1,fun r o' e=>(by cases e;exact⟨rfl,Aa ..⟩),fun st2 GT K' h'=>?_⟩;have hx:ev st2.t x=ev st.t x:=GT.t x (by simp[Op.operands]);simp only[FN,bH];rw[GT.h d (Aa ..),hd,hx];simp only[hm];refine c2 _ ?_;rw[c3 st.h st2.h (fun r hr=>GT.h r (Ag _ hr))];exact h'
   ·rename_i hm;refine⟨_,some (d,_),c1,fun r o' e=>(by cases e;exact⟨rfl,Aa ..⟩),fun st2 GT K' h'=>?_⟩;have hx:ev st2.t x=ev st.t x:=GT.t x (by simp[Op.operands]);simp only[FN,bH];rw[GT.h d (Aa ..),hd,hx];simp only[hm];exact c2 _ h'
 ·exact hk.elim
theorem PD{t n:Nat}{ps:Array (Nat×Operand)}(hk:FN cx true ⟨dst,.buildSlice t n ps,ty,pos,after,gd⟩ st K)(hf:Fb cx ⟨dst,.buildSlice t n ps,ty,pos,after,gd⟩ st=some (R,w)) :
  Ea cx ⟨dst,.buildSlice t n ps,ty,pos,after,gd⟩ st R w K:=by
 simp only[FN]at hk;obtain⟨d,cg,e0⟩:=Is hf;cases e0;unfold Ip at hk;split at hk
 ·rename_i e he;split at hk
  ·rename_i h1 h2;split at hk
   ·exact hk.elim
   ·rename_i k Ew;split at hk
    ·rename_i hb;obtain⟨es,q1,q2⟩:=Ss hk;obtain⟨d',hd,v,x,q3,q4⟩:=Ih q1;have hd:dst.map (Kp cx)=some d':=hd;have cg:dst.map (Kp cx)=some d:=cg;rw[cg]at hd;cases hd;refine⟨v,some (d,x),q3,fun r o' e=>(by cases e;exact⟨rfl,Aa ..⟩),fun st2 GT K' h'=>?_⟩;have hx:∀p∈ps.toList,ev st2.t p.2=ev st.t p.2:=fun p hp=>GT.t p.2 (by
      simp only[Op.operands,List.mem_toArray];exact Ak.2 ⟨p,hp,rfl⟩)
     simp only[FN,Ip,he,h1,h2];split
     ·rename_i e0;rw[Ew]at e0;cases e0
     ·rw[hb];exact q2 st2.t st2.h (fun r hr=>GT.h r (Ag _ hr)) hx _ (q4 st2.h (GT.h d (Aa ..)) K' h')
    ·exact hk.elim
  ·exact hk.elim
 ·exact hk.elim
theorem Re{t:Nat}{n c:Operand}(hk:FN cx true ⟨dst,.makeSlice t n c,ty,pos,after,gd⟩ st K)(hf:Fb cx ⟨dst,.makeSlice t n c,ty,pos,after,gd⟩ st=some (R,w)) :
  Ea cx ⟨dst,.makeSlice t n c,ty,pos,after,gd⟩ st R w K:=by
 simp only[FN]at hk;obtain⟨d,cg,e0⟩:=Is hf;cases e0;have hn:∀st2,IK ⟨dst,.makeSlice t n c,ty,pos,after,gd⟩ (d::[]) st st2→ev st2.t n=ev st.t n∧ev st2.t c=ev st.t c:=fun st2 ha=>⟨ha.t n (by simp[Op.operands]),ha.t c (by simp[Op.operands])⟩;unfold Jq at hk;split at hk
 ·rename_i e a b h1 h2 h3;split at hk
  ·rename_i h4;split at hk
   ·rename_i h5;split at hk
    ·exact hk.elim
    ·rename_i k Ew;obtain⟨d',hd,v,x,q3,q4⟩:=Ih hk.2;have hd:dst.map (Kp cx)=some d':=hd;have cg:dst.map (Kp cx)=some d:=cg;rw[cg]at hd;cases hd;refine⟨v,some (d,x),q3,fun r o' e=>(by cases e;exact⟨rfl,Aa ..⟩),fun st2 GT K' h'=>?_⟩;simp only[FN,Jq,(hn st2 GT).1,(hn st2 GT).2,h1,h2,h3,h4,h5];split
     ·rename_i e0;rw[Ew]at e0;cases e0
     ·exact⟨hk.1,q4 st2.h (GT.h d (Aa ..)) K' h'⟩
   ·exact hk.elim
  ·exact hk.elim
 ·exact hk.elim
theorem Ud{t:Nat}{r:Option Operand}(hk:FN cx true ⟨dst,.makeMap t r,ty,pos,after,gd⟩ st K)(hf:Fb cx ⟨dst,.makeMap t r,ty,pos,after,gd⟩ st=some (R,w)) :
  Ea cx ⟨dst,.makeMap t r,ty,pos,after,gd⟩ st R w K:=by
 cases r with
 |some r=>exact hk.elim
 |none =>
  simp only[FN]at hk;obtain⟨d,rfl,e0⟩:=Is hf;cases e0;unfold Kv at hk;simp only at hk;split at hk
  ·rename_i hd;split at hk
   ·rename_i h1;split at hk
    ·rename_i h2;split at hk
     ·rename_i h3;refine⟨_,some (d,_),hk,fun r o' e=>(by cases e;exact⟨rfl,Aa ..⟩),fun st2 GT K' h'=>?_⟩;simp only[FN,Kv];rw[GT.h d (Aa ..),hd];simp only[h1,h2,h3];exact h'
     ·rename_i h3;refine⟨_,some (d,_),hk,fun r o' e=>(by cases e;exact⟨rfl,Aa ..⟩),fun st2 GT K' h'=>?_⟩;simp only[FN,Kv];rw[GT.h d (Aa ..),hd];simp only[h1,h2,h3];exact h'
    ·exact hk.elim
   ·exact hk.elim
  ·exact hk.elim
theorem Xy{t:Nat}{p x:Operand}(hk:FN cx true ⟨dst,.store t p x,ty,pos,after,gd⟩ st K)(hf:Fb cx ⟨dst,.store t p x,ty,pos,after,gd⟩ st=some (R,w)) :
  Ea cx ⟨dst,.store t p x,ty,pos,after,gd⟩ st R w K:=by
 simp only[FN]at hk;have hn:∀st2,IK ⟨dst,.store t p x,ty,pos,after,gd⟩ R st st2→ev st2.t p=ev st.t p∧ev st2.t x=ev st.t x:=fun st2 ha=>⟨ha.t p (by simp[Op.operands]),ha.t x (by simp[Op.operands])⟩;unfold NV at hk;split at hk
 ·exact hk.elim
 ·rename_i Dt;obtain⟨cs,c1,c2,c3⟩:=Np hk;simp only[Fb]at hf;split at hf
  ·rename_i r off hp;split at hf
   ·cases hf
   ·rename_i hm;cases hf;rw[hp]at c1;simp only at c1;split at c1
    ·rename_i FA hr;obtain⟨Ho,J4⟩:=c1;rw[hm]at J4;refine⟨_,some (r,_),J4,fun r o' e=>(by cases e;exact⟨rfl,Aa ..⟩),fun st2 GT K' h'=>?_⟩;simp only[FN,NV,(hn st2 GT).1,(hn st2 GT).2];refine c2 _ ?_;rw[hp];simp only[GT.h r (Aa ..),hr,hm];exact⟨Ho,h'⟩
    ·exact c1.elim
  ·rename_i r n sz i off hp;cases hf;rw[hp]at c1;simp only at c1;split at c1
   ·rename_i Gq es hr;split at c1
    ·rename_i hs;obtain⟨Ho,cell,e1,e2,J4⟩:=c1;split at J4
     ·rename_i j m;refine⟨_,some (r,_),J4,fun r o' e=>(by cases e;exact⟨rfl,Aa ..⟩),fun st2 GT K' h'=>?_⟩;simp only[FN,NV,(hn st2 GT).1,(hn st2 GT).2];refine c2 _ ?_;rw[hp];simp only[GT.h r (Aa ..),hr,hs];exact⟨Ho,cell,e1,e2,h'⟩
     ·rename_i Ri;refine⟨_,some (r,_),J4,fun r o' e=>(by cases e;exact⟨rfl,Aa ..⟩),fun st2 GT K' h'=>?_⟩;simp only[FN,NV,(hn st2 GT).1,(hn st2 GT).2];refine c2 _ ?_;rw[hp];simp only[GT.h r (Aa ..),hr,hs];refine⟨Ho,cell,e1,e2,?_⟩;rw[c3 st.h st2.h (fun r hr=>GT.h r (Ag _ hr))];exact h'
    ·exact c1.elim
   ·exact c1.elim
  ·cases hf
theorem Rf{t:Nat}{m k x:Operand}(hk:FN cx true ⟨dst,.mapUpdate t m k x,ty,pos,after,gd⟩ st K)(hf:Fb cx ⟨dst,.mapUpdate t m k x,ty,pos,after,gd⟩ st=some (R,w)) :
  Ea cx ⟨dst,.mapUpdate t m k x,ty,pos,after,gd⟩ st R w K:=by
 simp only[FN]at hk;have hn:∀st2,IK ⟨dst,.mapUpdate t m k x,ty,pos,after,gd⟩ R st st2→ev st2.t m=ev st.t m∧ev st2.t k=ev st.t k∧ev st2.t x=ev st.t x:=fun st2 ha=>⟨ha.t m (by simp[Op.operands]),ha.t k (by simp[Op.operands]),ha.t x (by simp[Op.operands])⟩;simp only[Fb]at hf;split at hf
 ·rename_i r hm;cases hf;unfold G0 at hk;rw[hm]at hk;simp only at hk;split at hk
  ·rename_i sh BX hr;unfold J6 at hk;split at hk
   ·rename_i kt e h1;split at hk
    ·rename_i tg h2;split at hk
     ·rename_i h3;split at hk
      ·rename_i kx h4;split at hk
       ·rename_i h5;refine⟨_,some (r,_),hk,fun r o' e=>(by cases e;exact⟨rfl,Aa ..⟩),fun st2 GT K' h'=>?_⟩;obtain⟨n1,n2,n3⟩:=hn st2 GT;simp only[FN,G0,n1,n2,n3,hm,GT.h r (Aa ..),hr,J6,h1,h2,h3,h4,h5];rw[KI (h:=st.h) (h2:=st2.h) (fun r hr=>GT.h r (Ag _ hr))];exact h'
       ·exact hk.elim
      ·exact hk.elim
     ·exact hk.elim
    ·exact hk.elim
   ·exact hk.elim
  ·rename_i sh BX hr;unfold J6 at hk;split at hk
   ·rename_i kt e h1;split at hk
    ·rename_i tg h2;split at hk
     ·rename_i h3;split at hk
      ·rename_i kx h4;split at hk
       ·rename_i h5;refine⟨_,some (r,_),hk,fun r o' e=>(by cases e;exact⟨rfl,Aa ..⟩),fun st2 GT K' h'=>?_⟩;obtain⟨n1,n2,n3⟩:=hn st2 GT;simp only[FN,G0,n1,n2,n3,hm,GT.h r (Aa ..),hr,J6,h1,h2,h3,h4,h5];exact h'
       ·exact hk.elim
      ·exact hk.elim
     ·exact hk.elim
    ·exact hk.elim
   ·exact hk.elim
  ·exact hk.elim
 ·cases hf
theorem aR{A B:(AV→Prop)→Prop}(ha:F2 A)(hb:F2 B):F2 fun K=>A K∨B K:=by
 intro K hk;rcases hk with hk | hk
 ·obtain⟨v,h1,h2⟩:=ha K hk;exact⟨v,h1,fun K' h=>.inl (h2 K' h)⟩
 ·obtain⟨v,h1,h2⟩:=hb K hk;exact⟨v,h1,fun K' h=>.inr (h2 K' h)⟩
theorem SA{fn:Fn}{first cap:Array Operand}(hk:FN cx true ⟨dst,.makeFunc fn first cap,ty,pos,after,gd⟩ st K)(hf:Fb cx ⟨dst,.makeFunc fn first cap,ty,pos,after,gd⟩ st=some (R,w)) :
  Ea cx ⟨dst,.makeFunc fn first cap,ty,pos,after,gd⟩ st R w K:=by
 simp only[FN]at hk;simp only[Fb]at hf;cases hf;unfold Ku at hk;split at hk
 ·rename_i f h1;refine⟨_,none,hk,fun r o' e=>(by cases e),fun st2 GT K' h'=>?_⟩;simp only[FN,h1,Ku]
  have:cap.toList.map (fun x=>rsv st2.h (ev st2.t x))=cap.toList.map (fun x=>rsv st.h (ev st.t x)):=A5 fun x hx=>by
   rw[GT.t x (by simp only[Op.operands,RH];exact .inr (by simpa using hx))];exact ir fun r hr=>GT.h r (X2 (Ak.2 ⟨x,hx,rfl⟩) r hr)
  rw[this];exact h'
 ·exact hk.elim
end
end Go.Eng
