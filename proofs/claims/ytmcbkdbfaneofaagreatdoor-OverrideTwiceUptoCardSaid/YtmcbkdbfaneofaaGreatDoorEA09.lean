/- Lemmas for the claims of this seat, without a condition: part 9 (EngT, EngU, EngV, EngW). -/
import Derived.Test.YtmcbkdbfaneofaaGreatDoorEA08
import Derived.Maps.RangeRun
namespace Go.Eng
open Go.ChangeMaps (setBlock)
theorem Us{w:World}{r:Nat}{o o' : Obj}(h:w.heap[r]?=some o):(setBlock w r o').heap[r]?=some o':=by
 have:=(Bx.1 h).1
 simp[setBlock,this]
theorem TR{w:World}{r k:Nat}{o' : Obj}(h:k≠r):(setBlock w r o').heap[k]?=w.heap[k]?:=by
 simp[setBlock,Ne.symm h]
theorem Nt(w:World)(r:Nat)(o' : Obj):(setBlock w r o').heap.size=w.heap.size:=by simp[setBlock]
theorem OW{α β:Type}{f:α→β}{l:List α}(h:(l.map f).Nodup):l.Nodup:=by
 induction l with
 |nil=>exact E7
 |cons c l ih =>
  rw[AN,CF]at h;exact CF.2 ⟨fun hc=>h.1 (Ak.2 ⟨c,hc,rfl⟩),ih h.2⟩
theorem Vk{α β:Type}{f:α→β}{l:List α}(h:(l.map f).Nodup){i j:Nat}{a b:α}(ha:l[i]?=some a)(hb:l[j]?=some b)(he:f a=f b):i=j:=by
 induction l generalizing i j with
 |nil=>simp at ha
 |cons c l ih =>
  rw[AN,CF]at h;cases i with
  |zero =>
   cases j with
   |zero=>rfl
   |succ j =>
    simp only[A8,Bm,GH]at ha hb;exact absurd (Ak.2 ⟨b,Av hb,by rw[←he,ha]⟩) h.1
  |succ i =>
   cases j with
   |zero =>
    simp only[A8,Bm,GH]at ha hb;exact absurd (Ak.2 ⟨a,Av ha,by rw[he,hb]⟩) h.1
   |succ j=>exact Ac (·+1) (ih h.2 ha hb)
open Classical in
theorem PV{B3:List (Value×AV)}{k:Value}{a b:AV}(h:(k,b)∈B3):EO B3 k a=B3.map fun p=>if p.1=k then(k,a)else p:=Aw ⟨b,h⟩
open Classical in
theorem KB{B3:List (Value×AV)}{k:Value}{a:AV}(h:∀b,(k,b)∉B3):EO B3 k a=B3++[(k,a)]:=Ah (fun⟨b,e⟩=>h b e)
theorem Vi{sh:EE}{es:Array MapEntry}{ck:Nat}{B3:List (Value×AV)}(f:AV→AV)(h:G3 sh es ck B3):G3 sh es ck (B3.map fun p=>(p.1,f p.2)):=by
 obtain⟨h1,h2,h3,h4,h5,h6⟩:=h;refine⟨by simp[h1],fun i kv e q1 q2=>?_,fun kv Pt=>?_,?_,h5,h6⟩
 ·rw[AG]at q1;obtain⟨p,q3,rfl⟩:=A1.1 q1;exact h2 i p e q3 q2
 ·obtain⟨p,hp,rfl⟩:=Ak.1 Pt;exact h3 p hp
 ·rw[BO];exact h4
theorem OQ{sh:EE}{es:Array MapEntry}{ck:Nat}{B3:List (Value×AV)}(h:G3 sh es ck B3){x:Value}{a v:AV}{y:Value}{j:Nat}(hj:B3[j]?=some (x,a)) :
  G3 sh (es.modify j fun e=>{ e with key:=x,val:=y }) ck (EO B3 x v) ∧
   ∀(i:Nat) (kv:Value×AV) (e:MapEntry),(EO B3 x v)[i]?=some kv→(es.modify j fun e=>{ e with key:=x,val:=y })[i]?=some e →
    (kv.2=v∧e.val=y)∨(B3[i]?=some kv∧es[i]?=some e):=by
 classical
 rw[PV (Av hj)];obtain⟨h1,h2,h3,h4,h5,h6⟩:=h;have hm:∀i e,(es.modify j fun e=>{ e with key:=x,val:=y })[i]?=some e→∃e0,es[i]?=some e0∧e.born=e0.born∧(if i=j then e.key=x∧e.val=y else e=e0):=by
  intro i e he;rw[Array.getElem?_modify]at he;split at he
  ·rename_i e1;subst e1;obtain⟨e0,q1,q2⟩:=A1.1 he;exact⟨e0,q1,by rw[←q2],by rw[Aw rfl,←q2];exact⟨rfl,rfl⟩⟩
  ·rename_i e1;exact⟨e,he,rfl,by rw[Ah (fun q=>e1 q.symm)]⟩
 have hk:∀i kv,(B3.map fun p=>if p.1=x then(x,v)else p)[i]?=some kv→∃p,B3[i]?=some p∧kv.1=p.1∧(if i=j then kv.2=v else kv=p):=by
  intro i kv Pt;rw[AG]at Pt;obtain⟨p,q1,q2⟩:=A1.1 Pt;refine⟨p,q1,?_⟩
  by_cases e:p.1=x
  ·rw[Aw e]at q2;subst q2
   have:=Vk h4 q1 hj e
   exact⟨e.symm,by rw[Aw this]⟩
  ·rw[Ah e]at q2;subst q2;refine⟨rfl,?_⟩;rw[Ah];intro e2;subst e2;rw[q1]at hj;cases hj;exact e rfl
 have qB:(B3.map fun p=>if p.1=x then(x,v)else p).map (·.1)=B3.map (·.1):=by
  rw[BO];apply Bf;intro p _;simp only[Function.comp];split
  ·rename_i e;exact e.symm
  ·rfl
 refine⟨⟨by simp[h1],fun i kv e q1 q2=>?_,fun kv Pt=>?_,by rw[qB];exact h4,fun i e q=>?_,fun i i' e e' q q' hb=>?_⟩,fun i kv e q1 q2=>?_⟩
 ·obtain⟨p,p1,p2,p3⟩:=hk i kv q1;obtain⟨e0,r1,r2,r3⟩:=hm i e q2
  have:=h2 i p e0 p1 r1
  split at r3
  ·rename_i ij;subst ij;rw[hj]at p1;cases p1;rw[r3.1,p2]
  ·rw[r3,p2];exact this
 ·obtain⟨i,hi⟩:=B9.1 Pt;obtain⟨p,p1,p2,p3⟩:=hk i kv hi;rw[p2];exact h3 p (Av p1)
 ·obtain⟨e0,r1,r2,_⟩:=hm i e q;rw[r2];exact h5 i e0 r1
 ·obtain⟨e0,r1,r2,_⟩:=hm i e q;obtain⟨e1,s1,s2,_⟩:=hm i' e' q';exact h6 i i' e0 e1 r1 s1 (by rw[←r2,←s2];exact hb)
 ·obtain⟨p,p1,p2,p3⟩:=hk i kv q1;obtain⟨e0,r1,r2,r3⟩:=hm i e q2;split at r3
  ·rename_i ij;rw[Aw ij]at p3;exact .inl ⟨p3,r3.2⟩
  ·rename_i ij;rw[Ah ij]at p3;exact .inr ⟨by rw[p3];exact p1,by rw[r3];exact r1⟩
theorem Tp{sh:EE}{es:Array MapEntry}{ck:Nat}{B3:List (Value×AV)}(h:G3 sh es ck B3){x:Value}{v:AV}{y:Value}(hx:Vs sh x=true)(hn:∀a,(x,a)∉B3) :
  G3 sh (es.push { key:=x,val:=y,born:=ck }) (ck+1) (EO B3 x v) ∧
   ∀(i:Nat) (kv:Value×AV) (e:MapEntry),(EO B3 x v)[i]?=some kv→(es.push { key:=x,val:=y,born:=ck })[i]?=some e →
    (kv.2=v∧e.val=y)∨(B3[i]?=some kv∧es[i]?=some e):=by
 rw[KB hn];obtain⟨h1,h2,h3,h4,h5,h6⟩:=h;have hm:∀i e,(es.push { key:=x,val:=y,born:=ck })[i]?=some e→(es[i]?=some e∧i<es.size)∨(i=es.size∧e={ key:=x,val:=y,born:=ck }):=by
  intro i e he;rw[Array.getElem?_push]at he;split at he
  ·rename_i q;cases he;exact .inr ⟨q,rfl⟩
  ·exact .inl ⟨he,(Bx.1 he).1⟩
 have hk:∀i kv,(B3++[(x,v)])[i]?=some kv→(B3[i]?=some kv∧i<es.size)∨(i=es.size∧kv=(x,v)):=by
  intro i kv Pt;rw[LQ]at Pt;split at Pt
  ·rename_i q;exact .inl ⟨Pt,by omega⟩
  ·rename_i q
   have:i-B3.length=0:=by
    have:=(At.1 Pt).1
    simp at this;omega
   rw[this]at Pt;simp at Pt;exact .inr ⟨by omega,Pt.symm⟩
 refine⟨⟨by simp[h1],fun i kv e q1 q2=>?_,fun kv Pt=>?_,?_,fun i e q=>?_,fun i i' e e' q q' hb=>?_⟩,fun i kv e q1 q2=>?_⟩
 ·rcases hk i kv q1 with ⟨p1,p2⟩ | ⟨p1,p2⟩<;>rcases hm i e q2 with ⟨r1,r2⟩ | ⟨r1,r2⟩
  ·exact h2 i kv e p1 r1
  ·omega
  ·omega
  ·rw[p2,r2]
 ·rcases A7.1 Pt with q | q
  ·exact h3 kv q
  ·rw[Am.1 q];exact hx
 ·rw[AH,F6];refine⟨h4,by simp,fun a ha b hb e=>?_⟩;simp only[AN,E1,Am]at hb;obtain⟨p,p1,p2⟩:=Ak.1 ha;refine hn p.2 ?_
  have:p=(x,p.2):=by rw[←hb,←e,←p2]
  rw[←this];exact p1
 ·rcases hm i e q with ⟨r1,_⟩ | ⟨_,r2⟩
  ·have:=h5 i e r1;omega
  ·rw[r2];exact GL _
 ·rcases hm i e q with ⟨r1,_⟩ | ⟨r1,r2⟩<;>rcases hm i' e' q' with ⟨s1,_⟩ | ⟨s1,s2⟩
  ·exact h6 i i' e e' r1 s1 hb
  ·have:=h5 i e r1;rw[s2]at hb;dsimp only at hb;omega
  ·have:=h5 i' e' s1;rw[r2]at hb;dsimp only at hb;omega
  ·omega
 ·rcases hk i kv q1 with ⟨p1,p2⟩ | ⟨p1,p2⟩<;>rcases hm i e q2 with ⟨r1,r2⟩ | ⟨r1,r2⟩
  ·exact .inr ⟨p1,r1⟩
  ·omega
  ·omega
  ·exact .inl ⟨by rw[p2],by rw[r2]⟩
section
variable {P:Program}{w0:World}{g0:Gh}{h0 h:Nat→HO}{g:Gh}{w:World}(hI:DJ w0 g0 h0 h g w)
include hI
theorem DJ.swap{r b:Nat}(hl:(h r).live)(ho:g.own r=some b)(hn:∀o,¬g.S b o)(o' : HO){ob:Obj}(hb:w.heap[b]?=some ob)(aO : Obj)(w1:World)(KM:w1.heap=w.heap∧w1.os=w.os∧w1.tape=w.tape∧w1.output=w.output)(DC:o'≠.free)
  (Jf:JU g (g.upd r (g.ρ r) (g.ln r) (g.tk r) (g.own r) g.S) (AR h)→EY g w (g.upd r (g.ρ r) (g.ln r) (g.tk r) (g.own r) g.S) (setBlock w1 b aO)→(setBlock w1 b aO).heap[b]?=some aO →
   (∀k,k≠b→(setBlock w1 b aO).heap[k]?=w.heap[k]?) →
   Eg (g.upd r (g.ρ r) (g.ln r) (g.tk r) (g.own r) g.S) (setBlock w1 b aO) (AR (AW h r o')) r o') :
  DJ w0 g0 h0 (AW h r o') (g.upd r (g.ρ r) (g.ln r) (g.tk r) (g.own r) g.S) (setBlock w1 b aO)∧Le h g w (AW h r o') (g.upd r (g.ρ r) (g.ln r) (g.tk r) (g.own r) g.S) (setBlock w1 b aO):=by
 have DI:=(hI.loc r b hl ho).1;have EN:(setBlock w1 b aO).heap[b]?=some aO:=Us (by rw[KM.1];exact hb);have Zj:∀k,k≠b→(setBlock w1 b aO).heap[k]?=w.heap[k]?:=fun k hk=>by rw[TR hk,KM.1]
 refine hI.upd r o' _ _ _ _ _ _ (some b) ⟨KM.2.1,KM.2.2.1,KM.2.2.2,by rw[Nt,KM.1];exact Aj _⟩ (fun k _ DC=>Zj k (fun e=>DC (by rw[e]))) (fun b' e=>by cases e;exact⟨hl,ho⟩) (fun _ _ h=>h) (fun _ _ h=>.inl h)
  (fun b' o e hs=>by cases e;exact absurd hs (hn o)) (fun b' _ e=>?_) DC (fun _=>⟨rfl,Aj _,fun _=>rfl,fun _=>rfl⟩) (fun hg hk=>Jf hg hk EN Zj)
 rw[ho]at e;cases e;exact⟨by rw[Nt,KM.1];exact DI,.inl ⟨hl,ho⟩⟩
theorem Nm{T:Gm}(hT:Cz P T){ty:Nat}{m k x:AV}{vm vk vx:Value}{K:HK}(hm:BH g w (AR h) m vm)(J0 : BH g w (AR h) k vk)(hx:BH g w (AR h) x vx)(hk:GZ T h ty m k x K) :
  dT P w0 g0 h0 h g w (Instr.mapUpdate ty vm vk vx) K:=by
 unfold GZ at hk;split at hk
 ·rename_i r;split at hk
  ·rename_i sh B3 e0;obtain⟨kt,e,k1,k2,k3,k4⟩:=MK J0 hk;have ho:=hI.objs r;rw[e0]at ho;obtain⟨t1,b,es,ck,a1,a2,a3,a4,a5,a6⟩:=ho;have hl:(h r).live:=by rw[e0];trivial
   cases hm with
   |mref _ _ b' hu ht hp =>
    rw[a2]at hp;cases hp;have fX:=hT.map k1;have Fb:=run_getObj_map (P:=P) w b es ck a3;have NI:∀o',(setObj b o').run P w=.ok () (setBlock w b o'):=fun o'=>by simp[setObj,Sem.run,a3,setBlock]
    have T3:=fun bb=>Ms hT k2 w bb k3;obtain⟨res,r1,r2⟩:=N0 hT k2 w k3 es.toList a4.shape;have jl:=BH.str hI.objs hx;rcases r2 with ⟨rfl,hn⟩ | ⟨j,en,rfl,hj,hkey⟩
    ·obtain⟨m1,m2⟩:=Tp a4 (x:=vk) (v:=str h x) (y:=vx) k3 (fun a=>a4.none hn a);obtain⟨i1,i2⟩:=DJ.swap hI hl a1 a6 (.map sh (EO B3 vk (str h x))) a3 (.map (es.push { key:=vk,val:=vx,born:=ck }) (ck+1)) w ⟨rfl,rfl,rfl,rfl⟩ (by simp) (fun hg HQ EN Zj=>by
      obtain⟨u1,u2,u3,u4⟩:=Bz g r (g.ρ r) (g.ln r) (g.tk r) (g.own r) g.S;refine⟨u3.trans t1,b,_,_,u4.trans a1,u1.trans a2,EN,m1,fun i kv e q1 q2=>?_,a6⟩;rcases m2 i kv e q1 q2 with ⟨p1,p2⟩ | ⟨p1,p2⟩
      ·rw[p1,p2];exact jl.mono HQ (fun _ h=>h) (fun _ h=>h.elim)
      ·exact(a5 i kv e p1 p2).mono HQ (fun _ h=>h) (fun _ h=>h.elim))
     refine⟨_,_,_,?_,k4,i1,i2⟩;simp[Instr.mapUpdate,run_underlying fX,Fb,T3,r1,NI]
    ·obtain⟨a,q1,q2⟩:=a4.some hj hkey;obtain⟨m1,m2⟩:=OQ a4 (x:=vk) (v:=str h x) (y:=vx) q1;obtain⟨i1,i2⟩:=DJ.swap hI hl a1 a6 (.map sh (EO B3 vk (str h x))) a3 (.map (es.modify j fun e=>{ e with key:=vk,val:=vx }) ck) w ⟨rfl,rfl,rfl,rfl⟩ (by simp) (fun hg HQ EN Zj=>by
      obtain⟨u1,u2,u3,u4⟩:=Bz g r (g.ρ r) (g.ln r) (g.tk r) (g.own r) g.S;refine⟨u3.trans t1,b,_,_,u4.trans a1,u1.trans a2,EN,m1,fun i kv e q1 q2=>?_,a6⟩;rcases m2 i kv e q1 q2 with ⟨p1,p2⟩ | ⟨p1,p2⟩
      ·rw[p1,p2];exact jl.mono HQ (fun _ h=>h) (fun _ h=>h.elim)
      ·exact(a5 i kv e p1 p2).mono HQ (fun _ h=>h) (fun _ h=>h.elim))
     refine⟨_,_,_,?_,k4,i1,i2⟩;have ny : es[j]?=some en:=by simpa using hj
     have Jg:=Rb (P:=P) w k3;simp[Instr.mapUpdate,run_underlying fX,Fb,T3,r1,NI,ny,hkey,Jg]
  ·rename_i sh B3 e0;obtain⟨kt,e,k1,k2,k3,k4⟩:=MK J0 hk;have ho:=hI.objs r;rw[e0]at ho;obtain⟨t1,b,es,ck,a1,a2,a3,a4,a5,a6⟩:=ho;have hl:(h r).live:=by rw[e0];trivial
   cases hm with
   |mref _ _ b' hu ht hp =>
    rw[a2]at hp;cases hp;have fX:=hT.map k1;have Fb:=run_getObj_map (P:=P) w b es ck a3;have NI:∀o',(setObj b o').run P w=.ok () (setBlock w b o'):=fun o'=>by simp[setObj,Sem.run,a3,setBlock]
    have T3:=fun bb=>Ms hT k2 w bb k3;obtain⟨res,r1,r2⟩:=N0 hT k2 w k3 es.toList a4.shape;rcases r2 with ⟨rfl,hn⟩ | ⟨j,en,rfl,hj,hkey⟩
    ·obtain⟨m1,m2⟩:=Tp a4 (x:=vk) (v:=x) (y:=vx) k3 (fun a=>a4.none hn a);obtain⟨i1,i2⟩:=DJ.swap hI hl a1 a6 (.mapU sh (EO B3 vk (x))) a3 (.map (es.push { key:=vk,val:=vx,born:=ck }) (ck+1)) w ⟨rfl,rfl,rfl,rfl⟩ (by simp) (fun hg HQ EN Zj=>by
      obtain⟨u1,u2,u3,u4⟩:=Bz g r (g.ρ r) (g.ln r) (g.tk r) (g.own r) g.S;have K5:∀i,AR h i→AR (AW h r (.mapU sh (EO B3 vk x))) i:=fun i hi=>DP (by simp) i hi;refine⟨u3.trans t1,b,_,_,u4.trans a1,u1.trans a2,EN,m1,fun i kv e q1 q2=>?_,a6⟩;rcases m2 i kv e q1 q2 with ⟨p1,p2⟩ | ⟨p1,p2⟩
      ·rw[p1,p2];exact hx.mono HQ K5 hg
      ·exact(a5 i kv e p1 p2).mono HQ K5 hg)
     refine⟨_,_,_,?_,k4,i1,i2⟩;simp[Instr.mapUpdate,run_underlying fX,Fb,T3,r1,NI]
    ·obtain⟨a,q1,q2⟩:=a4.some hj hkey;obtain⟨m1,m2⟩:=OQ a4 (x:=vk) (v:=x) (y:=vx) q1;obtain⟨i1,i2⟩:=DJ.swap hI hl a1 a6 (.mapU sh (EO B3 vk (x))) a3 (.map (es.modify j fun e=>{ e with key:=vk,val:=vx }) ck) w ⟨rfl,rfl,rfl,rfl⟩ (by simp) (fun hg HQ EN Zj=>by
      obtain⟨u1,u2,u3,u4⟩:=Bz g r (g.ρ r) (g.ln r) (g.tk r) (g.own r) g.S;have K5:∀i,AR h i→AR (AW h r (.mapU sh (EO B3 vk x))) i:=fun i hi=>DP (by simp) i hi;refine⟨u3.trans t1,b,_,_,u4.trans a1,u1.trans a2,EN,m1,fun i kv e q1 q2=>?_,a6⟩;rcases m2 i kv e q1 q2 with ⟨p1,p2⟩ | ⟨p1,p2⟩
      ·rw[p1,p2];exact hx.mono HQ K5 hg
      ·exact(a5 i kv e p1 p2).mono HQ K5 hg)
     refine⟨_,_,_,?_,k4,i1,i2⟩;have ny : es[j]?=some en:=by simpa using hj
     have Jg:=Rb (P:=P) w k3;simp[Instr.mapUpdate,run_underlying fX,Fb,T3,r1,NI,ny,hkey,Jg]
  ·exact hk.elim
 ·exact hk.elim
theorem NU{d b:Nat}{es:Array MapEntry}{ck:Nat}{sh:EE}{B3:List (Value×AV)}(hd:h d=.free)(hS:g.S b 0)(hb:w.heap[b]?=some (.map es ck))(hm:G3 sh es ck B3)
  (hv:∀(i:Nat) (kv:Value×AV) (e:MapEntry),B3[i]?=some kv→es[i]?=some e→BH g w Fp kv.2 e.val) :
  ∃g',DJ w0 g0 h0 (AW h d (.iter B3 B3 none)) g' (w.alloc (.mapIter (some b) ck #[] ck))∧Le h g w (AW h d (.iter B3 B3 none)) g' (w.alloc (.mapIter (some b) ck #[] ck)) ∧
   BH g' (w.alloc (.mapIter (some b) ck #[] ck)) (AR (AW h d (.iter B3 B3 none))) (.ref d 0) (.pointer (some ⟨w.heap.size,0,none⟩)):=by
 obtain⟨k1,k2⟩:=hI.newOwn hd (.iter B3 B3 none) (.mapIter (some b) ck #[] ck) (.pointer (some ⟨w.heap.size,0,none⟩)) 0 false w ⟨rfl,rfl,rfl,rfl⟩ (by simp) (fun hg hk=>by
  obtain⟨u1,u2,u3,u4⟩:=Bz g d (.pointer (some ⟨w.heap.size,0,none⟩)) 0 false (some w.heap.size) g.S;obtain⟨c1,c2,c3⟩:=hk b 0 hS
  exact⟨u3,w.heap.size,b,ck,#[],ck,es,ck,u4,u1,Hy w _ rfl,c1,c3 es ck hb,⟨sh,hm⟩,rfl,rfl,fun i kv e q1 q2=>(hv i kv e q1 q2).mono hk (fun _ h=>h) (fun _ h=>h.elim),
   ⟨OW hm.2.2.2.1,fun _ h=>h⟩,fun i kv e q1 q2=>by simp[List.mem_of_getElem? q1],trivial,fun o ho=>by have:=hI.slt _ _ ho;omega⟩)
 refine⟨_,k1,k2,.ref _ d 0 w.heap.size (by unfold AR;rw[Bd];simp) ?_ ?_⟩<;>simp[Gh.upd]
theorem QU{r b:Nat}{sh:EE}{B3:List (Value×AV)}{es:Array MapEntry}{ck:Nat}(e0:h r=.map sh B3)(a1:g.own r=some b)(a2:g.ρ r=.map (some b))(a3:w.heap[b]?=some (.map es ck))(a4:G3 sh es ck B3)
  (a5:∀(i:Nat) (kv:Value×AV) (e:MapEntry),B3[i]?=some kv→es[i]?=some e→BH g w Fp kv.2 e.val) (t1:g.tk r=false) :
  ∃g',DJ w0 g0 h0 (AW h r (.rom sh B3)) g' w∧Le h g w (AW h r (.rom sh B3)) g' w∧g'.S b 0:=by
 have hl:(h r).live:=by rw[e0];trivial
 have DI:=(hI.loc r b hl a1).1
 obtain⟨k1,k2⟩:=hI.upd r (.rom sh B3) (g.ρ r) (g.ln r) (g.tk r) none (g.more b 1) w none ⟨rfl,rfl,rfl,Aj _⟩ (fun _ _ _=>rfl) (fun b e=>by cases e) (fun _ _ h=>.inl h)
  (fun b' o hs=>hs.elim .inl (fun hs=>.inr ⟨by rw[hs.1];exact DI,.inr ⟨hl,by rw[hs.1];exact a1⟩⟩)) (fun b o e=>by cases e) (fun b hh _=>by cases hh) (by simp)
  (fun _=>⟨rfl,Aj _,fun _=>rfl,fun _=>rfl⟩) (fun hg hk=>by
   obtain⟨u1,u2,u3,u4⟩:=Bz g r (g.ρ r) (g.ln r) (g.tk r) none (g.more b 1);exact⟨u3.trans t1,b,u1.trans a2,.cmap _ sh B3 b es ck (.inr ⟨rfl,Uy⟩) a3 a4 (fun i kv e q1 q2=>(a5 i kv e q1 q2).mono hk (fun _ h=>h) (fun _ h=>h.elim))⟩)
 exact⟨_,k1,k2,.inr ⟨rfl,Uy⟩⟩
theorem Wp{r b:Nat}{sh:EE}{B3:List (Value×AV)}{es:Array MapEntry}{ck:Nat}(e0:h r=.mapU sh B3)(a1:g.own r=some b)(a2:g.ρ r=.map (some b))(a3:w.heap[b]?=some (.map es ck))(a4:G3 sh es ck B3)
  (a5:∀(i:Nat) (kv:Value×AV) (e:MapEntry),B3[i]?=some kv→es[i]?=some e→BH g w (AR h) kv.2 e.val) (t1:g.tk r=false) :
  ∃g',DJ w0 g0 h0 (AW h r (.rom sh (Rp h B3))) g' w∧Le h g w (AW h r (.rom sh (Rp h B3))) g' w∧g'.S b 0:=by
 have hl:(h r).live:=by rw[e0];trivial
 have DI:=(hI.loc r b hl a1).1
 obtain⟨k1,k2⟩:=hI.upd r (.rom sh (Rp h B3)) (g.ρ r) (g.ln r) (g.tk r) none (g.more b 1) w none ⟨rfl,rfl,rfl,Aj _⟩ (fun _ _ _=>rfl) (fun b e=>by cases e) (fun _ _ h=>.inl h)
  (fun b' o hs=>hs.elim .inl (fun hs=>.inr ⟨by rw[hs.1];exact DI,.inr ⟨hl,by rw[hs.1];exact a1⟩⟩)) (fun b o e=>by cases e) (fun b hh _=>by cases hh) (by simp)
  (fun _=>⟨rfl,Aj _,fun _=>rfl,fun _=>rfl⟩) (fun hg hk=>by
   obtain⟨u1,u2,u3,u4⟩:=Bz g r (g.ρ r) (g.ln r) (g.tk r) none (g.more b 1);refine⟨u3.trans t1,b,u1.trans a2,.cmap _ sh _ b es ck (.inr ⟨rfl,Uy⟩) a3 (Vi _ a4) (fun i kv e q1 q2=>?_)⟩;unfold Rp at q1;rw[AG]at q1;obtain⟨p,q3,rfl⟩:=A1.1 q1;exact((a5 i p e q3 q2).str hI.objs).mono hk (fun _ h=>h) (fun _ h=>h.elim))
 exact⟨_,k1,k2,.inr ⟨rfl,Uy⟩⟩
theorem du{T:Gm}(hT:Cz P T){ty kt e:Nat}(ht:(T ty).d=.map kt e){d:Option Nat}{x:AV}{vx:Value}{K:HK}(hx:BH g w (AR h) x vx)(hk:ZL d h x K) :
  N5 P w0 g0 h0 h g w (Instr.range ty vx) K:=by
 have hu:=hT.map ht;unfold ZL at hk;split at hk
 ·exact hk.elim
 ·rename_i d;split at hk
  ·rename_i hd;have CO:∀b es ck,w.heap[b]?=some (.map es ck)→(Instr.range ty (.map (some b))).run P w=.ok (.pointer (some ⟨w.heap.size,0,none⟩)) (w.alloc (.mapIter (some b) ck #[] ck)):=fun b es ck hb=>by
    simp[Instr.range,run_underlying hu,run_getObj_map (P:=P) w b es ck hb]
   split at hk
   ·cases hx with
    |cmap _ _ _ b es ck hS hb hm hv =>
     obtain⟨g',k1,k2,k3⟩:=NU hI hd hS hb hm hv;exact⟨_,_,_,_,_,CO _ _ _ hb,hk,k1,k2,k3⟩
   ·rename_i r;have ho:=hI.objs r;cases hx with
    |mref _ _ b fX ht' hp =>
     split at hk
     ·rename_i sh B3 e0;rw[e0]at ho;obtain⟨_,b',a1,a2⟩:=ho;rw[a1]at hp;cases hp;cases a2 with
      |cmap _ _ _ _ es ck hS hb hm hv =>
       obtain⟨g',k1,k2,k3⟩:=NU hI hd hS hb hm hv;exact⟨_,_,_,_,_,CO _ _ _ hb,hk,k1,k2,k3⟩
     ·rename_i sh B3 e0;rw[e0]at ho;obtain⟨t1,b',es,ck,a1,a2,a3,a4,a5,a6⟩:=ho;rw[a2]at hp;cases hp;obtain⟨g1,i1,i2,i3⟩:=QU hI e0 a1 a2 a3 a4 a5 t1;have DC:d≠r:=fun e=>by rw[e,e0]at hd;cases hd
      obtain⟨g',k1,k2,k3⟩:=NU i1 (by rw[BY _ _ _ _ DC];exact hd) i3 a3 a4 (fun i kv e q1 q2=>(a5 i kv e q1 q2).mono i2.keeps (fun _ h=>h) (fun _ h=>h.elim));exact⟨_,_,_,_,_,CO _ _ _ a3,hk,k1,i2.trans k2,k3⟩
     ·exact hk.elim
   ·exact hk.elim
  ·exact hk.elim
theorem gL{ty:TypeId}{x:AV}{vx:Value}{K:HK}(hx:BH g w (AR h) x vx)(hk:gK h x K):N5 P w0 g0 h0 h g w (Instr.next vx false ty) K:=by
 unfold gK at hk;split at hk
 ·rename_i r;split at hk
  ·rename_i all rem Fy e0;have ho:=hI.objs r;rw[e0]at ho;obtain⟨t1,b,mb,JR,seen,st,es,ck,a1,a2,a3,a4,a5,⟨sh,a6⟩,a7,a8,a9,WV,ZY,a12,my⟩:=ho;have hl:(h r).live:=by rw[e0];trivial
   cases hx with
   |ref _ _ _ b' hu ht hp =>
    rw[a2]at hp;cases hp;have DI:∀e∈es.toList,e.born<JR:=fun e he=>by
     obtain⟨i,hi⟩:=B9.1 he
     have:=a6.2.2.2.2.1 i e (by simpa using hi)
     omega
    rcases run_next_at (P:=P) w ty b mb JR st seen es ck a3 a5 DI (by omega)with ⟨q1,q2⟩ | ⟨e,q1,w1,q2,q3⟩
    ·have u9:rem=[]:=by
      apply LD.2;intro kv Pt;obtain⟨i,hi⟩:=B9.1 (WV.2 kv Pt);have WM:i<es.size:=by rw[a6.1];exact(At.1 hi).1
      have hb:=(ZY i kv es[i] hi (by simp[WM])).1 Pt;have hm:es[i]∈leftOf es seen:=by simp[leftOf,hb]
      have:=Array.size_pos_of_mem hm
      omega
     exact⟨_,w,g,_,h,q2,hk.1 u9,hI,.refl _ _ _,.tup _ _ _ rfl (fun i av x h1 h2=>by
      match i,h1,h2 with
      |0,h1,h2=>simp at h1 h2;subst h1;subst h2;exact .v _ _)⟩
    ·have hq:e∈es∧e.born∉seen:=by simpa[leftOf]using q1
     obtain⟨i,hi⟩:=Array.mem_iff_getElem?.1 hq.1;have WM:i<all.length:=by rw[←a6.1];exact(Bx.1 hi).1
     have oR:all[i]?=some all[i]:=Az WM;have jg:=(ZY i _ e oR hi).2 hq.2;obtain⟨s1,s2,hs⟩:=List.append_of_mem jg;have IN:rem.Perm (all[i]::(s1++s2)):=by rw[hs];exact List.perm_middle
     have Rk:(all[i]::(s1++s2)).Nodup:=IN.nodup_iff.1 WV.1;have hr:=a9 i _ e oR hi;have hkey:=a6.2.1 i _ e oR hi;have KM:w1.heap=w.heap∧w1.os=w.os∧w1.tape=w.tape∧w1.output=w.output:=by rcases q2 with rfl | rfl<;>exact⟨rfl,rfl,rfl,rfl⟩
     obtain⟨k1,k2⟩:=DJ.swap hI hl a1 my (.iter all (s1++s2) (some all[i])) a3 (.mapIter (some mb) JR (seen.push e.born) ck) w1 KM (by simp) (fun hg HQ EN Zj=>by
      obtain⟨u1,u2,u3,u4⟩:=Bz g r (g.ρ r) (g.ln r) (g.tk r) (g.own r) g.S;obtain⟨c1,c2,c3⟩:=HQ mb 0 a4
      refine⟨u3.trans t1,b,mb,JR,_,ck,es,ck,u4.trans a1,u1.trans a2,EN,c1,c3 _ _ a5,⟨sh,a6⟩,a7,rfl,fun i kv e p q=>(a9 i kv e p q).mono HQ (fun _ h=>h) (fun _ h=>h.elim),
       ⟨(CF.1 Rk).2,fun kv Pt=>WV.2 kv (IN.mem_iff.2 (Ae _ Pt))⟩,fun j kv e' p q=>?_,⟨i,e,oR,hi,by simp⟩,my⟩
      rw[Array.mem_push];have h1:=ZY j kv e' p q;rw[IN.mem_iff,Aq]at h1;constructor
      ·intro Pt hc;rcases hc with hc | hc
       ·exact(h1.1 (.inr Pt)) hc
       ·obtain rfl:=a6.2.2.2.2.2 j i e' e q hi hc;rw[oR]at p;cases p;exact(CF.1 Rk).1 Pt
      ·intro hc;rcases h1.2 (fun hm=>hc (.inl hm))with e2 | e2
       ·have:j=i:=Vk (f:=fun x=>x) (l:=all) (by simpa using OW a6.2.2.2.1) p oR e2
        subst this;rw[hi]at q;cases q;exact absurd (.inr rfl) hc
       ·exact e2)
     refine⟨_,_,_,_,_,q3,hk.2 all[i] (s1++s2) IN,k1,k2,.tup _ _ _ rfl (fun j av x h1 h2=>?_)⟩
     match j,h1,h2 with
     |0,h1,h2=>simp at h1 h2;subst h1;subst h2;exact .v _ _
     |1,h1,h2=>simp at h1 h2;subst h1;subst h2;rw[hkey];exact .v _ _
     |2,h1,h2=>simp at h1 h2;subst h1;subst h2;exact(hr.up _).le k2
  ·exact hk.elim
 ·exact hk.elim
end
end Go.Eng
namespace Go.Eng
def F2(F:(AV→Prop)→Prop):Prop:=∀K,F K→∃v,K v∧∀K',K' v→F K'
theorem Dm(v:AV):F2 (fun K=>K v):=fun _ h=>⟨v,h,fun _ h=>h⟩
theorem Dz{p:Prop}{F:(AV→Prop)→Prop}(h:F2 F):F2 (fun K=>p∧F K):=fun K ⟨hp,hk⟩ =>
 let ⟨v,h1,h2⟩:=h K hk
 ⟨v,h1,fun K' h'=>⟨hp,h2 K' h'⟩⟩
theorem CA:F2 (fun _=>False):=fun _ h=>h.elim
theorem Vo(p:Prop):F2 (IL p):=fun K h=>by
 by_cases hp:p
 ·exact⟨_,h.1 hp,fun K' h'=>⟨fun _=>h',fun hn=>absurd hp hn⟩⟩
 ·exact⟨_,h.2 hp,fun K' h'=>⟨fun q=>absurd q hp,fun _=>h'⟩⟩
theorem Yn{F:(AV→Prop)→Prop}(h:F2 F):F2 (fun K=>F (cS K)):=fun K hk=>by
 obtain⟨v,h1,h2⟩:=h _ hk;unfold cS at h1;split at h1
 ·exact⟨_,h1,fun K' h'=>h2 _ h'⟩
 ·exact⟨_,h1,fun K' h'=>h2 _ h'⟩
 ·exact h1.elim
theorem MU{α:Type}{F:α→(AV→Prop)→Prop}(h:∀x,F2 (F x)):F2 (fun K=>∃x,F x K):=fun K ⟨x,hk⟩ =>
 let ⟨v,h1,h2⟩:=h x K hk
 ⟨v,h1,fun K' h'=>⟨x,h2 K' h'⟩⟩
theorem H9(T:Gm)(t:Nat)(cs:List AV):F2 (Lz T t cs):=by
 have head:F2 (Ma cs):=by unfold Ma;cases cs with | nil=>exact CA | cons a _=>exact Dm a
 unfold Lz;split
 ·exact Dz (Dm _)
 ·exact Dz (Dm _)
 ·cases cs with
  |nil=>exact CA
  |cons a _ =>
   intro K h;simp only[Ma]at h⊢;split at h
   ·rename_i b;cases b with
    |true=>exact⟨_,h.1 rfl,fun K' h'=>⟨fun _=>h',fun e=>by cases e⟩⟩
    |false=>exact⟨_,h.2 rfl,fun K' h'=>⟨fun e=>(by cases e),fun _=>h'⟩⟩
   ·exact h.elim
 ·exact CA
 ·exact head
theorem aR(T:Gm)(t:Nat)(x y:AV)(hx:∀tk es,x≠.slice tk es):F2 (oO T t x y):=by
 unfold oO
 repeat' split
 all_goals first | exact CA | exact Dm _ | exact Vo _ | exact Dz (Dm _) | exact absurd rfl (hx _ _)
theorem ZH(op:BinOp)(k:IntKind)(a b:Int):F2 (RX op k a b):=by
 unfold RX
 repeat' split
 all_goals first | exact CA | exact Dz (Dm _) | (unfold YL;split<;>first | exact CA | exact Dm _)
theorem gY(T:Gm)(op:BinOp)(t:Nat)(x y:AV)(hx:∀tk es,x≠.slice tk es):F2 (Sb T op t x y):=by
 unfold Sb
 repeat' split
 all_goals first | exact CA | exact Vo _ | exact ZH _ _ _ _ | exact Dz (Dm _) | exact aR _ _ _ _ hx | exact Yn (aR _ _ _ _ hx)
theorem dh(T:Gm)(op:BinOp)(t:Nat)(Y:Operand)(x y:AV)(hx:∀tk es,x≠.slice tk es):F2 (W6 T op t Y x y):=by
 unfold W6
 repeat' split
 all_goals first | exact CA | exact Dm _ | exact gY _ _ _ _ _ hx
theorem di(T:Gm)(s t:Nat)(x:AV):F2 (Xe T s t x):=by
 unfold Xe
 repeat' split
 all_goals first | exact CA | exact Dm _ | exact Dz (Dm _) | exact MU fun _=>Dz (Dm _)
theorem ZJ(T:Gm)(s f:Nat)(x:AV):F2 (Sw T s f x):=by
 unfold Sw
 repeat' split
 all_goals first | exact CA | exact Dm _
theorem Yl(T:Gm)(s f:Nat)(x:AV):F2 (Ox T s f x):=by
 unfold Ox
 repeat' split
 all_goals first | exact CA | exact H9 _ _ _
theorem TK(T:Gm)(t:Nat)(x ix:AV):F2 (Jj T t x ix):=by
 unfold Jj
 repeat' split
 all_goals first | exact CA | exact Dz (Dm _) | exact MU fun _=>Dz (Dz (Dm _))
theorem ZK(T:Gm)(t:Nat)(x ix:AV):F2 (S8 T t x ix):=by
 unfold S8
 repeat' split
 all_goals first | exact CA | exact Dz (H9 _ _ _) | exact MU fun _=>Dz (Dm _)
theorem Wv(x:AV)(i:Nat):F2 (L1 x i):=by
 unfold L1
 repeat' split
 all_goals first | exact CA | exact Dm _
theorem g8(x:AV):F2 (KD x):=by
 unfold KD
 repeat' split
 all_goals first | exact CA | exact Dm _
theorem dj(c a b:AV):F2 (Yj c a b):=by
 unfold Yj
 repeat' split
 all_goals first | exact CA | exact Dm _
theorem kV(f:Int→Int→Int)(x y:AV):F2 (kF f x y):=by
 unfold kF
 repeat' split
 all_goals first | exact CA | exact Dm _
theorem dk(op:UnOp)(x:AV):F2 (Yu op x):=by
 unfold Yu
 repeat' split
 all_goals first | exact CA | exact Yn (Dm _) | exact Dz (Dm _)
def ly{α:Type}(F:(α→Prop)→Prop):Prop:=∀K,F K→∃v,K v∧∀K',K' v→F K'
theorem Yk(n:Nat)(a:AV):ly (GW n a):=by
 intro K h;unfold GW at h⊢
 repeat' split at h
 all_goals first | exact h.elim | skip
 all_goals exact⟨_,h,fun K' h'=>h'⟩
theorem TH(pl:Nat→Option (Nat×Nat))(t:Nat→AV):∀(ps:List (Nat×Operand)) (cs:List AV),ly (Ku pl cs t ps)
 | [],cs=>fun K h=>⟨cs,h,fun _ h=>h⟩
 |(i,x)::r,cs=>by
  intro K h;unfold Ku at h;split at h
  ·exact h.elim
  ·rename_i o n e;obtain⟨vs,h1,h2⟩:=Yk _ _ _ h;split at h1
   ·rename_i hb;obtain⟨c,h3,h4⟩:=TH pl t r _ _ h1;refine⟨c,h3,fun K' h'=>?_⟩;unfold Ku;simp only[e];refine h2 _ ?_;simp only[hb];exact h4 K' h'
   ·exact h1.elim
theorem ZI(T:Gm)(ty:Nat)(t:Nat→AV)(ps:List (Nat×Operand)):F2 (PE T ty t ps):=by
 unfold PE
 repeat' split
 all_goals first
  |exact CA
  |exact fun K h=>let ⟨c,h1,h2⟩:=TH _ _ _ _ _ h;⟨_,h1,fun K' h'=>h2 _ h'⟩
def xf(h:Nat→HO)(e:Option (Nat×HO)):Nat→HO:=match e with | none=>h | some (r,o)=>AW h r o
structure IH(o:Oper)(R:List Nat)(st st2:St):Prop where
 t:∀x∈o.op.operands,ev st2.t x=ev st.t x
 h:∀r∈R,st2.h r=st.h r
def Ee(cx:Cx)(o:Oper)(st:St)(R:List Nat)(w:Option Nat)(K:HK):Prop :=
 ∃v e,K v (xf st.h e)∧(∀r o',e=some (r,o')→w=some r∧r∈R)∧∀st2,IH o R st st2→∀K' : HK,K' v (xf st2.h e)→FK cx true o st2 K'
def RK(w:Option Nat)(r:Nat):Prop:=match w with | none=>False | some x=>x=r∨(10000000≤x∧(x % 10000000=r∨x / 10000000=r))∨x=VP
def HY(h:Nat→HO):List (Nat×HO)→Nat→HO
 | []=>h
 |p::l=>HY (AW h p.1 p.2) l
def Rs(cx:Cx)(o:Oper)(st:St)(R:List Nat)(w:Option Nat)(K:HK):Prop :=
 ∃v e,K v (HY st.h e)∧(∀r o',(r,o')∈e→RK w r∧r∈R)∧∀st2,IH o R st st2→∀K' : HK,K' v (HY st2.h e)→FK cx true o st2 K'
section
variable {cx:Cx}{o:Oper}{st:St}{R:List Nat}{w:Option Nat}{K:HK}
theorem Ee.pick{F:(AV→Prop)→Prop}(hF:F2 F)(h:F fun v=>K v st.h)(h2:∀st2,IH o R st st2→∀K' : HK,F (fun v=>K' v st2.h)→FK cx true o st2 K'):Ee cx o st R w K :=
 let ⟨v,h1,h3⟩:=hF _ h
 ⟨v,none,h1,fun _ _ e=>(by cases e),fun st2 ha K' hk=>h2 st2 ha K' (h3 _ hk)⟩
theorem X2{cs:List AV}{a:AV}(h:a∈cs):∀r∈Um a,r∈kl cs:=by
 induction cs with
 |nil=>cases h
 |cons c cs ih =>
  intro r hr;rcases Aq.1 h with rfl | h
  ·exact Bp _ hr
  ·exact Bk _ (ih h r hr)
theorem gy{cs:List AV}{a:AV}(h:a∈cs):∀r∈Un a,r∈nM cs:=by
 induction cs with
 |nil=>cases h
 |cons c cs ih =>
  intro r hr;rcases Aq.1 h with rfl | h
  ·exact Bp _ hr
  ·exact Bk _ (ih h r hr)
theorem X1{cs:List AV}{a:AV}(h:a∈cs):∀r∈WQ a,r∈SV cs:=by
 induction cs with
 |nil=>cases h
 |cons c cs ih =>
  intro r hr;rcases Aq.1 h with rfl | h
  ·exact Bp _ hr
  ·exact Bk _ (ih h r hr)
theorem U7(a:AV):∀r∈Um a,r∈Un a:=by cases a<;>simp[Um,Un]
theorem Qm{h h2:Nat→HO}{a:AV}(e:∀r∈Um a,h2 r=h r):str0 h2 a=str0 h a:=by
 cases a<;>simp only[str0]
 ·rw[e _ (by simp[Um])]
 ·rw[e _ (by simp[Um])]
theorem Vx{h h2:Nat→HO}{a:AV}(e:∀r∈Un a,h2 r=h r):str h2 a=str h a:=by
 cases a with
 |agg cs=>simp only[str];exact Ac _ (Bf fun c hc=>Qm fun r hr=>e r (X2 hc r hr))
 |clo f cs=>simp only[str];exact Ac _ (Bf fun c hc=>Qm fun r hr=>e r (X2 hc r hr))
 |_=>exact Qm (fun r hr=>e r (U7 _ r hr))
theorem fZ(a:AV):∀r∈Un a,r∈WQ a:=by
 cases a with
 |agg cs =>
  intro r hr;simp only[WQ,Un]at *
  induction cs with
  |nil=>exact hr
  |cons c cs ih =>
   rcases A7.1 hr with h | h
   ·exact Bp _ (U7 c r h)
   ·exact Bk _ (ih h)
 |_=>exact fun r hr=>hr
theorem KK{h h2:Nat→HO}{a:AV}(e:∀r∈WQ a,h2 r=h r):str h2 a=str h a:=Vx fun r hr=>e r (fZ a r hr)
theorem Qn{h h2:Nat→HO}{l:List AV}(e:∀r∈SV l,h2 r=h r):l.map (str h2)=l.map (str h) :=
 Bf fun _ ha=>KK fun r hr=>e r (X1 ha r hr)
theorem iw{h h2:Nat→HO}{a:AV}(e:∀r∈WQ a,h2 r=h r):rsv h2 a=rsv h a:=by
 cases a<;>simp only[rsv]
 ·rw[e _ (by simp[WQ,Un,Um])]
 ·rw[e _ (by simp[WQ,Un,Um])]
theorem ND{n:Nat}{a:AV}{K:List AV→Prop}(hk:GW n a K):∃cs,K cs∧(∀K' : List AV→Prop,K' cs→GW n a K')∧∀h h2:Nat→HO,(∀r∈WQ a,h2 r=h r)→cs.map (str h2)=cs.map (str h):=by
 have single:K [a]→(∀K' : List AV→Prop,K' [a]→GW n a K')→∃cs,K cs∧(∀K' : List AV→Prop,K' cs→GW n a K')∧∀h h2:Nat→HO,(∀r∈WQ a,h2 r=h r)→cs.map (str h2)=cs.map (str h) :=
  fun h1 h2=>⟨[a],h1,h2,fun h h2 e=>by simp[KK e]⟩
 unfold GW at hk;split at hk
 ·rename_i cs;split at hk
  ·rename_i hn;refine⟨cs,hk,fun K' h=>by unfold GW;simp only[hn];exact h,fun h h2 e=>Bf fun c hc=>Vx fun r hr=>e r (gy hc r hr)⟩
  ·exact hk.elim
 ·rename_i nB;split at hk
  ·rename_i h1;split at hk
   ·refine single hk fun K' h=>?_;unfold GW;split
    ·rename_i cs;exact absurd rfl (nB cs)
    ·rw[h1];exact h
   ·exact hk.elim
  ·exact hk.elim
theorem Sx{n sz:Nat}{t:Nat→AV}:∀{ps:List (Nat×Operand)} {es:List (List AV)} {h:Nat→HO} {K:List (List AV)→Prop},QJ n sz h es t ps K →
  ∃Fz,K Fz∧∀(t2:Nat→AV) (h2:Nat→HO),(∀r∈SV (ps.map fun p=>ev t p.2),h2 r=h r)→(∀p∈ps,ev t2 p.2=ev t p.2)→∀K' : List (List AV)→Prop,K' Fz→QJ n sz h2 es t2 ps K'
 | [],es,h,K,hk=>⟨es,hk,fun _ _ _ _ _ h=>h⟩
 |(i,x)::r,es,h,K,hk=>by
  unfold QJ at hk;split at hk
  ·rename_i hb;obtain⟨cs,c1,c2,c3⟩:=ND hk;obtain⟨Fz,e1,e2⟩:=Sx c1;refine⟨Fz,e1,fun t2 h2 hh ht K' J0=>?_⟩;unfold QJ;rw[hb,ht (i,x) (Aa ..)];refine c2 _ ?_;rw[c3 h h2 (fun r hr=>hh r (Bp _ hr))];exact e2 t2 h2 (fun r hr=>hh r (Bk _ hr)) (fun p hp=>ht p (Ae _ hp)) K' J0
  ·exact hk.elim
theorem Ig{d:Option Nat}{h:Nat→HO}{sz:Nat}{es:List (List AV)}(hk:Ew cx d h sz es K) :
  ∃d',d.map (Ks cx)=some d'∧∃v x,K v (AW h d' x)∧∀h2:Nat→HO,h2 d'=h d'→∀K' : HK,K' v (AW h2 d' x)→Ew cx d h2 sz es K':=by
 unfold Ew at hk;split at hk
 ·exact hk.elim
 ·rename_i d;split at hk
  ·rename_i hd;split at hk
   ·rename_i e;exact⟨Ks cx d,rfl,_,_,hk,fun h2 hh K' h'=>by unfold Ew;simp only[hh,hd,e];exact h'⟩
   ·rename_i e;exact⟨Ks cx d,rfl,_,_,hk,fun h2 hh K' h'=>by unfold Ew;simp only[hh,hd,e];exact h'⟩
  ·exact hk.elim
theorem Y2{h:Nat→HO}{x:AV}{K:List (List AV)→Prop}(hk:KX h x K):∃es,K es∧∀h2:Nat→HO,(∀r n,x=.msl r n→h2 r=h r)→∀K' : List (List AV)→Prop,K' es→KX h2 x K':=by
 unfold KX at hk;split at hk
 ·exact⟨_,hk,fun _ _ K' h=>h⟩
 ·exact⟨_,hk,fun _ _ K' h=>h⟩
 ·rename_i r n;split at hk
  ·rename_i sz es e;exact⟨_,hk.2,fun h2 hh K' h=>by unfold KX;simp only[hh r n rfl,e];exact⟨hk.1,h⟩⟩
  ·exact hk.elim
 ·exact hk.elim
end
section
variable {cx:Cx}{dst:Option Nat}{ty:Nat}{pos:String}{after:Array Edge}{gd:Option (Nat×Bool)}{st:St}{R:List Nat}{w:Option Nat}{K:HK}
theorem Ir{d:Option Nat}{l:List Nat}{f:Fq}(h:Iq d l=some f):∃d',d=some d'∧f=(d' :: l,some d'):=by
 unfold Iq at h;cases d with
 |none=>cases h
 |some d=>cases h;exact⟨d,rfl,rfl⟩
theorem Xx{e:Nat}(hk:FK cx true ⟨dst,.alloc e,ty,pos,after,gd⟩ st K)(hf:Fa cx ⟨dst,.alloc e,ty,pos,after,gd⟩ st=some (R,w)):Ee cx ⟨dst,.alloc e,ty,pos,after,gd⟩ st R w K:=by
 simp only[FK]at hk;obtain⟨d,rfl,e0⟩:=Ir hf;cases e0;unfold RT at hk;simp only at hk;split at hk
 ·rename_i hd;split at hk
  ·exact hk.elim
  ·rename_i DC;split at hk
   ·rename_i ha;refine⟨_,some (d,_),hk,fun r o' e=>(by cases e;exact⟨rfl,Aa ..⟩),fun st2 GS K' h'=>?_⟩;simp only[FK,RT];rw[GS.h d (Aa ..),hd];simp only[ha];exact h'
   ·exact hk.elim
 ·exact hk.elim
theorem ca{e:Nat}{x:Operand}(hk:FK cx true ⟨dst,.box e x,ty,pos,after,gd⟩ st K)(hf:Fa cx ⟨dst,.box e x,ty,pos,after,gd⟩ st=some (R,w)):Ee cx ⟨dst,.box e x,ty,pos,after,gd⟩ st R w K:=by
 simp only[FK]at hk;obtain⟨d,rfl,e0⟩:=Ir hf;cases e0;unfold bJ at hk;simp only at hk;split at hk
 ·rename_i hd;split at hk
  ·exact hk.elim
  ·rename_i DC;obtain⟨cs,c1,c2,c3⟩:=ND hk;split at c1
   ·rename_i hm;refine⟨_,some (d,_),c1,fun r o' e=>(by cases e;exact⟨rfl,Aa ..⟩),fun st2 GS K' h'=>?_⟩;have hx:ev st2.t x=ev st.t x:=GS.t x (by simp[Op.operands]);simp only[FK,bJ];rw[GS.h d (Aa ..),hd,hx];simp only[hm];refine c2 _ ?_;rw[c3 st.h st2.h (fun r hr=>GS.h r (Ae _ hr))];exact h'
   ·rename_i hm;refine⟨_,some (d,_),c1,fun r o' e=>(by cases e;exact⟨rfl,Aa ..⟩),fun st2 GS K' h'=>?_⟩;have hx:ev st2.t x=ev st.t x:=GS.t x (by simp[Op.operands]);simp only[FK,bJ];rw[GS.h d (Aa ..),hd,hx];simp only[hm];exact c2 _ h'
 ·exact hk.elim
theorem PN{t n:Nat}{ps:Array (Nat×Operand)}(hk:FK cx true ⟨dst,.buildSlice t n ps,ty,pos,after,gd⟩ st K)(hf:Fa cx ⟨dst,.buildSlice t n ps,ty,pos,after,gd⟩ st=some (R,w)) :
  Ee cx ⟨dst,.buildSlice t n ps,ty,pos,after,gd⟩ st R w K:=by
 simp only[FK]at hk;obtain⟨d,ci,e0⟩:=Ir hf;cases e0;unfold In at hk;split at hk
 ·rename_i e he;split at hk
  ·rename_i h1 h2;split at hk
   ·exact hk.elim
   ·rename_i k EF;split at hk
    ·rename_i hb;obtain⟨es,q1,q2⟩:=Sx hk;obtain⟨d',hd,v,x,q3,q4⟩:=Ig q1;have hd:dst.map (Ks cx)=some d':=hd;have ci:dst.map (Ks cx)=some d:=ci;rw[ci]at hd;cases hd;refine⟨v,some (d,x),q3,fun r o' e=>(by cases e;exact⟨rfl,Aa ..⟩),fun st2 GS K' h'=>?_⟩;have hx:∀p∈ps.toList,ev st2.t p.2=ev st.t p.2:=fun p hp=>GS.t p.2 (by
      simp only[Op.operands,List.mem_toArray];exact Ak.2 ⟨p,hp,rfl⟩)
     simp only[FK,In,he,h1,h2];split
     ·rename_i e0;rw[EF]at e0;cases e0
     ·rw[hb];exact q2 st2.t st2.h (fun r hr=>GS.h r (Ae _ hr)) hx _ (q4 st2.h (GS.h d (Aa ..)) K' h')
    ·exact hk.elim
  ·exact hk.elim
 ·exact hk.elim
theorem Rh{t:Nat}{n c:Operand}(hk:FK cx true ⟨dst,.makeSlice t n c,ty,pos,after,gd⟩ st K)(hf:Fa cx ⟨dst,.makeSlice t n c,ty,pos,after,gd⟩ st=some (R,w)) :
  Ee cx ⟨dst,.makeSlice t n c,ty,pos,after,gd⟩ st R w K:=by
 simp only[FK]at hk;obtain⟨d,ci,e0⟩:=Ir hf;cases e0;have hn:∀st2,IH ⟨dst,.makeSlice t n c,ty,pos,after,gd⟩ (d::[]) st st2→ev st2.t n=ev st.t n∧ev st2.t c=ev st.t c:=fun st2 ha=>⟨ha.t n (by simp[Op.operands]),ha.t c (by simp[Op.operands])⟩;unfold Jm at hk;split at hk
 ·rename_i e a b h1 h2 h3;split at hk
  ·rename_i h4;split at hk
   ·rename_i h5;split at hk
    ·exact hk.elim
    ·rename_i k EF;obtain⟨d',hd,v,x,q3,q4⟩:=Ig hk.2;have hd:dst.map (Ks cx)=some d':=hd;have ci:dst.map (Ks cx)=some d:=ci;rw[ci]at hd;cases hd;refine⟨v,some (d,x),q3,fun r o' e=>(by cases e;exact⟨rfl,Aa ..⟩),fun st2 GS K' h'=>?_⟩;simp only[FK,Jm,(hn st2 GS).1,(hn st2 GS).2,h1,h2,h3,h4,h5];split
     ·rename_i e0;rw[EF]at e0;cases e0
     ·exact⟨hk.1,q4 st2.h (GS.h d (Aa ..)) K' h'⟩
   ·exact hk.elim
  ·exact hk.elim
 ·exact hk.elim
theorem Ug{t:Nat}{r:Option Operand}(hk:FK cx true ⟨dst,.makeMap t r,ty,pos,after,gd⟩ st K)(hf:Fa cx ⟨dst,.makeMap t r,ty,pos,after,gd⟩ st=some (R,w)) :
  Ee cx ⟨dst,.makeMap t r,ty,pos,after,gd⟩ st R w K:=by
 cases r with
 |some r=>exact hk.elim
 |none =>
  simp only[FK]at hk;obtain⟨d,rfl,e0⟩:=Ir hf;cases e0;unfold KA at hk;simp only at hk;split at hk
  ·rename_i hd;split at hk
   ·rename_i h1;split at hk
    ·rename_i h2;split at hk
     ·rename_i h3;refine⟨_,some (d,_),hk,fun r o' e=>(by cases e;exact⟨rfl,Aa ..⟩),fun st2 GS K' h'=>?_⟩;simp only[FK,KA];rw[GS.h d (Aa ..),hd];simp only[h1,h2,h3];exact h'
     ·rename_i h3;refine⟨_,some (d,_),hk,fun r o' e=>(by cases e;exact⟨rfl,Aa ..⟩),fun st2 GS K' h'=>?_⟩;simp only[FK,KA];rw[GS.h d (Aa ..),hd];simp only[h1,h2,h3];exact h'
    ·exact hk.elim
   ·exact hk.elim
  ·exact hk.elim
theorem Xy{t:Nat}{p x:Operand}(hk:FK cx true ⟨dst,.store t p x,ty,pos,after,gd⟩ st K)(hf:Fa cx ⟨dst,.store t p x,ty,pos,after,gd⟩ st=some (R,w)) :
  Ee cx ⟨dst,.store t p x,ty,pos,after,gd⟩ st R w K:=by
 simp only[FK]at hk;have hn:∀st2,IH ⟨dst,.store t p x,ty,pos,after,gd⟩ R st st2→ev st2.t p=ev st.t p∧ev st2.t x=ev st.t x:=fun st2 ha=>⟨ha.t p (by simp[Op.operands]),ha.t x (by simp[Op.operands])⟩;unfold N1 at hk;split at hk
 ·exact hk.elim
 ·rename_i DC;obtain⟨cs,c1,c2,c3⟩:=ND hk;simp only[Fa]at hf;split at hf
  ·rename_i r off hp;split at hf
   ·cases hf
   ·rename_i hm;cases hf;rw[hp]at c1;simp only at c1;split at c1
    ·rename_i Fy hr;obtain⟨Hi,J0⟩:=c1;rw[hm]at J0;refine⟨_,some (r,_),J0,fun r o' e=>(by cases e;exact⟨rfl,Aa ..⟩),fun st2 GS K' h'=>?_⟩;simp only[FK,N1,(hn st2 GS).1,(hn st2 GS).2];refine c2 _ ?_;rw[hp];simp only[GS.h r (Aa ..),hr,hm];exact⟨Hi,h'⟩
    ·exact c1.elim
  ·rename_i r n sz i off hp;cases hf;rw[hp]at c1;simp only at c1;split at c1
   ·rename_i Gj es hr;split at c1
    ·rename_i hs;obtain⟨Hi,cell,e1,e2,J0⟩:=c1;split at J0
     ·rename_i j m;refine⟨_,some (r,_),J0,fun r o' e=>(by cases e;exact⟨rfl,Aa ..⟩),fun st2 GS K' h'=>?_⟩;simp only[FK,N1,(hn st2 GS).1,(hn st2 GS).2];refine c2 _ ?_;rw[hp];simp only[GS.h r (Aa ..),hr,hs];exact⟨Hi,cell,e1,e2,h'⟩
     ·rename_i OL;refine⟨_,some (r,_),J0,fun r o' e=>(by cases e;exact⟨rfl,Aa ..⟩),fun st2 GS K' h'=>?_⟩;simp only[FK,N1,(hn st2 GS).1,(hn st2 GS).2];refine c2 _ ?_;rw[hp];simp only[GS.h r (Aa ..),hr,hs];refine⟨Hi,cell,e1,e2,?_⟩;rw[c3 st.h st2.h (fun r hr=>GS.h r (Ae _ hr))];exact h'
    ·exact c1.elim
   ·exact c1.elim
  ·cases hf
theorem Ri{t:Nat}{m k x:Operand}(hk:FK cx true ⟨dst,.mapUpdate t m k x,ty,pos,after,gd⟩ st K)(hf:Fa cx ⟨dst,.mapUpdate t m k x,ty,pos,after,gd⟩ st=some (R,w)) :
  Ee cx ⟨dst,.mapUpdate t m k x,ty,pos,after,gd⟩ st R w K:=by
 simp only[FK]at hk;have hn:∀st2,IH ⟨dst,.mapUpdate t m k x,ty,pos,after,gd⟩ R st st2→ev st2.t m=ev st.t m∧ev st2.t k=ev st.t k∧ev st2.t x=ev st.t x:=fun st2 ha=>⟨ha.t m (by simp[Op.operands]),ha.t k (by simp[Op.operands]),ha.t x (by simp[Op.operands])⟩;simp only[Fa]at hf;split at hf
 ·rename_i r hm;cases hf;unfold GZ at hk;rw[hm]at hk;simp only at hk;split at hk
  ·rename_i sh B3 hr;unfold J5 at hk;split at hk
   ·rename_i kt e h1;split at hk
    ·rename_i sZ h2;split at hk
     ·rename_i h3;split at hk
      ·rename_i kx h4;split at hk
       ·rename_i h5;refine⟨_,some (r,_),hk,fun r o' e=>(by cases e;exact⟨rfl,Aa ..⟩),fun st2 GS K' h'=>?_⟩;obtain⟨n1,n2,n3⟩:=hn st2 GS;simp only[FK,GZ,n1,n2,n3,hm,GS.h r (Aa ..),hr,J5,h1,h2,h3,h4,h5];rw[KK (h:=st.h) (h2:=st2.h) (fun r hr=>GS.h r (Ae _ hr))];exact h'
       ·exact hk.elim
      ·exact hk.elim
     ·exact hk.elim
    ·exact hk.elim
   ·exact hk.elim
  ·rename_i sh B3 hr;unfold J5 at hk;split at hk
   ·rename_i kt e h1;split at hk
    ·rename_i sZ h2;split at hk
     ·rename_i h3;split at hk
      ·rename_i kx h4;split at hk
       ·rename_i h5;refine⟨_,some (r,_),hk,fun r o' e=>(by cases e;exact⟨rfl,Aa ..⟩),fun st2 GS K' h'=>?_⟩;obtain⟨n1,n2,n3⟩:=hn st2 GS;simp only[FK,GZ,n1,n2,n3,hm,GS.h r (Aa ..),hr,J5,h1,h2,h3,h4,h5];exact h'
       ·exact hk.elim
      ·exact hk.elim
     ·exact hk.elim
    ·exact hk.elim
   ·exact hk.elim
  ·exact hk.elim
 ·cases hf
theorem aS{A B:(AV→Prop)→Prop}(ha:F2 A)(hb:F2 B):F2 fun K=>A K∨B K:=by
 intro K hk;rcases hk with hk | hk
 ·obtain⟨v,h1,h2⟩:=ha K hk;exact⟨v,h1,fun K' h=>.inl (h2 K' h)⟩
 ·obtain⟨v,h1,h2⟩:=hb K hk;exact⟨v,h1,fun K' h=>.inr (h2 K' h)⟩
theorem SE{fn:Fn}{first cap:Array Operand}(hk:FK cx true ⟨dst,.makeFunc fn first cap,ty,pos,after,gd⟩ st K)(hf:Fa cx ⟨dst,.makeFunc fn first cap,ty,pos,after,gd⟩ st=some (R,w)) :
  Ee cx ⟨dst,.makeFunc fn first cap,ty,pos,after,gd⟩ st R w K:=by
 simp only[FK]at hk;simp only[Fa]at hf;cases hf;unfold Kz at hk;split at hk
 ·rename_i f h1;refine⟨_,none,hk,fun r o' e=>(by cases e),fun st2 GS K' h'=>?_⟩;simp only[FK,h1,Kz]
  have:cap.toList.map (fun x=>rsv st2.h (ev st2.t x))=cap.toList.map (fun x=>rsv st.h (ev st.t x)):=Bf fun x hx=>by
   rw[GS.t x (by simp only[Op.operands,RI];exact .inr (by simpa using hx))];exact iw fun r hr=>GS.h r (X1 (Ak.2 ⟨x,hx,rfl⟩) r hr)
  rw[this];exact h'
 ·exact hk.elim
end
end Go.Eng
