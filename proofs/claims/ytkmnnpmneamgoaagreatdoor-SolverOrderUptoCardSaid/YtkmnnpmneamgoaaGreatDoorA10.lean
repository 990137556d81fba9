/- Lemmas for the claims of this seat, without a condition: part 10 (EngT, EngU, EngV, EngW). -/
import Derived.Test.YtkmnnpmneamgoaaGreatDoorA09
import Derived.Maps.RangeRun
namespace Go.Eng
open Go.ChangeMaps (setBlock)

theorem Ua{w:World}{r:Nat}{o o' : Obj}(h:w.heap[r]?=some o):(setBlock w r o').heap[r]?=some o':=by
 have:=(Bl.1 h).1
 simp[setBlock,this]
theorem Tu{w:World}{r k:Nat}{o' : Obj}(h:k≠r):(setBlock w r o').heap[k]?=w.heap[k]?:=by
 simp[setBlock,Ne.symm h]
theorem Ni(w:World)(r:Nat)(o' : Obj):(setBlock w r o').heap.size=w.heap.size:=by simp[setBlock]

theorem OJ{α β:Type}{f:α→β}{l:List α}(h:(l.map f).Nodup):l.Nodup:=by
 induction l with
 |nil=>exact Fd
 |cons c l ih =>
  rw[AM,CQ]at h;exact CQ.2 ⟨fun hc=>h.1 (Ao.2 ⟨c,hc,rfl⟩),ih h.2⟩
theorem UW{α β:Type}{f:α→β}{l:List α}(h:(l.map f).Nodup){i j:Nat}{a b:α}(ha:l[i]?=some a)(hb:l[j]?=some b)(he:f a=f b):i=j:=by
 induction l generalizing i j with
 |nil=>simp at ha
 |cons c l ih =>
  rw[AM,CQ]at h;cases i with
  |zero =>
   cases j with
   |zero=>rfl
   |succ j =>
    simp only[Bi,Bq,GQ]at ha hb;exact absurd (Ao.2 ⟨b,Av hb,by rw[←he,ha]⟩) h.1
  |succ i =>
   cases j with
   |zero =>
    simp only[Bi,Bq,GQ]at ha hb;exact absurd (Ao.2 ⟨a,Av ha,by rw[he,hb]⟩) h.1
   |succ j=>exact Ae (·+1) (ih h.2 ha hb)

open Classical in
theorem PD{B5:List (Value×AV)}{k:Value}{a b:AV}(h:(k,b)∈B5):E1 B5 k a=B5.map fun p=>if p.1=k then(k,a)else p:=Aw ⟨b,h⟩
open Classical in
theorem PB{B5:List (Value×AV)}{k:Value}{a:AV}(h:∀b,(k,b)∉B5):E1 B5 k a=B5++[(k,a)]:=Am (fun⟨b,e⟩=>h b e)

theorem UT{sh:Ez}{es:Array MapEntry}{ck:Nat}{B5:List (Value×AV)}(f:AV→AV)(h:G7 sh es ck B5):G7 sh es ck (B5.map fun p=>(p.1,f p.2)):=by
 obtain⟨h1,h2,h3,h4,h5,h6⟩:=h;refine⟨by simp[h1],fun i kv e q1 q2=>?_,fun kv O5=>?_,?_,h5,h6⟩
 ·rw[AH]at q1;obtain⟨p,q3,rfl⟩:=AW.1 q1;exact h2 i p e q3 q2
 ·obtain⟨p,hp,rfl⟩:=Ao.1 O5;exact h3 p hp
 ·rw[BW];exact h4
theorem OE{sh:Ez}{es:Array MapEntry}{ck:Nat}{B5:List (Value×AV)}(h:G7 sh es ck B5){x:Value}{a v:AV}{y:Value}{j:Nat}(hj:B5[j]?=some (x,a)) :
  G7 sh (es.modify j fun e=>{ e with key:=x,val:=y }) ck (E1 B5 x v) ∧
   ∀(i:Nat) (kv:Value×AV) (e:MapEntry),(E1 B5 x v)[i]?=some kv→(es.modify j fun e=>{ e with key:=x,val:=y })[i]?=some e →
    (kv.2=v∧e.val=y)∨(B5[i]?=some kv∧es[i]?=some e):=by
 classical
 rw[PD (Av hj)];obtain⟨h1,h2,h3,h4,h5,h6⟩:=h;have hm:∀i e,(es.modify j fun e=>{ e with key:=x,val:=y })[i]?=some e→∃e0,es[i]?=some e0∧e.born=e0.born∧(if i=j then e.key=x∧e.val=y else e=e0):=by
  intro i e he;rw[Lj]at he;split at he
  ·rename_i e1;subst e1;obtain⟨e0,q1,q2⟩:=AW.1 he;exact⟨e0,q1,by rw[←q2],by rw[Aw rfl,←q2];exact⟨rfl,rfl⟩⟩
  ·rename_i e1;exact⟨e,he,rfl,by rw[Am (fun q=>e1 q.symm)]⟩
 have hk:∀i kv,(B5.map fun p=>if p.1=x then(x,v)else p)[i]?=some kv→∃p,B5[i]?=some p∧kv.1=p.1∧(if i=j then kv.2=v else kv=p):=by
  intro i kv O5;rw[AH]at O5;obtain⟨p,q1,q2⟩:=AW.1 O5;refine⟨p,q1,?_⟩
  by_cases e:p.1=x
  ·rw[Aw e]at q2;subst q2
   have:=UW h4 q1 hj e
   exact⟨e.symm,by rw[Aw this]⟩
  ·rw[Am e]at q2;subst q2;refine⟨rfl,?_⟩;rw[Am];intro e2;subst e2;rw[q1]at hj;cases hj;exact e rfl
 have qu:(B5.map fun p=>if p.1=x then(x,v)else p).map (·.1)=B5.map (·.1):=by
  rw[BW];apply Be;intro p _;simp only[Function.comp];split
  ·rename_i e;exact e.symm
  ·rfl
 refine⟨⟨by simp[h1],fun i kv e q1 q2=>?_,fun kv O5=>?_,by rw[qu];exact h4,fun i e q=>?_,fun i i' e e' q q' hb=>?_⟩,fun i kv e q1 q2=>?_⟩
 ·obtain⟨p,p1,p2,p3⟩:=hk i kv q1;obtain⟨e0,r1,r2,r3⟩:=hm i e q2
  have:=h2 i p e0 p1 r1
  split at r3
  ·rename_i ij;subst ij;rw[hj]at p1;cases p1;rw[r3.1,p2]
  ·rw[r3,p2];exact this
 ·obtain⟨i,hi⟩:=Cb.1 O5;obtain⟨p,p1,p2,p3⟩:=hk i kv hi;rw[p2];exact h3 p (Av p1)
 ·obtain⟨e0,r1,r2,_⟩:=hm i e q;rw[r2];exact h5 i e0 r1
 ·obtain⟨e0,r1,r2,_⟩:=hm i e q;obtain⟨e1,s1,s2,_⟩:=hm i' e' q';exact h6 i i' e0 e1 r1 s1 (by rw[←r2,←s2];exact hb)
 ·obtain⟨p,p1,p2,p3⟩:=hk i kv q1;obtain⟨e0,r1,r2,r3⟩:=hm i e q2;split at r3
  ·rename_i ij;rw[Aw ij]at p3;exact .inl ⟨p3,r3.2⟩
  ·rename_i ij;rw[Am ij]at p3;exact .inr ⟨by rw[p3];exact p1,by rw[r3];exact r1⟩

theorem SV{sh:Ez}{es:Array MapEntry}{ck:Nat}{B5:List (Value×AV)}(h:G7 sh es ck B5){x:Value}{v:AV}{y:Value}(hx:U5 sh x=true)(hn:∀a,(x,a)∉B5) :
  G7 sh (es.push { key:=x,val:=y,born:=ck }) (ck+1) (E1 B5 x v) ∧
   ∀(i:Nat) (kv:Value×AV) (e:MapEntry),(E1 B5 x v)[i]?=some kv→(es.push { key:=x,val:=y,born:=ck })[i]?=some e →
    (kv.2=v∧e.val=y)∨(B5[i]?=some kv∧es[i]?=some e):=by
 rw[PB hn];obtain⟨h1,h2,h3,h4,h5,h6⟩:=h;have hm:∀i e,(es.push { key:=x,val:=y,born:=ck })[i]?=some e→(es[i]?=some e∧i<es.size)∨(i=es.size∧e={ key:=x,val:=y,born:=ck }):=by
  intro i e he;rw[Array.getElem?_push]at he;split at he
  ·rename_i q;cases he;exact .inr ⟨q,rfl⟩
  ·exact .inl ⟨he,(Bl.1 he).1⟩
 have hk:∀i kv,(B5++[(x,v)])[i]?=some kv→(B5[i]?=some kv∧i<es.size)∨(i=es.size∧kv=(x,v)):=by
  intro i kv O5;rw[LK]at O5;split at O5
  ·rename_i q;exact .inl ⟨O5,by omega⟩
  ·rename_i q
   have:i-B5.length=0:=by
    have:=(At.1 O5).1
    simp at this;omega
   rw[this]at O5;simp at O5;exact .inr ⟨by omega,O5.symm⟩
 refine⟨⟨by simp[h1],fun i kv e q1 q2=>?_,fun kv O5=>?_,?_,fun i e q=>?_,fun i i' e e' q q' hb=>?_⟩,fun i kv e q1 q2=>?_⟩
 ·rcases hk i kv q1 with ⟨p1,p2⟩ | ⟨p1,p2⟩<;>rcases hm i e q2 with ⟨r1,r2⟩ | ⟨r1,r2⟩
  ·exact h2 i kv e p1 r1
  ·omega
  ·omega
  ·rw[p2,r2]
 ·rcases A2.1 O5 with q | q
  ·exact h3 kv q
  ·rw[Ai.1 q];exact hx
 ·rw[AB,Fz];refine⟨h4,by simp,fun a ha b hb e=>?_⟩;simp only[AM,E6,Ai]at hb;obtain⟨p,p1,p2⟩:=Ao.1 ha;refine hn p.2 ?_
  have:p=(x,p.2):=by rw[←hb,←e,←p2]
  rw[←this];exact p1
 ·rcases hm i e q with ⟨r1,_⟩ | ⟨_,r2⟩
  ·have:=h5 i e r1;omega
  ·rw[r2];exact Ly _
 ·rcases hm i e q with ⟨r1,_⟩ | ⟨r1,r2⟩<;>rcases hm i' e' q' with ⟨s1,_⟩ | ⟨s1,s2⟩
  ·exact h6 i i' e e' r1 s1 hb
  ·have:=h5 i e r1;rw[s2]at hb;dsimp only at hb;omega
  ·have:=h5 i' e' s1;rw[r2]at hb;dsimp only at hb;omega
  ·omega
 ·rcases hk i kv q1 with ⟨p1,p2⟩ | ⟨p1,p2⟩<;>rcases hm i e q2 with ⟨r1,r2⟩ | ⟨r1,r2⟩
  ·exact .inr ⟨p1,r1⟩
  ·omega
  ·omega
  ·exact .inl ⟨by rw[p2],by rw[r2]⟩

section
variable {P:Program}{w0:World}{g0:Gh}{h0 h:Nat→HO}{g:Gh}{w:World}(hI:Dk w0 g0 h0 h g w)
include hI

theorem Dk.swap{r b:Nat}(hl:(h r).live)(ho:g.own r=some b)(hn:∀o,¬g.S b o)(o' : HO){ob:Obj}(hb:w.heap[b]?=some ob)(ob' : Obj)(w1:World)(KO:w1.heap=w.heap∧w1.os=w.os∧w1.tape=w.tape∧w1.output=w.output)(Dn:o'≠.free)
  (Jf:JW g (g.upd r (g.ρ r) (g.ln r) (g.tk r) (g.own r) g.S) (AK h)→EP g w (g.upd r (g.ρ r) (g.ln r) (g.tk r) (g.own r) g.S) (setBlock w1 b ob')→(setBlock w1 b ob').heap[b]?=some ob' →
   (∀k,k≠b→(setBlock w1 b ob').heap[k]?=w.heap[k]?) →
   D4 (g.upd r (g.ρ r) (g.ln r) (g.tk r) (g.own r) g.S) (setBlock w1 b ob') (AK (AT h r o')) r o') :
  Dk w0 g0 h0 (AT h r o') (g.upd r (g.ρ r) (g.ln r) (g.tk r) (g.own r) g.S) (setBlock w1 b ob')∧Le h g w (AT h r o') (g.upd r (g.ρ r) (g.ln r) (g.tk r) (g.own r) g.S) (setBlock w1 b ob'):=by
 have Dt:=(hI.loc r b hl ho).1;have Fj:(setBlock w1 b ob').heap[b]?=some ob':=Ua (by rw[KO.1];exact hb);have YW:∀k,k≠b→(setBlock w1 b ob').heap[k]?=w.heap[k]?:=fun k hk=>by rw[Tu hk,KO.1]
 refine hI.upd r o' _ _ _ _ _ _ (some b) ⟨KO.2.1,KO.2.2.1,KO.2.2.2,by rw[Ni,KO.1];exact Ak _⟩ (fun k _ Dn=>YW k (fun e=>Dn (by rw[e]))) (fun b' e=>by cases e;exact⟨hl,ho⟩) (fun _ _ h=>h) (fun _ _ h=>.inl h)
  (fun b' o e hs=>by cases e;exact absurd hs (hn o)) (fun b' _ e=>?_) Dn (fun _=>⟨rfl,Ak _,fun _=>rfl,fun _=>rfl⟩) (fun hg hk=>Jf hg hk Fj YW)
 rw[ho]at e;cases e;exact⟨by rw[Ni,KO.1];exact Dt,.inl ⟨hl,ho⟩⟩

theorem Na{T:GK}(hT:Cn P T){ty:Nat}{m k x:AV}{vm vk vx:Value}{K:HK}(hm:BF g w (AK h) m vm)(KN : BF g w (AK h) k vk)(hx:BF g w (AK h) x vx)(hk:G4 T h ty m k x K) :
  dC P w0 g0 h0 h g w (Instr.mapUpdate ty vm vk vx) K:=by
 unfold G4 at hk;split at hk
 ·rename_i r;split at hk
  ·rename_i sh B5 e0;obtain⟨kt,e,k1,k2,k3,k4⟩:=Mw KN hk;have ho:=hI.objs r;rw[e0]at ho;obtain⟨t1,b,es,ck,a1,a2,a3,a4,a5,a6⟩:=ho;have hl:(h r).live:=by rw[e0];trivial
   cases hm with
   |mref _ _ b' hu ht hp =>
    rw[a2]at hp;cases hp;have fN:=hT.map k1;have EB:=run_getObj_map (P:=P) w b es ck a3;have Nx:∀o',(setObj b o').run P w=.ok () (setBlock w b o'):=fun o'=>by simp[setObj,Sem.run,a3,setBlock]
    have TJ:=fun bb=>Mk hT k2 w bb k3;obtain⟨res,r1,r2⟩:=NQ hT k2 w k3 es.toList a4.shape;have iV:=BF.str hI.objs hx;rcases r2 with ⟨rfl,hn⟩ | ⟨j,en,rfl,hj,hkey⟩
    ·obtain⟨m1,m2⟩:=SV a4 (x:=vk) (v:=str h x) (y:=vx) k3 (fun a=>a4.none hn a);obtain⟨i1,i2⟩:=Dk.swap hI hl a1 a6 (.map sh (E1 B5 vk (str h x))) a3 (.map (es.push { key:=vk,val:=vx,born:=ck }) (ck+1)) w ⟨rfl,rfl,rfl,rfl⟩ (by simp) (fun hg I0 Fj YW=>by
      obtain⟨u1,u2,u3,u4⟩:=BJ g r (g.ρ r) (g.ln r) (g.tk r) (g.own r) g.S;refine⟨u3.trans t1,b,_,_,u4.trans a1,u1.trans a2,Fj,m1,fun i kv e q1 q2=>?_,a6⟩;rcases m2 i kv e q1 q2 with ⟨p1,p2⟩ | ⟨p1,p2⟩
      ·rw[p1,p2];exact iV.mono I0 (fun _ h=>h) (fun _ h=>h.elim)
      ·exact(a5 i kv e p1 p2).mono I0 (fun _ h=>h) (fun _ h=>h.elim))
     refine⟨_,_,_,?_,k4,i1,i2⟩;simp[Instr.mapUpdate,run_underlying fN,EB,TJ,r1,Nx]
    ·obtain⟨a,q1,q2⟩:=a4.some hj hkey;obtain⟨m1,m2⟩:=OE a4 (x:=vk) (v:=str h x) (y:=vx) q1;obtain⟨i1,i2⟩:=Dk.swap hI hl a1 a6 (.map sh (E1 B5 vk (str h x))) a3 (.map (es.modify j fun e=>{ e with key:=vk,val:=vx }) ck) w ⟨rfl,rfl,rfl,rfl⟩ (by simp) (fun hg I0 Fj YW=>by
      obtain⟨u1,u2,u3,u4⟩:=BJ g r (g.ρ r) (g.ln r) (g.tk r) (g.own r) g.S;refine⟨u3.trans t1,b,_,_,u4.trans a1,u1.trans a2,Fj,m1,fun i kv e q1 q2=>?_,a6⟩;rcases m2 i kv e q1 q2 with ⟨p1,p2⟩ | ⟨p1,p2⟩
      ·rw[p1,p2];exact iV.mono I0 (fun _ h=>h) (fun _ h=>h.elim)
      ·exact(a5 i kv e p1 p2).mono I0 (fun _ h=>h) (fun _ h=>h.elim))
     refine⟨_,_,_,?_,k4,i1,i2⟩;have m7 : es[j]?=some en:=by simpa using hj
     have FK:=QM (P:=P) w k3;simp[Instr.mapUpdate,run_underlying fN,EB,TJ,r1,Nx,m7,hkey,FK]
  ·rename_i sh B5 e0;obtain⟨kt,e,k1,k2,k3,k4⟩:=Mw KN hk;have ho:=hI.objs r;rw[e0]at ho;obtain⟨t1,b,es,ck,a1,a2,a3,a4,a5,a6⟩:=ho;have hl:(h r).live:=by rw[e0];trivial
   cases hm with
   |mref _ _ b' hu ht hp =>
    rw[a2]at hp;cases hp;have fN:=hT.map k1;have EB:=run_getObj_map (P:=P) w b es ck a3;have Nx:∀o',(setObj b o').run P w=.ok () (setBlock w b o'):=fun o'=>by simp[setObj,Sem.run,a3,setBlock]
    have TJ:=fun bb=>Mk hT k2 w bb k3;obtain⟨res,r1,r2⟩:=NQ hT k2 w k3 es.toList a4.shape;rcases r2 with ⟨rfl,hn⟩ | ⟨j,en,rfl,hj,hkey⟩
    ·obtain⟨m1,m2⟩:=SV a4 (x:=vk) (v:=x) (y:=vx) k3 (fun a=>a4.none hn a);obtain⟨i1,i2⟩:=Dk.swap hI hl a1 a6 (.mapU sh (E1 B5 vk (x))) a3 (.map (es.push { key:=vk,val:=vx,born:=ck }) (ck+1)) w ⟨rfl,rfl,rfl,rfl⟩ (by simp) (fun hg I0 Fj YW=>by
      obtain⟨u1,u2,u3,u4⟩:=BJ g r (g.ρ r) (g.ln r) (g.tk r) (g.own r) g.S;have Kw:∀i,AK h i→AK (AT h r (.mapU sh (E1 B5 vk x))) i:=fun i hi=>DR (by simp) i hi;refine⟨u3.trans t1,b,_,_,u4.trans a1,u1.trans a2,Fj,m1,fun i kv e q1 q2=>?_,a6⟩;rcases m2 i kv e q1 q2 with ⟨p1,p2⟩ | ⟨p1,p2⟩
      ·rw[p1,p2];exact hx.mono I0 Kw hg
      ·exact(a5 i kv e p1 p2).mono I0 Kw hg)
     refine⟨_,_,_,?_,k4,i1,i2⟩;simp[Instr.mapUpdate,run_underlying fN,EB,TJ,r1,Nx]
    ·obtain⟨a,q1,q2⟩:=a4.some hj hkey;obtain⟨m1,m2⟩:=OE a4 (x:=vk) (v:=x) (y:=vx) q1;obtain⟨i1,i2⟩:=Dk.swap hI hl a1 a6 (.mapU sh (E1 B5 vk (x))) a3 (.map (es.modify j fun e=>{ e with key:=vk,val:=vx }) ck) w ⟨rfl,rfl,rfl,rfl⟩ (by simp) (fun hg I0 Fj YW=>by
      obtain⟨u1,u2,u3,u4⟩:=BJ g r (g.ρ r) (g.ln r) (g.tk r) (g.own r) g.S;have Kw:∀i,AK h i→AK (AT h r (.mapU sh (E1 B5 vk x))) i:=fun i hi=>DR (by simp) i hi;refine⟨u3.trans t1,b,_,_,u4.trans a1,u1.trans a2,Fj,m1,fun i kv e q1 q2=>?_,a6⟩;rcases m2 i kv e q1 q2 with ⟨p1,p2⟩ | ⟨p1,p2⟩
      ·rw[p1,p2];exact hx.mono I0 Kw hg
      ·exact(a5 i kv e p1 p2).mono I0 Kw hg)
     refine⟨_,_,_,?_,k4,i1,i2⟩;have m7 : es[j]?=some en:=by simpa using hj
     have FK:=QM (P:=P) w k3;simp[Instr.mapUpdate,run_underlying fN,EB,TJ,r1,Nx,m7,hkey,FK]
  ·exact hk.elim
 ·exact hk.elim

theorem NH{d b:Nat}{es:Array MapEntry}{ck:Nat}{sh:Ez}{B5:List (Value×AV)}(hd:h d=.free)(hS:g.S b 0)(hb:w.heap[b]?=some (.map es ck))(hm:G7 sh es ck B5)
  (hv:∀(i:Nat) (kv:Value×AV) (e:MapEntry),B5[i]?=some kv→es[i]?=some e→BF g w E8 kv.2 e.val) :
  ∃g',Dk w0 g0 h0 (AT h d (.iter B5 B5 none)) g' (w.alloc (.mapIter (some b) ck #[] ck))∧Le h g w (AT h d (.iter B5 B5 none)) g' (w.alloc (.mapIter (some b) ck #[] ck)) ∧
   BF g' (w.alloc (.mapIter (some b) ck #[] ck)) (AK (AT h d (.iter B5 B5 none))) (.ref d 0) (.pointer (some ⟨w.heap.size,0,none⟩)):=by
 obtain⟨k1,k2⟩:=hI.newOwn hd (.iter B5 B5 none) (.mapIter (some b) ck #[] ck) (.pointer (some ⟨w.heap.size,0,none⟩)) 0 false w ⟨rfl,rfl,rfl,rfl⟩ (by simp) (fun hg hk=>by
  obtain⟨u1,u2,u3,u4⟩:=BJ g d (.pointer (some ⟨w.heap.size,0,none⟩)) 0 false (some w.heap.size) g.S;obtain⟨c1,c2,c3⟩:=hk b 0 hS
  exact⟨u3,w.heap.size,b,ck,#[],ck,es,ck,u4,u1,Hw w _ rfl,c1,c3 es ck hb,⟨sh,hm⟩,rfl,rfl,fun i kv e q1 q2=>(hv i kv e q1 q2).mono hk (fun _ h=>h) (fun _ h=>h.elim),
   ⟨OJ hm.2.2.2.1,fun _ h=>h⟩,fun i kv e q1 q2=>by simp[List.mem_of_getElem? q1],trivial,fun o ho=>by have:=hI.slt _ _ ho;omega⟩)
 refine⟨_,k1,k2,.ref _ d 0 w.heap.size (by unfold AK;rw[A9];simp) ?_ ?_⟩<;>simp[Gh.upd]

theorem QC{r b:Nat}{sh:Ez}{B5:List (Value×AV)}{es:Array MapEntry}{ck:Nat}(e0:h r=.map sh B5)(a1:g.own r=some b)(a2:g.ρ r=.map (some b))(a3:w.heap[b]?=some (.map es ck))(a4:G7 sh es ck B5)
  (a5:∀(i:Nat) (kv:Value×AV) (e:MapEntry),B5[i]?=some kv→es[i]?=some e→BF g w E8 kv.2 e.val) (t1:g.tk r=false) :
  ∃g',Dk w0 g0 h0 (AT h r (.rom sh B5)) g' w∧Le h g w (AT h r (.rom sh B5)) g' w∧g'.S b 0:=by
 have hl:(h r).live:=by rw[e0];trivial
 have Dt:=(hI.loc r b hl a1).1
 obtain⟨k1,k2⟩:=hI.upd r (.rom sh B5) (g.ρ r) (g.ln r) (g.tk r) none (g.more b 1) w none ⟨rfl,rfl,rfl,Ak _⟩ (fun _ _ _=>rfl) (fun b e=>by cases e) (fun _ _ h=>.inl h)
  (fun b' o hs=>hs.elim .inl (fun hs=>.inr ⟨by rw[hs.1];exact Dt,.inr ⟨hl,by rw[hs.1];exact a1⟩⟩)) (fun b o e=>by cases e) (fun b hh _=>by cases hh) (by simp)
  (fun _=>⟨rfl,Ak _,fun _=>rfl,fun _=>rfl⟩) (fun hg hk=>by
   obtain⟨u1,u2,u3,u4⟩:=BJ g r (g.ρ r) (g.ln r) (g.tk r) none (g.more b 1);exact⟨u3.trans t1,b,u1.trans a2,.cmap _ sh B5 b es ck (.inr ⟨rfl,Uh⟩) a3 a4 (fun i kv e q1 q2=>(a5 i kv e q1 q2).mono hk (fun _ h=>h) (fun _ h=>h.elim))⟩)
 exact⟨_,k1,k2,.inr ⟨rfl,Uh⟩⟩

theorem V3{r b:Nat}{sh:Ez}{B5:List (Value×AV)}{es:Array MapEntry}{ck:Nat}(e0:h r=.mapU sh B5)(a1:g.own r=some b)(a2:g.ρ r=.map (some b))(a3:w.heap[b]?=some (.map es ck))(a4:G7 sh es ck B5)
  (a5:∀(i:Nat) (kv:Value×AV) (e:MapEntry),B5[i]?=some kv→es[i]?=some e→BF g w (AK h) kv.2 e.val) (t1:g.tk r=false) :
  ∃g',Dk w0 g0 h0 (AT h r (.rom sh (Ra h B5))) g' w∧Le h g w (AT h r (.rom sh (Ra h B5))) g' w∧g'.S b 0:=by
 have hl:(h r).live:=by rw[e0];trivial
 have Dt:=(hI.loc r b hl a1).1
 obtain⟨k1,k2⟩:=hI.upd r (.rom sh (Ra h B5)) (g.ρ r) (g.ln r) (g.tk r) none (g.more b 1) w none ⟨rfl,rfl,rfl,Ak _⟩ (fun _ _ _=>rfl) (fun b e=>by cases e) (fun _ _ h=>.inl h)
  (fun b' o hs=>hs.elim .inl (fun hs=>.inr ⟨by rw[hs.1];exact Dt,.inr ⟨hl,by rw[hs.1];exact a1⟩⟩)) (fun b o e=>by cases e) (fun b hh _=>by cases hh) (by simp)
  (fun _=>⟨rfl,Ak _,fun _=>rfl,fun _=>rfl⟩) (fun hg hk=>by
   obtain⟨u1,u2,u3,u4⟩:=BJ g r (g.ρ r) (g.ln r) (g.tk r) none (g.more b 1);refine⟨u3.trans t1,b,u1.trans a2,.cmap _ sh _ b es ck (.inr ⟨rfl,Uh⟩) a3 (UT _ a4) (fun i kv e q1 q2=>?_)⟩;unfold Ra at q1;rw[AH]at q1;obtain⟨p,q3,rfl⟩:=AW.1 q1;exact((a5 i p e q3 q2).str hI.objs).mono hk (fun _ h=>h) (fun _ h=>h.elim))
 exact⟨_,k1,k2,.inr ⟨rfl,Uh⟩⟩

theorem cX{T:GK}(hT:Cn P T){ty kt e:Nat}(ht:(T ty).d=.map kt e){d:Option Nat}{x:AV}{vx:Value}{K:HK}(hx:BF g w (AK h) x vx)(hk:Zl d h x K) :
  NX P w0 g0 h0 h g w (Instr.range ty vx) K:=by
 have hu:=hT.map ht;unfold Zl at hk;split at hk
 ·exact hk.elim
 ·rename_i d;split at hk
  ·rename_i hd;have CV:∀b es ck,w.heap[b]?=some (.map es ck)→(Instr.range ty (.map (some b))).run P w=.ok (.pointer (some ⟨w.heap.size,0,none⟩)) (w.alloc (.mapIter (some b) ck #[] ck)):=fun b es ck hb=>by
    simp[Instr.range,run_underlying hu,run_getObj_map (P:=P) w b es ck hb]
   split at hk
   ·cases hx with
    |cmap _ _ _ b es ck hS hb hm hv =>
     obtain⟨g',k1,k2,k3⟩:=NH hI hd hS hb hm hv;exact⟨_,_,_,_,_,CV _ _ _ hb,hk,k1,k2,k3⟩
   ·rename_i r;have ho:=hI.objs r;cases hx with
    |mref _ _ b fN ht' hp =>
     split at hk
     ·rename_i sh B5 e0;rw[e0]at ho;obtain⟨_,b',a1,a2⟩:=ho;rw[a1]at hp;cases hp;cases a2 with
      |cmap _ _ _ _ es ck hS hb hm hv =>
       obtain⟨g',k1,k2,k3⟩:=NH hI hd hS hb hm hv;exact⟨_,_,_,_,_,CV _ _ _ hb,hk,k1,k2,k3⟩
     ·rename_i sh B5 e0;rw[e0]at ho;obtain⟨t1,b',es,ck,a1,a2,a3,a4,a5,a6⟩:=ho;rw[a2]at hp;cases hp;obtain⟨g1,i1,i2,i3⟩:=QC hI e0 a1 a2 a3 a4 a5 t1;have Dn:d≠r:=fun e=>by rw[e,e0]at hd;cases hd
      obtain⟨g',k1,k2,k3⟩:=NH i1 (by rw[B3 _ _ _ _ Dn];exact hd) i3 a3 a4 (fun i kv e q1 q2=>(a5 i kv e q1 q2).mono i2.keeps (fun _ h=>h) (fun _ h=>h.elim));exact⟨_,_,_,_,_,CV _ _ _ a3,hk,k1,i2.trans k2,k3⟩
     ·exact hk.elim
   ·exact hk.elim
  ·exact hk.elim

theorem gw{ty:TypeId}{x:AV}{vx:Value}{K:HK}(hx:BF g w (AK h) x vx)(hk:gv h x K):NX P w0 g0 h0 h g w (Instr.next vx false ty) K:=by
 unfold gv at hk;split at hk
 ·rename_i r;split at hk
  ·rename_i all rem F2 e0;have ho:=hI.objs r;rw[e0]at ho;obtain⟨t1,b,mb,JU,seen,st,es,ck,a1,a2,a3,a4,a5,⟨sh,a6⟩,a7,a8,a9,Ws,Zy,a12,l5⟩:=ho;have hl:(h r).live:=by rw[e0];trivial
   cases hx with
   |ref _ _ _ b' hu ht hp =>
    rw[a2]at hp;cases hp;have Dt:∀e∈es.toList,e.born<JU:=fun e he=>by
     obtain⟨i,hi⟩:=Cb.1 he
     have:=a6.2.2.2.2.1 i e (by simpa using hi)
     omega
    rcases run_next_at (P:=P) w ty b mb JU st seen es ck a3 a5 Dt (by omega)with ⟨q1,q2⟩ | ⟨e,q1,w1,q2,q3⟩
    ·have vl:rem=[]:=by
      apply Lw.2;intro kv O5;obtain⟨i,hi⟩:=Cb.1 (Ws.2 kv O5);have m6:i<es.size:=by rw[a6.1];exact(At.1 hi).1
      have hb:=(Zy i kv es[i] hi (by simp[m6])).1 O5;have hm:es[i]∈leftOf es seen:=by simp[leftOf,hb]
      have:=Array.size_pos_of_mem hm
      omega
     exact⟨_,w,g,_,h,q2,hk.1 vl,hI,.refl _ _ _,.tup _ _ _ rfl (fun i av x h1 h2=>by
      match i,h1,h2 with
      |0,h1,h2=>simp at h1 h2;subst h1;subst h2;exact .v _ _)⟩
    ·have hq:e∈es∧e.born∉seen:=by simpa[leftOf]using q1
     obtain⟨i,hi⟩:=Array.mem_iff_getElem?.1 hq.1;have m6:i<all.length:=by rw[←a6.1];exact(Bl.1 hi).1
     have ot:all[i]?=some all[i]:=Ay m6;have dx:=(Zy i _ e ot hi).2 hq.2;obtain⟨s1,s2,hs⟩:=List.append_of_mem dx;have JK:rem.Perm (all[i]::(s1++s2)):=by rw[hs];exact List.perm_middle
     have Pq:(all[i]::(s1++s2)).Nodup:=JK.nodup_iff.1 Ws.1;have hr:=a9 i _ e ot hi;have hkey:=a6.2.1 i _ e ot hi;have KO:w1.heap=w.heap∧w1.os=w.os∧w1.tape=w.tape∧w1.output=w.output:=by rcases q2 with rfl | rfl<;>exact⟨rfl,rfl,rfl,rfl⟩
     obtain⟨k1,k2⟩:=Dk.swap hI hl a1 l5 (.iter all (s1++s2) (some all[i])) a3 (.mapIter (some mb) JU (seen.push e.born) ck) w1 KO (by simp) (fun hg I0 Fj YW=>by
      obtain⟨u1,u2,u3,u4⟩:=BJ g r (g.ρ r) (g.ln r) (g.tk r) (g.own r) g.S;obtain⟨c1,c2,c3⟩:=I0 mb 0 a4
      refine⟨u3.trans t1,b,mb,JU,_,ck,es,ck,u4.trans a1,u1.trans a2,Fj,c1,c3 _ _ a5,⟨sh,a6⟩,a7,rfl,fun i kv e p q=>(a9 i kv e p q).mono I0 (fun _ h=>h) (fun _ h=>h.elim),
       ⟨(CQ.1 Pq).2,fun kv O5=>Ws.2 kv (JK.mem_iff.2 (Ag _ O5))⟩,fun j kv e' p q=>?_,⟨i,e,ot,hi,by simp⟩,l5⟩
      rw[Array.mem_push];have h1:=Zy j kv e' p q;rw[JK.mem_iff,AF]at h1;constructor
      ·intro O5 hc;rcases hc with hc | hc
       ·exact(h1.1 (.inr O5)) hc
       ·obtain rfl:=a6.2.2.2.2.2 j i e' e q hi hc;rw[ot]at p;cases p;exact(CQ.1 Pq).1 O5
      ·intro hc;rcases h1.2 (fun hm=>hc (.inl hm))with e2 | e2
       ·have:j=i:=UW (f:=fun x=>x) (l:=all) (by simpa using OJ a6.2.2.2.1) p ot e2
        subst this;rw[hi]at q;cases q;exact absurd (.inr rfl) hc
       ·exact e2)
     refine⟨_,_,_,_,_,q3,hk.2 all[i] (s1++s2) JK,k1,k2,.tup _ _ _ rfl (fun j av x h1 h2=>?_)⟩
     match j,h1,h2 with
     |0,h1,h2=>simp at h1 h2;subst h1;subst h2;exact .v _ _
     |1,h1,h2=>simp at h1 h2;subst h1;subst h2;rw[hkey];exact .v _ _
     |2,h1,h2=>simp at h1 h2;subst h1;subst h2;exact(hr.up _).le k2
  ·exact hk.elim
 ·exact hk.elim
end
end Go.Eng

namespace Go.Eng

def Gg(F:(AV→Prop)→Prop):Prop:=∀K,F K→∃v,K v∧∀K',K' v→F K'

theorem Di(v:AV):Gg (fun K=>K v):=fun _ h=>⟨v,h,fun _ h=>h⟩
theorem DA{p:Prop}{F:(AV→Prop)→Prop}(h:Gg F):Gg (fun K=>p∧F K):=fun K ⟨hp,hk⟩ =>
 let ⟨v,h1,h2⟩:=h K hk
 ⟨v,h1,fun K' h'=>⟨hp,h2 K' h'⟩⟩
theorem Cu:Gg (fun _=>False):=fun _ h=>h.elim
theorem U0(p:Prop):Gg (IJ p):=fun K h=>by
 by_cases hp:p
 ·exact⟨_,h.1 hp,fun K' h'=>⟨fun _=>h',fun hn=>absurd hp hn⟩⟩
 ·exact⟨_,h.2 hp,fun K' h'=>⟨fun q=>absurd q hp,fun _=>h'⟩⟩
theorem X1{F:(AV→Prop)→Prop}(h:Gg F):Gg (fun K=>F (cw K)):=fun K hk=>by
 obtain⟨v,h1,h2⟩:=h _ hk;unfold cw at h1;split at h1
 ·exact⟨_,h1,fun K' h'=>h2 _ h'⟩
 ·exact⟨_,h1,fun K' h'=>h2 _ h'⟩
 ·exact h1.elim
theorem MD{α:Type}{F:α→(AV→Prop)→Prop}(h:∀x,Gg (F x)):Gg (fun K=>∃x,F x K):=fun K ⟨x,hk⟩ =>
 let ⟨v,h1,h2⟩:=h x K hk
 ⟨v,h1,fun K' h'=>⟨x,h2 K' h'⟩⟩

theorem I7(T:GK)(t:Nat)(cs:List AV):Gg (Mc T t cs):=by
 have head:Gg (L4 cs):=by unfold L4;cases cs with | nil=>exact Cu | cons a _=>exact Di a
 unfold Mc;split
 ·exact DA (Di _)
 ·exact DA (Di _)
 ·cases cs with
  |nil=>exact Cu
  |cons a _ =>
   intro K h;simp only[L4]at h⊢;split at h
   ·rename_i b;cases b with
    |true=>exact⟨_,h.1 rfl,fun K' h'=>⟨fun _=>h',fun e=>by cases e⟩⟩
    |false=>exact⟨_,h.2 rfl,fun K' h'=>⟨fun e=>(by cases e),fun _=>h'⟩⟩
   ·exact h.elim
 ·exact Cu
 ·exact head
theorem aq(T:GK)(t:Nat)(x y:AV)(hx:∀tk es,x≠.slice tk es):Gg (ol T t x y):=by
 unfold ol
 repeat' split
 all_goals first | exact Cu | exact Di _ | exact U0 _ | exact DA (Di _) | exact absurd rfl (hx _ _)
theorem Zf(op:BinOp)(k:IntKind)(a b:Int):Gg (RM op k a b):=by
 unfold RM
 repeat' split
 all_goals first | exact Cu | exact DA (Di _) | (unfold Yo;split<;>first | exact Cu | exact Di _)
theorem gM(T:GK)(op:BinOp)(t:Nat)(x y:AV)(hx:∀tk es,x≠.slice tk es):Gg (RP T op t x y):=by
 unfold RP
 repeat' split
 all_goals first | exact Cu | exact U0 _ | exact Zf _ _ _ _ | exact DA (Di _) | exact aq _ _ _ _ hx | exact X1 (aq _ _ _ _ hx)
theorem cQ(T:GK)(op:BinOp)(t:Nat)(Y:Operand)(x y:AV)(hx:∀tk es,x≠.slice tk es):Gg (WC T op t Y x y):=by
 unfold WC
 repeat' split
 all_goals first | exact Cu | exact Di _ | exact gM _ _ _ _ _ hx
theorem cR(T:GK)(s t:Nat)(x:AV):Gg (WJ T s t x):=by
 unfold WJ
 repeat' split
 all_goals first | exact Cu | exact Di _ | exact DA (Di _) | exact MD fun _=>DA (Di _)
theorem Zh(T:GK)(s f:Nat)(x:AV):Gg (Sh T s f x):=by
 unfold Sh
 repeat' split
 all_goals first | exact Cu | exact Di _
theorem XZ(T:GK)(s f:Nat)(x:AV):Gg (Oi T s f x):=by
 unfold Oi
 repeat' split
 all_goals first | exact Cu | exact I7 _ _ _
theorem Th(T:GK)(t:Nat)(x ix:AV):Gg (Jg T t x ix):=by
 unfold Jg
 repeat' split
 all_goals first | exact Cu | exact DA (Di _) | exact MD fun _=>DA (DA (Di _))
theorem Zi(T:GK)(t:Nat)(x ix:AV):Gg (SJ T t x ix):=by
 unfold SJ
 repeat' split
 all_goals first | exact Cu | exact DA (I7 _ _ _) | exact MD fun _=>DA (Di _)
theorem V9(x:AV)(i:Nat):Gg (LW x i):=by
 unfold LW
 repeat' split
 all_goals first | exact Cu | exact Di _
theorem gO(x:AV):Gg (KD x):=by
 unfold KD
 repeat' split
 all_goals first | exact Cu | exact Di _
theorem cS(c a b:AV):Gg (XX c a b):=by
 unfold XX
 repeat' split
 all_goals first | exact Cu | exact Di _
theorem kK(f:Int→Int→Int)(x y:AV):Gg (kr f x y):=by
 unfold kr
 repeat' split
 all_goals first | exact Cu | exact Di _
theorem cU(op:UnOp)(x:AV):Gg (X8 op x):=by
 unfold X8
 repeat' split
 all_goals first | exact Cu | exact X1 (Di _) | exact DA (Di _)
def li{α:Type}(F:(α→Prop)→Prop):Prop:=∀K,F K→∃v,K v∧∀K',K' v→F K'
theorem XY(n:Nat)(a:AV):li (G2 n a):=by
 intro K h;unfold G2 at h⊢
 repeat' split at h
 all_goals first | exact h.elim | skip
 all_goals exact⟨_,h,fun K' h'=>h'⟩
theorem Tf(pl:Nat→Option (Nat×Nat))(t:Nat→AV):∀(ps:List (Nat×Operand)) (cs:List AV),li (Ks pl cs t ps)
 | [],cs=>fun K h=>⟨cs,h,fun _ h=>h⟩
 |(i,x)::r,cs=>by
  intro K h;unfold Ks at h;split at h
  ·exact h.elim
  ·rename_i o n e;obtain⟨vs,h1,h2⟩:=XY _ _ _ h;split at h1
   ·rename_i hb;obtain⟨c,h3,h4⟩:=Tf pl t r _ _ h1;refine⟨c,h3,fun K' h'=>?_⟩;unfold Ks;simp only[e];refine h2 _ ?_;simp only[hb];exact h4 K' h'
   ·exact h1.elim
theorem Zg(T:GK)(ty:Nat)(t:Nat→AV)(ps:List (Nat×Operand)):Gg (Pd T ty t ps):=by
 unfold Pd
 repeat' split
 all_goals first
  |exact Cu
  |exact fun K h=>let ⟨c,h1,h2⟩:=Tf _ _ _ _ _ h;⟨_,h1,fun K' h'=>h2 _ h'⟩
end Go.Eng

namespace Go.Eng

def xg(h:Nat→HO)(e:Option (Nat×HO)):Nat→HO:=match e with | none=>h | some (r,o)=>AT h r o
structure IF(o:Oper)(R:List Nat)(st st2:St):Prop where
 t:∀x∈o.op.operands,ev st2.t x=ev st.t x
 h:∀r∈R,st2.h r=st.h r
def D6(cx:Cx)(o:Oper)(st:St)(R:List Nat)(w:Option Nat)(K:HK):Prop :=
 ∃v e,K v (xg st.h e)∧(∀r o',e=some (r,o')→w=some r∧r∈R)∧∀st2,IF o R st st2→∀K' : HK,K' v (xg st2.h e)→F1 cx true o st2 K'

def RD(w:Option Nat)(r:Nat):Prop:=match w with | none=>False | some x=>x=r∨(10000000≤x∧(x % 10000000=r∨x / 10000000=r))∨x=Vu
def HT(h:Nat→HO):List (Nat×HO)→Nat→HO
 | []=>h
 |p::l=>HT (AT h p.1 p.2) l
def Rc(cx:Cx)(o:Oper)(st:St)(R:List Nat)(w:Option Nat)(K:HK):Prop :=
 ∃v e,K v (HT st.h e)∧(∀r o',(r,o')∈e→RD w r∧r∈R)∧∀st2,IF o R st st2→∀K' : HK,K' v (HT st2.h e)→F1 cx true o st2 K'

section
variable {cx:Cx}{o:Oper}{st:St}{R:List Nat}{w:Option Nat}{K:HK}
theorem D6.pick{F:(AV→Prop)→Prop}(hF:Gg F)(h:F fun v=>K v st.h)(h2:∀st2,IF o R st st2→∀K' : HK,F (fun v=>K' v st2.h)→F1 cx true o st2 K'):D6 cx o st R w K :=
 let ⟨v,h1,h3⟩:=hF _ h
 ⟨v,none,h1,fun _ _ e=>(by cases e),fun st2 ha K' hk=>h2 st2 ha K' (h3 _ hk)⟩

theorem XG{cs:List AV}{a:AV}(h:a∈cs):∀r∈T4 a,r∈kf cs:=by
 induction cs with
 |nil=>cases h
 |cons c cs ih =>
  intro r hr;rcases AF.1 h with rfl | h
  ·exact Bs _ hr
  ·exact Bo _ (ih h r hr)
theorem gj{cs:List AV}{a:AV}(h:a∈cs):∀r∈T5 a,r∈ns cs:=by
 induction cs with
 |nil=>cases h
 |cons c cs ih =>
  intro r hr;rcases AF.1 h with rfl | h
  ·exact Bs _ hr
  ·exact Bo _ (ih h r hr)
theorem XF{cs:List AV}{a:AV}(h:a∈cs):∀r∈Wo a,r∈SF cs:=by
 induction cs with
 |nil=>cases h
 |cons c cs ih =>
  intro r hr;rcases AF.1 h with rfl | h
  ·exact Bs _ hr
  ·exact Bo _ (ih h r hr)
theorem UL(a:AV):∀r∈T4 a,r∈T5 a:=by cases a<;>simp[T4,T5]
theorem PU{h h2:Nat→HO}{a:AV}(e:∀r∈T4 a,h2 r=h r):str0 h2 a=str0 h a:=by
 cases a<;>simp only[str0]
 ·rw[e _ (by simp[T4])]
 ·rw[e _ (by simp[T4])]
theorem Vc{h h2:Nat→HO}{a:AV}(e:∀r∈T5 a,h2 r=h r):str h2 a=str h a:=by
 cases a with
 |agg cs=>simp only[str];exact Ae _ (Be fun c hc=>PU fun r hr=>e r (XG hc r hr))
 |clo f cs=>simp only[str];exact Ae _ (Be fun c hc=>PU fun r hr=>e r (XG hc r hr))
 |_=>exact PU (fun r hr=>e r (UL _ r hr))
theorem fQ(a:AV):∀r∈T5 a,r∈Wo a:=by
 cases a with
 |agg cs =>
  intro r hr;simp only[Wo,T5]at *
  induction cs with
  |nil=>exact hr
  |cons c cs ih =>
   rcases A2.1 hr with h | h
   ·exact Bs _ (UL c r h)
   ·exact Bo _ (ih h)
 |_=>exact fun r hr=>hr
theorem KL{h h2:Nat→HO}{a:AV}(e:∀r∈Wo a,h2 r=h r):str h2 a=str h a:=Vc fun r hr=>e r (fQ a r hr)
theorem PV{h h2:Nat→HO}{l:List AV}(e:∀r∈SF l,h2 r=h r):l.map (str h2)=l.map (str h) :=
 Be fun _ ha=>KL fun r hr=>e r (XF ha r hr)
theorem ii{h h2:Nat→HO}{a:AV}(e:∀r∈Wo a,h2 r=h r):rsv h2 a=rsv h a:=by
 cases a<;>simp only[rsv]
 ·rw[e _ (by simp[Wo,T5,T4])]
 ·rw[e _ (by simp[Wo,T5,T4])]
theorem Nq{n:Nat}{a:AV}{K:List AV→Prop}(hk:G2 n a K):∃cs,K cs∧(∀K' : List AV→Prop,K' cs→G2 n a K')∧∀h h2:Nat→HO,(∀r∈Wo a,h2 r=h r)→cs.map (str h2)=cs.map (str h):=by
 have single:K [a]→(∀K' : List AV→Prop,K' [a]→G2 n a K')→∃cs,K cs∧(∀K' : List AV→Prop,K' cs→G2 n a K')∧∀h h2:Nat→HO,(∀r∈Wo a,h2 r=h r)→cs.map (str h2)=cs.map (str h) :=
  fun h1 h2=>⟨[a],h1,h2,fun h h2 e=>by simp[KL e]⟩
 unfold G2 at hk;split at hk
 ·rename_i cs;split at hk
  ·rename_i hn;refine⟨cs,hk,fun K' h=>by unfold G2;simp only[hn];exact h,fun h h2 e=>Be fun c hc=>Vc fun r hr=>e r (gj hc r hr)⟩
  ·exact hk.elim
 ·rename_i m9;split at hk
  ·rename_i h1;split at hk
   ·refine single hk fun K' h=>?_;unfold G2;split
    ·rename_i cs;exact absurd rfl (m9 cs)
    ·rw[h1];exact h
   ·exact hk.elim
  ·exact hk.elim

theorem Si{n sz:Nat}{t:Nat→AV}:∀{ps:List (Nat×Operand)} {es:List (List AV)} {h:Nat→HO} {K:List (List AV)→Prop},Qn n sz h es t ps K →
  ∃EA,K EA∧∀(t2:Nat→AV) (h2:Nat→HO),(∀r∈SF (ps.map fun p=>ev t p.2),h2 r=h r)→(∀p∈ps,ev t2 p.2=ev t p.2)→∀K' : List (List AV)→Prop,K' EA→Qn n sz h2 es t2 ps K'
 | [],es,h,K,hk=>⟨es,hk,fun _ _ _ _ _ h=>h⟩
 |(i,x)::r,es,h,K,hk=>by
  unfold Qn at hk;split at hk
  ·rename_i hb;obtain⟨cs,c1,c2,c3⟩:=Nq hk;obtain⟨EA,e1,e2⟩:=Si c1;refine⟨EA,e1,fun t2 h2 hh ht K' KN=>?_⟩;unfold Qn;rw[hb,ht (i,x) (Ab ..)];refine c2 _ ?_;rw[c3 h h2 (fun r hr=>hh r (Bs _ hr))];exact e2 t2 h2 (fun r hr=>hh r (Bo _ hr)) (fun p hp=>ht p (Ag _ hp)) K' KN
  ·exact hk.elim
theorem H5{d:Option Nat}{h:Nat→HO}{sz:Nat}{es:List (List AV)}(hk:Ep cx d h sz es K) :
  ∃d',d.map (Kq cx)=some d'∧∃v x,K v (AT h d' x)∧∀h2:Nat→HO,h2 d'=h d'→∀K' : HK,K' v (AT h2 d' x)→Ep cx d h2 sz es K':=by
 unfold Ep at hk;split at hk
 ·exact hk.elim
 ·rename_i d;split at hk
  ·rename_i hd;split at hk
   ·rename_i e;exact⟨Kq cx d,rfl,_,_,hk,fun h2 hh K' h'=>by unfold Ep;simp only[hh,hd,e];exact h'⟩
   ·rename_i e;exact⟨Kq cx d,rfl,_,_,hk,fun h2 hh K' h'=>by unfold Ep;simp only[hh,hd,e];exact h'⟩
  ·exact hk.elim
theorem YC{h:Nat→HO}{x:AV}{K:List (List AV)→Prop}(hk:K2 h x K):∃es,K es∧∀h2:Nat→HO,(∀r n,x=.msl r n→h2 r=h r)→∀K' : List (List AV)→Prop,K' es→K2 h2 x K':=by
 unfold K2 at hk;split at hk
 ·exact⟨_,hk,fun _ _ K' h=>h⟩
 ·exact⟨_,hk,fun _ _ K' h=>h⟩
 ·rename_i r n;split at hk
  ·rename_i sz es e;exact⟨_,hk.2,fun h2 hh K' h=>by unfold K2;simp only[hh r n rfl,e];exact⟨hk.1,h⟩⟩
  ·exact hk.elim
 ·exact hk.elim
end
end Go.Eng

namespace Go.Eng

section
variable {cx:Cx}{dst:Option Nat}{ty:Nat}{pos:String}{after:Array Edge}{gd:Option (Nat×Bool)}{st:St}{R:List Nat}{w:Option Nat}{K:HK}

theorem Ih{d:Option Nat}{l:List Nat}{f:FE}(h:Ig d l=some f):∃d',d=some d'∧f=(d' :: l,some d'):=by
 unfold Ig at h;cases d with
 |none=>cases h
 |some d=>cases h;exact⟨d,rfl,rfl⟩

theorem WZ{e:Nat}(hk:F1 cx true ⟨dst,.alloc e,ty,pos,after,gd⟩ st K)(hf:Fi cx ⟨dst,.alloc e,ty,pos,after,gd⟩ st=some (R,w)):D6 cx ⟨dst,.alloc e,ty,pos,after,gd⟩ st R w K:=by
 simp only[F1]at hk;obtain⟨d,rfl,e0⟩:=Ih hf;cases e0;unfold RK at hk;simp only at hk;split at hk
 ·rename_i hd;split at hk
  ·exact hk.elim
  ·rename_i Dn;split at hk
   ·rename_i ha;refine⟨_,some (d,_),hk,fun r o' e=>(by cases e;exact⟨rfl,Ab ..⟩),fun st2 Hj K' h'=>?_⟩;simp only[F1,RK];rw[Hj.h d (Ab ..),hd];simp only[ha];exact h'
   ·exact hk.elim
 ·exact hk.elim
theorem bD{e:Nat}{x:Operand}(hk:F1 cx true ⟨dst,.box e x,ty,pos,after,gd⟩ st K)(hf:Fi cx ⟨dst,.box e x,ty,pos,after,gd⟩ st=some (R,w)):D6 cx ⟨dst,.box e x,ty,pos,after,gd⟩ st R w K:=by
 simp only[F1]at hk;obtain⟨d,rfl,e0⟩:=Ih hf;cases e0;unfold bh at hk;simp only at hk;split at hk
 ·rename_i hd;split at hk
  ·exact hk.elim
  ·rename_i Dn;obtain⟨cs,c1,c2,c3⟩:=Nq hk;split at c1
   ·rename_i hm;refine⟨_,some (d,_),c1,fun r o' e=>(by cases e;exact⟨rfl,Ab ..⟩),fun st2 Hj K' h'=>?_⟩;have hx:ev st2.t x=ev st.t x:=Hj.t x (by simp[Op.operands]);simp only[F1,bh];rw[Hj.h d (Ab ..),hd,hx];simp only[hm];refine c2 _ ?_;rw[c3 st.h st2.h (fun r hr=>Hj.h r (Ag _ hr))];exact h'
   ·rename_i hm;refine⟨_,some (d,_),c1,fun r o' e=>(by cases e;exact⟨rfl,Ab ..⟩),fun st2 Hj K' h'=>?_⟩;have hx:ev st2.t x=ev st.t x:=Hj.t x (by simp[Op.operands]);simp only[F1,bh];rw[Hj.h d (Ab ..),hd,hx];simp only[hm];exact c2 _ h'
 ·exact hk.elim
theorem Po{t n:Nat}{ps:Array (Nat×Operand)}(hk:F1 cx true ⟨dst,.buildSlice t n ps,ty,pos,after,gd⟩ st K)(hf:Fi cx ⟨dst,.buildSlice t n ps,ty,pos,after,gd⟩ st=some (R,w)) :
  D6 cx ⟨dst,.buildSlice t n ps,ty,pos,after,gd⟩ st R w K:=by
 simp only[F1]at hk;obtain⟨d,bM,e0⟩:=Ih hf;cases e0;unfold If at hk;split at hk
 ·rename_i e he;split at hk
  ·rename_i h1 h2;split at hk
   ·exact hk.elim
   ·rename_i k Ew;split at hk
    ·rename_i hb;obtain⟨es,q1,q2⟩:=Si hk;obtain⟨d',hd,v,x,q3,q4⟩:=H5 q1;have hd:dst.map (Kq cx)=some d':=hd;have bM:dst.map (Kq cx)=some d:=bM;rw[bM]at hd;cases hd;refine⟨v,some (d,x),q3,fun r o' e=>(by cases e;exact⟨rfl,Ab ..⟩),fun st2 Hj K' h'=>?_⟩;have hx:∀p∈ps.toList,ev st2.t p.2=ev st.t p.2:=fun p hp=>Hj.t p.2 (by
      simp only[Op.operands,List.mem_toArray];exact Ao.2 ⟨p,hp,rfl⟩)
     simp only[F1,If,he,h1,h2];split
     ·rename_i e0;rw[Ew]at e0;cases e0
     ·rw[hb];exact q2 st2.t st2.h (fun r hr=>Hj.h r (Ag _ hr)) hx _ (q4 st2.h (Hj.h d (Ab ..)) K' h')
    ·exact hk.elim
  ·exact hk.elim
 ·exact hk.elim
theorem QS{t:Nat}{n c:Operand}(hk:F1 cx true ⟨dst,.makeSlice t n c,ty,pos,after,gd⟩ st K)(hf:Fi cx ⟨dst,.makeSlice t n c,ty,pos,after,gd⟩ st=some (R,w)) :
  D6 cx ⟨dst,.makeSlice t n c,ty,pos,after,gd⟩ st R w K:=by
 simp only[F1]at hk;obtain⟨d,bM,e0⟩:=Ih hf;cases e0;have hn:∀st2,IF ⟨dst,.makeSlice t n c,ty,pos,after,gd⟩ (d::[]) st st2→ev st2.t n=ev st.t n∧ev st2.t c=ev st.t c:=fun st2 ha=>⟨ha.t n (by simp[Op.operands]),ha.t c (by simp[Op.operands])⟩;unfold Jj at hk;split at hk
 ·rename_i e a b h1 h2 h3;split at hk
  ·rename_i h4;split at hk
   ·rename_i h5;split at hk
    ·exact hk.elim
    ·rename_i k Ew;obtain⟨d',hd,v,x,q3,q4⟩:=H5 hk.2;have hd:dst.map (Kq cx)=some d':=hd;have bM:dst.map (Kq cx)=some d:=bM;rw[bM]at hd;cases hd;refine⟨v,some (d,x),q3,fun r o' e=>(by cases e;exact⟨rfl,Ab ..⟩),fun st2 Hj K' h'=>?_⟩;simp only[F1,Jj,(hn st2 Hj).1,(hn st2 Hj).2,h1,h2,h3,h4,h5];split
     ·rename_i e0;rw[Ew]at e0;cases e0
     ·exact⟨hk.1,q4 st2.h (Hj.h d (Ab ..)) K' h'⟩
   ·exact hk.elim
  ·exact hk.elim
 ·exact hk.elim
theorem TW{t:Nat}{r:Option Operand}(hk:F1 cx true ⟨dst,.makeMap t r,ty,pos,after,gd⟩ st K)(hf:Fi cx ⟨dst,.makeMap t r,ty,pos,after,gd⟩ st=some (R,w)) :
  D6 cx ⟨dst,.makeMap t r,ty,pos,after,gd⟩ st R w K:=by
 cases r with
 |some r=>exact hk.elim
 |none =>
  simp only[F1]at hk;obtain⟨d,rfl,e0⟩:=Ih hf;cases e0;unfold KA at hk;simp only at hk;split at hk
  ·rename_i hd;split at hk
   ·rename_i h1;split at hk
    ·rename_i h2;split at hk
     ·rename_i h3;refine⟨_,some (d,_),hk,fun r o' e=>(by cases e;exact⟨rfl,Ab ..⟩),fun st2 Hj K' h'=>?_⟩;simp only[F1,KA];rw[Hj.h d (Ab ..),hd];simp only[h1,h2,h3];exact h'
     ·rename_i h3;refine⟨_,some (d,_),hk,fun r o' e=>(by cases e;exact⟨rfl,Ab ..⟩),fun st2 Hj K' h'=>?_⟩;simp only[F1,KA];rw[Hj.h d (Ab ..),hd];simp only[h1,h2,h3];exact h'
    ·exact hk.elim
   ·exact hk.elim
  ·exact hk.elim
theorem W0{t:Nat}{p x:Operand}(hk:F1 cx true ⟨dst,.store t p x,ty,pos,after,gd⟩ st K)(hf:Fi cx ⟨dst,.store t p x,ty,pos,after,gd⟩ st=some (R,w)) :
  D6 cx ⟨dst,.store t p x,ty,pos,after,gd⟩ st R w K:=by
 simp only[F1]at hk;have hn:∀st2,IF ⟨dst,.store t p x,ty,pos,after,gd⟩ R st st2→ev st2.t p=ev st.t p∧ev st2.t x=ev st.t x:=fun st2 ha=>⟨ha.t p (by simp[Op.operands]),ha.t x (by simp[Op.operands])⟩;unfold PT at hk;split at hk
 ·exact hk.elim
 ·rename_i Dn;obtain⟨cs,c1,c2,c3⟩:=Nq hk;simp only[Fi]at hf;split at hf
  ·rename_i r off hp;split at hf
   ·cases hf
   ·rename_i hm;cases hf;rw[hp]at c1;simp only at c1;split at c1
    ·rename_i F2 hr;obtain⟨HI,KN⟩:=c1;rw[hm]at KN;refine⟨_,some (r,_),KN,fun r o' e=>(by cases e;exact⟨rfl,Ab ..⟩),fun st2 Hj K' h'=>?_⟩;simp only[F1,PT,(hn st2 Hj).1,(hn st2 Hj).2];refine c2 _ ?_;rw[hp];simp only[Hj.h r (Ab ..),hr,hm];exact⟨HI,h'⟩
    ·exact c1.elim
  ·rename_i r n sz i off hp;cases hf;rw[hp]at c1;simp only at c1;split at c1
   ·rename_i GP es hr;split at c1
    ·rename_i hs;obtain⟨HI,cell,e1,e2,KN⟩:=c1;refine⟨_,some (r,_),KN,fun r o' e=>(by cases e;exact⟨rfl,Ab ..⟩),fun st2 Hj K' h'=>?_⟩;simp only[F1,PT,(hn st2 Hj).1,(hn st2 Hj).2];refine c2 _ ?_;rw[hp];simp only[Hj.h r (Ab ..),hr,hs];refine⟨HI,cell,e1,e2,?_⟩;rw[c3 st.h st2.h (fun r hr=>Hj.h r (Ag _ hr))];exact h'
    ·exact c1.elim
   ·exact c1.elim
  ·cases hf
theorem QT{t:Nat}{m k x:Operand}(hk:F1 cx true ⟨dst,.mapUpdate t m k x,ty,pos,after,gd⟩ st K)(hf:Fi cx ⟨dst,.mapUpdate t m k x,ty,pos,after,gd⟩ st=some (R,w)) :
  D6 cx ⟨dst,.mapUpdate t m k x,ty,pos,after,gd⟩ st R w K:=by
 simp only[F1]at hk;have hn:∀st2,IF ⟨dst,.mapUpdate t m k x,ty,pos,after,gd⟩ R st st2→ev st2.t m=ev st.t m∧ev st2.t k=ev st.t k∧ev st2.t x=ev st.t x:=fun st2 ha=>⟨ha.t m (by simp[Op.operands]),ha.t k (by simp[Op.operands]),ha.t x (by simp[Op.operands])⟩;simp only[Fi]at hf;split at hf
 ·rename_i r hm;cases hf;unfold G4 at hk;rw[hm]at hk;simp only at hk;split at hk
  ·rename_i sh B5 hr;unfold J3 at hk;split at hk
   ·rename_i kt e h1;split at hk
    ·rename_i sv h2;split at hk
     ·rename_i h3;split at hk
      ·rename_i kx h4;split at hk
       ·rename_i h5;refine⟨_,some (r,_),hk,fun r o' e=>(by cases e;exact⟨rfl,Ab ..⟩),fun st2 Hj K' h'=>?_⟩;obtain⟨n1,n2,n3⟩:=hn st2 Hj;simp only[F1,G4,n1,n2,n3,hm,Hj.h r (Ab ..),hr,J3,h1,h2,h3,h4,h5];rw[KL (h:=st.h) (h2:=st2.h) (fun r hr=>Hj.h r (Ag _ hr))];exact h'
       ·exact hk.elim
      ·exact hk.elim
     ·exact hk.elim
    ·exact hk.elim
   ·exact hk.elim
  ·rename_i sh B5 hr;unfold J3 at hk;split at hk
   ·rename_i kt e h1;split at hk
    ·rename_i sv h2;split at hk
     ·rename_i h3;split at hk
      ·rename_i kx h4;split at hk
       ·rename_i h5;refine⟨_,some (r,_),hk,fun r o' e=>(by cases e;exact⟨rfl,Ab ..⟩),fun st2 Hj K' h'=>?_⟩;obtain⟨n1,n2,n3⟩:=hn st2 Hj;simp only[F1,G4,n1,n2,n3,hm,Hj.h r (Ab ..),hr,J3,h1,h2,h3,h4,h5];exact h'
       ·exact hk.elim
      ·exact hk.elim
     ·exact hk.elim
    ·exact hk.elim
   ·exact hk.elim
  ·exact hk.elim
 ·cases hf
theorem ar{A B:(AV→Prop)→Prop}(ha:Gg A)(hb:Gg B):Gg fun K=>A K∨B K:=by
 intro K hk;rcases hk with hk | hk
 ·obtain⟨v,h1,h2⟩:=ha K hk;exact⟨v,h1,fun K' h=>.inl (h2 K' h)⟩
 ·obtain⟨v,h1,h2⟩:=hb K hk;exact⟨v,h1,fun K' h=>.inr (h2 K' h)⟩
theorem Su{fn:Fn}{first cap:Array Operand}(hk:F1 cx true ⟨dst,.makeFunc fn first cap,ty,pos,after,gd⟩ st K)(hf:Fi cx ⟨dst,.makeFunc fn first cap,ty,pos,after,gd⟩ st=some (R,w)) :
  D6 cx ⟨dst,.makeFunc fn first cap,ty,pos,after,gd⟩ st R w K:=by
 simp only[F1]at hk;simp only[Fi]at hf;cases hf;unfold Kz at hk;split at hk
 ·rename_i f h1;refine⟨_,none,hk,fun r o' e=>(by cases e),fun st2 Hj K' h'=>?_⟩;simp only[F1,h1,Kz]
  have:cap.toList.map (fun x=>rsv st2.h (ev st2.t x))=cap.toList.map (fun x=>rsv st.h (ev st.t x)):=Be fun x hx=>by
   rw[Hj.t x (by simp only[Op.operands,RB];exact .inr (by simpa using hx))];exact ii fun r hr=>Hj.h r (XF (Ao.2 ⟨x,hx,rfl⟩) r hr)
  rw[this];exact h'
 ·exact hk.elim
end
end Go.Eng
