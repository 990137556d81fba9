/- Lemmas for the claims of this seat, without a condition: part 10 (EngT, EngU, EngV, EngW). -/
import Derived.Test.YtddfphmpfnmknaaGreatDoorDA09
import Derived.Maps.RangeRun
namespace Go.Eng
open Go.ChangeMaps (setBlock)
theorem UN{w:World}{r:Nat}{o o' : Obj}(h:w.heap[r]?=some o):(setBlock w r o').heap[r]?=some o':=by
 have:=(Bw.1 h).1
 simp[setBlock,this]
theorem Uf{w:World}{r k:Nat}{o' : Obj}(h:k≠r):(setBlock w r o').heap[k]?=w.heap[k]?:=by
 simp[setBlock,Ne.symm h]
theorem NC(w:World)(r:Nat)(o' : Obj):(setBlock w r o').heap.size=w.heap.size:=by simp[setBlock]
theorem Pl{α β:Type}{f:α→β}{l:List α}(h:(l.map f).Nodup):l.Nodup:=by
 induction l with
 |nil=>exact Fp
 |cons c l ih =>
  rw[AP,CU]at h;exact CU.2 ⟨fun hc=>h.1 (Am.2 ⟨c,hc,rfl⟩),ih h.2⟩
theorem VD{α β:Type}{f:α→β}{l:List α}(h:(l.map f).Nodup){i j:Nat}{a b:α}(ha:l[i]?=some a)(hb:l[j]?=some b)(he:f a=f b):i=j:=by
 induction l generalizing i j with
 |nil=>simp at ha
 |cons c l ih =>
  rw[AP,CU]at h;cases i with
  |zero =>
   cases j with
   |zero=>rfl
   |succ j =>
    simp only[A8,Bo,Ez]at ha hb;exact absurd (Am.2 ⟨b,Av hb,by rw[←he,ha]⟩) h.1
  |succ i =>
   cases j with
   |zero =>
    simp only[A8,Bo,Ez]at ha hb;exact absurd (Am.2 ⟨a,Av ha,by rw[he,hb]⟩) h.1
   |succ j=>exact Ac (·+1) (ih h.2 ha hb)
open Classical in
theorem Qm{B2:List (Value×AV)}{k:Value}{a b:AV}(h:(k,b)∈B2):E7 B2 k a=B2.map fun p=>if p.1=k then(k,a)else p:=Ap ⟨b,h⟩
open Classical in
theorem KM{B2:List (Value×AV)}{k:Value}{a:AV}(h:∀b,(k,b)∉B2):E7 B2 k a=B2++[(k,a)]:=Aj (fun⟨b,e⟩=>h b e)
theorem VA{sh:ET}{es:Array MapEntry}{ck:Nat}{B2:List (Value×AV)}(f:AV→AV)(h:Hk sh es ck B2):Hk sh es ck (B2.map fun p=>(p.1,f p.2)):=by
 obtain⟨h1,h2,h3,h4,h5,h6⟩:=h;refine⟨by simp[h1],fun i kv e q1 q2=>?_,fun kv PL=>?_,?_,h5,h6⟩
 ·rw[AI]at q1;obtain⟨p,q3,rfl⟩:=AU.1 q1;exact h2 i p e q3 q2
 ·obtain⟨p,hp,rfl⟩:=Am.1 PL;exact h3 p hp
 ·rw[BQ];exact h4
theorem Pg{sh:ET}{es:Array MapEntry}{ck:Nat}{B2:List (Value×AV)}(h:Hk sh es ck B2){x:Value}{a v:AV}{y:Value}{j:Nat}(hj:B2[j]?=some (x,a)) :
  Hk sh (es.modify j fun e=>{ e with key:=x,val:=y }) ck (E7 B2 x v) ∧
   ∀(i:Nat) (kv:Value×AV) (e:MapEntry),(E7 B2 x v)[i]?=some kv→(es.modify j fun e=>{ e with key:=x,val:=y })[i]?=some e →
    (kv.2=v∧e.val=y)∨(B2[i]?=some kv∧es[i]?=some e):=by
 classical
 rw[Qm (Av hj)];obtain⟨h1,h2,h3,h4,h5,h6⟩:=h;have hm:∀i e,(es.modify j fun e=>{ e with key:=x,val:=y })[i]?=some e→∃e0,es[i]?=some e0∧e.born=e0.born∧(if i=j then e.key=x∧e.val=y else e=e0):=by
  intro i e he;rw[Array.getElem?_modify]at he;split at he
  ·rename_i e1;subst e1;obtain⟨e0,q1,q2⟩:=AU.1 he;exact⟨e0,q1,by rw[←q2],by rw[Ap rfl,←q2];exact⟨rfl,rfl⟩⟩
  ·rename_i e1;exact⟨e,he,rfl,by rw[Aj (fun q=>e1 q.symm)]⟩
 have hk:∀i kv,(B2.map fun p=>if p.1=x then(x,v)else p)[i]?=some kv→∃p,B2[i]?=some p∧kv.1=p.1∧(if i=j then kv.2=v else kv=p):=by
  intro i kv PL;rw[AI]at PL;obtain⟨p,q1,q2⟩:=AU.1 PL;refine⟨p,q1,?_⟩
  by_cases e:p.1=x
  ·rw[Ap e]at q2;subst q2
   have:=VD h4 q1 hj e
   exact⟨e.symm,by rw[Ap this]⟩
  ·rw[Aj e]at q2;subst q2;refine⟨rfl,?_⟩;rw[Aj];intro e2;subst e2;rw[q1]at hj;cases hj;exact e rfl
 have rR:(B2.map fun p=>if p.1=x then(x,v)else p).map (·.1)=B2.map (·.1):=by
  rw[BQ];apply Be;intro p _;simp only[Function.comp];split
  ·rename_i e;exact e.symm
  ·rfl
 refine⟨⟨by simp[h1],fun i kv e q1 q2=>?_,fun kv PL=>?_,by rw[rR];exact h4,fun i e q=>?_,fun i i' e e' q q' hb=>?_⟩,fun i kv e q1 q2=>?_⟩
 ·obtain⟨p,p1,p2,p3⟩:=hk i kv q1;obtain⟨e0,r1,r2,r3⟩:=hm i e q2
  have:=h2 i p e0 p1 r1
  split at r3
  ·rename_i ij;subst ij;rw[hj]at p1;cases p1;rw[r3.1,p2]
  ·rw[r3,p2];exact this
 ·obtain⟨i,hi⟩:=B9.1 PL;obtain⟨p,p1,p2,p3⟩:=hk i kv hi;rw[p2];exact h3 p (Av p1)
 ·obtain⟨e0,r1,r2,_⟩:=hm i e q;rw[r2];exact h5 i e0 r1
 ·obtain⟨e0,r1,r2,_⟩:=hm i e q;obtain⟨e1,s1,s2,_⟩:=hm i' e' q';exact h6 i i' e0 e1 r1 s1 (by rw[←r2,←s2];exact hb)
 ·obtain⟨p,p1,p2,p3⟩:=hk i kv q1;obtain⟨e0,r1,r2,r3⟩:=hm i e q2;split at r3
  ·rename_i ij;rw[Ap ij]at p3;exact .inl ⟨p3,r3.2⟩
  ·rename_i ij;rw[Aj ij]at p3;exact .inr ⟨by rw[p3];exact p1,by rw[r3];exact r1⟩
theorem TR{sh:ET}{es:Array MapEntry}{ck:Nat}{B2:List (Value×AV)}(h:Hk sh es ck B2){x:Value}{v:AV}{y:Value}(hx:VN sh x=true)(hn:∀a,(x,a)∉B2) :
  Hk sh (es.push { key:=x,val:=y,born:=ck }) (ck+1) (E7 B2 x v) ∧
   ∀(i:Nat) (kv:Value×AV) (e:MapEntry),(E7 B2 x v)[i]?=some kv→(es.push { key:=x,val:=y,born:=ck })[i]?=some e →
    (kv.2=v∧e.val=y)∨(B2[i]?=some kv∧es[i]?=some e):=by
 rw[KM hn];obtain⟨h1,h2,h3,h4,h5,h6⟩:=h;have hm:∀i e,(es.push { key:=x,val:=y,born:=ck })[i]?=some e→(es[i]?=some e∧i<es.size)∨(i=es.size∧e={ key:=x,val:=y,born:=ck }):=by
  intro i e he;rw[Array.getElem?_push]at he;split at he
  ·rename_i q;cases he;exact .inr ⟨q,rfl⟩
  ·exact .inl ⟨he,(Bw.1 he).1⟩
 have hk:∀i kv,(B2++[(x,v)])[i]?=some kv→(B2[i]?=some kv∧i<es.size)∨(i=es.size∧kv=(x,v)):=by
  intro i kv PL;rw[LU]at PL;split at PL
  ·rename_i q;exact .inl ⟨PL,by omega⟩
  ·rename_i q
   have:i-B2.length=0:=by
    have:=(As.1 PL).1
    simp at this;omega
   rw[this]at PL;simp at PL;exact .inr ⟨by omega,PL.symm⟩
 refine⟨⟨by simp[h1],fun i kv e q1 q2=>?_,fun kv PL=>?_,?_,fun i e q=>?_,fun i i' e e' q q' hb=>?_⟩,fun i kv e q1 q2=>?_⟩
 ·rcases hk i kv q1 with ⟨p1,p2⟩ | ⟨p1,p2⟩<;>rcases hm i e q2 with ⟨r1,r2⟩ | ⟨r1,r2⟩
  ·exact h2 i kv e p1 r1
  ·omega
  ·omega
  ·rw[p2,r2]
 ·rcases A1.1 PL with q | q
  ·exact h3 kv q
  ·rw[Aq.1 q];exact hx
 ·rw[Ay,GB];refine⟨h4,by simp,fun a ha b hb e=>?_⟩;simp only[AP,Fg,Aq]at hb;obtain⟨p,p1,p2⟩:=Am.1 ha;refine hn p.2 ?_
  have:p=(x,p.2):=by rw[←hb,←e,←p2]
  rw[←this];exact p1
 ·rcases hm i e q with ⟨r1,_⟩ | ⟨_,r2⟩
  ·have:=h5 i e r1;omega
  ·rw[r2];exact LL _
 ·rcases hm i e q with ⟨r1,_⟩ | ⟨r1,r2⟩<;>rcases hm i' e' q' with ⟨s1,_⟩ | ⟨s1,s2⟩
  ·exact h6 i i' e e' r1 s1 hb
  ·have:=h5 i e r1;rw[s2]at hb;dsimp only at hb;omega
  ·have:=h5 i' e' s1;rw[r2]at hb;dsimp only at hb;omega
  ·omega
 ·rcases hk i kv q1 with ⟨p1,p2⟩ | ⟨p1,p2⟩<;>rcases hm i e q2 with ⟨r1,r2⟩ | ⟨r1,r2⟩
  ·exact .inr ⟨p1,r1⟩
  ·omega
  ·omega
  ·exact .inl ⟨by rw[p2],by rw[r2]⟩
section
variable {P:Program}{w0:World}{g0:Gh}{h0 h:Nat→HO}{g:Gh}{w:World}(hI:DK w0 g0 h0 h g w)
include hI
theorem DK.swap{r b:Nat}(hl:(h r).live)(ho:g.own r=some b)(hn:∀o,¬g.S b o)(o' : HO){ob:Obj}(hb:w.heap[b]?=some ob)(bm : Obj)(w1:World)(K4:w1.heap=w.heap∧w1.os=w.os∧w1.tape=w.tape∧w1.output=w.output)(DF:o'≠.free)
  (Jx:Ke g (g.upd r (g.ρ r) (g.ln r) (g.tk r) (g.own r) g.S) (AT h)→EO g w (g.upd r (g.ρ r) (g.ln r) (g.tk r) (g.own r) g.S) (setBlock w1 b bm)→(setBlock w1 b bm).heap[b]?=some bm →
   (∀k,k≠b→(setBlock w1 b bm).heap[k]?=w.heap[k]?) →
   Ej (g.upd r (g.ρ r) (g.ln r) (g.tk r) (g.own r) g.S) (setBlock w1 b bm) (AT (A0 h r o')) r o') :
  DK w0 g0 h0 (A0 h r o') (g.upd r (g.ρ r) (g.ln r) (g.tk r) (g.own r) g.S) (setBlock w1 b bm)∧Le h g w (A0 h r o') (g.upd r (g.ρ r) (g.ln r) (g.tk r) (g.own r) g.S) (setBlock w1 b bm):=by
 have DB:=(hI.loc r b hl ho).1;have E6:(setBlock w1 b bm).heap[b]?=some bm:=UN (by rw[K4.1];exact hb);have ZI:∀k,k≠b→(setBlock w1 b bm).heap[k]?=w.heap[k]?:=fun k hk=>by rw[Uf hk,K4.1]
 refine hI.upd r o' _ _ _ _ _ _ (some b) ⟨K4.2.1,K4.2.2.1,K4.2.2.2,by rw[NC,K4.1];exact Al _⟩ (fun k _ DF=>ZI k (fun e=>DF (by rw[e]))) (fun b' e=>by cases e;exact⟨hl,ho⟩) (fun _ _ h=>h) (fun _ _ h=>.inl h)
  (fun b' o e hs=>by cases e;exact absurd hs (hn o)) (fun b' _ e=>?_) DF (fun _=>⟨rfl,Al _,fun _=>rfl,fun _=>rfl⟩) (fun hg hk=>Jx hg hk E6 ZI)
 rw[ho]at e;cases e;exact⟨by rw[NC,K4.1];exact DB,.inl ⟨hl,ho⟩⟩
theorem Nu{T:GK}(hT:Cz P T){ty:Nat}{m k x:AV}{vm vk vx:Value}{K:HK}(hm:BH g w (AT h) m vm)(Ki : BH g w (AT h) k vk)(hx:BH g w (AT h) x vx)(hk:Hf T h ty m k x K) :
  eH P w0 g0 h0 h g w (Instr.mapUpdate ty vm vk vx) K:=by
 unfold Hf at hk;split at hk
 ·rename_i r;split at hk
  ·rename_i sh B2 e0;obtain⟨kt,e,k1,k2,k3,k4⟩:=MQ Ki hk;have ho:=hI.objs r;rw[e0]at ho;obtain⟨t1,b,es,ck,a1,a2,a3,a4,a5,a6⟩:=ho;have hl:(h r).live:=by rw[e0];trivial
   cases hm with
   |mref _ _ b' hu ht hp =>
    rw[a2]at hp;cases hp;have gP:=hT.map k1;have Ft:=run_getObj_map (P:=P) w b es ck a3;have NT:∀o',(setObj b o').run P w=.ok () (setBlock w b o'):=fun o'=>by simp[setObj,Sem.run,a3,setBlock]
    have Mb:=fun bb=>Mx hT k2 w bb k3;obtain⟨res,r1,r2⟩:=Od hT k2 w k3 es.toList a4.shape;have jN:=BH.str hI.objs hx;rcases r2 with ⟨rfl,hn⟩ | ⟨j,en,rfl,hj,hkey⟩
    ·obtain⟨m1,m2⟩:=TR a4 (x:=vk) (v:=str h x) (y:=vx) k3 (fun a=>a4.none hn a);obtain⟨i1,i2⟩:=DK.swap hI hl a1 a6 (.map sh (E7 B2 vk (str h x))) a3 (.map (es.push { key:=vk,val:=vx,born:=ck }) (ck+1)) w ⟨rfl,rfl,rfl,rfl⟩ (by simp) (fun hg If E6 ZI=>by
      obtain⟨u1,u2,u3,u4⟩:=BD g r (g.ρ r) (g.ln r) (g.tk r) (g.own r) g.S;refine⟨u3.trans t1,b,_,_,u4.trans a1,u1.trans a2,E6,m1,fun i kv e q1 q2=>?_,a6⟩;rcases m2 i kv e q1 q2 with ⟨p1,p2⟩ | ⟨p1,p2⟩
      ·rw[p1,p2];exact jN.mono If (fun _ h=>h) (fun _ h=>h.elim)
      ·exact(a5 i kv e p1 p2).mono If (fun _ h=>h) (fun _ h=>h.elim))
     refine⟨_,_,_,?_,k4,i1,i2⟩;simp[Instr.mapUpdate,run_underlying gP,Ft,Mb,r1,NT]
    ·obtain⟨a,q1,q2⟩:=a4.some hj hkey;obtain⟨m1,m2⟩:=Pg a4 (x:=vk) (v:=str h x) (y:=vx) q1;obtain⟨i1,i2⟩:=DK.swap hI hl a1 a6 (.map sh (E7 B2 vk (str h x))) a3 (.map (es.modify j fun e=>{ e with key:=vk,val:=vx }) ck) w ⟨rfl,rfl,rfl,rfl⟩ (by simp) (fun hg If E6 ZI=>by
      obtain⟨u1,u2,u3,u4⟩:=BD g r (g.ρ r) (g.ln r) (g.tk r) (g.own r) g.S;refine⟨u3.trans t1,b,_,_,u4.trans a1,u1.trans a2,E6,m1,fun i kv e q1 q2=>?_,a6⟩;rcases m2 i kv e q1 q2 with ⟨p1,p2⟩ | ⟨p1,p2⟩
      ·rw[p1,p2];exact jN.mono If (fun _ h=>h) (fun _ h=>h.elim)
      ·exact(a5 i kv e p1 p2).mono If (fun _ h=>h) (fun _ h=>h.elim))
     refine⟨_,_,_,?_,k4,i1,i2⟩;have ox : es[j]?=some en:=by simpa using hj
     have Jy:=RA (P:=P) w k3;simp[Instr.mapUpdate,run_underlying gP,Ft,Mb,r1,NT,ox,hkey,Jy]
  ·rename_i sh B2 e0;obtain⟨kt,e,k1,k2,k3,k4⟩:=MQ Ki hk;have ho:=hI.objs r;rw[e0]at ho;obtain⟨t1,b,es,ck,a1,a2,a3,a4,a5,a6⟩:=ho;have hl:(h r).live:=by rw[e0];trivial
   cases hm with
   |mref _ _ b' hu ht hp =>
    rw[a2]at hp;cases hp;have gP:=hT.map k1;have Ft:=run_getObj_map (P:=P) w b es ck a3;have NT:∀o',(setObj b o').run P w=.ok () (setBlock w b o'):=fun o'=>by simp[setObj,Sem.run,a3,setBlock]
    have Mb:=fun bb=>Mx hT k2 w bb k3;obtain⟨res,r1,r2⟩:=Od hT k2 w k3 es.toList a4.shape;rcases r2 with ⟨rfl,hn⟩ | ⟨j,en,rfl,hj,hkey⟩
    ·obtain⟨m1,m2⟩:=TR a4 (x:=vk) (v:=x) (y:=vx) k3 (fun a=>a4.none hn a);obtain⟨i1,i2⟩:=DK.swap hI hl a1 a6 (.mapU sh (E7 B2 vk (x))) a3 (.map (es.push { key:=vk,val:=vx,born:=ck }) (ck+1)) w ⟨rfl,rfl,rfl,rfl⟩ (by simp) (fun hg If E6 ZI=>by
      obtain⟨u1,u2,u3,u4⟩:=BD g r (g.ρ r) (g.ln r) (g.tk r) (g.own r) g.S;have Kr:∀i,AT h i→AT (A0 h r (.mapU sh (E7 B2 vk x))) i:=fun i hi=>DS (by simp) i hi;refine⟨u3.trans t1,b,_,_,u4.trans a1,u1.trans a2,E6,m1,fun i kv e q1 q2=>?_,a6⟩;rcases m2 i kv e q1 q2 with ⟨p1,p2⟩ | ⟨p1,p2⟩
      ·rw[p1,p2];exact hx.mono If Kr hg
      ·exact(a5 i kv e p1 p2).mono If Kr hg)
     refine⟨_,_,_,?_,k4,i1,i2⟩;simp[Instr.mapUpdate,run_underlying gP,Ft,Mb,r1,NT]
    ·obtain⟨a,q1,q2⟩:=a4.some hj hkey;obtain⟨m1,m2⟩:=Pg a4 (x:=vk) (v:=x) (y:=vx) q1;obtain⟨i1,i2⟩:=DK.swap hI hl a1 a6 (.mapU sh (E7 B2 vk (x))) a3 (.map (es.modify j fun e=>{ e with key:=vk,val:=vx }) ck) w ⟨rfl,rfl,rfl,rfl⟩ (by simp) (fun hg If E6 ZI=>by
      obtain⟨u1,u2,u3,u4⟩:=BD g r (g.ρ r) (g.ln r) (g.tk r) (g.own r) g.S;have Kr:∀i,AT h i→AT (A0 h r (.mapU sh (E7 B2 vk x))) i:=fun i hi=>DS (by simp) i hi;refine⟨u3.trans t1,b,_,_,u4.trans a1,u1.trans a2,E6,m1,fun i kv e q1 q2=>?_,a6⟩;rcases m2 i kv e q1 q2 with ⟨p1,p2⟩ | ⟨p1,p2⟩
      ·rw[p1,p2];exact hx.mono If Kr hg
      ·exact(a5 i kv e p1 p2).mono If Kr hg)
     refine⟨_,_,_,?_,k4,i1,i2⟩;have ox : es[j]?=some en:=by simpa using hj
     have Jy:=RA (P:=P) w k3;simp[Instr.mapUpdate,run_underlying gP,Ft,Mb,r1,NT,ox,hkey,Jy]
  ·exact hk.elim
 ·exact hk.elim
theorem N7{d b:Nat}{es:Array MapEntry}{ck:Nat}{sh:ET}{B2:List (Value×AV)}(hd:h d=.free)(hS:g.S b 0)(hb:w.heap[b]?=some (.map es ck))(hm:Hk sh es ck B2)
  (hv:∀(i:Nat) (kv:Value×AV) (e:MapEntry),B2[i]?=some kv→es[i]?=some e→BH g w Fy kv.2 e.val) :
  ∃g',DK w0 g0 h0 (A0 h d (.iter B2 B2 none)) g' (w.alloc (.mapIter (some b) ck #[] ck))∧Le h g w (A0 h d (.iter B2 B2 none)) g' (w.alloc (.mapIter (some b) ck #[] ck)) ∧
   BH g' (w.alloc (.mapIter (some b) ck #[] ck)) (AT (A0 h d (.iter B2 B2 none))) (.ref d 0) (.pointer (some ⟨w.heap.size,0,none⟩)):=by
 obtain⟨k1,k2⟩:=hI.newOwn hd (.iter B2 B2 none) (.mapIter (some b) ck #[] ck) (.pointer (some ⟨w.heap.size,0,none⟩)) 0 false w ⟨rfl,rfl,rfl,rfl⟩ (by simp) (fun hg hk=>by
  obtain⟨u1,u2,u3,u4⟩:=BD g d (.pointer (some ⟨w.heap.size,0,none⟩)) 0 false (some w.heap.size) g.S;obtain⟨c1,c2,c3⟩:=hk b 0 hS
  exact⟨u3,w.heap.size,b,ck,#[],ck,es,ck,u4,u1,HR w _ rfl,c1,c3 es ck hb,⟨sh,hm⟩,rfl,rfl,fun i kv e q1 q2=>(hv i kv e q1 q2).mono hk (fun _ h=>h) (fun _ h=>h.elim),
   ⟨Pl hm.2.2.2.1,fun _ h=>h⟩,fun i kv e q1 q2=>by simp[List.mem_of_getElem? q1],trivial,fun o ho=>by have:=hI.slt _ _ ho;omega⟩)
 refine⟨_,k1,k2,.ref _ d 0 w.heap.size (by unfold AT;rw[Bd];simp) ?_ ?_⟩<;>simp[Gh.upd]
theorem Rs{r b:Nat}{sh:ET}{B2:List (Value×AV)}{es:Array MapEntry}{ck:Nat}(e0:h r=.map sh B2)(a1:g.own r=some b)(a2:g.ρ r=.map (some b))(a3:w.heap[b]?=some (.map es ck))(a4:Hk sh es ck B2)
  (a5:∀(i:Nat) (kv:Value×AV) (e:MapEntry),B2[i]?=some kv→es[i]?=some e→BH g w Fy kv.2 e.val) (t1:g.tk r=false) :
  ∃g',DK w0 g0 h0 (A0 h r (.rom sh B2)) g' w∧Le h g w (A0 h r (.rom sh B2)) g' w∧g'.S b 0:=by
 have hl:(h r).live:=by rw[e0];trivial
 have DB:=(hI.loc r b hl a1).1
 obtain⟨k1,k2⟩:=hI.upd r (.rom sh B2) (g.ρ r) (g.ln r) (g.tk r) none (g.more b 1) w none ⟨rfl,rfl,rfl,Al _⟩ (fun _ _ _=>rfl) (fun b e=>by cases e) (fun _ _ h=>.inl h)
  (fun b' o hs=>hs.elim .inl (fun hs=>.inr ⟨by rw[hs.1];exact DB,.inr ⟨hl,by rw[hs.1];exact a1⟩⟩)) (fun b o e=>by cases e) (fun b hh _=>by cases hh) (by simp)
  (fun _=>⟨rfl,Al _,fun _=>rfl,fun _=>rfl⟩) (fun hg hk=>by
   obtain⟨u1,u2,u3,u4⟩:=BD g r (g.ρ r) (g.ln r) (g.tk r) none (g.more b 1);exact⟨u3.trans t1,b,u1.trans a2,.cmap _ sh B2 b es ck (.inr ⟨rfl,UT⟩) a3 a4 (fun i kv e q1 q2=>(a5 i kv e q1 q2).mono hk (fun _ h=>h) (fun _ h=>h.elim))⟩)
 exact⟨_,k1,k2,.inr ⟨rfl,UT⟩⟩
theorem WX{r b:Nat}{sh:ET}{B2:List (Value×AV)}{es:Array MapEntry}{ck:Nat}(e0:h r=.mapU sh B2)(a1:g.own r=some b)(a2:g.ρ r=.map (some b))(a3:w.heap[b]?=some (.map es ck))(a4:Hk sh es ck B2)
  (a5:∀(i:Nat) (kv:Value×AV) (e:MapEntry),B2[i]?=some kv→es[i]?=some e→BH g w (AT h) kv.2 e.val) (t1:g.tk r=false) :
  ∃g',DK w0 g0 h0 (A0 h r (.rom sh (RQ h B2))) g' w∧Le h g w (A0 h r (.rom sh (RQ h B2))) g' w∧g'.S b 0:=by
 have hl:(h r).live:=by rw[e0];trivial
 have DB:=(hI.loc r b hl a1).1
 obtain⟨k1,k2⟩:=hI.upd r (.rom sh (RQ h B2)) (g.ρ r) (g.ln r) (g.tk r) none (g.more b 1) w none ⟨rfl,rfl,rfl,Al _⟩ (fun _ _ _=>rfl) (fun b e=>by cases e) (fun _ _ h=>.inl h)
  (fun b' o hs=>hs.elim .inl (fun hs=>.inr ⟨by rw[hs.1];exact DB,.inr ⟨hl,by rw[hs.1];exact a1⟩⟩)) (fun b o e=>by cases e) (fun b hh _=>by cases hh) (by simp)
  (fun _=>⟨rfl,Al _,fun _=>rfl,fun _=>rfl⟩) (fun hg hk=>by
   obtain⟨u1,u2,u3,u4⟩:=BD g r (g.ρ r) (g.ln r) (g.tk r) none (g.more b 1);refine⟨u3.trans t1,b,u1.trans a2,.cmap _ sh _ b es ck (.inr ⟨rfl,UT⟩) a3 (VA _ a4) (fun i kv e q1 q2=>?_)⟩;unfold RQ at q1;rw[AI]at q1;obtain⟨p,q3,rfl⟩:=AU.1 q1;exact((a5 i p e q3 q2).str hI.objs).mono hk (fun _ h=>h) (fun _ h=>h.elim))
 exact⟨_,k1,k2,.inr ⟨rfl,UT⟩⟩
theorem dG{T:GK}(hT:Cz P T){ty kt e:Nat}(ht:(T ty).d=.map kt e){d:Option Nat}{x:AV}{vx:Value}{K:HK}(hx:BH g w (AT h) x vx)(hk:ai d h x K) :
  On P w0 g0 h0 h g w (Instr.range ty vx) K:=by
 have hu:=hT.map ht;unfold ai at hk;split at hk
 ·exact hk.elim
 ·rename_i d;split at hk
  ·rename_i hd;have CP:∀b es ck,w.heap[b]?=some (.map es ck)→(Instr.range ty (.map (some b))).run P w=.ok (.pointer (some ⟨w.heap.size,0,none⟩)) (w.alloc (.mapIter (some b) ck #[] ck)):=fun b es ck hb=>by
    simp[Instr.range,run_underlying hu,run_getObj_map (P:=P) w b es ck hb]
   split at hk
   ·cases hx with
    |cmap _ _ _ b es ck hS hb hm hv =>
     obtain⟨g',k1,k2,k3⟩:=N7 hI hd hS hb hm hv;exact⟨_,_,_,_,_,CP _ _ _ hb,hk,k1,k2,k3⟩
   ·rename_i r;have ho:=hI.objs r;cases hx with
    |mref _ _ b gP ht' hp =>
     split at hk
     ·rename_i sh B2 e0;rw[e0]at ho;obtain⟨_,b',a1,a2⟩:=ho;rw[a1]at hp;cases hp;cases a2 with
      |cmap _ _ _ _ es ck hS hb hm hv =>
       obtain⟨g',k1,k2,k3⟩:=N7 hI hd hS hb hm hv;exact⟨_,_,_,_,_,CP _ _ _ hb,hk,k1,k2,k3⟩
     ·rename_i sh B2 e0;rw[e0]at ho;obtain⟨t1,b',es,ck,a1,a2,a3,a4,a5,a6⟩:=ho;rw[a2]at hp;cases hp;obtain⟨g1,i1,i2,i3⟩:=Rs hI e0 a1 a2 a3 a4 a5 t1;have DF:d≠r:=fun e=>by rw[e,e0]at hd;cases hd
      obtain⟨g',k1,k2,k3⟩:=N7 i1 (by rw[BZ _ _ _ _ DF];exact hd) i3 a3 a4 (fun i kv e q1 q2=>(a5 i kv e q1 q2).mono i2.keeps (fun _ h=>h) (fun _ h=>h.elim));exact⟨_,_,_,_,_,CP _ _ _ a3,hk,k1,i2.trans k2,k3⟩
     ·exact hk.elim
   ·exact hk.elim
  ·exact hk.elim
theorem iw{ty:TypeId}{x:AV}{vx:Value}{K:HK}(hx:BH g w (AT h) x vx)(hk:iv h x K):On P w0 g0 h0 h g w (Instr.next vx false ty) K:=by
 unfold iv at hk;split at hk
 ·rename_i r;split at hk
  ·rename_i all rem FN e0;have ho:=hI.objs r;rw[e0]at ho;obtain⟨t1,b,mb,Kb,seen,st,es,ck,a1,a2,a3,a4,a5,⟨sh,a6⟩,a7,a8,a9,Xq,az,a12,ne⟩:=ho;have hl:(h r).live:=by rw[e0];trivial
   cases hx with
   |ref _ _ _ b' hu ht hp =>
    rw[a2]at hp;cases hp;have DB:∀e∈es.toList,e.born<Kb:=fun e he=>by
     obtain⟨i,hi⟩:=B9.1 he
     have:=a6.2.2.2.2.1 i e (by simpa using hi)
     omega
    rcases run_next_at (P:=P) w ty b mb Kb st seen es ck a3 a5 DB (by omega)with ⟨q1,q2⟩ | ⟨e,q1,w1,q2,q3⟩
    ·have xn:rem=[]:=by
      apply LJ.2;intro kv PL;obtain⟨i,hi⟩:=B9.1 (Xq.2 kv PL);have p6:i<es.size:=by rw[a6.1];exact(As.1 hi).1
      have hb:=(az i kv es[i] hi (by simp[p6])).1 PL;have hm:es[i]∈leftOf es seen:=by simp[leftOf,hb]
      have:=Array.size_pos_of_mem hm
      omega
     exact⟨_,w,g,_,h,q2,hk.1 xn,hI,.refl _ _ _,.tup _ _ _ rfl (fun i av x h1 h2=>by
      match i,h1,h2 with
      |0,h1,h2=>simp at h1 h2;subst h1;subst h2;exact .v _ _)⟩
    ·have hq:e∈es∧e.born∉seen:=by simpa[leftOf]using q1
     obtain⟨i,hi⟩:=Array.mem_iff_getElem?.1 hq.1;have p6:i<all.length:=by rw[←a6.1];exact(Bw.1 hi).1
     have pS:all[i]?=some all[i]:=Ax p6;have Y3:=(az i _ e pS hi).2 hq.2;obtain⟨s1,s2,hs⟩:=List.append_of_mem Y3;have I3:rem.Perm (all[i]::(s1++s2)):=by rw[hs];exact List.perm_middle
     have RK:(all[i]::(s1++s2)).Nodup:=I3.nodup_iff.1 Xq.1;have hr:=a9 i _ e pS hi;have hkey:=a6.2.1 i _ e pS hi;have K4:w1.heap=w.heap∧w1.os=w.os∧w1.tape=w.tape∧w1.output=w.output:=by rcases q2 with rfl | rfl<;>exact⟨rfl,rfl,rfl,rfl⟩
     obtain⟨k1,k2⟩:=DK.swap hI hl a1 ne (.iter all (s1++s2) (some all[i])) a3 (.mapIter (some mb) Kb (seen.push e.born) ck) w1 K4 (by simp) (fun hg If E6 ZI=>by
      obtain⟨u1,u2,u3,u4⟩:=BD g r (g.ρ r) (g.ln r) (g.tk r) (g.own r) g.S;obtain⟨c1,c2,c3⟩:=If mb 0 a4
      refine⟨u3.trans t1,b,mb,Kb,_,ck,es,ck,u4.trans a1,u1.trans a2,E6,c1,c3 _ _ a5,⟨sh,a6⟩,a7,rfl,fun i kv e p q=>(a9 i kv e p q).mono If (fun _ h=>h) (fun _ h=>h.elim),
       ⟨(CU.1 RK).2,fun kv PL=>Xq.2 kv (I3.mem_iff.2 (Ai _ PL))⟩,fun j kv e' p q=>?_,⟨i,e,pS,hi,by simp⟩,ne⟩
      rw[Array.mem_push];have h1:=az j kv e' p q;rw[I3.mem_iff,AA]at h1;constructor
      ·intro PL hc;rcases hc with hc | hc
       ·exact(h1.1 (.inr PL)) hc
       ·obtain rfl:=a6.2.2.2.2.2 j i e' e q hi hc;rw[pS]at p;cases p;exact(CU.1 RK).1 PL
      ·intro hc;rcases h1.2 (fun hm=>hc (.inl hm))with e2 | e2
       ·have:j=i:=VD (f:=fun x=>x) (l:=all) (by simpa using Pl a6.2.2.2.1) p pS e2
        subst this;rw[hi]at q;cases q;exact absurd (.inr rfl) hc
       ·exact e2)
     refine⟨_,_,_,_,_,q3,hk.2 all[i] (s1++s2) I3,k1,k2,.tup _ _ _ rfl (fun j av x h1 h2=>?_)⟩
     match j,h1,h2 with
     |0,h1,h2=>simp at h1 h2;subst h1;subst h2;exact .v _ _
     |1,h1,h2=>simp at h1 h2;subst h1;subst h2;rw[hkey];exact .v _ _
     |2,h1,h2=>simp at h1 h2;subst h1;subst h2;exact(hr.up _).le k2
  ·exact hk.elim
 ·exact hk.elim
end
end Go.Eng
namespace Go.Eng
def Gl(F:(AV→Prop)→Prop):Prop:=∀K,F K→∃v,K v∧∀K',K' v→F K'
theorem C3(v:AV):Gl (fun K=>K v):=fun _ h=>⟨v,h,fun _ h=>h⟩
theorem Dw{p:Prop}{F:(AV→Prop)→Prop}(h:Gl F):Gl (fun K=>p∧F K):=fun K ⟨hp,hk⟩ =>
 let ⟨v,h1,h2⟩:=h K hk
 ⟨v,h1,fun K' h'=>⟨hp,h2 K' h'⟩⟩
theorem CD:Gl (fun _=>False):=fun _ h=>h.elim
theorem VH(p:Prop):Gl (I1 p):=fun K h=>by
 by_cases hp:p
 ·exact⟨_,h.1 hp,fun K' h'=>⟨fun _=>h',fun hn=>absurd hp hn⟩⟩
 ·exact⟨_,h.2 hp,fun K' h'=>⟨fun q=>absurd q hp,fun _=>h'⟩⟩
theorem YQ{F:(AV→Prop)→Prop}(h:Gl F):Gl (fun K=>F (di K)):=fun K hk=>by
 obtain⟨v,h1,h2⟩:=h _ hk;unfold di at h1;split at h1
 ·exact⟨_,h1,fun K' h'=>h2 _ h'⟩
 ·exact⟨_,h1,fun K' h'=>h2 _ h'⟩
 ·exact h1.elim
theorem M1{α:Type}{F:α→(AV→Prop)→Prop}(h:∀x,Gl (F x)):Gl (fun K=>∃x,F x K):=fun K ⟨x,hk⟩ =>
 let ⟨v,h1,h2⟩:=h x K hk
 ⟨v,h1,fun K' h'=>⟨x,h2 K' h'⟩⟩
theorem It(T:GK)(t:Nat)(cs:List AV):Gl (LG T t cs):=by
 have head:Gl (Mc cs):=by unfold Mc;cases cs with | nil=>exact CD | cons a _=>exact C3 a
 unfold LG;split
 ·exact Dw (C3 _)
 ·exact Dw (C3 _)
 ·cases cs with
  |nil=>exact CD
  |cons a _ =>
   intro K h;simp only[Mc]at h⊢;split at h
   ·rename_i b;cases b with
    |true=>exact⟨_,h.1 rfl,fun K' h'=>⟨fun _=>h',fun e=>by cases e⟩⟩
    |false=>exact⟨_,h.2 rfl,fun K' h'=>⟨fun e=>(by cases e),fun _=>h'⟩⟩
   ·exact h.elim
 ·exact CD
 ·exact head
theorem bp(T:GK)(t:Nat)(x y:AV)(hx:∀tk es,x≠.slice tk es):Gl (pP T t x y):=by
 unfold pP
 repeat' split
 all_goals first | exact CD | exact C3 _ | exact VH _ | exact Dw (C3 _) | exact absurd rfl (hx _ _)
theorem T6(op:BinOp)(k:IntKind)(a b:Int):Gl (Ug op k a b):=by
 unfold Ug;split<;>first | exact CD | exact Dw (C3 _)
theorem ac(op:BinOp)(k:IntKind)(a b:Int):Gl (SB op k a b):=by
 unfold SB
 repeat' split
 all_goals first | exact CD | exact Dw (C3 _) | (unfold Wp;split<;>first | exact C3 _ | exact Dw (C3 _) | exact T6 _ _ _ _)
theorem iO(T:GK)(op:BinOp)(t:Nat)(x y:AV)(hx:∀tk es,x≠.slice tk es):Gl (SE T op t x y):=by
 unfold SE
 repeat' split
 all_goals first | exact CD | exact VH _ | exact ac _ _ _ _ | exact T6 _ _ _ _ | exact Dw (C3 _) | exact bp _ _ _ _ hx | exact YQ (bp _ _ _ _ hx)
theorem dB(T:GK)(op:BinOp)(t:Nat)(Y:Operand)(x y:AV)(hx:∀tk es,x≠.slice tk es):Gl (Xx T op t Y x y):=by
 unfold Xx
 repeat' split
 all_goals first | exact CD | exact C3 _ | exact iO _ _ _ _ _ hx
theorem dC(T:GK)(s t:Nat)(x:AV):Gl (XE T s t x):=by
 unfold XE
 repeat' split
 all_goals first | exact CD | exact C3 _ | exact Dw (C3 _) | exact M1 fun _=>Dw (C3 _)
theorem af(T:GK)(s f:Nat)(x:AV):Gl (S8 T s f x):=by
 unfold S8
 repeat' split
 all_goals first | exact CD | exact C3 _
theorem YO(T:GK)(s f:Nat)(x:AV):Gl (OO T s f x):=by
 unfold OO
 repeat' split
 all_goals first | exact CD | exact It _ _ _
theorem T5(T:GK)(t:Nat)(x ix:AV):Gl (JA T t x ix):=by
 unfold JA
 repeat' split
 all_goals first | exact CD | exact Dw (C3 _) | exact M1 fun _=>Dw (Dw (C3 _))
theorem ah(T:GK)(t:Nat)(x ix:AV):Gl (TA T t x ix):=by
 unfold TA
 repeat' split
 all_goals first | exact CD | exact Dw (It _ _ _) | exact M1 fun _=>Dw (C3 _)
theorem W2(x:AV)(i:Nat):Gl (L3 x i):=by
 unfold L3
 repeat' split
 all_goals first | exact CD | exact C3 _
theorem iQ(x:AV):Gl (KO x):=by
 unfold KO
 repeat' split
 all_goals first | exact CD | exact C3 _
theorem dD(c a b:AV):Gl (YM c a b):=by
 unfold YM
 repeat' split
 all_goals first | exact CD | exact C3 _
theorem lJ(f:Int→Int→Int)(x y:AV):Gl (lm f x y):=by
 unfold lm
 repeat' split
 all_goals first | exact CD | exact C3 _
theorem dE(op:UnOp)(x:AV):Gl (YY op x):=by
 unfold YY
 repeat' split
 all_goals first | exact CD | exact C3 _ | exact YQ (C3 _) | exact Dw (C3 _)
def mg{α:Type}(F:(α→Prop)→Prop):Prop:=∀K,F K→∃v,K v∧∀K',K' v→F K'
theorem YN(n:Nat)(a:AV):mg (Hc n a):=by
 intro K h;unfold Hc at h⊢
 repeat' split at h
 all_goals first | exact h.elim | skip
 all_goals exact⟨_,h,fun K' h'=>h'⟩
theorem T3(pl:Nat→Option (Nat×Nat))(t:Nat→AV):∀(ps:List (Nat×Operand)) (cs:List AV),mg (KG pl cs t ps)
 | [],cs=>fun K h=>⟨cs,h,fun _ h=>h⟩
 |(i,x)::r,cs=>by
  intro K h;unfold KG at h;split at h
  ·exact h.elim
  ·rename_i o n e;obtain⟨vs,h1,h2⟩:=YN _ _ _ h;split at h1
   ·rename_i hb;obtain⟨c,h3,h4⟩:=T3 pl t r _ _ h1;refine⟨c,h3,fun K' h'=>?_⟩;unfold KG;simp only[e];refine h2 _ ?_;simp only[hb];exact h4 K' h'
   ·exact h1.elim
theorem ae(T:GK)(ty:Nat)(t:Nat→AV)(ps:List (Nat×Operand)):Gl (PR T ty t ps):=by
 unfold PR
 repeat' split
 all_goals first
  |exact CD
  |exact fun K h=>let ⟨c,h1,h2⟩:=T3 _ _ _ _ _ h;⟨_,h1,fun K' h'=>h2 _ h'⟩
def zj(h:Nat→HO)(e:Option (Nat×HO)):Nat→HO:=match e with | none=>h | some (r,o)=>A0 h r o
structure IY(o:Oper)(R:List Nat)(st st2:St):Prop where
 t:∀x∈o.op.operands,ev st2.t x=ev st.t x
 h:∀r∈R,st2.h r=st.h r
def En(cx:Cx)(o:Oper)(st:St)(R:List Nat)(w:Option Nat)(K:HK):Prop :=
 ∃v e,K v (zj st.h e)∧(∀r o',e=some (r,o')→w=some r∧r∈R)∧∀st2,IY o R st st2→∀K' : HK,K' v (zj st2.h e)→F2 cx true o st2 K'
def Sq(w:Option Nat)(r:Nat):Prop:=match w with | none=>False | some x=>x=r∨(10000000≤x∧(x % 10000000=r∨x / 10000000=r))∨x=Wn
def In(h:Nat→HO):List (Nat×HO)→Nat→HO
 | []=>h
 |p::l=>In (A0 h p.1 p.2) l
def RT(cx:Cx)(o:Oper)(st:St)(R:List Nat)(w:Option Nat)(K:HK):Prop :=
 ∃v e,K v (In st.h e)∧(∀r o',(r,o')∈e→Sq w r∧r∈R)∧∀st2,IY o R st st2→∀K' : HK,K' v (In st2.h e)→F2 cx true o st2 K'
section
variable {cx:Cx}{o:Oper}{st:St}{R:List Nat}{w:Option Nat}{K:HK}
theorem En.pick{F:(AV→Prop)→Prop}(hF:Gl F)(h:F fun v=>K v st.h)(h2:∀st2,IY o R st st2→∀K' : HK,F (fun v=>K' v st2.h)→F2 cx true o st2 K'):En cx o st R w K :=
 let ⟨v,h1,h3⟩:=hF _ h
 ⟨v,none,h1,fun _ _ e=>(by cases e),fun st2 ha K' hk=>h2 st2 ha K' (h3 _ hk)⟩
theorem Yw{cs:List AV}{a:AV}(h:a∈cs):∀r∈UG a,r∈kW cs:=by
 induction cs with
 |nil=>cases h
 |cons c cs ih =>
  intro r hr;rcases AA.1 h with rfl | h
  ·exact Bn _ hr
  ·exact Bg _ (ih h r hr)
theorem ik{cs:List AV}{a:AV}(h:a∈cs):∀r∈UH a,r∈oP cs:=by
 induction cs with
 |nil=>cases h
 |cons c cs ih =>
  intro r hr;rcases AA.1 h with rfl | h
  ·exact Bn _ hr
  ·exact Bg _ (ih h r hr)
theorem Yv{cs:List AV}{a:AV}(h:a∈cs):∀r∈Xm a,r∈Tx cs:=by
 induction cs with
 |nil=>cases h
 |cons c cs ih =>
  intro r hr;rcases AA.1 h with rfl | h
  ·exact Bn _ hr
  ·exact Bg _ (ih h r hr)
theorem Vn(a:AV):∀r∈UG a,r∈UH a:=by cases a<;>simp[UG,UH]
theorem QG{h h2:Nat→HO}{a:AV}(e:∀r∈UG a,h2 r=h r):str0 h2 a=str0 h a:=by
 cases a<;>simp only[str0]
 ·rw[e _ (by simp[UG])]
 ·rw[e _ (by simp[UG])]
theorem VU{h h2:Nat→HO}{a:AV}(e:∀r∈UH a,h2 r=h r):str h2 a=str h a:=by
 cases a with
 |agg cs=>simp only[str];exact Ac _ (Be fun c hc=>QG fun r hr=>e r (Yw hc r hr))
 |clo f cs=>simp only[str];exact Ac _ (Be fun c hc=>QG fun r hr=>e r (Yw hc r hr))
 |_=>exact QG (fun r hr=>e r (Vn _ r hr))
theorem gS(a:AV):∀r∈UH a,r∈Xm a:=by
 cases a with
 |agg cs =>
  intro r hr;simp only[Xm,UH]at *
  induction cs with
  |nil=>exact hr
  |cons c cs ih =>
   rcases A1.1 hr with h | h
   ·exact Bn _ (Vn c r h)
   ·exact Bg _ (ih h)
 |_=>exact fun r hr=>hr
theorem KZ{h h2:Nat→HO}{a:AV}(e:∀r∈Xm a,h2 r=h r):str h2 a=str h a:=VU fun r hr=>e r (gS a r hr)
theorem QH{h h2:Nat→HO}{l:List AV}(e:∀r∈Tx l,h2 r=h r):l.map (str h2)=l.map (str h) :=
 Be fun _ ha=>KZ fun r hr=>e r (Yv ha r hr)
theorem jb{h h2:Nat→HO}{a:AV}(e:∀r∈Xm a,h2 r=h r):rsv h2 a=rsv h a:=by
 cases a<;>simp only[rsv]
 ·rw[e _ (by simp[Xm,UH,UG])]
 ·rw[e _ (by simp[Xm,UH,UG])]
theorem NK{n:Nat}{a:AV}{K:List AV→Prop}(hk:Hc n a K):∃cs,K cs∧(∀K' : List AV→Prop,K' cs→Hc n a K')∧∀h h2:Nat→HO,(∀r∈Xm a,h2 r=h r)→cs.map (str h2)=cs.map (str h):=by
 have single:K [a]→(∀K' : List AV→Prop,K' [a]→Hc n a K')→∃cs,K cs∧(∀K' : List AV→Prop,K' cs→Hc n a K')∧∀h h2:Nat→HO,(∀r∈Xm a,h2 r=h r)→cs.map (str h2)=cs.map (str h) :=
  fun h1 h2=>⟨[a],h1,h2,fun h h2 e=>by simp[KZ e]⟩
 unfold Hc at hk;split at hk
 ·rename_i cs;split at hk
  ·rename_i hn;refine⟨cs,hk,fun K' h=>by unfold Hc;simp only[hn];exact h,fun h h2 e=>Be fun c hc=>VU fun r hr=>e r (ik hc r hr)⟩
  ·exact hk.elim
 ·rename_i oA;split at hk
  ·rename_i h1;split at hk
   ·refine single hk fun K' h=>?_;unfold Hc;split
    ·rename_i cs;exact absurd rfl (oA cs)
    ·rw[h1];exact h
   ·exact hk.elim
  ·exact hk.elim
theorem Ta{n sz:Nat}{t:Nat→AV}:∀{ps:List (Nat×Operand)} {es:List (List AV)} {h:Nat→HO} {K:List (List AV)→Prop},Ra n sz h es t ps K →
  ∃FO,K FO∧∀(t2:Nat→AV) (h2:Nat→HO),(∀r∈Tx (ps.map fun p=>ev t p.2),h2 r=h r)→(∀p∈ps,ev t2 p.2=ev t p.2)→∀K' : List (List AV)→Prop,K' FO→Ra n sz h2 es t2 ps K'
 | [],es,h,K,hk=>⟨es,hk,fun _ _ _ _ _ h=>h⟩
 |(i,x)::r,es,h,K,hk=>by
  unfold Ra at hk;split at hk
  ·rename_i hb;obtain⟨cs,c1,c2,c3⟩:=NK hk;obtain⟨FO,e1,e2⟩:=Ta c1;refine⟨FO,e1,fun t2 h2 hh ht K' Ki=>?_⟩;unfold Ra;rw[hb,ht (i,x) (Ab ..)];refine c2 _ ?_;rw[c3 h h2 (fun r hr=>hh r (Bn _ hr))];exact e2 t2 h2 (fun r hr=>hh r (Bg _ hr)) (fun p hp=>ht p (Ai _ hp)) K' Ki
  ·exact hk.elim
theorem Ix{d:Option Nat}{h:Nat→HO}{sz:Nat}{es:List (List AV)}(hk:EJ cx d h sz es K) :
  ∃d',d.map (KE cx)=some d'∧∃v x,K v (A0 h d' x)∧∀h2:Nat→HO,h2 d'=h d'→∀K' : HK,K' v (A0 h2 d' x)→EJ cx d h2 sz es K':=by
 unfold EJ at hk;split at hk
 ·exact hk.elim
 ·rename_i d;split at hk
  ·rename_i hd;split at hk
   ·rename_i e;exact⟨KE cx d,rfl,_,_,hk,fun h2 hh K' h'=>by unfold EJ;simp only[hh,hd,e];exact h'⟩
   ·rename_i e;exact⟨KE cx d,rfl,_,_,hk,fun h2 hh K' h'=>by unfold EJ;simp only[hh,hd,e];exact h'⟩
  ·exact hk.elim
theorem Zs{h:Nat→HO}{x:AV}{K:List (List AV)→Prop}(hk:Lh h x K):∃es,K es∧∀h2:Nat→HO,(∀r n,x=.msl r n→h2 r=h r)→∀K' : List (List AV)→Prop,K' es→Lh h2 x K':=by
 unfold Lh at hk;split at hk
 ·exact⟨_,hk,fun _ _ K' h=>h⟩
 ·exact⟨_,hk,fun _ _ K' h=>h⟩
 ·rename_i r n;split at hk
  ·rename_i sz es e;exact⟨_,hk.2,fun h2 hh K' h=>by unfold Lh;simp only[hh r n rfl,e];exact⟨hk.1,h⟩⟩
  ·exact hk.elim
 ·exact hk.elim
end
section
variable {cx:Cx}{dst:Option Nat}{ty:Nat}{pos:String}{after:Array Edge}{gd:Option (Nat×Bool)}{st:St}{R:List Nat}{w:Option Nat}{K:HK}
theorem IG{d:Option Nat}{l:List Nat}{f:FH}(h:IF d l=some f):∃d',d=some d'∧f=(d' :: l,some d'):=by
 unfold IF at h;cases d with
 |none=>cases h
 |some d=>cases h;exact⟨d,rfl,rfl⟩
theorem XX{e:Nat}(hk:F2 cx true ⟨dst,.alloc e,ty,pos,after,gd⟩ st K)(hf:Fs cx ⟨dst,.alloc e,ty,pos,after,gd⟩ st=some (R,w)):En cx ⟨dst,.alloc e,ty,pos,after,gd⟩ st R w K:=by
 simp only[F2]at hk;obtain⟨d,rfl,e0⟩:=IG hf;cases e0;unfold Sz at hk;simp only at hk;split at hk
 ·rename_i hd;split at hk
  ·exact hk.elim
  ·rename_i DF;split at hk
   ·rename_i ha;refine⟨_,some (d,_),hk,fun r o' e=>(by cases e;exact⟨rfl,Ab ..⟩),fun st2 G9 K' h'=>?_⟩;simp only[F2,Sz];rw[G9.h d (Ab ..),hd];simp only[ha];exact h'
   ·exact hk.elim
 ·exact hk.elim
theorem ct{e:Nat}{x:Operand}(hk:F2 cx true ⟨dst,.box e x,ty,pos,after,gd⟩ st K)(hf:Fs cx ⟨dst,.box e x,ty,pos,after,gd⟩ st=some (R,w)):En cx ⟨dst,.box e x,ty,pos,after,gd⟩ st R w K:=by
 simp only[F2]at hk;obtain⟨d,rfl,e0⟩:=IG hf;cases e0;unfold bW at hk;simp only at hk;split at hk
 ·rename_i hd;split at hk
  ·exact hk.elim
  ·rename_i DF;obtain⟨cs,c1,c2,c3⟩:=NK hk;split at c1
   ·rename_i hm;refine⟨_,some (d,_),c1,fun r o' e=>(by cases e;exact⟨rfl,Ab ..⟩),fun st2 G9 K' h'=>?_⟩;have hx:ev st2.t x=ev st.t x:=G9.t x (by simp[Op.operands]);simp only[F2,bW];rw[G9.h d (Ab ..),hd,hx];simp only[hm];refine c2 _ ?_;rw[c3 st.h st2.h (fun r hr=>G9.h r (Ai _ hr))];exact h'
   ·rename_i hm;refine⟨_,some (d,_),c1,fun r o' e=>(by cases e;exact⟨rfl,Ab ..⟩),fun st2 G9 K' h'=>?_⟩;have hx:ev st2.t x=ev st.t x:=G9.t x (by simp[Op.operands]);simp only[F2,bW];rw[G9.h d (Ab ..),hd,hx];simp only[hm];exact c2 _ h'
 ·exact hk.elim
theorem PZ{t n:Nat}{ps:Array (Nat×Operand)}(hk:F2 cx true ⟨dst,.buildSlice t n ps,ty,pos,after,gd⟩ st K)(hf:Fs cx ⟨dst,.buildSlice t n ps,ty,pos,after,gd⟩ st=some (R,w)) :
  En cx ⟨dst,.buildSlice t n ps,ty,pos,after,gd⟩ st R w K:=by
 simp only[F2]at hk;obtain⟨d,cC,e0⟩:=IG hf;cases e0;unfold ID at hk;split at hk
 ·rename_i e he;split at hk
  ·rename_i h1 h2;split at hk
   ·exact hk.elim
   ·rename_i k Eh;split at hk
    ·rename_i hb;obtain⟨es,q1,q2⟩:=Ta hk;obtain⟨d',hd,v,x,q3,q4⟩:=Ix q1;have hd:dst.map (KE cx)=some d':=hd;have cC:dst.map (KE cx)=some d:=cC;rw[cC]at hd;cases hd;refine⟨v,some (d,x),q3,fun r o' e=>(by cases e;exact⟨rfl,Ab ..⟩),fun st2 G9 K' h'=>?_⟩;have hx:∀p∈ps.toList,ev st2.t p.2=ev st.t p.2:=fun p hp=>G9.t p.2 (by
      simp only[Op.operands,List.mem_toArray];exact Am.2 ⟨p,hp,rfl⟩)
     simp only[F2,ID,he,h1,h2];split
     ·rename_i e0;rw[Eh]at e0;cases e0
     ·rw[hb];exact q2 st2.t st2.h (fun r hr=>G9.h r (Ai _ hr)) hx _ (q4 st2.h (G9.h d (Ab ..)) K' h')
    ·exact hk.elim
  ·exact hk.elim
 ·exact hk.elim
theorem RG{t:Nat}{n c:Operand}(hk:F2 cx true ⟨dst,.makeSlice t n c,ty,pos,after,gd⟩ st K)(hf:Fs cx ⟨dst,.makeSlice t n c,ty,pos,after,gd⟩ st=some (R,w)) :
  En cx ⟨dst,.makeSlice t n c,ty,pos,after,gd⟩ st R w K:=by
 simp only[F2]at hk;obtain⟨d,cC,e0⟩:=IG hf;cases e0;have hn:∀st2,IY ⟨dst,.makeSlice t n c,ty,pos,after,gd⟩ (d::[]) st st2→ev st2.t n=ev st.t n∧ev st2.t c=ev st.t c:=fun st2 ha=>⟨ha.t n (by simp[Op.operands]),ha.t c (by simp[Op.operands])⟩;unfold JC at hk;split at hk
 ·rename_i e a b h1 h2 h3;split at hk
  ·rename_i h4;split at hk
   ·rename_i h5;split at hk
    ·exact hk.elim
    ·rename_i k Eh;obtain⟨d',hd,v,x,q3,q4⟩:=Ix hk.2;have hd:dst.map (KE cx)=some d':=hd;have cC:dst.map (KE cx)=some d:=cC;rw[cC]at hd;cases hd;refine⟨v,some (d,x),q3,fun r o' e=>(by cases e;exact⟨rfl,Ab ..⟩),fun st2 G9 K' h'=>?_⟩;simp only[F2,JC,(hn st2 G9).1,(hn st2 G9).2,h1,h2,h3,h4,h5];split
     ·rename_i e0;rw[Eh]at e0;cases e0
     ·exact⟨hk.1,q4 st2.h (G9.h d (Ab ..)) K' h'⟩
   ·exact hk.elim
  ·exact hk.elim
 ·exact hk.elim
theorem UD{t:Nat}{r:Option Operand}(hk:F2 cx true ⟨dst,.makeMap t r,ty,pos,after,gd⟩ st K)(hf:Fs cx ⟨dst,.makeMap t r,ty,pos,after,gd⟩ st=some (R,w)) :
  En cx ⟨dst,.makeMap t r,ty,pos,after,gd⟩ st R w K:=by
 cases r with
 |some r=>exact hk.elim
 |none =>
  simp only[F2]at hk;obtain⟨d,rfl,e0⟩:=IG hf;cases e0;unfold KL at hk;simp only at hk;split at hk
  ·rename_i hd;split at hk
   ·rename_i h1;split at hk
    ·rename_i h2;split at hk
     ·rename_i h3;refine⟨_,some (d,_),hk,fun r o' e=>(by cases e;exact⟨rfl,Ab ..⟩),fun st2 G9 K' h'=>?_⟩;simp only[F2,KL];rw[G9.h d (Ab ..),hd];simp only[h1,h2,h3];exact h'
     ·rename_i h3;refine⟨_,some (d,_),hk,fun r o' e=>(by cases e;exact⟨rfl,Ab ..⟩),fun st2 G9 K' h'=>?_⟩;simp only[F2,KL];rw[G9.h d (Ab ..),hd];simp only[h1,h2,h3];exact h'
    ·exact hk.elim
   ·exact hk.elim
  ·exact hk.elim
theorem XY{t:Nat}{p x:Operand}(hk:F2 cx true ⟨dst,.store t p x,ty,pos,after,gd⟩ st K)(hf:Fs cx ⟨dst,.store t p x,ty,pos,after,gd⟩ st=some (R,w)) :
  En cx ⟨dst,.store t p x,ty,pos,after,gd⟩ st R w K:=by
 simp only[F2]at hk;have hn:∀st2,IY ⟨dst,.store t p x,ty,pos,after,gd⟩ R st st2→ev st2.t p=ev st.t p∧ev st2.t x=ev st.t x:=fun st2 ha=>⟨ha.t p (by simp[Op.operands]),ha.t x (by simp[Op.operands])⟩;unfold Og at hk;split at hk
 ·exact hk.elim
 ·rename_i DF;obtain⟨cs,c1,c2,c3⟩:=NK hk;simp only[Fs]at hf;split at hf
  ·rename_i r off hp;split at hf
   ·cases hf
   ·rename_i hm;cases hf;rw[hp]at c1;simp only at c1;split at c1
    ·rename_i FN hr;obtain⟨He,Ki⟩:=c1;rw[hm]at Ki;refine⟨_,some (r,_),Ki,fun r o' e=>(by cases e;exact⟨rfl,Ab ..⟩),fun st2 G9 K' h'=>?_⟩;simp only[F2,Og,(hn st2 G9).1,(hn st2 G9).2];refine c2 _ ?_;rw[hp];simp only[G9.h r (Ab ..),hr,hm];exact⟨He,h'⟩
    ·exact c1.elim
  ·rename_i r n sz i off hp;cases hf;rw[hp]at c1;simp only at c1;split at c1
   ·rename_i GI es hr;split at c1
    ·rename_i hs;obtain⟨He,cell,e1,e2,Ki⟩:=c1;split at Ki
     ·rename_i j m;refine⟨_,some (r,_),Ki,fun r o' e=>(by cases e;exact⟨rfl,Ab ..⟩),fun st2 G9 K' h'=>?_⟩;simp only[F2,Og,(hn st2 G9).1,(hn st2 G9).2];refine c2 _ ?_;rw[hp];simp only[G9.h r (Ab ..),hr,hs];exact⟨He,cell,e1,e2,h'⟩
     ·rename_i RL;refine⟨_,some (r,_),Ki,fun r o' e=>(by cases e;exact⟨rfl,Ab ..⟩),fun st2 G9 K' h'=>?_⟩;simp only[F2,Og,(hn st2 G9).1,(hn st2 G9).2];refine c2 _ ?_;rw[hp];simp only[G9.h r (Ab ..),hr,hs];refine⟨He,cell,e1,e2,?_⟩;rw[c3 st.h st2.h (fun r hr=>G9.h r (Ai _ hr))];exact h'
    ·exact c1.elim
   ·exact c1.elim
  ·cases hf
theorem RH{t:Nat}{m k x:Operand}(hk:F2 cx true ⟨dst,.mapUpdate t m k x,ty,pos,after,gd⟩ st K)(hf:Fs cx ⟨dst,.mapUpdate t m k x,ty,pos,after,gd⟩ st=some (R,w)) :
  En cx ⟨dst,.mapUpdate t m k x,ty,pos,after,gd⟩ st R w K:=by
 simp only[F2]at hk;have hn:∀st2,IY ⟨dst,.mapUpdate t m k x,ty,pos,after,gd⟩ R st st2→ev st2.t m=ev st.t m∧ev st2.t k=ev st.t k∧ev st2.t x=ev st.t x:=fun st2 ha=>⟨ha.t m (by simp[Op.operands]),ha.t k (by simp[Op.operands]),ha.t x (by simp[Op.operands])⟩;simp only[Fs]at hf;split at hf
 ·rename_i r hm;cases hf;unfold Hf at hk;rw[hm]at hk;simp only at hk;split at hk
  ·rename_i sh B2 hr;unfold Kk at hk;split at hk
   ·rename_i kt e h1;split at hk
    ·rename_i uC h2;split at hk
     ·rename_i h3;split at hk
      ·rename_i kx h4;split at hk
       ·rename_i h5;refine⟨_,some (r,_),hk,fun r o' e=>(by cases e;exact⟨rfl,Ab ..⟩),fun st2 G9 K' h'=>?_⟩;obtain⟨n1,n2,n3⟩:=hn st2 G9;simp only[F2,Hf,n1,n2,n3,hm,G9.h r (Ab ..),hr,Kk,h1,h2,h3,h4,h5];rw[KZ (h:=st.h) (h2:=st2.h) (fun r hr=>G9.h r (Ai _ hr))];exact h'
       ·exact hk.elim
      ·exact hk.elim
     ·exact hk.elim
    ·exact hk.elim
   ·exact hk.elim
  ·rename_i sh B2 hr;unfold Kk at hk;split at hk
   ·rename_i kt e h1;split at hk
    ·rename_i uC h2;split at hk
     ·rename_i h3;split at hk
      ·rename_i kx h4;split at hk
       ·rename_i h5;refine⟨_,some (r,_),hk,fun r o' e=>(by cases e;exact⟨rfl,Ab ..⟩),fun st2 G9 K' h'=>?_⟩;obtain⟨n1,n2,n3⟩:=hn st2 G9;simp only[F2,Hf,n1,n2,n3,hm,G9.h r (Ab ..),hr,Kk,h1,h2,h3,h4,h5];exact h'
       ·exact hk.elim
      ·exact hk.elim
     ·exact hk.elim
    ·exact hk.elim
   ·exact hk.elim
  ·exact hk.elim
 ·cases hf
theorem bq{A B:(AV→Prop)→Prop}(ha:Gl A)(hb:Gl B):Gl fun K=>A K∨B K:=by
 intro K hk;rcases hk with hk | hk
 ·obtain⟨v,h1,h2⟩:=ha K hk;exact⟨v,h1,fun K' h=>.inl (h2 K' h)⟩
 ·obtain⟨v,h1,h2⟩:=hb K hk;exact⟨v,h1,fun K' h=>.inr (h2 K' h)⟩
theorem Th{fn:Fn}{first cap:Array Operand}(hk:F2 cx true ⟨dst,.makeFunc fn first cap,ty,pos,after,gd⟩ st K)(hf:Fs cx ⟨dst,.makeFunc fn first cap,ty,pos,after,gd⟩ st=some (R,w)) :
  En cx ⟨dst,.makeFunc fn first cap,ty,pos,after,gd⟩ st R w K:=by
 simp only[F2]at hk;simp only[Fs]at hf;cases hf;unfold KK at hk;split at hk
 ·rename_i f h1;refine⟨_,none,hk,fun r o' e=>(by cases e),fun st2 G9 K' h'=>?_⟩;simp only[F2,h1,KK]
  have:cap.toList.map (fun x=>rsv st2.h (ev st2.t x))=cap.toList.map (fun x=>rsv st.h (ev st.t x)):=Be fun x hx=>by
   rw[G9.t x (by simp only[Op.operands,So];exact .inr (by simpa using hx))];exact jb fun r hr=>G9.h r (Yv (Am.2 ⟨x,hx,rfl⟩) r hr)
  rw[this];exact h'
 ·exact hk.elim
end
end Go.Eng
