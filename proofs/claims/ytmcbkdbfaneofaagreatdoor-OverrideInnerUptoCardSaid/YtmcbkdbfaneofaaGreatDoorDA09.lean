/- Lemmas for the claims of this seat, without a condition: part 9 (EngT, EngU, EngV, EngW). -/
import Derived.Test.YtmcbkdbfaneofaaGreatDoorDA08
import Derived.Maps.RangeRun
namespace Go.Eng
open Go.ChangeMaps (setBlock)
theorem Ud{w:World}{r:Nat}{o o' : Obj}(h:w.heap[r]?=some o):(setBlock w r o').heap[r]?=some o':=by
 have:=(By.1 h).1
 simp[setBlock,this]
theorem Tz{w:World}{r k:Nat}{o' : Obj}(h:k≠r):(setBlock w r o').heap[k]?=w.heap[k]?:=by
 simp[setBlock,Ne.symm h]
theorem M9(w:World)(r:Nat)(o' : Obj):(setBlock w r o').heap.size=w.heap.size:=by simp[setBlock]
theorem OM{α β:Type}{f:α→β}{l:List α}(h:(l.map f).Nodup):l.Nodup:=by
 induction l with
 |nil=>exact E7
 |cons c l ih =>
  rw[AP,CT]at h;exact CT.2 ⟨fun hc=>h.1 (Am.2 ⟨c,hc,rfl⟩),ih h.2⟩
theorem U5{α β:Type}{f:α→β}{l:List α}(h:(l.map f).Nodup){i j:Nat}{a b:α}(ha:l[i]?=some a)(hb:l[j]?=some b)(he:f a=f b):i=j:=by
 induction l generalizing i j with
 |nil=>simp at ha
 |cons c l ih =>
  rw[AP,CT]at h;cases i with
  |zero =>
   cases j with
   |zero=>rfl
   |succ j =>
    simp only[A8,Bo,GK]at ha hb;exact absurd (Am.2 ⟨b,Av hb,by rw[←he,ha]⟩) h.1
  |succ i =>
   cases j with
   |zero =>
    simp only[A8,Bo,GK]at ha hb;exact absurd (Am.2 ⟨a,Av ha,by rw[he,hb]⟩) h.1
   |succ j=>exact Ac (·+1) (ih h.2 ha hb)
open Classical in
theorem PI{B4:List (Value×AV)}{k:Value}{a b:AV}(h:(k,b)∈B4):EP B4 k a=B4.map fun p=>if p.1=k then(k,a)else p:=Az ⟨b,h⟩
open Classical in
theorem Ky{B4:List (Value×AV)}{k:Value}{a:AV}(h:∀b,(k,b)∉B4):EP B4 k a=B4++[(k,a)]:=Al (fun⟨b,e⟩=>h b e)
theorem U3{sh:EG}{es:Array MapEntry}{ck:Nat}{B4:List (Value×AV)}(f:AV→AV)(h:G4 sh es ck B4):G4 sh es ck (B4.map fun p=>(p.1,f p.2)):=by
 obtain⟨h1,h2,h3,h4,h5,h6⟩:=h;refine⟨by simp[h1],fun i kv e q1 q2=>?_,fun kv Pg=>?_,?_,h5,h6⟩
 ·rw[AG]at q1;obtain⟨p,q3,rfl⟩:=AZ.1 q1;exact h2 i p e q3 q2
 ·obtain⟨p,hp,rfl⟩:=Am.1 Pg;exact h3 p hp
 ·rw[BP];exact h4
theorem OF{sh:EG}{es:Array MapEntry}{ck:Nat}{B4:List (Value×AV)}(h:G4 sh es ck B4){x:Value}{a v:AV}{y:Value}{j:Nat}(hj:B4[j]?=some (x,a)) :
  G4 sh (es.modify j fun e=>{ e with key:=x,val:=y }) ck (EP B4 x v) ∧
   ∀(i:Nat) (kv:Value×AV) (e:MapEntry),(EP B4 x v)[i]?=some kv→(es.modify j fun e=>{ e with key:=x,val:=y })[i]?=some e →
    (kv.2=v∧e.val=y)∨(B4[i]?=some kv∧es[i]?=some e):=by
 classical
 rw[PI (Av hj)];obtain⟨h1,h2,h3,h4,h5,h6⟩:=h;have hm:∀i e,(es.modify j fun e=>{ e with key:=x,val:=y })[i]?=some e→∃e0,es[i]?=some e0∧e.born=e0.born∧(if i=j then e.key=x∧e.val=y else e=e0):=by
  intro i e he;rw[Array.getElem?_modify]at he;split at he
  ·rename_i e1;subst e1;obtain⟨e0,q1,q2⟩:=AZ.1 he;exact⟨e0,q1,by rw[←q2],by rw[Az rfl,←q2];exact⟨rfl,rfl⟩⟩
  ·rename_i e1;exact⟨e,he,rfl,by rw[Al (fun q=>e1 q.symm)]⟩
 have hk:∀i kv,(B4.map fun p=>if p.1=x then(x,v)else p)[i]?=some kv→∃p,B4[i]?=some p∧kv.1=p.1∧(if i=j then kv.2=v else kv=p):=by
  intro i kv Pg;rw[AG]at Pg;obtain⟨p,q1,q2⟩:=AZ.1 Pg;refine⟨p,q1,?_⟩
  by_cases e:p.1=x
  ·rw[Az e]at q2;subst q2
   have:=U5 h4 q1 hj e
   exact⟨e.symm,by rw[Az this]⟩
  ·rw[Al e]at q2;subst q2;refine⟨rfl,?_⟩;rw[Al];intro e2;subst e2;rw[q1]at hj;cases hj;exact e rfl
 have ql:(B4.map fun p=>if p.1=x then(x,v)else p).map (·.1)=B4.map (·.1):=by
  rw[BP];apply Bf;intro p _;simp only[Function.comp];split
  ·rename_i e;exact e.symm
  ·rfl
 refine⟨⟨by simp[h1],fun i kv e q1 q2=>?_,fun kv Pg=>?_,by rw[ql];exact h4,fun i e q=>?_,fun i i' e e' q q' hb=>?_⟩,fun i kv e q1 q2=>?_⟩
 ·obtain⟨p,p1,p2,p3⟩:=hk i kv q1;obtain⟨e0,r1,r2,r3⟩:=hm i e q2
  have:=h2 i p e0 p1 r1
  split at r3
  ·rename_i ij;subst ij;rw[hj]at p1;cases p1;rw[r3.1,p2]
  ·rw[r3,p2];exact this
 ·obtain⟨i,hi⟩:=B9.1 Pg;obtain⟨p,p1,p2,p3⟩:=hk i kv hi;rw[p2];exact h3 p (Av p1)
 ·obtain⟨e0,r1,r2,_⟩:=hm i e q;rw[r2];exact h5 i e0 r1
 ·obtain⟨e0,r1,r2,_⟩:=hm i e q;obtain⟨e1,s1,s2,_⟩:=hm i' e' q';exact h6 i i' e0 e1 r1 s1 (by rw[←r2,←s2];exact hb)
 ·obtain⟨p,p1,p2,p3⟩:=hk i kv q1;obtain⟨e0,r1,r2,r3⟩:=hm i e q2;split at r3
  ·rename_i ij;rw[Az ij]at p3;exact .inl ⟨p3,r3.2⟩
  ·rename_i ij;rw[Al ij]at p3;exact .inr ⟨by rw[p3];exact p1,by rw[r3];exact r1⟩
theorem SZ{sh:EG}{es:Array MapEntry}{ck:Nat}{B4:List (Value×AV)}(h:G4 sh es ck B4){x:Value}{v:AV}{y:Value}(hx:Ve sh x=true)(hn:∀a,(x,a)∉B4) :
  G4 sh (es.push { key:=x,val:=y,born:=ck }) (ck+1) (EP B4 x v) ∧
   ∀(i:Nat) (kv:Value×AV) (e:MapEntry),(EP B4 x v)[i]?=some kv→(es.push { key:=x,val:=y,born:=ck })[i]?=some e →
    (kv.2=v∧e.val=y)∨(B4[i]?=some kv∧es[i]?=some e):=by
 rw[Ky hn];obtain⟨h1,h2,h3,h4,h5,h6⟩:=h;have hm:∀i e,(es.push { key:=x,val:=y,born:=ck })[i]?=some e→(es[i]?=some e∧i<es.size)∨(i=es.size∧e={ key:=x,val:=y,born:=ck }):=by
  intro i e he;rw[Array.getElem?_push]at he;split at he
  ·rename_i q;cases he;exact .inr ⟨q,rfl⟩
  ·exact .inl ⟨he,(By.1 he).1⟩
 have hk:∀i kv,(B4++[(x,v)])[i]?=some kv→(B4[i]?=some kv∧i<es.size)∨(i=es.size∧kv=(x,v)):=by
  intro i kv Pg;rw[LC]at Pg;split at Pg
  ·rename_i q;exact .inl ⟨Pg,by omega⟩
  ·rename_i q
   have:i-B4.length=0:=by
    have:=(As.1 Pg).1
    simp at this;omega
   rw[this]at Pg;simp at Pg;exact .inr ⟨by omega,Pg.symm⟩
 refine⟨⟨by simp[h1],fun i kv e q1 q2=>?_,fun kv Pg=>?_,?_,fun i e q=>?_,fun i i' e e' q q' hb=>?_⟩,fun i kv e q1 q2=>?_⟩
 ·rcases hk i kv q1 with ⟨p1,p2⟩ | ⟨p1,p2⟩<;>rcases hm i e q2 with ⟨r1,r2⟩ | ⟨r1,r2⟩
  ·exact h2 i kv e p1 r1
  ·omega
  ·omega
  ·rw[p2,r2]
 ·rcases A3.1 Pg with q | q
  ·exact h3 kv q
  ·rw[Ai.1 q];exact hx
 ·rw[AH,F9];refine⟨h4,by simp,fun a ha b hb e=>?_⟩;simp only[AP,E0,Ai]at hb;obtain⟨p,p1,p2⟩:=Am.1 ha;refine hn p.2 ?_
  have:p=(x,p.2):=by rw[←hb,←e,←p2]
  rw[←this];exact p1
 ·rcases hm i e q with ⟨r1,_⟩ | ⟨_,r2⟩
  ·have:=h5 i e r1;omega
  ·rw[r2];exact GN _
 ·rcases hm i e q with ⟨r1,_⟩ | ⟨r1,r2⟩<;>rcases hm i' e' q' with ⟨s1,_⟩ | ⟨s1,s2⟩
  ·exact h6 i i' e e' r1 s1 hb
  ·have:=h5 i e r1;rw[s2]at hb;dsimp only at hb;omega
  ·have:=h5 i' e' s1;rw[r2]at hb;dsimp only at hb;omega
  ·omega
 ·rcases hk i kv q1 with ⟨p1,p2⟩ | ⟨p1,p2⟩<;>rcases hm i e q2 with ⟨r1,r2⟩ | ⟨r1,r2⟩
  ·exact .inr ⟨p1,r1⟩
  ·omega
  ·omega
  ·exact .inl ⟨by rw[p2],by rw[r2]⟩
section
variable {P:Program}{w0:World}{g0:Gh}{h0 h:Nat→HO}{g:Gh}{w:World}(hI:DJ w0 g0 h0 h g w)
include hI
theorem DJ.swap{r b:Nat}(hl:(h r).live)(ho:g.own r=some b)(hn:∀o,¬g.S b o)(o' : HO){ob:Obj}(hb:w.heap[b]?=some ob)(aw : Obj)(w1:World)(KK:w1.heap=w.heap∧w1.os=w.os∧w1.tape=w.tape∧w1.output=w.output)(DD:o'≠.free)
  (Jb:JS g (g.upd r (g.ρ r) (g.ln r) (g.tk r) (g.own r) g.S) (AR h)→EY g w (g.upd r (g.ρ r) (g.ln r) (g.tk r) (g.own r) g.S) (setBlock w1 b aw)→(setBlock w1 b aw).heap[b]?=some aw →
   (∀k,k≠b→(setBlock w1 b aw).heap[k]?=w.heap[k]?) →
   Ea (g.upd r (g.ρ r) (g.ln r) (g.tk r) (g.own r) g.S) (setBlock w1 b aw) (AR (AW h r o')) r o') :
  DJ w0 g0 h0 (AW h r o') (g.upd r (g.ρ r) (g.ln r) (g.tk r) (g.own r) g.S) (setBlock w1 b aw)∧Le h g w (AW h r o') (g.upd r (g.ρ r) (g.ln r) (g.tk r) (g.own r) g.S) (setBlock w1 b aw):=by
 have DI:=(hI.loc r b hl ho).1;have EO:(setBlock w1 b aw).heap[b]?=some aw:=Ud (by rw[KK.1];exact hb);have Y1:∀k,k≠b→(setBlock w1 b aw).heap[k]?=w.heap[k]?:=fun k hk=>by rw[Tz hk,KK.1]
 refine hI.upd r o' _ _ _ _ _ _ (some b) ⟨KK.2.1,KK.2.2.1,KK.2.2.2,by rw[M9,KK.1];exact Ak _⟩ (fun k _ DD=>Y1 k (fun e=>DD (by rw[e]))) (fun b' e=>by cases e;exact⟨hl,ho⟩) (fun _ _ h=>h) (fun _ _ h=>.inl h)
  (fun b' o e hs=>by cases e;exact absurd hs (hn o)) (fun b' _ e=>?_) DD (fun _=>⟨rfl,Ak _,fun _=>rfl,fun _=>rfl⟩) (fun hg hk=>Jb hg hk EO Y1)
 rw[ho]at e;cases e;exact⟨by rw[M9,KK.1];exact DI,.inl ⟨hl,ho⟩⟩
theorem M3{T:Gq}(hT:Cy P T){ty:Nat}{m k x:AV}{vm vk vx:Value}{K:HK}(hm:BI g w (AR h) m vm)(JX : BI g w (AR h) k vk)(hx:BI g w (AR h) x vx)(hk:GZ T h ty m k x K) :
  dA P w0 g0 h0 h g w (Instr.mapUpdate ty vm vk vx) K:=by
 unfold GZ at hk;split at hk
 ·rename_i r;split at hk
  ·rename_i sh B4 e0;obtain⟨kt,e,k1,k2,k3,k4⟩:=Mt JX hk;have ho:=hI.objs r;rw[e0]at ho;obtain⟨t1,b,es,ck,a1,a2,a3,a4,a5,a6⟩:=ho;have hl:(h r).live:=by rw[e0];trivial
   cases hm with
   |mref _ _ b' hu ht hp =>
    rw[a2]at hp;cases hp;have fH:=hT.map k1;have Fb:=run_getObj_map (P:=P) w b es ck a3;have Nr:∀o',(setObj b o').run P w=.ok () (setBlock w b o'):=fun o'=>by simp[setObj,Sem.run,a3,setBlock]
    have TN:=fun bb=>Mc hT k2 w bb k3;obtain⟨res,r1,r2⟩:=NM hT k2 w k3 es.toList a4.shape;have iP:=BI.str hI.objs hx;rcases r2 with ⟨rfl,hn⟩ | ⟨j,en,rfl,hj,hkey⟩
    ·obtain⟨m1,m2⟩:=SZ a4 (x:=vk) (v:=str h x) (y:=vx) k3 (fun a=>a4.none hn a);obtain⟨i1,i2⟩:=DJ.swap hI hl a1 a6 (.map sh (EP B4 vk (str h x))) a3 (.map (es.push { key:=vk,val:=vx,born:=ck }) (ck+1)) w ⟨rfl,rfl,rfl,rfl⟩ (by simp) (fun hg HQ EO Y1=>by
      obtain⟨u1,u2,u3,u4⟩:=BA g r (g.ρ r) (g.ln r) (g.tk r) (g.own r) g.S;refine⟨u3.trans t1,b,_,_,u4.trans a1,u1.trans a2,EO,m1,fun i kv e q1 q2=>?_,a6⟩;rcases m2 i kv e q1 q2 with ⟨p1,p2⟩ | ⟨p1,p2⟩
      ·rw[p1,p2];exact iP.mono HQ (fun _ h=>h) (fun _ h=>h.elim)
      ·exact(a5 i kv e p1 p2).mono HQ (fun _ h=>h) (fun _ h=>h.elim))
     refine⟨_,_,_,?_,k4,i1,i2⟩;simp[Instr.mapUpdate,run_underlying fH,Fb,TN,r1,Nr]
    ·obtain⟨a,q1,q2⟩:=a4.some hj hkey;obtain⟨m1,m2⟩:=OF a4 (x:=vk) (v:=str h x) (y:=vx) q1;obtain⟨i1,i2⟩:=DJ.swap hI hl a1 a6 (.map sh (EP B4 vk (str h x))) a3 (.map (es.modify j fun e=>{ e with key:=vk,val:=vx }) ck) w ⟨rfl,rfl,rfl,rfl⟩ (by simp) (fun hg HQ EO Y1=>by
      obtain⟨u1,u2,u3,u4⟩:=BA g r (g.ρ r) (g.ln r) (g.tk r) (g.own r) g.S;refine⟨u3.trans t1,b,_,_,u4.trans a1,u1.trans a2,EO,m1,fun i kv e q1 q2=>?_,a6⟩;rcases m2 i kv e q1 q2 with ⟨p1,p2⟩ | ⟨p1,p2⟩
      ·rw[p1,p2];exact iP.mono HQ (fun _ h=>h) (fun _ h=>h.elim)
      ·exact(a5 i kv e p1 p2).mono HQ (fun _ h=>h) (fun _ h=>h.elim))
     refine⟨_,_,_,?_,k4,i1,i2⟩;have m8 : es[j]?=some en:=by simpa using hj
     have Jc:=QP (P:=P) w k3;simp[Instr.mapUpdate,run_underlying fH,Fb,TN,r1,Nr,m8,hkey,Jc]
  ·rename_i sh B4 e0;obtain⟨kt,e,k1,k2,k3,k4⟩:=Mt JX hk;have ho:=hI.objs r;rw[e0]at ho;obtain⟨t1,b,es,ck,a1,a2,a3,a4,a5,a6⟩:=ho;have hl:(h r).live:=by rw[e0];trivial
   cases hm with
   |mref _ _ b' hu ht hp =>
    rw[a2]at hp;cases hp;have fH:=hT.map k1;have Fb:=run_getObj_map (P:=P) w b es ck a3;have Nr:∀o',(setObj b o').run P w=.ok () (setBlock w b o'):=fun o'=>by simp[setObj,Sem.run,a3,setBlock]
    have TN:=fun bb=>Mc hT k2 w bb k3;obtain⟨res,r1,r2⟩:=NM hT k2 w k3 es.toList a4.shape;rcases r2 with ⟨rfl,hn⟩ | ⟨j,en,rfl,hj,hkey⟩
    ·obtain⟨m1,m2⟩:=SZ a4 (x:=vk) (v:=x) (y:=vx) k3 (fun a=>a4.none hn a);obtain⟨i1,i2⟩:=DJ.swap hI hl a1 a6 (.mapU sh (EP B4 vk (x))) a3 (.map (es.push { key:=vk,val:=vx,born:=ck }) (ck+1)) w ⟨rfl,rfl,rfl,rfl⟩ (by simp) (fun hg HQ EO Y1=>by
      obtain⟨u1,u2,u3,u4⟩:=BA g r (g.ρ r) (g.ln r) (g.tk r) (g.own r) g.S;have KZ:∀i,AR h i→AR (AW h r (.mapU sh (EP B4 vk x))) i:=fun i hi=>DO (by simp) i hi;refine⟨u3.trans t1,b,_,_,u4.trans a1,u1.trans a2,EO,m1,fun i kv e q1 q2=>?_,a6⟩;rcases m2 i kv e q1 q2 with ⟨p1,p2⟩ | ⟨p1,p2⟩
      ·rw[p1,p2];exact hx.mono HQ KZ hg
      ·exact(a5 i kv e p1 p2).mono HQ KZ hg)
     refine⟨_,_,_,?_,k4,i1,i2⟩;simp[Instr.mapUpdate,run_underlying fH,Fb,TN,r1,Nr]
    ·obtain⟨a,q1,q2⟩:=a4.some hj hkey;obtain⟨m1,m2⟩:=OF a4 (x:=vk) (v:=x) (y:=vx) q1;obtain⟨i1,i2⟩:=DJ.swap hI hl a1 a6 (.mapU sh (EP B4 vk (x))) a3 (.map (es.modify j fun e=>{ e with key:=vk,val:=vx }) ck) w ⟨rfl,rfl,rfl,rfl⟩ (by simp) (fun hg HQ EO Y1=>by
      obtain⟨u1,u2,u3,u4⟩:=BA g r (g.ρ r) (g.ln r) (g.tk r) (g.own r) g.S;have KZ:∀i,AR h i→AR (AW h r (.mapU sh (EP B4 vk x))) i:=fun i hi=>DO (by simp) i hi;refine⟨u3.trans t1,b,_,_,u4.trans a1,u1.trans a2,EO,m1,fun i kv e q1 q2=>?_,a6⟩;rcases m2 i kv e q1 q2 with ⟨p1,p2⟩ | ⟨p1,p2⟩
      ·rw[p1,p2];exact hx.mono HQ KZ hg
      ·exact(a5 i kv e p1 p2).mono HQ KZ hg)
     refine⟨_,_,_,?_,k4,i1,i2⟩;have m8 : es[j]?=some en:=by simpa using hj
     have Jc:=QP (P:=P) w k3;simp[Instr.mapUpdate,run_underlying fH,Fb,TN,r1,Nr,m8,hkey,Jc]
  ·exact hk.elim
 ·exact hk.elim
theorem NG{d b:Nat}{es:Array MapEntry}{ck:Nat}{sh:EG}{B4:List (Value×AV)}(hd:h d=.free)(hS:g.S b 0)(hb:w.heap[b]?=some (.map es ck))(hm:G4 sh es ck B4)
  (hv:∀(i:Nat) (kv:Value×AV) (e:MapEntry),B4[i]?=some kv→es[i]?=some e→BI g w Fp kv.2 e.val) :
  ∃g',DJ w0 g0 h0 (AW h d (.iter B4 B4 none)) g' (w.alloc (.mapIter (some b) ck #[] ck))∧Le h g w (AW h d (.iter B4 B4 none)) g' (w.alloc (.mapIter (some b) ck #[] ck)) ∧
   BI g' (w.alloc (.mapIter (some b) ck #[] ck)) (AR (AW h d (.iter B4 B4 none))) (.ref d 0) (.pointer (some ⟨w.heap.size,0,none⟩)):=by
 obtain⟨k1,k2⟩:=hI.newOwn hd (.iter B4 B4 none) (.mapIter (some b) ck #[] ck) (.pointer (some ⟨w.heap.size,0,none⟩)) 0 false w ⟨rfl,rfl,rfl,rfl⟩ (by simp) (fun hg hk=>by
  obtain⟨u1,u2,u3,u4⟩:=BA g d (.pointer (some ⟨w.heap.size,0,none⟩)) 0 false (some w.heap.size) g.S;obtain⟨c1,c2,c3⟩:=hk b 0 hS
  exact⟨u3,w.heap.size,b,ck,#[],ck,es,ck,u4,u1,Hx w _ rfl,c1,c3 es ck hb,⟨sh,hm⟩,rfl,rfl,fun i kv e q1 q2=>(hv i kv e q1 q2).mono hk (fun _ h=>h) (fun _ h=>h.elim),
   ⟨OM hm.2.2.2.1,fun _ h=>h⟩,fun i kv e q1 q2=>by simp[List.mem_of_getElem? q1],trivial,fun o ho=>by have:=hI.slt _ _ ho;omega⟩)
 refine⟨_,k1,k2,.ref _ d 0 w.heap.size (by unfold AR;rw[Bd];simp) ?_ ?_⟩<;>simp[Gh.upd]
theorem QG{r b:Nat}{sh:EG}{B4:List (Value×AV)}{es:Array MapEntry}{ck:Nat}(e0:h r=.map sh B4)(a1:g.own r=some b)(a2:g.ρ r=.map (some b))(a3:w.heap[b]?=some (.map es ck))(a4:G4 sh es ck B4)
  (a5:∀(i:Nat) (kv:Value×AV) (e:MapEntry),B4[i]?=some kv→es[i]?=some e→BI g w Fp kv.2 e.val) (t1:g.tk r=false) :
  ∃g',DJ w0 g0 h0 (AW h r (.rom sh B4)) g' w∧Le h g w (AW h r (.rom sh B4)) g' w∧g'.S b 0:=by
 have hl:(h r).live:=by rw[e0];trivial
 have DI:=(hI.loc r b hl a1).1
 obtain⟨k1,k2⟩:=hI.upd r (.rom sh B4) (g.ρ r) (g.ln r) (g.tk r) none (g.more b 1) w none ⟨rfl,rfl,rfl,Ak _⟩ (fun _ _ _=>rfl) (fun b e=>by cases e) (fun _ _ h=>.inl h)
  (fun b' o hs=>hs.elim .inl (fun hs=>.inr ⟨by rw[hs.1];exact DI,.inr ⟨hl,by rw[hs.1];exact a1⟩⟩)) (fun b o e=>by cases e) (fun b hh _=>by cases hh) (by simp)
  (fun _=>⟨rfl,Ak _,fun _=>rfl,fun _=>rfl⟩) (fun hg hk=>by
   obtain⟨u1,u2,u3,u4⟩:=BA g r (g.ρ r) (g.ln r) (g.tk r) none (g.more b 1);exact⟨u3.trans t1,b,u1.trans a2,.cmap _ sh B4 b es ck (.inr ⟨rfl,Uj⟩) a3 a4 (fun i kv e q1 q2=>(a5 i kv e q1 q2).mono hk (fun _ h=>h) (fun _ h=>h.elim))⟩)
 exact⟨_,k1,k2,.inr ⟨rfl,Uj⟩⟩
theorem Wb{r b:Nat}{sh:EG}{B4:List (Value×AV)}{es:Array MapEntry}{ck:Nat}(e0:h r=.mapU sh B4)(a1:g.own r=some b)(a2:g.ρ r=.map (some b))(a3:w.heap[b]?=some (.map es ck))(a4:G4 sh es ck B4)
  (a5:∀(i:Nat) (kv:Value×AV) (e:MapEntry),B4[i]?=some kv→es[i]?=some e→BI g w (AR h) kv.2 e.val) (t1:g.tk r=false) :
  ∃g',DJ w0 g0 h0 (AW h r (.rom sh (Rd h B4))) g' w∧Le h g w (AW h r (.rom sh (Rd h B4))) g' w∧g'.S b 0:=by
 have hl:(h r).live:=by rw[e0];trivial
 have DI:=(hI.loc r b hl a1).1
 obtain⟨k1,k2⟩:=hI.upd r (.rom sh (Rd h B4)) (g.ρ r) (g.ln r) (g.tk r) none (g.more b 1) w none ⟨rfl,rfl,rfl,Ak _⟩ (fun _ _ _=>rfl) (fun b e=>by cases e) (fun _ _ h=>.inl h)
  (fun b' o hs=>hs.elim .inl (fun hs=>.inr ⟨by rw[hs.1];exact DI,.inr ⟨hl,by rw[hs.1];exact a1⟩⟩)) (fun b o e=>by cases e) (fun b hh _=>by cases hh) (by simp)
  (fun _=>⟨rfl,Ak _,fun _=>rfl,fun _=>rfl⟩) (fun hg hk=>by
   obtain⟨u1,u2,u3,u4⟩:=BA g r (g.ρ r) (g.ln r) (g.tk r) none (g.more b 1);refine⟨u3.trans t1,b,u1.trans a2,.cmap _ sh _ b es ck (.inr ⟨rfl,Uj⟩) a3 (U3 _ a4) (fun i kv e q1 q2=>?_)⟩;unfold Rd at q1;rw[AG]at q1;obtain⟨p,q3,rfl⟩:=AZ.1 q1;exact((a5 i p e q3 q2).str hI.objs).mono hk (fun _ h=>h) (fun _ h=>h.elim))
 exact⟨_,k1,k2,.inr ⟨rfl,Uj⟩⟩
theorem cV{T:Gq}(hT:Cy P T){ty kt e:Nat}(ht:(T ty).d=.map kt e){d:Option Nat}{x:AV}{vx:Value}{K:HK}(hx:BI g w (AR h) x vx)(hk:Zt d h x K) :
  NS P w0 g0 h0 h g w (Instr.range ty vx) K:=by
 have hu:=hT.map ht;unfold Zt at hk;split at hk
 ·exact hk.elim
 ·rename_i d;split at hk
  ·rename_i hd;have CN:∀b es ck,w.heap[b]?=some (.map es ck)→(Instr.range ty (.map (some b))).run P w=.ok (.pointer (some ⟨w.heap.size,0,none⟩)) (w.alloc (.mapIter (some b) ck #[] ck)):=fun b es ck hb=>by
    simp[Instr.range,run_underlying hu,run_getObj_map (P:=P) w b es ck hb]
   split at hk
   ·cases hx with
    |cmap _ _ _ b es ck hS hb hm hv =>
     obtain⟨g',k1,k2,k3⟩:=NG hI hd hS hb hm hv;exact⟨_,_,_,_,_,CN _ _ _ hb,hk,k1,k2,k3⟩
   ·rename_i r;have ho:=hI.objs r;cases hx with
    |mref _ _ b fH ht' hp =>
     split at hk
     ·rename_i sh B4 e0;rw[e0]at ho;obtain⟨_,b',a1,a2⟩:=ho;rw[a1]at hp;cases hp;cases a2 with
      |cmap _ _ _ _ es ck hS hb hm hv =>
       obtain⟨g',k1,k2,k3⟩:=NG hI hd hS hb hm hv;exact⟨_,_,_,_,_,CN _ _ _ hb,hk,k1,k2,k3⟩
     ·rename_i sh B4 e0;rw[e0]at ho;obtain⟨t1,b',es,ck,a1,a2,a3,a4,a5,a6⟩:=ho;rw[a2]at hp;cases hp;obtain⟨g1,i1,i2,i3⟩:=QG hI e0 a1 a2 a3 a4 a5 t1;have DD:d≠r:=fun e=>by rw[e,e0]at hd;cases hd
      obtain⟨g',k1,k2,k3⟩:=NG i1 (by rw[B1 _ _ _ _ DD];exact hd) i3 a3 a4 (fun i kv e q1 q2=>(a5 i kv e q1 q2).mono i2.keeps (fun _ h=>h) (fun _ h=>h.elim));exact⟨_,_,_,_,_,CN _ _ _ a3,hk,k1,i2.trans k2,k3⟩
     ·exact hk.elim
   ·exact hk.elim
  ·exact hk.elim
theorem gu{ty:TypeId}{x:AV}{vx:Value}{K:HK}(hx:BI g w (AR h) x vx)(hk:gq h x K):NS P w0 g0 h0 h g w (Instr.next vx false ty) K:=by
 unfold gq at hk;split at hk
 ·rename_i r;split at hk
  ·rename_i all rem Fz e0;have ho:=hI.objs r;rw[e0]at ho;obtain⟨t1,b,mb,JP,seen,st,es,ck,a1,a2,a3,a4,a5,⟨sh,a6⟩,a7,a8,a9,WH,ZH,a12,md⟩:=ho;have hl:(h r).live:=by rw[e0];trivial
   cases hx with
   |ref _ _ _ b' hu ht hp =>
    rw[a2]at hp;cases hp;have DI:∀e∈es.toList,e.born<JP:=fun e he=>by
     obtain⟨i,hi⟩:=B9.1 he
     have:=a6.2.2.2.2.1 i e (by simpa using hi)
     omega
    rcases run_next_at (P:=P) w ty b mb JP st seen es ck a3 a5 DI (by omega)with ⟨q1,q2⟩ | ⟨e,q1,w1,q2,q3⟩
    ·have uJ:rem=[]:=by
      apply Ls.2;intro kv Pg;obtain⟨i,hi⟩:=B9.1 (WH.2 kv Pg);have qf:i<es.size:=by rw[a6.1];exact(As.1 hi).1
      have hb:=(ZH i kv es[i] hi (by simp[qf])).1 Pg;have hm:es[i]∈leftOf es seen:=by simp[leftOf,hb]
      have:=Array.size_pos_of_mem hm
      omega
     exact⟨_,w,g,_,h,q2,hk.1 uJ,hI,.refl _ _ _,.tup _ _ _ rfl (fun i av x h1 h2=>by
      match i,h1,h2 with
      |0,h1,h2=>simp at h1 h2;subst h1;subst h2;exact .v _ _)⟩
    ·have hq:e∈es∧e.born∉seen:=by simpa[leftOf]using q1
     obtain⟨i,hi⟩:=Array.mem_iff_getElem?.1 hq.1;have qf:i<all.length:=by rw[←a6.1];exact(By.1 hi).1
     have ot:all[i]?=some all[i]:=Ay qf;have iK:=(ZH i _ e ot hi).2 hq.2;obtain⟨s1,s2,hs⟩:=List.append_of_mem iK;have IL:rem.Perm (all[i]::(s1++s2)):=by rw[hs];exact List.perm_middle
     have QY:(all[i]::(s1++s2)).Nodup:=IL.nodup_iff.1 WH.1;have hr:=a9 i _ e ot hi;have hkey:=a6.2.1 i _ e ot hi;have KK:w1.heap=w.heap∧w1.os=w.os∧w1.tape=w.tape∧w1.output=w.output:=by rcases q2 with rfl | rfl<;>exact⟨rfl,rfl,rfl,rfl⟩
     obtain⟨k1,k2⟩:=DJ.swap hI hl a1 md (.iter all (s1++s2) (some all[i])) a3 (.mapIter (some mb) JP (seen.push e.born) ck) w1 KK (by simp) (fun hg HQ EO Y1=>by
      obtain⟨u1,u2,u3,u4⟩:=BA g r (g.ρ r) (g.ln r) (g.tk r) (g.own r) g.S;obtain⟨c1,c2,c3⟩:=HQ mb 0 a4
      refine⟨u3.trans t1,b,mb,JP,_,ck,es,ck,u4.trans a1,u1.trans a2,EO,c1,c3 _ _ a5,⟨sh,a6⟩,a7,rfl,fun i kv e p q=>(a9 i kv e p q).mono HQ (fun _ h=>h) (fun _ h=>h.elim),
       ⟨(CT.1 QY).2,fun kv Pg=>WH.2 kv (IL.mem_iff.2 (Af _ Pg))⟩,fun j kv e' p q=>?_,⟨i,e,ot,hi,by simp⟩,md⟩
      rw[Array.mem_push];have h1:=ZH j kv e' p q;rw[IL.mem_iff,Au]at h1;constructor
      ·intro Pg hc;rcases hc with hc | hc
       ·exact(h1.1 (.inr Pg)) hc
       ·obtain rfl:=a6.2.2.2.2.2 j i e' e q hi hc;rw[ot]at p;cases p;exact(CT.1 QY).1 Pg
      ·intro hc;rcases h1.2 (fun hm=>hc (.inl hm))with e2 | e2
       ·have:j=i:=U5 (f:=fun x=>x) (l:=all) (by simpa using OM a6.2.2.2.1) p ot e2
        subst this;rw[hi]at q;cases q;exact absurd (.inr rfl) hc
       ·exact e2)
     refine⟨_,_,_,_,_,q3,hk.2 all[i] (s1++s2) IL,k1,k2,.tup _ _ _ rfl (fun j av x h1 h2=>?_)⟩
     match j,h1,h2 with
     |0,h1,h2=>simp at h1 h2;subst h1;subst h2;exact .v _ _
     |1,h1,h2=>simp at h1 h2;subst h1;subst h2;rw[hkey];exact .v _ _
     |2,h1,h2=>simp at h1 h2;subst h1;subst h2;exact(hr.up _).le k2
  ·exact hk.elim
 ·exact hk.elim
end
end Go.Eng
namespace Go.Eng
def F5(F:(AV→Prop)→Prop):Prop:=∀K,F K→∃v,K v∧∀K',K' v→F K'
theorem Dn(v:AV):F5 (fun K=>K v):=fun _ h=>⟨v,h,fun _ h=>h⟩
theorem DA{p:Prop}{F:(AV→Prop)→Prop}(h:F5 F):F5 (fun K=>p∧F K):=fun K ⟨hp,hk⟩ =>
 let ⟨v,h1,h2⟩:=h K hk
 ⟨v,h1,fun K' h'=>⟨hp,h2 K' h'⟩⟩
theorem CA:F5 (fun _=>False):=fun _ h=>h.elim
theorem Va(p:Prop):F5 (IJ p):=fun K h=>by
 by_cases hp:p
 ·exact⟨_,h.1 hp,fun K' h'=>⟨fun _=>h',fun hn=>absurd hp hn⟩⟩
 ·exact⟨_,h.2 hp,fun K' h'=>⟨fun q=>absurd q hp,fun _=>h'⟩⟩
theorem X8{F:(AV→Prop)→Prop}(h:F5 F):F5 (fun K=>F (cz K)):=fun K hk=>by
 obtain⟨v,h1,h2⟩:=h _ hk;unfold cz at h1;split at h1
 ·exact⟨_,h1,fun K' h'=>h2 _ h'⟩
 ·exact⟨_,h1,fun K' h'=>h2 _ h'⟩
 ·exact h1.elim
theorem ME{α:Type}{F:α→(AV→Prop)→Prop}(h:∀x,F5 (F x)):F5 (fun K=>∃x,F x K):=fun K ⟨x,hk⟩ =>
 let ⟨v,h1,h2⟩:=h x K hk
 ⟨v,h1,fun K' h'=>⟨x,h2 K' h'⟩⟩
theorem H7(T:Gq)(t:Nat)(cs:List AV):F5 (Lo T t cs):=by
 have head:F5 (LW cs):=by unfold LW;cases cs with | nil=>exact CA | cons a _=>exact Dn a
 unfold Lo;split
 ·exact DA (Dn _)
 ·exact DA (Dn _)
 ·cases cs with
  |nil=>exact CA
  |cons a _ =>
   intro K h;simp only[LW]at h⊢;split at h
   ·rename_i b;cases b with
    |true=>exact⟨_,h.1 rfl,fun K' h'=>⟨fun _=>h',fun e=>by cases e⟩⟩
    |false=>exact⟨_,h.2 rfl,fun K' h'=>⟨fun e=>(by cases e),fun _=>h'⟩⟩
   ·exact h.elim
 ·exact CA
 ·exact head
theorem az(T:Gq)(t:Nat)(x y:AV)(hx:∀tk es,x≠.slice tk es):F5 (om T t x y):=by
 unfold om
 repeat' split
 all_goals first | exact CA | exact Dn _ | exact Va _ | exact DA (Dn _) | exact absurd rfl (hx _ _)
theorem Zn(op:BinOp)(k:IntKind)(a b:Int):F5 (RH op k a b):=by
 unfold RH
 repeat' split
 all_goals first | exact CA | exact DA (Dn _) | (unfold Yu;split<;>first | exact CA | exact Dn _)
theorem gI(T:Gq)(op:BinOp)(t:Nat)(x y:AV)(hx:∀tk es,x≠.slice tk es):F5 (RL T op t x y):=by
 unfold RL
 repeat' split
 all_goals first | exact CA | exact Va _ | exact Zn _ _ _ _ | exact DA (Dn _) | exact az _ _ _ _ hx | exact X8 (az _ _ _ _ hx)
theorem cO(T:Gq)(op:BinOp)(t:Nat)(Y:Operand)(x y:AV)(hx:∀tk es,x≠.slice tk es):F5 (WP T op t Y x y):=by
 unfold WP
 repeat' split
 all_goals first | exact CA | exact Dn _ | exact gI _ _ _ _ _ hx
theorem cP(T:Gq)(s t:Nat)(x:AV):F5 (WX T s t x):=by
 unfold WX
 repeat' split
 all_goals first | exact CA | exact Dn _ | exact DA (Dn _) | exact ME fun _=>DA (Dn _)
theorem Zp(T:Gq)(s f:Nat)(x:AV):F5 (Se T s f x):=by
 unfold Se
 repeat' split
 all_goals first | exact CA | exact Dn _
theorem X6(T:Gq)(s f:Nat)(x:AV):F5 (Oi T s f x):=by
 unfold Oi
 repeat' split
 all_goals first | exact CA | exact H7 _ _ _
theorem Tq(T:Gq)(t:Nat)(x ix:AV):F5 (Jd T t x ix):=by
 unfold Jd
 repeat' split
 all_goals first | exact CA | exact DA (Dn _) | exact ME fun _=>DA (DA (Dn _))
theorem Zq(T:Gq)(t:Nat)(x ix:AV):F5 (SK T t x ix):=by
 unfold SK
 repeat' split
 all_goals first | exact CA | exact DA (H7 _ _ _) | exact ME fun _=>DA (Dn _)
theorem Wg(x:AV)(i:Nat):F5 (LN x i):=by
 unfold LN
 repeat' split
 all_goals first | exact CA | exact Dn _
theorem gK(x:AV):F5 (KA x):=by
 unfold KA
 repeat' split
 all_goals first | exact CA | exact Dn _
theorem cQ(c a b:AV):F5 (X4 c a b):=by
 unfold X4
 repeat' split
 all_goals first | exact CA | exact Dn _
theorem kD(f:Int→Int→Int)(x y:AV):F5 (kh f x y):=by
 unfold kh
 repeat' split
 all_goals first | exact CA | exact Dn _
theorem cR(op:UnOp)(x:AV):F5 (Yf op x):=by
 unfold Yf
 repeat' split
 all_goals first | exact CA | exact X8 (Dn _) | exact DA (Dn _)
def lf{α:Type}(F:(α→Prop)→Prop):Prop:=∀K,F K→∃v,K v∧∀K',K' v→F K'
theorem X5(n:Nat)(a:AV):lf (GX n a):=by
 intro K h;unfold GX at h⊢
 repeat' split at h
 all_goals first | exact h.elim | skip
 all_goals exact⟨_,h,fun K' h'=>h'⟩
theorem To(pl:Nat→Option (Nat×Nat))(t:Nat→AV):∀(ps:List (Nat×Operand)) (cs:List AV),lf (Ks pl cs t ps)
 | [],cs=>fun K h=>⟨cs,h,fun _ h=>h⟩
 |(i,x)::r,cs=>by
  intro K h;unfold Ks at h;split at h
  ·exact h.elim
  ·rename_i o n e;obtain⟨vs,h1,h2⟩:=X5 _ _ _ h;split at h1
   ·rename_i hb;obtain⟨c,h3,h4⟩:=To pl t r _ _ h1;refine⟨c,h3,fun K' h'=>?_⟩;unfold Ks;simp only[e];refine h2 _ ?_;simp only[hb];exact h4 K' h'
   ·exact h1.elim
theorem Zo(T:Gq)(ty:Nat)(t:Nat→AV)(ps:List (Nat×Operand)):F5 (Po T ty t ps):=by
 unfold Po
 repeat' split
 all_goals first
  |exact CA
  |exact fun K h=>let ⟨c,h1,h2⟩:=To _ _ _ _ _ h;⟨_,h1,fun K' h'=>h2 _ h'⟩
def wQ(h:Nat→HO)(e:Option (Nat×HO)):Nat→HO:=match e with | none=>h | some (r,o)=>AW h r o
structure IE(o:Oper)(R:List Nat)(st st2:St):Prop where
 t:∀x∈o.op.operands,ev st2.t x=ev st.t x
 h:∀r∈R,st2.h r=st.h r
def D7(cx:Cx)(o:Oper)(st:St)(R:List Nat)(w:Option Nat)(K:HK):Prop :=
 ∃v e,K v (wQ st.h e)∧(∀r o',e=some (r,o')→w=some r∧r∈R)∧∀st2,IE o R st st2→∀K' : HK,K' v (wQ st2.h e)→FL cx true o st2 K'
def Ry(w:Option Nat)(r:Nat):Prop:=match w with | none=>False | some x=>x=r∨(10000000≤x∧(x % 10000000=r∨x / 10000000=r))∨x=VA
def HZ(h:Nat→HO):List (Nat×HO)→Nat→HO
 | []=>h
 |p::l=>HZ (AW h p.1 p.2) l
def Rf(cx:Cx)(o:Oper)(st:St)(R:List Nat)(w:Option Nat)(K:HK):Prop :=
 ∃v e,K v (HZ st.h e)∧(∀r o',(r,o')∈e→Ry w r∧r∈R)∧∀st2,IE o R st st2→∀K' : HK,K' v (HZ st2.h e)→FL cx true o st2 K'
section
variable {cx:Cx}{o:Oper}{st:St}{R:List Nat}{w:Option Nat}{K:HK}
theorem D7.pick{F:(AV→Prop)→Prop}(hF:F5 F)(h:F fun v=>K v st.h)(h2:∀st2,IE o R st st2→∀K' : HK,F (fun v=>K' v st2.h)→FL cx true o st2 K'):D7 cx o st R w K :=
 let ⟨v,h1,h3⟩:=hF _ h
 ⟨v,none,h1,fun _ _ e=>(by cases e),fun st2 ha K' hk=>h2 st2 ha K' (h3 _ hk)⟩
theorem XN{cs:List AV}{a:AV}(h:a∈cs):∀r∈T7 a,r∈jV cs:=by
 induction cs with
 |nil=>cases h
 |cons c cs ih =>
  intro r hr;rcases Au.1 h with rfl | h
  ·exact Bi _ hr
  ·exact Bl _ (ih h r hr)
theorem fX{cs:List AV}{a:AV}(h:a∈cs):∀r∈T8 a,r∈nv cs:=by
 induction cs with
 |nil=>cases h
 |cons c cs ih =>
  intro r hr;rcases Au.1 h with rfl | h
  ·exact Bi _ hr
  ·exact Bl _ (ih h r hr)
theorem XM{cs:List AV}{a:AV}(h:a∈cs):∀r∈WA a,r∈SD cs:=by
 induction cs with
 |nil=>cases h
 |cons c cs ih =>
  intro r hr;rcases Au.1 h with rfl | h
  ·exact Bi _ hr
  ·exact Bl _ (ih h r hr)
theorem UP(a:AV):∀r∈T7 a,r∈T8 a:=by cases a<;>simp[T7,T8]
theorem PY{h h2:Nat→HO}{a:AV}(e:∀r∈T7 a,h2 r=h r):str0 h2 a=str0 h a:=by
 cases a<;>simp only[str0]
 ·rw[e _ (by simp[T7])]
 ·rw[e _ (by simp[T7])]
theorem Vj{h h2:Nat→HO}{a:AV}(e:∀r∈T8 a,h2 r=h r):str h2 a=str h a:=by
 cases a with
 |agg cs=>simp only[str];exact Ac _ (Bf fun c hc=>PY fun r hr=>e r (XN hc r hr))
 |clo f cs=>simp only[str];exact Ac _ (Bf fun c hc=>PY fun r hr=>e r (XN hc r hr))
 |_=>exact PY (fun r hr=>e r (UP _ r hr))
theorem fJ(a:AV):∀r∈T8 a,r∈WA a:=by
 cases a with
 |agg cs =>
  intro r hr;simp only[WA,T8]at *
  induction cs with
  |nil=>exact hr
  |cons c cs ih =>
   rcases A3.1 hr with h | h
   ·exact Bi _ (UP c r h)
   ·exact Bl _ (ih h)
 |_=>exact fun r hr=>hr
theorem KI{h h2:Nat→HO}{a:AV}(e:∀r∈WA a,h2 r=h r):str h2 a=str h a:=Vj fun r hr=>e r (fJ a r hr)
theorem PZ{h h2:Nat→HO}{l:List AV}(e:∀r∈SD l,h2 r=h r):l.map (str h2)=l.map (str h) :=
 Bf fun _ ha=>KI fun r hr=>e r (XM ha r hr)
theorem gY{h h2:Nat→HO}{a:AV}(e:∀r∈WA a,h2 r=h r):rsv h2 a=rsv h a:=by
 cases a<;>simp only[rsv]
 ·rw[e _ (by simp[WA,T8,T7])]
 ·rw[e _ (by simp[WA,T8,T7])]
theorem Nk{n:Nat}{a:AV}{K:List AV→Prop}(hk:GX n a K):∃cs,K cs∧(∀K' : List AV→Prop,K' cs→GX n a K')∧∀h h2:Nat→HO,(∀r∈WA a,h2 r=h r)→cs.map (str h2)=cs.map (str h):=by
 have single:K [a]→(∀K' : List AV→Prop,K' [a]→GX n a K')→∃cs,K cs∧(∀K' : List AV→Prop,K' cs→GX n a K')∧∀h h2:Nat→HO,(∀r∈WA a,h2 r=h r)→cs.map (str h2)=cs.map (str h) :=
  fun h1 h2=>⟨[a],h1,h2,fun h h2 e=>by simp[KI e]⟩
 unfold GX at hk;split at hk
 ·rename_i cs;split at hk
  ·rename_i hn;refine⟨cs,hk,fun K' h=>by unfold GX;simp only[hn];exact h,fun h h2 e=>Bf fun c hc=>Vj fun r hr=>e r (fX hc r hr)⟩
  ·exact hk.elim
 ·rename_i na;split at hk
  ·rename_i h1;split at hk
   ·refine single hk fun K' h=>?_;unfold GX;split
    ·rename_i cs;exact absurd rfl (na cs)
    ·rw[h1];exact h
   ·exact hk.elim
  ·exact hk.elim
theorem Sf{n sz:Nat}{t:Nat→AV}:∀{ps:List (Nat×Operand)} {es:List (List AV)} {h:Nat→HO} {K:List (List AV)→Prop},Qt n sz h es t ps K →
  ∃FA,K FA∧∀(t2:Nat→AV) (h2:Nat→HO),(∀r∈SD (ps.map fun p=>ev t p.2),h2 r=h r)→(∀p∈ps,ev t2 p.2=ev t p.2)→∀K' : List (List AV)→Prop,K' FA→Qt n sz h2 es t2 ps K'
 | [],es,h,K,hk=>⟨es,hk,fun _ _ _ _ _ h=>h⟩
 |(i,x)::r,es,h,K,hk=>by
  unfold Qt at hk;split at hk
  ·rename_i hb;obtain⟨cs,c1,c2,c3⟩:=Nk hk;obtain⟨FA,e1,e2⟩:=Sf c1;refine⟨FA,e1,fun t2 h2 hh ht K' JX=>?_⟩;unfold Qt;rw[hb,ht (i,x) (Aa ..)];refine c2 _ ?_;rw[c3 h h2 (fun r hr=>hh r (Bi _ hr))];exact e2 t2 h2 (fun r hr=>hh r (Bl _ hr)) (fun p hp=>ht p (Af _ hp)) K' JX
  ·exact hk.elim
theorem Ie{d:Option Nat}{h:Nat→HO}{sz:Nat}{es:List (List AV)}(hk:Ew cx d h sz es K) :
  ∃d',d.map (Kq cx)=some d'∧∃v x,K v (AW h d' x)∧∀h2:Nat→HO,h2 d'=h d'→∀K' : HK,K' v (AW h2 d' x)→Ew cx d h2 sz es K':=by
 unfold Ew at hk;split at hk
 ·exact hk.elim
 ·rename_i d;split at hk
  ·rename_i hd;split at hk
   ·rename_i e;exact⟨Kq cx d,rfl,_,_,hk,fun h2 hh K' h'=>by unfold Ew;simp only[hh,hd,e];exact h'⟩
   ·rename_i e;exact⟨Kq cx d,rfl,_,_,hk,fun h2 hh K' h'=>by unfold Ew;simp only[hh,hd,e];exact h'⟩
  ·exact hk.elim
theorem YK{h:Nat→HO}{x:AV}{K:List (List AV)→Prop}(hk:KV h x K):∃es,K es∧∀h2:Nat→HO,(∀r n,x=.msl r n→h2 r=h r)→∀K' : List (List AV)→Prop,K' es→KV h2 x K':=by
 unfold KV at hk;split at hk
 ·exact⟨_,hk,fun _ _ K' h=>h⟩
 ·exact⟨_,hk,fun _ _ K' h=>h⟩
 ·rename_i r n;split at hk
  ·rename_i sz es e;exact⟨_,hk.2,fun h2 hh K' h=>by unfold KV;simp only[hh r n rfl,e];exact⟨hk.1,h⟩⟩
  ·exact hk.elim
 ·exact hk.elim
end
section
variable {cx:Cx}{dst:Option Nat}{ty:Nat}{pos:String}{after:Array Edge}{gd:Option (Nat×Bool)}{st:St}{R:List Nat}{w:Option Nat}{K:HK}
theorem Ip{d:Option Nat}{l:List Nat}{f:Fr}(h:Io d l=some f):∃d',d=some d'∧f=(d' :: l,some d'):=by
 unfold Io at h;cases d with
 |none=>cases h
 |some d=>cases h;exact⟨d,rfl,rfl⟩
theorem Xg{e:Nat}(hk:FL cx true ⟨dst,.alloc e,ty,pos,after,gd⟩ st K)(hf:Fa cx ⟨dst,.alloc e,ty,pos,after,gd⟩ st=some (R,w)):D7 cx ⟨dst,.alloc e,ty,pos,after,gd⟩ st R w K:=by
 simp only[FL]at hk;obtain⟨d,rfl,e0⟩:=Ip hf;cases e0;unfold RF at hk;simp only at hk;split at hk
 ·rename_i hd;split at hk
  ·exact hk.elim
  ·rename_i DD;split at hk
   ·rename_i ha;refine⟨_,some (d,_),hk,fun r o' e=>(by cases e;exact⟨rfl,Aa ..⟩),fun st2 GU K' h'=>?_⟩;simp only[FL,RF];rw[GU.h d (Aa ..),hd];simp only[ha];exact h'
   ·exact hk.elim
 ·exact hk.elim
theorem bF{e:Nat}{x:Operand}(hk:FL cx true ⟨dst,.box e x,ty,pos,after,gd⟩ st K)(hf:Fa cx ⟨dst,.box e x,ty,pos,after,gd⟩ st=some (R,w)):D7 cx ⟨dst,.box e x,ty,pos,after,gd⟩ st R w K:=by
 simp only[FL]at hk;obtain⟨d,rfl,e0⟩:=Ip hf;cases e0;unfold bm at hk;simp only at hk;split at hk
 ·rename_i hd;split at hk
  ·exact hk.elim
  ·rename_i DD;obtain⟨cs,c1,c2,c3⟩:=Nk hk;split at c1
   ·rename_i hm;refine⟨_,some (d,_),c1,fun r o' e=>(by cases e;exact⟨rfl,Aa ..⟩),fun st2 GU K' h'=>?_⟩;have hx:ev st2.t x=ev st.t x:=GU.t x (by simp[Op.operands]);simp only[FL,bm];rw[GU.h d (Aa ..),hd,hx];simp only[hm];refine c2 _ ?_;rw[c3 st.h st2.h (fun r hr=>GU.h r (Af _ hr))];exact h'
   ·rename_i hm;refine⟨_,some (d,_),c1,fun r o' e=>(by cases e;exact⟨rfl,Aa ..⟩),fun st2 GU K' h'=>?_⟩;have hx:ev st2.t x=ev st.t x:=GU.t x (by simp[Op.operands]);simp only[FL,bm];rw[GU.h d (Aa ..),hd,hx];simp only[hm];exact c2 _ h'
 ·exact hk.elim
theorem Px{t n:Nat}{ps:Array (Nat×Operand)}(hk:FL cx true ⟨dst,.buildSlice t n ps,ty,pos,after,gd⟩ st K)(hf:Fa cx ⟨dst,.buildSlice t n ps,ty,pos,after,gd⟩ st=some (R,w)) :
  D7 cx ⟨dst,.buildSlice t n ps,ty,pos,after,gd⟩ st R w K:=by
 simp only[FL]at hk;obtain⟨d,bM,e0⟩:=Ip hf;cases e0;unfold Im at hk;split at hk
 ·rename_i e he;split at hk
  ·rename_i h1 h2;split at hk
   ·exact hk.elim
   ·rename_i k EH;split at hk
    ·rename_i hb;obtain⟨es,q1,q2⟩:=Sf hk;obtain⟨d',hd,v,x,q3,q4⟩:=Ie q1;have hd:dst.map (Kq cx)=some d':=hd;have bM:dst.map (Kq cx)=some d:=bM;rw[bM]at hd;cases hd;refine⟨v,some (d,x),q3,fun r o' e=>(by cases e;exact⟨rfl,Aa ..⟩),fun st2 GU K' h'=>?_⟩;have hx:∀p∈ps.toList,ev st2.t p.2=ev st.t p.2:=fun p hp=>GU.t p.2 (by
      simp only[Op.operands,List.mem_toArray];exact Am.2 ⟨p,hp,rfl⟩)
     simp only[FL,Im,he,h1,h2];split
     ·rename_i e0;rw[EH]at e0;cases e0
     ·rw[hb];exact q2 st2.t st2.h (fun r hr=>GU.h r (Af _ hr)) hx _ (q4 st2.h (GU.h d (Aa ..)) K' h')
    ·exact hk.elim
  ·exact hk.elim
 ·exact hk.elim
theorem QV{t:Nat}{n c:Operand}(hk:FL cx true ⟨dst,.makeSlice t n c,ty,pos,after,gd⟩ st K)(hf:Fa cx ⟨dst,.makeSlice t n c,ty,pos,after,gd⟩ st=some (R,w)) :
  D7 cx ⟨dst,.makeSlice t n c,ty,pos,after,gd⟩ st R w K:=by
 simp only[FL]at hk;obtain⟨d,bM,e0⟩:=Ip hf;cases e0;have hn:∀st2,IE ⟨dst,.makeSlice t n c,ty,pos,after,gd⟩ (d::[]) st st2→ev st2.t n=ev st.t n∧ev st2.t c=ev st.t c:=fun st2 ha=>⟨ha.t n (by simp[Op.operands]),ha.t c (by simp[Op.operands])⟩;unfold Jg at hk;split at hk
 ·rename_i e a b h1 h2 h3;split at hk
  ·rename_i h4;split at hk
   ·rename_i h5;split at hk
    ·exact hk.elim
    ·rename_i k EH;obtain⟨d',hd,v,x,q3,q4⟩:=Ie hk.2;have hd:dst.map (Kq cx)=some d':=hd;have bM:dst.map (Kq cx)=some d:=bM;rw[bM]at hd;cases hd;refine⟨v,some (d,x),q3,fun r o' e=>(by cases e;exact⟨rfl,Aa ..⟩),fun st2 GU K' h'=>?_⟩;simp only[FL,Jg,(hn st2 GU).1,(hn st2 GU).2,h1,h2,h3,h4,h5];split
     ·rename_i e0;rw[EH]at e0;cases e0
     ·exact⟨hk.1,q4 st2.h (GU.h d (Aa ..)) K' h'⟩
   ·exact hk.elim
  ·exact hk.elim
 ·exact hk.elim
theorem T0{t:Nat}{r:Option Operand}(hk:FL cx true ⟨dst,.makeMap t r,ty,pos,after,gd⟩ st K)(hf:Fa cx ⟨dst,.makeMap t r,ty,pos,after,gd⟩ st=some (R,w)) :
  D7 cx ⟨dst,.makeMap t r,ty,pos,after,gd⟩ st R w K:=by
 cases r with
 |some r=>exact hk.elim
 |none =>
  simp only[FL]at hk;obtain⟨d,rfl,e0⟩:=Ip hf;cases e0;unfold Kx at hk;simp only at hk;split at hk
  ·rename_i hd;split at hk
   ·rename_i h1;split at hk
    ·rename_i h2;split at hk
     ·rename_i h3;refine⟨_,some (d,_),hk,fun r o' e=>(by cases e;exact⟨rfl,Aa ..⟩),fun st2 GU K' h'=>?_⟩;simp only[FL,Kx];rw[GU.h d (Aa ..),hd];simp only[h1,h2,h3];exact h'
     ·rename_i h3;refine⟨_,some (d,_),hk,fun r o' e=>(by cases e;exact⟨rfl,Aa ..⟩),fun st2 GU K' h'=>?_⟩;simp only[FL,Kx];rw[GU.h d (Aa ..),hd];simp only[h1,h2,h3];exact h'
    ·exact hk.elim
   ·exact hk.elim
  ·exact hk.elim
theorem Xh{t:Nat}{p x:Operand}(hk:FL cx true ⟨dst,.store t p x,ty,pos,after,gd⟩ st K)(hf:Fa cx ⟨dst,.store t p x,ty,pos,after,gd⟩ st=some (R,w)) :
  D7 cx ⟨dst,.store t p x,ty,pos,after,gd⟩ st R w K:=by
 simp only[FL]at hk;have hn:∀st2,IE ⟨dst,.store t p x,ty,pos,after,gd⟩ R st st2→ev st2.t p=ev st.t p∧ev st2.t x=ev st.t x:=fun st2 ha=>⟨ha.t p (by simp[Op.operands]),ha.t x (by simp[Op.operands])⟩;unfold NN at hk;split at hk
 ·exact hk.elim
 ·rename_i DD;obtain⟨cs,c1,c2,c3⟩:=Nk hk;simp only[Fa]at hf;split at hf
  ·rename_i r off hp;split at hf
   ·cases hf
   ·rename_i hm;cases hf;rw[hp]at c1;simp only at c1;split at c1
    ·rename_i Fz hr;obtain⟨Hi,JX⟩:=c1;rw[hm]at JX;refine⟨_,some (r,_),JX,fun r o' e=>(by cases e;exact⟨rfl,Aa ..⟩),fun st2 GU K' h'=>?_⟩;simp only[FL,NN,(hn st2 GU).1,(hn st2 GU).2];refine c2 _ ?_;rw[hp];simp only[GU.h r (Aa ..),hr,hm];exact⟨Hi,h'⟩
    ·exact c1.elim
  ·rename_i r n sz i off hp;cases hf;rw[hp]at c1;simp only at c1;split at c1
   ·rename_i Gm es hr;split at c1
    ·rename_i hs;obtain⟨Hi,cell,e1,e2,JX⟩:=c1;split at JX
     ·rename_i j m;refine⟨_,some (r,_),JX,fun r o' e=>(by cases e;exact⟨rfl,Aa ..⟩),fun st2 GU K' h'=>?_⟩;simp only[FL,NN,(hn st2 GU).1,(hn st2 GU).2];refine c2 _ ?_;rw[hp];simp only[GU.h r (Aa ..),hr,hs];exact⟨Hi,cell,e1,e2,h'⟩
     ·rename_i QZ;refine⟨_,some (r,_),JX,fun r o' e=>(by cases e;exact⟨rfl,Aa ..⟩),fun st2 GU K' h'=>?_⟩;simp only[FL,NN,(hn st2 GU).1,(hn st2 GU).2];refine c2 _ ?_;rw[hp];simp only[GU.h r (Aa ..),hr,hs];refine⟨Hi,cell,e1,e2,?_⟩;rw[c3 st.h st2.h (fun r hr=>GU.h r (Af _ hr))];exact h'
    ·exact c1.elim
   ·exact c1.elim
  ·cases hf
theorem QW{t:Nat}{m k x:Operand}(hk:FL cx true ⟨dst,.mapUpdate t m k x,ty,pos,after,gd⟩ st K)(hf:Fa cx ⟨dst,.mapUpdate t m k x,ty,pos,after,gd⟩ st=some (R,w)) :
  D7 cx ⟨dst,.mapUpdate t m k x,ty,pos,after,gd⟩ st R w K:=by
 simp only[FL]at hk;have hn:∀st2,IE ⟨dst,.mapUpdate t m k x,ty,pos,after,gd⟩ R st st2→ev st2.t m=ev st.t m∧ev st2.t k=ev st.t k∧ev st2.t x=ev st.t x:=fun st2 ha=>⟨ha.t m (by simp[Op.operands]),ha.t k (by simp[Op.operands]),ha.t x (by simp[Op.operands])⟩;simp only[Fa]at hf;split at hf
 ·rename_i r hm;cases hf;unfold GZ at hk;rw[hm]at hk;simp only at hk;split at hk
  ·rename_i sh B4 hr;unfold J0 at hk;split at hk
   ·rename_i kt e h1;split at hk
    ·rename_i sE h2;split at hk
     ·rename_i h3;split at hk
      ·rename_i kx h4;split at hk
       ·rename_i h5;refine⟨_,some (r,_),hk,fun r o' e=>(by cases e;exact⟨rfl,Aa ..⟩),fun st2 GU K' h'=>?_⟩;obtain⟨n1,n2,n3⟩:=hn st2 GU;simp only[FL,GZ,n1,n2,n3,hm,GU.h r (Aa ..),hr,J0,h1,h2,h3,h4,h5];rw[KI (h:=st.h) (h2:=st2.h) (fun r hr=>GU.h r (Af _ hr))];exact h'
       ·exact hk.elim
      ·exact hk.elim
     ·exact hk.elim
    ·exact hk.elim
   ·exact hk.elim
  ·rename_i sh B4 hr;unfold J0 at hk;split at hk
   ·rename_i kt e h1;split at hk
    ·rename_i sE h2;split at hk
     ·rename_i h3;split at hk
      ·rename_i kx h4;split at hk
       ·rename_i h5;refine⟨_,some (r,_),hk,fun r o' e=>(by cases e;exact⟨rfl,Aa ..⟩),fun st2 GU K' h'=>?_⟩;obtain⟨n1,n2,n3⟩:=hn st2 GU;simp only[FL,GZ,n1,n2,n3,hm,GU.h r (Aa ..),hr,J0,h1,h2,h3,h4,h5];exact h'
       ·exact hk.elim
      ·exact hk.elim
     ·exact hk.elim
    ·exact hk.elim
   ·exact hk.elim
  ·exact hk.elim
 ·cases hf
theorem aA{A B:(AV→Prop)→Prop}(ha:F5 A)(hb:F5 B):F5 fun K=>A K∨B K:=by
 intro K hk;rcases hk with hk | hk
 ·obtain⟨v,h1,h2⟩:=ha K hk;exact⟨v,h1,fun K' h=>.inl (h2 K' h)⟩
 ·obtain⟨v,h1,h2⟩:=hb K hk;exact⟨v,h1,fun K' h=>.inr (h2 K' h)⟩
theorem So{fn:Fn}{first cap:Array Operand}(hk:FL cx true ⟨dst,.makeFunc fn first cap,ty,pos,after,gd⟩ st K)(hf:Fa cx ⟨dst,.makeFunc fn first cap,ty,pos,after,gd⟩ st=some (R,w)) :
  D7 cx ⟨dst,.makeFunc fn first cap,ty,pos,after,gd⟩ st R w K:=by
 simp only[FL]at hk;simp only[Fa]at hf;cases hf;unfold Kw at hk;split at hk
 ·rename_i f h1;refine⟨_,none,hk,fun r o' e=>(by cases e),fun st2 GU K' h'=>?_⟩;simp only[FL,h1,Kw]
  have:cap.toList.map (fun x=>rsv st2.h (ev st2.t x))=cap.toList.map (fun x=>rsv st.h (ev st.t x)):=Bf fun x hx=>by
   rw[GU.t x (by simp only[Op.operands,Rw];exact .inr (by simpa using hx))];exact gY fun r hr=>GU.h r (XM (Am.2 ⟨x,hx,rfl⟩) r hr)
  rw[this];exact h'
 ·exact hk.elim
end
end Go.Eng
