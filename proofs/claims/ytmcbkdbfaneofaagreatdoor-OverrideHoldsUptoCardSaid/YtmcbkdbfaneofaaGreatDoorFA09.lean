/- Lemmas for the claims of this seat, without a condition: part 9 (EngT, EngU, EngV, EngW). -/
import Derived.Test.YtmcbkdbfaneofaaGreatDoorFA08
import Derived.Maps.RangeRun
namespace Go.Eng
open Go.ChangeMaps (setBlock)
theorem Uq{w:World}{r:Nat}{o o' : Obj}(h:w.heap[r]?=some o):(setBlock w r o').heap[r]?=some o':=by
 have:=(Bz.1 h).1
 simp[setBlock,this]
theorem TN{w:World}{r k:Nat}{o' : Obj}(h:k≠r):(setBlock w r o').heap[k]?=w.heap[k]?:=by
 simp[setBlock,Ne.symm h]
theorem Nr(w:World)(r:Nat)(o' : Obj):(setBlock w r o').heap.size=w.heap.size:=by simp[setBlock]
theorem OX{α β:Type}{f:α→β}{l:List α}(h:(l.map f).Nodup):l.Nodup:=by
 induction l with
 |nil=>exact Fb
 |cons c l ih =>
  rw[AN,CA]at h;exact CA.2 ⟨fun hc=>h.1 (Al.2 ⟨c,hc,rfl⟩),ih h.2⟩
theorem Ve{α β:Type}{f:α→β}{l:List α}(h:(l.map f).Nodup){i j:Nat}{a b:α}(ha:l[i]?=some a)(hb:l[j]?=some b)(he:f a=f b):i=j:=by
 induction l generalizing i j with
 |nil=>simp at ha
 |cons c l ih =>
  rw[AN,CA]at h;cases i with
  |zero =>
   cases j with
   |zero=>rfl
   |succ j =>
    simp only[A9,Bm,GM]at ha hb;exact absurd (Al.2 ⟨b,Av hb,by rw[←he,ha]⟩) h.1
  |succ i =>
   cases j with
   |zero =>
    simp only[A9,Bm,GM]at ha hb;exact absurd (Al.2 ⟨a,Av ha,by rw[he,hb]⟩) h.1
   |succ j=>exact Ac (·+1) (ih h.2 ha hb)
open Classical in
theorem PR{B4:List (Value×AV)}{k:Value}{a b:AV}(h:(k,b)∈B4):ET B4 k a=B4.map fun p=>if p.1=k then(k,a)else p:=Aw ⟨b,h⟩
open Classical in
theorem KF{B4:List (Value×AV)}{k:Value}{a:AV}(h:∀b,(k,b)∉B4):ET B4 k a=B4++[(k,a)]:=Ai (fun⟨b,e⟩=>h b e)
theorem Vc{sh:EJ}{es:Array MapEntry}{ck:Nat}{B4:List (Value×AV)}(f:AV→AV)(h:G6 sh es ck B4):G6 sh es ck (B4.map fun p=>(p.1,f p.2)):=by
 obtain⟨h1,h2,h3,h4,h5,h6⟩:=h;refine⟨by simp[h1],fun i kv e q1 q2=>?_,fun kv Pt=>?_,?_,h5,h6⟩
 ·rw[AI]at q1;obtain⟨p,q3,rfl⟩:=AZ.1 q1;exact h2 i p e q3 q2
 ·obtain⟨p,hp,rfl⟩:=Al.1 Pt;exact h3 p hp
 ·rw[BN];exact h4
theorem OQ{sh:EJ}{es:Array MapEntry}{ck:Nat}{B4:List (Value×AV)}(h:G6 sh es ck B4){x:Value}{a v:AV}{y:Value}{j:Nat}(hj:B4[j]?=some (x,a)) :
  G6 sh (es.modify j fun e=>{ e with key:=x,val:=y }) ck (ET B4 x v) ∧
   ∀(i:Nat) (kv:Value×AV) (e:MapEntry),(ET B4 x v)[i]?=some kv→(es.modify j fun e=>{ e with key:=x,val:=y })[i]?=some e →
    (kv.2=v∧e.val=y)∨(B4[i]?=some kv∧es[i]?=some e):=by
 classical
 rw[PR (Av hj)];obtain⟨h1,h2,h3,h4,h5,h6⟩:=h;have hm:∀i e,(es.modify j fun e=>{ e with key:=x,val:=y })[i]?=some e→∃e0,es[i]?=some e0∧e.born=e0.born∧(if i=j then e.key=x∧e.val=y else e=e0):=by
  intro i e he;rw[Array.getElem?_modify]at he;split at he
  ·rename_i e1;subst e1;obtain⟨e0,q1,q2⟩:=AZ.1 he;exact⟨e0,q1,by rw[←q2],by rw[Aw rfl,←q2];exact⟨rfl,rfl⟩⟩
  ·rename_i e1;exact⟨e,he,rfl,by rw[Ai (fun q=>e1 q.symm)]⟩
 have hk:∀i kv,(B4.map fun p=>if p.1=x then(x,v)else p)[i]?=some kv→∃p,B4[i]?=some p∧kv.1=p.1∧(if i=j then kv.2=v else kv=p):=by
  intro i kv Pt;rw[AI]at Pt;obtain⟨p,q1,q2⟩:=AZ.1 Pt;refine⟨p,q1,?_⟩
  by_cases e:p.1=x
  ·rw[Aw e]at q2;subst q2
   have:=Ve h4 q1 hj e
   exact⟨e.symm,by rw[Aw this]⟩
  ·rw[Ai e]at q2;subst q2;refine⟨rfl,?_⟩;rw[Ai];intro e2;subst e2;rw[q1]at hj;cases hj;exact e rfl
 have qV:(B4.map fun p=>if p.1=x then(x,v)else p).map (·.1)=B4.map (·.1):=by
  rw[BN];apply Bf;intro p _;simp only[Function.comp];split
  ·rename_i e;exact e.symm
  ·rfl
 refine⟨⟨by simp[h1],fun i kv e q1 q2=>?_,fun kv Pt=>?_,by rw[qV];exact h4,fun i e q=>?_,fun i i' e e' q q' hb=>?_⟩,fun i kv e q1 q2=>?_⟩
 ·obtain⟨p,p1,p2,p3⟩:=hk i kv q1;obtain⟨e0,r1,r2,r3⟩:=hm i e q2
  have:=h2 i p e0 p1 r1
  split at r3
  ·rename_i ij;subst ij;rw[hj]at p1;cases p1;rw[r3.1,p2]
  ·rw[r3,p2];exact this
 ·obtain⟨i,hi⟩:=Ca.1 Pt;obtain⟨p,p1,p2,p3⟩:=hk i kv hi;rw[p2];exact h3 p (Av p1)
 ·obtain⟨e0,r1,r2,_⟩:=hm i e q;rw[r2];exact h5 i e0 r1
 ·obtain⟨e0,r1,r2,_⟩:=hm i e q;obtain⟨e1,s1,s2,_⟩:=hm i' e' q';exact h6 i i' e0 e1 r1 s1 (by rw[←r2,←s2];exact hb)
 ·obtain⟨p,p1,p2,p3⟩:=hk i kv q1;obtain⟨e0,r1,r2,r3⟩:=hm i e q2;split at r3
  ·rename_i ij;rw[Aw ij]at p3;exact .inl ⟨p3,r3.2⟩
  ·rename_i ij;rw[Ai ij]at p3;exact .inr ⟨by rw[p3];exact p1,by rw[r3];exact r1⟩
theorem Tn{sh:EJ}{es:Array MapEntry}{ck:Nat}{B4:List (Value×AV)}(h:G6 sh es ck B4){x:Value}{v:AV}{y:Value}(hx:Vo sh x=true)(hn:∀a,(x,a)∉B4) :
  G6 sh (es.push { key:=x,val:=y,born:=ck }) (ck+1) (ET B4 x v) ∧
   ∀(i:Nat) (kv:Value×AV) (e:MapEntry),(ET B4 x v)[i]?=some kv→(es.push { key:=x,val:=y,born:=ck })[i]?=some e →
    (kv.2=v∧e.val=y)∨(B4[i]?=some kv∧es[i]?=some e):=by
 rw[KF hn];obtain⟨h1,h2,h3,h4,h5,h6⟩:=h;have hm:∀i e,(es.push { key:=x,val:=y,born:=ck })[i]?=some e→(es[i]?=some e∧i<es.size)∨(i=es.size∧e={ key:=x,val:=y,born:=ck }):=by
  intro i e he;rw[Array.getElem?_push]at he;split at he
  ·rename_i q;cases he;exact .inr ⟨q,rfl⟩
  ·exact .inl ⟨he,(Bz.1 he).1⟩
 have hk:∀i kv,(B4++[(x,v)])[i]?=some kv→(B4[i]?=some kv∧i<es.size)∨(i=es.size∧kv=(x,v)):=by
  intro i kv Pt;rw[LP]at Pt;split at Pt
  ·rename_i q;exact .inl ⟨Pt,by omega⟩
  ·rename_i q
   have:i-B4.length=0:=by
    have:=(At.1 Pt).1
    simp at this;omega
   rw[this]at Pt;simp at Pt;exact .inr ⟨by omega,Pt.symm⟩
 refine⟨⟨by simp[h1],fun i kv e q1 q2=>?_,fun kv Pt=>?_,?_,fun i e q=>?_,fun i i' e e' q q' hb=>?_⟩,fun i kv e q1 q2=>?_⟩
 ·rcases hk i kv q1 with ⟨p1,p2⟩ | ⟨p1,p2⟩<;>rcases hm i e q2 with ⟨r1,r2⟩ | ⟨r1,r2⟩
  ·exact h2 i kv e p1 r1
  ·omega
  ·omega
  ·rw[p2,r2]
 ·rcases A8.1 Pt with q | q
  ·exact h3 kv q
  ·rw[Am.1 q];exact hx
 ·rw[AH,Gc];refine⟨h4,by simp,fun a ha b hb e=>?_⟩;simp only[AN,E5,Am]at hb;obtain⟨p,p1,p2⟩:=Al.1 ha;refine hn p.2 ?_
  have:p=(x,p.2):=by rw[←hb,←e,←p2]
  rw[←this];exact p1
 ·rcases hm i e q with ⟨r1,_⟩ | ⟨_,r2⟩
  ·have:=h5 i e r1;omega
  ·rw[r2];exact GQ _
 ·rcases hm i e q with ⟨r1,_⟩ | ⟨r1,r2⟩<;>rcases hm i' e' q' with ⟨s1,_⟩ | ⟨s1,s2⟩
  ·exact h6 i i' e e' r1 s1 hb
  ·have:=h5 i e r1;rw[s2]at hb;dsimp only at hb;omega
  ·have:=h5 i' e' s1;rw[r2]at hb;dsimp only at hb;omega
  ·omega
 ·rcases hk i kv q1 with ⟨p1,p2⟩ | ⟨p1,p2⟩<;>rcases hm i e q2 with ⟨r1,r2⟩ | ⟨r1,r2⟩
  ·exact .inr ⟨p1,r1⟩
  ·omega
  ·omega
  ·exact .inl ⟨by rw[p2],by rw[r2]⟩
section
variable {P:Program}{w0:World}{g0:Gh}{h0 h:Nat→HO}{g:Gh}{w:World}(hI:DM w0 g0 h0 h g w)
include hI
theorem DM.swap{r b:Nat}(hl:(h r).live)(ho:g.own r=some b)(hn:∀o,¬g.S b o)(o' : HO){ob:Obj}(hb:w.heap[b]?=some ob)(aS : Obj)(w1:World)(KP:w1.heap=w.heap∧w1.os=w.os∧w1.tape=w.tape∧w1.output=w.output)(DE:o'≠.free)
  (Jg:JY g (g.upd r (g.ρ r) (g.ln r) (g.tk r) (g.own r) g.S) (AR h)→E2 g w (g.upd r (g.ρ r) (g.ln r) (g.tk r) (g.own r) g.S) (setBlock w1 b aS)→(setBlock w1 b aS).heap[b]?=some aS →
   (∀k,k≠b→(setBlock w1 b aS).heap[k]?=w.heap[k]?) →
   Ej (g.upd r (g.ρ r) (g.ln r) (g.tk r) (g.own r) g.S) (setBlock w1 b aS) (AR (AW h r o')) r o') :
  DM w0 g0 h0 (AW h r o') (g.upd r (g.ρ r) (g.ln r) (g.tk r) (g.own r) g.S) (setBlock w1 b aS)∧Le h g w (AW h r o') (g.upd r (g.ρ r) (g.ln r) (g.tk r) (g.own r) g.S) (setBlock w1 b aS):=by
 have DL:=(hI.loc r b hl ho).1;have ES:(setBlock w1 b aS).heap[b]?=some aS:=Uq (by rw[KP.1];exact hb);have Zj:∀k,k≠b→(setBlock w1 b aS).heap[k]?=w.heap[k]?:=fun k hk=>by rw[TN hk,KP.1]
 refine hI.upd r o' _ _ _ _ _ _ (some b) ⟨KP.2.1,KP.2.2.1,KP.2.2.2,by rw[Nr,KP.1];exact Ak _⟩ (fun k _ DE=>Zj k (fun e=>DE (by rw[e]))) (fun b' e=>by cases e;exact⟨hl,ho⟩) (fun _ _ h=>h) (fun _ _ h=>.inl h)
  (fun b' o e hs=>by cases e;exact absurd hs (hn o)) (fun b' _ e=>?_) DE (fun _=>⟨rfl,Ak _,fun _=>rfl,fun _=>rfl⟩) (fun hg hk=>Jg hg hk ES Zj)
 rw[ho]at e;cases e;exact⟨by rw[Nr,KP.1];exact DL,.inl ⟨hl,ho⟩⟩
theorem Nj{T:Gt}(hT:CB P T){ty:Nat}{m k x:AV}{vm vk vx:Value}{K:HK}(hm:BJ g w (AR h) m vm)(J6 : BJ g w (AR h) k vk)(hx:BJ g w (AR h) x vx)(hk:G2 T h ty m k x K) :
  dY P w0 g0 h0 h g w (Instr.mapUpdate ty vm vk vx) K:=by
 unfold G2 at hk;split at hk
 ·rename_i r;split at hk
  ·rename_i sh B4 e0;obtain⟨kt,e,k1,k2,k3,k4⟩:=MG J6 hk;have ho:=hI.objs r;rw[e0]at ho;obtain⟨t1,b,es,ck,a1,a2,a3,a4,a5,a6⟩:=ho;have hl:(h r).live:=by rw[e0];trivial
   cases hm with
   |mref _ _ b' hu ht hp =>
    rw[a2]at hp;cases hp;have gu:=hT.map k1;have Ff:=run_getObj_map (P:=P) w b es ck a3;have NF:∀o',(setObj b o').run P w=.ok () (setBlock w b o'):=fun o'=>by simp[setObj,Sem.run,a3,setBlock]
    have TX:=fun bb=>Mp hT k2 w bb k3;obtain⟨res,r1,r2⟩:=NY hT k2 w k3 es.toList a4.shape;have jz:=BJ.str hI.objs hx;rcases r2 with ⟨rfl,hn⟩ | ⟨j,en,rfl,hj,hkey⟩
    ·obtain⟨m1,m2⟩:=Tn a4 (x:=vk) (v:=str h x) (y:=vx) k3 (fun a=>a4.none hn a);obtain⟨i1,i2⟩:=DM.swap hI hl a1 a6 (.map sh (ET B4 vk (str h x))) a3 (.map (es.push { key:=vk,val:=vx,born:=ck }) (ck+1)) w ⟨rfl,rfl,rfl,rfl⟩ (by simp) (fun hg HS ES Zj=>by
      obtain⟨u1,u2,u3,u4⟩:=BB g r (g.ρ r) (g.ln r) (g.tk r) (g.own r) g.S;refine⟨u3.trans t1,b,_,_,u4.trans a1,u1.trans a2,ES,m1,fun i kv e q1 q2=>?_,a6⟩;rcases m2 i kv e q1 q2 with ⟨p1,p2⟩ | ⟨p1,p2⟩
      ·rw[p1,p2];exact jz.mono HS (fun _ h=>h) (fun _ h=>h.elim)
      ·exact(a5 i kv e p1 p2).mono HS (fun _ h=>h) (fun _ h=>h.elim))
     refine⟨_,_,_,?_,k4,i1,i2⟩;simp[Instr.mapUpdate,run_underlying gu,Ff,TX,r1,NF]
    ·obtain⟨a,q1,q2⟩:=a4.some hj hkey;obtain⟨m1,m2⟩:=OQ a4 (x:=vk) (v:=str h x) (y:=vx) q1;obtain⟨i1,i2⟩:=DM.swap hI hl a1 a6 (.map sh (ET B4 vk (str h x))) a3 (.map (es.modify j fun e=>{ e with key:=vk,val:=vx }) ck) w ⟨rfl,rfl,rfl,rfl⟩ (by simp) (fun hg HS ES Zj=>by
      obtain⟨u1,u2,u3,u4⟩:=BB g r (g.ρ r) (g.ln r) (g.tk r) (g.own r) g.S;refine⟨u3.trans t1,b,_,_,u4.trans a1,u1.trans a2,ES,m1,fun i kv e q1 q2=>?_,a6⟩;rcases m2 i kv e q1 q2 with ⟨p1,p2⟩ | ⟨p1,p2⟩
      ·rw[p1,p2];exact jz.mono HS (fun _ h=>h) (fun _ h=>h.elim)
      ·exact(a5 i kv e p1 p2).mono HS (fun _ h=>h) (fun _ h=>h.elim))
     refine⟨_,_,_,?_,k4,i1,i2⟩;have nQ : es[j]?=some en:=by simpa using hj
     have Jh:=Rb (P:=P) w k3;simp[Instr.mapUpdate,run_underlying gu,Ff,TX,r1,NF,nQ,hkey,Jh]
  ·rename_i sh B4 e0;obtain⟨kt,e,k1,k2,k3,k4⟩:=MG J6 hk;have ho:=hI.objs r;rw[e0]at ho;obtain⟨t1,b,es,ck,a1,a2,a3,a4,a5,a6⟩:=ho;have hl:(h r).live:=by rw[e0];trivial
   cases hm with
   |mref _ _ b' hu ht hp =>
    rw[a2]at hp;cases hp;have gu:=hT.map k1;have Ff:=run_getObj_map (P:=P) w b es ck a3;have NF:∀o',(setObj b o').run P w=.ok () (setBlock w b o'):=fun o'=>by simp[setObj,Sem.run,a3,setBlock]
    have TX:=fun bb=>Mp hT k2 w bb k3;obtain⟨res,r1,r2⟩:=NY hT k2 w k3 es.toList a4.shape;rcases r2 with ⟨rfl,hn⟩ | ⟨j,en,rfl,hj,hkey⟩
    ·obtain⟨m1,m2⟩:=Tn a4 (x:=vk) (v:=x) (y:=vx) k3 (fun a=>a4.none hn a);obtain⟨i1,i2⟩:=DM.swap hI hl a1 a6 (.mapU sh (ET B4 vk (x))) a3 (.map (es.push { key:=vk,val:=vx,born:=ck }) (ck+1)) w ⟨rfl,rfl,rfl,rfl⟩ (by simp) (fun hg HS ES Zj=>by
      obtain⟨u1,u2,u3,u4⟩:=BB g r (g.ρ r) (g.ln r) (g.tk r) (g.own r) g.S;have K9:∀i,AR h i→AR (AW h r (.mapU sh (ET B4 vk x))) i:=fun i hi=>DS (by simp) i hi;refine⟨u3.trans t1,b,_,_,u4.trans a1,u1.trans a2,ES,m1,fun i kv e q1 q2=>?_,a6⟩;rcases m2 i kv e q1 q2 with ⟨p1,p2⟩ | ⟨p1,p2⟩
      ·rw[p1,p2];exact hx.mono HS K9 hg
      ·exact(a5 i kv e p1 p2).mono HS K9 hg)
     refine⟨_,_,_,?_,k4,i1,i2⟩;simp[Instr.mapUpdate,run_underlying gu,Ff,TX,r1,NF]
    ·obtain⟨a,q1,q2⟩:=a4.some hj hkey;obtain⟨m1,m2⟩:=OQ a4 (x:=vk) (v:=x) (y:=vx) q1;obtain⟨i1,i2⟩:=DM.swap hI hl a1 a6 (.mapU sh (ET B4 vk (x))) a3 (.map (es.modify j fun e=>{ e with key:=vk,val:=vx }) ck) w ⟨rfl,rfl,rfl,rfl⟩ (by simp) (fun hg HS ES Zj=>by
      obtain⟨u1,u2,u3,u4⟩:=BB g r (g.ρ r) (g.ln r) (g.tk r) (g.own r) g.S;have K9:∀i,AR h i→AR (AW h r (.mapU sh (ET B4 vk x))) i:=fun i hi=>DS (by simp) i hi;refine⟨u3.trans t1,b,_,_,u4.trans a1,u1.trans a2,ES,m1,fun i kv e q1 q2=>?_,a6⟩;rcases m2 i kv e q1 q2 with ⟨p1,p2⟩ | ⟨p1,p2⟩
      ·rw[p1,p2];exact hx.mono HS K9 hg
      ·exact(a5 i kv e p1 p2).mono HS K9 hg)
     refine⟨_,_,_,?_,k4,i1,i2⟩;have nQ : es[j]?=some en:=by simpa using hj
     have Jh:=Rb (P:=P) w k3;simp[Instr.mapUpdate,run_underlying gu,Ff,TX,r1,NF,nQ,hkey,Jh]
  ·exact hk.elim
 ·exact hk.elim
theorem NS{d b:Nat}{es:Array MapEntry}{ck:Nat}{sh:EJ}{B4:List (Value×AV)}(hd:h d=.free)(hS:g.S b 0)(hb:w.heap[b]?=some (.map es ck))(hm:G6 sh es ck B4)
  (hv:∀(i:Nat) (kv:Value×AV) (e:MapEntry),B4[i]?=some kv→es[i]?=some e→BJ g w Fm kv.2 e.val) :
  ∃g',DM w0 g0 h0 (AW h d (.iter B4 B4 none)) g' (w.alloc (.mapIter (some b) ck #[] ck))∧Le h g w (AW h d (.iter B4 B4 none)) g' (w.alloc (.mapIter (some b) ck #[] ck)) ∧
   BJ g' (w.alloc (.mapIter (some b) ck #[] ck)) (AR (AW h d (.iter B4 B4 none))) (.ref d 0) (.pointer (some ⟨w.heap.size,0,none⟩)):=by
 obtain⟨k1,k2⟩:=hI.newOwn hd (.iter B4 B4 none) (.mapIter (some b) ck #[] ck) (.pointer (some ⟨w.heap.size,0,none⟩)) 0 false w ⟨rfl,rfl,rfl,rfl⟩ (by simp) (fun hg hk=>by
  obtain⟨u1,u2,u3,u4⟩:=BB g d (.pointer (some ⟨w.heap.size,0,none⟩)) 0 false (some w.heap.size) g.S;obtain⟨c1,c2,c3⟩:=hk b 0 hS
  exact⟨u3,w.heap.size,b,ck,#[],ck,es,ck,u4,u1,HA w _ rfl,c1,c3 es ck hb,⟨sh,hm⟩,rfl,rfl,fun i kv e q1 q2=>(hv i kv e q1 q2).mono hk (fun _ h=>h) (fun _ h=>h.elim),
   ⟨OX hm.2.2.2.1,fun _ h=>h⟩,fun i kv e q1 q2=>by simp[List.mem_of_getElem? q1],trivial,fun o ho=>by have:=hI.slt _ _ ho;omega⟩)
 refine⟨_,k1,k2,.ref _ d 0 w.heap.size (by unfold AR;rw[Bd];simp) ?_ ?_⟩<;>simp[Gh.upd]
theorem QU{r b:Nat}{sh:EJ}{B4:List (Value×AV)}{es:Array MapEntry}{ck:Nat}(e0:h r=.map sh B4)(a1:g.own r=some b)(a2:g.ρ r=.map (some b))(a3:w.heap[b]?=some (.map es ck))(a4:G6 sh es ck B4)
  (a5:∀(i:Nat) (kv:Value×AV) (e:MapEntry),B4[i]?=some kv→es[i]?=some e→BJ g w Fm kv.2 e.val) (t1:g.tk r=false) :
  ∃g',DM w0 g0 h0 (AW h r (.rom sh B4)) g' w∧Le h g w (AW h r (.rom sh B4)) g' w∧g'.S b 0:=by
 have hl:(h r).live:=by rw[e0];trivial
 have DL:=(hI.loc r b hl a1).1
 obtain⟨k1,k2⟩:=hI.upd r (.rom sh B4) (g.ρ r) (g.ln r) (g.tk r) none (g.more b 1) w none ⟨rfl,rfl,rfl,Ak _⟩ (fun _ _ _=>rfl) (fun b e=>by cases e) (fun _ _ h=>.inl h)
  (fun b' o hs=>hs.elim .inl (fun hs=>.inr ⟨by rw[hs.1];exact DL,.inr ⟨hl,by rw[hs.1];exact a1⟩⟩)) (fun b o e=>by cases e) (fun b hh _=>by cases hh) (by simp)
  (fun _=>⟨rfl,Ak _,fun _=>rfl,fun _=>rfl⟩) (fun hg hk=>by
   obtain⟨u1,u2,u3,u4⟩:=BB g r (g.ρ r) (g.ln r) (g.tk r) none (g.more b 1);exact⟨u3.trans t1,b,u1.trans a2,.cmap _ sh B4 b es ck (.inr ⟨rfl,Uw⟩) a3 a4 (fun i kv e q1 q2=>(a5 i kv e q1 q2).mono hk (fun _ h=>h) (fun _ h=>h.elim))⟩)
 exact⟨_,k1,k2,.inr ⟨rfl,Uw⟩⟩
theorem Wn{r b:Nat}{sh:EJ}{B4:List (Value×AV)}{es:Array MapEntry}{ck:Nat}(e0:h r=.mapU sh B4)(a1:g.own r=some b)(a2:g.ρ r=.map (some b))(a3:w.heap[b]?=some (.map es ck))(a4:G6 sh es ck B4)
  (a5:∀(i:Nat) (kv:Value×AV) (e:MapEntry),B4[i]?=some kv→es[i]?=some e→BJ g w (AR h) kv.2 e.val) (t1:g.tk r=false) :
  ∃g',DM w0 g0 h0 (AW h r (.rom sh (Rs h B4))) g' w∧Le h g w (AW h r (.rom sh (Rs h B4))) g' w∧g'.S b 0:=by
 have hl:(h r).live:=by rw[e0];trivial
 have DL:=(hI.loc r b hl a1).1
 obtain⟨k1,k2⟩:=hI.upd r (.rom sh (Rs h B4)) (g.ρ r) (g.ln r) (g.tk r) none (g.more b 1) w none ⟨rfl,rfl,rfl,Ak _⟩ (fun _ _ _=>rfl) (fun b e=>by cases e) (fun _ _ h=>.inl h)
  (fun b' o hs=>hs.elim .inl (fun hs=>.inr ⟨by rw[hs.1];exact DL,.inr ⟨hl,by rw[hs.1];exact a1⟩⟩)) (fun b o e=>by cases e) (fun b hh _=>by cases hh) (by simp)
  (fun _=>⟨rfl,Ak _,fun _=>rfl,fun _=>rfl⟩) (fun hg hk=>by
   obtain⟨u1,u2,u3,u4⟩:=BB g r (g.ρ r) (g.ln r) (g.tk r) none (g.more b 1);refine⟨u3.trans t1,b,u1.trans a2,.cmap _ sh _ b es ck (.inr ⟨rfl,Uw⟩) a3 (Vc _ a4) (fun i kv e q1 q2=>?_)⟩;unfold Rs at q1;rw[AI]at q1;obtain⟨p,q3,rfl⟩:=AZ.1 q1;exact((a5 i p e q3 q2).str hI.objs).mono hk (fun _ h=>h) (fun _ h=>h.elim))
 exact⟨_,k1,k2,.inr ⟨rfl,Uw⟩⟩
theorem dB{T:Gt}(hT:CB P T){ty kt e:Nat}(ht:(T ty).d=.map kt e){d:Option Nat}{x:AV}{vx:Value}{K:HK}(hx:BJ g w (AR h) x vx)(hk:ZP d h x K) :
  N4 P w0 g0 h0 h g w (Instr.range ty vx) K:=by
 have hu:=hT.map ht;unfold ZP at hk;split at hk
 ·exact hk.elim
 ·rename_i d;split at hk
  ·rename_i hd;have CP:∀b es ck,w.heap[b]?=some (.map es ck)→(Instr.range ty (.map (some b))).run P w=.ok (.pointer (some ⟨w.heap.size,0,none⟩)) (w.alloc (.mapIter (some b) ck #[] ck)):=fun b es ck hb=>by
    simp[Instr.range,run_underlying hu,run_getObj_map (P:=P) w b es ck hb]
   split at hk
   ·cases hx with
    |cmap _ _ _ b es ck hS hb hm hv =>
     obtain⟨g',k1,k2,k3⟩:=NS hI hd hS hb hm hv;exact⟨_,_,_,_,_,CP _ _ _ hb,hk,k1,k2,k3⟩
   ·rename_i r;have ho:=hI.objs r;cases hx with
    |mref _ _ b gu ht' hp =>
     split at hk
     ·rename_i sh B4 e0;rw[e0]at ho;obtain⟨_,b',a1,a2⟩:=ho;rw[a1]at hp;cases hp;cases a2 with
      |cmap _ _ _ _ es ck hS hb hm hv =>
       obtain⟨g',k1,k2,k3⟩:=NS hI hd hS hb hm hv;exact⟨_,_,_,_,_,CP _ _ _ hb,hk,k1,k2,k3⟩
     ·rename_i sh B4 e0;rw[e0]at ho;obtain⟨t1,b',es,ck,a1,a2,a3,a4,a5,a6⟩:=ho;rw[a2]at hp;cases hp;obtain⟨g1,i1,i2,i3⟩:=QU hI e0 a1 a2 a3 a4 a5 t1;have DE:d≠r:=fun e=>by rw[e,e0]at hd;cases hd
      obtain⟨g',k1,k2,k3⟩:=NS i1 (by rw[BZ _ _ _ _ DE];exact hd) i3 a3 a4 (fun i kv e q1 q2=>(a5 i kv e q1 q2).mono i2.keeps (fun _ h=>h) (fun _ h=>h.elim));exact⟨_,_,_,_,_,CP _ _ _ a3,hk,k1,i2.trans k2,k3⟩
     ·exact hk.elim
   ·exact hk.elim
  ·exact hk.elim
theorem gY{ty:TypeId}{x:AV}{vx:Value}{K:HK}(hx:BJ g w (AR h) x vx)(hk:gX h x K):N4 P w0 g0 h0 h g w (Instr.next vx false ty) K:=by
 unfold gX at hk;split at hk
 ·rename_i r;split at hk
  ·rename_i all rem FC e0;have ho:=hI.objs r;rw[e0]at ho;obtain⟨t1,b,mb,JV,seen,st,es,ck,a1,a2,a3,a4,a5,⟨sh,a6⟩,a7,a8,a9,WR,ab,a12,mP⟩:=ho;have hl:(h r).live:=by rw[e0];trivial
   cases hx with
   |ref _ _ _ b' hu ht hp =>
    rw[a2]at hp;cases hp;have DL:∀e∈es.toList,e.born<JV:=fun e he=>by
     obtain⟨i,hi⟩:=Ca.1 he
     have:=a6.2.2.2.2.1 i e (by simpa using hi)
     omega
    rcases run_next_at (P:=P) w ty b mb JV st seen es ck a3 a5 DL (by omega)with ⟨q1,q2⟩ | ⟨e,q1,w1,q2,q3⟩
    ·have vJ:rem=[]:=by
      apply LC.2;intro kv Pt;obtain⟨i,hi⟩:=Ca.1 (WR.2 kv Pt);have Zg:i<es.size:=by rw[a6.1];exact(At.1 hi).1
      have hb:=(ab i kv es[i] hi (by simp[Zg])).1 Pt;have hm:es[i]∈leftOf es seen:=by simp[leftOf,hb]
      have:=Array.size_pos_of_mem hm
      omega
     exact⟨_,w,g,_,h,q2,hk.1 vJ,hI,.refl _ _ _,.tup _ _ _ rfl (fun i av x h1 h2=>by
      match i,h1,h2 with
      |0,h1,h2=>simp at h1 h2;subst h1;subst h2;exact .v _ _)⟩
    ·have hq:e∈es∧e.born∉seen:=by simpa[leftOf]using q1
     obtain⟨i,hi⟩:=Array.mem_iff_getElem?.1 hq.1;have Zg:i<all.length:=by rw[←a6.1];exact(Bz.1 hi).1
     have pf:all[i]?=some all[i]:=AA Zg;have jt:=(ab i _ e pf hi).2 hq.2;obtain⟨s1,s2,hs⟩:=List.append_of_mem jt;have IQ:rem.Perm (all[i]::(s1++s2)):=by rw[hs];exact List.perm_middle
     have Rk:(all[i]::(s1++s2)).Nodup:=IQ.nodup_iff.1 WR.1;have hr:=a9 i _ e pf hi;have hkey:=a6.2.1 i _ e pf hi;have KP:w1.heap=w.heap∧w1.os=w.os∧w1.tape=w.tape∧w1.output=w.output:=by rcases q2 with rfl | rfl<;>exact⟨rfl,rfl,rfl,rfl⟩
     obtain⟨k1,k2⟩:=DM.swap hI hl a1 mP (.iter all (s1++s2) (some all[i])) a3 (.mapIter (some mb) JV (seen.push e.born) ck) w1 KP (by simp) (fun hg HS ES Zj=>by
      obtain⟨u1,u2,u3,u4⟩:=BB g r (g.ρ r) (g.ln r) (g.tk r) (g.own r) g.S;obtain⟨c1,c2,c3⟩:=HS mb 0 a4
      refine⟨u3.trans t1,b,mb,JV,_,ck,es,ck,u4.trans a1,u1.trans a2,ES,c1,c3 _ _ a5,⟨sh,a6⟩,a7,rfl,fun i kv e p q=>(a9 i kv e p q).mono HS (fun _ h=>h) (fun _ h=>h.elim),
       ⟨(CA.1 Rk).2,fun kv Pt=>WR.2 kv (IQ.mem_iff.2 (Af _ Pt))⟩,fun j kv e' p q=>?_,⟨i,e,pf,hi,by simp⟩,mP⟩
      rw[Array.mem_push];have h1:=ab j kv e' p q;rw[IQ.mem_iff,As]at h1;constructor
      ·intro Pt hc;rcases hc with hc | hc
       ·exact(h1.1 (.inr Pt)) hc
       ·obtain rfl:=a6.2.2.2.2.2 j i e' e q hi hc;rw[pf]at p;cases p;exact(CA.1 Rk).1 Pt
      ·intro hc;rcases h1.2 (fun hm=>hc (.inl hm))with e2 | e2
       ·have:j=i:=Ve (f:=fun x=>x) (l:=all) (by simpa using OX a6.2.2.2.1) p pf e2
        subst this;rw[hi]at q;cases q;exact absurd (.inr rfl) hc
       ·exact e2)
     refine⟨_,_,_,_,_,q3,hk.2 all[i] (s1++s2) IQ,k1,k2,.tup _ _ _ rfl (fun j av x h1 h2=>?_)⟩
     match j,h1,h2 with
     |0,h1,h2=>simp at h1 h2;subst h1;subst h2;exact .v _ _
     |1,h1,h2=>simp at h1 h2;subst h1;subst h2;rw[hkey];exact .v _ _
     |2,h1,h2=>simp at h1 h2;subst h1;subst h2;exact(hr.up _).le k2
  ·exact hk.elim
 ·exact hk.elim
end
end Go.Eng
namespace Go.Eng
def F9(F:(AV→Prop)→Prop):Prop:=∀K,F K→∃v,K v∧∀K',K' v→F K'
theorem Dp(v:AV):F9 (fun K=>K v):=fun _ h=>⟨v,h,fun _ h=>h⟩
theorem DA{p:Prop}{F:(AV→Prop)→Prop}(h:F9 F):F9 (fun K=>p∧F K):=fun K ⟨hp,hk⟩ =>
 let ⟨v,h1,h2⟩:=h K hk
 ⟨v,h1,fun K' h'=>⟨hp,h2 K' h'⟩⟩
theorem CC:F9 (fun _=>False):=fun _ h=>h.elim
theorem Vj(p:Prop):F9 (IN p):=fun K h=>by
 by_cases hp:p
 ·exact⟨_,h.1 hp,fun K' h'=>⟨fun _=>h',fun hn=>absurd hp hn⟩⟩
 ·exact⟨_,h.2 hp,fun K' h'=>⟨fun q=>absurd q hp,fun _=>h'⟩⟩
theorem Yl{F:(AV→Prop)→Prop}(h:F9 F):F9 (fun K=>F (c8 K)):=fun K hk=>by
 obtain⟨v,h1,h2⟩:=h _ hk;unfold c8 at h1;split at h1
 ·exact⟨_,h1,fun K' h'=>h2 _ h'⟩
 ·exact⟨_,h1,fun K' h'=>h2 _ h'⟩
 ·exact h1.elim
theorem MQ{α:Type}{F:α→(AV→Prop)→Prop}(h:∀x,F9 (F x)):F9 (fun K=>∃x,F x K):=fun K ⟨x,hk⟩ =>
 let ⟨v,h1,h2⟩:=h x K hk
 ⟨v,h1,fun K' h'=>⟨x,h2 K' h'⟩⟩
theorem Ib(T:Gt)(t:Nat)(cs:List AV):F9 (Ly T t cs):=by
 have head:F9 (L8 cs):=by unfold L8;cases cs with | nil=>exact CC | cons a _=>exact Dp a
 unfold Ly;split
 ·exact DA (Dp _)
 ·exact DA (Dp _)
 ·cases cs with
  |nil=>exact CC
  |cons a _ =>
   intro K h;simp only[L8]at h⊢;split at h
   ·rename_i b;cases b with
    |true=>exact⟨_,h.1 rfl,fun K' h'=>⟨fun _=>h',fun e=>by cases e⟩⟩
    |false=>exact⟨_,h.2 rfl,fun K' h'=>⟨fun e=>(by cases e),fun _=>h'⟩⟩
   ·exact h.elim
 ·exact CC
 ·exact head
theorem aW(T:Gt)(t:Nat)(x y:AV)(hx:∀tk es,x≠.slice tk es):F9 (pd T t x y):=by
 unfold pd
 repeat' split
 all_goals first | exact CC | exact Dp _ | exact Vj _ | exact DA (Dp _) | exact absurd rfl (hx _ _)
theorem ZK(op:BinOp)(k:IntKind)(a b:Int):F9 (RY op k a b):=by
 unfold RY
 repeat' split
 all_goals first | exact CC | exact DA (Dp _) | (unfold YJ;split<;>first | exact CC | exact Dp _)
theorem iq(T:Gt)(op:BinOp)(t:Nat)(x y:AV)(hx:∀tk es,x≠.slice tk es):F9 (Sc T op t x y):=by
 unfold Sc
 repeat' split
 all_goals first | exact CC | exact Vj _ | exact ZK _ _ _ _ | exact DA (Dp _) | exact aW _ _ _ _ hx | exact Yl (aW _ _ _ _ hx)
theorem du(T:Gt)(op:BinOp)(t:Nat)(Y:Operand)(x y:AV)(hx:∀tk es,x≠.slice tk es):F9 (WZ T op t Y x y):=by
 unfold WZ
 repeat' split
 all_goals first | exact CC | exact Dp _ | exact iq _ _ _ _ _ hx
theorem dv(T:Gt)(s t:Nat)(x:AV):F9 (W9 T s t x):=by
 unfold W9
 repeat' split
 all_goals first | exact CC | exact Dp _ | exact DA (Dp _) | exact MQ fun _=>DA (Dp _)
theorem ZM(T:Gt)(s f:Nat)(x:AV):F9 (Sw T s f x):=by
 unfold Sw
 repeat' split
 all_goals first | exact CC | exact Dp _
theorem Yj(T:Gt)(s f:Nat)(x:AV):F9 (Ow T s f x):=by
 unfold Ow
 repeat' split
 all_goals first | exact CC | exact Ib _ _ _
theorem TF(T:Gt)(t:Nat)(x ix:AV):F9 (Jk T t x ix):=by
 unfold Jk
 repeat' split
 all_goals first | exact CC | exact DA (Dp _) | exact MQ fun _=>DA (DA (Dp _))
theorem ZN(T:Gt)(t:Nat)(x ix:AV):F9 (S7 T t x ix):=by
 unfold S7
 repeat' split
 all_goals first | exact CC | exact DA (Ib _ _ _) | exact MQ fun _=>DA (Dp _)
theorem Ws(x:AV)(i:Nat):F9 (LZ x i):=by
 unfold LZ
 repeat' split
 all_goals first | exact CC | exact Dp _
theorem iu(x:AV):F9 (KH x):=by
 unfold KH
 repeat' split
 all_goals first | exact CC | exact Dp _
theorem dw(c a b:AV):F9 (Yg c a b):=by
 unfold Yg
 repeat' split
 all_goals first | exact CC | exact Dp _
theorem lq(f:Int→Int→Int)(x y:AV):F9 (kW f x y):=by
 unfold kW
 repeat' split
 all_goals first | exact CC | exact Dp _
theorem dx(op:UnOp)(x:AV):F9 (Ys op x):=by
 unfold Ys
 repeat' split
 all_goals first | exact CC | exact Yl (Dp _) | exact DA (Dp _)
def lP{α:Type}(F:(α→Prop)→Prop):Prop:=∀K,F K→∃v,K v∧∀K',K' v→F K'
theorem Yh(n:Nat)(a:AV):lP (GZ n a):=by
 intro K h;unfold GZ at h⊢
 repeat' split at h
 all_goals first | exact h.elim | skip
 all_goals exact⟨_,h,fun K' h'=>h'⟩
theorem TC(pl:Nat→Option (Nat×Nat))(t:Nat→AV):∀(ps:List (Nat×Operand)) (cs:List AV),lP (Kx pl cs t ps)
 | [],cs=>fun K h=>⟨cs,h,fun _ h=>h⟩
 |(i,x)::r,cs=>by
  intro K h;unfold Kx at h;split at h
  ·exact h.elim
  ·rename_i o n e;obtain⟨vs,h1,h2⟩:=Yh _ _ _ h;split at h1
   ·rename_i hb;obtain⟨c,h3,h4⟩:=TC pl t r _ _ h1;refine⟨c,h3,fun K' h'=>?_⟩;unfold Kx;simp only[e];refine h2 _ ?_;simp only[hb];exact h4 K' h'
   ·exact h1.elim
theorem ZL(T:Gt)(ty:Nat)(t:Nat→AV)(ps:List (Nat×Operand)):F9 (PA T ty t ps):=by
 unfold PA
 repeat' split
 all_goals first
  |exact CC
  |exact fun K h=>let ⟨c,h1,h2⟩:=TC _ _ _ _ _ h;⟨_,h1,fun K' h'=>h2 _ h'⟩
def xH(h:Nat→HO)(e:Option (Nat×HO)):Nat→HO:=match e with | none=>h | some (r,o)=>AW h r o
structure IK(o:Oper)(R:List Nat)(st st2:St):Prop where
 t:∀x∈o.op.operands,ev st2.t x=ev st.t x
 h:∀r∈R,st2.h r=st.h r
def Eh(cx:Cx)(o:Oper)(st:St)(R:List Nat)(w:Option Nat)(K:HK):Prop :=
 ∃v e,K v (xH st.h e)∧(∀r o',e=some (r,o')→w=some r∧r∈R)∧∀st2,IK o R st st2→∀K' : HK,K' v (xH st2.h e)→FO cx true o st2 K'
def RL(w:Option Nat)(r:Nat):Prop:=match w with | none=>False | some x=>x=r∨(10000000≤x∧(x % 10000000=r∨x / 10000000=r))∨x=VL
def H1(h:Nat→HO):List (Nat×HO)→Nat→HO
 | []=>h
 |p::l=>H1 (AW h p.1 p.2) l
def Ru(cx:Cx)(o:Oper)(st:St)(R:List Nat)(w:Option Nat)(K:HK):Prop :=
 ∃v e,K v (H1 st.h e)∧(∀r o',(r,o')∈e→RL w r∧r∈R)∧∀st2,IK o R st st2→∀K' : HK,K' v (H1 st2.h e)→FO cx true o st2 K'
section
variable {cx:Cx}{o:Oper}{st:St}{R:List Nat}{w:Option Nat}{K:HK}
theorem Eh.pick{F:(AV→Prop)→Prop}(hF:F9 F)(h:F fun v=>K v st.h)(h2:∀st2,IK o R st st2→∀K' : HK,F (fun v=>K' v st2.h)→FO cx true o st2 K'):Eh cx o st R w K :=
 let ⟨v,h1,h3⟩:=hF _ h
 ⟨v,none,h1,fun _ _ e=>(by cases e),fun st2 ha K' hk=>h2 st2 ha K' (h3 _ hk)⟩
theorem X0{cs:List AV}{a:AV}(h:a∈cs):∀r∈Uk a,r∈kJ cs:=by
 induction cs with
 |nil=>cases h
 |cons c cs ih =>
  intro r hr;rcases As.1 h with rfl | h
  ·exact Bo _ hr
  ·exact Bk _ (ih h r hr)
theorem gM{cs:List AV}{a:AV}(h:a∈cs):∀r∈Ul a,r∈og cs:=by
 induction cs with
 |nil=>cases h
 |cons c cs ih =>
  intro r hr;rcases As.1 h with rfl | h
  ·exact Bo _ hr
  ·exact Bk _ (ih h r hr)
theorem XZ{cs:List AV}{a:AV}(h:a∈cs):∀r∈WN a,r∈SU cs:=by
 induction cs with
 |nil=>cases h
 |cons c cs ih =>
  intro r hr;rcases As.1 h with rfl | h
  ·exact Bo _ hr
  ·exact Bk _ (ih h r hr)
theorem U3(a:AV):∀r∈Uk a,r∈Ul a:=by cases a<;>simp[Uk,Ul]
theorem Qj{h h2:Nat→HO}{a:AV}(e:∀r∈Uk a,h2 r=h r):str0 h2 a=str0 h a:=by
 cases a<;>simp only[str0]
 ·rw[e _ (by simp[Uk])]
 ·rw[e _ (by simp[Uk])]
theorem Vu{h h2:Nat→HO}{a:AV}(e:∀r∈Ul a,h2 r=h r):str h2 a=str h a:=by
 cases a with
 |agg cs=>simp only[str];exact Ac _ (Bf fun c hc=>Qj fun r hr=>e r (X0 hc r hr))
 |clo f cs=>simp only[str];exact Ac _ (Bf fun c hc=>Qj fun r hr=>e r (X0 hc r hr))
 |_=>exact Qj (fun r hr=>e r (U3 _ r hr))
theorem gw(a:AV):∀r∈Ul a,r∈WN a:=by
 cases a with
 |agg cs =>
  intro r hr;simp only[WN,Ul]at *
  induction cs with
  |nil=>exact hr
  |cons c cs ih =>
   rcases A8.1 hr with h | h
   ·exact Bo _ (U3 c r h)
   ·exact Bk _ (ih h)
 |_=>exact fun r hr=>hr
theorem KN{h h2:Nat→HO}{a:AV}(e:∀r∈WN a,h2 r=h r):str h2 a=str h a:=Vu fun r hr=>e r (gw a r hr)
theorem Qk{h h2:Nat→HO}{l:List AV}(e:∀r∈SU l,h2 r=h r):l.map (str h2)=l.map (str h) :=
 Bf fun _ ha=>KN fun r hr=>e r (XZ ha r hr)
theorem iM{h h2:Nat→HO}{a:AV}(e:∀r∈WN a,h2 r=h r):rsv h2 a=rsv h a:=by
 cases a<;>simp only[rsv]
 ·rw[e _ (by simp[WN,Ul,Uk])]
 ·rw[e _ (by simp[WN,Ul,Uk])]
theorem NA{n:Nat}{a:AV}{K:List AV→Prop}(hk:GZ n a K):∃cs,K cs∧(∀K' : List AV→Prop,K' cs→GZ n a K')∧∀h h2:Nat→HO,(∀r∈WN a,h2 r=h r)→cs.map (str h2)=cs.map (str h):=by
 have single:K [a]→(∀K' : List AV→Prop,K' [a]→GZ n a K')→∃cs,K cs∧(∀K' : List AV→Prop,K' cs→GZ n a K')∧∀h h2:Nat→HO,(∀r∈WN a,h2 r=h r)→cs.map (str h2)=cs.map (str h) :=
  fun h1 h2=>⟨[a],h1,h2,fun h h2 e=>by simp[KN e]⟩
 unfold GZ at hk;split at hk
 ·rename_i cs;split at hk
  ·rename_i hn;refine⟨cs,hk,fun K' h=>by unfold GZ;simp only[hn];exact h,fun h h2 e=>Bf fun c hc=>Vu fun r hr=>e r (gM hc r hr)⟩
  ·exact hk.elim
 ·rename_i nS;split at hk
  ·rename_i h1;split at hk
   ·refine single hk fun K' h=>?_;unfold GZ;split
    ·rename_i cs;exact absurd rfl (nS cs)
    ·rw[h1];exact h
   ·exact hk.elim
  ·exact hk.elim
theorem Sx{n sz:Nat}{t:Nat→AV}:∀{ps:List (Nat×Operand)} {es:List (List AV)} {h:Nat→HO} {K:List (List AV)→Prop},QH n sz h es t ps K →
  ∃FD,K FD∧∀(t2:Nat→AV) (h2:Nat→HO),(∀r∈SU (ps.map fun p=>ev t p.2),h2 r=h r)→(∀p∈ps,ev t2 p.2=ev t p.2)→∀K' : List (List AV)→Prop,K' FD→QH n sz h2 es t2 ps K'
 | [],es,h,K,hk=>⟨es,hk,fun _ _ _ _ _ h=>h⟩
 |(i,x)::r,es,h,K,hk=>by
  unfold QH at hk;split at hk
  ·rename_i hb;obtain⟨cs,c1,c2,c3⟩:=NA hk;obtain⟨FD,e1,e2⟩:=Sx c1;refine⟨FD,e1,fun t2 h2 hh ht K' J6=>?_⟩;unfold QH;rw[hb,ht (i,x) (Ab ..)];refine c2 _ ?_;rw[c3 h h2 (fun r hr=>hh r (Bo _ hr))];exact e2 t2 h2 (fun r hr=>hh r (Bk _ hr)) (fun p hp=>ht p (Af _ hp)) K' J6
  ·exact hk.elim
theorem Ih{d:Option Nat}{h:Nat→HO}{sz:Nat}{es:List (List AV)}(hk:EC cx d h sz es K) :
  ∃d',d.map (Kv cx)=some d'∧∃v x,K v (AW h d' x)∧∀h2:Nat→HO,h2 d'=h d'→∀K' : HK,K' v (AW h2 d' x)→EC cx d h2 sz es K':=by
 unfold EC at hk;split at hk
 ·exact hk.elim
 ·rename_i d;split at hk
  ·rename_i hd;split at hk
   ·rename_i e;exact⟨Kv cx d,rfl,_,_,hk,fun h2 hh K' h'=>by unfold EC;simp only[hh,hd,e];exact h'⟩
   ·rename_i e;exact⟨Kv cx d,rfl,_,_,hk,fun h2 hh K' h'=>by unfold EC;simp only[hh,hd,e];exact h'⟩
  ·exact hk.elim
theorem Y1{h:Nat→HO}{x:AV}{K:List (List AV)→Prop}(hk:K4 h x K):∃es,K es∧∀h2:Nat→HO,(∀r n,x=.msl r n→h2 r=h r)→∀K' : List (List AV)→Prop,K' es→K4 h2 x K':=by
 unfold K4 at hk;split at hk
 ·exact⟨_,hk,fun _ _ K' h=>h⟩
 ·exact⟨_,hk,fun _ _ K' h=>h⟩
 ·rename_i r n;split at hk
  ·rename_i sz es e;exact⟨_,hk.2,fun h2 hh K' h=>by unfold K4;simp only[hh r n rfl,e];exact⟨hk.1,h⟩⟩
  ·exact hk.elim
 ·exact hk.elim
end
section
variable {cx:Cx}{dst:Option Nat}{ty:Nat}{pos:String}{after:Array Edge}{gd:Option (Nat×Bool)}{st:St}{R:List Nat}{w:Option Nat}{K:HK}
theorem It{d:Option Nat}{l:List Nat}{f:Fv}(h:Is d l=some f):∃d',d=some d'∧f=(d' :: l,some d'):=by
 unfold Is at h;cases d with
 |none=>cases h
 |some d=>cases h;exact⟨d,rfl,rfl⟩
theorem Xt{e:Nat}(hk:FO cx true ⟨dst,.alloc e,ty,pos,after,gd⟩ st K)(hf:Fe cx ⟨dst,.alloc e,ty,pos,after,gd⟩ st=some (R,w)):Eh cx ⟨dst,.alloc e,ty,pos,after,gd⟩ st R w K:=by
 simp only[FO]at hk;obtain⟨d,rfl,e0⟩:=It hf;cases e0;unfold RV at hk;simp only at hk;split at hk
 ·rename_i hd;split at hk
  ·exact hk.elim
  ·rename_i DE;split at hk
   ·rename_i ha;refine⟨_,some (d,_),hk,fun r o' e=>(by cases e;exact⟨rfl,Ab ..⟩),fun st2 GW K' h'=>?_⟩;simp only[FO,RV];rw[GW.h d (Ab ..),hd];simp only[ha];exact h'
   ·exact hk.elim
 ·exact hk.elim
theorem ci{e:Nat}{x:Operand}(hk:FO cx true ⟨dst,.box e x,ty,pos,after,gd⟩ st K)(hf:Fe cx ⟨dst,.box e x,ty,pos,after,gd⟩ st=some (R,w)):Eh cx ⟨dst,.box e x,ty,pos,after,gd⟩ st R w K:=by
 simp only[FO]at hk;obtain⟨d,rfl,e0⟩:=It hf;cases e0;unfold bQ at hk;simp only at hk;split at hk
 ·rename_i hd;split at hk
  ·exact hk.elim
  ·rename_i DE;obtain⟨cs,c1,c2,c3⟩:=NA hk;split at c1
   ·rename_i hm;refine⟨_,some (d,_),c1,fun r o' e=>(by cases e;exact⟨rfl,Ab ..⟩),fun st2 GW K' h'=>?_⟩;have hx:ev st2.t x=ev st.t x:=GW.t x (by simp[Op.operands]);simp only[FO,bQ];rw[GW.h d (Ab ..),hd,hx];simp only[hm];refine c2 _ ?_;rw[c3 st.h st2.h (fun r hr=>GW.h r (Af _ hr))];exact h'
   ·rename_i hm;refine⟨_,some (d,_),c1,fun r o' e=>(by cases e;exact⟨rfl,Ab ..⟩),fun st2 GW K' h'=>?_⟩;have hx:ev st2.t x=ev st.t x:=GW.t x (by simp[Op.operands]);simp only[FO,bQ];rw[GW.h d (Ab ..),hd,hx];simp only[hm];exact c2 _ h'
 ·exact hk.elim
theorem PJ{t n:Nat}{ps:Array (Nat×Operand)}(hk:FO cx true ⟨dst,.buildSlice t n ps,ty,pos,after,gd⟩ st K)(hf:Fe cx ⟨dst,.buildSlice t n ps,ty,pos,after,gd⟩ st=some (R,w)) :
  Eh cx ⟨dst,.buildSlice t n ps,ty,pos,after,gd⟩ st R w K:=by
 simp only[FO]at hk;obtain⟨d,ct,e0⟩:=It hf;cases e0;unfold Ip at hk;split at hk
 ·rename_i e he;split at hk
  ·rename_i h1 h2;split at hk
   ·exact hk.elim
   ·rename_i k EK;split at hk
    ·rename_i hb;obtain⟨es,q1,q2⟩:=Sx hk;obtain⟨d',hd,v,x,q3,q4⟩:=Ih q1;have hd:dst.map (Kv cx)=some d':=hd;have ct:dst.map (Kv cx)=some d:=ct;rw[ct]at hd;cases hd;refine⟨v,some (d,x),q3,fun r o' e=>(by cases e;exact⟨rfl,Ab ..⟩),fun st2 GW K' h'=>?_⟩;have hx:∀p∈ps.toList,ev st2.t p.2=ev st.t p.2:=fun p hp=>GW.t p.2 (by
      simp only[Op.operands,List.mem_toArray];exact Al.2 ⟨p,hp,rfl⟩)
     simp only[FO,Ip,he,h1,h2];split
     ·rename_i e0;rw[EK]at e0;cases e0
     ·rw[hb];exact q2 st2.t st2.h (fun r hr=>GW.h r (Af _ hr)) hx _ (q4 st2.h (GW.h d (Ab ..)) K' h')
    ·exact hk.elim
  ·exact hk.elim
 ·exact hk.elim
theorem Rh{t:Nat}{n c:Operand}(hk:FO cx true ⟨dst,.makeSlice t n c,ty,pos,after,gd⟩ st K)(hf:Fe cx ⟨dst,.makeSlice t n c,ty,pos,after,gd⟩ st=some (R,w)) :
  Eh cx ⟨dst,.makeSlice t n c,ty,pos,after,gd⟩ st R w K:=by
 simp only[FO]at hk;obtain⟨d,ct,e0⟩:=It hf;cases e0;have hn:∀st2,IK ⟨dst,.makeSlice t n c,ty,pos,after,gd⟩ (d::[]) st st2→ev st2.t n=ev st.t n∧ev st2.t c=ev st.t c:=fun st2 ha=>⟨ha.t n (by simp[Op.operands]),ha.t c (by simp[Op.operands])⟩;unfold Jm at hk;split at hk
 ·rename_i e a b h1 h2 h3;split at hk
  ·rename_i h4;split at hk
   ·rename_i h5;split at hk
    ·exact hk.elim
    ·rename_i k EK;obtain⟨d',hd,v,x,q3,q4⟩:=Ih hk.2;have hd:dst.map (Kv cx)=some d':=hd;have ct:dst.map (Kv cx)=some d:=ct;rw[ct]at hd;cases hd;refine⟨v,some (d,x),q3,fun r o' e=>(by cases e;exact⟨rfl,Ab ..⟩),fun st2 GW K' h'=>?_⟩;simp only[FO,Jm,(hn st2 GW).1,(hn st2 GW).2,h1,h2,h3,h4,h5];split
     ·rename_i e0;rw[EK]at e0;cases e0
     ·exact⟨hk.1,q4 st2.h (GW.h d (Ab ..)) K' h'⟩
   ·exact hk.elim
  ·exact hk.elim
 ·exact hk.elim
theorem Ue{t:Nat}{r:Option Operand}(hk:FO cx true ⟨dst,.makeMap t r,ty,pos,after,gd⟩ st K)(hf:Fe cx ⟨dst,.makeMap t r,ty,pos,after,gd⟩ st=some (R,w)) :
  Eh cx ⟨dst,.makeMap t r,ty,pos,after,gd⟩ st R w K:=by
 cases r with
 |some r=>exact hk.elim
 |none =>
  simp only[FO]at hk;obtain⟨d,rfl,e0⟩:=It hf;cases e0;unfold KE at hk;simp only at hk;split at hk
  ·rename_i hd;split at hk
   ·rename_i h1;split at hk
    ·rename_i h2;split at hk
     ·rename_i h3;refine⟨_,some (d,_),hk,fun r o' e=>(by cases e;exact⟨rfl,Ab ..⟩),fun st2 GW K' h'=>?_⟩;simp only[FO,KE];rw[GW.h d (Ab ..),hd];simp only[h1,h2,h3];exact h'
     ·rename_i h3;refine⟨_,some (d,_),hk,fun r o' e=>(by cases e;exact⟨rfl,Ab ..⟩),fun st2 GW K' h'=>?_⟩;simp only[FO,KE];rw[GW.h d (Ab ..),hd];simp only[h1,h2,h3];exact h'
    ·exact hk.elim
   ·exact hk.elim
  ·exact hk.elim
theorem Xu{t:Nat}{p x:Operand}(hk:FO cx true ⟨dst,.store t p x,ty,pos,after,gd⟩ st K)(hf:Fe cx ⟨dst,.store t p x,ty,pos,after,gd⟩ st=some (R,w)) :
  Eh cx ⟨dst,.store t p x,ty,pos,after,gd⟩ st R w K:=by
 simp only[FO]at hk;have hn:∀st2,IK ⟨dst,.store t p x,ty,pos,after,gd⟩ R st st2→ev st2.t p=ev st.t p∧ev st2.t x=ev st.t x:=fun st2 ha=>⟨ha.t p (by simp[Op.operands]),ha.t x (by simp[Op.operands])⟩;unfold N0 at hk;split at hk
 ·exact hk.elim
 ·rename_i DE;obtain⟨cs,c1,c2,c3⟩:=NA hk;simp only[Fe]at hf;split at hf
  ·rename_i r off hp;split at hf
   ·cases hf
   ·rename_i hm;cases hf;rw[hp]at c1;simp only at c1;split at c1
    ·rename_i FC hr;obtain⟨Hl,J6⟩:=c1;rw[hm]at J6;refine⟨_,some (r,_),J6,fun r o' e=>(by cases e;exact⟨rfl,Ab ..⟩),fun st2 GW K' h'=>?_⟩;simp only[FO,N0,(hn st2 GW).1,(hn st2 GW).2];refine c2 _ ?_;rw[hp];simp only[GW.h r (Ab ..),hr,hm];exact⟨Hl,h'⟩
    ·exact c1.elim
  ·rename_i r n sz i off hp;cases hf;rw[hp]at c1;simp only at c1;split at c1
   ·rename_i Gq es hr;split at c1
    ·rename_i hs;obtain⟨Hl,cell,e1,e2,J6⟩:=c1;split at J6
     ·rename_i j m;refine⟨_,some (r,_),J6,fun r o' e=>(by cases e;exact⟨rfl,Ab ..⟩),fun st2 GW K' h'=>?_⟩;simp only[FO,N0,(hn st2 GW).1,(hn st2 GW).2];refine c2 _ ?_;rw[hp];simp only[GW.h r (Ab ..),hr,hs];exact⟨Hl,cell,e1,e2,h'⟩
     ·rename_i OK;refine⟨_,some (r,_),J6,fun r o' e=>(by cases e;exact⟨rfl,Ab ..⟩),fun st2 GW K' h'=>?_⟩;simp only[FO,N0,(hn st2 GW).1,(hn st2 GW).2];refine c2 _ ?_;rw[hp];simp only[GW.h r (Ab ..),hr,hs];refine⟨Hl,cell,e1,e2,?_⟩;rw[c3 st.h st2.h (fun r hr=>GW.h r (Af _ hr))];exact h'
    ·exact c1.elim
   ·exact c1.elim
  ·cases hf
theorem Ri{t:Nat}{m k x:Operand}(hk:FO cx true ⟨dst,.mapUpdate t m k x,ty,pos,after,gd⟩ st K)(hf:Fe cx ⟨dst,.mapUpdate t m k x,ty,pos,after,gd⟩ st=some (R,w)) :
  Eh cx ⟨dst,.mapUpdate t m k x,ty,pos,after,gd⟩ st R w K:=by
 simp only[FO]at hk;have hn:∀st2,IK ⟨dst,.mapUpdate t m k x,ty,pos,after,gd⟩ R st st2→ev st2.t m=ev st.t m∧ev st2.t k=ev st.t k∧ev st2.t x=ev st.t x:=fun st2 ha=>⟨ha.t m (by simp[Op.operands]),ha.t k (by simp[Op.operands]),ha.t x (by simp[Op.operands])⟩;simp only[Fe]at hf;split at hf
 ·rename_i r hm;cases hf;unfold G2 at hk;rw[hm]at hk;simp only at hk;split at hk
  ·rename_i sh B4 hr;unfold J8 at hk;split at hk
   ·rename_i kt e h1;split at hk
    ·rename_i tx h2;split at hk
     ·rename_i h3;split at hk
      ·rename_i kx h4;split at hk
       ·rename_i h5;refine⟨_,some (r,_),hk,fun r o' e=>(by cases e;exact⟨rfl,Ab ..⟩),fun st2 GW K' h'=>?_⟩;obtain⟨n1,n2,n3⟩:=hn st2 GW;simp only[FO,G2,n1,n2,n3,hm,GW.h r (Ab ..),hr,J8,h1,h2,h3,h4,h5];rw[KN (h:=st.h) (h2:=st2.h) (fun r hr=>GW.h r (Af _ hr))];exact h'
       ·exact hk.elim
      ·exact hk.elim
     ·exact hk.elim
    ·exact hk.elim
   ·exact hk.elim
  ·rename_i sh B4 hr;unfold J8 at hk;split at hk
   ·rename_i kt e h1;split at hk
    ·rename_i tx h2;split at hk
     ·rename_i h3;split at hk
      ·rename_i kx h4;split at hk
       ·rename_i h5;refine⟨_,some (r,_),hk,fun r o' e=>(by cases e;exact⟨rfl,Ab ..⟩),fun st2 GW K' h'=>?_⟩;obtain⟨n1,n2,n3⟩:=hn st2 GW;simp only[FO,G2,n1,n2,n3,hm,GW.h r (Ab ..),hr,J8,h1,h2,h3,h4,h5];exact h'
       ·exact hk.elim
      ·exact hk.elim
     ·exact hk.elim
    ·exact hk.elim
   ·exact hk.elim
  ·exact hk.elim
 ·cases hf
theorem aX{A B:(AV→Prop)→Prop}(ha:F9 A)(hb:F9 B):F9 fun K=>A K∨B K:=by
 intro K hk;rcases hk with hk | hk
 ·obtain⟨v,h1,h2⟩:=ha K hk;exact⟨v,h1,fun K' h=>.inl (h2 K' h)⟩
 ·obtain⟨v,h1,h2⟩:=hb K hk;exact⟨v,h1,fun K' h=>.inr (h2 K' h)⟩
theorem SE{fn:Fn}{first cap:Array Operand}(hk:FO cx true ⟨dst,.makeFunc fn first cap,ty,pos,after,gd⟩ st K)(hf:Fe cx ⟨dst,.makeFunc fn first cap,ty,pos,after,gd⟩ st=some (R,w)) :
  Eh cx ⟨dst,.makeFunc fn first cap,ty,pos,after,gd⟩ st R w K:=by
 simp only[FO]at hk;simp only[Fe]at hf;cases hf;unfold KD at hk;split at hk
 ·rename_i f h1;refine⟨_,none,hk,fun r o' e=>(by cases e),fun st2 GW K' h'=>?_⟩;simp only[FO,h1,KD]
  have:cap.toList.map (fun x=>rsv st2.h (ev st2.t x))=cap.toList.map (fun x=>rsv st.h (ev st.t x)):=Bf fun x hx=>by
   rw[GW.t x (by simp only[Op.operands,RJ];exact .inr (by simpa using hx))];exact iM fun r hr=>GW.h r (XZ (Al.2 ⟨x,hx,rfl⟩) r hr)
  rw[this];exact h'
 ·exact hk.elim
end
end Go.Eng
