/- Lemmas for the claims of this seat, without a condition: part 9 (EngT, EngU, EngV, EngW). -/
import Derived.Test.YtmcbkdbfaneofaaGreatDoorCA08
import Derived.Maps.RangeRun
namespace Go.Eng
open Go.ChangeMaps (setBlock)
theorem Ue{w:World}{r:Nat}{o o' : Obj}(h:w.heap[r]?=some o):(setBlock w r o').heap[r]?=some o':=by
 have:=(Bw.1 h).1
 simp[setBlock,this]
theorem Tx{w:World}{r k:Nat}{o' : Obj}(h:k≠r):(setBlock w r o').heap[k]?=w.heap[k]?:=by
 simp[setBlock,Ne.symm h]
theorem Na(w:World)(r:Nat)(o' : Obj):(setBlock w r o').heap.size=w.heap.size:=by simp[setBlock]
theorem OM{α β:Type}{f:α→β}{l:List α}(h:(l.map f).Nodup):l.Nodup:=by
 induction l with
 |nil=>exact E2
 |cons c l ih =>
  rw[AP,CT]at h;exact CT.2 ⟨fun hc=>h.1 (Am.2 ⟨c,hc,rfl⟩),ih h.2⟩
theorem U8{α β:Type}{f:α→β}{l:List α}(h:(l.map f).Nodup){i j:Nat}{a b:α}(ha:l[i]?=some a)(hb:l[j]?=some b)(he:f a=f b):i=j:=by
 induction l generalizing i j with
 |nil=>simp at ha
 |cons c l ih =>
  rw[AP,CT]at h;cases i with
  |zero =>
   cases j with
   |zero=>rfl
   |succ j =>
    simp only[A7,Bm,GD]at ha hb;exact absurd (Am.2 ⟨b,Av hb,by rw[←he,ha]⟩) h.1
  |succ i =>
   cases j with
   |zero =>
    simp only[A7,Bm,GD]at ha hb;exact absurd (Am.2 ⟨a,Av ha,by rw[he,hb]⟩) h.1
   |succ j=>exact Ac (·+1) (ih h.2 ha hb)
open Classical in
theorem PK{B2:List (Value×AV)}{k:Value}{a b:AV}(h:(k,b)∈B2):EK B2 k a=B2.map fun p=>if p.1=k then(k,a)else p:=Aw ⟨b,h⟩
open Classical in
theorem Kr{B2:List (Value×AV)}{k:Value}{a:AV}(h:∀b,(k,b)∉B2):EK B2 k a=B2++[(k,a)]:=Ak (fun⟨b,e⟩=>h b e)
theorem U6{sh:EA}{es:Array MapEntry}{ck:Nat}{B2:List (Value×AV)}(f:AV→AV)(h:GW sh es ck B2):GW sh es ck (B2.map fun p=>(p.1,f p.2)):=by
 obtain⟨h1,h2,h3,h4,h5,h6⟩:=h;refine⟨by simp[h1],fun i kv e q1 q2=>?_,fun kv Ph=>?_,?_,h5,h6⟩
 ·rw[AG]at q1;obtain⟨p,q3,rfl⟩:=AY.1 q1;exact h2 i p e q3 q2
 ·obtain⟨p,hp,rfl⟩:=Am.1 Ph;exact h3 p hp
 ·rw[BN];exact h4
theorem OG{sh:EA}{es:Array MapEntry}{ck:Nat}{B2:List (Value×AV)}(h:GW sh es ck B2){x:Value}{a v:AV}{y:Value}{j:Nat}(hj:B2[j]?=some (x,a)) :
  GW sh (es.modify j fun e=>{ e with key:=x,val:=y }) ck (EK B2 x v) ∧
   ∀(i:Nat) (kv:Value×AV) (e:MapEntry),(EK B2 x v)[i]?=some kv→(es.modify j fun e=>{ e with key:=x,val:=y })[i]?=some e →
    (kv.2=v∧e.val=y)∨(B2[i]?=some kv∧es[i]?=some e):=by
 classical
 rw[PK (Av hj)];obtain⟨h1,h2,h3,h4,h5,h6⟩:=h;have hm:∀i e,(es.modify j fun e=>{ e with key:=x,val:=y })[i]?=some e→∃e0,es[i]?=some e0∧e.born=e0.born∧(if i=j then e.key=x∧e.val=y else e=e0):=by
  intro i e he;rw[Array.getElem?_modify]at he;split at he
  ·rename_i e1;subst e1;obtain⟨e0,q1,q2⟩:=AY.1 he;exact⟨e0,q1,by rw[←q2],by rw[Aw rfl,←q2];exact⟨rfl,rfl⟩⟩
  ·rename_i e1;exact⟨e,he,rfl,by rw[Ak (fun q=>e1 q.symm)]⟩
 have hk:∀i kv,(B2.map fun p=>if p.1=x then(x,v)else p)[i]?=some kv→∃p,B2[i]?=some p∧kv.1=p.1∧(if i=j then kv.2=v else kv=p):=by
  intro i kv Ph;rw[AG]at Ph;obtain⟨p,q1,q2⟩:=AY.1 Ph;refine⟨p,q1,?_⟩
  by_cases e:p.1=x
  ·rw[Aw e]at q2;subst q2
   have:=U8 h4 q1 hj e
   exact⟨e.symm,by rw[Aw this]⟩
  ·rw[Ak e]at q2;subst q2;refine⟨rfl,?_⟩;rw[Ak];intro e2;subst e2;rw[q1]at hj;cases hj;exact e rfl
 have p8:(B2.map fun p=>if p.1=x then(x,v)else p).map (·.1)=B2.map (·.1):=by
  rw[BN];apply Be;intro p _;simp only[Function.comp];split
  ·rename_i e;exact e.symm
  ·rfl
 refine⟨⟨by simp[h1],fun i kv e q1 q2=>?_,fun kv Ph=>?_,by rw[p8];exact h4,fun i e q=>?_,fun i i' e e' q q' hb=>?_⟩,fun i kv e q1 q2=>?_⟩
 ·obtain⟨p,p1,p2,p3⟩:=hk i kv q1;obtain⟨e0,r1,r2,r3⟩:=hm i e q2
  have:=h2 i p e0 p1 r1
  split at r3
  ·rename_i ij;subst ij;rw[hj]at p1;cases p1;rw[r3.1,p2]
  ·rw[r3,p2];exact this
 ·obtain⟨i,hi⟩:=B8.1 Ph;obtain⟨p,p1,p2,p3⟩:=hk i kv hi;rw[p2];exact h3 p (Av p1)
 ·obtain⟨e0,r1,r2,_⟩:=hm i e q;rw[r2];exact h5 i e0 r1
 ·obtain⟨e0,r1,r2,_⟩:=hm i e q;obtain⟨e1,s1,s2,_⟩:=hm i' e' q';exact h6 i i' e0 e1 r1 s1 (by rw[←r2,←s2];exact hb)
 ·obtain⟨p,p1,p2,p3⟩:=hk i kv q1;obtain⟨e0,r1,r2,r3⟩:=hm i e q2;split at r3
  ·rename_i ij;rw[Aw ij]at p3;exact .inl ⟨p3,r3.2⟩
  ·rename_i ij;rw[Ak ij]at p3;exact .inr ⟨by rw[p3];exact p1,by rw[r3];exact r1⟩
theorem SZ{sh:EA}{es:Array MapEntry}{ck:Nat}{B2:List (Value×AV)}(h:GW sh es ck B2){x:Value}{v:AV}{y:Value}(hx:Vh sh x=true)(hn:∀a,(x,a)∉B2) :
  GW sh (es.push { key:=x,val:=y,born:=ck }) (ck+1) (EK B2 x v) ∧
   ∀(i:Nat) (kv:Value×AV) (e:MapEntry),(EK B2 x v)[i]?=some kv→(es.push { key:=x,val:=y,born:=ck })[i]?=some e →
    (kv.2=v∧e.val=y)∨(B2[i]?=some kv∧es[i]?=some e):=by
 rw[Kr hn];obtain⟨h1,h2,h3,h4,h5,h6⟩:=h;have hm:∀i e,(es.push { key:=x,val:=y,born:=ck })[i]?=some e→(es[i]?=some e∧i<es.size)∨(i=es.size∧e={ key:=x,val:=y,born:=ck }):=by
  intro i e he;rw[Array.getElem?_push]at he;split at he
  ·rename_i q;cases he;exact .inr ⟨q,rfl⟩
  ·exact .inl ⟨he,(Bw.1 he).1⟩
 have hk:∀i kv,(B2++[(x,v)])[i]?=some kv→(B2[i]?=some kv∧i<es.size)∨(i=es.size∧kv=(x,v)):=by
  intro i kv Ph;rw[Lz]at Ph;split at Ph
  ·rename_i q;exact .inl ⟨Ph,by omega⟩
  ·rename_i q
   have:i-B2.length=0:=by
    have:=(As.1 Ph).1
    simp at this;omega
   rw[this]at Ph;simp at Ph;exact .inr ⟨by omega,Ph.symm⟩
 refine⟨⟨by simp[h1],fun i kv e q1 q2=>?_,fun kv Ph=>?_,?_,fun i e q=>?_,fun i i' e e' q q' hb=>?_⟩,fun i kv e q1 q2=>?_⟩
 ·rcases hk i kv q1 with ⟨p1,p2⟩ | ⟨p1,p2⟩<;>rcases hm i e q2 with ⟨r1,r2⟩ | ⟨r1,r2⟩
  ·exact h2 i kv e p1 r1
  ·omega
  ·omega
  ·rw[p2,r2]
 ·rcases A6.1 Ph with q | q
  ·exact h3 kv q
  ·rw[Al.1 q];exact hx
 ·rw[AH,F0];refine⟨h4,by simp,fun a ha b hb e=>?_⟩;simp only[AP,EW,Al]at hb;obtain⟨p,p1,p2⟩:=Am.1 ha;refine hn p.2 ?_
  have:p=(x,p.2):=by rw[←hb,←e,←p2]
  rw[←this];exact p1
 ·rcases hm i e q with ⟨r1,_⟩ | ⟨_,r2⟩
  ·have:=h5 i e r1;omega
  ·rw[r2];exact GG _
 ·rcases hm i e q with ⟨r1,_⟩ | ⟨r1,r2⟩<;>rcases hm i' e' q' with ⟨s1,_⟩ | ⟨s1,s2⟩
  ·exact h6 i i' e e' r1 s1 hb
  ·have:=h5 i e r1;rw[s2]at hb;dsimp only at hb;omega
  ·have:=h5 i' e' s1;rw[r2]at hb;dsimp only at hb;omega
  ·omega
 ·rcases hk i kv q1 with ⟨p1,p2⟩ | ⟨p1,p2⟩<;>rcases hm i e q2 with ⟨r1,r2⟩ | ⟨r1,r2⟩
  ·exact .inr ⟨p1,r1⟩
  ·omega
  ·omega
  ·exact .inl ⟨by rw[p2],by rw[r2]⟩
section
variable {P:Program}{w0:World}{g0:Gh}{h0 h:Nat→HO}{g:Gh}{w:World}(hI:DG w0 g0 h0 h g w)
include hI
theorem DG.swap{r b:Nat}(hl:(h r).live)(ho:g.own r=some b)(hn:∀o,¬g.S b o)(o' : HO){ob:Obj}(hb:w.heap[b]?=some ob)(aw : Obj)(w1:World)(KD:w1.heap=w.heap∧w1.os=w.os∧w1.tape=w.tape∧w1.output=w.output)(Dz:o'≠.free)
  (I8:JM g (g.upd r (g.ρ r) (g.ln r) (g.tk r) (g.own r) g.S) (AR h)→ET g w (g.upd r (g.ρ r) (g.ln r) (g.tk r) (g.own r) g.S) (setBlock w1 b aw)→(setBlock w1 b aw).heap[b]?=some aw →
   (∀k,k≠b→(setBlock w1 b aw).heap[k]?=w.heap[k]?) →
   D7 (g.upd r (g.ρ r) (g.ln r) (g.tk r) (g.own r) g.S) (setBlock w1 b aw) (AR (AU h r o')) r o') :
  DG w0 g0 h0 (AU h r o') (g.upd r (g.ρ r) (g.ln r) (g.tk r) (g.own r) g.S) (setBlock w1 b aw)∧Le h g w (AU h r o') (g.upd r (g.ρ r) (g.ln r) (g.tk r) (g.own r) g.S) (setBlock w1 b aw):=by
 have DF:=(hI.loc r b hl ho).1;have EJ:(setBlock w1 b aw).heap[b]?=some aw:=Ue (by rw[KD.1];exact hb);have Y1:∀k,k≠b→(setBlock w1 b aw).heap[k]?=w.heap[k]?:=fun k hk=>by rw[Tx hk,KD.1]
 refine hI.upd r o' _ _ _ _ _ _ (some b) ⟨KD.2.1,KD.2.2.1,KD.2.2.2,by rw[Na,KD.1];exact Aj _⟩ (fun k _ Dz=>Y1 k (fun e=>Dz (by rw[e]))) (fun b' e=>by cases e;exact⟨hl,ho⟩) (fun _ _ h=>h) (fun _ _ h=>.inl h)
  (fun b' o e hs=>by cases e;exact absurd hs (hn o)) (fun b' _ e=>?_) Dz (fun _=>⟨rfl,Aj _,fun _=>rfl,fun _=>rfl⟩) (fun hg hk=>I8 hg hk EJ Y1)
 rw[ho]at e;cases e;exact⟨by rw[Na,KD.1];exact DF,.inl ⟨hl,ho⟩⟩
theorem M4{T:Gj}(hT:Cw P T){ty:Nat}{m k x:AV}{vm vk vx:Value}{K:HK}(hm:BG g w (AR h) m vm)(JR : BG g w (AR h) k vk)(hx:BG g w (AR h) x vx)(hk:GS T h ty m k x K) :
  dy P w0 g0 h0 h g w (Instr.mapUpdate ty vm vk vx) K:=by
 unfold GS at hk;split at hk
 ·rename_i r;split at hk
  ·rename_i sh B2 e0;obtain⟨kt,e,k1,k2,k3,k4⟩:=Mu JR hk;have ho:=hI.objs r;rw[e0]at ho;obtain⟨t1,b,es,ck,a1,a2,a3,a4,a5,a6⟩:=ho;have hl:(h r).live:=by rw[e0];trivial
   cases hm with
   |mref _ _ b' hu ht hp =>
    rw[a2]at hp;cases hp;have fD:=hT.map k1;have E6:=run_getObj_map (P:=P) w b es ck a3;have Nu:∀o',(setObj b o').run P w=.ok () (setBlock w b o'):=fun o'=>by simp[setObj,Sem.run,a3,setBlock]
    have TL:=fun bb=>Mc hT k2 w bb k3;obtain⟨res,r1,r2⟩:=NQ hT k2 w k3 es.toList a4.shape;have iH:=BG.str hI.objs hx;rcases r2 with ⟨rfl,hn⟩ | ⟨j,en,rfl,hj,hkey⟩
    ·obtain⟨m1,m2⟩:=SZ a4 (x:=vk) (v:=str h x) (y:=vx) k3 (fun a=>a4.none hn a);obtain⟨i1,i2⟩:=DG.swap hI hl a1 a6 (.map sh (EK B2 vk (str h x))) a3 (.map (es.push { key:=vk,val:=vx,born:=ck }) (ck+1)) w ⟨rfl,rfl,rfl,rfl⟩ (by simp) (fun hg HH EJ Y1=>by
      obtain⟨u1,u2,u3,u4⟩:=Bz g r (g.ρ r) (g.ln r) (g.tk r) (g.own r) g.S;refine⟨u3.trans t1,b,_,_,u4.trans a1,u1.trans a2,EJ,m1,fun i kv e q1 q2=>?_,a6⟩;rcases m2 i kv e q1 q2 with ⟨p1,p2⟩ | ⟨p1,p2⟩
      ·rw[p1,p2];exact iH.mono HH (fun _ h=>h) (fun _ h=>h.elim)
      ·exact(a5 i kv e p1 p2).mono HH (fun _ h=>h) (fun _ h=>h.elim))
     refine⟨_,_,_,?_,k4,i1,i2⟩;simp[Instr.mapUpdate,run_underlying fD,E6,TL,r1,Nu]
    ·obtain⟨a,q1,q2⟩:=a4.some hj hkey;obtain⟨m1,m2⟩:=OG a4 (x:=vk) (v:=str h x) (y:=vx) q1;obtain⟨i1,i2⟩:=DG.swap hI hl a1 a6 (.map sh (EK B2 vk (str h x))) a3 (.map (es.modify j fun e=>{ e with key:=vk,val:=vx }) ck) w ⟨rfl,rfl,rfl,rfl⟩ (by simp) (fun hg HH EJ Y1=>by
      obtain⟨u1,u2,u3,u4⟩:=Bz g r (g.ρ r) (g.ln r) (g.tk r) (g.own r) g.S;refine⟨u3.trans t1,b,_,_,u4.trans a1,u1.trans a2,EJ,m1,fun i kv e q1 q2=>?_,a6⟩;rcases m2 i kv e q1 q2 with ⟨p1,p2⟩ | ⟨p1,p2⟩
      ·rw[p1,p2];exact iH.mono HH (fun _ h=>h) (fun _ h=>h.elim)
      ·exact(a5 i kv e p1 p2).mono HH (fun _ h=>h) (fun _ h=>h.elim))
     refine⟨_,_,_,?_,k4,i1,i2⟩;have mQ : es[j]?=some en:=by simpa using hj
     have I9:=QR (P:=P) w k3;simp[Instr.mapUpdate,run_underlying fD,E6,TL,r1,Nu,mQ,hkey,I9]
  ·rename_i sh B2 e0;obtain⟨kt,e,k1,k2,k3,k4⟩:=Mu JR hk;have ho:=hI.objs r;rw[e0]at ho;obtain⟨t1,b,es,ck,a1,a2,a3,a4,a5,a6⟩:=ho;have hl:(h r).live:=by rw[e0];trivial
   cases hm with
   |mref _ _ b' hu ht hp =>
    rw[a2]at hp;cases hp;have fD:=hT.map k1;have E6:=run_getObj_map (P:=P) w b es ck a3;have Nu:∀o',(setObj b o').run P w=.ok () (setBlock w b o'):=fun o'=>by simp[setObj,Sem.run,a3,setBlock]
    have TL:=fun bb=>Mc hT k2 w bb k3;obtain⟨res,r1,r2⟩:=NQ hT k2 w k3 es.toList a4.shape;rcases r2 with ⟨rfl,hn⟩ | ⟨j,en,rfl,hj,hkey⟩
    ·obtain⟨m1,m2⟩:=SZ a4 (x:=vk) (v:=x) (y:=vx) k3 (fun a=>a4.none hn a);obtain⟨i1,i2⟩:=DG.swap hI hl a1 a6 (.mapU sh (EK B2 vk (x))) a3 (.map (es.push { key:=vk,val:=vx,born:=ck }) (ck+1)) w ⟨rfl,rfl,rfl,rfl⟩ (by simp) (fun hg HH EJ Y1=>by
      obtain⟨u1,u2,u3,u4⟩:=Bz g r (g.ρ r) (g.ln r) (g.tk r) (g.own r) g.S;have KR:∀i,AR h i→AR (AU h r (.mapU sh (EK B2 vk x))) i:=fun i hi=>DL (by simp) i hi;refine⟨u3.trans t1,b,_,_,u4.trans a1,u1.trans a2,EJ,m1,fun i kv e q1 q2=>?_,a6⟩;rcases m2 i kv e q1 q2 with ⟨p1,p2⟩ | ⟨p1,p2⟩
      ·rw[p1,p2];exact hx.mono HH KR hg
      ·exact(a5 i kv e p1 p2).mono HH KR hg)
     refine⟨_,_,_,?_,k4,i1,i2⟩;simp[Instr.mapUpdate,run_underlying fD,E6,TL,r1,Nu]
    ·obtain⟨a,q1,q2⟩:=a4.some hj hkey;obtain⟨m1,m2⟩:=OG a4 (x:=vk) (v:=x) (y:=vx) q1;obtain⟨i1,i2⟩:=DG.swap hI hl a1 a6 (.mapU sh (EK B2 vk (x))) a3 (.map (es.modify j fun e=>{ e with key:=vk,val:=vx }) ck) w ⟨rfl,rfl,rfl,rfl⟩ (by simp) (fun hg HH EJ Y1=>by
      obtain⟨u1,u2,u3,u4⟩:=Bz g r (g.ρ r) (g.ln r) (g.tk r) (g.own r) g.S;have KR:∀i,AR h i→AR (AU h r (.mapU sh (EK B2 vk x))) i:=fun i hi=>DL (by simp) i hi;refine⟨u3.trans t1,b,_,_,u4.trans a1,u1.trans a2,EJ,m1,fun i kv e q1 q2=>?_,a6⟩;rcases m2 i kv e q1 q2 with ⟨p1,p2⟩ | ⟨p1,p2⟩
      ·rw[p1,p2];exact hx.mono HH KR hg
      ·exact(a5 i kv e p1 p2).mono HH KR hg)
     refine⟨_,_,_,?_,k4,i1,i2⟩;have mQ : es[j]?=some en:=by simpa using hj
     have I9:=QR (P:=P) w k3;simp[Instr.mapUpdate,run_underlying fD,E6,TL,r1,Nu,mQ,hkey,I9]
  ·exact hk.elim
 ·exact hk.elim
theorem NJ{d b:Nat}{es:Array MapEntry}{ck:Nat}{sh:EA}{B2:List (Value×AV)}(hd:h d=.free)(hS:g.S b 0)(hb:w.heap[b]?=some (.map es ck))(hm:GW sh es ck B2)
  (hv:∀(i:Nat) (kv:Value×AV) (e:MapEntry),B2[i]?=some kv→es[i]?=some e→BG g w Fi kv.2 e.val) :
  ∃g',DG w0 g0 h0 (AU h d (.iter B2 B2 none)) g' (w.alloc (.mapIter (some b) ck #[] ck))∧Le h g w (AU h d (.iter B2 B2 none)) g' (w.alloc (.mapIter (some b) ck #[] ck)) ∧
   BG g' (w.alloc (.mapIter (some b) ck #[] ck)) (AR (AU h d (.iter B2 B2 none))) (.ref d 0) (.pointer (some ⟨w.heap.size,0,none⟩)):=by
 obtain⟨k1,k2⟩:=hI.newOwn hd (.iter B2 B2 none) (.mapIter (some b) ck #[] ck) (.pointer (some ⟨w.heap.size,0,none⟩)) 0 false w ⟨rfl,rfl,rfl,rfl⟩ (by simp) (fun hg hk=>by
  obtain⟨u1,u2,u3,u4⟩:=Bz g d (.pointer (some ⟨w.heap.size,0,none⟩)) 0 false (some w.heap.size) g.S;obtain⟨c1,c2,c3⟩:=hk b 0 hS
  exact⟨u3,w.heap.size,b,ck,#[],ck,es,ck,u4,u1,Hr w _ rfl,c1,c3 es ck hb,⟨sh,hm⟩,rfl,rfl,fun i kv e q1 q2=>(hv i kv e q1 q2).mono hk (fun _ h=>h) (fun _ h=>h.elim),
   ⟨OM hm.2.2.2.1,fun _ h=>h⟩,fun i kv e q1 q2=>by simp[List.mem_of_getElem? q1],trivial,fun o ho=>by have:=hI.slt _ _ ho;omega⟩)
 refine⟨_,k1,k2,.ref _ d 0 w.heap.size (by unfold AR;rw[Bc];simp) ?_ ?_⟩<;>simp[Gh.upd]
theorem QI{r b:Nat}{sh:EA}{B2:List (Value×AV)}{es:Array MapEntry}{ck:Nat}(e0:h r=.map sh B2)(a1:g.own r=some b)(a2:g.ρ r=.map (some b))(a3:w.heap[b]?=some (.map es ck))(a4:GW sh es ck B2)
  (a5:∀(i:Nat) (kv:Value×AV) (e:MapEntry),B2[i]?=some kv→es[i]?=some e→BG g w Fi kv.2 e.val) (t1:g.tk r=false) :
  ∃g',DG w0 g0 h0 (AU h r (.rom sh B2)) g' w∧Le h g w (AU h r (.rom sh B2)) g' w∧g'.S b 0:=by
 have hl:(h r).live:=by rw[e0];trivial
 have DF:=(hI.loc r b hl a1).1
 obtain⟨k1,k2⟩:=hI.upd r (.rom sh B2) (g.ρ r) (g.ln r) (g.tk r) none (g.more b 1) w none ⟨rfl,rfl,rfl,Aj _⟩ (fun _ _ _=>rfl) (fun b e=>by cases e) (fun _ _ h=>.inl h)
  (fun b' o hs=>hs.elim .inl (fun hs=>.inr ⟨by rw[hs.1];exact DF,.inr ⟨hl,by rw[hs.1];exact a1⟩⟩)) (fun b o e=>by cases e) (fun b hh _=>by cases hh) (by simp)
  (fun _=>⟨rfl,Aj _,fun _=>rfl,fun _=>rfl⟩) (fun hg hk=>by
   obtain⟨u1,u2,u3,u4⟩:=Bz g r (g.ρ r) (g.ln r) (g.tk r) none (g.more b 1);exact⟨u3.trans t1,b,u1.trans a2,.cmap _ sh B2 b es ck (.inr ⟨rfl,Uk⟩) a3 a4 (fun i kv e q1 q2=>(a5 i kv e q1 q2).mono hk (fun _ h=>h) (fun _ h=>h.elim))⟩)
 exact⟨_,k1,k2,.inr ⟨rfl,Uk⟩⟩
theorem Wd{r b:Nat}{sh:EA}{B2:List (Value×AV)}{es:Array MapEntry}{ck:Nat}(e0:h r=.mapU sh B2)(a1:g.own r=some b)(a2:g.ρ r=.map (some b))(a3:w.heap[b]?=some (.map es ck))(a4:GW sh es ck B2)
  (a5:∀(i:Nat) (kv:Value×AV) (e:MapEntry),B2[i]?=some kv→es[i]?=some e→BG g w (AR h) kv.2 e.val) (t1:g.tk r=false) :
  ∃g',DG w0 g0 h0 (AU h r (.rom sh (Rf h B2))) g' w∧Le h g w (AU h r (.rom sh (Rf h B2))) g' w∧g'.S b 0:=by
 have hl:(h r).live:=by rw[e0];trivial
 have DF:=(hI.loc r b hl a1).1
 obtain⟨k1,k2⟩:=hI.upd r (.rom sh (Rf h B2)) (g.ρ r) (g.ln r) (g.tk r) none (g.more b 1) w none ⟨rfl,rfl,rfl,Aj _⟩ (fun _ _ _=>rfl) (fun b e=>by cases e) (fun _ _ h=>.inl h)
  (fun b' o hs=>hs.elim .inl (fun hs=>.inr ⟨by rw[hs.1];exact DF,.inr ⟨hl,by rw[hs.1];exact a1⟩⟩)) (fun b o e=>by cases e) (fun b hh _=>by cases hh) (by simp)
  (fun _=>⟨rfl,Aj _,fun _=>rfl,fun _=>rfl⟩) (fun hg hk=>by
   obtain⟨u1,u2,u3,u4⟩:=Bz g r (g.ρ r) (g.ln r) (g.tk r) none (g.more b 1);refine⟨u3.trans t1,b,u1.trans a2,.cmap _ sh _ b es ck (.inr ⟨rfl,Uk⟩) a3 (U6 _ a4) (fun i kv e q1 q2=>?_)⟩;unfold Rf at q1;rw[AG]at q1;obtain⟨p,q3,rfl⟩:=AY.1 q1;exact((a5 i p e q3 q2).str hI.objs).mono hk (fun _ h=>h) (fun _ h=>h.elim))
 exact⟨_,k1,k2,.inr ⟨rfl,Uk⟩⟩
theorem cR{T:Gj}(hT:Cw P T){ty kt e:Nat}(ht:(T ty).d=.map kt e){d:Option Nat}{x:AV}{vx:Value}{K:HK}(hx:BG g w (AR h) x vx)(hk:Zt d h x K) :
  NV P w0 g0 h0 h g w (Instr.range ty vx) K:=by
 have hu:=hT.map ht;unfold Zt at hk;split at hk
 ·exact hk.elim
 ·rename_i d;split at hk
  ·rename_i hd;have CM:∀b es ck,w.heap[b]?=some (.map es ck)→(Instr.range ty (.map (some b))).run P w=.ok (.pointer (some ⟨w.heap.size,0,none⟩)) (w.alloc (.mapIter (some b) ck #[] ck)):=fun b es ck hb=>by
    simp[Instr.range,run_underlying hu,run_getObj_map (P:=P) w b es ck hb]
   split at hk
   ·cases hx with
    |cmap _ _ _ b es ck hS hb hm hv =>
     obtain⟨g',k1,k2,k3⟩:=NJ hI hd hS hb hm hv;exact⟨_,_,_,_,_,CM _ _ _ hb,hk,k1,k2,k3⟩
   ·rename_i r;have ho:=hI.objs r;cases hx with
    |mref _ _ b fD ht' hp =>
     split at hk
     ·rename_i sh B2 e0;rw[e0]at ho;obtain⟨_,b',a1,a2⟩:=ho;rw[a1]at hp;cases hp;cases a2 with
      |cmap _ _ _ _ es ck hS hb hm hv =>
       obtain⟨g',k1,k2,k3⟩:=NJ hI hd hS hb hm hv;exact⟨_,_,_,_,_,CM _ _ _ hb,hk,k1,k2,k3⟩
     ·rename_i sh B2 e0;rw[e0]at ho;obtain⟨t1,b',es,ck,a1,a2,a3,a4,a5,a6⟩:=ho;rw[a2]at hp;cases hp;obtain⟨g1,i1,i2,i3⟩:=QI hI e0 a1 a2 a3 a4 a5 t1;have Dz:d≠r:=fun e=>by rw[e,e0]at hd;cases hd
      obtain⟨g',k1,k2,k3⟩:=NJ i1 (by rw[BX _ _ _ _ Dz];exact hd) i3 a3 a4 (fun i kv e q1 q2=>(a5 i kv e q1 q2).mono i2.keeps (fun _ h=>h) (fun _ h=>h.elim));exact⟨_,_,_,_,_,CM _ _ _ a3,hk,k1,i2.trans k2,k3⟩
     ·exact hk.elim
   ·exact hk.elim
  ·exact hk.elim
theorem ge{ty:TypeId}{x:AV}{vx:Value}{K:HK}(hx:BG g w (AR h) x vx)(hk:gc h x K):NV P w0 g0 h0 h g w (Instr.next vx false ty) K:=by
 unfold gc at hk;split at hk
 ·rename_i r;split at hk
  ·rename_i all rem Fs e0;have ho:=hI.objs r;rw[e0]at ho;obtain⟨t1,b,mb,JJ,seen,st,es,ck,a1,a2,a3,a4,a5,⟨sh,a6⟩,a7,a8,a9,WH,ZF,a12,lR⟩:=ho;have hl:(h r).live:=by rw[e0];trivial
   cases hx with
   |ref _ _ _ b' hu ht hp =>
    rw[a2]at hp;cases hp;have DF:∀e∈es.toList,e.born<JJ:=fun e he=>by
     obtain⟨i,hi⟩:=B8.1 he
     have:=a6.2.2.2.2.1 i e (by simpa using hi)
     omega
    rcases run_next_at (P:=P) w ty b mb JJ st seen es ck a3 a5 DF (by omega)with ⟨q1,q2⟩ | ⟨e,q1,w1,q2,q3⟩
    ·have ur:rem=[]:=by
      apply Lp.2;intro kv Ph;obtain⟨i,hi⟩:=B8.1 (WH.2 kv Ph);have pX:i<es.size:=by rw[a6.1];exact(As.1 hi).1
      have hb:=(ZF i kv es[i] hi (by simp[pX])).1 Ph;have hm:es[i]∈leftOf es seen:=by simp[leftOf,hb]
      have:=Array.size_pos_of_mem hm
      omega
     exact⟨_,w,g,_,h,q2,hk.1 ur,hI,.refl _ _ _,.tup _ _ _ rfl (fun i av x h1 h2=>by
      match i,h1,h2 with
      |0,h1,h2=>simp at h1 h2;subst h1;subst h2;exact .v _ _)⟩
    ·have hq:e∈es∧e.born∉seen:=by simpa[leftOf]using q1
     obtain⟨i,hi⟩:=Array.mem_iff_getElem?.1 hq.1;have pX:i<all.length:=by rw[←a6.1];exact(Bw.1 hi).1
     have nY:all[i]?=some all[i]:=Ay pX;have iC:=(ZF i _ e nY hi).2 hq.2;obtain⟨s1,s2,hs⟩:=List.append_of_mem iC;have IG:rem.Perm (all[i]::(s1++s2)):=by rw[hs];exact List.perm_middle
     have Q0:(all[i]::(s1++s2)).Nodup:=IG.nodup_iff.1 WH.1;have hr:=a9 i _ e nY hi;have hkey:=a6.2.1 i _ e nY hi;have KD:w1.heap=w.heap∧w1.os=w.os∧w1.tape=w.tape∧w1.output=w.output:=by rcases q2 with rfl | rfl<;>exact⟨rfl,rfl,rfl,rfl⟩
     obtain⟨k1,k2⟩:=DG.swap hI hl a1 lR (.iter all (s1++s2) (some all[i])) a3 (.mapIter (some mb) JJ (seen.push e.born) ck) w1 KD (by simp) (fun hg HH EJ Y1=>by
      obtain⟨u1,u2,u3,u4⟩:=Bz g r (g.ρ r) (g.ln r) (g.tk r) (g.own r) g.S;obtain⟨c1,c2,c3⟩:=HH mb 0 a4
      refine⟨u3.trans t1,b,mb,JJ,_,ck,es,ck,u4.trans a1,u1.trans a2,EJ,c1,c3 _ _ a5,⟨sh,a6⟩,a7,rfl,fun i kv e p q=>(a9 i kv e p q).mono HH (fun _ h=>h) (fun _ h=>h.elim),
       ⟨(CT.1 Q0).2,fun kv Ph=>WH.2 kv (IG.mem_iff.2 (Af _ Ph))⟩,fun j kv e' p q=>?_,⟨i,e,nY,hi,by simp⟩,lR⟩
      rw[Array.mem_push];have h1:=ZF j kv e' p q;rw[IG.mem_iff,Au]at h1;constructor
      ·intro Ph hc;rcases hc with hc | hc
       ·exact(h1.1 (.inr Ph)) hc
       ·obtain rfl:=a6.2.2.2.2.2 j i e' e q hi hc;rw[nY]at p;cases p;exact(CT.1 Q0).1 Ph
      ·intro hc;rcases h1.2 (fun hm=>hc (.inl hm))with e2 | e2
       ·have:j=i:=U8 (f:=fun x=>x) (l:=all) (by simpa using OM a6.2.2.2.1) p nY e2
        subst this;rw[hi]at q;cases q;exact absurd (.inr rfl) hc
       ·exact e2)
     refine⟨_,_,_,_,_,q3,hk.2 all[i] (s1++s2) IG,k1,k2,.tup _ _ _ rfl (fun j av x h1 h2=>?_)⟩
     match j,h1,h2 with
     |0,h1,h2=>simp at h1 h2;subst h1;subst h2;exact .v _ _
     |1,h1,h2=>simp at h1 h2;subst h1;subst h2;rw[hkey];exact .v _ _
     |2,h1,h2=>simp at h1 h2;subst h1;subst h2;exact(hr.up _).le k2
  ·exact hk.elim
 ·exact hk.elim
end
end Go.Eng
namespace Go.Eng
def FX(F:(AV→Prop)→Prop):Prop:=∀K,F K→∃v,K v∧∀K',K' v→F K'
theorem Dm(v:AV):FX (fun K=>K v):=fun _ h=>⟨v,h,fun _ h=>h⟩
theorem Dw{p:Prop}{F:(AV→Prop)→Prop}(h:FX F):FX (fun K=>p∧F K):=fun K ⟨hp,hk⟩ =>
 let ⟨v,h1,h2⟩:=h K hk
 ⟨v,h1,fun K' h'=>⟨hp,h2 K' h'⟩⟩
theorem Cy:FX (fun _=>False):=fun _ h=>h.elim
theorem Vd(p:Prop):FX (IE p):=fun K h=>by
 by_cases hp:p
 ·exact⟨_,h.1 hp,fun K' h'=>⟨fun _=>h',fun hn=>absurd hp hn⟩⟩
 ·exact⟨_,h.2 hp,fun K' h'=>⟨fun q=>absurd q hp,fun _=>h'⟩⟩
theorem X8{F:(AV→Prop)→Prop}(h:FX F):FX (fun K=>F (cu K)):=fun K hk=>by
 obtain⟨v,h1,h2⟩:=h _ hk;unfold cu at h1;split at h1
 ·exact⟨_,h1,fun K' h'=>h2 _ h'⟩
 ·exact⟨_,h1,fun K' h'=>h2 _ h'⟩
 ·exact h1.elim
theorem MF{α:Type}{F:α→(AV→Prop)→Prop}(h:∀x,FX (F x)):FX (fun K=>∃x,F x K):=fun K ⟨x,hk⟩ =>
 let ⟨v,h1,h2⟩:=h x K hk
 ⟨v,h1,fun K' h'=>⟨x,h2 K' h'⟩⟩
theorem H3(T:Gj)(t:Nat)(cs:List AV):FX (Ll T t cs):=by
 have head:FX (LR cs):=by unfold LR;cases cs with | nil=>exact Cy | cons a _=>exact Dm a
 unfold Ll;split
 ·exact Dw (Dm _)
 ·exact Dw (Dm _)
 ·cases cs with
  |nil=>exact Cy
  |cons a _ =>
   intro K h;simp only[LR]at h⊢;split at h
   ·rename_i b;cases b with
    |true=>exact⟨_,h.1 rfl,fun K' h'=>⟨fun _=>h',fun e=>by cases e⟩⟩
    |false=>exact⟨_,h.2 rfl,fun K' h'=>⟨fun e=>(by cases e),fun _=>h'⟩⟩
   ·exact h.elim
 ·exact Cy
 ·exact head
theorem az(T:Gj)(t:Nat)(x y:AV)(hx:∀tk es,x≠.slice tk es):FX (nV T t x y):=by
 unfold nV
 repeat' split
 all_goals first | exact Cy | exact Dm _ | exact Vd _ | exact Dw (Dm _) | exact absurd rfl (hx _ _)
theorem Zo(op:BinOp)(k:IntKind)(a b:Int):FX (RJ op k a b):=by
 unfold RJ
 repeat' split
 all_goals first | exact Cy | exact Dw (Dm _) | (unfold Yu;split<;>first | exact Cy | exact Dm _)
theorem gC(T:Gj)(op:BinOp)(t:Nat)(x y:AV)(hx:∀tk es,x≠.slice tk es):FX (RN T op t x y):=by
 unfold RN
 repeat' split
 all_goals first | exact Cy | exact Vd _ | exact Zo _ _ _ _ | exact Dw (Dm _) | exact az _ _ _ _ hx | exact X8 (az _ _ _ _ hx)
theorem cL(T:Gj)(op:BinOp)(t:Nat)(Y:Operand)(x y:AV)(hx:∀tk es,x≠.slice tk es):FX (WP T op t Y x y):=by
 unfold WP
 repeat' split
 all_goals first | exact Cy | exact Dm _ | exact gC _ _ _ _ _ hx
theorem cM(T:Gj)(s t:Nat)(x:AV):FX (WY T s t x):=by
 unfold WY
 repeat' split
 all_goals first | exact Cy | exact Dm _ | exact Dw (Dm _) | exact MF fun _=>Dw (Dm _)
theorem Zq(T:Gj)(s f:Nat)(x:AV):FX (Sf T s f x):=by
 unfold Sf
 repeat' split
 all_goals first | exact Cy | exact Dm _
theorem X6(T:Gj)(s f:Nat)(x:AV):FX (Ok T s f x):=by
 unfold Ok
 repeat' split
 all_goals first | exact Cy | exact H3 _ _ _
theorem Tp(T:Gj)(t:Nat)(x ix:AV):FX (Jc T t x ix):=by
 unfold Jc
 repeat' split
 all_goals first | exact Cy | exact Dw (Dm _) | exact MF fun _=>Dw (Dw (Dm _))
theorem Zs(T:Gj)(t:Nat)(x ix:AV):FX (SL T t x ix):=by
 unfold SL
 repeat' split
 all_goals first | exact Cy | exact Dw (H3 _ _ _) | exact MF fun _=>Dw (Dm _)
theorem Wi(x:AV)(i:Nat):FX (LI x i):=by
 unfold LI
 repeat' split
 all_goals first | exact Cy | exact Dm _
theorem gE(x:AV):FX (Kt x):=by
 unfold Kt
 repeat' split
 all_goals first | exact Cy | exact Dm _
theorem cN(c a b:AV):FX (X4 c a b):=by
 unfold X4
 repeat' split
 all_goals first | exact Cy | exact Dm _
theorem kl(f:Int→Int→Int)(x y:AV):FX (jX f x y):=by
 unfold jX
 repeat' split
 all_goals first | exact Cy | exact Dm _
theorem cO(op:UnOp)(x:AV):FX (Yf op x):=by
 unfold Yf
 repeat' split
 all_goals first | exact Cy | exact X8 (Dm _) | exact Dw (Dm _)
def kQ{α:Type}(F:(α→Prop)→Prop):Prop:=∀K,F K→∃v,K v∧∀K',K' v→F K'
theorem X5(n:Nat)(a:AV):kQ (GQ n a):=by
 intro K h;unfold GQ at h⊢
 repeat' split at h
 all_goals first | exact h.elim | skip
 all_goals exact⟨_,h,fun K' h'=>h'⟩
theorem Tn(pl:Nat→Option (Nat×Nat))(t:Nat→AV):∀(ps:List (Nat×Operand)) (cs:List AV),kQ (Kk pl cs t ps)
 | [],cs=>fun K h=>⟨cs,h,fun _ h=>h⟩
 |(i,x)::r,cs=>by
  intro K h;unfold Kk at h;split at h
  ·exact h.elim
  ·rename_i o n e;obtain⟨vs,h1,h2⟩:=X5 _ _ _ h;split at h1
   ·rename_i hb;obtain⟨c,h3,h4⟩:=Tn pl t r _ _ h1;refine⟨c,h3,fun K' h'=>?_⟩;unfold Kk;simp only[e];refine h2 _ ?_;simp only[hb];exact h4 K' h'
   ·exact h1.elim
theorem Zp(T:Gj)(ty:Nat)(t:Nat→AV)(ps:List (Nat×Operand)):FX (Pr T ty t ps):=by
 unfold Pr
 repeat' split
 all_goals first
  |exact Cy
  |exact fun K h=>let ⟨c,h1,h2⟩:=Tn _ _ _ _ _ h;⟨_,h1,fun K' h'=>h2 _ h'⟩
def wz(h:Nat→HO)(e:Option (Nat×HO)):Nat→HO:=match e with | none=>h | some (r,o)=>AU h r o
structure Iz(o:Oper)(R:List Nat)(st st2:St):Prop where
 t:∀x∈o.op.operands,ev st2.t x=ev st.t x
 h:∀r∈R,st2.h r=st.h r
def D5(cx:Cx)(o:Oper)(st:St)(R:List Nat)(w:Option Nat)(K:HK):Prop :=
 ∃v e,K v (wz st.h e)∧(∀r o',e=some (r,o')→w=some r∧r∈R)∧∀st2,Iz o R st st2→∀K' : HK,K' v (wz st2.h e)→FE cx true o st2 K'
def RA(w:Option Nat)(r:Nat):Prop:=match w with | none=>False | some x=>x=r∨(10000000≤x∧(x % 10000000=r∨x / 10000000=r))∨x=VE
def HS(h:Nat→HO):List (Nat×HO)→Nat→HO
 | []=>h
 |p::l=>HS (AU h p.1 p.2) l
def Rh(cx:Cx)(o:Oper)(st:St)(R:List Nat)(w:Option Nat)(K:HK):Prop :=
 ∃v e,K v (HS st.h e)∧(∀r o',(r,o')∈e→RA w r∧r∈R)∧∀st2,Iz o R st st2→∀K' : HK,K' v (HS st2.h e)→FE cx true o st2 K'
section
variable {cx:Cx}{o:Oper}{st:St}{R:List Nat}{w:Option Nat}{K:HK}
theorem D5.pick{F:(AV→Prop)→Prop}(hF:FX F)(h:F fun v=>K v st.h)(h2:∀st2,Iz o R st st2→∀K' : HK,F (fun v=>K' v st2.h)→FE cx true o st2 K'):D5 cx o st R w K :=
 let ⟨v,h1,h3⟩:=hF _ h
 ⟨v,none,h1,fun _ _ e=>(by cases e),fun st2 ha K' hk=>h2 st2 ha K' (h3 _ hk)⟩
theorem XM{cs:List AV}{a:AV}(h:a∈cs):∀r∈T7 a,r∈jJ cs:=by
 induction cs with
 |nil=>cases h
 |cons c cs ih =>
  intro r hr;rcases Au.1 h with rfl | h
  ·exact Bn _ hr
  ·exact Bj _ (ih h r hr)
theorem fT{cs:List AV}{a:AV}(h:a∈cs):∀r∈T8 a,r∈m7 cs:=by
 induction cs with
 |nil=>cases h
 |cons c cs ih =>
  intro r hr;rcases Au.1 h with rfl | h
  ·exact Bn _ hr
  ·exact Bj _ (ih h r hr)
theorem XL{cs:List AV}{a:AV}(h:a∈cs):∀r∈WC a,r∈SE cs:=by
 induction cs with
 |nil=>cases h
 |cons c cs ih =>
  intro r hr;rcases Au.1 h with rfl | h
  ·exact Bn _ hr
  ·exact Bj _ (ih h r hr)
theorem UQ(a:AV):∀r∈T7 a,r∈T8 a:=by cases a<;>simp[T7,T8]
theorem P0{h h2:Nat→HO}{a:AV}(e:∀r∈T7 a,h2 r=h r):str0 h2 a=str0 h a:=by
 cases a<;>simp only[str0]
 ·rw[e _ (by simp[T7])]
 ·rw[e _ (by simp[T7])]
theorem Vn{h h2:Nat→HO}{a:AV}(e:∀r∈T8 a,h2 r=h r):str h2 a=str h a:=by
 cases a with
 |agg cs=>simp only[str];exact Ac _ (Be fun c hc=>P0 fun r hr=>e r (XM hc r hr))
 |clo f cs=>simp only[str];exact Ac _ (Be fun c hc=>P0 fun r hr=>e r (XM hc r hr))
 |_=>exact P0 (fun r hr=>e r (UQ _ r hr))
theorem fG(a:AV):∀r∈T8 a,r∈WC a:=by
 cases a with
 |agg cs =>
  intro r hr;simp only[WC,T8]at *
  induction cs with
  |nil=>exact hr
  |cons c cs ih =>
   rcases A6.1 hr with h | h
   ·exact Bn _ (UQ c r h)
   ·exact Bj _ (ih h)
 |_=>exact fun r hr=>hr
theorem KB{h h2:Nat→HO}{a:AV}(e:∀r∈WC a,h2 r=h r):str h2 a=str h a:=Vn fun r hr=>e r (fG a r hr)
theorem Qb{h h2:Nat→HO}{l:List AV}(e:∀r∈SE l,h2 r=h r):l.map (str h2)=l.map (str h) :=
 Be fun _ ha=>KB fun r hr=>e r (XL ha r hr)
theorem gS{h h2:Nat→HO}{a:AV}(e:∀r∈WC a,h2 r=h r):rsv h2 a=rsv h a:=by
 cases a<;>simp only[rsv]
 ·rw[e _ (by simp[WC,T8,T7])]
 ·rw[e _ (by simp[WC,T8,T7])]
theorem Nl{n:Nat}{a:AV}{K:List AV→Prop}(hk:GQ n a K):∃cs,K cs∧(∀K' : List AV→Prop,K' cs→GQ n a K')∧∀h h2:Nat→HO,(∀r∈WC a,h2 r=h r)→cs.map (str h2)=cs.map (str h):=by
 have single:K [a]→(∀K' : List AV→Prop,K' [a]→GQ n a K')→∃cs,K cs∧(∀K' : List AV→Prop,K' cs→GQ n a K')∧∀h h2:Nat→HO,(∀r∈WC a,h2 r=h r)→cs.map (str h2)=cs.map (str h) :=
  fun h1 h2=>⟨[a],h1,h2,fun h h2 e=>by simp[KB e]⟩
 unfold GQ at hk;split at hk
 ·rename_i cs;split at hk
  ·rename_i hn;refine⟨cs,hk,fun K' h=>by unfold GQ;simp only[hn];exact h,fun h h2 e=>Be fun c hc=>Vn fun r hr=>e r (fT hc r hr)⟩
  ·exact hk.elim
 ·rename_i mS;split at hk
  ·rename_i h1;split at hk
   ·refine single hk fun K' h=>?_;unfold GQ;split
    ·rename_i cs;exact absurd rfl (mS cs)
    ·rw[h1];exact h
   ·exact hk.elim
  ·exact hk.elim
theorem Sg{n sz:Nat}{t:Nat→AV}:∀{ps:List (Nat×Operand)} {es:List (List AV)} {h:Nat→HO} {K:List (List AV)→Prop},Qw n sz h es t ps K →
  ∃Ft,K Ft∧∀(t2:Nat→AV) (h2:Nat→HO),(∀r∈SE (ps.map fun p=>ev t p.2),h2 r=h r)→(∀p∈ps,ev t2 p.2=ev t p.2)→∀K' : List (List AV)→Prop,K' Ft→Qw n sz h2 es t2 ps K'
 | [],es,h,K,hk=>⟨es,hk,fun _ _ _ _ _ h=>h⟩
 |(i,x)::r,es,h,K,hk=>by
  unfold Qw at hk;split at hk
  ·rename_i hb;obtain⟨cs,c1,c2,c3⟩:=Nl hk;obtain⟨Ft,e1,e2⟩:=Sg c1;refine⟨Ft,e1,fun t2 h2 hh ht K' JR=>?_⟩;unfold Qw;rw[hb,ht (i,x) (Aa ..)];refine c2 _ ?_;rw[c3 h h2 (fun r hr=>hh r (Bn _ hr))];exact e2 t2 h2 (fun r hr=>hh r (Bj _ hr)) (fun p hp=>ht p (Af _ hp)) K' JR
  ·exact hk.elim
theorem H8{d:Option Nat}{h:Nat→HO}{sz:Nat}{es:List (List AV)}(hk:Es cx d h sz es K) :
  ∃d',d.map (Ki cx)=some d'∧∃v x,K v (AU h d' x)∧∀h2:Nat→HO,h2 d'=h d'→∀K' : HK,K' v (AU h2 d' x)→Es cx d h2 sz es K':=by
 unfold Es at hk;split at hk
 ·exact hk.elim
 ·rename_i d;split at hk
  ·rename_i hd;split at hk
   ·rename_i e;exact⟨Ki cx d,rfl,_,_,hk,fun h2 hh K' h'=>by unfold Es;simp only[hh,hd,e];exact h'⟩
   ·rename_i e;exact⟨Ki cx d,rfl,_,_,hk,fun h2 hh K' h'=>by unfold Es;simp only[hh,hd,e];exact h'⟩
  ·exact hk.elim
theorem YK{h:Nat→HO}{x:AV}{K:List (List AV)→Prop}(hk:KN h x K):∃es,K es∧∀h2:Nat→HO,(∀r n,x=.msl r n→h2 r=h r)→∀K' : List (List AV)→Prop,K' es→KN h2 x K':=by
 unfold KN at hk;split at hk
 ·exact⟨_,hk,fun _ _ K' h=>h⟩
 ·exact⟨_,hk,fun _ _ K' h=>h⟩
 ·rename_i r n;split at hk
  ·rename_i sz es e;exact⟨_,hk.2,fun h2 hh K' h=>by unfold KN;simp only[hh r n rfl,e];exact⟨hk.1,h⟩⟩
  ·exact hk.elim
 ·exact hk.elim
end
section
variable {cx:Cx}{dst:Option Nat}{ty:Nat}{pos:String}{after:Array Edge}{gd:Option (Nat×Bool)}{st:St}{R:List Nat}{w:Option Nat}{K:HK}
theorem Ik{d:Option Nat}{l:List Nat}{f:Fj}(h:Ij d l=some f):∃d',d=some d'∧f=(d' :: l,some d'):=by
 unfold Ij at h;cases d with
 |none=>cases h
 |some d=>cases h;exact⟨d,rfl,rfl⟩
theorem Xh{e:Nat}(hk:FE cx true ⟨dst,.alloc e,ty,pos,after,gd⟩ st K)(hf:E5 cx ⟨dst,.alloc e,ty,pos,after,gd⟩ st=some (R,w)):D5 cx ⟨dst,.alloc e,ty,pos,after,gd⟩ st R w K:=by
 simp only[FE]at hk;obtain⟨d,rfl,e0⟩:=Ik hf;cases e0;unfold RH at hk;simp only at hk;split at hk
 ·rename_i hd;split at hk
  ·exact hk.elim
  ·rename_i Dz;split at hk
   ·rename_i ha;refine⟨_,some (d,_),hk,fun r o' e=>(by cases e;exact⟨rfl,Aa ..⟩),fun st2 GN K' h'=>?_⟩;simp only[FE,RH];rw[GN.h d (Aa ..),hd];simp only[ha];exact h'
   ·exact hk.elim
 ·exact hk.elim
theorem bF{e:Nat}{x:Operand}(hk:FE cx true ⟨dst,.box e x,ty,pos,after,gd⟩ st K)(hf:E5 cx ⟨dst,.box e x,ty,pos,after,gd⟩ st=some (R,w)):D5 cx ⟨dst,.box e x,ty,pos,after,gd⟩ st R w K:=by
 simp only[FE]at hk;obtain⟨d,rfl,e0⟩:=Ik hf;cases e0;unfold bn at hk;simp only at hk;split at hk
 ·rename_i hd;split at hk
  ·exact hk.elim
  ·rename_i Dz;obtain⟨cs,c1,c2,c3⟩:=Nl hk;split at c1
   ·rename_i hm;refine⟨_,some (d,_),c1,fun r o' e=>(by cases e;exact⟨rfl,Aa ..⟩),fun st2 GN K' h'=>?_⟩;have hx:ev st2.t x=ev st.t x:=GN.t x (by simp[Op.operands]);simp only[FE,bn];rw[GN.h d (Aa ..),hd,hx];simp only[hm];refine c2 _ ?_;rw[c3 st.h st2.h (fun r hr=>GN.h r (Af _ hr))];exact h'
   ·rename_i hm;refine⟨_,some (d,_),c1,fun r o' e=>(by cases e;exact⟨rfl,Aa ..⟩),fun st2 GN K' h'=>?_⟩;have hx:ev st2.t x=ev st.t x:=GN.t x (by simp[Op.operands]);simp only[FE,bn];rw[GN.h d (Aa ..),hd,hx];simp only[hm];exact c2 _ h'
 ·exact hk.elim
theorem PB{t n:Nat}{ps:Array (Nat×Operand)}(hk:FE cx true ⟨dst,.buildSlice t n ps,ty,pos,after,gd⟩ st K)(hf:E5 cx ⟨dst,.buildSlice t n ps,ty,pos,after,gd⟩ st=some (R,w)) :
  D5 cx ⟨dst,.buildSlice t n ps,ty,pos,after,gd⟩ st R w K:=by
 simp only[FE]at hk;obtain⟨d,bM,e0⟩:=Ik hf;cases e0;unfold Ig at hk;split at hk
 ·rename_i e he;split at hk
  ·rename_i h1 h2;split at hk
   ·exact hk.elim
   ·rename_i k EB;split at hk
    ·rename_i hb;obtain⟨es,q1,q2⟩:=Sg hk;obtain⟨d',hd,v,x,q3,q4⟩:=H8 q1;have hd:dst.map (Ki cx)=some d':=hd;have bM:dst.map (Ki cx)=some d:=bM;rw[bM]at hd;cases hd;refine⟨v,some (d,x),q3,fun r o' e=>(by cases e;exact⟨rfl,Aa ..⟩),fun st2 GN K' h'=>?_⟩;have hx:∀p∈ps.toList,ev st2.t p.2=ev st.t p.2:=fun p hp=>GN.t p.2 (by
      simp only[Op.operands,List.mem_toArray];exact Am.2 ⟨p,hp,rfl⟩)
     simp only[FE,Ig,he,h1,h2];split
     ·rename_i e0;rw[EB]at e0;cases e0
     ·rw[hb];exact q2 st2.t st2.h (fun r hr=>GN.h r (Af _ hr)) hx _ (q4 st2.h (GN.h d (Aa ..)) K' h')
    ·exact hk.elim
  ·exact hk.elim
 ·exact hk.elim
theorem QX{t:Nat}{n c:Operand}(hk:FE cx true ⟨dst,.makeSlice t n c,ty,pos,after,gd⟩ st K)(hf:E5 cx ⟨dst,.makeSlice t n c,ty,pos,after,gd⟩ st=some (R,w)) :
  D5 cx ⟨dst,.makeSlice t n c,ty,pos,after,gd⟩ st R w K:=by
 simp only[FE]at hk;obtain⟨d,bM,e0⟩:=Ik hf;cases e0;have hn:∀st2,Iz ⟨dst,.makeSlice t n c,ty,pos,after,gd⟩ (d::[]) st st2→ev st2.t n=ev st.t n∧ev st2.t c=ev st.t c:=fun st2 ha=>⟨ha.t n (by simp[Op.operands]),ha.t c (by simp[Op.operands])⟩;unfold Je at hk;split at hk
 ·rename_i e a b h1 h2 h3;split at hk
  ·rename_i h4;split at hk
   ·rename_i h5;split at hk
    ·exact hk.elim
    ·rename_i k EB;obtain⟨d',hd,v,x,q3,q4⟩:=H8 hk.2;have hd:dst.map (Ki cx)=some d':=hd;have bM:dst.map (Ki cx)=some d:=bM;rw[bM]at hd;cases hd;refine⟨v,some (d,x),q3,fun r o' e=>(by cases e;exact⟨rfl,Aa ..⟩),fun st2 GN K' h'=>?_⟩;simp only[FE,Je,(hn st2 GN).1,(hn st2 GN).2,h1,h2,h3,h4,h5];split
     ·rename_i e0;rw[EB]at e0;cases e0
     ·exact⟨hk.1,q4 st2.h (GN.h d (Aa ..)) K' h'⟩
   ·exact hk.elim
  ·exact hk.elim
 ·exact hk.elim
theorem TZ{t:Nat}{r:Option Operand}(hk:FE cx true ⟨dst,.makeMap t r,ty,pos,after,gd⟩ st K)(hf:E5 cx ⟨dst,.makeMap t r,ty,pos,after,gd⟩ st=some (R,w)) :
  D5 cx ⟨dst,.makeMap t r,ty,pos,after,gd⟩ st R w K:=by
 cases r with
 |some r=>exact hk.elim
 |none =>
  simp only[FE]at hk;obtain⟨d,rfl,e0⟩:=Ik hf;cases e0;unfold Kq at hk;simp only at hk;split at hk
  ·rename_i hd;split at hk
   ·rename_i h1;split at hk
    ·rename_i h2;split at hk
     ·rename_i h3;refine⟨_,some (d,_),hk,fun r o' e=>(by cases e;exact⟨rfl,Aa ..⟩),fun st2 GN K' h'=>?_⟩;simp only[FE,Kq];rw[GN.h d (Aa ..),hd];simp only[h1,h2,h3];exact h'
     ·rename_i h3;refine⟨_,some (d,_),hk,fun r o' e=>(by cases e;exact⟨rfl,Aa ..⟩),fun st2 GN K' h'=>?_⟩;simp only[FE,Kq];rw[GN.h d (Aa ..),hd];simp only[h1,h2,h3];exact h'
    ·exact hk.elim
   ·exact hk.elim
  ·exact hk.elim
theorem Xj{t:Nat}{p x:Operand}(hk:FE cx true ⟨dst,.store t p x,ty,pos,after,gd⟩ st K)(hf:E5 cx ⟨dst,.store t p x,ty,pos,after,gd⟩ st=some (R,w)) :
  D5 cx ⟨dst,.store t p x,ty,pos,after,gd⟩ st R w K:=by
 simp only[FE]at hk;have hn:∀st2,Iz ⟨dst,.store t p x,ty,pos,after,gd⟩ R st st2→ev st2.t p=ev st.t p∧ev st2.t x=ev st.t x:=fun st2 ha=>⟨ha.t p (by simp[Op.operands]),ha.t x (by simp[Op.operands])⟩;unfold NR at hk;split at hk
 ·exact hk.elim
 ·rename_i Dz;obtain⟨cs,c1,c2,c3⟩:=Nl hk;simp only[E5]at hf;split at hf
  ·rename_i r off hp;split at hf
   ·cases hf
   ·rename_i hm;cases hf;rw[hp]at c1;simp only at c1;split at c1
    ·rename_i Fs hr;obtain⟨Hc,JR⟩:=c1;rw[hm]at JR;refine⟨_,some (r,_),JR,fun r o' e=>(by cases e;exact⟨rfl,Aa ..⟩),fun st2 GN K' h'=>?_⟩;simp only[FE,NR,(hn st2 GN).1,(hn st2 GN).2];refine c2 _ ?_;rw[hp];simp only[GN.h r (Aa ..),hr,hm];exact⟨Hc,h'⟩
    ·exact c1.elim
  ·rename_i r n sz i off hp;cases hf;rw[hp]at c1;simp only at c1;split at c1
   ·rename_i Gf es hr;split at c1
    ·rename_i hs;obtain⟨Hc,cell,e1,e2,JR⟩:=c1;split at JR
     ·rename_i j m;refine⟨_,some (r,_),JR,fun r o' e=>(by cases e;exact⟨rfl,Aa ..⟩),fun st2 GN K' h'=>?_⟩;simp only[FE,NR,(hn st2 GN).1,(hn st2 GN).2];refine c2 _ ?_;rw[hp];simp only[GN.h r (Aa ..),hr,hs];exact⟨Hc,cell,e1,e2,h'⟩
     ·rename_i Ra;refine⟨_,some (r,_),JR,fun r o' e=>(by cases e;exact⟨rfl,Aa ..⟩),fun st2 GN K' h'=>?_⟩;simp only[FE,NR,(hn st2 GN).1,(hn st2 GN).2];refine c2 _ ?_;rw[hp];simp only[GN.h r (Aa ..),hr,hs];refine⟨Hc,cell,e1,e2,?_⟩;rw[c3 st.h st2.h (fun r hr=>GN.h r (Af _ hr))];exact h'
    ·exact c1.elim
   ·exact c1.elim
  ·cases hf
theorem QY{t:Nat}{m k x:Operand}(hk:FE cx true ⟨dst,.mapUpdate t m k x,ty,pos,after,gd⟩ st K)(hf:E5 cx ⟨dst,.mapUpdate t m k x,ty,pos,after,gd⟩ st=some (R,w)) :
  D5 cx ⟨dst,.mapUpdate t m k x,ty,pos,after,gd⟩ st R w K:=by
 simp only[FE]at hk;have hn:∀st2,Iz ⟨dst,.mapUpdate t m k x,ty,pos,after,gd⟩ R st st2→ev st2.t m=ev st.t m∧ev st2.t k=ev st.t k∧ev st2.t x=ev st.t x:=fun st2 ha=>⟨ha.t m (by simp[Op.operands]),ha.t k (by simp[Op.operands]),ha.t x (by simp[Op.operands])⟩;simp only[E5]at hf;split at hf
 ·rename_i r hm;cases hf;unfold GS at hk;rw[hm]at hk;simp only at hk;split at hk
  ·rename_i sh B2 hr;unfold JT at hk;split at hk
   ·rename_i kt e h1;split at hk
    ·rename_i sf h2;split at hk
     ·rename_i h3;split at hk
      ·rename_i kx h4;split at hk
       ·rename_i h5;refine⟨_,some (r,_),hk,fun r o' e=>(by cases e;exact⟨rfl,Aa ..⟩),fun st2 GN K' h'=>?_⟩;obtain⟨n1,n2,n3⟩:=hn st2 GN;simp only[FE,GS,n1,n2,n3,hm,GN.h r (Aa ..),hr,JT,h1,h2,h3,h4,h5];rw[KB (h:=st.h) (h2:=st2.h) (fun r hr=>GN.h r (Af _ hr))];exact h'
       ·exact hk.elim
      ·exact hk.elim
     ·exact hk.elim
    ·exact hk.elim
   ·exact hk.elim
  ·rename_i sh B2 hr;unfold JT at hk;split at hk
   ·rename_i kt e h1;split at hk
    ·rename_i sf h2;split at hk
     ·rename_i h3;split at hk
      ·rename_i kx h4;split at hk
       ·rename_i h5;refine⟨_,some (r,_),hk,fun r o' e=>(by cases e;exact⟨rfl,Aa ..⟩),fun st2 GN K' h'=>?_⟩;obtain⟨n1,n2,n3⟩:=hn st2 GN;simp only[FE,GS,n1,n2,n3,hm,GN.h r (Aa ..),hr,JT,h1,h2,h3,h4,h5];exact h'
       ·exact hk.elim
      ·exact hk.elim
     ·exact hk.elim
    ·exact hk.elim
   ·exact hk.elim
  ·exact hk.elim
 ·cases hf
theorem aA{A B:(AV→Prop)→Prop}(ha:FX A)(hb:FX B):FX fun K=>A K∨B K:=by
 intro K hk;rcases hk with hk | hk
 ·obtain⟨v,h1,h2⟩:=ha K hk;exact⟨v,h1,fun K' h=>.inl (h2 K' h)⟩
 ·obtain⟨v,h1,h2⟩:=hb K hk;exact⟨v,h1,fun K' h=>.inr (h2 K' h)⟩
theorem Sp{fn:Fn}{first cap:Array Operand}(hk:FE cx true ⟨dst,.makeFunc fn first cap,ty,pos,after,gd⟩ st K)(hf:E5 cx ⟨dst,.makeFunc fn first cap,ty,pos,after,gd⟩ st=some (R,w)) :
  D5 cx ⟨dst,.makeFunc fn first cap,ty,pos,after,gd⟩ st R w K:=by
 simp only[FE]at hk;simp only[E5]at hf;cases hf;unfold Kp at hk;split at hk
 ·rename_i f h1;refine⟨_,none,hk,fun r o' e=>(by cases e),fun st2 GN K' h'=>?_⟩;simp only[FE,h1,Kp]
  have:cap.toList.map (fun x=>rsv st2.h (ev st2.t x))=cap.toList.map (fun x=>rsv st.h (ev st.t x)):=Be fun x hx=>by
   rw[GN.t x (by simp only[Op.operands,Ry];exact .inr (by simpa using hx))];exact gS fun r hr=>GN.h r (XL (Am.2 ⟨x,hx,rfl⟩) r hr)
  rw[this];exact h'
 ·exact hk.elim
end
end Go.Eng
