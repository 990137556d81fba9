/- Lemmas for the claims of this seat, without a condition: part 10 (EngT, EngU, EngV, EngW). -/
import Derived.Test.YtmcbkdbfaneofaaGreatDoorA09
import Derived.Maps.RangeRun
namespace Go.Eng
open Go.ChangeMaps (setBlock)
theorem U7{w:World}{r:Nat}{o o' : Obj}(h:w.heap[r]?=some o):(setBlock w r o').heap[r]?=some o':=by
 have:=(BI.1 h).1
 simp[setBlock,this]
theorem Uy{w:World}{r k:Nat}{o' : Obj}(h:k≠r):(setBlock w r o').heap[k]?=w.heap[k]?:=by
 simp[setBlock,Ne.symm h]
theorem NS(w:World)(r:Nat)(o' : Obj):(setBlock w r o').heap.size=w.heap.size:=by simp[setBlock]
theorem PE{α β:Type}{f:α→β}{l:List α}(h:(l.map f).Nodup):l.Nodup:=by
 induction l with
 |nil=>exact Fu
 |cons c l ih =>
  rw[AS,Db]at h;exact Db.2 ⟨fun hc=>h.1 (Ar.2 ⟨c,hc,rfl⟩),ih h.2⟩
theorem VY{α β:Type}{f:α→β}{l:List α}(h:(l.map f).Nodup){i j:Nat}{a b:α}(ha:l[i]?=some a)(hb:l[j]?=some b)(he:f a=f b):i=j:=by
 induction l generalizing i j with
 |nil=>simp at ha
 |cons c l ih =>
  rw[AS,Db]at h;cases i with
  |zero =>
   cases j with
   |zero=>rfl
   |succ j =>
    simp only[Bd,Bx,EE]at ha hb;exact absurd (Ar.2 ⟨b,AA hb,by rw[←he,ha]⟩) h.1
  |succ i =>
   cases j with
   |zero =>
    simp only[Bd,Bx,EE]at ha hb;exact absurd (Ar.2 ⟨a,AA ha,by rw[he,hb]⟩) h.1
   |succ j=>exact Ab (·+1) (ih h.2 ha hb)
open Classical in
theorem QH{Ca:List (Value×AV)}{k:Value}{a b:AV}(h:(k,b)∈Ca):E7 Ca k a=Ca.map fun p=>if p.1=k then(k,a)else p:=Ax ⟨b,h⟩
open Classical in
theorem K3{Ca:List (Value×AV)}{k:Value}{a:AV}(h:∀b,(k,b)∉Ca):E7 Ca k a=Ca++[(k,a)]:=Ao (fun⟨b,e⟩=>h b e)
theorem VW{sh:EX}{es:Array MapEntry}{ck:Nat}{Ca:List (Value×AV)}(f:AV→AV)(h:Hw sh es ck Ca):Hw sh es ck (Ca.map fun p=>(p.1,f p.2)):=by
 obtain⟨h1,h2,h3,h4,h5,h6⟩:=h;refine⟨by simp[h1],fun i kv e q1 q2=>?_,fun kv P0=>?_,?_,h5,h6⟩
 ·rw[AK]at q1;obtain⟨p,q3,rfl⟩:=AY.1 q1;exact h2 i p e q3 q2
 ·obtain⟨p,hp,rfl⟩:=Ar.1 P0;exact h3 p hp
 ·rw[BW];exact h4
theorem Py{sh:EX}{es:Array MapEntry}{ck:Nat}{Ca:List (Value×AV)}(h:Hw sh es ck Ca){x:Value}{a v:AV}{y:Value}{j:Nat}(hj:Ca[j]?=some (x,a)) :
  Hw sh (es.modify j fun e=>{ e with key:=x,val:=y }) ck (E7 Ca x v) ∧
   ∀(i:Nat) (kv:Value×AV) (e:MapEntry),(E7 Ca x v)[i]?=some kv→(es.modify j fun e=>{ e with key:=x,val:=y })[i]?=some e →
    (kv.2=v∧e.val=y)∨(Ca[i]?=some kv∧es[i]?=some e):=by
 classical
 rw[QH (AA hj)];obtain⟨h1,h2,h3,h4,h5,h6⟩:=h;have hm:∀i e,(es.modify j fun e=>{ e with key:=x,val:=y })[i]?=some e→∃e0,es[i]?=some e0∧e.born=e0.born∧(if i=j then e.key=x∧e.val=y else e=e0):=by
  intro i e he;rw[Array.getElem?_modify]at he;split at he
  ·rename_i e1;subst e1;obtain⟨e0,q1,q2⟩:=AY.1 he;exact⟨e0,q1,by rw[←q2],by rw[Ax rfl,←q2];exact⟨rfl,rfl⟩⟩
  ·rename_i e1;exact⟨e,he,rfl,by rw[Ao (fun q=>e1 q.symm)]⟩
 have hk:∀i kv,(Ca.map fun p=>if p.1=x then(x,v)else p)[i]?=some kv→∃p,Ca[i]?=some p∧kv.1=p.1∧(if i=j then kv.2=v else kv=p):=by
  intro i kv P0;rw[AK]at P0;obtain⟨p,q1,q2⟩:=AY.1 P0;refine⟨p,q1,?_⟩
  by_cases e:p.1=x
  ·rw[Ax e]at q2;subst q2
   have:=VY h4 q1 hj e
   exact⟨e.symm,by rw[Ax this]⟩
  ·rw[Ao e]at q2;subst q2;refine⟨rfl,?_⟩;rw[Ao];intro e2;subst e2;rw[q1]at hj;cases hj;exact e rfl
 have sr:(Ca.map fun p=>if p.1=x then(x,v)else p).map (·.1)=Ca.map (·.1):=by
  rw[BW];apply Bn;intro p _;simp only[Function.comp];split
  ·rename_i e;exact e.symm
  ·rfl
 refine⟨⟨by simp[h1],fun i kv e q1 q2=>?_,fun kv P0=>?_,by rw[sr];exact h4,fun i e q=>?_,fun i i' e e' q q' hb=>?_⟩,fun i kv e q1 q2=>?_⟩
 ·obtain⟨p,p1,p2,p3⟩:=hk i kv q1;obtain⟨e0,r1,r2,r3⟩:=hm i e q2
  have:=h2 i p e0 p1 r1
  split at r3
  ·rename_i ij;subst ij;rw[hj]at p1;cases p1;rw[r3.1,p2]
  ·rw[r3,p2];exact this
 ·obtain⟨i,hi⟩:=Ck.1 P0;obtain⟨p,p1,p2,p3⟩:=hk i kv hi;rw[p2];exact h3 p (AA p1)
 ·obtain⟨e0,r1,r2,_⟩:=hm i e q;rw[r2];exact h5 i e0 r1
 ·obtain⟨e0,r1,r2,_⟩:=hm i e q;obtain⟨e1,s1,s2,_⟩:=hm i' e' q';exact h6 i i' e0 e1 r1 s1 (by rw[←r2,←s2];exact hb)
 ·obtain⟨p,p1,p2,p3⟩:=hk i kv q1;obtain⟨e0,r1,r2,r3⟩:=hm i e q2;split at r3
  ·rename_i ij;rw[Ax ij]at p3;exact .inl ⟨p3,r3.2⟩
  ·rename_i ij;rw[Ao ij]at p3;exact .inr ⟨by rw[p3];exact p1,by rw[r3];exact r1⟩
theorem T5{sh:EX}{es:Array MapEntry}{ck:Nat}{Ca:List (Value×AV)}(h:Hw sh es ck Ca){x:Value}{v:AV}{y:Value}(hx:V9 sh x=true)(hn:∀a,(x,a)∉Ca) :
  Hw sh (es.push { key:=x,val:=y,born:=ck }) (ck+1) (E7 Ca x v) ∧
   ∀(i:Nat) (kv:Value×AV) (e:MapEntry),(E7 Ca x v)[i]?=some kv→(es.push { key:=x,val:=y,born:=ck })[i]?=some e →
    (kv.2=v∧e.val=y)∨(Ca[i]?=some kv∧es[i]?=some e):=by
 rw[K3 hn];obtain⟨h1,h2,h3,h4,h5,h6⟩:=h;have hm:∀i e,(es.push { key:=x,val:=y,born:=ck })[i]?=some e→(es[i]?=some e∧i<es.size)∨(i=es.size∧e={ key:=x,val:=y,born:=ck }):=by
  intro i e he;rw[Array.getElem?_push]at he;split at he
  ·rename_i q;cases he;exact .inr ⟨q,rfl⟩
  ·exact .inl ⟨he,(BI.1 he).1⟩
 have hk:∀i kv,(Ca++[(x,v)])[i]?=some kv→(Ca[i]?=some kv∧i<es.size)∨(i=es.size∧kv=(x,v)):=by
  intro i kv P0;rw[L9]at P0;split at P0
  ·rename_i q;exact .inl ⟨P0,by omega⟩
  ·rename_i q
   have:i-Ca.length=0:=by
    have:=(Aw.1 P0).1
    simp at this;omega
   rw[this]at P0;simp at P0;exact .inr ⟨by omega,P0.symm⟩
 refine⟨⟨by simp[h1],fun i kv e q1 q2=>?_,fun kv P0=>?_,?_,fun i e q=>?_,fun i i' e e' q q' hb=>?_⟩,fun i kv e q1 q2=>?_⟩
 ·rcases hk i kv q1 with ⟨p1,p2⟩ | ⟨p1,p2⟩<;>rcases hm i e q2 with ⟨r1,r2⟩ | ⟨r1,r2⟩
  ·exact h2 i kv e p1 r1
  ·omega
  ·omega
  ·rw[p2,r2]
 ·rcases A6.1 P0 with q | q
  ·exact h3 kv q
  ·rw[As.1 q];exact hx
 ·rw[AH,ET];refine⟨h4,by simp,fun a ha b hb e=>?_⟩;simp only[AS,Fm,As]at hb;obtain⟨p,p1,p2⟩:=Ar.1 ha;refine hn p.2 ?_
  have:p=(x,p.2):=by rw[←hb,←e,←p2]
  rw[←this];exact p1
 ·rcases hm i e q with ⟨r1,_⟩ | ⟨_,r2⟩
  ·have:=h5 i e r1;omega
  ·rw[r2];exact Ha _
 ·rcases hm i e q with ⟨r1,_⟩ | ⟨r1,r2⟩<;>rcases hm i' e' q' with ⟨s1,_⟩ | ⟨s1,s2⟩
  ·exact h6 i i' e e' r1 s1 hb
  ·have:=h5 i e r1;rw[s2]at hb;dsimp only at hb;omega
  ·have:=h5 i' e' s1;rw[r2]at hb;dsimp only at hb;omega
  ·omega
 ·rcases hk i kv q1 with ⟨p1,p2⟩ | ⟨p1,p2⟩<;>rcases hm i e q2 with ⟨r1,r2⟩ | ⟨r1,r2⟩
  ·exact .inr ⟨p1,r1⟩
  ·omega
  ·omega
  ·exact .inl ⟨by rw[p2],by rw[r2]⟩
section
variable {P:Program}{w0:World}{g0:Gh}{h0 h:Nat→HO}{g:Gh}{w:World}(hI:DQ w0 g0 h0 h g w)
include hI
theorem DQ.swap{r b:Nat}(hl:(h r).live)(ho:g.own r=some b)(hn:∀o,¬g.S b o)(o' : HO){ob:Obj}(hb:w.heap[b]?=some ob)(bQ : Obj)(w1:World)(Lj:w1.heap=w.heap∧w1.os=w.os∧w1.tape=w.tape∧w1.output=w.output)(DL:o'≠.free)
  (JL:Kr g (g.upd r (g.ρ r) (g.ln r) (g.tk r) (g.own r) g.S) (AU h)→Fj g w (g.upd r (g.ρ r) (g.ln r) (g.tk r) (g.own r) g.S) (setBlock w1 b bQ)→(setBlock w1 b bQ).heap[b]?=some bQ →
   (∀k,k≠b→(setBlock w1 b bQ).heap[k]?=w.heap[k]?) →
   Eo (g.upd r (g.ρ r) (g.ln r) (g.tk r) (g.own r) g.S) (setBlock w1 b bQ) (AU (A2 h r o')) r o') :
  DQ w0 g0 h0 (A2 h r o') (g.upd r (g.ρ r) (g.ln r) (g.tk r) (g.own r) g.S) (setBlock w1 b bQ)∧Le h g w (A2 h r o') (g.upd r (g.ρ r) (g.ln r) (g.tk r) (g.own r) g.S) (setBlock w1 b bQ):=by
 have DF:=(hI.loc r b hl ho).1;have E6:(setBlock w1 b bQ).heap[b]?=some bQ:=U7 (by rw[Lj.1];exact hb);have ah:∀k,k≠b→(setBlock w1 b bQ).heap[k]?=w.heap[k]?:=fun k hk=>by rw[Uy hk,Lj.1]
 refine hI.upd r o' _ _ _ _ _ _ (some b) ⟨Lj.2.1,Lj.2.2.1,Lj.2.2.2,by rw[NS,Lj.1];exact Al _⟩ (fun k _ DL=>ah k (fun e=>DL (by rw[e]))) (fun b' e=>by cases e;exact⟨hl,ho⟩) (fun _ _ h=>h) (fun _ _ h=>.inl h)
  (fun b' o e hs=>by cases e;exact absurd hs (hn o)) (fun b' _ e=>?_) DL (fun _=>⟨rfl,Al _,fun _=>rfl,fun _=>rfl⟩) (fun hg hk=>JL hg hk E6 ah)
 rw[ho]at e;cases e;exact⟨by rw[NS,Lj.1];exact DF,.inl ⟨hl,ho⟩⟩
theorem NK{T:GS}(hT:CH P T){ty:Nat}{m k x:AV}{vm vk vx:Value}{K:HK}(hm:BS g w (AU h) m vm)(Kv : BS g w (AU h) k vk)(hx:BS g w (AU h) x vx)(hk:Hs T h ty m k x K) :
  fH P w0 g0 h0 h g w (Instr.mapUpdate ty vm vk vx) K:=by
 unfold Hs at hk;split at hk
 ·rename_i r;split at hk
  ·rename_i sh Ca e0;obtain⟨kt,e,k1,k2,k3,k4⟩:=M5 Kv hk;have ho:=hI.objs r;rw[e0]at ho;obtain⟨t1,b,es,ck,a1,a2,a3,a4,a5,a6⟩:=ho;have hl:(h r).live:=by rw[e0];trivial
   cases hm with
   |mref _ _ b' hu ht hp =>
    rw[a2]at hp;cases hp;have iy:=hT.map k1;have Fy:=run_getObj_map (P:=P) w b es ck a3;have N9:∀o',(setObj b o').run P w=.ok () (setBlock w b o'):=fun o'=>by simp[setObj,Sem.run,a3,setBlock]
    have OD:=fun bb=>MN hT k2 w bb k3;obtain⟨res,r1,r2⟩:=Ox hT k2 w k3 es.toList a4.shape;have kr:=BS.str hI.objs hx;rcases r2 with ⟨rfl,hn⟩ | ⟨j,en,rfl,hj,hkey⟩
    ·obtain⟨m1,m2⟩:=T5 a4 (x:=vk) (v:=str h x) (y:=vx) k3 (fun a=>a4.none hn a);obtain⟨i1,i2⟩:=DQ.swap hI hl a1 a6 (.map sh (E7 Ca vk (str h x))) a3 (.map (es.push { key:=vk,val:=vx,born:=ck }) (ck+1)) w ⟨rfl,rfl,rfl,rfl⟩ (by simp) (fun hg In E6 ah=>by
      obtain⟨u1,u2,u3,u4⟩:=BK g r (g.ρ r) (g.ln r) (g.tk r) (g.own r) g.S;refine⟨u3.trans t1,b,_,_,u4.trans a1,u1.trans a2,E6,m1,fun i kv e q1 q2=>?_,a6⟩;rcases m2 i kv e q1 q2 with ⟨p1,p2⟩ | ⟨p1,p2⟩
      ·rw[p1,p2];exact kr.mono In (fun _ h=>h) (fun _ h=>h.elim)
      ·exact(a5 i kv e p1 p2).mono In (fun _ h=>h) (fun _ h=>h.elim))
     refine⟨_,_,_,?_,k4,i1,i2⟩;simp[Instr.mapUpdate,run_underlying iy,Fy,OD,r1,N9]
    ·obtain⟨a,q1,q2⟩:=a4.some hj hkey;obtain⟨m1,m2⟩:=Py a4 (x:=vk) (v:=str h x) (y:=vx) q1;obtain⟨i1,i2⟩:=DQ.swap hI hl a1 a6 (.map sh (E7 Ca vk (str h x))) a3 (.map (es.modify j fun e=>{ e with key:=vk,val:=vx }) ck) w ⟨rfl,rfl,rfl,rfl⟩ (by simp) (fun hg In E6 ah=>by
      obtain⟨u1,u2,u3,u4⟩:=BK g r (g.ρ r) (g.ln r) (g.tk r) (g.own r) g.S;refine⟨u3.trans t1,b,_,_,u4.trans a1,u1.trans a2,E6,m1,fun i kv e q1 q2=>?_,a6⟩;rcases m2 i kv e q1 q2 with ⟨p1,p2⟩ | ⟨p1,p2⟩
      ·rw[p1,p2];exact kr.mono In (fun _ h=>h) (fun _ h=>h.elim)
      ·exact(a5 i kv e p1 p2).mono In (fun _ h=>h) (fun _ h=>h.elim))
     refine⟨_,_,_,?_,k4,i1,i2⟩;have pf : es[j]?=some en:=by simpa using hj
     have JM:=RR (P:=P) w k3;simp[Instr.mapUpdate,run_underlying iy,Fy,OD,r1,N9,pf,hkey,JM]
  ·rename_i sh Ca e0;obtain⟨kt,e,k1,k2,k3,k4⟩:=M5 Kv hk;have ho:=hI.objs r;rw[e0]at ho;obtain⟨t1,b,es,ck,a1,a2,a3,a4,a5,a6⟩:=ho;have hl:(h r).live:=by rw[e0];trivial
   cases hm with
   |mref _ _ b' hu ht hp =>
    rw[a2]at hp;cases hp;have iy:=hT.map k1;have Fy:=run_getObj_map (P:=P) w b es ck a3;have N9:∀o',(setObj b o').run P w=.ok () (setBlock w b o'):=fun o'=>by simp[setObj,Sem.run,a3,setBlock]
    have OD:=fun bb=>MN hT k2 w bb k3;obtain⟨res,r1,r2⟩:=Ox hT k2 w k3 es.toList a4.shape;rcases r2 with ⟨rfl,hn⟩ | ⟨j,en,rfl,hj,hkey⟩
    ·obtain⟨m1,m2⟩:=T5 a4 (x:=vk) (v:=x) (y:=vx) k3 (fun a=>a4.none hn a);obtain⟨i1,i2⟩:=DQ.swap hI hl a1 a6 (.mapU sh (E7 Ca vk (x))) a3 (.map (es.push { key:=vk,val:=vx,born:=ck }) (ck+1)) w ⟨rfl,rfl,rfl,rfl⟩ (by simp) (fun hg In E6 ah=>by
      obtain⟨u1,u2,u3,u4⟩:=BK g r (g.ρ r) (g.ln r) (g.tk r) (g.own r) g.S;have Ly:∀i,AU h i→AU (A2 h r (.mapU sh (E7 Ca vk x))) i:=fun i hi=>DV (by simp) i hi;refine⟨u3.trans t1,b,_,_,u4.trans a1,u1.trans a2,E6,m1,fun i kv e q1 q2=>?_,a6⟩;rcases m2 i kv e q1 q2 with ⟨p1,p2⟩ | ⟨p1,p2⟩
      ·rw[p1,p2];exact hx.mono In Ly hg
      ·exact(a5 i kv e p1 p2).mono In Ly hg)
     refine⟨_,_,_,?_,k4,i1,i2⟩;simp[Instr.mapUpdate,run_underlying iy,Fy,OD,r1,N9]
    ·obtain⟨a,q1,q2⟩:=a4.some hj hkey;obtain⟨m1,m2⟩:=Py a4 (x:=vk) (v:=x) (y:=vx) q1;obtain⟨i1,i2⟩:=DQ.swap hI hl a1 a6 (.mapU sh (E7 Ca vk (x))) a3 (.map (es.modify j fun e=>{ e with key:=vk,val:=vx }) ck) w ⟨rfl,rfl,rfl,rfl⟩ (by simp) (fun hg In E6 ah=>by
      obtain⟨u1,u2,u3,u4⟩:=BK g r (g.ρ r) (g.ln r) (g.tk r) (g.own r) g.S;have Ly:∀i,AU h i→AU (A2 h r (.mapU sh (E7 Ca vk x))) i:=fun i hi=>DV (by simp) i hi;refine⟨u3.trans t1,b,_,_,u4.trans a1,u1.trans a2,E6,m1,fun i kv e q1 q2=>?_,a6⟩;rcases m2 i kv e q1 q2 with ⟨p1,p2⟩ | ⟨p1,p2⟩
      ·rw[p1,p2];exact hx.mono In Ly hg
      ·exact(a5 i kv e p1 p2).mono In Ly hg)
     refine⟨_,_,_,?_,k4,i1,i2⟩;have pf : es[j]?=some en:=by simpa using hj
     have JM:=RR (P:=P) w k3;simp[Instr.mapUpdate,run_underlying iy,Fy,OD,r1,N9,pf,hkey,JM]
  ·exact hk.elim
 ·exact hk.elim
theorem On{d b:Nat}{es:Array MapEntry}{ck:Nat}{sh:EX}{Ca:List (Value×AV)}(hd:h d=.free)(hS:g.S b 0)(hb:w.heap[b]?=some (.map es ck))(hm:Hw sh es ck Ca)
  (hv:∀(i:Nat) (kv:Value×AV) (e:MapEntry),Ca[i]?=some kv→es[i]?=some e→BS g w FL kv.2 e.val) :
  ∃g',DQ w0 g0 h0 (A2 h d (.iter Ca Ca none)) g' (w.alloc (.mapIter (some b) ck #[] ck))∧Le h g w (A2 h d (.iter Ca Ca none)) g' (w.alloc (.mapIter (some b) ck #[] ck)) ∧
   BS g' (w.alloc (.mapIter (some b) ck #[] ck)) (AU (A2 h d (.iter Ca Ca none))) (.ref d 0) (.pointer (some ⟨w.heap.size,0,none⟩)):=by
 obtain⟨k1,k2⟩:=hI.newOwn hd (.iter Ca Ca none) (.mapIter (some b) ck #[] ck) (.pointer (some ⟨w.heap.size,0,none⟩)) 0 false w ⟨rfl,rfl,rfl,rfl⟩ (by simp) (fun hg hk=>by
  obtain⟨u1,u2,u3,u4⟩:=BK g d (.pointer (some ⟨w.heap.size,0,none⟩)) 0 false (some w.heap.size) g.S;obtain⟨c1,c2,c3⟩:=hk b 0 hS
  exact⟨u3,w.heap.size,b,ck,#[],ck,es,ck,u4,u1,H3 w _ rfl,c1,c3 es ck hb,⟨sh,hm⟩,rfl,rfl,fun i kv e q1 q2=>(hv i kv e q1 q2).mono hk (fun _ h=>h) (fun _ h=>h.elim),
   ⟨PE hm.2.2.2.1,fun _ h=>h⟩,fun i kv e q1 q2=>by simp[List.mem_of_getElem? q1],trivial,fun o ho=>by have:=hI.slt _ _ ho;omega⟩)
 refine⟨_,k1,k2,.ref _ d 0 w.heap.size (by unfold AU;rw[Bl];simp) ?_ ?_⟩<;>simp[Gh.upd]
theorem RJ{r b:Nat}{sh:EX}{Ca:List (Value×AV)}{es:Array MapEntry}{ck:Nat}(e0:h r=.map sh Ca)(a1:g.own r=some b)(a2:g.ρ r=.map (some b))(a3:w.heap[b]?=some (.map es ck))(a4:Hw sh es ck Ca)
  (a5:∀(i:Nat) (kv:Value×AV) (e:MapEntry),Ca[i]?=some kv→es[i]?=some e→BS g w FL kv.2 e.val) (t1:g.tk r=false) :
  ∃g',DQ w0 g0 h0 (A2 h r (.rom sh Ca)) g' w∧Le h g w (A2 h r (.rom sh Ca)) g' w∧g'.S b 0:=by
 have hl:(h r).live:=by rw[e0];trivial
 have DF:=(hI.loc r b hl a1).1
 obtain⟨k1,k2⟩:=hI.upd r (.rom sh Ca) (g.ρ r) (g.ln r) (g.tk r) none (g.more b 1) w none ⟨rfl,rfl,rfl,Al _⟩ (fun _ _ _=>rfl) (fun b e=>by cases e) (fun _ _ h=>.inl h)
  (fun b' o hs=>hs.elim .inl (fun hs=>.inr ⟨by rw[hs.1];exact DF,.inr ⟨hl,by rw[hs.1];exact a1⟩⟩)) (fun b o e=>by cases e) (fun b hh _=>by cases hh) (by simp)
  (fun _=>⟨rfl,Al _,fun _=>rfl,fun _=>rfl⟩) (fun hg hk=>by
   obtain⟨u1,u2,u3,u4⟩:=BK g r (g.ρ r) (g.ln r) (g.tk r) none (g.more b 1);exact⟨u3.trans t1,b,u1.trans a2,.cmap _ sh Ca b es ck (.inr ⟨rfl,Vd⟩) a3 a4 (fun i kv e q1 q2=>(a5 i kv e q1 q2).mono hk (fun _ h=>h) (fun _ h=>h.elim))⟩)
 exact⟨_,k1,k2,.inr ⟨rfl,Vd⟩⟩
theorem Xb{r b:Nat}{sh:EX}{Ca:List (Value×AV)}{es:Array MapEntry}{ck:Nat}(e0:h r=.mapU sh Ca)(a1:g.own r=some b)(a2:g.ρ r=.map (some b))(a3:w.heap[b]?=some (.map es ck))(a4:Hw sh es ck Ca)
  (a5:∀(i:Nat) (kv:Value×AV) (e:MapEntry),Ca[i]?=some kv→es[i]?=some e→BS g w (AU h) kv.2 e.val) (t1:g.tk r=false) :
  ∃g',DQ w0 g0 h0 (A2 h r (.rom sh (Sg h Ca))) g' w∧Le h g w (A2 h r (.rom sh (Sg h Ca))) g' w∧g'.S b 0:=by
 have hl:(h r).live:=by rw[e0];trivial
 have DF:=(hI.loc r b hl a1).1
 obtain⟨k1,k2⟩:=hI.upd r (.rom sh (Sg h Ca)) (g.ρ r) (g.ln r) (g.tk r) none (g.more b 1) w none ⟨rfl,rfl,rfl,Al _⟩ (fun _ _ _=>rfl) (fun b e=>by cases e) (fun _ _ h=>.inl h)
  (fun b' o hs=>hs.elim .inl (fun hs=>.inr ⟨by rw[hs.1];exact DF,.inr ⟨hl,by rw[hs.1];exact a1⟩⟩)) (fun b o e=>by cases e) (fun b hh _=>by cases hh) (by simp)
  (fun _=>⟨rfl,Al _,fun _=>rfl,fun _=>rfl⟩) (fun hg hk=>by
   obtain⟨u1,u2,u3,u4⟩:=BK g r (g.ρ r) (g.ln r) (g.tk r) none (g.more b 1);refine⟨u3.trans t1,b,u1.trans a2,.cmap _ sh _ b es ck (.inr ⟨rfl,Vd⟩) a3 (VW _ a4) (fun i kv e q1 q2=>?_)⟩;unfold Sg at q1;rw[AK]at q1;obtain⟨p,q3,rfl⟩:=AY.1 q1;exact((a5 i p e q3 q2).str hI.objs).mono hk (fun _ h=>h) (fun _ h=>h.elim))
 exact⟨_,k1,k2,.inr ⟨rfl,Vd⟩⟩
theorem eI{T:GS}(hT:CH P T){ty kt e:Nat}(ht:(T ty).d=.map kt e){d:Option Nat}{x:AV}{vx:Value}{K:HK}(hx:BS g w (AU h) x vx)(hk:aL d h x K) :
  OG P w0 g0 h0 h g w (Instr.range ty vx) K:=by
 have hu:=hT.map ht;unfold aL at hk;split at hk
 ·exact hk.elim
 ·rename_i d;split at hk
  ·rename_i hd;have CZ:∀b es ck,w.heap[b]?=some (.map es ck)→(Instr.range ty (.map (some b))).run P w=.ok (.pointer (some ⟨w.heap.size,0,none⟩)) (w.alloc (.mapIter (some b) ck #[] ck)):=fun b es ck hb=>by
    simp[Instr.range,run_underlying hu,run_getObj_map (P:=P) w b es ck hb]
   split at hk
   ·cases hx with
    |cmap _ _ _ b es ck hS hb hm hv =>
     obtain⟨g',k1,k2,k3⟩:=On hI hd hS hb hm hv;exact⟨_,_,_,_,_,CZ _ _ _ hb,hk,k1,k2,k3⟩
   ·rename_i r;have ho:=hI.objs r;cases hx with
    |mref _ _ b iy ht' hp =>
     split at hk
     ·rename_i sh Ca e0;rw[e0]at ho;obtain⟨_,b',a1,a2⟩:=ho;rw[a1]at hp;cases hp;cases a2 with
      |cmap _ _ _ _ es ck hS hb hm hv =>
       obtain⟨g',k1,k2,k3⟩:=On hI hd hS hb hm hv;exact⟨_,_,_,_,_,CZ _ _ _ hb,hk,k1,k2,k3⟩
     ·rename_i sh Ca e0;rw[e0]at ho;obtain⟨t1,b',es,ck,a1,a2,a3,a4,a5,a6⟩:=ho;rw[a2]at hp;cases hp;obtain⟨g1,i1,i2,i3⟩:=RJ hI e0 a1 a2 a3 a4 a5 t1;have DL:d≠r:=fun e=>by rw[e,e0]at hd;cases hd
      obtain⟨g',k1,k2,k3⟩:=On i1 (by rw[B8 _ _ _ _ DL];exact hd) i3 a3 a4 (fun i kv e q1 q2=>(a5 i kv e q1 q2).mono i2.keeps (fun _ h=>h) (fun _ h=>h.elim));exact⟨_,_,_,_,_,CZ _ _ _ a3,hk,k1,i2.trans k2,k3⟩
     ·exact hk.elim
   ·exact hk.elim
  ·exact hk.elim
theorem i7{ty:TypeId}{x:AV}{vx:Value}{K:HK}(hx:BS g w (AU h) x vx)(hk:iZ h x K):OG P w0 g0 h0 h g w (Instr.next vx false ty) K:=by
 unfold iZ at hk;split at hk
 ·rename_i r;split at hk
  ·rename_i all rem FV e0;have ho:=hI.objs r;rw[e0]at ho;obtain⟨t1,b,mb,Ko,seen,st,es,ck,a1,a2,a3,a4,a5,⟨sh,a6⟩,a7,a8,a9,XD,aX,a12,nW⟩:=ho;have hl:(h r).live:=by rw[e0];trivial
   cases hx with
   |ref _ _ _ b' hu ht hp =>
    rw[a2]at hp;cases hp;have DF:∀e∈es.toList,e.born<Ko:=fun e he=>by
     obtain⟨i,hi⟩:=Ck.1 he
     have:=a6.2.2.2.2.1 i e (by simpa using hi)
     omega
    rcases run_next_at (P:=P) w ty b mb Ko st seen es ck a3 a5 DF (by omega)with ⟨q1,q2⟩ | ⟨e,q1,w1,q2,q3⟩
    ·have xr:rem=[]:=by
      apply LY.2;intro kv P0;obtain⟨i,hi⟩:=Ck.1 (XD.2 kv P0);have si:i<es.size:=by rw[a6.1];exact(Aw.1 hi).1
      have hb:=(aX i kv es[i] hi (by simp[si])).1 P0;have hm:es[i]∈leftOf es seen:=by simp[leftOf,hb]
      have:=Array.size_pos_of_mem hm
      omega
     exact⟨_,w,g,_,h,q2,hk.1 xr,hI,.refl _ _ _,.tup _ _ _ rfl (fun i av x h1 h2=>by
      match i,h1,h2 with
      |0,h1,h2=>simp at h1 h2;subst h1;subst h2;exact .v _ _)⟩
    ·have hq:e∈es∧e.born∉seen:=by simpa[leftOf]using q1
     obtain⟨i,hi⟩:=Array.mem_iff_getElem?.1 hq.1;have si:i<all.length:=by rw[←a6.1];exact(BI.1 hi).1
     have qk:all[i]?=some all[i]:=AE si;have Zn:=(aX i _ e qk hi).2 hq.2;obtain⟨s1,s2,hs⟩:=List.append_of_mem Zn;have Je:rem.Perm (all[i]::(s1++s2)):=by rw[hs];exact List.perm_middle
     have Sb:(all[i]::(s1++s2)).Nodup:=Je.nodup_iff.1 XD.1;have hr:=a9 i _ e qk hi;have hkey:=a6.2.1 i _ e qk hi;have Lj:w1.heap=w.heap∧w1.os=w.os∧w1.tape=w.tape∧w1.output=w.output:=by rcases q2 with rfl | rfl<;>exact⟨rfl,rfl,rfl,rfl⟩
     obtain⟨k1,k2⟩:=DQ.swap hI hl a1 nW (.iter all (s1++s2) (some all[i])) a3 (.mapIter (some mb) Ko (seen.push e.born) ck) w1 Lj (by simp) (fun hg In E6 ah=>by
      obtain⟨u1,u2,u3,u4⟩:=BK g r (g.ρ r) (g.ln r) (g.tk r) (g.own r) g.S;obtain⟨c1,c2,c3⟩:=In mb 0 a4
      refine⟨u3.trans t1,b,mb,Ko,_,ck,es,ck,u4.trans a1,u1.trans a2,E6,c1,c3 _ _ a5,⟨sh,a6⟩,a7,rfl,fun i kv e p q=>(a9 i kv e p q).mono In (fun _ h=>h) (fun _ h=>h.elim),
       ⟨(Db.1 Sb).2,fun kv P0=>XD.2 kv (Je.mem_iff.2 (Af _ P0))⟩,fun j kv e' p q=>?_,⟨i,e,qk,hi,by simp⟩,nW⟩
      rw[Array.mem_push];have h1:=aX j kv e' p q;rw[Je.mem_iff,Av]at h1;constructor
      ·intro P0 hc;rcases hc with hc | hc
       ·exact(h1.1 (.inr P0)) hc
       ·obtain rfl:=a6.2.2.2.2.2 j i e' e q hi hc;rw[qk]at p;cases p;exact(Db.1 Sb).1 P0
      ·intro hc;rcases h1.2 (fun hm=>hc (.inl hm))with e2 | e2
       ·have:j=i:=VY (f:=fun x=>x) (l:=all) (by simpa using PE a6.2.2.2.1) p qk e2
        subst this;rw[hi]at q;cases q;exact absurd (.inr rfl) hc
       ·exact e2)
     refine⟨_,_,_,_,_,q3,hk.2 all[i] (s1++s2) Je,k1,k2,.tup _ _ _ rfl (fun j av x h1 h2=>?_)⟩
     match j,h1,h2 with
     |0,h1,h2=>simp at h1 h2;subst h1;subst h2;exact .v _ _
     |1,h1,h2=>simp at h1 h2;subst h1;subst h2;rw[hkey];exact .v _ _
     |2,h1,h2=>simp at h1 h2;subst h1;subst h2;exact(hr.up _).le k2
  ·exact hk.elim
 ·exact hk.elim
end
end Go.Eng
namespace Go.Eng
def Gz(F:(AV→Prop)→Prop):Prop:=∀K,F K→∃v,K v∧∀K',K' v→F K'
theorem DB(v:AV):Gz (fun K=>K v):=fun _ h=>⟨v,h,fun _ h=>h⟩
theorem DH{p:Prop}{F:(AV→Prop)→Prop}(h:Gz F):Gz (fun K=>p∧F K):=fun K ⟨hp,hk⟩ =>
 let ⟨v,h1,h2⟩:=h K hk
 ⟨v,h1,fun K' h'=>⟨hp,h2 K' h'⟩⟩
theorem CK:Gz (fun _=>False):=fun _ h=>h.elim
theorem V2(p:Prop):Gz (Jc p):=fun K h=>by
 by_cases hp:p
 ·exact⟨_,h.1 hp,fun K' h'=>⟨fun _=>h',fun hn=>absurd hp hn⟩⟩
 ·exact⟨_,h.2 hp,fun K' h'=>⟨fun q=>absurd q hp,fun _=>h'⟩⟩
theorem Zc{F:(AV→Prop)→Prop}(h:Gz F):Gz (fun K=>F (dQ K)):=fun K hk=>by
 obtain⟨v,h1,h2⟩:=h _ hk;unfold dQ at h1;split at h1
 ·exact⟨_,h1,fun K' h'=>h2 _ h'⟩
 ·exact⟨_,h1,fun K' h'=>h2 _ h'⟩
 ·exact h1.elim
theorem Ni{α:Type}{F:α→(AV→Prop)→Prop}(h:∀x,Gz (F x)):Gz (fun K=>∃x,F x K):=fun K ⟨x,hk⟩ =>
 let ⟨v,h1,h2⟩:=h x K hk
 ⟨v,h1,fun K' h'=>⟨x,h2 K' h'⟩⟩
theorem IE(T:GS)(t:Nat)(cs:List AV):Gz (LV T t cs):=by
 have head:Gz (Mt cs):=by unfold Mt;cases cs with | nil=>exact CK | cons a _=>exact DB a
 unfold LV;split
 ·exact DH (DB _)
 ·exact DH (DB _)
 ·cases cs with
  |nil=>exact CK
  |cons a _ =>
   intro K h;simp only[Mt]at h⊢;split at h
   ·rename_i b;cases b with
    |true=>exact⟨_,h.1 rfl,fun K' h'=>⟨fun _=>h',fun e=>by cases e⟩⟩
    |false=>exact⟨_,h.2 rfl,fun K' h'=>⟨fun e=>(by cases e),fun _=>h'⟩⟩
   ·exact h.elim
 ·exact CK
 ·exact head
theorem bU(T:GS)(t:Nat)(x y:AV)(hx:∀tk es,x≠.slice tk es):Gz (qh T t x y):=by
 unfold qh
 repeat' split
 all_goals first | exact CK | exact DB _ | exact V2 _ | exact DH (DB _) | exact absurd rfl (hx _ _)
theorem aH(op:BinOp)(k:IntKind)(a b:Int):Gz (ST op k a b):=by
 unfold ST
 repeat' split
 all_goals first | exact CK | exact DH (DB _) | (unfold ZA;split<;>first | exact CK | exact DB _)
theorem js(T:GS)(op:BinOp)(t:Nat)(x y:AV)(hx:∀tk es,x≠.slice tk es):Gz (SW T op t x y):=by
 unfold SW
 repeat' split
 all_goals first | exact CK | exact V2 _ | exact aH _ _ _ _ | exact DH (DB _) | exact bU _ _ _ _ hx | exact Zc (bU _ _ _ _ hx)
theorem d9(T:GS)(op:BinOp)(t:Nat)(Y:Operand)(x y:AV)(hx:∀tk es,x≠.slice tk es):Gz (XL T op t Y x y):=by
 unfold XL
 repeat' split
 all_goals first | exact CK | exact DB _ | exact js _ _ _ _ _ hx
theorem ee(T:GS)(s t:Nat)(x:AV):Gz (XR T s t x):=by
 unfold XR
 repeat' split
 all_goals first | exact CK | exact DB _ | exact DH (DB _) | exact Ni fun _=>DH (DB _)
theorem aJ(T:GS)(s f:Nat)(x:AV):Gz (Tp T s f x):=by
 unfold Tp
 repeat' split
 all_goals first | exact CK | exact DB _
theorem Za(T:GS)(s f:Nat)(x:AV):Gz (Pe T s f x):=by
 unfold Pe
 repeat' split
 all_goals first | exact CK | exact IE _ _ _
theorem Un(T:GS)(t:Nat)(x ix:AV):Gz (JO T t x ix):=by
 unfold JO
 repeat' split
 all_goals first | exact CK | exact DH (DB _) | exact Ni fun _=>DH (DH (DB _))
theorem aK(T:GS)(t:Nat)(x ix:AV):Gz (TR T t x ix):=by
 unfold TR
 repeat' split
 all_goals first | exact CK | exact DH (IE _ _ _) | exact Ni fun _=>DH (DB _)
theorem Xg(x:AV)(i:Nat):Gz (Ml x i):=by
 unfold Ml
 repeat' split
 all_goals first | exact CK | exact DB _
theorem ju(x:AV):Gz (K5 x):=by
 unfold K5
 repeat' split
 all_goals first | exact CK | exact DB _
theorem eh(c a b:AV):Gz (Y8 c a b):=by
 unfold Y8
 repeat' split
 all_goals first | exact CK | exact DB _
theorem mp(f:Int→Int→Int)(x y:AV):Gz (l5 f x y):=by
 unfold l5
 repeat' split
 all_goals first | exact CK | exact DB _
theorem eu(op:UnOp)(x:AV):Gz (Zj op x):=by
 unfold Zj
 repeat' split
 all_goals first | exact CK | exact Zc (DB _) | exact DH (DB _)
def mW{α:Type}(F:(α→Prop)→Prop):Prop:=∀K,F K→∃v,K v∧∀K',K' v→F K'
theorem Y9(n:Nat)(a:AV):mW (Hp n a):=by
 intro K h;unfold Hp at h⊢
 repeat' split at h
 all_goals first | exact h.elim | skip
 all_goals exact⟨_,h,fun K' h'=>h'⟩
theorem Ul(pl:Nat→Option (Nat×Nat))(t:Nat→AV):∀(ps:List (Nat×Operand)) (cs:List AV),mW (KV pl cs t ps)
 | [],cs=>fun K h=>⟨cs,h,fun _ h=>h⟩
 |(i,x)::r,cs=>by
  intro K h;unfold KV at h;split at h
  ·exact h.elim
  ·rename_i o n e;obtain⟨vs,h1,h2⟩:=Y9 _ _ _ h;split at h1
   ·rename_i hb;obtain⟨c,h3,h4⟩:=Ul pl t r _ _ h1;refine⟨c,h3,fun K' h'=>?_⟩;unfold KV;simp only[e];refine h2 _ ?_;simp only[hb];exact h4 K' h'
   ·exact h1.elim
theorem aI(T:GS)(ty:Nat)(t:Nat→AV)(ps:List (Nat×Operand)):Gz (Qj T ty t ps):=by
 unfold Qj
 repeat' split
 all_goals first
  |exact CK
  |exact fun K h=>let ⟨c,h1,h2⟩:=Ul _ _ _ _ _ h;⟨_,h1,fun K' h'=>h2 _ h'⟩
def zh(h:Nat→HO)(e:Option (Nat×HO)):Nat→HO:=match e with | none=>h | some (r,o)=>A2 h r o
structure I8(o:Oper)(R:List Nat)(st st2:St):Prop where
 t:∀x∈o.op.operands,ev st2.t x=ev st.t x
 h:∀r∈R,st2.h r=st.h r
def Em(cx:Cx)(o:Oper)(st:St)(R:List Nat)(w:Option Nat)(K:HK):Prop :=
 ∃v e,K v (zh st.h e)∧(∀r o',e=some (r,o')→w=some r∧r∈R)∧∀st2,I8 o R st st2→∀K' : HK,K' v (zh st2.h e)→Ga cx true o st2 K'
def SG(w:Option Nat)(r:Nat):Prop:=match w with | none=>False | some x=>x=r∨(10000000≤x∧(x % 10000000=r∨x / 10000000=r))∨x=Wz
def Iv(h:Nat→HO):List (Nat×HO)→Nat→HO
 | []=>h
 |p::l=>Iv (A2 h p.1 p.2) l
def Si(cx:Cx)(o:Oper)(st:St)(R:List Nat)(w:Option Nat)(K:HK):Prop :=
 ∃v e,K v (Iv st.h e)∧(∀r o',(r,o')∈e→SG w r∧r∈R)∧∀st2,I8 o R st st2→∀K' : HK,K' v (Iv st2.h e)→Ga cx true o st2 K'
section
variable {cx:Cx}{o:Oper}{st:St}{R:List Nat}{w:Option Nat}{K:HK}
theorem Em.pick{F:(AV→Prop)→Prop}(hF:Gz F)(h:F fun v=>K v st.h)(h2:∀st2,I8 o R st st2→∀K' : HK,F (fun v=>K' v st2.h)→Ga cx true o st2 K'):Em cx o st R w K :=
 let ⟨v,h1,h3⟩:=hF _ h
 ⟨v,none,h1,fun _ _ e=>(by cases e),fun st2 ha K' hk=>h2 st2 ha K' (h3 _ hk)⟩
theorem YO{cs:List AV}{a:AV}(h:a∈cs):∀r∈UY a,r∈lL cs:=by
 induction cs with
 |nil=>cases h
 |cons c cs ih =>
  intro r hr;rcases Av.1 h with rfl | h
  ·exact Br _ hr
  ·exact Bv _ (ih h r hr)
theorem iQ{cs:List AV}{a:AV}(h:a∈cs):∀r∈UZ a,r∈px cs:=by
 induction cs with
 |nil=>cases h
 |cons c cs ih =>
  intro r hr;rcases Av.1 h with rfl | h
  ·exact Br _ hr
  ·exact Bv _ (ih h r hr)
theorem YN{cs:List AV}{a:AV}(h:a∈cs):∀r∈Xy a,r∈TM cs:=by
 induction cs with
 |nil=>cases h
 |cons c cs ih =>
  intro r hr;rcases Av.1 h with rfl | h
  ·exact Br _ hr
  ·exact Bv _ (ih h r hr)
theorem VI(a:AV):∀r∈UY a,r∈UZ a:=by cases a<;>simp[UY,UZ]
theorem Q0{h h2:Nat→HO}{a:AV}(e:∀r∈UY a,h2 r=h r):str0 h2 a=str0 h a:=by
 cases a<;>simp only[str0]
 ·rw[e _ (by simp[UY])]
 ·rw[e _ (by simp[UY])]
theorem Wf{h h2:Nat→HO}{a:AV}(e:∀r∈UZ a,h2 r=h r):str h2 a=str h a:=by
 cases a with
 |agg cs=>simp only[str];exact Ab _ (Bn fun c hc=>Q0 fun r hr=>e r (YO hc r hr))
 |clo f cs=>simp only[str];exact Ab _ (Bn fun c hc=>Q0 fun r hr=>e r (YO hc r hr))
 |_=>exact Q0 (fun r hr=>e r (VI _ r hr))
theorem iA(a:AV):∀r∈UZ a,r∈Xy a:=by
 cases a with
 |agg cs =>
  intro r hr;simp only[Xy,UZ]at *
  induction cs with
  |nil=>exact hr
  |cons c cs ih =>
   rcases A6.1 hr with h | h
   ·exact Br _ (VI c r h)
   ·exact Bv _ (ih h)
 |_=>exact fun r hr=>hr
theorem Lg{h h2:Nat→HO}{a:AV}(e:∀r∈Xy a,h2 r=h r):str h2 a=str h a:=Wf fun r hr=>e r (iA a r hr)
theorem Ra{h h2:Nat→HO}{l:List AV}(e:∀r∈TM l,h2 r=h r):l.map (str h2)=l.map (str h) :=
 Bn fun _ ha=>Lg fun r hr=>e r (YN ha r hr)
theorem jI{h h2:Nat→HO}{a:AV}(e:∀r∈Xy a,h2 r=h r):rsv h2 a=rsv h a:=by
 cases a<;>simp only[rsv]
 ·rw[e _ (by simp[Xy,UZ,UY])]
 ·rw[e _ (by simp[Xy,UZ,UY])]
theorem N0{n:Nat}{a:AV}{K:List AV→Prop}(hk:Hp n a K):∃cs,K cs∧(∀K' : List AV→Prop,K' cs→Hp n a K')∧∀h h2:Nat→HO,(∀r∈Xy a,h2 r=h r)→cs.map (str h2)=cs.map (str h):=by
 have single:K [a]→(∀K' : List AV→Prop,K' [a]→Hp n a K')→∃cs,K cs∧(∀K' : List AV→Prop,K' cs→Hp n a K')∧∀h h2:Nat→HO,(∀r∈Xy a,h2 r=h r)→cs.map (str h2)=cs.map (str h) :=
  fun h1 h2=>⟨[a],h1,h2,fun h h2 e=>by simp[Lg e]⟩
 unfold Hp at hk;split at hk
 ·rename_i cs;split at hk
  ·rename_i hn;refine⟨cs,hk,fun K' h=>by unfold Hp;simp only[hn];exact h,fun h h2 e=>Bn fun c hc=>Wf fun r hr=>e r (iQ hc r hr)⟩
  ·exact hk.elim
 ·rename_i pi;split at hk
  ·rename_i h1;split at hk
   ·refine single hk fun K' h=>?_;unfold Hp;split
    ·rename_i cs;exact absurd rfl (pi cs)
    ·rw[h1];exact h
   ·exact hk.elim
  ·exact hk.elim
theorem Tq{n sz:Nat}{t:Nat→AV}:∀{ps:List (Nat×Operand)} {es:List (List AV)} {h:Nat→HO} {K:List (List AV)→Prop},Rv n sz h es t ps K →
  ∃FW,K FW∧∀(t2:Nat→AV) (h2:Nat→HO),(∀r∈TM (ps.map fun p=>ev t p.2),h2 r=h r)→(∀p∈ps,ev t2 p.2=ev t p.2)→∀K' : List (List AV)→Prop,K' FW→Rv n sz h2 es t2 ps K'
 | [],es,h,K,hk=>⟨es,hk,fun _ _ _ _ _ h=>h⟩
 |(i,x)::r,es,h,K,hk=>by
  unfold Rv at hk;split at hk
  ·rename_i hb;obtain⟨cs,c1,c2,c3⟩:=N0 hk;obtain⟨FW,e1,e2⟩:=Tq c1;refine⟨FW,e1,fun t2 h2 hh ht K' Kv=>?_⟩;unfold Rv;rw[hb,ht (i,x) (Ac ..)];refine c2 _ ?_;rw[c3 h h2 (fun r hr=>hh r (Br _ hr))];exact e2 t2 h2 (fun r hr=>hh r (Bv _ hr)) (fun p hp=>ht p (Af _ hp)) K' Kv
  ·exact hk.elim
theorem II{d:Option Nat}{h:Nat→HO}{sz:Nat}{es:List (List AV)}(hk:EN cx d h sz es K) :
  ∃d',d.map (KT cx)=some d'∧∃v x,K v (A2 h d' x)∧∀h2:Nat→HO,h2 d'=h d'→∀K' : HK,K' v (A2 h2 d' x)→EN cx d h2 sz es K':=by
 unfold EN at hk;split at hk
 ·exact hk.elim
 ·rename_i d;split at hk
  ·rename_i hd;split at hk
   ·rename_i e;exact⟨KT cx d,rfl,_,_,hk,fun h2 hh K' h'=>by unfold EN;simp only[hh,hd,e];exact h'⟩
   ·rename_i e;exact⟨KT cx d,rfl,_,_,hk,fun h2 hh K' h'=>by unfold EN;simp only[hh,hd,e];exact h'⟩
  ·exact hk.elim
theorem ZP{h:Nat→HO}{x:AV}{K:List (List AV)→Prop}(hk:Lu h x K):∃es,K es∧∀h2:Nat→HO,(∀r n,x=.msl r n→h2 r=h r)→∀K' : List (List AV)→Prop,K' es→Lu h2 x K':=by
 unfold Lu at hk;split at hk
 ·exact⟨_,hk,fun _ _ K' h=>h⟩
 ·exact⟨_,hk,fun _ _ K' h=>h⟩
 ·rename_i r n;split at hk
  ·rename_i sz es e;exact⟨_,hk.2,fun h2 hh K' h=>by unfold Lu;simp only[hh r n rfl,e];exact⟨hk.1,h⟩⟩
  ·exact hk.elim
 ·exact hk.elim
end
section
variable {cx:Cx}{dst:Option Nat}{ty:Nat}{pos:String}{after:Array Edge}{gd:Option (Nat×Bool)}{st:St}{R:List Nat}{w:Option Nat}{K:HK}
theorem IT{d:Option Nat}{l:List Nat}{f:FM}(h:IS d l=some f):∃d',d=some d'∧f=(d' :: l,some d'):=by
 unfold IS at h;cases d with
 |none=>cases h
 |some d=>cases h;exact⟨d,rfl,rfl⟩
theorem X9{e:Nat}(hk:Ga cx true ⟨dst,.alloc e,ty,pos,after,gd⟩ st K)(hf:Fx cx ⟨dst,.alloc e,ty,pos,after,gd⟩ st=some (R,w)):Em cx ⟨dst,.alloc e,ty,pos,after,gd⟩ st R w K:=by
 simp only[Ga]at hk;obtain⟨d,rfl,e0⟩:=IT hf;cases e0;unfold SP at hk;simp only at hk;split at hk
 ·rename_i hd;split at hk
  ·exact hk.elim
  ·rename_i DL;split at hk
   ·rename_i ha;refine⟨_,some (d,_),hk,fun r o' e=>(by cases e;exact⟨rfl,Ac ..⟩),fun st2 Hk K' h'=>?_⟩;simp only[Ga,SP];rw[Hk.h d (Ac ..),hd];simp only[ha];exact h'
   ·exact hk.elim
 ·exact hk.elim
theorem c9{e:Nat}{x:Operand}(hk:Ga cx true ⟨dst,.box e x,ty,pos,after,gd⟩ st K)(hf:Fx cx ⟨dst,.box e x,ty,pos,after,gd⟩ st=some (R,w)):Em cx ⟨dst,.box e x,ty,pos,after,gd⟩ st R w K:=by
 simp only[Ga]at hk;obtain⟨d,rfl,e0⟩:=IT hf;cases e0;unfold cK at hk;simp only at hk;split at hk
 ·rename_i hd;split at hk
  ·exact hk.elim
  ·rename_i DL;obtain⟨cs,c1,c2,c3⟩:=N0 hk;split at c1
   ·rename_i hm;refine⟨_,some (d,_),c1,fun r o' e=>(by cases e;exact⟨rfl,Ac ..⟩),fun st2 Hk K' h'=>?_⟩;have hx:ev st2.t x=ev st.t x:=Hk.t x (by simp[Op.operands]);simp only[Ga,cK];rw[Hk.h d (Ac ..),hd,hx];simp only[hm];refine c2 _ ?_;rw[c3 st.h st2.h (fun r hr=>Hk.h r (Af _ hr))];exact h'
   ·rename_i hm;refine⟨_,some (d,_),c1,fun r o' e=>(by cases e;exact⟨rfl,Ac ..⟩),fun st2 Hk K' h'=>?_⟩;have hx:ev st2.t x=ev st.t x:=Hk.t x (by simp[Op.operands]);simp only[Ga,cK];rw[Hk.h d (Ac ..),hd,hx];simp only[hm];exact c2 _ h'
 ·exact hk.elim
theorem Qs{t n:Nat}{ps:Array (Nat×Operand)}(hk:Ga cx true ⟨dst,.buildSlice t n ps,ty,pos,after,gd⟩ st K)(hf:Fx cx ⟨dst,.buildSlice t n ps,ty,pos,after,gd⟩ st=some (R,w)) :
  Em cx ⟨dst,.buildSlice t n ps,ty,pos,after,gd⟩ st R w K:=by
 simp only[Ga]at hk;obtain⟨d,dh,e0⟩:=IT hf;cases e0;unfold IP at hk;split at hk
 ·rename_i e he;split at hk
  ·rename_i h1 h2;split at hk
   ·exact hk.elim
   ·rename_i k Ek;split at hk
    ·rename_i hb;obtain⟨es,q1,q2⟩:=Tq hk;obtain⟨d',hd,v,x,q3,q4⟩:=II q1;have hd:dst.map (KT cx)=some d':=hd;have dh:dst.map (KT cx)=some d:=dh;rw[dh]at hd;cases hd;refine⟨v,some (d,x),q3,fun r o' e=>(by cases e;exact⟨rfl,Ac ..⟩),fun st2 Hk K' h'=>?_⟩;have hx:∀p∈ps.toList,ev st2.t p.2=ev st.t p.2:=fun p hp=>Hk.t p.2 (by
      simp only[Op.operands,List.mem_toArray];exact Ar.2 ⟨p,hp,rfl⟩)
     simp only[Ga,IP,he,h1,h2];split
     ·rename_i e0;rw[Ek]at e0;cases e0
     ·rw[hb];exact q2 st2.t st2.h (fun r hr=>Hk.h r (Af _ hr)) hx _ (q4 st2.h (Hk.h d (Ac ..)) K' h')
    ·exact hk.elim
  ·exact hk.elim
 ·exact hk.elim
theorem RW{t:Nat}{n c:Operand}(hk:Ga cx true ⟨dst,.makeSlice t n c,ty,pos,after,gd⟩ st K)(hf:Fx cx ⟨dst,.makeSlice t n c,ty,pos,after,gd⟩ st=some (R,w)) :
  Em cx ⟨dst,.makeSlice t n c,ty,pos,after,gd⟩ st R w K:=by
 simp only[Ga]at hk;obtain⟨d,dh,e0⟩:=IT hf;cases e0;have hn:∀st2,I8 ⟨dst,.makeSlice t n c,ty,pos,after,gd⟩ (d::[]) st st2→ev st2.t n=ev st.t n∧ev st2.t c=ev st.t c:=fun st2 ha=>⟨ha.t n (by simp[Op.operands]),ha.t c (by simp[Op.operands])⟩;unfold JQ at hk;split at hk
 ·rename_i e a b h1 h2 h3;split at hk
  ·rename_i h4;split at hk
   ·rename_i h5;split at hk
    ·exact hk.elim
    ·rename_i k Ek;obtain⟨d',hd,v,x,q3,q4⟩:=II hk.2;have hd:dst.map (KT cx)=some d':=hd;have dh:dst.map (KT cx)=some d:=dh;rw[dh]at hd;cases hd;refine⟨v,some (d,x),q3,fun r o' e=>(by cases e;exact⟨rfl,Ac ..⟩),fun st2 Hk K' h'=>?_⟩;simp only[Ga,JQ,(hn st2 Hk).1,(hn st2 Hk).2,h1,h2,h3,h4,h5];split
     ·rename_i e0;rw[Ek]at e0;cases e0
     ·exact⟨hk.1,q4 st2.h (Hk.h d (Ac ..)) K' h'⟩
   ·exact hk.elim
  ·exact hk.elim
 ·exact hk.elim
theorem UV{t:Nat}{r:Option Operand}(hk:Ga cx true ⟨dst,.makeMap t r,ty,pos,after,gd⟩ st K)(hf:Fx cx ⟨dst,.makeMap t r,ty,pos,after,gd⟩ st=some (R,w)) :
  Em cx ⟨dst,.makeMap t r,ty,pos,after,gd⟩ st R w K:=by
 cases r with
 |some r=>exact hk.elim
 |none =>
  simp only[Ga]at hk;obtain⟨d,rfl,e0⟩:=IT hf;cases e0;unfold K2 at hk;simp only at hk;split at hk
  ·rename_i hd;split at hk
   ·rename_i h1;split at hk
    ·rename_i h2;split at hk
     ·rename_i h3;refine⟨_,some (d,_),hk,fun r o' e=>(by cases e;exact⟨rfl,Ac ..⟩),fun st2 Hk K' h'=>?_⟩;simp only[Ga,K2];rw[Hk.h d (Ac ..),hd];simp only[h1,h2,h3];exact h'
     ·rename_i h3;refine⟨_,some (d,_),hk,fun r o' e=>(by cases e;exact⟨rfl,Ac ..⟩),fun st2 Hk K' h'=>?_⟩;simp only[Ga,K2];rw[Hk.h d (Ac ..),hd];simp only[h1,h2,h3];exact h'
    ·exact hk.elim
   ·exact hk.elim
  ·exact hk.elim
theorem Ya{t:Nat}{p x:Operand}(hk:Ga cx true ⟨dst,.store t p x,ty,pos,after,gd⟩ st K)(hf:Fx cx ⟨dst,.store t p x,ty,pos,after,gd⟩ st=some (R,w)) :
  Em cx ⟨dst,.store t p x,ty,pos,after,gd⟩ st R w K:=by
 simp only[Ga]at hk;have hn:∀st2,I8 ⟨dst,.store t p x,ty,pos,after,gd⟩ R st st2→ev st2.t p=ev st.t p∧ev st2.t x=ev st.t x:=fun st2 ha=>⟨ha.t p (by simp[Op.operands]),ha.t x (by simp[Op.operands])⟩;unfold Oz at hk;split at hk
 ·exact hk.elim
 ·rename_i DL;obtain⟨cs,c1,c2,c3⟩:=N0 hk;simp only[Fx]at hf;split at hf
  ·rename_i r off hp;split at hf
   ·cases hf
   ·rename_i hm;cases hf;rw[hp]at c1;simp only at c1;split at c1
    ·rename_i FV hr;obtain⟨Hr,Kv⟩:=c1;rw[hm]at Kv;refine⟨_,some (r,_),Kv,fun r o' e=>(by cases e;exact⟨rfl,Ac ..⟩),fun st2 Hk K' h'=>?_⟩;simp only[Ga,Oz,(hn st2 Hk).1,(hn st2 Hk).2];refine c2 _ ?_;rw[hp];simp only[Hk.h r (Ac ..),hr,hm];exact⟨Hr,h'⟩
    ·exact c1.elim
  ·rename_i r n sz i off hp;cases hf;rw[hp]at c1;simp only at c1;split at c1
   ·rename_i GQ es hr;split at c1
    ·rename_i hs;obtain⟨Hr,cell,e1,e2,Kv⟩:=c1;split at Kv
     ·rename_i j m;refine⟨_,some (r,_),Kv,fun r o' e=>(by cases e;exact⟨rfl,Ac ..⟩),fun st2 Hk K' h'=>?_⟩;simp only[Ga,Oz,(hn st2 Hk).1,(hn st2 Hk).2];refine c2 _ ?_;rw[hp];simp only[Hk.h r (Ac ..),hr,hs];exact⟨Hr,cell,e1,e2,h'⟩
     ·rename_i Sc;refine⟨_,some (r,_),Kv,fun r o' e=>(by cases e;exact⟨rfl,Ac ..⟩),fun st2 Hk K' h'=>?_⟩;simp only[Ga,Oz,(hn st2 Hk).1,(hn st2 Hk).2];refine c2 _ ?_;rw[hp];simp only[Hk.h r (Ac ..),hr,hs];refine⟨Hr,cell,e1,e2,?_⟩;rw[c3 st.h st2.h (fun r hr=>Hk.h r (Af _ hr))];exact h'
    ·exact c1.elim
   ·exact c1.elim
  ·cases hf
theorem RX{t:Nat}{m k x:Operand}(hk:Ga cx true ⟨dst,.mapUpdate t m k x,ty,pos,after,gd⟩ st K)(hf:Fx cx ⟨dst,.mapUpdate t m k x,ty,pos,after,gd⟩ st=some (R,w)) :
  Em cx ⟨dst,.mapUpdate t m k x,ty,pos,after,gd⟩ st R w K:=by
 simp only[Ga]at hk;have hn:∀st2,I8 ⟨dst,.mapUpdate t m k x,ty,pos,after,gd⟩ R st st2→ev st2.t m=ev st.t m∧ev st2.t k=ev st.t k∧ev st2.t x=ev st.t x:=fun st2 ha=>⟨ha.t m (by simp[Op.operands]),ha.t k (by simp[Op.operands]),ha.t x (by simp[Op.operands])⟩;simp only[Fx]at hf;split at hf
 ·rename_i r hm;cases hf;unfold Hs at hk;rw[hm]at hk;simp only at hk;split at hk
  ·rename_i sh Ca hr;unfold Ky at hk;split at hk
   ·rename_i kt e h1;split at hk
    ·rename_i uT h2;split at hk
     ·rename_i h3;split at hk
      ·rename_i kx h4;split at hk
       ·rename_i h5;refine⟨_,some (r,_),hk,fun r o' e=>(by cases e;exact⟨rfl,Ac ..⟩),fun st2 Hk K' h'=>?_⟩;obtain⟨n1,n2,n3⟩:=hn st2 Hk;simp only[Ga,Hs,n1,n2,n3,hm,Hk.h r (Ac ..),hr,Ky,h1,h2,h3,h4,h5];rw[Lg (h:=st.h) (h2:=st2.h) (fun r hr=>Hk.h r (Af _ hr))];exact h'
       ·exact hk.elim
      ·exact hk.elim
     ·exact hk.elim
    ·exact hk.elim
   ·exact hk.elim
  ·rename_i sh Ca hr;unfold Ky at hk;split at hk
   ·rename_i kt e h1;split at hk
    ·rename_i uT h2;split at hk
     ·rename_i h3;split at hk
      ·rename_i kx h4;split at hk
       ·rename_i h5;refine⟨_,some (r,_),hk,fun r o' e=>(by cases e;exact⟨rfl,Ac ..⟩),fun st2 Hk K' h'=>?_⟩;obtain⟨n1,n2,n3⟩:=hn st2 Hk;simp only[Ga,Hs,n1,n2,n3,hm,Hk.h r (Ac ..),hr,Ky,h1,h2,h3,h4,h5];exact h'
       ·exact hk.elim
      ·exact hk.elim
     ·exact hk.elim
    ·exact hk.elim
   ·exact hk.elim
  ·exact hk.elim
 ·cases hf
theorem bV{A B:(AV→Prop)→Prop}(ha:Gz A)(hb:Gz B):Gz fun K=>A K∨B K:=by
 intro K hk;rcases hk with hk | hk
 ·obtain⟨v,h1,h2⟩:=ha K hk;exact⟨v,h1,fun K' h=>.inl (h2 K' h)⟩
 ·obtain⟨v,h1,h2⟩:=hb K hk;exact⟨v,h1,fun K' h=>.inr (h2 K' h)⟩
theorem Ty{fn:Fn}{first cap:Array Operand}(hk:Ga cx true ⟨dst,.makeFunc fn first cap,ty,pos,after,gd⟩ st K)(hf:Fx cx ⟨dst,.makeFunc fn first cap,ty,pos,after,gd⟩ st=some (R,w)) :
  Em cx ⟨dst,.makeFunc fn first cap,ty,pos,after,gd⟩ st R w K:=by
 simp only[Ga]at hk;simp only[Fx]at hf;cases hf;unfold KZ at hk;split at hk
 ·rename_i f h1;refine⟨_,none,hk,fun r o' e=>(by cases e),fun st2 Hk K' h'=>?_⟩;simp only[Ga,h1,KZ]
  have:cap.toList.map (fun x=>rsv st2.h (ev st2.t x))=cap.toList.map (fun x=>rsv st.h (ev st.t x)):=Bn fun x hx=>by
   rw[Hk.t x (by simp only[Op.operands,SE];exact .inr (by simpa using hx))];exact jI fun r hr=>Hk.h r (YN (Ar.2 ⟨x,hx,rfl⟩) r hr)
  rw[this];exact h'
 ·exact hk.elim
end
end Go.Eng
