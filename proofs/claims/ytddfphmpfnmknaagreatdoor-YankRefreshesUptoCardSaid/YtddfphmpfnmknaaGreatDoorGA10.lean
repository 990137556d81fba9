/- Lemmas for the claims of this seat, without a condition: part 10 (EngT, EngU, EngV, EngW). -/
import Derived.Test.YtddfphmpfnmknaaGreatDoorGA09
import Derived.Maps.RangeRun
namespace Go.Eng
open Go.ChangeMaps (setBlock)
variable {B8:List (Value×AV)}{es:Array MapEntry}{sh:E7}{vx:Value}{α β:Type}{f:α→β}{l:List α}{ck:Nat}{w:World}{k x y:Value}{a:AV}{K:HK}{r:Nat}{o':Obj}{j:Nat}{v:AV}{T:G4}
theorem Wd{o:Obj}(h:w.heap[r]?=some o):(setBlock w r o').heap[r]?=some o':=by
 have:=(Bw.1 h).1
 simp[setBlock,this]
theorem Vq{k:Nat}(h:k≠r):(setBlock w r o').heap[k]?=w.heap[k]?:=by
 simp[setBlock,Ne.symm h]
theorem Ov(w:World)(r:Nat)(o' : Obj):(setBlock w r o').heap.size=w.heap.size:=by simp[setBlock]
theorem Qu(h:(l.map f).Nodup):l.Nodup:=by
 induction l with
 |nil=>exact FI
 |cons c l ih =>
  rw[AJ,Df]at h;exact Df.2 ⟨fun hc=>h.1 (Am.2 ⟨c,hc,rfl⟩),ih h.2⟩
theorem Xa(h:(l.map f).Nodup){i:Nat}{a b:α}(ha:l[i]?=some a)(hb:l[j]?=some b)(he:f a=f b):i=j:=by
 induction l generalizing i j with
 |nil=>simp at ha
 |cons c l ih =>
  rw[AJ,Df]at h;cases i with
  |zero =>
   cases j with
   |zero=>rfl
   |succ j =>
    simp only[A9,Bq,EP]at ha hb;exact absurd (Am.2 ⟨b,Ay hb,by rw[←he,ha]⟩) h.1
  |succ i =>
   cases j with
   |zero =>
    simp only[A9,Bq,EP]at ha hb;exact absurd (Am.2 ⟨a,Ay ha,by rw[he,hb]⟩) h.1
   |succ j=>exact Ab (·+1) (ih h.2 ha hb)
open Classical in
theorem RE{b:AV}(h:(k,b)∈B8):FD B8 k a=B8.map fun p=>if p.1=k then(k,a)else p:=Al ⟨b,h⟩
open Classical in
theorem Lx(h:∀b,(k,b)∉B8):FD B8 k a=B8++[(k,a)]:=Ae (fun⟨b,e⟩=>h b e)
theorem W6(f:AV→AV)(h:HM sh es ck B8):HM sh es ck (B8.map fun p=>(p.1,f p.2)):=by
 obtain⟨h1,h2,h3,h4,h5,h6⟩:=h;refine⟨by simp[h1],fun i kv e q1 q2=>?_,fun kv QX=>?_,?_,h5,h6⟩
 ·rw[AL]at q1;obtain⟨p,q3,rfl⟩:=AW.1 q1;exact h2 i p e q3 q2
 ·obtain⟨p,hp,rfl⟩:=Am.1 QX;exact h3 p hp
 ·rw[BE];exact h4
theorem Qo(h:HM sh es ck B8)(hj:B8[j]?=some (x,a)) :
  HM sh (es.modify j fun e=>{ e with key:=x,val:=y }) ck (FD B8 x v) ∧
   ∀(i:Nat) (kv:Value×AV) (e:MapEntry),(FD B8 x v)[i]?=some kv→(es.modify j fun e=>{ e with key:=x,val:=y })[i]?=some e →
    (kv.2=v∧e.val=y)∨(B8[i]?=some kv∧es[i]?=some e):=by
 classical
 rw[RE (Ay hj)];obtain⟨h1,h2,h3,h4,h5,h6⟩:=h;have hm:∀i e,(es.modify j fun e=>{ e with key:=x,val:=y })[i]?=some e→∃e0,es[i]?=some e0∧e.born=e0.born∧(if i=j then e.key=x∧e.val=y else e=e0):=by
  intro i e he;rw[Array.getElem?_modify]at he;split at he
  ·rename_i e1;subst e1;obtain⟨e0,q1,q2⟩:=AW.1 he;exact⟨e0,q1,by rw[←q2],by rw[Al rfl,←q2];exact⟨rfl,rfl⟩⟩
  ·rename_i e1;exact⟨e,he,rfl,by rw[Ae (fun q=>e1 q.symm)]⟩
 have hk:∀i kv,(B8.map fun p=>if p.1=x then(x,v)else p)[i]?=some kv→∃p,B8[i]?=some p∧kv.1=p.1∧(if i=j then kv.2=v else kv=p):=by
  intro i kv QX;rw[AL]at QX;obtain⟨p,q1,q2⟩:=AW.1 QX;refine⟨p,q1,?_⟩
  by_cases e:p.1=x
  ·rw[Al e]at q2;subst q2
   have:=Xa h4 q1 hj e
   exact⟨e.symm,by rw[Al this]⟩
  ·rw[Ae e]at q2;subst q2;refine⟨rfl,?_⟩;rw[Ae];intro e2;subst e2;rw[q1]at hj;cases hj;exact e rfl
 have vT:(B8.map fun p=>if p.1=x then(x,v)else p).map (·.1)=B8.map (·.1):=by
  rw[BE];apply Bd;intro p _;simp only[Function.comp];split
  ·rename_i e;exact e.symm
  ·rfl
 refine⟨⟨by simp[h1],fun i kv e q1 q2=>?_,fun kv QX=>?_,by rw[vT];exact h4,fun i e q=>?_,fun i i' e e' q q' hb=>?_⟩,fun i kv e q1 q2=>?_⟩
 ·obtain⟨p,p1,p2,p3⟩:=hk i kv q1;obtain⟨e0,r1,r2,r3⟩:=hm i e q2
  have:=h2 i p e0 p1 r1
  split at r3
  ·rename_i ij;subst ij;rw[hj]at p1;cases p1;rw[r3.1,p2]
  ·rw[r3,p2];exact this
 ·obtain⟨i,hi⟩:=Cg.1 QX;obtain⟨p,p1,p2,p3⟩:=hk i kv hi;rw[p2];exact h3 p (Ay p1)
 ·obtain⟨e0,r1,r2,_⟩:=hm i e q;rw[r2];exact h5 i e0 r1
 ·obtain⟨e0,r1,r2,_⟩:=hm i e q;obtain⟨e1,s1,s2,_⟩:=hm i' e' q';exact h6 i i' e0 e1 r1 s1 (by rw[←r2,←s2];exact hb)
 ·obtain⟨p,p1,p2,p3⟩:=hk i kv q1;obtain⟨e0,r1,r2,r3⟩:=hm i e q2;split at r3
  ·rename_i ij;rw[Al ij]at p3;exact .inl ⟨p3,r3.2⟩
  ·rename_i ij;rw[Ae ij]at p3;exact .inr ⟨by rw[p3];exact p1,by rw[r3];exact r1⟩
theorem UV(h:HM sh es ck B8)(hx:Xo sh x=true)(hn:∀a,(x,a)∉B8) :
  HM sh (es.push { key:=x,val:=y,born:=ck }) (ck+1) (FD B8 x v) ∧
   ∀(i:Nat) (kv:Value×AV) (e:MapEntry),(FD B8 x v)[i]?=some kv→(es.push { key:=x,val:=y,born:=ck })[i]?=some e →
    (kv.2=v∧e.val=y)∨(B8[i]?=some kv∧es[i]?=some e):=by
 rw[Lx hn];obtain⟨h1,h2,h3,h4,h5,h6⟩:=h;have hm:∀i e,(es.push { key:=x,val:=y,born:=ck })[i]?=some e→(es[i]?=some e∧i<es.size)∨(i=es.size∧e={ key:=x,val:=y,born:=ck }):=by
  intro i e he;rw[Array.getElem?_push]at he;split at he
  ·rename_i q;cases he;exact .inr ⟨q,rfl⟩
  ·exact .inl ⟨he,(Bw.1 he).1⟩
 have hk:∀i kv,(B8++[(x,v)])[i]?=some kv→(B8[i]?=some kv∧i<es.size)∨(i=es.size∧kv=(x,v)):=by
  intro i kv QX;rw[MK]at QX;split at QX
  ·rename_i q;exact .inl ⟨QX,by omega⟩
  ·rename_i q
   have:i-B8.length=0:=by
    have:=(Aw.1 QX).1
    simp at this;omega
   rw[this]at QX;simp at QX;exact .inr ⟨by omega,QX.symm⟩
 refine⟨⟨by simp[h1],fun i kv e q1 q2=>?_,fun kv QX=>?_,?_,fun i e q=>?_,fun i i' e e' q q' hb=>?_⟩,fun i kv e q1 q2=>?_⟩
 ·rcases hk i kv q1 with ⟨p1,p2⟩ | ⟨p1,p2⟩<;>rcases hm i e q2 with ⟨r1,r2⟩ | ⟨r1,r2⟩
  ·exact h2 i kv e p1 r1
  ·omega
  ·omega
  ·rw[p2,r2]
 ·rcases AY.1 QX with q | q
  ·exact h3 kv q
  ·rw[Ar.1 q];exact hx
 ·rw[As,GU];refine⟨h4,by simp,fun a ha b hb e=>?_⟩;simp only[AJ,FA,Ar]at hb;obtain⟨p,p1,p2⟩:=Am.1 ha;refine hn p.2 ?_
  have:p=(x,p.2):=by rw[←hb,←e,←p2]
  rw[←this];exact p1
 ·rcases hm i e q with ⟨r1,_⟩ | ⟨_,r2⟩
  ·have:=h5 i e r1;omega
  ·rw[r2];exact ME _
 ·rcases hm i e q with ⟨r1,_⟩ | ⟨r1,r2⟩<;>rcases hm i' e' q' with ⟨s1,_⟩ | ⟨s1,s2⟩
  ·exact h6 i i' e e' r1 s1 hb
  ·have:=h5 i e r1;rw[s2]at hb;dsimp only at hb;omega
  ·have:=h5 i' e' s1;rw[r2]at hb;dsimp only at hb;omega
  ·omega
 ·rcases hk i kv q1 with ⟨p1,p2⟩ | ⟨p1,p2⟩<;>rcases hm i e q2 with ⟨r1,r2⟩ | ⟨r1,r2⟩
  ·exact .inr ⟨p1,r1⟩
  ·omega
  ·omega
  ·exact .inl ⟨by rw[p2],by rw[r2]⟩
section
variable {P:Program}{w0:World}{g0:Gh}{h0 h:Nat→HO}{g:Gh}{w:World}(hI:DV w0 g0 h0 h g w)
include hI
theorem DV.swap{r b:Nat}(hl:(h r).live)(ho:g.own r=some b)(hn:∀o,¬g.S b o)(o' : HO){ob:Obj}(hb:w.heap[b]?=some ob)(eh : Obj)(w1:World)(LO:w1.heap=w.heap∧w1.os=w.os∧w1.tape=w.tape∧w1.output=w.output)(DM:o'≠.free)
  (Kg:KT g (g.upd r (g.ρ r) (g.ln r) (g.tk r) (g.own r) g.S) (AT h)→E3 g w (g.upd r (g.ρ r) (g.ln r) (g.tk r) (g.own r) g.S) (setBlock w1 b eh)→(setBlock w1 b eh).heap[b]?=some eh →
   (∀k,k≠b→(setBlock w1 b eh).heap[k]?=w.heap[k]?) →
   Ez (g.upd r (g.ρ r) (g.ln r) (g.tk r) (g.own r) g.S) (setBlock w1 b eh) (AT (A0 h r o')) r o') :
  DV w0 g0 h0 (A0 h r o') (g.upd r (g.ρ r) (g.ln r) (g.tk r) (g.own r) g.S) (setBlock w1 b eh)∧Le h g w (A0 h r o') (g.upd r (g.ρ r) (g.ln r) (g.tk r) (g.own r) g.S) (setBlock w1 b eh):=by
 have DJ:=(hI.loc r b hl ho).1;have Fp:(setBlock w1 b eh).heap[b]?=some eh:=Wd (by rw[LO.1];exact hb);have co:∀k,k≠b→(setBlock w1 b eh).heap[k]?=w.heap[k]?:=fun k hk=>by rw[Vq hk,LO.1]
 refine hI.upd r o' _ _ _ _ _ _ (some b) ⟨LO.2.1,LO.2.2.1,LO.2.2.2,by rw[Ov,LO.1];exact Ao _⟩ (fun k _ DM=>co k (fun e=>DM (by rw[e]))) (fun b' e=>by cases e;exact⟨hl,ho⟩) (fun _ _ h=>h) (fun _ _ h=>.inl h)
  (fun b' o e hs=>by cases e;exact absurd hs (hn o)) (fun b' _ e=>?_) DM (fun _=>⟨rfl,Ao _,fun _=>rfl,fun _=>rfl⟩) (fun hg hk=>Kg hg hk Fp co)
 rw[ho]at e;cases e;exact⟨by rw[Ov,LO.1];exact DJ,.inl ⟨hl,ho⟩⟩
theorem Ol(hT:CL P T){ty:Nat}{m k x:AV}{vm vk:Value}(hm:BP g w (AT h) m vm)(KX : BP g w (AT h) k vk)(hx:BP g w (AT h) x vx)(hk:HF T h ty m k x K) :
  jj P w0 g0 h0 h g w (Instr.mapUpdate ty vm vk vx) K:=by
 unfold HF at hk;split at hk
 ·rename_i r;split at hk
  ·rename_i sh B8 e0;obtain⟨kt,e,k1,k2,k3,k4⟩:=NI KX hk;have ho:=hI.objs r;rw[e0]at ho;obtain⟨t1,b,es,ck,a1,a2,a3,a4,a5,a6⟩:=ho;have hl:(h r).live:=by rw[e0];trivial
   cases hm with
   |mref _ _ b' hu ht hp =>
    rw[a2]at hp;cases hp;have kU:=hT.map k1;have FN:=run_getObj_map (P:=P) w b es ck a3;have OO:∀o',(setObj b o').run P w=.ok () (setBlock w b o'):=fun o'=>by simp[setObj,Sem.run,a3,setBlock]
    have NY:=fun bb=>Nr hT k2 w bb k3;obtain⟨res,r1,r2⟩:=Pf hT k2 w k3 es.toList a4.shape;have na:=BP.str hI.objs hx;rcases r2 with ⟨rfl,hn⟩ | ⟨j,en,rfl,hj,hkey⟩
    ·obtain⟨m1,m2⟩:=UV a4 (x:=vk) (v:=str h x) (y:=vx) k3 (fun a=>a4.none hn a);obtain⟨i1,i2⟩:=DV.swap hI hl a1 a6 (.map sh (FD B8 vk (str h x))) a3 (.map (es.push { key:=vk,val:=vx,born:=ck }) (ck+1)) w ⟨rfl,rfl,rfl,rfl⟩ B0 (fun hg IN Fp co=>by
      obtain⟨u1,u2,u3,u4⟩:=BG g r (g.ρ r) (g.ln r) (g.tk r) (g.own r) g.S;refine⟨u3.trans t1,b,_,_,u4.trans a1,u1.trans a2,Fp,m1,fun i kv e q1 q2=>?_,a6⟩;rcases m2 i kv e q1 q2 with ⟨p1,p2⟩ | ⟨p1,p2⟩
      ·rw[p1,p2];exact na.mono IN (fun _ h=>h) (fun _ h=>h.elim)
      ·exact(a5 i kv e p1 p2).mono IN (fun _ h=>h) (fun _ h=>h.elim))
     refine⟨_,_,_,?_,k4,i1,i2⟩;simp[Instr.mapUpdate,run_underlying kU,FN,NY,r1,OO]
    ·obtain⟨a,q1,q2⟩:=a4.some hj hkey;obtain⟨m1,m2⟩:=Qo a4 (x:=vk) (v:=str h x) (y:=vx) q1;obtain⟨i1,i2⟩:=DV.swap hI hl a1 a6 (.map sh (FD B8 vk (str h x))) a3 (.map (es.modify j fun e=>{ e with key:=vk,val:=vx }) ck) w ⟨rfl,rfl,rfl,rfl⟩ B0 (fun hg IN Fp co=>by
      obtain⟨u1,u2,u3,u4⟩:=BG g r (g.ρ r) (g.ln r) (g.tk r) (g.own r) g.S;refine⟨u3.trans t1,b,_,_,u4.trans a1,u1.trans a2,Fp,m1,fun i kv e q1 q2=>?_,a6⟩;rcases m2 i kv e q1 q2 with ⟨p1,p2⟩ | ⟨p1,p2⟩
      ·rw[p1,p2];exact na.mono IN (fun _ h=>h) (fun _ h=>h.elim)
      ·exact(a5 i kv e p1 p2).mono IN (fun _ h=>h) (fun _ h=>h.elim))
     refine⟨_,_,_,?_,k4,i1,i2⟩;have r7 : es[j]?=some en:=by simpa using hj
     have JU:=SP (P:=P) w k3;simp[Instr.mapUpdate,run_underlying kU,FN,NY,r1,OO,r7,hkey,JU]
  ·rename_i sh B8 e0;obtain⟨kt,e,k1,k2,k3,k4⟩:=NI KX hk;have ho:=hI.objs r;rw[e0]at ho;obtain⟨t1,b,es,ck,a1,a2,a3,a4,a5,a6⟩:=ho;have hl:(h r).live:=by rw[e0];trivial
   cases hm with
   |mref _ _ b' hu ht hp =>
    rw[a2]at hp;cases hp;have kU:=hT.map k1;have FN:=run_getObj_map (P:=P) w b es ck a3;have OO:∀o',(setObj b o').run P w=.ok () (setBlock w b o'):=fun o'=>by simp[setObj,Sem.run,a3,setBlock]
    have NY:=fun bb=>Nr hT k2 w bb k3;obtain⟨res,r1,r2⟩:=Pf hT k2 w k3 es.toList a4.shape;rcases r2 with ⟨rfl,hn⟩ | ⟨j,en,rfl,hj,hkey⟩
    ·obtain⟨m1,m2⟩:=UV a4 (x:=vk) (v:=x) (y:=vx) k3 (fun a=>a4.none hn a);obtain⟨i1,i2⟩:=DV.swap hI hl a1 a6 (.mapU sh (FD B8 vk (x))) a3 (.map (es.push { key:=vk,val:=vx,born:=ck }) (ck+1)) w ⟨rfl,rfl,rfl,rfl⟩ B0 (fun hg IN Fp co=>by
      obtain⟨u1,u2,u3,u4⟩:=BG g r (g.ρ r) (g.ln r) (g.tk r) (g.own r) g.S;have Lb:∀i,AT h i→AT (A0 h r (.mapU sh (FD B8 vk x))) i:=fun i hi=>D5 B0 i hi;refine⟨u3.trans t1,b,_,_,u4.trans a1,u1.trans a2,Fp,m1,fun i kv e q1 q2=>?_,a6⟩;rcases m2 i kv e q1 q2 with ⟨p1,p2⟩ | ⟨p1,p2⟩
      ·rw[p1,p2];exact hx.mono IN Lb hg
      ·exact(a5 i kv e p1 p2).mono IN Lb hg)
     refine⟨_,_,_,?_,k4,i1,i2⟩;simp[Instr.mapUpdate,run_underlying kU,FN,NY,r1,OO]
    ·obtain⟨a,q1,q2⟩:=a4.some hj hkey;obtain⟨m1,m2⟩:=Qo a4 (x:=vk) (v:=x) (y:=vx) q1;obtain⟨i1,i2⟩:=DV.swap hI hl a1 a6 (.mapU sh (FD B8 vk (x))) a3 (.map (es.modify j fun e=>{ e with key:=vk,val:=vx }) ck) w ⟨rfl,rfl,rfl,rfl⟩ B0 (fun hg IN Fp co=>by
      obtain⟨u1,u2,u3,u4⟩:=BG g r (g.ρ r) (g.ln r) (g.tk r) (g.own r) g.S;have Lb:∀i,AT h i→AT (A0 h r (.mapU sh (FD B8 vk x))) i:=fun i hi=>D5 B0 i hi;refine⟨u3.trans t1,b,_,_,u4.trans a1,u1.trans a2,Fp,m1,fun i kv e q1 q2=>?_,a6⟩;rcases m2 i kv e q1 q2 with ⟨p1,p2⟩ | ⟨p1,p2⟩
      ·rw[p1,p2];exact hx.mono IN Lb hg
      ·exact(a5 i kv e p1 p2).mono IN Lb hg)
     refine⟨_,_,_,?_,k4,i1,i2⟩;have r7 : es[j]?=some en:=by simpa using hj
     have JU:=SP (P:=P) w k3;simp[Instr.mapUpdate,run_underlying kU,FN,NY,r1,OO,r7,hkey,JU]
  ·exact hk.elim
 ·exact hk.elim
theorem O0{d b:Nat}{ck:Nat}(hd:h d=.free)(hS:g.S b 0)(hb:w.heap[b]?=some (.map es ck))(hm:HM sh es ck B8)(hv:∀(i:Nat) (kv:Value×AV) (e:MapEntry),B8[i]?=some kv→es[i]?=some e→BP g w FQ kv.2 e.val) :
  ∃g',DV w0 g0 h0 (A0 h d (.iter B8 B8 none)) g' (w.alloc (.mapIter (some b) ck #[] ck))∧Le h g w (A0 h d (.iter B8 B8 none)) g' (w.alloc (.mapIter (some b) ck #[] ck)) ∧
   BP g' (w.alloc (.mapIter (some b) ck #[] ck)) (AT (A0 h d (.iter B8 B8 none))) (.ref d 0) (.pointer (some ⟨w.heap.size,0,none⟩)):=by
 obtain⟨k1,k2⟩:=hI.newOwn hd (.iter B8 B8 none) (.mapIter (some b) ck #[] ck) (.pointer (some ⟨w.heap.size,0,none⟩)) 0 false w ⟨rfl,rfl,rfl,rfl⟩ B0 (fun hg hk=>by
  obtain⟨u1,u2,u3,u4⟩:=BG g d (.pointer (some ⟨w.heap.size,0,none⟩)) 0 false (some w.heap.size) g.S;obtain⟨c1,c2,c3⟩:=hk b 0 hS
  exact⟨u3,w.heap.size,b,ck,#[],ck,es,ck,u4,u1,Ip w _ rfl,c1,c3 es ck hb,⟨sh,hm⟩,rfl,rfl,fun i kv e q1 q2=>(hv i kv e q1 q2).mono hk (fun _ h=>h) (fun _ h=>h.elim),
   ⟨Qu hm.2.2.2.1,fun _ h=>h⟩,fun i kv e q1 q2=>by simp[List.mem_of_getElem? q1],trivial,fun o ho=>by have:=hI.slt _ _ ho;omega⟩)
 refine⟨_,k1,k2,.ref _ d 0 w.heap.size (by unfold AT;rw[Bg];simp) ?_ ?_⟩<;>simp[Gh.upd]
theorem SG{r b:Nat}{ck:Nat}(e0:h r=.map sh B8)(a1:g.own r=some b)(a2:g.ρ r=.map (some b))(a3:w.heap[b]?=some (.map es ck))(a4:HM sh es ck B8)(a5:∀(i:Nat) (kv:Value×AV) (e:MapEntry),B8[i]?=some kv→es[i]?=some e→BP g w FQ kv.2 e.val)(t1:g.tk r=false) :
  ∃g',DV w0 g0 h0 (A0 h r (.rom sh B8)) g' w∧Le h g w (A0 h r (.rom sh B8)) g' w∧g'.S b 0:=by
 have hl:(h r).live:=by rw[e0];trivial
 have DJ:=(hI.loc r b hl a1).1
 obtain⟨k1,k2⟩:=hI.upd r (.rom sh B8) (g.ρ r) (g.ln r) (g.tk r) none (g.more b 1) w none ⟨rfl,rfl,rfl,Ao _⟩ (fun _ _ _=>rfl) (fun b e=>by cases e) (fun _ _ h=>.inl h)
  (fun b' o hs=>hs.elim .inl (fun hs=>.inr ⟨by rw[hs.1];exact DJ,.inr ⟨hl,by rw[hs.1];exact a1⟩⟩)) (fun b o e=>by cases e) (fun b hh _=>by cases hh) B0
  (fun _=>⟨rfl,Ao _,fun _=>rfl,fun _=>rfl⟩) (fun hg hk=>by
   obtain⟨u1,u2,u3,u4⟩:=BG g r (g.ρ r) (g.ln r) (g.tk r) none (g.more b 1);exact⟨u3.trans t1,b,u1.trans a2,.cmap _ sh B8 b es ck (.inr ⟨rfl,Wi⟩) a3 a4 (fun i kv e q1 q2=>(a5 i kv e q1 q2).mono hk (fun _ h=>h) (fun _ h=>h.elim))⟩)
 exact⟨_,k1,k2,.inr ⟨rfl,Wi⟩⟩
theorem Yu{r b:Nat}{ck:Nat}(e0:h r=.mapU sh B8)(a1:g.own r=some b)(a2:g.ρ r=.map (some b))(a3:w.heap[b]?=some (.map es ck))(a4:HM sh es ck B8)(a5:∀(i:Nat) (kv:Value×AV) (e:MapEntry),B8[i]?=some kv→es[i]?=some e→BP g w (AT h) kv.2 e.val)(t1:g.tk r=false) :
  ∃g',DV w0 g0 h0 (A0 h r (.rom sh (Ti h B8))) g' w∧Le h g w (A0 h r (.rom sh (Ti h B8))) g' w∧g'.S b 0:=by
 have hl:(h r).live:=by rw[e0];trivial
 have DJ:=(hI.loc r b hl a1).1
 obtain⟨k1,k2⟩:=hI.upd r (.rom sh (Ti h B8)) (g.ρ r) (g.ln r) (g.tk r) none (g.more b 1) w none ⟨rfl,rfl,rfl,Ao _⟩ (fun _ _ _=>rfl) (fun b e=>by cases e) (fun _ _ h=>.inl h)
  (fun b' o hs=>hs.elim .inl (fun hs=>.inr ⟨by rw[hs.1];exact DJ,.inr ⟨hl,by rw[hs.1];exact a1⟩⟩)) (fun b o e=>by cases e) (fun b hh _=>by cases hh) B0
  (fun _=>⟨rfl,Ao _,fun _=>rfl,fun _=>rfl⟩) (fun hg hk=>by
   obtain⟨u1,u2,u3,u4⟩:=BG g r (g.ρ r) (g.ln r) (g.tk r) none (g.more b 1);refine⟨u3.trans t1,b,u1.trans a2,.cmap _ sh _ b es ck (.inr ⟨rfl,Wi⟩) a3 (W6 _ a4) (fun i kv e q1 q2=>?_)⟩;unfold Ti at q1;rw[AL]at q1;obtain⟨p,q3,rfl⟩:=AW.1 q1;exact((a5 i p e q3 q2).str hI.objs).mono hk (fun _ h=>h) (fun _ h=>h.elim))
 exact⟨_,k1,k2,.inr ⟨rfl,Wi⟩⟩
theorem iE(hT:CL P T){ty kt e:Nat}(ht:(T ty).d=.map kt e){d:Option Nat}{x:AV}(hx:BP g w (AT h) x vx)(hk:c8 d h x K) :
  Po P w0 g0 h0 h g w (Instr.range ty vx) K:=by
 have hu:=hT.map ht;unfold c8 at hk;split at hk
 ·exact hk.elim
 ·rename_i d;split at hk
  ·rename_i hd;have Da:∀b es ck,w.heap[b]?=some (.map es ck)→(Instr.range ty (.map (some b))).run P w=.ok (.pointer (some ⟨w.heap.size,0,none⟩)) (w.alloc (.mapIter (some b) ck #[] ck)):=fun b es ck hb=>by
    simp[Instr.range,run_underlying hu,run_getObj_map (P:=P) w b es ck hb]
   split at hk
   ·cases hx with
    |cmap _ _ _ b es ck hS hb hm hv =>
     obtain⟨g',k1,k2,k3⟩:=O0 hI hd hS hb hm hv;exact⟨_,_,_,_,_,Da _ _ _ hb,hk,k1,k2,k3⟩
   ·rename_i r;have ho:=hI.objs r;cases hx with
    |mref _ _ b kU ht' hp =>
     split at hk
     ·rename_i sh B8 e0;rw[e0]at ho;obtain⟨_,b',a1,a2⟩:=ho;rw[a1]at hp;cases hp;cases a2 with
      |cmap _ _ _ _ es ck hS hb hm hv =>
       obtain⟨g',k1,k2,k3⟩:=O0 hI hd hS hb hm hv;exact⟨_,_,_,_,_,Da _ _ _ hb,hk,k1,k2,k3⟩
     ·rename_i sh B8 e0;rw[e0]at ho;obtain⟨t1,b',es,ck,a1,a2,a3,a4,a5,a6⟩:=ho;rw[a2]at hp;cases hp;obtain⟨g1,i1,i2,i3⟩:=SG hI e0 a1 a2 a3 a4 a5 t1;have DM:d≠r:=fun e=>by rw[e,e0]at hd;cases hd
      obtain⟨g',k1,k2,k3⟩:=O0 i1 (by rw[B7 _ _ _ _ DM];exact hd) i3 a3 a4 (fun i kv e q1 q2=>(a5 i kv e q1 q2).mono i2.keeps (fun _ h=>h) (fun _ h=>h.elim));exact⟨_,_,_,_,_,Da _ _ _ a3,hk,k1,i2.trans k2,k3⟩
     ·exact hk.elim
   ·exact hk.elim
  ·exact hk.elim
theorem lH{ty:TypeId}{x:AV}(hx:BP g w (AT h) x vx)(hk:lG h x K):Po P w0 g0 h0 h g w (Instr.next vx false ty) K:=by
 unfold lG at hk;split at hk
 ·rename_i r;split at hk
  ·rename_i all rem F6 e0;have ho:=hI.objs r;rw[e0]at ho;obtain⟨t1,b,mb,KQ,seen,st,es,ck,a1,a2,a3,a4,a5,⟨sh,a6⟩,a7,a8,a9,YW,du,a12,qW⟩:=ho;have hl:(h r).live:=by rw[e0];trivial
   cases hx with
   |ref _ _ _ b' hu ht hp =>
    rw[a2]at hp;cases hp;have DJ:∀e∈es.toList,e.born<KQ:=fun e he=>by
     obtain⟨i,hi⟩:=Cg.1 he
     have:=a6.2.2.2.2.1 i e (by simpa using hi)
     omega
    rcases run_next_at (P:=P) w ty b mb KQ st seen es ck a3 a5 DJ ch with ⟨q1,q2⟩ | ⟨e,q1,w1,q2,q3⟩
    ·have AaS:rem=[]:=by
      apply MC.2;intro kv QX;obtain⟨i,hi⟩:=Cg.1 (YW.2 kv QX);have tW:i<es.size:=by rw[a6.1];exact(Aw.1 hi).1
      have hb:=(du i kv es[i] hi (by simp[tW])).1 QX;have hm:es[i]∈leftOf es seen:=by simp[leftOf,hb]
      have:=Array.size_pos_of_mem hm
      omega
     exact⟨_,w,g,_,h,q2,hk.1 AaS,hI,.refl _ _ _,.tup _ _ _ rfl (fun i av x h1 h2=>by
      match i,h1,h2 with
      |0,h1,h2=>simp at h1 h2;subst h1;subst h2;exact .v _ _)⟩
    ·have hq:e∈es∧e.born∉seen:=by simpa[leftOf]using q1
     obtain⟨i,hi⟩:=Array.mem_iff_getElem?.1 hq.1;have tW:i<all.length:=by rw[←a6.1];exact(Bw.1 hi).1
     have tM:all[i]?=some all[i]:=AE tW;have bt:=(du i _ e tM hi).2 hq.2;obtain⟨s1,s2,hs⟩:=List.append_of_mem bt;have JK:rem.Perm (all[i]::(s1++s2)):=by rw[hs];exact List.perm_middle
     have Oh:(all[i]::(s1++s2)).Nodup:=JK.nodup_iff.1 YW.1;have hr:=a9 i _ e tM hi;have hkey:=a6.2.1 i _ e tM hi;have LO:w1.heap=w.heap∧w1.os=w.os∧w1.tape=w.tape∧w1.output=w.output:=by rcases q2 with rfl | rfl<;>exact⟨rfl,rfl,rfl,rfl⟩
     obtain⟨k1,k2⟩:=DV.swap hI hl a1 qW (.iter all (s1++s2) (some all[i])) a3 (.mapIter (some mb) KQ (seen.push e.born) ck) w1 LO B0 (fun hg IN Fp co=>by
      obtain⟨u1,u2,u3,u4⟩:=BG g r (g.ρ r) (g.ln r) (g.tk r) (g.own r) g.S;obtain⟨c1,c2,c3⟩:=IN mb 0 a4
      refine⟨u3.trans t1,b,mb,KQ,_,ck,es,ck,u4.trans a1,u1.trans a2,Fp,c1,c3 _ _ a5,⟨sh,a6⟩,a7,rfl,fun i kv e p q=>(a9 i kv e p q).mono IN (fun _ h=>h) (fun _ h=>h.elim),
       ⟨(Df.1 Oh).2,fun kv QX=>YW.2 kv (JK.mem_iff.2 (Ah _ QX))⟩,fun j kv e' p q=>?_,⟨i,e,tM,hi,by simp⟩,qW⟩
      rw[Array.mem_push];have h1:=du j kv e' p q;rw[JK.mem_iff,AF]at h1;constructor
      ·intro QX hc;rcases hc with hc | hc
       ·exact(h1.1 (.inr QX)) hc
       ·obtain rfl:=a6.2.2.2.2.2 j i e' e q hi hc;rw[tM]at p;cases p;exact(Df.1 Oh).1 QX
      ·intro hc;rcases h1.2 (fun hm=>hc (.inl hm))with e2 | e2
       ·have:j=i:=Xa (f:=fun x=>x) (l:=all) (by simpa using Qu a6.2.2.2.1) p tM e2
        subst this;rw[hi]at q;cases q;exact absurd (.inr rfl) hc
       ·exact e2)
     refine⟨_,_,_,_,_,q3,hk.2 all[i] (s1++s2) JK,k1,k2,.tup _ _ _ rfl (fun j av x h1 h2=>?_)⟩
     match j,h1,h2 with
     |0,h1,h2=>simp at h1 h2;subst h1;subst h2;exact .v _ _
     |1,h1,h2=>simp at h1 h2;subst h1;subst h2;rw[hkey];exact .v _ _
     |2,h1,h2=>simp at h1 h2;subst h1;subst h2;exact(hr.up _).le k2
  ·exact hk.elim
 ·exact hk.elim
end
end Go.Eng
namespace Go.Eng
variable {F:(AV→Prop)→Prop}{a:AV}{α:Type}(T:G4)(cx:Cx)(o:Oper)(op:BinOp)(s:Nat)(st:St)(f:Nat)(R:List Nat)(k:IntKind)(w:Option Nat)(K:HK)(x:AV)
def GE(F:(AV→Prop)→Prop):Prop:=∀K,F K→∃v,K v∧∀K',K' v→F K'
theorem Di(v:AV):GE (fun K=>K v):=fun _ h=>⟨v,h,fun _ h=>h⟩
theorem DE{p:Prop}(h:GE F):GE (fun K=>p∧F K):=fun K ⟨hp,hk⟩ =>
 let ⟨v,h1,h2⟩:=h K hk
 ⟨v,h1,fun K' h'=>⟨hp,h2 K' h'⟩⟩
theorem CN:GE (fun _=>False):=fun _ h=>h.elim
theorem Xd(p:Prop):GE (JI p):=fun K h=>by
 by_cases hp:p
 ·exact⟨_,h.1 hp,fun K' h'=>⟨fun _=>h',fun hn=>absurd hp hn⟩⟩
 ·exact⟨_,h.2 hp,fun K' h'=>⟨fun q=>absurd q hp,fun _=>h'⟩⟩
theorem aT(h:GE F):GE (fun K=>F (ig K)):=fun K hk=>by
 obtain⟨v,h1,h2⟩:=h _ hk;unfold ig at h1;split at h1
 ·exact⟨_,h1,fun K' h'=>h2 _ h'⟩
 ·exact⟨_,h1,fun K' h'=>h2 _ h'⟩
 ·exact h1.elim
theorem NR{F:α→(AV→Prop)→Prop}(h:∀x,GE (F x)):GE (fun K=>∃x,F x K):=fun K ⟨x,hk⟩ =>
 let ⟨v,h1,h2⟩:=h x K hk
 ⟨v,h1,fun K' h'=>⟨x,h2 K' h'⟩⟩
theorem I1(t:Nat)(cs:List AV):GE (Mw T t cs):=by
 have head:GE (M3 cs):=by unfold M3;cases cs with | nil=>exact CN | cons a _=>exact Di a
 unfold Mw;split
 ·exact DE (Di _)
 ·exact DE (Di _)
 ·cases cs with
  |nil=>exact CN
  |cons a _ =>
   intro K h;simp only[M3]at h⊢;split at h
   ·rename_i b;cases b with
    |true=>exact⟨_,h.1 rfl,fun K' h'=>⟨fun _=>h',fun e=>by cases e⟩⟩
    |false=>exact⟨_,h.2 rfl,fun K' h'=>⟨fun e=>(by cases e),fun _=>h'⟩⟩
   ·exact h.elim
 ·exact CN
 ·exact head
theorem eG(t:Nat)(x y:AV)(hx:∀tk es,x≠.slice tk es):GE (tG T t x y):=by
 unfold tG
 repeat' split
 all_goals first | exact CN | exact Di _ | exact Xd _ | exact DE (Di _) | exact absurd rfl (hx _ _)
theorem Ve(a b:Int):GE (Vr op k a b):=by
 unfold Vr;split<;>first | exact CN | exact DE (Di _)
theorem cW(a b:Int):GE (TW op k a b):=by
 unfold TW
 repeat' split
 all_goals first | exact CN | exact DE (Di _) | (unfold XR;split<;>first | exact Di _ | exact DE (Di _) | exact Ve _ _ _ _)
theorem lZ(t:Nat)(x y:AV)(hx:∀tk es,x≠.slice tk es):GE (TY T op t x y):=by
 unfold TY
 repeat' split
 all_goals first | exact CN | exact Xd _ | exact cW _ _ _ _ | exact Ve _ _ _ _ | exact DE (Di _) | exact eG _ _ _ _ hx | exact aT (eG _ _ _ _ hx)
theorem iz(t:Nat)(Y:Operand)(x y:AV)(hx:∀tk es,x≠.slice tk es):GE (Y3 T op t Y x y):=by
 unfold Y3
 repeat' split
 all_goals first | exact CN | exact Di _ | exact lZ _ _ _ _ _ hx
theorem iA(t:Nat)(x:AV):GE (Zc T s t x):=by
 unfold Zc
 repeat' split
 all_goals first | exact CN | exact Di _ | exact DE (Di _) | exact NR fun _=>DE (Di _)
theorem cY:GE (Uk T s f x):=by
 unfold Uk
 repeat' split
 all_goals first | exact CN | exact Di _
theorem aR:GE (PS T s f x):=by
 unfold PS
 repeat' split
 all_goals first | exact CN | exact I1 _ _ _
theorem Vd(t:Nat)(x ix:AV):GE (Ki T t x ix):=by
 unfold Ki
 repeat' split
 all_goals first | exact CN | exact DE (Di _) | exact NR fun _=>DE (DE (Di _))
theorem cZ(t:Nat)(x ix:AV):GE (UH T t x ix):=by
 unfold UH
 repeat' split
 all_goals first | exact CN | exact DE (I1 _ _ _) | exact NR fun _=>DE (Di _)
theorem Yz(i:Nat):GE (MV x i):=by
 unfold MV
 repeat' split
 all_goals first | exact CN | exact Di _
theorem l6:GE (Lz x):=by
 unfold Lz
 repeat' split
 all_goals first | exact CN | exact Di _
theorem iB(c a b:AV):GE (aP c a b):=by
 unfold aP
 repeat' split
 all_goals first | exact CN | exact Di _
theorem pq(f:Int→Int→Int)(x y:AV):GE (o5 f x y):=by
 unfold o5
 repeat' split
 all_goals first | exact CN | exact Di _
theorem iC(op:UnOp)(x:AV):GE (bl op x):=by
 unfold bl
 repeat' split
 all_goals first | exact CN | exact Di _ | exact aT (Di _) | exact DE (Di _)
def qa(F:(α→Prop)→Prop):Prop:=∀K,F K→∃v,K v∧∀K',K' v→F K'
theorem aQ(n:Nat)(a:AV):qa (HB n a):=by
 intro K h;unfold HB at h⊢
 repeat' split at h
 all_goals first | exact h.elim | skip
 all_goals exact⟨_,h,fun K' h'=>h'⟩
theorem Vb(pl:Nat→Option (Nat×Nat))(t:Nat→AV):∀(ps:List (Nat×Operand)) (cs:List AV),qa (Lt pl cs t ps)
 | [],cs=>fun K h=>⟨cs,h,fun _ h=>h⟩
 |(i,x)::r,cs=>by
  intro K h;unfold Lt at h;split at h
  ·exact h.elim
  ·rename_i o n e;obtain⟨vs,h1,h2⟩:=aQ _ _ _ h;split at h1
   ·rename_i hb;obtain⟨c,h3,h4⟩:=Vb pl t r _ _ h1;refine⟨c,h3,fun K' h'=>?_⟩;unfold Lt;simp only[e];refine h2 _ ?_;simp only[hb];exact h4 K' h'
   ·exact h1.elim
theorem cX(ty:Nat)(t:Nat→AV)(ps:List (Nat×Operand)):GE (Rf T ty t ps):=by
 unfold Rf
 repeat' split
 all_goals first
  |exact CN
  |exact fun K h=>let ⟨c,h1,h2⟩:=Vb _ _ _ _ _ h;⟨_,h1,fun K' h'=>h2 _ h'⟩
def eff(h:Nat→HO)(e:Option (Nat×HO)):Nat→HO:=match e with | none=>h | some (r,o)=>A0 h r o
structure JG(o:Oper)(R:List Nat)(st st2:St):Prop where
 t:∀x∈o.op.operands,ev st2.t x=ev st.t x
 h:∀r∈R,st2.h r=st.h r
def EC:Prop :=
 ∃v e,K v (eff st.h e)∧(∀r o',e=some (r,o')→w=some r∧r∈R)∧∀st2,JG o R st st2→∀K' : HK,K' v (eff st2.h e)→Gl cx true o st2 K'
def TL(r:Nat):Prop:=match w with | none=>False | some x=>x=r∨(10000000≤x∧(x % 10000000=r∨x / 10000000=r))∨x=XP
def IV(h:Nat→HO):List (Nat×HO)→Nat→HO
 | []=>h
 |p::l=>IV (A0 h p.1 p.2) l
def Tn:Prop :=
 ∃v e,K v (IV st.h e)∧(∀r o',(r,o')∈e→TL w r∧r∈R)∧∀st2,JG o R st st2→∀K' : HK,K' v (IV st2.h e)→Gl cx true o st2 K'
section
variable {cx:Cx}{o:Oper}{st:St}{R:List Nat}{w:Option Nat}{K:HK}
theorem EC.pick(hF:GE F)(h:F fun v=>K v st.h)(h2:∀st2,JG o R st st2→∀K' : HK,F (fun v=>K' v st2.h)→Gl cx true o st2 K'):EC cx o st R w K :=
 let ⟨v,h1,h3⟩:=hF _ h
 ⟨v,none,h1,fun _ _ e=>(by cases e),fun st2 ha K' hk=>h2 st2 ha K' (h3 _ hk)⟩
theorem au{cs:List AV}(h:a∈cs):∀r∈VW a,r∈oK cs:=by
 induction cs with
 |nil=>cases h
 |cons c cs ih =>
  intro r hr;rcases AF.1 h with rfl | h
  ·exact Bp _ hr
  ·exact Bj _ (ih h r hr)
theorem lx{cs:List AV}(h:a∈cs):∀r∈VX a,r∈sw cs:=by
 induction cs with
 |nil=>cases h
 |cons c cs ih =>
  intro r hr;rcases AF.1 h with rfl | h
  ·exact Bp _ hr
  ·exact Bj _ (ih h r hr)
theorem ar{cs:List AV}(h:a∈cs):∀r∈YS a,r∈UE cs:=by
 induction cs with
 |nil=>cases h
 |cons c cs ih =>
  intro r hr;rcases AF.1 h with rfl | h
  ·exact Bp _ hr
  ·exact Bj _ (ih h r hr)
theorem WS(a:AV):∀r∈VW a,r∈VX a:=by cases a<;>simp[VW,VX]
theorem RX{h h2:Nat→HO}(e:∀r∈VW a,h2 r=h r):str0 h2 a=str0 h a:=by
 cases a<;>simp only[str0]
 ·rw[e _ (by simp[VW])]
 ·rw[e _ (by simp[VW])]
theorem Xw{h h2:Nat→HO}(e:∀r∈VX a,h2 r=h r):str h2 a=str h a:=by
 cases a with
 |agg cs=>simp only[str];exact Ab _ (Bd fun c hc=>RX fun r hr=>e r (au hc r hr))
 |clo f cs=>simp only[str];exact Ab _ (Bd fun c hc=>RX fun r hr=>e r (au hc r hr))
 |_=>exact RX (fun r hr=>e r (WS _ r hr))
theorem kW(a:AV):∀r∈VX a,r∈YS a:=by
 cases a with
 |agg cs =>
  intro r hr;simp only[YS,VX]at *
  induction cs with
  |nil=>exact hr
  |cons c cs ih =>
   rcases AY.1 hr with h | h
   ·exact Bp _ (WS c r h)
   ·exact Bj _ (ih h)
 |_=>exact fun r hr=>hr
theorem LK{h h2:Nat→HO}(e:∀r∈YS a,h2 r=h r):str h2 a=str h a:=Xw fun r hr=>e r (kW a r hr)
theorem RY{h h2:Nat→HO}{l:List AV}(e:∀r∈UE l,h2 r=h r):l.map (str h2)=l.map (str h) :=
 Bd fun _ ha=>LK fun r hr=>e r (ar ha r hr)
theorem ml{h h2:Nat→HO}(e:∀r∈YS a,h2 r=h r):rsv h2 a=rsv h a:=by
 cases a<;>simp only[rsv]
 ·rw[e _ (by simp[YS,VX,VW])]
 ·rw[e _ (by simp[YS,VX,VW])]
theorem OE{n:Nat}{K:List AV→Prop}(hk:HB n a K):∃cs,K cs∧(∀K' : List AV→Prop,K' cs→HB n a K')∧∀h h2:Nat→HO,(∀r∈YS a,h2 r=h r)→cs.map (str h2)=cs.map (str h):=by
 have single:K [a]→(∀K' : List AV→Prop,K' [a]→HB n a K')→∃cs,K cs∧(∀K' : List AV→Prop,K' cs→HB n a K')∧∀h h2:Nat→HO,(∀r∈YS a,h2 r=h r)→cs.map (str h2)=cs.map (str h) :=
  fun h1 h2=>⟨[a],h1,h2,fun h h2 e=>by simp[LK e]⟩
 unfold HB at hk;split at hk
 ·rename_i cs;split at hk
  ·rename_i hn;refine⟨cs,hk,fun K' h=>by unfold HB;simp only[hn];exact h,fun h h2 e=>Bd fun c hc=>Xw fun r hr=>e r (lx hc r hr)⟩
  ·exact hk.elim
 ·rename_i sa;split at hk
  ·rename_i h1;split at hk
   ·refine single hk fun K' h=>?_;unfold HB;split
    ·rename_i cs;exact absurd rfl (sa cs)
    ·rw[h1];exact h
   ·exact hk.elim
  ·exact hk.elim
theorem Ul{n sz:Nat}{t:Nat→AV}:∀{ps:List (Nat×Operand)} {es:List (List AV)} {h:Nat→HO} {K:List (List AV)→Prop},Ss n sz h es t ps K →
  ∃F7,K F7∧∀(t2:Nat→AV) (h2:Nat→HO),(∀r∈UE (ps.map fun p=>ev t p.2),h2 r=h r)→(∀p∈ps,ev t2 p.2=ev t p.2)→∀K' : List (List AV)→Prop,K' F7→Ss n sz h2 es t2 ps K'
 | [],es,h,K,hk=>⟨es,hk,fun _ _ _ _ _ h=>h⟩
 |(i,x)::r,es,h,K,hk=>by
  unfold Ss at hk;split at hk
  ·rename_i hb;obtain⟨cs,c1,c2,c3⟩:=OE hk;obtain⟨F7,e1,e2⟩:=Ul c1;refine⟨F7,e1,fun t2 h2 hh ht K' KX=>?_⟩;unfold Ss;rw[hb,ht (i,x) (Aa ..)];refine c2 _ ?_;rw[c3 h h2 (fun r hr=>hh r (Bp _ hr))];exact e2 t2 h2 (fun r hr=>hh r (Bj _ hr)) (fun p hp=>ht p (Ah _ hp)) K' KX
  ·exact hk.elim
theorem I7{d:Option Nat}{h:Nat→HO}{sz:Nat}{es:List (List AV)}(hk:E0 cx d h sz es K) :
  ∃d',d.map (Lr cx)=some d'∧∃v x,K v (A0 h d' x)∧∀h2:Nat→HO,h2 d'=h d'→∀K' : HK,K' v (A0 h2 d' x)→E0 cx d h2 sz es K':=by
 unfold E0 at hk;split at hk
 ·exact hk.elim
 ·rename_i d;split at hk
  ·rename_i hd;split at hk
   ·rename_i e;exact⟨Lr cx d,rfl,_,_,hk,fun h2 hh K' h'=>by unfold E0;simp only[hh,hd,e];exact h'⟩
   ·rename_i e;exact⟨Lr cx d,rfl,_,_,hk,fun h2 hh K' h'=>by unfold E0;simp only[hh,hd,e];exact h'⟩
  ·exact hk.elim
theorem bU{h:Nat→HO}{x:AV}{K:List (List AV)→Prop}(hk:LZ h x K):∃es,K es∧∀h2:Nat→HO,(∀r n,x=.msl r n→h2 r=h r)→∀K' : List (List AV)→Prop,K' es→LZ h2 x K':=by
 unfold LZ at hk;split at hk
 ·exact⟨_,hk,fun _ _ K' h=>h⟩
 ·exact⟨_,hk,fun _ _ K' h=>h⟩
 ·rename_i r n;split at hk
  ·rename_i sz es e;exact⟨_,hk.2,fun h2 hh K' h=>by unfold LZ;simp only[hh r n rfl,e];exact⟨hk.1,h⟩⟩
  ·exact hk.elim
 ·exact hk.elim
end
section
variable {cx:Cx}{dst:Option Nat}{ty:Nat}{pos:String}{after:Array Edge}{gd:Option (Nat×Bool)}{st:St}{R:List Nat}{w:Option Nat}{K:HK}
theorem Jk{d:Option Nat}{l:List Nat}{f:FZ}(h:Jj d l=some f):∃d',d=some d'∧f=(d' :: l,some d'):=by
 unfold Jj at h;cases d with
 |none=>cases h
 |some d=>cases h;exact⟨d,rfl,rfl⟩
theorem Zv{e:Nat}(hk:Gl cx true ⟨dst,.alloc e,ty,pos,after,gd⟩ st K)(hf:FL cx ⟨dst,.alloc e,ty,pos,after,gd⟩ st=some (R,w)):EC cx ⟨dst,.alloc e,ty,pos,after,gd⟩ st R w K:=by
 simp only[Gl]at hk;obtain⟨d,rfl,e0⟩:=Jk hf;cases e0;unfold TT at hk;simp only at hk;split at hk
 ·rename_i hd;split at hk
  ·exact hk.elim
  ·rename_i DM;split at hk
   ·rename_i ha;refine⟨_,some (d,_),hk,fun r o' e=>(by cases e;exact⟨rfl,Aa ..⟩),fun st2 Hx K' h'=>?_⟩;simp only[Gl,TT];rw[Hx.h d (Aa ..),hd];simp only[ha];exact h'
   ·exact hk.elim
 ·exact hk.elim
theorem gl{e:Nat}{x:Operand}(hk:Gl cx true ⟨dst,.box e x,ty,pos,after,gd⟩ st K)(hf:FL cx ⟨dst,.box e x,ty,pos,after,gd⟩ st=some (R,w)):EC cx ⟨dst,.box e x,ty,pos,after,gd⟩ st R w K:=by
 simp only[Gl]at hk;obtain⟨d,rfl,e0⟩:=Jk hf;cases e0;unfold fK at hk;simp only at hk;split at hk
 ·rename_i hd;split at hk
  ·exact hk.elim
  ·rename_i DM;obtain⟨cs,c1,c2,c3⟩:=OE hk;split at c1
   ·rename_i hm;refine⟨_,some (d,_),c1,fun r o' e=>(by cases e;exact⟨rfl,Aa ..⟩),fun st2 Hx K' h'=>?_⟩;have hx:ev st2.t x=ev st.t x:=Hx.t x (by simp[Op.operands]);simp only[Gl,fK];rw[Hx.h d (Aa ..),hd,hx];simp only[hm];refine c2 _ ?_;rw[c3 st.h st2.h (fun r hr=>Hx.h r (Ah _ hr))];exact h'
   ·rename_i hm;refine⟨_,some (d,_),c1,fun r o' e=>(by cases e;exact⟨rfl,Aa ..⟩),fun st2 Hx K' h'=>?_⟩;have hx:ev st2.t x=ev st.t x:=Hx.t x (by simp[Op.operands]);simp only[Gl,fK];rw[Hx.h d (Aa ..),hd,hx];simp only[hm];exact c2 _ h'
 ·exact hk.elim
theorem Ro{t n:Nat}{ps:Array (Nat×Operand)}(hk:Gl cx true ⟨dst,.buildSlice t n ps,ty,pos,after,gd⟩ st K)(hf:FL cx ⟨dst,.buildSlice t n ps,ty,pos,after,gd⟩ st=some (R,w)) :
  EC cx ⟨dst,.buildSlice t n ps,ty,pos,after,gd⟩ st R w K:=by
 simp only[Gl]at hk;obtain⟨d,gy,e0⟩:=Jk hf;cases e0;unfold Jg at hk;split at hk
 ·rename_i e he;split at hk
  ·rename_i h1 h2;split at hk
   ·exact hk.elim
   ·rename_i k Ev;split at hk
    ·rename_i hb;obtain⟨es,q1,q2⟩:=Ul hk;obtain⟨d',hd,v,x,q3,q4⟩:=I7 q1;have hd:dst.map (Lr cx)=some d':=hd;have gy:dst.map (Lr cx)=some d:=gy;rw[gy]at hd;cases hd;refine⟨v,some (d,x),q3,fun r o' e=>(by cases e;exact⟨rfl,Aa ..⟩),fun st2 Hx K' h'=>?_⟩;have hx:∀p∈ps.toList,ev st2.t p.2=ev st.t p.2:=fun p hp=>Hx.t p.2 (by
      simp only[Op.operands,List.mem_toArray];exact Am.2 ⟨p,hp,rfl⟩)
     simp only[Gl,Jg,he,h1,h2];split
     ·rename_i e0;rw[Ev]at e0;cases e0
     ·rw[hb];exact q2 st2.t st2.h (fun r hr=>Hx.h r (Ah _ hr)) hx _ (q4 st2.h (Hx.h d (Aa ..)) K' h')
    ·exact hk.elim
  ·exact hk.elim
 ·exact hk.elim
theorem SZ{t:Nat}{n c:Operand}(hk:Gl cx true ⟨dst,.makeSlice t n c,ty,pos,after,gd⟩ st K)(hf:FL cx ⟨dst,.makeSlice t n c,ty,pos,after,gd⟩ st=some (R,w)) :
  EC cx ⟨dst,.makeSlice t n c,ty,pos,after,gd⟩ st R w K:=by
 simp only[Gl]at hk;obtain⟨d,gy,e0⟩:=Jk hf;cases e0;have hn:∀st2,JG ⟨dst,.makeSlice t n c,ty,pos,after,gd⟩ (d::[]) st st2→ev st2.t n=ev st.t n∧ev st2.t c=ev st.t c:=fun st2 ha=>⟨ha.t n (by simp[Op.operands]),ha.t c (by simp[Op.operands])⟩;unfold Kj at hk;split at hk
 ·rename_i e a b h1 h2 h3;split at hk
  ·rename_i h4;split at hk
   ·rename_i h5;split at hk
    ·exact hk.elim
    ·rename_i k Ev;obtain⟨d',hd,v,x,q3,q4⟩:=I7 hk.2;have hd:dst.map (Lr cx)=some d':=hd;have gy:dst.map (Lr cx)=some d:=gy;rw[gy]at hd;cases hd;refine⟨v,some (d,x),q3,fun r o' e=>(by cases e;exact⟨rfl,Aa ..⟩),fun st2 Hx K' h'=>?_⟩;simp only[Gl,Kj,(hn st2 Hx).1,(hn st2 Hx).2,h1,h2,h3,h4,h5];split
     ·rename_i e0;rw[Ev]at e0;cases e0
     ·exact⟨hk.1,q4 st2.h (Hx.h d (Aa ..)) K' h'⟩
   ·exact hk.elim
  ·exact hk.elim
 ·exact hk.elim
theorem VS{t:Nat}{r:Option Operand}(hk:Gl cx true ⟨dst,.makeMap t r,ty,pos,after,gd⟩ st K)(hf:FL cx ⟨dst,.makeMap t r,ty,pos,after,gd⟩ st=some (R,w)) :
  EC cx ⟨dst,.makeMap t r,ty,pos,after,gd⟩ st R w K:=by
 cases r with
 |some r=>exact hk.elim
 |none =>
  simp only[Gl]at hk;obtain⟨d,rfl,e0⟩:=Jk hf;cases e0;unfold Lw at hk;simp only at hk;split at hk
  ·rename_i hd;split at hk
   ·rename_i h1;split at hk
    ·rename_i h2;split at hk
     ·rename_i h3;refine⟨_,some (d,_),hk,fun r o' e=>(by cases e;exact⟨rfl,Aa ..⟩),fun st2 Hx K' h'=>?_⟩;simp only[Gl,Lw];rw[Hx.h d (Aa ..),hd];simp only[h1,h2,h3];exact h'
     ·rename_i h3;refine⟨_,some (d,_),hk,fun r o' e=>(by cases e;exact⟨rfl,Aa ..⟩),fun st2 Hx K' h'=>?_⟩;simp only[Gl,Lw];rw[Hx.h d (Aa ..),hd];simp only[h1,h2,h3];exact h'
    ·exact hk.elim
   ·exact hk.elim
  ·exact hk.elim
theorem Zw{t:Nat}{p x:Operand}(hk:Gl cx true ⟨dst,.store t p x,ty,pos,after,gd⟩ st K)(hf:FL cx ⟨dst,.store t p x,ty,pos,after,gd⟩ st=some (R,w)) :
  EC cx ⟨dst,.store t p x,ty,pos,after,gd⟩ st R w K:=by
 simp only[Gl]at hk;have hn:∀st2,JG ⟨dst,.store t p x,ty,pos,after,gd⟩ R st st2→ev st2.t p=ev st.t p∧ev st2.t x=ev st.t x:=fun st2 ha=>⟨ha.t p (by simp[Op.operands]),ha.t x (by simp[Op.operands])⟩;unfold Pi at hk;split at hk
 ·exact hk.elim
 ·rename_i DM;obtain⟨cs,c1,c2,c3⟩:=OE hk;simp only[FL]at hf;split at hf
  ·rename_i r off hp;split at hf
   ·cases hf
   ·rename_i hm;cases hf;rw[hp]at c1;simp only at c1;split at c1
    ·rename_i F6 hr;obtain⟨HD,KX⟩:=c1;rw[hm]at KX;refine⟨_,some (r,_),KX,fun r o' e=>(by cases e;exact⟨rfl,Aa ..⟩),fun st2 Hx K' h'=>?_⟩;simp only[Gl,Pi,(hn st2 Hx).1,(hn st2 Hx).2];refine c2 _ ?_;rw[hp];simp only[Hx.h r (Aa ..),hr,hm];exact⟨HD,h'⟩
    ·exact c1.elim
  ·rename_i r n sz i off hp;cases hf;rw[hp]at c1;simp only at c1;split at c1
   ·rename_i G2 es hr;split at c1
    ·rename_i hs;obtain⟨HD,cell,e1,e2,KX⟩:=c1;split at KX
     ·rename_i j m;refine⟨_,some (r,_),KX,fun r o' e=>(by cases e;exact⟨rfl,Aa ..⟩),fun st2 Hx K' h'=>?_⟩;simp only[Gl,Pi,(hn st2 Hx).1,(hn st2 Hx).2];refine c2 _ ?_;rw[hp];simp only[Hx.h r (Aa ..),hr,hs];exact⟨HD,cell,e1,e2,h'⟩
     ·rename_i Tb;refine⟨_,some (r,_),KX,fun r o' e=>(by cases e;exact⟨rfl,Aa ..⟩),fun st2 Hx K' h'=>?_⟩;simp only[Gl,Pi,(hn st2 Hx).1,(hn st2 Hx).2];refine c2 _ ?_;rw[hp];simp only[Hx.h r (Aa ..),hr,hs];refine⟨HD,cell,e1,e2,?_⟩;rw[c3 st.h st2.h (fun r hr=>Hx.h r (Ah _ hr))];exact h'
    ·exact c1.elim
   ·exact c1.elim
  ·cases hf
theorem S0{t:Nat}{m k x:Operand}(hk:Gl cx true ⟨dst,.mapUpdate t m k x,ty,pos,after,gd⟩ st K)(hf:FL cx ⟨dst,.mapUpdate t m k x,ty,pos,after,gd⟩ st=some (R,w)) :
  EC cx ⟨dst,.mapUpdate t m k x,ty,pos,after,gd⟩ st R w K:=by
 simp only[Gl]at hk;have hn:∀st2,JG ⟨dst,.mapUpdate t m k x,ty,pos,after,gd⟩ R st st2→ev st2.t m=ev st.t m∧ev st2.t k=ev st.t k∧ev st2.t x=ev st.t x:=fun st2 ha=>⟨ha.t m (by simp[Op.operands]),ha.t k (by simp[Op.operands]),ha.t x (by simp[Op.operands])⟩;simp only[FL]at hf;split at hf
 ·rename_i r hm;cases hf;unfold HF at hk;rw[hm]at hk;simp only at hk;split at hk
  ·rename_i sh B8 hr;unfold KZ at hk;split at hk
   ·rename_i kt e h1;split at hk
    ·rename_i yC h2;split at hk
     ·rename_i h3;split at hk
      ·rename_i kx h4;split at hk
       ·rename_i h5;refine⟨_,some (r,_),hk,fun r o' e=>(by cases e;exact⟨rfl,Aa ..⟩),fun st2 Hx K' h'=>?_⟩;obtain⟨n1,n2,n3⟩:=hn st2 Hx;simp only[Gl,HF,n1,n2,n3,hm,Hx.h r (Aa ..),hr,KZ,h1,h2,h3,h4,h5];rw[LK (h:=st.h) (h2:=st2.h) (fun r hr=>Hx.h r (Ah _ hr))];exact h'
       ·exact hk.elim
      ·exact hk.elim
     ·exact hk.elim
    ·exact hk.elim
   ·exact hk.elim
  ·rename_i sh B8 hr;unfold KZ at hk;split at hk
   ·rename_i kt e h1;split at hk
    ·rename_i yC h2;split at hk
     ·rename_i h3;split at hk
      ·rename_i kx h4;split at hk
       ·rename_i h5;refine⟨_,some (r,_),hk,fun r o' e=>(by cases e;exact⟨rfl,Aa ..⟩),fun st2 Hx K' h'=>?_⟩;obtain⟨n1,n2,n3⟩:=hn st2 Hx;simp only[Gl,HF,n1,n2,n3,hm,Hx.h r (Aa ..),hr,KZ,h1,h2,h3,h4,h5];exact h'
       ·exact hk.elim
      ·exact hk.elim
     ·exact hk.elim
    ·exact hk.elim
   ·exact hk.elim
  ·exact hk.elim
 ·cases hf
theorem eH{A B:(AV→Prop)→Prop}(ha:GE A)(hb:GE B):GE fun K=>A K∨B K:=by
 intro K hk;rcases hk with hk | hk
 ·obtain⟨v,h1,h2⟩:=ha K hk;exact⟨v,h1,fun K' h=>.inl (h2 K' h)⟩
 ·obtain⟨v,h1,h2⟩:=hb K hk;exact⟨v,h1,fun K' h=>.inr (h2 K' h)⟩
theorem Us{fn:Fn}{first cap:Array Operand}(hk:Gl cx true ⟨dst,.makeFunc fn first cap,ty,pos,after,gd⟩ st K)(hf:FL cx ⟨dst,.makeFunc fn first cap,ty,pos,after,gd⟩ st=some (R,w)) :
  EC cx ⟨dst,.makeFunc fn first cap,ty,pos,after,gd⟩ st R w K:=by
 simp only[Gl]at hk;simp only[FL]at hf;cases hf;unfold Lv at hk;split at hk
 ·rename_i f h1;refine⟨_,none,hk,fun r o' e=>(by cases e),fun st2 Hx K' h'=>?_⟩;simp only[Gl,h1,Lv]
  have:cap.toList.map (fun x=>rsv st2.h (ev st2.t x))=cap.toList.map (fun x=>rsv st.h (ev st.t x)):=Bd fun x hx=>by
   rw[Hx.t x (by simp only[Op.operands,TJ];exact .inr (by simpa using hx))];exact ml fun r hr=>Hx.h r (ar (Am.2 ⟨x,hx,rfl⟩) r hr)
  rw[this];exact h'
 ·exact hk.elim
end
end Go.Eng
