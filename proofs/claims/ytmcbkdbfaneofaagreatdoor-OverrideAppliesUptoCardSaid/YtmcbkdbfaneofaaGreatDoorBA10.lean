/- Lemmas for the claims of this seat, without a condition: part 10 (EngT, EngU, EngV, EngW). -/
import Derived.Test.YtmcbkdbfaneofaaGreatDoorBA09
import Derived.Maps.RangeRun
namespace Go.Eng
open Go.ChangeMaps (setBlock)
theorem U3{w:World}{r:Nat}{o o' : Obj}(h:w.heap[r]?=some o):(setBlock w r o').heap[r]?=some o':=by
 have:=(BG.1 h).1
 simp[setBlock,this]
theorem Ut{w:World}{r k:Nat}{o' : Obj}(h:k≠r):(setBlock w r o').heap[k]?=w.heap[k]?:=by
 simp[setBlock,Ne.symm h]
theorem NY(w:World)(r:Nat)(o' : Obj):(setBlock w r o').heap.size=w.heap.size:=by simp[setBlock]
theorem PG{α β:Type}{f:α→β}{l:List α}(h:(l.map f).Nodup):l.Nodup:=by
 induction l with
 |nil=>exact Fs
 |cons c l ih =>
  rw[AQ,CI]at h;exact CI.2 ⟨fun hc=>h.1 (Ao.2 ⟨c,hc,rfl⟩),ih h.2⟩
theorem VR{α β:Type}{f:α→β}{l:List α}(h:(l.map f).Nodup){i j:Nat}{a b:α}(ha:l[i]?=some a)(hb:l[j]?=some b)(he:f a=f b):i=j:=by
 induction l generalizing i j with
 |nil=>simp at ha
 |cons c l ih =>
  rw[AQ,CI]at h;cases i with
  |zero =>
   cases j with
   |zero=>rfl
   |succ j =>
    simp only[Bb,Bw,EB]at ha hb;exact absurd (Ao.2 ⟨b,Ax hb,by rw[←he,ha]⟩) h.1
  |succ i =>
   cases j with
   |zero =>
    simp only[Bb,Bw,EB]at ha hb;exact absurd (Ao.2 ⟨a,Ax ha,by rw[he,hb]⟩) h.1
   |succ j=>exact Aa (·+1) (ih h.2 ha hb)
open Classical in
theorem QK{B7:List (Value×AV)}{k:Value}{a b:AV}(h:(k,b)∈B7):E6 B7 k a=B7.map fun p=>if p.1=k then(k,a)else p:=Au ⟨b,h⟩
open Classical in
theorem KZ{B7:List (Value×AV)}{k:Value}{a:AV}(h:∀b,(k,b)∉B7):E6 B7 k a=B7++[(k,a)]:=Al (fun⟨b,e⟩=>h b e)
theorem VP{sh:EU}{es:Array MapEntry}{ck:Nat}{B7:List (Value×AV)}(f:AV→AV)(h:Hs sh es ck B7):Hs sh es ck (B7.map fun p=>(p.1,f p.2)):=by
 obtain⟨h1,h2,h3,h4,h5,h6⟩:=h;refine⟨by simp[h1],fun i kv e q1 q2=>?_,fun kv Qd=>?_,?_,h5,h6⟩
 ·rw[AJ]at q1;obtain⟨p,q3,rfl⟩:=AY.1 q1;exact h2 i p e q3 q2
 ·obtain⟨p,hp,rfl⟩:=Ao.1 Qd;exact h3 p hp
 ·rw[BU];exact h4
theorem PA{sh:EU}{es:Array MapEntry}{ck:Nat}{B7:List (Value×AV)}(h:Hs sh es ck B7){x:Value}{a v:AV}{y:Value}{j:Nat}(hj:B7[j]?=some (x,a)) :
  Hs sh (es.modify j fun e=>{ e with key:=x,val:=y }) ck (E6 B7 x v) ∧
   ∀(i:Nat) (kv:Value×AV) (e:MapEntry),(E6 B7 x v)[i]?=some kv→(es.modify j fun e=>{ e with key:=x,val:=y })[i]?=some e →
    (kv.2=v∧e.val=y)∨(B7[i]?=some kv∧es[i]?=some e):=by
 classical
 rw[QK (Ax hj)];obtain⟨h1,h2,h3,h4,h5,h6⟩:=h;have hm:∀i e,(es.modify j fun e=>{ e with key:=x,val:=y })[i]?=some e→∃e0,es[i]?=some e0∧e.born=e0.born∧(if i=j then e.key=x∧e.val=y else e=e0):=by
  intro i e he;rw[Array.getElem?_modify]at he;split at he
  ·rename_i e1;subst e1;obtain⟨e0,q1,q2⟩:=AY.1 he;exact⟨e0,q1,by rw[←q2],by rw[Au rfl,←q2];exact⟨rfl,rfl⟩⟩
  ·rename_i e1;exact⟨e,he,rfl,by rw[Al (fun q=>e1 q.symm)]⟩
 have hk:∀i kv,(B7.map fun p=>if p.1=x then(x,v)else p)[i]?=some kv→∃p,B7[i]?=some p∧kv.1=p.1∧(if i=j then kv.2=v else kv=p):=by
  intro i kv Qd;rw[AJ]at Qd;obtain⟨p,q1,q2⟩:=AY.1 Qd;refine⟨p,q1,?_⟩
  by_cases e:p.1=x
  ·rw[Au e]at q2;subst q2
   have:=VR h4 q1 hj e
   exact⟨e.symm,by rw[Au this]⟩
  ·rw[Al e]at q2;subst q2;refine⟨rfl,?_⟩;rw[Al];intro e2;subst e2;rw[q1]at hj;cases hj;exact e rfl
 have sf:(B7.map fun p=>if p.1=x then(x,v)else p).map (·.1)=B7.map (·.1):=by
  rw[BU];apply Bk;intro p _;simp only[Function.comp];split
  ·rename_i e;exact e.symm
  ·rfl
 refine⟨⟨by simp[h1],fun i kv e q1 q2=>?_,fun kv Qd=>?_,by rw[sf];exact h4,fun i e q=>?_,fun i i' e e' q q' hb=>?_⟩,fun i kv e q1 q2=>?_⟩
 ·obtain⟨p,p1,p2,p3⟩:=hk i kv q1;obtain⟨e0,r1,r2,r3⟩:=hm i e q2
  have:=h2 i p e0 p1 r1
  split at r3
  ·rename_i ij;subst ij;rw[hj]at p1;cases p1;rw[r3.1,p2]
  ·rw[r3,p2];exact this
 ·obtain⟨i,hi⟩:=Ch.1 Qd;obtain⟨p,p1,p2,p3⟩:=hk i kv hi;rw[p2];exact h3 p (Ax p1)
 ·obtain⟨e0,r1,r2,_⟩:=hm i e q;rw[r2];exact h5 i e0 r1
 ·obtain⟨e0,r1,r2,_⟩:=hm i e q;obtain⟨e1,s1,s2,_⟩:=hm i' e' q';exact h6 i i' e0 e1 r1 s1 (by rw[←r2,←s2];exact hb)
 ·obtain⟨p,p1,p2,p3⟩:=hk i kv q1;obtain⟨e0,r1,r2,r3⟩:=hm i e q2;split at r3
  ·rename_i ij;rw[Au ij]at p3;exact .inl ⟨p3,r3.2⟩
  ·rename_i ij;rw[Al ij]at p3;exact .inr ⟨by rw[p3];exact p1,by rw[r3];exact r1⟩
theorem T6{sh:EU}{es:Array MapEntry}{ck:Nat}{B7:List (Value×AV)}(h:Hs sh es ck B7){x:Value}{v:AV}{y:Value}(hx:V1 sh x=true)(hn:∀a,(x,a)∉B7) :
  Hs sh (es.push { key:=x,val:=y,born:=ck }) (ck+1) (E6 B7 x v) ∧
   ∀(i:Nat) (kv:Value×AV) (e:MapEntry),(E6 B7 x v)[i]?=some kv→(es.push { key:=x,val:=y,born:=ck })[i]?=some e →
    (kv.2=v∧e.val=y)∨(B7[i]?=some kv∧es[i]?=some e):=by
 rw[KZ hn];obtain⟨h1,h2,h3,h4,h5,h6⟩:=h;have hm:∀i e,(es.push { key:=x,val:=y,born:=ck })[i]?=some e→(es[i]?=some e∧i<es.size)∨(i=es.size∧e={ key:=x,val:=y,born:=ck }):=by
  intro i e he;rw[Array.getElem?_push]at he;split at he
  ·rename_i q;cases he;exact .inr ⟨q,rfl⟩
  ·exact .inl ⟨he,(BG.1 he).1⟩
 have hk:∀i kv,(B7++[(x,v)])[i]?=some kv→(B7[i]?=some kv∧i<es.size)∨(i=es.size∧kv=(x,v)):=by
  intro i kv Qd;rw[Mc]at Qd;split at Qd
  ·rename_i q;exact .inl ⟨Qd,by omega⟩
  ·rename_i q
   have:i-B7.length=0:=by
    have:=(Aw.1 Qd).1
    simp at this;omega
   rw[this]at Qd;simp at Qd;exact .inr ⟨by omega,Qd.symm⟩
 refine⟨⟨by simp[h1],fun i kv e q1 q2=>?_,fun kv Qd=>?_,?_,fun i e q=>?_,fun i i' e e' q q' hb=>?_⟩,fun i kv e q1 q2=>?_⟩
 ·rcases hk i kv q1 with ⟨p1,p2⟩ | ⟨p1,p2⟩<;>rcases hm i e q2 with ⟨r1,r2⟩ | ⟨r1,r2⟩
  ·exact h2 i kv e p1 r1
  ·omega
  ·omega
  ·rw[p2,r2]
 ·rcases Ba.1 Qd with q | q
  ·exact h3 kv q
  ·rw[As.1 q];exact hx
 ·rw[AG,Gy];refine⟨h4,by simp,fun a ha b hb e=>?_⟩;simp only[AQ,Fk,As]at hb;obtain⟨p,p1,p2⟩:=Ao.1 ha;refine hn p.2 ?_
  have:p=(x,p.2):=by rw[←hb,←e,←p2]
  rw[←this];exact p1
 ·rcases hm i e q with ⟨r1,_⟩ | ⟨_,r2⟩
  ·have:=h5 i e r1;omega
  ·rw[r2];exact G6 _
 ·rcases hm i e q with ⟨r1,_⟩ | ⟨r1,r2⟩<;>rcases hm i' e' q' with ⟨s1,_⟩ | ⟨s1,s2⟩
  ·exact h6 i i' e e' r1 s1 hb
  ·have:=h5 i e r1;rw[s2]at hb;dsimp only at hb;omega
  ·have:=h5 i' e' s1;rw[r2]at hb;dsimp only at hb;omega
  ·omega
 ·rcases hk i kv q1 with ⟨p1,p2⟩ | ⟨p1,p2⟩<;>rcases hm i e q2 with ⟨r1,r2⟩ | ⟨r1,r2⟩
  ·exact .inr ⟨p1,r1⟩
  ·omega
  ·omega
  ·exact .inl ⟨by rw[p2],by rw[r2]⟩
section
variable {P:Program}{w0:World}{g0:Gh}{h0 h:Nat→HO}{g:Gh}{w:World}(hI:DS w0 g0 h0 h g w)
include hI
theorem DS.swap{r b:Nat}(hl:(h r).live)(ho:g.own r=some b)(hn:∀o,¬g.S b o)(o' : HO){ob:Obj}(hb:w.heap[b]?=some ob)(bG : Obj)(w1:World)(Lg:w1.heap=w.heap∧w1.os=w.os∧w1.tape=w.tape∧w1.output=w.output)(DM:o'≠.free)
  (JG:Kl g (g.upd r (g.ρ r) (g.ln r) (g.tk r) (g.own r) g.S) (AW h)→Fg g w (g.upd r (g.ρ r) (g.ln r) (g.tk r) (g.own r) g.S) (setBlock w1 b bG)→(setBlock w1 b bG).heap[b]?=some bG →
   (∀k,k≠b→(setBlock w1 b bG).heap[k]?=w.heap[k]?) →
   Er (g.upd r (g.ρ r) (g.ln r) (g.tk r) (g.own r) g.S) (setBlock w1 b bG) (AW (A2 h r o')) r o') :
  DS w0 g0 h0 (A2 h r o') (g.upd r (g.ρ r) (g.ln r) (g.tk r) (g.own r) g.S) (setBlock w1 b bG)∧Le h g w (A2 h r o') (g.upd r (g.ρ r) (g.ln r) (g.tk r) (g.own r) g.S) (setBlock w1 b bG):=by
 have DH:=(hI.loc r b hl ho).1;have E5:(setBlock w1 b bG).heap[b]?=some bG:=U3 (by rw[Lg.1];exact hb);have ZW:∀k,k≠b→(setBlock w1 b bG).heap[k]?=w.heap[k]?:=fun k hk=>by rw[Ut hk,Lg.1]
 refine hI.upd r o' _ _ _ _ _ _ (some b) ⟨Lg.2.1,Lg.2.2.1,Lg.2.2.2,by rw[NY,Lg.1];exact Am _⟩ (fun k _ DM=>ZW k (fun e=>DM (by rw[e]))) (fun b' e=>by cases e;exact⟨hl,ho⟩) (fun _ _ h=>h) (fun _ _ h=>.inl h)
  (fun b' o e hs=>by cases e;exact absurd hs (hn o)) (fun b' _ e=>?_) DM (fun _=>⟨rfl,Am _,fun _=>rfl,fun _=>rfl⟩) (fun hg hk=>JG hg hk E5 ZW)
 rw[ho]at e;cases e;exact⟨by rw[NY,Lg.1];exact DH,.inl ⟨hl,ho⟩⟩
theorem NQ{T:GN}(hT:CJ P T){ty:Nat}{m k x:AV}{vm vk vx:Value}{K:HK}(hm:BP g w (AW h) m vm)(Kr : BP g w (AW h) k vk)(hx:BP g w (AW h) x vx)(hk:Hp T h ty m k x K) :
  fu P w0 g0 h0 h g w (Instr.mapUpdate ty vm vk vx) K:=by
 unfold Hp at hk;split at hk
 ·rename_i r;split at hk
  ·rename_i sh B7 e0;obtain⟨kt,e,k1,k2,k3,k4⟩:=Na Kr hk;have ho:=hI.objs r;rw[e0]at ho;obtain⟨t1,b,es,ck,a1,a2,a3,a4,a5,a6⟩:=ho;have hl:(h r).live:=by rw[e0];trivial
   cases hm with
   |mref _ _ b' hu ht hp =>
    rw[a2]at hp;cases hp;have ik:=hT.map k1;have Fw:=run_getObj_map (P:=P) w b es ck a3;have Oe:∀o',(setObj b o').run P w=.ok () (setBlock w b o'):=fun o'=>by simp[setObj,Sem.run,a3,setBlock]
    have OH:=fun bb=>MQ hT k2 w bb k3;obtain⟨res,r1,r2⟩:=OB hT k2 w k3 es.toList a4.shape;have kr:=BP.str hI.objs hx;rcases r2 with ⟨rfl,hn⟩ | ⟨j,en,rfl,hj,hkey⟩
    ·obtain⟨m1,m2⟩:=T6 a4 (x:=vk) (v:=str h x) (y:=vx) k3 (fun a=>a4.none hn a);obtain⟨i1,i2⟩:=DS.swap hI hl a1 a6 (.map sh (E6 B7 vk (str h x))) a3 (.map (es.push { key:=vk,val:=vx,born:=ck }) (ck+1)) w ⟨rfl,rfl,rfl,rfl⟩ (by simp) (fun hg Im E5 ZW=>by
      obtain⟨u1,u2,u3,u4⟩:=BJ g r (g.ρ r) (g.ln r) (g.tk r) (g.own r) g.S;refine⟨u3.trans t1,b,_,_,u4.trans a1,u1.trans a2,E5,m1,fun i kv e q1 q2=>?_,a6⟩;rcases m2 i kv e q1 q2 with ⟨p1,p2⟩ | ⟨p1,p2⟩
      ·rw[p1,p2];exact kr.mono Im (fun _ h=>h) (fun _ h=>h.elim)
      ·exact(a5 i kv e p1 p2).mono Im (fun _ h=>h) (fun _ h=>h.elim))
     refine⟨_,_,_,?_,k4,i1,i2⟩;simp[Instr.mapUpdate,run_underlying ik,Fw,OH,r1,Oe]
    ·obtain⟨a,q1,q2⟩:=a4.some hj hkey;obtain⟨m1,m2⟩:=PA a4 (x:=vk) (v:=str h x) (y:=vx) q1;obtain⟨i1,i2⟩:=DS.swap hI hl a1 a6 (.map sh (E6 B7 vk (str h x))) a3 (.map (es.modify j fun e=>{ e with key:=vk,val:=vx }) ck) w ⟨rfl,rfl,rfl,rfl⟩ (by simp) (fun hg Im E5 ZW=>by
      obtain⟨u1,u2,u3,u4⟩:=BJ g r (g.ρ r) (g.ln r) (g.tk r) (g.own r) g.S;refine⟨u3.trans t1,b,_,_,u4.trans a1,u1.trans a2,E5,m1,fun i kv e q1 q2=>?_,a6⟩;rcases m2 i kv e q1 q2 with ⟨p1,p2⟩ | ⟨p1,p2⟩
      ·rw[p1,p2];exact kr.mono Im (fun _ h=>h) (fun _ h=>h.elim)
      ·exact(a5 i kv e p1 p2).mono Im (fun _ h=>h) (fun _ h=>h.elim))
     refine⟨_,_,_,?_,k4,i1,i2⟩;have o7 : es[j]?=some en:=by simpa using hj
     have JH:=RQ (P:=P) w k3;simp[Instr.mapUpdate,run_underlying ik,Fw,OH,r1,Oe,o7,hkey,JH]
  ·rename_i sh B7 e0;obtain⟨kt,e,k1,k2,k3,k4⟩:=Na Kr hk;have ho:=hI.objs r;rw[e0]at ho;obtain⟨t1,b,es,ck,a1,a2,a3,a4,a5,a6⟩:=ho;have hl:(h r).live:=by rw[e0];trivial
   cases hm with
   |mref _ _ b' hu ht hp =>
    rw[a2]at hp;cases hp;have ik:=hT.map k1;have Fw:=run_getObj_map (P:=P) w b es ck a3;have Oe:∀o',(setObj b o').run P w=.ok () (setBlock w b o'):=fun o'=>by simp[setObj,Sem.run,a3,setBlock]
    have OH:=fun bb=>MQ hT k2 w bb k3;obtain⟨res,r1,r2⟩:=OB hT k2 w k3 es.toList a4.shape;rcases r2 with ⟨rfl,hn⟩ | ⟨j,en,rfl,hj,hkey⟩
    ·obtain⟨m1,m2⟩:=T6 a4 (x:=vk) (v:=x) (y:=vx) k3 (fun a=>a4.none hn a);obtain⟨i1,i2⟩:=DS.swap hI hl a1 a6 (.mapU sh (E6 B7 vk (x))) a3 (.map (es.push { key:=vk,val:=vx,born:=ck }) (ck+1)) w ⟨rfl,rfl,rfl,rfl⟩ (by simp) (fun hg Im E5 ZW=>by
      obtain⟨u1,u2,u3,u4⟩:=BJ g r (g.ρ r) (g.ln r) (g.tk r) (g.own r) g.S;have Lw:∀i,AW h i→AW (A2 h r (.mapU sh (E6 B7 vk x))) i:=fun i hi=>DX (by simp) i hi;refine⟨u3.trans t1,b,_,_,u4.trans a1,u1.trans a2,E5,m1,fun i kv e q1 q2=>?_,a6⟩;rcases m2 i kv e q1 q2 with ⟨p1,p2⟩ | ⟨p1,p2⟩
      ·rw[p1,p2];exact hx.mono Im Lw hg
      ·exact(a5 i kv e p1 p2).mono Im Lw hg)
     refine⟨_,_,_,?_,k4,i1,i2⟩;simp[Instr.mapUpdate,run_underlying ik,Fw,OH,r1,Oe]
    ·obtain⟨a,q1,q2⟩:=a4.some hj hkey;obtain⟨m1,m2⟩:=PA a4 (x:=vk) (v:=x) (y:=vx) q1;obtain⟨i1,i2⟩:=DS.swap hI hl a1 a6 (.mapU sh (E6 B7 vk (x))) a3 (.map (es.modify j fun e=>{ e with key:=vk,val:=vx }) ck) w ⟨rfl,rfl,rfl,rfl⟩ (by simp) (fun hg Im E5 ZW=>by
      obtain⟨u1,u2,u3,u4⟩:=BJ g r (g.ρ r) (g.ln r) (g.tk r) (g.own r) g.S;have Lw:∀i,AW h i→AW (A2 h r (.mapU sh (E6 B7 vk x))) i:=fun i hi=>DX (by simp) i hi;refine⟨u3.trans t1,b,_,_,u4.trans a1,u1.trans a2,E5,m1,fun i kv e q1 q2=>?_,a6⟩;rcases m2 i kv e q1 q2 with ⟨p1,p2⟩ | ⟨p1,p2⟩
      ·rw[p1,p2];exact hx.mono Im Lw hg
      ·exact(a5 i kv e p1 p2).mono Im Lw hg)
     refine⟨_,_,_,?_,k4,i1,i2⟩;have o7 : es[j]?=some en:=by simpa using hj
     have JH:=RQ (P:=P) w k3;simp[Instr.mapUpdate,run_underlying ik,Fw,OH,r1,Oe,o7,hkey,JH]
  ·exact hk.elim
 ·exact hk.elim
theorem Ov{d b:Nat}{es:Array MapEntry}{ck:Nat}{sh:EU}{B7:List (Value×AV)}(hd:h d=.free)(hS:g.S b 0)(hb:w.heap[b]?=some (.map es ck))(hm:Hs sh es ck B7)
  (hv:∀(i:Nat) (kv:Value×AV) (e:MapEntry),B7[i]?=some kv→es[i]?=some e→BP g w FH kv.2 e.val) :
  ∃g',DS w0 g0 h0 (A2 h d (.iter B7 B7 none)) g' (w.alloc (.mapIter (some b) ck #[] ck))∧Le h g w (A2 h d (.iter B7 B7 none)) g' (w.alloc (.mapIter (some b) ck #[] ck)) ∧
   BP g' (w.alloc (.mapIter (some b) ck #[] ck)) (AW (A2 h d (.iter B7 B7 none))) (.ref d 0) (.pointer (some ⟨w.heap.size,0,none⟩)):=by
 obtain⟨k1,k2⟩:=hI.newOwn hd (.iter B7 B7 none) (.mapIter (some b) ck #[] ck) (.pointer (some ⟨w.heap.size,0,none⟩)) 0 false w ⟨rfl,rfl,rfl,rfl⟩ (by simp) (fun hg hk=>by
  obtain⟨u1,u2,u3,u4⟩:=BJ g d (.pointer (some ⟨w.heap.size,0,none⟩)) 0 false (some w.heap.size) g.S;obtain⟨c1,c2,c3⟩:=hk b 0 hS
  exact⟨u3,w.heap.size,b,ck,#[],ck,es,ck,u4,u1,HY w _ rfl,c1,c3 es ck hb,⟨sh,hm⟩,rfl,rfl,fun i kv e q1 q2=>(hv i kv e q1 q2).mono hk (fun _ h=>h) (fun _ h=>h.elim),
   ⟨PG hm.2.2.2.1,fun _ h=>h⟩,fun i kv e q1 q2=>by simp[List.mem_of_getElem? q1],trivial,fun o ho=>by have:=hI.slt _ _ ho;omega⟩)
 refine⟨_,k1,k2,.ref _ d 0 w.heap.size (by unfold AW;rw[Bi];simp) ?_ ?_⟩<;>simp[Gh.upd]
theorem RI{r b:Nat}{sh:EU}{B7:List (Value×AV)}{es:Array MapEntry}{ck:Nat}(e0:h r=.map sh B7)(a1:g.own r=some b)(a2:g.ρ r=.map (some b))(a3:w.heap[b]?=some (.map es ck))(a4:Hs sh es ck B7)
  (a5:∀(i:Nat) (kv:Value×AV) (e:MapEntry),B7[i]?=some kv→es[i]?=some e→BP g w FH kv.2 e.val) (t1:g.tk r=false) :
  ∃g',DS w0 g0 h0 (A2 h r (.rom sh B7)) g' w∧Le h g w (A2 h r (.rom sh B7)) g' w∧g'.S b 0:=by
 have hl:(h r).live:=by rw[e0];trivial
 have DH:=(hI.loc r b hl a1).1
 obtain⟨k1,k2⟩:=hI.upd r (.rom sh B7) (g.ρ r) (g.ln r) (g.tk r) none (g.more b 1) w none ⟨rfl,rfl,rfl,Am _⟩ (fun _ _ _=>rfl) (fun b e=>by cases e) (fun _ _ h=>.inl h)
  (fun b' o hs=>hs.elim .inl (fun hs=>.inr ⟨by rw[hs.1];exact DH,.inr ⟨hl,by rw[hs.1];exact a1⟩⟩)) (fun b o e=>by cases e) (fun b hh _=>by cases hh) (by simp)
  (fun _=>⟨rfl,Am _,fun _=>rfl,fun _=>rfl⟩) (fun hg hk=>by
   obtain⟨u1,u2,u3,u4⟩:=BJ g r (g.ρ r) (g.ln r) (g.tk r) none (g.more b 1);exact⟨u3.trans t1,b,u1.trans a2,.cmap _ sh B7 b es ck (.inr ⟨rfl,U9⟩) a3 a4 (fun i kv e q1 q2=>(a5 i kv e q1 q2).mono hk (fun _ h=>h) (fun _ h=>h.elim))⟩)
 exact⟨_,k1,k2,.inr ⟨rfl,U9⟩⟩
theorem W2{r b:Nat}{sh:EU}{B7:List (Value×AV)}{es:Array MapEntry}{ck:Nat}(e0:h r=.mapU sh B7)(a1:g.own r=some b)(a2:g.ρ r=.map (some b))(a3:w.heap[b]?=some (.map es ck))(a4:Hs sh es ck B7)
  (a5:∀(i:Nat) (kv:Value×AV) (e:MapEntry),B7[i]?=some kv→es[i]?=some e→BP g w (AW h) kv.2 e.val) (t1:g.tk r=false) :
  ∃g',DS w0 g0 h0 (A2 h r (.rom sh (Sf h B7))) g' w∧Le h g w (A2 h r (.rom sh (Sf h B7))) g' w∧g'.S b 0:=by
 have hl:(h r).live:=by rw[e0];trivial
 have DH:=(hI.loc r b hl a1).1
 obtain⟨k1,k2⟩:=hI.upd r (.rom sh (Sf h B7)) (g.ρ r) (g.ln r) (g.tk r) none (g.more b 1) w none ⟨rfl,rfl,rfl,Am _⟩ (fun _ _ _=>rfl) (fun b e=>by cases e) (fun _ _ h=>.inl h)
  (fun b' o hs=>hs.elim .inl (fun hs=>.inr ⟨by rw[hs.1];exact DH,.inr ⟨hl,by rw[hs.1];exact a1⟩⟩)) (fun b o e=>by cases e) (fun b hh _=>by cases hh) (by simp)
  (fun _=>⟨rfl,Am _,fun _=>rfl,fun _=>rfl⟩) (fun hg hk=>by
   obtain⟨u1,u2,u3,u4⟩:=BJ g r (g.ρ r) (g.ln r) (g.tk r) none (g.more b 1);refine⟨u3.trans t1,b,u1.trans a2,.cmap _ sh _ b es ck (.inr ⟨rfl,U9⟩) a3 (VP _ a4) (fun i kv e q1 q2=>?_)⟩;unfold Sf at q1;rw[AJ]at q1;obtain⟨p,q3,rfl⟩:=AY.1 q1;exact((a5 i p e q3 q2).str hI.objs).mono hk (fun _ h=>h) (fun _ h=>h.elim))
 exact⟨_,k1,k2,.inr ⟨rfl,U9⟩⟩
theorem d9{T:GN}(hT:CJ P T){ty kt e:Nat}(ht:(T ty).d=.map kt e){d:Option Nat}{x:AV}{vx:Value}{K:HK}(hx:BP g w (AW h) x vx)(hk:aF d h x K) :
  OK P w0 g0 h0 h g w (Instr.range ty vx) K:=by
 have hu:=hT.map ht;unfold aF at hk;split at hk
 ·exact hk.elim
 ·rename_i d;split at hk
  ·rename_i hd;have CY:∀b es ck,w.heap[b]?=some (.map es ck)→(Instr.range ty (.map (some b))).run P w=.ok (.pointer (some ⟨w.heap.size,0,none⟩)) (w.alloc (.mapIter (some b) ck #[] ck)):=fun b es ck hb=>by
    simp[Instr.range,run_underlying hu,run_getObj_map (P:=P) w b es ck hb]
   split at hk
   ·cases hx with
    |cmap _ _ _ b es ck hS hb hm hv =>
     obtain⟨g',k1,k2,k3⟩:=Ov hI hd hS hb hm hv;exact⟨_,_,_,_,_,CY _ _ _ hb,hk,k1,k2,k3⟩
   ·rename_i r;have ho:=hI.objs r;cases hx with
    |mref _ _ b ik ht' hp =>
     split at hk
     ·rename_i sh B7 e0;rw[e0]at ho;obtain⟨_,b',a1,a2⟩:=ho;rw[a1]at hp;cases hp;cases a2 with
      |cmap _ _ _ _ es ck hS hb hm hv =>
       obtain⟨g',k1,k2,k3⟩:=Ov hI hd hS hb hm hv;exact⟨_,_,_,_,_,CY _ _ _ hb,hk,k1,k2,k3⟩
     ·rename_i sh B7 e0;rw[e0]at ho;obtain⟨t1,b',es,ck,a1,a2,a3,a4,a5,a6⟩:=ho;rw[a2]at hp;cases hp;obtain⟨g1,i1,i2,i3⟩:=RI hI e0 a1 a2 a3 a4 a5 t1;have DM:d≠r:=fun e=>by rw[e,e0]at hd;cases hd
      obtain⟨g',k1,k2,k3⟩:=Ov i1 (by rw[B5 _ _ _ _ DM];exact hd) i3 a3 a4 (fun i kv e q1 q2=>(a5 i kv e q1 q2).mono i2.keeps (fun _ h=>h) (fun _ h=>h.elim));exact⟨_,_,_,_,_,CY _ _ _ a3,hk,k1,i2.trans k2,k3⟩
     ·exact hk.elim
   ·exact hk.elim
  ·exact hk.elim
theorem iV{ty:TypeId}{x:AV}{vx:Value}{K:HK}(hx:BP g w (AW h) x vx)(hk:iU h x K):OK P w0 g0 h0 h g w (Instr.next vx false ty) K:=by
 unfold iU at hk;split at hk
 ·rename_i r;split at hk
  ·rename_i all rem FP e0;have ho:=hI.objs r;rw[e0]at ho;obtain⟨t1,b,mb,Ki,seen,st,es,ck,a1,a2,a3,a4,a5,⟨sh,a6⟩,a7,a8,a9,Xw,aR,a12,nP⟩:=ho;have hl:(h r).live:=by rw[e0];trivial
   cases hx with
   |ref _ _ _ b' hu ht hp =>
    rw[a2]at hp;cases hp;have DH:∀e∈es.toList,e.born<Ki:=fun e he=>by
     obtain⟨i,hi⟩:=Ch.1 he
     have:=a6.2.2.2.2.1 i e (by simpa using hi)
     omega
    rcases run_next_at (P:=P) w ty b mb Ki st seen es ck a3 a5 DH (by omega)with ⟨q1,q2⟩ | ⟨e,q1,w1,q2,q3⟩
    ·have xk:rem=[]:=by
      apply L0.2;intro kv Qd;obtain⟨i,hi⟩:=Ch.1 (Xw.2 kv Qd);have kk:i<es.size:=by rw[a6.1];exact(Aw.1 hi).1
      have hb:=(aR i kv es[i] hi (by simp[kk])).1 Qd;have hm:es[i]∈leftOf es seen:=by simp[leftOf,hb]
      have:=Array.size_pos_of_mem hm
      omega
     exact⟨_,w,g,_,h,q2,hk.1 xk,hI,.refl _ _ _,.tup _ _ _ rfl (fun i av x h1 h2=>by
      match i,h1,h2 with
      |0,h1,h2=>simp at h1 h2;subst h1;subst h2;exact .v _ _)⟩
    ·have hq:e∈es∧e.born∉seen:=by simpa[leftOf]using q1
     obtain⟨i,hi⟩:=Array.mem_iff_getElem?.1 hq.1;have kk:i<all.length:=by rw[←a6.1];exact(BG.1 hi).1
     have qg:all[i]?=some all[i]:=AB kk;have Zc:=(aR i _ e qg hi).2 hq.2;obtain⟨s1,s2,hs⟩:=List.append_of_mem Zc;have Jd:rem.Perm (all[i]::(s1++s2)):=by rw[hs];exact List.perm_middle
     have Sb:(all[i]::(s1++s2)).Nodup:=Jd.nodup_iff.1 Xw.1;have hr:=a9 i _ e qg hi;have hkey:=a6.2.1 i _ e qg hi;have Lg:w1.heap=w.heap∧w1.os=w.os∧w1.tape=w.tape∧w1.output=w.output:=by rcases q2 with rfl | rfl<;>exact⟨rfl,rfl,rfl,rfl⟩
     obtain⟨k1,k2⟩:=DS.swap hI hl a1 nP (.iter all (s1++s2) (some all[i])) a3 (.mapIter (some mb) Ki (seen.push e.born) ck) w1 Lg (by simp) (fun hg Im E5 ZW=>by
      obtain⟨u1,u2,u3,u4⟩:=BJ g r (g.ρ r) (g.ln r) (g.tk r) (g.own r) g.S;obtain⟨c1,c2,c3⟩:=Im mb 0 a4
      refine⟨u3.trans t1,b,mb,Ki,_,ck,es,ck,u4.trans a1,u1.trans a2,E5,c1,c3 _ _ a5,⟨sh,a6⟩,a7,rfl,fun i kv e p q=>(a9 i kv e p q).mono Im (fun _ h=>h) (fun _ h=>h.elim),
       ⟨(CI.1 Sb).2,fun kv Qd=>Xw.2 kv (Jd.mem_iff.2 (Ah _ Qd))⟩,fun j kv e' p q=>?_,⟨i,e,qg,hi,by simp⟩,nP⟩
      rw[Array.mem_push];have h1:=aR j kv e' p q;rw[Jd.mem_iff,AC]at h1;constructor
      ·intro Qd hc;rcases hc with hc | hc
       ·exact(h1.1 (.inr Qd)) hc
       ·obtain rfl:=a6.2.2.2.2.2 j i e' e q hi hc;rw[qg]at p;cases p;exact(CI.1 Sb).1 Qd
      ·intro hc;rcases h1.2 (fun hm=>hc (.inl hm))with e2 | e2
       ·have:j=i:=VR (f:=fun x=>x) (l:=all) (by simpa using PG a6.2.2.2.1) p qg e2
        subst this;rw[hi]at q;cases q;exact absurd (.inr rfl) hc
       ·exact e2)
     refine⟨_,_,_,_,_,q3,hk.2 all[i] (s1++s2) Jd,k1,k2,.tup _ _ _ rfl (fun j av x h1 h2=>?_)⟩
     match j,h1,h2 with
     |0,h1,h2=>simp at h1 h2;subst h1;subst h2;exact .v _ _
     |1,h1,h2=>simp at h1 h2;subst h1;subst h2;rw[hkey];exact .v _ _
     |2,h1,h2=>simp at h1 h2;subst h1;subst h2;exact(hr.up _).le k2
  ·exact hk.elim
 ·exact hk.elim
end
end Go.Eng
namespace Go.Eng
def Gu(F:(AV→Prop)→Prop):Prop:=∀K,F K→∃v,K v∧∀K',K' v→F K'
theorem DC(v:AV):Gu (fun K=>K v):=fun _ h=>⟨v,h,fun _ h=>h⟩
theorem DI{p:Prop}{F:(AV→Prop)→Prop}(h:Gu F):Gu (fun K=>p∧F K):=fun K ⟨hp,hk⟩ =>
 let ⟨v,h1,h2⟩:=h K hk
 ⟨v,h1,fun K' h'=>⟨hp,h2 K' h'⟩⟩
theorem CL:Gu (fun _=>False):=fun _ h=>h.elim
theorem VU(p:Prop):Gu (Jb p):=fun K h=>by
 by_cases hp:p
 ·exact⟨_,h.1 hp,fun K' h'=>⟨fun _=>h',fun hn=>absurd hp hn⟩⟩
 ·exact⟨_,h.2 hp,fun K' h'=>⟨fun q=>absurd q hp,fun _=>h'⟩⟩
theorem Y0{F:(AV→Prop)→Prop}(h:Gu F):Gu (fun K=>F (dH K)):=fun K hk=>by
 obtain⟨v,h1,h2⟩:=h _ hk;unfold dH at h1;split at h1
 ·exact⟨_,h1,fun K' h'=>h2 _ h'⟩
 ·exact⟨_,h1,fun K' h'=>h2 _ h'⟩
 ·exact h1.elim
theorem Nq{α:Type}{F:α→(AV→Prop)→Prop}(h:∀x,Gu (F x)):Gu (fun K=>∃x,F x K):=fun K ⟨x,hk⟩ =>
 let ⟨v,h1,h2⟩:=h x K hk
 ⟨v,h1,fun K' h'=>⟨x,h2 K' h'⟩⟩
theorem ID(T:GN)(t:Nat)(cs:List AV):Gu (LW T t cs):=by
 have head:Gu (Mw cs):=by unfold Mw;cases cs with | nil=>exact CL | cons a _=>exact DC a
 unfold LW;split
 ·exact DI (DC _)
 ·exact DI (DC _)
 ·cases cs with
  |nil=>exact CL
  |cons a _ =>
   intro K h;simp only[Mw]at h⊢;split at h
   ·rename_i b;cases b with
    |true=>exact⟨_,h.1 rfl,fun K' h'=>⟨fun _=>h',fun e=>by cases e⟩⟩
    |false=>exact⟨_,h.2 rfl,fun K' h'=>⟨fun e=>(by cases e),fun _=>h'⟩⟩
   ·exact h.elim
 ·exact CL
 ·exact head
theorem bJ(T:GN)(t:Nat)(x y:AV)(hx:∀tk es,x≠.slice tk es):Gu (qd T t x y):=by
 unfold qd
 repeat' split
 all_goals first | exact CL | exact DC _ | exact VU _ | exact DI (DC _) | exact absurd rfl (hx _ _)
theorem aB(op:BinOp)(k:IntKind)(a b:Int):Gu (SQ op k a b):=by
 unfold SQ
 repeat' split
 all_goals first | exact CL | exact DI (DC _) | (unfold Zp;split<;>first | exact CL | exact DC _)
theorem jl(T:GN)(op:BinOp)(t:Nat)(x y:AV)(hx:∀tk es,x≠.slice tk es):Gu (SV T op t x y):=by
 unfold SV
 repeat' split
 all_goals first | exact CL | exact VU _ | exact aB _ _ _ _ | exact DI (DC _) | exact bJ _ _ _ _ hx | exact Y0 (bJ _ _ _ _ hx)
theorem dX(T:GN)(op:BinOp)(t:Nat)(Y:Operand)(x y:AV)(hx:∀tk es,x≠.slice tk es):Gu (XG T op t Y x y):=by
 unfold XG
 repeat' split
 all_goals first | exact CL | exact DC _ | exact jl _ _ _ _ _ hx
theorem dY(T:GN)(s t:Nat)(x:AV):Gu (XM T s t x):=by
 unfold XM
 repeat' split
 all_goals first | exact CL | exact DC _ | exact DI (DC _) | exact Nq fun _=>DI (DC _)
theorem aD(T:GN)(s f:Nat)(x:AV):Gu (Tn T s f x):=by
 unfold Tn
 repeat' split
 all_goals first | exact CL | exact DC _
theorem YY(T:GN)(s f:Nat)(x:AV):Gu (Ph T s f x):=by
 unfold Ph
 repeat' split
 all_goals first | exact CL | exact ID _ _ _
theorem Uk(T:GN)(t:Nat)(x ix:AV):Gu (JJ T t x ix):=by
 unfold JJ
 repeat' split
 all_goals first | exact CL | exact DI (DC _) | exact Nq fun _=>DI (DI (DC _))
theorem aE(T:GN)(t:Nat)(x ix:AV):Gu (TS T t x ix):=by
 unfold TS
 repeat' split
 all_goals first | exact CL | exact DI (ID _ _ _) | exact Nq fun _=>DI (DC _)
theorem W7(x:AV)(i:Nat):Gu (Mn x i):=by
 unfold Mn
 repeat' split
 all_goals first | exact CL | exact DC _
theorem jn(x:AV):Gu (K3 x):=by
 unfold K3
 repeat' split
 all_goals first | exact CL | exact DC _
theorem dZ(c a b:AV):Gu (YW c a b):=by
 unfold YW
 repeat' split
 all_goals first | exact CL | exact DC _
theorem mo(f:Int→Int→Int)(x y:AV):Gu (lZ f x y):=by
 unfold lZ
 repeat' split
 all_goals first | exact CL | exact DC _
theorem d4(op:UnOp)(x:AV):Gu (Y7 op x):=by
 unfold Y7
 repeat' split
 all_goals first | exact CL | exact Y0 (DC _) | exact DI (DC _)
def mS{α:Type}(F:(α→Prop)→Prop):Prop:=∀K,F K→∃v,K v∧∀K',K' v→F K'
theorem YX(n:Nat)(a:AV):mS (Hk n a):=by
 intro K h;unfold Hk at h⊢
 repeat' split at h
 all_goals first | exact h.elim | skip
 all_goals exact⟨_,h,fun K' h'=>h'⟩
theorem Ui(pl:Nat→Option (Nat×Nat))(t:Nat→AV):∀(ps:List (Nat×Operand)) (cs:List AV),mS (KT pl cs t ps)
 | [],cs=>fun K h=>⟨cs,h,fun _ h=>h⟩
 |(i,x)::r,cs=>by
  intro K h;unfold KT at h;split at h
  ·exact h.elim
  ·rename_i o n e;obtain⟨vs,h1,h2⟩:=YX _ _ _ h;split at h1
   ·rename_i hb;obtain⟨c,h3,h4⟩:=Ui pl t r _ _ h1;refine⟨c,h3,fun K' h'=>?_⟩;unfold KT;simp only[e];refine h2 _ ?_;simp only[hb];exact h4 K' h'
   ·exact h1.elim
theorem aC(T:GN)(ty:Nat)(t:Nat→AV)(ps:List (Nat×Operand)):Gu (Ql T ty t ps):=by
 unfold Ql
 repeat' split
 all_goals first
  |exact CL
  |exact fun K h=>let ⟨c,h1,h2⟩:=Ui _ _ _ _ _ h;⟨_,h1,fun K' h'=>h2 _ h'⟩
def ze(h:Nat→HO)(e:Option (Nat×HO)):Nat→HO:=match e with | none=>h | some (r,o)=>A2 h r o
structure I8(o:Oper)(R:List Nat)(st st2:St):Prop where
 t:∀x∈o.op.operands,ev st2.t x=ev st.t x
 h:∀r∈R,st2.h r=st.h r
def Eo(cx:Cx)(o:Oper)(st:St)(R:List Nat)(w:Option Nat)(K:HK):Prop :=
 ∃v e,K v (ze st.h e)∧(∀r o',e=some (r,o')→w=some r∧r∈R)∧∀st2,I8 o R st st2→∀K' : HK,K' v (ze st2.h e)→F5 cx true o st2 K'
def SF(w:Option Nat)(r:Nat):Prop:=match w with | none=>False | some x=>x=r∨(10000000≤x∧(x % 10000000=r∨x / 10000000=r))∨x=Wr
def It(h:Nat→HO):List (Nat×HO)→Nat→HO
 | []=>h
 |p::l=>It (A2 h p.1 p.2) l
def Sh(cx:Cx)(o:Oper)(st:St)(R:List Nat)(w:Option Nat)(K:HK):Prop :=
 ∃v e,K v (It st.h e)∧(∀r o',(r,o')∈e→SF w r∧r∈R)∧∀st2,I8 o R st st2→∀K' : HK,K' v (It st2.h e)→F5 cx true o st2 K'
section
variable {cx:Cx}{o:Oper}{st:St}{R:List Nat}{w:Option Nat}{K:HK}
theorem Eo.pick{F:(AV→Prop)→Prop}(hF:Gu F)(h:F fun v=>K v st.h)(h2:∀st2,I8 o R st st2→∀K' : HK,F (fun v=>K' v st2.h)→F5 cx true o st2 K'):Eo cx o st R w K :=
 let ⟨v,h1,h3⟩:=hF _ h
 ⟨v,none,h1,fun _ _ e=>(by cases e),fun st2 ha K' hk=>h2 st2 ha K' (h3 _ hk)⟩
theorem YG{cs:List AV}{a:AV}(h:a∈cs):∀r∈UT a,r∈lK cs:=by
 induction cs with
 |nil=>cases h
 |cons c cs ih =>
  intro r hr;rcases AC.1 h with rfl | h
  ·exact Bz _ hr
  ·exact Bq _ (ih h r hr)
theorem iI{cs:List AV}{a:AV}(h:a∈cs):∀r∈UU a,r∈pp cs:=by
 induction cs with
 |nil=>cases h
 |cons c cs ih =>
  intro r hr;rcases AC.1 h with rfl | h
  ·exact Bz _ hr
  ·exact Bq _ (ih h r hr)
theorem YF{cs:List AV}{a:AV}(h:a∈cs):∀r∈Xp a,r∈TN cs:=by
 induction cs with
 |nil=>cases h
 |cons c cs ih =>
  intro r hr;rcases AC.1 h with rfl | h
  ·exact Bz _ hr
  ·exact Bq _ (ih h r hr)
theorem VD(a:AV):∀r∈UT a,r∈UU a:=by cases a<;>simp[UT,UU]
theorem Q0{h h2:Nat→HO}{a:AV}(e:∀r∈UT a,h2 r=h r):str0 h2 a=str0 h a:=by
 cases a<;>simp only[str0]
 ·rw[e _ (by simp[UT])]
 ·rw[e _ (by simp[UT])]
theorem V7{h h2:Nat→HO}{a:AV}(e:∀r∈UU a,h2 r=h r):str h2 a=str h a:=by
 cases a with
 |agg cs=>simp only[str];exact Aa _ (Bk fun c hc=>Q0 fun r hr=>e r (YG hc r hr))
 |clo f cs=>simp only[str];exact Aa _ (Bk fun c hc=>Q0 fun r hr=>e r (YG hc r hr))
 |_=>exact Q0 (fun r hr=>e r (VD _ r hr))
theorem io(a:AV):∀r∈UU a,r∈Xp a:=by
 cases a with
 |agg cs =>
  intro r hr;simp only[Xp,UU]at *
  induction cs with
  |nil=>exact hr
  |cons c cs ih =>
   rcases Ba.1 hr with h | h
   ·exact Bz _ (VD c r h)
   ·exact Bq _ (ih h)
 |_=>exact fun r hr=>hr
theorem Lc{h h2:Nat→HO}{a:AV}(e:∀r∈Xp a,h2 r=h r):str h2 a=str h a:=V7 fun r hr=>e r (io a r hr)
theorem Ra{h h2:Nat→HO}{l:List AV}(e:∀r∈TN l,h2 r=h r):l.map (str h2)=l.map (str h) :=
 Bk fun _ ha=>Lc fun r hr=>e r (YF ha r hr)
theorem jF{h h2:Nat→HO}{a:AV}(e:∀r∈Xp a,h2 r=h r):rsv h2 a=rsv h a:=by
 cases a<;>simp only[rsv]
 ·rw[e _ (by simp[Xp,UU,UT])]
 ·rw[e _ (by simp[Xp,UU,UT])]
theorem N6{n:Nat}{a:AV}{K:List AV→Prop}(hk:Hk n a K):∃cs,K cs∧(∀K' : List AV→Prop,K' cs→Hk n a K')∧∀h h2:Nat→HO,(∀r∈Xp a,h2 r=h r)→cs.map (str h2)=cs.map (str h):=by
 have single:K [a]→(∀K' : List AV→Prop,K' [a]→Hk n a K')→∃cs,K cs∧(∀K' : List AV→Prop,K' cs→Hk n a K')∧∀h h2:Nat→HO,(∀r∈Xp a,h2 r=h r)→cs.map (str h2)=cs.map (str h) :=
  fun h1 h2=>⟨[a],h1,h2,fun h h2 e=>by simp[Lc e]⟩
 unfold Hk at hk;split at hk
 ·rename_i cs;split at hk
  ·rename_i hn;refine⟨cs,hk,fun K' h=>by unfold Hk;simp only[hn];exact h,fun h h2 e=>Bk fun c hc=>V7 fun r hr=>e r (iI hc r hr)⟩
  ·exact hk.elim
 ·rename_i pd;split at hk
  ·rename_i h1;split at hk
   ·refine single hk fun K' h=>?_;unfold Hk;split
    ·rename_i cs;exact absurd rfl (pd cs)
    ·rw[h1];exact h
   ·exact hk.elim
  ·exact hk.elim
theorem To{n sz:Nat}{t:Nat→AV}:∀{ps:List (Nat×Operand)} {es:List (List AV)} {h:Nat→HO} {K:List (List AV)→Prop},Rw n sz h es t ps K →
  ∃FQ,K FQ∧∀(t2:Nat→AV) (h2:Nat→HO),(∀r∈TN (ps.map fun p=>ev t p.2),h2 r=h r)→(∀p∈ps,ev t2 p.2=ev t p.2)→∀K' : List (List AV)→Prop,K' FQ→Rw n sz h2 es t2 ps K'
 | [],es,h,K,hk=>⟨es,hk,fun _ _ _ _ _ h=>h⟩
 |(i,x)::r,es,h,K,hk=>by
  unfold Rw at hk;split at hk
  ·rename_i hb;obtain⟨cs,c1,c2,c3⟩:=N6 hk;obtain⟨FQ,e1,e2⟩:=To c1;refine⟨FQ,e1,fun t2 h2 hh ht K' Kr=>?_⟩;unfold Rw;rw[hb,ht (i,x) (Ac ..)];refine c2 _ ?_;rw[c3 h h2 (fun r hr=>hh r (Bz _ hr))];exact e2 t2 h2 (fun r hr=>hh r (Bq _ hr)) (fun p hp=>ht p (Ah _ hp)) K' Kr
  ·exact hk.elim
theorem II{d:Option Nat}{h:Nat→HO}{sz:Nat}{es:List (List AV)}(hk:EL cx d h sz es K) :
  ∃d',d.map (KQ cx)=some d'∧∃v x,K v (A2 h d' x)∧∀h2:Nat→HO,h2 d'=h d'→∀K' : HK,K' v (A2 h2 d' x)→EL cx d h2 sz es K':=by
 unfold EL at hk;split at hk
 ·exact hk.elim
 ·rename_i d;split at hk
  ·rename_i hd;split at hk
   ·rename_i e;exact⟨KQ cx d,rfl,_,_,hk,fun h2 hh K' h'=>by unfold EL;simp only[hh,hd,e];exact h'⟩
   ·rename_i e;exact⟨KQ cx d,rfl,_,_,hk,fun h2 hh K' h'=>by unfold EL;simp only[hh,hd,e];exact h'⟩
  ·exact hk.elim
theorem ZF{h:Nat→HO}{x:AV}{K:List (List AV)→Prop}(hk:Lr h x K):∃es,K es∧∀h2:Nat→HO,(∀r n,x=.msl r n→h2 r=h r)→∀K' : List (List AV)→Prop,K' es→Lr h2 x K':=by
 unfold Lr at hk;split at hk
 ·exact⟨_,hk,fun _ _ K' h=>h⟩
 ·exact⟨_,hk,fun _ _ K' h=>h⟩
 ·rename_i r n;split at hk
  ·rename_i sz es e;exact⟨_,hk.2,fun h2 hh K' h=>by unfold Lr;simp only[hh r n rfl,e];exact⟨hk.1,h⟩⟩
  ·exact hk.elim
 ·exact hk.elim
end
section
variable {cx:Cx}{dst:Option Nat}{ty:Nat}{pos:String}{after:Array Edge}{gd:Option (Nat×Bool)}{st:St}{R:List Nat}{w:Option Nat}{K:HK}
theorem IT{d:Option Nat}{l:List Nat}{f:FI}(h:IS d l=some f):∃d',d=some d'∧f=(d' :: l,some d'):=by
 unfold IS at h;cases d with
 |none=>cases h
 |some d=>cases h;exact⟨d,rfl,rfl⟩
theorem X4{e:Nat}(hk:F5 cx true ⟨dst,.alloc e,ty,pos,after,gd⟩ st K)(hf:Fv cx ⟨dst,.alloc e,ty,pos,after,gd⟩ st=some (R,w)):Eo cx ⟨dst,.alloc e,ty,pos,after,gd⟩ st R w K:=by
 simp only[F5]at hk;obtain⟨d,rfl,e0⟩:=IT hf;cases e0;unfold SO at hk;simp only at hk;split at hk
 ·rename_i hd;split at hk
  ·exact hk.elim
  ·rename_i DM;split at hk
   ·rename_i ha;refine⟨_,some (d,_),hk,fun r o' e=>(by cases e;exact⟨rfl,Ac ..⟩),fun st2 Hf K' h'=>?_⟩;simp only[F5,SO];rw[Hf.h d (Ac ..),hd];simp only[ha];exact h'
   ·exact hk.elim
 ·exact hk.elim
theorem cS{e:Nat}{x:Operand}(hk:F5 cx true ⟨dst,.box e x,ty,pos,after,gd⟩ st K)(hf:Fv cx ⟨dst,.box e x,ty,pos,after,gd⟩ st=some (R,w)):Eo cx ⟨dst,.box e x,ty,pos,after,gd⟩ st R w K:=by
 simp only[F5]at hk;obtain⟨d,rfl,e0⟩:=IT hf;cases e0;unfold cB at hk;simp only at hk;split at hk
 ·rename_i hd;split at hk
  ·exact hk.elim
  ·rename_i DM;obtain⟨cs,c1,c2,c3⟩:=N6 hk;split at c1
   ·rename_i hm;refine⟨_,some (d,_),c1,fun r o' e=>(by cases e;exact⟨rfl,Ac ..⟩),fun st2 Hf K' h'=>?_⟩;have hx:ev st2.t x=ev st.t x:=Hf.t x (by simp[Op.operands]);simp only[F5,cB];rw[Hf.h d (Ac ..),hd,hx];simp only[hm];refine c2 _ ?_;rw[c3 st.h st2.h (fun r hr=>Hf.h r (Ah _ hr))];exact h'
   ·rename_i hm;refine⟨_,some (d,_),c1,fun r o' e=>(by cases e;exact⟨rfl,Ac ..⟩),fun st2 Hf K' h'=>?_⟩;have hx:ev st2.t x=ev st.t x:=Hf.t x (by simp[Op.operands]);simp only[F5,cB];rw[Hf.h d (Ac ..),hd,hx];simp only[hm];exact c2 _ h'
 ·exact hk.elim
theorem Qu{t n:Nat}{ps:Array (Nat×Operand)}(hk:F5 cx true ⟨dst,.buildSlice t n ps,ty,pos,after,gd⟩ st K)(hf:Fv cx ⟨dst,.buildSlice t n ps,ty,pos,after,gd⟩ st=some (R,w)) :
  Eo cx ⟨dst,.buildSlice t n ps,ty,pos,after,gd⟩ st R w K:=by
 simp only[F5]at hk;obtain⟨d,cZ,e0⟩:=IT hf;cases e0;unfold IP at hk;split at hk
 ·rename_i e he;split at hk
  ·rename_i h1 h2;split at hk
   ·exact hk.elim
   ·rename_i k El;split at hk
    ·rename_i hb;obtain⟨es,q1,q2⟩:=To hk;obtain⟨d',hd,v,x,q3,q4⟩:=II q1;have hd:dst.map (KQ cx)=some d':=hd;have cZ:dst.map (KQ cx)=some d:=cZ;rw[cZ]at hd;cases hd;refine⟨v,some (d,x),q3,fun r o' e=>(by cases e;exact⟨rfl,Ac ..⟩),fun st2 Hf K' h'=>?_⟩;have hx:∀p∈ps.toList,ev st2.t p.2=ev st.t p.2:=fun p hp=>Hf.t p.2 (by
      simp only[Op.operands,List.mem_toArray];exact Ao.2 ⟨p,hp,rfl⟩)
     simp only[F5,IP,he,h1,h2];split
     ·rename_i e0;rw[El]at e0;cases e0
     ·rw[hb];exact q2 st2.t st2.h (fun r hr=>Hf.h r (Ah _ hr)) hx _ (q4 st2.h (Hf.h d (Ac ..)) K' h')
    ·exact hk.elim
  ·exact hk.elim
 ·exact hk.elim
theorem RX{t:Nat}{n c:Operand}(hk:F5 cx true ⟨dst,.makeSlice t n c,ty,pos,after,gd⟩ st K)(hf:Fv cx ⟨dst,.makeSlice t n c,ty,pos,after,gd⟩ st=some (R,w)) :
  Eo cx ⟨dst,.makeSlice t n c,ty,pos,after,gd⟩ st R w K:=by
 simp only[F5]at hk;obtain⟨d,cZ,e0⟩:=IT hf;cases e0;have hn:∀st2,I8 ⟨dst,.makeSlice t n c,ty,pos,after,gd⟩ (d::[]) st st2→ev st2.t n=ev st.t n∧ev st2.t c=ev st.t c:=fun st2 ha=>⟨ha.t n (by simp[Op.operands]),ha.t c (by simp[Op.operands])⟩;unfold JL at hk;split at hk
 ·rename_i e a b h1 h2 h3;split at hk
  ·rename_i h4;split at hk
   ·rename_i h5;split at hk
    ·exact hk.elim
    ·rename_i k El;obtain⟨d',hd,v,x,q3,q4⟩:=II hk.2;have hd:dst.map (KQ cx)=some d':=hd;have cZ:dst.map (KQ cx)=some d:=cZ;rw[cZ]at hd;cases hd;refine⟨v,some (d,x),q3,fun r o' e=>(by cases e;exact⟨rfl,Ac ..⟩),fun st2 Hf K' h'=>?_⟩;simp only[F5,JL,(hn st2 Hf).1,(hn st2 Hf).2,h1,h2,h3,h4,h5];split
     ·rename_i e0;rw[El]at e0;cases e0
     ·exact⟨hk.1,q4 st2.h (Hf.h d (Ac ..)) K' h'⟩
   ·exact hk.elim
  ·exact hk.elim
 ·exact hk.elim
theorem UQ{t:Nat}{r:Option Operand}(hk:F5 cx true ⟨dst,.makeMap t r,ty,pos,after,gd⟩ st K)(hf:Fv cx ⟨dst,.makeMap t r,ty,pos,after,gd⟩ st=some (R,w)) :
  Eo cx ⟨dst,.makeMap t r,ty,pos,after,gd⟩ st R w K:=by
 cases r with
 |some r=>exact hk.elim
 |none =>
  simp only[F5]at hk;obtain⟨d,rfl,e0⟩:=IT hf;cases e0;unfold KY at hk;simp only at hk;split at hk
  ·rename_i hd;split at hk
   ·rename_i h1;split at hk
    ·rename_i h2;split at hk
     ·rename_i h3;refine⟨_,some (d,_),hk,fun r o' e=>(by cases e;exact⟨rfl,Ac ..⟩),fun st2 Hf K' h'=>?_⟩;simp only[F5,KY];rw[Hf.h d (Ac ..),hd];simp only[h1,h2,h3];exact h'
     ·rename_i h3;refine⟨_,some (d,_),hk,fun r o' e=>(by cases e;exact⟨rfl,Ac ..⟩),fun st2 Hf K' h'=>?_⟩;simp only[F5,KY];rw[Hf.h d (Ac ..),hd];simp only[h1,h2,h3];exact h'
    ·exact hk.elim
   ·exact hk.elim
  ·exact hk.elim
theorem X5{t:Nat}{p x:Operand}(hk:F5 cx true ⟨dst,.store t p x,ty,pos,after,gd⟩ st K)(hf:Fv cx ⟨dst,.store t p x,ty,pos,after,gd⟩ st=some (R,w)) :
  Eo cx ⟨dst,.store t p x,ty,pos,after,gd⟩ st R w K:=by
 simp only[F5]at hk;have hn:∀st2,I8 ⟨dst,.store t p x,ty,pos,after,gd⟩ R st st2→ev st2.t p=ev st.t p∧ev st2.t x=ev st.t x:=fun st2 ha=>⟨ha.t p (by simp[Op.operands]),ha.t x (by simp[Op.operands])⟩;unfold OE at hk;split at hk
 ·exact hk.elim
 ·rename_i DM;obtain⟨cs,c1,c2,c3⟩:=N6 hk;simp only[Fv]at hf;split at hf
  ·rename_i r off hp;split at hf
   ·cases hf
   ·rename_i hm;cases hf;rw[hp]at c1;simp only at c1;split at c1
    ·rename_i FP hr;obtain⟨Ho,Kr⟩:=c1;rw[hm]at Kr;refine⟨_,some (r,_),Kr,fun r o' e=>(by cases e;exact⟨rfl,Ac ..⟩),fun st2 Hf K' h'=>?_⟩;simp only[F5,OE,(hn st2 Hf).1,(hn st2 Hf).2];refine c2 _ ?_;rw[hp];simp only[Hf.h r (Ac ..),hr,hm];exact⟨Ho,h'⟩
    ·exact c1.elim
  ·rename_i r n sz i off hp;cases hf;rw[hp]at c1;simp only at c1;split at c1
   ·rename_i GL es hr;split at c1
    ·rename_i hs;obtain⟨Ho,cell,e1,e2,Kr⟩:=c1;split at Kr
     ·rename_i j m;refine⟨_,some (r,_),Kr,fun r o' e=>(by cases e;exact⟨rfl,Ac ..⟩),fun st2 Hf K' h'=>?_⟩;simp only[F5,OE,(hn st2 Hf).1,(hn st2 Hf).2];refine c2 _ ?_;rw[hp];simp only[Hf.h r (Ac ..),hr,hs];exact⟨Ho,cell,e1,e2,h'⟩
     ·rename_i Od;refine⟨_,some (r,_),Kr,fun r o' e=>(by cases e;exact⟨rfl,Ac ..⟩),fun st2 Hf K' h'=>?_⟩;simp only[F5,OE,(hn st2 Hf).1,(hn st2 Hf).2];refine c2 _ ?_;rw[hp];simp only[Hf.h r (Ac ..),hr,hs];refine⟨Ho,cell,e1,e2,?_⟩;rw[c3 st.h st2.h (fun r hr=>Hf.h r (Ah _ hr))];exact h'
    ·exact c1.elim
   ·exact c1.elim
  ·cases hf
theorem RY{t:Nat}{m k x:Operand}(hk:F5 cx true ⟨dst,.mapUpdate t m k x,ty,pos,after,gd⟩ st K)(hf:Fv cx ⟨dst,.mapUpdate t m k x,ty,pos,after,gd⟩ st=some (R,w)) :
  Eo cx ⟨dst,.mapUpdate t m k x,ty,pos,after,gd⟩ st R w K:=by
 simp only[F5]at hk;have hn:∀st2,I8 ⟨dst,.mapUpdate t m k x,ty,pos,after,gd⟩ R st st2→ev st2.t m=ev st.t m∧ev st2.t k=ev st.t k∧ev st2.t x=ev st.t x:=fun st2 ha=>⟨ha.t m (by simp[Op.operands]),ha.t k (by simp[Op.operands]),ha.t x (by simp[Op.operands])⟩;simp only[Fv]at hf;split at hf
 ·rename_i r hm;cases hf;unfold Hp at hk;rw[hm]at hk;simp only at hk;split at hk
  ·rename_i sh B7 hr;unfold Kv at hk;split at hk
   ·rename_i kt e h1;split at hk
    ·rename_i uK h2;split at hk
     ·rename_i h3;split at hk
      ·rename_i kx h4;split at hk
       ·rename_i h5;refine⟨_,some (r,_),hk,fun r o' e=>(by cases e;exact⟨rfl,Ac ..⟩),fun st2 Hf K' h'=>?_⟩;obtain⟨n1,n2,n3⟩:=hn st2 Hf;simp only[F5,Hp,n1,n2,n3,hm,Hf.h r (Ac ..),hr,Kv,h1,h2,h3,h4,h5];rw[Lc (h:=st.h) (h2:=st2.h) (fun r hr=>Hf.h r (Ah _ hr))];exact h'
       ·exact hk.elim
      ·exact hk.elim
     ·exact hk.elim
    ·exact hk.elim
   ·exact hk.elim
  ·rename_i sh B7 hr;unfold Kv at hk;split at hk
   ·rename_i kt e h1;split at hk
    ·rename_i uK h2;split at hk
     ·rename_i h3;split at hk
      ·rename_i kx h4;split at hk
       ·rename_i h5;refine⟨_,some (r,_),hk,fun r o' e=>(by cases e;exact⟨rfl,Ac ..⟩),fun st2 Hf K' h'=>?_⟩;obtain⟨n1,n2,n3⟩:=hn st2 Hf;simp only[F5,Hp,n1,n2,n3,hm,Hf.h r (Ac ..),hr,Kv,h1,h2,h3,h4,h5];exact h'
       ·exact hk.elim
      ·exact hk.elim
     ·exact hk.elim
    ·exact hk.elim
   ·exact hk.elim
  ·exact hk.elim
 ·cases hf
theorem bK{A B:(AV→Prop)→Prop}(ha:Gu A)(hb:Gu B):Gu fun K=>A K∨B K:=by
 intro K hk;rcases hk with hk | hk
 ·obtain⟨v,h1,h2⟩:=ha K hk;exact⟨v,h1,fun K' h=>.inl (h2 K' h)⟩
 ·obtain⟨v,h1,h2⟩:=hb K hk;exact⟨v,h1,fun K' h=>.inr (h2 K' h)⟩
theorem Tw{fn:Fn}{first cap:Array Operand}(hk:F5 cx true ⟨dst,.makeFunc fn first cap,ty,pos,after,gd⟩ st K)(hf:Fv cx ⟨dst,.makeFunc fn first cap,ty,pos,after,gd⟩ st=some (R,w)) :
  Eo cx ⟨dst,.makeFunc fn first cap,ty,pos,after,gd⟩ st R w K:=by
 simp only[F5]at hk;simp only[Fv]at hf;cases hf;unfold KX at hk;split at hk
 ·rename_i f h1;refine⟨_,none,hk,fun r o' e=>(by cases e),fun st2 Hf K' h'=>?_⟩;simp only[F5,h1,KX]
  have:cap.toList.map (fun x=>rsv st2.h (ev st2.t x))=cap.toList.map (fun x=>rsv st.h (ev st.t x)):=Bk fun x hx=>by
   rw[Hf.t x (by simp only[Op.operands,SD];exact .inr (by simpa using hx))];exact jF fun r hr=>Hf.h r (YF (Ao.2 ⟨x,hx,rfl⟩) r hr)
  rw[this];exact h'
 ·exact hk.elim
end
end Go.Eng
