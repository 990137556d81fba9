/- Lemmas 9. -/
import Derived.Test.YtkjhcikodmiceaaGreatDoorCA08
import Derived.Maps.RangeRun
namespace Go.Eng
open Go.ChangeMaps (setBlock)
variable {BM:List (Value×AV)}{es:Array MapEntry}{sh:Ez}{vx:Value}{α β:Type}{f:α->β}{l:List α}{ck:Nat}{w:World}{k x y:Value}{a:AV}{K:HK}{r:Nat}{o':Obj}{j:Nat}{v:AV}{T:GL}
theorem XF{o:Obj}(h:w.heap[r]?=some o):(setBlock w r o').heap[r]?=some o':=by
 grind [setBlock]
theorem WM{k:Nat}(h:k≠r):(setBlock w r o').heap[k]?=w.heap[k]?:=by
 grind [setBlock]
theorem XG(w:World)(r:Nat)(o' : Obj):(setBlock w r o').heap.size=w.heap.size:=by simp[setBlock]
theorem QM(h:(l.map f).Nodup):l.Nodup:=by
 induction l<;>grind
theorem YC(h:(l.map f).Nodup){i:Nat}{a b:α}(ha:l[i]?=some a)(hb:l[j]?=some b)(he:f a=f b):i=j:=by
 induction l generalizing i j<;>grind
open Classical in
theorem Sh{b:AV}(h:(k,b)∈BM):EN BM k a=BM.map fun p=>if p.1=k then(k,a)else p:=AO ⟨b,h⟩
open Classical in
theorem Lb(h:∀b,(k,b)∉BM):EN BM k a=BM++[(k,a)]:=AB (fun⟨b,e⟩=>h b e)
theorem Yz(f:AV->AV)(h:Hl sh es ck BM):Hl sh es ck (BM.map fun p=>(p.1,f p.2)):=by
 obtain⟨h1,h2,h3,h4,h5,h6⟩:=h;refine⟨by simp_all,fun i kv e q1 q2=>?_,fun kv nG=>?_,?_,h5,h6⟩
 all_goals grind
theorem QH(h:Hl sh es ck BM)(hj:BM[j]?=some (x,a)) :
  Hl sh (es.modify j fun e=>{ e with key:=x,val:=y }) ck (EN BM x v) /\
   ∀(i:Nat) (kv:Value×AV) (e:MapEntry),(EN BM x v)[i]?=some kv->(es.modify j fun e=>{ e with key:=x,val:=y })[i]?=some e ->
    (kv.2=v/\e.val=y)\/(BM[i]?=some kv/\es[i]?=some e):=by
 classical
 rw[Sh (Ax hj)];obtain⟨h1,h2,h3,h4,h5,h6⟩:=h;have hm:∀i e,(es.modify j fun e=>{ e with key:=x,val:=y })[i]?=some e->∃e0,es[i]?=some e0/\e.born=e0.born/\(if i=j then e.key=x/\e.val=y else e=e0):=by
  grind
 have hk:∀i kv,(BM.map fun p=>if p.1=x then(x,v)else p)[i]?=some kv->∃p,BM[i]?=some p/\kv.1=p.1/\(if i=j then kv.2=v else kv=p):=by
  intro i kv nG;rw[BC]at nG;obtain⟨p,q1,q2⟩:=BH.1 nG;refine⟨p,q1,?_⟩
  grind [YC]
 have An4:(BM.map fun p=>if p.1=x then(x,v)else p).map (·.1)=BM.map (·.1):=by
  rw[Bo];apply Ca
  grind
 refine⟨⟨by grind,fun i kv e q1 q2=>?_,fun kv nG=>?_,by grind,fun i e q=>?_,fun i i' e e' q q' hb=>?_⟩,fun i kv e q1 q2=>?_⟩
 all_goals grind
theorem V9(h:Hl sh es ck BM)(hx:bt sh x=true)(hn:∀a,(x,a)∉BM) :
  Hl sh (es.push { key:=x,val:=y,born:=ck }) (ck+1) (EN BM x v) /\
   ∀(i:Nat) (kv:Value×AV) (e:MapEntry),(EN BM x v)[i]?=some kv->(es.push { key:=x,val:=y,born:=ck })[i]?=some e ->
    (kv.2=v/\e.val=y)\/(BM[i]?=some kv/\es[i]?=some e):=by
 rw[Lb hn];obtain⟨h1,h2,h3,h4,h5,h6⟩:=h;have hm:∀i e,(es.push { key:=x,val:=y,born:=ck })[i]?=some e->(es[i]?=some e/\i<es.size)\/(i=es.size/\e={ key:=x,val:=y,born:=ck }):=by
  grind
 have hk:∀i kv,(BM++[(x,v)])[i]?=some kv->(BM[i]?=some kv/\i<es.size)\/(i=es.size/\kv=(x,v)):=by
  grind
 refine⟨⟨by grind,fun i kv e q1 q2=>?_,fun kv nG=>?_,?_,fun i e q=>?_,fun i i' e e' q q' hb=>?_⟩,fun i kv e q1 q2=>?_⟩
 all_goals grind
section
variable {P:Program}{w0:World}{g0:D}{h0 h:Nat->HO}{g:D}{w:World}(hI:CH w0 g0 h0 h g w)
include hI
theorem CH.swap{r b:Nat}(hl:(h r).live)(ho:g.own r=some b)(hn:∀o,¬g.S b o)(o' : HO){ob:Obj}(hb:w.heap[b]?=some ob)(lw : Obj)(w1:World)(VP:w1.heap=w.heap/\w1.os=w.os/\w1.tape=w.tape/\w1.output=w.output)(Ec:o'≠.free)
  (MC:JA g (g.upd r (g.ρ r) (g.ln r) (g.tk r) (g.own r) g.S) (L h)->D8 g w (g.upd r (g.ρ r) (g.ln r) (g.tk r) (g.own r) g.S) (setBlock w1 b lw)->(setBlock w1 b lw).heap[b]?=some lw ->
   (∀k,k≠b->(setBlock w1 b lw).heap[k]?=w.heap[k]?) ->
   DE (g.upd r (g.ρ r) (g.ln r) (g.tk r) (g.own r) g.S) (setBlock w1 b lw) (L (AS h r o')) r o') :
  CH w0 g0 h0 (AS h r o') (g.upd r (g.ρ r) (g.ln r) (g.tk r) (g.own r) g.S) (setBlock w1 b lw)/\Le h g w (AS h r o') (g.upd r (g.ρ r) (g.ln r) (g.tk r) (g.own r) g.S) (setBlock w1 b lw):=by
 have CL:=(hI.loc r b hl ho).1;have EY:(setBlock w1 b lw).heap[b]?=some lw:=XF (by rw[VP.1];exact hb);have iv:∀k,k≠b->(setBlock w1 b lw).heap[k]?=w.heap[k]?:=fun k hk=>by grind [WM]
 refine hI.upd r o' _ _ _ _ _ _ (some b) ⟨VP.2.1,VP.2.2.1,VP.2.2.2,by grind [XG]⟩ (fun k _ Ec=>iv k (fun e=>Ec (by rw[e]))) (fun b' e=>by simp_all) (fun _ _ h=>h) (fun _ _ h=>.inl h)
  (fun b' o e hs=>by simp_all) (fun b' _ e=>?_) Ec (fun _=>⟨rfl,Af _,fun _=>rfl,fun _=>rfl⟩) (fun hg hk=>MC hg hk EY iv)
 grind
theorem OF(hT:B8 P T){ty:Nat}{m k x:AV}{vm vk:Value}(hm:O g w (L h) m vm)(hk' : O g w (L h) k vk)(hx:O g w (L h) x vx)(hk:Hi T h ty m k x K) :
  pX P w0 g0 h0 h g w (Instr.mapUpdate ty vm vk vx) K:=by
 unfold Hi at hk;split at hk
 .rename_i r;split at hk
  .rename_i sh BM e0;obtain⟨kt,e,k1,k2,k3,k4⟩:=NV hk' hk;have ho:=hI.objs r;rw[e0]at ho;obtain⟨t1,b,es,ck,a1,a2,a3,a4,a5,a6⟩:=ho;have hl:(h r).live:=by rw[e0];trivial
   cases hm with
   |mref _ _ b' hu ht hp=>
    rw[a2]at hp;cases hp;have rO:=hT.map k1;have FA:=run_getObj_map (P:=P) w b es ck a3;have Pi:∀o',(setObj b o').run P w=.ok () (setBlock w b o'):=fun o'=>by grind [setObj,Sem.run,setBlock]
    have aw:=fun bb=>NC hT k2 w bb k3;obtain⟨res,r1,r2⟩:=PE hT k2 w k3 es.toList a4.shape;have xk:=O.str hI.objs hx;rcases r2 with ⟨rfl,hn⟩ | ⟨j,en,rfl,hj,hkey⟩
    .obtain⟨m1,m2⟩:=V9 a4 (x:=vk) (v:=str h x) (y:=vx) k3 (fun a=>a4.none hn a);obtain⟨i1,i2⟩:=CH.swap hI hl a1 a6 (.map sh (EN BM vk (str h x))) a3 (.map (es.push { key:=vk,val:=vx,born:=ck }) (ck+1)) w ⟨rfl,rfl,rfl,rfl⟩ aa1 (fun hg Hq EY iv=>by
      obtain⟨u1,u2,u3,u4⟩:=Bn g r (g.ρ r) (g.ln r) (g.tk r) (g.own r) g.S;refine⟨u3.trans t1,b,_,_,u4.trans a1,u1.trans a2,EY,m1,fun i kv e q1 q2=>?_,a6⟩;rcases m2 i kv e q1 q2 with ⟨p1,p2⟩ | ⟨p1,p2⟩
      .rw[p1,p2];exact xk.mono Hq (fun _ h=>h) (fun _ h=>h.elim)
      .exact(a5 i kv e p1 p2).mono Hq (fun _ h=>h) (fun _ h=>h.elim))
     refine⟨_,_,_,?_,k4,i1,i2⟩;simp[Instr.mapUpdate,run_underlying rO,FA,aw,r1,Pi]
    .obtain⟨a,q1,q2⟩:=a4.some hj hkey;obtain⟨m1,m2⟩:=QH a4 (x:=vk) (v:=str h x) (y:=vx) q1;obtain⟨i1,i2⟩:=CH.swap hI hl a1 a6 (.map sh (EN BM vk (str h x))) a3 (.map (es.modify j fun e=>{ e with key:=vk,val:=vx }) ck) w ⟨rfl,rfl,rfl,rfl⟩ aa1 (fun hg Hq EY iv=>by
      obtain⟨u1,u2,u3,u4⟩:=Bn g r (g.ρ r) (g.ln r) (g.tk r) (g.own r) g.S;refine⟨u3.trans t1,b,_,_,u4.trans a1,u1.trans a2,EY,m1,fun i kv e q1 q2=>?_,a6⟩;rcases m2 i kv e q1 q2 with ⟨p1,p2⟩ | ⟨p1,p2⟩
      .rw[p1,p2];exact xk.mono Hq (fun _ h=>h) (fun _ h=>h.elim)
      .exact(a5 i kv e p1 p2).mono Hq (fun _ h=>h) (fun _ h=>h.elim))
     refine⟨_,_,_,?_,k4,i1,i2⟩;have hj' : es[j]?=some en:=aa0
     have Jp:=T5 (P:=P) w k3;simp[Instr.mapUpdate,run_underlying rO,FA,aw,r1,Pi,hj',hkey,Jp]
  .rename_i sh BM e0;obtain⟨kt,e,k1,k2,k3,k4⟩:=NV hk' hk;have ho:=hI.objs r;rw[e0]at ho;obtain⟨t1,b,es,ck,a1,a2,a3,a4,a5,a6⟩:=ho;have hl:(h r).live:=by rw[e0];trivial
   cases hm with
   |mref _ _ b' hu ht hp=>
    rw[a2]at hp;cases hp;have rO:=hT.map k1;have FA:=run_getObj_map (P:=P) w b es ck a3;have Pi:∀o',(setObj b o').run P w=.ok () (setBlock w b o'):=fun o'=>by grind [setObj,Sem.run,setBlock]
    have aw:=fun bb=>NC hT k2 w bb k3;obtain⟨res,r1,r2⟩:=PE hT k2 w k3 es.toList a4.shape;rcases r2 with ⟨rfl,hn⟩ | ⟨j,en,rfl,hj,hkey⟩
    .obtain⟨m1,m2⟩:=V9 a4 (x:=vk) (v:=x) (y:=vx) k3 (fun a=>a4.none hn a);obtain⟨i1,i2⟩:=CH.swap hI hl a1 a6 (.mapU sh (EN BM vk (x))) a3 (.map (es.push { key:=vk,val:=vx,born:=ck }) (ck+1)) w ⟨rfl,rfl,rfl,rfl⟩ aa1 (fun hg Hq EY iv=>by
      obtain⟨u1,u2,u3,u4⟩:=Bn g r (g.ρ r) (g.ln r) (g.tk r) (g.own r) g.S;have Na:∀i,L h i->L (AS h r (.mapU sh (EN BM vk x))) i:=fun i hi=>DC aa1 i hi;refine⟨u3.trans t1,b,_,_,u4.trans a1,u1.trans a2,EY,m1,fun i kv e q1 q2=>?_,a6⟩
      grind [O.mono])
     refine⟨_,_,_,?_,k4,i1,i2⟩;simp[Instr.mapUpdate,run_underlying rO,FA,aw,r1,Pi]
    .obtain⟨a,q1,q2⟩:=a4.some hj hkey;obtain⟨m1,m2⟩:=QH a4 (x:=vk) (v:=x) (y:=vx) q1;obtain⟨i1,i2⟩:=CH.swap hI hl a1 a6 (.mapU sh (EN BM vk (x))) a3 (.map (es.modify j fun e=>{ e with key:=vk,val:=vx }) ck) w ⟨rfl,rfl,rfl,rfl⟩ aa1 (fun hg Hq EY iv=>by
      obtain⟨u1,u2,u3,u4⟩:=Bn g r (g.ρ r) (g.ln r) (g.tk r) (g.own r) g.S;have Na:∀i,L h i->L (AS h r (.mapU sh (EN BM vk x))) i:=fun i hi=>DC aa1 i hi;refine⟨u3.trans t1,b,_,_,u4.trans a1,u1.trans a2,EY,m1,fun i kv e q1 q2=>?_,a6⟩
      grind [O.mono])
     refine⟨_,_,_,?_,k4,i1,i2⟩;have hj' : es[j]?=some en:=aa0
     have Jp:=T5 (P:=P) w k3;simp[Instr.mapUpdate,run_underlying rO,FA,aw,r1,Pi,hj',hkey,Jp]
  simp_all
 simp_all
theorem Pv{d b:Nat}{ck:Nat}(hd:h d=.free)(hS:g.S b 0)(hb:w.heap[b]?=some (.map es ck))(hm:Hl sh es ck BM)(hv:∀(i:Nat) (kv:Value×AV) (e:MapEntry),BM[i]?=some kv->es[i]?=some e->O g w DS kv.2 e.val) :
  ∃g',CH w0 g0 h0 (AS h d (.iter BM BM none)) g' (w.alloc (.mapIter (some b) ck #[] ck))/\Le h g w (AS h d (.iter BM BM none)) g' (w.alloc (.mapIter (some b) ck #[] ck)) /\
   O g' (w.alloc (.mapIter (some b) ck #[] ck)) (L (AS h d (.iter BM BM none))) (.ref d 0) (.pointer (some ⟨w.heap.size,0,none⟩)):=by
 obtain⟨k1,k2⟩:=hI.newOwn hd (.iter BM BM none) (.mapIter (some b) ck #[] ck) (.pointer (some ⟨w.heap.size,0,none⟩)) 0 false w ⟨rfl,rfl,rfl,rfl⟩ aa1 (fun hg hk=>by
  obtain⟨u1,u2,u3,u4⟩:=Bn g d (.pointer (some ⟨w.heap.size,0,none⟩)) 0 false (some w.heap.size) g.S;obtain⟨c1,c2,c3⟩:=hk b 0 hS
  exact⟨u3,w.heap.size,b,ck,#[],ck,es,ck,u4,u1,G3 w _ rfl,c1,c3 es ck hb,⟨sh,hm⟩,rfl,rfl,fun i kv e q1 q2=>(hv i kv e q1 q2).mono hk (fun _ h=>h) (fun _ h=>h.elim),
   ⟨QM hm.2.2.2.1,fun _ h=>h⟩,fun i kv e q1 q2=>by simp[List.mem_of_getElem? q1],trivial,fun o ho=>by have:=hI.slt _ _ ho;omega⟩)
 refine⟨_,k1,k2,.ref _ d 0 w.heap.size (by unfold L;rw[A0];simp) ?_ ?_⟩<;>simp[D.upd]
theorem TR{r b:Nat}{ck:Nat}(e0:h r=.map sh BM)(a1:g.own r=some b)(a2:g.ρ r=.map (some b))(a3:w.heap[b]?=some (.map es ck))(a4:Hl sh es ck BM)(a5:∀(i:Nat) (kv:Value×AV) (e:MapEntry),BM[i]?=some kv->es[i]?=some e->O g w DS kv.2 e.val)(t1:g.tk r=false) :
  ∃g',CH w0 g0 h0 (AS h r (.rom sh BM)) g' w/\Le h g w (AS h r (.rom sh BM)) g' w/\g'.S b 0:=by
 have hl:(h r).live:=by rw[e0];trivial
 have CL:=(hI.loc r b hl a1).1
 obtain⟨k1,k2⟩:=hI.upd r (.rom sh BM) (g.ρ r) (g.ln r) (g.tk r) none (g.more b 1) w none ⟨rfl,rfl,rfl,Af _⟩ (fun _ _ _=>rfl) (fun b e=>by cases e) (fun _ _ h=>.inl h)
  (fun b' o hs=>hs.elim .inl (fun hs=>.inr ⟨by omega,.inr ⟨hl,by simp_all⟩⟩)) (fun b o e=>by cases e) (fun b hh _=>by cases hh) aa1
  (fun _=>⟨rfl,Af _,fun _=>rfl,fun _=>rfl⟩) (fun hg hk=>by
   obtain⟨u1,u2,u3,u4⟩:=Bn g r (g.ρ r) (g.ln r) (g.tk r) none (g.more b 1);exact⟨u3.trans t1,b,u1.trans a2,.cmap _ sh BM b es ck (.inr ⟨rfl,J0⟩) a3 a4 (fun i kv e q1 q2=>(a5 i kv e q1 q2).mono hk (fun _ h=>h) (fun _ h=>h.elim))⟩)
 exact⟨_,k1,k2,.inr ⟨rfl,J0⟩⟩
theorem aO{r b:Nat}{ck:Nat}(e0:h r=.mapU sh BM)(a1:g.own r=some b)(a2:g.ρ r=.map (some b))(a3:w.heap[b]?=some (.map es ck))(a4:Hl sh es ck BM)(a5:∀(i:Nat) (kv:Value×AV) (e:MapEntry),BM[i]?=some kv->es[i]?=some e->O g w (L h) kv.2 e.val)(t1:g.tk r=false) :
  ∃g',CH w0 g0 h0 (AS h r (.rom sh (Up h BM))) g' w/\Le h g w (AS h r (.rom sh (Up h BM))) g' w/\g'.S b 0:=by
 have hl:(h r).live:=by rw[e0];trivial
 have CL:=(hI.loc r b hl a1).1
 obtain⟨k1,k2⟩:=hI.upd r (.rom sh (Up h BM)) (g.ρ r) (g.ln r) (g.tk r) none (g.more b 1) w none ⟨rfl,rfl,rfl,Af _⟩ (fun _ _ _=>rfl) (fun b e=>by cases e) (fun _ _ h=>.inl h)
  (fun b' o hs=>hs.elim .inl (fun hs=>.inr ⟨by omega,.inr ⟨hl,by simp_all⟩⟩)) (fun b o e=>by cases e) (fun b hh _=>by cases hh) aa1
  (fun _=>⟨rfl,Af _,fun _=>rfl,fun _=>rfl⟩) (fun hg hk=>by
   obtain⟨u1,u2,u3,u4⟩:=Bn g r (g.ρ r) (g.ln r) (g.tk r) none (g.more b 1);refine⟨u3.trans t1,b,u1.trans a2,.cmap _ sh _ b es ck (.inr ⟨rfl,J0⟩) a3 (Yz _ a4) (fun i kv e q1 q2=>?_)⟩;unfold Up at q1;rw[BC]at q1;obtain⟨p,q3,rfl⟩:=BH.1 q1;exact((a5 i p e q3 q2).str hI.objs).mono hk (fun _ h=>h) (fun _ h=>h.elim))
 exact⟨_,k1,k2,.inr ⟨rfl,J0⟩⟩
theorem oY(hT:B8 P T){ty kt e:Nat}(ht:(T ty).d=.map kt e){d:Option Nat}{x:AV}(hx:O g w (L h) x vx)(hk:ja d h x K) :
  OS P w0 g0 h0 h g w (Instr.range ty vx) K:=by
 have hu:=hT.map ht;unfold ja at hk;split at hk
 .simp_all
 .rename_i d;split at hk
  .rename_i hd;have CV:∀b es ck,w.heap[b]?=some (.map es ck)->(Instr.range ty (.map (some b))).run P w=.ok (.pointer (some ⟨w.heap.size,0,none⟩)) (w.alloc (.mapIter (some b) ck #[] ck)):=fun b es ck hb=>by
    simp[Instr.range,run_underlying hu,run_getObj_map (P:=P) w b es ck hb]
   split at hk
   .cases hx with
    |cmap _ _ _ b es ck hS hb hm hv=>
     obtain⟨g',k1,k2,k3⟩:=Pv hI hd hS hb hm hv;exact⟨_,_,_,_,_,CV _ _ _ hb,hk,k1,k2,k3⟩
   .rename_i r;have ho:=hI.objs r;cases hx with
    |mref _ _ b rO ht' hp=>
     split at hk
     .rename_i sh BM e0;rw[e0]at ho;obtain⟨_,b',a1,a2⟩:=ho;rw[a1]at hp;cases hp;cases a2 with
      |cmap _ _ _ _ es ck hS hb hm hv=>
       obtain⟨g',k1,k2,k3⟩:=Pv hI hd hS hb hm hv;exact⟨_,_,_,_,_,CV _ _ _ hb,hk,k1,k2,k3⟩
     .rename_i sh BM e0;rw[e0]at ho;obtain⟨t1,b',es,ck,a1,a2,a3,a4,a5,a6⟩:=ho;rw[a2]at hp;cases hp;obtain⟨g1,i1,i2,i3⟩:=TR hI e0 a1 a2 a3 a4 a5 t1;have Ec:d≠r:=fun e=>by simp_all
      obtain⟨g',k1,k2,k3⟩:=Pv i1 (by rw[BS _ _ _ _ Ec];exact hd) i3 a3 a4 (fun i kv e q1 q2=>(a5 i kv e q1 q2).mono i2.keeps (fun _ h=>h) (fun _ h=>h.elim));exact⟨_,_,_,_,_,CV _ _ _ a3,hk,k1,i2.trans k2,k3⟩
     simp_all
   simp_all
  simp_all
theorem sF{ty:TypeId}{x:AV}(hx:O g w (L h) x vx)(hk:sE h x K):OS P w0 g0 h0 h g w (Instr.next vx false ty) K:=by
 unfold sE at hk;split at hk
 .rename_i r;split at hk
  .rename_i all rem DU e0;have ho:=hI.objs r;rw[e0]at ho;obtain⟨t1,b,mb,Ku,seen,st,es,ck,a1,a2,a3,a4,a5,⟨sh,a6⟩,a7,a8,a9,bY,jK,a12,a13⟩:=ho;have hl:(h r).live:=by rw[e0];trivial
   cases hx with
   |ref _ _ _ b' hu ht hp=>
    rw[a2]at hp;cases hp;have CL:∀e∈es.toList,e.born<Ku:=fun e he=>by
     obtain⟨i,hi⟩:=B4.1 he
     have:=a6.2.2.2.2.1 i e aa0
     omega
    rcases run_next_at (P:=P) w ty b mb Ku st seen es ck a3 a5 CL I with ⟨q1,q2⟩ | ⟨e,q1,w1,q2,q3⟩
    .have AkF:rem=[]:=by
      apply Mw.2;intro kv nG;obtain⟨i,hi⟩:=B4.1 (bY.2 kv nG);have rC:i<es.size:=by rw[a6.1];grind
      have hb:=(jK i kv es[i] hi aa0).1 nG;have hm:es[i]∈leftOf es seen:=by grind [leftOf]
      simp_all
     exact⟨_,w,g,_,h,q2,hk.1 AkF,hI,.refl _ _ _,.tup _ _ _ rfl (fun i av x h1 h2=>by
      grind [O.v])⟩
    .have hq:e∈es/\e.born∉seen:=by grind [leftOf]
     obtain⟨i,hi⟩:=Array.mem_iff_getElem?.1 hq.1;have rC:i<all.length:=by rw[<-a6.1];grind
     have hai:all[i]?=some all[i]:=AC rC;have nE:=(jK i _ e hai hi).2 hq.2;obtain⟨s1,s2,hs⟩:=List.append_of_mem nE;have Jd:rem.Perm (all[i]::(s1++s2)):=aa0
     have VN:(all[i]::(s1++s2)).Nodup:=Jd.nodup_iff.1 bY.1;have hr:=a9 i _ e hai hi;have hkey:=a6.2.1 i _ e hai hi;have VP:w1.heap=w.heap/\w1.os=w.os/\w1.tape=w.tape/\w1.output=w.output:=by rcases q2 with rfl | rfl<;>exact⟨rfl,rfl,rfl,rfl⟩
     obtain⟨k1,k2⟩:=CH.swap hI hl a1 a13 (.iter all (s1++s2) (some all[i])) a3 (.mapIter (some mb) Ku (seen.push e.born) ck) w1 VP aa1 (fun hg Hq EY iv=>by
      obtain⟨u1,u2,u3,u4⟩:=Bn g r (g.ρ r) (g.ln r) (g.tk r) (g.own r) g.S;obtain⟨c1,c2,c3⟩:=Hq mb 0 a4
      refine⟨u3.trans t1,b,mb,Ku,_,ck,es,ck,u4.trans a1,u1.trans a2,EY,c1,c3 _ _ a5,⟨sh,a6⟩,a7,rfl,fun i kv e p q=>(a9 i kv e p q).mono Hq (fun _ h=>h) (fun _ h=>h.elim),
       ⟨(Gm.1 VN).2,fun kv nG=>bY.2 kv (Jd.mem_iff.2 (Aj _ nG))⟩,fun j kv e' p q=>?_,⟨i,e,hai,hi,by simp⟩,a13⟩
      rw[Array.mem_push];have h1:=jK j kv e' p q;rw[Jd.mem_iff,AJ]at h1;constructor
      .intro nG hc;rcases hc with hc | hc
       .simp_all
       .obtain rfl:=a6.2.2.2.2.2 j i e' e q hi hc<;>simp_all
      .intro hc;rcases h1.2 (fun hm=>hc (.inl hm))with e2 | e2
       .have:j=i:=YC (f:=fun x=>x) (l:=all) (by simpa using QM a6.2.2.2.1) p hai e2
        simp_all
       omega)
     refine⟨_,_,_,_,_,q3,hk.2 all[i] (s1++s2) Jd,k1,k2,.tup _ _ _ rfl (fun j av x h1 h2=>?_)⟩
     match j,h1,h2 with
     |0,h1,h2=>grind [O.v]
     |1,h1,h2=>grind [O.v]
     |2,h1,h2=>simp at h1 h2;grind [O.le,O.up]
  simp_all
 simp_all
end
end Go.Eng
namespace Go.Eng
variable {x:Operand}{F:(AV->Prop)->Prop}{a:AV}{p:Operand}{α:Type}(cx:Cx)(T:GL)(o:Oper)(st:St)(op:BinOp)(s:Nat)(R:List Nat)(k:IntKind)(f:Nat)(w:Option Nat)(K:HK)
def F5(F:(AV->Prop)->Prop):Prop:=∀K,F K->∃v,K v/\∀K',K' v->F K'
theorem CI(v:AV):F5 (fun K=>K v):=fun _ h=>⟨v,h,fun _ h=>h⟩
theorem Ds{p:Prop}(h:F5 F):F5 (fun K=>p/\F K):=fun K ⟨hp,hk⟩=>
 let ⟨v,h1,h2⟩:=h K hk
 ⟨v,h1,fun K' h'=>⟨hp,h2 K' h'⟩⟩
theorem Ce:F5 (fun _=>False):=fun _ h=>h.elim
theorem Y0(p:Prop):F5 (Ja p):=fun K h=>by
 by_cases hp:p
 .exact⟨_,h.1 hp,fun K' h'=>⟨fun _=>h',fun hn=>absurd hp hn⟩⟩
 .exact⟨_,h.2 hp,fun K' h'=>⟨fun q=>absurd q hp,fun _=>h'⟩⟩
theorem fo(h:F5 F):F5 (fun K=>F (oz K)):=fun K hk=>by
 obtain⟨v,h1,h2⟩:=h _ hk;unfold oz at h1;split at h1
 .exact⟨_,h1,fun K' h'=>h2 _ h'⟩
 .exact⟨_,h1,fun K' h'=>h2 _ h'⟩
 simp_all
theorem QU{F:α->(AV->Prop)->Prop}(h:∀x,F5 (F x)):F5 (fun K=>∃x,F x K):=fun K ⟨x,hk⟩=>
 let ⟨v,h1,h2⟩:=h x K hk
 ⟨v,h1,fun K' h'=>⟨x,h2 K' h'⟩⟩
theorem Lq(t:Nat)(cs:List AV):F5 (Ni T t cs):=by
 have head:F5 (Mo cs):=by unfold Mo;cases cs with | nil=>exact Ce | cons a _=>exact CI a
 unfold Ni;split
 .exact Ds (CI _)
 .exact Ds (CI _)
 .cases cs with
  |nil=>exact Ce
  |cons a _=>
   intro K h;simp only[Mo]at h⊢;split at h
   .rename_i b;cases b<;>grind
   simp_all
 all_goals grind [Ce]
theorem lB(t:Nat)(x y:AV)(hx:∀tk es,x≠.slice tk es):F5 (eqK T t x y):=by
 unfold eqK
 repeat' split
 all_goals first | exact Ce | exact CI _ | exact Y0 _ | simp_all | simp_all
theorem Wr(a b:Int):F5 (WN op k a b):=by
 unfold WN;split<;>first | exact Ce | exact Ds (CI _)
theorem iV(a b:Int):F5 (U0 op k a b):=by
 unfold U0
 repeat' split
 all_goals first | exact Ce | exact Ds (CI _) | (unfold ZM;split<;>first | exact CI _ | exact Ds (CI _) | grind [Wr])
theorem tu(t:Nat)(x y:AV)(hx:∀tk es,x≠.slice tk es):F5 (U3 T op t x y):=by
 unfold U3
 repeat' split
 all_goals first | exact Ce | exact Y0 _ | exact iV _ _ _ _ | exact Wr _ _ _ _ | exact Ds (CI _) | exact lB _ _ _ _ hx | exact fo (lB _ _ _ _ hx)
theorem oT(t:Nat)(Y:Operand)(x y:AV)(hx:∀tk es,x≠.slice tk es):F5 (co T op t Y x y):=by
 unfold co
 repeat' split
 all_goals first | exact Ce | exact CI _ | grind [tu]
theorem oU(t:Nat)(x:AV):F5 (X7 T s t x):=by
 unfold X7
 repeat' split
 all_goals first | exact Ce | exact CI _ | exact Ds (CI _) | exact QU fun _=>Ds (CI _)
theorem iX(x:AV):F5 (Vq T s f x):=by
 unfold Vq
 repeat' split
 all_goals first | exact Ce | exact CI _
theorem fj(x:AV):F5 (Qo T s f x):=by
 unfold Qo
 repeat' split
 all_goals first | exact Ce | exact Lq _ _ _
theorem Wq(t:Nat)(x ix:AV):F5 (JL T t x ix):=by
 unfold JL
 repeat' split
 all_goals first | exact Ce | exact Ds (CI _) | exact QU fun _=>Ds (Ds (CI _))
theorem iY(t:Nat)(x ix:AV):F5 (VT T t x ix):=by
 unfold VT
 repeat' split
 all_goals first | exact Ce | exact Ds (Lq _ _ _) | exact QU fun _=>Ds (CI _)
theorem bc(x:AV)(i:Nat):F5 (M2 x i):=by
 unfold M2
 repeat' split
 all_goals first | exact Ce | exact CI _
theorem tw(x:AV):F5 (Lc x):=by
 unfold Lc
 repeat' split
 all_goals first | exact Ce | exact CI _
theorem oV(c a b:AV):F5 (fg c a b):=by
 unfold fg
 repeat' split
 all_goals first | exact Ce | exact CI _
theorem xU(f:Int->Int->Int)(x y:AV):F5 (xA f x y):=by
 unfold xA
 repeat' split
 all_goals first | exact Ce | exact CI _
theorem oW(op:UnOp)(x:AV):F5 (fQ op x):=by
 unfold fQ
 repeat' split
 all_goals first | exact Ce | exact CI _ | exact fo (CI _) | exact Ds (CI _)
def zn(F:(α->Prop)->Prop):Prop:=∀K,F K->∃v,K v/\∀K',K' v->F K'
theorem fh(n:Nat)(a:AV):zn (Hf n a):=by
 intro K h;unfold Hf at h⊢
 grind
theorem Wo(pl:Nat->Option (Nat×Nat))(t:Nat->AV):∀(ps:List (Nat×Operand)) (cs:List AV),zn (KW pl cs t ps)
 | [],cs=>fun K h=>⟨cs,h,fun _ h=>h⟩
 |(i,x)::r,cs=>by
  intro K h;unfold KW at h;split at h
  .simp_all
  .rename_i o n e;obtain⟨vs,h1,h2⟩:=fh _ _ _ h;split at h1
   .rename_i hb;obtain⟨c,h3,h4⟩:=Wo pl t r _ _ h1<;>grind [KW]
   simp_all
theorem iW(ty:Nat)(t:Nat->AV)(ps:List (Nat×Operand)):F5 (RE T ty t ps):=by
 unfold RE
 repeat' split
 all_goals first
  |exact Ce
  |exact fun K h=>let ⟨c,h1,h2⟩:=Wo _ _ _ _ _ h;⟨_,h1,fun K' h'=>h2 _ h'⟩
def eff(h:Nat->HO)(e:Option (Nat×HO)):Nat->HO:=match e with | none=>h | some (r,o)=>AS h r o
structure Alike(o:Oper)(R:List Nat)(st st2:St):Prop where
 t:∀x∈o.op.operands,ev st2.t x=ev st.t x
 h:∀r∈R,st2.h r=st.h r
def CO:Prop:=
 ∃v e,K v (eff st.h e)/\(∀r o',e=some (r,o')->w=some r/\r∈R)/\∀st2,Alike o R st st2->∀K' : HK,K' v (eff st2.h e)->FU cx true o st2 K'
def UR(r:Nat):Prop:=match w with | none=>False | some x=>x=r\/(10000000<=x/\(x % 10000000=r\/x / 10000000=r))\/x=ZL
def Iq(h:Nat->HO):List (Nat×HO)->Nat->HO
 | []=>h
 |p::l=>Iq (AS h p.1 p.2) l
def Us:Prop:=
 ∃v e,K v (Iq st.h e)/\(∀r o',(r,o')∈e->UR w r/\r∈R)/\∀st2,Alike o R st st2->∀K' : HK,K' v (Iq st2.h e)->FU cx true o st2 K'
section
variable {cx:Cx}{o:Oper}{st:St}{R:List Nat}{w:Option Nat}{K:HK}
theorem CO.pick(hF:F5 F)(h:F fun v=>K v st.h)(h2:∀st2,Alike o R st st2->∀K' : HK,F (fun v=>K' v st2.h)->FU cx true o st2 K'):CO cx o st R w K:=
 let ⟨v,h1,h3⟩:=hF _ h
 ⟨v,none,h1,fun _ _ e=>(by cases e),fun st2 ha K' hk=>h2 st2 ha K' (h3 _ hk)⟩
theorem dX{cs:List AV}(h:a∈cs):∀r∈dC a,r∈xl cs:=by
 induction cs with
 |nil=>cases h
 |cons c cs ih=>
  intro r hr;rcases AJ.1 h with rfl | h
  .exact Bq _ hr
  .exact BZ _ (ih h r hr)
theorem sr{cs:List AV}(h:a∈cs):∀r∈aA a,r∈AbP cs:=by
 induction cs with
 |nil=>cases h
 |cons c cs ih=>
  intro r hr;rcases AJ.1 h with rfl | h
  .exact Bq _ hr
  .exact BZ _ (ih h r hr)
theorem dW{cs:List AV}(h:a∈cs):∀r∈dB a,r∈VQ cs:=by
 induction cs with
 |nil=>cases h
 |cons c cs ih=>
  intro r hr;rcases AJ.1 h with rfl | h
  .exact Bq _ hr
  .exact BZ _ (ih h r hr)
theorem Ym(a:AV):∀r∈dC a,r∈aA a:=by cases a<;>simp[dC,aA]
theorem SO{h h2:Nat->HO}(e:∀r∈dC a,h2 r=h r):str0 h2 a=str0 h a:=by
 cases a<;>simp only[str0]
 all_goals grind [dC]
theorem Zu{h h2:Nat->HO}(e:∀r∈aA a,h2 r=h r):str h2 a=str h a:=by
 cases a with
 |agg cs=>simp only[str];exact Aa _ (Ca fun c hc=>SO fun r hr=>e r (dX hc r hr))
 |clo f cs=>simp only[str];exact Aa _ (Ca fun c hc=>SO fun r hr=>e r (dX hc r hr))
 |_=>exact SO (fun r hr=>e r (Ym _ r hr))
theorem rS(a:AV):∀r∈aA a,r∈dB a:=by
 cases a with
 |agg cs=>
  intro r hr;simp only[dB,aA]at *
  induction cs with
  |nil=>exact hr
  |cons c cs ih=>
   rcases Bh.1 hr with h | h
   .exact Bq _ (Ym c r h)
   .exact BZ _ (ih h)
 |_=>exact fun r hr=>hr
theorem Lv{h h2:Nat->HO}(e:∀r∈dB a,h2 r=h r):str h2 a=str h a:=Zu fun r hr=>e r (rS a r hr)
theorem SP{h h2:Nat->HO}{l:List AV}(e:∀r∈VQ l,h2 r=h r):l.map (str h2)=l.map (str h):=
 Ca fun _ ha=>Lv fun r hr=>e r (dW ha r hr)
theorem tX{h h2:Nat->HO}(e:∀r∈dB a,h2 r=h r):rsv h2 a=rsv h a:=by
 cases a<;>simp only[rsv]
 all_goals grind [dB,aA,dC]
theorem OY{n:Nat}{K:List AV->Prop}(hk:Hf n a K):∃cs,K cs/\(∀K' : List AV->Prop,K' cs->Hf n a K')/\∀h h2:Nat->HO,(∀r∈dB a,h2 r=h r)->cs.map (str h2)=cs.map (str h):=by
 have single:K [a]->(∀K' : List AV->Prop,K' [a]->Hf n a K')->∃cs,K cs/\(∀K' : List AV->Prop,K' cs->Hf n a K')/\∀h h2:Nat->HO,(∀r∈dB a,h2 r=h r)->cs.map (str h2)=cs.map (str h):=
  fun h1 h2=>⟨[a],h1,h2,fun h h2 e=>by simp[Lv e]⟩
 unfold Hf at hk;split at hk
 .rename_i cs;split at hk
  .rename_i hn;refine⟨cs,hk,fun K' h=>by grind [Hf],fun h h2 e=>Ca fun c hc=>Zu fun r hr=>e r (sr hc r hr)⟩
  simp_all
 .rename_i hna;split at hk
  .rename_i h1;split at hk
   .refine single hk fun K' h=>?_
    grind [Hf]
   simp_all
  simp_all
theorem Vr{n sz:Nat}{t:Nat->AV}:∀{ps:List (Nat×Operand)} {es:C0} {h:Nat->HO} {K:C0->Prop},TA n sz h es t ps K ->
  ∃FG,K FG/\∀(t2:Nat->AV) (h2:Nat->HO),(∀r∈VQ (ps.map fun p=>ev t p.2),h2 r=h r)->(∀p∈ps,ev t2 p.2=ev t p.2)->∀K' : C0->Prop,K' FG->TA n sz h2 es t2 ps K'
 | [],es,h,K,hk=>⟨es,hk,fun _ _ _ _ _ h=>h⟩
 |(i,x)::r,es,h,K,hk=>by
  unfold TA at hk;split at hk
  .rename_i hb;obtain⟨cs,c1,c2,c3⟩:=OY hk;obtain⟨FG,e1,e2⟩:=Vr c1;refine⟨FG,e1,fun t2 h2 hh ht K' hk'=>?_⟩;unfold TA;rw[hb,ht (i,x) (Ad ..)];refine c2 _ ?_;rw[c3 h h2 (fun r hr=>hh r (Bq _ hr))];exact e2 t2 h2 (fun r hr=>hh r (BZ _ hr)) (fun p hp=>ht p (Aj _ hp)) K' hk'
  simp_all
theorem IC{d:Option Nat}{h:Nat->HO}{sz:Nat}{es:C0}(hk:EO cx d h sz es K) :
  ∃d',d.map (KA cx)=some d'/\∃v x,K v (AS h d' x)/\∀h2:Nat->HO,h2 d'=h d'->∀K' : HK,K' v (AS h2 d' x)->EO cx d h2 sz es K':=by
 unfold EO at hk;split at hk
 all_goals grind [EO]
theorem gZ{h:Nat->HO}{x:AV}{K:C0->Prop}(hk:LK h x K):∃es,K es/\∀h2:Nat->HO,(∀r n,x=.msl r n->h2 r=h r)->∀K' : C0->Prop,K' es->LK h2 x K':=by
 unfold LK at hk
 grind [LK]
end
section
variable {cx:Cx}{dst:Option Nat}{ty:Nat}{pos:String}{after:Array Edge}{gd:Option (Nat×Bool)}{st:St}{R:List Nat}{w:Option Nat}{K:HK}
theorem IL{d:Option Nat}{l:List Nat}{f:Ft}(h:IK d l=some f):∃d',d=some d'/\f=(d' :: l,some d'):=by
 unfold IK at h
 grind
theorem c8{e:Nat}(hk:FU cx true ⟨dst,.alloc e,ty,pos,after,gd⟩ st K)(hf:E4 cx ⟨dst,.alloc e,ty,pos,after,gd⟩ st=some (R,w)):CO cx ⟨dst,.alloc e,ty,pos,after,gd⟩ st R w K:=by
 simp only[FU]at hk;simp only[E4]at hf;obtain⟨d,rfl,e0⟩:=IL hf;cases e0;unfold UY at hk;simp only at hk;split at hk
 .rename_i hd;split at hk
  .simp_all
  .rename_i Ec;split at hk
   .rename_i ha;refine⟨_,some (d,_),hk,fun r o' e=>aa0,fun st2 HF K' h'=>?_⟩;simp only[FU,UY];rw[HF.h d (Ad ..),hd];simp only[ha];exact h'
   simp_all
 simp_all
theorem np{e:Nat}(hk:FU cx true ⟨dst,.box e x,ty,pos,after,gd⟩ st K)(hf:E4 cx ⟨dst,.box e x,ty,pos,after,gd⟩ st=some (R,w)):CO cx ⟨dst,.box e x,ty,pos,after,gd⟩ st R w K:=by
 simp only[FU]at hk;obtain⟨d,rfl,e0⟩:=IL hf;cases e0;unfold mT at hk;simp only at hk;split at hk
 .rename_i hd;split at hk
  .simp_all
  .rename_i Ec;obtain⟨cs,c1,c2,c3⟩:=OY hk;split at c1
   .rename_i hm;refine⟨_,some (d,_),c1,fun r o' e=>aa0,fun st2 HF K' h'=>?_⟩;have hx:ev st2.t x=ev st.t x:=HF.t x (by simp[Op.operands]);simp only[FU,mT];rw[HF.h d (Ad ..),hd,hx];simp only[hm];refine c2 _ ?_;rw[c3 st.h st2.h (fun r hr=>HF.h r (Aj _ hr))];exact h'
   .rename_i hm;refine⟨_,some (d,_),c1,fun r o' e=>aa0,fun st2 HF K' h'=>?_⟩;have hx:ev st2.t x=ev st.t x:=HF.t x (by simp[Op.operands]);simp only[FU,mT];rw[HF.h d (Ad ..),hd,hx];simp only[hm];exact c2 _ h'
 simp_all
theorem RR{t n:Nat}{ps:Array (Nat×Operand)}(hk:FU cx true ⟨dst,.buildSlice t n ps,ty,pos,after,gd⟩ st K)(hf:E4 cx ⟨dst,.buildSlice t n ps,ty,pos,after,gd⟩ st=some (R,w)) :
  CO cx ⟨dst,.buildSlice t n ps,ty,pos,after,gd⟩ st R w K:=by
 simp only[FU]at hk;obtain⟨d,nC,e0⟩:=IL hf;cases e0;unfold II at hk;split at hk
 .rename_i e he;split at hk
  .rename_i h1 h2;split at hk
   .simp_all
   .rename_i k EC;split at hk
    .rename_i hb;obtain⟨es,q1,q2⟩:=Vr hk;obtain⟨d',hd,v,x,q3,q4⟩:=IC q1;have hd:dst.map (KA cx)=some d':=hd;have nC:dst.map (KA cx)=some d:=nC;rw[nC]at hd;cases hd;refine⟨v,some (d,x),q3,fun r o' e=>aa0,fun st2 HF K' h'=>?_⟩;have hx:∀p∈ps.toList,ev st2.t p.2=ev st.t p.2:=fun p hp=>HF.t p.2 (by
      grind [Op.operands])
     simp only[FU,II,he,h1,h2];split
     .omega
     .rw[hb];exact q2 st2.t st2.h (fun r hr=>HF.h r (Aj _ hr)) hx _ (q4 st2.h (HF.h d (Ad ..)) K' h')
    simp_all
  simp_all
 simp_all
theorem Ue{t:Nat}{n c:Operand}(hk:FU cx true ⟨dst,.makeSlice t n c,ty,pos,after,gd⟩ st K)(hf:E4 cx ⟨dst,.makeSlice t n c,ty,pos,after,gd⟩ st=some (R,w)) :
  CO cx ⟨dst,.makeSlice t n c,ty,pos,after,gd⟩ st R w K:=by
 simp only[FU]at hk;obtain⟨d,nC,e0⟩:=IL hf;cases e0;have hn:∀st2,Alike ⟨dst,.makeSlice t n c,ty,pos,after,gd⟩ (d::[]) st st2->ev st2.t n=ev st.t n/\ev st2.t c=ev st.t c:=fun st2 ha=>⟨ha.t n (by simp[Op.operands]),ha.t c (by simp[Op.operands])⟩;unfold JO at hk;split at hk
 .rename_i e a b h1 h2 h3;split at hk
  .rename_i h4;split at hk
   .rename_i h5;split at hk
    .simp_all
    .rename_i k EC;obtain⟨d',hd,v,x,q3,q4⟩:=IC hk.2;have hd:dst.map (KA cx)=some d':=hd;have nC:dst.map (KA cx)=some d:=nC;rw[nC]at hd;cases hd;refine⟨v,some (d,x),q3,fun r o' e=>aa0,fun st2 HF K' h'=>?_⟩;simp only[FU,JO,(hn st2 HF).1,(hn st2 HF).2,h1,h2,h3,h4,h5];split
     .omega
     .exact⟨hk.1,q4 st2.h (HF.h d (Ad ..)) K' h'⟩
   simp_all
  simp_all
 simp_all
theorem Xt{t:Nat}{r:Option Operand}(hk:FU cx true ⟨dst,.makeMap t r,ty,pos,after,gd⟩ st K)(hf:E4 cx ⟨dst,.makeMap t r,ty,pos,after,gd⟩ st=some (R,w)) :
  CO cx ⟨dst,.makeMap t r,ty,pos,after,gd⟩ st R w K:=by
 cases r with
 |some r=>exact hk.elim
 |none=>
  simp only[FU]at hk;obtain⟨d,rfl,e0⟩:=IL hf;cases e0;unfold La at hk;simp only at hk;split at hk
  .rename_i hd;split at hk
   .rename_i h1;split at hk
    .rename_i h2;split at hk
     .rename_i h3;refine⟨_,some (d,_),hk,fun r o' e=>aa0,fun st2 HF K' h'=>?_⟩;simp only[FU,La];rw[HF.h d (Ad ..),hd];simp only[h1,h2,h3];exact h'
     .rename_i h3;refine⟨_,some (d,_),hk,fun r o' e=>aa0,fun st2 HF K' h'=>?_⟩;simp only[FU,La];rw[HF.h d (Ad ..),hd];simp only[h1,h2,h3];exact h'
    simp_all
   simp_all
  simp_all
theorem c9{t:Nat}(hk:FU cx true ⟨dst,.store t p x,ty,pos,after,gd⟩ st K)(hf:E4 cx ⟨dst,.store t p x,ty,pos,after,gd⟩ st=some (R,w)) :
  CO cx ⟨dst,.store t p x,ty,pos,after,gd⟩ st R w K:=by
 simp only[FU]at hk;have hn:∀st2,Alike ⟨dst,.store t p x,ty,pos,after,gd⟩ R st st2->ev st2.t p=ev st.t p/\ev st2.t x=ev st.t x:=fun st2 ha=>⟨ha.t p (by simp[Op.operands]),ha.t x (by simp[Op.operands])⟩;unfold SN at hk;split at hk
 .simp_all
 .rename_i Ec;obtain⟨cs,c1,c2,c3⟩:=OY hk;simp only[E4]at hf;split at hf
  .rename_i r off hp;split at hf
   .cases hf
   .rename_i hm;cases hf;rw[hp]at c1;simp only at c1;split at c1
    .rename_i DU hr;obtain⟨Jo,hk'⟩:=c1;rw[hm]at hk';refine⟨_,some (r,_),hk',fun r o' e=>aa0,fun st2 HF K' h'=>?_⟩;simp only[FU,SN,(hn st2 HF).1,(hn st2 HF).2];refine c2 _ ?_;rw[hp];simp only[HF.h r (Ad ..),hr,hm];exact⟨Jo,h'⟩
    simp_all
  .rename_i r n sz i off hp;cases hf;rw[hp]at c1;simp only at c1;split at c1
   .rename_i HG es hr;split at c1
    .rename_i hs;obtain⟨Jo,cell,e1,e2,hk'⟩:=c1;refine⟨_,some (r,_),hk',fun r o' e=>aa0,fun st2 HF K' h'=>?_⟩;simp only[FU,SN,(hn st2 HF).1,(hn st2 HF).2];refine c2 _ ?_;rw[hp];simp only[HF.h r (Ad ..),hr,hs];refine⟨Jo,cell,e1,e2,?_⟩;rw[c3 st.h st2.h (fun r hr=>HF.h r (Aj _ hr))];exact h'
    simp_all
   simp_all
  simp_all
theorem Uf{t:Nat}{m k:Operand}(hk:FU cx true ⟨dst,.mapUpdate t m k x,ty,pos,after,gd⟩ st K)(hf:E4 cx ⟨dst,.mapUpdate t m k x,ty,pos,after,gd⟩ st=some (R,w)) :
  CO cx ⟨dst,.mapUpdate t m k x,ty,pos,after,gd⟩ st R w K:=by
 simp only[FU]at hk;have hn:∀st2,Alike ⟨dst,.mapUpdate t m k x,ty,pos,after,gd⟩ R st st2->ev st2.t m=ev st.t m/\ev st2.t k=ev st.t k/\ev st2.t x=ev st.t x:=fun st2 ha=>⟨ha.t m (by simp[Op.operands]),ha.t k (by simp[Op.operands]),ha.t x (by simp[Op.operands])⟩;simp only[E4]at hf;split at hf
 .rename_i r hm;cases hf;unfold Hi at hk;rw[hm]at hk;simp only at hk;split at hk
  .rename_i sh BM hr;unfold KB at hk;split at hk
   .rename_i kt e h1;split at hk
    .rename_i sh' h2;split at hk
     .rename_i h3;split at hk
      .rename_i kx h4;split at hk
       .rename_i h5;refine⟨_,some (r,_),hk,fun r o' e=>aa0,fun st2 HF K' h'=>?_⟩;obtain⟨n1,n2,n3⟩:=hn st2 HF;simp only[FU,Hi,n1,n2,n3,hm,HF.h r (Ad ..),hr,KB,h1,h2,h3,h4,h5];rw[Lv (h:=st.h) (h2:=st2.h) (fun r hr=>HF.h r (Aj _ hr))];exact h'
       simp_all
      simp_all
     simp_all
    simp_all
   simp_all
  .rename_i sh BM hr;unfold KB at hk;split at hk
   .rename_i kt e h1;split at hk
    .rename_i sh' h2;split at hk
     .rename_i h3;split at hk
      .rename_i kx h4;split at hk
       .rename_i h5;refine⟨_,some (r,_),hk,fun r o' e=>aa0,fun st2 HF K' h'=>?_⟩;obtain⟨n1,n2,n3⟩:=hn st2 HF;simp only[FU,Hi,n1,n2,n3,hm,HF.h r (Ad ..),hr,KB,h1,h2,h3,h4,h5];exact h'
       simp_all
      simp_all
     simp_all
    simp_all
   simp_all
  simp_all
 simp_all
theorem lC{A B:(AV->Prop)->Prop}(ha:F5 A)(hb:F5 B):F5 fun K=>A K\/B K:=by
 intro K hk;rcases hk with hk | hk
 .obtain⟨v,h1,h2⟩:=ha K hk<;>grind
 .obtain⟨v,h1,h2⟩:=hb K hk<;>grind
theorem VB{fn:Fn}{first cap:Array Operand}(hk:FU cx true ⟨dst,.makeFunc fn first cap,ty,pos,after,gd⟩ st K)(hf:E4 cx ⟨dst,.makeFunc fn first cap,ty,pos,after,gd⟩ st=some (R,w)) :
  CO cx ⟨dst,.makeFunc fn first cap,ty,pos,after,gd⟩ st R w K:=by
 simp only[FU]at hk;simp only[E4]at hf;cases hf;unfold K9 at hk;split at hk
 .rename_i f h1;refine⟨_,none,hk,fun r o' e=>(by cases e),fun st2 HF K' h'=>?_⟩;simp only[FU,h1,K9]
  have:cap.toList.map (fun x=>rsv st2.h (ev st2.t x))=cap.toList.map (fun x=>rsv st.h (ev st.t x)):=Ca fun x hx=>by
   rw[HF.t x (by grind [Op.operands])];exact tX fun r hr=>HF.h r (dW (Ap.2 ⟨x,hx,rfl⟩) r hr)
  rw[this];exact h'
 simp_all
end
section
variable {cx:Cx}{dst:Option Nat}{ty:Nat}{pos:String}{after:Array Edge}{gd:Option (Nat×Bool)}{st:St}{R:List Nat}{w:Option Nat}{K:HK}
theorem ie{t:Nat}(hk:FU cx true ⟨dst,.load t p,ty,pos,after,gd⟩ st K)(hf:E4 cx ⟨dst,.load t p,ty,pos,after,gd⟩ st=some (R,w)):CO cx ⟨dst,.load t p,ty,pos,after,gd⟩ st R w K:=by
 simp only[FU]at hk;have hn:∀st2,Alike ⟨dst,.load t p,ty,pos,after,gd⟩ R st st2->ev st2.t p=ev st.t p:=fun st2 ha=>ha.t p (by simp[Op.operands]);simp only[E4]at hf;unfold JN at hk;split at hf
 .grind [Lq,FU,JN,CO.pick]
 .grind [Lq,FU,JN,List.mem_cons_self,CO.pick,Alike.h]
 .rename_i r n sz i off hp;cases hf;rw[hp]at hk;simp only at hk;split at hk
  all_goals grind [Lq,FU,JN,CO.pick,Alike.h]
 simp_all
theorem af(hk:FU cx true ⟨dst,.assign x,ty,pos,after,gd⟩ st K)(hf:E4 cx ⟨dst,.assign x,ty,pos,after,gd⟩ st=some (R,w)):CO cx ⟨dst,.assign x,ty,pos,after,gd⟩ st R w K:=by
 simp only[FU]at hk;have hn:∀st2,Alike ⟨dst,.assign x,ty,pos,after,gd⟩ R st st2->ev st2.t x=ev st.t x:=fun st2 ha=>ha.t x (by simp[Op.operands]);simp only[E4]at hf;split at hf
 .cases hf
 .rename_i hx;cases hf;have same:∃y,∀(h:Nat->HO) (K:HK),PX cx dst h (ev st.t x) K↔K y h:=by
   unfold PX;cases dst with
   |none=>exact⟨_,fun _ _=>Iff.rfl⟩
   |some d=>
    simp only;cases F7 cx.pl.tok d with
    |some sz=>
     simp only;cases Nat.beq sz 0 with
     |true=>exact⟨_,fun _ _=>Iff.rfl⟩
     |false=>
      refine⟨ev st.t x,fun h K=>?_⟩;simp_all
    |none=>
     simp only;cases F7 cx.pl.arr d with
     |some sz=>
      refine⟨ev st.t x,fun h K=>?_⟩;simp_all
     |none=>exact⟨_,fun _ _=>Iff.rfl⟩
  obtain⟨y,same⟩:=same;exact .pick (CI y) ((same _ _).1 hk) fun st2 ha K' h=>by grind [FU]
theorem TH{t:Nat}{lo hi mx:Option Operand}(hp:U2 cx.pl.tok dst=none)(hk:FU cx true ⟨dst,.slice t x lo hi mx,ty,pos,after,gd⟩ st K)(hf:E4 cx ⟨dst,.slice t x lo hi mx,ty,pos,after,gd⟩ st=some (R,w)) :
  CO cx ⟨dst,.slice t x lo hi mx,ty,pos,after,gd⟩ st R w K:=by
 simp only[FU,hp]at hk;have hn:∀st2,Alike ⟨dst,.slice t x lo hi mx,ty,pos,after,gd⟩ R st st2->ev st2.t x=ev st.t x/\CE st2.t lo=CE st.t lo/\CE st2.t hi=CE st.t hi/\CE st2.t mx=CE st.t mx:=by
  grind [Option,CE,Op.operands,Alike.t]
 simp only[E4,hp]at hf;split at hf
 .cases hf
 .rename_i hx;cases hf;have e3:CE st.t none=some none:=rfl
  have QB:F5 (fun K1=>Ix cx dst st.h t (ev st.t x) (CE st.t lo) (CE st.t hi) (some none) fun v _=>K1 v) /\
    ∀(h:Nat->HO) (K:HK),Ix cx dst h t (ev st.t x) (CE st.t lo) (CE st.t hi) (some none) K↔Ix cx dst st.h t (ev st.t x) (CE st.t lo) (CE st.t hi) (some none) (fun v _=>K v h):=by
   generalize ev st.t x=X at hx;unfold Ix;constructor
   .repeat' split
    all_goals first | exact Ce | exact Ds (CI _) | exact Ds (Ds (CI _)) | skip
    all_goals first | (rename_i e;cases e;done) | skip
    all_goals (exfalso;exact hx _ _ rfl)
   .intro h K
    repeat' split
    all_goals simp_all
    all_goals simp_all
  grind [FU,CO.pick]
 .rename_i y tk es hx;obtain⟨d,rfl,e0⟩:=IL hf;cases e0;rw[hx]at hk;unfold Ix at hk;split at hk
  .rename_i Ik Oi z7 e1 e2 e3;split at hk
   .simp_all
   .rename_i e he;split at hk
    .simp_all
    .rename_i k EC;simp only at hk;split at hk
     .grind [CE]
     .rename_i m;split at hk
      .rename some d=some _=>e5
       cases e5
       split at hk
       .rename_i Abq;refine⟨_,none,hk.2.2,fun r o' e=>(by cases e),fun st2 HF K' h'=>?_⟩;obtain⟨n1,n2,n3,n4⟩:=hn st2 HF;simp only[FU,hp];rw[n1,n2,n3,n4,hx,e1,e2,e3];unfold Ix;simp only[he];split
        .omega
        .simp only[Abq];exact⟨hk.1,hk.2.1,h'⟩
       rename_i Abq;split at hk
       .rename_i hd;refine⟨_,some (d,_),hk.2.2,fun r o' e=>aa0,fun st2 HF K' h'=>?_⟩;obtain⟨n1,n2,n3,n4⟩:=hn st2 HF;simp only[FU,hp];rw[n1,n2,n3,n4,hx,e1,e2,e3];unfold Ix;simp only[he];split
        .omega
        .simp only[Abq];rw[HF.h d (Ad ..),hd];exact⟨hk.1,hk.2.1,h'⟩
       simp_all
      simp_all
   simp_all
  simp_all
 simp_all
theorem nv{t:Nat}{lo hi mx:Option Operand}{p:Nat}(hp:U2 cx.pl.tok dst=some p)(hk:FU cx true ⟨dst,.slice t x lo hi mx,ty,pos,after,gd⟩ st K)(hf:E4 cx ⟨dst,.slice t x lo hi mx,ty,pos,after,gd⟩ st=some (R,w)) :
  Us cx ⟨dst,.slice t x lo hi mx,ty,pos,after,gd⟩ st R w K:=by
 simp only[FU,hp]at hk;simp only[E4,hp]at hf;obtain⟨d',r,n,hd,hx,e0⟩:=ib hf;cases e0;cases dst with
 |none=>cases hd
 |some d=>
 cases hd
 unfold Ws at hk;split at hk
 .rw[hx]at hk;unfold tA at hk;split at hk
  .rename_i d0 Oi e1 e2;cases e1;split at hk
   .rename_i e he;split at hk
    .simp_all
    .rename_i k EC;simp only at hk;split at hk
     .rename_i sz es hr;split at hk
      .rename_i hd;split at hk
       .rename_i q1 q3;obtain⟨h1,hk⟩:=hk;have hr8:r<10000000/\0<KA cx d:=aa0
        obtain⟨hr7,hz⟩:=hr8;refine⟨_,[(r,.dead),(KA cx d,_)],hk,fun r' o' e=>?_,fun st2 ha K' h'=>?_⟩
        .rcases AJ.1 e with e | e
         .cases e
          refine⟨.inr (.inl ⟨by omega,.inl ?_⟩),Ad ..⟩;omega
         .obtain e:=AA.1 e;cases e;refine⟨.inr (.inl ⟨by omega,.inr ?_⟩),Aj _ (Ad ..)⟩;omega
        .have o1:CE st2.t hi=CE st.t hi:=by
          cases hi<;>grind [CE,Op.operands,Alike.t]
         simp only[FU,hp];unfold Ws;rw[ha.t x (by simp[Op.operands]),o1,hx,e2];unfold tA;simp only[he];split
         .omega
         .simp only[ha.h r (Ad ..),hr,ha.h (KA cx d) (Aj _ (Ad ..)),hd,q1,q3];exact⟨h1,h'⟩
       simp_all
      simp_all
     simp_all
   simp_all
  simp_all
 simp_all
theorem ae{s:Operand}{Hd:Array TypeId}(hk:FU cx true ⟨dst,.call ⟨.builtin .append,#[s,x],Hd⟩,ty,pos,after,gd⟩ st K)(hf:E4 cx ⟨dst,.call ⟨.builtin .append,#[s,x],Hd⟩,ty,pos,after,gd⟩ st=some (R,w)) :
  CO cx ⟨dst,.call ⟨.builtin .append,#[s,x],Hd⟩,ty,pos,after,gd⟩ st R w K:=by
 have hk:FV cx dst st.h .append Hd.toList [ev st.t s,ev st.t x] K:=hk;have hf:ac cx dst (ev st.t s) (ev st.t x)=some (R,w):=hf;have hn:∀st2,Alike ⟨dst,.call ⟨.builtin .append,#[s,x],Hd⟩,ty,pos,after,gd⟩ R st st2->ev st2.t s=ev st.t s/\ev st2.t x=ev st.t x:=fun st2 ha=>
  ⟨ha.t s (by simp[Op.operands,Call.operands]),ha.t x (by simp[Op.operands,Call.operands])⟩
 have MJ:∀st2,Alike ⟨dst,.call ⟨.builtin .append,#[s,x],Hd⟩,ty,pos,after,gd⟩ R st st2->∀K' : HK,FV cx dst st2.h .append Hd.toList [ev st.t s,ev st.t x] K'->FU cx true ⟨dst,.call ⟨.builtin .append,#[s,x],Hd⟩,ty,pos,after,gd⟩ st2 K':=by
  intro st2 ha K' h;rw[<-(hn st2 ha).1,<-(hn st2 ha).2]at h;exact h
 generalize Hd.toList=l at hk MJ
 match l,hk,MJ with
 | [t,t'],hk,MJ=>
  simp only[FV]at hk MJ;split at hk
  .rename_i ht;simp only[ht]at MJ;unfold Iy at hk MJ;split at hk
   .rename_i e he;simp only[he]at MJ;split at hk
    .simp_all
    .rename_i hz;simp only[hz]at MJ;split at hk
     .simp_all
     .rename_i k EC;obtain⟨es2,q1,q2⟩:=gZ hk;have rQ:∀d,R=d::ol (ev st.t x)->∀st2,Alike ⟨dst,.call ⟨.builtin .append,#[s,x],Hd⟩,ty,pos,after,gd⟩ R st st2->∀r n,ev st.t x=.msl r n->st2.h r=st.h r:=fun d hR st2 ha r n e=>ha.h r (by rw[hR,e];simp[ol]);unfold ac at hf;split at hf
      .rename_i hs;obtain⟨d,nC,e0⟩:=IL hf;cases e0;rw[hs]at q1 MJ;simp only at q1 MJ;obtain⟨d',hd,v,y,q3,q4⟩:=IC q1.2;rw[nC]at hd;cases hd;refine⟨v,some (d,y),q3,fun r o' e=>aa0,fun st2 HF K' h'=>MJ st2 HF K' ?_⟩;split
       .omega
       .exact q2 st2.h (rQ d rfl st2 HF) _ ⟨q1.1,q4 st2.h (HF.h d (Ad ..)) K' h'⟩
      .rename_i HG es hs;obtain⟨d,nC,e0⟩:=IL hf;cases e0;rw[hs]at q1 MJ;simp only at q1 MJ;split at q1
       .rename_i h1;obtain⟨d',hd,v,y,q3,q4⟩:=IC q1.2;rw[nC]at hd;cases hd;refine⟨v,some (d,y),q3,fun r o' e=>aa0,fun st2 HF K' h'=>MJ st2 HF K' ?_⟩;split
        .omega
        .refine q2 st2.h (rQ d rfl st2 HF) _ ?_;simp only[h1];exact⟨q1.1,q4 st2.h (HF.h d (Ad ..)) K' h'⟩
       simp_all
      .rename_i r HG es hs;cases hf;rw[hs]at q1 MJ;simp only at q1 MJ;split at q1
       .rename_i sz n hr;split at q1
        .rename_i h1 h2;refine⟨_,some (r,_),q1.2,fun r o' e=>aa0,fun st2 HF K' h'=>MJ st2 HF K' ?_⟩;split
         .omega
         .refine q2 st2.h (rQ r rfl st2 HF) _ ?_;simp only[HF.h r (Ad ..),hr,h1,h2];exact⟨q1.1,h'⟩
        simp_all
       simp_all
      .rename_i r n hs;cases hf;rw[hs]at q1 MJ;simp only at q1 MJ;split at q1
       .rename_i sz es hr;split at q1
        .rename_i h1;refine⟨_,some (r,_),q1.2,fun r o' e=>aa0,fun st2 HF K' h'=>MJ st2 HF K' ?_⟩;split
         .omega
         .refine q2 st2.h (rQ r rfl st2 HF) _ ?_;simp only[HF.h r (Ad ..),hr,h1];exact⟨q1.1,h'⟩
        simp_all
       simp_all
      simp_all
   simp_all
  simp_all
 | [],hk,_=>exact hk.elim
 | [_],hk,_=>exact hk.elim
 |_::_::_::_,hk,_=>exact hk.elim
theorem Ss(t:Nat):F5 (KG T t):=by
 unfold KG
 repeat' split
 all_goals first | exact Ce | exact CI _
theorem Wp(ty:Nat)(ok:Bool)(BM:List (Value×AV))(kx:Value):F5 (M5 T ty ok BM kx):=by
 unfold M5
 repeat' split
 .refine lC (QU fun a=>Ds (CI _)) (Ds ?_);intro K hk;obtain⟨v,h1,h2⟩:=Ss T _ _ hk<;>grind [Ss]
 .exact lC (QU fun a=>Ds (CI _)) (Ds (Ss T _))
 .exact Ce
theorem fm(ty:Nat)(sh:Ez)(k:AV){F:Value->(AV->Prop)->Prop}(h:∀x,F5 (F x)):F5 fun K=>KB T ty sh k fun kx=>F kx K:=by
 unfold KB
 repeat' split
 all_goals grind [Ce]
theorem ah{t:Nat}{m k:Operand}{ok:Bool}(hk:FU cx true ⟨dst,.lookup t m k ok,ty,pos,after,gd⟩ st K)(hf:E4 cx ⟨dst,.lookup t m k ok,ty,pos,after,gd⟩ st=some (R,w)) :
  CO cx ⟨dst,.lookup t m k ok,ty,pos,after,gd⟩ st R w K:=by
 simp only[FU]at hk;have hn:∀st2,Alike ⟨dst,.lookup t m k ok,ty,pos,after,gd⟩ R st st2->ev st2.t m=ev st.t m/\ev st2.t k=ev st.t k:=fun st2 ha=>⟨ha.t m (by simp[Op.operands]),ha.t k (by simp[Op.operands])⟩;simp only[E4]at hf;unfold NZ at hk;split at hf
 .rename_i sh BM hm;cases hf;rw[hm]at hk;simp only at hk;exact .pick (fm _ _ _ _ fun _=>Wp _ _ _ _ _) hk fun st2 ha K' h=>by grind [FU,NZ]
 .rename_i r hm;cases hf;rw[hm]at hk;simp only at hk;split at hk
  all_goals first | exact hk.elim | (rename_i e;exact .pick (fm _ _ _ _ fun _=>Wp _ _ _ _ _) hk fun st2 ha K' h=>by grind [FU,NZ,Alike.h])
 simp_all
theorem tv(t:Nat)(h:Nat->HO)(x:AV):F5 (TO T t h x):=by
 unfold TO
 repeat' split
 all_goals first | exact Ce | exact CI _
theorem Ac4{T:GL}{t:Nat}{h h2:Nat->HO}{x:AV}(e:∀r,x=.mref r->h2 r=h r){K:AV->Prop}:TO T t h2 x K=TO T t h x K:=by
 cases x<;>first | rfl | skip
 grind [TO]
theorem nq{Hd:Array TypeId}(hk:FU cx true ⟨dst,.call ⟨.builtin .len,#[x],Hd⟩,ty,pos,after,gd⟩ st K)(hf:E4 cx ⟨dst,.call ⟨.builtin .len,#[x],Hd⟩,ty,pos,after,gd⟩ st=some (R,w)) :
  CO cx ⟨dst,.call ⟨.builtin .len,#[x],Hd⟩,ty,pos,after,gd⟩ st R w K:=by
 have hk:FV cx dst st.h .len Hd.toList [ev st.t x] K:=hk;have hf:G1 cx dst (.builtin .len) st.t [ev st.t x]=some (R,w):=hf;have hn:∀st2,Alike ⟨dst,.call ⟨.builtin .len,#[x],Hd⟩,ty,pos,after,gd⟩ R st st2->ev st2.t x=ev st.t x:=fun st2 ha=>ha.t x (by simp[Op.operands,Call.operands]);have MJ:∀st2,Alike ⟨dst,.call ⟨.builtin .len,#[x],Hd⟩,ty,pos,after,gd⟩ R st st2->∀K' : HK,FV cx dst st2.h .len Hd.toList [ev st.t x] K'->FU cx true ⟨dst,.call ⟨.builtin .len,#[x],Hd⟩,ty,pos,after,gd⟩ st2 K':=by
  intro st2 ha K' h;rw[<-hn st2 ha]at h;exact h
 generalize Hd.toList=l at hk MJ
 match l,hk,MJ with
 | [t],hk,MJ=>
  grind [G1,tv,FV,Ac4,CO.pick,Alike.h]
 | [],hk,_=>exact hk.elim
 |_::_::_,hk,_=>exact hk.elim
end
end Go.Eng
