/- Lemmas 9. -/
import Derived.Test.YtkjhcikodmiceaaGreatDoorRA08
import Derived.Maps.RangeRun
namespace Go.Eng
open Go.ChangeMaps (setBlock)
variable {BU:List (Value×AV)}{es:Array MapEntry}{sh:Er}{vx:Value}{α β:Type}{f:α->β}{l:List α}{ck:Nat}{w:World}{k x y:Value}{a:AV}{K:HK}{r:Nat}{o':Obj}{j:Nat}{v:AV}{T:Gf}
theorem Ur{o:Obj}(h:w.heap[r]?=some o):(setBlock w r o').heap[r]?=some o':=by
 grind [setBlock]
theorem TR{k:Nat}(h:k≠r):(setBlock w r o').heap[k]?=w.heap[k]?:=by
 grind [setBlock]
theorem Us(w:World)(r:Nat)(o' : Obj):(setBlock w r o').heap.size=w.heap.size:=by simp[setBlock]
theorem OO(h:(l.map f).Nodup):l.Nodup:=by
 induction l<;>grind
theorem Ve(h:(l.map f).Nodup){i:Nat}{a b:α}(ha:l[i]?=some a)(hb:l[j]?=some b)(he:f a=f b):i=j:=by
 induction l generalizing i j<;>grind
open Classical in
theorem PP{b:AV}(h:(k,b)∈BU):EF BU k a=BU.map fun p=>if p.1=k then(k,a)else p:=As ⟨b,h⟩
open Classical in
theorem J6(h:∀b,(k,b)∉BU):EF BU k a=BU++[(k,a)]:=AB (fun⟨b,e⟩=>h b e)
theorem Vc(f:AV->AV)(h:GU sh es ck BU):GU sh es ck (BU.map fun p=>(p.1,f p.2)):=by
 obtain⟨h1,h2,h3,h4,h5,h6⟩:=h;refine⟨by simp_all,fun i kv e q1 q2=>?_,fun kv dZ=>?_,?_,h5,h6⟩
 all_goals grind
theorem OK(h:GU sh es ck BU)(hj:BU[j]?=some (x,a)) :
  GU sh (es.modify j fun e=>{ e with key:=x,val:=y }) ck (EF BU x v) /\
   ∀(i:Nat) (kv:Value×AV) (e:MapEntry),(EF BU x v)[i]?=some kv->(es.modify j fun e=>{ e with key:=x,val:=y })[i]?=some e ->
    (kv.2=v/\e.val=y)\/(BU[i]?=some kv/\es[i]?=some e):=by
 classical
 rw[PP (Ax hj)];obtain⟨h1,h2,h3,h4,h5,h6⟩:=h;have hm:∀i e,(es.modify j fun e=>{ e with key:=x,val:=y })[i]?=some e->∃e0,es[i]?=some e0/\e.born=e0.born/\(if i=j then e.key=x/\e.val=y else e=e0):=by
  grind
 have hk:∀i kv,(BU.map fun p=>if p.1=x then(x,v)else p)[i]?=some kv->∃p,BU[i]?=some p/\kv.1=p.1/\(if i=j then kv.2=v else kv=p):=by
  intro i kv dZ;rw[BE]at dZ;obtain⟨p,q1,q2⟩:=B1.1 dZ;refine⟨p,q1,?_⟩
  grind [Ve]
 have Abo:(BU.map fun p=>if p.1=x then(x,v)else p).map (·.1)=BU.map (·.1):=by
  rw[BI];apply Cf
  grind
 refine⟨⟨by grind,fun i kv e q1 q2=>?_,fun kv dZ=>?_,by grind,fun i e q=>?_,fun i i' e e' q q' hb=>?_⟩,fun i kv e q1 q2=>?_⟩
 all_goals grind
theorem Tl(h:GU sh es ck BU)(hx:WE sh x=true)(hn:∀a,(x,a)∉BU) :
  GU sh (es.push { key:=x,val:=y,born:=ck }) (ck+1) (EF BU x v) /\
   ∀(i:Nat) (kv:Value×AV) (e:MapEntry),(EF BU x v)[i]?=some kv->(es.push { key:=x,val:=y,born:=ck })[i]?=some e ->
    (kv.2=v/\e.val=y)\/(BU[i]?=some kv/\es[i]?=some e):=by
 rw[J6 hn];obtain⟨h1,h2,h3,h4,h5,h6⟩:=h;have hm:∀i e,(es.push { key:=x,val:=y,born:=ck })[i]?=some e->(es[i]?=some e/\i<es.size)\/(i=es.size/\e={ key:=x,val:=y,born:=ck }):=by
  grind
 have hk:∀i kv,(BU++[(x,v)])[i]?=some kv->(BU[i]?=some kv/\i<es.size)\/(i=es.size/\kv=(x,v)):=by
  grind
 refine⟨⟨by grind,fun i kv e q1 q2=>?_,fun kv dZ=>?_,?_,fun i e q=>?_,fun i i' e e' q q' hb=>?_⟩,fun i kv e q1 q2=>?_⟩
 all_goals grind
section
variable {P:Program}{w0:World}{g0:Gh}{h0 h:Nat->HO}{g:Gh}{w:World}(hI:CA w0 g0 h0 h g w)
include hI
theorem CA.swap{r b:Nat}(hl:(h r).live)(ho:g.own r=some b)(hn:∀o,¬g.S b o)(o' : HO){ob:Obj}(hb:w.heap[b]?=some ob)(ct : Obj)(w1:World)(SW:w1.heap=w.heap/\w1.os=w.os/\w1.tape=w.tape/\w1.output=w.output)(CU:o'≠.free)
  (Li:JA g (g.upd r (g.ρ r) (g.ln r) (g.tk r) (g.own r) g.S) (AI h)->D2 g w (g.upd r (g.ρ r) (g.ln r) (g.tk r) (g.own r) g.S) (setBlock w1 b ct)->(setBlock w1 b ct).heap[b]?=some ct ->
   (∀k,k≠b->(setBlock w1 b ct).heap[k]?=w.heap[k]?) ->
   DD (g.upd r (g.ρ r) (g.ln r) (g.tk r) (g.own r) g.S) (setBlock w1 b ct) (AI (AP h r o')) r o') :
  CA w0 g0 h0 (AP h r o') (g.upd r (g.ρ r) (g.ln r) (g.tk r) (g.own r) g.S) (setBlock w1 b ct)/\Le h g w (AP h r o') (g.upd r (g.ρ r) (g.ln r) (g.tk r) (g.own r) g.S) (setBlock w1 b ct):=by
 have BW:=(hI.loc r b hl ho).1;have Db:(setBlock w1 b ct).heap[b]?=some ct:=Ur (by rw[SW.1];exact hb);have am:∀k,k≠b->(setBlock w1 b ct).heap[k]?=w.heap[k]?:=fun k hk=>by grind [TR]
 refine hI.upd r o' _ _ _ _ _ _ (some b) ⟨SW.2.1,SW.2.2.1,SW.2.2.2,by grind [Us]⟩ (fun k _ CU=>am k (fun e=>CU (by rw[e]))) (fun b' e=>by simp_all) (fun _ _ h=>h) (fun _ _ h=>.inl h)
  (fun b' o e hs=>by simp_all) (fun b' _ e=>?_) CU (fun _=>⟨rfl,Ai _,fun _=>rfl,fun _=>rfl⟩) (fun hg hk=>Li hg hk Db am)
 grind
theorem M6(hT:Cb P T){ty:Nat}{m k x:AV}{vm vk:Value}(hm:A3 g w (AI h) m vm)(hk' : A3 g w (AI h) k vk)(hx:A3 g w (AI h) x vx)(hk:GQ T h ty m k x K) :
  gA P w0 g0 h0 h g w (Instr.mapUpdate ty vm vk vx) K:=by
 unfold GQ at hk;split at hk
 .rename_i r;split at hk
  .rename_i sh BU e0;obtain⟨kt,e,k1,k2,k3,k4⟩:=Mw hk' hk;have ho:=hI.objs r;rw[e0]at ho;obtain⟨t1,b,es,ck,a1,a2,a3,a4,a5,a6⟩:=ho;have hl:(h r).live:=by rw[e0];trivial
   cases hm with
   |mref _ _ b' hu ht hp=>
    rw[a2]at hp;cases hp;have i9:=hT.map k1;have Fi:=run_getObj_map (P:=P) w b es ck a3;have ND:∀o',(setObj b o').run P w=.ok () (setBlock w b o'):=fun o'=>by grind [setObj,Sem.run,setBlock]
    have XK:=fun bb=>Mh hT k2 w bb k3;obtain⟨res,r1,r2⟩:=NS hT k2 w k3 es.toList a4.shape;have mL:=A3.str hI.objs hx;rcases r2 with ⟨rfl,hn⟩ | ⟨j,en,rfl,hj,hkey⟩
    .obtain⟨m1,m2⟩:=Tl a4 (x:=vk) (v:=str h x) (y:=vx) k3 (fun a=>a4.none hn a);obtain⟨i1,i2⟩:=CA.swap hI hl a1 a6 (.map sh (EF BU vk (str h x))) a3 (.map (es.push { key:=vk,val:=vx,born:=ck }) (ck+1)) w ⟨rfl,rfl,rfl,rfl⟩ aa0 (fun hg If Db am=>by
      obtain⟨u1,u2,u3,u4⟩:=Bl g r (g.ρ r) (g.ln r) (g.tk r) (g.own r) g.S;refine⟨u3.trans t1,b,_,_,u4.trans a1,u1.trans a2,Db,m1,fun i kv e q1 q2=>?_,a6⟩;rcases m2 i kv e q1 q2 with ⟨p1,p2⟩ | ⟨p1,p2⟩
      .rw[p1,p2];exact mL.mono If (fun _ h=>h) (fun _ h=>h.elim)
      .exact(a5 i kv e p1 p2).mono If (fun _ h=>h) (fun _ h=>h.elim))
     refine⟨_,_,_,?_,k4,i1,i2⟩;simp[Instr.mapUpdate,run_underlying i9,Fi,XK,r1,ND]
    .obtain⟨a,q1,q2⟩:=a4.some hj hkey;obtain⟨m1,m2⟩:=OK a4 (x:=vk) (v:=str h x) (y:=vx) q1;obtain⟨i1,i2⟩:=CA.swap hI hl a1 a6 (.map sh (EF BU vk (str h x))) a3 (.map (es.modify j fun e=>{ e with key:=vk,val:=vx }) ck) w ⟨rfl,rfl,rfl,rfl⟩ aa0 (fun hg If Db am=>by
      obtain⟨u1,u2,u3,u4⟩:=Bl g r (g.ρ r) (g.ln r) (g.tk r) (g.own r) g.S;refine⟨u3.trans t1,b,_,_,u4.trans a1,u1.trans a2,Db,m1,fun i kv e q1 q2=>?_,a6⟩;rcases m2 i kv e q1 q2 with ⟨p1,p2⟩ | ⟨p1,p2⟩
      .rw[p1,p2];exact mL.mono If (fun _ h=>h) (fun _ h=>h.elim)
      .exact(a5 i kv e p1 p2).mono If (fun _ h=>h) (fun _ h=>h.elim))
     refine⟨_,_,_,?_,k4,i1,i2⟩;have wd : es[j]?=some en:=Wk
     have IM:=Rd (P:=P) w k3;simp[Instr.mapUpdate,run_underlying i9,Fi,XK,r1,ND,wd,hkey,IM]
  .rename_i sh BU e0;obtain⟨kt,e,k1,k2,k3,k4⟩:=Mw hk' hk;have ho:=hI.objs r;rw[e0]at ho;obtain⟨t1,b,es,ck,a1,a2,a3,a4,a5,a6⟩:=ho;have hl:(h r).live:=by rw[e0];trivial
   cases hm with
   |mref _ _ b' hu ht hp=>
    rw[a2]at hp;cases hp;have i9:=hT.map k1;have Fi:=run_getObj_map (P:=P) w b es ck a3;have ND:∀o',(setObj b o').run P w=.ok () (setBlock w b o'):=fun o'=>by grind [setObj,Sem.run,setBlock]
    have XK:=fun bb=>Mh hT k2 w bb k3;obtain⟨res,r1,r2⟩:=NS hT k2 w k3 es.toList a4.shape;rcases r2 with ⟨rfl,hn⟩ | ⟨j,en,rfl,hj,hkey⟩
    .obtain⟨m1,m2⟩:=Tl a4 (x:=vk) (v:=x) (y:=vx) k3 (fun a=>a4.none hn a);obtain⟨i1,i2⟩:=CA.swap hI hl a1 a6 (.mapU sh (EF BU vk (x))) a3 (.map (es.push { key:=vk,val:=vx,born:=ck }) (ck+1)) w ⟨rfl,rfl,rfl,rfl⟩ aa0 (fun hg If Db am=>by
      obtain⟨u1,u2,u3,u4⟩:=Bl g r (g.ρ r) (g.ln r) (g.tk r) (g.own r) g.S;have LQ:∀i,AI h i->AI (AP h r (.mapU sh (EF BU vk x))) i:=fun i hi=>Do aa0 i hi;refine⟨u3.trans t1,b,_,_,u4.trans a1,u1.trans a2,Db,m1,fun i kv e q1 q2=>?_,a6⟩
      grind [A3.mono])
     refine⟨_,_,_,?_,k4,i1,i2⟩;simp[Instr.mapUpdate,run_underlying i9,Fi,XK,r1,ND]
    .obtain⟨a,q1,q2⟩:=a4.some hj hkey;obtain⟨m1,m2⟩:=OK a4 (x:=vk) (v:=x) (y:=vx) q1;obtain⟨i1,i2⟩:=CA.swap hI hl a1 a6 (.mapU sh (EF BU vk (x))) a3 (.map (es.modify j fun e=>{ e with key:=vk,val:=vx }) ck) w ⟨rfl,rfl,rfl,rfl⟩ aa0 (fun hg If Db am=>by
      obtain⟨u1,u2,u3,u4⟩:=Bl g r (g.ρ r) (g.ln r) (g.tk r) (g.own r) g.S;have LQ:∀i,AI h i->AI (AP h r (.mapU sh (EF BU vk x))) i:=fun i hi=>Do aa0 i hi;refine⟨u3.trans t1,b,_,_,u4.trans a1,u1.trans a2,Db,m1,fun i kv e q1 q2=>?_,a6⟩
      grind [A3.mono])
     refine⟨_,_,_,?_,k4,i1,i2⟩;have wd : es[j]?=some en:=Wk
     have IM:=Rd (P:=P) w k3;simp[Instr.mapUpdate,run_underlying i9,Fi,XK,r1,ND,wd,hkey,IM]
  simp_all
 simp_all
theorem NO{d b:Nat}{ck:Nat}(hd:h d=.free)(hS:g.S b 0)(hb:w.heap[b]?=some (.map es ck))(hm:GU sh es ck BU)(hv:∀(i:Nat) (kv:Value×AV) (e:MapEntry),BU[i]?=some kv->es[i]?=some e->A3 g w DR kv.2 e.val) :
  ∃g',CA w0 g0 h0 (AP h d (.iter BU BU none)) g' (w.alloc (.mapIter (some b) ck #[] ck))/\Le h g w (AP h d (.iter BU BU none)) g' (w.alloc (.mapIter (some b) ck #[] ck)) /\
   A3 g' (w.alloc (.mapIter (some b) ck #[] ck)) (AI (AP h d (.iter BU BU none))) (.ref d 0) (.pointer (some ⟨w.heap.size,0,none⟩)):=by
 obtain⟨k1,k2⟩:=hI.newOwn hd (.iter BU BU none) (.mapIter (some b) ck #[] ck) (.pointer (some ⟨w.heap.size,0,none⟩)) 0 false w ⟨rfl,rfl,rfl,rfl⟩ aa0 (fun hg hk=>by
  obtain⟨u1,u2,u3,u4⟩:=Bl g d (.pointer (some ⟨w.heap.size,0,none⟩)) 0 false (some w.heap.size) g.S;obtain⟨c1,c2,c3⟩:=hk b 0 hS
  exact⟨u3,w.heap.size,b,ck,#[],ck,es,ck,u4,u1,GE w _ rfl,c1,c3 es ck hb,⟨sh,hm⟩,rfl,rfl,fun i kv e q1 q2=>(hv i kv e q1 q2).mono hk (fun _ h=>h) (fun _ h=>h.elim),
   ⟨OO hm.2.2.2.1,fun _ h=>h⟩,fun i kv e q1 q2=>by simp[List.mem_of_getElem? q1],trivial,fun o ho=>by have:=hI.slt _ _ ho;omega⟩)
 refine⟨_,k1,k2,.ref _ d 0 w.heap.size (by unfold AI;rw[A2];simp) ?_ ?_⟩<;>simp[Gh.upd]
theorem QU{r b:Nat}{ck:Nat}(e0:h r=.map sh BU)(a1:g.own r=some b)(a2:g.ρ r=.map (some b))(a3:w.heap[b]?=some (.map es ck))(a4:GU sh es ck BU)(a5:∀(i:Nat) (kv:Value×AV) (e:MapEntry),BU[i]?=some kv->es[i]?=some e->A3 g w DR kv.2 e.val)(t1:g.tk r=false) :
  ∃g',CA w0 g0 h0 (AP h r (.rom sh BU)) g' w/\Le h g w (AP h r (.rom sh BU)) g' w/\g'.S b 0:=by
 have hl:(h r).live:=by rw[e0];trivial
 have BW:=(hI.loc r b hl a1).1
 obtain⟨k1,k2⟩:=hI.upd r (.rom sh BU) (g.ρ r) (g.ln r) (g.tk r) none (g.more b 1) w none ⟨rfl,rfl,rfl,Ai _⟩ (fun _ _ _=>rfl) (fun b e=>by cases e) (fun _ _ h=>.inl h)
  (fun b' o hs=>hs.elim .inl (fun hs=>.inr ⟨by omega,.inr ⟨hl,by simp_all⟩⟩)) (fun b o e=>by cases e) (fun b hh _=>by cases hh) aa0
  (fun _=>⟨rfl,Ai _,fun _=>rfl,fun _=>rfl⟩) (fun hg hk=>by
   obtain⟨u1,u2,u3,u4⟩:=Bl g r (g.ρ r) (g.ln r) (g.tk r) none (g.more b 1);exact⟨u3.trans t1,b,u1.trans a2,.cmap _ sh BU b es ck (.inr ⟨rfl,MO⟩) a3 a4 (fun i kv e q1 q2=>(a5 i kv e q1 q2).mono hk (fun _ h=>h) (fun _ h=>h.elim))⟩)
 exact⟨_,k1,k2,.inr ⟨rfl,MO⟩⟩
theorem Ws{r b:Nat}{ck:Nat}(e0:h r=.mapU sh BU)(a1:g.own r=some b)(a2:g.ρ r=.map (some b))(a3:w.heap[b]?=some (.map es ck))(a4:GU sh es ck BU)(a5:∀(i:Nat) (kv:Value×AV) (e:MapEntry),BU[i]?=some kv->es[i]?=some e->A3 g w (AI h) kv.2 e.val)(t1:g.tk r=false) :
  ∃g',CA w0 g0 h0 (AP h r (.rom sh (Rx h BU))) g' w/\Le h g w (AP h r (.rom sh (Rx h BU))) g' w/\g'.S b 0:=by
 have hl:(h r).live:=by rw[e0];trivial
 have BW:=(hI.loc r b hl a1).1
 obtain⟨k1,k2⟩:=hI.upd r (.rom sh (Rx h BU)) (g.ρ r) (g.ln r) (g.tk r) none (g.more b 1) w none ⟨rfl,rfl,rfl,Ai _⟩ (fun _ _ _=>rfl) (fun b e=>by cases e) (fun _ _ h=>.inl h)
  (fun b' o hs=>hs.elim .inl (fun hs=>.inr ⟨by omega,.inr ⟨hl,by simp_all⟩⟩)) (fun b o e=>by cases e) (fun b hh _=>by cases hh) aa0
  (fun _=>⟨rfl,Ai _,fun _=>rfl,fun _=>rfl⟩) (fun hg hk=>by
   obtain⟨u1,u2,u3,u4⟩:=Bl g r (g.ρ r) (g.ln r) (g.tk r) none (g.more b 1);refine⟨u3.trans t1,b,u1.trans a2,.cmap _ sh _ b es ck (.inr ⟨rfl,MO⟩) a3 (Vc _ a4) (fun i kv e q1 q2=>?_)⟩;unfold Rx at q1;rw[BE]at q1;obtain⟨p,q3,rfl⟩:=B1.1 q1;exact((a5 i p e q3 q2).str hI.objs).mono hk (fun _ h=>h) (fun _ h=>h.elim))
 exact⟨_,k1,k2,.inr ⟨rfl,MO⟩⟩
theorem fT(hT:Cb P T){ty kt e:Nat}(ht:(T ty).d=.map kt e){d:Option Nat}{x:AV}(hx:A3 g w (AI h) x vx)(hk:aQ d h x K) :
  Ni P w0 g0 h0 h g w (Instr.range ty vx) K:=by
 have hu:=hT.map ht;unfold aQ at hk;split at hk
 .simp_all
 .rename_i d;split at hk
  .rename_i hd;have Cu:∀b es ck,w.heap[b]?=some (.map es ck)->(Instr.range ty (.map (some b))).run P w=.ok (.pointer (some ⟨w.heap.size,0,none⟩)) (w.alloc (.mapIter (some b) ck #[] ck)):=fun b es ck hb=>by
    simp[Instr.range,run_underlying hu,run_getObj_map (P:=P) w b es ck hb]
   split at hk
   .cases hx with
    |cmap _ _ _ b es ck hS hb hm hv=>
     obtain⟨g',k1,k2,k3⟩:=NO hI hd hS hb hm hv;exact⟨_,_,_,_,_,Cu _ _ _ hb,hk,k1,k2,k3⟩
   .rename_i r;have ho:=hI.objs r;cases hx with
    |mref _ _ b i9 ht' hp=>
     split at hk
     .rename_i sh BU e0;rw[e0]at ho;obtain⟨_,b',a1,a2⟩:=ho;rw[a1]at hp;cases hp;cases a2 with
      |cmap _ _ _ _ es ck hS hb hm hv=>
       obtain⟨g',k1,k2,k3⟩:=NO hI hd hS hb hm hv;exact⟨_,_,_,_,_,Cu _ _ _ hb,hk,k1,k2,k3⟩
     .rename_i sh BU e0;rw[e0]at ho;obtain⟨t1,b',es,ck,a1,a2,a3,a4,a5,a6⟩:=ho;rw[a2]at hp;cases hp;obtain⟨g1,i1,i2,i3⟩:=QU hI e0 a1 a2 a3 a4 a5 t1;have CU:d≠r:=fun e=>by simp_all
      obtain⟨g',k1,k2,k3⟩:=NO i1 (by rw[BQ _ _ _ _ CU];exact hd) i3 a3 a4 (fun i kv e q1 q2=>(a5 i kv e q1 q2).mono i2.keeps (fun _ h=>h) (fun _ h=>h.elim));exact⟨_,_,_,_,_,Cu _ _ _ a3,hk,k1,i2.trans k2,k3⟩
     simp_all
   simp_all
  simp_all
theorem jA{ty:TypeId}{x:AV}(hx:A3 g w (AI h) x vx)(hk:jz h x K):Ni P w0 g0 h0 h g w (Instr.next vx false ty) K:=by
 unfold jz at hk;split at hk
 .rename_i r;split at hk
  .rename_i all rem Dn e0;have ho:=hI.objs r;rw[e0]at ho;obtain⟨t1,b,mb,Jx,seen,st,es,ck,a1,a2,a3,a4,a5,⟨sh,a6⟩,a7,a8,a9,WY,bo,a12,po⟩:=ho;have hl:(h r).live:=by rw[e0];trivial
   cases hx with
   |ref _ _ _ b' hu ht hp=>
    rw[a2]at hp;cases hp;have BW:∀e∈es.toList,e.born<Jx:=fun e he=>by
     obtain⟨i,hi⟩:=A6.1 he
     have:=a6.2.2.2.2.1 i e Wk
     omega
    rcases run_next_at (P:=P) w ty b mb Jx st seen es ck a3 a5 BW B0 with ⟨q1,q2⟩ | ⟨e,q1,w1,q2,q3⟩
    .have zu:rem=[]:=by
      apply La.2;intro kv dZ;obtain⟨i,hi⟩:=A6.1 (WY.2 kv dZ);have bP:i<es.size:=by rw[a6.1];grind
      have hb:=(bo i kv es[i] hi Wk).1 dZ;have hm:es[i]∈leftOf es seen:=by grind [leftOf]
      simp_all
     exact⟨_,w,g,_,h,q2,hk.1 zu,hI,.refl _ _ _,.tup _ _ _ rfl (fun i av x h1 h2=>by
      grind [A3.v])⟩
    .have hq:e∈es/\e.born∉seen:=by grind [leftOf]
     obtain⟨i,hi⟩:=Array.mem_iff_getElem?.1 hq.1;have bP:i<all.length:=by rw[<-a6.1];grind
     have th:all[i]?=some all[i]:=Aw bP;have qr:=(bo i _ e th hi).2 hq.2;obtain⟨s1,s2,hs⟩:=List.append_of_mem qr;have Iy:rem.Perm (all[i]::(s1++s2)):=Wk
     have SU:(all[i]::(s1++s2)).Nodup:=Iy.nodup_iff.1 WY.1;have hr:=a9 i _ e th hi;have hkey:=a6.2.1 i _ e th hi;have SW:w1.heap=w.heap/\w1.os=w.os/\w1.tape=w.tape/\w1.output=w.output:=by rcases q2 with rfl | rfl<;>exact⟨rfl,rfl,rfl,rfl⟩
     obtain⟨k1,k2⟩:=CA.swap hI hl a1 po (.iter all (s1++s2) (some all[i])) a3 (.mapIter (some mb) Jx (seen.push e.born) ck) w1 SW aa0 (fun hg If Db am=>by
      obtain⟨u1,u2,u3,u4⟩:=Bl g r (g.ρ r) (g.ln r) (g.tk r) (g.own r) g.S;obtain⟨c1,c2,c3⟩:=If mb 0 a4
      refine⟨u3.trans t1,b,mb,Jx,_,ck,es,ck,u4.trans a1,u1.trans a2,Db,c1,c3 _ _ a5,⟨sh,a6⟩,a7,rfl,fun i kv e p q=>(a9 i kv e p q).mono If (fun _ h=>h) (fun _ h=>h.elim),
       ⟨(FY.1 SU).2,fun kv dZ=>WY.2 kv (Iy.mem_iff.2 (Ah _ dZ))⟩,fun j kv e' p q=>?_,⟨i,e,th,hi,by simp⟩,po⟩
      rw[Array.mem_push];have h1:=bo j kv e' p q;rw[Iy.mem_iff,AM]at h1;constructor
      .intro dZ hc;rcases hc with hc | hc
       .simp_all
       .obtain rfl:=a6.2.2.2.2.2 j i e' e q hi hc<;>simp_all
      .intro hc;rcases h1.2 (fun hm=>hc (.inl hm))with e2 | e2
       .have:j=i:=Ve (f:=fun x=>x) (l:=all) (by simpa using OO a6.2.2.2.1) p th e2
        simp_all
       omega)
     refine⟨_,_,_,_,_,q3,hk.2 all[i] (s1++s2) Iy,k1,k2,.tup _ _ _ rfl (fun j av x h1 h2=>?_)⟩
     match j,h1,h2 with
     |0,h1,h2=>grind [A3.v]
     |1,h1,h2=>grind [A3.v]
     |2,h1,h2=>simp at h1 h2;grind [A3.le,A3.up]
  simp_all
 simp_all
end
end Go.Eng
namespace Go.Eng
variable {x:Operand}{F:(AV->Prop)->Prop}{a:AV}{p:Operand}{α:Type}(cx:Cx)(T:Gf)(o:Oper)(st:St)(op:BinOp)(s:Nat)(R:List Nat)(k:IntKind)(f:Nat)(w:Option Nat)(K:HK)
def FO(F:(AV->Prop)->Prop):Prop:=∀K,F K->∃v,K v/\∀K',K' v->F K'
theorem Cy(v:AV):FO (fun K=>K v):=fun _ h=>⟨v,h,fun _ h=>h⟩
theorem Dt{p:Prop}(h:FO F):FO (fun K=>p/\F K):=fun K ⟨hp,hk⟩=>
 let ⟨v,h1,h2⟩:=h K hk
 ⟨v,h1,fun K' h'=>⟨hp,h2 K' h'⟩⟩
theorem Ci:FO (fun _=>False):=fun _ h=>h.elim
theorem Vk(p:Prop):FO (Iv p):=fun K h=>by
 by_cases hp:p
 .exact⟨_,h.1 hp,fun K' h'=>⟨fun _=>h',fun hn=>absurd hp hn⟩⟩
 .exact⟨_,h.2 hp,fun K' h'=>⟨fun q=>absurd q hp,fun _=>h'⟩⟩
theorem YB(h:FO F):FO (fun K=>F (fy K)):=fun K hk=>by
 obtain⟨v,h1,h2⟩:=h _ hk;unfold fy at h1;split at h1
 .exact⟨_,h1,fun K' h'=>h2 _ h'⟩
 .exact⟨_,h1,fun K' h'=>h2 _ h'⟩
 simp_all
theorem OX{F:α->(AV->Prop)->Prop}(h:∀x,FO (F x)):FO (fun K=>∃x,F x K):=fun K ⟨x,hk⟩=>
 let ⟨v,h1,h2⟩:=h x K hk
 ⟨v,h1,fun K' h'=>⟨x,h2 K' h'⟩⟩
theorem Kd(t:Nat)(cs:List AV):FO (K4 T t cs):=by
 have head:FO (LJ cs):=by unfold LJ;cases cs with | nil=>exact Ci | cons a _=>exact Cy a
 unfold K4;split
 .exact Dt (Cy _)
 .exact Dt (Cy _)
 .cases cs with
  |nil=>exact Ci
  |cons a _=>
   intro K h;simp only[LJ]at h⊢;split at h
   .rename_i b;cases b<;>grind
   simp_all
 all_goals grind [Ci]
theorem cy(t:Nat)(x y:AV)(hx:∀tk es,x≠.slice tk es):FO (rI T t x y):=by
 unfold rI
 repeat' split
 all_goals first | exact Ci | exact Cy _ | exact Vk _ | simp_all | simp_all
theorem TC(a b:Int):FO (TS op k a b):=by
 unfold TS;split<;>first | exact Ci | exact Dt (Cy _)
theorem aM(a b:Int):FO (RY op k a b):=by
 unfold RY
 repeat' split
 all_goals first | exact Ci | exact Dt (Cy _) | (unfold VJ;split<;>first | exact Cy _ | exact Dt (Cy _) | grind [TC])
theorem jS(t:Nat)(x y:AV)(hx:∀tk es,x≠.slice tk es):FO (Sb T op t x y):=by
 unfold Sb
 repeat' split
 all_goals first | exact Ci | exact Vk _ | exact aM _ _ _ _ | exact TC _ _ _ _ | exact Dt (Cy _) | exact cy _ _ _ _ hx | exact YB (cy _ _ _ _ hx)
theorem fN(t:Nat)(Y:Operand)(x y:AV)(hx:∀tk es,x≠.slice tk es):FO (W8 T op t Y x y):=by
 unfold W8
 repeat' split
 all_goals first | exact Ci | exact Cy _ | grind [jS]
theorem fO(t:Nat)(x:AV):FO (UM T s t x):=by
 unfold UM
 repeat' split
 all_goals first | exact Ci | exact Cy _ | exact Dt (Cy _) | exact OX fun _=>Dt (Cy _)
theorem aO(x:AV):FO (Sx T s f x):=by
 unfold Sx
 repeat' split
 all_goals first | exact Ci | exact Cy _
theorem Yz(x:AV):FO (Oo T s f x):=by
 unfold Oo
 repeat' split
 all_goals first | exact Ci | exact Kd _ _ _
theorem TB(t:Nat)(x ix:AV):FO (I2 T t x ix):=by
 unfold I2
 repeat' split
 all_goals first | exact Ci | exact Dt (Cy _) | exact OX fun _=>Dt (Dt (Cy _))
theorem aP(t:Nat)(x ix:AV):FO (S8 T t x ix):=by
 unfold S8
 repeat' split
 all_goals first | exact Ci | exact Dt (Kd _ _ _) | exact OX fun _=>Dt (Cy _)
theorem Wy(x:AV)(i:Nat):FO (LB x i):=by
 unfold LB
 repeat' split
 all_goals first | exact Ci | exact Cy _
theorem jU(x:AV):FO (J7 x):=by
 unfold J7
 repeat' split
 all_goals first | exact Ci | exact Cy _
theorem fP(c a b:AV):FO (Yx c a b):=by
 unfold Yx
 repeat' split
 all_goals first | exact Ci | exact Cy _
theorem nB(f:Int->Int->Int)(x y:AV):FO (m6 f x y):=by
 unfold m6
 repeat' split
 all_goals first | exact Ci | exact Cy _
theorem fQ(op:UnOp)(x:AV):FO (Zf op x):=by
 unfold Zf
 repeat' split
 all_goals first | exact Ci | exact Cy _ | exact YB (Cy _) | exact Dt (Cy _)
def om(F:(α->Prop)->Prop):Prop:=∀K,F K->∃v,K v/\∀K',K' v->F K'
theorem Yy(n:Nat)(a:AV):om (GO n a):=by
 intro K h;unfold GO at h⊢
 grind
theorem Tz(pl:Nat->Option (Nat×Nat))(t:Nat->AV):∀(ps:List (Nat×Operand)) (cs:List AV),om (JV pl cs t ps)
 | [],cs=>fun K h=>⟨cs,h,fun _ h=>h⟩
 |(i,x)::r,cs=>by
  intro K h;unfold JV at h;split at h
  .simp_all
  .rename_i o n e;obtain⟨vs,h1,h2⟩:=Yy _ _ _ h;split at h1
   .rename_i hb;obtain⟨c,h3,h4⟩:=Tz pl t r _ _ h1<;>grind [JV]
   simp_all
theorem aN(ty:Nat)(t:Nat->AV)(ps:List (Nat×Operand)):FO (Pq T ty t ps):=by
 unfold Pq
 repeat' split
 all_goals first
  |exact Ci
  |exact fun K h=>let ⟨c,h1,h2⟩:=Tz _ _ _ _ _ h;⟨_,h1,fun K' h'=>h2 _ h'⟩
def eff(h:Nat->HO)(e:Option (Nat×HO)):Nat->HO:=match e with | none=>h | some (r,o)=>AP h r o
structure Alike(o:Oper)(R:List Nat)(st st2:St):Prop where
 t:∀x∈o.op.operands,ev st2.t x=ev st.t x
 h:∀r∈R,st2.h r=st.h r
def CG:Prop:=
 ∃v e,K v (eff st.h e)/\(∀r o',e=some (r,o')->w=some r/\r∈R)/\∀st2,Alike o R st st2->∀K' : HK,K' v (eff st2.h e)->FB cx true o st2 K'
def RP(r:Nat):Prop:=match w with | none=>False | some x=>x=r\/(10000000<=x/\(x % 10000000=r\/x / 10000000=r))\/x=VG
def HH(h:Nat->HO):List (Nat×HO)->Nat->HO
 | []=>h
 |p::l=>HH (AP h p.1 p.2) l
def Rz:Prop:=
 ∃v e,K v (HH st.h e)/\(∀r o',(r,o')∈e->RP w r/\r∈R)/\∀st2,Alike o R st st2->∀K' : HK,K' v (HH st2.h e)->FB cx true o st2 K'
section
variable {cx:Cx}{o:Oper}{st:St}{R:List Nat}{w:Option Nat}{K:HK}
theorem CG.pick(hF:FO F)(h:F fun v=>K v st.h)(h2:∀st2,Alike o R st st2->∀K' : HK,F (fun v=>K' v st2.h)->FB cx true o st2 K'):CG cx o st R w K:=
 let ⟨v,h1,h3⟩:=hF _ h
 ⟨v,none,h1,fun _ _ e=>(by cases e),fun st2 ha K' hk=>h2 st2 ha K' (h3 _ hk)⟩
theorem Ye{cs:List AV}(h:a∈cs):∀r∈XV a,r∈mM cs:=by
 induction cs with
 |nil=>cases h
 |cons c cs ih=>
  intro r hr;rcases AM.1 h with rfl | h
  .exact Bw _ hr
  .exact Ca _ (ih h r hr)
theorem jr{cs:List AV}(h:a∈cs):∀r∈Wi a,r∈qF cs:=by
 induction cs with
 |nil=>cases h
 |cons c cs ih=>
  intro r hr;rcases AM.1 h with rfl | h
  .exact Bw _ hr
  .exact Ca _ (ih h r hr)
theorem Yd{cs:List AV}(h:a∈cs):∀r∈XU a,r∈SX cs:=by
 induction cs with
 |nil=>cases h
 |cons c cs ih=>
  intro r hr;rcases AM.1 h with rfl | h
  .exact Bw _ hr
  .exact Ca _ (ih h r hr)
theorem U0(a:AV):∀r∈XV a,r∈Wi a:=by cases a<;>simp[XV,Wi]
theorem Qn{h h2:Nat->HO}(e:∀r∈XV a,h2 r=h r):str0 h2 a=str0 h a:=by
 cases a<;>simp only[str0]
 all_goals grind [XV]
theorem Vs{h h2:Nat->HO}(e:∀r∈Wi a,h2 r=h r):str h2 a=str h a:=by
 cases a with
 |agg cs=>simp only[str];exact Ab _ (Cf fun c hc=>Qn fun r hr=>e r (Ye hc r hr))
 |clo f cs=>simp only[str];exact Ab _ (Cf fun c hc=>Qn fun r hr=>e r (Ye hc r hr))
 |_=>exact Qn (fun r hr=>e r (U0 _ r hr))
theorem jd(a:AV):∀r∈Wi a,r∈XU a:=by
 cases a with
 |agg cs=>
  intro r hr;simp only[XU,Wi]at *
  induction cs with
  |nil=>exact hr
  |cons c cs ih=>
   rcases Bk.1 hr with h | h
   .exact Bw _ (U0 c r h)
   .exact Ca _ (ih h)
 |_=>exact fun r hr=>hr
theorem Kg{h h2:Nat->HO}(e:∀r∈XU a,h2 r=h r):str h2 a=str h a:=Vs fun r hr=>e r (jd a r hr)
theorem Qo{h h2:Nat->HO}{l:List AV}(e:∀r∈SX l,h2 r=h r):l.map (str h2)=l.map (str h):=
 Cf fun _ ha=>Kg fun r hr=>e r (Yd ha r hr)
theorem ko{h h2:Nat->HO}(e:∀r∈XU a,h2 r=h r):rsv h2 a=rsv h a:=by
 cases a<;>simp only[rsv]
 all_goals grind [XU,Wi,XV]
theorem Nt{n:Nat}{K:List AV->Prop}(hk:GO n a K):∃cs,K cs/\(∀K' : List AV->Prop,K' cs->GO n a K')/\∀h h2:Nat->HO,(∀r∈XU a,h2 r=h r)->cs.map (str h2)=cs.map (str h):=by
 have single:K [a]->(∀K' : List AV->Prop,K' [a]->GO n a K')->∃cs,K cs/\(∀K' : List AV->Prop,K' cs->GO n a K')/\∀h h2:Nat->HO,(∀r∈XU a,h2 r=h r)->cs.map (str h2)=cs.map (str h):=
  fun h1 h2=>⟨[a],h1,h2,fun h h2 e=>by simp[Kg e]⟩
 unfold GO at hk;split at hk
 .rename_i cs;split at hk
  .rename_i hn;refine⟨cs,hk,fun K' h=>by grind [GO],fun h h2 e=>Cf fun c hc=>Vs fun r hr=>e r (jr hc r hr)⟩
  simp_all
 .rename_i hna;split at hk
  .rename_i h1;split at hk
   .refine single hk fun K' h=>?_
    grind [GO]
   simp_all
  simp_all
theorem Sy{n sz:Nat}{t:Nat->AV}:∀{ps:List (Nat×Operand)} {es:List (List AV)} {h:Nat->HO} {K:List (List AV)->Prop},QI n sz h es t ps K ->
  ∃Fp,K Fp/\∀(t2:Nat->AV) (h2:Nat->HO),(∀r∈SX (ps.map fun p=>ev t p.2),h2 r=h r)->(∀p∈ps,ev t2 p.2=ev t p.2)->∀K' : List (List AV)->Prop,K' Fp->QI n sz h2 es t2 ps K'
 | [],es,h,K,hk=>⟨es,hk,fun _ _ _ _ _ h=>h⟩
 |(i,x)::r,es,h,K,hk=>by
  unfold QI at hk;split at hk
  .rename_i hb;obtain⟨cs,c1,c2,c3⟩:=Nt hk;obtain⟨Fp,e1,e2⟩:=Sy c1;refine⟨Fp,e1,fun t2 h2 hh ht K' hk'=>?_⟩;unfold QI;rw[hb,ht (i,x) (Ae ..)];refine c2 _ ?_;rw[c3 h h2 (fun r hr=>hh r (Bw _ hr))];exact e2 t2 h2 (fun r hr=>hh r (Ca _ hr)) (fun p hp=>ht p (Ah _ hp)) K' hk'
  simp_all
theorem HZ{d:Option Nat}{h:Nat->HO}{sz:Nat}{es:List (List AV)}(hk:EG cx d h sz es K) :
  ∃d',d.map (JD cx)=some d'/\∃v x,K v (AP h d' x)/\∀h2:Nat->HO,h2 d'=h d'->∀K' : HK,K' v (AP h2 d' x)->EG cx d h2 sz es K':=by
 unfold EG at hk;split at hk
 all_goals grind [EG]
theorem ZT{h:Nat->HO}{x:AV}{K:List (List AV)->Prop}(hk:Kt h x K):∃es,K es/\∀h2:Nat->HO,(∀r n,x=.msl r n->h2 r=h r)->∀K' : List (List AV)->Prop,K' es->Kt h2 x K':=by
 unfold Kt at hk
 grind [Kt]
end
section
variable {cx:Cx}{dst:Option Nat}{ty:Nat}{pos:String}{after:Array Edge}{gd:Option (Nat×Bool)}{st:St}{R:List Nat}{w:Option Nat}{K:HK}
theorem H9{d:Option Nat}{l:List Nat}{f:Fa}(h:H8 d l=some f):∃d',d=some d'/\f=(d' :: l,some d'):=by
 unfold H8 at h
 grind
theorem XA{e:Nat}(hk:FB cx true ⟨dst,.alloc e,ty,pos,after,gd⟩ st K)(hf:ET cx ⟨dst,.alloc e,ty,pos,after,gd⟩ st=some (R,w)):CG cx ⟨dst,.alloc e,ty,pos,after,gd⟩ st R w K:=by
 simp only[FB]at hk;have hb:Nat.beq e W9=false:=by
  grind [ET]
 simp only[ET,hb]at hf;obtain⟨d,rfl,e0⟩:=H9 hf;cases e0;unfold RV at hk;simp only[hb]at hk;split at hk
 .rename_i hd;split at hk
  .simp_all
  .rename_i CU;split at hk
   .rename_i ha;refine⟨_,some (d,_),hk,fun r o' e=>Wk,fun st2 GL K' h'=>?_⟩;simp only[FB,RV];rw[GL.h d (Ae ..),hd];simp only[ha,hb];exact h'
   simp_all
 simp_all
theorem dP{e:Nat}(hk:FB cx true ⟨dst,.box e x,ty,pos,after,gd⟩ st K)(hf:ET cx ⟨dst,.box e x,ty,pos,after,gd⟩ st=some (R,w)):CG cx ⟨dst,.box e x,ty,pos,after,gd⟩ st R w K:=by
 simp only[FB]at hk;obtain⟨d,rfl,e0⟩:=H9 hf;cases e0;unfold dv at hk;simp only at hk;split at hk
 .rename_i hd;split at hk
  .simp_all
  .rename_i CU;obtain⟨cs,c1,c2,c3⟩:=Nt hk;split at c1
   .rename_i hm;refine⟨_,some (d,_),c1,fun r o' e=>Wk,fun st2 GL K' h'=>?_⟩;have hx:ev st2.t x=ev st.t x:=GL.t x (by simp[Op.operands]);simp only[FB,dv];rw[GL.h d (Ae ..),hd,hx];simp only[hm];refine c2 _ ?_;rw[c3 st.h st2.h (fun r hr=>GL.h r (Ah _ hr))];exact h'
   .rename_i hm;refine⟨_,some (d,_),c1,fun r o' e=>Wk,fun st2 GL K' h'=>?_⟩;have hx:ev st2.t x=ev st.t x:=GL.t x (by simp[Op.operands]);simp only[FB,dv];rw[GL.h d (Ae ..),hd,hx];simp only[hm];exact c2 _ h'
 simp_all
theorem PD{t n:Nat}{ps:Array (Nat×Operand)}(hk:FB cx true ⟨dst,.buildSlice t n ps,ty,pos,after,gd⟩ st K)(hf:ET cx ⟨dst,.buildSlice t n ps,ty,pos,after,gd⟩ st=some (R,w)) :
  CG cx ⟨dst,.buildSlice t n ps,ty,pos,after,gd⟩ st R w K:=by
 simp only[FB]at hk;obtain⟨d,dV,e0⟩:=H9 hf;cases e0;unfold H5 at hk;split at hk
 .rename_i e he;split at hk
  .rename_i h1 h2;split at hk
   .simp_all
   .rename_i k EQ;split at hk
    .rename_i hb;obtain⟨es,q1,q2⟩:=Sy hk;obtain⟨d',hd,v,x,q3,q4⟩:=HZ q1;have hd:dst.map (JD cx)=some d':=hd;have dV:dst.map (JD cx)=some d:=dV;rw[dV]at hd;cases hd;refine⟨v,some (d,x),q3,fun r o' e=>Wk,fun st2 GL K' h'=>?_⟩;have hx:∀p∈ps.toList,ev st2.t p.2=ev st.t p.2:=fun p hp=>GL.t p.2 (by
      grind [Op.operands])
     simp only[FB,H5,he,h1,h2];split
     .omega
     .rw[hb];exact q2 st2.t st2.h (fun r hr=>GL.h r (Ah _ hr)) hx _ (q4 st2.h (GL.h d (Ae ..)) K' h')
    simp_all
  simp_all
 simp_all
theorem Rn{t:Nat}{n c:Operand}(hk:FB cx true ⟨dst,.makeSlice t n c,ty,pos,after,gd⟩ st K)(hf:ET cx ⟨dst,.makeSlice t n c,ty,pos,after,gd⟩ st=some (R,w)) :
  CG cx ⟨dst,.makeSlice t n c,ty,pos,after,gd⟩ st R w K:=by
 simp only[FB]at hk;obtain⟨d,dV,e0⟩:=H9 hf;cases e0;have hn:∀st2,Alike ⟨dst,.makeSlice t n c,ty,pos,after,gd⟩ (d::[]) st st2->ev st2.t n=ev st.t n/\ev st2.t c=ev st.t c:=fun st2 ha=>⟨ha.t n (by simp[Op.operands]),ha.t c (by simp[Op.operands])⟩;unfold I5 at hk;split at hk
 .rename_i e a b h1 h2 h3;split at hk
  .rename_i h4;split at hk
   .rename_i h5;split at hk
    .simp_all
    .rename_i k EQ;obtain⟨d',hd,v,x,q3,q4⟩:=HZ hk.2;have hd:dst.map (JD cx)=some d':=hd;have dV:dst.map (JD cx)=some d:=dV;rw[dV]at hd;cases hd;refine⟨v,some (d,x),q3,fun r o' e=>Wk,fun st2 GL K' h'=>?_⟩;simp only[FB,I5,(hn st2 GL).1,(hn st2 GL).2,h1,h2,h3,h4,h5];split
     .omega
     .exact⟨hk.1,q4 st2.h (GL.h d (Ae ..)) K' h'⟩
   simp_all
  simp_all
 simp_all
theorem Uk{t:Nat}{r:Option Operand}(hk:FB cx true ⟨dst,.makeMap t r,ty,pos,after,gd⟩ st K)(hf:ET cx ⟨dst,.makeMap t r,ty,pos,after,gd⟩ st=some (R,w)) :
  CG cx ⟨dst,.makeMap t r,ty,pos,after,gd⟩ st R w K:=by
 cases r with
 |some r=>exact hk.elim
 |none=>
  simp only[FB]at hk;obtain⟨d,rfl,e0⟩:=H9 hf;cases e0;unfold J5 at hk;simp only at hk;split at hk
  .rename_i hd;split at hk
   .rename_i h1;split at hk
    .rename_i h2;split at hk
     .rename_i h3;refine⟨_,some (d,_),hk,fun r o' e=>Wk,fun st2 GL K' h'=>?_⟩;simp only[FB,J5];rw[GL.h d (Ae ..),hd];simp only[h1,h2,h3];exact h'
     .rename_i h3;refine⟨_,some (d,_),hk,fun r o' e=>Wk,fun st2 GL K' h'=>?_⟩;simp only[FB,J5];rw[GL.h d (Ae ..),hd];simp only[h1,h2,h3];exact h'
    simp_all
   simp_all
  simp_all
theorem XB{t:Nat}(hk:FB cx true ⟨dst,.store t p x,ty,pos,after,gd⟩ st K)(hf:ET cx ⟨dst,.store t p x,ty,pos,after,gd⟩ st=some (R,w)) :
  CG cx ⟨dst,.store t p x,ty,pos,after,gd⟩ st R w K:=by
 simp only[FB]at hk;have hn:∀st2,Alike ⟨dst,.store t p x,ty,pos,after,gd⟩ R st st2->ev st2.t p=ev st.t p/\ev st2.t x=ev st.t x:=fun st2 ha=>⟨ha.t p (by simp[Op.operands]),ha.t x (by simp[Op.operands])⟩;unfold NU at hk;split at hk
 .simp_all
 .rename_i CU;obtain⟨cs,c1,c2,c3⟩:=Nt hk;simp only[ET]at hf;split at hf
  .rename_i r off hp;split at hf
   .cases hf
   .rename_i hm;cases hf;rw[hp]at c1;simp only at c1;split at c1
    .rename_i Dn hr;obtain⟨Ig,hk'⟩:=c1;rw[hm]at hk';refine⟨_,some (r,_),hk',fun r o' e=>Wk,fun st2 GL K' h'=>?_⟩;simp only[FB,NU,(hn st2 GL).1,(hn st2 GL).2];refine c2 _ ?_;rw[hp];simp only[GL.h r (Ae ..),hr,hm];exact⟨Ig,h'⟩
    simp_all
  .rename_i r n sz i off hp;cases hf;rw[hp]at c1;simp only at c1;split at c1
   .rename_i GS es hr;split at c1
    .rename_i hs;obtain⟨Ig,cell,e1,e2,hk'⟩:=c1;split at hk'
     .rename_i j m;refine⟨_,some (r,_),hk',fun r o' e=>Wk,fun st2 GL K' h'=>?_⟩;simp only[FB,NU,(hn st2 GL).1,(hn st2 GL).2];refine c2 _ ?_;rw[hp];simp only[GL.h r (Ae ..),hr,hs];exact⟨Ig,cell,e1,e2,h'⟩
     .rename_i OF;refine⟨_,some (r,_),hk',fun r o' e=>Wk,fun st2 GL K' h'=>?_⟩;simp only[FB,NU,(hn st2 GL).1,(hn st2 GL).2];refine c2 _ ?_;rw[hp];simp only[GL.h r (Ae ..),hr,hs];refine⟨Ig,cell,e1,e2,?_⟩;rw[c3 st.h st2.h (fun r hr=>GL.h r (Ah _ hr))];exact h'
    simp_all
   simp_all
  simp_all
theorem Ro{t:Nat}{m k:Operand}(hk:FB cx true ⟨dst,.mapUpdate t m k x,ty,pos,after,gd⟩ st K)(hf:ET cx ⟨dst,.mapUpdate t m k x,ty,pos,after,gd⟩ st=some (R,w)) :
  CG cx ⟨dst,.mapUpdate t m k x,ty,pos,after,gd⟩ st R w K:=by
 simp only[FB]at hk;have hn:∀st2,Alike ⟨dst,.mapUpdate t m k x,ty,pos,after,gd⟩ R st st2->ev st2.t m=ev st.t m/\ev st2.t k=ev st.t k/\ev st2.t x=ev st.t x:=fun st2 ha=>⟨ha.t m (by simp[Op.operands]),ha.t k (by simp[Op.operands]),ha.t x (by simp[Op.operands])⟩;simp only[ET]at hf;split at hf
 .rename_i r hm;cases hf;unfold GQ at hk;rw[hm]at hk;simp only at hk;split at hk
  .rename_i sh BU hr;unfold JF at hk;split at hk
   .rename_i kt e h1;split at hk
    .rename_i sh' h2;split at hk
     .rename_i h3;split at hk
      .rename_i kx h4;split at hk
       .rename_i h5;refine⟨_,some (r,_),hk,fun r o' e=>Wk,fun st2 GL K' h'=>?_⟩;obtain⟨n1,n2,n3⟩:=hn st2 GL;simp only[FB,GQ,n1,n2,n3,hm,GL.h r (Ae ..),hr,JF,h1,h2,h3,h4,h5];rw[Kg (h:=st.h) (h2:=st2.h) (fun r hr=>GL.h r (Ah _ hr))];exact h'
       simp_all
      simp_all
     simp_all
    simp_all
   simp_all
  .rename_i sh BU hr;unfold JF at hk;split at hk
   .rename_i kt e h1;split at hk
    .rename_i sh' h2;split at hk
     .rename_i h3;split at hk
      .rename_i kx h4;split at hk
       .rename_i h5;refine⟨_,some (r,_),hk,fun r o' e=>Wk,fun st2 GL K' h'=>?_⟩;obtain⟨n1,n2,n3⟩:=hn st2 GL;simp only[FB,GQ,n1,n2,n3,hm,GL.h r (Ae ..),hr,JF,h1,h2,h3,h4,h5];exact h'
       simp_all
      simp_all
     simp_all
    simp_all
   simp_all
  simp_all
 simp_all
theorem cz{A B:(AV->Prop)->Prop}(ha:FO A)(hb:FO B):FO fun K=>A K\/B K:=by
 intro K hk;rcases hk with hk | hk
 .obtain⟨v,h1,h2⟩:=ha K hk<;>grind
 .obtain⟨v,h1,h2⟩:=hb K hk<;>grind
theorem SG{fn:Fn}{first cap:Array Operand}(hk:FB cx true ⟨dst,.makeFunc fn first cap,ty,pos,after,gd⟩ st K)(hf:ET cx ⟨dst,.makeFunc fn first cap,ty,pos,after,gd⟩ st=some (R,w)) :
  CG cx ⟨dst,.makeFunc fn first cap,ty,pos,after,gd⟩ st R w K:=by
 simp only[FB]at hk;simp only[ET]at hf;cases hf;unfold J4 at hk;split at hk
 .rename_i f h1;refine⟨_,none,hk,fun r o' e=>(by cases e),fun st2 GL K' h'=>?_⟩;simp only[FB,h1,J4]
  have:cap.toList.map (fun x=>rsv st2.h (ev st2.t x))=cap.toList.map (fun x=>rsv st.h (ev st.t x)):=Cf fun x hx=>by
   rw[GL.t x (by grind [Op.operands])];exact ko fun r hr=>GL.h r (Yd (Ar.2 ⟨x,hx,rfl⟩) r hr)
  rw[this];exact h'
 simp_all
end
section
variable {cx:Cx}{dst:Option Nat}{ty:Nat}{pos:String}{after:Array Edge}{gd:Option (Nat×Bool)}{st:St}{R:List Nat}{w:Option Nat}{K:HK}
theorem aa{t:Nat}(hk:FB cx true ⟨dst,.load t p,ty,pos,after,gd⟩ st K)(hf:ET cx ⟨dst,.load t p,ty,pos,after,gd⟩ st=some (R,w)):CG cx ⟨dst,.load t p,ty,pos,after,gd⟩ st R w K:=by
 simp only[FB]at hk;have hn:∀st2,Alike ⟨dst,.load t p,ty,pos,after,gd⟩ R st st2->ev st2.t p=ev st.t p:=fun st2 ha=>ha.t p (by simp[Op.operands]);simp only[ET]at hf;unfold I4 at hk;split at hf
 .grind [Kd,FB,I4,CG.pick]
 .grind [Kd,FB,I4,List.mem_cons_self,CG.pick,Alike.h]
 .rename_i r n sz i off hp;cases hf;rw[hp]at hk;simp only at hk;split at hk
  all_goals grind [Kd,FB,I4,CG.pick,Alike.h]
 simp_all
theorem V4(hk:FB cx true ⟨dst,.assign x,ty,pos,after,gd⟩ st K)(hf:ET cx ⟨dst,.assign x,ty,pos,after,gd⟩ st=some (R,w)):CG cx ⟨dst,.assign x,ty,pos,after,gd⟩ st R w K:=by
 simp only[FB]at hk;have hn:∀st2,Alike ⟨dst,.assign x,ty,pos,after,gd⟩ R st st2->ev st2.t x=ev st.t x:=fun st2 ha=>ha.t x (by simp[Op.operands]);simp only[ET]at hf;split at hf
 .cases hf
 .rename_i hx;cases hf;have same:∃y,∀(h:Nat->HO) (K:HK),N9 cx dst h (ev st.t x) K↔K y h:=by
   unfold N9;cases dst with
   |none=>exact⟨_,fun _ _=>Iff.rfl⟩
   |some d=>
    simp only;cases Gv cx.pl.tok d with
    |some sz=>
     simp only;cases Nat.beq sz 0 with
     |true=>exact⟨_,fun _ _=>Iff.rfl⟩
     |false=>
      refine⟨ev st.t x,fun h K=>?_⟩;simp_all
    |none=>
     simp only;cases Gv cx.pl.arr d with
     |some sz=>
      refine⟨ev st.t x,fun h K=>?_⟩;simp_all
     |none=>exact⟨_,fun _ _=>Iff.rfl⟩
  obtain⟨y,same⟩:=same;exact .pick (Cy y) ((same _ _).1 hk) fun st2 ha K' h=>by grind [FB]
theorem QM{t:Nat}{lo hi mx:Option Operand}(hp:RZ cx.pl.tok dst=none)(hk:FB cx true ⟨dst,.slice t x lo hi mx,ty,pos,after,gd⟩ st K)(hf:ET cx ⟨dst,.slice t x lo hi mx,ty,pos,after,gd⟩ st=some (R,w)) :
  CG cx ⟨dst,.slice t x lo hi mx,ty,pos,after,gd⟩ st R w K:=by
 simp only[FB,hp]at hk;have hn:∀st2,Alike ⟨dst,.slice t x lo hi mx,ty,pos,after,gd⟩ R st st2->ev st2.t x=ev st.t x/\Cw st2.t lo=Cw st.t lo/\Cw st2.t hi=Cw st.t hi/\Cw st2.t mx=Cw st.t mx:=by
  grind [Option,Cw,Op.operands,Alike.t]
 simp only[ET,hp]at hf;split at hf
 .cases hf
 .rename_i hx;cases hf;have e3:Cw st.t none=some none:=rfl
  have Im:FO (fun K1=>HQ cx dst st.h t (ev st.t x) (Cw st.t lo) (Cw st.t hi) (some none) fun v _=>K1 v) /\
    ∀(h:Nat->HO) (K:HK),HQ cx dst h t (ev st.t x) (Cw st.t lo) (Cw st.t hi) (some none) K↔HQ cx dst st.h t (ev st.t x) (Cw st.t lo) (Cw st.t hi) (some none) (fun v _=>K v h):=by
   generalize ev st.t x=X at hx;unfold HQ;constructor
   .repeat' split
    all_goals first | exact Ci | exact Dt (Cy _) | exact Dt (Dt (Cy _)) | skip
    all_goals first | (rename_i e;cases e;done) | skip
    all_goals (exfalso;exact hx _ _ rfl)
   .intro h K
    repeat' split
    all_goals simp_all
    all_goals simp_all
  grind [FB,CG.pick]
 .rename_i y tk es hx;obtain⟨d,rfl,e0⟩:=H9 hf;cases e0;rw[hx]at hk;unfold HQ at hk;split at hk
  .rename_i HC LN o6 e1 e2 e3;split at hk
   .simp_all
   .rename_i e he;split at hk
    .simp_all
    .rename_i k EQ;simp only at hk;split at hk
     .grind [Cw]
     .rename_i m;split at hk
      .rename some d=some _=>e5
       cases e5
       split at hk
       .rename_i qi;refine⟨_,none,hk.2.2,fun r o' e=>(by cases e),fun st2 GL K' h'=>?_⟩;obtain⟨n1,n2,n3,n4⟩:=hn st2 GL;simp only[FB,hp];rw[n1,n2,n3,n4,hx,e1,e2,e3];unfold HQ;simp only[he];split
        .omega
        .simp only[qi];exact⟨hk.1,hk.2.1,h'⟩
       rename_i qi;split at hk
       .rename_i hd;refine⟨_,some (d,_),hk.2.2,fun r o' e=>Wk,fun st2 GL K' h'=>?_⟩;obtain⟨n1,n2,n3,n4⟩:=hn st2 GL;simp only[FB,hp];rw[n1,n2,n3,n4,hx,e1,e2,e3];unfold HQ;simp only[he];split
        .omega
        .simp only[qi];rw[GL.h d (Ae ..),hd];exact⟨hk.1,hk.2.1,h'⟩
       simp_all
      simp_all
   simp_all
  simp_all
 simp_all
theorem dR{t:Nat}{lo hi mx:Option Operand}{p:Nat}(hp:RZ cx.pl.tok dst=some p)(hk:FB cx true ⟨dst,.slice t x lo hi mx,ty,pos,after,gd⟩ st K)(hf:ET cx ⟨dst,.slice t x lo hi mx,ty,pos,after,gd⟩ st=some (R,w)) :
  Rz cx ⟨dst,.slice t x lo hi mx,ty,pos,after,gd⟩ st R w K:=by
 simp only[FB,hp]at hk;simp only[ET,hp]at hf;obtain⟨d',r,n,hd,hx,e0⟩:=ZZ hf;cases e0;cases dst with
 |none=>cases hd
 |some d=>
 cases hd
 unfold TE at hk;split at hk
 .rw[hx]at hk;unfold jW at hk;split at hk
  .rename_i d0 LN e1 e2;cases e1;split at hk
   .rename_i e he;split at hk
    .simp_all
    .rename_i k EQ;simp only at hk;split at hk
     .rename_i sz es hr;split at hk
      .rename_i hd;split at hk
       .rename_i q1 q3;obtain⟨h1,hk⟩:=hk;have hr8:r<10000000/\0<JD cx d:=Wk
        obtain⟨hr7,hz⟩:=hr8;refine⟨_,[(r,.dead),(JD cx d,_)],hk,fun r' o' e=>?_,fun st2 ha K' h'=>?_⟩
        .rcases AM.1 e with e | e
         .cases e
          refine⟨.inr (.inl ⟨by omega,.inl ?_⟩),Ae ..⟩;omega
         .obtain e:=AC.1 e;cases e;refine⟨.inr (.inl ⟨by omega,.inr ?_⟩),Ah _ (Ae ..)⟩;omega
        .have o1:Cw st2.t hi=Cw st.t hi:=by
          cases hi<;>grind [Cw,Op.operands,Alike.t]
         simp only[FB,hp];unfold TE;rw[ha.t x (by simp[Op.operands]),o1,hx,e2];unfold jW;simp only[he];split
         .omega
         .simp only[ha.h r (Ae ..),hr,ha.h (JD cx d) (Ah _ (Ae ..)),hd,q1,q3];exact⟨h1,h'⟩
       simp_all
      simp_all
     simp_all
   simp_all
  simp_all
 simp_all
theorem V3{s:Operand}{GI:Array TypeId}(hk:FB cx true ⟨dst,.call ⟨.builtin .append,#[s,x],GI⟩,ty,pos,after,gd⟩ st K)(hf:ET cx ⟨dst,.call ⟨.builtin .append,#[s,x],GI⟩,ty,pos,after,gd⟩ st=some (R,w)) :
  CG cx ⟨dst,.call ⟨.builtin .append,#[s,x],GI⟩,ty,pos,after,gd⟩ st R w K:=by
 have hk:FF cx dst st.h .append GI.toList [ev st.t s,ev st.t x] K:=hk;have hf:VZ cx dst (ev st.t s) (ev st.t x)=some (R,w):=hf;have hn:∀st2,Alike ⟨dst,.call ⟨.builtin .append,#[s,x],GI⟩,ty,pos,after,gd⟩ R st st2->ev st2.t s=ev st.t s/\ev st2.t x=ev st.t x:=fun st2 ha=>
  ⟨ha.t s (by simp[Op.operands,Call.operands]),ha.t x (by simp[Op.operands,Call.operands])⟩
 have LL:∀st2,Alike ⟨dst,.call ⟨.builtin .append,#[s,x],GI⟩,ty,pos,after,gd⟩ R st st2->∀K' : HK,FF cx dst st2.h .append GI.toList [ev st.t s,ev st.t x] K'->FB cx true ⟨dst,.call ⟨.builtin .append,#[s,x],GI⟩,ty,pos,after,gd⟩ st2 K':=by
  intro st2 ha K' h;rw[<-(hn st2 ha).1,<-(hn st2 ha).2]at h;exact h
 generalize GI.toList=l at hk LL
 match l,hk,LL with
 | [t,t'],hk,LL=>
  simp only[FF]at hk LL;split at hk
  .rename_i ht;simp only[ht]at LL;unfold HS at hk LL;split at hk
   .rename_i e he;simp only[he]at LL;split at hk
    .simp_all
    .rename_i hz;simp only[hz]at LL;split at hk
     .simp_all
     .rename_i k EQ;obtain⟨es2,q1,q2⟩:=ZT hk;have jb:∀d,R=d::fj (ev st.t x)->∀st2,Alike ⟨dst,.call ⟨.builtin .append,#[s,x],GI⟩,ty,pos,after,gd⟩ R st st2->∀r n,ev st.t x=.msl r n->st2.h r=st.h r:=fun d hR st2 ha r n e=>ha.h r (by rw[hR,e];simp[fj]);unfold VZ at hf;split at hf
      .rename_i hs;obtain⟨d,dV,e0⟩:=H9 hf;cases e0;rw[hs]at q1 LL;simp only at q1 LL;obtain⟨d',hd,v,y,q3,q4⟩:=HZ q1.2;rw[dV]at hd;cases hd;refine⟨v,some (d,y),q3,fun r o' e=>Wk,fun st2 GL K' h'=>LL st2 GL K' ?_⟩;split
       .omega
       .exact q2 st2.h (jb d rfl st2 GL) _ ⟨q1.1,q4 st2.h (GL.h d (Ae ..)) K' h'⟩
      .rename_i GS es hs;obtain⟨d,dV,e0⟩:=H9 hf;cases e0;rw[hs]at q1 LL;simp only at q1 LL;split at q1
       .rename_i h1;obtain⟨d',hd,v,y,q3,q4⟩:=HZ q1.2;rw[dV]at hd;cases hd;refine⟨v,some (d,y),q3,fun r o' e=>Wk,fun st2 GL K' h'=>LL st2 GL K' ?_⟩;split
        .omega
        .refine q2 st2.h (jb d rfl st2 GL) _ ?_;simp only[h1];exact⟨q1.1,q4 st2.h (GL.h d (Ae ..)) K' h'⟩
       simp_all
      .rename_i r GS es hs;cases hf;rw[hs]at q1 LL;simp only at q1 LL;split at q1
       .rename_i sz n hr;split at q1
        .rename_i h1 h2;refine⟨_,some (r,_),q1.2,fun r o' e=>Wk,fun st2 GL K' h'=>LL st2 GL K' ?_⟩;split
         .omega
         .refine q2 st2.h (jb r rfl st2 GL) _ ?_;simp only[GL.h r (Ae ..),hr,h1,h2];exact⟨q1.1,h'⟩
        simp_all
       simp_all
      .rename_i r n hs;cases hf;rw[hs]at q1 LL;simp only at q1 LL;split at q1
       .rename_i sz es hr;split at q1
        .rename_i h1;refine⟨_,some (r,_),q1.2,fun r o' e=>Wk,fun st2 GL K' h'=>LL st2 GL K' ?_⟩;split
         .omega
         .refine q2 st2.h (jb r rfl st2 GL) _ ?_;simp only[GL.h r (Ae ..),hr,h1];exact⟨q1.1,h'⟩
        simp_all
       simp_all
      simp_all
   simp_all
  simp_all
 | [],hk,_=>exact hk.elim
 | [_],hk,_=>exact hk.elim
 |_::_::_::_,hk,_=>exact hk.elim
theorem PW(t:Nat):FO (JH T t):=by
 unfold JH
 repeat' split
 all_goals first | exact Ci | exact Cy _
theorem TA(ty:Nat)(ok:Bool)(BU:List (Value×AV))(kx:Value):FO (LD T ty ok BU kx):=by
 unfold LD
 repeat' split
 .refine cz (OX fun a=>Dt (Cy _)) (Dt ?_);intro K hk;obtain⟨v,h1,h2⟩:=PW T _ _ hk<;>grind [PW]
 .exact cz (OX fun a=>Dt (Cy _)) (Dt (PW T _))
 .exact Ci
theorem YA(ty:Nat)(sh:Er)(k:AV){F:Value->(AV->Prop)->Prop}(h:∀x,FO (F x)):FO fun K=>JF T ty sh k fun kx=>F kx K:=by
 unfold JF
 repeat' split
 all_goals grind [Ci]
theorem V5{t:Nat}{m k:Operand}{ok:Bool}(hk:FB cx true ⟨dst,.lookup t m k ok,ty,pos,after,gd⟩ st K)(hf:ET cx ⟨dst,.lookup t m k ok,ty,pos,after,gd⟩ st=some (R,w)) :
  CG cx ⟨dst,.lookup t m k ok,ty,pos,after,gd⟩ st R w K:=by
 simp only[FB]at hk;have hn:∀st2,Alike ⟨dst,.lookup t m k ok,ty,pos,after,gd⟩ R st st2->ev st2.t m=ev st.t m/\ev st2.t k=ev st.t k:=fun st2 ha=>⟨ha.t m (by simp[Op.operands]),ha.t k (by simp[Op.operands])⟩;simp only[ET]at hf;unfold Mz at hk;split at hf
 .rename_i sh BU hm;cases hf;rw[hm]at hk;simp only at hk;exact .pick (YA _ _ _ _ fun _=>TA _ _ _ _ _) hk fun st2 ha K' h=>by grind [FB,Mz]
 .rename_i r hm;cases hf;rw[hm]at hk;simp only at hk;split at hk
  all_goals first | exact hk.elim | (rename_i e;exact .pick (YA _ _ _ _ fun _=>TA _ _ _ _ _) hk fun st2 ha K' h=>by grind [FB,Mz,Alike.h])
 simp_all
theorem jT(t:Nat)(h:Nat->HO)(x:AV):FO (QR T t h x):=by
 unfold QR
 repeat' split
 all_goals first | exact Ci | exact Cy _
theorem qN{T:Gf}{t:Nat}{h h2:Nat->HO}{x:AV}(e:∀r,x=.mref r->h2 r=h r){K:AV->Prop}:QR T t h2 x K=QR T t h x K:=by
 cases x<;>first | rfl | skip
 grind [QR]
theorem dQ{GI:Array TypeId}(hk:FB cx true ⟨dst,.call ⟨.builtin .len,#[x],GI⟩,ty,pos,after,gd⟩ st K)(hf:ET cx ⟨dst,.call ⟨.builtin .len,#[x],GI⟩,ty,pos,after,gd⟩ st=some (R,w)) :
  CG cx ⟨dst,.call ⟨.builtin .len,#[x],GI⟩,ty,pos,after,gd⟩ st R w K:=by
 have hk:FF cx dst st.h .len GI.toList [ev st.t x] K:=hk;have hf:GD cx dst (.builtin .len) st.t [ev st.t x]=some (R,w):=hf;have hn:∀st2,Alike ⟨dst,.call ⟨.builtin .len,#[x],GI⟩,ty,pos,after,gd⟩ R st st2->ev st2.t x=ev st.t x:=fun st2 ha=>ha.t x (by simp[Op.operands,Call.operands]);have LL:∀st2,Alike ⟨dst,.call ⟨.builtin .len,#[x],GI⟩,ty,pos,after,gd⟩ R st st2->∀K' : HK,FF cx dst st2.h .len GI.toList [ev st.t x] K'->FB cx true ⟨dst,.call ⟨.builtin .len,#[x],GI⟩,ty,pos,after,gd⟩ st2 K':=by
  intro st2 ha K' h;rw[<-hn st2 ha]at h;exact h
 generalize GI.toList=l at hk LL
 match l,hk,LL with
 | [t],hk,LL=>
  grind [GD,jT,FF,qN,CG.pick,Alike.h]
 | [],hk,_=>exact hk.elim
 |_::_::_,hk,_=>exact hk.elim
end
end Go.Eng
