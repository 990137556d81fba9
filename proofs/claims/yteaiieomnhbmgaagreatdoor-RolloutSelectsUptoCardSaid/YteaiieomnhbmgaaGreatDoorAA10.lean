/- Lemmas 10. -/
import Derived.Test.YteaiieomnhbmgaaGreatDoorAA09
namespace Go.Eng
variable {o:Oper}{K:HK}{args:Array Operand}{cx:Cx}{Hb:Array TypeId}{vals:Array Value}{after:Array Edge}{dr:Bool}{pos:String}{x:Value}{F:Fence}{o2:Oper}{T:GK}(σ:Jd)
theorem PO{h:Nat->HO}{d:Nat}:∀{n:Nat},Eb h d n=true->∀k,k<n->h (BJ d k)=.free
 |0,_,k,hk=>by omega
 |n+1,hf,k,hk=>by
  simp only[Eb,At]at hf
  by_cases e:k=n
  .grind
  .exact PO hf.2 k ch
theorem NU{d nn:Nat}:∀{σ:Jd},Di σ d nn=true->∀{i j},Cw σ i=some j->¬(BJ d 0<=i/\i<BJ d nn)
 | [],_,i,j,h=>by grind [Cw]
 |(a,b)::r,hs,i,j,hf=>by
  simp only[Di,At]at hs;unfold Cw at hf
  by_cases e1:a=i
  .grind [Nat.ble_eq_true_of_le,Nat.blt_eq]
  .simp only[DK e1,F7]at hf;exact NU hs.2 hf
section
variable {P:Program}{w0:World}{g0:Gh}{h0 h:Nat->HO}{g:Gh}{w:World}
def DU(g:Gh):Gh:=
 ⟨fun j=>match Ia σ j with | some i=>g.ρ i | none=>.nilIface,fun j=>match Ia σ j with | some i=>g.ln i | none=>0,fun j=>match Ia σ j with | some i=>g.tk i | none=>false,
  fun j=>match Ia σ j with | some i=>g.own i | none=>none,g.S⟩
def src(d nn:Nat)(i:Nat):Option Nat:=
 match Cw σ i with
 |some j=>some j
 |none=>match Nat.ble (BJ d 0) i&&Nat.blt i (BJ d nn)with |true=>some (2000+(i-BJ d 0)) |false=>none
def GW(d nn:Nat)(g g' : Gh):Gh:=
 ⟨fun i=>match src σ d nn i with | some j=>g'.ρ j | none=>g.ρ i,fun i=>match src σ d nn i with | some j=>g'.ln j | none=>g.ln i,fun i=>match src σ d nn i with | some j=>g'.tk j | none=>g.tk i,
  fun i=>match src σ d nn i with | some j=>g'.own j | none=>g.own i,g'.S⟩
theorem iQ(d nn:Nat)(h h' : Nat->HO)(i:Nat):Eh σ d nn h h' i=match src σ d nn i with | some j=>(h' j).ren (Fr σ d nn) h' | none=>h i:=by
 grind [Eh,src]
theorem pO{σ:Jd}{d nn:Nat}(hσ:EB σ=true)(ha:Di σ d nn=true)(i j:Nat):src σ d nn i=some j↔Fr σ d nn j=some i:=by
 have inv:=YQ hσ;unfold src Fr;cases h1:Cw σ i with
 |some j'=>
  have hb:=(inv i j').1 h1;dsimp only;constructor
  .grind
  .intro h;cases h2:Ia σ j with
   |some i'=>grind
   |none=>
    rw[h2]at h;dsimp only at h;split at h
    .rename_i hc;have h:=DY h;subst h;simp only[At,Nat.ble_eq,IA]at hc;exact absurd ⟨by grind [BJ],by grind [BJ]⟩ (NU ha h1)
    simp_all
 |none=>
  dsimp only;cases h2:Ia σ j with
  |some i'=>
   dsimp only;have hf:=(inv i' j).2 h2;have hr:=Xg hσ hf
   grind
  |none=>
   dsimp only;constructor
   .grind [Nat.ble_eq,Nat.blt_eq,BJ]
   .intro h;split at h
    .rename_i hc;have h:=DY h;subst h;simp only[At,Nat.ble_eq,IA]at hc;have e1:(Nat.ble (BJ d 0) (BJ d (j-2000))&&Nat.blt (BJ d (j-2000)) (BJ d nn))=true:=by
      grind [Nat.ble_eq,Nat.blt_eq,BJ]
     grind [BJ]
    simp_all
theorem Yl(hI:CU w0 g0 h0 h g w){σ:Jd}(hσ:EB σ=true):F3 (Cw σ) h (FH σ h) g (DU σ g) w/\CU w (DU σ g) (FH σ h) (FH σ h) (DU σ g) w:=by
 have inv:=YQ hσ;have FW:∀j,FH σ h j=match Ia σ j with | some i=>(h i).ren (Cw σ) h | none=>.free:=Qd _ _ σ
 have hR:F3 (Cw σ) h (FH σ h) g (DU σ g) w:=by
  refine⟨fun r r' hr hu=>?_,fun b o=>Iff.rfl,hI.objs⟩
  grind [DU,AJ,MT]
 have Kf:∀j,(FH σ h j).live->∃i,Ia σ j=some i/\(h i).live:=fun j hl=>by
  rw[FW]at hl;cases e:Ia σ j with
  |none=>rw[e]at hl;exact hl.elim
  |some i=>grind [MS]
 have Yt:∀j i,Ia σ j=some i->(DU σ g).own j=g.own i:=fun j i e=>by simp[DU,e]
 refine⟨hR,rfl,rfl,rfl,Ao _,fun _ _ _=>rfl,hI.slt,fun j=>?_,fun j j' b hl Sx e e'=>?_,fun j b hl e=>?_,fun _ _ h=>.inl h,hI.glob⟩
 .rw[FW];cases e:Ia σ j with
  |none=>trivial
  |some i=>
   by_cases hu:AJ h i
   .grind [DR.ren,CU.objs]
   .have:h i=.free:=CI.1 hu
    dsimp only;rw[this];trivial
 .obtain⟨i,e1,l1⟩:=Kf j hl;obtain⟨i',e2,l2⟩:=Kf j' Sx;rw[Yt j i e1]at e;rw[Yt j' i' e2]at e';obtain rfl:=hI.inj i i' b l1 l2 e e'
  have:=(inv i j).2 e1
  rw[(inv i j').2 e2]at this;simp_all
 .obtain⟨i,e1,l1⟩:=Kf j hl;have e0:=e;rw[Yt j i e1]at e;exact⟨(hI.loc i b l1 e).1,.inr ⟨j,hl,e0⟩⟩
theorem M2{C:(Ending->World->Prop)->Prop}(hm:∀{R R' : Ending->World->Prop},C R->(∀e w,R e w->R' e w)->C R')(hI:CU w0 g0 h0 h g w){σ:Jd}{d nn:Nat}(GX:(EB σ&&Eb h d nn&&Di σ d nn)=true){Q:AV->(Nat->HO)->Prop}
  (hc:CU w (DU σ g) (FH σ h) (FH σ h) (DU σ g) w->C (fun e w'=>∃v r h' g',e=Ending.returned v/\Q r h'/\Ba g' w' (AJ h') r v/\CU w (DU σ g) (FH σ h) h' g' w'/\Le (FH σ h) (DU σ g) w h' g' w')) {R:Ending->World->Prop}
  (fX:∀v r h' g2 w',Q r h'->CU w0 g0 h0 (Eh σ d nn h h') g2 w'->Le h g w (Eh σ d nn h h') g2 w'->Ba g2 w' (AJ (Eh σ d nn h h')) (ren (Fr σ d nn) h' r) v->R (.returned v) w'):C R:=by
 simp only[At]at GX;obtain⟨⟨hσ,hnf⟩,hap⟩:=GX;obtain⟨hF,r6⟩:=Yl hI hσ;have inv:=YQ hσ;have hsb:=pO hσ hap;refine hm (hc r6) ?_
 rintro e w' ⟨v,r,h',g',rfl,q1,q2,q3,q4⟩
 have hb:=iQ σ d nn h h';have wW:∀i j,src σ d nn i=some j->(GW σ d nn g g').ρ i=g'.ρ j/\(GW σ d nn g g').ln i=g'.ln j/\(GW σ d nn g g').tk i=g'.tk j/\(GW σ d nn g g').own i=g'.own j:=fun i j e=>by simp[GW,e]
 have hg3:∀i,src σ d nn i=none->(GW σ d nn g g').ρ i=g.ρ i/\(GW σ d nn g g').ln i=g.ln i/\(GW σ d nn g g').tk i=g.tk i/\(GW σ d nn g g').own i=g.own i:=fun i e=>by simp[GW,e]
 have hB:F3 (Fr σ d nn) h' (Eh σ d nn h h') g' (GW σ d nn g g') w':=by
  refine⟨fun j i hj hu=>?_,fun b o=>Iff.rfl,q3.objs⟩
  grind [AJ,MT]
 have AaK:∀j,FH σ h j=match Ia σ j with | some i=>(h i).ren (Cw σ) h | none=>.free:=Qd _ _ σ
 have Afr:∀j i,Cw σ i=some j->(h i).live->(FH σ h j).live:=fun j i e hl=>by
  grind [MS]
 have AhS:∀j i,Cw σ i=some j->(DU σ g).own j=g.own i:=fun j i e=>by grind [DU]
 have sc : ∀j,(FH σ h j).live->∃i,Cw σ i=some j/\(h i).live/\(DU σ g).own j=g.own i:=fun j hl=>by
  rw[AaK]at hl;cases e:Ia σ j with
  |none=>rw[e]at hl;exact hl.elim
  |some i=>grind [MS]
 -- what the callee may not touch
 have si:∀b,b<w.heap.size->(∀i,(h i).live->Cw σ i≠none->g.own i≠some b)->w'.heap[b]?=w.heap[b]?:=fun b EU hn=>q3.frame b EU fun j hl e=>by
  grind
 have hSs:∀b o,g'.S b o->b<w.heap.size->(∀i,(h i).live->Cw σ i≠none->g.own i≠some b)->g.S b o:=fun b o hs EU hn=>by
  rcases q3.sg b o hs with h1 | h1 | ⟨j,h1,h2⟩
  .exact h1
  all_goals grind
 have hk:EF g w (GW σ d nn g g') w':=q4.keeps;have Ae:∀i,Cw σ i=none->src σ d nn i≠none->h i=.free:=fun i e1 e2=>by
  unfold src at e2;rw[e1]at e2;dsimp only at e2;split at e2
  .rename_i hc;simp only[At,Nat.ble_eq,IA]at hc
   have:=PO hnf (i-BJ d 0) (by grind [BJ])
   grind [BJ]
  simp_all
 have xk:∀i j,Cw σ i=some j->src σ d nn i=some j:=fun i j e=>by grind [src]
 have hgl:Kr g (GW σ d nn g g') (AJ h):=fun i hu=>by
  cases e:Cw σ i with
  |some j=>
   obtain⟨k1,k2,k3,k4⟩:=wW i j (xk i j e);obtain⟨f1,f2,f3,f4,f5⟩:=hF.ids i j e hu;obtain⟨m1,m2,m3,m4⟩:=q4.gh j f5<;>simp_all
  |none=>
   have e2:src σ d nn i=none:=CI.1 fun e2=>hu (Ae i e e2);simp_all
 have Mh:∀i,AJ h i->AJ (Eh σ d nn h h') i:=fun i hu=>by
  grind [AJ,MT,src,Le.us,F3.ids]
 have jB:∀i,(Eh σ d nn h h' i).live->(∃j,src σ d nn i=some j/\(h' j).live/\(GW σ d nn g g').own i=g'.own j)\/(src σ d nn i=none/\(h i).live/\(GW σ d nn g g').own i=g.own i/\Cw σ i=none):=fun i hl=>by
  grind [src,MS]
 have AaI:∀j b,(h' j).live->g'.own j=some b->b<w'.heap.size/\(w.heap.size<=b\/∃i,Cw σ i≠none/\(h i).live/\g.own i=some b):=fun j b hl e=>by
  grind [CU.loc]
 have zD:∀i b,(h i).live->g.own i=some b->Cw σ i=none->∀i',(h i').live->Cw σ i'≠none->g.own i'≠some b:=fun i b hl e hn i' Sx qG e'=>by
  obtain rfl:=hI.inj i i' b hl Sx e e';simp_all
 refine fX v r h' (GW σ d nn g g') w' q1 ⟨q3.os.trans hI.os,q3.tape.trans hI.tape,q3.output.trans hI.output,Av hI.size q3.size,fun b EU hn=>?_,q3.slt,fun i=>?_,fun i i' b hl Sx e e'=>?_,fun i b hl e=>?_,fun b o hs=>?_,hI.glob.keep hk⟩ ⟨hgl,Mh,hk⟩ (q2.ren hB)
 .grind [CU.loc,CU.frame]
 .rw[hb];cases e:src σ d nn i with
  |some j=>
   by_cases hu:AJ h' j
   .grind [DR.ren,CU.objs]
   .have:h' j=.free:=CI.1 hu
    dsimp only;rw[this];trivial
  |none=>
   obtain⟨k1,k2,k3,k4⟩:=hg3 i e;have e2:Cw σ i=none:=by
    cases e2:Cw σ i<;>grind [Cw]
   refine(hI.objs i).same hk Mh hgl k1 k2 k3 k4 fun b hl ho=>?_;have EU:=(hI.loc i b hl ho).1;exact⟨si b EU (zD i b hl ho e2),fun k hs=>hSs b k hs EU (zD i b hl ho e2)⟩
 .have mixed:∀i j i',(h' j).live->g'.own j=some b->(h i').live->g.own i'=some b->Cw σ i'=none->i=i':=fun i j i' l1 o1 l2 o2 n2=>by
   rcases(AaI j b l1 o1).2 with h1 | ⟨i3,n3,l3,o3⟩
   .have:=(hI.loc i' b l2 o2).1;omega
   grind
  rcases jB i hl with ⟨j,s1,l1,o1⟩ | ⟨s1,l1,o1,n1⟩<;>rcases jB i' Sx with ⟨j',s2,l2,o2⟩ | ⟨s2,l2,o2,n2⟩
  .obtain rfl:=q3.inj j j' b l1 l2 B0 B0;simp_all
  .exact mixed i j i' l1 B0 l2 B0 n2
  .exact(mixed i' j' i l2 B0 l1 B0 n1).symm
  .exact hI.inj i i' b l1 l2 B0 B0
 .rcases jB i hl with ⟨j,s1,l1,o1⟩ | ⟨s1,l1,o1,n1⟩
  .obtain⟨h1,h2⟩:=AaI j b l1 B0;refine⟨h1,?_⟩;rcases h2 with h2 | ⟨i3,n3,l3,o3⟩
   .exact .inl (Av hI.size h2)
   .exact(hI.loc i3 b l3 o3).2
  .obtain⟨h1,h2⟩:=hI.loc i b l1 B0
   grind
 .rcases q3.sg b o hs with h1 | h1 | ⟨j,h1,h2⟩
  .exact hI.sg b o h1
  .exact .inr (.inl (Av hI.size h1))
  .obtain⟨i,e1,l1,o1⟩:=sc j h1;exact .inr (hI.loc i b l1 (by rw[<-o1];exact h2)).2
theorem mj(hI:CU w0 g0 h0 h g w){σ:Jd}{d nn:Nat}(GX:(EB σ&&Eb h d nn&&Di σ d nn)=true){f:Nat}{args:List AV}{Q:AV->(Nat->HO)->Prop}(hc:AU P f args (FH σ h) Q)(hs:vals.size=args.length)(hv:∀(i:Nat) (av:AV) (x:Value),args[i]?=some av->vals[i]?=some x->Ba (DU σ g) w (AJ (FH σ h)) av x){R:Ending->World->Prop}(fX:∀v r h' g2 w',Q r h'->CU w0 g0 h0 (Eh σ d nn h h') g2 w'->Le h g w (Eh σ d nn h h') g2 w'->Ba g2 w' (AJ (Eh σ d nn h h')) (ren (Fr σ d nn) h' r) v->R (.returned v) w'):Calls P f vals w R:=
 M2 (C:=Calls P f vals w) (fun h k=>h.mono k) hI GX (hc.2 (DU σ g) w vals hs hv) fX
end
structure SR(N:Nat)(ds:List Deferred)(w0:World)(g0:Gh)(h0:Nat->HO)(st:St)(g:Gh)(a:Act)(w:World):Prop where
 inv:CU w0 g0 h0 st.h g w
 le:Le h0 g0 w0 st.h g w
 dfs:a.defers=ds
 size:a.tmps.size=N
 slots:∀i,Ba g w (AJ st.h) (st.t i) (a.tmps.getD i undef)
section
variable {P:Program}{N:Nat}{ds:List Deferred}{w0:World}{g0:Gh}{h0:Nat->HO}{st:St}{g:Gh}{a:Act}{w:World}
theorem SR.eval(hS:SR N ds w0 g0 h0 st g a w)(x:Operand):Ba g w (AJ st.h) (ev st.t x) (a.eval x):=by
 cases x with
 |tmp i=>exact hS.slots i
 |const v=>exact .v _ _
 |global b=>exact .v _ _
 |func f=>exact .v _ _
theorem SR.put(hS:SR N ds w0 g0 h0 st g a w){d:Option Nat}(hd:∀i,d=some i->i<N){v:AV}{x:Value}{h' : Nat->HO}{g' : Gh}{w' : World}(hI:CU w0 g0 h0 h' g' w')(Jk:Le st.h g w h' g' w')(hr:Ba g' w' (AJ h') v x) :
  SR N ds w0 g0 h0 (st.put d v h') g' (a.put d x) w':=by
 have old:∀i,Ba g' w' (AJ h') (st.t i) (a.tmps.getD i undef):=fun i=>(hS.slots i).le Jk;cases d with
 |none=>exact⟨hI,hS.le.trans Jk,hS.dfs,hS.size,old⟩
 |some d=>
  have hdN:=hd d rfl;refine⟨hI,hS.le.trans Jk,hS.dfs,by simp[Act.put,hS.size],fun i=>?_⟩;simp only[St.put,Act.put,JU]
  by_cases e:i=d
  .subst e
   have:i<a.tmps.size:=by grind [SR.size]
   simp_all
  .simp only[DK e,F7];rw[N1,Array.getElem?_setIfInBounds_ne (Ne.symm e),<-N1];simp_all
def cE(w0:World)(g0:Gh)(h0 h:Nat->HO)(g:Gh)(w:World)(K:HK)(next:Value->World->Prop):Prop:=
 ∀v h' g' w' x,K v h'->CU w0 g0 h0 h' g' w'->Le h g w h' g' w'->Ba g' w' (AJ h') v x->next x w'
theorem DP{m:Sem Value}{next:Act->World->Prop}{Q:Exit->Act->World->Prop}(hx:execOp a.eval o=(do pure (Next.value (<-m))))(hd:N2 P w0 g0 h0 st.h g w m K)(hn:cE w0 g0 h0 st.h g w K fun x w'=>next (a.put o.dst x) w'):o.wp P a w next Q:=by
 obtain⟨x,w',g',av,h',h1,h2,h3,h4,h5⟩:=hd;unfold Oper.wp;rw[hx,Sem.run_bind,h1];exact hn av h' g' w' x h2 h3 h4 h5
theorem Y9{m:Sem Unit}{next:Act->World->Prop}{Q:Exit->Act->World->Prop}(hx:execOp a.eval o=(do m;pure Next.skip))(hd:lE P w0 g0 h0 st.h g w m K)(hn:cE w0 g0 h0 st.h g w K fun x w'=>next (a.put o.dst x) w'):o.wp P a w next Q:=by
 obtain⟨w',g',h',h1,h2,h3,h4⟩:=hd;unfold Oper.wp;rw[hx,Sem.run_bind,h1];exact hn _ h' g' w' undef h2 h3 h4 (.v _ _)
theorem iz{next:Act->World->Prop}{Q:Exit->Act->World->Prop}{v:AV}(hI:CU w0 g0 h0 st.h g w)(hx:(execOp a.eval o).run P w=.ok (.value x) w)(hk:K v st.h)(hr:Ba g w (AJ st.h) v x)(hn:cE w0 g0 h0 st.h g w K fun x w'=>next (a.put o.dst x) w'):o.wp P a w next Q:=by
 unfold Oper.wp;rw[hx];exact hn _ _ _ _ _ hk hI (.refl _ _ _) hr
theorem TA{C:(Ending->World->Prop)->Prop}(hm:∀{R R' : Ending->World->Prop},C R->(∀e w,R e w->R' e w)->C R')(hI:CU w0 g0 h0 st.h g w){Q:AV->(Nat->HO)->Prop}
  (hc:CU w g Ae Ae g w->C (fun e w'=>∃v r h' g',e=Ending.returned v/\Q r h'/\Ba g' w' (AJ h') r v/\CU w g Ae h' g' w'/\Le Ae g w h' g' w')) {R:Ending->World->Prop}
  (hR:∀v r h' g' w',Q r h'->h'=Ae->CU w0 g0 h0 st.h g' w'->Le st.h g w st.h g' w'->Ba g' w' FD r v->R (.returned v) w') (hQ:∀r h',Q r h'->h'=Ae):C R:=by
 have hU:AJ Ae=FD:=by grind [AJ,FD,Ae]
 have r6:CU w g Ae Ae g w:=⟨rfl,rfl,rfl,Ao _,fun _ _ _=>rfl,hI.slt,fun _=>trivial,fun _ _ _ h=>h.elim,fun _ _ h=>h.elim,fun _ _ h=>.inl h,hI.glob⟩;refine hm (hc r6) ?_
 rintro e w' ⟨v,r,h',g',rfl,q1,q2,q3,q4⟩
 obtain rfl:=hQ r h' q1;rw[hU]at q2
 -- the caller's ghost,with the callee's stable cells
 have hk:EF g w ⟨g.ρ,g.ln,g.tk,g.own,g'.S⟩ w':=q4.keeps;have hg:Kr g ⟨g.ρ,g.ln,g.tk,g.own,g'.S⟩ (AJ st.h):=fun _ _=>⟨rfl,Ao _,fun _=>rfl,fun _=>rfl⟩;have si:∀b,b<w.heap.size->w'.heap[b]?=w.heap[b]?:=fun b hb=>q3.frame b hb (fun _ h=>h.elim);have hSs:∀b o,g'.S b o->b<w.heap.size->g.S b o:=fun b o hs hb=>by
  rcases q3.sg b o hs with h1 | h1 | ⟨_,h1,_⟩
  .exact h1
  .omega
  .exact h1.elim
 refine hR v r Ae ⟨g.ρ,g.ln,g.tk,g.own,g'.S⟩ w' q1 rfl ⟨q3.os.trans hI.os,q3.tape.trans hI.tape,q3.output.trans hI.output,Av hI.size q3.size,fun b hb hn=>?_,q3.slt,fun i=>?_,hI.inj,fun i b hl ho=>?_,fun b o hs=>?_,hI.glob.keep hk⟩ ⟨hg,fun _ h=>h,hk⟩ ?_
 .exact(si b (Bm hb hI.size)).trans (hI.frame b hb hn)
 .refine(hI.objs i).same hk (fun _ h=>h) hg rfl rfl rfl rfl (fun b hl ho=>?_);have EU:=(hI.loc i b hl ho).1;simp_all
 .obtain⟨h1,h2⟩:=hI.loc i b hl ho<;>grind [Nat.lt_of_lt_of_le]
 .rcases q3.sg b o hs with h1 | h1 | ⟨_,h1,_⟩
  .grind [CU.sg]
  .exact .inr (.inl (Av hI.size h1))
  .exact h1.elim
 .have:EF g' w' ⟨g.ρ,g.ln,g.tk,g.own,g'.S⟩ w':=fun b o h=>⟨h,rfl,fun _ _ h=>h⟩
  exact q2.mono this (fun _ h=>h) (fun _ h=>h.elim)
theorem iW(hI:CU w0 g0 h0 st.h g w){f:Nat}{args:List AV}{Q:AV->(Nat->HO)->Prop}(hc:AU P f args Ae Q)(hs:vals.size=args.length)(hv:∀(i:Nat) (av:AV) (x:Value),args[i]?=some av->vals[i]?=some x->Ba g w FD av x){R:Ending->World->Prop}(hR:∀v r h' g' w',Q r h'->h'=Ae->CU w0 g0 h0 st.h g' w'->Le st.h g w st.h g' w'->Ba g' w' FD r v->R (.returned v) w')(hQ:∀r h',Q r h'->h'=Ae):Calls P f vals w R:=
 have hU:AJ Ae=FD:=by grind [AJ,FD,Ae]
 TA (C:=Calls P f vals w) (fun h k=>h.mono k) hI (hc.2 g w vals hs (fun i av x h1 h2=>by grind)) hR hQ
theorem YieldAt.imp{m:Nat}{P:Program}{l:Nat}{args:Array Value}{W:World}{R R' : Ending->World->Prop}(h:YieldAt F m P l args W R)(hr:∀e w,R e w->R' e w):YieldAt F m P l args W R':=
 let ⟨fn,t,a,b,h1,h2⟩:=h
 ⟨fn,t,a,b,h1,h2.mono hr⟩
theorem I0.imp{Y:Gh->World->Prop}{l:Nat}{args:List AV}{h0:Nat->HO}{Q Q' : AV->(Nat->HO)->Prop}(h:I0 P Y l args h0 Q)(hq:∀r h',Q r h'->Q' r h'):I0 P Y l args h0 Q':=
 fun g w vals q1 q2 q3 q4=>YieldAt.imp (h g w vals q1 q2 q3 q4) fun _ _ ⟨v,r,h',g',e1,e2,rest⟩=>⟨v,r,h',g',e1,hq _ _ e2,rest⟩
theorem Gi.imp{Y:Nat->Gh->World->Prop}{F:AV}{args:List AV}{h0:Nat->HO}{Q Q' : AV->(Nat->HO)->Prop}(h:Gi P Y F args h0 Q)(hq:∀r h',Q r h'->Q' r h'):Gi P Y F args h0 Q':=by
 have one:∀{f:Nat} {l:List AV},AU P f l h0 Q->AU P f l h0 Q':=fun hc=>
  ⟨hc.1,fun g w vals q1 q2 q3=>(hc.2 g w vals q1 q2 q3).mono fun _ _ ⟨v,r,h',g',e1,e2,rest⟩=>⟨v,r,h',g',e1,hq _ _ e2,rest⟩⟩
 unfold Gi at h⊢
 grind [I0.imp]
abbrev J5(ro:Option Nat):Fence:={ Fence.wide with round:=ro }
theorem Nl{ro:Option Nat}{a:Act}{w:World}{next:Act->World->Prop}{Q:Exit->Act->World->Prop}(hd:∀c,o.op≠.defer c)(h:o.wp P a w next Q):o.wpIn (J5 ro) 0 P a w next Q:=by
 refine⟨fun _ _=>trivial,?_⟩;have e:o.semAt (J5 ro).round a.eval=execOp a.eval o:=Oper.semAt_eq ro a.eval o hd;rw[e];unfold Oper.wp at h;have key:∀res:Result Next,o.upon P a next Q res->o.uponIn (J5 ro) 0 P a next Q res:=fun res h=>by
  cases res with
  |ok n w'=>cases n with
   |enter f args=>exact(show(_->_)/\CallsIn (J5 ro) 0 P f args w' _ from⟨fun e=>by(cases e),callsIn_wide.2 h⟩)
   |row r args=>exact(show(_->_)/\RowsIn (J5 ro) 0 P r args w' _ from⟨fun e=>by(cases e),fun c cs _=>by
     obtain⟨v,ik,r',s⟩:=h c cs;exact⟨v,ik,r',stepsIn_wide.2 s⟩⟩)
   |round _ _ _ _ _=>exact h.elim
   |_=>exact h
  |halt x w'=>cases x<;>exact h
 simp_all
theorem GO{f:Nat}{args:Array Value}(h:FL P f)(w:World):(callFunc f args).run P w=.ok (.enter f args) w:=by
 obtain⟨fn,h1,h2,h3⟩:=h<;>grind [callFunc,Sem.run_bind,run_program,Result.andThen_ok,Sem.run_pure]
theorem U4{h:Nat->HO}{a:AV}(ha:gH a=true):ren (Cw []) h a=str h a:=by
 have h0:∀a,ren0 (Cw []) h a=str0 h a:=fun a=>by
  cases a with
  |slice tk es=>cases tk<;>rfl
  |_=>rfl
 cases a with
 |tup cs=>cases ha
 |agg cs=>show AV.agg _=AV.agg _;simp_all
 |clo f cs=>show AV.clo f _=AV.clo f _;simp_all
 |v x=>exact h0 (.v x)
 |slice tk es=>exact h0 (.slice tk es)
 |msl r n=>exact h0 (.msl r n)
 |cptr cs=>exact h0 (.cptr cs)
 |ref r o=>exact h0 (.ref r o)
 |eref r n sz i o=>exact h0 (.eref r n sz i o)
 |mref r=>exact h0 (.mref r)
 |cmap sh l=>exact h0 (.cmap sh l)
 |junk=>rfl
theorem Rg{h:Nat->HO}:∀{l:List AV},UK l=true->l.map (ren (Cw []) h)=l.map (str h)
 | [],_=>rfl
 |a::l,e=>by
  unfold UK at e;split at e
  .rename_i e1;rw[Bq,Bq,U4 e1,Rg e]
  simp_all
theorem Rz:∀{l:List AV} {vs:List Value},Xz l=some vs->l=vs.map .v
 | [],vs,h=>by cases h;rfl
 |.v x::r,vs,h=>by
  unfold Xz at h;split at h
  .rename_i l e;cases h;rw[Bq,<-Rz e]
  simp_all
theorem iV{d:Option Nat}{st:St}{F:AV}{args:List AV}(hk:Gu cx true d st F args K):Gu cx false d st F args K:=by
 unfold Gu at hk;simp only at hk;split at hk
 .exact⟨.pure,hk⟩
 .split at hk
  .simp_all
  .rename_i d _;obtain⟨n,sz,es,h1,h2,h3⟩:=hk;simp only[At]at h1;refine⟨.gen [] 1,?_⟩;show(EB []&&Eb st.h d 1&&Di [] d 1)=true/\_;refine⟨by grind [EB,Di],?_⟩;rw[U4 h1.1.2,Rg h1.2];show Gi cx.P (fun l=>cx.yp l []) _ _ Ae _;refine Gi.imp h2 ?_
   rintro r h' ⟨e2,e3⟩
   subst e2;subst e3;have e1:ren (Fr [] d 1) (Ak [(2000,.arr sz es)] Ae) (.msl 2000 n)=.msl (BJ d 0) n:=rfl;have e2:Eh [] d 1 st.h (Ak [(2000,.arr sz es)] Ae)=AO st.h (BJ d 0) (.arr sz es):=by
    funext i
    by_cases e:i=BJ d 0
    .subst e;rw[A5];have hb:(Nat.ble (BJ d 0) (BJ d 0)&&Nat.blt (BJ d 0) (BJ d 1))=true:=by
      grind [BJ,Nat.ble_eq,Nat.blt_eq]
     simp only[Eh,Cw,hb,IS];rfl
    grind [BR,BJ,Nat.ble_eq,Nat.blt_eq,Eh,Cw]
   simp_all
 .split at hk
  .unfold Y1 at hk;split at hk
   .simp_all
   .rename_i d _;obtain⟨sz,es,h1,h2,h3⟩:=hk;simp only[At]at h1;refine⟨.gen [] 1,?_⟩;show(EB []&&Eb st.h d 1&&Di [] d 1)=true/\_;refine⟨by grind [EB,Di],?_⟩;rw[U4 h1.1.2,Rg h1.2];show Gi cx.P (fun l=>cx.yp l []) _ _ Ae _;refine Gi.imp h2 ?_
    rintro r h' ⟨e2,e3⟩
    subst e2;subst e3;have e1:ren (Fr [] d 1) (Ak [(2000,.tok sz es.length)] Ae) (.slice (.id 2000 sz) es)=.slice (.id (BJ d 0) sz) es:=rfl;have e2:Eh [] d 1 st.h (Ak [(2000,.tok sz es.length)] Ae)=AO st.h (BJ d 0) (.tok sz es.length):=by
     funext i
     by_cases e:i=BJ d 0
     .subst e;rw[A5];have hb:(Nat.ble (BJ d 0) (BJ d 0)&&Nat.blt (BJ d 0) (BJ d 1))=true:=by
       grind [BJ,Nat.ble_eq,Nat.blt_eq]
      simp only[Eh,Cw,hb,IS];rfl
     grind [BR,BJ,Nat.ble_eq,Nat.blt_eq,Eh,Cw]
    simp_all
  split at hk
  .unfold Vq at hk;split at hk
   .rename_i d l vs e2 z1;have hl:=Rz e2;split at hk
    .rename_i r sz es ic n e3 e4;obtain⟨⟨rfl,rfl⟩,v,FR,n',h1,h2⟩:=hk;refine⟨.gen [(1000,1000),(1001,1001)] 0,?_⟩;show(EB [(1000,1000),(1001,1001)]&&Eb st.h d 0&&Di [(1000,1000),(1001,1001)] d 0)=true/\_;refine⟨?_,?_⟩
     .have:Di [(1000,1000),(1001,1001)] d 0=true:=by
       grind [Nat.ble_eq,Nat.blt_eq,Di]
      rw[this];rfl
     have f1:args.map (ren (Cw [(1000,1000),(1001,1001)]) st.h)=vs.map .v:=by rw[hl,Bw];rfl
     have f2:FH [(1000,1000),(1001,1001)] st.h=Ak [(1000,.cells [.slice (.id 1001 ic) es]),(1001,.tok ic n)] Ae:=by
      unfold FH YP YP YP;rw[e3,e4];rfl
     rw[f1,f2];refine I0.imp h1 ?_
     rintro r h' ⟨g1,g2⟩
     subst g1;subst g2;have f3:Eh [(1000,1000),(1001,1001)] d 0 st.h (Ak [(1000,.cells [.slice (.id 1001 ic) FR]),(1001,.tok ic n')] Ae)=AO (AO st.h 1001 (.tok ic n')) 1000 (.cells [.slice (.id 1001 ic) FR]):=by
      funext i
      by_cases e:i=1000
      .subst e;rw[A5];rfl
      .rw[BR _ _ _ _ e]
       by_cases e' : i=1001
       .subst e';rw[A5];rfl
       .rw[BR _ _ _ _ e'];have hn:Cw [(1000,1000),(1001,1001)] i=none:=by simp[Cw,DK (Ne.symm e),DK (Ne.symm e')]
        have:(Nat.ble (BJ d 0) i&&Nat.blt i (BJ d 0))=false:=by
         grind [Nat.ble_eq,Nat.blt_eq]
        grind [Eh]
     rw[f3];exact h2
    simp_all
   simp_all
  unfold Sh at hk;split at hk
  .unfold aw at hk;split at hk
   .rename_i d f caps uS _;obtain⟨σ,H0,Hn,args',res,g1,g2,g3,g4⟩:=hk;simp only[At]at g2;obtain⟨k1,k2⟩:=g1 st.h fun _ _=>rfl;refine⟨.gen σ 0,?_⟩;show(EB σ&&Eb st.h d 0&&Di σ d 0)=true/\_;refine⟨by rw[g2.1.1,g2.1.2];rfl,?_⟩;have key:Gi cx.P (fun l=>cx.yp l σ) (ren (Cw σ) st.h F) (args.map (ren (Cw σ) st.h)) (Ak H0 Ae) (fun r h'=>r=res/\h'=Ak Hn Ae):=by
     rw[<-k2]at g3;unfold m7 at uS;split at uS
     .cases uS
      rw[FQ,Bg]at g3;exact g3
     .cases uS
      exact g3
     simp_all
    grind [Gi.imp]
   simp_all
  unfold Sm at hk;split at hk
  .rename_i dd f r n l _;split at hk
   .rename_i vs gp;have hl:=Rz gp;subst hl;split at hk
    .rename_i sz es hr;have hf:Cw [(r,1000)] r=some 1000:=by simp[Cw]
     have e1:ren (Cw [(r,1000)]) st.h (.v (.func (.func f) ⟨[]⟩ ⟨[]⟩))=.v (.func (.func f) ⟨[]⟩ ⟨[]⟩):=rfl;have e2:(AV.msl r n::vs.map AV.v).map (ren (Cw [(r,1000)]) st.h)=.msl 1000 n::vs.map .v:=by
      rw[Bq]
      congr 1
      .grind [ren,ren1,ren0]
      .rw[Bw];rfl
     have e3:FH [(r,1000)] st.h=Ak [(1000,.arr sz es)] Ae:=by
      unfold FH YP;rw[hr];rfl
     split at hk
     .obtain⟨n',FR,h1,h2⟩:=hk;refine⟨.gen [(r,1000)] 0,?_⟩;show(EB [(r,1000)]&&Eb st.h dd 0&&Di [(r,1000)] dd 0)=true/\_;refine⟨?_,?_⟩
      .have:Di [(r,1000)] dd 0=true:=by
        grind [Di,Nat.ble_eq,Nat.blt_eq]
       rw[this];rfl
      rw[e1,e2,e3];refine⟨h1.1,fun g w vals q1 q2 q3=>(h1.2 g w vals q1 q2 q3).mono fun _ _ ⟨v,r',h',g',e1,⟨e2,e3⟩,rest⟩=>⟨v,r',h',g',e1,?_,rest⟩⟩;subst e2;subst e3;have f1:ren (Fr [(r,1000)] dd 0) (Ak [(1000,.arr sz FR)] Ae) (.msl 1000 n')=.msl r n':=rfl;have f2:Eh [(r,1000)] dd 0 st.h (Ak [(1000,.arr sz FR)] Ae)=AO st.h r (.arr sz FR):=by
       funext i
       by_cases e:i=r
       .grind [A5,Eh,Ak,HO.ren,Nat.beq_refl]
       .rw[BR _ _ _ _ e];have hn:Cw [(r,1000)] i=none:=by grind [Cw,DK]
        have:(Nat.ble (BJ dd 0) i&&Nat.blt i (BJ dd 0))=false:=by
         grind [Nat.ble_eq,Nat.blt_eq]
        grind [Eh]
      simp_all
     .obtain⟨n',FR,h0,h1,h2⟩:=hk;simp only[At,IA,FA]at h0;have hrd:r≠BJ dd 0:=fun e=>by simp_all
      refine⟨.gen [(r,1000)] 1,?_⟩;show(EB [(r,1000)]&&Eb st.h dd 1&&Di [(r,1000)] dd 1)=true/\_;refine⟨?_,?_⟩
      .have:Di [(r,1000)] dd 1=true:=by
        grind [Di,BJ,Nat.ble_eq,Nat.blt_eq]
       rw[this,h0.1.1];rfl
      rw[e1,e2,e3];refine⟨h1.1,fun g w vals q1 q2 q3=>(h1.2 g w vals q1 q2 q3).mono fun _ _ ⟨v,r',h',g',e1,⟨e2,e3⟩,rest⟩=>⟨v,r',h',g',e1,?_,rest⟩⟩;subst e2;subst e3;have f1:ren (Fr [(r,1000)] dd 1) (Ak [(1000,.dead),(2000,.arr sz FR)] Ae) (.msl 2000 n')=.msl (BJ dd 0) n':=rfl;have f2:Eh [(r,1000)] dd 1 st.h (Ak [(1000,.dead),(2000,.arr sz FR)] Ae)=AO (AO st.h r .dead) (BJ dd 0) (.arr sz FR):=by
       funext i
       by_cases e:i=BJ dd 0
       .subst e;rw[A5];have hn:Cw [(r,1000)] (BJ dd 0)=none:=by grind [Cw]
        have hb:(Nat.ble (BJ dd 0) (BJ dd 0)&&Nat.blt (BJ dd 0) (BJ dd 1))=true:=by
         grind [BJ,Nat.ble_eq,Nat.blt_eq]
        simp only[Eh,hn,hb,IS];rfl
       .rw[BR _ _ _ _ e]
        by_cases e4:i=r
        .grind [A5,Eh,Ak,HO.ren,Nat.beq_refl]
        .rw[BR _ _ _ _ e4];have hn:Cw [(r,1000)] i=none:=by grind [Cw,DK]
         have:(Nat.ble (BJ dd 0) i&&Nat.blt i (BJ dd 1))=false:=by
          grind [Nat.ble_eq,Nat.blt_eq,BJ]
         grind [Eh]
      simp_all
    simp_all
   simp_all
  simp_all
theorem mh{d:Option Nat}{f:Operand}{dst:Option Nat}{ty:Nat}{gd:Option (Nat×Bool)}{next:Act->World->Prop}{Q:Exit->Act->World->Prop}(hP:cx.P=P)(hY:∀l σ h g w,EB σ=true->CU w0 g0 h0 h g w->Le h0 g0 w0 h g w->cx.yp l σ (DU σ g) w){ro:Option Nat}(hS:SR N ds w0 g0 h0 st g a w)(hk:Gu cx dr d st (ev st.t f) (args.toList.map (ev st.t)) K)(hn:cE w0 g0 h0 st.h g w K fun x w'=>next (a.put dst x) w'):Oper.wpIn (J5 ro) 0 P ⟨dst,.call ⟨.value f,args,Hb⟩,ty,pos,after,gd⟩ a w next Q:=by
 subst hP;have hk:Gu cx false d st (ev st.t f) (args.toList.map (ev st.t)) K:=by
  cases dr<;>grind [iV]
 have LW:∀(i:Nat) (av:AV) (x:Value),((args.toList.map (ev st.t)).map (str st.h))[i]?=some av->(args.map a.eval)[i]?=some x->Ba g w FD av x:=by
  intro i av x h1 h2;rw[B1,B1]at h1;rw[Array.getElem?_map]at h2;cases ho:args[i]? with
  |none=>simp_all
  |some y=>
   rw[ho]at h2;have hy:args.toList[i]?=some y:=B0
   rw[hy]at h1;simp only[Option.map_some,DJ]at h1 h2;subst h1;subst h2;exact Ba.str hS.inv.objs (hS.eval y)
 have Dr:(args.map a.eval).size=((args.toList.map (ev st.t)).map (str st.h)).length:=Cl
 have hF:=Ba.str hS.inv.objs (hS.eval f)
 -- a call of yield
 have yl:∀(l:Nat) (R:Ending->World->Prop),a.eval f=.func (.yield l) #[] #[]->YieldAt Fence.wide 0 cx.P l (args.map a.eval) w R->(∀e w',R e w'->∃v,e=.returned v/\next (a.put dst v) w') ->
   Oper.wpIn (J5 ro) 0 cx.P ⟨dst,.call ⟨.value f,args,Hb⟩,ty,pos,after,gd⟩ a w next Q:=by
  rintro l R hx ⟨fn,tm,GU,bd,h1,h2⟩ hR
  refine⟨fun _ _=>trivial,?_⟩;have e:(⟨dst,.call ⟨.value f,args,Hb⟩,ty,pos,after,gd⟩:Oper).semAt (J5 ro).round a.eval=execOp a.eval ⟨dst,.call ⟨.value f,args,Hb⟩,ty,pos,after,gd⟩:=Oper.semAt_eq ro a.eval _ (fun c e=>by cases e);have CP:(execOp a.eval ⟨dst,.call ⟨.value f,args,Hb⟩,ty,pos,after,gd⟩).run cx.P w=.ok (.round l fn tm GU bd) w:=by
   grind [execOp,resolve,Deferred.ofValue,invoke]
  rw[e,CP];refine(show(_->_)/\RoundIn (J5 ro) 0 cx.P l fn tm GU bd w _ from⟨fun e=>by(cases e),RoundIn.mono h2 fun e w' h=>?_⟩)
  grind
 -- the call itself
 have go:∀(Q' : AV->(Nat->HO)->Prop),(∀r h',Q' r h'->h'=Ae/\K r st.h)->Gi cx.P (fun _ _ _=>True) (str st.h (ev st.t f)) ((args.toList.map (ev st.t)).map (str st.h)) Ae Q' ->
   Oper.wpIn (J5 ro) 0 cx.P ⟨dst,.call ⟨.value f,args,Hb⟩,ty,pos,after,gd⟩ a w next Q:=by
  intro Q' hQ hc
  have fin:∀{fn:Nat} {l:List AV} {vals:Array Value},AU cx.P fn l Ae Q'->vals.size=l.length->(∀(i:Nat) (av:AV) (x:Value),l[i]?=some av->vals[i]?=some x->Ba g w FD av x) ->
    (execOp a.eval ⟨dst,.call ⟨.value f,args,Hb⟩,ty,pos,after,gd⟩).run cx.P w=.ok (.enter fn vals) w->Oper.wpIn (J5 ro) 0 cx.P ⟨dst,.call ⟨.value f,args,Hb⟩,ty,pos,after,gd⟩ a w next Q:=by
   intro fn l vals hc hs hv CP;refine Nl (fun c e=>by cases e) ?_;unfold Oper.wp;rw[CP];exact iW hS.inv hc hs hv (fun v r h' g' w' hq _ hI Jk hr=>hn r _ g' w' v (hQ r h' hq).2 hI Jk (hr.up _)) (fun r h' hq=>(hQ r h' hq).1)
  unfold Gi at hc;split at hc
  .rename_i fn e;rw[e]at hF;have hx:=hF.v_eq;refine fin hc Dr LW ?_;have Sy : a.eval f=.func (.func fn) #[] #[]:=hx;simp only[execOp,resolve,Sy,Deferred.ofValue,Sem.run_bind,Sem.run_pure,Result.andThen_ok,invoke];rw[GO hc.1];simp
  .rename_i fn caps e;rw[e]at hF;generalize hx:a.eval f=fv at hF;cases hF with
   |clo _ _ _ vs FE Py=>
    refine fin hc (vals:=args.map a.eval++vs) B0 (fun i av x h1 h2=>?_) ?_
    .grind
    .simp only[execOp,resolve,hx,Deferred.ofValue,Sem.run_bind,Sem.run_pure,Result.andThen_ok,invoke];rw[GO hc.1];simp
  .rename_i l e;rw[e]at hF;have hU:AJ Ae=FD:=by grind [AJ,FD,Ae]
   refine yl l _ hF.v_eq (TA (C:=YieldAt Fence.wide 0 cx.P l (args.map a.eval) w) (R:=fun e w'=>∃v,e=.returned v/\next (a.put dst v) w') YieldAt.imp hS.inv (fun r6=>hc g w _ Dr (fun i av x h1 h2=>by grind) r6 trivial)
    (fun v r h' g' w' hq _ hI Jk hr=>⟨v,rfl,hn r _ g' w' v (hQ r h' hq).2 hI Jk (hr.up _)⟩) (fun r h' hq=>(hQ r h' hq).1)) fun _ _ h=>h
  simp_all
 have pure:(∃res,Qw cx.P (str st.h (ev st.t f)) ((args.toList.map (ev st.t)).map (str st.h)) res/\K res st.h)->Oper.wpIn (J5 ro) 0 cx.P ⟨dst,.call ⟨.value f,args,Hb⟩,ty,pos,after,gd⟩ a w next Q:=by
  rintro⟨res,h1,h2⟩
  refine go (fun r h'=>r=res/\h'=Ae) (fun r h' hq=>⟨hq.2,by simp_all⟩) ?_;unfold Qw at h1;unfold Gi;split at h1
  .rename_i fn e;rw[e];exact h1
  .rename_i fn caps e;rw[e];exact h1
  simp_all
 unfold Gu at hk
 .obtain⟨m,hm⟩:=hk;cases m with
  |pure=>grind
  |rel=>grind
  |gen σ nn=>
   simp only at hm;cases d with
   |none=>simp_all
   |some d=>
    simp only at hm;obtain⟨GX,hc⟩:=hm;have hσ:EB σ=true:=B0
    obtain⟨hR,_⟩:=Yl hS.inv hσ;have nw:=(hS.eval f).ren hR;have dx:∀(i:Nat) (av:AV) (x:Value),((args.toList.map (ev st.t)).map (ren (Cw σ) st.h))[i]?=some av->(args.map a.eval)[i]?=some x->Ba (DU σ g) w (AJ (FH σ st.h)) av x:=by
     grind [Ba.ren,SR.eval]
    have Um:(args.map a.eval).size=((args.toList.map (ev st.t)).map (ren (Cw σ) st.h)).length:=Cl
    have fin:∀{fn:Nat} {l:List AV} {vals:Array Value},AU cx.P fn l (FH σ st.h) (fun r h'=>K (ren (Fr σ d nn) h' r) (Eh σ d nn st.h h'))->vals.size=l.length ->
      (∀(i:Nat) (av:AV) (x:Value),l[i]?=some av->vals[i]?=some x->Ba (DU σ g) w (AJ (FH σ st.h)) av x) ->
      (execOp a.eval ⟨dst,.call ⟨.value f,args,Hb⟩,ty,pos,after,gd⟩).run cx.P w=.ok (.enter fn vals) w->Oper.wpIn (J5 ro) 0 cx.P ⟨dst,.call ⟨.value f,args,Hb⟩,ty,pos,after,gd⟩ a w next Q:=by
     intro fn l vals hc hs hv CP;refine Nl (fun c e=>by cases e) ?_;unfold Oper.wp;rw[CP];exact mj hS.inv GX hc hs hv (fun v r h' g' w' hq hI Jk hr=>hn _ _ g' w' v hq hI Jk hr)
    unfold Gi at hc;split at hc
    .rename_i fn e;rw[e]at nw;have hx:a.eval f=.func (.func fn) #[] #[]:=nw.v_eq;refine fin hc Um dx ?_;simp only[execOp,resolve,hx,Deferred.ofValue,Sem.run_bind,Sem.run_pure,Result.andThen_ok,invoke];rw[GO hc.1];simp
    .rename_i fn caps e;rw[e]at nw;generalize hx:a.eval f=fv at nw;cases nw with
     |clo _ _ _ vs FE Py=>
      refine fin hc (vals:=args.map a.eval++vs) B0 (fun i av x h1 h2=>?_) ?_
      .grind
      .simp only[execOp,resolve,hx,Deferred.ofValue,Sem.run_bind,Sem.run_pure,Result.andThen_ok,invoke];rw[GO hc.1];simp
    .rename_i l e;rw[e]at nw
     exact yl l _ nw.v_eq (M2 (C:=YieldAt Fence.wide 0 cx.P l (args.map a.eval) w) (R:=fun e w'=>∃v,e=.returned v/\next (a.put dst v) w') YieldAt.imp hS.inv GX (fun r6=>hc (DU σ g) w _ Um dx r6 (hY l σ _ _ _ hσ hS.inv hS.le))
      (fun v r h' g' w' hq hI Jk hr=>⟨v,rfl,hn _ _ g' w' v hq hI Jk hr⟩)) fun _ _ h=>h
    simp_all
  |geny σ nn=>
   simp only at hm;cases d with
   |none=>simp_all
   |some d=>
    simp only at hm;obtain⟨GX,hc⟩:=hm;have hσ:EB σ=true:=B0
    obtain⟨hR,_⟩:=Yl hS.inv hσ;have nw:=(hS.eval f).ren hR;have dx:∀(i:Nat) (av:AV) (x:Value),((args.toList.map (ev st.t)).map (ren (Cw σ) st.h))[i]?=some av->(args.map a.eval)[i]?=some x->Ba (DU σ g) w (AJ (FH σ st.h)) av x:=by
     grind [Ba.ren,SR.eval]
    have Um:(args.map a.eval).size=((args.toList.map (ev st.t)).map (ren (Cw σ) st.h)).length:=Cl
    split at hc
    .rename_i fn caps e;rw[e]at nw;generalize hx:a.eval f=fv at nw;cases nw with
     |clo _ _ _ vs FE Py=>
      have CP:(execOp a.eval ⟨dst,.call ⟨.value f,args,Hb⟩,ty,pos,after,gd⟩).run cx.P w=.ok (.enter fn (args.map a.eval++vs)) w:=by
       simp only[execOp,resolve,hx,Deferred.ofValue,Sem.run_bind,Sem.run_pure,Result.andThen_ok,invoke];rw[GO hc.1];simp
      refine Nl (fun c e=>by cases e) ?_;unfold Oper.wp;rw[CP];refine M2 (C:=Calls cx.P fn (args.map a.eval++vs) w) (fun h k=>h.mono k) hS.inv GX (fun r6=>hc.2 (DU σ g) w _ B0 (fun i av x h1 h2=>?_) r6 (fun l=>hY l σ _ _ _ hσ hS.inv hS.le)) (fun v r h' g' w' hq hI Jk hr=>hn _ _ g' w' v hq hI Jk hr)
      grind
    simp_all
end
section
variable {P:Program}{N:Nat}{ds:List Deferred}{w0:World}{g0:Gh}{h0:Nat->HO}{st:St}{g:Gh}{a:Act}{w:World}
theorem ZF(hT:Ca P cx.T){b:Builtin}{dst:Option Nat}{ty:Nat}{gd:Option (Nat×Bool)}{next:Act->World->Prop}{Q:Exit->Act->World->Prop}(hS:SR N ds w0 g0 h0 st g a w)(hk:F4 cx dst st.h b Hb.toList (args.toList.map (ev st.t)) K)(hn:cE w0 g0 h0 st.h g w K fun x w'=>next (a.put dst x) w'):Oper.wp P ⟨dst,.call ⟨.builtin b,args,Hb⟩,ty,pos,after,gd⟩ a w next Q:=by
 have hI:=hS.inv;have hE:=hS.eval;obtain⟨l⟩:=args;obtain⟨tl⟩:=Hb;unfold F4 at hk;split at hk
 .rename_i x t e1 e2
  match l,e1 with
  | [y],e1=>
   simp only[Bq,FQ,JW,and_true]at e1;subst e1;simp only at e2;subst e2;exact DP (m:=Builtin.len_ #[t] ty #[a.eval y]) (by simp[execOp,resolve,invoke,builtin]) (Bv.does hI (oo hT hI.objs (hE y) hk)) hn
 .rename_i s x t t' e1 e2
  match l,e1 with
  | [y,z],e1=>
   simp only[Bq,FQ,JW,and_true]at e1;obtain⟨rfl,rfl⟩:=e1;simp only at e2;subst e2;split at hk
   .rename_i ht;obtain rfl:=A3 ht;exact DP (m:=Builtin.append_ #[t,t] ty #[a.eval y,a.eval z]) (by simp[execOp,resolve,invoke,builtin]) (cQ hI hT (hE y) (hE z) hk) hn
   simp_all
 .rename_i x y Hb e1
  match l,e1 with
  | [y,z],e1=>
   simp only[Bq,FQ,JW,and_true]at e1;obtain⟨rfl,rfl⟩:=e1;exact DP (m:=Builtin.max_ ⟨tl⟩ ty #[a.eval y,a.eval z]) (by simp[execOp,resolve,invoke,builtin]) (Bv.does hI (sL (hE y) (hE z) hk)) hn
 .rename_i x y Hb e1
  match l,e1 with
  | [y,z],e1=>
   simp only[Bq,FQ,JW,and_true]at e1;obtain⟨rfl,rfl⟩:=e1;exact DP (m:=Builtin.min_ ⟨tl⟩ ty #[a.eval y,a.eval z]) (by simp[execOp,resolve,invoke,builtin]) (Bv.does hI (sN (hE y) (hE z) hk)) hn
 simp_all
theorem qX(hT:Ca P cx.T){next:Act->World->Prop}{Q:Exit->Act->World->Prop}(hS:SR N ds w0 g0 h0 st g a w)(hk:FZ cx dr o st K)(hv:∀f args Hb,o.op≠.call ⟨.value f,args,Hb⟩)(hn:cE w0 g0 h0 st.h g w K fun x w'=>next (a.put o.dst x) w'):o.wp P a w next Q:=by
 have hI:=hS.inv;have hE:=hS.eval;obtain⟨dst,op,ty,pos,after,gd⟩:=o;unfold FZ at hk;cases op with
 |move x=>exact iz hI (x:=a.eval x) rfl hk (hE x) hn
 |assign x=>
  obtain⟨g',av,h',q1,q2,q3,q4⟩:=cS hI (hE x) hk;exact hn _ _ _ _ _ q1 q2 q3 q4
 |pick c x y=>exact DP (m:=do pure (if <-asBool (a.eval c)then a.eval x else a.eval y)) (by simp[execOp]) (Bv.does hI (pf (hE c) (hE x) (hE y) hk)) hn
 |alloc e=>exact DP rfl (iI hI hT hk) hn
 |box e x=>exact DP rfl (ri hI (hE x) hk) hn
 |build t ps=>exact DP rfl (Bv.does hI (iU hT hE hk)) hn
 |buildSlice t n ps=>exact DP rfl (Tz hI hT hE hk) hn
 |insert t m k x=>exact Y9 rfl (NS hI hT (hE m) (hE k) (hE x) hk) hn
 |load t x=>exact DP rfl (Bv.does hI (WR hI.objs hT (hE x) hk)) hn
 |store t p x=>exact Y9 rfl (kY hI hT (hE p) (hE x) hk) hn
 |nilCheck x=>
  obtain⟨h1,h2⟩:=YH (P:=P) (w:=w) (hE x) hk (pos:=pos) (after:=after) (gd:=gd) (dst:=dst) (ty:=ty) (ρ:=a.eval) rfl<;>grind [iz]
 |binOp op t x y u=>exact DP rfl (Bv.does hI (lV hT (hE x) (hE y) (fun v e=>by subst e;rfl) hk)) hn
 |unOp op t x=>exact DP rfl (Bv.does hI (p9 (hE x) hk)) hn
 |convert s t x=>
  cases dr with
  |true=>exact DP rfl (Bv.does hI (ZN hT (hE x) hk)) hn
  |false=>exact DP rfl (jb hI hT (hE x) hk) hn
 |makeFunc fn first cap=>exact DP rfl (Bv.does hI (YC hI.objs hE hk)) hn
 |makeMap t r=>
  cases r with
  |some r=>simp_all
  |none=>exact DP rfl (aY hI hk) hn
 |makeSlice t n c=>exact DP rfl (VN hI hT (hE n) (hE c) hk) hn
 |slice t x lo hi mx=>
  cases dr with
  |true=>
   cases hp:Tt cx.pl.tok dst with
   |none=>
    have hk' : Io cx dst st.h t (ev st.t x) (CT st.t lo) (CT st.t hi) (CT st.t mx) K:=by
     simp_all
    exact DP rfl (Xn hI hT hE (hE x) hk') hn
   |some _=>
    have hk' : UZ cx dst st.h t (ev st.t x) lo (CT st.t hi) mx K:=by
     simp_all
    unfold UZ at hk';split at hk'
    .exact DP rfl (gR hI hT hE (hE x) hk') hn
    simp_all
  |false=>
   cases hp:Tt cx.pl.tok dst with
   |none=>
    have hk' : Io cx dst st.h t (ev st.t x) (CT st.t lo) (CT st.t hi) (CT st.t mx) K:=by
     simp_all
    exact DP rfl (Xn hI hT hE (hE x) hk') hn
   |some _=>
    have hk' : py cx dst st.h t (ev st.t x) st.t lo hi mx K:=by
     simp_all
    cases lo with
    |some lo=>exact DP rfl (bO hI hT hE (hE x) hk') hn
    |none=>
     unfold py at hk';dsimp only at hk';split at hk'
     .exact DP rfl (Bv.does hI (iN hI.objs hT (hE x) hk')) hn
     .unfold UZ at hk';split at hk'
      .exact DP rfl (gR hI hT hE (hE x) hk') hn
      simp_all
 |fieldAddr s x f=>exact DP rfl (Bv.does hI (jk hT (hE x) hk)) hn
 |field s x f=>exact DP rfl (Bv.does hI (dj hT (hE x) hk)) hn
 |indexAddr t x i=>exact DP rfl (Bv.does hI (VI hT (hE x) (hE i) hk)) hn
 |index t x i=>exact DP rfl (Bv.does hI (jI hT (hE x) (hE i) hk)) hn
 |lookup t x i ok=>
  have hk:Ng cx.T st.h t (ev st.t x) (ev st.t i) ok fun v=>K v st.h:=by
   grind [jT]
  exact DP rfl (Bv.does hI (dP hT hI.objs (hE x) (hE i) hk)) hn
 |mapUpdate t m k x=>exact Y9 rfl (NS hI hT (hE m) (hE k) (hE x) hk) hn
 |range t x=>
  simp only at hk;split at hk
  .rename_i kt e ht;exact DP rfl (kL hI hT ht (hE x) hk) hn
  simp_all
 |next it s=>
  cases s with
  |true=>simp_all
  |false=>exact DP rfl (oJ hI (hE it) hk) hn
 |entry it=>exact DP rfl (Bv.does hI (ji hI.objs (hE it) hk)) hn
 |extract x i=>exact DP rfl (Bv.does hI (ab (hE x) hk)) hn
 |call c=>
  obtain⟨zh,args,Hb⟩:=c<;>grind [ZF]
 |_=>simp_all
theorem lO(hP:cx.P=P)(hY:∀l σ h g w,EB σ=true->CU w0 g0 h0 h g w->Le h0 g0 w0 h g w->cx.yp l σ (DU σ g) w){ro:Option Nat}(hT:Ca P cx.T){next:Act->World->Prop}{Q:Exit->Act->World->Prop}(hS:SR N ds w0 g0 h0 st g a w)(hk:FZ cx dr o st K)(hn:cE w0 g0 h0 st.h g w K fun x w'=>next (a.put o.dst x) w'):o.wpIn (J5 ro) 0 P a w next Q:=by
 by_cases hv:∃f args Hb,o.op=.call ⟨.value f,args,Hb⟩
 .obtain⟨f,args,Hb,e⟩:=hv;obtain⟨dst,op,ty,pos,after,gd⟩:=o;cases e;exact mh hP hY hS hk hn
 .refine Nl (fun c e=>?_) (qX hT hS hk (fun f args Hb e=>hv ⟨f,args,Hb,e⟩) hn);obtain⟨dst,op,ty,pos,after,gd⟩:=o;cases e;exact hk.elim
theorem Abu{p:Nat->Prop}(h:∃n,p n):∃n,p n/\∀m,m<n->¬p m:=by
 apply Aq;intro hc
 have:∀n,¬p n:=fun n=>by
  induction n using Nat.strongRecOn<;>grind [Nat.strongRecOn]
 simp_all
theorem SH{m:Nat}{c:Code}{Q:Exit->Act->World->Prop}(I:Nat->Act->World->Prop)(k:Nat)(h0:I k a w)(round:∀n a w,I n a w->c.wpIn F m P (Exit.then (fun a' w'=>∃n',n' < n/\I n' a' w') Q) a w):(Code.loop c).wpIn F m P Q a w:=by
 classical
 have hex:∀a w,(∃n,I n a w)->∃n,I n a w/\∀n',n' < n->¬I n' a w:=fun a w h=>Abu h;refine wpIn_loop (fun a w=>∃n,I n a w) (fun a w=>if h:∃n,I n a w then(hex a w h).choose else 0) ⟨k,h0⟩ fun a w h=>?_;have hs:=(hex a w h).choose_spec;refine wpIn_mono (round _ a w hs.1) fun e a' w' q=>?_;cases e with
 |normal=>
  obtain⟨n',EU,hn⟩:=q;have h' : ∃n,I n a' w':=⟨n',hn⟩;refine⟨h',?_⟩
  grind
 |_=>exact q
end
section
variable {P:Program}{N:Nat}{ds:List Deferred}{w0:World}{g0:Gh}{h0:Nat->HO}{st:St}{g:Gh}{a:Act}{w:World}
theorem iX(hT:Ca P T){ty e k ty2 b o n c:Nat}(ht:(T ty).d=.slice e)(hk:(T e).size=k+1)(hz:(T e).zc.length=k+1)(Ys:∀v∈(T e).zc,v.oneCell'=true){Ep:Array Value}{E:TypeId}(hb:w.heap[b]?=some (.cells Ep E (0,0)))(hn:0<n)(Jk:o+n*(k+1)<=Ep.size) :
  (Builtin.clear_ #[ty] ty2 #[.slice (some ⟨b,o,none⟩) n c]).run P w=.ok (.tuple #[]) (w.setRow b (over Ep.toList o (List.replicate n (T e).zc).flatten).toArray):=by
 obtain⟨z,z1,z2⟩:=XD (w:=w) hT hk;have xn:(T e).zc≠[]:=fun e0=>by simp_all
 have xf:(Builtin.zeroCells z.cells n).toList=(List.replicate n (T e).zc).flatten:=by
  rw[H4 n _ xn,hz,z2];have e6:z.cells.size=k+1:=B0
  unfold Builtin.zeroCells;simp[e6,Array.getElem!_eq_getD]
 have Dr:(List.replicate n (T e).zc).flatten.length=n*(k+1):=by
  simp_all
 have KP:=run_storeCells_at P b o E (List.replicate n (T e).zc).flatten 0 Ep w hb ch (fun v hv=>by
  grind [List.mem_flatten])
 simp only[HD]at KP;rw[No _ _ _ B0];obtain⟨m,rfl⟩:∃m,n=m+1:=⟨n-1,by omega⟩;simp only[Builtin.clear_,Sem.run_bind,List.getElem?_toArray,EG,run_underlying (hT.slice ht),Result.andThen_ok,z1,xf,KP,Sem.run_pure]
theorem de(hT:Ca P T){ty e ty2 c:Nat}(ht:(T ty).d=.slice e)(x:Option Addr) :
  (Builtin.clear_ #[ty] ty2 #[.slice x 0 c]).run P w=.ok (.tuple #[]) w:=by
 cases x<;>simp only[Builtin.clear_,Sem.run_bind,List.getElem?_toArray,EG,run_underlying (hT.slice ht),Result.andThen_ok,Sem.run_pure]
theorem pp{d:Nat}(hd:d<a.tmps.size):(a.put (some d) x).eval (.tmp d)=x:=by
 show(a.tmps.setIfInBounds d x).getD d undef=x;simp_all
theorem nL(h:Nat->HO)(r:Nat):AO h r (h r)=h:=funext fun i=>by
 grind [A5,BR]
theorem dI(h:aO o o2=true):∃ty x lo d ty2 pos after yi tt XM,o=⟨some d,.slice ty x (some lo) none none,ty2,pos,after,none⟩/\o2=⟨none,.call ⟨.builtin .clear,#[.tmp d],#[ty]⟩,yi,tt,XM,none⟩:=by
 obtain⟨dst,op,t2,p1,a1,gd⟩:=o;obtain⟨Ajo,op2,t3,p2,a2,gd2⟩:=o2;unfold aO at h;split at h
 .rename_i c e1;split at h
  .rename_i e2;split at h
   .rename_i ty x lo e3;split at h
    .rename_i d d' ty' e4 e5 e6 e7 e8 e9;obtain⟨zh,⟨args⟩,⟨Hb⟩⟩:=c;simp only at e1 e2 e3 e4 e5 e6 e7 e8 e9;simp only[At]at h;obtain rfl:=A3 h.1;obtain rfl:=A3 h.2;subst e1 e2 e3 e4 e5 e6 e7 e8 e9
     grind
    simp_all
   simp_all
  simp_all
 simp_all
theorem rz(hT:Ca P cx.T){ro:Option Nat}(hd:∀i,o.dst=some i->i<N)(hc:aO o o2=true){K:St->Prop}(hS:SR N ds w0 g0 h0 st g a w)(hk:ry cx o st K){next:Act->World->Prop}{Q:Exit->Act->World->Prop}(hn:∀EM g' a' w',K EM->SR N ds w0 g0 h0 EM g' a' w'->next a' w') :
  o.guard=none/\o2.guard=none/\o.wpIn (J5 ro) 0 P a w (fun a1 w1=>o2.wpIn (J5 ro) 0 P a1 w1 next Q) Q:=by
 obtain⟨ty,x,lo,d,ty2,pos,after,yi,tt,XM,rfl,rfl⟩:=dI hc;refine⟨rfl,rfl,?_⟩;have hI:=hS.inv;have hE:=hS.eval;have hdN:d<a.tmps.size:=by grind [SR.size]
 -- what is to be shown of the two operations
 have two:∀(v:Value) (EM : St) (g' : Gh) (w' : World),(Instr.sliceAt ty (a.eval x) (some (a.eval lo)) none none).run P w=.ok v w->(Builtin.clear_ #[ty] yi #[v]).run P w=.ok (.tuple #[]) w'->K ⟨JU st.t d .junk,EM.h⟩->CU w0 g0 h0 EM.h g' w'->Le st.h g w EM.h g' w' ->
   Oper.wpIn (J5 ro) 0 P ⟨some d,.slice ty x (some lo) none none,ty2,pos,after,none⟩ a w (fun a1 w1=>Oper.wpIn (J5 ro) 0 P ⟨none,.call ⟨.builtin .clear,#[.tmp d],#[ty]⟩,yi,tt,XM,none⟩ a1 w1 next Q) Q:=by
  intro v EM g' w' r1 r2 hk hI' Jk;refine Nl B0 ?_;unfold Oper.wp;have hx:execOp a.eval ⟨some d,.slice ty x (some lo) none none,ty2,pos,after,none⟩=(do pure (Next.value (<-Instr.sliceAt ty (a.eval x) (some (a.eval lo)) none none))):=rfl;rw[hx,Sem.run_bind,r1];refine Nl B0 ?_;unfold Oper.wp;have zE:execOp (a.put (some d) v).eval ⟨none,.call ⟨.builtin .clear,#[.tmp d],#[ty]⟩,yi,tt,XM,none⟩=(do pure (Next.value (<-Builtin.clear_ #[ty] yi #[v]))):=by
   grind [execOp,resolve,invoke,builtin,pp]
  rw[zE,Sem.run_bind,r2];have S1:SR N ds w0 g0 h0 (st.put (some d) .junk st.h) g (a.put (some d) v) w:=hS.put hd hI (.refl _ _ _) (.junk _ _);have S2:SR N ds w0 g0 h0 ((st.put (some d) .junk st.h).put none (.v (.tuple #[])) EM.h) g' ((a.put (some d) v).put none (.tuple #[])) w':=S1.put B0 hI' Jk (.v _ _);exact hn _ g' _ w' hk S2
 unfold ry at hk;simp only at hk;split at hk
 .rename_i e hs;split at hk
  .rename_i r n ex;split at hk
   .rename_i i ei;split at hk
    .rename_i sz es er;split at hk
     .rename_i hb;obtain rfl:=A3 hb;split at hk
      .simp_all
      .rename_i k FE;split at hk
       .rename_i aG;have aG:=A3 aG;obtain⟨⟨rfl,i0,i1⟩,hk⟩:=hk;unfold Aag at hk;split at hk
        .rename_i Gl;have Gl:∀v∈(cx.T e).zc,v.oneCell'=true:=AS.1 Gl;have ho:=hI.objs r;rw[er]at ho;obtain⟨t1,l1,al,a2⟩:=ho;have nT:=hE x;rw[ex]at nT;have hlo:=hE lo;rw[ei]at hlo;have hlo:=hlo.v_eq;generalize hvx:a.eval x=vx at nT two;rw[hlo]at two;cases nT with
         |msl _ _ _ ad cap hu ht' qG ha Sy=>
          have hv:=Sy l1.symm;have Py:es.length<=cap:=by
           grind
          have CP:=E7 (P:=P) (w:=w) hT hs FE ad es.length cap (some i) none none (.inl rfl) B0 B0 B0 Cl;simp only[EH,L9,E0,Option.map_some,Option.map_none]at CP
          by_cases hz:i.toNat=es.length
          .-- nothing is cleared
           have e1:es.length-i.toNat=0:=ch
           rw[e1]at CP hk;refine two _ st g w CP (de hT hs _) ?_ hI (.refl _ _ _);have e2:es.take i.toNat++List.replicate 0 ((cx.T e).zc.map AV.v)=es:=B0
           rw[e2,<-er,nL]at hk;exact hk
          .have EU:i.toNat<es.length:=ch
           rcases a2 with ⟨b1,_⟩ | ⟨b,Mn,E,vs,b1,b2,b3,b4,b5,b6,b7⟩
           .simp_all
           .rw[b1]at hv;cases hv;have Ef:¬cap=i.toNat:=ch
            rw[AA Ef]at CP;have Afj:Option.map (fun x:Addr=>x.add (i.toNat*(cx.T e).size)) (some ⟨b,0,none⟩)=some ⟨b,i.toNat*(cx.T e).size,none⟩:=by grind [Addr.add]
            rw[Afj]at CP;have dA:es.length*(cx.T e).size<=cap*(cx.T e).size:=Bl _ b3;have jF:i.toNat*(cx.T e).size+(es.length-i.toNat)*(cx.T e).size=es.length*(cx.T e).size:=by rw[<-Iz];simp_all
            have hcl:=iX (w:=w) (ty2:=yi) (c:=cap-i.toNat) hT hs FE (aG.trans FE) Gl b4 (n:=es.length-i.toNat) (o:=i.toNat*(cx.T e).size) ch B0;have hl:(st.h r).live:=by rw[er];trivial
            generalize hZ:(List.replicate (es.length-i.toNat) (cx.T e).zc).flatten=Z at hcl;have hZl:Z.length=(es.length-i.toNat)*(cx.T e).size:=by
             rw[<-hZ,Dv (n:=(cx.T e).size) (fun c hc=>by simp_all),Cu]
            have Um:(es.take i.toNat++List.replicate (es.length-i.toNat) ((cx.T e).zc.map AV.v)).length=es.length:=by
             simp_all
            have Afk:∀c∈es.take i.toNat++List.replicate (es.length-i.toNat) ((cx.T e).zc.map AV.v),c.length=(cx.T e).size:=fun c hc=>by
             grind
            have AkW:vs.toList.length=cap*(cx.T e).size:=ch
            have hfl:(es.take i.toNat++List.replicate (es.length-i.toNat) ((cx.T e).zc.map AV.v)).flatten=over es.flatten (i.toNat*(cx.T e).size) (Z.map AV.v):=by
             rw[No _ _ _ (by rw[BO,hZl,jF,Dv al];omega),Ci,Oa al,BO,hZl,jF,AN (by rw[Dv al];omega),Bg,<-hZ,List.map_flatten,List.map_replicate]
            have xl:((over vs.toList (i.toNat*(cx.T e).size) Z).toArray.toList.take (es.length*(cx.T e).size))=over (vs.toList.take (es.length*(cx.T e).size)) (i.toNat*(cx.T e).size) Z:=
             WZ _ _ _ _ ch ch
            have hZr:Ck g w FD (Z.map AV.v) Z:=Ck.vals (by
             have AaA : ∀l:List AV,(∀a∈l,one a=true)->GT l=true:=by
              intro l
              induction l with
              |nil=>intro _;rfl
              |cons a l ih=>intro h;simp[GT,h a (List.mem_cons_self ..),ih (fun b hb=>h b (List.mem_cons_of_mem _ hb))]
             refine AaA _ fun q hq=>?_;obtain⟨y,hy,rfl⟩:=Ay.1 hq;rw[<-hZ]at hy;obtain⟨l,hl,hy⟩:=G2.1 hy;rw[List.eq_of_mem_replicate hl]at hy;exact Gl y hy)
            have xb:Ck g w FD (over es.flatten (i.toNat*(cx.T e).size) (Z.map AV.v)) (over (vs.toList.take (es.length*(cx.T e).size)) (i.toNat*(cx.T e).size) Z):=
             b6.over hZr _ (by rw[BO,hZl,jF,Dv al];omega)
            obtain⟨k1,k2⟩:=hI.write hl b2 (.arr (cx.T e).size (es.take i.toNat++List.replicate (es.length-i.toNat) ((cx.T e).zc.map AV.v))) b4 (over vs.toList (i.toNat*(cx.T e).size) Z).toArray (g.ln r) (g.own r) g.S Cl rfl (fun b' e=>by simp_all) (fun _ _ h=>h)
             (fun b' o hs=>.inl hs) (fun o hs=>absurd hs (b7 o)) (fun hg IN EO=>by
              obtain⟨u1,u2,u3,u4⟩:=Bo g r (g.ρ r) (g.ln r) (g.tk r) (g.own r) g.S;refine⟨u3.trans t1,u2.trans ch,Afk,.inr ⟨b,cap,E,_,?_,u4.trans b2,by omega,EO,?_,?_,b7⟩⟩
              .simp_all
              .simp only[KF,Ga,Ja];exact b5
              .rw[Um,xl,hfl];exact xb.mono IN (fun _ h=>h) (fun _ h=>h.elim))
            exact two _ ⟨st.t,_⟩ _ _ CP hcl hk k1 k2
        simp_all
       simp_all
     simp_all
    simp_all
   simp_all
  simp_all
 simp_all
end
end Go.Eng
