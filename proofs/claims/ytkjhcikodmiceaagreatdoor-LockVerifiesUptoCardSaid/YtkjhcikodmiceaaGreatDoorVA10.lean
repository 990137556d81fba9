/- Lemmas 10. -/
import Derived.Test.YtkjhcikodmiceaaGreatDoorVA09
namespace Go.Eng
variable {o:Oper}{K:HK}{args:Array Operand}{cx:Cx}{Hp:Array TypeId}{vals:Array Value}{after:Array Edge}{dr:Bool}{pos:String}{x:Value}{F:Fence}{o2:Oper}{T:GW}(σ:Jj)
theorem PV{h:Nat->HO}{d:Nat}:∀{n:Nat},D6 h d n=true->∀k,k<n->h (Bz d k)=.free
 |0,_,k,hk=>by omega
 |n+1,hf,k,hk=>by
  simp only[D6,Ak]at hf
  by_cases e:k=n
  .grind
  .exact PV hf.2 k Wk
theorem N2{d nn:Nat}:∀{σ:Jj},Dc σ d nn=true->∀{i j},Cq σ i=some j->¬(Bz d 0<=i/\i<Bz d nn)
 | [],_,i,j,h=>by grind [Cq]
 |(a,b)::r,hs,i,j,hf=>by
  simp only[Dc,Ak]at hs;unfold Cq at hf
  by_cases e1:a=i
  .grind [Nat.ble_eq_true_of_le,Nat.blt_eq]
  .simp only[DH e1,GX]at hf;exact N2 hs.2 hf
section
variable {P:Program}{w0:World}{g0:Gh}{h0 h:Nat->HO}{g:Gh}{w:World}
def DT(g:Gh):Gh:=
 ⟨fun j=>match Ik σ j with | some i=>g.ρ i | none=>.nilIface,fun j=>match Ik σ j with | some i=>g.ln i | none=>0,fun j=>match Ik σ j with | some i=>g.tk i | none=>false,
  fun j=>match Ik σ j with | some i=>g.own i | none=>none,g.S⟩
def src(d nn:Nat)(i:Nat):Option Nat:=
 match Cq σ i with
 |some j=>some j
 |none=>match Nat.ble (Bz d 0) i&&Nat.blt i (Bz d nn)with |true=>some (2000+(i-Bz d 0)) |false=>none
def G9(d nn:Nat)(g g' : Gh):Gh:=
 ⟨fun i=>match src σ d nn i with | some j=>g'.ρ j | none=>g.ρ i,fun i=>match src σ d nn i with | some j=>g'.ln j | none=>g.ln i,fun i=>match src σ d nn i with | some j=>g'.tk j | none=>g.tk i,
  fun i=>match src σ d nn i with | some j=>g'.own j | none=>g.own i,g'.S⟩
theorem gN(d nn:Nat)(h h' : Nat->HO)(i:Nat):Eb σ d nn h h' i=match src σ d nn i with | some j=>(h' j).ren (Fr σ d nn) h' | none=>h i:=by
 grind [Eb,src]
theorem oh{σ:Jj}{d nn:Nat}(hσ:Er σ=true)(ha:Dc σ d nn=true)(i j:Nat):src σ d nn i=some j↔Fr σ d nn j=some i:=by
 have inv:=Yp hσ;unfold src Fr;cases h1:Cq σ i with
 |some j'=>
  have hb:=(inv i j').1 h1;dsimp only;constructor
  .grind
  .intro h;cases h2:Ik σ j with
   |some i'=>grind
   |none=>
    rw[h2]at h;dsimp only at h;split at h
    .rename_i hc;have h:=DU h;subst h;simp only[Ak,ER,Dt]at hc;exact absurd ⟨by grind [Bz],by grind [Bz]⟩ (N2 ha h1)
    simp_all
 |none=>
  dsimp only;cases h2:Ik σ j with
  |some i'=>
   dsimp only;have hf:=(inv i' j).2 h2;have hr:=W3 hσ hf
   grind
  |none=>
   dsimp only;constructor
   .grind [Nat.ble_eq,Nat.blt_eq,Bz]
   .intro h;split at h
    .rename_i hc;have h:=DU h;subst h;simp only[Ak,ER,Dt]at hc;have e1:(Nat.ble (Bz d 0) (Bz d (j-2000))&&Nat.blt (Bz d (j-2000)) (Bz d nn))=true:=by
      grind [Nat.ble_eq,Nat.blt_eq,Bz]
     grind [Bz]
    simp_all
theorem XW(hI:CT w0 g0 h0 h g w){σ:Jj}(hσ:Er σ=true):F9 (Cq σ) h (FJ σ h) g (DT σ g) w/\CT w (DT σ g) (FJ σ h) (FJ σ h) (DT σ g) w:=by
 have inv:=Yp hσ;have F3:∀j,FJ σ h j=match Ik σ j with | some i=>(h i).ren (Cq σ) h | none=>.free:=Qm _ _ σ
 have hR:F9 (Cq σ) h (FJ σ h) g (DT σ g) w:=by
  refine⟨fun r r' hr hu=>?_,fun b o=>Iff.rfl,hI.objs⟩
  grind [DT,AC,MV]
 have MD:∀j,(FJ σ h j).live->∃i,Ik σ j=some i/\(h i).live:=fun j hl=>by
  rw[F3]at hl;cases e:Ik σ j with
  |none=>rw[e]at hl;exact hl.elim
  |some i=>grind [MU]
 have X6:∀j i,Ik σ j=some i->(DT σ g).own j=g.own i:=fun j i e=>by simp[DT,e]
 refine⟨hR,rfl,rfl,rfl,Ap _,fun _ _ _=>rfl,hI.slt,fun j=>?_,fun j j' b hl Sv e e'=>?_,fun j b hl e=>?_,fun _ _ h=>.inl h,hI.glob⟩
 .rw[F3];cases e:Ik σ j with
  |none=>trivial
  |some i=>
   by_cases hu:AC h i
   .grind [DV.ren,CT.objs]
   .have:h i=.free:=B2.1 hu
    dsimp only;rw[this];trivial
 .obtain⟨i,e1,l1⟩:=MD j hl;obtain⟨i',e2,l2⟩:=MD j' Sv;rw[X6 j i e1]at e;rw[X6 j' i' e2]at e';obtain rfl:=hI.inj i i' b l1 l2 e e'
  have:=(inv i j).2 e1
  rw[(inv i j').2 e2]at this;simp_all
 .obtain⟨i,e1,l1⟩:=MD j hl;have e0:=e;rw[X6 j i e1]at e;exact⟨(hI.loc i b l1 e).1,.inr ⟨j,hl,e0⟩⟩
theorem M9{C:(Ending->World->Prop)->Prop}(hm:∀{R R' : Ending->World->Prop},C R->(∀e w,R e w->R' e w)->C R')(hI:CT w0 g0 h0 h g w){σ:Jj}{d nn:Nat}(GR:(Er σ&&D6 h d nn&&Dc σ d nn)=true){Q:AV->(Nat->HO)->Prop}
  (hc:CT w (DT σ g) (FJ σ h) (FJ σ h) (DT σ g) w->C (fun e w'=>∃v r h' g',e=Ending.returned v/\Q r h'/\Bc g' w' (AC h') r v/\CT w (DT σ g) (FJ σ h) h' g' w'/\Le (FJ σ h) (DT σ g) w h' g' w')) {R:Ending->World->Prop}
  (fb:∀v r h' g2 w',Q r h'->CT w0 g0 h0 (Eb σ d nn h h') g2 w'->Le h g w (Eb σ d nn h h') g2 w'->Bc g2 w' (AC (Eb σ d nn h h')) (ren (Fr σ d nn) h' r) v->R (.returned v) w'):C R:=by
 simp only[Ak]at GR;obtain⟨⟨hσ,yL⟩,hap⟩:=GR;obtain⟨hF,qc⟩:=XW hI hσ;have inv:=Yp hσ;have y0:=oh hσ hap;refine hm (hc qc) ?_
 rintro e w' ⟨v,r,h',g',rfl,q1,q2,q3,q4⟩
 have hb:=gN σ d nn h h';have ux:∀i j,src σ d nn i=some j->(G9 σ d nn g g').ρ i=g'.ρ j/\(G9 σ d nn g g').ln i=g'.ln j/\(G9 σ d nn g g').tk i=g'.tk j/\(G9 σ d nn g g').own i=g'.own j:=fun i j e=>by simp[G9,e]
 have hg3:∀i,src σ d nn i=none->(G9 σ d nn g g').ρ i=g.ρ i/\(G9 σ d nn g g').ln i=g.ln i/\(G9 σ d nn g g').tk i=g.tk i/\(G9 σ d nn g g').own i=g.own i:=fun i e=>by simp[G9,e]
 have hB:F9 (Fr σ d nn) h' (Eb σ d nn h h') g' (G9 σ d nn g g') w':=by
  refine⟨fun j i hj hu=>?_,fun b o=>Iff.rfl,q3.objs⟩
  grind [AC,MV]
 have yr:∀j,FJ σ h j=match Ik σ j with | some i=>(h i).ren (Cq σ) h | none=>.free:=Qm _ _ σ
 have AcJ:∀j i,Cq σ i=some j->(h i).live->(FJ σ h j).live:=fun j i e hl=>by
  grind [MU]
 have Afr:∀j i,Cq σ i=some j->(DT σ g).own j=g.own i:=fun j i e=>by grind [DT]
 have qj : ∀j,(FJ σ h j).live->∃i,Cq σ i=some j/\(h i).live/\(DT σ g).own j=g.own i:=fun j hl=>by
  rw[yr]at hl;cases e:Ik σ j with
  |none=>rw[e]at hl;exact hl.elim
  |some i=>grind [MU]
 -- what the callee may not touch
 have uw:∀b,b<w.heap.size->(∀i,(h i).live->Cq σ i≠none->g.own i≠some b)->w'.heap[b]?=w.heap[b]?:=fun b ET hn=>q3.frame b ET fun j hl e=>by
  grind
 have hSs:∀b o,g'.S b o->b<w.heap.size->(∀i,(h i).live->Cq σ i≠none->g.own i≠some b)->g.S b o:=fun b o hs ET hn=>by
  rcases q3.sg b o hs with h1 | h1 | ⟨j,h1,h2⟩
  .exact h1
  all_goals grind
 have hk:Fa g w (G9 σ d nn g g') w':=q4.keeps;have Af:∀i,Cq σ i=none->src σ d nn i≠none->h i=.free:=fun i e1 e2=>by
  unfold src at e2;rw[e1]at e2;dsimp only at e2;split at e2
  .rename_i hc;simp only[Ak,ER,Dt]at hc
   have:=PV yL (i-Bz d 0) (by grind [Bz])
   grind [Bz]
  simp_all
 have uK:∀i j,Cq σ i=some j->src σ d nn i=some j:=fun i j e=>by grind [src]
 have hgl:Kn g (G9 σ d nn g g') (AC h):=fun i hu=>by
  cases e:Cq σ i with
  |some j=>
   obtain⟨k1,k2,k3,k4⟩:=ux i j (uK i j e);obtain⟨f1,f2,f3,f4,f5⟩:=hF.ids i j e hu;obtain⟨m1,m2,m3,m4⟩:=q4.gh j f5<;>simp_all
  |none=>
   have e2:src σ d nn i=none:=B2.1 fun e2=>hu (Af i e e2);simp_all
 have NN:∀i,AC h i->AC (Eb σ d nn h h') i:=fun i hu=>by
  grind [AC,MV,src,Le.us,F9.ids]
 have iG:∀i,(Eb σ d nn h h' i).live->(∃j,src σ d nn i=some j/\(h' j).live/\(G9 σ d nn g g').own i=g'.own j)\/(src σ d nn i=none/\(h i).live/\(G9 σ d nn g g').own i=g.own i/\Cq σ i=none):=fun i hl=>by
  grind [src,MU]
 have J7:∀j b,(h' j).live->g'.own j=some b->b<w'.heap.size/\(w.heap.size<=b\/∃i,Cq σ i≠none/\(h i).live/\g.own i=some b):=fun j b hl e=>by
  grind [CT.loc]
 have wD:∀i b,(h i).live->g.own i=some b->Cq σ i=none->∀i',(h i').live->Cq σ i'≠none->g.own i'≠some b:=fun i b hl e hn i' Sv kj e'=>by
  obtain rfl:=hI.inj i i' b hl Sv e e';simp_all
 refine fb v r h' (G9 σ d nn g g') w' q1 ⟨q3.os.trans hI.os,q3.tape.trans hI.tape,q3.output.trans hI.output,AS hI.size q3.size,fun b ET hn=>?_,q3.slt,fun i=>?_,fun i i' b hl Sv e e'=>?_,fun i b hl e=>?_,fun b o hs=>?_,hI.glob.keep hk⟩ ⟨hgl,NN,hk⟩ (q2.ren hB)
 .grind [CT.loc,CT.frame]
 .rw[hb];cases e:src σ d nn i with
  |some j=>
   by_cases hu:AC h' j
   .grind [DV.ren,CT.objs]
   .have:h' j=.free:=B2.1 hu
    dsimp only;rw[this];trivial
  |none=>
   obtain⟨k1,k2,k3,k4⟩:=hg3 i e;have e2:Cq σ i=none:=by
    cases e2:Cq σ i<;>grind [Cq]
   refine(hI.objs i).same hk NN hgl k1 k2 k3 k4 fun b hl ho=>?_;have ET:=(hI.loc i b hl ho).1;exact⟨uw b ET (wD i b hl ho e2),fun k hs=>hSs b k hs ET (wD i b hl ho e2)⟩
 .have mixed:∀i j i',(h' j).live->g'.own j=some b->(h i').live->g.own i'=some b->Cq σ i'=none->i=i':=fun i j i' l1 o1 l2 o2 n2=>by
   rcases(J7 j b l1 o1).2 with h1 | ⟨i3,n3,l3,o3⟩
   .have:=(hI.loc i' b l2 o2).1;omega
   grind
  rcases iG i hl with ⟨j,s1,l1,o1⟩ | ⟨s1,l1,o1,n1⟩<;>rcases iG i' Sv with ⟨j',s2,l2,o2⟩ | ⟨s2,l2,o2,n2⟩
  .obtain rfl:=q3.inj j j' b l1 l2 (by simp_all) (by simp_all);simp_all
  .exact mixed i j i' l1 (by simp_all) l2 (by simp_all) n2
  .exact(mixed i' j' i l2 (by simp_all) l1 (by simp_all) n1).symm
  .exact hI.inj i i' b l1 l2 (by simp_all) (by simp_all)
 .rcases iG i hl with ⟨j,s1,l1,o1⟩ | ⟨s1,l1,o1,n1⟩
  .obtain⟨h1,h2⟩:=J7 j b l1 (by simp_all);refine⟨h1,?_⟩;rcases h2 with h2 | ⟨i3,n3,l3,o3⟩
   .exact .inl (AS hI.size h2)
   .exact(hI.loc i3 b l3 o3).2
  .obtain⟨h1,h2⟩:=hI.loc i b l1 (by simp_all)
   grind
 .rcases q3.sg b o hs with h1 | h1 | ⟨j,h1,h2⟩
  .exact hI.sg b o h1
  .exact .inr (.inl (AS hI.size h1))
  .obtain⟨i,e1,l1,o1⟩:=qj j h1;exact .inr (hI.loc i b l1 (by rw[<-o1];exact h2)).2
theorem kR(hI:CT w0 g0 h0 h g w){σ:Jj}{d nn:Nat}(GR:(Er σ&&D6 h d nn&&Dc σ d nn)=true){f:Nat}{args:List AV}{Q:AV->(Nat->HO)->Prop}(hc:Bg P f args (FJ σ h) Q)(hs:vals.size=args.length)(hv:∀(i:Nat) (av:AV) (x:Value),args[i]?=some av->vals[i]?=some x->Bc (DT σ g) w (AC (FJ σ h)) av x){R:Ending->World->Prop}(fb:∀v r h' g2 w',Q r h'->CT w0 g0 h0 (Eb σ d nn h h') g2 w'->Le h g w (Eb σ d nn h h') g2 w'->Bc g2 w' (AC (Eb σ d nn h h')) (ren (Fr σ d nn) h' r) v->R (.returned v) w'):Calls P f vals w R:=
 M9 (C:=Calls P f vals w) (fun h k=>h.mono k) hI GR (hc.2 (DT σ g) w vals hs hv) fb
end
structure SR(N:Nat)(ds:List Deferred)(w0:World)(g0:Gh)(h0:Nat->HO)(st:St)(g:Gh)(a:Act)(w:World):Prop where
 inv:CT w0 g0 h0 st.h g w
 le:Le h0 g0 w0 st.h g w
 dfs:a.defers=ds
 size:a.tmps.size=N
 slots:∀i,Bc g w (AC st.h) (st.t i) (a.tmps.getD i undef)
section
variable {P:Program}{N:Nat}{ds:List Deferred}{w0:World}{g0:Gh}{h0:Nat->HO}{st:St}{g:Gh}{a:Act}{w:World}
theorem SR.eval(hS:SR N ds w0 g0 h0 st g a w)(x:Operand):Bc g w (AC st.h) (ev st.t x) (a.eval x):=by
 cases x with
 |tmp i=>exact hS.slots i
 |const v=>exact .v _ _
 |global b=>exact .v _ _
 |func f=>exact .v _ _
theorem SR.put(hS:SR N ds w0 g0 h0 st g a w){d:Option Nat}(hd:∀i,d=some i->i<N){v:AV}{x:Value}{h' : Nat->HO}{g' : Gh}{w' : World}(hI:CT w0 g0 h0 h' g' w')(Js:Le st.h g w h' g' w')(hr:Bc g' w' (AC h') v x) :
  SR N ds w0 g0 h0 (st.put d v h') g' (a.put d x) w':=by
 have old:∀i,Bc g' w' (AC h') (st.t i) (a.tmps.getD i undef):=fun i=>(hS.slots i).le Js;cases d with
 |none=>exact⟨hI,hS.le.trans Js,hS.dfs,hS.size,old⟩
 |some d=>
  have hdN:=hd d rfl;refine⟨hI,hS.le.trans Js,hS.dfs,by simp[Act.put,hS.size],fun i=>?_⟩;simp only[St.put,Act.put,JY]
  by_cases e:i=d
  .subst e
   have:i<a.tmps.size:=by rw[hS.size];exact hdN
   simp only[Nat.beq_refl,cond_true];rw[Il,Array.getElem?_setIfInBounds_self,A3 this];exact hr
  .simp only[DH e,GX];rw[Il,Array.getElem?_setIfInBounds_ne (Ne.symm e),<-Il];exact old i
def bJ(w0:World)(g0:Gh)(h0 h:Nat->HO)(g:Gh)(w:World)(K:HK)(next:Value->World->Prop):Prop:=
 ∀v h' g' w' x,K v h'->CT w0 g0 h0 h' g' w'->Le h g w h' g' w'->Bc g' w' (AC h') v x->next x w'
theorem DP{m:Sem Value}{next:Act->World->Prop}{Q:Exit->Act->World->Prop}(hx:execOp a.eval o=(do pure (Next.value (<-m))))(hd:N8 P w0 g0 h0 st.h g w m K)(hn:bJ w0 g0 h0 st.h g w K fun x w'=>next (a.put o.dst x) w'):o.wp P a w next Q:=by
 obtain⟨x,w',g',av,h',h1,h2,h3,h4,h5⟩:=hd;unfold Oper.wp;rw[hx,Sem.run_bind,h1];exact hn av h' g' w' x h2 h3 h4 h5
theorem YB{m:Sem Unit}{next:Act->World->Prop}{Q:Exit->Act->World->Prop}(hx:execOp a.eval o=(do m;pure Next.skip))(hd:kn P w0 g0 h0 st.h g w m K)(hn:bJ w0 g0 h0 st.h g w K fun x w'=>next (a.put o.dst x) w'):o.wp P a w next Q:=by
 obtain⟨w',g',h',h1,h2,h3,h4⟩:=hd;unfold Oper.wp;rw[hx,Sem.run_bind,h1];exact hn _ h' g' w' undef h2 h3 h4 (.v _ _)
theorem gt{next:Act->World->Prop}{Q:Exit->Act->World->Prop}{v:AV}(hI:CT w0 g0 h0 st.h g w)(hx:(execOp a.eval o).run P w=.ok (.value x) w)(hk:K v st.h)(hr:Bc g w (AC st.h) v x)(hn:bJ w0 g0 h0 st.h g w K fun x w'=>next (a.put o.dst x) w'):o.wp P a w next Q:=by
 unfold Oper.wp;rw[hx];exact hn _ _ _ _ _ hk hI (.refl _ _ _) hr
theorem Tr{C:(Ending->World->Prop)->Prop}(hm:∀{R R' : Ending->World->Prop},C R->(∀e w,R e w->R' e w)->C R')(hI:CT w0 g0 h0 st.h g w){Q:AV->(Nat->HO)->Prop}
  (hc:CT w g Af Af g w->C (fun e w'=>∃v r h' g',e=Ending.returned v/\Q r h'/\Bc g' w' (AC h') r v/\CT w g Af h' g' w'/\Le Af g w h' g' w')) {R:Ending->World->Prop}
  (hR:∀v r h' g' w',Q r h'->h'=Af->CT w0 g0 h0 st.h g' w'->Le st.h g w st.h g' w'->Bc g' w' FN r v->R (.returned v) w') (hQ:∀r h',Q r h'->h'=Af):C R:=by
 have hU:AC Af=FN:=by funext i;unfold AC FN Af;simp
 have qc:CT w g Af Af g w:=⟨rfl,rfl,rfl,Ap _,fun _ _ _=>rfl,hI.slt,fun _=>trivial,fun _ _ _ h=>h.elim,fun _ _ h=>h.elim,fun _ _ h=>.inl h,hI.glob⟩;refine hm (hc qc) ?_
 rintro e w' ⟨v,r,h',g',rfl,q1,q2,q3,q4⟩
 obtain rfl:=hQ r h' q1;rw[hU]at q2
 -- the caller's ghost,with the callee's stable cells
 have hk:Fa g w ⟨g.ρ,g.ln,g.tk,g.own,g'.S⟩ w':=q4.keeps;have hg:Kn g ⟨g.ρ,g.ln,g.tk,g.own,g'.S⟩ (AC st.h):=fun _ _=>⟨rfl,Ap _,fun _=>rfl,fun _=>rfl⟩;have uw:∀b,b<w.heap.size->w'.heap[b]?=w.heap[b]?:=fun b hb=>q3.frame b hb (fun _ h=>h.elim);have hSs:∀b o,g'.S b o->b<w.heap.size->g.S b o:=fun b o hs hb=>by
  rcases q3.sg b o hs with h1 | h1 | ⟨_,h1,_⟩
  .exact h1
  .omega
  .exact h1.elim
 refine hR v r Af ⟨g.ρ,g.ln,g.tk,g.own,g'.S⟩ w' q1 rfl ⟨q3.os.trans hI.os,q3.tape.trans hI.tape,q3.output.trans hI.output,AS hI.size q3.size,fun b hb hn=>?_,q3.slt,fun i=>?_,hI.inj,fun i b hl ho=>?_,fun b o hs=>?_,hI.glob.keep hk⟩ ⟨hg,fun _ h=>h,hk⟩ ?_
 .exact(uw b (AM hb hI.size)).trans (hI.frame b hb hn)
 .refine(hI.objs i).same hk (fun _ h=>h) hg rfl rfl rfl rfl (fun b hl ho=>?_);have ET:=(hI.loc i b hl ho).1;exact⟨uw b ET,fun k hs=>hSs b k hs ET⟩
 .obtain⟨h1,h2⟩:=hI.loc i b hl ho;exact⟨AM h1 q3.size,h2⟩
 .rcases q3.sg b o hs with h1 | h1 | ⟨_,h1,_⟩
  .exact hI.sg b o h1
  .exact .inr (.inl (AS hI.size h1))
  .exact h1.elim
 .have:Fa g' w' ⟨g.ρ,g.ln,g.tk,g.own,g'.S⟩ w':=fun b o h=>⟨h,rfl,fun _ _ h=>h⟩
  exact q2.mono this (fun _ h=>h) (fun _ h=>h.elim)
theorem gV(hI:CT w0 g0 h0 st.h g w){f:Nat}{args:List AV}{Q:AV->(Nat->HO)->Prop}(hc:Bg P f args Af Q)(hs:vals.size=args.length)(hv:∀(i:Nat) (av:AV) (x:Value),args[i]?=some av->vals[i]?=some x->Bc g w FN av x){R:Ending->World->Prop}(hR:∀v r h' g' w',Q r h'->h'=Af->CT w0 g0 h0 st.h g' w'->Le st.h g w st.h g' w'->Bc g' w' FN r v->R (.returned v) w')(hQ:∀r h',Q r h'->h'=Af):Calls P f vals w R:=
 have hU:AC Af=FN:=by funext i;unfold AC FN Af;simp
 Tr (C:=Calls P f vals w) (fun h k=>h.mono k) hI (hc.2 g w vals hs (fun i av x h1 h2=>by rw[hU];exact hv i av x h1 h2)) hR hQ
theorem YieldAt.imp{m:Nat}{P:Program}{l:Nat}{args:Array Value}{W:World}{R R' : Ending->World->Prop}(h:YieldAt F m P l args W R)(hr:∀e w,R e w->R' e w):YieldAt F m P l args W R':=
 let ⟨fn,t,a,b,h1,h2⟩:=h
 ⟨fn,t,a,b,h1,h2.mono hr⟩
theorem I6.imp{Y:Gh->World->Prop}{l:Nat}{args:List AV}{h0:Nat->HO}{Q Q' : AV->(Nat->HO)->Prop}(h:I6 P Y l args h0 Q)(hq:∀r h',Q r h'->Q' r h'):I6 P Y l args h0 Q':=
 fun g w vals q1 q2 q3 q4=>YieldAt.imp (h g w vals q1 q2 q3 q4) fun _ _ ⟨v,r,h',g',e1,e2,rest⟩=>⟨v,r,h',g',e1,hq _ _ e2,rest⟩
theorem Gk.imp{Y:Nat->Gh->World->Prop}{F:AV}{args:List AV}{h0:Nat->HO}{Q Q' : AV->(Nat->HO)->Prop}(h:Gk P Y F args h0 Q)(hq:∀r h',Q r h'->Q' r h'):Gk P Y F args h0 Q':=by
 have one:∀{f:Nat} {l:List AV},Bg P f l h0 Q->Bg P f l h0 Q':=fun hc=>
  ⟨hc.1,fun g w vals q1 q2 q3=>(hc.2 g w vals q1 q2 q3).mono fun _ _ ⟨v,r,h',g',e1,e2,rest⟩=>⟨v,r,h',g',e1,hq _ _ e2,rest⟩⟩
 unfold Gk at h⊢;split at h
 .exact one h
 .exact one h
 .exact I6.imp h hq
 .exact h.elim
abbrev J6(ro:Option Nat):Fence:={ Fence.wide with round:=ro }
theorem Nu{ro:Option Nat}{a:Act}{w:World}{next:Act->World->Prop}{Q:Exit->Act->World->Prop}(hd:∀c,o.op≠.defer c)(h:o.wp P a w next Q):o.wpIn (J6 ro) 0 P a w next Q:=by
 refine⟨fun _ _=>trivial,?_⟩;have e:o.semAt (J6 ro).round a.eval=execOp a.eval o:=Oper.semAt_eq ro a.eval o hd;rw[e];unfold Oper.wp at h;have key:∀res:Result Next,o.upon P a next Q res->o.uponIn (J6 ro) 0 P a next Q res:=fun res h=>by
  cases res with
  |ok n w'=>cases n with
   |enter f args=>exact(show(_->_)/\CallsIn (J6 ro) 0 P f args w' _ from⟨fun e=>by(cases e),callsIn_wide.2 h⟩)
   |row r args=>exact(show(_->_)/\RowsIn (J6 ro) 0 P r args w' _ from⟨fun e=>by(cases e),fun c cs _=>by
     obtain⟨v,gq,r',s⟩:=h c cs;exact⟨v,gq,r',stepsIn_wide.2 s⟩⟩)
   |round _ _ _ _ _=>exact h.elim
   |_=>exact h
  |halt x w'=>cases x<;>exact h
 exact key _ h
theorem G1{f:Nat}{args:Array Value}(h:Gl P f)(w:World):(callFunc f args).run P w=.ok (.enter f args) w:=by
 obtain⟨fn,h1,h2,h3⟩:=h;simp only[callFunc,Sem.run_bind,run_program,h1,Result.andThen_ok,h2,h3,OW,if_false,Sem.run_pure]
theorem U0{h:Nat->HO}{a:AV}(ha:fL a=true):ren (Cq []) h a=str h a:=by
 have h0:∀a,ren0 (Cq []) h a=str0 h a:=fun a=>by
  cases a with
  |slice tk es=>cases tk<;>rfl
  |_=>rfl
 cases a with
 |tup cs=>cases ha
 |agg cs=>show AV.agg _=AV.agg _;exact Aa _ (Ce fun c _=>h0 c)
 |clo f cs=>show AV.clo f _=AV.clo f _;exact Aa _ (Ce fun c _=>h0 c)
 |v x=>exact h0 (.v x)
 |slice tk es=>exact h0 (.slice tk es)
 |msl r n=>exact h0 (.msl r n)
 |cptr cs=>exact h0 (.cptr cs)
 |ref r o=>exact h0 (.ref r o)
 |eref r n sz i o=>exact h0 (.eref r n sz i o)
 |mref r=>exact h0 (.mref r)
 |cmap sh l=>exact h0 (.cmap sh l)
 |junk=>rfl
theorem Ri{h:Nat->HO}:∀{l:List AV},UJ l=true->l.map (ren (Cq []) h)=l.map (str h)
 | [],_=>rfl
 |a::l,e=>by
  unfold UJ at e;split at e
  .rename_i e1;rw[Bo,Bo,U0 e1,Ri e]
  .cases e
theorem RA:∀{l:List AV} {vs:List Value},Xg l=some vs->l=vs.map .v
 | [],vs,h=>by cases h;rfl
 |.v x::r,vs,h=>by
  unfold Xg at h;split at h
  .rename_i l e;cases h;rw[Bo,<-RA e]
  .cases h
theorem gU{d:Option Nat}{st:St}{F:AV}{args:List AV}(hk:GJ cx true d st F args K):GJ cx false d st F args K:=by
 unfold GJ at hk;simp only at hk;split at hk
 .exact⟨.pure,hk⟩
 .split at hk
  .exact hk.elim
  .rename_i d _;obtain⟨n,sz,es,h1,h2,h3⟩:=hk;simp only[Ak]at h1;refine⟨.gen [] 1,?_⟩;show(Er []&&D6 st.h d 1&&Dc [] d 1)=true/\_;refine⟨by simp[Er,Dc,h1.1.1],?_⟩;rw[U0 h1.1.2,Ri h1.2];show Gk cx.P (fun l=>cx.yp l []) _ _ Af _;refine Gk.imp h2 ?_
   rintro r h' ⟨e2,e3⟩
   subst e2;subst e3;have e1:ren (Fr [] d 1) (Ai [(2000,.arr sz es)] Af) (.msl 2000 n)=.msl (Bz d 0) n:=rfl;have e2:Eb [] d 1 st.h (Ai [(2000,.arr sz es)] Af)=AK st.h (Bz d 0) (.arr sz es):=by
    funext i
    by_cases e:i=Bz d 0
    .subst e;rw[A2];have hb:(Nat.ble (Bz d 0) (Bz d 0)&&Nat.blt (Bz d 0) (Bz d 1))=true:=by
      unfold Bz;simp only[Ak,ER,Dt];omega
     simp only[Eb,Cq,hb,IX];rfl
    .rw[BT _ _ _ _ e]
     have:(Nat.ble (Bz d 0) i&&Nat.blt i (Bz d 1))=false:=by
      unfold Bz at e⊢;rw[A8];simp only[ne_eq,Ak,ER,Dt];omega
     simp only[Eb,Cq,this]
   rw[e1,e2];exact h3
 .split at hk
  .unfold Yx at hk;split at hk
   .exact hk.elim
   .rename_i d _;obtain⟨sz,es,h1,h2,h3⟩:=hk;simp only[Ak]at h1;refine⟨.gen [] 1,?_⟩;show(Er []&&D6 st.h d 1&&Dc [] d 1)=true/\_;refine⟨by simp[Er,Dc,h1.1.1],?_⟩;rw[U0 h1.1.2,Ri h1.2];show Gk cx.P (fun l=>cx.yp l []) _ _ Af _;refine Gk.imp h2 ?_
    rintro r h' ⟨e2,e3⟩
    subst e2;subst e3;have e1:ren (Fr [] d 1) (Ai [(2000,.tok sz es.length)] Af) (.slice (.id 2000 sz) es)=.slice (.id (Bz d 0) sz) es:=rfl;have e2:Eb [] d 1 st.h (Ai [(2000,.tok sz es.length)] Af)=AK st.h (Bz d 0) (.tok sz es.length):=by
     funext i
     by_cases e:i=Bz d 0
     .subst e;rw[A2];have hb:(Nat.ble (Bz d 0) (Bz d 0)&&Nat.blt (Bz d 0) (Bz d 1))=true:=by
       unfold Bz;simp only[Ak,ER,Dt];omega
      simp only[Eb,Cq,hb,IX];rfl
     .rw[BT _ _ _ _ e]
      have:(Nat.ble (Bz d 0) i&&Nat.blt i (Bz d 1))=false:=by
       unfold Bz at e⊢;rw[A8];simp only[ne_eq,Ak,ER,Dt];omega
      simp only[Eb,Cq,this]
    rw[e1,e2];exact h3
  split at hk
  .unfold Vq at hk;split at hk
   .rename_i d l vs e2 z1;have hl:=RA e2;split at hk
    .rename_i r sz es gm n e3 e4;obtain⟨⟨rfl,rfl⟩,v,FU,n',h1,h2⟩:=hk;refine⟨.gen [(1000,1000),(1001,1001)] 0,?_⟩;show(Er [(1000,1000),(1001,1001)]&&D6 st.h d 0&&Dc [(1000,1000),(1001,1001)] d 0)=true/\_;refine⟨?_,?_⟩
     .have:Dc [(1000,1000),(1001,1001)] d 0=true:=by
       have q:∀r:Nat,(Nat.ble (Bz d 0) r&&Nat.blt r (Bz d 0))=false:=fun r=>by
        rw[A8];simp only[ne_eq,Ak,ER,Dt];omega
       simp only[Dc,q,Bool.not_false,Bool.and_self]
      rw[this];rfl
     have f1:args.map (ren (Cq [(1000,1000),(1001,1001)]) st.h)=vs.map .v:=by rw[hl,BX];rfl
     have f2:FJ [(1000,1000),(1001,1001)] st.h=Ai [(1000,.cells [.slice (.id 1001 gm) es]),(1001,.tok gm n)] Af:=by
      unfold FJ Yo Yo Yo;rw[e3,e4];rfl
     rw[f1,f2];refine I6.imp h1 ?_
     rintro r h' ⟨g1,g2⟩
     subst g1;subst g2;have f3:Eb [(1000,1000),(1001,1001)] d 0 st.h (Ai [(1000,.cells [.slice (.id 1001 gm) FU]),(1001,.tok gm n')] Af)=AK (AK st.h 1001 (.tok gm n')) 1000 (.cells [.slice (.id 1001 gm) FU]):=by
      funext i
      by_cases e:i=1000
      .subst e;rw[A2];rfl
      .rw[BT _ _ _ _ e]
       by_cases e' : i=1001
       .subst e';rw[A2];rfl
       .rw[BT _ _ _ _ e'];have hn:Cq [(1000,1000),(1001,1001)] i=none:=by simp[Cq,DH (Ne.symm e),DH (Ne.symm e')]
        have:(Nat.ble (Bz d 0) i&&Nat.blt i (Bz d 0))=false:=by
         rw[A8];simp only[ne_eq,Ak,ER,Dt];omega
        simp only[Eb,hn,this]
     rw[f3];exact h2
    .exact hk.elim
   .exact hk.elim
  unfold Sg at hk;split at hk
  .unfold ZH at hk;split at hk
   .rename_i d f caps qn _;obtain⟨σ,H0,Hn,args',res,g1,g2,g3,g4⟩:=hk;simp only[Ak]at g2;obtain⟨k1,k2⟩:=g1 st.h fun _ _=>rfl;refine⟨.gen σ 0,?_⟩;show(Er σ&&D6 st.h d 0&&Dc σ d 0)=true/\_;refine⟨by rw[g2.1.1,g2.1.2];rfl,?_⟩;have key:Gk cx.P (fun l=>cx.yp l σ) (ren (Cq σ) st.h F) (args.map (ren (Cq σ) st.h)) (Ai H0 Af) (fun r h'=>r=res/\h'=Ai Hn Af):=by
     rw[<-k2]at g3;unfold lH at qn;split at qn
     .cases qn
      rw[IV,Eg]at g3;exact g3
     .cases qn
      exact g3
     .cases qn
    rw[k1];refine Gk.imp key ?_
    rintro r h' ⟨e1,e2⟩
    rw[e1,e2];exact g4
   .exact hk.elim
  unfold Sm at hk;split at hk
  .rename_i dd f r n l _;split at hk
   .rename_i vs fy;have hl:=RA fy;subst hl;split at hk
    .rename_i sz es hr;have hf:Cq [(r,1000)] r=some 1000:=by simp[Cq]
     have e1:ren (Cq [(r,1000)]) st.h (.v (.func (.func f) ⟨[]⟩ ⟨[]⟩))=.v (.func (.func f) ⟨[]⟩ ⟨[]⟩):=rfl;have e2:(AV.msl r n::vs.map AV.v).map (ren (Cq [(r,1000)]) st.h)=.msl 1000 n::vs.map .v:=by
      rw[Bo]
      congr 1
      .simp[ren,ren1,ren0,hf]
      .rw[BX];rfl
     have e3:FJ [(r,1000)] st.h=Ai [(1000,.arr sz es)] Af:=by
      unfold FJ Yo;rw[hr];rfl
     split at hk
     .obtain⟨n',FU,h1,h2⟩:=hk;refine⟨.gen [(r,1000)] 0,?_⟩;show(Er [(r,1000)]&&D6 st.h dd 0&&Dc [(r,1000)] dd 0)=true/\_;refine⟨?_,?_⟩
      .have:Dc [(r,1000)] dd 0=true:=by
        unfold Dc
        have:(Nat.ble (Bz dd 0) r&&Nat.blt r (Bz dd 0))=false:=by
         rw[A8];simp only[ne_eq,Ak,ER,Dt];omega
        rw[this];rfl
       rw[this];rfl
      rw[e1,e2,e3];refine⟨h1.1,fun g w vals q1 q2 q3=>(h1.2 g w vals q1 q2 q3).mono fun _ _ ⟨v,r',h',g',e1,⟨e2,e3⟩,rest⟩=>⟨v,r',h',g',e1,?_,rest⟩⟩;subst e2;subst e3;have f1:ren (Fr [(r,1000)] dd 0) (Ai [(1000,.arr sz FU)] Af) (.msl 1000 n')=.msl r n':=rfl;have f2:Eb [(r,1000)] dd 0 st.h (Ai [(1000,.arr sz FU)] Af)=AK st.h r (.arr sz FU):=by
       funext i
       by_cases e:i=r
       .subst e;rw[A2];simp[Eb,hf,Ai,HO.ren]
       .rw[BT _ _ _ _ e];have hn:Cq [(r,1000)] i=none:=by simp[Cq,DH (Ne.symm e)]
        have:(Nat.ble (Bz dd 0) i&&Nat.blt i (Bz dd 0))=false:=by
         rw[A8];simp only[ne_eq,Ak,ER,Dt];omega
        simp only[Eb,hn,this]
      rw[f1,f2];exact h2
     .obtain⟨n',FU,h0,h1,h2⟩:=hk;simp only[Ak,Dt,EO]at h0;have hrd:r≠Bz dd 0:=fun e=>by have:=h0.2;rw[e]at this;simp at this
      refine⟨.gen [(r,1000)] 1,?_⟩;show(Er [(r,1000)]&&D6 st.h dd 1&&Dc [(r,1000)] dd 1)=true/\_;refine⟨?_,?_⟩
      .have:Dc [(r,1000)] dd 1=true:=by
        unfold Dc
        have:(Nat.ble (Bz dd 0) r&&Nat.blt r (Bz dd 1))=false:=by
         rw[A8];simp only[ne_eq,Ak,ER,Dt];unfold Bz at hrd⊢;omega
        rw[this];rfl
       rw[this,h0.1.1];rfl
      rw[e1,e2,e3];refine⟨h1.1,fun g w vals q1 q2 q3=>(h1.2 g w vals q1 q2 q3).mono fun _ _ ⟨v,r',h',g',e1,⟨e2,e3⟩,rest⟩=>⟨v,r',h',g',e1,?_,rest⟩⟩;subst e2;subst e3;have f1:ren (Fr [(r,1000)] dd 1) (Ai [(1000,.dead),(2000,.arr sz FU)] Af) (.msl 2000 n')=.msl (Bz dd 0) n':=rfl;have f2:Eb [(r,1000)] dd 1 st.h (Ai [(1000,.dead),(2000,.arr sz FU)] Af)=AK (AK st.h r .dead) (Bz dd 0) (.arr sz FU):=by
       funext i
       by_cases e:i=Bz dd 0
       .subst e;rw[A2];have hn:Cq [(r,1000)] (Bz dd 0)=none:=by simp[Cq,DH hrd]
        have hb:(Nat.ble (Bz dd 0) (Bz dd 0)&&Nat.blt (Bz dd 0) (Bz dd 1))=true:=by
         unfold Bz;simp only[Ak,ER,Dt];omega
        simp only[Eb,hn,hb,IX];rfl
       .rw[BT _ _ _ _ e]
        by_cases e4:i=r
        .subst e4;rw[A2];simp[Eb,hf,Ai,HO.ren]
        .rw[BT _ _ _ _ e4];have hn:Cq [(r,1000)] i=none:=by simp[Cq,DH (Ne.symm e4)]
         have:(Nat.ble (Bz dd 0) i&&Nat.blt i (Bz dd 1))=false:=by
          rw[A8];simp only[ne_eq,Ak,ER,Dt];unfold Bz at e⊢;omega
         simp only[Eb,hn,this]
      rw[f1,f2];exact h2
    .exact hk.elim
   .exact hk.elim
  .exact hk.elim
theorem kQ{d:Option Nat}{f:Operand}{dst:Option Nat}{ty:Nat}{gd:Option (Nat×Bool)}{next:Act->World->Prop}{Q:Exit->Act->World->Prop}(hP:cx.P=P)(hY:∀l σ h g w,Er σ=true->CT w0 g0 h0 h g w->Le h0 g0 w0 h g w->cx.yp l σ (DT σ g) w){ro:Option Nat}(hS:SR N ds w0 g0 h0 st g a w)(hk:GJ cx dr d st (ev st.t f) (args.toList.map (ev st.t)) K)(hn:bJ w0 g0 h0 st.h g w K fun x w'=>next (a.put dst x) w'):Oper.wpIn (J6 ro) 0 P ⟨dst,.call ⟨.value f,args,Hp⟩,ty,pos,after,gd⟩ a w next Q:=by
 subst hP;have hk:GJ cx false d st (ev st.t f) (args.toList.map (ev st.t)) K:=by
  cases dr with
  |true=>exact gU hk
  |false=>exact hk
 have Kc:∀(i:Nat) (av:AV) (x:Value),((args.toList.map (ev st.t)).map (str st.h))[i]?=some av->(args.map a.eval)[i]?=some x->Bc g w FN av x:=by
  intro i av x h1 h2;rw[BK,BK]at h1;rw[Array.getElem?_map]at h2;cases ho:args[i]? with
  |none=>rw[ho]at h2;simp at h2
  |some y=>
   rw[ho]at h2;have hy:args.toList[i]?=some y:=by simpa using ho
   rw[hy]at h1;simp only[VZ,CV]at h1 h2;subst h1;subst h2;exact Bc.str hS.inv.objs (hS.eval y)
 have CL:(args.map a.eval).size=((args.toList.map (ev st.t)).map (str st.h)).length:=by simp
 have hF:=Bc.str hS.inv.objs (hS.eval f)
 -- a call of yield
 have yl:∀(l:Nat) (R:Ending->World->Prop),a.eval f=.func (.yield l) #[] #[]->YieldAt Fence.wide 0 cx.P l (args.map a.eval) w R->(∀e w',R e w'->∃v,e=.returned v/\next (a.put dst v) w') ->
   Oper.wpIn (J6 ro) 0 cx.P ⟨dst,.call ⟨.value f,args,Hp⟩,ty,pos,after,gd⟩ a w next Q:=by
  rintro l R hx ⟨fn,tm,G7,bd,h1,h2⟩ hR
  refine⟨fun _ _=>trivial,?_⟩;have e:(⟨dst,.call ⟨.value f,args,Hp⟩,ty,pos,after,gd⟩:Oper).semAt (J6 ro).round a.eval=execOp a.eval ⟨dst,.call ⟨.value f,args,Hp⟩,ty,pos,after,gd⟩:=Oper.semAt_eq ro a.eval _ (fun c e=>by cases e);have CE:(execOp a.eval ⟨dst,.call ⟨.value f,args,Hp⟩,ty,pos,after,gd⟩).run cx.P w=.ok (.round l fn tm G7 bd) w:=by
   simp only[execOp,resolve,hx,Deferred.ofValue,Sem.run_bind,Sem.run_pure,Result.andThen_ok,invoke];simpa using h1
  rw[e,CE];refine(show(_->_)/\RoundIn (J6 ro) 0 cx.P l fn tm G7 bd w _ from⟨fun e=>by(cases e),RoundIn.mono h2 fun e w' h=>?_⟩);obtain⟨v,rfl,hn⟩:=hR e w' h;exact hn
 -- the call itself
 have go:∀(Q' : AV->(Nat->HO)->Prop),(∀r h',Q' r h'->h'=Af/\K r st.h)->Gk cx.P (fun _ _ _=>True) (str st.h (ev st.t f)) ((args.toList.map (ev st.t)).map (str st.h)) Af Q' ->
   Oper.wpIn (J6 ro) 0 cx.P ⟨dst,.call ⟨.value f,args,Hp⟩,ty,pos,after,gd⟩ a w next Q:=by
  intro Q' hQ hc
  have fin:∀{fn:Nat} {l:List AV} {vals:Array Value},Bg cx.P fn l Af Q'->vals.size=l.length->(∀(i:Nat) (av:AV) (x:Value),l[i]?=some av->vals[i]?=some x->Bc g w FN av x) ->
    (execOp a.eval ⟨dst,.call ⟨.value f,args,Hp⟩,ty,pos,after,gd⟩).run cx.P w=.ok (.enter fn vals) w->Oper.wpIn (J6 ro) 0 cx.P ⟨dst,.call ⟨.value f,args,Hp⟩,ty,pos,after,gd⟩ a w next Q:=by
   intro fn l vals hc hs hv CE;refine Nu (fun c e=>by cases e) ?_;unfold Oper.wp;rw[CE];exact gV hS.inv hc hs hv (fun v r h' g' w' hq _ hI Js hr=>hn r _ g' w' v (hQ r h' hq).2 hI Js (hr.up _)) (fun r h' hq=>(hQ r h' hq).1)
  unfold Gk at hc;split at hc
  .rename_i fn e;rw[e]at hF;have hx:=hF.v_eq;refine fin hc CL Kc ?_;have Sx : a.eval f=.func (.func fn) #[] #[]:=hx;simp only[execOp,resolve,Sx,Deferred.ofValue,Sem.run_bind,Sem.run_pure,Result.andThen_ok,invoke];rw[G1 hc.1];simp
  .rename_i fn caps e;rw[e]at hF;generalize hx:a.eval f=fv at hF;cases hF with
   |clo _ _ _ vs FI MB=>
    refine fin hc (vals:=args.map a.eval++vs) (by simp[FI]) (fun i av x h1 h2=>?_) ?_
    .rw[List.getElem?_append]at h1;rw[Array.getElem?_append]at h2;have hl:((args.toList.map (ev st.t)).map (str st.h)).length=(args.map a.eval).size:=CL.symm;rw[hl]at h1;split at h1
     .rename_i hi;rw[A3 hi]at h2;exact Kc i av x h1 h2
     .rename_i hi;rw[AN hi]at h2;exact MB _ av x h1 h2
    .simp only[execOp,resolve,hx,Deferred.ofValue,Sem.run_bind,Sem.run_pure,Result.andThen_ok,invoke];rw[G1 hc.1];simp
  .rename_i l e;rw[e]at hF;have hU:AC Af=FN:=by funext i;unfold AC FN Af;simp
   refine yl l _ hF.v_eq (Tr (C:=YieldAt Fence.wide 0 cx.P l (args.map a.eval) w) (R:=fun e w'=>∃v,e=.returned v/\next (a.put dst v) w') YieldAt.imp hS.inv (fun qc=>hc g w _ CL (fun i av x h1 h2=>by rw[hU];exact Kc i av x h1 h2) qc trivial)
    (fun v r h' g' w' hq _ hI Js hr=>⟨v,rfl,hn r _ g' w' v (hQ r h' hq).2 hI Js (hr.up _)⟩) (fun r h' hq=>(hQ r h' hq).1)) fun _ _ h=>h
  .exact hc.elim
 have pure:(∃res,Qz cx.P (str st.h (ev st.t f)) ((args.toList.map (ev st.t)).map (str st.h)) res/\K res st.h)->Oper.wpIn (J6 ro) 0 cx.P ⟨dst,.call ⟨.value f,args,Hp⟩,ty,pos,after,gd⟩ a w next Q:=by
  rintro⟨res,h1,h2⟩
  refine go (fun r h'=>r=res/\h'=Af) (fun r h' hq=>⟨hq.2,by rw[hq.1];exact h2⟩) ?_;unfold Qz at h1;unfold Gk;split at h1
  .rename_i fn e;rw[e];exact h1
  .rename_i fn caps e;rw[e];exact h1
  .exact h1.elim
 unfold GJ at hk
 .obtain⟨m,hm⟩:=hk;cases m with
  |pure=>exact pure hm
  |rel=>exact go _ (fun r h' hq=>hq) hm
  |gen σ nn=>
   simp only at hm;cases d with
   |none=>exact hm.elim
   |some d=>
    simp only at hm;obtain⟨GR,hc⟩:=hm;have hσ:Er σ=true:=by simp only[Ak]at GR;exact GR.1.1
    obtain⟨hR,_⟩:=XW hS.inv hσ;have lQ:=(hS.eval f).ren hR;have T5:∀(i:Nat) (av:AV) (x:Value),((args.toList.map (ev st.t)).map (ren (Cq σ) st.h))[i]?=some av->(args.map a.eval)[i]?=some x->Bc (DT σ g) w (AC (FJ σ st.h)) av x:=by
     intro i av x h1 h2;rw[BK,BK]at h1;rw[Array.getElem?_map]at h2;cases ho:args[i]? with
     |none=>rw[ho]at h2;simp at h2
     |some y=>
      rw[ho]at h2;have hy:args.toList[i]?=some y:=by simpa using ho
      rw[hy]at h1;simp only[VZ,CV]at h1 h2;subst h1;subst h2;exact(hS.eval y).ren hR
    have PJ:(args.map a.eval).size=((args.toList.map (ev st.t)).map (ren (Cq σ) st.h)).length:=by simp
    have fin:∀{fn:Nat} {l:List AV} {vals:Array Value},Bg cx.P fn l (FJ σ st.h) (fun r h'=>K (ren (Fr σ d nn) h' r) (Eb σ d nn st.h h'))->vals.size=l.length ->
      (∀(i:Nat) (av:AV) (x:Value),l[i]?=some av->vals[i]?=some x->Bc (DT σ g) w (AC (FJ σ st.h)) av x) ->
      (execOp a.eval ⟨dst,.call ⟨.value f,args,Hp⟩,ty,pos,after,gd⟩).run cx.P w=.ok (.enter fn vals) w->Oper.wpIn (J6 ro) 0 cx.P ⟨dst,.call ⟨.value f,args,Hp⟩,ty,pos,after,gd⟩ a w next Q:=by
     intro fn l vals hc hs hv CE;refine Nu (fun c e=>by cases e) ?_;unfold Oper.wp;rw[CE];exact kR hS.inv GR hc hs hv (fun v r h' g' w' hq hI Js hr=>hn _ _ g' w' v hq hI Js hr)
    unfold Gk at hc;split at hc
    .rename_i fn e;rw[e]at lQ;have hx:a.eval f=.func (.func fn) #[] #[]:=lQ.v_eq;refine fin hc PJ T5 ?_;simp only[execOp,resolve,hx,Deferred.ofValue,Sem.run_bind,Sem.run_pure,Result.andThen_ok,invoke];rw[G1 hc.1];simp
    .rename_i fn caps e;rw[e]at lQ;generalize hx:a.eval f=fv at lQ;cases lQ with
     |clo _ _ _ vs FI MB=>
      refine fin hc (vals:=args.map a.eval++vs) (by simp[FI]) (fun i av x h1 h2=>?_) ?_
      .rw[List.getElem?_append]at h1;rw[Array.getElem?_append]at h2;have hl:((args.toList.map (ev st.t)).map (ren (Cq σ) st.h)).length=(args.map a.eval).size:=PJ.symm;rw[hl]at h1;split at h1
       .rename_i hi;rw[A3 hi]at h2;exact T5 i av x h1 h2
       .rename_i hi;rw[AN hi]at h2;exact MB _ av x h1 h2
      .simp only[execOp,resolve,hx,Deferred.ofValue,Sem.run_bind,Sem.run_pure,Result.andThen_ok,invoke];rw[G1 hc.1];simp
    .rename_i l e;rw[e]at lQ
     exact yl l _ lQ.v_eq (M9 (C:=YieldAt Fence.wide 0 cx.P l (args.map a.eval) w) (R:=fun e w'=>∃v,e=.returned v/\next (a.put dst v) w') YieldAt.imp hS.inv GR (fun qc=>hc (DT σ g) w _ PJ T5 qc (hY l σ _ _ _ hσ hS.inv hS.le))
      (fun v r h' g' w' hq hI Js hr=>⟨v,rfl,hn _ _ g' w' v hq hI Js hr⟩)) fun _ _ h=>h
    .exact hc.elim
  |geny σ nn=>
   simp only at hm;cases d with
   |none=>exact hm.elim
   |some d=>
    simp only at hm;obtain⟨GR,hc⟩:=hm;have hσ:Er σ=true:=by simp only[Ak]at GR;exact GR.1.1
    obtain⟨hR,_⟩:=XW hS.inv hσ;have lQ:=(hS.eval f).ren hR;have T5:∀(i:Nat) (av:AV) (x:Value),((args.toList.map (ev st.t)).map (ren (Cq σ) st.h))[i]?=some av->(args.map a.eval)[i]?=some x->Bc (DT σ g) w (AC (FJ σ st.h)) av x:=by
     intro i av x h1 h2;rw[BK,BK]at h1;rw[Array.getElem?_map]at h2;cases ho:args[i]? with
     |none=>rw[ho]at h2;simp at h2
     |some y=>
      rw[ho]at h2;have hy:args.toList[i]?=some y:=by simpa using ho
      rw[hy]at h1;simp only[VZ,CV]at h1 h2;subst h1;subst h2;exact(hS.eval y).ren hR
    have PJ:(args.map a.eval).size=((args.toList.map (ev st.t)).map (ren (Cq σ) st.h)).length:=by simp
    split at hc
    .rename_i fn caps e;rw[e]at lQ;generalize hx:a.eval f=fv at lQ;cases lQ with
     |clo _ _ _ vs FI MB=>
      have CE:(execOp a.eval ⟨dst,.call ⟨.value f,args,Hp⟩,ty,pos,after,gd⟩).run cx.P w=.ok (.enter fn (args.map a.eval++vs)) w:=by
       simp only[execOp,resolve,hx,Deferred.ofValue,Sem.run_bind,Sem.run_pure,Result.andThen_ok,invoke];rw[G1 hc.1];simp
      refine Nu (fun c e=>by cases e) ?_;unfold Oper.wp;rw[CE];refine M9 (C:=Calls cx.P fn (args.map a.eval++vs) w) (fun h k=>h.mono k) hS.inv GR (fun qc=>hc.2 (DT σ g) w _ (by simp[FI]) (fun i av x h1 h2=>?_) qc (fun l=>hY l σ _ _ _ hσ hS.inv hS.le)) (fun v r h' g' w' hq hI Js hr=>hn _ _ g' w' v hq hI Js hr);rw[List.getElem?_append]at h1;rw[Array.getElem?_append]at h2;have hl:((args.toList.map (ev st.t)).map (ren (Cq σ) st.h)).length=(args.map a.eval).size:=PJ.symm;rw[hl]at h1;split at h1
      .rename_i hi;rw[A3 hi]at h2;exact T5 i av x h1 h2
      .rename_i hi;rw[AN hi]at h2;exact MB _ av x h1 h2
    .exact hc.elim
end
section
variable {P:Program}{N:Nat}{ds:List Deferred}{w0:World}{g0:Gh}{h0:Nat->HO}{st:St}{g:Gh}{a:Act}{w:World}
theorem Y0(hT:B8 P cx.T){b:Builtin}{dst:Option Nat}{ty:Nat}{gd:Option (Nat×Bool)}{next:Act->World->Prop}{Q:Exit->Act->World->Prop}(hS:SR N ds w0 g0 h0 st g a w)(hk:Ga cx dst st.h b Hp.toList (args.toList.map (ev st.t)) K)(hn:bJ w0 g0 h0 st.h g w K fun x w'=>next (a.put dst x) w'):Oper.wp P ⟨dst,.call ⟨.builtin b,args,Hp⟩,ty,pos,after,gd⟩ a w next Q:=by
 have hI:=hS.inv;have hE:=hS.eval;obtain⟨l⟩:=args;obtain⟨tl⟩:=Hp;unfold Ga at hk;split at hk
 .rename_i x t e1 e2
  match l,e1 with
  | [y],e1=>
   simp only[Bo,IV,NJ,and_true]at e1;subst e1;simp only at e2;subst e2;exact DP (m:=Builtin.len_ #[t] ty #[a.eval y]) (by simp[execOp,resolve,invoke,builtin]) (Bu.does hI (mR hT hI.objs (hE y) hk)) hn
 .rename_i s x t t' e1 e2
  match l,e1 with
  | [y,z],e1=>
   simp only[Bo,IV,NJ,and_true]at e1;obtain⟨rfl,rfl⟩:=e1;simp only at e2;subst e2;split at hk
   .rename_i ht;obtain rfl:=AZ ht;exact DP (m:=Builtin.append_ #[t,t] ty #[a.eval y,a.eval z]) (by simp[execOp,resolve,invoke,builtin]) (bU hI hT (hE y) (hE z) hk) hn
   simp_all
 .rename_i x y Hp e1
  match l,e1 with
  | [y,z],e1=>
   simp only[Bo,IV,NJ,and_true]at e1;obtain⟨rfl,rfl⟩:=e1;exact DP (m:=Builtin.max_ ⟨tl⟩ ty #[a.eval y,a.eval z]) (by simp[execOp,resolve,invoke,builtin]) (Bu.does hI (qN (hE y) (hE z) hk)) hn
 .rename_i x y Hp e1
  match l,e1 with
  | [y,z],e1=>
   simp only[Bo,IV,NJ,and_true]at e1;obtain⟨rfl,rfl⟩:=e1;exact DP (m:=Builtin.min_ ⟨tl⟩ ty #[a.eval y,a.eval z]) (by simp[execOp,resolve,invoke,builtin]) (Bu.does hI (qP (hE y) (hE z) hk)) hn
 simp_all
theorem pc(hT:B8 P cx.T){next:Act->World->Prop}{Q:Exit->Act->World->Prop}(hS:SR N ds w0 g0 h0 st g a w)(hk:F6 cx dr o st K)(hv:∀f args Hp,o.op≠.call ⟨.value f,args,Hp⟩)(hn:bJ w0 g0 h0 st.h g w K fun x w'=>next (a.put o.dst x) w'):o.wp P a w next Q:=by
 have hI:=hS.inv;have hE:=hS.eval;obtain⟨dst,op,ty,pos,after,gd⟩:=o;unfold F6 at hk;cases op with
 |move x=>exact gt hI (x:=a.eval x) rfl hk (hE x) hn
 |assign x=>
  obtain⟨g',av,h',q1,q2,q3,q4⟩:=bW hI (hE x) hk;exact hn _ _ _ _ _ q1 q2 q3 q4
 |pick c x y=>exact DP (m:=do pure (if <-asBool (a.eval c)then a.eval x else a.eval y)) (by simp[execOp]) (Bu.does hI (nD (hE c) (hE x) (hE y) hk)) hn
 |alloc e=>exact DP rfl (gE hI hT hk) hn
 |box e x=>exact DP rfl (pk hI (hE x) hk) hn
 |build t ps=>exact DP rfl (Bu.does hI (gR hT hE hk)) hn
 |buildSlice t n ps=>exact DP rfl (Tq hI hT hE hk) hn
 |insert t m k x=>exact YB rfl (N1 hI hT (hE m) (hE k) (hE x) hk) hn
 |load t x=>exact DP rfl (Bu.does hI (WO hI.objs hT (hE x) hk)) hn
 |store t p x=>exact YB rfl (jY hI hT (hE p) (hE x) hk) hn
 |nilCheck x=>
  obtain⟨h1,h2⟩:=Yh (P:=P) (w:=w) (hE x) hk (pos:=pos) (after:=after) (gd:=gd) (dst:=dst) (ty:=ty) (ρ:=a.eval) rfl<;>grind [gt]
 |binOp op t x y u=>exact DP rfl (Bu.does hI (kJ hT (hE x) (hE y) (fun v e=>by subst e;rfl) hk)) hn
 |unOp op t x=>exact DP rfl (Bu.does hI (oz (hE x) hk)) hn
 |convert s t x=>
  cases dr with
  |true=>exact DP rfl (Bu.does hI (Zh hT (hE x) hk)) hn
  |false=>exact DP rfl (g9 hI hT (hE x) hk) hn
 |makeFunc fn first cap=>exact DP rfl (Bu.does hI (Ye hI.objs hE hk)) hn
 |makeMap t r=>
  cases r with
  |some r=>simp_all
  |none=>exact DP rfl (ay hI hk) hn
 |makeSlice t n c=>exact DP rfl (VM hI hT (hE n) (hE c) hk) hn
 |slice t x lo hi mx=>
  cases dr with
  |true=>
   cases hp:Tl cx.pl.tok dst with
   |none=>
    have hk' : Iv cx dst st.h t (ev st.t x) (CN st.t lo) (CN st.t hi) (CN st.t mx) K:=by
     simp_all
    exact DP rfl (W7 hI hT hE (hE x) hk') hn
   |some _=>
    have hk' : UV cx dst st.h t (ev st.t x) lo (CN st.t hi) mx K:=by
     simp_all
    unfold UV at hk';split at hk'
    .exact DP rfl (fU hI hT hE (hE x) hk') hn
    simp_all
  |false=>
   cases hp:Tl cx.pl.tok dst with
   |none=>
    have hk' : Iv cx dst st.h t (ev st.t x) (CN st.t lo) (CN st.t hi) (CN st.t mx) K:=by
     simp_all
    exact DP rfl (W7 hI hT hE (hE x) hk') hn
   |some _=>
    have hk' : nS cx dst st.h t (ev st.t x) st.t lo hi mx K:=by
     simp_all
    cases lo with
    |some lo=>exact DP rfl (bf hI hT hE (hE x) hk') hn
    |none=>
     unfold nS at hk';dsimp only at hk';split at hk'
     .exact DP rfl (Bu.does hI (gK hI.objs hT (hE x) hk')) hn
     .unfold UV at hk';split at hk'
      .exact DP rfl (fU hI hT hE (hE x) hk') hn
      simp_all
 |fieldAddr s x f=>exact DP rfl (Bu.does hI (ik hT (hE x) hk)) hn
 |field s x f=>exact DP rfl (Bu.does hI (cz hT (hE x) hk)) hn
 |indexAddr t x i=>exact DP rfl (Bu.does hI (VJ hT (hE x) (hE i) hk)) hn
 |index t x i=>exact DP rfl (Bu.does hI (iP hT (hE x) (hE i) hk)) hn
 |lookup t x i ok=>
  have hk:Nq cx.T st.h t (ev st.t x) (ev st.t i) ok fun v=>K v st.h:=by
   grind [jb]
  exact DP rfl (Bu.does hI (dh hT hI.objs (hE x) (hE i) hk)) hn
 |mapUpdate t m k x=>exact YB rfl (N1 hI hT (hE m) (hE k) (hE x) hk) hn
 |range t x=>
  simp only at hk;split at hk
  .rename_i kt e ht;exact DP rfl (jH hI hT ht (hE x) hk) hn
  simp_all
 |next it s=>
  cases s with
  |true=>simp_all
  |false=>exact DP rfl (m5 hI (hE it) hk) hn
 |entry it=>exact DP rfl (Bu.does hI (ii hI.objs (hE it) hk)) hn
 |extract x i=>exact DP rfl (Bu.does hI (Zv (hE x) hk)) hn
 |call c=>
  obtain⟨wd,args,Hp⟩:=c<;>grind [Y0]
 |_=>simp_all
theorem kG(hP:cx.P=P)(hY:∀l σ h g w,Er σ=true->CT w0 g0 h0 h g w->Le h0 g0 w0 h g w->cx.yp l σ (DT σ g) w){ro:Option Nat}(hT:B8 P cx.T){next:Act->World->Prop}{Q:Exit->Act->World->Prop}(hS:SR N ds w0 g0 h0 st g a w)(hk:F6 cx dr o st K)(hn:bJ w0 g0 h0 st.h g w K fun x w'=>next (a.put o.dst x) w'):o.wpIn (J6 ro) 0 P a w next Q:=by
 by_cases hv:∃f args Hp,o.op=.call ⟨.value f,args,Hp⟩
 .obtain⟨f,args,Hp,e⟩:=hv;obtain⟨dst,op,ty,pos,after,gd⟩:=o;cases e;exact kQ hP hY hS hk hn
 .refine Nu (fun c e=>?_) (pc hT hS hk (fun f args Hp e=>hv ⟨f,args,Hp,e⟩) hn);obtain⟨dst,op,ty,pos,after,gd⟩:=o;cases e;exact hk.elim
theorem ze{p:Nat->Prop}(h:∃n,p n):∃n,p n/\∀m,m<n->¬p m:=by
 apply Aw;intro hc
 have:∀n,¬p n:=fun n=>by
  induction n using Nat.strongRecOn<;>grind [Nat.strongRecOn]
 simp_all
theorem SD{m:Nat}{c:Code}{Q:Exit->Act->World->Prop}(I:Nat->Act->World->Prop)(k:Nat)(h0:I k a w)(round:∀n a w,I n a w->c.wpIn F m P (Exit.then (fun a' w'=>∃n',n' < n/\I n' a' w') Q) a w):(Code.loop c).wpIn F m P Q a w:=by
 classical
 have hex:∀a w,(∃n,I n a w)->∃n,I n a w/\∀n',n' < n->¬I n' a w:=fun a w h=>ze h;refine wpIn_loop (fun a w=>∃n,I n a w) (fun a w=>if h:∃n,I n a w then(hex a w h).choose else 0) ⟨k,h0⟩ fun a w h=>?_;have hs:=(hex a w h).choose_spec;refine wpIn_mono (round _ a w hs.1) fun e a' w' q=>?_;cases e with
 |normal=>
  obtain⟨n',ET,hn⟩:=q;have h' : ∃n,I n a' w':=⟨n',hn⟩;refine⟨h',?_⟩
  grind
 |_=>exact q
end
section
variable {P:Program}{N:Nat}{ds:List Deferred}{w0:World}{g0:Gh}{h0:Nat->HO}{st:St}{g:Gh}{a:Act}{w:World}
theorem gY(hT:B8 P T){ty e k ty2 b o n c:Nat}(ht:(T ty).d=.slice e)(hk:(T e).size=k+1)(hz:(T e).zc.length=k+1)(X5:∀v∈(T e).zc,v.oneCell'=true){Ef:Array Value}{E:TypeId}(hb:w.heap[b]?=some (.cells Ef E (0,0)))(hn:0<n)(Js:o+n*(k+1)<=Ef.size) :
  (Builtin.clear_ #[ty] ty2 #[.slice (some ⟨b,o,none⟩) n c]).run P w=.ok (.tuple #[]) (w.setRow b (over Ef.toList o (List.replicate n (T e).zc).flatten).toArray):=by
 obtain⟨z,z1,z2⟩:=Xl (w:=w) hT hk;have uP:(T e).zc≠[]:=fun e0=>by simp_all
 have uI:(Builtin.zeroCells z.cells n).toList=(List.replicate n (T e).zc).flatten:=by
  rw[Ie n _ uP,hz,z2];have e6:z.cells.size=k+1:=by simp_all
  unfold Builtin.zeroCells;simp[e6,Array.getElem!_eq_getD]
 have CL:(List.replicate n (T e).zc).flatten.length=n*(k+1):=by
  simp_all
 have Jt:=run_storeCells_at P b o E (List.replicate n (T e).zc).flatten 0 Ef w hb Wk (fun v hv=>by
  grind [List.mem_flatten])
 simp only[HM]at Jt;rw[Nw _ _ _ (by simp_all)];obtain⟨m,rfl⟩:∃m,n=m+1:=⟨n-1,by omega⟩;simp only[Builtin.clear_,Sem.run_bind,List.getElem?_toArray,Ev,run_underlying (hT.slice ht),Result.andThen_ok,z1,uI,Jt,Sem.run_pure]
theorem co(hT:B8 P T){ty e ty2 c:Nat}(ht:(T ty).d=.slice e)(x:Option Addr) :
  (Builtin.clear_ #[ty] ty2 #[.slice x 0 c]).run P w=.ok (.tuple #[]) w:=by
 cases x<;>simp only[Builtin.clear_,Sem.run_bind,List.getElem?_toArray,Ev,run_underlying (hT.slice ht),Result.andThen_ok,Sem.run_pure]
theorem nN{d:Nat}(hd:d<a.tmps.size):(a.put (some d) x).eval (.tmp d)=x:=by
 show(a.tmps.setIfInBounds d x).getD d undef=x;simp_all
theorem mq(h:Nat->HO)(r:Nat):AK h r (h r)=h:=funext fun i=>by
 grind [A2,BT]
theorem c9(h:ai o o2=true):∃ty x lo d ty2 pos after vN rj Xs,o=⟨some d,.slice ty x (some lo) none none,ty2,pos,after,none⟩/\o2=⟨none,.call ⟨.builtin .clear,#[.tmp d],#[ty]⟩,vN,rj,Xs,none⟩:=by
 obtain⟨dst,op,t2,p1,a1,gd⟩:=o;obtain⟨Ahq,op2,t3,p2,a2,gd2⟩:=o2;unfold ai at h;split at h
 .rename_i c e1;split at h
  .rename_i e2;split at h
   .rename_i ty x lo e3;split at h
    .rename_i d d' ty' e4 e5 e6 e7 e8 e9;obtain⟨wd,⟨args⟩,⟨Hp⟩⟩:=c;simp only at e1 e2 e3 e4 e5 e6 e7 e8 e9;simp only[Ak]at h;obtain rfl:=AZ h.1;obtain rfl:=AZ h.2;subst e1 e2 e3 e4 e5 e6 e7 e8 e9
     grind
    simp_all
   simp_all
  simp_all
 simp_all
theorem pF(hT:B8 P cx.T){ro:Option Nat}(hd:∀i,o.dst=some i->i<N)(hc:ai o o2=true){K:St->Prop}(hS:SR N ds w0 g0 h0 st g a w)(hk:pE cx o st K){next:Act->World->Prop}{Q:Exit->Act->World->Prop}(hn:∀EF g' a' w',K EF->SR N ds w0 g0 h0 EF g' a' w'->next a' w') :
  o.guard=none/\o2.guard=none/\o.wpIn (J6 ro) 0 P a w (fun a1 w1=>o2.wpIn (J6 ro) 0 P a1 w1 next Q) Q:=by
 obtain⟨ty,x,lo,d,ty2,pos,after,vN,rj,Xs,rfl,rfl⟩:=c9 hc;refine⟨rfl,rfl,?_⟩;have hI:=hS.inv;have hE:=hS.eval;have hdN:d<a.tmps.size:=by grind [SR.size]
 -- what is to be shown of the two operations
 have two:∀(v:Value) (EF : St) (g' : Gh) (w' : World),(Instr.sliceAt ty (a.eval x) (some (a.eval lo)) none none).run P w=.ok v w->(Builtin.clear_ #[ty] vN #[v]).run P w=.ok (.tuple #[]) w'->K ⟨JY st.t d .junk,EF.h⟩->CT w0 g0 h0 EF.h g' w'->Le st.h g w EF.h g' w' ->
   Oper.wpIn (J6 ro) 0 P ⟨some d,.slice ty x (some lo) none none,ty2,pos,after,none⟩ a w (fun a1 w1=>Oper.wpIn (J6 ro) 0 P ⟨none,.call ⟨.builtin .clear,#[.tmp d],#[ty]⟩,vN,rj,Xs,none⟩ a1 w1 next Q) Q:=by
  intro v EF g' w' r1 r2 hk hI' Js;refine Nu (by simp_all) ?_;unfold Oper.wp;have hx:execOp a.eval ⟨some d,.slice ty x (some lo) none none,ty2,pos,after,none⟩=(do pure (Next.value (<-Instr.sliceAt ty (a.eval x) (some (a.eval lo)) none none))):=rfl;rw[hx,Sem.run_bind,r1];refine Nu (by simp_all) ?_;unfold Oper.wp;have y8:execOp (a.put (some d) v).eval ⟨none,.call ⟨.builtin .clear,#[.tmp d],#[ty]⟩,vN,rj,Xs,none⟩=(do pure (Next.value (<-Builtin.clear_ #[ty] vN #[v]))):=by
   grind [execOp,resolve,invoke,builtin,nN]
  rw[y8,Sem.run_bind,r2];have S1:SR N ds w0 g0 h0 (st.put (some d) .junk st.h) g (a.put (some d) v) w:=hS.put hd hI (.refl _ _ _) (.junk _ _);have S2:SR N ds w0 g0 h0 ((st.put (some d) .junk st.h).put none (.v (.tuple #[])) EF.h) g' ((a.put (some d) v).put none (.tuple #[])) w':=S1.put (by simp_all) hI' Js (.v _ _);exact hn _ g' _ w' hk S2
 unfold pE at hk;simp only at hk;split at hk
 .rename_i e hs;split at hk
  .rename_i r n ex;split at hk
   .rename_i i ei;split at hk
    .rename_i sz es er;split at hk
     .rename_i hb;obtain rfl:=AZ hb;split at hk
      .simp_all
      .rename_i k FI;split at hk
       .rename_i YH;have YH:=AZ YH;obtain⟨⟨rfl,i0,i1⟩,hk⟩:=hk;unfold xz at hk;split at hk
        .rename_i GB;have GB:∀v∈(cx.T e).zc,v.oneCell'=true:=A0.1 GB;have ho:=hI.objs r;rw[er]at ho;obtain⟨t1,l1,al,a2⟩:=ho;have mB:=hE x;rw[ex]at mB;have yH:=hE lo;rw[ei]at yH;have yH:=yH.v_eq;generalize hvx:a.eval x=vx at mB two;rw[yH]at two;cases mB with
         |msl _ _ _ ad cap hu ht' kj ha Sx=>
          have hv:=Sx l1.symm;have MB:es.length<=cap:=by
           grind
          have CE:=E1 (P:=P) (w:=w) hT hs FI ad es.length cap (some i) none none (.inl rfl) (by simp_all) (by simp_all) (by simp_all) aa0;simp only[Ey,L9,GG,VZ,Option.map_none]at CE
          by_cases hz:i.toNat=es.length
          .-- nothing is cleared
           have e1:es.length-i.toNat=0:=by omega
           rw[e1]at CE hk;refine two _ st g w CE (co hT hs _) ?_ hI (.refl _ _ _);have e2:es.take i.toNat++List.replicate 0 ((cx.T e).zc.map AV.v)=es:=by simp_all
           rw[e2,<-er,mq]at hk;exact hk
          .have ET:i.toNat<es.length:=by omega
           rcases a2 with ⟨b1,_⟩ | ⟨b,NL,E,vs,b1,b2,b3,b4,b5,b6,b7⟩
           .simp_all
           .rw[b1]at hv;cases hv;have EG:¬cap=i.toNat:=by omega
            rw[AN EG]at CE;have Acw:Option.map (fun x:Addr=>x.add (i.toNat*(cx.T e).size)) (some ⟨b,0,none⟩)=some ⟨b,i.toNat*(cx.T e).size,none⟩:=by grind [Addr.add]
            rw[Acw]at CE;have X4:es.length*(cx.T e).size<=cap*(cx.T e).size:=BD _ b3;have iL:i.toNat*(cx.T e).size+(es.length-i.toNat)*(cx.T e).size=es.length*(cx.T e).size:=by rw[<-Mj];simp_all
            have hcl:=gY (w:=w) (ty2:=vN) (c:=cap-i.toNat) hT hs FI (YH.trans FI) GB b4 (n:=es.length-i.toNat) (o:=i.toNat*(cx.T e).size) Wk (by simp_all);have hl:(st.h r).live:=by rw[er];trivial
            generalize hZ:(List.replicate (es.length-i.toNat) (cx.T e).zc).flatten=Z at hcl;have hZl:Z.length=(es.length-i.toNat)*(cx.T e).size:=by
             rw[<-hZ,Dq (n:=(cx.T e).size) (fun c hc=>by simp_all),List.length_replicate]
            have PJ:(es.take i.toNat++List.replicate (es.length-i.toNat) ((cx.T e).zc.map AV.v)).length=es.length:=by
             simp_all
            have Acx:∀c∈es.take i.toNat++List.replicate (es.length-i.toNat) ((cx.T e).zc.map AV.v),c.length=(cx.T e).size:=fun c hc=>by
             grind
            have AiV:vs.toList.length=cap*(cx.T e).size:=by omega
            have hfl:(es.take i.toNat++List.replicate (es.length-i.toNat) ((cx.T e).zc.map AV.v)).flatten=over es.flatten (i.toNat*(cx.T e).size) (Z.map AV.v):=by
             rw[Nw _ _ _ (by rw[BJ,hZl,iL,Dq al];omega),D8,Oi al,BJ,hZl,iL,DY (by rw[Dq al];omega),Eg,<-hZ,List.map_flatten,List.map_replicate]
            have uN:((over vs.toList (i.toNat*(cx.T e).size) Z).toArray.toList.take (es.length*(cx.T e).size))=over (vs.toList.take (es.length*(cx.T e).size)) (i.toNat*(cx.T e).size) Z:=
             WX _ _ _ _ Wk Wk
            have hZr:Cg g w FN (Z.map AV.v) Z:=Cg.vals (by
             have x5 : ∀l:List AV,(∀a∈l,one a=true)->G6 l=true:=by
              intro l
              induction l with
              |nil=>intro _;rfl
              |cons a l ih=>intro h;simp[G6,h a (List.mem_cons_self ..),ih (fun b hb=>h b (List.mem_cons_of_mem _ hb))]
             refine x5 _ fun q hq=>?_;obtain⟨y,hy,rfl⟩:=Ar.1 hq;rw[<-hZ]at hy;obtain⟨l,hl,hy⟩:=Fm.1 hy;rw[List.eq_of_mem_replicate hl]at hy;exact GB y hy)
            have uF:Cg g w FN (over es.flatten (i.toNat*(cx.T e).size) (Z.map AV.v)) (over (vs.toList.take (es.length*(cx.T e).size)) (i.toNat*(cx.T e).size) Z):=
             b6.over hZr _ (by rw[BJ,hZl,iL,Dq al];omega)
            obtain⟨k1,k2⟩:=hI.write hl b2 (.arr (cx.T e).size (es.take i.toNat++List.replicate (es.length-i.toNat) ((cx.T e).zc.map AV.v))) b4 (over vs.toList (i.toNat*(cx.T e).size) Z).toArray (g.ln r) (g.own r) g.S aa0 rfl (fun b' e=>by simp_all) (fun _ _ h=>h)
             (fun b' o hs=>.inl hs) (fun o hs=>absurd hs (b7 o)) (fun hg IS EU=>by
              obtain⟨u1,u2,u3,u4⟩:=Bm g r (g.ρ r) (g.ln r) (g.tk r) (g.own r) g.S;refine⟨u3.trans t1,u2.trans Wk,Acx,.inr ⟨b,cap,E,_,?_,u4.trans b2,by omega,EU,?_,?_,b7⟩⟩
              .simp_all
              .simp only[List.size_toArray,Gd,Array.length_toList];exact b5
              .rw[PJ,uN,hfl];exact uF.mono IS (fun _ h=>h) (fun _ h=>h.elim))
            exact two _ ⟨st.t,_⟩ _ _ CE hcl hk k1 k2
        simp_all
       simp_all
     simp_all
    simp_all
   simp_all
  simp_all
 simp_all
end
end Go.Eng
