/- Lemmas 10. -/
import Derived.Test.YteaiieomnhbmgaaGreatDoorBA09
namespace Go.Eng
variable {o:Oper}{K:HK}{args:Array Operand}{cx:Cx}{G7:Array TypeId}{vals:Array Value}{after:Array Edge}{dr:Bool}{pos:String}{x:Value}{F:Fence}{o2:Oper}{T:GF}(σ:Jk)
theorem PW{h:Nat->HO}{d:Nat}:∀{n:Nat},D3 h d n=true->∀k,k<n->h (Bz d k)=.free
 |0,_,k,hk=>by omega
 |n+1,hf,k,hk=>by
  simp only[D3,Am]at hf
  by_cases e:k=n
  .grind
  .exact PW hf.2 k ch
theorem N2{d nn:Nat}:∀{σ:Jk},Di σ d nn=true->∀{i j},Cy σ i=some j->¬(Bz d 0<=i/\i<Bz d nn)
 | [],_,i,j,h=>by grind [Cy]
 |(a,b)::r,hs,i,j,hf=>by
  simp only[Di,Am]at hs;unfold Cy at hf
  by_cases e1:a=i
  .grind [Nat.ble_eq_true_of_le,Nat.blt_eq]
  .simp only[DF e1,F1]at hf;exact N2 hs.2 hf
section
variable {P:Program}{w0:World}{g0:Gh}{h0 h:Nat->HO}{g:Gh}{w:World}
def DT(g:Gh):Gh:=
 ⟨fun j=>match If σ j with | some i=>g.ρ i | none=>.nilIface,fun j=>match If σ j with | some i=>g.ln i | none=>0,fun j=>match If σ j with | some i=>g.tk i | none=>false,
  fun j=>match If σ j with | some i=>g.own i | none=>none,g.S⟩
def src(d nn:Nat)(i:Nat):Option Nat:=
 match Cy σ i with
 |some j=>some j
 |none=>match Nat.ble (Bz d 0) i&&Nat.blt i (Bz d nn)with |true=>some (2000+(i-Bz d 0)) |false=>none
def GV(d nn:Nat)(g g' : Gh):Gh:=
 ⟨fun i=>match src σ d nn i with | some j=>g'.ρ j | none=>g.ρ i,fun i=>match src σ d nn i with | some j=>g'.ln j | none=>g.ln i,fun i=>match src σ d nn i with | some j=>g'.tk j | none=>g.tk i,
  fun i=>match src σ d nn i with | some j=>g'.own j | none=>g.own i,g'.S⟩
theorem jc(d nn:Nat)(h h' : Nat->HO)(i:Nat):D8 σ d nn h h' i=match src σ d nn i with | some j=>(h' j).ren (Fb σ d nn) h' | none=>h i:=by
 grind [D8,src]
theorem pO{σ:Jk}{d nn:Nat}(hσ:Er σ=true)(ha:Di σ d nn=true)(i j:Nat):src σ d nn i=some j↔Fb σ d nn j=some i:=by
 have inv:=Zg hσ;unfold src Fb;cases h1:Cy σ i with
 |some j'=>
  have hb:=(inv i j').1 h1;dsimp only;constructor
  .grind
  .intro h;cases h2:If σ j with
   |some i'=>grind
   |none=>
    rw[h2]at h;dsimp only at h;split at h
    .rename_i hc;have h:=DW h;subst h;simp only[Am,ES,Dx]at hc;exact absurd ⟨by grind [Bz],by grind [Bz]⟩ (N2 ha h1)
    simp_all
 |none=>
  dsimp only;cases h2:If σ j with
  |some i'=>
   dsimp only;have hf:=(inv i' j).2 h2;have hr:=XF hσ hf
   grind
  |none=>
   dsimp only;constructor
   .grind [Nat.ble_eq,Nat.blt_eq,Bz]
   .intro h;split at h
    .rename_i hc;have h:=DW h;subst h;simp only[Am,ES,Dx]at hc;have e1:(Nat.ble (Bz d 0) (Bz d (j-2000))&&Nat.blt (Bz d (j-2000)) (Bz d nn))=true:=by
      grind [Nat.ble_eq,Nat.blt_eq,Bz]
     grind [Bz]
    simp_all
theorem YI(hI:CV w0 g0 h0 h g w){σ:Jk}(hσ:Er σ=true):FX (Cy σ) h (Fv σ h) g (DT σ g) w/\CV w (DT σ g) (Fv σ h) (Fv σ h) (DT σ g) w:=by
 have inv:=Zg hσ;have FQ:∀j,Fv σ h j=match If σ j with | some i=>(h i).ren (Cy σ) h | none=>.free:=Qh _ _ σ
 have hR:FX (Cy σ) h (Fv σ h) g (DT σ g) w:=by
  refine⟨fun r r' hr hu=>?_,fun b o=>Iff.rfl,hI.objs⟩
  grind [DT,AI,M7]
 have Kw:∀j,(Fv σ h j).live->∃i,If σ j=some i/\(h i).live:=fun j hl=>by
  rw[FQ]at hl;cases e:If σ j with
  |none=>rw[e]at hl;exact hl.elim
  |some i=>grind [M6]
 have YQ:∀j i,If σ j=some i->(DT σ g).own j=g.own i:=fun j i e=>by simp[DT,e]
 refine⟨hR,rfl,rfl,rfl,Ap _,fun _ _ _=>rfl,hI.slt,fun j=>?_,fun j j' b hl SL e e'=>?_,fun j b hl e=>?_,fun _ _ h=>.inl h,hI.glob⟩
 .rw[FQ];cases e:If σ j with
  |none=>trivial
  |some i=>
   by_cases hu:AI h i
   .grind [DR.ren,CV.objs]
   .have:h i=.free:=B8.1 hu
    dsimp only;rw[this];trivial
 .obtain⟨i,e1,l1⟩:=Kw j hl;obtain⟨i',e2,l2⟩:=Kw j' SL;rw[YQ j i e1]at e;rw[YQ j' i' e2]at e';obtain rfl:=hI.inj i i' b l1 l2 e e'
  have:=(inv i j).2 e1
  rw[(inv i j').2 e2]at this;simp_all
 .obtain⟨i,e1,l1⟩:=Kw j hl;have e0:=e;rw[YQ j i e1]at e;exact⟨(hI.loc i b l1 e).1,.inr ⟨j,hl,e0⟩⟩
theorem Nk{C:(Ending->World->Prop)->Prop}(hm:∀{R R' : Ending->World->Prop},C R->(∀e w,R e w->R' e w)->C R')(hI:CV w0 g0 h0 h g w){σ:Jk}{d nn:Nat}(GG:(Er σ&&D3 h d nn&&Di σ d nn)=true){Q:AV->(Nat->HO)->Prop}
  (hc:CV w (DT σ g) (Fv σ h) (Fv σ h) (DT σ g) w->C (fun e w'=>∃v r h' g',e=Ending.returned v/\Q r h'/\Ba g' w' (AI h') r v/\CV w (DT σ g) (Fv σ h) h' g' w'/\Le (Fv σ h) (DT σ g) w h' g' w')) {R:Ending->World->Prop}
  (gw:∀v r h' g2 w',Q r h'->CV w0 g0 h0 (D8 σ d nn h h') g2 w'->Le h g w (D8 σ d nn h h') g2 w'->Ba g2 w' (AI (D8 σ d nn h h')) (ren (Fb σ d nn) h' r) v->R (.returned v) w'):C R:=by
 simp only[Am]at GG;obtain⟨⟨hσ,hnf⟩,hap⟩:=GG;obtain⟨hF,rQ⟩:=YI hI hσ;have inv:=Zg hσ;have hsb:=pO hσ hap;refine hm (hc rQ) ?_
 rintro e w' ⟨v,r,h',g',rfl,q1,q2,q3,q4⟩
 have hb:=jc σ d nn h h';have wK:∀i j,src σ d nn i=some j->(GV σ d nn g g').ρ i=g'.ρ j/\(GV σ d nn g g').ln i=g'.ln j/\(GV σ d nn g g').tk i=g'.tk j/\(GV σ d nn g g').own i=g'.own j:=fun i j e=>by simp[GV,e]
 have hg3:∀i,src σ d nn i=none->(GV σ d nn g g').ρ i=g.ρ i/\(GV σ d nn g g').ln i=g.ln i/\(GV σ d nn g g').tk i=g.tk i/\(GV σ d nn g g').own i=g.own i:=fun i e=>by simp[GV,e]
 have hB:FX (Fb σ d nn) h' (D8 σ d nn h h') g' (GV σ d nn g g') w':=by
  refine⟨fun j i hj hu=>?_,fun b o=>Iff.rfl,q3.objs⟩
  grind [AI,M7]
 have Aah:∀j,Fv σ h j=match If σ j with | some i=>(h i).ren (Cy σ) h | none=>.free:=Qh _ _ σ
 have Af2:∀j i,Cy σ i=some j->(h i).live->(Fv σ h j).live:=fun j i e hl=>by
  grind [M6]
 have AhM:∀j i,Cy σ i=some j->(DT σ g).own j=g.own i:=fun j i e=>by grind [DT]
 have rU : ∀j,(Fv σ h j).live->∃i,Cy σ i=some j/\(h i).live/\(DT σ g).own j=g.own i:=fun j hl=>by
  rw[Aah]at hl;cases e:If σ j with
  |none=>rw[e]at hl;exact hl.elim
  |some i=>grind [M6]
 -- what the callee may not touch
 have qC:∀b,b<w.heap.size->(∀i,(h i).live->Cy σ i≠none->g.own i≠some b)->w'.heap[b]?=w.heap[b]?:=fun b E3 hn=>q3.frame b E3 fun j hl e=>by
  grind
 have hSs:∀b o,g'.S b o->b<w.heap.size->(∀i,(h i).live->Cy σ i≠none->g.own i≠some b)->g.S b o:=fun b o hs E3 hn=>by
  rcases q3.sg b o hs with h1 | h1 | ⟨j,h1,h2⟩
  .exact h1
  all_goals grind
 have hk:Eu g w (GV σ d nn g g') w':=q4.keeps;have Ac:∀i,Cy σ i=none->src σ d nn i≠none->h i=.free:=fun i e1 e2=>by
  unfold src at e2;rw[e1]at e2;dsimp only at e2;split at e2
  .rename_i hc;simp only[Am,ES,Dx]at hc
   have:=PW hnf (i-Bz d 0) (by grind [Bz])
   grind [Bz]
  simp_all
 have w6:∀i j,Cy σ i=some j->src σ d nn i=some j:=fun i j e=>by grind [src]
 have hgl:KG g (GV σ d nn g g') (AI h):=fun i hu=>by
  cases e:Cy σ i with
  |some j=>
   obtain⟨k1,k2,k3,k4⟩:=wK i j (w6 i j e);obtain⟨f1,f2,f3,f4,f5⟩:=hF.ids i j e hu;obtain⟨m1,m2,m3,m4⟩:=q4.gh j f5<;>simp_all
  |none=>
   have e2:src σ d nn i=none:=B8.1 fun e2=>hu (Ac i e e2);simp_all
 have Ms:∀i,AI h i->AI (D8 σ d nn h h') i:=fun i hu=>by
  grind [AI,M7,src,Le.us,FX.ids]
 have jN:∀i,(D8 σ d nn h h' i).live->(∃j,src σ d nn i=some j/\(h' j).live/\(GV σ d nn g g').own i=g'.own j)\/(src σ d nn i=none/\(h i).live/\(GV σ d nn g g').own i=g.own i/\Cy σ i=none):=fun i hl=>by
  grind [src,M6]
 have Aaf:∀j b,(h' j).live->g'.own j=some b->b<w'.heap.size/\(w.heap.size<=b\/∃i,Cy σ i≠none/\(h i).live/\g.own i=some b):=fun j b hl e=>by
  grind [CV.loc]
 have yY:∀i b,(h i).live->g.own i=some b->Cy σ i=none->∀i',(h i').live->Cy σ i'≠none->g.own i'≠some b:=fun i b hl e hn i' SL qE e'=>by
  obtain rfl:=hI.inj i i' b hl SL e e';simp_all
 refine gw v r h' (GV σ d nn g g') w' q1 ⟨q3.os.trans hI.os,q3.tape.trans hI.tape,q3.output.trans hI.output,AH hI.size q3.size,fun b E3 hn=>?_,q3.slt,fun i=>?_,fun i i' b hl SL e e'=>?_,fun i b hl e=>?_,fun b o hs=>?_,hI.glob.keep hk⟩ ⟨hgl,Ms,hk⟩ (q2.ren hB)
 .grind [CV.loc,CV.frame]
 .rw[hb];cases e:src σ d nn i with
  |some j=>
   by_cases hu:AI h' j
   .grind [DR.ren,CV.objs]
   .have:h' j=.free:=B8.1 hu
    dsimp only;rw[this];trivial
  |none=>
   obtain⟨k1,k2,k3,k4⟩:=hg3 i e;have e2:Cy σ i=none:=by
    cases e2:Cy σ i<;>grind [Cy]
   refine(hI.objs i).same hk Ms hgl k1 k2 k3 k4 fun b hl ho=>?_;have E3:=(hI.loc i b hl ho).1;exact⟨qC b E3 (yY i b hl ho e2),fun k hs=>hSs b k hs E3 (yY i b hl ho e2)⟩
 .have mixed:∀i j i',(h' j).live->g'.own j=some b->(h i').live->g.own i'=some b->Cy σ i'=none->i=i':=fun i j i' l1 o1 l2 o2 n2=>by
   rcases(Aaf j b l1 o1).2 with h1 | ⟨i3,n3,l3,o3⟩
   .have:=(hI.loc i' b l2 o2).1;omega
   grind
  rcases jN i hl with ⟨j,s1,l1,o1⟩ | ⟨s1,l1,o1,n1⟩<;>rcases jN i' SL with ⟨j',s2,l2,o2⟩ | ⟨s2,l2,o2,n2⟩
  .obtain rfl:=q3.inj j j' b l1 l2 (by simp_all) (by simp_all);simp_all
  .exact mixed i j i' l1 (by simp_all) l2 (by simp_all) n2
  .exact(mixed i' j' i l2 (by simp_all) l1 (by simp_all) n1).symm
  .exact hI.inj i i' b l1 l2 (by simp_all) (by simp_all)
 .rcases jN i hl with ⟨j,s1,l1,o1⟩ | ⟨s1,l1,o1,n1⟩
  .obtain⟨h1,h2⟩:=Aaf j b l1 (by simp_all);refine⟨h1,?_⟩;rcases h2 with h2 | ⟨i3,n3,l3,o3⟩
   .exact .inl (AH hI.size h2)
   .exact(hI.loc i3 b l3 o3).2
  .obtain⟨h1,h2⟩:=hI.loc i b l1 (by simp_all)
   grind
 .rcases q3.sg b o hs with h1 | h1 | ⟨j,h1,h2⟩
  .exact hI.sg b o h1
  .exact .inr (.inl (AH hI.size h1))
  .obtain⟨i,e1,l1,o1⟩:=rU j h1;exact .inr (hI.loc i b l1 (by rw[<-o1];exact h2)).2
theorem mi(hI:CV w0 g0 h0 h g w){σ:Jk}{d nn:Nat}(GG:(Er σ&&D3 h d nn&&Di σ d nn)=true){f:Nat}{args:List AV}{Q:AV->(Nat->HO)->Prop}(hc:AP P f args (Fv σ h) Q)(hs:vals.size=args.length)(hv:∀(i:Nat) (av:AV) (x:Value),args[i]?=some av->vals[i]?=some x->Ba (DT σ g) w (AI (Fv σ h)) av x){R:Ending->World->Prop}(gw:∀v r h' g2 w',Q r h'->CV w0 g0 h0 (D8 σ d nn h h') g2 w'->Le h g w (D8 σ d nn h h') g2 w'->Ba g2 w' (AI (D8 σ d nn h h')) (ren (Fb σ d nn) h' r) v->R (.returned v) w'):Calls P f vals w R:=
 Nk (C:=Calls P f vals w) (fun h k=>h.mono k) hI GG (hc.2 (DT σ g) w vals hs hv) gw
end
structure SR(N:Nat)(ds:List Deferred)(w0:World)(g0:Gh)(h0:Nat->HO)(st:St)(g:Gh)(a:Act)(w:World):Prop where
 inv:CV w0 g0 h0 st.h g w
 le:Le h0 g0 w0 st.h g w
 dfs:a.defers=ds
 size:a.tmps.size=N
 slots:∀i,Ba g w (AI st.h) (st.t i) (a.tmps.getD i undef)
section
variable {P:Program}{N:Nat}{ds:List Deferred}{w0:World}{g0:Gh}{h0:Nat->HO}{st:St}{g:Gh}{a:Act}{w:World}
theorem SR.eval(hS:SR N ds w0 g0 h0 st g a w)(x:Operand):Ba g w (AI st.h) (ev st.t x) (a.eval x):=by
 cases x with
 |tmp i=>exact hS.slots i
 |const v=>exact .v _ _
 |global b=>exact .v _ _
 |func f=>exact .v _ _
theorem SR.put(hS:SR N ds w0 g0 h0 st g a w){d:Option Nat}(hd:∀i,d=some i->i<N){v:AV}{x:Value}{h' : Nat->HO}{g' : Gh}{w' : World}(hI:CV w0 g0 h0 h' g' w')(Jr:Le st.h g w h' g' w')(hr:Ba g' w' (AI h') v x) :
  SR N ds w0 g0 h0 (st.put d v h') g' (a.put d x) w':=by
 have old:∀i,Ba g' w' (AI h') (st.t i) (a.tmps.getD i undef):=fun i=>(hS.slots i).le Jr;cases d with
 |none=>exact⟨hI,hS.le.trans Jr,hS.dfs,hS.size,old⟩
 |some d=>
  have hdN:=hd d rfl;refine⟨hI,hS.le.trans Jr,hS.dfs,by simp[Act.put,hS.size],fun i=>?_⟩;simp only[St.put,Act.put,Ka]
  by_cases e:i=d
  .subst e
   have:i<a.tmps.size:=by rw[hS.size];exact hdN
   simp only[Nat.beq_refl,cond_true];rw[Ig,Array.getElem?_setIfInBounds_self,Ay this];exact hr
  .simp only[DF e,F1];rw[Ig,Array.getElem?_setIfInBounds_ne (Ne.symm e),<-Ig];exact old i
def cQ(w0:World)(g0:Gh)(h0 h:Nat->HO)(g:Gh)(w:World)(K:HK)(next:Value->World->Prop):Prop:=
 ∀v h' g' w' x,K v h'->CV w0 g0 h0 h' g' w'->Le h g w h' g' w'->Ba g' w' (AI h') v x->next x w'
theorem DP{m:Sem Value}{next:Act->World->Prop}{Q:Exit->Act->World->Prop}(hx:execOp a.eval o=(do pure (Next.value (<-m))))(hd:Oc P w0 g0 h0 st.h g w m K)(hn:cQ w0 g0 h0 st.h g w K fun x w'=>next (a.put o.dst x) w'):o.wp P a w next Q:=by
 obtain⟨x,w',g',av,h',h1,h2,h3,h4,h5⟩:=hd;unfold Oper.wp;rw[hx,Sem.run_bind,h1];exact hn av h' g' w' x h2 h3 h4 h5
theorem Zy{m:Sem Unit}{next:Act->World->Prop}{Q:Exit->Act->World->Prop}(hx:execOp a.eval o=(do m;pure Next.skip))(hd:lE P w0 g0 h0 st.h g w m K)(hn:cQ w0 g0 h0 st.h g w K fun x w'=>next (a.put o.dst x) w'):o.wp P a w next Q:=by
 obtain⟨w',g',h',h1,h2,h3,h4⟩:=hd;unfold Oper.wp;rw[hx,Sem.run_bind,h1];exact hn _ h' g' w' undef h2 h3 h4 (.v _ _)
theorem iI{next:Act->World->Prop}{Q:Exit->Act->World->Prop}{v:AV}(hI:CV w0 g0 h0 st.h g w)(hx:(execOp a.eval o).run P w=.ok (.value x) w)(hk:K v st.h)(hr:Ba g w (AI st.h) v x)(hn:cQ w0 g0 h0 st.h g w K fun x w'=>next (a.put o.dst x) w'):o.wp P a w next Q:=by
 unfold Oper.wp;rw[hx];exact hn _ _ _ _ _ hk hI (.refl _ _ _) hr
theorem TP{C:(Ending->World->Prop)->Prop}(hm:∀{R R' : Ending->World->Prop},C R->(∀e w,R e w->R' e w)->C R')(hI:CV w0 g0 h0 st.h g w){Q:AV->(Nat->HO)->Prop}
  (hc:CV w g Ac Ac g w->C (fun e w'=>∃v r h' g',e=Ending.returned v/\Q r h'/\Ba g' w' (AI h') r v/\CV w g Ac h' g' w'/\Le Ac g w h' g' w')) {R:Ending->World->Prop}
  (hR:∀v r h' g' w',Q r h'->h'=Ac->CV w0 g0 h0 st.h g' w'->Le st.h g w st.h g' w'->Ba g' w' Fp r v->R (.returned v) w') (hQ:∀r h',Q r h'->h'=Ac):C R:=by
 have hU:AI Ac=Fp:=by funext i;unfold AI Fp Ac;simp
 have rQ:CV w g Ac Ac g w:=⟨rfl,rfl,rfl,Ap _,fun _ _ _=>rfl,hI.slt,fun _=>trivial,fun _ _ _ h=>h.elim,fun _ _ h=>h.elim,fun _ _ h=>.inl h,hI.glob⟩;refine hm (hc rQ) ?_
 rintro e w' ⟨v,r,h',g',rfl,q1,q2,q3,q4⟩
 obtain rfl:=hQ r h' q1;rw[hU]at q2
 -- the caller's ghost,with the callee's stable cells
 have hk:Eu g w ⟨g.ρ,g.ln,g.tk,g.own,g'.S⟩ w':=q4.keeps;have hg:KG g ⟨g.ρ,g.ln,g.tk,g.own,g'.S⟩ (AI st.h):=fun _ _=>⟨rfl,Ap _,fun _=>rfl,fun _=>rfl⟩;have qC:∀b,b<w.heap.size->w'.heap[b]?=w.heap[b]?:=fun b hb=>q3.frame b hb (fun _ h=>h.elim);have hSs:∀b o,g'.S b o->b<w.heap.size->g.S b o:=fun b o hs hb=>by
  rcases q3.sg b o hs with h1 | h1 | ⟨_,h1,_⟩
  .exact h1
  .omega
  .exact h1.elim
 refine hR v r Ac ⟨g.ρ,g.ln,g.tk,g.own,g'.S⟩ w' q1 rfl ⟨q3.os.trans hI.os,q3.tape.trans hI.tape,q3.output.trans hI.output,AH hI.size q3.size,fun b hb hn=>?_,q3.slt,fun i=>?_,hI.inj,fun i b hl ho=>?_,fun b o hs=>?_,hI.glob.keep hk⟩ ⟨hg,fun _ h=>h,hk⟩ ?_
 .exact(qC b (BY hb hI.size)).trans (hI.frame b hb hn)
 .refine(hI.objs i).same hk (fun _ h=>h) hg rfl rfl rfl rfl (fun b hl ho=>?_);have E3:=(hI.loc i b hl ho).1;exact⟨qC b E3,fun k hs=>hSs b k hs E3⟩
 .obtain⟨h1,h2⟩:=hI.loc i b hl ho;exact⟨BY h1 q3.size,h2⟩
 .rcases q3.sg b o hs with h1 | h1 | ⟨_,h1,_⟩
  .exact hI.sg b o h1
  .exact .inr (.inl (AH hI.size h1))
  .exact h1.elim
 .have:Eu g' w' ⟨g.ρ,g.ln,g.tk,g.own,g'.S⟩ w':=fun b o h=>⟨h,rfl,fun _ _ h=>h⟩
  exact q2.mono this (fun _ h=>h) (fun _ h=>h.elim)
theorem jh(hI:CV w0 g0 h0 st.h g w){f:Nat}{args:List AV}{Q:AV->(Nat->HO)->Prop}(hc:AP P f args Ac Q)(hs:vals.size=args.length)(hv:∀(i:Nat) (av:AV) (x:Value),args[i]?=some av->vals[i]?=some x->Ba g w Fp av x){R:Ending->World->Prop}(hR:∀v r h' g' w',Q r h'->h'=Ac->CV w0 g0 h0 st.h g' w'->Le st.h g w st.h g' w'->Ba g' w' Fp r v->R (.returned v) w')(hQ:∀r h',Q r h'->h'=Ac):Calls P f vals w R:=
 have hU:AI Ac=Fp:=by funext i;unfold AI Fp Ac;simp
 TP (C:=Calls P f vals w) (fun h k=>h.mono k) hI (hc.2 g w vals hs (fun i av x h1 h2=>by rw[hU];exact hv i av x h1 h2)) hR hQ
theorem YieldAt.imp{m:Nat}{P:Program}{l:Nat}{args:Array Value}{W:World}{R R' : Ending->World->Prop}(h:YieldAt F m P l args W R)(hr:∀e w,R e w->R' e w):YieldAt F m P l args W R':=
 let ⟨fn,t,a,b,h1,h2⟩:=h
 ⟨fn,t,a,b,h1,h2.mono hr⟩
theorem I6.imp{Y:Gh->World->Prop}{l:Nat}{args:List AV}{h0:Nat->HO}{Q Q' : AV->(Nat->HO)->Prop}(h:I6 P Y l args h0 Q)(hq:∀r h',Q r h'->Q' r h'):I6 P Y l args h0 Q':=
 fun g w vals q1 q2 q3 q4=>YieldAt.imp (h g w vals q1 q2 q3 q4) fun _ _ ⟨v,r,h',g',e1,e2,rest⟩=>⟨v,r,h',g',e1,hq _ _ e2,rest⟩
theorem F9.imp{Y:Nat->Gh->World->Prop}{F:AV}{args:List AV}{h0:Nat->HO}{Q Q' : AV->(Nat->HO)->Prop}(h:F9 P Y F args h0 Q)(hq:∀r h',Q r h'->Q' r h'):F9 P Y F args h0 Q':=by
 have one:∀{f:Nat} {l:List AV},AP P f l h0 Q->AP P f l h0 Q':=fun hc=>
  ⟨hc.1,fun g w vals q1 q2 q3=>(hc.2 g w vals q1 q2 q3).mono fun _ _ ⟨v,r,h',g',e1,e2,rest⟩=>⟨v,r,h',g',e1,hq _ _ e2,rest⟩⟩
 unfold F9 at h⊢;split at h
 .exact one h
 .exact one h
 .exact I6.imp h hq
 .exact h.elim
abbrev Kj(ro:Option Nat):Fence:={ Fence.wide with round:=ro }
theorem Ny{ro:Option Nat}{a:Act}{w:World}{next:Act->World->Prop}{Q:Exit->Act->World->Prop}(hd:∀c,o.op≠.defer c)(h:o.wp P a w next Q):o.wpIn (Kj ro) 0 P a w next Q:=by
 refine⟨fun _ _=>trivial,?_⟩;have e:o.semAt (Kj ro).round a.eval=execOp a.eval o:=Oper.semAt_eq ro a.eval o hd;rw[e];unfold Oper.wp at h;have key:∀res:Result Next,o.upon P a next Q res->o.uponIn (Kj ro) 0 P a next Q res:=fun res h=>by
  cases res with
  |ok n w'=>cases n with
   |enter f args=>exact(show(_->_)/\CallsIn (Kj ro) 0 P f args w' _ from⟨fun e=>by(cases e),callsIn_wide.2 h⟩)
   |row r args=>exact(show(_->_)/\RowsIn (Kj ro) 0 P r args w' _ from⟨fun e=>by(cases e),fun c cs _=>by
     obtain⟨v,iC,r',s⟩:=h c cs;exact⟨v,iC,r',stepsIn_wide.2 s⟩⟩)
   |round _ _ _ _ _=>exact h.elim
   |_=>exact h
  |halt x w'=>cases x<;>exact h
 exact key _ h
theorem GN{f:Nat}{args:Array Value}(h:Fz P f)(w:World):(callFunc f args).run P w=.ok (.enter f args) w:=by
 obtain⟨fn,h1,h2,h3⟩:=h;simp only[callFunc,Sem.run_bind,run_program,h1,Result.andThen_ok,h2,h3,Kh,if_false,Sem.run_pure]
theorem Vl{h:Nat->HO}{a:AV}(ha:gS a=true):ren (Cy []) h a=str h a:=by
 have h0:∀a,ren0 (Cy []) h a=str0 h a:=fun a=>by
  cases a with
  |slice tk es=>cases tk<;>rfl
  |_=>rfl
 cases a with
 |tup cs=>cases ha
 |agg cs=>show AV.agg _=AV.agg _;exact Aa _ (BZ fun c _=>h0 c)
 |clo f cs=>show AV.clo f _=AV.clo f _;exact Aa _ (BZ fun c _=>h0 c)
 |v x=>exact h0 (.v x)
 |slice tk es=>exact h0 (.slice tk es)
 |msl r n=>exact h0 (.msl r n)
 |cptr cs=>exact h0 (.cptr cs)
 |ref r o=>exact h0 (.ref r o)
 |eref r n sz i o=>exact h0 (.eref r n sz i o)
 |mref r=>exact h0 (.mref r)
 |cmap sh l=>exact h0 (.cmap sh l)
 |junk=>rfl
theorem Rn{h:Nat->HO}:∀{l:List AV},U6 l=true->l.map (ren (Cy []) h)=l.map (str h)
 | [],_=>rfl
 |a::l,e=>by
  unfold U6 at e;split at e
  .rename_i e1;rw[BB,BB,Vl e1,Rn e]
  .cases e
theorem RG:∀{l:List AV} {vs:List Value},XW l=some vs->l=vs.map .v
 | [],vs,h=>by cases h;rfl
 |.v x::r,vs,h=>by
  unfold XW at h;split at h
  .rename_i l e;cases h;rw[BB,<-RG e]
  .cases h
theorem jg{d:Option Nat}{st:St}{F:AV}{args:List AV}(hk:Gp cx true d st F args K):Gp cx false d st F args K:=by
 unfold Gp at hk;simp only at hk;split at hk
 .exact⟨.pure,hk⟩
 .split at hk
  .exact hk.elim
  .rename_i d _;obtain⟨n,sz,es,h1,h2,h3⟩:=hk;simp only[Am]at h1;refine⟨.gen [] 1,?_⟩;show(Er []&&D3 st.h d 1&&Di [] d 1)=true/\_;refine⟨by simp[Er,Di,h1.1.1],?_⟩;rw[Vl h1.1.2,Rn h1.2];show F9 cx.P (fun l=>cx.yp l []) _ _ Ac _;refine F9.imp h2 ?_
   rintro r h' ⟨e2,e3⟩
   subst e2;subst e3;have e1:ren (Fb [] d 1) (Ai [(2000,.arr sz es)] Ac) (.msl 2000 n)=.msl (Bz d 0) n:=rfl;have e2:D8 [] d 1 st.h (Ai [(2000,.arr sz es)] Ac)=AL st.h (Bz d 0) (.arr sz es):=by
    funext i
    by_cases e:i=Bz d 0
    .subst e;rw[A0];have hb:(Nat.ble (Bz d 0) (Bz d 0)&&Nat.blt (Bz d 0) (Bz d 1))=true:=by
      unfold Bz;simp only[Am,ES,Dx];omega
     simp only[D8,Cy,hb,IW];rfl
    .rw[BW _ _ _ _ e]
     have:(Nat.ble (Bz d 0) i&&Nat.blt i (Bz d 1))=false:=by
      unfold Bz at e⊢;rw[Bb];simp only[ne_eq,Am,ES,Dx];omega
     simp only[D8,Cy,this]
   rw[e1,e2];exact h3
 .split at hk
  .unfold Zp at hk;split at hk
   .exact hk.elim
   .rename_i d _;obtain⟨sz,es,h1,h2,h3⟩:=hk;simp only[Am]at h1;refine⟨.gen [] 1,?_⟩;show(Er []&&D3 st.h d 1&&Di [] d 1)=true/\_;refine⟨by simp[Er,Di,h1.1.1],?_⟩;rw[Vl h1.1.2,Rn h1.2];show F9 cx.P (fun l=>cx.yp l []) _ _ Ac _;refine F9.imp h2 ?_
    rintro r h' ⟨e2,e3⟩
    subst e2;subst e3;have e1:ren (Fb [] d 1) (Ai [(2000,.tok sz es.length)] Ac) (.slice (.id 2000 sz) es)=.slice (.id (Bz d 0) sz) es:=rfl;have e2:D8 [] d 1 st.h (Ai [(2000,.tok sz es.length)] Ac)=AL st.h (Bz d 0) (.tok sz es.length):=by
     funext i
     by_cases e:i=Bz d 0
     .subst e;rw[A0];have hb:(Nat.ble (Bz d 0) (Bz d 0)&&Nat.blt (Bz d 0) (Bz d 1))=true:=by
       unfold Bz;simp only[Am,ES,Dx];omega
      simp only[D8,Cy,hb,IW];rfl
     .rw[BW _ _ _ _ e]
      have:(Nat.ble (Bz d 0) i&&Nat.blt i (Bz d 1))=false:=by
       unfold Bz at e⊢;rw[Bb];simp only[ne_eq,Am,ES,Dx];omega
      simp only[D8,Cy,this]
    rw[e1,e2];exact h3
  split at hk
  .unfold VN at hk;split at hk
   .rename_i d l vs e2 z1;have hl:=RG e2;split at hk
    .rename_i r sz es iv n e3 e4;obtain⟨⟨rfl,rfl⟩,v,FG,n',h1,h2⟩:=hk;refine⟨.gen [(1000,1000),(1001,1001)] 0,?_⟩;show(Er [(1000,1000),(1001,1001)]&&D3 st.h d 0&&Di [(1000,1000),(1001,1001)] d 0)=true/\_;refine⟨?_,?_⟩
     .have:Di [(1000,1000),(1001,1001)] d 0=true:=by
       have q:∀r:Nat,(Nat.ble (Bz d 0) r&&Nat.blt r (Bz d 0))=false:=fun r=>by
        rw[Bb];simp only[ne_eq,Am,ES,Dx];omega
       simp only[Di,q,Bool.not_false,Bool.and_self]
      rw[this];rfl
     have f1:args.map (ren (Cy [(1000,1000),(1001,1001)]) st.h)=vs.map .v:=by rw[hl,Br];rfl
     have f2:Fv [(1000,1000),(1001,1001)] st.h=Ai [(1000,.cells [.slice (.id 1001 iv) es]),(1001,.tok iv n)] Ac:=by
      unfold Fv Zf Zf Zf;rw[e3,e4];rfl
     rw[f1,f2];refine I6.imp h1 ?_
     rintro r h' ⟨g1,g2⟩
     subst g1;subst g2;have f3:D8 [(1000,1000),(1001,1001)] d 0 st.h (Ai [(1000,.cells [.slice (.id 1001 iv) FG]),(1001,.tok iv n')] Ac)=AL (AL st.h 1001 (.tok iv n')) 1000 (.cells [.slice (.id 1001 iv) FG]):=by
      funext i
      by_cases e:i=1000
      .subst e;rw[A0];rfl
      .rw[BW _ _ _ _ e]
       by_cases e' : i=1001
       .subst e';rw[A0];rfl
       .rw[BW _ _ _ _ e'];have hn:Cy [(1000,1000),(1001,1001)] i=none:=by simp[Cy,DF (Ne.symm e),DF (Ne.symm e')]
        have:(Nat.ble (Bz d 0) i&&Nat.blt i (Bz d 0))=false:=by
         rw[Bb];simp only[ne_eq,Am,ES,Dx];omega
        simp only[D8,hn,this]
     rw[f3];exact h2
    .exact hk.elim
   .exact hk.elim
  unfold Sw at hk;split at hk
  .unfold aL at hk;split at hk
   .rename_i d f caps rY _;obtain⟨σ,H0,Hn,args',res,g1,g2,g3,g4⟩:=hk;simp only[Am]at g2;obtain⟨k1,k2⟩:=g1 st.h fun _ _=>rfl;refine⟨.gen σ 0,?_⟩;show(Er σ&&D3 st.h d 0&&Di σ d 0)=true/\_;refine⟨by rw[g2.1.1,g2.1.2];rfl,?_⟩;have key:F9 cx.P (fun l=>cx.yp l σ) (ren (Cy σ) st.h F) (args.map (ren (Cy σ) st.h)) (Ai H0 Ac) (fun r h'=>r=res/\h'=Ai Hn Ac):=by
     rw[<-k2]at g3;unfold m0 at rY;split at rY
     .cases rY
      rw[HA,BG]at g3;exact g3
     .cases rY
      exact g3
     .cases rY
    rw[k1];refine F9.imp key ?_
    rintro r h' ⟨e1,e2⟩
    rw[e1,e2];exact g4
   .exact hk.elim
  unfold SA at hk;split at hk
  .rename_i dd f r n l _;split at hk
   .rename_i vs gG;have hl:=RG gG;subst hl;split at hk
    .rename_i sz es hr;have hf:Cy [(r,1000)] r=some 1000:=by simp[Cy]
     have e1:ren (Cy [(r,1000)]) st.h (.v (.func (.func f) ⟨[]⟩ ⟨[]⟩))=.v (.func (.func f) ⟨[]⟩ ⟨[]⟩):=rfl;have e2:(AV.msl r n::vs.map AV.v).map (ren (Cy [(r,1000)]) st.h)=.msl 1000 n::vs.map .v:=by
      rw[BB]
      congr 1
      .simp[ren,ren1,ren0,hf]
      .rw[Br];rfl
     have e3:Fv [(r,1000)] st.h=Ai [(1000,.arr sz es)] Ac:=by
      unfold Fv Zf;rw[hr];rfl
     split at hk
     .obtain⟨n',FG,h1,h2⟩:=hk;refine⟨.gen [(r,1000)] 0,?_⟩;show(Er [(r,1000)]&&D3 st.h dd 0&&Di [(r,1000)] dd 0)=true/\_;refine⟨?_,?_⟩
      .have:Di [(r,1000)] dd 0=true:=by
        unfold Di
        have:(Nat.ble (Bz dd 0) r&&Nat.blt r (Bz dd 0))=false:=by
         rw[Bb];simp only[ne_eq,Am,ES,Dx];omega
        rw[this];rfl
       rw[this];rfl
      rw[e1,e2,e3];refine⟨h1.1,fun g w vals q1 q2 q3=>(h1.2 g w vals q1 q2 q3).mono fun _ _ ⟨v,r',h',g',e1,⟨e2,e3⟩,rest⟩=>⟨v,r',h',g',e1,?_,rest⟩⟩;subst e2;subst e3;have f1:ren (Fb [(r,1000)] dd 0) (Ai [(1000,.arr sz FG)] Ac) (.msl 1000 n')=.msl r n':=rfl;have f2:D8 [(r,1000)] dd 0 st.h (Ai [(1000,.arr sz FG)] Ac)=AL st.h r (.arr sz FG):=by
       funext i
       by_cases e:i=r
       .subst e;rw[A0];simp[D8,hf,Ai,HO.ren]
       .rw[BW _ _ _ _ e];have hn:Cy [(r,1000)] i=none:=by simp[Cy,DF (Ne.symm e)]
        have:(Nat.ble (Bz dd 0) i&&Nat.blt i (Bz dd 0))=false:=by
         rw[Bb];simp only[ne_eq,Am,ES,Dx];omega
        simp only[D8,hn,this]
      rw[f1,f2];exact h2
     .obtain⟨n',FG,h0,h1,h2⟩:=hk;simp only[Am,Dx,EO]at h0;have hrd:r≠Bz dd 0:=fun e=>by have:=h0.2;rw[e]at this;simp at this
      refine⟨.gen [(r,1000)] 1,?_⟩;show(Er [(r,1000)]&&D3 st.h dd 1&&Di [(r,1000)] dd 1)=true/\_;refine⟨?_,?_⟩
      .have:Di [(r,1000)] dd 1=true:=by
        unfold Di
        have:(Nat.ble (Bz dd 0) r&&Nat.blt r (Bz dd 1))=false:=by
         rw[Bb];simp only[ne_eq,Am,ES,Dx];unfold Bz at hrd⊢;omega
        rw[this];rfl
       rw[this,h0.1.1];rfl
      rw[e1,e2,e3];refine⟨h1.1,fun g w vals q1 q2 q3=>(h1.2 g w vals q1 q2 q3).mono fun _ _ ⟨v,r',h',g',e1,⟨e2,e3⟩,rest⟩=>⟨v,r',h',g',e1,?_,rest⟩⟩;subst e2;subst e3;have f1:ren (Fb [(r,1000)] dd 1) (Ai [(1000,.dead),(2000,.arr sz FG)] Ac) (.msl 2000 n')=.msl (Bz dd 0) n':=rfl;have f2:D8 [(r,1000)] dd 1 st.h (Ai [(1000,.dead),(2000,.arr sz FG)] Ac)=AL (AL st.h r .dead) (Bz dd 0) (.arr sz FG):=by
       funext i
       by_cases e:i=Bz dd 0
       .subst e;rw[A0];have hn:Cy [(r,1000)] (Bz dd 0)=none:=by simp[Cy,DF hrd]
        have hb:(Nat.ble (Bz dd 0) (Bz dd 0)&&Nat.blt (Bz dd 0) (Bz dd 1))=true:=by
         unfold Bz;simp only[Am,ES,Dx];omega
        simp only[D8,hn,hb,IW];rfl
       .rw[BW _ _ _ _ e]
        by_cases e4:i=r
        .subst e4;rw[A0];simp[D8,hf,Ai,HO.ren]
        .rw[BW _ _ _ _ e4];have hn:Cy [(r,1000)] i=none:=by simp[Cy,DF (Ne.symm e4)]
         have:(Nat.ble (Bz dd 0) i&&Nat.blt i (Bz dd 1))=false:=by
          rw[Bb];simp only[ne_eq,Am,ES,Dx];unfold Bz at e⊢;omega
         simp only[D8,hn,this]
      rw[f1,f2];exact h2
    .exact hk.elim
   .exact hk.elim
  .exact hk.elim
theorem mh{d:Option Nat}{f:Operand}{dst:Option Nat}{ty:Nat}{gd:Option (Nat×Bool)}{next:Act->World->Prop}{Q:Exit->Act->World->Prop}(hP:cx.P=P)(hY:∀l σ h g w,Er σ=true->CV w0 g0 h0 h g w->Le h0 g0 w0 h g w->cx.yp l σ (DT σ g) w){ro:Option Nat}(hS:SR N ds w0 g0 h0 st g a w)(hk:Gp cx dr d st (ev st.t f) (args.toList.map (ev st.t)) K)(hn:cQ w0 g0 h0 st.h g w K fun x w'=>next (a.put dst x) w'):Oper.wpIn (Kj ro) 0 P ⟨dst,.call ⟨.value f,args,G7⟩,ty,pos,after,gd⟩ a w next Q:=by
 subst hP;have hk:Gp cx false d st (ev st.t f) (args.toList.map (ev st.t)) K:=by
  cases dr with
  |true=>exact jg hk
  |false=>exact hk
 have Ku:∀(i:Nat) (av:AV) (x:Value),((args.toList.map (ev st.t)).map (str st.h))[i]?=some av->(args.map a.eval)[i]?=some x->Ba g w Fp av x:=by
  intro i av x h1 h2;rw[BH,BH]at h1;rw[Array.getElem?_map]at h2;cases ho:args[i]? with
  |none=>rw[ho]at h2;simp at h2
  |some y=>
   rw[ho]at h2;have hy:args.toList[i]?=some y:=by simpa using ho
   rw[hy]at h1;simp only[Wx,Dc]at h1 h2;subst h1;subst h2;exact Ba.str hS.inv.objs (hS.eval y)
 have Dd:(args.map a.eval).size=((args.toList.map (ev st.t)).map (str st.h)).length:=by simp
 have hF:=Ba.str hS.inv.objs (hS.eval f)
 -- a call of yield
 have yl:∀(l:Nat) (R:Ending->World->Prop),a.eval f=.func (.yield l) #[] #[]->YieldAt Fence.wide 0 cx.P l (args.map a.eval) w R->(∀e w',R e w'->∃v,e=.returned v/\next (a.put dst v) w') ->
   Oper.wpIn (Kj ro) 0 cx.P ⟨dst,.call ⟨.value f,args,G7⟩,ty,pos,after,gd⟩ a w next Q:=by
  rintro l R hx ⟨fn,tm,GT,bd,h1,h2⟩ hR
  refine⟨fun _ _=>trivial,?_⟩;have e:(⟨dst,.call ⟨.value f,args,G7⟩,ty,pos,after,gd⟩:Oper).semAt (Kj ro).round a.eval=execOp a.eval ⟨dst,.call ⟨.value f,args,G7⟩,ty,pos,after,gd⟩:=Oper.semAt_eq ro a.eval _ (fun c e=>by cases e);have CQ:(execOp a.eval ⟨dst,.call ⟨.value f,args,G7⟩,ty,pos,after,gd⟩).run cx.P w=.ok (.round l fn tm GT bd) w:=by
   simp only[execOp,resolve,hx,Deferred.ofValue,Sem.run_bind,Sem.run_pure,Result.andThen_ok,invoke];simpa using h1
  rw[e,CQ];refine(show(_->_)/\RoundIn (Kj ro) 0 cx.P l fn tm GT bd w _ from⟨fun e=>by(cases e),RoundIn.mono h2 fun e w' h=>?_⟩);obtain⟨v,rfl,hn⟩:=hR e w' h;exact hn
 -- the call itself
 have go:∀(Q' : AV->(Nat->HO)->Prop),(∀r h',Q' r h'->h'=Ac/\K r st.h)->F9 cx.P (fun _ _ _=>True) (str st.h (ev st.t f)) ((args.toList.map (ev st.t)).map (str st.h)) Ac Q' ->
   Oper.wpIn (Kj ro) 0 cx.P ⟨dst,.call ⟨.value f,args,G7⟩,ty,pos,after,gd⟩ a w next Q:=by
  intro Q' hQ hc
  have fin:∀{fn:Nat} {l:List AV} {vals:Array Value},AP cx.P fn l Ac Q'->vals.size=l.length->(∀(i:Nat) (av:AV) (x:Value),l[i]?=some av->vals[i]?=some x->Ba g w Fp av x) ->
    (execOp a.eval ⟨dst,.call ⟨.value f,args,G7⟩,ty,pos,after,gd⟩).run cx.P w=.ok (.enter fn vals) w->Oper.wpIn (Kj ro) 0 cx.P ⟨dst,.call ⟨.value f,args,G7⟩,ty,pos,after,gd⟩ a w next Q:=by
   intro fn l vals hc hs hv CQ;refine Ny (fun c e=>by cases e) ?_;unfold Oper.wp;rw[CQ];exact jh hS.inv hc hs hv (fun v r h' g' w' hq _ hI Jr hr=>hn r _ g' w' v (hQ r h' hq).2 hI Jr (hr.up _)) (fun r h' hq=>(hQ r h' hq).1)
  unfold F9 at hc;split at hc
  .rename_i fn e;rw[e]at hF;have hx:=hF.v_eq;refine fin hc Dd Ku ?_;have SM : a.eval f=.func (.func fn) #[] #[]:=hx;simp only[execOp,resolve,SM,Deferred.ofValue,Sem.run_bind,Sem.run_pure,Result.andThen_ok,invoke];rw[GN hc.1];simp
  .rename_i fn caps e;rw[e]at hF;generalize hx:a.eval f=fv at hF;cases hF with
   |clo _ _ _ vs Fg MQ=>
    refine fin hc (vals:=args.map a.eval++vs) (by simp[Fg]) (fun i av x h1 h2=>?_) ?_
    .rw[List.getElem?_append]at h1;rw[Array.getElem?_append]at h2;have hl:((args.toList.map (ev st.t)).map (str st.h)).length=(args.map a.eval).size:=Dd.symm;rw[hl]at h1;split at h1
     .rename_i hi;rw[Ay hi]at h2;exact Ku i av x h1 h2
     .rename_i hi;rw[Az hi]at h2;exact MQ _ av x h1 h2
    .simp only[execOp,resolve,hx,Deferred.ofValue,Sem.run_bind,Sem.run_pure,Result.andThen_ok,invoke];rw[GN hc.1];simp
  .rename_i l e;rw[e]at hF;have hU:AI Ac=Fp:=by funext i;unfold AI Fp Ac;simp
   refine yl l _ hF.v_eq (TP (C:=YieldAt Fence.wide 0 cx.P l (args.map a.eval) w) (R:=fun e w'=>∃v,e=.returned v/\next (a.put dst v) w') YieldAt.imp hS.inv (fun rQ=>hc g w _ Dd (fun i av x h1 h2=>by rw[hU];exact Ku i av x h1 h2) rQ trivial)
    (fun v r h' g' w' hq _ hI Jr hr=>⟨v,rfl,hn r _ g' w' v (hQ r h' hq).2 hI Jr (hr.up _)⟩) (fun r h' hq=>(hQ r h' hq).1)) fun _ _ h=>h
  .exact hc.elim
 have pure:(∃res,Qy cx.P (str st.h (ev st.t f)) ((args.toList.map (ev st.t)).map (str st.h)) res/\K res st.h)->Oper.wpIn (Kj ro) 0 cx.P ⟨dst,.call ⟨.value f,args,G7⟩,ty,pos,after,gd⟩ a w next Q:=by
  rintro⟨res,h1,h2⟩
  refine go (fun r h'=>r=res/\h'=Ac) (fun r h' hq=>⟨hq.2,by rw[hq.1];exact h2⟩) ?_;unfold Qy at h1;unfold F9;split at h1
  .rename_i fn e;rw[e];exact h1
  .rename_i fn caps e;rw[e];exact h1
  .exact h1.elim
 unfold Gp at hk
 .obtain⟨m,hm⟩:=hk;cases m with
  |pure=>exact pure hm
  |rel=>exact go _ (fun r h' hq=>hq) hm
  |gen σ nn=>
   simp only at hm;cases d with
   |none=>exact hm.elim
   |some d=>
    simp only at hm;obtain⟨GG,hc⟩:=hm;have hσ:Er σ=true:=by simp only[Am]at GG;exact GG.1.1
    obtain⟨hR,_⟩:=YI hS.inv hσ;have nl:=(hS.eval f).ren hR;have Uq:∀(i:Nat) (av:AV) (x:Value),((args.toList.map (ev st.t)).map (ren (Cy σ) st.h))[i]?=some av->(args.map a.eval)[i]?=some x->Ba (DT σ g) w (AI (Fv σ st.h)) av x:=by
     intro i av x h1 h2;rw[BH,BH]at h1;rw[Array.getElem?_map]at h2;cases ho:args[i]? with
     |none=>rw[ho]at h2;simp at h2
     |some y=>
      rw[ho]at h2;have hy:args.toList[i]?=some y:=by simpa using ho
      rw[hy]at h1;simp only[Wx,Dc]at h1 h2;subst h1;subst h2;exact(hS.eval y).ren hR
    have PL:(args.map a.eval).size=((args.toList.map (ev st.t)).map (ren (Cy σ) st.h)).length:=by simp
    have fin:∀{fn:Nat} {l:List AV} {vals:Array Value},AP cx.P fn l (Fv σ st.h) (fun r h'=>K (ren (Fb σ d nn) h' r) (D8 σ d nn st.h h'))->vals.size=l.length ->
      (∀(i:Nat) (av:AV) (x:Value),l[i]?=some av->vals[i]?=some x->Ba (DT σ g) w (AI (Fv σ st.h)) av x) ->
      (execOp a.eval ⟨dst,.call ⟨.value f,args,G7⟩,ty,pos,after,gd⟩).run cx.P w=.ok (.enter fn vals) w->Oper.wpIn (Kj ro) 0 cx.P ⟨dst,.call ⟨.value f,args,G7⟩,ty,pos,after,gd⟩ a w next Q:=by
     intro fn l vals hc hs hv CQ;refine Ny (fun c e=>by cases e) ?_;unfold Oper.wp;rw[CQ];exact mi hS.inv GG hc hs hv (fun v r h' g' w' hq hI Jr hr=>hn _ _ g' w' v hq hI Jr hr)
    unfold F9 at hc;split at hc
    .rename_i fn e;rw[e]at nl;have hx:a.eval f=.func (.func fn) #[] #[]:=nl.v_eq;refine fin hc PL Uq ?_;simp only[execOp,resolve,hx,Deferred.ofValue,Sem.run_bind,Sem.run_pure,Result.andThen_ok,invoke];rw[GN hc.1];simp
    .rename_i fn caps e;rw[e]at nl;generalize hx:a.eval f=fv at nl;cases nl with
     |clo _ _ _ vs Fg MQ=>
      refine fin hc (vals:=args.map a.eval++vs) (by simp[Fg]) (fun i av x h1 h2=>?_) ?_
      .rw[List.getElem?_append]at h1;rw[Array.getElem?_append]at h2;have hl:((args.toList.map (ev st.t)).map (ren (Cy σ) st.h)).length=(args.map a.eval).size:=PL.symm;rw[hl]at h1;split at h1
       .rename_i hi;rw[Ay hi]at h2;exact Uq i av x h1 h2
       .rename_i hi;rw[Az hi]at h2;exact MQ _ av x h1 h2
      .simp only[execOp,resolve,hx,Deferred.ofValue,Sem.run_bind,Sem.run_pure,Result.andThen_ok,invoke];rw[GN hc.1];simp
    .rename_i l e;rw[e]at nl
     exact yl l _ nl.v_eq (Nk (C:=YieldAt Fence.wide 0 cx.P l (args.map a.eval) w) (R:=fun e w'=>∃v,e=.returned v/\next (a.put dst v) w') YieldAt.imp hS.inv GG (fun rQ=>hc (DT σ g) w _ PL Uq rQ (hY l σ _ _ _ hσ hS.inv hS.le))
      (fun v r h' g' w' hq hI Jr hr=>⟨v,rfl,hn _ _ g' w' v hq hI Jr hr⟩)) fun _ _ h=>h
    .exact hc.elim
  |geny σ nn=>
   simp only at hm;cases d with
   |none=>exact hm.elim
   |some d=>
    simp only at hm;obtain⟨GG,hc⟩:=hm;have hσ:Er σ=true:=by simp only[Am]at GG;exact GG.1.1
    obtain⟨hR,_⟩:=YI hS.inv hσ;have nl:=(hS.eval f).ren hR;have Uq:∀(i:Nat) (av:AV) (x:Value),((args.toList.map (ev st.t)).map (ren (Cy σ) st.h))[i]?=some av->(args.map a.eval)[i]?=some x->Ba (DT σ g) w (AI (Fv σ st.h)) av x:=by
     intro i av x h1 h2;rw[BH,BH]at h1;rw[Array.getElem?_map]at h2;cases ho:args[i]? with
     |none=>rw[ho]at h2;simp at h2
     |some y=>
      rw[ho]at h2;have hy:args.toList[i]?=some y:=by simpa using ho
      rw[hy]at h1;simp only[Wx,Dc]at h1 h2;subst h1;subst h2;exact(hS.eval y).ren hR
    have PL:(args.map a.eval).size=((args.toList.map (ev st.t)).map (ren (Cy σ) st.h)).length:=by simp
    split at hc
    .rename_i fn caps e;rw[e]at nl;generalize hx:a.eval f=fv at nl;cases nl with
     |clo _ _ _ vs Fg MQ=>
      have CQ:(execOp a.eval ⟨dst,.call ⟨.value f,args,G7⟩,ty,pos,after,gd⟩).run cx.P w=.ok (.enter fn (args.map a.eval++vs)) w:=by
       simp only[execOp,resolve,hx,Deferred.ofValue,Sem.run_bind,Sem.run_pure,Result.andThen_ok,invoke];rw[GN hc.1];simp
      refine Ny (fun c e=>by cases e) ?_;unfold Oper.wp;rw[CQ];refine Nk (C:=Calls cx.P fn (args.map a.eval++vs) w) (fun h k=>h.mono k) hS.inv GG (fun rQ=>hc.2 (DT σ g) w _ (by simp[Fg]) (fun i av x h1 h2=>?_) rQ (fun l=>hY l σ _ _ _ hσ hS.inv hS.le)) (fun v r h' g' w' hq hI Jr hr=>hn _ _ g' w' v hq hI Jr hr);rw[List.getElem?_append]at h1;rw[Array.getElem?_append]at h2;have hl:((args.toList.map (ev st.t)).map (ren (Cy σ) st.h)).length=(args.map a.eval).size:=PL.symm;rw[hl]at h1;split at h1
      .rename_i hi;rw[Ay hi]at h2;exact Uq i av x h1 h2
      .rename_i hi;rw[Az hi]at h2;exact MQ _ av x h1 h2
    .exact hc.elim
end
section
variable {P:Program}{N:Nat}{ds:List Deferred}{w0:World}{g0:Gh}{h0:Nat->HO}{st:St}{g:Gh}{a:Act}{w:World}
theorem ZZ(hT:Ci P cx.T){b:Builtin}{dst:Option Nat}{ty:Nat}{gd:Option (Nat×Bool)}{next:Act->World->Prop}{Q:Exit->Act->World->Prop}(hS:SR N ds w0 g0 h0 st g a w)(hk:FY cx dst st.h b G7.toList (args.toList.map (ev st.t)) K)(hn:cQ w0 g0 h0 st.h g w K fun x w'=>next (a.put dst x) w'):Oper.wp P ⟨dst,.call ⟨.builtin b,args,G7⟩,ty,pos,after,gd⟩ a w next Q:=by
 have hI:=hS.inv;have hE:=hS.eval;obtain⟨l⟩:=args;obtain⟨tl⟩:=G7;unfold FY at hk;split at hk
 .rename_i x t e1 e2
  match l,e1 with
  | [y],e1=>
   simp only[BB,HA,Kc,and_true]at e1;subst e1;simp only at e2;subst e2;exact DP (m:=Builtin.len_ #[t] ty #[a.eval y]) (by simp[execOp,resolve,invoke,builtin]) (Bw.does hI (og hT hI.objs (hE y) hk)) hn
 .rename_i s x t t' e1 e2
  match l,e1 with
  | [y,z],e1=>
   simp only[BB,HA,Kc,and_true]at e1;obtain⟨rfl,rfl⟩:=e1;simp only at e2;subst e2;split at hk
   .rename_i ht;obtain rfl:=AZ ht;exact DP (m:=Builtin.append_ #[t,t] ty #[a.eval y,a.eval z]) (by simp[execOp,resolve,invoke,builtin]) (de hI hT (hE y) (hE z) hk) hn
   simp_all
 .rename_i x y G7 e1
  match l,e1 with
  | [y,z],e1=>
   simp only[BB,HA,Kc,and_true]at e1;obtain⟨rfl,rfl⟩:=e1;exact DP (m:=Builtin.max_ ⟨tl⟩ ty #[a.eval y,a.eval z]) (by simp[execOp,resolve,invoke,builtin]) (Bw.does hI (sF (hE y) (hE z) hk)) hn
 .rename_i x y G7 e1
  match l,e1 with
  | [y,z],e1=>
   simp only[BB,HA,Kc,and_true]at e1;obtain⟨rfl,rfl⟩:=e1;exact DP (m:=Builtin.min_ ⟨tl⟩ ty #[a.eval y,a.eval z]) (by simp[execOp,resolve,invoke,builtin]) (Bw.does hI (sH (hE y) (hE z) hk)) hn
 simp_all
theorem qY(hT:Ci P cx.T){next:Act->World->Prop}{Q:Exit->Act->World->Prop}(hS:SR N ds w0 g0 h0 st g a w)(hk:FS cx dr o st K)(hv:∀f args G7,o.op≠.call ⟨.value f,args,G7⟩)(hn:cQ w0 g0 h0 st.h g w K fun x w'=>next (a.put o.dst x) w'):o.wp P a w next Q:=by
 have hI:=hS.inv;have hE:=hS.eval;obtain⟨dst,op,ty,pos,after,gd⟩:=o;unfold FS at hk;cases op with
 |move x=>exact iI hI (x:=a.eval x) rfl hk (hE x) hn
 |assign x=>
  obtain⟨g',av,h',q1,q2,q3,q4⟩:=dg hI (hE x) hk;exact hn _ _ _ _ _ q1 q2 q3 q4
 |pick c x y=>exact DP (m:=do pure (if <-asBool (a.eval c)then a.eval x else a.eval y)) (by simp[execOp]) (Bw.does hI (o8 (hE c) (hE x) (hE y) hk)) hn
 |alloc e=>exact DP rfl (iV hI hT hk) hn
 |box e x=>exact DP rfl (rh hI (hE x) hk) hn
 |build t ps=>exact DP rfl (Bw.does hI (jf hT hE hk)) hn
 |buildSlice t n ps=>exact DP rfl (TO hI hT hE hk) hn
 |insert t m k x=>exact Zy rfl (N1 hI hT (hE m) (hE k) (hE x) hk) hn
 |load t x=>exact DP rfl (Bw.does hI (Xo hI.objs hT (hE x) hk)) hn
 |store t p x=>exact Zy rfl (li hI hT (hE p) (hE x) hk) hn
 |nilCheck x=>
  obtain⟨h1,h2⟩:=Y7 (P:=P) (w:=w) (hE x) hk (pos:=pos) (after:=after) (gd:=gd) (dst:=dst) (ty:=ty) (ρ:=a.eval) rfl<;>grind [iI]
 |binOp op t x y u=>exact DP rfl (Bw.does hI (lV hT (hE x) (hE y) (fun v e=>by subst e;rfl) hk)) hn
 |unOp op t x=>exact DP rfl (Bw.does hI (p5 (hE x) hk)) hn
 |convert s t x=>
  cases dr with
  |true=>exact DP rfl (Bw.does hI (ae hT (hE x) hk)) hn
  |false=>exact DP rfl (jp hI hT (hE x) hk) hn
 |makeFunc fn first cap=>exact DP rfl (Bw.does hI (Y2 hI.objs hE hk)) hn
 |makeMap t r=>
  cases r with
  |some r=>simp_all
  |none=>exact DP rfl (bt hI hk) hn
 |makeSlice t n c=>exact DP rfl (Wh hI hT (hE n) (hE c) hk) hn
 |slice t x lo hi mx=>
  cases dr with
  |true=>
   cases hp:TH cx.pl.tok dst with
   |none=>
    have hk' : Iu cx dst st.h t (ev st.t x) (CU st.t lo) (CU st.t hi) (CU st.t mx) K:=by
     simp_all
    exact DP rfl (XM hI hT hE (hE x) hk') hn
   |some _=>
    have hk' : Vi cx dst st.h t (ev st.t x) lo (CU st.t hi) mx K:=by
     simp_all
    unfold Vi at hk';split at hk'
    .exact DP rfl (ib hI hT hE (hE x) hk') hn
    simp_all
  |false=>
   cases hp:TH cx.pl.tok dst with
   |none=>
    have hk' : Iu cx dst st.h t (ev st.t x) (CU st.t lo) (CU st.t hi) (CU st.t mx) K:=by
     simp_all
    exact DP rfl (XM hI hT hE (hE x) hk') hn
   |some _=>
    have hk' : pm cx dst st.h t (ev st.t x) st.t lo hi mx K:=by
     simp_all
    cases lo with
    |some lo=>exact DP rfl (cd hI hT hE (hE x) hk') hn
    |none=>
     unfold pm at hk';dsimp only at hk';split at hk'
     .exact DP rfl (Bw.does hI (i7 hI.objs hT (hE x) hk')) hn
     .unfold Vi at hk';split at hk'
      .exact DP rfl (ib hI hT hE (hE x) hk') hn
      simp_all
 |fieldAddr s x f=>exact DP rfl (Bw.does hI (jx hT (hE x) hk)) hn
 |field s x f=>exact DP rfl (Bw.does hI (dC hT (hE x) hk)) hn
 |indexAddr t x i=>exact DP rfl (Bw.does hI (We hT (hE x) (hE i) hk)) hn
 |index t x i=>exact DP rfl (Bw.does hI (jS hT (hE x) (hE i) hk)) hn
 |lookup t x i ok=>
  have hk:Nu cx.T st.h t (ev st.t x) (ev st.t i) ok fun v=>K v st.h:=by
   grind [j9]
  exact DP rfl (Bw.does hI (d7 hT hI.objs (hE x) (hE i) hk)) hn
 |mapUpdate t m k x=>exact Zy rfl (N1 hI hT (hE m) (hE k) (hE x) hk) hn
 |range t x=>
  simp only at hk;split at hk
  .rename_i kt e ht;exact DP rfl (kR hI hT ht (hE x) hk) hn
  simp_all
 |next it s=>
  cases s with
  |true=>simp_all
  |false=>exact DP rfl (oF hI (hE it) hk) hn
 |entry it=>exact DP rfl (Bw.does hI (jv hI.objs (hE it) hk)) hn
 |extract x i=>exact DP rfl (Bw.does hI (ay (hE x) hk)) hn
 |call c=>
  obtain⟨yI,args,G7⟩:=c<;>grind [ZZ]
 |_=>simp_all
theorem lR(hP:cx.P=P)(hY:∀l σ h g w,Er σ=true->CV w0 g0 h0 h g w->Le h0 g0 w0 h g w->cx.yp l σ (DT σ g) w){ro:Option Nat}(hT:Ci P cx.T){next:Act->World->Prop}{Q:Exit->Act->World->Prop}(hS:SR N ds w0 g0 h0 st g a w)(hk:FS cx dr o st K)(hn:cQ w0 g0 h0 st.h g w K fun x w'=>next (a.put o.dst x) w'):o.wpIn (Kj ro) 0 P a w next Q:=by
 by_cases hv:∃f args G7,o.op=.call ⟨.value f,args,G7⟩
 .obtain⟨f,args,G7,e⟩:=hv;obtain⟨dst,op,ty,pos,after,gd⟩:=o;cases e;exact mh hP hY hS hk hn
 .refine Ny (fun c e=>?_) (qY hT hS hk (fun f args G7 e=>hv ⟨f,args,G7,e⟩) hn);obtain⟨dst,op,ty,pos,after,gd⟩:=o;cases e;exact hk.elim
theorem AaT{p:Nat->Prop}(h:∃n,p n):∃n,p n/\∀m,m<n->¬p m:=by
 apply Aq;intro hc
 have:∀n,¬p n:=fun n=>by
  induction n using Nat.strongRecOn<;>grind [Nat.strongRecOn]
 simp_all
theorem SX{m:Nat}{c:Code}{Q:Exit->Act->World->Prop}(I:Nat->Act->World->Prop)(k:Nat)(h0:I k a w)(round:∀n a w,I n a w->c.wpIn F m P (Exit.then (fun a' w'=>∃n',n' < n/\I n' a' w') Q) a w):(Code.loop c).wpIn F m P Q a w:=by
 classical
 have hex:∀a w,(∃n,I n a w)->∃n,I n a w/\∀n',n' < n->¬I n' a w:=fun a w h=>AaT h;refine wpIn_loop (fun a w=>∃n,I n a w) (fun a w=>if h:∃n,I n a w then(hex a w h).choose else 0) ⟨k,h0⟩ fun a w h=>?_;have hs:=(hex a w h).choose_spec;refine wpIn_mono (round _ a w hs.1) fun e a' w' q=>?_;cases e with
 |normal=>
  obtain⟨n',E3,hn⟩:=q;have h' : ∃n,I n a' w':=⟨n',hn⟩;refine⟨h',?_⟩
  grind
 |_=>exact q
end
section
variable {P:Program}{N:Nat}{ds:List Deferred}{w0:World}{g0:Gh}{h0:Nat->HO}{st:St}{g:Gh}{a:Act}{w:World}
theorem ji(hT:Ci P T){ty e k ty2 b o n c:Nat}(ht:(T ty).d=.slice e)(hk:(T e).size=k+1)(hz:(T e).zc.length=k+1)(YP:∀v∈(T e).zc,v.oneCell'=true){Ei:Array Value}{E:TypeId}(hb:w.heap[b]?=some (.cells Ei E (0,0)))(hn:0<n)(Jr:o+n*(k+1)<=Ei.size) :
  (Builtin.clear_ #[ty] ty2 #[.slice (some ⟨b,o,none⟩) n c]).run P w=.ok (.tuple #[]) (w.setRow b (over Ei.toList o (List.replicate n (T e).zc).flatten).toArray):=by
 obtain⟨z,z1,z2⟩:=X0 (w:=w) hT hk;have w8:(T e).zc≠[]:=fun e0=>by simp_all
 have wV:(Builtin.zeroCells z.cells n).toList=(List.replicate n (T e).zc).flatten:=by
  rw[H4 n _ w8,hz,z2];have e6:z.cells.size=k+1:=by simp_all
  unfold Builtin.zeroCells;simp[e6,Array.getElem!_eq_getD]
 have Dd:(List.replicate n (T e).zc).flatten.length=n*(k+1):=by
  simp_all
 have KR:=run_storeCells_at P b o E (List.replicate n (T e).zc).flatten 0 Ei w hb ch (fun v hv=>by
  grind [List.mem_flatten])
 simp only[HB]at KR;rw[NC _ _ _ (by simp_all)];obtain⟨m,rfl⟩:∃m,n=m+1:=⟨n-1,by omega⟩;simp only[Builtin.clear_,Sem.run_bind,List.getElem?_toArray,Ev,run_underlying (hT.slice ht),Result.andThen_ok,z1,wV,KR,Sem.run_pure]
theorem dw(hT:Ci P T){ty e ty2 c:Nat}(ht:(T ty).d=.slice e)(x:Option Addr) :
  (Builtin.clear_ #[ty] ty2 #[.slice x 0 c]).run P w=.ok (.tuple #[]) w:=by
 cases x<;>simp only[Builtin.clear_,Sem.run_bind,List.getElem?_toArray,Ev,run_underlying (hT.slice ht),Result.andThen_ok,Sem.run_pure]
theorem pi{d:Nat}(hd:d<a.tmps.size):(a.put (some d) x).eval (.tmp d)=x:=by
 show(a.tmps.setIfInBounds d x).getD d undef=x;simp_all
theorem nJ(h:Nat->HO)(r:Nat):AL h r (h r)=h:=funext fun i=>by
 grind [A0,BW]
theorem dV(h:bj o o2=true):∃ty x lo d ty2 pos after xU tc X9,o=⟨some d,.slice ty x (some lo) none none,ty2,pos,after,none⟩/\o2=⟨none,.call ⟨.builtin .clear,#[.tmp d],#[ty]⟩,xU,tc,X9,none⟩:=by
 obtain⟨dst,op,t2,p1,a1,gd⟩:=o;obtain⟨Ajb,op2,t3,p2,a2,gd2⟩:=o2;unfold bj at h;split at h
 .rename_i c e1;split at h
  .rename_i e2;split at h
   .rename_i ty x lo e3;split at h
    .rename_i d d' ty' e4 e5 e6 e7 e8 e9;obtain⟨yI,⟨args⟩,⟨G7⟩⟩:=c;simp only at e1 e2 e3 e4 e5 e6 e7 e8 e9;simp only[Am]at h;obtain rfl:=AZ h.1;obtain rfl:=AZ h.2;subst e1 e2 e3 e4 e5 e6 e7 e8 e9
     grind
    simp_all
   simp_all
  simp_all
 simp_all
theorem ry(hT:Ci P cx.T){ro:Option Nat}(hd:∀i,o.dst=some i->i<N)(hc:bj o o2=true){K:St->Prop}(hS:SR N ds w0 g0 h0 st g a w)(hk:rx cx o st K){next:Act->World->Prop}{Q:Exit->Act->World->Prop}(hn:∀EC g' a' w',K EC->SR N ds w0 g0 h0 EC g' a' w'->next a' w') :
  o.guard=none/\o2.guard=none/\o.wpIn (Kj ro) 0 P a w (fun a1 w1=>o2.wpIn (Kj ro) 0 P a1 w1 next Q) Q:=by
 obtain⟨ty,x,lo,d,ty2,pos,after,xU,tc,X9,rfl,rfl⟩:=dV hc;refine⟨rfl,rfl,?_⟩;have hI:=hS.inv;have hE:=hS.eval;have hdN:d<a.tmps.size:=by grind [SR.size]
 -- what is to be shown of the two operations
 have two:∀(v:Value) (EC : St) (g' : Gh) (w' : World),(Instr.sliceAt ty (a.eval x) (some (a.eval lo)) none none).run P w=.ok v w->(Builtin.clear_ #[ty] xU #[v]).run P w=.ok (.tuple #[]) w'->K ⟨Ka st.t d .junk,EC.h⟩->CV w0 g0 h0 EC.h g' w'->Le st.h g w EC.h g' w' ->
   Oper.wpIn (Kj ro) 0 P ⟨some d,.slice ty x (some lo) none none,ty2,pos,after,none⟩ a w (fun a1 w1=>Oper.wpIn (Kj ro) 0 P ⟨none,.call ⟨.builtin .clear,#[.tmp d],#[ty]⟩,xU,tc,X9,none⟩ a1 w1 next Q) Q:=by
  intro v EC g' w' r1 r2 hk hI' Jr;refine Ny (by simp_all) ?_;unfold Oper.wp;have hx:execOp a.eval ⟨some d,.slice ty x (some lo) none none,ty2,pos,after,none⟩=(do pure (Next.value (<-Instr.sliceAt ty (a.eval x) (some (a.eval lo)) none none))):=rfl;rw[hx,Sem.run_bind,r1];refine Ny (by simp_all) ?_;unfold Oper.wp;have yZ:execOp (a.put (some d) v).eval ⟨none,.call ⟨.builtin .clear,#[.tmp d],#[ty]⟩,xU,tc,X9,none⟩=(do pure (Next.value (<-Builtin.clear_ #[ty] xU #[v]))):=by
   grind [execOp,resolve,invoke,builtin,pi]
  rw[yZ,Sem.run_bind,r2];have S1:SR N ds w0 g0 h0 (st.put (some d) .junk st.h) g (a.put (some d) v) w:=hS.put hd hI (.refl _ _ _) (.junk _ _);have S2:SR N ds w0 g0 h0 ((st.put (some d) .junk st.h).put none (.v (.tuple #[])) EC.h) g' ((a.put (some d) v).put none (.tuple #[])) w':=S1.put (by simp_all) hI' Jr (.v _ _);exact hn _ g' _ w' hk S2
 unfold rx at hk;simp only at hk;split at hk
 .rename_i e hs;split at hk
  .rename_i r n ex;split at hk
   .rename_i i ei;split at hk
    .rename_i sz es er;split at hk
     .rename_i hb;obtain rfl:=AZ hb;split at hk
      .simp_all
      .rename_i k Fg;split at hk
       .rename_i aV;have aV:=AZ aV;obtain⟨⟨rfl,i0,i1⟩,hk⟩:=hk;unfold zL at hk;split at hk
        .rename_i Gd;have Gd:∀v∈(cx.T e).zc,v.oneCell'=true:=A3.1 Gd;have ho:=hI.objs r;rw[er]at ho;obtain⟨t1,l1,al,a2⟩:=ho;have nO:=hE x;rw[ex]at nO;have hlo:=hE lo;rw[ei]at hlo;have hlo:=hlo.v_eq;generalize hvx:a.eval x=vx at nO two;rw[hlo]at two;cases nO with
         |msl _ _ _ ad cap hu ht' qE ha SM=>
          have hv:=SM l1.symm;have MQ:es.length<=cap:=by
           grind
          have CQ:=EY (P:=P) (w:=w) hT hs Fg ad es.length cap (some i) none none (.inl rfl) (by simp_all) (by simp_all) (by simp_all) B0;simp only[Ew,Mj,Dq,Wx,Option.map_none]at CQ
          by_cases hz:i.toNat=es.length
          .-- nothing is cleared
           have e1:es.length-i.toNat=0:=by omega
           rw[e1]at CQ hk;refine two _ st g w CQ (dw hT hs _) ?_ hI (.refl _ _ _);have e2:es.take i.toNat++List.replicate 0 ((cx.T e).zc.map AV.v)=es:=by simp_all
           rw[e2,<-er,nJ]at hk;exact hk
          .have E3:i.toNat<es.length:=by omega
           rcases a2 with ⟨b1,_⟩ | ⟨b,MA,E,vs,b1,b2,b3,b4,b5,b6,b7⟩
           .simp_all
           .rw[b1]at hv;cases hv;have Ek:¬cap=i.toNat:=by omega
            rw[Az Ek]at CQ;have AeS:Option.map (fun x:Addr=>x.add (i.toNat*(cx.T e).size)) (some ⟨b,0,none⟩)=some ⟨b,i.toNat*(cx.T e).size,none⟩:=by grind [Addr.add]
            rw[AeS]at CQ;have YN:es.length*(cx.T e).size<=cap*(cx.T e).size:=Bn _ b3;have jQ:i.toNat*(cx.T e).size+(es.length-i.toNat)*(cx.T e).size=es.length*(cx.T e).size:=by rw[<-Kn];simp_all
            have hcl:=ji (w:=w) (ty2:=xU) (c:=cap-i.toNat) hT hs Fg (aV.trans Fg) Gd b4 (n:=es.length-i.toNat) (o:=i.toNat*(cx.T e).size) ch (by simp_all);have hl:(st.h r).live:=by rw[er];trivial
            generalize hZ:(List.replicate (es.length-i.toNat) (cx.T e).zc).flatten=Z at hcl;have hZl:Z.length=(es.length-i.toNat)*(cx.T e).size:=by
             rw[<-hZ,Dv (n:=(cx.T e).size) (fun c hc=>by simp_all),CO]
            have PL:(es.take i.toNat++List.replicate (es.length-i.toNat) ((cx.T e).zc.map AV.v)).length=es.length:=by
             simp_all
            have AeT:∀c∈es.take i.toNat++List.replicate (es.length-i.toNat) ((cx.T e).zc.map AV.v),c.length=(cx.T e).size:=fun c hc=>by
             grind
            have AkE:vs.toList.length=cap*(cx.T e).size:=by omega
            have hfl:(es.take i.toNat++List.replicate (es.length-i.toNat) ((cx.T e).zc.map AV.v)).flatten=over es.flatten (i.toNat*(cx.T e).size) (Z.map AV.v):=by
             rw[NC _ _ _ (by rw[BK,hZl,jQ,Dv al];omega),CR,Ok al,BK,hZl,jQ,Bq (by rw[Dv al];omega),BG,<-hZ,List.map_flatten,List.map_replicate]
            have sc:((over vs.toList (i.toNat*(cx.T e).size) Z).toArray.toList.take (es.length*(cx.T e).size))=over (vs.toList.take (es.length*(cx.T e).size)) (i.toNat*(cx.T e).size) Z:=
             Xz _ _ _ _ ch ch
            have hZr:Cs g w Fp (Z.map AV.v) Z:=Cs.vals (by
             have Aa6 : ∀l:List AV,(∀a∈l,one a=true)->GS l=true:=by
              intro l
              induction l with
              |nil=>intro _;rfl
              |cons a l ih=>intro h;simp[GS,h a (List.mem_cons_self ..),ih (fun b hb=>h b (List.mem_cons_of_mem _ hb))]
             refine Aa6 _ fun q hq=>?_;obtain⟨y,hy,rfl⟩:=Ax.1 hq;rw[<-hZ]at hy;obtain⟨l,hl,hy⟩:=FP.1 hy;rw[List.eq_of_mem_replicate hl]at hy;exact Gd y hy)
            have wU:Cs g w Fp (over es.flatten (i.toNat*(cx.T e).size) (Z.map AV.v)) (over (vs.toList.take (es.length*(cx.T e).size)) (i.toNat*(cx.T e).size) Z):=
             b6.over hZr _ (by rw[BK,hZl,jQ,Dv al];omega)
            obtain⟨k1,k2⟩:=hI.write hl b2 (.arr (cx.T e).size (es.take i.toNat++List.replicate (es.length-i.toNat) ((cx.T e).zc.map AV.v))) b4 (over vs.toList (i.toNat*(cx.T e).size) Z).toArray (g.ln r) (g.own r) g.S B0 rfl (fun b' e=>by simp_all) (fun _ _ h=>h)
             (fun b' o hs=>.inl hs) (fun o hs=>absurd hs (b7 o)) (fun hg HF EE=>by
              obtain⟨u1,u2,u3,u4⟩:=Bl g r (g.ρ r) (g.ln r) (g.tk r) (g.own r) g.S;refine⟨u3.trans t1,u2.trans ch,AeT,.inr ⟨b,cap,E,_,?_,u4.trans b2,by omega,EE,?_,?_,b7⟩⟩
              .simp_all
              .simp only[RM,F4,Array.length_toList];exact b5
              .rw[PL,sc,hfl];exact wU.mono HF (fun _ h=>h) (fun _ h=>h.elim))
            exact two _ ⟨st.t,_⟩ _ _ CQ hcl hk k1 k2
        simp_all
       simp_all
     simp_all
    simp_all
   simp_all
  simp_all
 simp_all
end
end Go.Eng
