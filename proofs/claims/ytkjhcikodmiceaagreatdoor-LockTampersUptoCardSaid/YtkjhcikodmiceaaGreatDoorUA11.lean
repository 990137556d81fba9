/- Lemmas 11. -/
import Derived.Test.YtkjhcikodmiceaaGreatDoorUA10
namespace Go.Eng
variable {o:Oper}{K:HK}{args:Array Operand}{cx:Cx}{Gw:Array TypeId}{vals:Array Value}{after:Array Edge}{dr:Bool}{pos:String}{x:Value}{F:Fence}{o2:Oper}{T:FY}(σ:Ia)
theorem N6{h:Nat->HO}{d:Nat}:∀{n:Nat},Du h d n=true->∀k,k<n->h (Bl d k)=.free
 |0,_,k,hk=>by omega
 |n+1,hf,k,hk=>by
  simp only[Du,Ag]at hf
  by_cases e:k=n
  .grind
  .exact N6 hf.2 k ch
theorem Mu{d nn:Nat}:∀{σ:Ia},Cv σ d nn=true->∀{i j},BY σ i=some j->¬(Bl d 0<=i/\i<Bl d nn)
 | [],_,i,j,h=>by grind [BY]
 |(a,b)::r,hs,i,j,hf=>by
  simp only[Cv,Ag]at hs;unfold BY at hf
  by_cases e1:a=i
  .grind [Nat.ble_eq_true_of_le,Nat.blt_eq]
  .simp only[CX e1,F0]at hf;exact Mu hs.2 hf
section
variable {P:Program}{w0:World}{g0:Gh}{h0 h:Nat->HO}{g:Gh}{w:World}
def Dk(g:Gh):Gh:=
 ⟨fun j=>match Hi σ j with | some i=>g.ρ i | none=>.nilIface,fun j=>match Hi σ j with | some i=>g.ln i | none=>0,fun j=>match Hi σ j with | some i=>g.tk i | none=>false,
  fun j=>match Hi σ j with | some i=>g.own i | none=>none,g.S⟩
def src(d nn:Nat)(i:Nat):Option Nat:=
 match BY σ i with
 |some j=>some j
 |none=>match Nat.ble (Bl d 0) i&&Nat.blt i (Bl d nn)with |true=>some (2000+(i-Bl d 0)) |false=>none
def Gj(d nn:Nat)(g g' : Gh):Gh:=
 ⟨fun i=>match src σ d nn i with | some j=>g'.ρ j | none=>g.ρ i,fun i=>match src σ d nn i with | some j=>g'.ln j | none=>g.ln i,fun i=>match src σ d nn i with | some j=>g'.tk j | none=>g.tk i,
  fun i=>match src σ d nn i with | some j=>g'.own j | none=>g.own i,g'.S⟩
theorem bH(d nn:Nat)(h h' : Nat->HO)(i:Nat):Dx σ d nn h h' i=match src σ d nn i with | some j=>(h' j).ren (ED σ d nn) h' | none=>h i:=by
 grind [Dx,src]
theorem iY{σ:Ia}{d nn:Nat}(hσ:DM σ=true)(ha:Cv σ d nn=true)(i j:Nat):src σ d nn i=some j↔ED σ d nn j=some i:=by
 have inv:=VK hσ;unfold src ED;cases h1:BY σ i with
 |some j'=>
  have hb:=(inv i j').1 h1;dsimp only;constructor
  .grind
  .intro h;cases h2:Hi σ j with
   |some i'=>grind
   |none=>
    rw[h2]at h;dsimp only at h;split at h
    .rename_i hc;have h:=EU h;subst h;simp only[Ag,D6,CJ]at hc;exact absurd ⟨by grind [Bl],by grind [Bl]⟩ (Mu ha h1)
    simp_all
 |none=>
  dsimp only;cases h2:Hi σ j with
  |some i'=>
   dsimp only;have hf:=(inv i' j).2 h2;have hr:=Uy hσ hf
   grind
  |none=>
   dsimp only;constructor
   .grind [Nat.ble_eq,Nat.blt_eq,Bl]
   .intro h;split at h
    .rename_i hc;have h:=EU h;subst h;simp only[Ag,D6,CJ]at hc;have e1:(Nat.ble (Bl d 0) (Bl d (j-2000))&&Nat.blt (Bl d (j-2000)) (Bl d nn))=true:=by
      grind [Nat.ble_eq,Nat.blt_eq,Bl]
     grind [Bl]
    simp_all
theorem Vk(hI:Cm w0 g0 h0 h g w){σ:Ia}(hσ:DM σ=true):Fk (BY σ) h (EW σ h) g (Dk σ g) w/\Cm w (Dk σ g) (EW σ h) (EW σ h) (Dk σ g) w:=by
 have inv:=VK hσ;have EV:∀j,EW σ h j=match Hi σ j with | some i=>(h i).ren (BY σ) h | none=>.free:=Om _ _ σ
 have hR:Fk (BY σ) h (EW σ h) g (Dk σ g) w:=by
  refine⟨fun r r' hr hu=>?_,fun b o=>Iff.rfl,hI.objs⟩
  grind [Dk,Aw,Ly]
 have Lb:∀j,(EW σ h j).live->∃i,Hi σ j=some i/\(h i).live:=fun j hl=>by
  rw[EV]at hl;cases e:Hi σ j with
  |none=>rw[e]at hl;exact hl.elim
  |some i=>grind [Lx]
 have Vq:∀j i,Hi σ j=some i->(Dk σ g).own j=g.own i:=fun j i e=>by simp[Dk,e]
 refine⟨hR,rfl,rfl,rfl,Ai _,fun _ _ _=>rfl,hI.slt,fun j=>?_,fun j j' b hl Qp e e'=>?_,fun j b hl e=>?_,fun _ _ h=>.inl h,hI.glob⟩
 .rw[EV];cases e:Hi σ j with
  |none=>trivial
  |some i=>
   by_cases hu:Aw h i
   .grind [Do.ren,Cm.objs]
   .have:h i=.free:=BI.1 hu
    dsimp only;rw[this];trivial
 .obtain⟨i,e1,l1⟩:=Lb j hl;obtain⟨i',e2,l2⟩:=Lb j' Qp;rw[Vq j i e1]at e;rw[Vq j' i' e2]at e';obtain rfl:=hI.inj i i' b l1 l2 e e'
  have:=(inv i j).2 e1
  rw[(inv i j').2 e2]at this;simp_all
 .obtain⟨i,e1,l1⟩:=Lb j hl;have e0:=e;rw[Vq j i e1]at e;exact⟨(hI.loc i b l1 e).1,.inr ⟨j,hl,e0⟩⟩
theorem LK{C:(Ending->World->Prop)->Prop}(hm:∀{R R' : Ending->World->Prop},C R->(∀e w,R e w->R' e w)->C R')(hI:Cm w0 g0 h0 h g w){σ:Ia}{d nn:Nat}(F5:(DM σ&&Du h d nn&&Cv σ d nn)=true){Q:AV->(Nat->HO)->Prop}
  (hc:Cm w (Dk σ g) (EW σ h) (EW σ h) (Dk σ g) w->C (fun e w'=>∃v r h' g',e=Ending.returned v/\Q r h'/\AT g' w' (Aw h') r v/\Cm w (Dk σ g) (EW σ h) h' g' w'/\Le (EW σ h) (Dk σ g) w h' g' w')) {R:Ending->World->Prop}
  (ai:∀v r h' g2 w',Q r h'->Cm w0 g0 h0 (Dx σ d nn h h') g2 w'->Le h g w (Dx σ d nn h h') g2 w'->AT g2 w' (Aw (Dx σ d nn h h')) (ren (ED σ d nn) h' r) v->R (.returned v) w'):C R:=by
 simp only[Ag]at F5;obtain⟨⟨hσ,wS⟩,tJ⟩:=F5;obtain⟨hF,ks⟩:=Vk hI hσ;have inv:=VK hσ;have rU:=iY hσ tJ;refine hm (hc ks) ?_
 rintro e w' ⟨v,r,h',g',rfl,q1,q2,q3,q4⟩
 have hb:=bH σ d nn h h';have ot:∀i j,src σ d nn i=some j->(Gj σ d nn g g').ρ i=g'.ρ j/\(Gj σ d nn g g').ln i=g'.ln j/\(Gj σ d nn g g').tk i=g'.tk j/\(Gj σ d nn g g').own i=g'.own j:=fun i j e=>by simp[Gj,e]
 have hg3:∀i,src σ d nn i=none->(Gj σ d nn g g').ρ i=g.ρ i/\(Gj σ d nn g g').ln i=g.ln i/\(Gj σ d nn g g').tk i=g.tk i/\(Gj σ d nn g g').own i=g.own i:=fun i e=>by simp[Gj,e]
 have hB:Fk (ED σ d nn) h' (Dx σ d nn h h') g' (Gj σ d nn g g') w':=by
  refine⟨fun j i hj hu=>?_,fun b o=>Iff.rfl,q3.objs⟩
  grind [Aw,Ly]
 have rk:∀j,EW σ h j=match Hi σ j with | some i=>(h i).ren (BY σ) h | none=>.free:=Om _ _ σ
 have ws:∀j i,BY σ i=some j->(h i).live->(EW σ h j).live:=fun j i e hl=>by
  grind [Lx]
 have zm:∀j i,BY σ i=some j->(Dk σ g).own j=g.own i:=fun j i e=>by grind [Dk]
 have kG : ∀j,(EW σ h j).live->∃i,BY σ i=some j/\(h i).live/\(Dk σ g).own j=g.own i:=fun j hl=>by
  rw[rk]at hl;cases e:Hi σ j with
  |none=>rw[e]at hl;exact hl.elim
  |some i=>grind [Lx]
 -- what the callee may not touch
 have oq:∀b,b<w.heap.size->(∀i,(h i).live->BY σ i≠none->g.own i≠some b)->w'.heap[b]?=w.heap[b]?:=fun b Ez hn=>q3.frame b Ez fun j hl e=>by
  grind
 have vW:∀b o,g'.S b o->b<w.heap.size->(∀i,(h i).live->BY σ i≠none->g.own i≠some b)->g.S b o:=fun b o hs Ez hn=>by
  rcases q3.sg b o hs with h1 | h1 | ⟨j,h1,h2⟩
  .exact h1
  all_goals grind
 have hk:En g w (Gj σ d nn g g') w':=q4.keeps;have Ab:∀i,BY σ i=none->src σ d nn i≠none->h i=.free:=fun i e1 e2=>by
  unfold src at e2;rw[e1]at e2;dsimp only at e2;split at e2
  .rename_i hc;simp only[Ag,D6,CJ]at hc
   have:=N6 wS (i-Bl d 0) (by grind [Bl])
   grind [Bl]
  simp_all
 have gA:∀i j,BY σ i=some j->src σ d nn i=some j:=fun i j e=>by grind [src]
 have zu:I4 g (Gj σ d nn g g') (Aw h):=fun i hu=>by
  cases e:BY σ i with
  |some j=>
   obtain⟨k1,k2,k3,k4⟩:=ot i j (gA i j e);obtain⟨f1,f2,f3,f4,f5⟩:=hF.ids i j e hu;obtain⟨m1,m2,m3,m4⟩:=q4.gh j f5<;>simp_all
  |none=>
   have e2:src σ d nn i=none:=BI.1 fun e2=>hu (Ab i e e2);simp_all
 have Mf:∀i,Aw h i->Aw (Dx σ d nn h h') i:=fun i hu=>by
  grind [Aw,Ly,src,Le.us,Fk.ids]
 have cy:∀i,(Dx σ d nn h h' i).live->(∃j,src σ d nn i=some j/\(h' j).live/\(Gj σ d nn g g').own i=g'.own j)\/(src σ d nn i=none/\(h i).live/\(Gj σ d nn g g').own i=g.own i/\BY σ i=none):=fun i hl=>by
  grind [src,Lx]
 have IN:∀j b,(h' j).live->g'.own j=some b->b<w'.heap.size/\(w.heap.size<=b\/∃i,BY σ i≠none/\(h i).live/\g.own i=some b):=fun j b hl e=>by
  grind [Cm.loc]
 have pW:∀i b,(h i).live->g.own i=some b->BY σ i=none->∀i',(h i').live->BY σ i'≠none->g.own i'≠some b:=fun i b hl e hn i' Qp au e'=>by
  obtain rfl:=hI.inj i i' b hl Qp e e';simp_all
 refine ai v r h' (Gj σ d nn g g') w' q1 ⟨q3.os.trans hI.os,q3.tape.trans hI.tape,q3.output.trans hI.output,AH hI.size q3.size,fun b Ez hn=>?_,q3.slt,fun i=>?_,fun i i' b hl Qp e e'=>?_,fun i b hl e=>?_,fun b o hs=>?_,hI.glob.keep hk⟩ ⟨zu,Mf,hk⟩ (q2.ren hB)
 .grind [Cm.loc,Cm.frame]
 .rw[hb];cases e:src σ d nn i with
  |some j=>
   by_cases hu:Aw h' j
   .grind [Do.ren,Cm.objs]
   .have:h' j=.free:=BI.1 hu
    dsimp only;rw[this];trivial
  |none=>
   obtain⟨k1,k2,k3,k4⟩:=hg3 i e;have e2:BY σ i=none:=by
    cases e2:BY σ i<;>grind [BY]
   refine(hI.objs i).same hk Mf zu k1 k2 k3 k4 fun b hl ho=>?_;have Ez:=(hI.loc i b hl ho).1;exact⟨oq b Ez (pW i b hl ho e2),fun k hs=>vW b k hs Ez (pW i b hl ho e2)⟩
 .have mixed:∀i j i',(h' j).live->g'.own j=some b->(h i').live->g.own i'=some b->BY σ i'=none->i=i':=fun i j i' l1 o1 l2 o2 n2=>by
   rcases(IN j b l1 o1).2 with h1 | ⟨i3,n3,l3,o3⟩
   .have:=(hI.loc i' b l2 o2).1;omega
   grind
  rcases cy i hl with ⟨j,s1,l1,o1⟩ | ⟨s1,l1,o1,n1⟩<;>rcases cy i' Qp with ⟨j',s2,l2,o2⟩ | ⟨s2,l2,o2,n2⟩
  .obtain rfl:=q3.inj j j' b l1 l2 (by simp_all) (by simp_all);simp_all
  .exact mixed i j i' l1 (by simp_all) l2 (by simp_all) n2
  .exact(mixed i' j' i l2 (by simp_all) l1 (by simp_all) n1).symm
  .exact hI.inj i i' b l1 l2 (by simp_all) (by simp_all)
 .rcases cy i hl with ⟨j,s1,l1,o1⟩ | ⟨s1,l1,o1,n1⟩
  .obtain⟨h1,h2⟩:=IN j b l1 (by simp_all);refine⟨h1,?_⟩;rcases h2 with h2 | ⟨i3,n3,l3,o3⟩
   .exact .inl (AH hI.size h2)
   .exact(hI.loc i3 b l3 o3).2
  .obtain⟨h1,h2⟩:=hI.loc i b l1 (by simp_all)
   grind
 .rcases q3.sg b o hs with h1 | h1 | ⟨j,h1,h2⟩
  .exact hI.sg b o h1
  .exact .inr (.inl (AH hI.size h1))
  .obtain⟨i,e1,l1,o1⟩:=kG j h1;exact .inr (hI.loc i b l1 (by rw[<-o1];exact h2)).2
theorem fh(hI:Cm w0 g0 h0 h g w){σ:Ia}{d nn:Nat}(F5:(DM σ&&Du h d nn&&Cv σ d nn)=true){f:Nat}{args:List AV}{Q:AV->(Nat->HO)->Prop}(hc:AW P f args (EW σ h) Q)(hs:vals.size=args.length)(hv:∀(i:Nat) (av:AV) (x:Value),args[i]?=some av->vals[i]?=some x->AT (Dk σ g) w (Aw (EW σ h)) av x){R:Ending->World->Prop}(ai:∀v r h' g2 w',Q r h'->Cm w0 g0 h0 (Dx σ d nn h h') g2 w'->Le h g w (Dx σ d nn h h') g2 w'->AT g2 w' (Aw (Dx σ d nn h h')) (ren (ED σ d nn) h' r) v->R (.returned v) w'):Calls P f vals w R:=
 LK (C:=Calls P f vals w) (fun h k=>h.mono k) hI F5 (hc.2 (Dk σ g) w vals hs hv) ai
end
structure SR(N:Nat)(ds:List Deferred)(w0:World)(g0:Gh)(h0:Nat->HO)(st:St)(g:Gh)(a:Act)(w:World):Prop where
 inv:Cm w0 g0 h0 st.h g w
 le:Le h0 g0 w0 st.h g w
 dfs:a.defers=ds
 size:a.tmps.size=N
 slots:∀i,AT g w (Aw st.h) (st.t i) (a.tmps.getD i undef)
section
variable {P:Program}{N:Nat}{ds:List Deferred}{w0:World}{g0:Gh}{h0:Nat->HO}{st:St}{g:Gh}{a:Act}{w:World}
theorem SR.eval(hS:SR N ds w0 g0 h0 st g a w)(x:Operand):AT g w (Aw st.h) (ev st.t x) (a.eval x):=by
 cases x with
 |tmp i=>exact hS.slots i
 |const v=>exact .v _ _
 |global b=>exact .v _ _
 |func f=>exact .v _ _
theorem SR.put(hS:SR N ds w0 g0 h0 st g a w){d:Option Nat}(hd:∀i,d=some i->i<N){v:AV}{x:Value}{h' : Nat->HO}{g' : Gh}{w' : World}(hI:Cm w0 g0 h0 h' g' w')(Il:Le st.h g w h' g' w')(hr:AT g' w' (Aw h') v x) :
  SR N ds w0 g0 h0 (st.put d v h') g' (a.put d x) w':=by
 have old:∀i,AT g' w' (Aw h') (st.t i) (a.tmps.getD i undef):=fun i=>(hS.slots i).le Il;cases d with
 |none=>exact⟨hI,hS.le.trans Il,hS.dfs,hS.size,old⟩
 |some d=>
  have zn:=hd d rfl;refine⟨hI,hS.le.trans Il,hS.dfs,by simp[Act.put,hS.size],fun i=>?_⟩;simp only[St.put,Act.put,IG]
  by_cases e:i=d
  .subst e
   have:i<a.tmps.size:=by rw[hS.size];exact zn
   simp only[Nat.beq_refl,cond_true];rw[Hj,Array.getElem?_setIfInBounds_self,A1 this];exact hr
  .simp only[CX e,F0];rw[Hj,Array.getElem?_setIfInBounds_ne (Ne.symm e),<-Hj];exact old i
def X8(w0:World)(g0:Gh)(h0 h:Nat->HO)(g:Gh)(w:World)(K:HK)(next:Value->World->Prop):Prop:=
 ∀v h' g' w' x,K v h'->Cm w0 g0 h0 h' g' w'->Le h g w h' g' w'->AT g' w' (Aw h') v x->next x w'
theorem Dc{m:Sem Value}{next:Act->World->Prop}{Q:Exit->Act->World->Prop}(hx:execOp a.eval o=(do pure (Next.value (<-m))))(hd:MD P w0 g0 h0 st.h g w m K)(hn:X8 w0 g0 h0 st.h g w K fun x w'=>next (a.put o.dst x) w'):o.wp P a w next Q:=by
 obtain⟨x,w',g',av,h',h1,h2,h3,h4,h5⟩:=hd;unfold Oper.wp;rw[hx,Sem.run_bind,h1];exact hn av h' g' w' x h2 h3 h4 h5
theorem VX{m:Sem Unit}{next:Act->World->Prop}{Q:Exit->Act->World->Prop}(hx:execOp a.eval o=(do m;pure Next.skip))(hd:d9 P w0 g0 h0 st.h g w m K)(hn:X8 w0 g0 h0 st.h g w K fun x w'=>next (a.put o.dst x) w'):o.wp P a w next Q:=by
 obtain⟨w',g',h',h1,h2,h3,h4⟩:=hd;unfold Oper.wp;rw[hx,Sem.run_bind,h1];exact hn _ h' g' w' undef h2 h3 h4 (.v _ _)
theorem bo{next:Act->World->Prop}{Q:Exit->Act->World->Prop}{v:AV}(hI:Cm w0 g0 h0 st.h g w)(hx:(execOp a.eval o).run P w=.ok (.value x) w)(hk:K v st.h)(hr:AT g w (Aw st.h) v x)(hn:X8 w0 g0 h0 st.h g w K fun x w'=>next (a.put o.dst x) w'):o.wp P a w next Q:=by
 unfold Oper.wp;rw[hx];exact hn _ _ _ _ _ hk hI (.refl _ _ _) hr
theorem Ra{C:(Ending->World->Prop)->Prop}(hm:∀{R R' : Ending->World->Prop},C R->(∀e w,R e w->R' e w)->C R')(hI:Cm w0 g0 h0 st.h g w){Q:AV->(Nat->HO)->Prop}
  (hc:Cm w g Ab Ab g w->C (fun e w'=>∃v r h' g',e=Ending.returned v/\Q r h'/\AT g' w' (Aw h') r v/\Cm w g Ab h' g' w'/\Le Ab g w h' g' w')) {R:Ending->World->Prop}
  (hR:∀v r h' g' w',Q r h'->h'=Ab->Cm w0 g0 h0 st.h g' w'->Le st.h g w st.h g' w'->AT g' w' ES r v->R (.returned v) w') (hQ:∀r h',Q r h'->h'=Ab):C R:=by
 have hU:Aw Ab=ES:=by funext i;unfold Aw ES Ab;simp
 have ks:Cm w g Ab Ab g w:=⟨rfl,rfl,rfl,Ai _,fun _ _ _=>rfl,hI.slt,fun _=>trivial,fun _ _ _ h=>h.elim,fun _ _ h=>h.elim,fun _ _ h=>.inl h,hI.glob⟩;refine hm (hc ks) ?_
 rintro e w' ⟨v,r,h',g',rfl,q1,q2,q3,q4⟩
 obtain rfl:=hQ r h' q1;rw[hU]at q2
 -- the caller's ghost,with the callee's stable cells
 have hk:En g w ⟨g.ρ,g.ln,g.tk,g.own,g'.S⟩ w':=q4.keeps;have hg:I4 g ⟨g.ρ,g.ln,g.tk,g.own,g'.S⟩ (Aw st.h):=fun _ _=>⟨rfl,Ai _,fun _=>rfl,fun _=>rfl⟩;have oq:∀b,b<w.heap.size->w'.heap[b]?=w.heap[b]?:=fun b hb=>q3.frame b hb (fun _ h=>h.elim);have vW:∀b o,g'.S b o->b<w.heap.size->g.S b o:=fun b o hs hb=>by
  rcases q3.sg b o hs with h1 | h1 | ⟨_,h1,_⟩
  .exact h1
  .omega
  .exact h1.elim
 refine hR v r Ab ⟨g.ρ,g.ln,g.tk,g.own,g'.S⟩ w' q1 rfl ⟨q3.os.trans hI.os,q3.tape.trans hI.tape,q3.output.trans hI.output,AH hI.size q3.size,fun b hb hn=>?_,q3.slt,fun i=>?_,hI.inj,fun i b hl ho=>?_,fun b o hs=>?_,hI.glob.keep hk⟩ ⟨hg,fun _ h=>h,hk⟩ ?_
 .exact(oq b (AR hb hI.size)).trans (hI.frame b hb hn)
 .refine(hI.objs i).same hk (fun _ h=>h) hg rfl rfl rfl rfl (fun b hl ho=>?_);have Ez:=(hI.loc i b hl ho).1;exact⟨oq b Ez,fun k hs=>vW b k hs Ez⟩
 .obtain⟨h1,h2⟩:=hI.loc i b hl ho;exact⟨AR h1 q3.size,h2⟩
 .rcases q3.sg b o hs with h1 | h1 | ⟨_,h1,_⟩
  .exact hI.sg b o h1
  .exact .inr (.inl (AH hI.size h1))
  .exact h1.elim
 .have:En g' w' ⟨g.ρ,g.ln,g.tk,g.own,g'.S⟩ w':=fun b o h=>⟨h,rfl,fun _ _ h=>h⟩
  exact q2.mono this (fun _ h=>h) (fun _ h=>h.elim)
theorem bM(hI:Cm w0 g0 h0 st.h g w){f:Nat}{args:List AV}{Q:AV->(Nat->HO)->Prop}(hc:AW P f args Ab Q)(hs:vals.size=args.length)(hv:∀(i:Nat) (av:AV) (x:Value),args[i]?=some av->vals[i]?=some x->AT g w ES av x){R:Ending->World->Prop}(hR:∀v r h' g' w',Q r h'->h'=Ab->Cm w0 g0 h0 st.h g' w'->Le st.h g w st.h g' w'->AT g' w' ES r v->R (.returned v) w')(hQ:∀r h',Q r h'->h'=Ab):Calls P f vals w R:=
 have hU:Aw Ab=ES:=by funext i;unfold Aw ES Ab;simp
 Ra (C:=Calls P f vals w) (fun h k=>h.mono k) hI (hc.2 g w vals hs (fun i av x h1 h2=>by rw[hU];exact hv i av x h1 h2)) hR hQ
theorem YieldAt.imp{m:Nat}{P:Program}{l:Nat}{args:Array Value}{W:World}{R R' : Ending->World->Prop}(h:YieldAt F m P l args W R)(hr:∀e w,R e w->R' e w):YieldAt F m P l args W R':=
 let ⟨fn,t,a,b,h1,h2⟩:=h
 ⟨fn,t,a,b,h1,h2.mono hr⟩
theorem H1.imp{Y:Gh->World->Prop}{l:Nat}{args:List AV}{h0:Nat->HO}{Q Q' : AV->(Nat->HO)->Prop}(h:H1 P Y l args h0 Q)(hq:∀r h',Q r h'->Q' r h'):H1 P Y l args h0 Q':=
 fun g w vals q1 q2 q3 q4=>YieldAt.imp (h g w vals q1 q2 q3 q4) fun _ _ ⟨v,r,h',g',e1,e2,rest⟩=>⟨v,r,h',g',e1,hq _ _ e2,rest⟩
theorem Fv.imp{Y:Nat->Gh->World->Prop}{F:AV}{args:List AV}{h0:Nat->HO}{Q Q' : AV->(Nat->HO)->Prop}(h:Fv P Y F args h0 Q)(hq:∀r h',Q r h'->Q' r h'):Fv P Y F args h0 Q':=by
 have one:∀{f:Nat} {l:List AV},AW P f l h0 Q->AW P f l h0 Q':=fun hc=>
  ⟨hc.1,fun g w vals q1 q2 q3=>(hc.2 g w vals q1 q2 q3).mono fun _ _ ⟨v,r,h',g',e1,e2,rest⟩=>⟨v,r,h',g',e1,hq _ _ e2,rest⟩⟩
 unfold Fv at h⊢;split at h
 .exact one h
 .exact one h
 .exact H1.imp h hq
 .exact h.elim
abbrev IM(ro:Option Nat):Fence:={ Fence.wide with round:=ro }
theorem L0{ro:Option Nat}{a:Act}{w:World}{next:Act->World->Prop}{Q:Exit->Act->World->Prop}(hd:∀c,o.op≠.defer c)(h:o.wp P a w next Q):o.wpIn (IM ro) 0 P a w next Q:=by
 refine⟨fun _ _=>trivial,?_⟩;have e:o.semAt (IM ro).round a.eval=execOp a.eval o:=Oper.semAt_eq ro a.eval o hd;rw[e];unfold Oper.wp at h;have key:∀res:Result Next,o.upon P a next Q res->o.uponIn (IM ro) 0 P a next Q res:=fun res h=>by
  cases res with
  |ok n w'=>cases n with
   |enter f args=>exact(show(_->_)/\CallsIn (IM ro) 0 P f args w' _ from⟨fun e=>by(cases e),callsIn_wide.2 h⟩)
   |row r args=>exact(show(_->_)/\RowsIn (IM ro) 0 P r args w' _ from⟨fun e=>by(cases e),fun c cs _=>by
     obtain⟨v,bn,r',s⟩:=h c cs;exact⟨v,bn,r',stepsIn_wide.2 s⟩⟩)
   |round _ _ _ _ _=>exact h.elim
   |_=>exact h
  |halt x w'=>cases x<;>exact h
 exact key _ h
theorem F7{f:Nat}{args:Array Value}(h:Fb P f)(w:World):(callFunc f args).run P w=.ok (.enter f args) w:=by
 obtain⟨fn,h1,h2,h3⟩:=h;simp only[callFunc,Sem.run_bind,run_program,h1,Result.andThen_ok,h2,h3,Ni,if_false,Sem.run_pure]
theorem SE{h:Nat->HO}{a:AV}(ha:aJ a=true):ren (BY []) h a=str h a:=by
 have h0:∀a,ren0 (BY []) h a=str0 h a:=fun a=>by
  cases a with
  |slice tk es=>cases tk<;>rfl
  |_=>rfl
 cases a with
 |tup cs=>cases ha
 |agg cs=>show AV.agg _=AV.agg _;exact Aa _ (BK fun c _=>h0 c)
 |clo f cs=>show AV.clo f _=AV.clo f _;exact Aa _ (BK fun c _=>h0 c)
 |v x=>exact h0 (.v x)
 |slice tk es=>exact h0 (.slice tk es)
 |msl r n=>exact h0 (.msl r n)
 |cptr cs=>exact h0 (.cptr cs)
 |ref r o=>exact h0 (.ref r o)
 |eref r n sz i o=>exact h0 (.eref r n sz i o)
 |mref r=>exact h0 (.mref r)
 |cmap sh l=>exact h0 (.cmap sh l)
 |junk=>rfl
theorem Pj{h:Nat->HO}:∀{l:List AV},So l=true->l.map (ren (BY []) h)=l.map (str h)
 | [],_=>rfl
 |a::l,e=>by
  unfold So at e;split at e
  .rename_i e1;rw[Bb,Bb,SE e1,Pj e]
  .cases e
theorem PA:∀{l:List AV} {vs:List Value},UJ l=some vs->l=vs.map .v
 | [],vs,h=>by cases h;rfl
 |.v x::r,vs,h=>by
  unfold UJ at h;split at h
  .rename_i l e;cases h;rw[Bb,<-PA e]
  .cases h
theorem bL{d:Option Nat}{st:St}{F:AV}{args:List AV}(hk:FM cx true d st F args K):FM cx false d st F args K:=by
 unfold FM at hk;simp only at hk;split at hk
 .exact⟨.pure,hk⟩
 .split at hk
  .exact hk.elim
  .rename_i d _;obtain⟨n,sz,es,h1,h2,h3⟩:=hk;simp only[Ag]at h1;refine⟨.gen [] 1,?_⟩;show(DM []&&Du st.h d 1&&Cv [] d 1)=true/\_;refine⟨by simp[DM,Cv,h1.1.1],?_⟩;rw[SE h1.1.2,Pj h1.2];show Fv cx.P (fun l=>cx.yp l []) _ _ Ab _;refine Fv.imp h2 ?_
   rintro r h' ⟨e2,e3⟩
   subst e2;subst e3;have e1:ren (ED [] d 1) (Ae [(2000,.arr sz es)] Ab) (.msl 2000 n)=.msl (Bl d 0) n:=rfl;have e2:Dx [] d 1 st.h (Ae [(2000,.arr sz es)] Ab)=Az st.h (Bl d 0) (.arr sz es):=by
    funext i
    by_cases e:i=Bl d 0
    .subst e;rw[AM];have hb:(Nat.ble (Bl d 0) (Bl d 0)&&Nat.blt (Bl d 0) (Bl d 1))=true:=by
      unfold Bl;simp only[Ag,D6,CJ];omega
     simp only[Dx,BY,hb,Jl];rfl
    .rw[BB _ _ _ _ e]
     have:(Nat.ble (Bl d 0) i&&Nat.blt i (Bl d 1))=false:=by
      unfold Bl at e⊢;rw[A0];simp only[ne_eq,Ag,D6,CJ];omega
     simp only[Dx,BY,this]
   rw[e1,e2];exact h3
 .split at hk
  .unfold VS at hk;split at hk
   .exact hk.elim
   .rename_i d _;obtain⟨sz,es,h1,h2,h3⟩:=hk;simp only[Ag]at h1;refine⟨.gen [] 1,?_⟩;show(DM []&&Du st.h d 1&&Cv [] d 1)=true/\_;refine⟨by simp[DM,Cv,h1.1.1],?_⟩;rw[SE h1.1.2,Pj h1.2];show Fv cx.P (fun l=>cx.yp l []) _ _ Ab _;refine Fv.imp h2 ?_
    rintro r h' ⟨e2,e3⟩
    subst e2;subst e3;have e1:ren (ED [] d 1) (Ae [(2000,.tok sz es.length)] Ab) (.slice (.id 2000 sz) es)=.slice (.id (Bl d 0) sz) es:=rfl;have e2:Dx [] d 1 st.h (Ae [(2000,.tok sz es.length)] Ab)=Az st.h (Bl d 0) (.tok sz es.length):=by
     funext i
     by_cases e:i=Bl d 0
     .subst e;rw[AM];have hb:(Nat.ble (Bl d 0) (Bl d 0)&&Nat.blt (Bl d 0) (Bl d 1))=true:=by
       unfold Bl;simp only[Ag,D6,CJ];omega
      simp only[Dx,BY,hb,Jl];rfl
     .rw[BB _ _ _ _ e]
      have:(Nat.ble (Bl d 0) i&&Nat.blt i (Bl d 1))=false:=by
       unfold Bl at e⊢;rw[A0];simp only[ne_eq,Ag,D6,CJ];omega
      simp only[Dx,BY,this]
    rw[e1,e2];exact h3
  split at hk
  .unfold Ta at hk;split at hk
   .rename_i d l vs e2 z1;have hl:=PA e2;split at hk
    .rename_i r sz es bi n e3 e4;obtain⟨⟨rfl,rfl⟩,v,EZ,n',h1,h2⟩:=hk;refine⟨.gen [(1000,1000),(1001,1001)] 0,?_⟩;show(DM [(1000,1000),(1001,1001)]&&Du st.h d 0&&Cv [(1000,1000),(1001,1001)] d 0)=true/\_;refine⟨?_,?_⟩
     .have:Cv [(1000,1000),(1001,1001)] d 0=true:=by
       have q:∀r:Nat,(Nat.ble (Bl d 0) r&&Nat.blt r (Bl d 0))=false:=fun r=>by
        rw[A0];simp only[ne_eq,Ag,D6,CJ];omega
       simp only[Cv,q,Bool.not_false,Bool.and_self]
      rw[this];rfl
     have f1:args.map (ren (BY [(1000,1000),(1001,1001)]) st.h)=vs.map .v:=by rw[hl,Bx];rfl
     have f2:EW [(1000,1000),(1001,1001)] st.h=Ae [(1000,.cells [.slice (.id 1001 bi) es]),(1001,.tok bi n)] Ab:=by
      unfold EW VJ VJ VJ;rw[e3,e4];rfl
     rw[f1,f2];refine H1.imp h1 ?_
     rintro r h' ⟨g1,g2⟩
     subst g1;subst g2;have f3:Dx [(1000,1000),(1001,1001)] d 0 st.h (Ae [(1000,.cells [.slice (.id 1001 bi) EZ]),(1001,.tok bi n')] Ab)=Az (Az st.h 1001 (.tok bi n')) 1000 (.cells [.slice (.id 1001 bi) EZ]):=by
      funext i
      by_cases e:i=1000
      .subst e;rw[AM];rfl
      .rw[BB _ _ _ _ e]
       by_cases e' : i=1001
       .subst e';rw[AM];rfl
       .rw[BB _ _ _ _ e'];have hn:BY [(1000,1000),(1001,1001)] i=none:=by simp[BY,CX (Ne.symm e),CX (Ne.symm e')]
        have:(Nat.ble (Bl d 0) i&&Nat.blt i (Bl d 0))=false:=by
         rw[A0];simp only[ne_eq,Ag,D6,CJ];omega
        simp only[Dx,hn,this]
     rw[f3];exact h2
    .exact hk.elim
   .exact hk.elim
  unfold Qc at hk;split at hk
  .unfold WR at hk;split at hk
   .rename_i d f caps kK _;obtain⟨σ,H0,Hn,args',res,g1,g2,g3,g4⟩:=hk;simp only[Ag]at g2;obtain⟨k1,k2⟩:=g1 st.h fun _ _=>rfl;refine⟨.gen σ 0,?_⟩;show(DM σ&&Du st.h d 0&&Cv σ d 0)=true/\_;refine⟨by rw[g2.1.1,g2.1.2];rfl,?_⟩;have key:Fv cx.P (fun l=>cx.yp l σ) (ren (BY σ) st.h F) (args.map (ren (BY σ) st.h)) (Ae H0 Ab) (fun r h'=>r=res/\h'=Ae Hn Ab):=by
     rw[<-k2]at g3;unfold fT at kK;split at kK
     .cases kK
      rw[HN,Dm]at g3;exact g3
     .cases kK
      exact g3
     .cases kK
    rw[k1];refine Fv.imp key ?_
    rintro r h' ⟨e1,e2⟩
    rw[e1,e2];exact g4
   .exact hk.elim
  unfold Qg at hk;split at hk
  .rename_i dd f r n l _;split at hk
   .rename_i vs ay;have hl:=PA ay;subst hl;split at hk
    .rename_i sz es hr;have hf:BY [(r,1000)] r=some 1000:=by simp[BY]
     have e1:ren (BY [(r,1000)]) st.h (.v (.func (.func f) ⟨[]⟩ ⟨[]⟩))=.v (.func (.func f) ⟨[]⟩ ⟨[]⟩):=rfl;have e2:(AV.msl r n::vs.map AV.v).map (ren (BY [(r,1000)]) st.h)=.msl 1000 n::vs.map .v:=by
      rw[Bb]
      congr 1
      .simp[ren,ren1,ren0,hf]
      .rw[Bx];rfl
     have e3:EW [(r,1000)] st.h=Ae [(1000,.arr sz es)] Ab:=by
      unfold EW VJ;rw[hr];rfl
     split at hk
     .obtain⟨n',EZ,h1,h2⟩:=hk;refine⟨.gen [(r,1000)] 0,?_⟩;show(DM [(r,1000)]&&Du st.h dd 0&&Cv [(r,1000)] dd 0)=true/\_;refine⟨?_,?_⟩
      .have:Cv [(r,1000)] dd 0=true:=by
        unfold Cv
        have:(Nat.ble (Bl dd 0) r&&Nat.blt r (Bl dd 0))=false:=by
         rw[A0];simp only[ne_eq,Ag,D6,CJ];omega
        rw[this];rfl
       rw[this];rfl
      rw[e1,e2,e3];refine⟨h1.1,fun g w vals q1 q2 q3=>(h1.2 g w vals q1 q2 q3).mono fun _ _ ⟨v,r',h',g',e1,⟨e2,e3⟩,rest⟩=>⟨v,r',h',g',e1,?_,rest⟩⟩;subst e2;subst e3;have f1:ren (ED [(r,1000)] dd 0) (Ae [(1000,.arr sz EZ)] Ab) (.msl 1000 n')=.msl r n':=rfl;have f2:Dx [(r,1000)] dd 0 st.h (Ae [(1000,.arr sz EZ)] Ab)=Az st.h r (.arr sz EZ):=by
       funext i
       by_cases e:i=r
       .subst e;rw[AM];simp[Dx,hf,Ae,HO.ren]
       .rw[BB _ _ _ _ e];have hn:BY [(r,1000)] i=none:=by simp[BY,CX (Ne.symm e)]
        have:(Nat.ble (Bl dd 0) i&&Nat.blt i (Bl dd 0))=false:=by
         rw[A0];simp only[ne_eq,Ag,D6,CJ];omega
        simp only[Dx,hn,this]
      rw[f1,f2];exact h2
     .obtain⟨n',EZ,h0,h1,h2⟩:=hk;simp only[Ag,CJ,EQ]at h0;have xb:r≠Bl dd 0:=fun e=>by have:=h0.2;rw[e]at this;simp at this
      refine⟨.gen [(r,1000)] 1,?_⟩;show(DM [(r,1000)]&&Du st.h dd 1&&Cv [(r,1000)] dd 1)=true/\_;refine⟨?_,?_⟩
      .have:Cv [(r,1000)] dd 1=true:=by
        unfold Cv
        have:(Nat.ble (Bl dd 0) r&&Nat.blt r (Bl dd 1))=false:=by
         rw[A0];simp only[ne_eq,Ag,D6,CJ];unfold Bl at xb⊢;omega
        rw[this];rfl
       rw[this,h0.1.1];rfl
      rw[e1,e2,e3];refine⟨h1.1,fun g w vals q1 q2 q3=>(h1.2 g w vals q1 q2 q3).mono fun _ _ ⟨v,r',h',g',e1,⟨e2,e3⟩,rest⟩=>⟨v,r',h',g',e1,?_,rest⟩⟩;subst e2;subst e3;have f1:ren (ED [(r,1000)] dd 1) (Ae [(1000,.dead),(2000,.arr sz EZ)] Ab) (.msl 2000 n')=.msl (Bl dd 0) n':=rfl;have f2:Dx [(r,1000)] dd 1 st.h (Ae [(1000,.dead),(2000,.arr sz EZ)] Ab)=Az (Az st.h r .dead) (Bl dd 0) (.arr sz EZ):=by
       funext i
       by_cases e:i=Bl dd 0
       .subst e;rw[AM];have hn:BY [(r,1000)] (Bl dd 0)=none:=by simp[BY,CX xb]
        have hb:(Nat.ble (Bl dd 0) (Bl dd 0)&&Nat.blt (Bl dd 0) (Bl dd 1))=true:=by
         unfold Bl;simp only[Ag,D6,CJ];omega
        simp only[Dx,hn,hb,Jl];rfl
       .rw[BB _ _ _ _ e]
        by_cases e4:i=r
        .subst e4;rw[AM];simp[Dx,hf,Ae,HO.ren]
        .rw[BB _ _ _ _ e4];have hn:BY [(r,1000)] i=none:=by simp[BY,CX (Ne.symm e4)]
         have:(Nat.ble (Bl dd 0) i&&Nat.blt i (Bl dd 1))=false:=by
          rw[A0];simp only[ne_eq,Ag,D6,CJ];unfold Bl at e⊢;omega
         simp only[Dx,hn,this]
      rw[f1,f2];exact h2
    .exact hk.elim
   .exact hk.elim
  .exact hk.elim
theorem fg{d:Option Nat}{f:Operand}{dst:Option Nat}{ty:Nat}{gd:Option (Nat×Bool)}{next:Act->World->Prop}{Q:Exit->Act->World->Prop}(hP:cx.P=P)(hY:∀l σ h g w,DM σ=true->Cm w0 g0 h0 h g w->Le h0 g0 w0 h g w->cx.yp l σ (Dk σ g) w){ro:Option Nat}(hS:SR N ds w0 g0 h0 st g a w)(hk:FM cx dr d st (ev st.t f) (args.toList.map (ev st.t)) K)(hn:X8 w0 g0 h0 st.h g w K fun x w'=>next (a.put dst x) w'):Oper.wpIn (IM ro) 0 P ⟨dst,.call ⟨.value f,args,Gw⟩,ty,pos,after,gd⟩ a w next Q:=by
 subst hP;have hk:FM cx false d st (ev st.t f) (args.toList.map (ev st.t)) K:=by
  cases dr with
  |true=>exact bL hk
  |false=>exact hk
 have H6:∀(i:Nat) (av:AV) (x:Value),((args.toList.map (ev st.t)).map (str st.h))[i]?=some av->(args.map a.eval)[i]?=some x->AT g w ES av x:=by
  intro i av x h1 h2;rw[BC,BC]at h1;rw[Array.getElem?_map]at h2;cases ho:args[i]? with
  |none=>rw[ho]at h2;simp at h2
  |some y=>
   rw[ho]at h2;have hy:args.toList[i]?=some y:=by simpa using ho
   rw[hy]at h1;simp only[TH,Cn]at h1 h2;subst h1;subst h2;exact AT.str hS.inv.objs (hS.eval y)
 have B5:(args.map a.eval).size=((args.toList.map (ev st.t)).map (str st.h)).length:=by simp
 have hF:=AT.str hS.inv.objs (hS.eval f)
 -- a call of yield
 have yl:∀(l:Nat) (R:Ending->World->Prop),a.eval f=.func (.yield l) #[] #[]->YieldAt Fence.wide 0 cx.P l (args.map a.eval) w R->(∀e w',R e w'->∃v,e=.returned v/\next (a.put dst v) w') ->
   Oper.wpIn (IM ro) 0 cx.P ⟨dst,.call ⟨.value f,args,Gw⟩,ty,pos,after,gd⟩ a w next Q:=by
  rintro l R hx ⟨fn,tm,Gf,bd,h1,h2⟩ hR
  refine⟨fun _ _=>trivial,?_⟩;have e:(⟨dst,.call ⟨.value f,args,Gw⟩,ty,pos,after,gd⟩:Oper).semAt (IM ro).round a.eval=execOp a.eval ⟨dst,.call ⟨.value f,args,Gw⟩,ty,pos,after,gd⟩:=Oper.semAt_eq ro a.eval _ (fun c e=>by cases e);have Ca:(execOp a.eval ⟨dst,.call ⟨.value f,args,Gw⟩,ty,pos,after,gd⟩).run cx.P w=.ok (.round l fn tm Gf bd) w:=by
   simp only[execOp,resolve,hx,Deferred.ofValue,Sem.run_bind,Sem.run_pure,Result.andThen_ok,invoke];simpa using h1
  rw[e,Ca];refine(show(_->_)/\RoundIn (IM ro) 0 cx.P l fn tm Gf bd w _ from⟨fun e=>by(cases e),RoundIn.mono h2 fun e w' h=>?_⟩);obtain⟨v,rfl,hn⟩:=hR e w' h;exact hn
 -- the call itself
 have go:∀(Q' : AV->(Nat->HO)->Prop),(∀r h',Q' r h'->h'=Ab/\K r st.h)->Fv cx.P (fun _ _ _=>True) (str st.h (ev st.t f)) ((args.toList.map (ev st.t)).map (str st.h)) Ab Q' ->
   Oper.wpIn (IM ro) 0 cx.P ⟨dst,.call ⟨.value f,args,Gw⟩,ty,pos,after,gd⟩ a w next Q:=by
  intro Q' hQ hc
  have fin:∀{fn:Nat} {l:List AV} {vals:Array Value},AW cx.P fn l Ab Q'->vals.size=l.length->(∀(i:Nat) (av:AV) (x:Value),l[i]?=some av->vals[i]?=some x->AT g w ES av x) ->
    (execOp a.eval ⟨dst,.call ⟨.value f,args,Gw⟩,ty,pos,after,gd⟩).run cx.P w=.ok (.enter fn vals) w->Oper.wpIn (IM ro) 0 cx.P ⟨dst,.call ⟨.value f,args,Gw⟩,ty,pos,after,gd⟩ a w next Q:=by
   intro fn l vals hc hs hv Ca;refine L0 (fun c e=>by cases e) ?_;unfold Oper.wp;rw[Ca];exact bM hS.inv hc hs hv (fun v r h' g' w' hq _ hI Il hr=>hn r _ g' w' v (hQ r h' hq).2 hI Il (hr.up _)) (fun r h' hq=>(hQ r h' hq).1)
  unfold Fv at hc;split at hc
  .rename_i fn e;rw[e]at hF;have hx:=hF.v_eq;refine fin hc B5 H6 ?_;have Qq : a.eval f=.func (.func fn) #[] #[]:=hx;simp only[execOp,resolve,Qq,Deferred.ofValue,Sem.run_bind,Sem.run_pure,Result.andThen_ok,invoke];rw[F7 hc.1];simp
  .rename_i fn caps e;rw[e]at hF;generalize hx:a.eval f=fv at hF;cases hF with
   |clo _ _ _ vs Fi KG=>
    refine fin hc (vals:=args.map a.eval++vs) (by simp[Fi]) (fun i av x h1 h2=>?_) ?_
    .rw[List.getElem?_append]at h1;rw[Array.getElem?_append]at h2;have hl:((args.toList.map (ev st.t)).map (str st.h)).length=(args.map a.eval).size:=B5.symm;rw[hl]at h1;split at h1
     .rename_i hi;rw[A1 hi]at h2;exact H6 i av x h1 h2
     .rename_i hi;rw[AO hi]at h2;exact KG _ av x h1 h2
    .simp only[execOp,resolve,hx,Deferred.ofValue,Sem.run_bind,Sem.run_pure,Result.andThen_ok,invoke];rw[F7 hc.1];simp
  .rename_i l e;rw[e]at hF;have hU:Aw Ab=ES:=by funext i;unfold Aw ES Ab;simp
   refine yl l _ hF.v_eq (Ra (C:=YieldAt Fence.wide 0 cx.P l (args.map a.eval) w) (R:=fun e w'=>∃v,e=.returned v/\next (a.put dst v) w') YieldAt.imp hS.inv (fun ks=>hc g w _ B5 (fun i av x h1 h2=>by rw[hU];exact H6 i av x h1 h2) ks trivial)
    (fun v r h' g' w' hq _ hI Il hr=>⟨v,rfl,hn r _ g' w' v (hQ r h' hq).2 hI Il (hr.up _)⟩) (fun r h' hq=>(hQ r h' hq).1)) fun _ _ h=>h
  .exact hc.elim
 have pure:(∃res,Oz cx.P (str st.h (ev st.t f)) ((args.toList.map (ev st.t)).map (str st.h)) res/\K res st.h)->Oper.wpIn (IM ro) 0 cx.P ⟨dst,.call ⟨.value f,args,Gw⟩,ty,pos,after,gd⟩ a w next Q:=by
  rintro⟨res,h1,h2⟩
  refine go (fun r h'=>r=res/\h'=Ab) (fun r h' hq=>⟨hq.2,by rw[hq.1];exact h2⟩) ?_;unfold Oz at h1;unfold Fv;split at h1
  .rename_i fn e;rw[e];exact h1
  .rename_i fn caps e;rw[e];exact h1
  .exact h1.elim
 unfold FM at hk
 .obtain⟨m,hm⟩:=hk;cases m with
  |pure=>exact pure hm
  |rel=>exact go _ (fun r h' hq=>hq) hm
  |gen σ nn=>
   simp only at hm;cases d with
   |none=>exact hm.elim
   |some d=>
    simp only at hm;obtain⟨F5,hc⟩:=hm;have hσ:DM σ=true:=by simp only[Ag]at F5;exact F5.1.1
    obtain⟨hR,_⟩:=Vk hS.inv hσ;have fZ:=(hS.eval f).ren hR;have RI:∀(i:Nat) (av:AV) (x:Value),((args.toList.map (ev st.t)).map (ren (BY σ) st.h))[i]?=some av->(args.map a.eval)[i]?=some x->AT (Dk σ g) w (Aw (EW σ st.h)) av x:=by
     intro i av x h1 h2;rw[BC,BC]at h1;rw[Array.getElem?_map]at h2;cases ho:args[i]? with
     |none=>rw[ho]at h2;simp at h2
     |some y=>
      rw[ho]at h2;have hy:args.toList[i]?=some y:=by simpa using ho
      rw[hy]at h1;simp only[TH,Cn]at h1 h2;subst h1;subst h2;exact(hS.eval y).ren hR
    have NV:(args.map a.eval).size=((args.toList.map (ev st.t)).map (ren (BY σ) st.h)).length:=by simp
    have fin:∀{fn:Nat} {l:List AV} {vals:Array Value},AW cx.P fn l (EW σ st.h) (fun r h'=>K (ren (ED σ d nn) h' r) (Dx σ d nn st.h h'))->vals.size=l.length ->
      (∀(i:Nat) (av:AV) (x:Value),l[i]?=some av->vals[i]?=some x->AT (Dk σ g) w (Aw (EW σ st.h)) av x) ->
      (execOp a.eval ⟨dst,.call ⟨.value f,args,Gw⟩,ty,pos,after,gd⟩).run cx.P w=.ok (.enter fn vals) w->Oper.wpIn (IM ro) 0 cx.P ⟨dst,.call ⟨.value f,args,Gw⟩,ty,pos,after,gd⟩ a w next Q:=by
     intro fn l vals hc hs hv Ca;refine L0 (fun c e=>by cases e) ?_;unfold Oper.wp;rw[Ca];exact fh hS.inv F5 hc hs hv (fun v r h' g' w' hq hI Il hr=>hn _ _ g' w' v hq hI Il hr)
    unfold Fv at hc;split at hc
    .rename_i fn e;rw[e]at fZ;have hx:a.eval f=.func (.func fn) #[] #[]:=fZ.v_eq;refine fin hc NV RI ?_;simp only[execOp,resolve,hx,Deferred.ofValue,Sem.run_bind,Sem.run_pure,Result.andThen_ok,invoke];rw[F7 hc.1];simp
    .rename_i fn caps e;rw[e]at fZ;generalize hx:a.eval f=fv at fZ;cases fZ with
     |clo _ _ _ vs Fi KG=>
      refine fin hc (vals:=args.map a.eval++vs) (by simp[Fi]) (fun i av x h1 h2=>?_) ?_
      .rw[List.getElem?_append]at h1;rw[Array.getElem?_append]at h2;have hl:((args.toList.map (ev st.t)).map (ren (BY σ) st.h)).length=(args.map a.eval).size:=NV.symm;rw[hl]at h1;split at h1
       .rename_i hi;rw[A1 hi]at h2;exact RI i av x h1 h2
       .rename_i hi;rw[AO hi]at h2;exact KG _ av x h1 h2
      .simp only[execOp,resolve,hx,Deferred.ofValue,Sem.run_bind,Sem.run_pure,Result.andThen_ok,invoke];rw[F7 hc.1];simp
    .rename_i l e;rw[e]at fZ
     exact yl l _ fZ.v_eq (LK (C:=YieldAt Fence.wide 0 cx.P l (args.map a.eval) w) (R:=fun e w'=>∃v,e=.returned v/\next (a.put dst v) w') YieldAt.imp hS.inv F5 (fun ks=>hc (Dk σ g) w _ NV RI ks (hY l σ _ _ _ hσ hS.inv hS.le))
      (fun v r h' g' w' hq hI Il hr=>⟨v,rfl,hn _ _ g' w' v hq hI Il hr⟩)) fun _ _ h=>h
    .exact hc.elim
  |geny σ nn=>
   simp only at hm;cases d with
   |none=>exact hm.elim
   |some d=>
    simp only at hm;obtain⟨F5,hc⟩:=hm;have hσ:DM σ=true:=by simp only[Ag]at F5;exact F5.1.1
    obtain⟨hR,_⟩:=Vk hS.inv hσ;have fZ:=(hS.eval f).ren hR;have RI:∀(i:Nat) (av:AV) (x:Value),((args.toList.map (ev st.t)).map (ren (BY σ) st.h))[i]?=some av->(args.map a.eval)[i]?=some x->AT (Dk σ g) w (Aw (EW σ st.h)) av x:=by
     intro i av x h1 h2;rw[BC,BC]at h1;rw[Array.getElem?_map]at h2;cases ho:args[i]? with
     |none=>rw[ho]at h2;simp at h2
     |some y=>
      rw[ho]at h2;have hy:args.toList[i]?=some y:=by simpa using ho
      rw[hy]at h1;simp only[TH,Cn]at h1 h2;subst h1;subst h2;exact(hS.eval y).ren hR
    have NV:(args.map a.eval).size=((args.toList.map (ev st.t)).map (ren (BY σ) st.h)).length:=by simp
    split at hc
    .rename_i fn caps e;rw[e]at fZ;generalize hx:a.eval f=fv at fZ;cases fZ with
     |clo _ _ _ vs Fi KG=>
      have Ca:(execOp a.eval ⟨dst,.call ⟨.value f,args,Gw⟩,ty,pos,after,gd⟩).run cx.P w=.ok (.enter fn (args.map a.eval++vs)) w:=by
       simp only[execOp,resolve,hx,Deferred.ofValue,Sem.run_bind,Sem.run_pure,Result.andThen_ok,invoke];rw[F7 hc.1];simp
      refine L0 (fun c e=>by cases e) ?_;unfold Oper.wp;rw[Ca];refine LK (C:=Calls cx.P fn (args.map a.eval++vs) w) (fun h k=>h.mono k) hS.inv F5 (fun ks=>hc.2 (Dk σ g) w _ (by simp[Fi]) (fun i av x h1 h2=>?_) ks (fun l=>hY l σ _ _ _ hσ hS.inv hS.le)) (fun v r h' g' w' hq hI Il hr=>hn _ _ g' w' v hq hI Il hr);rw[List.getElem?_append]at h1;rw[Array.getElem?_append]at h2;have hl:((args.toList.map (ev st.t)).map (ren (BY σ) st.h)).length=(args.map a.eval).size:=NV.symm;rw[hl]at h1;split at h1
      .rename_i hi;rw[A1 hi]at h2;exact RI i av x h1 h2
      .rename_i hi;rw[AO hi]at h2;exact KG _ av x h1 h2
    .exact hc.elim
end
section
variable {P:Program}{N:Nat}{ds:List Deferred}{w0:World}{g0:Gh}{h0:Nat->HO}{st:St}{g:Gh}{a:Act}{w:World}
theorem Wj(hT:BQ P cx.T){b:Builtin}{dst:Option Nat}{ty:Nat}{gd:Option (Nat×Bool)}{next:Act->World->Prop}{Q:Exit->Act->World->Prop}(hS:SR N ds w0 g0 h0 st g a w)(hk:Fl cx dst st.h b Gw.toList (args.toList.map (ev st.t)) K)(hn:X8 w0 g0 h0 st.h g w K fun x w'=>next (a.put dst x) w'):Oper.wp P ⟨dst,.call ⟨.builtin b,args,Gw⟩,ty,pos,after,gd⟩ a w next Q:=by
 have hI:=hS.inv;have hE:=hS.eval;obtain⟨l⟩:=args;obtain⟨tl⟩:=Gw;unfold Fl at hk;split at hk
 .rename_i x t e1 e2
  match l,e1 with
  | [y],e1=>
   simp only[Bb,HN,Mb,and_true]at e1;subst e1;simp only at e2;subst e2;exact Dc (m:=Builtin.len_ #[t] ty #[a.eval y]) (by simp[execOp,resolve,invoke,builtin]) (Bh.does hI (gP hT hI.objs (hE y) hk)) hn
 .rename_i s x t t' e1 e2
  match l,e1 with
  | [y,z],e1=>
   simp only[Bb,HN,Mb,and_true]at e1;obtain⟨rfl,rfl⟩:=e1;simp only at e2;subst e2;split at hk
   .rename_i ht;obtain rfl:=AL ht;exact Dc (m:=Builtin.append_ #[t,t] ty #[a.eval y,a.eval z]) (by simp[execOp,resolve,invoke,builtin]) (Yj hI hT (hE y) (hE z) hk) hn
   simp_all
 .rename_i x y Gw e1
  match l,e1 with
  | [y,z],e1=>
   simp only[Bb,HN,Mb,and_true]at e1;obtain⟨rfl,rfl⟩:=e1;exact Dc (m:=Builtin.max_ ⟨tl⟩ ty #[a.eval y,a.eval z]) (by simp[execOp,resolve,invoke,builtin]) (Bh.does hI (li (hE y) (hE z) hk)) hn
 .rename_i x y Gw e1
  match l,e1 with
  | [y,z],e1=>
   simp only[Bb,HN,Mb,and_true]at e1;obtain⟨rfl,rfl⟩:=e1;exact Dc (m:=Builtin.min_ ⟨tl⟩ ty #[a.eval y,a.eval z]) (by simp[execOp,resolve,invoke,builtin]) (Bh.does hI (lk (hE y) (hE z) hk)) hn
 simp_all
theorem jG(hT:BQ P cx.T){next:Act->World->Prop}{Q:Exit->Act->World->Prop}(hS:SR N ds w0 g0 h0 st g a w)(hk:Fg cx dr o st K)(hv:∀f args Gw,o.op≠.call ⟨.value f,args,Gw⟩)(hn:X8 w0 g0 h0 st.h g w K fun x w'=>next (a.put o.dst x) w'):o.wp P a w next Q:=by
 have hI:=hS.inv;have hE:=hS.eval;obtain⟨dst,op,ty,pos,after,gd⟩:=o;unfold Fg at hk;cases op with
 |move x=>exact bo hI (x:=a.eval x) rfl hk (hE x) hn
 |assign x=>
  obtain⟨g',av,h',q1,q2,q3,q4⟩:=Yl hI (hE x) hk;exact hn _ _ _ _ _ q1 q2 q3 q4
 |pick c x y=>exact Dc (m:=do pure (if <-asBool (a.eval c)then a.eval x else a.eval y)) (by simp[execOp]) (Bh.does hI (iu (hE c) (hE x) (hE y) hk)) hn
 |alloc e=>exact Dc rfl (bA hI hT hk) hn
 |box e x=>exact Dc rfl (jP hI (hE x) hk) hn
 |build t ps=>exact Dc rfl (Bh.does hI (bK hT hE hk)) hn
 |buildSlice t n ps=>exact Dc rfl (Q0 hI hT hE hk) hn
 |insert t m k x=>exact VX rfl (Mt hI hT (hE m) (hE k) (hE x) hk) hn
 |load t x=>exact Dc rfl (Bh.does hI (Un hI.objs hT (hE x) hk)) hn
 |store t p x=>exact VX rfl (dQ hI hT (hE p) (hE x) hk) hn
 |nilCheck x=>
  obtain⟨h1,h2⟩:=VD (P:=P) (w:=w) (hE x) hk (pos:=pos) (after:=after) (gd:=gd) (dst:=dst) (ty:=ty) (ρ:=a.eval) rfl<;>grind [bo]
 |binOp op t x y u=>exact Dc rfl (Bh.does hI (eZ hT (hE x) (hE y) (fun v e=>by subst e;rfl) hk)) hn
 |unOp op t x=>exact Dc rfl (Bh.does hI (jh (hE x) hk)) hn
 |convert s t x=>
  cases dr with
  |true=>exact Dc rfl (Bh.does hI (Wq hT (hE x) hk)) hn
  |false=>exact Dc rfl (bR hI hT (hE x) hk) hn
 |makeFunc fn first cap=>exact Dc rfl (Bh.does hI (VA hI.objs hE hk)) hn
 |makeMap t r=>
  cases r with
  |some r=>simp_all
  |none=>exact Dc rfl (Xm hI hk) hn
 |makeSlice t n c=>exact Dc rfl (Tu hI hT (hE n) (hE c) hk) hn
 |slice t x lo hi mx=>
  cases dr with
  |true=>
   cases hp:QW cx.pl.tok dst with
   |none=>
    have hk' : Hr cx dst st.h t (ev st.t x) (Ce st.t lo) (Ce st.t hi) (Ce st.t mx) K:=by
     simp_all
    exact Dc rfl (UB hI hT hE (hE x) hk') hn
   |some _=>
    have hk' : SA cx dst st.h t (ev st.t x) lo (Ce st.t hi) mx K:=by
     simp_all
    unfold SA at hk';split at hk'
    .exact Dc rfl (aT hI hT hE (hE x) hk') hn
    simp_all
  |false=>
   cases hp:QW cx.pl.tok dst with
   |none=>
    have hk' : Hr cx dst st.h t (ev st.t x) (Ce st.t lo) (Ce st.t hi) (Ce st.t mx) K:=by
     simp_all
    exact Dc rfl (UB hI hT hE (hE x) hk') hn
   |some _=>
    have hk' : iJ cx dst st.h t (ev st.t x) st.t lo hi mx K:=by
     simp_all
    cases lo with
    |some lo=>exact Dc rfl (XN hI hT hE (hE x) hk') hn
    |none=>
     unfold iJ at hk';dsimp only at hk';split at hk'
     .exact Dc rfl (Bh.does hI (bF hI.objs hT (hE x) hk')) hn
     .unfold SA at hk';split at hk'
      .exact Dc rfl (aT hI hT hE (hE x) hk') hn
      simp_all
 |fieldAddr s x f=>exact Dc rfl (Bh.does hI (bZ hT (hE x) hk)) hn
 |field s x f=>exact Dc rfl (Bh.does hI (YE hT (hE x) hk)) hn
 |indexAddr t x i=>exact Dc rfl (Bh.does hI (Ts hT (hE x) (hE i) hk)) hn
 |index t x i=>exact Dc rfl (Bh.does hI (cG hT (hE x) (hE i) hk)) hn
 |lookup t x i ok=>
  have hk:LX cx.T st.h t (ev st.t x) (ev st.t i) ok fun v=>K v st.h:=by
   grind [cQ]
  exact Dc rfl (Bh.does hI (Zb hT hI.objs (hE x) (hE i) hk)) hn
 |mapUpdate t m k x=>exact VX rfl (Mt hI hT (hE m) (hE k) (hE x) hk) hn
 |range t x=>
  simp only at hk;split at hk
  .rename_i kt e ht;exact Dc rfl (dD hI hT ht (hE x) hk) hn
  simp_all
 |next it s=>
  cases s with
  |true=>simp_all
  |false=>exact Dc rfl (g9 hI (hE it) hk) hn
 |entry it=>exact Dc rfl (Bh.does hI (bX hI.objs (hE it) hk)) hn
 |extract x i=>exact Dc rfl (Bh.does hI (WF (hE x) hk)) hn
 |call c=>
  obtain⟨pF,args,Gw⟩:=c<;>grind [Wj]
 |_=>simp_all
theorem eU(hP:cx.P=P)(hY:∀l σ h g w,DM σ=true->Cm w0 g0 h0 h g w->Le h0 g0 w0 h g w->cx.yp l σ (Dk σ g) w){ro:Option Nat}(hT:BQ P cx.T){next:Act->World->Prop}{Q:Exit->Act->World->Prop}(hS:SR N ds w0 g0 h0 st g a w)(hk:Fg cx dr o st K)(hn:X8 w0 g0 h0 st.h g w K fun x w'=>next (a.put o.dst x) w'):o.wpIn (IM ro) 0 P a w next Q:=by
 by_cases hv:∃f args Gw,o.op=.call ⟨.value f,args,Gw⟩
 .obtain⟨f,args,Gw,e⟩:=hv;obtain⟨dst,op,ty,pos,after,gd⟩:=o;cases e;exact fg hP hY hS hk hn
 .refine L0 (fun c e=>?_) (jG hT hS hk (fun f args Gw e=>hv ⟨f,args,Gw,e⟩) hn);obtain⟨dst,op,ty,pos,after,gd⟩:=o;cases e;exact hk.elim
theorem sb{p:Nat->Prop}(h:∃n,p n):∃n,p n/\∀m,m<n->¬p m:=by
 apply AP;intro hc
 have:∀n,¬p n:=fun n=>by
  induction n using Nat.strongRecOn<;>grind [Nat.strongRecOn]
 simp_all
theorem Qx{m:Nat}{c:Code}{Q:Exit->Act->World->Prop}(I:Nat->Act->World->Prop)(k:Nat)(h0:I k a w)(round:∀n a w,I n a w->c.wpIn F m P (Exit.then (fun a' w'=>∃n',n' < n/\I n' a' w') Q) a w):(Code.loop c).wpIn F m P Q a w:=by
 classical
 have hex:∀a w,(∃n,I n a w)->∃n,I n a w/\∀n',n' < n->¬I n' a w:=fun a w h=>sb h;refine wpIn_loop (fun a w=>∃n,I n a w) (fun a w=>if h:∃n,I n a w then(hex a w h).choose else 0) ⟨k,h0⟩ fun a w h=>?_;have hs:=(hex a w h).choose_spec;refine wpIn_mono (round _ a w hs.1) fun e a' w' q=>?_;cases e with
 |normal=>
  obtain⟨n',Ez,hn⟩:=q;have h' : ∃n,I n a' w':=⟨n',hn⟩;refine⟨h',?_⟩
  grind
 |_=>exact q
end
section
variable {P:Program}{N:Nat}{ds:List Deferred}{w0:World}{g0:Gh}{h0:Nat->HO}{st:St}{g:Gh}{a:Act}{w:World}
theorem bN(hT:BQ P T){ty e k ty2 b o n c:Nat}(ht:(T ty).d=.slice e)(hk:(T e).size=k+1)(hz:(T e).zc.length=k+1)(Vp:∀v∈(T e).zc,v.oneCell'=true){DD:Array Value}{E:TypeId}(hb:w.heap[b]?=some (.cells DD E (0,0)))(hn:0<n)(Il:o+n*(k+1)<=DD.size) :
  (Builtin.clear_ #[ty] ty2 #[.slice (some ⟨b,o,none⟩) n c]).run P w=.ok (.tuple #[]) (w.setRow b (over DD.toList o (List.replicate n (T e).zc).flatten).toArray):=by
 obtain⟨z,z1,z2⟩:=UM (w:=w) hT hk;have kV:(T e).zc≠[]:=fun e0=>by simp_all
 have oH:(Builtin.zeroCells z.cells n).toList=(List.replicate n (T e).zc).flatten:=by
  rw[Hb n _ kV,hz,z2];have e6:z.cells.size=k+1:=by simp_all
  unfold Builtin.zeroCells;simp[e6,Array.getElem!_eq_getD]
 have B5:(List.replicate n (T e).zc).flatten.length=n*(k+1):=by
  simp_all
 have HF:=run_storeCells_at P b o E (List.replicate n (T e).zc).flatten 0 DD w hb ch (fun v hv=>by
  grind [List.mem_flatten])
 simp only[GT]at HF;rw[L3 _ _ _ (by simp_all)];obtain⟨m,rfl⟩:∃m,n=m+1:=⟨n-1,by omega⟩;simp only[Builtin.clear_,Sem.run_bind,List.getElem?_toArray,DQ,run_underlying (hT.slice ht),Result.andThen_ok,z1,oH,HF,Sem.run_pure]
theorem Yu(hT:BQ P T){ty e ty2 c:Nat}(ht:(T ty).d=.slice e)(x:Option Addr) :
  (Builtin.clear_ #[ty] ty2 #[.slice x 0 c]).run P w=.ok (.tuple #[]) w:=by
 cases x<;>simp only[Builtin.clear_,Sem.run_bind,List.getElem?_toArray,DQ,run_underlying (hT.slice ht),Result.andThen_ok,Sem.run_pure]
theorem iE{d:Nat}(hd:d<a.tmps.size):(a.put (some d) x).eval (.tmp d)=x:=by
 show(a.tmps.setIfInBounds d x).getD d undef=x;simp_all
theorem gv(h:Nat->HO)(r:Nat):Az h r (h r)=h:=funext fun i=>by
 grind [AM,BB]
theorem YY(h:Xd o o2=true):∃ty x lo d ty2 pos after pv lJ UV,o=⟨some d,.slice ty x (some lo) none none,ty2,pos,after,none⟩/\o2=⟨none,.call ⟨.builtin .clear,#[.tmp d],#[ty]⟩,pv,lJ,UV,none⟩:=by
 obtain⟨dst,op,t2,p1,a1,gd⟩:=o;obtain⟨Ab2,op2,t3,p2,a2,gd2⟩:=o2;unfold Xd at h;split at h
 .rename_i c e1;split at h
  .rename_i e2;split at h
   .rename_i ty x lo e3;split at h
    .rename_i d d' ty' e4 e5 e6 e7 e8 e9;obtain⟨pF,⟨args⟩,⟨Gw⟩⟩:=c;simp only at e1 e2 e3 e4 e5 e6 e7 e8 e9;simp only[Ag]at h;obtain rfl:=AL h.1;obtain rfl:=AL h.2;subst e1 e2 e3 e4 e5 e6 e7 e8 e9
     grind
    simp_all
   simp_all
  simp_all
 simp_all
theorem jZ(hT:BQ P cx.T){ro:Option Nat}(hd:∀i,o.dst=some i->i<N)(hc:Xd o o2=true){K:St->Prop}(hS:SR N ds w0 g0 h0 st g a w)(hk:jY cx o st K){next:Act->World->Prop}{Q:Exit->Act->World->Prop}(hn:∀DV g' a' w',K DV->SR N ds w0 g0 h0 DV g' a' w'->next a' w') :
  o.guard=none/\o2.guard=none/\o.wpIn (IM ro) 0 P a w (fun a1 w1=>o2.wpIn (IM ro) 0 P a1 w1 next Q) Q:=by
 obtain⟨ty,x,lo,d,ty2,pos,after,pv,lJ,UV,rfl,rfl⟩:=YY hc;refine⟨rfl,rfl,?_⟩;have hI:=hS.inv;have hE:=hS.eval;have zn:d<a.tmps.size:=by grind [SR.size]
 -- what is to be shown of the two operations
 have two:∀(v:Value) (DV : St) (g' : Gh) (w' : World),(Instr.sliceAt ty (a.eval x) (some (a.eval lo)) none none).run P w=.ok v w->(Builtin.clear_ #[ty] pv #[v]).run P w=.ok (.tuple #[]) w'->K ⟨IG st.t d .junk,DV.h⟩->Cm w0 g0 h0 DV.h g' w'->Le st.h g w DV.h g' w' ->
   Oper.wpIn (IM ro) 0 P ⟨some d,.slice ty x (some lo) none none,ty2,pos,after,none⟩ a w (fun a1 w1=>Oper.wpIn (IM ro) 0 P ⟨none,.call ⟨.builtin .clear,#[.tmp d],#[ty]⟩,pv,lJ,UV,none⟩ a1 w1 next Q) Q:=by
  intro v DV g' w' r1 r2 hk hI' Il;refine L0 (by simp_all) ?_;unfold Oper.wp;have hx:execOp a.eval ⟨some d,.slice ty x (some lo) none none,ty2,pos,after,none⟩=(do pure (Next.value (<-Instr.sliceAt ty (a.eval x) (some (a.eval lo)) none none))):=rfl;rw[hx,Sem.run_bind,r1];refine L0 (by simp_all) ?_;unfold Oper.wp;have pX:execOp (a.put (some d) v).eval ⟨none,.call ⟨.builtin .clear,#[.tmp d],#[ty]⟩,pv,lJ,UV,none⟩=(do pure (Next.value (<-Builtin.clear_ #[ty] pv #[v]))):=by
   grind [execOp,resolve,invoke,builtin,iE]
  rw[pX,Sem.run_bind,r2];have S1:SR N ds w0 g0 h0 (st.put (some d) .junk st.h) g (a.put (some d) v) w:=hS.put hd hI (.refl _ _ _) (.junk _ _);have S2:SR N ds w0 g0 h0 ((st.put (some d) .junk st.h).put none (.v (.tuple #[])) DV.h) g' ((a.put (some d) v).put none (.tuple #[])) w':=S1.put (by simp_all) hI' Il (.v _ _);exact hn _ g' _ w' hk S2
 unfold jY at hk;simp only at hk;split at hk
 .rename_i e hs;split at hk
  .rename_i r n ex;split at hk
   .rename_i i ei;split at hk
    .rename_i sz es er;split at hk
     .rename_i hb;obtain rfl:=AL hb;split at hk
      .simp_all
      .rename_i k Fi;split at hk
       .rename_i V3;have V3:=AL V3;obtain⟨⟨rfl,i0,i1⟩,hk⟩:=hk;unfold qI at hk;split at hk
        .rename_i Gr;have Gr:∀v∈(cx.T e).zc,v.oneCell'=true:=AF.1 Gr;have ho:=hI.objs r;rw[er]at ho;obtain⟨t1,l1,al,a2⟩:=ho;have d7:=hE x;rw[ex]at d7;have tW:=hE lo;rw[ei]at tW;have tW:=tW.v_eq;generalize hvx:a.eval x=vx at d7 two;rw[tW]at two;cases d7 with
         |msl _ _ _ ad cap hu ht' au ha Qq=>
          have hv:=Qq l1.symm;have KG:es.length<=cap:=by
           grind
          have Ca:=Ef (P:=P) (w:=w) hT hs Fi ad es.length cap (some i) none none (.inl rfl) (by simp_all) (by simp_all) (by simp_all) B0;simp only[DR,KE,FI,TH,Option.map_none]at Ca
          by_cases hz:i.toNat=es.length
          .-- nothing is cleared
           have e1:es.length-i.toNat=0:=by omega
           rw[e1]at Ca hk;refine two _ st g w Ca (Yu hT hs _) ?_ hI (.refl _ _ _);have e2:es.take i.toNat++List.replicate 0 ((cx.T e).zc.map AV.v)=es:=by simp_all
           rw[e2,<-er,gv]at hk;exact hk
          .have Ez:i.toNat<es.length:=by omega
           rcases a2 with ⟨b1,_⟩ | ⟨b,Md,E,vs,b1,b2,b3,b4,b5,b6,b7⟩
           .simp_all
           .rw[b1]at hv;cases hv;have DT:¬cap=i.toNat:=by omega
            rw[AO DT]at Ca;have vZ:Option.map (fun x:Addr=>x.add (i.toNat*(cx.T e).size)) (some ⟨b,0,none⟩)=some ⟨b,i.toNat*(cx.T e).size,none⟩:=by grind [Addr.add]
            rw[vZ]at Ca;have Vo:es.length*(cx.T e).size<=cap*(cx.T e).size:=Bq _ b3;have kR:i.toNat*(cx.T e).size+(es.length-i.toNat)*(cx.T e).size=es.length*(cx.T e).size:=by rw[<-KO];simp_all
            have hcl:=bN (w:=w) (ty2:=pv) (c:=cap-i.toNat) hT hs Fi (V3.trans Fi) Gr b4 (n:=es.length-i.toNat) (o:=i.toNat*(cx.T e).size) ch (by simp_all);have hl:(st.h r).live:=by rw[er];trivial
            generalize hZ:(List.replicate (es.length-i.toNat) (cx.T e).zc).flatten=Z at hcl;have vY:Z.length=(es.length-i.toNat)*(cx.T e).size:=by
             rw[<-hZ,CH (n:=(cx.T e).size) (fun c hc=>by simp_all),List.length_replicate]
            have NV:(es.take i.toNat++List.replicate (es.length-i.toNat) ((cx.T e).zc.map AV.v)).length=es.length:=by
             simp_all
            have v8:∀c∈es.take i.toNat++List.replicate (es.length-i.toNat) ((cx.T e).zc.map AV.v),c.length=(cx.T e).size:=fun c hc=>by
             grind
            have Acv:vs.toList.length=cap*(cx.T e).size:=by omega
            have hfl:(es.take i.toNat++List.replicate (es.length-i.toNat) ((cx.T e).zc.map AV.v)).flatten=over es.flatten (i.toNat*(cx.T e).size) (Z.map AV.v):=by
             rw[L3 _ _ _ (by rw[A2,vY,kR,CH al];omega),CA,MO al,A2,vY,kR,Ji (by rw[CH al];omega),Dm,<-hZ,List.map_flatten,List.map_replicate]
            have ud:((over vs.toList (i.toNat*(cx.T e).size) Z).toArray.toList.take (es.length*(cx.T e).size))=over (vs.toList.take (es.length*(cx.T e).size)) (i.toNat*(cx.T e).size) Z:=
             Uw _ _ _ _ ch ch
            have hZr:BR g w ES (Z.map AV.v) Z:=BR.vals (by
             have rd : ∀l:List AV,(∀a∈l,one a=true)->Gd l=true:=by
              intro l
              induction l with
              |nil=>intro _;rfl
              |cons a l ih=>intro h;simp[Gd,h a (List.mem_cons_self ..),ih (fun b hb=>h b (List.mem_cons_of_mem _ hb))]
             refine rd _ fun q hq=>?_;obtain⟨y,hy,rfl⟩:=Ak.1 hq;rw[<-hZ]at hy;obtain⟨l,hl,hy⟩:=Fc.1 hy;rw[List.eq_of_mem_replicate hl]at hy;exact Gr y hy)
            have oE:BR g w ES (over es.flatten (i.toNat*(cx.T e).size) (Z.map AV.v)) (over (vs.toList.take (es.length*(cx.T e).size)) (i.toNat*(cx.T e).size) Z):=
             b6.over hZr _ (by rw[A2,vY,kR,CH al];omega)
            obtain⟨k1,k2⟩:=hI.write hl b2 (.arr (cx.T e).size (es.take i.toNat++List.replicate (es.length-i.toNat) ((cx.T e).zc.map AV.v))) b4 (over vs.toList (i.toNat*(cx.T e).size) Z).toArray (g.ln r) (g.own r) g.S B0 rfl (fun b' e=>by simp_all) (fun _ _ h=>h)
             (fun b' o hs=>.inl hs) (fun o hs=>absurd hs (b7 o)) (fun hg HJ D8=>by
              obtain⟨u1,u2,u3,u4⟩:=Ba g r (g.ρ r) (g.ln r) (g.tk r) (g.own r) g.S;refine⟨u3.trans t1,u2.trans ch,v8,.inr ⟨b,cap,E,_,?_,u4.trans b2,by omega,D8,?_,?_,b7⟩⟩
              .simp_all
              .simp only[List.size_toArray,Fq,Array.length_toList];exact b5
              .rw[NV,ud,hfl];exact oE.mono HJ (fun _ h=>h) (fun _ h=>h.elim))
            exact two _ ⟨st.t,_⟩ _ _ Ca hcl hk k1 k2
        simp_all
       simp_all
     simp_all
    simp_all
   simp_all
  simp_all
 simp_all
end
end Go.Eng
