/- Lemmas 10. -/
import Derived.Test.YtpgfieopnnkpfaaGreatDoorQA09
namespace Go.Eng
variable {o:Oper}{K:HK}{args:Array Operand}{cx:Cx}{G0:Array TypeId}{vals:Array Value}{after:Array Edge}{dr:Bool}{pos:String}{x:Value}{F:Fence}{o2:Oper}{T:GB}(σ:JT)
theorem OP{h:Nat->HO}{d:Nat}:∀{n:Nat},DO h d n=true->∀k,k<n->h (BG d k)=.free
 |0,_,k,hk=>by omega
 |n+1,hf,k,hk=>by
  simp only[DO,Au]at hf
  by_cases e:k=n
  .grind
  .exact OP hf.2 k aa0
theorem Nb{d nn:Nat}:∀{σ:JT},CI σ d nn=true->∀{i j},Cp σ i=some j->¬(BG d 0<=i/\i<BG d nn)
 | [],_,i,j,h=>by grind [Cp]
 |(a,b)::r,hs,i,j,hf=>by
  simp only[CI,Au]at hs;unfold Cp at hf
  by_cases e1:a=i
  .grind [Nat.ble_eq_true_of_le,Nat.blt_eq]
  .simp only[Ds e1,GE]at hf;exact Nb hs.2 hf
section
variable {P:Program}{w0:World}{g0:Gh}{h0 h:Nat->HO}{g:Gh}{w:World}
def DE(g:Gh):Gh:=
 ⟨fun j=>match HR σ j with | some i=>g.ρ i | none=>.nilIface,fun j=>match HR σ j with | some i=>g.ln i | none=>0,fun j=>match HR σ j with | some i=>g.tk i | none=>false,
  fun j=>match HR σ j with | some i=>g.own i | none=>none,g.S⟩
def Vw(d nn:Nat)(i:Nat):Option Nat:=
 match Cp σ i with
 |some j=>some j
 |none=>match Nat.ble (BG d 0) i&&Nat.blt i (BG d nn)with |true=>some (2000+(i-BG d 0)) |false=>none
def GQ(d nn:Nat)(g g' : Gh):Gh:=
 ⟨fun i=>match Vw σ d nn i with | some j=>g'.ρ j | none=>g.ρ i,fun i=>match Vw σ d nn i with | some j=>g'.ln j | none=>g.ln i,fun i=>match Vw σ d nn i with | some j=>g'.tk j | none=>g.tk i,
  fun i=>match Vw σ d nn i with | some j=>g'.own j | none=>g.own i,g'.S⟩
theorem dF(d nn:Nat)(h h' : Nat->HO)(i:Nat):EF σ d nn h h' i=match Vw σ d nn i with | some j=>(h' j).ren (FD σ d nn) h' | none=>h i:=by
 grind [EF,Vw]
theorem lH{σ:JT}{d nn:Nat}(hσ:D3 σ=true)(ha:CI σ d nn=true)(i j:Nat):Vw σ d nn i=some j↔FD σ d nn j=some i:=by
 have inv:=WY hσ;unfold Vw FD;cases h1:Cp σ i with
 |some j'=>
  have hb:=(inv i j').1 h1;dsimp only;constructor
  .grind
  .intro h;cases h2:HR σ j with
   |some i'=>grind
   |none=>
    rw[h2]at h;dsimp only at h;split at h
    .rename_i hc;have h:=DY h;subst h;simp only[Au,Nat.ble_eq,Ia]at hc;exact absurd ⟨by grind [BG],by grind [BG]⟩ (Nb ha h1)
    simp_all
 |none=>
  dsimp only;cases h2:HR σ j with
  |some i'=>
   dsimp only;have hf:=(inv i' j).2 h2;have hr:=Vl hσ hf
   grind
  |none=>
   dsimp only;constructor
   .grind [Nat.ble_eq,Nat.blt_eq,BG]
   .intro h;split at h
    .rename_i hc;have h:=DY h;subst h;simp only[Au,Nat.ble_eq,Ia]at hc;have e1:(Nat.ble (BG d 0) (BG d (j-2000))&&Nat.blt (BG d (j-2000)) (BG d nn))=true:=by
      grind [Nat.ble_eq,Nat.blt_eq,BG]
     grind [BG]
    simp_all
theorem Wk(hI:Cv w0 g0 h0 h g w){σ:JT}(hσ:D3 σ=true):FQ (Cp σ) h (F8 σ h) g (DE σ g) w/\Cv w (DE σ g) (F8 σ h) (F8 σ h) (DE σ g) w:=by
 have inv:=WY hσ;have GR:∀j,F8 σ h j=match HR σ j with | some i=>(h i).ren (Cp σ) h | none=>.free:=O1 _ _ σ
 have hR:FQ (Cp σ) h (F8 σ h) g (DE σ g) w:=by
  refine⟨fun r r' hr hu=>?_,fun b o=>Iff.rfl,hI.objs⟩
  grind [DE,used,Md]
 have LP:∀j,(F8 σ h j).live->∃i,HR σ j=some i/\(h i).live:=fun j hl=>by
  rw[GR]at hl;cases e:HR σ j with
  |none=>rw[e]at hl;exact hl.elim
  |some i=>grind [Mc]
 have MX:∀j i,HR σ j=some i->(DE σ g).own j=g.own i:=fun j i e=>by simp[DE,e]
 refine⟨hR,rfl,rfl,rfl,Aq _,fun _ _ _=>rfl,hI.slt,fun j=>?_,fun j j' b hl T1 e e'=>?_,fun j b hl e=>?_,fun _ _ h=>.inl h,hI.glob⟩
 .rw[GR];cases e:HR σ j with
  |none=>trivial
  |some i=>
   by_cases hu:used h i
   .grind [DB.ren,Cv.objs]
   .have:h i=.free:=Bs.1 hu
    dsimp only;rw[this];trivial
 .obtain⟨i,e1,l1⟩:=LP j hl;obtain⟨i',e2,l2⟩:=LP j' T1;rw[MX j i e1]at e;rw[MX j' i' e2]at e';obtain rfl:=hI.inj i i' b l1 l2 e e'
  have:=(inv i j).2 e1
  rw[(inv i j').2 e2]at this;simp_all
 .obtain⟨i,e1,l1⟩:=LP j hl;have e0:=e;rw[MX j i e1]at e;exact⟨(hI.loc i b l1 e).1,.inr ⟨j,hl,e0⟩⟩
theorem Mo{C:(Ending->World->Prop)->Prop}(hm:∀{R R' : Ending->World->Prop},C R->(∀e w,R e w->R' e w)->C R')(hI:Cv w0 g0 h0 h g w){σ:JT}{d nn:Nat}(Qw:(D3 σ&&DO h d nn&&CI σ d nn)=true){Q:AV->(Nat->HO)->Prop}
  (hc:Cv w (DE σ g) (F8 σ h) (F8 σ h) (DE σ g) w->C (fun e w'=>∃v r h' g',e=Ending.returned v/\Q r h'/\A5 g' w' (used h') r v/\Cv w (DE σ g) (F8 σ h) h' g' w'/\Le (F8 σ h) (DE σ g) w h' g' w')) {R:Ending->World->Prop}
  (zh:∀v r h' g2 w',Q r h'->Cv w0 g0 h0 (EF σ d nn h h') g2 w'->Le h g w (EF σ d nn h h') g2 w'->A5 g2 w' (used (EF σ d nn h h')) (ren (FD σ d nn) h' r) v->R (.returned v) w'):C R:=by
 simp only[Au]at Qw;obtain⟨⟨hσ,sM⟩,wO⟩:=Qw;obtain⟨hF,nF⟩:=Wk hI hσ;have inv:=WY hσ;have vA:=lH hσ wO;refine hm (hc nF) ?_
 rintro e w' ⟨v,r,h',g',rfl,q1,q2,q3,q4⟩
 have hb:=dF σ d nn h h';have qV:∀i j,Vw σ d nn i=some j->(GQ σ d nn g g').ρ i=g'.ρ j/\(GQ σ d nn g g').ln i=g'.ln j/\(GQ σ d nn g g').tk i=g'.tk j/\(GQ σ d nn g g').own i=g'.own j:=fun i j e=>by simp[GQ,e]
 have zM:∀i,Vw σ d nn i=none->(GQ σ d nn g g').ρ i=g.ρ i/\(GQ σ d nn g g').ln i=g.ln i/\(GQ σ d nn g g').tk i=g.tk i/\(GQ σ d nn g g').own i=g.own i:=fun i e=>by simp[GQ,e]
 have hB:FQ (FD σ d nn) h' (EF σ d nn h h') g' (GQ σ d nn g g') w':=by
  refine⟨fun j i hj hu=>?_,fun b o=>Iff.rfl,q3.objs⟩
  grind [used,Md]
 have uT:∀j,F8 σ h j=match HR σ j with | some i=>(h i).ren (Cp σ) h | none=>.free:=O1 _ _ σ
 have zD:∀j i,Cp σ i=some j->(h i).live->(F8 σ h j).live:=fun j i e hl=>by
  grind [Mc]
 have AbP:∀j i,Cp σ i=some j->(DE σ g).own j=g.own i:=fun j i e=>by grind [DE]
 have nN : ∀j,(F8 σ h j).live->∃i,Cp σ i=some j/\(h i).live/\(DE σ g).own j=g.own i:=fun j hl=>by
  rw[uT]at hl;cases e:HR σ j with
  |none=>rw[e]at hl;exact hl.elim
  |some i=>grind [Mc]
 -- what the callee may not touch
 have zL:∀b,b<w.heap.size->(∀i,(h i).live->Cp σ i≠none->g.own i≠some b)->w'.heap[b]?=w.heap[b]?:=fun b Fp hn=>q3.frame b Fp fun j hl e=>by
  grind
 have hSs:∀b o,g'.S b o->b<w.heap.size->(∀i,(h i).live->Cp σ i≠none->g.own i≠some b)->g.S b o:=fun b o hs Fp hn=>by
  rcases q3.sg b o hs with h1 | h1 | ⟨j,h1,h2⟩
  .exact h1
  all_goals grind
 have hk:ED g w (GQ σ d nn g g') w':=q4.keeps;have Af:∀i,Cp σ i=none->Vw σ d nn i≠none->h i=.free:=fun i e1 e2=>by
  unfold Vw at e2;rw[e1]at e2;dsimp only at e2;split at e2
  .rename_i hc;simp only[Au,Nat.ble_eq,Ia]at hc
   have:=OP sM (i-BG d 0) (by grind [BG])
   grind [BG]
  simp_all
 have rr:∀i j,Cp σ i=some j->Vw σ d nn i=some j:=fun i j e=>by grind [Vw]
 have hgl:JS g (GQ σ d nn g g') (used h):=fun i hu=>by
  cases e:Cp σ i with
  |some j=>
   obtain⟨k1,k2,k3,k4⟩:=qV i j (rr i j e);obtain⟨f1,f2,f3,f4,f5⟩:=hF.ids i j e hu;obtain⟨m1,m2,m3,m4⟩:=q4.gh j f5<;>simp_all
  |none=>
   have e2:Vw σ d nn i=none:=Bs.1 fun e2=>hu (Af i e e2);simp_all
 have Ij:∀i,used h i->used (EF σ d nn h h') i:=fun i hu=>by
  grind [used,Md,Vw,Le.us,FQ.ids]
 have eZ:∀i,(EF σ d nn h h' i).live->(∃j,Vw σ d nn i=some j/\(h' j).live/\(GQ σ d nn g g').own i=g'.own j)\/(Vw σ d nn i=none/\(h i).live/\(GQ σ d nn g g').own i=g.own i/\Cp σ i=none):=fun i hl=>by
  grind [Vw,Mc]
 have Jw:∀j b,(h' j).live->g'.own j=some b->b<w'.heap.size/\(w.heap.size<=b\/∃i,Cp σ i≠none/\(h i).live/\g.own i=some b):=fun j b hl e=>by
  grind [Cv.loc]
 have sO:∀i b,(h i).live->g.own i=some b->Cp σ i=none->∀i',(h i').live->Cp σ i'≠none->g.own i'≠some b:=fun i b hl e hn i' T1 l6 e'=>by
  obtain rfl:=hI.inj i i' b hl T1 e e';simp_all
 refine zh v r h' (GQ σ d nn g g') w' q1 ⟨q3.os.trans hI.os,q3.tape.trans hI.tape,q3.output.trans hI.output,AL hI.size q3.size,fun b Fp hn=>?_,q3.slt,fun i=>?_,fun i i' b hl T1 e e'=>?_,fun i b hl e=>?_,fun b o hs=>?_,hI.glob.keep hk⟩ ⟨hgl,Ij,hk⟩ (q2.ren hB)
 .grind [Cv.loc,Cv.frame]
 .rw[hb];cases e:Vw σ d nn i with
  |some j=>
   by_cases hu:used h' j
   .grind [DB.ren,Cv.objs]
   .have:h' j=.free:=Bs.1 hu
    dsimp only;rw[this];trivial
  |none=>
   obtain⟨k1,k2,k3,k4⟩:=zM i e;have e2:Cp σ i=none:=by
    cases e2:Cp σ i<;>grind [Cp]
   refine(hI.objs i).same hk Ij hgl k1 k2 k3 k4 fun b hl ho=>?_;have Fp:=(hI.loc i b hl ho).1;exact⟨zL b Fp (sO i b hl ho e2),fun k hs=>hSs b k hs Fp (sO i b hl ho e2)⟩
 .have mixed:∀i j i',(h' j).live->g'.own j=some b->(h i').live->g.own i'=some b->Cp σ i'=none->i=i':=fun i j i' l1 o1 l2 o2 n2=>by
   rcases(Jw j b l1 o1).2 with h1 | ⟨i3,n3,l3,o3⟩
   .have:=(hI.loc i' b l2 o2).1;omega
   grind
  rcases eZ i hl with ⟨j,s1,l1,o1⟩ | ⟨s1,l1,o1,n1⟩<;>rcases eZ i' T1 with ⟨j',s2,l2,o2⟩ | ⟨s2,l2,o2,n2⟩
  .obtain rfl:=q3.inj j j' b l1 l2 (by simp_all) (by simp_all);simp_all
  .exact mixed i j i' l1 (by simp_all) l2 (by simp_all) n2
  .exact(mixed i' j' i l2 (by simp_all) l1 (by simp_all) n1).symm
  .exact hI.inj i i' b l1 l2 (by simp_all) (by simp_all)
 .rcases eZ i hl with ⟨j,s1,l1,o1⟩ | ⟨s1,l1,o1,n1⟩
  .obtain⟨h1,h2⟩:=Jw j b l1 (by simp_all);refine⟨h1,?_⟩;rcases h2 with h2 | ⟨i3,n3,l3,o3⟩
   .exact .inl (AL hI.size h2)
   .exact(hI.loc i3 b l3 o3).2
  .obtain⟨h1,h2⟩:=hI.loc i b l1 (by simp_all)
   grind
 .rcases q3.sg b o hs with h1 | h1 | ⟨j,h1,h2⟩
  .exact hI.sg b o h1
  .exact .inr (.inl (AL hI.size h1))
  .obtain⟨i,e1,l1,o1⟩:=nN j h1;exact .inr (hI.loc i b l1 (by rw[<-o1];exact h2)).2
theorem iD(hI:Cv w0 g0 h0 h g w){σ:JT}{d nn:Nat}(Qw:(D3 σ&&DO h d nn&&CI σ d nn)=true){f:Nat}{args:List AV}{Q:AV->(Nat->HO)->Prop}(hc:Cq P f args (F8 σ h) Q)(hs:vals.size=args.length)(hv:∀(i:Nat) (av:AV) (x:Value),args[i]?=some av->vals[i]?=some x->A5 (DE σ g) w (used (F8 σ h)) av x){R:Ending->World->Prop}(zh:∀v r h' g2 w',Q r h'->Cv w0 g0 h0 (EF σ d nn h h') g2 w'->Le h g w (EF σ d nn h h') g2 w'->A5 g2 w' (used (EF σ d nn h h')) (ren (FD σ d nn) h' r) v->R (.returned v) w'):Calls P f vals w R:=
 Mo (C:=Calls P f vals w) (fun h k=>h.mono k) hI Qw (hc.2 (DE σ g) w vals hs hv) zh
end
structure SR(N:Nat)(ds:List Deferred)(w0:World)(g0:Gh)(h0:Nat->HO)(st:St)(g:Gh)(a:Act)(w:World):Prop where
 inv:Cv w0 g0 h0 st.h g w
 le:Le h0 g0 w0 st.h g w
 dfs:a.defers=ds
 size:a.tmps.size=N
 slots:∀i,A5 g w (used st.h) (st.t i) (a.tmps.getD i undef)
section
variable {P:Program}{N:Nat}{ds:List Deferred}{w0:World}{g0:Gh}{h0:Nat->HO}{st:St}{g:Gh}{a:Act}{w:World}
theorem SR.eval(hS:SR N ds w0 g0 h0 st g a w)(x:Operand):A5 g w (used st.h) (ev st.t x) (a.eval x):=by
 cases x with
 |tmp i=>exact hS.slots i
 |const v=>exact .v _ _
 |global b=>exact .v _ _
 |func f=>exact .v _ _
theorem SR.put(hS:SR N ds w0 g0 h0 st g a w){d:Option Nat}(hd:∀i,d=some i->i<N){v:AV}{x:Value}{h' : Nat->HO}{g' : Gh}{w' : World}(hI:Cv w0 g0 h0 h' g' w')(HB:Le st.h g w h' g' w')(hr:A5 g' w' (used h') v x) :
  SR N ds w0 g0 h0 (st.put d v h') g' (a.put d x) w':=by
 have old:∀i,A5 g' w' (used h') (st.t i) (a.tmps.getD i undef):=fun i=>(hS.slots i).le HB;cases d with
 |none=>exact⟨hI,hS.le.trans HB,hS.dfs,hS.size,old⟩
 |some d=>
  have hdN:=hd d rfl;refine⟨hI,hS.le.trans HB,hS.dfs,by simp[Act.put,hS.size],fun i=>?_⟩;simp only[St.put,Act.put,Jp]
  by_cases e:i=d
  .subst e
   have:i<a.tmps.size:=by grind [SR.size]
   simp_all
  .simp only[Ds e,GE];rw[Nj,Array.getElem?_setIfInBounds_ne (Ne.symm e),<-Nj];simp_all
def ZH(w0:World)(g0:Gh)(h0 h:Nat->HO)(g:Gh)(w:World)(K:HK)(next:Value->World->Prop):Prop:=
 ∀v h' g' w' x,K v h'->Cv w0 g0 h0 h' g' w'->Le h g w h' g' w'->A5 g' w' (used h') v x->next x w'
theorem Dw{m:Sem Value}{next:Act->World->Prop}{Q:Exit->Act->World->Prop}(hx:execOp a.eval o=(do pure (Next.value (<-m))))(hd:Nk P w0 g0 h0 st.h g w m K)(hn:ZH w0 g0 h0 st.h g w K fun x w'=>next (a.put o.dst x) w'):o.wp P a w next Q:=by
 obtain⟨x,w',g',av,h',h1,h2,h3,h4,h5⟩:=hd;unfold Oper.wp;rw[hx,Sem.run_bind,h1];exact hn av h' g' w' x h2 h3 h4 h5
theorem Xa{m:Sem Unit}{next:Act->World->Prop}{Q:Exit->Act->World->Prop}(hx:execOp a.eval o=(do m;pure Next.skip))(hd:gZ P w0 g0 h0 st.h g w m K)(hn:ZH w0 g0 h0 st.h g w K fun x w'=>next (a.put o.dst x) w'):o.wp P a w next Q:=by
 obtain⟨w',g',h',h1,h2,h3,h4⟩:=hd;unfold Oper.wp;rw[hx,Sem.run_bind,h1];exact hn _ h' g' w' undef h2 h3 h4 (.v _ _)
theorem dk{next:Act->World->Prop}{Q:Exit->Act->World->Prop}{v:AV}(hI:Cv w0 g0 h0 st.h g w)(hx:(execOp a.eval o).run P w=.ok (.value x) w)(hk:K v st.h)(hr:A5 g w (used st.h) v x)(hn:ZH w0 g0 h0 st.h g w K fun x w'=>next (a.put o.dst x) w'):o.wp P a w next Q:=by
 unfold Oper.wp;rw[hx];exact hn _ _ _ _ _ hk hI (.refl _ _ _) hr
theorem RK{C:(Ending->World->Prop)->Prop}(hm:∀{R R' : Ending->World->Prop},C R->(∀e w,R e w->R' e w)->C R')(hI:Cv w0 g0 h0 st.h g w){Q:AV->(Nat->HO)->Prop}
  (hc:Cv w g Af Af g w->C (fun e w'=>∃v r h' g',e=Ending.returned v/\Q r h'/\A5 g' w' (used h') r v/\Cv w g Af h' g' w'/\Le Af g w h' g' w')) {R:Ending->World->Prop}
  (hR:∀v r h' g' w',Q r h'->h'=Af->Cv w0 g0 h0 st.h g' w'->Le st.h g w st.h g' w'->A5 g' w' EZ r v->R (.returned v) w') (hQ:∀r h',Q r h'->h'=Af):C R:=by
 have hU:used Af=EZ:=by grind [used,EZ,Af]
 have nF:Cv w g Af Af g w:=⟨rfl,rfl,rfl,Aq _,fun _ _ _=>rfl,hI.slt,fun _=>trivial,fun _ _ _ h=>h.elim,fun _ _ h=>h.elim,fun _ _ h=>.inl h,hI.glob⟩;refine hm (hc nF) ?_
 rintro e w' ⟨v,r,h',g',rfl,q1,q2,q3,q4⟩
 obtain rfl:=hQ r h' q1;rw[hU]at q2
 -- the caller's ghost,with the callee's stable cells
 have hk:ED g w ⟨g.ρ,g.ln,g.tk,g.own,g'.S⟩ w':=q4.keeps;have hg:JS g ⟨g.ρ,g.ln,g.tk,g.own,g'.S⟩ (used st.h):=fun _ _=>⟨rfl,Aq _,fun _=>rfl,fun _=>rfl⟩;have zL:∀b,b<w.heap.size->w'.heap[b]?=w.heap[b]?:=fun b hb=>q3.frame b hb (fun _ h=>h.elim);have hSs:∀b o,g'.S b o->b<w.heap.size->g.S b o:=fun b o hs hb=>by
  rcases q3.sg b o hs with h1 | h1 | ⟨_,h1,_⟩
  .exact h1
  .omega
  .exact h1.elim
 refine hR v r Af ⟨g.ρ,g.ln,g.tk,g.own,g'.S⟩ w' q1 rfl ⟨q3.os.trans hI.os,q3.tape.trans hI.tape,q3.output.trans hI.output,AL hI.size q3.size,fun b hb hn=>?_,q3.slt,fun i=>?_,hI.inj,fun i b hl ho=>?_,fun b o hs=>?_,hI.glob.keep hk⟩ ⟨hg,fun _ h=>h,hk⟩ ?_
 .exact(zL b (Hm hb hI.size)).trans (hI.frame b hb hn)
 .refine(hI.objs i).same hk (fun _ h=>h) hg rfl rfl rfl rfl (fun b hl ho=>?_);have Fp:=(hI.loc i b hl ho).1;simp_all
 .obtain⟨h1,h2⟩:=hI.loc i b hl ho<;>grind [Nat.lt_of_lt_of_le]
 .rcases q3.sg b o hs with h1 | h1 | ⟨_,h1,_⟩
  .grind [Cv.sg]
  .exact .inr (.inl (AL hI.size h1))
  .exact h1.elim
 .have:ED g' w' ⟨g.ρ,g.ln,g.tk,g.own,g'.S⟩ w':=fun b o h=>⟨h,rfl,fun _ _ h=>h⟩
  exact q2.mono this (fun _ h=>h) (fun _ h=>h.elim)
theorem dQ(hI:Cv w0 g0 h0 st.h g w){f:Nat}{args:List AV}{Q:AV->(Nat->HO)->Prop}(hc:Cq P f args Af Q)(hs:vals.size=args.length)(hv:∀(i:Nat) (av:AV) (x:Value),args[i]?=some av->vals[i]?=some x->A5 g w EZ av x){R:Ending->World->Prop}(hR:∀v r h' g' w',Q r h'->h'=Af->Cv w0 g0 h0 st.h g' w'->Le st.h g w st.h g' w'->A5 g' w' EZ r v->R (.returned v) w')(hQ:∀r h',Q r h'->h'=Af):Calls P f vals w R:=
 have hU:used Af=EZ:=by grind [used,EZ,Af]
 RK (C:=Calls P f vals w) (fun h k=>h.mono k) hI (hc.2 g w vals hs (fun i av x h1 h2=>by grind)) hR hQ
theorem YieldAt.imp{m:Nat}{P:Program}{l:Nat}{args:Array Value}{W:World}{R R' : Ending->World->Prop}(h:YieldAt F m P l args W R)(hr:∀e w,R e w->R' e w):YieldAt F m P l args W R':=
 let ⟨fn,t,a,b,h1,h2⟩:=h
 ⟨fn,t,a,b,h1,h2.mono hr⟩
theorem J7.imp{Y:Gh->World->Prop}{l:Nat}{args:List AV}{h0:Nat->HO}{Q Q' : AV->(Nat->HO)->Prop}(h:J7 P Y l args h0 Q)(hq:∀r h',Q r h'->Q' r h'):J7 P Y l args h0 Q':=
 fun g w vals q1 q2 q3 q4=>YieldAt.imp (h g w vals q1 q2 q3 q4) fun _ _ ⟨v,r,h',g',e1,e2,rest⟩=>⟨v,r,h',g',e1,hq _ _ e2,rest⟩
theorem F2.imp{Y:Nat->Gh->World->Prop}{F:AV}{args:List AV}{h0:Nat->HO}{Q Q' : AV->(Nat->HO)->Prop}(h:F2 P Y F args h0 Q)(hq:∀r h',Q r h'->Q' r h'):F2 P Y F args h0 Q':=by
 have Xm:∀{f:Nat} {l:List AV},Cq P f l h0 Q->Cq P f l h0 Q':=fun hc=>
  ⟨hc.1,fun g w vals q1 q2 q3=>(hc.2 g w vals q1 q2 q3).mono fun _ _ ⟨v,r,h',g',e1,e2,rest⟩=>⟨v,r,h',g',e1,hq _ _ e2,rest⟩⟩
 unfold F2 at h⊢
 grind [J7.imp]
abbrev Jv(ro:Option Nat):Fence:={ Fence.wide with round:=ro }
theorem MH{ro:Option Nat}{a:Act}{w:World}{next:Act->World->Prop}{Q:Exit->Act->World->Prop}(hd:∀c,o.op≠.defer c)(h:o.wp P a w next Q):o.wpIn (Jv ro) 0 P a w next Q:=by
 refine⟨fun _ _=>trivial,?_⟩;have e:o.semAt (Jv ro).round a.eval=execOp a.eval o:=Oper.semAt_eq ro a.eval o hd;rw[e];unfold Oper.wp at h;have key:∀Gz:Result Next,o.upon P a next Q Gz->o.uponIn (Jv ro) 0 P a next Q Gz:=fun Gz h=>by
  cases Gz with
  |ok n w'=>cases n with
   |enter f args=>exact(show(_->_)/\CallsIn (Jv ro) 0 P f args w' _ from⟨fun e=>by(cases e),callsIn_wide.2 h⟩)
   |row r args=>exact(show(_->_)/\RowsIn (Jv ro) 0 P r args w' _ from⟨fun e=>by(cases e),fun c cs _=>by
     obtain⟨v,dj,r',s⟩:=h c cs;exact⟨v,dj,r',stepsIn_wide.2 s⟩⟩)
   |round _ _ _ _ _=>exact h.elim
   |_=>exact h
  |halt x w'=>cases x<;>exact h
 simp_all
theorem GI{f:Nat}{args:Array Value}(h:GM P f)(w:World):(callFunc f args).run P w=.ok (.enter f args) w:=by
 obtain⟨fn,h1,h2,h3⟩:=h<;>grind [callFunc,Sem.run_bind,run_program,Result.andThen_ok,Sem.run_pure]
theorem To{h:Nat->HO}{a:AV}(ha:cM a=true):ren (Cp []) h a=str h a:=by
 have h0:∀a,ren0 (Cp []) h a=str0 h a:=fun a=>by
  cases a with
  |slice tk es=>cases tk<;>rfl
  |_=>rfl
 cases a with
 |tup cs=>cases ha
 |agg cs=>show AV.agg _=AV.agg _;simp_all
 |clo f cs=>show AV.clo f _=AV.clo f _;simp_all
 |v x=>exact h0 (.v x)
 |slice tk es=>exact h0 (.slice tk es)
 |msl r n=>exact h0 (.msl r n)
 |cptr cs=>exact h0 (.cptr cs)
 |ref r o=>exact h0 (.ref r o)
 |eref r n sz i o=>exact h0 (.eref r n sz i o)
 |mref r=>exact h0 (.mref r)
 |cmap sh l=>exact h0 (.cmap sh l)
 |junk=>rfl
theorem PU{h:Nat->HO}:∀{l:List AV},S9 l=true->l.map (ren (Cp []) h)=l.map (str h)
 | [],_=>rfl
 |a::l,e=>by
  unfold S9 at e;split at e
  .rename_i e1;rw[BU,BU,To e1,PU e]
  simp_all
theorem Qh:∀{l:List AV} {vs:List Value},VD l=some vs->l=vs.map .v
 | [],vs,h=>by cases h;rfl
 |.v x::r,vs,h=>by
  unfold VD at h;split at h
  .rename_i l e;cases h;rw[BU,<-Qh e]
  simp_all
theorem dP{d:Option Nat}{st:St}{F:AV}{args:List AV}(hk:Gt cx true d st F args K):Gt cx false d st F args K:=by
 unfold Gt at hk;simp only at hk;split at hk
 .exact⟨.pure,hk⟩
 .split at hk
  .simp_all
  .rename_i d _;obtain⟨n,sz,es,h1,h2,h3⟩:=hk;simp only[Au]at h1;refine⟨.gen [] 1,?_⟩;show(D3 []&&DO st.h d 1&&CI [] d 1)=true/\_;refine⟨by grind [D3,CI],?_⟩;rw[To h1.1.2,PU h1.2];show F2 cx.P (fun l=>cx.yp l []) _ _ Af _;refine F2.imp h2 ?_
   rintro r h' ⟨e2,e3⟩
   subst e2;subst e3;have e1:ren (FD [] d 1) (Ar [(2000,.arr sz es)] Af) (.msl 2000 n)=.msl (BG d 0) n:=rfl;have e2:EF [] d 1 st.h (Ar [(2000,.arr sz es)] Af)=AJ st.h (BG d 0) (.arr sz es):=by
    funext i
    by_cases e:i=BG d 0
    .subst e;rw[AX];have hb:(Nat.ble (BG d 0) (BG d 0)&&Nat.blt (BG d 0) (BG d 1))=true:=by
      grind [BG,Nat.ble_eq,Nat.blt_eq]
     simp only[EF,Cp,hb,Io];rfl
    grind [BK,BG,Nat.ble_eq,Nat.blt_eq,EF,Cp]
   simp_all
 .split at hk
  .unfold W6 at hk;split at hk
   .simp_all
   .rename_i d _;obtain⟨sz,es,h1,h2,h3⟩:=hk;simp only[Au]at h1;refine⟨.gen [] 1,?_⟩;show(D3 []&&DO st.h d 1&&CI [] d 1)=true/\_;refine⟨by grind [D3,CI],?_⟩;rw[To h1.1.2,PU h1.2];show F2 cx.P (fun l=>cx.yp l []) _ _ Af _;refine F2.imp h2 ?_
    rintro r h' ⟨e2,e3⟩
    subst e2;subst e3;have e1:ren (FD [] d 1) (Ar [(2000,.tok sz es.length)] Af) (.slice (.id 2000 sz) es)=.slice (.id (BG d 0) sz) es:=rfl;have e2:EF [] d 1 st.h (Ar [(2000,.tok sz es.length)] Af)=AJ st.h (BG d 0) (.tok sz es.length):=by
     funext i
     by_cases e:i=BG d 0
     .subst e;rw[AX];have hb:(Nat.ble (BG d 0) (BG d 0)&&Nat.blt (BG d 0) (BG d 1))=true:=by
       grind [BG,Nat.ble_eq,Nat.blt_eq]
      simp only[EF,Cp,hb,Io];rfl
     grind [BK,BG,Nat.ble_eq,Nat.blt_eq,EF,Cp]
    simp_all
  split at hk
  .unfold TN at hk;split at hk
   .rename_i d l vs e2 z1;have hl:=Qh e2;split at hk
    .rename_i r sz es dh n e3 e4;obtain⟨⟨rfl,rfl⟩,v,F6,n',h1,h2⟩:=hk;refine⟨.gen [(1000,1000),(1001,1001)] 0,?_⟩;show(D3 [(1000,1000),(1001,1001)]&&DO st.h d 0&&CI [(1000,1000),(1001,1001)] d 0)=true/\_;refine⟨?_,?_⟩
     .have:CI [(1000,1000),(1001,1001)] d 0=true:=by
       grind [Nat.ble_eq,Nat.blt_eq,CI]
      rw[this];rfl
     have f1:args.map (ren (Cp [(1000,1000),(1001,1001)]) st.h)=vs.map .v:=by rw[hl,Cf];rfl
     have f2:F8 [(1000,1000),(1001,1001)] st.h=Ar [(1000,.cells [.slice (.id 1001 dh) es]),(1001,.tok dh n)] Af:=by
      unfold F8 Zd Zd Zd;rw[e3,e4];rfl
     rw[f1,f2];refine J7.imp h1 ?_
     rintro r h' ⟨g1,g2⟩
     subst g1;subst g2;have f3:EF [(1000,1000),(1001,1001)] d 0 st.h (Ar [(1000,.cells [.slice (.id 1001 dh) F6]),(1001,.tok dh n')] Af)=AJ (AJ st.h 1001 (.tok dh n')) 1000 (.cells [.slice (.id 1001 dh) F6]):=by
      funext i
      by_cases e:i=1000
      .subst e;rw[AX];rfl
      .rw[BK _ _ _ _ e]
       by_cases e' : i=1001
       .subst e';rw[AX];rfl
       .rw[BK _ _ _ _ e'];have hn:Cp [(1000,1000),(1001,1001)] i=none:=by simp[Cp,Ds (Ne.symm e),Ds (Ne.symm e')]
        have:(Nat.ble (BG d 0) i&&Nat.blt i (BG d 0))=false:=by
         grind [Nat.ble_eq,Nat.blt_eq]
        grind [EF]
     rw[f3];exact h2
    simp_all
   simp_all
  unfold QL at hk;split at hk
  .unfold Ya at hk;split at hk
   .rename_i d f caps pE _;obtain⟨σ,H0,Hn,args',Gz,g1,g2,g3,g4⟩:=hk;simp only[Au]at g2;obtain⟨k1,k2⟩:=g1 st.h fun _ _=>rfl;refine⟨.gen σ 0,?_⟩;show(D3 σ&&DO st.h d 0&&CI σ d 0)=true/\_;refine⟨by rw[g2.1.1,g2.1.2];rfl,?_⟩;have key:F2 cx.P (fun l=>cx.yp l σ) (ren (Cp σ) st.h F) (args.map (ren (Cp σ) st.h)) (Ar H0 Af) (fun r h'=>r=Gz/\h'=Ar Hn Af):=by
     rw[<-k2]at g3;unfold jj at pE;split at pE
     .cases pE
      rw[Fx,BC]at g3;exact g3
     .cases pE
      exact g3
     simp_all
    grind [F2.imp]
   simp_all
  unfold QS at hk;split at hk
  .rename_i dd f r n l _;split at hk
   .rename_i vs cD;have hl:=Qh cD;subst hl;split at hk
    .rename_i sz es hr;have hf:Cp [(r,1000)] r=some 1000:=by simp[Cp]
     have e1:ren (Cp [(r,1000)]) st.h (.v (.func (.func f) ⟨[]⟩ ⟨[]⟩))=.v (.func (.func f) ⟨[]⟩ ⟨[]⟩):=rfl;have e2:(AV.msl r n::vs.map AV.v).map (ren (Cp [(r,1000)]) st.h)=.msl 1000 n::vs.map .v:=by
      rw[BU]
      congr 1
      .grind [ren,ren1,ren0]
      .rw[Cf];rfl
     have e3:F8 [(r,1000)] st.h=Ar [(1000,.arr sz es)] Af:=by
      unfold F8 Zd;rw[hr];rfl
     split at hk
     .obtain⟨n',F6,h1,h2⟩:=hk;refine⟨.gen [(r,1000)] 0,?_⟩;show(D3 [(r,1000)]&&DO st.h dd 0&&CI [(r,1000)] dd 0)=true/\_;refine⟨?_,?_⟩
      .have:CI [(r,1000)] dd 0=true:=by
        grind [CI,Nat.ble_eq,Nat.blt_eq]
       rw[this];rfl
      rw[e1,e2,e3];refine⟨h1.1,fun g w vals q1 q2 q3=>(h1.2 g w vals q1 q2 q3).mono fun _ _ ⟨v,r',h',g',e1,⟨e2,e3⟩,rest⟩=>⟨v,r',h',g',e1,?_,rest⟩⟩;subst e2;subst e3;have f1:ren (FD [(r,1000)] dd 0) (Ar [(1000,.arr sz F6)] Af) (.msl 1000 n')=.msl r n':=rfl;have f2:EF [(r,1000)] dd 0 st.h (Ar [(1000,.arr sz F6)] Af)=AJ st.h r (.arr sz F6):=by
       funext i
       by_cases e:i=r
       .grind [AX,EF,Ar,HO.ren,Nat.beq_refl]
       .rw[BK _ _ _ _ e];have hn:Cp [(r,1000)] i=none:=by grind [Cp,Ds]
        have:(Nat.ble (BG dd 0) i&&Nat.blt i (BG dd 0))=false:=by
         grind [Nat.ble_eq,Nat.blt_eq]
        grind [EF]
      simp_all
     .obtain⟨n',F6,h0,h1,h2⟩:=hk;simp only[Au,Ia,J3]at h0;have hrd:r≠BG dd 0:=fun e=>by simp_all
      refine⟨.gen [(r,1000)] 1,?_⟩;show(D3 [(r,1000)]&&DO st.h dd 1&&CI [(r,1000)] dd 1)=true/\_;refine⟨?_,?_⟩
      .have:CI [(r,1000)] dd 1=true:=by
        grind [CI,BG,Nat.ble_eq,Nat.blt_eq]
       rw[this,h0.1.1];rfl
      rw[e1,e2,e3];refine⟨h1.1,fun g w vals q1 q2 q3=>(h1.2 g w vals q1 q2 q3).mono fun _ _ ⟨v,r',h',g',e1,⟨e2,e3⟩,rest⟩=>⟨v,r',h',g',e1,?_,rest⟩⟩;subst e2;subst e3;have f1:ren (FD [(r,1000)] dd 1) (Ar [(1000,.dead),(2000,.arr sz F6)] Af) (.msl 2000 n')=.msl (BG dd 0) n':=rfl;have f2:EF [(r,1000)] dd 1 st.h (Ar [(1000,.dead),(2000,.arr sz F6)] Af)=AJ (AJ st.h r .dead) (BG dd 0) (.arr sz F6):=by
       funext i
       by_cases e:i=BG dd 0
       .subst e;rw[AX];have hn:Cp [(r,1000)] (BG dd 0)=none:=by grind [Cp]
        have hb:(Nat.ble (BG dd 0) (BG dd 0)&&Nat.blt (BG dd 0) (BG dd 1))=true:=by
         grind [BG,Nat.ble_eq,Nat.blt_eq]
        simp only[EF,hn,hb,Io];rfl
       .rw[BK _ _ _ _ e]
        by_cases e4:i=r
        .grind [AX,EF,Ar,HO.ren,Nat.beq_refl]
        .rw[BK _ _ _ _ e4];have hn:Cp [(r,1000)] i=none:=by grind [Cp,Ds]
         have:(Nat.ble (BG dd 0) i&&Nat.blt i (BG dd 1))=false:=by
          grind [Nat.ble_eq,Nat.blt_eq,BG]
         grind [EF]
      simp_all
    simp_all
   simp_all
  simp_all
theorem iC{d:Option Nat}{f:Operand}{dst:Option Nat}{ty:Nat}{gd:Option (Nat×Bool)}{next:Act->World->Prop}{Q:Exit->Act->World->Prop}(hP:cx.P=P)(hY:∀l σ h g w,D3 σ=true->Cv w0 g0 h0 h g w->Le h0 g0 w0 h g w->cx.yp l σ (DE σ g) w){ro:Option Nat}(hS:SR N ds w0 g0 h0 st g a w)(hk:Gt cx dr d st (ev st.t f) (args.toList.map (ev st.t)) K)(hn:ZH w0 g0 h0 st.h g w K fun x w'=>next (a.put dst x) w'):Oper.wpIn (Jv ro) 0 P ⟨dst,.call ⟨.value f,args,G0⟩,ty,pos,after,gd⟩ a w next Q:=by
 subst hP;have hk:Gt cx false d st (ev st.t f) (args.toList.map (ev st.t)) K:=by
  cases dr<;>grind [dP]
 have Lc:∀(i:Nat) (av:AV) (x:Value),((args.toList.map (ev st.t)).map (str st.h))[i]?=some av->(args.map a.eval)[i]?=some x->A5 g w EZ av x:=by
  intro i av x h1 h2;rw[BX,BX]at h1;rw[Array.getElem?_map]at h2;cases ho:args[i]? with
  |none=>simp_all
  |some y=>
   rw[ho]at h2;have hy:args.toList[i]?=some y:=by simp_all
   rw[hy]at h1;simp only[Option.map_some,Dr]at h1 h2;subst h1;subst h2;exact A5.str hS.inv.objs (hS.eval y)
 have Cy:(args.map a.eval).size=((args.toList.map (ev st.t)).map (str st.h)).length:=by simp
 have hF:=A5.str hS.inv.objs (hS.eval f)
 -- a call of yield
 have yl:∀(l:Nat) (R:Ending->World->Prop),a.eval f=.func (.yield l) #[] #[]->YieldAt Fence.wide 0 cx.P l (args.map a.eval) w R->(∀e w',R e w'->∃v,e=.returned v/\next (a.put dst v) w') ->
   Oper.wpIn (Jv ro) 0 cx.P ⟨dst,.call ⟨.value f,args,G0⟩,ty,pos,after,gd⟩ a w next Q:=by
  rintro l R hx ⟨fn,tm,GO,bd,h1,h2⟩ hR
  refine⟨fun _ _=>trivial,?_⟩;have e:(⟨dst,.call ⟨.value f,args,G0⟩,ty,pos,after,gd⟩:Oper).semAt (Jv ro).round a.eval=execOp a.eval ⟨dst,.call ⟨.value f,args,G0⟩,ty,pos,after,gd⟩:=Oper.semAt_eq ro a.eval _ (fun c e=>by cases e);have Cm:(execOp a.eval ⟨dst,.call ⟨.value f,args,G0⟩,ty,pos,after,gd⟩).run cx.P w=.ok (.round l fn tm GO bd) w:=by
   grind [execOp,resolve,Deferred.ofValue,invoke]
  rw[e,Cm];refine(show(_->_)/\RoundIn (Jv ro) 0 cx.P l fn tm GO bd w _ from⟨fun e=>by(cases e),RoundIn.mono h2 fun e w' h=>?_⟩)
  grind
 -- the call itself
 have go:∀(Q' : AV->(Nat->HO)->Prop),(∀r h',Q' r h'->h'=Af/\K r st.h)->F2 cx.P (fun _ _ _=>True) (str st.h (ev st.t f)) ((args.toList.map (ev st.t)).map (str st.h)) Af Q' ->
   Oper.wpIn (Jv ro) 0 cx.P ⟨dst,.call ⟨.value f,args,G0⟩,ty,pos,after,gd⟩ a w next Q:=by
  intro Q' hQ hc
  have fin:∀{fn:Nat} {l:List AV} {vals:Array Value},Cq cx.P fn l Af Q'->vals.size=l.length->(∀(i:Nat) (av:AV) (x:Value),l[i]?=some av->vals[i]?=some x->A5 g w EZ av x) ->
    (execOp a.eval ⟨dst,.call ⟨.value f,args,G0⟩,ty,pos,after,gd⟩).run cx.P w=.ok (.enter fn vals) w->Oper.wpIn (Jv ro) 0 cx.P ⟨dst,.call ⟨.value f,args,G0⟩,ty,pos,after,gd⟩ a w next Q:=by
   intro fn l vals hc hs hv Cm;refine MH (fun c e=>by cases e) ?_;unfold Oper.wp;rw[Cm];exact dQ hS.inv hc hs hv (fun v r h' g' w' hq _ hI HB hr=>hn r _ g' w' v (hQ r h' hq).2 hI HB (hr.up _)) (fun r h' hq=>(hQ r h' hq).1)
  unfold F2 at hc;split at hc
  .rename_i fn e;rw[e]at hF;have hx:=hF.v_eq;refine fin hc Cy Lc ?_;have Q0 : a.eval f=.func (.func fn) #[] #[]:=hx;simp only[execOp,resolve,Q0,Deferred.ofValue,Sem.run_bind,Sem.run_pure,Result.andThen_ok,invoke];rw[GI hc.1];simp
  .rename_i fn caps e;rw[e]at hF;generalize hx:a.eval f=fv at hF;cases hF with
   |clo _ _ _ vs FM NC=>
    refine fin hc (vals:=args.map a.eval++vs) (by simp_all) (fun i av x h1 h2=>?_) ?_
    .grind
    .simp only[execOp,resolve,hx,Deferred.ofValue,Sem.run_bind,Sem.run_pure,Result.andThen_ok,invoke];rw[GI hc.1];simp
  .rename_i l e;rw[e]at hF;have hU:used Af=EZ:=by grind [used,EZ,Af]
   refine yl l _ hF.v_eq (RK (C:=YieldAt Fence.wide 0 cx.P l (args.map a.eval) w) (R:=fun e w'=>∃v,e=.returned v/\next (a.put dst v) w') YieldAt.imp hS.inv (fun nF=>hc g w _ Cy (fun i av x h1 h2=>by grind) nF trivial)
    (fun v r h' g' w' hq _ hI HB hr=>⟨v,rfl,hn r _ g' w' v (hQ r h' hq).2 hI HB (hr.up _)⟩) (fun r h' hq=>(hQ r h' hq).1)) fun _ _ h=>h
  simp_all
 have pure:(∃Gz,Ph cx.P (str st.h (ev st.t f)) ((args.toList.map (ev st.t)).map (str st.h)) Gz/\K Gz st.h)->Oper.wpIn (Jv ro) 0 cx.P ⟨dst,.call ⟨.value f,args,G0⟩,ty,pos,after,gd⟩ a w next Q:=by
  rintro⟨Gz,h1,h2⟩
  refine go (fun r h'=>r=Gz/\h'=Af) (fun r h' hq=>⟨hq.2,by simp_all⟩) ?_;unfold Ph at h1;unfold F2;split at h1
  .rename_i fn e;rw[e];exact h1
  .rename_i fn caps e;rw[e];exact h1
  simp_all
 unfold Gt at hk
 .obtain⟨m,hm⟩:=hk;cases m with
  |pure=>grind
  |rel=>grind
  |gen σ nn=>
   simp only at hm;cases d with
   |none=>simp_all
   |some d=>
    simp only at hm;obtain⟨Qw,hc⟩:=hm;have hσ:D3 σ=true:=by simp_all
    obtain⟨hR,_⟩:=Wk hS.inv hσ;have jw:=(hS.eval f).ren hR;have aA:∀(i:Nat) (av:AV) (x:Value),((args.toList.map (ev st.t)).map (ren (Cp σ) st.h))[i]?=some av->(args.map a.eval)[i]?=some x->A5 (DE σ g) w (used (F8 σ st.h)) av x:=by
     grind [A5.ren,SR.eval]
    have UP:(args.map a.eval).size=((args.toList.map (ev st.t)).map (ren (Cp σ) st.h)).length:=by simp
    have fin:∀{fn:Nat} {l:List AV} {vals:Array Value},Cq cx.P fn l (F8 σ st.h) (fun r h'=>K (ren (FD σ d nn) h' r) (EF σ d nn st.h h'))->vals.size=l.length ->
      (∀(i:Nat) (av:AV) (x:Value),l[i]?=some av->vals[i]?=some x->A5 (DE σ g) w (used (F8 σ st.h)) av x) ->
      (execOp a.eval ⟨dst,.call ⟨.value f,args,G0⟩,ty,pos,after,gd⟩).run cx.P w=.ok (.enter fn vals) w->Oper.wpIn (Jv ro) 0 cx.P ⟨dst,.call ⟨.value f,args,G0⟩,ty,pos,after,gd⟩ a w next Q:=by
     intro fn l vals hc hs hv Cm;refine MH (fun c e=>by cases e) ?_;unfold Oper.wp;rw[Cm];exact iD hS.inv Qw hc hs hv (fun v r h' g' w' hq hI HB hr=>hn _ _ g' w' v hq hI HB hr)
    unfold F2 at hc;split at hc
    .rename_i fn e;rw[e]at jw;have hx:a.eval f=.func (.func fn) #[] #[]:=jw.v_eq;refine fin hc UP aA ?_;simp only[execOp,resolve,hx,Deferred.ofValue,Sem.run_bind,Sem.run_pure,Result.andThen_ok,invoke];rw[GI hc.1];simp
    .rename_i fn caps e;rw[e]at jw;generalize hx:a.eval f=fv at jw;cases jw with
     |clo _ _ _ vs FM NC=>
      refine fin hc (vals:=args.map a.eval++vs) (by simp_all) (fun i av x h1 h2=>?_) ?_
      .grind
      .simp only[execOp,resolve,hx,Deferred.ofValue,Sem.run_bind,Sem.run_pure,Result.andThen_ok,invoke];rw[GI hc.1];simp
    .rename_i l e;rw[e]at jw
     exact yl l _ jw.v_eq (Mo (C:=YieldAt Fence.wide 0 cx.P l (args.map a.eval) w) (R:=fun e w'=>∃v,e=.returned v/\next (a.put dst v) w') YieldAt.imp hS.inv Qw (fun nF=>hc (DE σ g) w _ UP aA nF (hY l σ _ _ _ hσ hS.inv hS.le))
      (fun v r h' g' w' hq hI HB hr=>⟨v,rfl,hn _ _ g' w' v hq hI HB hr⟩)) fun _ _ h=>h
    simp_all
  |geny σ nn=>
   simp only at hm;cases d with
   |none=>simp_all
   |some d=>
    simp only at hm;obtain⟨Qw,hc⟩:=hm;have hσ:D3 σ=true:=by simp_all
    obtain⟨hR,_⟩:=Wk hS.inv hσ;have jw:=(hS.eval f).ren hR;have aA:∀(i:Nat) (av:AV) (x:Value),((args.toList.map (ev st.t)).map (ren (Cp σ) st.h))[i]?=some av->(args.map a.eval)[i]?=some x->A5 (DE σ g) w (used (F8 σ st.h)) av x:=by
     grind [A5.ren,SR.eval]
    have UP:(args.map a.eval).size=((args.toList.map (ev st.t)).map (ren (Cp σ) st.h)).length:=by simp
    split at hc
    .rename_i fn caps e;rw[e]at jw;generalize hx:a.eval f=fv at jw;cases jw with
     |clo _ _ _ vs FM NC=>
      have Cm:(execOp a.eval ⟨dst,.call ⟨.value f,args,G0⟩,ty,pos,after,gd⟩).run cx.P w=.ok (.enter fn (args.map a.eval++vs)) w:=by
       simp only[execOp,resolve,hx,Deferred.ofValue,Sem.run_bind,Sem.run_pure,Result.andThen_ok,invoke];rw[GI hc.1];simp
      refine MH (fun c e=>by cases e) ?_;unfold Oper.wp;rw[Cm];refine Mo (C:=Calls cx.P fn (args.map a.eval++vs) w) (fun h k=>h.mono k) hS.inv Qw (fun nF=>hc.2 (DE σ g) w _ (by simp_all) (fun i av x h1 h2=>?_) nF (fun l=>hY l σ _ _ _ hσ hS.inv hS.le)) (fun v r h' g' w' hq hI HB hr=>hn _ _ g' w' v hq hI HB hr)
      grind
    simp_all
end
section
variable {P:Program}{N:Nat}{ds:List Deferred}{w0:World}{g0:Gh}{h0:Nat->HO}{st:St}{g:Gh}{a:Act}{w:World}
theorem XL(hT:BY P cx.T){b:Builtin}{dst:Option Nat}{ty:Nat}{gd:Option (Nat×Bool)}{next:Act->World->Prop}{Q:Exit->Act->World->Prop}(hS:SR N ds w0 g0 h0 st g a w)(hk:FR cx dst st.h b G0.toList (args.toList.map (ev st.t)) K)(hn:ZH w0 g0 h0 st.h g w K fun x w'=>next (a.put dst x) w'):Oper.wp P ⟨dst,.call ⟨.builtin b,args,G0⟩,ty,pos,after,gd⟩ a w next Q:=by
 have hI:=hS.inv;have hE:=hS.eval;obtain⟨l⟩:=args;obtain⟨tl⟩:=G0;unfold FR at hk;split at hk
 .rename_i x t e1 e2
  match l,e1 with
  | [y],e1=>
   simp only[BU,Fx,MQ,and_true]at e1;subst e1;simp only at e2;subst e2;exact Dw (m:=Builtin.len_ #[t] ty #[a.eval y]) (by simp[execOp,resolve,invoke,builtin]) (Bp.does hI (ks hT hI.objs (hE y) hk)) hn
 .rename_i s x t t' e1 e2
  match l,e1 with
  | [y,z],e1=>
   simp only[BU,Fx,MQ,and_true]at e1;obtain⟨rfl,rfl⟩:=e1;simp only at e2;subst e2;split at hk
   .rename_i ht;obtain rfl:=AT ht;exact Dw (m:=Builtin.append_ #[t,t] ty #[a.eval y,a.eval z]) (by simp[execOp,resolve,invoke,builtin]) (ZM hI hT (hE y) (hE z) hk) hn
   simp_all
 .rename_i x y G0 e1
  match l,e1 with
  | [y,z],e1=>
   simp only[BU,Fx,MQ,and_true]at e1;obtain⟨rfl,rfl⟩:=e1;exact Dw (m:=Builtin.max_ ⟨tl⟩ ty #[a.eval y,a.eval z]) (by simp[execOp,resolve,invoke,builtin]) (Bp.does hI (ov (hE y) (hE z) hk)) hn
 .rename_i x y G0 e1
  match l,e1 with
  | [y,z],e1=>
   simp only[BU,Fx,MQ,and_true]at e1;obtain⟨rfl,rfl⟩:=e1;exact Dw (m:=Builtin.min_ ⟨tl⟩ ty #[a.eval y,a.eval z]) (by simp[execOp,resolve,invoke,builtin]) (Bp.does hI (oy (hE y) (hE z) hk)) hn
 simp_all
theorem mr(hT:BY P cx.T){next:Act->World->Prop}{Q:Exit->Act->World->Prop}(hS:SR N ds w0 g0 h0 st g a w)(hk:FL cx dr o st K)(hv:∀f args G0,o.op≠.call ⟨.value f,args,G0⟩)(hn:ZH w0 g0 h0 st.h g w K fun x w'=>next (a.put o.dst x) w'):o.wp P a w next Q:=by
 have hI:=hS.inv;have hE:=hS.eval;obtain⟨dst,op,ty,pos,after,gd⟩:=o;unfold FL at hk;cases op with
 |move x=>exact dk hI (x:=a.eval x) rfl hk (hE x) hn
 |assign x=>
  obtain⟨g',av,h',q1,q2,q3,q4⟩:=ZO hI (hE x) hk;exact hn _ _ _ _ _ q1 q2 q3 q4
 |pick c x y=>exact Dw (m:=do pure (if <-asBool (a.eval c)then a.eval x else a.eval y)) (by simp[execOp]) (Bp.does hI (kX (hE c) (hE x) (hE y) hk)) hn
 |alloc e=>exact Dw rfl (dv hI hT hk) hn
 |box e x=>exact Dw rfl (mF hI (hE x) hk) hn
 |build t ps=>exact Dw rfl (Bp.does hI (dK hT hE hk)) hn
 |buildSlice t n ps=>exact Dw rfl (RJ hI hT hE hk) hn
 |insert t m k x=>exact Xa rfl (Na hI hT (hE m) (hE k) (hE x) hk) hn
 |load t x=>exact Dw rfl (Bp.does hI (U3 hI.objs hT (hE x) hk)) hn
 |store t p x=>exact Xa rfl (gI hI hT (hE p) (hE x) hk) hn
 |nilCheck x=>
  obtain⟨h1,h2⟩:=WN (P:=P) (w:=w) (hE x) hk (pos:=pos) (after:=after) (gd:=gd) (dst:=dst) (ty:=ty) (ρ:=a.eval) rfl<;>grind [dk]
 |binOp op t x y u=>exact Dw rfl (Bp.does hI (iu hT (hE x) (hE y) (fun v e=>by subst e;rfl) hk)) hn
 |unOp op t x=>exact Dw rfl (Bp.does hI (lO (hE x) hk)) hn
 |convert s t x=>
  cases dr with
  |true=>exact Dw rfl (Bp.does hI (XU hT (hE x) hk)) hn
  |false=>exact Dw rfl (dX hI hT (hE x) hk) hn
 |makeFunc fn first cap=>exact Dw rfl (Bp.does hI (WK hI.objs hE hk)) hn
 |makeMap t r=>
  cases r with
  |some r=>simp_all
  |none=>exact Dw rfl (YL hI hk) hn
 |makeSlice t n c=>exact Dw rfl (T9 hI hT (hE n) (hE c) hk) hn
 |slice t x lo hi mx=>
  cases dr with
  |true=>
   cases hp:RC cx.pl.tok dst with
   |none=>
    have hk' : H2 cx dst st.h t (ev st.t x) (Ct st.t lo) (Ct st.t hi) (Ct st.t mx) K:=by
     simp_all
    exact Dw rfl (Vr hI hT hE (hE x) hk') hn
   |some _=>
    have hk' : Tg cx dst st.h t (ev st.t x) lo (Ct st.t hi) mx K:=by
     simp_all
    unfold Tg at hk';split at hk'
    .exact Dw rfl (cW hI hT hE (hE x) hk') hn
    simp_all
  |false=>
   cases hp:RC cx.pl.tok dst with
   |none=>
    have hk' : H2 cx dst st.h t (ev st.t x) (Ct st.t lo) (Ct st.t hi) (Ct st.t mx) K:=by
     simp_all
    exact Dw rfl (Vr hI hT hE (hE x) hk') hn
   |some _=>
    have hk' : ls cx dst st.h t (ev st.t x) st.t lo hi mx K:=by
     simp_all
    cases lo with
    |some lo=>exact Dw rfl (Ze hI hT hE (hE x) hk') hn
    |none=>
     unfold ls at hk';dsimp only at hk';split at hk'
     .exact Dw rfl (Bp.does hI (dB hI.objs hT (hE x) hk')) hn
     .unfold Tg at hk';split at hk'
      .exact Dw rfl (cW hI hT hE (hE x) hk') hn
      simp_all
 |fieldAddr s x f=>exact Dw rfl (Bp.does hI (eG hT (hE x) hk)) hn
 |field s x f=>exact Dw rfl (Bp.does hI (ap hT (hE x) hk)) hn
 |indexAddr t x i=>exact Dw rfl (Bp.does hI (T4 hT (hE x) (hE i) hk)) hn
 |index t x i=>exact Dw rfl (Bp.does hI (fk hT (hE x) (hE i) hk)) hn
 |lookup t x i ok=>
  have hk:MD cx.T st.h t (ev st.t x) (ev st.t i) ok fun v=>K v st.h:=by
   grind [fy]
  exact Dw rfl (Bp.does hI (aX hT hI.objs (hE x) (hE i) hk)) hn
 |mapUpdate t m k x=>exact Xa rfl (Na hI hT (hE m) (hE k) (hE x) hk) hn
 |range t x=>
  simp only at hk;split at hk
  .rename_i kt e ht;exact Dw rfl (gi hI hT ht (hE x) hk) hn
  simp_all
 |next it s=>
  cases s with
  |true=>simp_all
  |false=>exact Dw rfl (kK hI (hE it) hk) hn
 |entry it=>exact Dw rfl (Bp.does hI (eE hI.objs (hE it) hk)) hn
 |extract x i=>exact Dw rfl (Bp.does hI (X2 (hE x) hk)) hn
 |call c=>
  obtain⟨ss,args,G0⟩:=c<;>grind [XL]
 |_=>simp_all
theorem ik(hP:cx.P=P)(hY:∀l σ h g w,D3 σ=true->Cv w0 g0 h0 h g w->Le h0 g0 w0 h g w->cx.yp l σ (DE σ g) w){ro:Option Nat}(hT:BY P cx.T){next:Act->World->Prop}{Q:Exit->Act->World->Prop}(hS:SR N ds w0 g0 h0 st g a w)(hk:FL cx dr o st K)(hn:ZH w0 g0 h0 st.h g w K fun x w'=>next (a.put o.dst x) w'):o.wpIn (Jv ro) 0 P a w next Q:=by
 by_cases hv:∃f args G0,o.op=.call ⟨.value f,args,G0⟩
 .obtain⟨f,args,G0,e⟩:=hv;obtain⟨dst,op,ty,pos,after,gd⟩:=o;cases e;exact iC hP hY hS hk hn
 .refine MH (fun c e=>?_) (mr hT hS hk (fun f args G0 e=>hv ⟨f,args,G0,e⟩) hn);obtain⟨dst,op,ty,pos,after,gd⟩:=o;cases e;exact hk.elim
theorem vM{p:Nat->Prop}(h:∃n,p n):∃n,p n/\∀m,m<n->¬p m:=by
 apply AQ;intro hc
 have:∀n,¬p n:=fun n=>by
  induction n using Nat.strongRecOn<;>grind [Nat.strongRecOn]
 simp_all
theorem Q4{m:Nat}{c:Code}{Q:Exit->Act->World->Prop}(I:Nat->Act->World->Prop)(k:Nat)(h0:I k a w)(round:∀n a w,I n a w->c.wpIn F m P (Exit.then (fun a' w'=>∃n',n' < n/\I n' a' w') Q) a w):(Code.loop c).wpIn F m P Q a w:=by
 classical
 have hex:∀a w,(∃n,I n a w)->∃n,I n a w/\∀n',n' < n->¬I n' a w:=fun a w h=>vM h;refine wpIn_loop (fun a w=>∃n,I n a w) (fun a w=>if h:∃n,I n a w then(hex a w h).choose else 0) ⟨k,h0⟩ fun a w h=>?_;have hs:=(hex a w h).choose_spec;refine wpIn_mono (round _ a w hs.1) fun e a' w' q=>?_;cases e with
 |normal=>
  obtain⟨n',Fp,hn⟩:=q;have h' : ∃n,I n a' w':=⟨n',hn⟩;refine⟨h',?_⟩
  grind
 |_=>exact q
end
section
variable {P:Program}{N:Nat}{ds:List Deferred}{w0:World}{g0:Gh}{h0:Nat->HO}{st:St}{g:Gh}{a:Act}{w:World}
theorem dU(hT:BY P T){ty e k ty2 b o n c:Nat}(ht:(T ty).d=.slice e)(hk:(T e).size=k+1)(hz:(T e).zc.length=k+1)(Wz:∀v∈(T e).zc,v.oneCell'=true){D1:Array Value}{E:TypeId}(hb:w.heap[b]?=some (.cells D1 E (0,0)))(hn:0<n)(HB:o+n*(k+1)<=D1.size) :
  (Builtin.clear_ #[ty] ty2 #[.slice (some ⟨b,o,none⟩) n c]).run P w=.ok (.tuple #[]) (w.setRow b (over D1.toList o (List.replicate n (T e).zc).flatten).toArray):=by
 obtain⟨z,z1,z2⟩:=VH (w:=w) hT hk;have ry:(T e).zc≠[]:=fun e0=>by simp_all
 have rm:(Builtin.zeroCells z.cells n).toList=(List.replicate n (T e).zc).flatten:=by
  rw[HG n _ ry,hz,z2];have e6:z.cells.size=k+1:=by simp_all
  unfold Builtin.zeroCells;simp[e6,Array.getElem!_eq_getD]
 have Cy:(List.replicate n (T e).zc).flatten.length=n*(k+1):=by
  simp_all
 have IC:=run_storeCells_at P b o E (List.replicate n (T e).zc).flatten 0 D1 w hb aa0 (fun v hv=>by
  grind [List.mem_flatten])
 simp only[Hl]at IC;rw[MJ _ _ _ (by simp_all)];obtain⟨m,rfl⟩:∃m,n=m+1:=⟨n-1,by omega⟩;simp only[Builtin.clear_,Sem.run_bind,List.getElem?_toArray,Ea,run_underlying (hT.slice ht),Result.andThen_ok,z1,rm,IC,Sem.run_pure]
theorem ZZ(hT:BY P T){ty e ty2 c:Nat}(ht:(T ty).d=.slice e)(x:Option Addr) :
  (Builtin.clear_ #[ty] ty2 #[.slice x 0 c]).run P w=.ok (.tuple #[]) w:=by
 cases x<;>simp only[Builtin.clear_,Sem.run_bind,List.getElem?_toArray,Ea,run_underlying (hT.slice ht),Result.andThen_ok,Sem.run_pure]
theorem lk{d:Nat}(hd:d<a.tmps.size):(a.put (some d) x).eval (.tmp d)=x:=by
 show(a.tmps.setIfInBounds d x).getD d undef=x;simp_all
theorem j5(h:Nat->HO)(r:Nat):AJ h r (h r)=h:=funext fun i=>by
 grind [AX,BK]
theorem aT(h:Yx o o2=true):∃ty x lo d ty2 pos after sb oL VN,o=⟨some d,.slice ty x (some lo) none none,ty2,pos,after,none⟩/\o2=⟨none,.call ⟨.builtin .clear,#[.tmp d],#[ty]⟩,sb,oL,VN,none⟩:=by
 obtain⟨dst,op,t2,p1,a1,gd⟩:=o;obtain⟨AdM,op2,t3,p2,a2,gd2⟩:=o2;unfold Yx at h;split at h
 .rename_i c e1;split at h
  .rename_i e2;split at h
   .rename_i ty x lo e3;split at h
    .rename_i d d' ty' e4 e5 e6 e7 e8 e9;obtain⟨ss,⟨args⟩,⟨G0⟩⟩:=c;simp only at e1 e2 e3 e4 e5 e6 e7 e8 e9;simp only[Au]at h;obtain rfl:=AT h.1;obtain rfl:=AT h.2;subst e1 e2 e3 e4 e5 e6 e7 e8 e9
     grind
    simp_all
   simp_all
  simp_all
 simp_all
theorem mT(hT:BY P cx.T){ro:Option Nat}(hd:∀i,o.dst=some i->i<N)(hc:Yx o o2=true){K:St->Prop}(hS:SR N ds w0 g0 h0 st g a w)(hk:mS cx o st K){next:Act->World->Prop}{Q:Exit->Act->World->Prop}(hn:∀ES g' a' w',K ES->SR N ds w0 g0 h0 ES g' a' w'->next a' w') :
  o.guard=none/\o2.guard=none/\o.wpIn (Jv ro) 0 P a w (fun a1 w1=>o2.wpIn (Jv ro) 0 P a1 w1 next Q) Q:=by
 obtain⟨ty,x,lo,d,ty2,pos,after,sb,oL,VN,rfl,rfl⟩:=aT hc;refine⟨rfl,rfl,?_⟩;have hI:=hS.inv;have hE:=hS.eval;have hdN:d<a.tmps.size:=by grind [SR.size]
 -- what is to be wt of the two operations
 have two:∀(v:Value) (ES : St) (g' : Gh) (w' : World),(Instr.sliceAt ty (a.eval x) (some (a.eval lo)) none none).run P w=.ok v w->(Builtin.clear_ #[ty] sb #[v]).run P w=.ok (.tuple #[]) w'->K ⟨Jp st.t d .junk,ES.h⟩->Cv w0 g0 h0 ES.h g' w'->Le st.h g w ES.h g' w' ->
   Oper.wpIn (Jv ro) 0 P ⟨some d,.slice ty x (some lo) none none,ty2,pos,after,none⟩ a w (fun a1 w1=>Oper.wpIn (Jv ro) 0 P ⟨none,.call ⟨.builtin .clear,#[.tmp d],#[ty]⟩,sb,oL,VN,none⟩ a1 w1 next Q) Q:=by
  intro v ES g' w' r1 r2 hk hI' HB;refine MH (by simp_all) ?_;unfold Oper.wp;have hx:execOp a.eval ⟨some d,.slice ty x (some lo) none none,ty2,pos,after,none⟩=(do pure (Next.value (<-Instr.sliceAt ty (a.eval x) (some (a.eval lo)) none none))):=rfl;rw[hx,Sem.run_bind,r1];refine MH (by simp_all) ?_;unfold Oper.wp;have sP:execOp (a.put (some d) v).eval ⟨none,.call ⟨.builtin .clear,#[.tmp d],#[ty]⟩,sb,oL,VN,none⟩=(do pure (Next.value (<-Builtin.clear_ #[ty] sb #[v]))):=by
   grind [execOp,resolve,invoke,builtin,lk]
  rw[sP,Sem.run_bind,r2];have S1:SR N ds w0 g0 h0 (st.put (some d) .junk st.h) g (a.put (some d) v) w:=hS.put hd hI (.refl _ _ _) (.junk _ _);have S2:SR N ds w0 g0 h0 ((st.put (some d) .junk st.h).put none (.v (.tuple #[])) ES.h) g' ((a.put (some d) v).put none (.tuple #[])) w':=S1.put (by simp_all) hI' HB (.v _ _);exact hn _ g' _ w' hk S2
 unfold mS at hk;simp only at hk;split at hk
 .rename_i e hs;split at hk
  .rename_i r n ex;split at hk
   .rename_i i ei;split at hk
    .rename_i sz es er;split at hk
     .rename_i hb;obtain rfl:=AT hb;split at hk
      .simp_all
      .rename_i k FM;split at hk
       .rename_i gU;have gU:=AT gU;obtain⟨⟨rfl,i0,i1⟩,hk⟩:=hk;unfold tT at hk;split at hk
        .rename_i Hy;have Hy:∀v∈(cx.T e).zc,v.oneCell'=true:=BI.1 Hy;have ho:=hI.objs r;rw[er]at ho;obtain⟨t1,l1,al,a2⟩:=ho;have j8:=hE x;rw[ex]at j8;have ve:=hE lo;rw[ei]at ve;have ve:=ve.v_eq;generalize hvx:a.eval x=vx at j8 two;rw[ve]at two;cases j8 with
         |msl _ _ _ ad cap hu ZE l6 ha Q0=>
          have hv:=Q0 l1.symm;have NC:es.length<=cap:=by
           grind
          have Cm:=EC (P:=P) (w:=w) hT hs FM ad es.length cap (some i) none none (.inl rfl) (by simp_all) (by simp_all) (by simp_all) aa1;simp only[CB,Ln,Cj,Option.map_some,Option.map_none]at Cm
          by_cases hz:i.toNat=es.length
          .-- nothing is cleared
           have e1:es.length-i.toNat=0:=by omega
           rw[e1]at Cm hk;refine two _ st g w Cm (ZZ hT hs _) ?_ hI (.refl _ _ _);have e2:es.take i.toNat++List.replicate 0 ((cx.T e).zc.map AV.v)=es:=by simp_all
           rw[e2,<-er,j5]at hk;exact hk
          .have Fp:i.toNat<es.length:=by omega
           rcases a2 with ⟨b1,_⟩ | ⟨b,MU,E,vs,b1,b2,b3,b4,b5,b6,b7⟩
           .simp_all
           .rw[b1]at hv;cases hv;have Fi:¬cap=i.toNat:=by omega
            rw[Aw Fi]at Cm;have zo:Option.map (fun x:Addr=>x.add (i.toNat*(cx.T e).size)) (some ⟨b,0,none⟩)=some ⟨b,i.toNat*(cx.T e).size,none⟩:=by grind [Addr.add]
            rw[zo]at Cm;have aI:es.length*(cx.T e).size<=cap*(cx.T e).size:=By _ b3;have aM:i.toNat*(cx.T e).size+(es.length-i.toNat)*(cx.T e).size=es.length*(cx.T e).size:=by rw[<-JA];simp_all
            have TY:=dU (w:=w) (ty2:=sb) (c:=cap-i.toNat) hT hs FM (gU.trans FM) Hy b4 (n:=es.length-i.toNat) (o:=i.toNat*(cx.T e).size) aa0 (by simp_all);have hl:(st.h r).live:=by rw[er];trivial
            generalize hZ:(List.replicate (es.length-i.toNat) (cx.T e).zc).flatten=Z at TY;have zn:Z.length=(es.length-i.toNat)*(cx.T e).size:=by
             rw[<-hZ,CX (n:=(cx.T e).size) (fun c hc=>by simp_all),FY]
            have UP:(es.take i.toNat++List.replicate (es.length-i.toNat) ((cx.T e).zc.map AV.v)).length=es.length:=by
             simp_all
            have zp:∀c∈es.take i.toNat++List.replicate (es.length-i.toNat) ((cx.T e).zc.map AV.v),c.length=(cx.T e).size:=fun c hc=>by
             grind
            have AfI:vs.toList.length=cap*(cx.T e).size:=by omega
            have hfl:(es.take i.toNat++List.replicate (es.length-i.toNat) ((cx.T e).zc.map AV.v)).flatten=over es.flatten (i.toNat*(cx.T e).size) (Z.map AV.v):=by
             rw[MJ _ _ _ (by rw[Bv,zn,aM,CX al];omega),Eu,Nv al,Bv,zn,aM,Fw (by rw[CX al];omega),BC,<-hZ,List.map_flatten,List.map_replicate]
            have rx:((over vs.toList (i.toNat*(cx.T e).size) Z).toArray.toList.take (es.length*(cx.T e).size))=over (vs.toList.take (es.length*(cx.T e).size)) (i.toNat*(cx.T e).size) Z:=
             Vb _ _ _ _ aa0 aa0
            have hZr:B2 g w EZ (Z.map AV.v) Z:=B2.vals (by
             have uy : ∀l:List AV,(∀a∈l,Xm a=true)->GN l=true:=by
              intro l
              induction l with
              |nil=>intro _;rfl
              |cons a l ih=>intro h;simp[GN,h a (List.mem_cons_self ..),ih (fun b hb=>h b (List.mem_cons_of_mem _ hb))]
             refine uy _ fun q hq=>?_;obtain⟨y,hy,rfl⟩:=Ay.1 hq;rw[<-hZ]at hy;obtain⟨l,hl,hy⟩:=In.1 hy;rw[List.eq_of_mem_replicate hl]at hy;exact Hy y hy)
            have rg:B2 g w EZ (over es.flatten (i.toNat*(cx.T e).size) (Z.map AV.v)) (over (vs.toList.take (es.length*(cx.T e).size)) (i.toNat*(cx.T e).size) Z):=
             b6.over hZr _ (by rw[Bv,zn,aM,CX al];omega)
            obtain⟨k1,k2⟩:=hI.write hl b2 (.arr (cx.T e).size (es.take i.toNat++List.replicate (es.length-i.toNat) ((cx.T e).zc.map AV.v))) b4 (over vs.toList (i.toNat*(cx.T e).size) Z).toArray (g.ln r) (g.own r) g.S aa1 rfl (fun b' e=>by simp_all) (fun _ _ h=>h)
             (fun b' o hs=>.inl hs) (fun o hs=>absurd hs (b7 o)) (fun hg HP Et=>by
              obtain⟨u1,u2,u3,u4⟩:=Bi g r (g.ρ r) (g.ln r) (g.tk r) (g.own r) g.S;refine⟨u3.trans t1,u2.trans aa0,zp,.inr ⟨b,cap,E,_,?_,u4.trans b2,by omega,Et,?_,?_,b7⟩⟩
              .simp_all
              .simp only[List.size_toArray,FW,Array.length_toList];exact b5
              .rw[UP,rx,hfl];exact rg.mono HP (fun _ h=>h) (fun _ h=>h.elim))
            exact two _ ⟨st.t,_⟩ _ _ Cm TY hk k1 k2
        simp_all
       simp_all
     simp_all
    simp_all
   simp_all
  simp_all
 simp_all
end
end Go.Eng
