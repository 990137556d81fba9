/- Lemmas 10. -/
import Derived.Test.YtkmnnpmneamgoaaGreatDoorPA09
namespace Go.Eng
variable {o:Oper}{K:HK}{args:Array Operand}{cx:Cx}{Hm:Array TypeId}{vals:Array Value}{after:Array Edge}{dr:Bool}{pos:String}{x:Value}{F:Fence}{o2:Oper}{T:G0}(σ:HJ)
theorem Pt{h:Nat->HO}{d:Nat}:∀{n:Nat},DL h d n=true->∀k,k<n->h (BB d k)=.free
 |0,_,k,hk=>by omega
 |n+1,hf,k,hk=>by
  simp only[DL,Aj]at hf
  by_cases e:k=n
  .grind
  .exact Pt hf.2 k aa0
theorem NP{d nn:Nat}:∀{σ:HJ},CI σ d nn=true->∀{i j},Cf σ i=some j->¬(BB d 0<=i/\i<BB d nn)
 | [],_,i,j,h=>by grind [Cf]
 |(a,b)::r,hs,i,j,hf=>by
  simp only[CI,Aj]at hs;unfold Cf at hf
  by_cases e1:a=i
  .grind [Nat.ble_eq_true_of_le,Nat.blt_eq]
  .simp only[CC e1,Gf]at hf;exact NP hs.2 hf
section
variable {P:Program}{w0:World}{g0:Gh}{h0 h:Nat->HO}{g:Gh}{w:World}
def CF(g:Gh):Gh:=
 ⟨fun j=>match G3 σ j with | some i=>g.ρ i | none=>.nilIface,fun j=>match G3 σ j with | some i=>g.ln i | none=>0,fun j=>match G3 σ j with | some i=>g.tk i | none=>false,
  fun j=>match G3 σ j with | some i=>g.own i | none=>none,g.S⟩
def WC(d nn:Nat)(i:Nat):Option Nat:=
 match Cf σ i with
 |some j=>some j
 |none=>match Nat.ble (BB d 0) i&&Nat.blt i (BB d nn)with |true=>some (2000+(i-BB d 0)) |false=>none
def Hb(d nn:Nat)(g g' : Gh):Gh:=
 ⟨fun i=>match WC σ d nn i with | some j=>g'.ρ j | none=>g.ρ i,fun i=>match WC σ d nn i with | some j=>g'.ln j | none=>g.ln i,fun i=>match WC σ d nn i with | some j=>g'.tk j | none=>g.tk i,
  fun i=>match WC σ d nn i with | some j=>g'.own j | none=>g.own i,g'.S⟩
theorem fL(d nn:Nat)(h h' : Nat->HO)(i:Nat):Ec σ d nn h h' i=match WC σ d nn i with | some j=>(h' j).ren (Ft σ d nn) h' | none=>h i:=by
 grind [Ec,WC]
theorem nF{σ:HJ}{d nn:Nat}(hσ:D7 σ=true)(ha:CI σ d nn=true)(i j:Nat):WC σ d nn i=some j↔Ft σ d nn j=some i:=by
 have inv:=XR hσ;unfold WC Ft;cases h1:Cf σ i with
 |some j'=>
  have hb:=(inv i j').1 h1;dsimp only;constructor
  .grind
  .intro h;cases h2:G3 σ j with
   |some i'=>grind
   |none=>
    rw[h2]at h;dsimp only at h;split at h
    .rename_i hc;have h:=EY h;subst h;simp only[Aj,EK,Do]at hc;exact absurd ⟨by grind [BB],by grind [BB]⟩ (NP ha h1)
    simp_all
 |none=>
  dsimp only;cases h2:G3 σ j with
  |some i'=>
   dsimp only;have hf:=(inv i' j).2 h2;have hr:=Wt hσ hf
   grind
  |none=>
   dsimp only;constructor
   .grind [Nat.ble_eq,Nat.blt_eq,BB]
   .intro h;split at h
    .rename_i hc;have h:=EY h;subst h;simp only[Aj,EK,Do]at hc;have e1:(Nat.ble (BB d 0) (BB d (j-2000))&&Nat.blt (BB d (j-2000)) (BB d nn))=true:=by
      grind [Nat.ble_eq,Nat.blt_eq,BB]
     grind [BB]
    simp_all
theorem TB(hI:Cw w0 g0 h0 h g w){σ:HJ}(hσ:D7 σ=true):Ga (Cf σ) h (Fo σ h) g (CF σ g) w/\Cw w (CF σ g) (Fo σ h) (Fo σ h) (CF σ g) w:=by
 have inv:=XR hσ;have Fu:∀j,Fo σ h j=match G3 σ j with | some i=>(h i).ren (Cf σ) h | none=>.free:=PH _ _ σ
 have hR:Ga (Cf σ) h (Fo σ h) g (CF σ g) w:=by
  refine⟨fun r r' hr hu=>?_,fun b o=>Iff.rfl,hI.objs⟩
  grind [CF,Az,MP]
 have My:∀j,(Fo σ h j).live->∃i,G3 σ j=some i/\(h i).live:=fun j hl=>by
  rw[Fu]at hl;cases e:G3 σ j with
  |none=>rw[e]at hl;exact hl.elim
  |some i=>grind [MO]
 have Xx:∀j i,G3 σ j=some i->(CF σ g).own j=g.own i:=fun j i e=>by simp[CF,e]
 refine⟨hR,rfl,rfl,rfl,Ao _,fun _ _ _=>rfl,hI.slt,fun j=>?_,fun j j' b hl RT e e'=>?_,fun j b hl e=>?_,fun _ _ h=>.inl h,hI.glob⟩
 .rw[Fu];cases e:G3 σ j with
  |none=>trivial
  |some i=>
   by_cases hu:Az h i
   .grind [DO.ren,Cw.objs]
   .have:h i=.free:=Cc.1 hu
    dsimp only;rw[this];trivial
 .obtain⟨i,e1,l1⟩:=My j hl;obtain⟨i',e2,l2⟩:=My j' RT;rw[Xx j i e1]at e;rw[Xx j' i' e2]at e';obtain rfl:=hI.inj i i' b l1 l2 e e'
  have:=(inv i j).2 e1
  rw[(inv i j').2 e2]at this;simp_all
 .obtain⟨i,e1,l1⟩:=My j hl;have e0:=e;rw[Xx j i e1]at e;exact⟨(hI.loc i b l1 e).1,.inr ⟨j,hl,e0⟩⟩
theorem Kx{C:(Ending->World->Prop)->Prop}(hm:∀{R R' : Ending->World->Prop},C R->(∀e w,R e w->R' e w)->C R')(hI:Cw w0 g0 h0 h g w){σ:HJ}{d nn:Nat}(Gv:(D7 σ&&DL h d nn&&CI σ d nn)=true){Q:AV->(Nat->HO)->Prop}
  (hc:Cw w (CF σ g) (Fo σ h) (Fo σ h) (CF σ g) w->C (fun e w'=>∃v r h' g',e=Ending.returned v/\Q r h'/\AY g' w' (Az h') r v/\Cw w (CF σ g) (Fo σ h) h' g' w'/\Le (Fo σ h) (CF σ g) w h' g' w')) {R:Ending->World->Prop}
  (dH:∀v r h' g2 w',Q r h'->Cw w0 g0 h0 (Ec σ d nn h h') g2 w'->Le h g w (Ec σ d nn h h') g2 w'->AY g2 w' (Az (Ec σ d nn h h')) (ren (Ft σ d nn) h' r) v->R (.returned v) w'):C R:=by
 simp only[Aj]at Gv;obtain⟨⟨hσ,xV⟩,zr⟩:=Gv;obtain⟨hF,pB⟩:=TB hI hσ;have inv:=XR hσ;have x9:=nF hσ zr;refine hm (hc pB) ?_
 rintro e w' ⟨v,r,h',g',rfl,q1,q2,q3,q4⟩
 have hb:=fL σ d nn h h';have rK:∀i j,WC σ d nn i=some j->(Hb σ d nn g g').ρ i=g'.ρ j/\(Hb σ d nn g g').ln i=g'.ln j/\(Hb σ d nn g g').tk i=g'.tk j/\(Hb σ d nn g g').own i=g'.own j:=fun i j e=>by simp[Hb,e]
 have hg3:∀i,WC σ d nn i=none->(Hb σ d nn g g').ρ i=g.ρ i/\(Hb σ d nn g g').ln i=g.ln i/\(Hb σ d nn g g').tk i=g.tk i/\(Hb σ d nn g g').own i=g.own i:=fun i e=>by simp[Hb,e]
 have hB:Ga (Ft σ d nn) h' (Ec σ d nn h h') g' (Hb σ d nn g g') w':=by
  refine⟨fun j i hj hu=>?_,fun b o=>Iff.rfl,q3.objs⟩
  grind [Az,MP]
 have xx:∀j,Fo σ h j=match G3 σ j with | some i=>(h i).ren (Cf σ) h | none=>.free:=PH _ _ σ
 have AbV:∀j i,Cf σ i=some j->(h i).live->(Fo σ h j).live:=fun j i e hl=>by
  grind [MO]
 have Aew:∀j i,Cf σ i=some j->(CF σ g).own j=g.own i:=fun j i e=>by grind [CF]
 have pL : ∀j,(Fo σ h j).live->∃i,Cf σ i=some j/\(h i).live/\(CF σ g).own j=g.own i:=fun j hl=>by
  rw[xx]at hl;cases e:G3 σ j with
  |none=>rw[e]at hl;exact hl.elim
  |some i=>grind [MO]
 -- what the callee may not touch
 have pR:∀b,b<w.heap.size->(∀i,(h i).live->Cf σ i≠none->g.own i≠some b)->w'.heap[b]?=w.heap[b]?:=fun b E1 hn=>q3.frame b E1 fun j hl e=>by
  grind
 have hSs:∀b o,g'.S b o->b<w.heap.size->(∀i,(h i).live->Cf σ i≠none->g.own i≠some b)->g.S b o:=fun b o hs E1 hn=>by
  rcases q3.sg b o hs with h1 | h1 | ⟨j,h1,h2⟩
  .exact h1
  all_goals grind
 have hk:E9 g w (Hb σ d nn g g') w':=q4.keeps;have Ae:∀i,Cf σ i=none->WC σ d nn i≠none->h i=.free:=fun i e1 e2=>by
  unfold WC at e2;rw[e1]at e2;dsimp only at e2;split at e2
  .rename_i hc;simp only[Aj,EK,Do]at hc
   have:=Pt xV (i-BB d 0) (by grind [BB])
   grind [BB]
  simp_all
 have tR:∀i j,Cf σ i=some j->WC σ d nn i=some j:=fun i j e=>by grind [WC]
 have hgl:Kg g (Hb σ d nn g g') (Az h):=fun i hu=>by
  cases e:Cf σ i with
  |some j=>
   obtain⟨k1,k2,k3,k4⟩:=rK i j (tR i j e);obtain⟨f1,f2,f3,f4,f5⟩:=hF.ids i j e hu;obtain⟨m1,m2,m3,m4⟩:=q4.gh j f5<;>simp_all
  |none=>
   have e2:WC σ d nn i=none:=Cc.1 fun e2=>hu (Ae i e e2);simp_all
 have Mz:∀i,Az h i->Az (Ec σ d nn h h') i:=fun i hu=>by
  grind [Az,MP,WC,Le.us,Ga.ids]
 have bK:∀i,(Ec σ d nn h h' i).live->(∃j,WC σ d nn i=some j/\(h' j).live/\(Hb σ d nn g g').own i=g'.own j)\/(WC σ d nn i=none/\(h i).live/\(Hb σ d nn g g').own i=g.own i/\Cf σ i=none):=fun i hl=>by
  grind [WC,MO]
 have JS:∀j b,(h' j).live->g'.own j=some b->b<w'.heap.size/\(w.heap.size<=b\/∃i,Cf σ i≠none/\(h i).live/\g.own i=some b):=fun j b hl e=>by
  grind [Cw.loc]
 have vz:∀i b,(h i).live->g.own i=some b->Cf σ i=none->∀i',(h i').live->Cf σ i'≠none->g.own i'≠some b:=fun i b hl e hn i' RT bM e'=>by
  obtain rfl:=hI.inj i i' b hl RT e e';simp_all
 refine dH v r h' (Hb σ d nn g g') w' q1 ⟨q3.os.trans hI.os,q3.tape.trans hI.tape,q3.output.trans hI.output,Bl hI.size q3.size,fun b E1 hn=>?_,q3.slt,fun i=>?_,fun i i' b hl RT e e'=>?_,fun i b hl e=>?_,fun b o hs=>?_,hI.glob.keep hk⟩ ⟨hgl,Mz,hk⟩ (q2.ren hB)
 .grind [Cw.loc,Cw.frame]
 .rw[hb];cases e:WC σ d nn i with
  |some j=>
   by_cases hu:Az h' j
   .grind [DO.ren,Cw.objs]
   .have:h' j=.free:=Cc.1 hu
    dsimp only;rw[this];trivial
  |none=>
   obtain⟨k1,k2,k3,k4⟩:=hg3 i e;have e2:Cf σ i=none:=by
    cases e2:Cf σ i<;>grind [Cf]
   refine(hI.objs i).same hk Mz hgl k1 k2 k3 k4 fun b hl ho=>?_;have E1:=(hI.loc i b hl ho).1;exact⟨pR b E1 (vz i b hl ho e2),fun k hs=>hSs b k hs E1 (vz i b hl ho e2)⟩
 .have mixed:∀i j i',(h' j).live->g'.own j=some b->(h i').live->g.own i'=some b->Cf σ i'=none->i=i':=fun i j i' l1 o1 l2 o2 n2=>by
   rcases(JS j b l1 o1).2 with h1 | ⟨i3,n3,l3,o3⟩
   .have:=(hI.loc i' b l2 o2).1;omega
   grind
  rcases bK i hl with ⟨j,s1,l1,o1⟩ | ⟨s1,l1,o1,n1⟩<;>rcases bK i' RT with ⟨j',s2,l2,o2⟩ | ⟨s2,l2,o2,n2⟩
  .obtain rfl:=q3.inj j j' b l1 l2 (by simp_all) (by simp_all);simp_all
  .exact mixed i j i' l1 (by simp_all) l2 (by simp_all) n2
  .exact(mixed i' j' i l2 (by simp_all) l1 (by simp_all) n1).symm
  .exact hI.inj i i' b l1 l2 (by simp_all) (by simp_all)
 .rcases bK i hl with ⟨j,s1,l1,o1⟩ | ⟨s1,l1,o1,n1⟩
  .obtain⟨h1,h2⟩:=JS j b l1 (by simp_all);refine⟨h1,?_⟩;rcases h2 with h2 | ⟨i3,n3,l3,o3⟩
   .exact .inl (Bl hI.size h2)
   .exact(hI.loc i3 b l3 o3).2
  .obtain⟨h1,h2⟩:=hI.loc i b l1 (by simp_all)
   grind
 .rcases q3.sg b o hs with h1 | h1 | ⟨j,h1,h2⟩
  .exact hI.sg b o h1
  .exact .inr (.inl (Bl hI.size h1))
  .obtain⟨i,e1,l1,o1⟩:=pL j h1;exact .inr (hI.loc i b l1 (by rw[<-o1];exact h2)).2
theorem j7(hI:Cw w0 g0 h0 h g w){σ:HJ}{d nn:Nat}(Gv:(D7 σ&&DL h d nn&&CI σ d nn)=true){f:Nat}{args:List AV}{Q:AV->(Nat->HO)->Prop}(hc:A6 P f args (Fo σ h) Q)(hs:vals.size=args.length)(hv:∀(i:Nat) (av:AV) (x:Value),args[i]?=some av->vals[i]?=some x->AY (CF σ g) w (Az (Fo σ h)) av x){R:Ending->World->Prop}(dH:∀v r h' g2 w',Q r h'->Cw w0 g0 h0 (Ec σ d nn h h') g2 w'->Le h g w (Ec σ d nn h h') g2 w'->AY g2 w' (Az (Ec σ d nn h h')) (ren (Ft σ d nn) h' r) v->R (.returned v) w'):Calls P f vals w R:=
 Kx (C:=Calls P f vals w) (fun h k=>h.mono k) hI Gv (hc.2 (CF σ g) w vals hs hv) dH
end
structure SR(N:Nat)(ds:List Deferred)(w0:World)(g0:Gh)(h0:Nat->HO)(st:St)(g:Gh)(a:Act)(w:World):Prop where
 inv:Cw w0 g0 h0 st.h g w
 le:Le h0 g0 w0 st.h g w
 dfs:a.defers=ds
 size:a.tmps.size=N
 slots:∀i,AY g w (Az st.h) (st.t i) (a.tmps.getD i undef)
section
variable {P:Program}{N:Nat}{ds:List Deferred}{w0:World}{g0:Gh}{h0:Nat->HO}{st:St}{g:Gh}{a:Act}{w:World}
theorem SR.eval(hS:SR N ds w0 g0 h0 st g a w)(x:Operand):AY g w (Az st.h) (ev st.t x) (a.eval x):=by
 cases x with
 |tmp i=>exact hS.slots i
 |const v=>exact .v _ _
 |global b=>exact .v _ _
 |func f=>exact .v _ _
theorem SR.put(hS:SR N ds w0 g0 h0 st g a w){d:Option Nat}(hd:∀i,d=some i->i<N){v:AV}{x:Value}{h' : Nat->HO}{g' : Gh}{w' : World}(hI:Cw w0 g0 h0 h' g' w')(IF:Le st.h g w h' g' w')(hr:AY g' w' (Az h') v x) :
  SR N ds w0 g0 h0 (st.put d v h') g' (a.put d x) w':=by
 have old:∀i,AY g' w' (Az h') (st.t i) (a.tmps.getD i undef):=fun i=>(hS.slots i).le IF;cases d with
 |none=>exact⟨hI,hS.le.trans IF,hS.dfs,hS.size,old⟩
 |some d=>
  have hdN:=hd d rfl;refine⟨hI,hS.le.trans IF,hS.dfs,by simp[Act.put,hS.size],fun i=>?_⟩;simp only[St.put,Act.put,JJ]
  by_cases e:i=d
  .subst e
   have:i<a.tmps.size:=by rw[hS.size];exact hdN
   simp only[Nat.beq_refl,cond_true];rw[If,Array.getElem?_setIfInBounds_self,AX this];exact hr
  .simp only[CC e,Gf];rw[If,Array.getElem?_setIfInBounds_ne (Ne.symm e),<-If];exact old i
def aI(w0:World)(g0:Gh)(h0 h:Nat->HO)(g:Gh)(w:World)(K:HK)(next:Value->World->Prop):Prop:=
 ∀v h' g' w' x,K v h'->Cw w0 g0 h0 h' g' w'->Le h g w h' g' w'->AY g' w' (Az h') v x->next x w'
theorem DK{m:Sem Value}{next:Act->World->Prop}{Q:Exit->Act->World->Prop}(hx:execOp a.eval o=(do pure (Next.value (<-m))))(hd:NU P w0 g0 h0 st.h g w m K)(hn:aI w0 g0 h0 st.h g w K fun x w'=>next (a.put o.dst x) w'):o.wp P a w next Q:=by
 obtain⟨x,w',g',av,h',h1,h2,h3,h4,h5⟩:=hd;unfold Oper.wp;rw[hx,Sem.run_bind,h1];exact hn av h' g' w' x h2 h3 h4 h5
theorem X3{m:Sem Unit}{next:Act->World->Prop}{Q:Exit->Act->World->Prop}(hx:execOp a.eval o=(do m;pure Next.skip))(hd:jC P w0 g0 h0 st.h g w m K)(hn:aI w0 g0 h0 st.h g w K fun x w'=>next (a.put o.dst x) w'):o.wp P a w next Q:=by
 obtain⟨w',g',h',h1,h2,h3,h4⟩:=hd;unfold Oper.wp;rw[hx,Sem.run_bind,h1];exact hn _ h' g' w' undef h2 h3 h4 (.v _ _)
theorem ff{next:Act->World->Prop}{Q:Exit->Act->World->Prop}{v:AV}(hI:Cw w0 g0 h0 st.h g w)(hx:(execOp a.eval o).run P w=.ok (.value x) w)(hk:K v st.h)(hr:AY g w (Az st.h) v x)(hn:aI w0 g0 h0 st.h g w K fun x w'=>next (a.put o.dst x) w'):o.wp P a w next Q:=by
 unfold Oper.wp;rw[hx];exact hn _ _ _ _ _ hk hI (.refl _ _ _) hr
theorem SP{C:(Ending->World->Prop)->Prop}(hm:∀{R R' : Ending->World->Prop},C R->(∀e w,R e w->R' e w)->C R')(hI:Cw w0 g0 h0 st.h g w){Q:AV->(Nat->HO)->Prop}
  (hc:Cw w g Ae Ae g w->C (fun e w'=>∃v r h' g',e=Ending.returned v/\Q r h'/\AY g' w' (Az h') r v/\Cw w g Ae h' g' w'/\Le Ae g w h' g' w')) {R:Ending->World->Prop}
  (hR:∀v r h' g' w',Q r h'->h'=Ae->Cw w0 g0 h0 st.h g' w'->Le st.h g w st.h g' w'->AY g' w' Fs r v->R (.returned v) w') (hQ:∀r h',Q r h'->h'=Ae):C R:=by
 have hU:Az Ae=Fs:=by funext i;unfold Az Fs Ae;simp
 have pB:Cw w g Ae Ae g w:=⟨rfl,rfl,rfl,Ao _,fun _ _ _=>rfl,hI.slt,fun _=>trivial,fun _ _ _ h=>h.elim,fun _ _ h=>h.elim,fun _ _ h=>.inl h,hI.glob⟩;refine hm (hc pB) ?_
 rintro e w' ⟨v,r,h',g',rfl,q1,q2,q3,q4⟩
 obtain rfl:=hQ r h' q1;rw[hU]at q2
 -- the caller's ghost,with the callee's stable cells
 have hk:E9 g w ⟨g.ρ,g.ln,g.tk,g.own,g'.S⟩ w':=q4.keeps;have hg:Kg g ⟨g.ρ,g.ln,g.tk,g.own,g'.S⟩ (Az st.h):=fun _ _=>⟨rfl,Ao _,fun _=>rfl,fun _=>rfl⟩;have pR:∀b,b<w.heap.size->w'.heap[b]?=w.heap[b]?:=fun b hb=>q3.frame b hb (fun _ h=>h.elim);have hSs:∀b o,g'.S b o->b<w.heap.size->g.S b o:=fun b o hs hb=>by
  rcases q3.sg b o hs with h1 | h1 | ⟨_,h1,_⟩
  .exact h1
  .omega
  .exact h1.elim
 refine hR v r Ae ⟨g.ρ,g.ln,g.tk,g.own,g'.S⟩ w' q1 rfl ⟨q3.os.trans hI.os,q3.tape.trans hI.tape,q3.output.trans hI.output,Bl hI.size q3.size,fun b hb hn=>?_,q3.slt,fun i=>?_,hI.inj,fun i b hl ho=>?_,fun b o hs=>?_,hI.glob.keep hk⟩ ⟨hg,fun _ h=>h,hk⟩ ?_
 .exact(pR b (Cp hb hI.size)).trans (hI.frame b hb hn)
 .refine(hI.objs i).same hk (fun _ h=>h) hg rfl rfl rfl rfl (fun b hl ho=>?_);have E1:=(hI.loc i b hl ho).1;exact⟨pR b E1,fun k hs=>hSs b k hs E1⟩
 .obtain⟨h1,h2⟩:=hI.loc i b hl ho;exact⟨Cp h1 q3.size,h2⟩
 .rcases q3.sg b o hs with h1 | h1 | ⟨_,h1,_⟩
  .exact hI.sg b o h1
  .exact .inr (.inl (Bl hI.size h1))
  .exact h1.elim
 .have:E9 g' w' ⟨g.ρ,g.ln,g.tk,g.own,g'.S⟩ w':=fun b o h=>⟨h,rfl,fun _ _ h=>h⟩
  exact q2.mono this (fun _ h=>h) (fun _ h=>h.elim)
theorem fU(hI:Cw w0 g0 h0 st.h g w){f:Nat}{args:List AV}{Q:AV->(Nat->HO)->Prop}(hc:A6 P f args Ae Q)(hs:vals.size=args.length)(hv:∀(i:Nat) (av:AV) (x:Value),args[i]?=some av->vals[i]?=some x->AY g w Fs av x){R:Ending->World->Prop}(hR:∀v r h' g' w',Q r h'->h'=Ae->Cw w0 g0 h0 st.h g' w'->Le st.h g w st.h g' w'->AY g' w' Fs r v->R (.returned v) w')(hQ:∀r h',Q r h'->h'=Ae):Calls P f vals w R:=
 have hU:Az Ae=Fs:=by funext i;unfold Az Fs Ae;simp
 SP (C:=Calls P f vals w) (fun h k=>h.mono k) hI (hc.2 g w vals hs (fun i av x h1 h2=>by rw[hU];exact hv i av x h1 h2)) hR hQ
theorem YieldAt.imp{m:Nat}{P:Program}{l:Nat}{args:Array Value}{W:World}{R R' : Ending->World->Prop}(h:YieldAt F m P l args W R)(hr:∀e w,R e w->R' e w):YieldAt F m P l args W R':=
 let ⟨fn,t,a,b,h1,h2⟩:=h
 ⟨fn,t,a,b,h1,h2.mono hr⟩
theorem G6.imp{Y:Gh->World->Prop}{l:Nat}{args:List AV}{h0:Nat->HO}{Q Q' : AV->(Nat->HO)->Prop}(h:G6 P Y l args h0 Q)(hq:∀r h',Q r h'->Q' r h'):G6 P Y l args h0 Q':=
 fun g w vals q1 q2 q3 q4=>YieldAt.imp (h g w vals q1 q2 q3 q4) fun _ _ ⟨v,r,h',g',e1,e2,rest⟩=>⟨v,r,h',g',e1,hq _ _ e2,rest⟩
theorem Gq.imp{Y:Nat->Gh->World->Prop}{F:AV}{args:List AV}{h0:Nat->HO}{Q Q' : AV->(Nat->HO)->Prop}(h:Gq P Y F args h0 Q)(hq:∀r h',Q r h'->Q' r h'):Gq P Y F args h0 Q':=by
 have one:∀{f:Nat} {l:List AV},A6 P f l h0 Q->A6 P f l h0 Q':=fun hc=>
  ⟨hc.1,fun g w vals q1 q2 q3=>(hc.2 g w vals q1 q2 q3).mono fun _ _ ⟨v,r,h',g',e1,e2,rest⟩=>⟨v,r,h',g',e1,hq _ _ e2,rest⟩⟩
 unfold Gq at h⊢;split at h
 .exact one h
 .exact one h
 .exact G6.imp h hq
 .exact h.elim
abbrev Ia(ro:Option Nat):Fence:={ Fence.wide with round:=ro }
theorem Ni{ro:Option Nat}{a:Act}{w:World}{next:Act->World->Prop}{Q:Exit->Act->World->Prop}(hd:∀c,o.op≠.defer c)(h:o.wp P a w next Q):o.wpIn (Ia ro) 0 P a w next Q:=by
 refine⟨fun _ _=>trivial,?_⟩;have e:o.semAt (Ia ro).round a.eval=execOp a.eval o:=Oper.semAt_eq ro a.eval o hd;rw[e];unfold Oper.wp at h;have key:∀res:Result Next,o.upon P a next Q res->o.uponIn (Ia ro) 0 P a next Q res:=fun res h=>by
  cases res with
  |ok n w'=>cases n with
   |enter f args=>exact(show(_->_)/\CallsIn (Ia ro) 0 P f args w' _ from⟨fun e=>by(cases e),callsIn_wide.2 h⟩)
   |row r args=>exact(show(_->_)/\RowsIn (Ia ro) 0 P r args w' _ from⟨fun e=>by(cases e),fun c cs _=>by
     obtain⟨v,Ra,r',s⟩:=h c cs;exact⟨v,Ra,r',stepsIn_wide.2 s⟩⟩)
   |round _ _ _ _ _=>exact h.elim
   |_=>exact h
  |halt x w'=>cases x<;>exact h
 exact key _ h
theorem F5{f:Nat}{args:Array Value}(h:Gr P f)(w:World):(callFunc f args).run P w=.ok (.enter f args) w:=by
 obtain⟨fn,h1,h2,h3⟩:=h;simp only[callFunc,Sem.run_bind,run_program,h1,Result.andThen_ok,h2,h3,OJ,if_false,Sem.run_pure]
theorem UA{h:Nat->HO}{a:AV}(ha:d7 a=true):ren (Cf []) h a=str h a:=by
 have h0:∀a,ren0 (Cf []) h a=str0 h a:=fun a=>by
  cases a with
  |slice tk es=>cases tk<;>rfl
  |_=>rfl
 cases a with
 |tup cs=>cases ha
 |agg cs=>show AV.agg _=AV.agg _;exact Aa _ (Cg fun c _=>h0 c)
 |clo f cs=>show AV.clo f _=AV.clo f _;exact Aa _ (Cg fun c _=>h0 c)
 |v x=>exact h0 (.v x)
 |slice tk es=>exact h0 (.slice tk es)
 |msl r n=>exact h0 (.msl r n)
 |cptr cs=>exact h0 (.cptr cs)
 |ref r o=>exact h0 (.ref r o)
 |eref r n sz i o=>exact h0 (.eref r n sz i o)
 |mref r=>exact h0 (.mref r)
 |cmap sh l=>exact h0 (.cmap sh l)
 |junk=>rfl
theorem QJ{h:Nat->HO}:∀{l:List AV},Ug l=true->l.map (ren (Cf []) h)=l.map (str h)
 | [],_=>rfl
 |a::l,e=>by
  unfold Ug at e;split at e
  .rename_i e1;rw[Bv,Bv,UA e1,QJ e]
  .cases e
theorem Q0:∀{l:List AV} {vs:List Value},WJ l=some vs->l=vs.map .v
 | [],vs,h=>by cases h;rfl
 |.v x::r,vs,h=>by
  unfold WJ at h;split at h
  .rename_i l e;cases h;rw[Bv,<-Q0 e]
  .cases h
theorem fT{d:Option Nat}{st:St}{F:AV}{args:List AV}(hk:GN cx true d st F args K):GN cx false d st F args K:=by
 unfold GN at hk;simp only at hk;split at hk
 .exact⟨.pure,hk⟩
 .split at hk
  .exact hk.elim
  .rename_i d _;obtain⟨n,sz,es,h1,h2,h3⟩:=hk;simp only[Aj]at h1;refine⟨.gen [] 1,?_⟩;show(D7 []&&DL st.h d 1&&CI [] d 1)=true/\_;refine⟨by simp[D7,CI,h1.1.1],?_⟩;rw[UA h1.1.2,QJ h1.2];show Gq cx.P (fun l=>cx.yp l []) _ _ Ae _;refine Gq.imp h2 ?_
   rintro r h' ⟨e2,e3⟩
   subst e2;subst e3;have e1:ren (Ft [] d 1) (Af [(2000,.arr sz es)] Ae) (.msl 2000 n)=.msl (BB d 0) n:=rfl;have e2:Ec [] d 1 st.h (Af [(2000,.arr sz es)] Ae)=AC st.h (BB d 0) (.arr sz es):=by
    funext i
    by_cases e:i=BB d 0
    .subst e;rw[AS];have hb:(Nat.ble (BB d 0) (BB d 0)&&Nat.blt (BB d 0) (BB d 1))=true:=by
      unfold BB;simp only[Aj,EK,Do];omega
     simp only[Ec,Cf,hb,IN];rfl
    .rw[BN _ _ _ _ e]
     have:(Nat.ble (BB d 0) i&&Nat.blt i (BB d 1))=false:=by
      unfold BB at e⊢;rw[A2];simp only[ne_eq,Aj,EK,Do];omega
     simp only[Ec,Cf,this]
   rw[e1,e2];exact h3
 .split at hk
  .unfold XZ at hk;split at hk
   .exact hk.elim
   .rename_i d _;obtain⟨sz,es,h1,h2,h3⟩:=hk;simp only[Aj]at h1;refine⟨.gen [] 1,?_⟩;show(D7 []&&DL st.h d 1&&CI [] d 1)=true/\_;refine⟨by simp[D7,CI,h1.1.1],?_⟩;rw[UA h1.1.2,QJ h1.2];show Gq cx.P (fun l=>cx.yp l []) _ _ Ae _;refine Gq.imp h2 ?_
    rintro r h' ⟨e2,e3⟩
    subst e2;subst e3;have e1:ren (Ft [] d 1) (Af [(2000,.tok sz es.length)] Ae) (.slice (.id 2000 sz) es)=.slice (.id (BB d 0) sz) es:=rfl;have e2:Ec [] d 1 st.h (Af [(2000,.tok sz es.length)] Ae)=AC st.h (BB d 0) (.tok sz es.length):=by
     funext i
     by_cases e:i=BB d 0
     .subst e;rw[AS];have hb:(Nat.ble (BB d 0) (BB d 0)&&Nat.blt (BB d 0) (BB d 1))=true:=by
       unfold BB;simp only[Aj,EK,Do];omega
      simp only[Ec,Cf,hb,IN];rfl
     .rw[BN _ _ _ _ e]
      have:(Nat.ble (BB d 0) i&&Nat.blt i (BB d 1))=false:=by
       unfold BB at e⊢;rw[A2];simp only[ne_eq,Aj,EK,Do];omega
      simp only[Ec,Cf,this]
    rw[e1,e2];exact h3
  split at hk
  .unfold UY at hk;split at hk
   .rename_i d l vs e2 z1;have hl:=Q0 e2;split at hk
    .rename_i r sz es eY n e3 e4;obtain⟨⟨rfl,rfl⟩,v,E7,n',h1,h2⟩:=hk;refine⟨.gen [(1000,1000),(1001,1001)] 0,?_⟩;show(D7 [(1000,1000),(1001,1001)]&&DL st.h d 0&&CI [(1000,1000),(1001,1001)] d 0)=true/\_;refine⟨?_,?_⟩
     .have:CI [(1000,1000),(1001,1001)] d 0=true:=by
       have q:∀r:Nat,(Nat.ble (BB d 0) r&&Nat.blt r (BB d 0))=false:=fun r=>by
        rw[A2];simp only[ne_eq,Aj,EK,Do];omega
       simp only[CI,q,Bool.not_false,Bool.and_self]
      rw[this];rfl
     have f1:args.map (ren (Cf [(1000,1000),(1001,1001)]) st.h)=vs.map .v:=by rw[hl,B2];rfl
     have f2:Fo [(1000,1000),(1001,1001)] st.h=Af [(1000,.cells [.slice (.id 1001 eY) es]),(1001,.tok eY n)] Ae:=by
      unfold Fo XQ XQ XQ;rw[e3,e4];rfl
     rw[f1,f2];refine G6.imp h1 ?_
     rintro r h' ⟨g1,g2⟩
     subst g1;subst g2;have f3:Ec [(1000,1000),(1001,1001)] d 0 st.h (Af [(1000,.cells [.slice (.id 1001 eY) E7]),(1001,.tok eY n')] Ae)=AC (AC st.h 1001 (.tok eY n')) 1000 (.cells [.slice (.id 1001 eY) E7]):=by
      funext i
      by_cases e:i=1000
      .subst e;rw[AS];rfl
      .rw[BN _ _ _ _ e]
       by_cases e' : i=1001
       .subst e';rw[AS];rfl
       .rw[BN _ _ _ _ e'];have hn:Cf [(1000,1000),(1001,1001)] i=none:=by simp[Cf,CC (Ne.symm e),CC (Ne.symm e')]
        have:(Nat.ble (BB d 0) i&&Nat.blt i (BB d 0))=false:=by
         rw[A2];simp only[ne_eq,Aj,EK,Do];omega
        simp only[Ec,hn,this]
     rw[f3];exact h2
    .exact hk.elim
   .exact hk.elim
  unfold RJ at hk;split at hk
  .unfold YR at hk;split at hk
   .rename_i d f caps pP _;obtain⟨σ,H0,Hn,args',res,g1,g2,g3,g4⟩:=hk;simp only[Aj]at g2;obtain⟨k1,k2⟩:=g1 st.h fun _ _=>rfl;refine⟨.gen σ 0,?_⟩;show(D7 σ&&DL st.h d 0&&CI σ d 0)=true/\_;refine⟨by rw[g2.1.1,g2.1.2];rfl,?_⟩;have key:Gq cx.P (fun l=>cx.yp l σ) (ren (Cf σ) st.h F) (args.map (ren (Cf σ) st.h)) (Af H0 Ae) (fun r h'=>r=res/\h'=Af Hn Ae):=by
     rw[<-k2]at g3;unfold kL at pP;split at pP
     .cases pP
      rw[IM,DV]at g3;exact g3
     .cases pP
      exact g3
     .cases pP
    rw[k1];refine Gq.imp key ?_
    rintro r h' ⟨e1,e2⟩
    rw[e1,e2];exact g4
   .exact hk.elim
  unfold RN at hk;split at hk
  .rename_i dd f r n l _;split at hk
   .rename_i vs dT;have hl:=Q0 dT;subst hl;split at hk
    .rename_i sz es hr;have hf:Cf [(r,1000)] r=some 1000:=by simp[Cf]
     have e1:ren (Cf [(r,1000)]) st.h (.v (.func (.func f) ⟨[]⟩ ⟨[]⟩))=.v (.func (.func f) ⟨[]⟩ ⟨[]⟩):=rfl;have e2:(AV.msl r n::vs.map AV.v).map (ren (Cf [(r,1000)]) st.h)=.msl 1000 n::vs.map .v:=by
      rw[Bv]
      congr 1
      .simp[ren,ren1,ren0,hf]
      .rw[B2];rfl
     have e3:Fo [(r,1000)] st.h=Af [(1000,.arr sz es)] Ae:=by
      unfold Fo XQ;rw[hr];rfl
     split at hk
     .obtain⟨n',E7,h1,h2⟩:=hk;refine⟨.gen [(r,1000)] 0,?_⟩;show(D7 [(r,1000)]&&DL st.h dd 0&&CI [(r,1000)] dd 0)=true/\_;refine⟨?_,?_⟩
      .have:CI [(r,1000)] dd 0=true:=by
        unfold CI
        have:(Nat.ble (BB dd 0) r&&Nat.blt r (BB dd 0))=false:=by
         rw[A2];simp only[ne_eq,Aj,EK,Do];omega
        rw[this];rfl
       rw[this];rfl
      rw[e1,e2,e3];refine⟨h1.1,fun g w vals q1 q2 q3=>(h1.2 g w vals q1 q2 q3).mono fun _ _ ⟨v,r',h',g',e1,⟨e2,e3⟩,rest⟩=>⟨v,r',h',g',e1,?_,rest⟩⟩;subst e2;subst e3;have f1:ren (Ft [(r,1000)] dd 0) (Af [(1000,.arr sz E7)] Ae) (.msl 1000 n')=.msl r n':=rfl;have f2:Ec [(r,1000)] dd 0 st.h (Af [(1000,.arr sz E7)] Ae)=AC st.h r (.arr sz E7):=by
       funext i
       by_cases e:i=r
       .subst e;rw[AS];simp[Ec,hf,Af,HO.ren]
       .rw[BN _ _ _ _ e];have hn:Cf [(r,1000)] i=none:=by simp[Cf,CC (Ne.symm e)]
        have:(Nat.ble (BB dd 0) i&&Nat.blt i (BB dd 0))=false:=by
         rw[A2];simp only[ne_eq,Aj,EK,Do];omega
        simp only[Ec,hn,this]
      rw[f1,f2];exact h2
     .obtain⟨n',E7,h0,h1,h2⟩:=hk;simp only[Aj,Do,EI]at h0;have hrd:r≠BB dd 0:=fun e=>by have:=h0.2;rw[e]at this;simp at this
      refine⟨.gen [(r,1000)] 1,?_⟩;show(D7 [(r,1000)]&&DL st.h dd 1&&CI [(r,1000)] dd 1)=true/\_;refine⟨?_,?_⟩
      .have:CI [(r,1000)] dd 1=true:=by
        unfold CI
        have:(Nat.ble (BB dd 0) r&&Nat.blt r (BB dd 1))=false:=by
         rw[A2];simp only[ne_eq,Aj,EK,Do];unfold BB at hrd⊢;omega
        rw[this];rfl
       rw[this,h0.1.1];rfl
      rw[e1,e2,e3];refine⟨h1.1,fun g w vals q1 q2 q3=>(h1.2 g w vals q1 q2 q3).mono fun _ _ ⟨v,r',h',g',e1,⟨e2,e3⟩,rest⟩=>⟨v,r',h',g',e1,?_,rest⟩⟩;subst e2;subst e3;have f1:ren (Ft [(r,1000)] dd 1) (Af [(1000,.dead),(2000,.arr sz E7)] Ae) (.msl 2000 n')=.msl (BB dd 0) n':=rfl;have f2:Ec [(r,1000)] dd 1 st.h (Af [(1000,.dead),(2000,.arr sz E7)] Ae)=AC (AC st.h r .dead) (BB dd 0) (.arr sz E7):=by
       funext i
       by_cases e:i=BB dd 0
       .subst e;rw[AS];have hn:Cf [(r,1000)] (BB dd 0)=none:=by simp[Cf,CC hrd]
        have hb:(Nat.ble (BB dd 0) (BB dd 0)&&Nat.blt (BB dd 0) (BB dd 1))=true:=by
         unfold BB;simp only[Aj,EK,Do];omega
        simp only[Ec,hn,hb,IN];rfl
       .rw[BN _ _ _ _ e]
        by_cases e4:i=r
        .subst e4;rw[AS];simp[Ec,hf,Af,HO.ren]
        .rw[BN _ _ _ _ e4];have hn:Cf [(r,1000)] i=none:=by simp[Cf,CC (Ne.symm e4)]
         have:(Nat.ble (BB dd 0) i&&Nat.blt i (BB dd 1))=false:=by
          rw[A2];simp only[ne_eq,Aj,EK,Do];unfold BB at e⊢;omega
         simp only[Ec,hn,this]
      rw[f1,f2];exact h2
    .exact hk.elim
   .exact hk.elim
  .exact hk.elim
theorem jZ{d:Option Nat}{f:Operand}{dst:Option Nat}{ty:Nat}{gd:Option (Nat×Bool)}{next:Act->World->Prop}{Q:Exit->Act->World->Prop}(hP:cx.P=P)(hY:∀l σ h g w,D7 σ=true->Cw w0 g0 h0 h g w->Le h0 g0 w0 h g w->cx.yp l σ (CF σ g) w){ro:Option Nat}(hS:SR N ds w0 g0 h0 st g a w)(hk:GN cx dr d st (ev st.t f) (args.toList.map (ev st.t)) K)(hn:aI w0 g0 h0 st.h g w K fun x w'=>next (a.put dst x) w'):Oper.wpIn (Ia ro) 0 P ⟨dst,.call ⟨.value f,args,Hm⟩,ty,pos,after,gd⟩ a w next Q:=by
 subst hP;have hk:GN cx false d st (ev st.t f) (args.toList.map (ev st.t)) K:=by
  cases dr with
  |true=>exact fT hk
  |false=>exact hk
 have J4:∀(i:Nat) (av:AV) (x:Value),((args.toList.map (ev st.t)).map (str st.h))[i]?=some av->(args.map a.eval)[i]?=some x->AY g w Fs av x:=by
  intro i av x h1 h2;rw[BA,BA]at h1;rw[Array.getElem?_map]at h2;cases ho:args[i]? with
  |none=>rw[ho]at h2;simp at h2
  |some y=>
   rw[ho]at h2;have hy:args.toList[i]?=some y:=by simpa using ho
   rw[hy]at h1;simp only[Vy,Cm]at h1 h2;subst h1;subst h2;exact AY.str hS.inv.objs (hS.eval y)
 have CD:(args.map a.eval).size=((args.toList.map (ev st.t)).map (str st.h)).length:=by simp
 have hF:=AY.str hS.inv.objs (hS.eval f)
 -- a call of yield
 have yl:∀(l:Nat) (R:Ending->World->Prop),a.eval f=.func (.yield l) #[] #[]->YieldAt Fence.wide 0 cx.P l (args.map a.eval) w R->(∀e w',R e w'->∃v,e=.returned v/\next (a.put dst v) w') ->
   Oper.wpIn (Ia ro) 0 cx.P ⟨dst,.call ⟨.value f,args,Hm⟩,ty,pos,after,gd⟩ a w next Q:=by
  rintro l R hx ⟨fn,tm,Es,bd,h1,h2⟩ hR
  refine⟨fun _ _=>trivial,?_⟩;have e:(⟨dst,.call ⟨.value f,args,Hm⟩,ty,pos,after,gd⟩:Oper).semAt (Ia ro).round a.eval=execOp a.eval ⟨dst,.call ⟨.value f,args,Hm⟩,ty,pos,after,gd⟩:=Oper.semAt_eq ro a.eval _ (fun c e=>by cases e);have Ct:(execOp a.eval ⟨dst,.call ⟨.value f,args,Hm⟩,ty,pos,after,gd⟩).run cx.P w=.ok (.round l fn tm Es bd) w:=by
   simp only[execOp,resolve,hx,Deferred.ofValue,Sem.run_bind,Sem.run_pure,Result.andThen_ok,invoke];simpa using h1
  rw[e,Ct];refine(show(_->_)/\RoundIn (Ia ro) 0 cx.P l fn tm Es bd w _ from⟨fun e=>by(cases e),RoundIn.mono h2 fun e w' h=>?_⟩);obtain⟨v,rfl,hn⟩:=hR e w' h;exact hn
 -- the call itself
 have go:∀(Q' : AV->(Nat->HO)->Prop),(∀r h',Q' r h'->h'=Ae/\K r st.h)->Gq cx.P (fun _ _ _=>True) (str st.h (ev st.t f)) ((args.toList.map (ev st.t)).map (str st.h)) Ae Q' ->
   Oper.wpIn (Ia ro) 0 cx.P ⟨dst,.call ⟨.value f,args,Hm⟩,ty,pos,after,gd⟩ a w next Q:=by
  intro Q' hQ hc
  have fin:∀{fn:Nat} {l:List AV} {vals:Array Value},A6 cx.P fn l Ae Q'->vals.size=l.length->(∀(i:Nat) (av:AV) (x:Value),l[i]?=some av->vals[i]?=some x->AY g w Fs av x) ->
    (execOp a.eval ⟨dst,.call ⟨.value f,args,Hm⟩,ty,pos,after,gd⟩).run cx.P w=.ok (.enter fn vals) w->Oper.wpIn (Ia ro) 0 cx.P ⟨dst,.call ⟨.value f,args,Hm⟩,ty,pos,after,gd⟩ a w next Q:=by
   intro fn l vals hc hs hv Ct;refine Ni (fun c e=>by cases e) ?_;unfold Oper.wp;rw[Ct];exact fU hS.inv hc hs hv (fun v r h' g' w' hq _ hI IF hr=>hn r _ g' w' v (hQ r h' hq).2 hI IF (hr.up _)) (fun r h' hq=>(hQ r h' hq).1)
  unfold Gq at hc;split at hc
  .rename_i fn e;rw[e]at hF;have hx:=hF.v_eq;refine fin hc CD J4 ?_;have RU : a.eval f=.func (.func fn) #[] #[]:=hx;simp only[execOp,resolve,RU,Deferred.ofValue,Sem.run_bind,Sem.run_pure,Result.andThen_ok,invoke];rw[F5 hc.1];simp
  .rename_i fn caps e;rw[e]at hF;generalize hx:a.eval f=fv at hF;cases hF with
   |clo _ _ _ vs FG KH=>
    refine fin hc (vals:=args.map a.eval++vs) (by simp[FG]) (fun i av x h1 h2=>?_) ?_
    .rw[List.getElem?_append]at h1;rw[Array.getElem?_append]at h2;have hl:((args.toList.map (ev st.t)).map (str st.h)).length=(args.map a.eval).size:=CD.symm;rw[hl]at h1;split at h1
     .rename_i hi;rw[AX hi]at h2;exact J4 i av x h1 h2
     .rename_i hi;rw[AI hi]at h2;exact KH _ av x h1 h2
    .simp only[execOp,resolve,hx,Deferred.ofValue,Sem.run_bind,Sem.run_pure,Result.andThen_ok,invoke];rw[F5 hc.1];simp
  .rename_i l e;rw[e]at hF;have hU:Az Ae=Fs:=by funext i;unfold Az Fs Ae;simp
   refine yl l _ hF.v_eq (SP (C:=YieldAt Fence.wide 0 cx.P l (args.map a.eval) w) (R:=fun e w'=>∃v,e=.returned v/\next (a.put dst v) w') YieldAt.imp hS.inv (fun pB=>hc g w _ CD (fun i av x h1 h2=>by rw[hU];exact J4 i av x h1 h2) pB trivial)
    (fun v r h' g' w' hq _ hI IF hr=>⟨v,rfl,hn r _ g' w' v (hQ r h' hq).2 hI IF (hr.up _)⟩) (fun r h' hq=>(hQ r h' hq).1)) fun _ _ h=>h
  .exact hc.elim
 have pure:(∃res,PV cx.P (str st.h (ev st.t f)) ((args.toList.map (ev st.t)).map (str st.h)) res/\K res st.h)->Oper.wpIn (Ia ro) 0 cx.P ⟨dst,.call ⟨.value f,args,Hm⟩,ty,pos,after,gd⟩ a w next Q:=by
  rintro⟨res,h1,h2⟩
  refine go (fun r h'=>r=res/\h'=Ae) (fun r h' hq=>⟨hq.2,by rw[hq.1];exact h2⟩) ?_;unfold PV at h1;unfold Gq;split at h1
  .rename_i fn e;rw[e];exact h1
  .rename_i fn caps e;rw[e];exact h1
  .exact h1.elim
 unfold GN at hk
 .obtain⟨m,hm⟩:=hk;cases m with
  |pure=>exact pure hm
  |rel=>exact go _ (fun r h' hq=>hq) hm
  |gen σ nn=>
   simp only at hm;cases d with
   |none=>exact hm.elim
   |some d=>
    simp only at hm;obtain⟨Gv,hc⟩:=hm;have hσ:D7 σ=true:=by simp only[Aj]at Gv;exact Gv.1.1
    obtain⟨hR,_⟩:=TB hS.inv hσ;have kY:=(hS.eval f).ren hR;have TG:∀(i:Nat) (av:AV) (x:Value),((args.toList.map (ev st.t)).map (ren (Cf σ) st.h))[i]?=some av->(args.map a.eval)[i]?=some x->AY (CF σ g) w (Az (Fo σ st.h)) av x:=by
     intro i av x h1 h2;rw[BA,BA]at h1;rw[Array.getElem?_map]at h2;cases ho:args[i]? with
     |none=>rw[ho]at h2;simp at h2
     |some y=>
      rw[ho]at h2;have hy:args.toList[i]?=some y:=by simpa using ho
      rw[hy]at h1;simp only[Vy,Cm]at h1 h2;subst h1;subst h2;exact(hS.eval y).ren hR
    have Ph:(args.map a.eval).size=((args.toList.map (ev st.t)).map (ren (Cf σ) st.h)).length:=by simp
    have fin:∀{fn:Nat} {l:List AV} {vals:Array Value},A6 cx.P fn l (Fo σ st.h) (fun r h'=>K (ren (Ft σ d nn) h' r) (Ec σ d nn st.h h'))->vals.size=l.length ->
      (∀(i:Nat) (av:AV) (x:Value),l[i]?=some av->vals[i]?=some x->AY (CF σ g) w (Az (Fo σ st.h)) av x) ->
      (execOp a.eval ⟨dst,.call ⟨.value f,args,Hm⟩,ty,pos,after,gd⟩).run cx.P w=.ok (.enter fn vals) w->Oper.wpIn (Ia ro) 0 cx.P ⟨dst,.call ⟨.value f,args,Hm⟩,ty,pos,after,gd⟩ a w next Q:=by
     intro fn l vals hc hs hv Ct;refine Ni (fun c e=>by cases e) ?_;unfold Oper.wp;rw[Ct];exact j7 hS.inv Gv hc hs hv (fun v r h' g' w' hq hI IF hr=>hn _ _ g' w' v hq hI IF hr)
    unfold Gq at hc;split at hc
    .rename_i fn e;rw[e]at kY;have hx:a.eval f=.func (.func fn) #[] #[]:=kY.v_eq;refine fin hc Ph TG ?_;simp only[execOp,resolve,hx,Deferred.ofValue,Sem.run_bind,Sem.run_pure,Result.andThen_ok,invoke];rw[F5 hc.1];simp
    .rename_i fn caps e;rw[e]at kY;generalize hx:a.eval f=fv at kY;cases kY with
     |clo _ _ _ vs FG KH=>
      refine fin hc (vals:=args.map a.eval++vs) (by simp[FG]) (fun i av x h1 h2=>?_) ?_
      .rw[List.getElem?_append]at h1;rw[Array.getElem?_append]at h2;have hl:((args.toList.map (ev st.t)).map (ren (Cf σ) st.h)).length=(args.map a.eval).size:=Ph.symm;rw[hl]at h1;split at h1
       .rename_i hi;rw[AX hi]at h2;exact TG i av x h1 h2
       .rename_i hi;rw[AI hi]at h2;exact KH _ av x h1 h2
      .simp only[execOp,resolve,hx,Deferred.ofValue,Sem.run_bind,Sem.run_pure,Result.andThen_ok,invoke];rw[F5 hc.1];simp
    .rename_i l e;rw[e]at kY
     exact yl l _ kY.v_eq (Kx (C:=YieldAt Fence.wide 0 cx.P l (args.map a.eval) w) (R:=fun e w'=>∃v,e=.returned v/\next (a.put dst v) w') YieldAt.imp hS.inv Gv (fun pB=>hc (CF σ g) w _ Ph TG pB (hY l σ _ _ _ hσ hS.inv hS.le))
      (fun v r h' g' w' hq hI IF hr=>⟨v,rfl,hn _ _ g' w' v hq hI IF hr⟩)) fun _ _ h=>h
    .exact hc.elim
  |geny σ nn=>
   simp only at hm;cases d with
   |none=>exact hm.elim
   |some d=>
    simp only at hm;obtain⟨Gv,hc⟩:=hm;have hσ:D7 σ=true:=by simp only[Aj]at Gv;exact Gv.1.1
    obtain⟨hR,_⟩:=TB hS.inv hσ;have kY:=(hS.eval f).ren hR;have TG:∀(i:Nat) (av:AV) (x:Value),((args.toList.map (ev st.t)).map (ren (Cf σ) st.h))[i]?=some av->(args.map a.eval)[i]?=some x->AY (CF σ g) w (Az (Fo σ st.h)) av x:=by
     intro i av x h1 h2;rw[BA,BA]at h1;rw[Array.getElem?_map]at h2;cases ho:args[i]? with
     |none=>rw[ho]at h2;simp at h2
     |some y=>
      rw[ho]at h2;have hy:args.toList[i]?=some y:=by simpa using ho
      rw[hy]at h1;simp only[Vy,Cm]at h1 h2;subst h1;subst h2;exact(hS.eval y).ren hR
    have Ph:(args.map a.eval).size=((args.toList.map (ev st.t)).map (ren (Cf σ) st.h)).length:=by simp
    split at hc
    .rename_i fn caps e;rw[e]at kY;generalize hx:a.eval f=fv at kY;cases kY with
     |clo _ _ _ vs FG KH=>
      have Ct:(execOp a.eval ⟨dst,.call ⟨.value f,args,Hm⟩,ty,pos,after,gd⟩).run cx.P w=.ok (.enter fn (args.map a.eval++vs)) w:=by
       simp only[execOp,resolve,hx,Deferred.ofValue,Sem.run_bind,Sem.run_pure,Result.andThen_ok,invoke];rw[F5 hc.1];simp
      refine Ni (fun c e=>by cases e) ?_;unfold Oper.wp;rw[Ct];refine Kx (C:=Calls cx.P fn (args.map a.eval++vs) w) (fun h k=>h.mono k) hS.inv Gv (fun pB=>hc.2 (CF σ g) w _ (by simp[FG]) (fun i av x h1 h2=>?_) pB (fun l=>hY l σ _ _ _ hσ hS.inv hS.le)) (fun v r h' g' w' hq hI IF hr=>hn _ _ g' w' v hq hI IF hr);rw[List.getElem?_append]at h1;rw[Array.getElem?_append]at h2;have hl:((args.toList.map (ev st.t)).map (ren (Cf σ) st.h)).length=(args.map a.eval).size:=Ph.symm;rw[hl]at h1;split at h1
      .rename_i hi;rw[AX hi]at h2;exact TG i av x h1 h2
      .rename_i hi;rw[AI hi]at h2;exact KH _ av x h1 h2
    .exact hc.elim
end
section
variable {P:Program}{N:Nat}{ds:List Deferred}{w0:World}{g0:Gh}{h0:Nat->HO}{st:St}{g:Gh}{a:Act}{w:World}
theorem Yo(hT:BY P cx.T){b:Builtin}{dst:Option Nat}{ty:Nat}{gd:Option (Nat×Bool)}{next:Act->World->Prop}{Q:Exit->Act->World->Prop}(hS:SR N ds w0 g0 h0 st g a w)(hk:Gb cx dst st.h b Hm.toList (args.toList.map (ev st.t)) K)(hn:aI w0 g0 h0 st.h g w K fun x w'=>next (a.put dst x) w'):Oper.wp P ⟨dst,.call ⟨.builtin b,args,Hm⟩,ty,pos,after,gd⟩ a w next Q:=by
 have hI:=hS.inv;have hE:=hS.eval;obtain⟨l⟩:=args;obtain⟨tl⟩:=Hm;unfold Gb at hk;split at hk
 .rename_i x t e1 e2
  match l,e1 with
  | [y],e1=>
   simp only[Bv,IM,Nt,and_true]at e1;subst e1;simp only at e2;subst e2;exact DK (m:=Builtin.len_ #[t] ty #[a.eval y]) (by simp[execOp,resolve,invoke,builtin]) (Br.does hI (ma hT hI.objs (hE y) hk)) hn
 .rename_i s x t t' e1 e2
  match l,e1 with
  | [y,z],e1=>
   simp only[Bv,IM,Nt,and_true]at e1;obtain⟨rfl,rfl⟩:=e1;simp only at e2;subst e2;split at hk
   .rename_i ht;obtain rfl:=AW ht;exact DK (m:=Builtin.append_ #[t,t] ty #[a.eval y,a.eval z]) (by simp[execOp,resolve,invoke,builtin]) (aU hI hT (hE y) (hE z) hk) hn
   simp_all
 .rename_i x y Hm e1
  match l,e1 with
  | [y,z],e1=>
   simp only[Bv,IM,Nt,and_true]at e1;obtain⟨rfl,rfl⟩:=e1;exact DK (m:=Builtin.max_ ⟨tl⟩ ty #[a.eval y,a.eval z]) (by simp[execOp,resolve,invoke,builtin]) (Br.does hI (ql (hE y) (hE z) hk)) hn
 .rename_i x y Hm e1
  match l,e1 with
  | [y,z],e1=>
   simp only[Bv,IM,Nt,and_true]at e1;obtain⟨rfl,rfl⟩:=e1;exact DK (m:=Builtin.min_ ⟨tl⟩ ty #[a.eval y,a.eval z]) (by simp[execOp,resolve,invoke,builtin]) (Br.does hI (qn (hE y) (hE z) hk)) hn
 simp_all
theorem oA(hT:BY P cx.T){next:Act->World->Prop}{Q:Exit->Act->World->Prop}(hS:SR N ds w0 g0 h0 st g a w)(hk:F7 cx dr o st K)(hv:∀f args Hm,o.op≠.call ⟨.value f,args,Hm⟩)(hn:aI w0 g0 h0 st.h g w K fun x w'=>next (a.put o.dst x) w'):o.wp P a w next Q:=by
 have hI:=hS.inv;have hE:=hS.eval;obtain⟨dst,op,ty,pos,after,gd⟩:=o;unfold F7 at hk;cases op with
 |move x=>exact ff hI (x:=a.eval x) rfl hk (hE x) hn
 |assign x=>
  obtain⟨g',av,h',q1,q2,q3,q4⟩:=aW hI (hE x) hk;exact hn _ _ _ _ _ q1 q2 q3 q4
 |pick c x y=>exact DK (m:=do pure (if <-asBool (a.eval c)then a.eval x else a.eval y)) (by simp[execOp]) (Br.does hI (mP (hE c) (hE x) (hE y) hk)) hn
 |alloc e=>exact DK rfl (fA hI hT hk) hn
 |box e x=>exact DK rfl (oH hI (hE x) hk) hn
 |build t ps=>exact DK rfl (Br.does hI (fP hT hE hk)) hn
 |buildSlice t n ps=>exact DK rfl (SO hI hT hE hk) hn
 |insert t m k x=>exact X3 rfl (NO hI hT (hE m) (hE k) (hE x) hk) hn
 |load t x=>exact DK rfl (Br.does hI (We hI.objs hT (hE x) hk)) hn
 |store t p x=>exact X3 rfl (jk hI hT (hE p) (hE x) hk) hn
 |nilCheck x=>
  obtain⟨h1,h2⟩:=XI (P:=P) (w:=w) (hE x) hk (pos:=pos) (after:=after) (gd:=gd) (dst:=dst) (ty:=ty) (ρ:=a.eval) rfl<;>grind [ff]
 |binOp op t x y u=>exact DK rfl (Br.does hI (jS hT (hE x) (hE y) (fun v e=>by subst e;rfl) hk)) hn
 |unOp op t x=>exact DK rfl (Br.does hI (nP (hE x) hk)) hn
 |convert s t x=>
  cases dr with
  |true=>exact DK rfl (Br.does hI (Yw hT (hE x) hk)) hn
  |false=>exact DK rfl (fZ hI hT (hE x) hk) hn
 |makeFunc fn first cap=>exact DK rfl (Br.does hI (XG hI.objs hE hk)) hn
 |makeMap t r=>
  cases r with
  |some r=>simp_all
  |none=>exact DK rfl (ZC hI hk) hn
 |makeSlice t n c=>exact DK rfl (Vn hI hT (hE n) (hE c) hk) hn
 |slice t x lo hi mx=>
  cases dr with
  |true=>
   cases hp:SK cx.pl.tok dst with
   |none=>
    have hk' : Ip cx dst st.h t (ev st.t x) (CJ st.t lo) (CJ st.t hi) (CJ st.t mx) K:=by
     simp_all
    exact DK rfl (Wx hI hT hE (hE x) hk') hn
   |some _=>
    have hk' : Ut cx dst st.h t (ev st.t x) lo (CJ st.t hi) mx K:=by
     simp_all
    unfold Ut at hk';split at hk'
    .exact DK rfl (eI hI hT hE (hE x) hk') hn
    simp_all
  |false=>
   cases hp:SK cx.pl.tok dst with
   |none=>
    have hk' : Ip cx dst st.h t (ev st.t x) (CJ st.t lo) (CJ st.t hi) (CJ st.t mx) K:=by
     simp_all
    exact DK rfl (Wx hI hT hE (hE x) hk') hn
   |some _=>
    have hk' : ne cx dst st.h t (ev st.t x) st.t lo hi mx K:=by
     simp_all
    cases lo with
    |some lo=>exact DK rfl (af hI hT hE (hE x) hk') hn
    |none=>
     unfold ne at hk';dsimp only at hk';split at hk'
     .exact DK rfl (Br.does hI (fI hI.objs hT (hE x) hk')) hn
     .unfold Ut at hk';split at hk'
      .exact DK rfl (eI hI hT hE (hE x) hk') hn
      simp_all
 |fieldAddr s x f=>exact DK rfl (Br.does hI (gn hT (hE x) hk)) hn
 |field s x f=>exact DK rfl (Br.does hI (bx hT (hE x) hk)) hn
 |indexAddr t x i=>exact DK rfl (Br.does hI (Vk hT (hE x) (hE i) hk)) hn
 |index t x i=>exact DK rfl (Br.does hI (gU hT (hE x) (hE i) hk)) hn
 |lookup t x i ok=>
  have hk:Nb cx.T st.h t (ev st.t x) (ev st.t i) ok fun v=>K v st.h:=by
   grind [ig]
  exact DK rfl (Br.does hI (cg hT hI.objs (hE x) (hE i) hk)) hn
 |mapUpdate t m k x=>exact X3 rfl (NO hI hT (hE m) (hE k) (hE x) hk) hn
 |range t x=>
  simp only at hk;split at hk
  .rename_i kt e ht;exact DK rfl (iV hI hT ht (hE x) hk) hn
  simp_all
 |next it s=>
  cases s with
  |true=>simp_all
  |false=>exact DK rfl (mq hI (hE it) hk) hn
 |entry it=>exact DK rfl (Br.does hI (gj hI.objs (hE it) hk)) hn
 |extract x i=>exact DK rfl (Br.does hI (YG (hE x) hk)) hn
 |call c=>
  obtain⟨uY,args,Hm⟩:=c<;>grind [Yo]
 |_=>simp_all
theorem jO(hP:cx.P=P)(hY:∀l σ h g w,D7 σ=true->Cw w0 g0 h0 h g w->Le h0 g0 w0 h g w->cx.yp l σ (CF σ g) w){ro:Option Nat}(hT:BY P cx.T){next:Act->World->Prop}{Q:Exit->Act->World->Prop}(hS:SR N ds w0 g0 h0 st g a w)(hk:F7 cx dr o st K)(hn:aI w0 g0 h0 st.h g w K fun x w'=>next (a.put o.dst x) w'):o.wpIn (Ia ro) 0 P a w next Q:=by
 by_cases hv:∃f args Hm,o.op=.call ⟨.value f,args,Hm⟩
 .obtain⟨f,args,Hm,e⟩:=hv;obtain⟨dst,op,ty,pos,after,gd⟩:=o;cases e;exact jZ hP hY hS hk hn
 .refine Ni (fun c e=>?_) (oA hT hS hk (fun f args Hm e=>hv ⟨f,args,Hm,e⟩) hn);obtain⟨dst,op,ty,pos,after,gd⟩:=o;cases e;exact hk.elim
theorem yi{p:Nat->Prop}(h:∃n,p n):∃n,p n/\∀m,m<n->¬p m:=by
 apply A9;intro hc
 have:∀n,¬p n:=fun n=>by
  induction n using Nat.strongRecOn<;>grind [Nat.strongRecOn]
 simp_all
theorem Sc{m:Nat}{c:Code}{Q:Exit->Act->World->Prop}(I:Nat->Act->World->Prop)(k:Nat)(h0:I k a w)(round:∀n a w,I n a w->c.wpIn F m P (Exit.then (fun a' w'=>∃n',n' < n/\I n' a' w') Q) a w):(Code.loop c).wpIn F m P Q a w:=by
 classical
 have hex:∀a w,(∃n,I n a w)->∃n,I n a w/\∀n',n' < n->¬I n' a w:=fun a w h=>yi h;refine wpIn_loop (fun a w=>∃n,I n a w) (fun a w=>if h:∃n,I n a w then(hex a w h).choose else 0) ⟨k,h0⟩ fun a w h=>?_;have hs:=(hex a w h).choose_spec;refine wpIn_mono (round _ a w hs.1) fun e a' w' q=>?_;cases e with
 |normal=>
  obtain⟨n',E1,hn⟩:=q;have h' : ∃n,I n a' w':=⟨n',hn⟩;refine⟨h',?_⟩
  grind
 |_=>exact q
end
section
variable {P:Program}{N:Nat}{ds:List Deferred}{w0:World}{g0:Gh}{h0:Nat->HO}{st:St}{g:Gh}{a:Act}{w:World}
theorem fW(hT:BY P T){ty e k ty2 b o n c:Nat}(ht:(T ty).d=.slice e)(hk:(T e).size=k+1)(hz:(T e).zc.length=k+1)(Xw:∀v∈(T e).zc,v.oneCell'=true){Ej:Array Value}{E:TypeId}(hb:w.heap[b]?=some (.cells Ej E (0,0)))(hn:0<n)(IF:o+n*(k+1)<=Ej.size) :
  (Builtin.clear_ #[ty] ty2 #[.slice (some ⟨b,o,none⟩) n c]).run P w=.ok (.tuple #[]) (w.setRow b (over Ej.toList o (List.replicate n (T e).zc).flatten).toArray):=by
 obtain⟨z,z1,z2⟩:=WN (w:=w) hT hk;have tX:(T e).zc≠[]:=fun e0=>by simp_all
 have tO:(Builtin.zeroCells z.cells n).toList=(List.replicate n (T e).zc).flatten:=by
  rw[H6 n _ tX,hz,z2];have e6:z.cells.size=k+1:=by simp_all
  unfold Builtin.zeroCells;simp[e6,Array.getElem!_eq_getD]
 have CD:(List.replicate n (T e).zc).flatten.length=n*(k+1):=by
  simp_all
 have Gw:=run_storeCells_at P b o E (List.replicate n (T e).zc).flatten 0 Ej w hb aa0 (fun v hv=>by
  grind [List.mem_flatten])
 simp only[HH]at Gw;rw[Nk _ _ _ (by simp_all)];obtain⟨m,rfl⟩:∃m,n=m+1:=⟨n-1,by omega⟩;simp only[Builtin.clear_,Sem.run_bind,List.getElem?_toArray,DN,run_underlying (hT.slice ht),Result.andThen_ok,z1,tO,Gw,Sem.run_pure]
theorem bo(hT:BY P T){ty e ty2 c:Nat}(ht:(T ty).d=.slice e)(x:Option Addr) :
  (Builtin.clear_ #[ty] ty2 #[.slice x 0 c]).run P w=.ok (.tuple #[]) w:=by
 cases x<;>simp only[Builtin.clear_,Sem.run_bind,List.getElem?_toArray,DN,run_underlying (hT.slice ht),Result.andThen_ok,Sem.run_pure]
theorem mZ{d:Nat}(hd:d<a.tmps.size):(a.put (some d) x).eval (.tmp d)=x:=by
 show(a.tmps.setIfInBounds d x).getD d undef=x;simp_all
theorem lK(h:Nat->HO)(r:Nat):AC h r (h r)=h:=funext fun i=>by
 grind [AS,BN]
theorem bX(h:Zq o o2=true):∃ty x lo d ty2 pos after uL qI WW,o=⟨some d,.slice ty x (some lo) none none,ty2,pos,after,none⟩/\o2=⟨none,.call ⟨.builtin .clear,#[.tmp d],#[ty]⟩,uL,qI,WW,none⟩:=by
 obtain⟨dst,op,t2,p1,a1,gd⟩:=o;obtain⟨Agu,op2,t3,p2,a2,gd2⟩:=o2;unfold Zq at h;split at h
 .rename_i c e1;split at h
  .rename_i e2;split at h
   .rename_i ty x lo e3;split at h
    .rename_i d d' ty' e4 e5 e6 e7 e8 e9;obtain⟨uY,⟨args⟩,⟨Hm⟩⟩:=c;simp only at e1 e2 e3 e4 e5 e6 e7 e8 e9;simp only[Aj]at h;obtain rfl:=AW h.1;obtain rfl:=AW h.2;subst e1 e2 e3 e4 e5 e6 e7 e8 e9
     grind
    simp_all
   simp_all
  simp_all
 simp_all
theorem oX(hT:BY P cx.T){ro:Option Nat}(hd:∀i,o.dst=some i->i<N)(hc:Zq o o2=true){K:St->Prop}(hS:SR N ds w0 g0 h0 st g a w)(hk:oW cx o st K){next:Act->World->Prop}{Q:Exit->Act->World->Prop}(hn:∀EA g' a' w',K EA->SR N ds w0 g0 h0 EA g' a' w'->next a' w') :
  o.guard=none/\o2.guard=none/\o.wpIn (Ia ro) 0 P a w (fun a1 w1=>o2.wpIn (Ia ro) 0 P a1 w1 next Q) Q:=by
 obtain⟨ty,x,lo,d,ty2,pos,after,uL,qI,WW,rfl,rfl⟩:=bX hc;refine⟨rfl,rfl,?_⟩;have hI:=hS.inv;have hE:=hS.eval;have hdN:d<a.tmps.size:=by grind [SR.size]
 -- what is to be shown of the two operations
 have two:∀(v:Value) (EA : St) (g' : Gh) (w' : World),(Instr.sliceAt ty (a.eval x) (some (a.eval lo)) none none).run P w=.ok v w->(Builtin.clear_ #[ty] uL #[v]).run P w=.ok (.tuple #[]) w'->K ⟨JJ st.t d .junk,EA.h⟩->Cw w0 g0 h0 EA.h g' w'->Le st.h g w EA.h g' w' ->
   Oper.wpIn (Ia ro) 0 P ⟨some d,.slice ty x (some lo) none none,ty2,pos,after,none⟩ a w (fun a1 w1=>Oper.wpIn (Ia ro) 0 P ⟨none,.call ⟨.builtin .clear,#[.tmp d],#[ty]⟩,uL,qI,WW,none⟩ a1 w1 next Q) Q:=by
  intro v EA g' w' r1 r2 hk hI' IF;refine Ni (by simp_all) ?_;unfold Oper.wp;have hx:execOp a.eval ⟨some d,.slice ty x (some lo) none none,ty2,pos,after,none⟩=(do pure (Next.value (<-Instr.sliceAt ty (a.eval x) (some (a.eval lo)) none none))):=rfl;rw[hx,Sem.run_bind,r1];refine Ni (by simp_all) ?_;unfold Oper.wp;have vA:execOp (a.put (some d) v).eval ⟨none,.call ⟨.builtin .clear,#[.tmp d],#[ty]⟩,uL,qI,WW,none⟩=(do pure (Next.value (<-Builtin.clear_ #[ty] uL #[v]))):=by
   grind [execOp,resolve,invoke,builtin,mZ]
  rw[vA,Sem.run_bind,r2];have S1:SR N ds w0 g0 h0 (st.put (some d) .junk st.h) g (a.put (some d) v) w:=hS.put hd hI (.refl _ _ _) (.junk _ _);have S2:SR N ds w0 g0 h0 ((st.put (some d) .junk st.h).put none (.v (.tuple #[])) EA.h) g' ((a.put (some d) v).put none (.tuple #[])) w':=S1.put (by simp_all) hI' IF (.v _ _);exact hn _ g' _ w' hk S2
 unfold oW at hk;simp only at hk;split at hk
 .rename_i e hs;split at hk
  .rename_i r n ex;split at hk
   .rename_i i ei;split at hk
    .rename_i sz es er;split at hk
     .rename_i hb;obtain rfl:=AW hb;split at hk
      .simp_all
      .rename_i k FG;split at hk
       .rename_i jB;have jB:=AW jB;obtain⟨⟨rfl,i0,i1⟩,hk⟩:=hk;unfold wE at hk;split at hk
        .rename_i GI;have GI:∀v∈(cx.T e).zc,v.oneCell'=true:=BO.1 GI;have ho:=hI.objs r;rw[er]at ho;obtain⟨t1,l1,al,a2⟩:=ho;have og:=hE x;rw[ex]at og;have xO:=hE lo;rw[ei]at xO;have xO:=xO.v_eq;generalize hvx:a.eval x=vx at og two;rw[xO]at two;cases og with
         |msl _ _ _ ad cap hu ht' bM ha RU=>
          have hv:=RU l1.symm;have KH:es.length<=cap:=by
           grind
          have Ct:=EW (P:=P) (w:=w) hT hs FG ad es.length cap (some i) none none (.inl rfl) (by simp_all) (by simp_all) (by simp_all) aa1;simp only[Ev,L3,FI,Vy,Option.map_none]at Ct
          by_cases hz:i.toNat=es.length
          .-- nothing is cleared
           have e1:es.length-i.toNat=0:=by omega
           rw[e1]at Ct hk;refine two _ st g w Ct (bo hT hs _) ?_ hI (.refl _ _ _);have e2:es.take i.toNat++List.replicate 0 ((cx.T e).zc.map AV.v)=es:=by simp_all
           rw[e2,<-er,lK]at hk;exact hk
          .have E1:i.toNat<es.length:=by omega
           rcases a2 with ⟨b1,_⟩ | ⟨b,Mk,E,vs,b1,b2,b3,b4,b5,b6,b7⟩
           .simp_all
           .rw[b1]at hv;cases hv;have D8:¬cap=i.toNat:=by omega
            rw[AI D8]at Ct;have AbH:Option.map (fun x:Addr=>x.add (i.toNat*(cx.T e).size)) (some ⟨b,0,none⟩)=some ⟨b,i.toNat*(cx.T e).size,none⟩:=by grind [Addr.add]
            rw[AbH]at Ct;have Xv:es.length*(cx.T e).size<=cap*(cx.T e).size:=Bx _ b3;have gP:i.toNat*(cx.T e).size+(es.length-i.toNat)*(cx.T e).size=es.length*(cx.T e).size:=by rw[<-Mi];simp_all
            have hcl:=fW (w:=w) (ty2:=uL) (c:=cap-i.toNat) hT hs FG (jB.trans FG) GI b4 (n:=es.length-i.toNat) (o:=i.toNat*(cx.T e).size) aa0 (by simp_all);have hl:(st.h r).live:=by rw[er];trivial
            generalize hZ:(List.replicate (es.length-i.toNat) (cx.T e).zc).flatten=Z at hcl;have hZl:Z.length=(es.length-i.toNat)*(cx.T e).size:=by
             rw[<-hZ,Dk (n:=(cx.T e).size) (fun c hc=>by simp_all),List.length_replicate]
            have Ph:(es.take i.toNat++List.replicate (es.length-i.toNat) ((cx.T e).zc.map AV.v)).length=es.length:=by
             simp_all
            have AbJ:∀c∈es.take i.toNat++List.replicate (es.length-i.toNat) ((cx.T e).zc.map AV.v),c.length=(cx.T e).size:=fun c hc=>by
             grind
            have AhQ:vs.toList.length=cap*(cx.T e).size:=by omega
            have hfl:(es.take i.toNat++List.replicate (es.length-i.toNat) ((cx.T e).zc.map AV.v)).flatten=over es.flatten (i.toNat*(cx.T e).size) (Z.map AV.v):=by
             rw[Nk _ _ _ (by rw[BR,hZl,gP,Dk al];omega),Df,N3 al,BR,hZl,gP,D0 (by rw[Dk al];omega),DV,<-hZ,List.map_flatten,List.map_replicate]
            have tV:((over vs.toList (i.toNat*(cx.T e).size) Z).toArray.toList.take (es.length*(cx.T e).size))=over (vs.toList.take (es.length*(cx.T e).size)) (i.toNat*(cx.T e).size) Z:=
             Wn _ _ _ _ aa0 aa0
            have hZr:Ca g w Fs (Z.map AV.v) Z:=Ca.vals (by
             have xd : ∀l:List AV,(∀a∈l,one a=true)->G9 l=true:=by
              intro l
              induction l with
              |nil=>intro _;rfl
              |cons a l ih=>intro h;simp[G9,h a (List.mem_cons_self ..),ih (fun b hb=>h b (List.mem_cons_of_mem _ hb))]
             refine xd _ fun q hq=>?_;obtain⟨y,hy,rfl⟩:=Ar.1 hq;rw[<-hZ]at hy;obtain⟨l,hl,hy⟩:=Fk.1 hy;rw[List.eq_of_mem_replicate hl]at hy;exact GI y hy)
            have tK:Ca g w Fs (over es.flatten (i.toNat*(cx.T e).size) (Z.map AV.v)) (over (vs.toList.take (es.length*(cx.T e).size)) (i.toNat*(cx.T e).size) Z):=
             b6.over hZr _ (by rw[BR,hZl,gP,Dk al];omega)
            obtain⟨k1,k2⟩:=hI.write hl b2 (.arr (cx.T e).size (es.take i.toNat++List.replicate (es.length-i.toNat) ((cx.T e).zc.map AV.v))) b4 (over vs.toList (i.toNat*(cx.T e).size) Z).toArray (g.ln r) (g.own r) g.S aa1 rfl (fun b' e=>by simp_all) (fun _ _ h=>h)
             (fun b' o hs=>.inl hs) (fun o hs=>absurd hs (b7 o)) (fun hg IJ EN=>by
              obtain⟨u1,u2,u3,u4⟩:=Bh g r (g.ρ r) (g.ln r) (g.tk r) (g.own r) g.S;refine⟨u3.trans t1,u2.trans aa0,AbJ,.inr ⟨b,cap,E,_,?_,u4.trans b2,by omega,EN,?_,?_,b7⟩⟩
              .simp_all
              .simp only[List.size_toArray,Gj,Array.length_toList];exact b5
              .rw[Ph,tV,hfl];exact tK.mono IJ (fun _ h=>h) (fun _ h=>h.elim))
            exact two _ ⟨st.t,_⟩ _ _ Ct hcl hk k1 k2
        simp_all
       simp_all
     simp_all
    simp_all
   simp_all
  simp_all
 simp_all
end
end Go.Eng
