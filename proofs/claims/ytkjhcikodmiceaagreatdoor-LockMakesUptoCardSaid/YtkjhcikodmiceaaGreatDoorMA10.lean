/- Lemmas 10. -/
import Derived.Test.YtkjhcikodmiceaaGreatDoorMA09
namespace Go.Eng
variable {o:Oper}{K:HK}{args:Array Operand}{cx:Cx}{HA:Array TypeId}{vals:Array Value}{after:Array Edge}{dr:Bool}{pos:String}{x:Value}{F:Fence}{o2:Oper}{T:G4}(σ:JD)
theorem QB{h:Nat->HO}{d:Nat}:∀{n:Nat},Eg h d n=true->∀k,k<n->h (BJ d k)=.free
 |0,_,k,hk=>by omega
 |n+1,hf,k,hk=>by
  simp only[Eg,Aq]at hf
  by_cases e:k=n
  .grind
  .exact QB hf.2 k Wk
theorem Ot{d nn:Nat}:∀{σ:JD},Dk σ d nn=true->∀{i j},CB σ i=some j->¬(BJ d 0<=i/\i<BJ d nn)
 | [],_,i,j,h=>by grind [CB]
 |(a,b)::r,hs,i,j,hf=>by
  simp only[Dk,Aq]at hs;unfold CB at hf
  by_cases e1:a=i
  .grind [Nat.ble_eq_true_of_le,Nat.blt_eq]
  .simp only[DY e1,G7]at hf;exact Ot hs.2 hf
section
variable {P:Program}{w0:World}{g0:D}{h0 h:Nat->HO}{g:D}{w:World}
def D3(g:D):D:=
 ⟨fun j=>match IB σ j with | some i=>g.ρ i | none=>.nilIface,fun j=>match IB σ j with | some i=>g.ln i | none=>0,fun j=>match IB σ j with | some i=>g.tk i | none=>false,
  fun j=>match IB σ j with | some i=>g.own i | none=>none,g.S⟩
def src(d nn:Nat)(i:Nat):Option Nat:=
 match CB σ i with
 |some j=>some j
 |none=>match Nat.ble (BJ d 0) i&&Nat.blt i (BJ d nn)with |true=>some (2000+(i-BJ d 0)) |false=>none
def Ho(d nn:Nat)(g g' : D):D:=
 ⟨fun i=>match src σ d nn i with | some j=>g'.ρ j | none=>g.ρ i,fun i=>match src σ d nn i with | some j=>g'.ln j | none=>g.ln i,fun i=>match src σ d nn i with | some j=>g'.tk j | none=>g.tk i,
  fun i=>match src σ d nn i with | some j=>g'.own j | none=>g.own i,g'.S⟩
theorem jp(d nn:Nat)(h h' : Nat->HO)(i:Nat):Em σ d nn h h' i=match src σ d nn i with | some j=>(h' j).ren (Fs σ d nn) h' | none=>h i:=by
 grind [Em,src]
theorem p8{σ:JD}{d nn:Nat}(hσ:EE σ=true)(ha:Dk σ d nn=true)(i j:Nat):src σ d nn i=some j↔Fs σ d nn j=some i:=by
 have inv:=Zq hσ;unfold src Fs;cases h1:CB σ i with
 |some j'=>
  have hb:=(inv i j').1 h1;dsimp only;constructor
  .grind
  .intro h;cases h2:IB σ j with
   |some i'=>grind
   |none=>
    rw[h2]at h;dsimp only at h;split at h
    .rename_i hc;have h:=D5 h;subst h;simp only[Aq,Nat.ble_eq,I2]at hc;exact absurd ⟨by grind [BJ],by grind [BJ]⟩ (Ot ha h1)
    simp_all
 |none=>
  dsimp only;cases h2:IB σ j with
  |some i'=>
   dsimp only;have hf:=(inv i' j).2 h2;have hr:=XK hσ hf
   grind
  |none=>
   dsimp only;constructor
   .grind [Nat.ble_eq,Nat.blt_eq,BJ]
   .intro h;split at h
    .rename_i hc;have h:=D5 h;subst h;simp only[Aq,Nat.ble_eq,I2]at hc;have e1:(Nat.ble (BJ d 0) (BJ d (j-2000))&&Nat.blt (BJ d (j-2000)) (BJ d nn))=true:=by
      grind [Nat.ble_eq,Nat.blt_eq,BJ]
     grind [BJ]
    simp_all
theorem YH(hI:CZ w0 g0 h0 h g w){σ:JD}(hσ:EE σ=true):Gg (CB σ) h (FL σ h) g (D3 σ g) w/\CZ w (D3 σ g) (FL σ h) (FL σ h) (D3 σ g) w:=by
 have inv:=Zq hσ;have F5:∀j,FL σ h j=match IB σ j with | some i=>(h i).ren (CB σ) h | none=>.free:=QS _ _ σ
 have hR:Gg (CB σ) h (FL σ h) g (D3 σ g) w:=by
  refine⟨fun r r' hr hu=>?_,fun b o=>Iff.rfl,hI.objs⟩
  grind [D3,L,Ng]
 have MW:∀j,(FL σ h j).live->∃i,IB σ j=some i/\(h i).live:=fun j hl=>by
  rw[F5]at hl;cases e:IB σ j with
  |none=>rw[e]at hl;exact hl.elim
  |some i=>grind [Nc]
 have YT:∀j i,IB σ j=some i->(D3 σ g).own j=g.own i:=fun j i e=>by simp[D3,e]
 refine⟨hR,rfl,rfl,rfl,Ao _,fun _ _ _=>rfl,hI.slt,fun j=>?_,fun j j' b hl Tf e e'=>?_,fun j b hl e=>?_,fun _ _ h=>.inl h,hI.glob⟩
 .rw[F5];cases e:IB σ j with
  |none=>trivial
  |some i=>
   by_cases hu:L h i
   .grind [D6.ren,CZ.objs]
   .have:h i=.free:=BV.1 hu
    dsimp only;rw[this];trivial
 .obtain⟨i,e1,l1⟩:=MW j hl;obtain⟨i',e2,l2⟩:=MW j' Tf;rw[YT j i e1]at e;rw[YT j' i' e2]at e';obtain rfl:=hI.inj i i' b l1 l2 e e'
  have:=(inv i j).2 e1
  rw[(inv i j').2 e2]at this;simp_all
 .obtain⟨i,e1,l1⟩:=MW j hl;have e0:=e;rw[YT j i e1]at e;exact⟨(hI.loc i b l1 e).1,.inr ⟨j,hl,e0⟩⟩
theorem Nv{C:(Ending->World->Prop)->Prop}(hm:∀{R R' : Ending->World->Prop},C R->(∀e w,R e w->R' e w)->C R')(hI:CZ w0 g0 h0 h g w){σ:JD}{d nn:Nat}(GJ:(EE σ&&Eg h d nn&&Dk σ d nn)=true){Q:AV->(Nat->HO)->Prop}
  (hc:CZ w (D3 σ g) (FL σ h) (FL σ h) (D3 σ g) w->C (fun e w'=>∃v r h' g',e=Ending.returned v/\Q r h'/\O g' w' (L h') r v/\CZ w (D3 σ g) (FL σ h) h' g' w'/\Le (FL σ h) (D3 σ g) w h' g' w')) {R:Ending->World->Prop}
  (gO:∀v r h' g2 w',Q r h'->CZ w0 g0 h0 (Em σ d nn h h') g2 w'->Le h g w (Em σ d nn h h') g2 w'->O g2 w' (L (Em σ d nn h h')) (ren (Fs σ d nn) h' r) v->R (.returned v) w'):C R:=by
 simp only[Aq]at GJ;obtain⟨⟨hσ,hnf⟩,hap⟩:=GJ;obtain⟨hF,rS⟩:=YH hI hσ;have inv:=Zq hσ;have hsb:=p8 hσ hap;refine hm (hc rS) ?_
 rintro e w' ⟨v,r,h',g',rfl,q1,q2,q3,q4⟩
 have hb:=jp σ d nn h h';have wI:∀i j,src σ d nn i=some j->(Ho σ d nn g g').ρ i=g'.ρ j/\(Ho σ d nn g g').ln i=g'.ln j/\(Ho σ d nn g g').tk i=g'.tk j/\(Ho σ d nn g g').own i=g'.own j:=fun i j e=>by simp[Ho,e]
 have hg3:∀i,src σ d nn i=none->(Ho σ d nn g g').ρ i=g.ρ i/\(Ho σ d nn g g').ln i=g.ln i/\(Ho σ d nn g g').tk i=g.tk i/\(Ho σ d nn g g').own i=g.own i:=fun i e=>by simp[Ho,e]
 have hB:Gg (Fs σ d nn) h' (Em σ d nn h h') g' (Ho σ d nn g g') w':=by
  refine⟨fun j i hj hu=>?_,fun b o=>Iff.rfl,q3.objs⟩
  grind [L,Ng]
 have Aah:∀j,FL σ h j=match IB σ j with | some i=>(h i).ren (CB σ) h | none=>.free:=QS _ _ σ
 have AeL:∀j i,CB σ i=some j->(h i).live->(FL σ h j).live:=fun j i e hl=>by
  grind [Nc]
 have AhH:∀j i,CB σ i=some j->(D3 σ g).own j=g.own i:=fun j i e=>by grind [D3]
 have rZ : ∀j,(FL σ h j).live->∃i,CB σ i=some j/\(h i).live/\(D3 σ g).own j=g.own i:=fun j hl=>by
  rw[Aah]at hl;cases e:IB σ j with
  |none=>rw[e]at hl;exact hl.elim
  |some i=>grind [Nc]
 -- what the callee may not touch
 have ym:∀b,b<w.heap.size->(∀i,(h i).live->CB σ i≠none->g.own i≠some b)->w'.heap[b]?=w.heap[b]?:=fun b E4 hn=>q3.frame b E4 fun j hl e=>by
  grind
 have hSs:∀b o,g'.S b o->b<w.heap.size->(∀i,(h i).live->CB σ i≠none->g.own i≠some b)->g.S b o:=fun b o hs E4 hn=>by
  rcases q3.sg b o hs with h1 | h1 | ⟨j,h1,h2⟩
  .exact h1
  all_goals grind
 have hk:Fg g w (Ho σ d nn g g') w':=q4.keeps;have Af:∀i,CB σ i=none->src σ d nn i≠none->h i=.free:=fun i e1 e2=>by
  unfold src at e2;rw[e1]at e2;dsimp only at e2;split at e2
  .rename_i hc;simp only[Aq,Nat.ble_eq,I2]at hc
   have:=QB hnf (i-BJ d 0) (by grind [BJ])
   grind [BJ]
  simp_all
 have wV:∀i j,CB σ i=some j->src σ d nn i=some j:=fun i j e=>by grind [src]
 have hgl:KK g (Ho σ d nn g g') (L h):=fun i hu=>by
  cases e:CB σ i with
  |some j=>
   obtain⟨k1,k2,k3,k4⟩:=wI i j (wV i j e);obtain⟨f1,f2,f3,f4,f5⟩:=hF.ids i j e hu;obtain⟨m1,m2,m3,m4⟩:=q4.gh j f5<;>simp_all
  |none=>
   have e2:src σ d nn i=none:=BV.1 fun e2=>hu (Af i e e2);simp_all
 have Oa:∀i,L h i->L (Em σ d nn h h') i:=fun i hu=>by
  grind [L,Ng,src,Le.us,Gg.ids]
 have kb:∀i,(Em σ d nn h h' i).live->(∃j,src σ d nn i=some j/\(h' j).live/\(Ho σ d nn g g').own i=g'.own j)\/(src σ d nn i=none/\(h i).live/\(Ho σ d nn g g').own i=g.own i/\CB σ i=none):=fun i hl=>by
  grind [src,Nc]
 have Kr:∀j b,(h' j).live->g'.own j=some b->b<w'.heap.size/\(w.heap.size<=b\/∃i,CB σ i≠none/\(h i).live/\g.own i=some b):=fun j b hl e=>by
  grind [CZ.loc]
 have yz:∀i b,(h i).live->g.own i=some b->CB σ i=none->∀i',(h i').live->CB σ i'≠none->g.own i'≠some b:=fun i b hl e hn i' Tf kc e'=>by
  obtain rfl:=hI.inj i i' b hl Tf e e';simp_all
 refine gO v r h' (Ho σ d nn g g') w' q1 ⟨q3.os.trans hI.os,q3.tape.trans hI.tape,q3.output.trans hI.output,Bd hI.size q3.size,fun b E4 hn=>?_,q3.slt,fun i=>?_,fun i i' b hl Tf e e'=>?_,fun i b hl e=>?_,fun b o hs=>?_,hI.glob.keep hk⟩ ⟨hgl,Oa,hk⟩ (q2.ren hB)
 .grind [CZ.loc,CZ.frame]
 .rw[hb];cases e:src σ d nn i with
  |some j=>
   by_cases hu:L h' j
   .grind [D6.ren,CZ.objs]
   .have:h' j=.free:=BV.1 hu
    dsimp only;rw[this];trivial
  |none=>
   obtain⟨k1,k2,k3,k4⟩:=hg3 i e;have e2:CB σ i=none:=by
    cases e2:CB σ i<;>grind [CB]
   refine(hI.objs i).same hk Oa hgl k1 k2 k3 k4 fun b hl ho=>?_;have E4:=(hI.loc i b hl ho).1;exact⟨ym b E4 (yz i b hl ho e2),fun k hs=>hSs b k hs E4 (yz i b hl ho e2)⟩
 .have mixed:∀i j i',(h' j).live->g'.own j=some b->(h i').live->g.own i'=some b->CB σ i'=none->i=i':=fun i j i' l1 o1 l2 o2 n2=>by
   rcases(Kr j b l1 o1).2 with h1 | ⟨i3,n3,l3,o3⟩
   .have:=(hI.loc i' b l2 o2).1;omega
   grind
  rcases kb i hl with ⟨j,s1,l1,o1⟩ | ⟨s1,l1,o1,n1⟩<;>rcases kb i' Tf with ⟨j',s2,l2,o2⟩ | ⟨s2,l2,o2,n2⟩
  .obtain rfl:=q3.inj j j' b l1 l2 aa0 aa0;simp_all
  .exact mixed i j i' l1 aa0 l2 aa0 n2
  .exact(mixed i' j' i l2 aa0 l1 aa0 n1).symm
  .exact hI.inj i i' b l1 l2 aa0 aa0
 .rcases kb i hl with ⟨j,s1,l1,o1⟩ | ⟨s1,l1,o1,n1⟩
  .obtain⟨h1,h2⟩:=Kr j b l1 aa0;refine⟨h1,?_⟩;rcases h2 with h2 | ⟨i3,n3,l3,o3⟩
   .exact .inl (Bd hI.size h2)
   .exact(hI.loc i3 b l3 o3).2
  .obtain⟨h1,h2⟩:=hI.loc i b l1 aa0
   grind
 .rcases q3.sg b o hs with h1 | h1 | ⟨j,h1,h2⟩
  .exact hI.sg b o h1
  .exact .inr (.inl (Bd hI.size h1))
  .obtain⟨i,e1,l1,o1⟩:=rZ j h1;exact .inr (hI.loc i b l1 (by rw[<-o1];exact h2)).2
theorem mB(hI:CZ w0 g0 h0 h g w){σ:JD}{d nn:Nat}(GJ:(EE σ&&Eg h d nn&&Dk σ d nn)=true){f:Nat}{args:List AV}{Q:AV->(Nat->HO)->Prop}(hc:A6 P f args (FL σ h) Q)(hs:vals.size=args.length)(hv:∀(i:Nat) (av:AV) (x:Value),args[i]?=some av->vals[i]?=some x->O (D3 σ g) w (L (FL σ h)) av x){R:Ending->World->Prop}(gO:∀v r h' g2 w',Q r h'->CZ w0 g0 h0 (Em σ d nn h h') g2 w'->Le h g w (Em σ d nn h h') g2 w'->O g2 w' (L (Em σ d nn h h')) (ren (Fs σ d nn) h' r) v->R (.returned v) w'):Calls P f vals w R:=
 Nv (C:=Calls P f vals w) (fun h k=>h.mono k) hI GJ (hc.2 (D3 σ g) w vals hs hv) gO
end
structure SR(N:Nat)(ds:List Deferred)(w0:World)(g0:D)(h0:Nat->HO)(st:St)(g:D)(a:Act)(w:World):Prop where
 inv:CZ w0 g0 h0 st.h g w
 le:Le h0 g0 w0 st.h g w
 dfs:a.defers=ds
 size:a.tmps.size=N
 slots:∀i,O g w (L st.h) (st.t i) (a.tmps.getD i undef)
section
variable {P:Program}{N:Nat}{ds:List Deferred}{w0:World}{g0:D}{h0:Nat->HO}{st:St}{g:D}{a:Act}{w:World}
theorem SR.eval(hS:SR N ds w0 g0 h0 st g a w)(x:Operand):O g w (L st.h) (ev st.t x) (a.eval x):=by
 cases x with
 |tmp i=>exact hS.slots i
 |const v=>exact .v _ _
 |global b=>exact .v _ _
 |func f=>exact .v _ _
theorem SR.put(hS:SR N ds w0 g0 h0 st g a w){d:Option Nat}(hd:∀i,d=some i->i<N){v:AV}{x:Value}{h' : Nat->HO}{g' : D}{w' : World}(hI:CZ w0 g0 h0 h' g' w')(JP:Le st.h g w h' g' w')(hr:O g' w' (L h') v x) :
  SR N ds w0 g0 h0 (st.put d v h') g' (a.put d x) w':=by
 have old:∀i,O g' w' (L h') (st.t i) (a.tmps.getD i undef):=fun i=>(hS.slots i).le JP;cases d with
 |none=>exact⟨hI,hS.le.trans JP,hS.dfs,hS.size,old⟩
 |some d=>
  have hdN:=hd d rfl;refine⟨hI,hS.le.trans JP,hS.dfs,by simp[Act.put,hS.size],fun i=>?_⟩;simp only[St.put,Act.put,Kl]
  by_cases e:i=d
  .subst e
   have:i<a.tmps.size:=by grind [SR.size]
   simp_all
  .simp only[DY e,G7];rw[OB,Array.getElem?_setIfInBounds_ne (Ne.symm e),<-OB];simp_all
def de(w0:World)(g0:D)(h0 h:Nat->HO)(g:D)(w:World)(K:HK)(next:Value->World->Prop):Prop:=
 ∀v h' g' w' x,K v h'->CZ w0 g0 h0 h' g' w'->Le h g w h' g' w'->O g' w' (L h') v x->next x w'
theorem DW{m:Sem Value}{next:Act->World->Prop}{Q:Exit->Act->World->Prop}(hx:execOp a.eval o=(do pure (Next.value (<-m))))(hd:OD P w0 g0 h0 st.h g w m K)(hn:de w0 g0 h0 st.h g w K fun x w'=>next (a.put o.dst x) w'):o.wp P a w next Q:=by
 obtain⟨x,w',g',av,h',h1,h2,h3,h4,h5⟩:=hd;unfold Oper.wp;rw[hx,Sem.run_bind,h1];exact hn av h' g' w' x h2 h3 h4 h5
theorem ZH{m:Sem Unit}{next:Act->World->Prop}{Q:Exit->Act->World->Prop}(hx:execOp a.eval o=(do m;pure Next.skip))(hd:lY P w0 g0 h0 st.h g w m K)(hn:de w0 g0 h0 st.h g w K fun x w'=>next (a.put o.dst x) w'):o.wp P a w next Q:=by
 obtain⟨w',g',h',h1,h2,h3,h4⟩:=hd;unfold Oper.wp;rw[hx,Sem.run_bind,h1];exact hn _ h' g' w' undef h2 h3 h4 (.v _ _)
theorem iY{next:Act->World->Prop}{Q:Exit->Act->World->Prop}{v:AV}(hI:CZ w0 g0 h0 st.h g w)(hx:(execOp a.eval o).run P w=.ok (.value x) w)(hk:K v st.h)(hr:O g w (L st.h) v x)(hn:de w0 g0 h0 st.h g w K fun x w'=>next (a.put o.dst x) w'):o.wp P a w next Q:=by
 unfold Oper.wp;rw[hx];exact hn _ _ _ _ _ hk hI (.refl _ _ _) hr
theorem T6{C:(Ending->World->Prop)->Prop}(hm:∀{R R' : Ending->World->Prop},C R->(∀e w,R e w->R' e w)->C R')(hI:CZ w0 g0 h0 st.h g w){Q:AV->(Nat->HO)->Prop}
  (hc:CZ w g Af Af g w->C (fun e w'=>∃v r h' g',e=Ending.returned v/\Q r h'/\O g' w' (L h') r v/\CZ w g Af h' g' w'/\Le Af g w h' g' w')) {R:Ending->World->Prop}
  (hR:∀v r h' g' w',Q r h'->h'=Af->CZ w0 g0 h0 st.h g' w'->Le st.h g w st.h g' w'->O g' w' FK r v->R (.returned v) w') (hQ:∀r h',Q r h'->h'=Af):C R:=by
 have hU:L Af=FK:=by grind [L,FK,Af]
 have rS:CZ w g Af Af g w:=⟨rfl,rfl,rfl,Ao _,fun _ _ _=>rfl,hI.slt,fun _=>trivial,fun _ _ _ h=>h.elim,fun _ _ h=>h.elim,fun _ _ h=>.inl h,hI.glob⟩;refine hm (hc rS) ?_
 rintro e w' ⟨v,r,h',g',rfl,q1,q2,q3,q4⟩
 obtain rfl:=hQ r h' q1;rw[hU]at q2
 -- the caller's ghost,with the callee's stable cells
 have hk:Fg g w ⟨g.ρ,g.ln,g.tk,g.own,g'.S⟩ w':=q4.keeps;have hg:KK g ⟨g.ρ,g.ln,g.tk,g.own,g'.S⟩ (L st.h):=fun _ _=>⟨rfl,Ao _,fun _=>rfl,fun _=>rfl⟩;have ym:∀b,b<w.heap.size->w'.heap[b]?=w.heap[b]?:=fun b hb=>q3.frame b hb (fun _ h=>h.elim);have hSs:∀b o,g'.S b o->b<w.heap.size->g.S b o:=fun b o hs hb=>by
  rcases q3.sg b o hs with h1 | h1 | ⟨_,h1,_⟩
  .exact h1
  .omega
  .exact h1.elim
 refine hR v r Af ⟨g.ρ,g.ln,g.tk,g.own,g'.S⟩ w' q1 rfl ⟨q3.os.trans hI.os,q3.tape.trans hI.tape,q3.output.trans hI.output,Bd hI.size q3.size,fun b hb hn=>?_,q3.slt,fun i=>?_,hI.inj,fun i b hl ho=>?_,fun b o hs=>?_,hI.glob.keep hk⟩ ⟨hg,fun _ h=>h,hk⟩ ?_
 .exact(ym b (AZ hb hI.size)).trans (hI.frame b hb hn)
 .refine(hI.objs i).same hk (fun _ h=>h) hg rfl rfl rfl rfl (fun b hl ho=>?_);have E4:=(hI.loc i b hl ho).1;simp_all
 .obtain⟨h1,h2⟩:=hI.loc i b hl ho<;>grind [Nat.lt_of_lt_of_le]
 .rcases q3.sg b o hs with h1 | h1 | ⟨_,h1,_⟩
  .grind [CZ.sg]
  .exact .inr (.inl (Bd hI.size h1))
  .exact h1.elim
 .have:Fg g' w' ⟨g.ρ,g.ln,g.tk,g.own,g'.S⟩ w':=fun b o h=>⟨h,rfl,fun _ _ h=>h⟩
  exact q2.mono this (fun _ h=>h) (fun _ h=>h.elim)
theorem jw(hI:CZ w0 g0 h0 st.h g w){f:Nat}{args:List AV}{Q:AV->(Nat->HO)->Prop}(hc:A6 P f args Af Q)(hs:vals.size=args.length)(hv:∀(i:Nat) (av:AV) (x:Value),args[i]?=some av->vals[i]?=some x->O g w FK av x){R:Ending->World->Prop}(hR:∀v r h' g' w',Q r h'->h'=Af->CZ w0 g0 h0 st.h g' w'->Le st.h g w st.h g' w'->O g' w' FK r v->R (.returned v) w')(hQ:∀r h',Q r h'->h'=Af):Calls P f vals w R:=
 have hU:L Af=FK:=by grind [L,FK,Af]
 T6 (C:=Calls P f vals w) (fun h k=>h.mono k) hI (hc.2 g w vals hs (fun i av x h1 h2=>by grind)) hR hQ
theorem YieldAt.imp{m:Nat}{P:Program}{l:Nat}{args:Array Value}{W:World}{R R' : Ending->World->Prop}(h:YieldAt F m P l args W R)(hr:∀e w,R e w->R' e w):YieldAt F m P l args W R':=
 let ⟨fn,t,a,b,h1,h2⟩:=h
 ⟨fn,t,a,b,h1,h2.mono hr⟩
theorem Jt.imp{Y:D->World->Prop}{l:Nat}{args:List AV}{h0:Nat->HO}{Q Q' : AV->(Nat->HO)->Prop}(h:Jt P Y l args h0 Q)(hq:∀r h',Q r h'->Q' r h'):Jt P Y l args h0 Q':=
 fun g w vals q1 q2 q3 q4=>YieldAt.imp (h g w vals q1 q2 q3 q4) fun _ _ ⟨v,r,h',g',e1,e2,rest⟩=>⟨v,r,h',g',e1,hq _ _ e2,rest⟩
theorem Gs.imp{Y:Nat->D->World->Prop}{F:AV}{args:List AV}{h0:Nat->HO}{Q Q' : AV->(Nat->HO)->Prop}(h:Gs P Y F args h0 Q)(hq:∀r h',Q r h'->Q' r h'):Gs P Y F args h0 Q':=by
 have one:∀{f:Nat} {l:List AV},A6 P f l h0 Q->A6 P f l h0 Q':=fun hc=>
  ⟨hc.1,fun g w vals q1 q2 q3=>(hc.2 g w vals q1 q2 q3).mono fun _ _ ⟨v,r,h',g',e1,e2,rest⟩=>⟨v,r,h',g',e1,hq _ _ e2,rest⟩⟩
 unfold Gs at h⊢
 grind [Jt.imp]
abbrev Kq(ro:Option Nat):Fence:={ Fence.wide with round:=ro }
theorem NQ{ro:Option Nat}{a:Act}{w:World}{next:Act->World->Prop}{Q:Exit->Act->World->Prop}(hd:∀c,o.op≠.defer c)(h:o.wp P a w next Q):o.wpIn (Kq ro) 0 P a w next Q:=by
 refine⟨fun _ _=>trivial,?_⟩;have e:o.semAt (Kq ro).round a.eval=execOp a.eval o:=Oper.semAt_eq ro a.eval o hd;rw[e];unfold Oper.wp at h;have key:∀res:Result Next,o.upon P a next Q res->o.uponIn (Kq ro) 0 P a next Q res:=fun res h=>by
  cases res with
  |ok n w'=>cases n with
   |enter f args=>exact(show(_->_)/\CallsIn (Kq ro) 0 P f args w' _ from⟨fun e=>by(cases e),callsIn_wide.2 h⟩)
   |row r args=>exact(show(_->_)/\RowsIn (Kq ro) 0 P r args w' _ from⟨fun e=>by(cases e),fun c cs _=>by
     obtain⟨v,iX,r',s⟩:=h c cs;exact⟨v,iX,r',stepsIn_wide.2 s⟩⟩)
   |round _ _ _ _ _=>exact h.elim
   |_=>exact h
  |halt x w'=>cases x<;>exact h
 simp_all
theorem He{f:Nat}{args:Array Value}(h:Gt P f)(w:World):(callFunc f args).run P w=.ok (.enter f args) w:=by
 obtain⟨fn,h1,h2,h3⟩:=h<;>grind [callFunc,Sem.run_bind,run_program,Result.andThen_ok,Sem.run_pure]
theorem VF{h:Nat->HO}{a:AV}(ha:iv a=true):ren (CB []) h a=str h a:=by
 have h0:∀a,ren0 (CB []) h a=str0 h a:=fun a=>by
  cases a with
  |slice tk es=>cases tk<;>rfl
  |_=>rfl
 cases a with
 |tup cs=>cases ha
 |agg cs=>show AV.agg _=AV.agg _;simp_all
 |clo f cs=>show AV.clo f _=AV.clo f _;simp_all
 |v x=>exact h0 (.v x)
 |slice tk es=>exact h0 (.slice tk es)
 |msl r n=>exact h0 (.msl r n)
 |cptr cs=>exact h0 (.cptr cs)
 |ref r o=>exact h0 (.ref r o)
 |eref r n sz i o=>exact h0 (.eref r n sz i o)
 |mref r=>exact h0 (.mref r)
 |cmap sh l=>exact h0 (.cmap sh l)
 |junk=>rfl
theorem RP{h:Nat->HO}:∀{l:List AV},Vo l=true->l.map (ren (CB []) h)=l.map (str h)
 | [],_=>rfl
 |a::l,e=>by
  unfold Vo at e;split at e
  .rename_i e1;rw[Bo,Bo,VF e1,RP e]
  simp_all
theorem Sf:∀{l:List AV} {vs:List Value},XX l=some vs->l=vs.map .v
 | [],vs,h=>by cases h;rfl
 |.v x::r,vs,h=>by
  unfold XX at h;split at h
  .rename_i l e;cases h;rw[Bo,<-Sf e]
  simp_all
theorem jv{d:Option Nat}{st:St}{F:AV}{args:List AV}(hk:GR cx true d st F args K):GR cx false d st F args K:=by
 unfold GR at hk;simp only at hk;split at hk
 .exact⟨.pure,hk⟩
 .split at hk
  .simp_all
  .rename_i d _;obtain⟨n,sz,es,h1,h2,h3⟩:=hk;simp only[Aq]at h1;refine⟨.gen [] 1,?_⟩;show(EE []&&Eg st.h d 1&&Dk [] d 1)=true/\_;refine⟨by grind [EE,Dk],?_⟩;rw[VF h1.1.2,RP h1.2];show Gs cx.P (fun l=>cx.yp l []) _ _ Af _;refine Gs.imp h2 ?_
   rintro r h' ⟨e2,e3⟩
   subst e2;subst e3;have e1:ren (Fs [] d 1) (Ai [(2000,.arr sz es)] Af) (.msl 2000 n)=.msl (BJ d 0) n:=rfl;have e2:Em [] d 1 st.h (Ai [(2000,.arr sz es)] Af)=AJ st.h (BJ d 0) (.arr sz es):=by
    funext i
    by_cases e:i=BJ d 0
    .subst e;rw[A0];have hb:(Nat.ble (BJ d 0) (BJ d 0)&&Nat.blt (BJ d 0) (BJ d 1))=true:=by
      grind [BJ,Nat.ble_eq,Nat.blt_eq]
     simp only[Em,CB,hb,Jj];rfl
    grind [BQ,BJ,Nat.ble_eq,Nat.blt_eq,Em,CB]
   simp_all
 .split at hk
  .unfold ZB at hk;split at hk
   .simp_all
   .rename_i d _;obtain⟨sz,es,h1,h2,h3⟩:=hk;simp only[Aq]at h1;refine⟨.gen [] 1,?_⟩;show(EE []&&Eg st.h d 1&&Dk [] d 1)=true/\_;refine⟨by grind [EE,Dk],?_⟩;rw[VF h1.1.2,RP h1.2];show Gs cx.P (fun l=>cx.yp l []) _ _ Af _;refine Gs.imp h2 ?_
    rintro r h' ⟨e2,e3⟩
    subst e2;subst e3;have e1:ren (Fs [] d 1) (Ai [(2000,.tok sz es.length)] Af) (.slice (.id 2000 sz) es)=.slice (.id (BJ d 0) sz) es:=rfl;have e2:Em [] d 1 st.h (Ai [(2000,.tok sz es.length)] Af)=AJ st.h (BJ d 0) (.tok sz es.length):=by
     funext i
     by_cases e:i=BJ d 0
     .subst e;rw[A0];have hb:(Nat.ble (BJ d 0) (BJ d 0)&&Nat.blt (BJ d 0) (BJ d 1))=true:=by
       grind [BJ,Nat.ble_eq,Nat.blt_eq]
      simp only[Em,CB,hb,Jj];rfl
     grind [BQ,BJ,Nat.ble_eq,Nat.blt_eq,Em,CB]
    simp_all
  split at hk
  .unfold V7 at hk;split at hk
   .rename_i d l vs e2 z1;have hl:=Sf e2;split at hk
    .rename_i r sz es iR n e3 e4;obtain⟨⟨rfl,rfl⟩,v,FX,n',h1,h2⟩:=hk;refine⟨.gen [(1000,1000),(1001,1001)] 0,?_⟩;show(EE [(1000,1000),(1001,1001)]&&Eg st.h d 0&&Dk [(1000,1000),(1001,1001)] d 0)=true/\_;refine⟨?_,?_⟩
     .have:Dk [(1000,1000),(1001,1001)] d 0=true:=by
       grind [Nat.ble_eq,Nat.blt_eq,Dk]
      rw[this];rfl
     have f1:args.map (ren (CB [(1000,1000),(1001,1001)]) st.h)=vs.map .v:=by rw[hl,BH];rfl
     have f2:FL [(1000,1000),(1001,1001)] st.h=Ai [(1000,.cells [.slice (.id 1001 iR) es]),(1001,.tok iR n)] Af:=by
      unfold FL Zp Zp Zp;rw[e3,e4];rfl
     rw[f1,f2];refine Jt.imp h1 ?_
     rintro r h' ⟨g1,g2⟩
     subst g1;subst g2;have f3:Em [(1000,1000),(1001,1001)] d 0 st.h (Ai [(1000,.cells [.slice (.id 1001 iR) FX]),(1001,.tok iR n')] Af)=AJ (AJ st.h 1001 (.tok iR n')) 1000 (.cells [.slice (.id 1001 iR) FX]):=by
      funext i
      by_cases e:i=1000
      .subst e;rw[A0];rfl
      .rw[BQ _ _ _ _ e]
       by_cases e' : i=1001
       .subst e';rw[A0];rfl
       .rw[BQ _ _ _ _ e'];have hn:CB [(1000,1000),(1001,1001)] i=none:=by simp[CB,DY (Ne.symm e),DY (Ne.symm e')]
        have:(Nat.ble (BJ d 0) i&&Nat.blt i (BJ d 0))=false:=by
         grind [Nat.ble_eq,Nat.blt_eq]
        grind [Em]
     rw[f3];exact h2
    simp_all
   simp_all
  unfold SU at hk;split at hk
  .unfold aS at hk;split at hk
   .rename_i d f caps uC _;obtain⟨σ,H0,Hn,args',res,g1,g2,g3,g4⟩:=hk;simp only[Aq]at g2;obtain⟨k1,k2⟩:=g1 st.h fun _ _=>rfl;refine⟨.gen σ 0,?_⟩;show(EE σ&&Eg st.h d 0&&Dk σ d 0)=true/\_;refine⟨by rw[g2.1.1,g2.1.2];rfl,?_⟩;have key:Gs cx.P (fun l=>cx.yp l σ) (ren (CB σ) st.h F) (args.map (ren (CB σ) st.h)) (Ai H0 Af) (fun r h'=>r=res/\h'=Ai Hn Af):=by
     rw[<-k2]at g3;unfold ng at uC;split at uC
     .cases uC
      rw[Ji,Ey]at g3;exact g3
     .cases uC
      exact g3
     simp_all
    grind [Gs.imp]
   simp_all
  unfold SZ at hk;split at hk
  .rename_i dd f r n l _;split at hk
   .rename_i vs ib;have hl:=Sf ib;subst hl;split at hk
    .rename_i sz es hr;have hf:CB [(r,1000)] r=some 1000:=by simp[CB]
     have e1:ren (CB [(r,1000)]) st.h (.v (.func (.func f) ⟨[]⟩ ⟨[]⟩))=.v (.func (.func f) ⟨[]⟩ ⟨[]⟩):=rfl;have e2:(AV.msl r n::vs.map AV.v).map (ren (CB [(r,1000)]) st.h)=.msl 1000 n::vs.map .v:=by
      rw[Bo]
      congr 1
      .grind [ren,ren1,ren0]
      .rw[BH];rfl
     have e3:FL [(r,1000)] st.h=Ai [(1000,.arr sz es)] Af:=by
      unfold FL Zp;rw[hr];rfl
     split at hk
     .obtain⟨n',FX,h1,h2⟩:=hk;refine⟨.gen [(r,1000)] 0,?_⟩;show(EE [(r,1000)]&&Eg st.h dd 0&&Dk [(r,1000)] dd 0)=true/\_;refine⟨?_,?_⟩
      .have:Dk [(r,1000)] dd 0=true:=by
        grind [Dk,Nat.ble_eq,Nat.blt_eq]
       rw[this];rfl
      rw[e1,e2,e3];refine⟨h1.1,fun g w vals q1 q2 q3=>(h1.2 g w vals q1 q2 q3).mono fun _ _ ⟨v,r',h',g',e1,⟨e2,e3⟩,rest⟩=>⟨v,r',h',g',e1,?_,rest⟩⟩;subst e2;subst e3;have f1:ren (Fs [(r,1000)] dd 0) (Ai [(1000,.arr sz FX)] Af) (.msl 1000 n')=.msl r n':=rfl;have f2:Em [(r,1000)] dd 0 st.h (Ai [(1000,.arr sz FX)] Af)=AJ st.h r (.arr sz FX):=by
       funext i
       by_cases e:i=r
       .grind [A0,Em,Ai,HO.ren,Nat.beq_refl]
       .rw[BQ _ _ _ _ e];have hn:CB [(r,1000)] i=none:=by grind [CB,DY]
        have:(Nat.ble (BJ dd 0) i&&Nat.blt i (BJ dd 0))=false:=by
         grind [Nat.ble_eq,Nat.blt_eq]
        grind [Em]
      simp_all
     .obtain⟨n',FX,h0,h1,h2⟩:=hk;simp only[Aq,I2,EY]at h0;have hrd:r≠BJ dd 0:=fun e=>by simp_all
      refine⟨.gen [(r,1000)] 1,?_⟩;show(EE [(r,1000)]&&Eg st.h dd 1&&Dk [(r,1000)] dd 1)=true/\_;refine⟨?_,?_⟩
      .have:Dk [(r,1000)] dd 1=true:=by
        grind [Dk,BJ,Nat.ble_eq,Nat.blt_eq]
       rw[this,h0.1.1];rfl
      rw[e1,e2,e3];refine⟨h1.1,fun g w vals q1 q2 q3=>(h1.2 g w vals q1 q2 q3).mono fun _ _ ⟨v,r',h',g',e1,⟨e2,e3⟩,rest⟩=>⟨v,r',h',g',e1,?_,rest⟩⟩;subst e2;subst e3;have f1:ren (Fs [(r,1000)] dd 1) (Ai [(1000,.dead),(2000,.arr sz FX)] Af) (.msl 2000 n')=.msl (BJ dd 0) n':=rfl;have f2:Em [(r,1000)] dd 1 st.h (Ai [(1000,.dead),(2000,.arr sz FX)] Af)=AJ (AJ st.h r .dead) (BJ dd 0) (.arr sz FX):=by
       funext i
       by_cases e:i=BJ dd 0
       .subst e;rw[A0];have hn:CB [(r,1000)] (BJ dd 0)=none:=by grind [CB]
        have hb:(Nat.ble (BJ dd 0) (BJ dd 0)&&Nat.blt (BJ dd 0) (BJ dd 1))=true:=by
         grind [BJ,Nat.ble_eq,Nat.blt_eq]
        simp only[Em,hn,hb,Jj];rfl
       .rw[BQ _ _ _ _ e]
        by_cases e4:i=r
        .grind [A0,Em,Ai,HO.ren,Nat.beq_refl]
        .rw[BQ _ _ _ _ e4];have hn:CB [(r,1000)] i=none:=by grind [CB,DY]
         have:(Nat.ble (BJ dd 0) i&&Nat.blt i (BJ dd 1))=false:=by
          grind [Nat.ble_eq,Nat.blt_eq,BJ]
         grind [Em]
      simp_all
    simp_all
   simp_all
  simp_all
theorem mA{d:Option Nat}{f:Operand}{dst:Option Nat}{ty:Nat}{gd:Option (Nat×Bool)}{next:Act->World->Prop}{Q:Exit->Act->World->Prop}(hP:cx.P=P)(hY:∀l σ h g w,EE σ=true->CZ w0 g0 h0 h g w->Le h0 g0 w0 h g w->cx.yp l σ (D3 σ g) w){ro:Option Nat}(hS:SR N ds w0 g0 h0 st g a w)(hk:GR cx dr d st (ev st.t f) (args.toList.map (ev st.t)) K)(hn:de w0 g0 h0 st.h g w K fun x w'=>next (a.put dst x) w'):Oper.wpIn (Kq ro) 0 P ⟨dst,.call ⟨.value f,args,HA⟩,ty,pos,after,gd⟩ a w next Q:=by
 subst hP;have hk:GR cx false d st (ev st.t f) (args.toList.map (ev st.t)) K:=by
  cases dr<;>grind [jv]
 have Mi:∀(i:Nat) (av:AV) (x:Value),((args.toList.map (ev st.t)).map (str st.h))[i]?=some av->(args.map a.eval)[i]?=some x->O g w FK av x:=by
  intro i av x h1 h2;rw[Ct,Ct]at h1;rw[Array.getElem?_map]at h2;cases ho:args[i]? with
  |none=>simp_all
  |some y=>
   rw[ho]at h2;have hy:args.toList[i]?=some y:=aa0
   rw[hy]at h1;simp only[Option.map_some,DQ]at h1 h2;subst h1;subst h2;exact O.str hS.inv.objs (hS.eval y)
 have CN:(args.map a.eval).size=((args.toList.map (ev st.t)).map (str st.h)).length:=aa1
 have hF:=O.str hS.inv.objs (hS.eval f)
 -- a call of yield
 have yl:∀(l:Nat) (R:Ending->World->Prop),a.eval f=.func (.yield l) #[] #[]->YieldAt Fence.wide 0 cx.P l (args.map a.eval) w R->(∀e w',R e w'->∃v,e=.returned v/\next (a.put dst v) w') ->
   Oper.wpIn (Kq ro) 0 cx.P ⟨dst,.call ⟨.value f,args,HA⟩,ty,pos,after,gd⟩ a w next Q:=by
  rintro l R hx ⟨fn,tm,Hk,bd,h1,h2⟩ hR
  refine⟨fun _ _=>trivial,?_⟩;have e:(⟨dst,.call ⟨.value f,args,HA⟩,ty,pos,after,gd⟩:Oper).semAt (Kq ro).round a.eval=execOp a.eval ⟨dst,.call ⟨.value f,args,HA⟩,ty,pos,after,gd⟩:=Oper.semAt_eq ro a.eval _ (fun c e=>by cases e);have CL:(execOp a.eval ⟨dst,.call ⟨.value f,args,HA⟩,ty,pos,after,gd⟩).run cx.P w=.ok (.round l fn tm Hk bd) w:=by
   grind [execOp,resolve,Deferred.ofValue,invoke]
  rw[e,CL];refine(show(_->_)/\RoundIn (Kq ro) 0 cx.P l fn tm Hk bd w _ from⟨fun e=>by(cases e),RoundIn.mono h2 fun e w' h=>?_⟩)
  grind
 -- the call itself
 have go:∀(Q' : AV->(Nat->HO)->Prop),(∀r h',Q' r h'->h'=Af/\K r st.h)->Gs cx.P (fun _ _ _=>True) (str st.h (ev st.t f)) ((args.toList.map (ev st.t)).map (str st.h)) Af Q' ->
   Oper.wpIn (Kq ro) 0 cx.P ⟨dst,.call ⟨.value f,args,HA⟩,ty,pos,after,gd⟩ a w next Q:=by
  intro Q' hQ hc
  have fin:∀{fn:Nat} {l:List AV} {vals:Array Value},A6 cx.P fn l Af Q'->vals.size=l.length->(∀(i:Nat) (av:AV) (x:Value),l[i]?=some av->vals[i]?=some x->O g w FK av x) ->
    (execOp a.eval ⟨dst,.call ⟨.value f,args,HA⟩,ty,pos,after,gd⟩).run cx.P w=.ok (.enter fn vals) w->Oper.wpIn (Kq ro) 0 cx.P ⟨dst,.call ⟨.value f,args,HA⟩,ty,pos,after,gd⟩ a w next Q:=by
   intro fn l vals hc hs hv CL;refine NQ (fun c e=>by cases e) ?_;unfold Oper.wp;rw[CL];exact jw hS.inv hc hs hv (fun v r h' g' w' hq _ hI JP hr=>hn r _ g' w' v (hQ r h' hq).2 hI JP (hr.up _)) (fun r h' hq=>(hQ r h' hq).1)
  unfold Gs at hc;split at hc
  .rename_i fn e;rw[e]at hF;have hx:=hF.v_eq;refine fin hc CN Mi ?_;have Tg : a.eval f=.func (.func fn) #[] #[]:=hx;simp only[execOp,resolve,Tg,Deferred.ofValue,Sem.run_bind,Sem.run_pure,Result.andThen_ok,invoke];rw[He hc.1];simp
  .rename_i fn caps e;rw[e]at hF;generalize hx:a.eval f=fv at hF;cases hF with
   |clo _ _ _ vs FW Qp=>
    refine fin hc (vals:=args.map a.eval++vs) aa0 (fun i av x h1 h2=>?_) ?_
    .grind
    .simp only[execOp,resolve,hx,Deferred.ofValue,Sem.run_bind,Sem.run_pure,Result.andThen_ok,invoke];rw[He hc.1];simp
  .rename_i l e;rw[e]at hF;have hU:L Af=FK:=by grind [L,FK,Af]
   refine yl l _ hF.v_eq (T6 (C:=YieldAt Fence.wide 0 cx.P l (args.map a.eval) w) (R:=fun e w'=>∃v,e=.returned v/\next (a.put dst v) w') YieldAt.imp hS.inv (fun rS=>hc g w _ CN (fun i av x h1 h2=>by grind) rS trivial)
    (fun v r h' g' w' hq _ hI JP hr=>⟨v,rfl,hn r _ g' w' v (hQ r h' hq).2 hI JP (hr.up _)⟩) (fun r h' hq=>(hQ r h' hq).1)) fun _ _ h=>h
  simp_all
 have pure:(∃res,Rc cx.P (str st.h (ev st.t f)) ((args.toList.map (ev st.t)).map (str st.h)) res/\K res st.h)->Oper.wpIn (Kq ro) 0 cx.P ⟨dst,.call ⟨.value f,args,HA⟩,ty,pos,after,gd⟩ a w next Q:=by
  rintro⟨res,h1,h2⟩
  refine go (fun r h'=>r=res/\h'=Af) (fun r h' hq=>⟨hq.2,by simp_all⟩) ?_;unfold Rc at h1;unfold Gs;split at h1
  .rename_i fn e;rw[e];exact h1
  .rename_i fn caps e;rw[e];exact h1
  simp_all
 unfold GR at hk
 .obtain⟨m,hm⟩:=hk;cases m with
  |pure=>grind
  |rel=>grind
  |gen σ nn=>
   simp only at hm;cases d with
   |none=>simp_all
   |some d=>
    simp only at hm;obtain⟨GJ,hc⟩:=hm;have hσ:EE σ=true:=aa0
    obtain⟨hR,_⟩:=YH hS.inv hσ;have ny:=(hS.eval f).ren hR;have d7:∀(i:Nat) (av:AV) (x:Value),((args.toList.map (ev st.t)).map (ren (CB σ) st.h))[i]?=some av->(args.map a.eval)[i]?=some x->O (D3 σ g) w (L (FL σ st.h)) av x:=by
     grind [O.ren,SR.eval]
    have UT:(args.map a.eval).size=((args.toList.map (ev st.t)).map (ren (CB σ) st.h)).length:=aa1
    have fin:∀{fn:Nat} {l:List AV} {vals:Array Value},A6 cx.P fn l (FL σ st.h) (fun r h'=>K (ren (Fs σ d nn) h' r) (Em σ d nn st.h h'))->vals.size=l.length ->
      (∀(i:Nat) (av:AV) (x:Value),l[i]?=some av->vals[i]?=some x->O (D3 σ g) w (L (FL σ st.h)) av x) ->
      (execOp a.eval ⟨dst,.call ⟨.value f,args,HA⟩,ty,pos,after,gd⟩).run cx.P w=.ok (.enter fn vals) w->Oper.wpIn (Kq ro) 0 cx.P ⟨dst,.call ⟨.value f,args,HA⟩,ty,pos,after,gd⟩ a w next Q:=by
     intro fn l vals hc hs hv CL;refine NQ (fun c e=>by cases e) ?_;unfold Oper.wp;rw[CL];exact mB hS.inv GJ hc hs hv (fun v r h' g' w' hq hI JP hr=>hn _ _ g' w' v hq hI JP hr)
    unfold Gs at hc;split at hc
    .rename_i fn e;rw[e]at ny;have hx:a.eval f=.func (.func fn) #[] #[]:=ny.v_eq;refine fin hc UT d7 ?_;simp only[execOp,resolve,hx,Deferred.ofValue,Sem.run_bind,Sem.run_pure,Result.andThen_ok,invoke];rw[He hc.1];simp
    .rename_i fn caps e;rw[e]at ny;generalize hx:a.eval f=fv at ny;cases ny with
     |clo _ _ _ vs FW Qp=>
      refine fin hc (vals:=args.map a.eval++vs) aa0 (fun i av x h1 h2=>?_) ?_
      .grind
      .simp only[execOp,resolve,hx,Deferred.ofValue,Sem.run_bind,Sem.run_pure,Result.andThen_ok,invoke];rw[He hc.1];simp
    .rename_i l e;rw[e]at ny
     exact yl l _ ny.v_eq (Nv (C:=YieldAt Fence.wide 0 cx.P l (args.map a.eval) w) (R:=fun e w'=>∃v,e=.returned v/\next (a.put dst v) w') YieldAt.imp hS.inv GJ (fun rS=>hc (D3 σ g) w _ UT d7 rS (hY l σ _ _ _ hσ hS.inv hS.le))
      (fun v r h' g' w' hq hI JP hr=>⟨v,rfl,hn _ _ g' w' v hq hI JP hr⟩)) fun _ _ h=>h
    simp_all
  |geny σ nn=>
   simp only at hm;cases d with
   |none=>simp_all
   |some d=>
    simp only at hm;obtain⟨GJ,hc⟩:=hm;have hσ:EE σ=true:=aa0
    obtain⟨hR,_⟩:=YH hS.inv hσ;have ny:=(hS.eval f).ren hR;have d7:∀(i:Nat) (av:AV) (x:Value),((args.toList.map (ev st.t)).map (ren (CB σ) st.h))[i]?=some av->(args.map a.eval)[i]?=some x->O (D3 σ g) w (L (FL σ st.h)) av x:=by
     grind [O.ren,SR.eval]
    have UT:(args.map a.eval).size=((args.toList.map (ev st.t)).map (ren (CB σ) st.h)).length:=aa1
    split at hc
    .rename_i fn caps e;rw[e]at ny;generalize hx:a.eval f=fv at ny;cases ny with
     |clo _ _ _ vs FW Qp=>
      have CL:(execOp a.eval ⟨dst,.call ⟨.value f,args,HA⟩,ty,pos,after,gd⟩).run cx.P w=.ok (.enter fn (args.map a.eval++vs)) w:=by
       simp only[execOp,resolve,hx,Deferred.ofValue,Sem.run_bind,Sem.run_pure,Result.andThen_ok,invoke];rw[He hc.1];simp
      refine NQ (fun c e=>by cases e) ?_;unfold Oper.wp;rw[CL];refine Nv (C:=Calls cx.P fn (args.map a.eval++vs) w) (fun h k=>h.mono k) hS.inv GJ (fun rS=>hc.2 (D3 σ g) w _ aa0 (fun i av x h1 h2=>?_) rS (fun l=>hY l σ _ _ _ hσ hS.inv hS.le)) (fun v r h' g' w' hq hI JP hr=>hn _ _ g' w' v hq hI JP hr)
      grind
    simp_all
end
section
variable {P:Program}{N:Nat}{ds:List Deferred}{w0:World}{g0:D}{h0:Nat->HO}{st:St}{g:D}{a:Act}{w:World}
theorem ae(hT:Cc P cx.T){b:Builtin}{dst:Option Nat}{ty:Nat}{gd:Option (Nat×Bool)}{next:Act->World->Prop}{Q:Exit->Act->World->Prop}(hS:SR N ds w0 g0 h0 st g a w)(hk:Gi cx dst st.h b HA.toList (args.toList.map (ev st.t)) K)(hn:de w0 g0 h0 st.h g w K fun x w'=>next (a.put dst x) w'):Oper.wp P ⟨dst,.call ⟨.builtin b,args,HA⟩,ty,pos,after,gd⟩ a w next Q:=by
 have hI:=hS.inv;have hE:=hS.eval;obtain⟨l⟩:=args;obtain⟨tl⟩:=HA;unfold Gi at hk;split at hk
 .rename_i x t e1 e2
  match l,e1 with
  | [y],e1=>
   simp only[Bo,Ji,N4,and_true]at e1;subst e1;simp only at e2;subst e2;exact DW (m:=Builtin.len_ #[t] ty #[a.eval y]) (by simp[execOp,resolve,invoke,builtin]) (Bw.does hI (oE hT hI.objs (hE y) hk)) hn
 .rename_i s x t t' e1 e2
  match l,e1 with
  | [y,z],e1=>
   simp only[Bo,Ji,N4,and_true]at e1;obtain⟨rfl,rfl⟩:=e1;simp only at e2;subst e2;split at hk
   .rename_i ht;obtain rfl:=AY ht;exact DW (m:=Builtin.append_ #[t,t] ty #[a.eval y,a.eval z]) (by simp[execOp,resolve,invoke,builtin]) (dw hI hT (hE y) (hE z) hk) hn
   simp_all
 .rename_i x y HA e1
  match l,e1 with
  | [y,z],e1=>
   simp only[Bo,Ji,N4,and_true]at e1;obtain⟨rfl,rfl⟩:=e1;exact DW (m:=Builtin.max_ ⟨tl⟩ ty #[a.eval y,a.eval z]) (by simp[execOp,resolve,invoke,builtin]) (Bw.does hI (sE (hE y) (hE z) hk)) hn
 .rename_i x y HA e1
  match l,e1 with
  | [y,z],e1=>
   simp only[Bo,Ji,N4,and_true]at e1;obtain⟨rfl,rfl⟩:=e1;exact DW (m:=Builtin.min_ ⟨tl⟩ ty #[a.eval y,a.eval z]) (by simp[execOp,resolve,invoke,builtin]) (Bw.does hI (sG (hE y) (hE z) hk)) hn
 simp_all
theorem qP(hT:Cc P cx.T){next:Act->World->Prop}{Q:Exit->Act->World->Prop}(hS:SR N ds w0 g0 h0 st g a w)(hk:Gb cx dr o st K)(hv:∀f args HA,o.op≠.call ⟨.value f,args,HA⟩)(hn:de w0 g0 h0 st.h g w K fun x w'=>next (a.put o.dst x) w'):o.wp P a w next Q:=by
 have hI:=hS.inv;have hE:=hS.eval;obtain⟨dst,op,ty,pos,after,gd⟩:=o;unfold Gb at hk;cases op with
 |move x=>exact iY hI (x:=a.eval x) rfl hk (hE x) hn
 |assign x=>
  obtain⟨g',av,h',q1,q2,q3,q4⟩:=dy hI (hE x) hk;exact hn _ _ _ _ _ q1 q2 q3 q4
 |pick c x y=>exact DW (m:=do pure (if <-asBool (a.eval c)then a.eval x else a.eval y)) (by simp[execOp]) (Bw.does hI (po (hE c) (hE x) (hE y) hk)) hn
 |alloc e=>exact DW rfl (jg hI hT hk) hn
 |box e x=>exact DW rfl (qX hI (hE x) hk) hn
 |build t ps=>exact DW rfl (Bw.does hI (jt hT hE hk)) hn
 |buildSlice t n ps=>exact DW rfl (T5 hI hT hE hk) hn
 |insert t m k x=>exact ZH rfl (Oq hI hT (hE m) (hE k) (hE x) hk) hn
 |load t x=>exact DW rfl (Bw.does hI (Xw hI.objs hT (hE x) hk)) hn
 |store t p x=>exact ZH rfl (lL hI hT (hE p) (hE x) hk) hn
 |nilCheck x=>
  obtain⟨h1,h2⟩:=Zh (P:=P) (w:=w) (hE x) hk (pos:=pos) (after:=after) (gd:=gd) (dst:=dst) (ty:=ty) (ρ:=a.eval) rfl<;>grind [iY]
 |binOp op t x y u=>exact DW rfl (Bw.does hI (mp hT (hE x) (hE y) (fun v e=>by subst e;rfl) hk)) hn
 |unOp op t x=>exact DW rfl (Bw.does hI (qi (hE x) hk)) hn
 |convert s t x=>
  cases dr with
  |true=>exact DW rfl (Bw.does hI (ar hT (hE x) hk)) hn
  |false=>exact DW rfl (jB hI hT (hE x) hk) hn
 |makeFunc fn first cap=>exact DW rfl (Bw.does hI (Ze hI.objs hE hk)) hn
 |makeMap t r=>
  cases r with
  |some r=>simp_all
  |none=>exact DW rfl (bM hI hk) hn
 |makeSlice t n c=>exact DW rfl (Ww hI hT (hE n) (hE c) hk) hn
 |slice t x lo hi mx=>
  cases dr with
  |true=>
   cases hp:T1 cx.pl.tok dst with
   |none=>
    have hk' : IQ cx dst st.h t (ev st.t x) (CT st.t lo) (CT st.t hi) (CT st.t mx) K:=by
     simp_all
    exact DW rfl (XO hI hT hE (hE x) hk') hn
   |some _=>
    have hk' : VA cx dst st.h t (ev st.t x) lo (CT st.t hi) mx K:=by
     simp_all
    unfold VA at hk';split at hk'
    .exact DW rfl (iF hI hT hE (hE x) hk') hn
    simp_all
  |false=>
   cases hp:T1 cx.pl.tok dst with
   |none=>
    have hk' : IQ cx dst st.h t (ev st.t x) (CT st.t lo) (CT st.t hi) (CT st.t mx) K:=by
     simp_all
    exact DW rfl (XO hI hT hE (hE x) hk') hn
   |some _=>
    have hk' : pI cx dst st.h t (ev st.t x) st.t lo hi mx K:=by
     simp_all
    cases lo with
    |some lo=>exact DW rfl (cy hI hT hE (hE x) hk') hn
    |none=>
     unfold pI at hk';dsimp only at hk';split at hk'
     .exact DW rfl (Bw.does hI (jm hI.objs hT (hE x) hk')) hn
     .unfold VA at hk';split at hk'
      .exact DW rfl (iF hI hT hE (hE x) hk') hn
      simp_all
 |fieldAddr s x f=>exact DW rfl (Bw.does hI (jK hT (hE x) hk)) hn
 |field s x f=>exact DW rfl (Bw.does hI (dS hT (hE x) hk)) hn
 |indexAddr t x i=>exact DW rfl (Bw.does hI (Wt hT (hE x) (hE i) hk)) hn
 |index t x i=>exact DW rfl (Bw.does hI (kn hT (hE x) (hE i) hk)) hn
 |lookup t x i ok=>
  have hk:NM cx.T st.h t (ev st.t x) (ev st.t i) ok fun v=>K v st.h:=by
   grind [kE]
  exact DW rfl (Bw.does hI (fu hT hI.objs (hE x) (hE i) hk)) hn
 |mapUpdate t m k x=>exact ZH rfl (Oq hI hT (hE m) (hE k) (hE x) hk) hn
 |range t x=>
  simp only at hk;split at hk
  .rename_i kt e ht;exact DW rfl (lq hI hT ht (hE x) hk) hn
  simp_all
 |next it s=>
  cases s with
  |true=>simp_all
  |false=>exact DW rfl (oU hI (hE it) hk) hn
 |entry it=>exact DW rfl (Bw.does hI (jI hI.objs (hE it) hk)) hn
 |extract x i=>exact DW rfl (Bw.does hI (aG (hE x) hk)) hn
 |call c=>
  obtain⟨ya,args,HA⟩:=c<;>grind [ae]
 |_=>simp_all
theorem mh(hP:cx.P=P)(hY:∀l σ h g w,EE σ=true->CZ w0 g0 h0 h g w->Le h0 g0 w0 h g w->cx.yp l σ (D3 σ g) w){ro:Option Nat}(hT:Cc P cx.T){next:Act->World->Prop}{Q:Exit->Act->World->Prop}(hS:SR N ds w0 g0 h0 st g a w)(hk:Gb cx dr o st K)(hn:de w0 g0 h0 st.h g w K fun x w'=>next (a.put o.dst x) w'):o.wpIn (Kq ro) 0 P a w next Q:=by
 by_cases hv:∃f args HA,o.op=.call ⟨.value f,args,HA⟩
 .obtain⟨f,args,HA,e⟩:=hv;obtain⟨dst,op,ty,pos,after,gd⟩:=o;cases e;exact mA hP hY hS hk hn
 .refine NQ (fun c e=>?_) (qP hT hS hk (fun f args HA e=>hv ⟨f,args,HA,e⟩) hn);obtain⟨dst,op,ty,pos,after,gd⟩:=o;cases e;exact hk.elim
theorem Ab0{p:Nat->Prop}(h:∃n,p n):∃n,p n/\∀m,m<n->¬p m:=by
 apply As;intro hc
 have:∀n,¬p n:=fun n=>by
  induction n using Nat.strongRecOn<;>grind [Nat.strongRecOn]
 simp_all
theorem Tn{m:Nat}{c:Code}{Q:Exit->Act->World->Prop}(I:Nat->Act->World->Prop)(k:Nat)(h0:I k a w)(round:∀n a w,I n a w->c.wpIn F m P (Exit.then (fun a' w'=>∃n',n' < n/\I n' a' w') Q) a w):(Code.loop c).wpIn F m P Q a w:=by
 classical
 have hex:∀a w,(∃n,I n a w)->∃n,I n a w/\∀n',n' < n->¬I n' a w:=fun a w h=>Ab0 h;refine wpIn_loop (fun a w=>∃n,I n a w) (fun a w=>if h:∃n,I n a w then(hex a w h).choose else 0) ⟨k,h0⟩ fun a w h=>?_;have hs:=(hex a w h).choose_spec;refine wpIn_mono (round _ a w hs.1) fun e a' w' q=>?_;cases e with
 |normal=>
  obtain⟨n',E4,hn⟩:=q;have h' : ∃n,I n a' w':=⟨n',hn⟩;refine⟨h',?_⟩
  grind
 |_=>exact q
end
section
variable {P:Program}{N:Nat}{ds:List Deferred}{w0:World}{g0:D}{h0:Nat->HO}{st:St}{g:D}{a:Act}{w:World}
theorem jy(hT:Cc P T){ty e k ty2 b o n c:Nat}(ht:(T ty).d=.slice e)(hk:(T e).size=k+1)(hz:(T e).zc.length=k+1)(YS:∀v∈(T e).zc,v.oneCell'=true){Ew:Array Value}{E:TypeId}(hb:w.heap[b]?=some (.cells Ew E (0,0)))(hn:0<n)(JP:o+n*(k+1)<=Ew.size) :
  (Builtin.clear_ #[ty] ty2 #[.slice (some ⟨b,o,none⟩) n c]).run P w=.ok (.tuple #[]) (w.setRow b (over Ew.toList o (List.replicate n (T e).zc).flatten).toArray):=by
 obtain⟨z,z1,z2⟩:=X1 (w:=w) hT hk;have wZ:(T e).zc≠[]:=fun e0=>by simp_all
 have wT:(Builtin.zeroCells z.cells n).toList=(List.replicate n (T e).zc).flatten:=by
  rw[Iv n _ wZ,hz,z2];have e6:z.cells.size=k+1:=aa0
  unfold Builtin.zeroCells;simp[e6,Array.getElem!_eq_getD]
 have CN:(List.replicate n (T e).zc).flatten.length=n*(k+1):=by
  simp_all
 have Iz:=run_storeCells_at P b o E (List.replicate n (T e).zc).flatten 0 Ew w hb Wk (fun v hv=>by
  grind [List.mem_flatten])
 simp only[H6]at Iz;rw[NS _ _ _ aa0];obtain⟨m,rfl⟩:∃m,n=m+1:=⟨n-1,by omega⟩;simp only[Builtin.clear_,Sem.run_bind,List.getElem?_toArray,EH,run_underlying (hT.slice ht),Result.andThen_ok,z1,wT,Iz,Sem.run_pure]
theorem dK(hT:Cc P T){ty e ty2 c:Nat}(ht:(T ty).d=.slice e)(x:Option Addr) :
  (Builtin.clear_ #[ty] ty2 #[.slice x 0 c]).run P w=.ok (.tuple #[]) w:=by
 cases x<;>simp only[Builtin.clear_,Sem.run_bind,List.getElem?_toArray,EH,run_underlying (hT.slice ht),Result.andThen_ok,Sem.run_pure]
theorem pD{d:Nat}(hd:d<a.tmps.size):(a.put (some d) x).eval (.tmp d)=x:=by
 show(a.tmps.setIfInBounds d x).getD d undef=x;simp_all
theorem nY(h:Nat->HO)(r:Nat):AJ h r (h r)=h:=funext fun i=>by
 grind [A0,BQ]
theorem fg(h:bB o o2=true):∃ty x lo d ty2 pos after xP td X9,o=⟨some d,.slice ty x (some lo) none none,ty2,pos,after,none⟩/\o2=⟨none,.call ⟨.builtin .clear,#[.tmp d],#[ty]⟩,xP,td,X9,none⟩:=by
 obtain⟨dst,op,t2,p1,a1,gd⟩:=o;obtain⟨AjF,op2,t3,p2,a2,gd2⟩:=o2;unfold bB at h;split at h
 .rename_i c e1;split at h
  .rename_i e2;split at h
   .rename_i ty x lo e3;split at h
    .rename_i d d' ty' e4 e5 e6 e7 e8 e9;obtain⟨ya,⟨args⟩,⟨HA⟩⟩:=c;simp only at e1 e2 e3 e4 e5 e6 e7 e8 e9;simp only[Aq]at h;obtain rfl:=AY h.1;obtain rfl:=AY h.2;subst e1 e2 e3 e4 e5 e6 e7 e8 e9
     grind
    simp_all
   simp_all
  simp_all
 simp_all
theorem rn(hT:Cc P cx.T){ro:Option Nat}(hd:∀i,o.dst=some i->i<N)(hc:bB o o2=true){K:St->Prop}(hS:SR N ds w0 g0 h0 st g a w)(hk:rm cx o st K){next:Act->World->Prop}{Q:Exit->Act->World->Prop}(hn:∀EQ g' a' w',K EQ->SR N ds w0 g0 h0 EQ g' a' w'->next a' w') :
  o.guard=none/\o2.guard=none/\o.wpIn (Kq ro) 0 P a w (fun a1 w1=>o2.wpIn (Kq ro) 0 P a1 w1 next Q) Q:=by
 obtain⟨ty,x,lo,d,ty2,pos,after,xP,td,X9,rfl,rfl⟩:=fg hc;refine⟨rfl,rfl,?_⟩;have hI:=hS.inv;have hE:=hS.eval;have hdN:d<a.tmps.size:=by grind [SR.size]
 -- what is to be shown of the two operations
 have two:∀(v:Value) (EQ : St) (g' : D) (w' : World),(Instr.sliceAt ty (a.eval x) (some (a.eval lo)) none none).run P w=.ok v w->(Builtin.clear_ #[ty] xP #[v]).run P w=.ok (.tuple #[]) w'->K ⟨Kl st.t d .junk,EQ.h⟩->CZ w0 g0 h0 EQ.h g' w'->Le st.h g w EQ.h g' w' ->
   Oper.wpIn (Kq ro) 0 P ⟨some d,.slice ty x (some lo) none none,ty2,pos,after,none⟩ a w (fun a1 w1=>Oper.wpIn (Kq ro) 0 P ⟨none,.call ⟨.builtin .clear,#[.tmp d],#[ty]⟩,xP,td,X9,none⟩ a1 w1 next Q) Q:=by
  intro v EQ g' w' r1 r2 hk hI' JP;refine NQ aa0 ?_;unfold Oper.wp;have hx:execOp a.eval ⟨some d,.slice ty x (some lo) none none,ty2,pos,after,none⟩=(do pure (Next.value (<-Instr.sliceAt ty (a.eval x) (some (a.eval lo)) none none))):=rfl;rw[hx,Sem.run_bind,r1];refine NQ aa0 ?_;unfold Oper.wp;have hx2:execOp (a.put (some d) v).eval ⟨none,.call ⟨.builtin .clear,#[.tmp d],#[ty]⟩,xP,td,X9,none⟩=(do pure (Next.value (<-Builtin.clear_ #[ty] xP #[v]))):=by
   grind [execOp,resolve,invoke,builtin,pD]
  rw[hx2,Sem.run_bind,r2];have S1:SR N ds w0 g0 h0 (st.put (some d) .junk st.h) g (a.put (some d) v) w:=hS.put hd hI (.refl _ _ _) (.junk _ _);have S2:SR N ds w0 g0 h0 ((st.put (some d) .junk st.h).put none (.v (.tuple #[])) EQ.h) g' ((a.put (some d) v).put none (.tuple #[])) w':=S1.put aa0 hI' JP (.v _ _);exact hn _ g' _ w' hk S2
 unfold rm at hk;simp only at hk;split at hk
 .rename_i e hs;split at hk
  .rename_i r n ex;split at hk
   .rename_i i ei;split at hk
    .rename_i sz es er;split at hk
     .rename_i hb;obtain rfl:=AY hb;split at hk
      .simp_all
      .rename_i k FW;split at hk
       .rename_i ZL;have ZL:=AY ZL;obtain⟨⟨rfl,i0,i1⟩,hk⟩:=hk;unfold zw at hk;split at hk
        .rename_i GI;have GI:∀v∈(cx.T e).zc,v.oneCell'=true:=AS.1 GI;have ho:=hI.objs r;rw[er]at ho;obtain⟨t1,l1,al,a2⟩:=ho;have od:=hE x;rw[ex]at od;have hlo:=hE lo;rw[ei]at hlo;have hlo:=hlo.v_eq;generalize hvx:a.eval x=vx at od two;rw[hlo]at two;cases od with
         |msl _ _ _ ad cap hu ht' kc ha Tg=>
          have hv:=Tg l1.symm;have Qp:es.length<=cap:=by
           grind
          have CL:=E6 (P:=P) (w:=w) hT hs FW ad es.length cap (some i) none none (.inl rfl) aa0 aa0 aa0 aa1;simp only[EK,Mr,GO,Option.map_some,Option.map_none]at CL
          by_cases hz:i.toNat=es.length
          .-- nothing is cleared
           have e1:es.length-i.toNat=0:=Wk
           rw[e1]at CL hk;refine two _ st g w CL (dK hT hs _) ?_ hI (.refl _ _ _);have e2:es.take i.toNat++List.replicate 0 ((cx.T e).zc.map AV.v)=es:=aa0
           rw[e2,<-er,nY]at hk;exact hk
          .have E4:i.toNat<es.length:=Wk
           rcases a2 with ⟨b1,_⟩ | ⟨b,N7,E,vs,b1,b2,b3,b4,b5,b6,b7⟩
           .simp_all
           .rw[b1]at hv;cases hv;have ER:¬cap=i.toNat:=Wk
            rw[AL ER]at CL;have Aey:Option.map (fun x:Addr=>x.add (i.toNat*(cx.T e).size)) (some ⟨b,0,none⟩)=some ⟨b,i.toNat*(cx.T e).size,none⟩:=by grind [Addr.add]
            rw[Aey]at CL;have YR:es.length*(cx.T e).size<=cap*(cx.T e).size:=BB _ b3;have ki:i.toNat*(cx.T e).size+(es.length-i.toNat)*(cx.T e).size=es.length*(cx.T e).size:=by rw[<-ME];simp_all
            have hcl:=jy (w:=w) (ty2:=xP) (c:=cap-i.toNat) hT hs FW (ZL.trans FW) GI b4 (n:=es.length-i.toNat) (o:=i.toNat*(cx.T e).size) Wk aa0;have hl:(st.h r).live:=by rw[er];trivial
            generalize hZ:(List.replicate (es.length-i.toNat) (cx.T e).zc).flatten=Z at hcl;have hZl:Z.length=(es.length-i.toNat)*(cx.T e).size:=by
             rw[<-hZ,Dx (n:=(cx.T e).size) (fun c hc=>by simp_all),List.length_replicate]
            have UT:(es.take i.toNat++List.replicate (es.length-i.toNat) ((cx.T e).zc.map AV.v)).length=es.length:=by
             simp_all
            have Aez:∀c∈es.take i.toNat++List.replicate (es.length-i.toNat) ((cx.T e).zc.map AV.v),c.length=(cx.T e).size:=fun c hc=>by
             grind
            have Alh:vs.toList.length=cap*(cx.T e).size:=Wk
            have hfl:(es.take i.toNat++List.replicate (es.length-i.toNat) ((cx.T e).zc.map AV.v)).flatten=over es.flatten (i.toNat*(cx.T e).size) (Z.map AV.v):=by
             rw[NS _ _ _ (by rw[BG,hZl,ki,Dx al];omega),Ej,ON al,BG,hZl,ki,Eb (by rw[Dx al];omega),Ey,<-hZ,List.map_flatten,List.map_replicate]
            have si:((over vs.toList (i.toNat*(cx.T e).size) Z).toArray.toList.take (es.length*(cx.T e).size))=over (vs.toList.take (es.length*(cx.T e).size)) (i.toNat*(cx.T e).size) Z:=
             XF _ _ _ _ Wk Wk
            have hZr:Ci g w FK (Z.map AV.v) Z:=Ci.vals (by
             have zZ : ∀l:List AV,(∀a∈l,one a=true)->Hj l=true:=by
              intro l
              induction l with
              |nil=>intro _;rfl
              |cons a l ih=>intro h;simp[Hj,h a (List.mem_cons_self ..),ih (fun b hb=>h b (List.mem_cons_of_mem _ hb))]
             refine zZ _ fun q hq=>?_;obtain⟨y,hy,rfl⟩:=Ar.1 hq;rw[<-hZ]at hy;obtain⟨l,hl,hy⟩:=EI.1 hy;rw[List.eq_of_mem_replicate hl]at hy;exact GI y hy)
            have wQ:Ci g w FK (over es.flatten (i.toNat*(cx.T e).size) (Z.map AV.v)) (over (vs.toList.take (es.length*(cx.T e).size)) (i.toNat*(cx.T e).size) Z):=
             b6.over hZr _ (by rw[BG,hZl,ki,Dx al];omega)
            obtain⟨k1,k2⟩:=hI.write hl b2 (.arr (cx.T e).size (es.take i.toNat++List.replicate (es.length-i.toNat) ((cx.T e).zc.map AV.v))) b4 (over vs.toList (i.toNat*(cx.T e).size) Z).toArray (g.ln r) (g.own r) g.S aa1 rfl (fun b' e=>by simp_all) (fun _ _ h=>h)
             (fun b' o hs=>.inl hs) (fun o hs=>absurd hs (b7 o)) (fun hg Jf E1=>by
              obtain⟨u1,u2,u3,u4⟩:=Bn g r (g.ρ r) (g.ln r) (g.tk r) (g.own r) g.S;refine⟨u3.trans t1,u2.trans Wk,Aez,.inr ⟨b,cap,E,_,?_,u4.trans b2,by omega,E1,?_,?_,b7⟩⟩
              .simp_all
              .simp only[List.size_toArray,Gm,Array.length_toList];exact b5
              .rw[UT,si,hfl];exact wQ.mono Jf (fun _ h=>h) (fun _ h=>h.elim))
            exact two _ ⟨st.t,_⟩ _ _ CL hcl hk k1 k2
        simp_all
       simp_all
     simp_all
    simp_all
   simp_all
  simp_all
 simp_all
end
end Go.Eng
