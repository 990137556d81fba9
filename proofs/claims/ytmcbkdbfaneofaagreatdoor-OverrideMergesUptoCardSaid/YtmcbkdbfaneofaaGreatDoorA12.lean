/- Lemmas for the claims of this seat, without a condition: part 12 (EngZ1, EngZ2, EngZA). -/
import Derived.Test.YtmcbkdbfaneofaaGreatDoorA11
namespace Go.Eng
theorem W6:∀{σ:Ji},G5 σ=true→∀i j,CC σ i=some j↔Ia σ j=some i
 | [],_,i,j=>by simp[CC,Ia]
 |(a,b)::r,h,i,j=>by
  simp only[G5,Ah]at h;obtain⟨h1,h2⟩:=h;have ih:=W6 h2;have na:CC r a=none∧Ia r b=none:=by
   split at h1
   ·rename_i e1 e2;exact⟨e1,e2⟩
   ·cases h1
  unfold CC Ia
  by_cases e1:a=i<;>by_cases e2:b=j
  ·subst e1;subst e2;simp
  ·subst e1;simp only[Dg,Ke,CV e2,Ez];constructor
   ·intro h;cases h;exact absurd rfl e2
   ·intro h;rw[(ih a j).2 h]at na;cases na.1
  ·subst e2;simp only[Dg,Ke,CV e1,Ez];constructor
   ·intro h;rw[(ih i b).1 h]at na;cases na.2
   ·intro h;cases h;exact absurd rfl e1
  ·simp only[CV e1,CV e2,Ez];exact ih i j
theorem jl:∀{σ:Ji},Ey σ=true→G5 σ=true
 | [],_=>rfl
 |(a,b)::r,h=>by
  simp only[Ey,Ah]at h;simp only[G5,Ah];exact⟨h.1.1.1,jl h.2⟩
theorem Xk{σ:Ji}(h:Ey σ=true):∀i j,CC σ i=some j↔Ia σ j=some i:=W6 (jl h)
theorem V8:∀{σ:Ji},Ey σ=true→∀{i j},CC σ i=some j→1000≤j∧j<2000
 | [],_,i,j,h=>by simp[CC]at h
 |(a,b)::r,h,i,j,hf=>by
  simp only[Ey,Ah,Do,Cr]at h;unfold CC at hf
  by_cases e1:a=i
  ·subst e1;simp only[Dg,Ke]at hf;cases hf;exact⟨h.1.1.2,h.1.2⟩
  ·simp only[CV e1,Ez]at hf;exact V8 h.2 hf
theorem PL(f:Nat→Option Nat)(h:Nat→HO):∀(σ:Ji) (j:Nat),Aq (Xj f h σ) Aa j=match Ia σ j with | some i=>(h i).ren f h | none=>.free
 | [],j=>rfl
 |(a,b)::r,j=>by
  unfold Xj Aq Ia
  by_cases e:b=j
  ·subst e;simp
  ·simp only[CV e,CV (Ne.symm e),Ez];exact PL f h r j
structure KN(f:Nat→Option Nat)(h h2:Nat→HO)(g g2:Gh)(w:World):Prop where
 ids:∀r r',f r=some r'→AU h r→g2.tk r'=g.tk r∧g2.ln r'=g.ln r∧g2.ρ r'=g.ρ r∧g2.own r'=g.own r∧AU h2 r'
 S:∀b o,g2.S b o↔g.S b o
 objs:∀r,Eo g w (AU h) r (h r)
section
variable {f:Nat→Option Nat}{h h2:Nat→HO}{g g2:Gh}{w:World}
theorem KN.keeps(hR:KN f h h2 g g2 w):Fj g w g2 w:=fun b o hs=>⟨(hR.S b o).2 hs,rfl,fun _ _ e=>e⟩
theorem KN.noU(hR:KN f h h2 g g2 w){av:AV}{x:Value}(r:BS g w FL av x):BS g2 w (AU h2) av x:=r.mono hR.keeps (fun _ h=>h.elim) (fun _ h=>h.elim)
theorem BS.ren0(hR:KN f h h2 g g2 w){av:AV}{x:Value}(r:BS g w (AU h) av x):BS g2 w (AU h2) (ren0 f h av) x:=by
 have down:BS g2 w (AU h2) (Eng.str0 h av) x:=hR.noU (BS.str0 hR.objs r);cases av with
 |v y=>exact down
 |slice tk es =>
  cases tk with
  |none=>exact down
  |full sz=>exact down
  |id i sz =>
   simp only[Eng.ren0];split
   ·rename_i i' e;cases r with
    |tok _ _ _ _ _ hs hl hu ht hn hx =>
     obtain⟨k1,k2,k3,k4,k5⟩:=hR.ids i i' e hu;exact .tok _ i' sz es x (hR.noU (BS.slice_none hs)) hl k5 (k1.trans ht) (by omega) (fun q=>by rw[k3];exact hx (by omega))
   ·exact hR.noU r.slice_none
  |ver i sz v =>
   simp only[Eng.ren0];split
   ·rename_i i' e;cases r with
    |ver _ _ _ _ _ _ hs hl hu ht hn hx =>
     obtain⟨k1,k2,k3,k4,k5⟩:=hR.ids i i' e hu;exact .ver _ i' sz v es x (hR.noU (BS.slice_none hs)) hl k5 (k1.trans ht) (by omega) (fun q=>by rw[k3];exact hx (by omega))
   ·exact hR.noU r.slice_none
 |msl i n =>
  simp only[Eng.ren0];split
  ·rename_i i' e;cases r with
   |msl _ _ _ a cap hu ht hn ha hx =>
    obtain⟨k1,k2,k3,k4,k5⟩:=hR.ids i i' e hu;exact .msl _ i' n a cap k5 (k1.trans ht) (by omega) ha (fun q=>by rw[k3];exact hx (by omega))
  ·exact .junk _ _
 |agg cs=>exact down
 |tup cs=>exact down
 |cptr cs=>exact down
 |ref i off =>
  simp only[Eng.ren0];split
  ·rename_i i' e;cases r with
   |ref _ _ _ b hu ht hx =>
    obtain⟨k1,k2,k3,k4,k5⟩:=hR.ids i i' e hu;exact .ref _ i' off b k5 (k1.trans ht) (k3.trans hx)
  ·exact down
 |eref i n sz k off =>
  simp only[Eng.ren0];split
  ·rename_i i' e;cases r with
   |eref _ _ _ _ _ _ b cap hu ht hn hx =>
    obtain⟨k1,k2,k3,k4,k5⟩:=hR.ids i i' e hu;exact .eref _ i' n sz k off b cap k5 (k1.trans ht) ⟨hn.1,by omega⟩ (fun q=>by rw[k3];exact hx (by omega))
  ·exact .junk _ _
 |mref i =>
  simp only[Eng.ren0];split
  ·rename_i i' e;cases r with
   |mref _ _ b hu ht hx =>
    obtain⟨k1,k2,k3,k4,k5⟩:=hR.ids i i' e hu;exact .mref _ i' b k5 (k1.trans ht) (k3.trans hx)
  ·exact down
 |cmap sh Ca=>exact down
 |clo i cs=>exact down
 |junk=>exact down
theorem BS.ren1(hR:KN f h h2 g g2 w){av:AV}{x:Value}(r:BS g w (AU h) av x):BS g2 w (AU h2) (ren1 f h av) x:=by
 cases av with
 |agg cs =>
  cases r with
  |agg _ _ vs hs h1 hr =>
   exact .agg _ _ vs (by simp[hs]) h1 fun i av x q1 q2=>by
    rw[AK]at q1;obtain⟨a,q3,rfl⟩:=AY.1 q1;exact(hr i a x q3 q2).ren0 hR
 |clo i cs =>
  cases r with
  |clo _ _ _ vs hs hr =>
   exact .clo _ _ _ vs (by simp[hs]) fun i av x q1 q2=>by
    rw[AK]at q1;obtain⟨a,q3,rfl⟩:=AY.1 q1;exact(hr i a x q3 q2).ren0 hR
 |_=>exact r.ren0 hR
theorem BS.ren(hR:KN f h h2 g g2 w){av:AV}{x:Value}(r:BS g w (AU h) av x):BS g2 w (AU h2) (ren f h av) x:=by
 cases av with
 |tup cs =>
  cases r with
  |tup _ _ vs hs hr =>
   exact .tup _ _ vs (by simp[hs]) fun i av x q1 q2=>by
    rw[AK]at q1;obtain⟨a,q3,rfl⟩:=AY.1 q1;exact(hr i a x q3 q2).ren1 hR
 |_=>exact r.ren1 hR
theorem MJ(f:Nat→Option Nat)(h:Nat→HO)(o:HO):(o.ren f h).live↔o.live:=by cases o<;>exact Ri
theorem MK(f:Nat→Option Nat)(h:Nat→HO)(o:HO):o.ren f h≠.free↔o≠.free:=by cases o<;>simp[HO.ren]
theorem Eo.ren(hR:KN f h h2 g g2 w){i j:Nat}(VF:f i=some j)(hu:AU h i){o:HO}(r:Eo g w (AU h) i o):Eo g2 w (AU h2) j (o.ren f h):=by
 obtain⟨k1,k2,k3,k4,k5⟩:=hR.ids i j VF hu;have noL:∀{cs:List AV} {vs:List Value},CP g w FL cs vs→CP g2 w FL cs vs:=fun hr=>hr.mono hR.keeps (fun _ h=>h) (fun _ h=>h.elim);have uE:∀{av:AV} {x:Value},BS g w FL av x→BS g2 w FL av x:=fun hr=>hr.mono hR.keeps (fun _ h=>h) (fun _ h=>h.elim);cases o with
 |free=>trivial
 |dead=>trivial
 |cells cs =>
  obtain⟨t,b,E,vs,a1,a2,a3,a4,a5⟩:=r;refine⟨k1.trans t,b,E,vs,k4.trans a1,k3.trans a2,a3,⟨by simp[a4.1],a4.2.1,fun i av x q1 q2=>?_⟩,fun o ho=>a5 o ((hR.S b o).1 ho)⟩;rw[AK]at q1;obtain⟨a,q3,rfl⟩:=AY.1 q1;exact(a4.2.2 i a x q3 q2).ren1 hR
 |ro cs =>
  obtain⟨t,b,a1,a2⟩:=r;exact⟨k1.trans t,b,k3.trans a1,uE a2⟩
 |tok sz n =>
  obtain⟨t,l,a,cap,a1,a2⟩:=r;refine⟨k1.trans t,k2.trans l,a,cap,k3.trans a1,?_⟩;rcases a2 with ⟨b1,b2⟩ | ⟨b1,b,E,vs,off,b2,b3,b4,b5,b6⟩
  ·exact .inl ⟨b1,k4.trans b2⟩
  ·exact .inr ⟨b1,b,E,vs,off,b2,k4.trans b3,b4,b5,fun o ho=>b6 o ((hR.S b o).1 ho)⟩
 |var sz v n =>
  obtain⟨t,l,a,cap,a1,a2⟩:=r;refine⟨k1.trans t,k2.trans l,a,cap,k3.trans a1,?_⟩;rcases a2 with ⟨b1,b2⟩ | ⟨b1,b,E,vs,off,b2,b3,b4,b5,b6⟩
  ·exact .inl ⟨b1,k4.trans b2⟩
  ·exact .inr ⟨b1,b,E,vs,off,b2,k4.trans b3,b4,b5,fun o ho=>b6 o ((hR.S b o).1 ho)⟩
 |vox v=>exact⟨k1.trans r.1,k2.trans r.2⟩
 |hol sz es i c av =>
  obtain⟨t,l,al,b,cap,E,vs,b1,b2,b3,b4,b5,b6,b7,b8,x,b9,Zm⟩:=r;exact⟨k1.trans t,k2.trans l,al,b,cap,E,vs,k3.trans b1,k4.trans b2,b3,b4,b5,noL b6,fun o ho=>b7 o ((hR.S b o).1 ho),b8,x,b9,Zm.ren1 hR⟩
 |raw b ob =>
  obtain⟨t,a1,a2,a3,a4⟩:=r;exact⟨k1.trans t,k4.trans a1,a2,a3,fun o ho=>a4 o ((hR.S b o).1 ho)⟩
 |arr sz es =>
  obtain⟨t,l,al,a2⟩:=r;refine⟨k1.trans t,k2.trans l,al,?_⟩;rcases a2 with ⟨b1,b2,b3⟩ | ⟨b,cap,E,vs,b1,b2,b3,b4,b5,b6,b7⟩
  ·exact .inl ⟨b1,k3.trans b2,k4.trans b3⟩
  ·exact .inr ⟨b,cap,E,vs,k3.trans b1,k4.trans b2,b3,b4,b5,noL b6,fun o ho=>b7 o ((hR.S b o).1 ho)⟩
 |map sh Ca =>
  obtain⟨t,b,es,ck,a1,a2,a3,a4,a5,a6⟩:=r;exact⟨k1.trans t,b,es,ck,k4.trans a1,k3.trans a2,a3,a4,fun i kv e q1 q2=>uE (a5 i kv e q1 q2),fun o ho=>a6 o ((hR.S b o).1 ho)⟩
 |mapU sh Ca =>
  obtain⟨t,b,es,ck,a1,a2,a3,a4,a5,a6⟩:=r;refine⟨k1.trans t,b,es,ck,k4.trans a1,k3.trans a2,a3,VW _ a4,fun i kv e q1 q2=>?_,fun o ho=>a6 o ((hR.S b o).1 ho)⟩;rw[AK]at q1;obtain⟨p,q3,rfl⟩:=AY.1 q1;exact(a5 i p e q3 q2).ren1 hR
 |rom sh Ca =>
  obtain⟨t,b,a1,a2⟩:=r;exact⟨k1.trans t,b,k3.trans a1,uE a2⟩
 |iter all rem FV =>
  obtain⟨t,b,mb,Ko,seen,st,es,ck,a1,a2,a3,a4,a5,a6,a7,a8,a9,XD,aX,a12,nW⟩:=r;exact⟨k1.trans t,b,mb,Ko,seen,st,es,ck,k4.trans a1,k3.trans a2,a3,(hR.S _ _).2 a4,a5,a6,a7,a8,fun i kv e q1 q2=>uE (a9 i kv e q1 q2),XD,aX,a12,fun o ho=>nW o ((hR.S b o).1 ho)⟩
end
theorem PD{h:Nat→HO}{d:Nat}:∀{n:Nat},DO h d n=true→∀k,k<n→h (BF d k)=.free
 |0,_,k,hk=>by omega
 |n+1,hf,k,hk=>by
  simp only[DO,Ah]at hf
  by_cases e:k=n
  ·subst e
   have:=hf.1
   split at this
   ·rename_i e2;exact e2
   ·cases this
  ·exact PD hf.2 k (by omega)
theorem NN{d nn:Nat}:∀{σ:Ji},DA σ d nn=true→∀{i j},CC σ i=some j→¬(BF d 0≤i∧i<BF d nn)
 | [],_,i,j,h=>by simp[CC]at h
 |(a,b)::r,hs,i,j,hf=>by
  simp only[DA,Ah]at hs;unfold CC at hf
  by_cases e1:a=i
  ·subst e1;have h1:=hs.1;simp only[Da,Bool.and_eq_false_iff]at h1;intro hc;rcases h1 with h1 | h1
   ·rw[Nat.ble_eq_true_of_le hc.1]at h1;cases h1
   ·have h2:Nat.blt a (BF d nn)=true:=by rw[Cr];exact hc.2
    rw[h2]at h1;cases h1
  ·simp only[CV e1,Ez]at hf;exact NN hs.2 hf
section
variable {P:Program}{w0:World}{g0:Gh}{h0 h:Nat→HO}{g:Gh}{w:World}
def DG(σ:Ji)(g:Gh):Gh :=
 ⟨fun j=>match Ia σ j with | some i=>g.ρ i | none=>.nilIface,fun j=>match Ia σ j with | some i=>g.ln i | none=>0,fun j=>match Ia σ j with | some i=>g.tk i | none=>false,
  fun j=>match Ia σ j with | some i=>g.own i | none=>none,g.S⟩
def We(σ:Ji)(d nn:Nat)(i:Nat):Option Nat :=
 match CC σ i with
 |some j=>some j
 |none=>match Nat.ble (BF d 0) i&&Nat.blt i (BF d nn)with |true=>some (2000+(i-BF d 0)) |false=>none
def G4(σ:Ji)(d nn:Nat)(g g' : Gh):Gh :=
 ⟨fun i=>match We σ d nn i with | some j=>g'.ρ j | none=>g.ρ i,fun i=>match We σ d nn i with | some j=>g'.ln j | none=>g.ln i,fun i=>match We σ d nn i with | some j=>g'.tk j | none=>g.tk i,
  fun i=>match We σ d nn i with | some j=>g'.own j | none=>g.own i,g'.S⟩
theorem cJ(σ:Ji)(d nn:Nat)(h h' : Nat→HO)(i:Nat):Eg σ d nn h h' i=match We σ d nn i with | some j=>(h' j).ren (Fo σ d nn) h' | none=>h i:=by
 unfold Eg We;cases CC σ i with
 |some j=>rfl
 |none =>
  dsimp only;cases Nat.ble (BF d 0) i&&Nat.blt i (BF d nn)<;>rfl
theorem jT{σ:Ji}{d nn:Nat}(hσ:Ey σ=true)(ha:DA σ d nn=true)(i j:Nat):We σ d nn i=some j↔Fo σ d nn j=some i:=by
 have inv:=Xk hσ;unfold We Fo;cases h1:CC σ i with
 |some j' =>
  have hb:=(inv i j').1 h1;dsimp only;constructor
  ·intro h;cases h;rw[hb]
  ·intro h;cases h2:Ia σ j with
   |some i'=>rw[h2]at h;cases h;rw[(inv i j).2 h2]at h1;exact h1.symm
   |none =>
    rw[h2]at h;dsimp only at h;split at h
    ·rename_i hc;have h:=BA h;subst h;simp only[Ah,Do,Cr]at hc;exact absurd ⟨by unfold BF;omega,by unfold BF;omega⟩ (NN ha h1)
    ·cases h
 |none =>
  dsimp only;cases h2:Ia σ j with
  |some i' =>
   dsimp only;have hf:=(inv i' j).2 h2;have hr:=V8 hσ hf;constructor
   ·intro h;split at h
    ·cases h;omega
    ·cases h
   ·intro h;cases h;rw[hf]at h1;cases h1
  |none =>
   dsimp only;constructor
   ·intro h;split at h
    ·rename_i hc;cases h;simp only[Ah,Do,Cr]at hc;have e1:(Nat.ble 2000 (2000+(i-BF d 0))&&Nat.blt (2000+(i-BF d 0)) (2000+nn))=true:=by
      simp only[Ah,Do,Cr];unfold BF at hc⊢;omega
     rw[e1]
     have:BF d (2000+(i-BF d 0)-2000)=i:=by unfold BF at hc⊢;omega
     rw[this]
    ·cases h
   ·intro h;split at h
    ·rename_i hc;have h:=BA h;subst h;simp only[Ah,Do,Cr]at hc;have e1:(Nat.ble (BF d 0) (BF d (j-2000))&&Nat.blt (BF d (j-2000)) (BF d nn))=true:=by
      simp only[Ah,Do,Cr];unfold BF;omega
     rw[e1]
     have:2000+(BF d (j-2000)-BF d 0)=j:=by unfold BF;omega
     rw[this]
    ·cases h
theorem WT(hI:DQ w0 g0 h0 h g w){σ:Ji}(hσ:Ey σ=true):KN (CC σ) h (FU σ h) g (DG σ g) w∧DQ w (DG σ g) (FU σ h) (FU σ h) (DG σ g) w:=by
 have inv:=Xk hσ;have Fy:∀j,FU σ h j=match Ia σ j with | some i=>(h i).ren (CC σ) h | none=>.free:=PL _ _ σ
 have hR:KN (CC σ) h (FU σ h) g (DG σ g) w:=by
  refine⟨fun r r' hr hu=>?_,fun b o=>Ri,hI.objs⟩;have hb:=(inv r r').1 hr;refine⟨by simp[DG,hb],by simp[DG,hb],by simp[DG,hb],by simp[DG,hb],?_⟩;unfold AU;rw[Fy,hb];exact(MK _ _ _).2 hu
 have Mu:∀j,(FU σ h j).live→∃i,Ia σ j=some i∧(h i).live:=fun j hl=>by
  rw[Fy]at hl;cases e:Ia σ j with
  |none=>rw[e]at hl;exact hl.elim
  |some i=>rw[e]at hl;exact⟨i,rfl,(MJ _ _ _).1 hl⟩
 have W2:∀j i,Ia σ j=some i→(DG σ g).own j=g.own i:=fun j i e=>by simp[DG,e]
 refine⟨hR,rfl,rfl,rfl,Al _,fun _ _ _=>rfl,hI.slt,fun j=>?_,fun j j' b hl Qu e e'=>?_,fun j b hl e=>?_,fun _ _ h=>.inl h,hI.glob⟩
 ·rw[Fy];cases e:Ia σ j with
  |none=>trivial
  |some i =>
   by_cases hu:AU h i
   ·exact(hI.objs i).ren hR ((inv i j).2 e) hu
   ·have:h i=.free:=B2.1 hu
    dsimp only;rw[this];trivial
 ·obtain⟨i,e1,l1⟩:=Mu j hl;obtain⟨i',e2,l2⟩:=Mu j' Qu;rw[W2 j i e1]at e;rw[W2 j' i' e2]at e';obtain rfl:=hI.inj i i' b l1 l2 e e'
  have:=(inv i j).2 e1
  rw[(inv i j').2 e2]at this;cases this;rfl
 ·obtain⟨i,e1,l1⟩:=Mu j hl;have e0:=e;rw[W2 j i e1]at e;exact⟨(hI.loc i b l1 e).1,.inr ⟨j,hl,e0⟩⟩
theorem MW{C:(Ending→World→Prop)→Prop}(hm:∀{R R' : Ending→World→Prop},C R→(∀e w,R e w→R' e w)→C R')(hI:DQ w0 g0 h0 h g w){σ:Ji}{d nn:Nat}(GW:(Ey σ&&DO h d nn&&DA σ d nn)=true){Q:AV→(Nat→HO)→Prop}
  (hc:DQ w (DG σ g) (FU σ h) (FU σ h) (DG σ g) w→C (fun e w'=>∃v r h' g',e=Ending.returned v∧Q r h'∧BS g' w' (AU h') r v∧DQ w (DG σ g) (FU σ h) h' g' w'∧Le (FU σ h) (DG σ g) w h' g' w')) {R:Ending→World→Prop}
  (bu:∀v r h' g2 w',Q r h'→DQ w0 g0 h0 (Eg σ d nn h h') g2 w'→Le h g w (Eg σ d nn h h') g2 w'→BS g2 w' (AU (Eg σ d nn h h')) (ren (Fo σ d nn) h' r) v→R (.returned v) w'):C R:=by
 simp only[Ah]at GW;obtain⟨⟨hσ,hnf⟩,rX⟩:=GW;obtain⟨hF,lr⟩:=WT hI hσ;have inv:=Xk hσ;have lH:=jT hσ rX;refine hm (hc lr) ?_
 rintro e w' ⟨v,r,h',g',rfl,q1,q2,q3,q4⟩
 have hb:=cJ σ d nn h h';have ic:∀i j,We σ d nn i=some j→(G4 σ d nn g g').ρ i=g'.ρ j∧(G4 σ d nn g g').ln i=g'.ln j∧(G4 σ d nn g g').tk i=g'.tk j∧(G4 σ d nn g g').own i=g'.own j:=fun i j e=>by simp[G4,e]
 have wY:∀i,We σ d nn i=none→(G4 σ d nn g g').ρ i=g.ρ i∧(G4 σ d nn g g').ln i=g.ln i∧(G4 σ d nn g g').tk i=g.tk i∧(G4 σ d nn g g').own i=g.own i:=fun i e=>by simp[G4,e]
 have hB:KN (Fo σ d nn) h' (Eg σ d nn h h') g' (G4 σ d nn g g') w':=by
  refine⟨fun j i hj hu=>?_,fun b o=>Ri,q3.objs⟩;have e:=(lH i j).2 hj;obtain⟨k1,k2,k3,k4⟩:=ic i j e;refine⟨k3,k2,k1,k4,?_⟩;unfold AU;rw[hb,e];exact(MK _ _ _).2 hu
 have ne:∀j,FU σ h j=match Ia σ j with | some i=>(h i).ren (CC σ) h | none=>.free:=PL _ _ σ
 have wR:∀j i,CC σ i=some j→(h i).live→(FU σ h j).live:=fun j i e hl=>by
  rw[ne,(inv i j).1 e];exact(MJ _ _ _).2 hl
 have zC:∀j i,CC σ i=some j→(DG σ g).own j=g.own i:=fun j i e=>by simp[DG,(inv i j).1 e]
 have Sp : ∀j,(FU σ h j).live→∃i,CC σ i=some j∧(h i).live∧(DG σ g).own j=g.own i:=fun j hl=>by
  rw[ne]at hl;cases e:Ia σ j with
  |none=>rw[e]at hl;exact hl.elim
  |some i=>rw[e]at hl;exact⟨i,(inv i j).2 e,(MJ _ _ _).1 hl,by simp[DG,e]⟩
 -- what the callee may not touch
 have nl:∀b,b<w.heap.size→(∀i,(h i).live→CC σ i≠none→g.own i≠some b)→w'.heap[b]?=w.heap[b]?:=fun b DF hn=>q3.frame b DF fun j hl e=>by
  obtain⟨i,e1,l1,o1⟩:=Sp j hl;exact hn i l1 (by rw[e1];simp) (by rw[←o1];exact e)
 have wF:∀b o,g'.S b o→b<w.heap.size→(∀i,(h i).live→CC σ i≠none→g.own i≠some b)→g.S b o:=fun b o hs DF hn=>by
  rcases q3.sg b o hs with h1 | h1 | ⟨j,h1,h2⟩
  ·exact h1
  ·omega
  ·obtain⟨i,e1,l1,o1⟩:=Sp j h1;exact absurd (by rw[←o1];exact h2) (hn i l1 (by rw[e1];simp))
 have hk:Fj g w (G4 σ d nn g g') w':=q4.keeps;have Aa:∀i,CC σ i=none→We σ d nn i≠none→h i=.free:=fun i e1 e2=>by
  unfold We at e2;rw[e1]at e2;dsimp only at e2;split at e2
  ·rename_i hc;simp only[Ah,Do,Cr]at hc
   have:=PD hnf (i-BF d 0) (by unfold BF at hc⊢;omega)
   rw[show BF d (i-BF d 0)=i by unfold BF at hc⊢;omega]at this;exact this
  ·exact absurd rfl e2
 have dq:∀i j,CC σ i=some j→We σ d nn i=some j:=fun i j e=>by unfold We;rw[e]
 have zH:Kr g (G4 σ d nn g g') (AU h):=fun i hu=>by
  cases e:CC σ i with
  |some j =>
   obtain⟨k1,k2,k3,k4⟩:=ic i j (dq i j e);obtain⟨f1,f2,f3,f4,f5⟩:=hF.ids i j e hu;obtain⟨m1,m2,m3,m4⟩:=q4.gh j f5;exact⟨(k3.trans m1).trans f1,by omega,fun t=>(k1.trans (m3 (f1.trans t))).trans f3,fun l=>(k1.trans (m4 (by omega))).trans f3⟩
  |none =>
   have e2:We σ d nn i=none:=B2.1 fun e2=>hu (Aa i e e2);obtain⟨k1,k2,k3,k4⟩:=wY i e2;exact⟨k3,by omega,fun _=>k1,fun _=>k1⟩
 have Ly:∀i,AU h i→AU (Eg σ d nn h h') i:=fun i hu=>by
  unfold AU;rw[hb];cases e:CC σ i with
  |some j =>
   rw[dq i j e];exact(MK _ _ _).2 (q4.us j (hF.ids i j e hu).2.2.2.2)
  |none =>
   have e2:We σ d nn i=none:=B2.1 fun e2=>hu (Aa i e e2);rw[e2];exact hu
 have dj:∀i,(Eg σ d nn h h' i).live→(∃j,We σ d nn i=some j∧(h' j).live∧(G4 σ d nn g g').own i=g'.own j)∨(We σ d nn i=none∧(h i).live∧(G4 σ d nn g g').own i=g.own i∧CC σ i=none):=fun i hl=>by
  rw[hb]at hl;cases e:We σ d nn i with
  |some j=>rw[e]at hl;exact .inl ⟨j,rfl,(MJ _ _ _).1 hl,(ic i j e).2.2.2⟩
  |none =>
   rw[e]at hl;refine .inr ⟨rfl,hl,(wY i e).2.2.2,?_⟩;cases e2:CC σ i with
   |none=>rfl
   |some j=>rw[dq i j e2]at e;cases e
 have r4:∀j b,(h' j).live→g'.own j=some b→b<w'.heap.size∧(w.heap.size≤b∨∃i,CC σ i≠none∧(h i).live∧g.own i=some b):=fun j b hl e=>by
  obtain⟨h1,h2⟩:=q3.loc j b hl e;refine⟨h1,h2.imp id ?_⟩
  rintro⟨j',l',e'⟩
  obtain⟨i,e1,l1,o1⟩:=Sp j' l';exact⟨i,by rw[e1];simp,l1,by rw[←o1];exact e'⟩
 have lK:∀i b,(h i).live→g.own i=some b→CC σ i=none→∀i',(h i').live→CC σ i'≠none→g.own i'≠some b:=fun i b hl e hn i' Qu Yo e'=>by
  obtain rfl:=hI.inj i i' b hl Qu e e';exact Yo hn
 refine bu v r h' (G4 σ d nn g g') w' q1 ⟨q3.os.trans hI.os,q3.tape.trans hI.tape,q3.output.trans hI.output,A3 hI.size q3.size,fun b DF hn=>?_,q3.slt,fun i=>?_,fun i i' b hl Qu e e'=>?_,fun i b hl e=>?_,fun b o hs=>?_,hI.glob.keep hk⟩ ⟨zH,Ly,hk⟩ (q2.ren hB)
 ·refine(nl b (BT DF hI.size) fun i hl _ e=>?_).trans (hI.frame b DF hn);rcases(hI.loc i b hl e).2 with h1 | ⟨r',h1,h2⟩
  ·omega
  ·exact hn r' h1 h2
 ·rw[hb];cases e:We σ d nn i with
  |some j =>
   by_cases hu:AU h' j
   ·exact(q3.objs j).ren hB ((lH i j).1 e) hu
   ·have:h' j=.free:=B2.1 hu
    dsimp only;rw[this];trivial
  |none =>
   obtain⟨k1,k2,k3,k4⟩:=wY i e;have e2:CC σ i=none:=by
    cases e2:CC σ i with
    |none=>rfl
    |some j=>rw[dq i j e2]at e;cases e
   refine(hI.objs i).same hk Ly zH k1 k2 k3 k4 fun b hl ho=>?_;have DF:=(hI.loc i b hl ho).1;exact⟨nl b DF (lK i b hl ho e2),fun k hs=>wF b k hs DF (lK i b hl ho e2)⟩
 ·have mixed:∀i j i',(h' j).live→g'.own j=some b→(h i').live→g.own i'=some b→CC σ i'=none→i=i':=fun i j i' l1 o1 l2 o2 n2=>by
   rcases(r4 j b l1 o1).2 with h1 | ⟨i3,n3,l3,o3⟩
   ·have:=(hI.loc i' b l2 o2).1;omega
   ·exact absurd o3 (lK i' b l2 o2 n2 i3 l3 n3)
  rcases dj i hl with ⟨j,s1,l1,o1⟩ | ⟨s1,l1,o1,n1⟩<;>rcases dj i' Qu with ⟨j',s2,l2,o2⟩ | ⟨s2,l2,o2,n2⟩
  ·obtain rfl:=q3.inj j j' b l1 l2 (by rw[←o1];exact e) (by rw[←o2];exact e');have a1:=(lH i j).1 s1;rw[(lH i' j).1 s2]at a1;cases a1;rfl
  ·exact mixed i j i' l1 (by rw[←o1];exact e) l2 (by rw[←o2];exact e') n2
  ·exact(mixed i' j' i l2 (by rw[←o2];exact e') l1 (by rw[←o1];exact e) n1).symm
  ·exact hI.inj i i' b l1 l2 (by rw[←o1];exact e) (by rw[←o2];exact e')
 ·rcases dj i hl with ⟨j,s1,l1,o1⟩ | ⟨s1,l1,o1,n1⟩
  ·obtain⟨h1,h2⟩:=r4 j b l1 (by rw[←o1];exact e);refine⟨h1,?_⟩;rcases h2 with h2 | ⟨i3,n3,l3,o3⟩
   ·exact .inl (A3 hI.size h2)
   ·exact(hI.loc i3 b l3 o3).2
  ·obtain⟨h1,h2⟩:=hI.loc i b l1 (by rw[←o1];exact e);exact⟨BT h1 q3.size,h2⟩
 ·rcases q3.sg b o hs with h1 | h1 | ⟨j,h1,h2⟩
  ·exact hI.sg b o h1
  ·exact .inr (.inl (A3 hI.size h1))
  ·obtain⟨i,e1,l1,o1⟩:=Sp j h1;exact .inr (hI.loc i b l1 (by rw[←o1];exact h2)).2
theorem ga(hI:DQ w0 g0 h0 h g w){σ:Ji}{d nn:Nat}(GW:(Ey σ&&DO h d nn&&DA σ d nn)=true){f:Nat}{args:List AV}{Q:AV→(Nat→HO)→Prop}(hc:Bm P f args (FU σ h) Q){vals:Array Value}(hs:vals.size=args.length)
  (hv:∀(i:Nat) (av:AV) (x:Value),args[i]?=some av→vals[i]?=some x→BS (DG σ g) w (AU (FU σ h)) av x) {R:Ending→World→Prop}
  (bu:∀v r h' g2 w',Q r h'→DQ w0 g0 h0 (Eg σ d nn h h') g2 w'→Le h g w (Eg σ d nn h h') g2 w'→BS g2 w' (AU (Eg σ d nn h h')) (ren (Fo σ d nn) h' r) v→R (.returned v) w'):Calls P f vals w R :=
 MW (C:=Calls P f vals w) (fun h k=>h.mono k) hI GW (hc.2 (DG σ g) w vals hs hv) bu
end
structure SR(N:Nat)(ds:List Deferred)(w0:World)(g0:Gh)(h0:Nat→HO)(st:St)(g:Gh)(a:Act)(w:World):Prop where
 inv:DQ w0 g0 h0 st.h g w
 le:Le h0 g0 w0 st.h g w
 dfs:a.defers=ds
 size:a.tmps.size=N
 slots:∀i,BS g w (AU st.h) (st.t i) (a.tmps.getD i undef)
section
variable {P:Program}{N:Nat}{ds:List Deferred}{w0:World}{g0:Gh}{h0:Nat→HO}{st:St}{g:Gh}{a:Act}{w:World}
theorem SR.eval(hS:SR N ds w0 g0 h0 st g a w)(x:Operand):BS g w (AU st.h) (ev st.t x) (a.eval x):=by
 cases x with
 |tmp i=>exact hS.slots i
 |const v=>exact .v _ _
 |global b=>exact .v _ _
 |func f=>exact .v _ _
theorem SR.put(hS:SR N ds w0 g0 h0 st g a w){d:Option Nat}(hd:∀i,d=some i→i<N){v:AV}{x:Value}{h' : Nat→HO}{g' : Gh}{w' : World}(hI:DQ w0 g0 h0 h' g' w')(Hr:Le st.h g w h' g' w')(hr:BS g' w' (AU h') v x) :
  SR N ds w0 g0 h0 (st.put d v h') g' (a.put d x) w':=by
 have old:∀i,BS g' w' (AU h') (st.t i) (a.tmps.getD i undef):=fun i=>(hS.slots i).le Hr;cases d with
 |none=>exact⟨hI,hS.le.trans Hr,hS.dfs,hS.size,old⟩
 |some d =>
  have wT:=hd d rfl;refine⟨hI,hS.le.trans Hr,hS.dfs,by simp[Act.put,hS.size],fun i=>?_⟩;simp only[St.put,Act.put,Hu]
  by_cases e:i=d
  ·subst e
   have:i<a.tmps.size:=by rw[hS.size];exact wT
   simp only[Dg,Ke];rw[CD,Array.getElem?_setIfInBounds_self,Ax this];exact hr
  ·simp only[CV e,Ez];rw[CD,Array.getElem?_setIfInBounds_ne (Ne.symm e),←CD];exact old i
def Zp(w0:World)(g0:Gh)(h0 h:Nat→HO)(g:Gh)(w:World)(K:HK)(next:Value→World→Prop):Prop :=
 ∀v h' g' w' x,K v h'→DQ w0 g0 h0 h' g' w'→Le h g w h' g' w'→BS g' w' (AU h') v x→next x w'
theorem D4{o:Oper}{m:Sem Value}{K:HK}{next:Act→World→Prop}{Q:Exit→Act→World→Prop}(hx:execOp a.eval o=(do pure (Next.value (←m))))(hd:OG P w0 g0 h0 st.h g w m K)
  (hn:Zp w0 g0 h0 st.h g w K fun x w'=>next (a.put o.dst x) w'):o.wp P a w next Q:=by
 obtain⟨x,w',g',av,h',h1,h2,h3,h4,h5⟩:=hd;unfold Oper.wp;rw[hx,Sem.run_bind,h1];exact hn av h' g' w' x h2 h3 h4 h5
theorem Xu{o:Oper}{m:Sem Unit}{K:HK}{next:Act→World→Prop}{Q:Exit→Act→World→Prop}(hx:execOp a.eval o=(do m;pure Next.skip))(hd:fH P w0 g0 h0 st.h g w m K)
  (hn:Zp w0 g0 h0 st.h g w K fun x w'=>next (a.put o.dst x) w'):o.wp P a w next Q:=by
 obtain⟨w',g',h',h1,h2,h3,h4⟩:=hd;unfold Oper.wp;rw[hx,Sem.run_bind,h1];exact hn _ h' g' w' undef h2 h3 h4 (.v _ _)
theorem ct{o:Oper}{K:HK}{next:Act→World→Prop}{Q:Exit→Act→World→Prop}{v:AV}{x:Value}(hI:DQ w0 g0 h0 st.h g w)(hx:(execOp a.eval o).run P w=.ok (.value x) w)(hk:K v st.h)(hr:BS g w (AU st.h) v x)
  (hn:Zp w0 g0 h0 st.h g w K fun x w'=>next (a.put o.dst x) w'):o.wp P a w next Q:=by
 unfold Oper.wp;rw[hx];exact hn _ _ _ _ _ hk hI (.refl _ _ _) hr
theorem SZ{C:(Ending→World→Prop)→Prop}(hm:∀{R R' : Ending→World→Prop},C R→(∀e w,R e w→R' e w)→C R')(hI:DQ w0 g0 h0 st.h g w){Q:AV→(Nat→HO)→Prop}
  (hc:DQ w g Aa Aa g w→C (fun e w'=>∃v r h' g',e=Ending.returned v∧Q r h'∧BS g' w' (AU h') r v∧DQ w g Aa h' g' w'∧Le Aa g w h' g' w')) {R:Ending→World→Prop}
  (hR:∀v r h' g' w',Q r h'→h'=Aa→DQ w0 g0 h0 st.h g' w'→Le st.h g w st.h g' w'→BS g' w' FL r v→R (.returned v) w') (hQ:∀r h',Q r h'→h'=Aa):C R:=by
 have hU:AU Aa=FL:=by funext i;unfold AU FL Aa;simp
 have lr:DQ w g Aa Aa g w:=⟨rfl,rfl,rfl,Al _,fun _ _ _=>rfl,hI.slt,fun _=>trivial,fun _ _ _ h=>h.elim,fun _ _ h=>h.elim,fun _ _ h=>.inl h,hI.glob⟩;refine hm (hc lr) ?_
 rintro e w' ⟨v,r,h',g',rfl,q1,q2,q3,q4⟩
 obtain rfl:=hQ r h' q1;rw[hU]at q2
 -- the caller's ghost,with the callee's stable cells
 have hk:Fj g w ⟨g.ρ,g.ln,g.tk,g.own,g'.S⟩ w':=q4.keeps;have hg:Kr g ⟨g.ρ,g.ln,g.tk,g.own,g'.S⟩ (AU st.h):=fun _ _=>⟨rfl,Al _,fun _=>rfl,fun _=>rfl⟩;have nl:∀b,b<w.heap.size→w'.heap[b]?=w.heap[b]?:=fun b hb=>q3.frame b hb (fun _ h=>h.elim);have wF:∀b o,g'.S b o→b<w.heap.size→g.S b o:=fun b o hs hb=>by
  rcases q3.sg b o hs with h1 | h1 | ⟨_,h1,_⟩
  ·exact h1
  ·omega
  ·exact h1.elim
 refine hR v r Aa ⟨g.ρ,g.ln,g.tk,g.own,g'.S⟩ w' q1 rfl ⟨q3.os.trans hI.os,q3.tape.trans hI.tape,q3.output.trans hI.output,A3 hI.size q3.size,fun b hb hn=>?_,q3.slt,fun i=>?_,hI.inj,fun i b hl ho=>?_,fun b o hs=>?_,hI.glob.keep hk⟩ ⟨hg,fun _ h=>h,hk⟩ ?_
 ·exact(nl b (BT hb hI.size)).trans (hI.frame b hb hn)
 ·refine(hI.objs i).same hk (fun _ h=>h) hg rfl rfl rfl rfl (fun b hl ho=>?_);have DF:=(hI.loc i b hl ho).1;exact⟨nl b DF,fun k hs=>wF b k hs DF⟩
 ·obtain⟨h1,h2⟩:=hI.loc i b hl ho;exact⟨BT h1 q3.size,h2⟩
 ·rcases q3.sg b o hs with h1 | h1 | ⟨_,h1,_⟩
  ·exact hI.sg b o h1
  ·exact .inr (.inl (A3 hI.size h1))
  ·exact h1.elim
 ·have:Fj g' w' ⟨g.ρ,g.ln,g.tk,g.own,g'.S⟩ w':=fun b o h=>⟨h,rfl,fun _ _ h=>h⟩
  exact q2.mono this (fun _ h=>h) (fun _ h=>h.elim)
theorem cN(hI:DQ w0 g0 h0 st.h g w){f:Nat}{args:List AV}{Q:AV→(Nat→HO)→Prop}(hc:Bm P f args Aa Q){vals:Array Value}(hs:vals.size=args.length)
  (hv:∀(i:Nat) (av:AV) (x:Value),args[i]?=some av→vals[i]?=some x→BS g w FL av x) {R:Ending→World→Prop}
  (hR:∀v r h' g' w',Q r h'→h'=Aa→DQ w0 g0 h0 st.h g' w'→Le st.h g w st.h g' w'→BS g' w' FL r v→R (.returned v) w') (hQ:∀r h',Q r h'→h'=Aa):Calls P f vals w R :=
 have hU:AU Aa=FL:=by funext i;unfold AU FL Aa;simp
 SZ (C:=Calls P f vals w) (fun h k=>h.mono k) hI (hc.2 g w vals hs (fun i av x h1 h2=>by rw[hU];exact hv i av x h1 h2)) hR hQ
theorem YieldAt.imp{F:Fence}{m:Nat}{P:Program}{l:Nat}{args:Array Value}{W:World}{R R' : Ending→World→Prop}(h:YieldAt F m P l args W R)(hr:∀e w,R e w→R' e w):YieldAt F m P l args W R' :=
 let ⟨fn,t,a,b,h1,h2⟩:=h
 ⟨fn,t,a,b,h1,h2.mono hr⟩
theorem Jb.imp{Y:Gh→World→Prop}{l:Nat}{args:List AV}{h0:Nat→HO}{Q Q' : AV→(Nat→HO)→Prop}(h:Jb P Y l args h0 Q)(hq:∀r h',Q r h'→Q' r h'):Jb P Y l args h0 Q' :=
 fun g w vals q1 q2 q3 q4=>YieldAt.imp (h g w vals q1 q2 q3 q4) fun _ _ ⟨v,r,h',g',e1,e2,rest⟩=>⟨v,r,h',g',e1,hq _ _ e2,rest⟩
theorem Gr.imp{Y:Nat→Gh→World→Prop}{F:AV}{args:List AV}{h0:Nat→HO}{Q Q' : AV→(Nat→HO)→Prop}(h:Gr P Y F args h0 Q)(hq:∀r h',Q r h'→Q' r h'):Gr P Y F args h0 Q':=by
 have one:∀{f:Nat} {l:List AV},Bm P f l h0 Q→Bm P f l h0 Q':=fun hc =>
  ⟨hc.1,fun g w vals q1 q2 q3=>(hc.2 g w vals q1 q2 q3).mono fun _ _ ⟨v,r,h',g',e1,e2,rest⟩=>⟨v,r,h',g',e1,hq _ _ e2,rest⟩⟩
 unfold Gr at h⊢;split at h
 ·exact one h
 ·exact one h
 ·exact Jb.imp h hq
 ·exact h.elim
abbrev J8(ro:Option Nat):Fence:={ Fence.wide with round:=ro }
theorem Nc{ro:Option Nat}{o:Oper}{a:Act}{w:World}{next:Act→World→Prop}{Q:Exit→Act→World→Prop}(hd:∀c,o.op≠.defer c)(h:o.wp P a w next Q):o.wpIn (J8 ro) 0 P a w next Q:=by
 refine⟨fun _ _=>trivial,?_⟩;have e:o.semAt (J8 ro).round a.eval=execOp a.eval o:=Oper.semAt_eq ro a.eval o hd;rw[e];unfold Oper.wp at h;have key:∀res:Result Next,o.upon P a next Q res→o.uponIn (J8 ro) 0 P a next Q res:=fun res h=>by
  cases res with
  |ok n w'=>cases n with
   |enter f args=>exact(show(_→_)∧CallsIn (J8 ro) 0 P f args w' _ from⟨fun e=>by(cases e),callsIn_wide.2 h⟩)
   |row r args=>exact(show(_→_)∧RowsIn (J8 ro) 0 P r args w' _ from⟨fun e=>by(cases e),fun c cs _=>by
     obtain⟨v,cr,r',s⟩:=h c cs;exact⟨v,cr,r',stepsIn_wide.2 s⟩⟩)
   |round _ _ _ _ _=>exact h.elim
   |_=>exact h
  |halt x w'=>cases x<;>exact h
 exact key _ h
theorem GX{f:Nat}{args:Array Value}(h:Gs P f)(w:World):(callFunc f args).run P w=.ok (.enter f args) w:=by
 obtain⟨fn,h1,h2,h3⟩:=h;simp only[callFunc,Sem.run_bind,run_program,h1,Result.andThen_ok,h2,h3,Dz,GJ,Sem.run_pure]
theorem Ur{h:Nat→HO}{a:AV}(ha:bN a=true):ren (CC []) h a=str h a:=by
 have h0:∀a,ren0 (CC []) h a=str0 h a:=fun a=>by
  cases a with
  |slice tk es=>cases tk<;>rfl
  |_=>rfl
 cases a with
 |tup cs=>cases ha
 |agg cs=>show AV.agg _=AV.agg _;exact Ab _ (Bn fun c _=>h0 c)
 |clo f cs=>show AV.clo f _=AV.clo f _;exact Ab _ (Bn fun c _=>h0 c)
 |v x=>exact h0 (.v x)
 |slice tk es=>exact h0 (.slice tk es)
 |msl r n=>exact h0 (.msl r n)
 |cptr cs=>exact h0 (.cptr cs)
 |ref r o=>exact h0 (.ref r o)
 |eref r n sz i o=>exact h0 (.eref r n sz i o)
 |mref r=>exact h0 (.mref r)
 |cmap sh l=>exact h0 (.cmap sh l)
 |junk=>rfl
theorem QQ{h:Nat→HO}:∀{l:List AV},Ud l=true→l.map (ren (CC []) h)=l.map (str h)
 | [],_=>rfl
 |a::l,e=>by
  unfold Ud at e;split at e
  ·rename_i e1;rw[AS,AS,Ur e1,QQ e]
  ·cases e
theorem Rf:∀{l:List AV} {vs:List Value},Wj l=some vs→l=vs.map .v
 | [],vs,h=>by cases h;rfl
 |.v x::r,vs,h=>by
  unfold Wj at h;split at h
  ·rename_i l e;cases h;rw[AS,←Rf e]
  ·cases h
theorem cM{cx:Cx}{d:Option Nat}{st:St}{F:AV}{args:List AV}{K:HK}(hk:GD cx true d st F args K):GD cx false d st F args K:=by
 unfold GD at hk;simp only at hk;split at hk
 ·exact⟨.pure,hk⟩
 ·split at hk
  ·exact hk.elim
  ·rename_i d _;obtain⟨n,sz,es,h1,h2,h3⟩:=hk;simp only[Ah]at h1;refine⟨.gen [] 1,?_⟩;show(Ey []&&DO st.h d 1&&DA [] d 1)=true∧_;refine⟨by simp[Ey,DA,h1.1.1],?_⟩;rw[Ur h1.1.2,QQ h1.2];show Gr cx.P (fun l=>cx.yp l []) _ _ Aa _;refine Gr.imp h2 ?_
   rintro r h' ⟨e2,e3⟩
   subst e2;subst e3;have e1:ren (Fo [] d 1) (Aq [(2000,.arr sz es)] Aa) (.msl 2000 n)=.msl (BF d 0) n:=rfl;have e2:Eg [] d 1 st.h (Aq [(2000,.arr sz es)] Aa)=A2 st.h (BF d 0) (.arr sz es):=by
    funext i
    by_cases e:i=BF d 0
    ·subst e;rw[Bl];have hb:(Nat.ble (BF d 0) (BF d 0)&&Nat.blt (BF d 0) (BF d 1))=true:=by
      unfold BF;simp only[Ah,Do,Cr];omega
     simp only[Eg,CC,hb,EW];rfl
    ·rw[B8 _ _ _ _ e]
     have:(Nat.ble (BF d 0) i&&Nat.blt i (BF d 1))=false:=by
      unfold BF at e⊢;rw[AF];simp only[VX,Ah,Do,Cr];omega
     simp only[Eg,CC,this]
   rw[e1,e2];exact h3
 ·split at hk
  ·unfold UG at hk;split at hk
   ·exact hk.elim
   ·rename_i d _;obtain⟨sz,es,h1,h2,h3⟩:=hk;simp only[Ah]at h1;refine⟨.gen [] 1,?_⟩;show(Ey []&&DO st.h d 1&&DA [] d 1)=true∧_;refine⟨by simp[Ey,DA,h1.1.1],?_⟩;rw[Ur h1.1.2,QQ h1.2];show Gr cx.P (fun l=>cx.yp l []) _ _ Aa _;refine Gr.imp h2 ?_
    rintro r h' ⟨e2,e3⟩
    subst e2;subst e3;have e1:ren (Fo [] d 1) (Aq [(2000,.tok sz es.length)] Aa) (.slice (.id 2000 sz) es)=.slice (.id (BF d 0) sz) es:=rfl;have e2:Eg [] d 1 st.h (Aq [(2000,.tok sz es.length)] Aa)=A2 st.h (BF d 0) (.tok sz es.length):=by
     funext i
     by_cases e:i=BF d 0
     ·subst e;rw[Bl];have hb:(Nat.ble (BF d 0) (BF d 0)&&Nat.blt (BF d 0) (BF d 1))=true:=by
       unfold BF;simp only[Ah,Do,Cr];omega
      simp only[Eg,CC,hb,EW];rfl
     ·rw[B8 _ _ _ _ e]
      have:(Nat.ble (BF d 0) i&&Nat.blt i (BF d 1))=false:=by
       unfold BF at e⊢;rw[AF];simp only[VX,Ah,Do,Cr];omega
      simp only[Eg,CC,this]
    rw[e1,e2];exact h3
  split at hk
  ·unfold Rg at hk;split at hk
   ·rename_i d l vs e2 z1;have hl:=Rf e2;split at hk
    ·rename_i r sz es co n e3 e4;obtain⟨⟨rfl,rfl⟩,v,FW,n',h1,h2⟩:=hk;refine⟨.gen [(1000,1000),(1001,1001)] 0,?_⟩;show(Ey [(1000,1000),(1001,1001)]&&DO st.h d 0&&DA [(1000,1000),(1001,1001)] d 0)=true∧_;refine⟨?_,?_⟩
     ·have:DA [(1000,1000),(1001,1001)] d 0=true:=by
       have q:∀r:Nat,(Nat.ble (BF d 0) r&&Nat.blt r (BF d 0))=false:=fun r=>by
        rw[AF];simp only[VX,Ah,Do,Cr];omega
       simp only[DA,q,Bool.not_false,Bool.and_self]
      rw[this];rfl
     have f1:args.map (ren (CC [(1000,1000),(1001,1001)]) st.h)=vs.map .v:=by rw[hl,BW];rfl
     have f2:FU [(1000,1000),(1001,1001)] st.h=Aq [(1000,.cells [.slice (.id 1001 co) es]),(1001,.tok co n)] Aa:=by
      unfold FU Xj Xj Xj;rw[e3,e4];rfl
     rw[f1,f2];refine Jb.imp h1 ?_
     rintro r h' ⟨g1,g2⟩
     subst g1;subst g2;have f3:Eg [(1000,1000),(1001,1001)] d 0 st.h (Aq [(1000,.cells [.slice (.id 1001 co) FW]),(1001,.tok co n')] Aa)=A2 (A2 st.h 1001 (.tok co n')) 1000 (.cells [.slice (.id 1001 co) FW]):=by
      funext i
      by_cases e:i=1000
      ·subst e;rw[Bl];rfl
      ·rw[B8 _ _ _ _ e]
       by_cases e' : i=1001
       ·subst e';rw[Bl];rfl
       ·rw[B8 _ _ _ _ e'];have hn:CC [(1000,1000),(1001,1001)] i=none:=by simp[CC,CV (Ne.symm e),CV (Ne.symm e')]
        have:(Nat.ble (BF d 0) i&&Nat.blt i (BF d 0))=false:=by
         rw[AF];simp only[VX,Ah,Do,Cr];omega
        simp only[Eg,hn,this]
     rw[f3];exact h2
    ·exact hk.elim
   ·exact hk.elim
  unfold PN at hk;split at hk
  ·unfold Yc at hk;split at hk
   ·rename_i d f _;obtain⟨σ,H0,Hn,args',res,g1,g2,g3,g4⟩:=hk;simp only[Ah]at g2;obtain⟨k1,k2⟩:=g1 st.h fun _ _=>rfl;refine⟨.gen σ 0,?_⟩;show(Ey σ&&DO st.h d 0&&DA σ d 0)=true∧_;refine⟨by rw[g2.1.1,g2.1.2];rfl,?_⟩;rw[k1,k2];refine Gr.imp (show Gr cx.P (fun l=>cx.yp l σ) (.v (.func (.func f) ⟨[]⟩ ⟨[]⟩)) args' (Aq H0 Aa) (fun r h'=>r=res∧h'=Aq Hn Aa)from g3) ?_
    rintro r h' ⟨e1,e2⟩
    rw[e1,e2];exact g4
   ·exact hk.elim
  unfold RU at hk;split at hk
  ·rename_i dd f r n l _;split at hk
   ·rename_i vs fA;have hl:=Rf fA;subst hl;split at hk
    ·rename_i sz es hr;have hf:CC [(r,1000)] r=some 1000:=by simp[CC]
     have e1:ren (CC [(r,1000)]) st.h (.v (.func (.func f) ⟨[]⟩ ⟨[]⟩))=.v (.func (.func f) ⟨[]⟩ ⟨[]⟩):=rfl;have e2:(AV.msl r n::vs.map AV.v).map (ren (CC [(r,1000)]) st.h)=.msl 1000 n::vs.map .v:=by
      rw[AS]
      congr 1
      ·simp[ren,ren1,ren0,hf]
      ·rw[BW];rfl
     have e3:FU [(r,1000)] st.h=Aq [(1000,.arr sz es)] Aa:=by
      unfold FU Xj;rw[hr];rfl
     split at hk
     ·obtain⟨n',FW,h1,h2⟩:=hk;refine⟨.gen [(r,1000)] 0,?_⟩;show(Ey [(r,1000)]&&DO st.h dd 0&&DA [(r,1000)] dd 0)=true∧_;refine⟨?_,?_⟩
      ·have:DA [(r,1000)] dd 0=true:=by
        unfold DA
        have:(Nat.ble (BF dd 0) r&&Nat.blt r (BF dd 0))=false:=by
         rw[AF];simp only[VX,Ah,Do,Cr];omega
        rw[this];rfl
       rw[this];rfl
      rw[e1,e2,e3];refine⟨h1.1,fun g w vals q1 q2 q3=>(h1.2 g w vals q1 q2 q3).mono fun _ _ ⟨v,r',h',g',e1,⟨e2,e3⟩,rest⟩=>⟨v,r',h',g',e1,?_,rest⟩⟩;subst e2;subst e3;have f1:ren (Fo [(r,1000)] dd 0) (Aq [(1000,.arr sz FW)] Aa) (.msl 1000 n')=.msl r n':=rfl;have f2:Eg [(r,1000)] dd 0 st.h (Aq [(1000,.arr sz FW)] Aa)=A2 st.h r (.arr sz FW):=by
       funext i
       by_cases e:i=r
       ·subst e;rw[Bl];simp[Eg,hf,Aq,HO.ren]
       ·rw[B8 _ _ _ _ e];have hn:CC [(r,1000)] i=none:=by simp[CC,CV (Ne.symm e)]
        have:(Nat.ble (BF dd 0) i&&Nat.blt i (BF dd 0))=false:=by
         rw[AF];simp only[VX,Ah,Do,Cr];omega
        simp only[Eg,hn,this]
      rw[f1,f2];exact h2
     ·obtain⟨n',FW,h0,h1,h2⟩:=hk;simp only[Ah,Cr,Da]at h0;have xp:r≠BF dd 0:=fun e=>by have:=h0.2;rw[e]at this;simp at this
      refine⟨.gen [(r,1000)] 1,?_⟩;show(Ey [(r,1000)]&&DO st.h dd 1&&DA [(r,1000)] dd 1)=true∧_;refine⟨?_,?_⟩
      ·have:DA [(r,1000)] dd 1=true:=by
        unfold DA
        have:(Nat.ble (BF dd 0) r&&Nat.blt r (BF dd 1))=false:=by
         rw[AF];simp only[VX,Ah,Do,Cr];unfold BF at xp⊢;omega
        rw[this];rfl
       rw[this,h0.1.1];rfl
      rw[e1,e2,e3];refine⟨h1.1,fun g w vals q1 q2 q3=>(h1.2 g w vals q1 q2 q3).mono fun _ _ ⟨v,r',h',g',e1,⟨e2,e3⟩,rest⟩=>⟨v,r',h',g',e1,?_,rest⟩⟩;subst e2;subst e3;have f1:ren (Fo [(r,1000)] dd 1) (Aq [(1000,.dead),(2000,.arr sz FW)] Aa) (.msl 2000 n')=.msl (BF dd 0) n':=rfl;have f2:Eg [(r,1000)] dd 1 st.h (Aq [(1000,.dead),(2000,.arr sz FW)] Aa)=A2 (A2 st.h r .dead) (BF dd 0) (.arr sz FW):=by
       funext i
       by_cases e:i=BF dd 0
       ·subst e;rw[Bl];have hn:CC [(r,1000)] (BF dd 0)=none:=by simp[CC,CV xp]
        have hb:(Nat.ble (BF dd 0) (BF dd 0)&&Nat.blt (BF dd 0) (BF dd 1))=true:=by
         unfold BF;simp only[Ah,Do,Cr];omega
        simp only[Eg,hn,hb,EW];rfl
       ·rw[B8 _ _ _ _ e]
        by_cases e4:i=r
        ·subst e4;rw[Bl];simp[Eg,hf,Aq,HO.ren]
        ·rw[B8 _ _ _ _ e4];have hn:CC [(r,1000)] i=none:=by simp[CC,CV (Ne.symm e4)]
         have:(Nat.ble (BF dd 0) i&&Nat.blt i (BF dd 1))=false:=by
          rw[AF];simp only[VX,Ah,Do,Cr];unfold BF at e⊢;omega
         simp only[Eg,hn,this]
      rw[f1,f2];exact h2
    ·exact hk.elim
   ·exact hk.elim
  ·exact hk.elim
theorem fZ{cx:Cx}{dr:Bool}{d:Option Nat}{f:Operand}{args:Array Operand}{G8:Array TypeId}{dst:Option Nat}{ty:Nat}{pos:String}{after:Array Edge}{gd:Option (Nat×Bool)}{K:HK}{next:Act→World→Prop}{Q:Exit→Act→World→Prop}
  (hP:cx.P=P) (hY:∀l σ h g w,Ey σ=true→DQ w0 g0 h0 h g w→Le h0 g0 w0 h g w→cx.yp l σ (DG σ g) w) {ro:Option Nat} (hS:SR N ds w0 g0 h0 st g a w) (hk:GD cx dr d st (ev st.t f) (args.toList.map (ev st.t)) K)
  (hn:Zp w0 g0 h0 st.h g w K fun x w'=>next (a.put dst x) w'):Oper.wpIn (J8 ro) 0 P ⟨dst,.call ⟨.value f,args,G8⟩,ty,pos,after,gd⟩ a w next Q:=by
 subst hP;have hk:GD cx false d st (ev st.t f) (args.toList.map (ev st.t)) K:=by
  cases dr with
  |true=>exact cM hk
  |false=>exact hk
 have JJ:∀(i:Nat) (av:AV) (x:Value),((args.toList.map (ev st.t)).map (str st.h))[i]?=some av→(args.map a.eval)[i]?=some x→BS g w FL av x:=by
  intro i av x h1 h2;rw[AK,AK]at h1;rw[OF]at h2;cases ho:args[i]? with
  |none=>rw[ho]at h2;simp at h2
  |some y =>
   rw[ho]at h2;have hy:args.toList[i]?=some y:=by simpa using ho
   rw[hy]at h1;simp only[FS,Bx]at h1 h2;subst h1;subst h2;exact BS.str hS.inv.objs (hS.eval y)
 have CJ:(args.map a.eval).size=((args.toList.map (ev st.t)).map (str st.h)).length:=by simp
 have hF:=BS.str hS.inv.objs (hS.eval f)
 -- a call of yield
 have yl:∀(l:Nat) (R:Ending→World→Prop),a.eval f=.func (.yield l) #[] #[]→YieldAt Fence.wide 0 cx.P l (args.map a.eval) w R→(∀e w',R e w'→∃v,e=.returned v∧next (a.put dst v) w') →
   Oper.wpIn (J8 ro) 0 cx.P ⟨dst,.call ⟨.value f,args,G8⟩,ty,pos,after,gd⟩ a w next Q:=by
  rintro l R hx ⟨fn,tm,GZ,bd,h1,h2⟩ hR
  refine⟨fun _ _=>trivial,?_⟩;have e:(⟨dst,.call ⟨.value f,args,G8⟩,ty,pos,after,gd⟩:Oper).semAt (J8 ro).round a.eval=execOp a.eval ⟨dst,.call ⟨.value f,args,G8⟩,ty,pos,after,gd⟩:=Oper.semAt_eq ro a.eval _ (fun c e=>by cases e);have CZ:(execOp a.eval ⟨dst,.call ⟨.value f,args,G8⟩,ty,pos,after,gd⟩).run cx.P w=.ok (.round l fn tm GZ bd) w:=by
   simp only[execOp,resolve,hx,Deferred.ofValue,Sem.run_bind,Sem.run_pure,Result.andThen_ok,invoke];simpa using h1
  rw[e,CZ];refine(show(_→_)∧RoundIn (J8 ro) 0 cx.P l fn tm GZ bd w _ from⟨fun e=>by(cases e),RoundIn.mono h2 fun e w' h=>?_⟩);obtain⟨v,rfl,hn⟩:=hR e w' h;exact hn
 -- the call itself
 have go:∀(Q' : AV→(Nat→HO)→Prop),(∀r h',Q' r h'→h'=Aa∧K r st.h)→Gr cx.P (fun _ _ _=>True) (str st.h (ev st.t f)) ((args.toList.map (ev st.t)).map (str st.h)) Aa Q' →
   Oper.wpIn (J8 ro) 0 cx.P ⟨dst,.call ⟨.value f,args,G8⟩,ty,pos,after,gd⟩ a w next Q:=by
  intro Q' hQ hc
  have fin:∀{fn:Nat} {l:List AV} {vals:Array Value},Bm cx.P fn l Aa Q'→vals.size=l.length→(∀(i:Nat) (av:AV) (x:Value),l[i]?=some av→vals[i]?=some x→BS g w FL av x) →
    (execOp a.eval ⟨dst,.call ⟨.value f,args,G8⟩,ty,pos,after,gd⟩).run cx.P w=.ok (.enter fn vals) w→Oper.wpIn (J8 ro) 0 cx.P ⟨dst,.call ⟨.value f,args,G8⟩,ty,pos,after,gd⟩ a w next Q:=by
   intro fn l vals hc hs hv CZ;refine Nc (fun c e=>by cases e) ?_;unfold Oper.wp;rw[CZ];exact cN hS.inv hc hs hv (fun v r h' g' w' hq _ hI Hr hr=>hn r _ g' w' v (hQ r h' hq).2 hI Hr (hr.up _)) (fun r h' hq=>(hQ r h' hq).1)
  unfold Gr at hc;split at hc
  ·rename_i fn e;rw[e]at hF;have hx:=hF.v_eq;refine fin hc CJ JJ ?_;have L3 : a.eval f=.func (.func fn) #[] #[]:=hx;simp only[execOp,resolve,L3,Deferred.ofValue,Sem.run_bind,Sem.run_pure,Result.andThen_ok,invoke];rw[GX hc.1];simp
  ·rename_i fn caps e;rw[e]at hF;generalize hx:a.eval f=fv at hF;cases hF with
   |clo _ _ _ vs Ek Pr =>
    refine fin hc (vals:=args.map a.eval++vs) (by simp[Ek]) (fun i av x h1 h2=>?_) ?_
    ·rw[L9]at h1;rw[Ij]at h2;have hl:((args.toList.map (ev st.t)).map (str st.h)).length=(args.map a.eval).size:=CJ.symm;rw[hl]at h1;split at h1
     ·rename_i hi;rw[Ax hi]at h2;exact JJ i av x h1 h2
     ·rename_i hi;rw[Ao hi]at h2;exact Pr _ av x h1 h2
    ·simp only[execOp,resolve,hx,Deferred.ofValue,Sem.run_bind,Sem.run_pure,Result.andThen_ok,invoke];rw[GX hc.1];simp
  ·rename_i l e;rw[e]at hF;have hU:AU Aa=FL:=by funext i;unfold AU FL Aa;simp
   refine yl l _ hF.v_eq (SZ (C:=YieldAt Fence.wide 0 cx.P l (args.map a.eval) w) (R:=fun e w'=>∃v,e=.returned v∧next (a.put dst v) w') YieldAt.imp hS.inv (fun lr=>hc g w _ CJ (fun i av x h1 h2=>by rw[hU];exact JJ i av x h1 h2) lr trivial)
    (fun v r h' g' w' hq _ hI Hr hr=>⟨v,rfl,hn r _ g' w' v (hQ r h' hq).2 hI Hr (hr.up _)⟩) (fun r h' hq=>(hQ r h' hq).1)) fun _ _ h=>h
  ·exact hc.elim
 have pure:(∃res,Qd cx.P (str st.h (ev st.t f)) ((args.toList.map (ev st.t)).map (str st.h)) res∧K res st.h)→Oper.wpIn (J8 ro) 0 cx.P ⟨dst,.call ⟨.value f,args,G8⟩,ty,pos,after,gd⟩ a w next Q:=by
  rintro⟨res,h1,h2⟩
  refine go (fun r h'=>r=res∧h'=Aa) (fun r h' hq=>⟨hq.2,by rw[hq.1];exact h2⟩) ?_;unfold Qd at h1;unfold Gr;split at h1
  ·rename_i fn e;rw[e];exact h1
  ·rename_i fn caps e;rw[e];exact h1
  ·exact h1.elim
 unfold GD at hk
 ·obtain⟨m,hm⟩:=hk;cases m with
  |pure=>exact pure hm
  |rel=>exact go _ (fun r h' hq=>hq) hm
  |gen σ nn =>
   simp only at hm;cases d with
   |none=>exact hm.elim
   |some d =>
    simp only at hm;obtain⟨GW,hc⟩:=hm;have hσ:Ey σ=true:=by simp only[Ah]at GW;exact GW.1.1
    obtain⟨hR,_⟩:=WT hS.inv hσ;have gS:=(hS.eval f).ren hR;have TB:∀(i:Nat) (av:AV) (x:Value),((args.toList.map (ev st.t)).map (ren (CC σ) st.h))[i]?=some av→(args.map a.eval)[i]?=some x→BS (DG σ g) w (AU (FU σ st.h)) av x:=by
     intro i av x h1 h2;rw[AK,AK]at h1;rw[OF]at h2;cases ho:args[i]? with
     |none=>rw[ho]at h2;simp at h2
     |some y =>
      rw[ho]at h2;have hy:args.toList[i]?=some y:=by simpa using ho
      rw[hy]at h1;simp only[FS,Bx]at h1 h2;subst h1;subst h2;exact(hS.eval y).ren hR
    have LT:(args.map a.eval).size=((args.toList.map (ev st.t)).map (ren (CC σ) st.h)).length:=by simp
    have fin:∀{fn:Nat} {l:List AV} {vals:Array Value},Bm cx.P fn l (FU σ st.h) (fun r h'=>K (ren (Fo σ d nn) h' r) (Eg σ d nn st.h h'))→vals.size=l.length →
      (∀(i:Nat) (av:AV) (x:Value),l[i]?=some av→vals[i]?=some x→BS (DG σ g) w (AU (FU σ st.h)) av x) →
      (execOp a.eval ⟨dst,.call ⟨.value f,args,G8⟩,ty,pos,after,gd⟩).run cx.P w=.ok (.enter fn vals) w→Oper.wpIn (J8 ro) 0 cx.P ⟨dst,.call ⟨.value f,args,G8⟩,ty,pos,after,gd⟩ a w next Q:=by
     intro fn l vals hc hs hv CZ;refine Nc (fun c e=>by cases e) ?_;unfold Oper.wp;rw[CZ];exact ga hS.inv GW hc hs hv (fun v r h' g' w' hq hI Hr hr=>hn _ _ g' w' v hq hI Hr hr)
    unfold Gr at hc;split at hc
    ·rename_i fn e;rw[e]at gS;have hx:a.eval f=.func (.func fn) #[] #[]:=gS.v_eq;refine fin hc LT TB ?_;simp only[execOp,resolve,hx,Deferred.ofValue,Sem.run_bind,Sem.run_pure,Result.andThen_ok,invoke];rw[GX hc.1];simp
    ·rename_i fn caps e;rw[e]at gS;generalize hx:a.eval f=fv at gS;cases gS with
     |clo _ _ _ vs Ek Pr =>
      refine fin hc (vals:=args.map a.eval++vs) (by simp[Ek]) (fun i av x h1 h2=>?_) ?_
      ·rw[L9]at h1;rw[Ij]at h2;have hl:((args.toList.map (ev st.t)).map (ren (CC σ) st.h)).length=(args.map a.eval).size:=LT.symm;rw[hl]at h1;split at h1
       ·rename_i hi;rw[Ax hi]at h2;exact TB i av x h1 h2
       ·rename_i hi;rw[Ao hi]at h2;exact Pr _ av x h1 h2
      ·simp only[execOp,resolve,hx,Deferred.ofValue,Sem.run_bind,Sem.run_pure,Result.andThen_ok,invoke];rw[GX hc.1];simp
    ·rename_i l e;rw[e]at gS
     exact yl l _ gS.v_eq (MW (C:=YieldAt Fence.wide 0 cx.P l (args.map a.eval) w) (R:=fun e w'=>∃v,e=.returned v∧next (a.put dst v) w') YieldAt.imp hS.inv GW (fun lr=>hc (DG σ g) w _ LT TB lr (hY l σ _ _ _ hσ hS.inv hS.le))
      (fun v r h' g' w' hq hI Hr hr=>⟨v,rfl,hn _ _ g' w' v hq hI Hr hr⟩)) fun _ _ h=>h
    ·exact hc.elim
  |geny σ nn =>
   simp only at hm;cases d with
   |none=>exact hm.elim
   |some d =>
    simp only at hm;obtain⟨GW,hc⟩:=hm;have hσ:Ey σ=true:=by simp only[Ah]at GW;exact GW.1.1
    obtain⟨hR,_⟩:=WT hS.inv hσ;have gS:=(hS.eval f).ren hR;have TB:∀(i:Nat) (av:AV) (x:Value),((args.toList.map (ev st.t)).map (ren (CC σ) st.h))[i]?=some av→(args.map a.eval)[i]?=some x→BS (DG σ g) w (AU (FU σ st.h)) av x:=by
     intro i av x h1 h2;rw[AK,AK]at h1;rw[OF]at h2;cases ho:args[i]? with
     |none=>rw[ho]at h2;simp at h2
     |some y =>
      rw[ho]at h2;have hy:args.toList[i]?=some y:=by simpa using ho
      rw[hy]at h1;simp only[FS,Bx]at h1 h2;subst h1;subst h2;exact(hS.eval y).ren hR
    have LT:(args.map a.eval).size=((args.toList.map (ev st.t)).map (ren (CC σ) st.h)).length:=by simp
    split at hc
    ·rename_i fn caps e;rw[e]at gS;generalize hx:a.eval f=fv at gS;cases gS with
     |clo _ _ _ vs Ek Pr =>
      have CZ:(execOp a.eval ⟨dst,.call ⟨.value f,args,G8⟩,ty,pos,after,gd⟩).run cx.P w=.ok (.enter fn (args.map a.eval++vs)) w:=by
       simp only[execOp,resolve,hx,Deferred.ofValue,Sem.run_bind,Sem.run_pure,Result.andThen_ok,invoke];rw[GX hc.1];simp
      refine Nc (fun c e=>by cases e) ?_;unfold Oper.wp;rw[CZ];refine MW (C:=Calls cx.P fn (args.map a.eval++vs) w) (fun h k=>h.mono k) hS.inv GW (fun lr=>hc.2 (DG σ g) w _ (by simp[Ek]) (fun i av x h1 h2=>?_) lr (fun l=>hY l σ _ _ _ hσ hS.inv hS.le)) (fun v r h' g' w' hq hI Hr hr=>hn _ _ g' w' v hq hI Hr hr);rw[L9]at h1;rw[Ij]at h2;have hl:((args.toList.map (ev st.t)).map (ren (CC σ) st.h)).length=(args.map a.eval).size:=LT.symm;rw[hl]at h1;split at h1
      ·rename_i hi;rw[Ax hi]at h2;exact TB i av x h1 h2
      ·rename_i hi;rw[Ao hi]at h2;exact Pr _ av x h1 h2
    ·exact hc.elim
end
end Go.Eng
