/- Lemmas for the claims of this seat, without a condition: part 11 (EngZ1, EngZ2, EngZA). -/
import Derived.Test.YtmcbkdbfaneofaaGreatDoorDA10
namespace Go.Eng
theorem V6:∀{σ:IQ},GG σ=true→∀i j,Ct σ i=some j↔HE σ j=some i
 | [],_,i,j=>by simp[Ct,HE]
 |(a,b)::r,h,i,j=>by
  simp only[GG,Ag]at h;obtain⟨h1,h2⟩:=h;have ih:=V6 h2;have lp:Ct r a=none∧HE r b=none:=by
   split at h1
   ·rename_i e1 e2;exact⟨e1,e2⟩
   ·cases h1
  unfold Ct HE
  by_cases e1:a=i<;>by_cases e2:b=j
  ·subst e1;subst e2;simp
  ·subst e1;simp only[CV,JE,CJ e2,El];constructor
   ·intro h;cases h;exact absurd rfl e2
   ·intro h;rw[(ih a j).2 h]at lp;cases lp.1
  ·subst e2;simp only[CV,JE,CJ e1,El];constructor
   ·intro h;rw[(ih i b).1 h]at lp;cases lp.2
   ·intro h;cases h;exact absurd rfl e1
  ·simp only[CJ e1,CJ e2,El];exact ih i j
theorem gF:∀{σ:IQ},Ei σ=true→GG σ=true
 | [],_=>rfl
 |(a,b)::r,h=>by
  simp only[Ei,Ag]at h;simp only[GG,Ag];exact⟨h.1.1.1,gF h.2⟩
theorem Wj{σ:IQ}(h:Ei σ=true):∀i j,Ct σ i=some j↔HE σ j=some i:=V6 (gF h)
theorem Vd:∀{σ:IQ},Ei σ=true→∀{i j},Ct σ i=some j→1000≤j∧j<2000
 | [],_,i,j,h=>by simp[Ct]at h
 |(a,b)::r,h,i,j,hf=>by
  simp only[Ei,Ag,Db,Cj]at h;unfold Ct at hf
  by_cases e1:a=i
  ·subst e1;simp only[CV,JE]at hf;cases hf;exact⟨h.1.1.2,h.1.2⟩
  ·simp only[CJ e1,El]at hf;exact Vd h.2 hf
theorem OT(f:Nat→Option Nat)(h:Nat→HO):∀(σ:IQ) (j:Nat),Aj (Wi f h σ) Ab j=match HE σ j with | some i=>(h i).ren f h | none=>.free
 | [],j=>rfl
 |(a,b)::r,j=>by
  unfold Wi Aj HE
  by_cases e:b=j
  ·subst e;simp
  ·simp only[CJ e,CJ (Ne.symm e),El];exact OT f h r j
structure Kj(f:Nat→Option Nat)(h h2:Nat→HO)(g g2:Gh)(w:World):Prop where
 ids:∀r r',f r=some r'→AR h r→g2.tk r'=g.tk r∧g2.ln r'=g.ln r∧g2.ρ r'=g.ρ r∧g2.own r'=g.own r∧AR h2 r'
 S:∀b o,g2.S b o↔g.S b o
 objs:∀r,Ea g w (AR h) r (h r)
section
variable {f:Nat→Option Nat}{h h2:Nat→HO}{g g2:Gh}{w:World}
theorem Kj.keeps(hR:Kj f h h2 g g2 w):EY g w g2 w:=fun b o hs=>⟨(hR.S b o).2 hs,rfl,fun _ _ e=>e⟩
theorem Kj.noU(hR:Kj f h h2 g g2 w){av:AV}{x:Value}(r:BI g w Fp av x):BI g2 w (AR h2) av x:=r.mono hR.keeps (fun _ h=>h.elim) (fun _ h=>h.elim)
theorem BI.ren0(hR:Kj f h h2 g g2 w){av:AV}{x:Value}(r:BI g w (AR h) av x):BI g2 w (AR h2) (ren0 f h av) x:=by
 have down:BI g2 w (AR h2) (Eng.str0 h av) x:=hR.noU (BI.str0 hR.objs r);cases av with
 |v y=>exact down
 |slice tk es =>
  cases tk with
  |none=>exact down
  |full sz=>exact down
  |id i sz =>
   simp only[Eng.ren0];split
   ·rename_i i' e;cases r with
    |tok _ _ _ _ _ hs hl hu ht hn hx =>
     obtain⟨k1,k2,k3,k4,k5⟩:=hR.ids i i' e hu;exact .tok _ i' sz es x (hR.noU (BI.slice_none hs)) hl k5 (k1.trans ht) (by omega) (fun q=>by rw[k3];exact hx (by omega))
   ·exact hR.noU r.slice_none
  |ver i sz v =>
   simp only[Eng.ren0];split
   ·rename_i i' e;cases r with
    |ver _ _ _ _ _ _ hs hl hu ht hn hx =>
     obtain⟨k1,k2,k3,k4,k5⟩:=hR.ids i i' e hu;exact .ver _ i' sz v es x (hR.noU (BI.slice_none hs)) hl k5 (k1.trans ht) (by omega) (fun q=>by rw[k3];exact hx (by omega))
   ·exact hR.noU r.slice_none
 |msl i n =>
  simp only[Eng.ren0];split
  ·rename_i i' e;cases r with
   |msl _ _ _ a cap hu ht hn ha hx =>
    obtain⟨k1,k2,k3,k4,k5⟩:=hR.ids i i' e hu;exact .msl _ i' n a cap k5 (k1.trans ht) (by omega) ha (fun q=>by rw[k3];exact hx (by omega))
  ·exact .junk _ _
 |agg cs=>exact down
 |tup cs=>exact down
 |cptr cs=>exact down
 |ref i off =>
  simp only[Eng.ren0];split
  ·rename_i i' e;cases r with
   |ref _ _ _ b hu ht hx =>
    obtain⟨k1,k2,k3,k4,k5⟩:=hR.ids i i' e hu;exact .ref _ i' off b k5 (k1.trans ht) (k3.trans hx)
  ·exact down
 |eref i n sz k off =>
  simp only[Eng.ren0];split
  ·rename_i i' e;cases r with
   |eref _ _ _ _ _ _ b cap hu ht hn hx =>
    obtain⟨k1,k2,k3,k4,k5⟩:=hR.ids i i' e hu;exact .eref _ i' n sz k off b cap k5 (k1.trans ht) ⟨hn.1,by omega⟩ (fun q=>by rw[k3];exact hx (by omega))
  ·exact .junk _ _
 |mref i =>
  simp only[Eng.ren0];split
  ·rename_i i' e;cases r with
   |mref _ _ b hu ht hx =>
    obtain⟨k1,k2,k3,k4,k5⟩:=hR.ids i i' e hu;exact .mref _ i' b k5 (k1.trans ht) (k3.trans hx)
  ·exact down
 |cmap sh B4=>exact down
 |clo i cs=>exact down
 |junk=>exact down
theorem BI.ren1(hR:Kj f h h2 g g2 w){av:AV}{x:Value}(r:BI g w (AR h) av x):BI g2 w (AR h2) (ren1 f h av) x:=by
 cases av with
 |agg cs =>
  cases r with
  |agg _ _ vs hs h1 hr =>
   exact .agg _ _ vs (by simp[hs]) h1 fun i av x q1 q2=>by
    rw[AG]at q1;obtain⟨a,q3,rfl⟩:=AZ.1 q1;exact(hr i a x q3 q2).ren0 hR
 |clo i cs =>
  cases r with
  |clo _ _ _ vs hs hr =>
   exact .clo _ _ _ vs (by simp[hs]) fun i av x q1 q2=>by
    rw[AG]at q1;obtain⟨a,q3,rfl⟩:=AZ.1 q1;exact(hr i a x q3 q2).ren0 hR
 |_=>exact r.ren0 hR
theorem BI.ren(hR:Kj f h h2 g g2 w){av:AV}{x:Value}(r:BI g w (AR h) av x):BI g2 w (AR h2) (ren f h av) x:=by
 cases av with
 |tup cs =>
  cases r with
  |tup _ _ vs hs hr =>
   exact .tup _ _ vs (by simp[hs]) fun i av x q1 q2=>by
    rw[AG]at q1;obtain⟨a,q3,rfl⟩:=AZ.1 q1;exact(hr i a x q3 q2).ren1 hR
 |_=>exact r.ren1 hR
theorem L8(f:Nat→Option Nat)(h:Nat→HO)(o:HO):(o.ren f h).live↔o.live:=by cases o<;>exact Qh
theorem L9(f:Nat→Option Nat)(h:Nat→HO)(o:HO):o.ren f h≠.free↔o≠.free:=by cases o<;>simp[HO.ren]
theorem Ea.ren(hR:Kj f h h2 g g2 w){i j:Nat}(UN:f i=some j)(hu:AR h i){o:HO}(r:Ea g w (AR h) i o):Ea g2 w (AR h2) j (o.ren f h):=by
 obtain⟨k1,k2,k3,k4,k5⟩:=hR.ids i j UN hu;have xN:∀{cs:List AV} {vs:List Value},CF g w Fp cs vs→CF g2 w Fp cs vs:=fun hr=>hr.mono hR.keeps (fun _ h=>h) (fun _ h=>h.elim);have so:∀{av:AV} {x:Value},BI g w Fp av x→BI g2 w Fp av x:=fun hr=>hr.mono hR.keeps (fun _ h=>h) (fun _ h=>h.elim);cases o with
 |free=>trivial
 |dead=>trivial
 |cells cs =>
  obtain⟨t,b,E,vs,a1,a2,a3,a4,a5⟩:=r;refine⟨k1.trans t,b,E,vs,k4.trans a1,k3.trans a2,a3,⟨by simp[a4.1],a4.2.1,fun i av x q1 q2=>?_⟩,fun o ho=>a5 o ((hR.S b o).1 ho)⟩;rw[AG]at q1;obtain⟨a,q3,rfl⟩:=AZ.1 q1;exact(a4.2.2 i a x q3 q2).ren1 hR
 |ro cs =>
  obtain⟨t,b,a1,a2⟩:=r;exact⟨k1.trans t,b,k3.trans a1,so a2⟩
 |tok sz n =>
  obtain⟨t,l,a,cap,a1,a2⟩:=r;refine⟨k1.trans t,k2.trans l,a,cap,k3.trans a1,?_⟩;rcases a2 with ⟨b1,b2⟩ | ⟨b1,b,E,vs,off,b2,b3,b4,b5,b6⟩
  ·exact .inl ⟨b1,k4.trans b2⟩
  ·exact .inr ⟨b1,b,E,vs,off,b2,k4.trans b3,b4,b5,fun o ho=>b6 o ((hR.S b o).1 ho)⟩
 |var sz v n =>
  obtain⟨t,l,a,cap,a1,a2⟩:=r;refine⟨k1.trans t,k2.trans l,a,cap,k3.trans a1,?_⟩;rcases a2 with ⟨b1,b2⟩ | ⟨b1,b,E,vs,off,b2,b3,b4,b5,b6⟩
  ·exact .inl ⟨b1,k4.trans b2⟩
  ·exact .inr ⟨b1,b,E,vs,off,b2,k4.trans b3,b4,b5,fun o ho=>b6 o ((hR.S b o).1 ho)⟩
 |vox v=>exact⟨k1.trans r.1,k2.trans r.2⟩
 |hol sz es i c av =>
  obtain⟨t,l,al,b,cap,E,vs,b1,b2,b3,b4,b5,b6,b7,b8,x,b9,Yh⟩:=r;exact⟨k1.trans t,k2.trans l,al,b,cap,E,vs,k3.trans b1,k4.trans b2,b3,b4,b5,xN b6,fun o ho=>b7 o ((hR.S b o).1 ho),b8,x,b9,Yh.ren1 hR⟩
 |raw b ob =>
  obtain⟨t,a1,a2,a3,a4⟩:=r;exact⟨k1.trans t,k4.trans a1,a2,a3,fun o ho=>a4 o ((hR.S b o).1 ho)⟩
 |arr sz es =>
  obtain⟨t,l,al,a2⟩:=r;refine⟨k1.trans t,k2.trans l,al,?_⟩;rcases a2 with ⟨b1,b2,b3⟩ | ⟨b,cap,E,vs,b1,b2,b3,b4,b5,b6,b7⟩
  ·exact .inl ⟨b1,k3.trans b2,k4.trans b3⟩
  ·exact .inr ⟨b,cap,E,vs,k3.trans b1,k4.trans b2,b3,b4,b5,xN b6,fun o ho=>b7 o ((hR.S b o).1 ho)⟩
 |map sh B4 =>
  obtain⟨t,b,es,ck,a1,a2,a3,a4,a5,a6⟩:=r;exact⟨k1.trans t,b,es,ck,k4.trans a1,k3.trans a2,a3,a4,fun i kv e q1 q2=>so (a5 i kv e q1 q2),fun o ho=>a6 o ((hR.S b o).1 ho)⟩
 |mapU sh B4 =>
  obtain⟨t,b,es,ck,a1,a2,a3,a4,a5,a6⟩:=r;refine⟨k1.trans t,b,es,ck,k4.trans a1,k3.trans a2,a3,U3 _ a4,fun i kv e q1 q2=>?_,fun o ho=>a6 o ((hR.S b o).1 ho)⟩;rw[AG]at q1;obtain⟨p,q3,rfl⟩:=AZ.1 q1;exact(a5 i p e q3 q2).ren1 hR
 |rom sh B4 =>
  obtain⟨t,b,a1,a2⟩:=r;exact⟨k1.trans t,b,k3.trans a1,so a2⟩
 |iter all rem Fz =>
  obtain⟨t,b,mb,JP,seen,st,es,ck,a1,a2,a3,a4,a5,a6,a7,a8,a9,WH,ZH,a12,md⟩:=r;exact⟨k1.trans t,b,mb,JP,seen,st,es,ck,k4.trans a1,k3.trans a2,a3,(hR.S _ _).2 a4,a5,a6,a7,a8,fun i kv e q1 q2=>so (a9 i kv e q1 q2),WH,ZH,a12,fun o ho=>md o ((hR.S b o).1 ho)⟩
end
theorem OL{h:Nat→HO}{d:Nat}:∀{n:Nat},DF h d n=true→∀k,k<n→h (Bp d k)=.free
 |0,_,k,hk=>by omega
 |n+1,hf,k,hk=>by
  simp only[DF,Ag]at hf
  by_cases e:k=n
  ·subst e
   have:=hf.1
   split at this
   ·rename_i e2;exact e2
   ·cases this
  ·exact OL hf.2 k (by omega)
theorem M4{d nn:Nat}:∀{σ:IQ},Dm σ d nn=true→∀{i j},Ct σ i=some j→¬(Bp d 0≤i∧i<Bp d nn)
 | [],_,i,j,h=>by simp[Ct]at h
 |(a,b)::r,hs,i,j,hf=>by
  simp only[Dm,Ag]at hs;unfold Ct at hf
  by_cases e1:a=i
  ·subst e1;have h1:=hs.1;simp only[CQ,Bool.and_eq_false_iff]at h1;intro hc;rcases h1 with h1 | h1
   ·rw[Nat.ble_eq_true_of_le hc.1]at h1;cases h1
   ·have h2:Nat.blt a (Bp d nn)=true:=by rw[Cj];exact hc.2
    rw[h2]at h1;cases h1
  ·simp only[CJ e1,El]at hf;exact M4 hs.2 hf
section
variable {P:Program}{w0:World}{g0:Gh}{h0 h:Nat→HO}{g:Gh}{w:World}
def Dx(σ:IQ)(g:Gh):Gh :=
 ⟨fun j=>match HE σ j with | some i=>g.ρ i | none=>.nilIface,fun j=>match HE σ j with | some i=>g.ln i | none=>0,fun j=>match HE σ j with | some i=>g.tk i | none=>false,
  fun j=>match HE σ j with | some i=>g.own i | none=>none,g.S⟩
def src(σ:IQ)(d nn:Nat)(i:Nat):Option Nat :=
 match Ct σ i with
 |some j=>some j
 |none=>match Nat.ble (Bp d 0) i&&Nat.blt i (Bp d nn)with |true=>some (2000+(i-Bp d 0)) |false=>none
def GE(σ:IQ)(d nn:Nat)(g g' : Gh):Gh :=
 ⟨fun i=>match src σ d nn i with | some j=>g'.ρ j | none=>g.ρ i,fun i=>match src σ d nn i with | some j=>g'.ln j | none=>g.ln i,fun i=>match src σ d nn i with | some j=>g'.tk j | none=>g.tk i,
  fun i=>match src σ d nn i with | some j=>g'.own j | none=>g.own i,g'.S⟩
theorem bl(σ:IQ)(d nn:Nat)(h h' : Nat→HO)(i:Nat):D0 σ d nn h h' i=match src σ d nn i with | some j=>(h' j).ren (E1 σ d nn) h' | none=>h i:=by
 unfold D0 src;cases Ct σ i with
 |some j=>rfl
 |none =>
  dsimp only;cases Nat.ble (Bp d 0) i&&Nat.blt i (Bp d nn)<;>rfl
theorem im{σ:IQ}{d nn:Nat}(hσ:Ei σ=true)(ha:Dm σ d nn=true)(i j:Nat):src σ d nn i=some j↔E1 σ d nn j=some i:=by
 have inv:=Wj hσ;unfold src E1;cases h1:Ct σ i with
 |some j' =>
  have hb:=(inv i j').1 h1;dsimp only;constructor
  ·intro h;cases h;rw[hb]
  ·intro h;cases h2:HE σ j with
   |some i'=>rw[h2]at h;cases h;rw[(inv i j).2 h2]at h1;exact h1.symm
   |none =>
    rw[h2]at h;dsimp only at h;split at h
    ·rename_i hc;have h:=BM h;subst h;simp only[Ag,Db,Cj]at hc;exact absurd ⟨by unfold Bp;omega,by unfold Bp;omega⟩ (M4 ha h1)
    ·cases h
 |none =>
  dsimp only;cases h2:HE σ j with
  |some i' =>
   dsimp only;have hf:=(inv i' j).2 h2;have hr:=Vd hσ hf;constructor
   ·intro h;split at h
    ·cases h;omega
    ·cases h
   ·intro h;cases h;rw[hf]at h1;cases h1
  |none =>
   dsimp only;constructor
   ·intro h;split at h
    ·rename_i hc;cases h;simp only[Ag,Db,Cj]at hc;have e1:(Nat.ble 2000 (2000+(i-Bp d 0))&&Nat.blt (2000+(i-Bp d 0)) (2000+nn))=true:=by
      simp only[Ag,Db,Cj];unfold Bp at hc⊢;omega
     rw[e1]
     have:Bp d (2000+(i-Bp d 0)-2000)=i:=by unfold Bp at hc⊢;omega
     rw[this]
    ·cases h
   ·intro h;split at h
    ·rename_i hc;have h:=BM h;subst h;simp only[Ag,Db,Cj]at hc;have e1:(Nat.ble (Bp d 0) (Bp d (j-2000))&&Nat.blt (Bp d (j-2000)) (Bp d nn))=true:=by
      simp only[Ag,Db,Cj];unfold Bp;omega
     rw[e1]
     have:2000+(Bp d (j-2000)-Bp d 0)=j:=by unfold Bp;omega
     rw[this]
    ·cases h
theorem VW(hI:DJ w0 g0 h0 h g w){σ:IQ}(hσ:Ei σ=true):Kj (Ct σ) h (Fy σ h) g (Dx σ g) w∧DJ w (Dx σ g) (Fy σ h) (Fy σ h) (Dx σ g) w:=by
 have inv:=Wj hσ;have Fb:∀j,Fy σ h j=match HE σ j with | some i=>(h i).ren (Ct σ) h | none=>.free:=OT _ _ σ
 have hR:Kj (Ct σ) h (Fy σ h) g (Dx σ g) w:=by
  refine⟨fun r r' hr hu=>?_,fun b o=>Qh,hI.objs⟩;have hb:=(inv r r').1 hr;refine⟨by simp[Dx,hb],by simp[Dx,hb],by simp[Dx,hb],by simp[Dx,hb],?_⟩;unfold AR;rw[Fb,hb];exact(L9 _ _ _).2 hu
 have LX:∀j,(Fy σ h j).live→∃i,HE σ j=some i∧(h i).live:=fun j hl=>by
  rw[Fb]at hl;cases e:HE σ j with
  |none=>rw[e]at hl;exact hl.elim
  |some i=>rw[e]at hl;exact⟨i,rfl,(L8 _ _ _).1 hl⟩
 have V3:∀j i,HE σ j=some i→(Dx σ g).own j=g.own i:=fun j i e=>by simp[Dx,e]
 refine⟨hR,rfl,rfl,rfl,Ak _,fun _ _ _=>rfl,hI.slt,fun j=>?_,fun j j' b hl Py e e'=>?_,fun j b hl e=>?_,fun _ _ h=>.inl h,hI.glob⟩
 ·rw[Fb];cases e:HE σ j with
  |none=>trivial
  |some i =>
   by_cases hu:AR h i
   ·exact(hI.objs i).ren hR ((inv i j).2 e) hu
   ·have:h i=.free:=BL.1 hu
    dsimp only;rw[this];trivial
 ·obtain⟨i,e1,l1⟩:=LX j hl;obtain⟨i',e2,l2⟩:=LX j' Py;rw[V3 j i e1]at e;rw[V3 j' i' e2]at e';obtain rfl:=hI.inj i i' b l1 l2 e e'
  have:=(inv i j).2 e1
  rw[(inv i j').2 e2]at this;cases this;rfl
 ·obtain⟨i,e1,l1⟩:=LX j hl;have e0:=e;rw[V3 j i e1]at e;exact⟨(hI.loc i b l1 e).1,.inr ⟨j,hl,e0⟩⟩
theorem Ml{C:(Ending→World→Prop)→Prop}(hm:∀{R R' : Ending→World→Prop},C R→(∀e w,R e w→R' e w)→C R')(hI:DJ w0 g0 h0 h g w){σ:IQ}{d nn:Nat}(Gw:(Ei σ&&DF h d nn&&Dm σ d nn)=true){Q:AV→(Nat→HO)→Prop}
  (hc:DJ w (Dx σ g) (Fy σ h) (Fy σ h) (Dx σ g) w→C (fun e w'=>∃v r h' g',e=Ending.returned v∧Q r h'∧BI g' w' (AR h') r v∧DJ w (Dx σ g) (Fy σ h) h' g' w'∧Le (Fy σ h) (Dx σ g) w h' g' w')) {R:Ending→World→Prop}
  (ZW:∀v r h' g2 w',Q r h'→DJ w0 g0 h0 (D0 σ d nn h h') g2 w'→Le h g w (D0 σ d nn h h') g2 w'→BI g2 w' (AR (D0 σ d nn h h')) (ren (E1 σ d nn) h' r) v→R (.returned v) w'):C R:=by
 simp only[Ag]at Gw;obtain⟨⟨hσ,zL⟩,pW⟩:=Gw;obtain⟨hF,jG⟩:=VW hI hσ;have inv:=Wj hσ;have jR:=im hσ pW;refine hm (hc jG) ?_
 rintro e w' ⟨v,r,h',g',rfl,q1,q2,q3,q4⟩
 have hb:=bl σ d nn h h';have fo:∀i j,src σ d nn i=some j→(GE σ d nn g g').ρ i=g'.ρ j∧(GE σ d nn g g').ln i=g'.ln j∧(GE σ d nn g g').tk i=g'.tk j∧(GE σ d nn g g').own i=g'.own j:=fun i j e=>by simp[GE,e]
 have uj:∀i,src σ d nn i=none→(GE σ d nn g g').ρ i=g.ρ i∧(GE σ d nn g g').ln i=g.ln i∧(GE σ d nn g g').tk i=g.tk i∧(GE σ d nn g g').own i=g.own i:=fun i e=>by simp[GE,e]
 have hB:Kj (E1 σ d nn) h' (D0 σ d nn h h') g' (GE σ d nn g g') w':=by
  refine⟨fun j i hj hu=>?_,fun b o=>Qh,q3.objs⟩;have e:=(jR i j).2 hj;obtain⟨k1,k2,k3,k4⟩:=fo i j e;refine⟨k3,k2,k1,k4,?_⟩;unfold AR;rw[hb,e];exact(L9 _ _ _).2 hu
 have lr:∀j,Fy σ h j=match HE σ j with | some i=>(h i).ren (Ct σ) h | none=>.free:=OT _ _ σ
 have uc:∀j i,Ct σ i=some j→(h i).live→(Fy σ h j).live:=fun j i e hl=>by
  rw[lr,(inv i j).1 e];exact(L8 _ _ _).2 hl
 have xg:∀j i,Ct σ i=some j→(Dx σ g).own j=g.own i:=fun j i e=>by simp[Dx,(inv i j).1 e]
 have Ri : ∀j,(Fy σ h j).live→∃i,Ct σ i=some j∧(h i).live∧(Dx σ g).own j=g.own i:=fun j hl=>by
  rw[lr]at hl;cases e:HE σ j with
  |none=>rw[e]at hl;exact hl.elim
  |some i=>rw[e]at hl;exact⟨i,(inv i j).2 e,(L8 _ _ _).1 hl,by simp[Dx,e]⟩
 -- what the callee xM not touch
 have lx:∀b,b<w.heap.size→(∀i,(h i).live→Ct σ i≠none→g.own i≠some b)→w'.heap[b]?=w.heap[b]?:=fun b DI hn=>q3.frame b DI fun j hl e=>by
  obtain⟨i,e1,l1,o1⟩:=Ri j hl;exact hn i l1 (by rw[e1];simp) (by rw[←o1];exact e)
 have tU:∀b o,g'.S b o→b<w.heap.size→(∀i,(h i).live→Ct σ i≠none→g.own i≠some b)→g.S b o:=fun b o hs DI hn=>by
  rcases q3.sg b o hs with h1 | h1 | ⟨j,h1,h2⟩
  ·exact h1
  ·omega
  ·obtain⟨i,e1,l1,o1⟩:=Ri j h1;exact absurd (by rw[←o1];exact h2) (hn i l1 (by rw[e1];simp))
 have hk:EY g w (GE σ d nn g g') w':=q4.keeps;have Ab:∀i,Ct σ i=none→src σ d nn i≠none→h i=.free:=fun i e1 e2=>by
  unfold src at e2;rw[e1]at e2;dsimp only at e2;split at e2
  ·rename_i hc;simp only[Ag,Db,Cj]at hc
   have:=OL zL (i-Bp d 0) (by unfold Bp at hc⊢;omega)
   rw[show Bp d (i-Bp d 0)=i by unfold Bp at hc⊢;omega]at this;exact this
  ·exact absurd rfl e2
 have bS:∀i j,Ct σ i=some j→src σ d nn i=some j:=fun i j e=>by unfold src;rw[e]
 have xl:JS g (GE σ d nn g g') (AR h):=fun i hu=>by
  cases e:Ct σ i with
  |some j =>
   obtain⟨k1,k2,k3,k4⟩:=fo i j (bS i j e);obtain⟨f1,f2,f3,f4,f5⟩:=hF.ids i j e hu;obtain⟨m1,m2,m3,m4⟩:=q4.gh j f5;exact⟨(k3.trans m1).trans f1,by omega,fun t=>(k1.trans (m3 (f1.trans t))).trans f3,fun l=>(k1.trans (m4 (by omega))).trans f3⟩
  |none =>
   have e2:src σ d nn i=none:=BL.1 fun e2=>hu (Ab i e e2);obtain⟨k1,k2,k3,k4⟩:=uj i e2;exact⟨k3,by omega,fun _=>k1,fun _=>k1⟩
 have KZ:∀i,AR h i→AR (D0 σ d nn h h') i:=fun i hu=>by
  unfold AR;rw[hb];cases e:Ct σ i with
  |some j =>
   rw[bS i j e];exact(L9 _ _ _).2 (q4.us j (hF.ids i j e hu).2.2.2.2)
  |none =>
   have e2:src σ d nn i=none:=BL.1 fun e2=>hu (Ab i e e2);rw[e2];exact hu
 have bO:∀i,(D0 σ d nn h h' i).live→(∃j,src σ d nn i=some j∧(h' j).live∧(GE σ d nn g g').own i=g'.own j)∨(src σ d nn i=none∧(h i).live∧(GE σ d nn g g').own i=g.own i∧Ct σ i=none):=fun i hl=>by
  rw[hb]at hl;cases e:src σ d nn i with
  |some j=>rw[e]at hl;exact .inl ⟨j,rfl,(L8 _ _ _).1 hl,(fo i j e).2.2.2⟩
  |none =>
   rw[e]at hl;refine .inr ⟨rfl,hl,(uj i e).2.2.2,?_⟩;cases e2:Ct σ i with
   |none=>rfl
   |some j=>rw[bS i j e2]at e;cases e
 have p5:∀j b,(h' j).live→g'.own j=some b→b<w'.heap.size∧(w.heap.size≤b∨∃i,Ct σ i≠none∧(h i).live∧g.own i=some b):=fun j b hl e=>by
  obtain⟨h1,h2⟩:=q3.loc j b hl e;refine⟨h1,h2.imp id ?_⟩
  rintro⟨j',l',e'⟩
  obtain⟨i,e1,l1,o1⟩:=Ri j' l';exact⟨i,by rw[e1];simp,l1,by rw[←o1];exact e'⟩
 have jT:∀i b,(h i).live→g.own i=some b→Ct σ i=none→∀i',(h i').live→Ct σ i'≠none→g.own i'≠some b:=fun i b hl e hn i' Py Xt e'=>by
  obtain rfl:=hI.inj i i' b hl Py e e';exact Xt hn
 refine ZW v r h' (GE σ d nn g g') w' q1 ⟨q3.os.trans hI.os,q3.tape.trans hI.tape,q3.output.trans hI.output,A5 hI.size q3.size,fun b DI hn=>?_,q3.slt,fun i=>?_,fun i i' b hl Py e e'=>?_,fun i b hl e=>?_,fun b o hs=>?_,hI.glob.keep hk⟩ ⟨xl,KZ,hk⟩ (q2.ren hB)
 ·refine(lx b (BJ DI hI.size) fun i hl _ e=>?_).trans (hI.frame b DI hn);rcases(hI.loc i b hl e).2 with h1 | ⟨r',h1,h2⟩
  ·omega
  ·exact hn r' h1 h2
 ·rw[hb];cases e:src σ d nn i with
  |some j =>
   by_cases hu:AR h' j
   ·exact(q3.objs j).ren hB ((jR i j).1 e) hu
   ·have:h' j=.free:=BL.1 hu
    dsimp only;rw[this];trivial
  |none =>
   obtain⟨k1,k2,k3,k4⟩:=uj i e;have e2:Ct σ i=none:=by
    cases e2:Ct σ i with
    |none=>rfl
    |some j=>rw[bS i j e2]at e;cases e
   refine(hI.objs i).same hk KZ xl k1 k2 k3 k4 fun b hl ho=>?_;have DI:=(hI.loc i b hl ho).1;exact⟨lx b DI (jT i b hl ho e2),fun k hs=>tU b k hs DI (jT i b hl ho e2)⟩
 ·have mixed:∀i j i',(h' j).live→g'.own j=some b→(h i').live→g.own i'=some b→Ct σ i'=none→i=i':=fun i j i' l1 o1 l2 o2 n2=>by
   rcases(p5 j b l1 o1).2 with h1 | ⟨i3,n3,l3,o3⟩
   ·have:=(hI.loc i' b l2 o2).1;omega
   ·exact absurd o3 (jT i' b l2 o2 n2 i3 l3 n3)
  rcases bO i hl with ⟨j,s1,l1,o1⟩ | ⟨s1,l1,o1,n1⟩<;>rcases bO i' Py with ⟨j',s2,l2,o2⟩ | ⟨s2,l2,o2,n2⟩
  ·obtain rfl:=q3.inj j j' b l1 l2 (by rw[←o1];exact e) (by rw[←o2];exact e');have a1:=(jR i j).1 s1;rw[(jR i' j).1 s2]at a1;cases a1;rfl
  ·exact mixed i j i' l1 (by rw[←o1];exact e) l2 (by rw[←o2];exact e') n2
  ·exact(mixed i' j' i l2 (by rw[←o2];exact e') l1 (by rw[←o1];exact e) n1).symm
  ·exact hI.inj i i' b l1 l2 (by rw[←o1];exact e) (by rw[←o2];exact e')
 ·rcases bO i hl with ⟨j,s1,l1,o1⟩ | ⟨s1,l1,o1,n1⟩
  ·obtain⟨h1,h2⟩:=p5 j b l1 (by rw[←o1];exact e);refine⟨h1,?_⟩;rcases h2 with h2 | ⟨i3,n3,l3,o3⟩
   ·exact .inl (A5 hI.size h2)
   ·exact(hI.loc i3 b l3 o3).2
  ·obtain⟨h1,h2⟩:=hI.loc i b l1 (by rw[←o1];exact e);exact⟨BJ h1 q3.size,h2⟩
 ·rcases q3.sg b o hs with h1 | h1 | ⟨j,h1,h2⟩
  ·exact hI.sg b o h1
  ·exact .inr (.inl (A5 hI.size h1))
  ·obtain⟨i,e1,l1,o1⟩:=Ri j h1;exact .inr (hI.loc i b l1 (by rw[←o1];exact h2)).2
theorem dT(hI:DJ w0 g0 h0 h g w){σ:IQ}{d nn:Nat}(Gw:(Ei σ&&DF h d nn&&Dm σ d nn)=true){f:Nat}{args:List AV}{Q:AV→(Nat→HO)→Prop}(hc:Be P f args (Fy σ h) Q){vals:Array Value}(hs:vals.size=args.length)
  (hv:∀(i:Nat) (av:AV) (x:Value),args[i]?=some av→vals[i]?=some x→BI (Dx σ g) w (AR (Fy σ h)) av x) {R:Ending→World→Prop}
  (ZW:∀v r h' g2 w',Q r h'→DJ w0 g0 h0 (D0 σ d nn h h') g2 w'→Le h g w (D0 σ d nn h h') g2 w'→BI g2 w' (AR (D0 σ d nn h h')) (ren (E1 σ d nn) h' r) v→R (.returned v) w'):Calls P f vals w R :=
 Ml (C:=Calls P f vals w) (fun h k=>h.mono k) hI Gw (hc.2 (Dx σ g) w vals hs hv) ZW
end
structure SR(N:Nat)(ds:List Deferred)(w0:World)(g0:Gh)(h0:Nat→HO)(st:St)(g:Gh)(a:Act)(w:World):Prop where
 inv:DJ w0 g0 h0 st.h g w
 le:Le h0 g0 w0 st.h g w
 dfs:a.defers=ds
 size:a.tmps.size=N
 slots:∀i,BI g w (AR st.h) (st.t i) (a.tmps.getD i undef)
section
variable {P:Program}{N:Nat}{ds:List Deferred}{w0:World}{g0:Gh}{h0:Nat→HO}{st:St}{g:Gh}{a:Act}{w:World}
theorem SR.eval(hS:SR N ds w0 g0 h0 st g a w)(x:Operand):BI g w (AR st.h) (ev st.t x) (a.eval x):=by
 cases x with
 |tmp i=>exact hS.slots i
 |const v=>exact .v _ _
 |global b=>exact .v _ _
 |func f=>exact .v _ _
theorem SR.put(hS:SR N ds w0 g0 h0 st g a w){d:Option Nat}(hd:∀i,d=some i→i<N){v:AV}{x:Value}{h' : Nat→HO}{g' : Gh}{w' : World}(hI:DJ w0 g0 h0 h' g' w')(Hi:Le st.h g w h' g' w')(hr:BI g' w' (AR h') v x) :
  SR N ds w0 g0 h0 (st.put d v h') g' (a.put d x) w':=by
 have old:∀i,BI g' w' (AR h') (st.t i) (a.tmps.getD i undef):=fun i=>(hS.slots i).le Hi;cases d with
 |none=>exact⟨hI,hS.le.trans Hi,hS.dfs,hS.size,old⟩
 |some d =>
  have ue:=hd d rfl;refine⟨hI,hS.le.trans Hi,hS.dfs,by simp[Act.put,hS.size],fun i=>?_⟩;simp only[St.put,Act.put,G2]
  by_cases e:i=d
  ·subst e
   have:i<a.tmps.size:=by rw[hS.size];exact ue
   simp only[CV,JE];rw[Cu,Array.getElem?_setIfInBounds_self,Az this];exact hr
  ·simp only[CJ e,El];rw[Cu,Array.getElem?_setIfInBounds_ne (Ne.symm e),←Cu];exact old i
def Yk(w0:World)(g0:Gh)(h0 h:Nat→HO)(g:Gh)(w:World)(K:HK)(next:Value→World→Prop):Prop :=
 ∀v h' g' w' x,K v h'→DJ w0 g0 h0 h' g' w'→Le h g w h' g' w'→BI g' w' (AR h') v x→next x w'
theorem DT{o:Oper}{m:Sem Value}{K:HK}{next:Act→World→Prop}{Q:Exit→Act→World→Prop}(hx:execOp a.eval o=(do pure (Next.value (←m))))(hd:NS P w0 g0 h0 st.h g w m K)
  (hn:Yk w0 g0 h0 st.h g w K fun x w'=>next (a.put o.dst x) w'):o.wp P a w next Q:=by
 obtain⟨x,w',g',av,h',h1,h2,h3,h4,h5⟩:=hd;unfold Oper.wp;rw[hx,Sem.run_bind,h1];exact hn av h' g' w' x h2 h3 h4 h5
theorem Wu{o:Oper}{m:Sem Unit}{K:HK}{next:Act→World→Prop}{Q:Exit→Act→World→Prop}(hx:execOp a.eval o=(do m;pure Next.skip))(hd:dA P w0 g0 h0 st.h g w m K)
  (hn:Yk w0 g0 h0 st.h g w K fun x w'=>next (a.put o.dst x) w'):o.wp P a w next Q:=by
 obtain⟨w',g',h',h1,h2,h3,h4⟩:=hd;unfold Oper.wp;rw[hx,Sem.run_bind,h1];exact hn _ h' g' w' undef h2 h3 h4 (.v _ _)
theorem aR{o:Oper}{K:HK}{next:Act→World→Prop}{Q:Exit→Act→World→Prop}{v:AV}{x:Value}(hI:DJ w0 g0 h0 st.h g w)(hx:(execOp a.eval o).run P w=.ok (.value x) w)(hk:K v st.h)(hr:BI g w (AR st.h) v x)
  (hn:Yk w0 g0 h0 st.h g w K fun x w'=>next (a.put o.dst x) w'):o.wp P a w next Q:=by
 unfold Oper.wp;rw[hx];exact hn _ _ _ _ _ hk hI (.refl _ _ _) hr
theorem RO{C:(Ending→World→Prop)→Prop}(hm:∀{R R' : Ending→World→Prop},C R→(∀e w,R e w→R' e w)→C R')(hI:DJ w0 g0 h0 st.h g w){Q:AV→(Nat→HO)→Prop}
  (hc:DJ w g Ab Ab g w→C (fun e w'=>∃v r h' g',e=Ending.returned v∧Q r h'∧BI g' w' (AR h') r v∧DJ w g Ab h' g' w'∧Le Ab g w h' g' w')) {R:Ending→World→Prop}
  (hR:∀v r h' g' w',Q r h'→h'=Ab→DJ w0 g0 h0 st.h g' w'→Le st.h g w st.h g' w'→BI g' w' Fp r v→R (.returned v) w') (hQ:∀r h',Q r h'→h'=Ab):C R:=by
 have hU:AR Ab=Fp:=by funext i;unfold AR Fp Ab;simp
 have jG:DJ w g Ab Ab g w:=⟨rfl,rfl,rfl,Ak _,fun _ _ _=>rfl,hI.slt,fun _=>trivial,fun _ _ _ h=>h.elim,fun _ _ h=>h.elim,fun _ _ h=>.inl h,hI.glob⟩;refine hm (hc jG) ?_
 rintro e w' ⟨v,r,h',g',rfl,q1,q2,q3,q4⟩
 obtain rfl:=hQ r h' q1;rw[hU]at q2
 -- the caller's ghost,with the callee's stable cells
 have hk:EY g w ⟨g.ρ,g.ln,g.tk,g.own,g'.S⟩ w':=q4.keeps;have hg:JS g ⟨g.ρ,g.ln,g.tk,g.own,g'.S⟩ (AR st.h):=fun _ _=>⟨rfl,Ak _,fun _=>rfl,fun _=>rfl⟩;have lx:∀b,b<w.heap.size→w'.heap[b]?=w.heap[b]?:=fun b hb=>q3.frame b hb (fun _ h=>h.elim);have tU:∀b o,g'.S b o→b<w.heap.size→g.S b o:=fun b o hs hb=>by
  rcases q3.sg b o hs with h1 | h1 | ⟨_,h1,_⟩
  ·exact h1
  ·omega
  ·exact h1.elim
 refine hR v r Ab ⟨g.ρ,g.ln,g.tk,g.own,g'.S⟩ w' q1 rfl ⟨q3.os.trans hI.os,q3.tape.trans hI.tape,q3.output.trans hI.output,A5 hI.size q3.size,fun b hb hn=>?_,q3.slt,fun i=>?_,hI.inj,fun i b hl ho=>?_,fun b o hs=>?_,hI.glob.keep hk⟩ ⟨hg,fun _ h=>h,hk⟩ ?_
 ·exact(lx b (BJ hb hI.size)).trans (hI.frame b hb hn)
 ·refine(hI.objs i).same hk (fun _ h=>h) hg rfl rfl rfl rfl (fun b hl ho=>?_);have DI:=(hI.loc i b hl ho).1;exact⟨lx b DI,fun k hs=>tU b k hs DI⟩
 ·obtain⟨h1,h2⟩:=hI.loc i b hl ho;exact⟨BJ h1 q3.size,h2⟩
 ·rcases q3.sg b o hs with h1 | h1 | ⟨_,h1,_⟩
  ·exact hI.sg b o h1
  ·exact .inr (.inl (A5 hI.size h1))
  ·exact h1.elim
 ·have:EY g' w' ⟨g.ρ,g.ln,g.tk,g.own,g'.S⟩ w':=fun b o h=>⟨h,rfl,fun _ _ h=>h⟩
  exact q2.mono this (fun _ h=>h) (fun _ h=>h.elim)
theorem bp(hI:DJ w0 g0 h0 st.h g w){f:Nat}{args:List AV}{Q:AV→(Nat→HO)→Prop}(hc:Be P f args Ab Q){vals:Array Value}(hs:vals.size=args.length)
  (hv:∀(i:Nat) (av:AV) (x:Value),args[i]?=some av→vals[i]?=some x→BI g w Fp av x) {R:Ending→World→Prop}
  (hR:∀v r h' g' w',Q r h'→h'=Ab→DJ w0 g0 h0 st.h g' w'→Le st.h g w st.h g' w'→BI g' w' Fp r v→R (.returned v) w') (hQ:∀r h',Q r h'→h'=Ab):Calls P f vals w R :=
 have hU:AR Ab=Fp:=by funext i;unfold AR Fp Ab;simp
 RO (C:=Calls P f vals w) (fun h k=>h.mono k) hI (hc.2 g w vals hs (fun i av x h1 h2=>by rw[hU];exact hv i av x h1 h2)) hR hQ
theorem YieldAt.imp{F:Fence}{m:Nat}{P:Program}{l:Nat}{args:Array Value}{W:World}{R R' : Ending→World→Prop}(h:YieldAt F m P l args W R)(hr:∀e w,R e w→R' e w):YieldAt F m P l args W R' :=
 let ⟨fn,t,a,b,h1,h2⟩:=h
 ⟨fn,t,a,b,h1,h2.mono hr⟩
theorem IH.imp{Y:Gh→World→Prop}{l:Nat}{args:List AV}{h0:Nat→HO}{Q Q' : AV→(Nat→HO)→Prop}(h:IH P Y l args h0 Q)(hq:∀r h',Q r h'→Q' r h'):IH P Y l args h0 Q' :=
 fun g w vals q1 q2 q3 q4=>YieldAt.imp (h g w vals q1 q2 q3 q4) fun _ _ ⟨v,r,h',g',e1,e2,rest⟩=>⟨v,r,h',g',e1,hq _ _ e2,rest⟩
theorem F0.imp{Y:Nat→Gh→World→Prop}{F:AV}{args:List AV}{h0:Nat→HO}{Q Q' : AV→(Nat→HO)→Prop}(h:F0 P Y F args h0 Q)(hq:∀r h',Q r h'→Q' r h'):F0 P Y F args h0 Q':=by
 have one:∀{f:Nat} {l:List AV},Be P f l h0 Q→Be P f l h0 Q':=fun hc =>
  ⟨hc.1,fun g w vals q1 q2 q3=>(hc.2 g w vals q1 q2 q3).mono fun _ _ ⟨v,r,h',g',e1,e2,rest⟩=>⟨v,r,h',g',e1,hq _ _ e2,rest⟩⟩
 unfold F0 at h⊢;split at h
 ·exact one h
 ·exact one h
 ·exact IH.imp h hq
 ·exact h.elim
abbrev Jw(ro:Option Nat):Fence:={ Fence.wide with round:=ro }
theorem MB{ro:Option Nat}{o:Oper}{a:Act}{w:World}{next:Act→World→Prop}{Q:Exit→Act→World→Prop}(hd:∀c,o.op≠.defer c)(h:o.wp P a w next Q):o.wpIn (Jw ro) 0 P a w next Q:=by
 refine⟨fun _ _=>trivial,?_⟩;have e:o.semAt (Jw ro).round a.eval=execOp a.eval o:=Oper.semAt_eq ro a.eval o hd;rw[e];unfold Oper.wp at h;have key:∀res:Result Next,o.upon P a next Q res→o.uponIn (Jw ro) 0 P a next Q res:=fun res h=>by
  cases res with
  |ok n w'=>cases n with
   |enter f args=>exact(show(_→_)∧CallsIn (Jw ro) 0 P f args w' _ from⟨fun e=>by(cases e),callsIn_wide.2 h⟩)
   |row r args=>exact(show(_→_)∧RowsIn (Jw ro) 0 P r args w' _ from⟨fun e=>by(cases e),fun c cs _=>by
     obtain⟨v,aQ,r',s⟩:=h c cs;exact⟨v,aQ,r',stepsIn_wide.2 s⟩⟩)
   |round _ _ _ _ _=>exact h.elim
   |_=>exact h
  |halt x w'=>cases x<;>exact h
 exact key _ h
theorem Gy{f:Nat}{args:Array Value}(h:F1 P f)(w:World):(callFunc f args).run P w=.ok (.enter f args) w:=by
 obtain⟨fn,h1,h2,h3⟩:=h;simp only[callFunc,Sem.run_bind,run_program,h1,Result.andThen_ok,h2,h3,Dk,Gg,Sem.run_pure]
theorem Ts{h:Nat→HO}{a:AV}(ha:aq a=true):ren (Ct []) h a=str h a:=by
 have h0:∀a,ren0 (Ct []) h a=str0 h a:=fun a=>by
  cases a with
  |slice tk es=>cases tk<;>rfl
  |_=>rfl
 cases a with
 |tup cs=>cases ha
 |agg cs=>show AV.agg _=AV.agg _;exact Ac _ (Bf fun c _=>h0 c)
 |clo f cs=>show AV.clo f _=AV.clo f _;exact Ac _ (Bf fun c _=>h0 c)
 |v x=>exact h0 (.v x)
 |slice tk es=>exact h0 (.slice tk es)
 |msl r n=>exact h0 (.msl r n)
 |cptr cs=>exact h0 (.cptr cs)
 |ref r o=>exact h0 (.ref r o)
 |eref r n sz i o=>exact h0 (.eref r n sz i o)
 |mref r=>exact h0 (.mref r)
 |cmap sh l=>exact h0 (.cmap sh l)
 |junk=>rfl
theorem PQ{h:Nat→HO}:∀{l:List AV},Tf l=true→l.map (ren (Ct []) h)=l.map (str h)
 | [],_=>rfl
 |a::l,e=>by
  unfold Tf at e;split at e
  ·rename_i e1;rw[AP,AP,Ts e1,PQ e]
  ·cases e
theorem Qe:∀{l:List AV} {vs:List Value},Vl l=some vs→l=vs.map .v
 | [],vs,h=>by cases h;rfl
 |.v x::r,vs,h=>by
  unfold Vl at h;split at h
  ·rename_i l e;cases h;rw[AP,←Qe e]
  ·cases h
theorem bo{cx:Cx}{d:Option Nat}{st:St}{F:AV}{args:List AV}{K:HK}(hk:Gb cx true d st F args K):Gb cx false d st F args K:=by
 unfold Gb at hk;simp only at hk;split at hk
 ·exact⟨.pure,hk⟩
 ·split at hk
  ·exact hk.elim
  ·rename_i d _;obtain⟨n,sz,es,h1,h2,h3⟩:=hk;simp only[Ag]at h1;refine⟨.gen [] 1,?_⟩;show(Ei []&&DF st.h d 1&&Dm [] d 1)=true∧_;refine⟨by simp[Ei,Dm,h1.1.1],?_⟩;rw[Ts h1.1.2,PQ h1.2];show F0 cx.P (fun l=>cx.yp l []) _ _ Ab _;refine F0.imp h2 ?_
   rintro r h' ⟨e2,e3⟩
   subst e2;subst e3;have e1:ren (E1 [] d 1) (Aj [(2000,.arr sz es)] Ab) (.msl 2000 n)=.msl (Bp d 0) n:=rfl;have e2:D0 [] d 1 st.h (Aj [(2000,.arr sz es)] Ab)=AW st.h (Bp d 0) (.arr sz es):=by
    funext i
    by_cases e:i=Bp d 0
    ·subst e;rw[Bd];have hb:(Nat.ble (Bp d 0) (Bp d 0)&&Nat.blt (Bp d 0) (Bp d 1))=true:=by
      unfold Bp;simp only[Ag,Db,Cj];omega
     simp only[D0,Ct,hb,Ga];rfl
    ·rw[B1 _ _ _ _ e]
     have:(Nat.ble (Bp d 0) i&&Nat.blt i (Bp d 1))=false:=by
      unfold Bp at e⊢;rw[AI];simp only[U4,Ag,Db,Cj];omega
     simp only[D0,Ct,this]
   rw[e1,e2];exact h3
 ·split at hk
  ·unfold TJ at hk;split at hk
   ·exact hk.elim
   ·rename_i d _;obtain⟨sz,es,h1,h2,h3⟩:=hk;simp only[Ag]at h1;refine⟨.gen [] 1,?_⟩;show(Ei []&&DF st.h d 1&&Dm [] d 1)=true∧_;refine⟨by simp[Ei,Dm,h1.1.1],?_⟩;rw[Ts h1.1.2,PQ h1.2];show F0 cx.P (fun l=>cx.yp l []) _ _ Ab _;refine F0.imp h2 ?_
    rintro r h' ⟨e2,e3⟩
    subst e2;subst e3;have e1:ren (E1 [] d 1) (Aj [(2000,.tok sz es.length)] Ab) (.slice (.id 2000 sz) es)=.slice (.id (Bp d 0) sz) es:=rfl;have e2:D0 [] d 1 st.h (Aj [(2000,.tok sz es.length)] Ab)=AW st.h (Bp d 0) (.tok sz es.length):=by
     funext i
     by_cases e:i=Bp d 0
     ·subst e;rw[Bd];have hb:(Nat.ble (Bp d 0) (Bp d 0)&&Nat.blt (Bp d 0) (Bp d 1))=true:=by
       unfold Bp;simp only[Ag,Db,Cj];omega
      simp only[D0,Ct,hb,Ga];rfl
     ·rw[B1 _ _ _ _ e]
      have:(Nat.ble (Bp d 0) i&&Nat.blt i (Bp d 1))=false:=by
       unfold Bp at e⊢;rw[AI];simp only[U4,Ag,Db,Cj];omega
      simp only[D0,Ct,this]
    rw[e1,e2];exact h3
  split at hk
  ·unfold Qf at hk;split at hk
   ·rename_i d l vs e2 z1;have hl:=Qe e2;split at hk
    ·rename_i r sz es aN n e3 e4;obtain⟨⟨rfl,rfl⟩,v,FA,n',h1,h2⟩:=hk;refine⟨.gen [(1000,1000),(1001,1001)] 0,?_⟩;show(Ei [(1000,1000),(1001,1001)]&&DF st.h d 0&&Dm [(1000,1000),(1001,1001)] d 0)=true∧_;refine⟨?_,?_⟩
     ·have:Dm [(1000,1000),(1001,1001)] d 0=true:=by
       have q:∀r:Nat,(Nat.ble (Bp d 0) r&&Nat.blt r (Bp d 0))=false:=fun r=>by
        rw[AI];simp only[U4,Ag,Db,Cj];omega
       simp only[Dm,q,Bool.not_false,Bool.and_self]
      rw[this];rfl
     have f1:args.map (ren (Ct [(1000,1000),(1001,1001)]) st.h)=vs.map .v:=by rw[hl,BP];rfl
     have f2:Fy [(1000,1000),(1001,1001)] st.h=Aj [(1000,.cells [.slice (.id 1001 aN) es]),(1001,.tok aN n)] Ab:=by
      unfold Fy Wi Wi Wi;rw[e3,e4];rfl
     rw[f1,f2];refine IH.imp h1 ?_
     rintro r h' ⟨g1,g2⟩
     subst g1;subst g2;have f3:D0 [(1000,1000),(1001,1001)] d 0 st.h (Aj [(1000,.cells [.slice (.id 1001 aN) FA]),(1001,.tok aN n')] Ab)=AW (AW st.h 1001 (.tok aN n')) 1000 (.cells [.slice (.id 1001 aN) FA]):=by
      funext i
      by_cases e:i=1000
      ·subst e;rw[Bd];rfl
      ·rw[B1 _ _ _ _ e]
       by_cases e' : i=1001
       ·subst e';rw[Bd];rfl
       ·rw[B1 _ _ _ _ e'];have hn:Ct [(1000,1000),(1001,1001)] i=none:=by simp[Ct,CJ (Ne.symm e),CJ (Ne.symm e')]
        have:(Nat.ble (Bp d 0) i&&Nat.blt i (Bp d 0))=false:=by
         rw[AI];simp only[U4,Ag,Db,Cj];omega
        simp only[D0,hn,this]
     rw[f3];exact h2
    ·exact hk.elim
   ·exact hk.elim
  unfold OV at hk;split at hk
  ·unfold Xk at hk;split at hk
   ·rename_i d f _;obtain⟨σ,H0,Hn,args',res,g1,g2,g3,g4⟩:=hk;simp only[Ag]at g2;obtain⟨k1,k2⟩:=g1 st.h fun _ _=>rfl;refine⟨.gen σ 0,?_⟩;show(Ei σ&&DF st.h d 0&&Dm σ d 0)=true∧_;refine⟨by rw[g2.1.1,g2.1.2];rfl,?_⟩;rw[k1,k2];refine F0.imp (show F0 cx.P (fun l=>cx.yp l σ) (.v (.func (.func f) ⟨[]⟩ ⟨[]⟩)) args' (Aj H0 Ab) (fun r h'=>r=res∧h'=Aj Hn Ab)from g3) ?_
    rintro r h' ⟨e1,e2⟩
    rw[e1,e2];exact g4
   ·exact hk.elim
  unfold QR at hk;split at hk
  ·rename_i dd f r n l _;split at hk
   ·rename_i vs dv;have hl:=Qe dv;subst hl;split at hk
    ·rename_i sz es hr;have hf:Ct [(r,1000)] r=some 1000:=by simp[Ct]
     have e1:ren (Ct [(r,1000)]) st.h (.v (.func (.func f) ⟨[]⟩ ⟨[]⟩))=.v (.func (.func f) ⟨[]⟩ ⟨[]⟩):=rfl;have e2:(AV.msl r n::vs.map AV.v).map (ren (Ct [(r,1000)]) st.h)=.msl 1000 n::vs.map .v:=by
      rw[AP]
      congr 1
      ·simp[ren,ren1,ren0,hf]
      ·rw[BP];rfl
     have e3:Fy [(r,1000)] st.h=Aj [(1000,.arr sz es)] Ab:=by
      unfold Fy Wi;rw[hr];rfl
     split at hk
     ·obtain⟨n',FA,h1,h2⟩:=hk;refine⟨.gen [(r,1000)] 0,?_⟩;show(Ei [(r,1000)]&&DF st.h dd 0&&Dm [(r,1000)] dd 0)=true∧_;refine⟨?_,?_⟩
      ·have:Dm [(r,1000)] dd 0=true:=by
        unfold Dm
        have:(Nat.ble (Bp dd 0) r&&Nat.blt r (Bp dd 0))=false:=by
         rw[AI];simp only[U4,Ag,Db,Cj];omega
        rw[this];rfl
       rw[this];rfl
      rw[e1,e2,e3];refine⟨h1.1,fun g w vals q1 q2 q3=>(h1.2 g w vals q1 q2 q3).mono fun _ _ ⟨v,r',h',g',e1,⟨e2,e3⟩,rest⟩=>⟨v,r',h',g',e1,?_,rest⟩⟩;subst e2;subst e3;have f1:ren (E1 [(r,1000)] dd 0) (Aj [(1000,.arr sz FA)] Ab) (.msl 1000 n')=.msl r n':=rfl;have f2:D0 [(r,1000)] dd 0 st.h (Aj [(1000,.arr sz FA)] Ab)=AW st.h r (.arr sz FA):=by
       funext i
       by_cases e:i=r
       ·subst e;rw[Bd];simp[D0,hf,Aj,HO.ren]
       ·rw[B1 _ _ _ _ e];have hn:Ct [(r,1000)] i=none:=by simp[Ct,CJ (Ne.symm e)]
        have:(Nat.ble (Bp dd 0) i&&Nat.blt i (Bp dd 0))=false:=by
         rw[AI];simp only[U4,Ag,Db,Cj];omega
        simp only[D0,hn,this]
      rw[f1,f2];exact h2
     ·obtain⟨n',FA,h0,h1,h2⟩:=hk;simp only[Ag,Cj,CQ]at h0;have uH:r≠Bp dd 0:=fun e=>by have:=h0.2;rw[e]at this;simp at this
      refine⟨.gen [(r,1000)] 1,?_⟩;show(Ei [(r,1000)]&&DF st.h dd 1&&Dm [(r,1000)] dd 1)=true∧_;refine⟨?_,?_⟩
      ·have:Dm [(r,1000)] dd 1=true:=by
        unfold Dm
        have:(Nat.ble (Bp dd 0) r&&Nat.blt r (Bp dd 1))=false:=by
         rw[AI];simp only[U4,Ag,Db,Cj];unfold Bp at uH⊢;omega
        rw[this];rfl
       rw[this,h0.1.1];rfl
      rw[e1,e2,e3];refine⟨h1.1,fun g w vals q1 q2 q3=>(h1.2 g w vals q1 q2 q3).mono fun _ _ ⟨v,r',h',g',e1,⟨e2,e3⟩,rest⟩=>⟨v,r',h',g',e1,?_,rest⟩⟩;subst e2;subst e3;have f1:ren (E1 [(r,1000)] dd 1) (Aj [(1000,.dead),(2000,.arr sz FA)] Ab) (.msl 2000 n')=.msl (Bp dd 0) n':=rfl;have f2:D0 [(r,1000)] dd 1 st.h (Aj [(1000,.dead),(2000,.arr sz FA)] Ab)=AW (AW st.h r .dead) (Bp dd 0) (.arr sz FA):=by
       funext i
       by_cases e:i=Bp dd 0
       ·subst e;rw[Bd];have hn:Ct [(r,1000)] (Bp dd 0)=none:=by simp[Ct,CJ uH]
        have hb:(Nat.ble (Bp dd 0) (Bp dd 0)&&Nat.blt (Bp dd 0) (Bp dd 1))=true:=by
         unfold Bp;simp only[Ag,Db,Cj];omega
        simp only[D0,hn,hb,Ga];rfl
       ·rw[B1 _ _ _ _ e]
        by_cases e4:i=r
        ·subst e4;rw[Bd];simp[D0,hf,Aj,HO.ren]
        ·rw[B1 _ _ _ _ e4];have hn:Ct [(r,1000)] i=none:=by simp[Ct,CJ (Ne.symm e4)]
         have:(Nat.ble (Bp dd 0) i&&Nat.blt i (Bp dd 1))=false:=by
          rw[AI];simp only[U4,Ag,Db,Cj];unfold Bp at e⊢;omega
         simp only[D0,hn,this]
      rw[f1,f2];exact h2
    ·exact hk.elim
   ·exact hk.elim
  ·exact hk.elim
theorem dS{cx:Cx}{dr:Bool}{d:Option Nat}{f:Operand}{args:Array Operand}{GJ:Array TypeId}{dst:Option Nat}{ty:Nat}{pos:String}{after:Array Edge}{gd:Option (Nat×Bool)}{K:HK}{next:Act→World→Prop}{Q:Exit→Act→World→Prop}
  (hP:cx.P=P) (hY:∀l σ h g w,Ei σ=true→DJ w0 g0 h0 h g w→Le h0 g0 w0 h g w→cx.yp l σ (Dx σ g) w) {ro:Option Nat} (hS:SR N ds w0 g0 h0 st g a w) (hk:Gb cx dr d st (ev st.t f) (args.toList.map (ev st.t)) K)
  (hn:Yk w0 g0 h0 st.h g w K fun x w'=>next (a.put dst x) w'):Oper.wpIn (Jw ro) 0 P ⟨dst,.call ⟨.value f,args,GJ⟩,ty,pos,after,gd⟩ a w next Q:=by
 subst hP;have hk:Gb cx false d st (ev st.t f) (args.toList.map (ev st.t)) K:=by
  cases dr with
  |true=>exact bo hk
  |false=>exact hk
 have I9:∀(i:Nat) (av:AV) (x:Value),((args.toList.map (ev st.t)).map (str st.h))[i]?=some av→(args.map a.eval)[i]?=some x→BI g w Fp av x:=by
  intro i av x h1 h2;rw[AG,AG]at h1;rw[NR]at h2;cases ho:args[i]? with
  |none=>rw[ho]at h2;simp at h2
  |some y =>
   rw[ho]at h2;have hy:args.toList[i]?=some y:=by simpa using ho
   rw[hy]at h1;simp only[Fx,Bo]at h1 h2;subst h1;subst h2;exact BI.str hS.inv.objs (hS.eval y)
 have CB:(args.map a.eval).size=((args.toList.map (ev st.t)).map (str st.h)).length:=by simp
 have hF:=BI.str hS.inv.objs (hS.eval f)
 -- a call of yield
 have yl:∀(l:Nat) (R:Ending→World→Prop),a.eval f=.func (.yield l) #[] #[]→YieldAt Fence.wide 0 cx.P l (args.map a.eval) w R→(∀e w',R e w'→∃v,e=.returned v∧next (a.put dst v) w') →
   Oper.wpIn (Jw ro) 0 cx.P ⟨dst,.call ⟨.value f,args,GJ⟩,ty,pos,after,gd⟩ a w next Q:=by
  rintro l R hx ⟨fn,tm,GA,bd,h1,h2⟩ hR
  refine⟨fun _ _=>trivial,?_⟩;have e:(⟨dst,.call ⟨.value f,args,GJ⟩,ty,pos,after,gd⟩:Oper).semAt (Jw ro).round a.eval=execOp a.eval ⟨dst,.call ⟨.value f,args,GJ⟩,ty,pos,after,gd⟩:=Oper.semAt_eq ro a.eval _ (fun c e=>by cases e);have CN:(execOp a.eval ⟨dst,.call ⟨.value f,args,GJ⟩,ty,pos,after,gd⟩).run cx.P w=.ok (.round l fn tm GA bd) w:=by
   simp only[execOp,resolve,hx,Deferred.ofValue,Sem.run_bind,Sem.run_pure,Result.andThen_ok,invoke];simpa using h1
  rw[e,CN];refine(show(_→_)∧RoundIn (Jw ro) 0 cx.P l fn tm GA bd w _ from⟨fun e=>by(cases e),RoundIn.mono h2 fun e w' h=>?_⟩);obtain⟨v,rfl,hn⟩:=hR e w' h;exact hn
 -- the call itself
 have go:∀(Q' : AV→(Nat→HO)→Prop),(∀r h',Q' r h'→h'=Ab∧K r st.h)→F0 cx.P (fun _ _ _=>True) (str st.h (ev st.t f)) ((args.toList.map (ev st.t)).map (str st.h)) Ab Q' →
   Oper.wpIn (Jw ro) 0 cx.P ⟨dst,.call ⟨.value f,args,GJ⟩,ty,pos,after,gd⟩ a w next Q:=by
  intro Q' hQ hc
  have fin:∀{fn:Nat} {l:List AV} {vals:Array Value},Be cx.P fn l Ab Q'→vals.size=l.length→(∀(i:Nat) (av:AV) (x:Value),l[i]?=some av→vals[i]?=some x→BI g w Fp av x) →
    (execOp a.eval ⟨dst,.call ⟨.value f,args,GJ⟩,ty,pos,after,gd⟩).run cx.P w=.ok (.enter fn vals) w→Oper.wpIn (Jw ro) 0 cx.P ⟨dst,.call ⟨.value f,args,GJ⟩,ty,pos,after,gd⟩ a w next Q:=by
   intro fn l vals hc hs hv CN;refine MB (fun c e=>by cases e) ?_;unfold Oper.wp;rw[CN];exact bp hS.inv hc hs hv (fun v r h' g' w' hq _ hI Hi hr=>hn r _ g' w' v (hQ r h' hq).2 hI Hi (hr.up _)) (fun r h' hq=>(hQ r h' hq).1)
  unfold F0 at hc;split at hc
  ·rename_i fn e;rw[e]at hF;have hx:=hF.v_eq;refine fin hc CB I9 ?_;have Lv : a.eval f=.func (.func fn) #[] #[]:=hx;simp only[execOp,resolve,Lv,Deferred.ofValue,Sem.run_bind,Sem.run_pure,Result.andThen_ok,invoke];rw[Gy hc.1];simp
  ·rename_i fn caps e;rw[e]at hF;generalize hx:a.eval f=fv at hF;cases hF with
   |clo _ _ _ vs EH Ox =>
    refine fin hc (vals:=args.map a.eval++vs) (by simp[EH]) (fun i av x h1 h2=>?_) ?_
    ·rw[LC]at h1;rw[HM]at h2;have hl:((args.toList.map (ev st.t)).map (str st.h)).length=(args.map a.eval).size:=CB.symm;rw[hl]at h1;split at h1
     ·rename_i hi;rw[Az hi]at h2;exact I9 i av x h1 h2
     ·rename_i hi;rw[Al hi]at h2;exact Ox _ av x h1 h2
    ·simp only[execOp,resolve,hx,Deferred.ofValue,Sem.run_bind,Sem.run_pure,Result.andThen_ok,invoke];rw[Gy hc.1];simp
  ·rename_i l e;rw[e]at hF;have hU:AR Ab=Fp:=by funext i;unfold AR Fp Ab;simp
   refine yl l _ hF.v_eq (RO (C:=YieldAt Fence.wide 0 cx.P l (args.map a.eval) w) (R:=fun e w'=>∃v,e=.returned v∧next (a.put dst v) w') YieldAt.imp hS.inv (fun jG=>hc g w _ CB (fun i av x h1 h2=>by rw[hU];exact I9 i av x h1 h2) jG trivial)
    (fun v r h' g' w' hq _ hI Hi hr=>⟨v,rfl,hn r _ g' w' v (hQ r h' hq).2 hI Hi (hr.up _)⟩) (fun r h' hq=>(hQ r h' hq).1)) fun _ _ h=>h
  ·exact hc.elim
 have pure:(∃res,Pi cx.P (str st.h (ev st.t f)) ((args.toList.map (ev st.t)).map (str st.h)) res∧K res st.h)→Oper.wpIn (Jw ro) 0 cx.P ⟨dst,.call ⟨.value f,args,GJ⟩,ty,pos,after,gd⟩ a w next Q:=by
  rintro⟨res,h1,h2⟩
  refine go (fun r h'=>r=res∧h'=Ab) (fun r h' hq=>⟨hq.2,by rw[hq.1];exact h2⟩) ?_;unfold Pi at h1;unfold F0;split at h1
  ·rename_i fn e;rw[e];exact h1
  ·rename_i fn caps e;rw[e];exact h1
  ·exact h1.elim
 unfold Gb at hk
 ·obtain⟨m,hm⟩:=hk;cases m with
  |pure=>exact pure hm
  |rel=>exact go _ (fun r h' hq=>hq) hm
  |gen σ nn =>
   simp only at hm;cases d with
   |none=>exact hm.elim
   |some d =>
    simp only at hm;obtain⟨Gw,hc⟩:=hm;have hσ:Ei σ=true:=by simp only[Ag]at Gw;exact Gw.1.1
    obtain⟨hR,_⟩:=VW hS.inv hσ;have eZ:=(hS.eval f).ren hR;have Ss:∀(i:Nat) (av:AV) (x:Value),((args.toList.map (ev st.t)).map (ren (Ct σ) st.h))[i]?=some av→(args.map a.eval)[i]?=some x→BI (Dx σ g) w (AR (Fy σ st.h)) av x:=by
     intro i av x h1 h2;rw[AG,AG]at h1;rw[NR]at h2;cases ho:args[i]? with
     |none=>rw[ho]at h2;simp at h2
     |some y =>
      rw[ho]at h2;have hy:args.toList[i]?=some y:=by simpa using ho
      rw[hy]at h1;simp only[Fx,Bo]at h1 h2;subst h1;subst h2;exact(hS.eval y).ren hR
    have Ll:(args.map a.eval).size=((args.toList.map (ev st.t)).map (ren (Ct σ) st.h)).length:=by simp
    have fin:∀{fn:Nat} {l:List AV} {vals:Array Value},Be cx.P fn l (Fy σ st.h) (fun r h'=>K (ren (E1 σ d nn) h' r) (D0 σ d nn st.h h'))→vals.size=l.length →
      (∀(i:Nat) (av:AV) (x:Value),l[i]?=some av→vals[i]?=some x→BI (Dx σ g) w (AR (Fy σ st.h)) av x) →
      (execOp a.eval ⟨dst,.call ⟨.value f,args,GJ⟩,ty,pos,after,gd⟩).run cx.P w=.ok (.enter fn vals) w→Oper.wpIn (Jw ro) 0 cx.P ⟨dst,.call ⟨.value f,args,GJ⟩,ty,pos,after,gd⟩ a w next Q:=by
     intro fn l vals hc hs hv CN;refine MB (fun c e=>by cases e) ?_;unfold Oper.wp;rw[CN];exact dT hS.inv Gw hc hs hv (fun v r h' g' w' hq hI Hi hr=>hn _ _ g' w' v hq hI Hi hr)
    unfold F0 at hc;split at hc
    ·rename_i fn e;rw[e]at eZ;have hx:a.eval f=.func (.func fn) #[] #[]:=eZ.v_eq;refine fin hc Ll Ss ?_;simp only[execOp,resolve,hx,Deferred.ofValue,Sem.run_bind,Sem.run_pure,Result.andThen_ok,invoke];rw[Gy hc.1];simp
    ·rename_i fn caps e;rw[e]at eZ;generalize hx:a.eval f=fv at eZ;cases eZ with
     |clo _ _ _ vs EH Ox =>
      refine fin hc (vals:=args.map a.eval++vs) (by simp[EH]) (fun i av x h1 h2=>?_) ?_
      ·rw[LC]at h1;rw[HM]at h2;have hl:((args.toList.map (ev st.t)).map (ren (Ct σ) st.h)).length=(args.map a.eval).size:=Ll.symm;rw[hl]at h1;split at h1
       ·rename_i hi;rw[Az hi]at h2;exact Ss i av x h1 h2
       ·rename_i hi;rw[Al hi]at h2;exact Ox _ av x h1 h2
      ·simp only[execOp,resolve,hx,Deferred.ofValue,Sem.run_bind,Sem.run_pure,Result.andThen_ok,invoke];rw[Gy hc.1];simp
    ·rename_i l e;rw[e]at eZ
     exact yl l _ eZ.v_eq (Ml (C:=YieldAt Fence.wide 0 cx.P l (args.map a.eval) w) (R:=fun e w'=>∃v,e=.returned v∧next (a.put dst v) w') YieldAt.imp hS.inv Gw (fun jG=>hc (Dx σ g) w _ Ll Ss jG (hY l σ _ _ _ hσ hS.inv hS.le))
      (fun v r h' g' w' hq hI Hi hr=>⟨v,rfl,hn _ _ g' w' v hq hI Hi hr⟩)) fun _ _ h=>h
    ·exact hc.elim
  |geny σ nn =>
   simp only at hm;cases d with
   |none=>exact hm.elim
   |some d =>
    simp only at hm;obtain⟨Gw,hc⟩:=hm;have hσ:Ei σ=true:=by simp only[Ag]at Gw;exact Gw.1.1
    obtain⟨hR,_⟩:=VW hS.inv hσ;have eZ:=(hS.eval f).ren hR;have Ss:∀(i:Nat) (av:AV) (x:Value),((args.toList.map (ev st.t)).map (ren (Ct σ) st.h))[i]?=some av→(args.map a.eval)[i]?=some x→BI (Dx σ g) w (AR (Fy σ st.h)) av x:=by
     intro i av x h1 h2;rw[AG,AG]at h1;rw[NR]at h2;cases ho:args[i]? with
     |none=>rw[ho]at h2;simp at h2
     |some y =>
      rw[ho]at h2;have hy:args.toList[i]?=some y:=by simpa using ho
      rw[hy]at h1;simp only[Fx,Bo]at h1 h2;subst h1;subst h2;exact(hS.eval y).ren hR
    have Ll:(args.map a.eval).size=((args.toList.map (ev st.t)).map (ren (Ct σ) st.h)).length:=by simp
    split at hc
    ·rename_i fn caps e;rw[e]at eZ;generalize hx:a.eval f=fv at eZ;cases eZ with
     |clo _ _ _ vs EH Ox =>
      have CN:(execOp a.eval ⟨dst,.call ⟨.value f,args,GJ⟩,ty,pos,after,gd⟩).run cx.P w=.ok (.enter fn (args.map a.eval++vs)) w:=by
       simp only[execOp,resolve,hx,Deferred.ofValue,Sem.run_bind,Sem.run_pure,Result.andThen_ok,invoke];rw[Gy hc.1];simp
      refine MB (fun c e=>by cases e) ?_;unfold Oper.wp;rw[CN];refine Ml (C:=Calls cx.P fn (args.map a.eval++vs) w) (fun h k=>h.mono k) hS.inv Gw (fun jG=>hc.2 (Dx σ g) w _ (by simp[EH]) (fun i av x h1 h2=>?_) jG (fun l=>hY l σ _ _ _ hσ hS.inv hS.le)) (fun v r h' g' w' hq hI Hi hr=>hn _ _ g' w' v hq hI Hi hr);rw[LC]at h1;rw[HM]at h2;have hl:((args.toList.map (ev st.t)).map (ren (Ct σ) st.h)).length=(args.map a.eval).size:=Ll.symm;rw[hl]at h1;split at h1
      ·rename_i hi;rw[Az hi]at h2;exact Ss i av x h1 h2
      ·rename_i hi;rw[Al hi]at h2;exact Ox _ av x h1 h2
    ·exact hc.elim
end
end Go.Eng
