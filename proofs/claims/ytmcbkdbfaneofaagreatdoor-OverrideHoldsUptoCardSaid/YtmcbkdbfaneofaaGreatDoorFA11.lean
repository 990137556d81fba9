/- Lemmas for the claims of this seat, without a condition: part 11 (EngZ1, EngZ2, EngZA). -/
import Derived.Test.YtmcbkdbfaneofaaGreatDoorFA10
namespace Go.Eng
theorem Wi:∀{σ:IU},GI σ=true→∀i j,Cv σ i=some j↔HH σ j=some i
 | [],_,i,j=>by simp[Cv,HH]
 |(a,b)::r,h,i,j=>by
  simp only[GI,Ag]at h;obtain⟨h1,h2⟩:=h;have ih:=Wi h2;have jr:Cv r a=none∧HH r b=none:=by
   split at h1
   ·rename_i e1 e2;exact⟨e1,e2⟩
   ·cases h1
  unfold Cv HH
  by_cases e1:a=i<;>by_cases e2:b=j
  ·subst e1;subst e2;simp
  ·subst e1;simp only[CY,JK,CM e2,Er];constructor
   ·intro h;cases h;exact absurd rfl e2
   ·intro h;rw[(ih a j).2 h]at jr;cases jr.1
  ·subst e2;simp only[CY,JK,CM e1,Er];constructor
   ·intro h;rw[(ih i b).1 h]at jr;cases jr.2
   ·intro h;cases h;exact absurd rfl e1
  ·simp only[CM e1,CM e2,Er];exact ih i j
theorem il:∀{σ:IU},Eo σ=true→GI σ=true
 | [],_=>rfl
 |(a,b)::r,h=>by
  simp only[Eo,Ag]at h;simp only[GI,Ag];exact⟨h.1.1.1,il h.2⟩
theorem Wv{σ:IU}(h:Eo σ=true):∀i j,Cv σ i=some j↔HH σ j=some i:=Wi (il h)
theorem Vn:∀{σ:IU},Eo σ=true→∀{i j},Cv σ i=some j→1000≤j∧j<2000
 | [],_,i,j,h=>by simp[Cv]at h
 |(a,b)::r,h,i,j,hf=>by
  simp only[Eo,Ag,Dd,Cm]at h;unfold Cv at hf
  by_cases e1:a=i
  ·subst e1;simp only[CY,JK]at hf;cases hf;exact⟨h.1.1.2,h.1.2⟩
  ·simp only[CM e1,Er]at hf;exact Vn h.2 hf
theorem Pd(f:Nat→Option Nat)(h:Nat→HO):∀(σ:IU) (j:Nat),Aj (Wu f h σ) Aa j=match HH σ j with | some i=>(h i).ren f h | none=>.free
 | [],j=>rfl
 |(a,b)::r,j=>by
  unfold Wu Aj HH
  by_cases e:b=j
  ·subst e;simp
  ·simp only[CM e,CM (Ne.symm e),Er];exact Pd f h r j
structure Kp(f:Nat→Option Nat)(h h2:Nat→HO)(g g2:Gh)(w:World):Prop where
 ids:∀r r',f r=some r'→AR h r→g2.tk r'=g.tk r∧g2.ln r'=g.ln r∧g2.ρ r'=g.ρ r∧g2.own r'=g.own r∧AR h2 r'
 S:∀b o,g2.S b o↔g.S b o
 objs:∀r,Ej g w (AR h) r (h r)
section
variable {f:Nat→Option Nat}{h h2:Nat→HO}{g g2:Gh}{w:World}
theorem Kp.keeps(hR:Kp f h h2 g g2 w):E2 g w g2 w:=fun b o hs=>⟨(hR.S b o).2 hs,rfl,fun _ _ e=>e⟩
theorem Kp.noU(hR:Kp f h h2 g g2 w){av:AV}{x:Value}(r:BJ g w Fm av x):BJ g2 w (AR h2) av x:=r.mono hR.keeps (fun _ h=>h.elim) (fun _ h=>h.elim)
theorem BJ.ren0(hR:Kp f h h2 g g2 w){av:AV}{x:Value}(r:BJ g w (AR h) av x):BJ g2 w (AR h2) (ren0 f h av) x:=by
 have down:BJ g2 w (AR h2) (Eng.str0 h av) x:=hR.noU (BJ.str0 hR.objs r);cases av with
 |v y=>exact down
 |slice tk es =>
  cases tk with
  |none=>exact down
  |full sz=>exact down
  |id i sz =>
   simp only[Eng.ren0];split
   ·rename_i i' e;cases r with
    |tok _ _ _ _ _ hs hl hu ht hn hx =>
     obtain⟨k1,k2,k3,k4,k5⟩:=hR.ids i i' e hu;exact .tok _ i' sz es x (hR.noU (BJ.slice_none hs)) hl k5 (k1.trans ht) (by omega) (fun q=>by rw[k3];exact hx (by omega))
   ·exact hR.noU r.slice_none
  |ver i sz v =>
   simp only[Eng.ren0];split
   ·rename_i i' e;cases r with
    |ver _ _ _ _ _ _ hs hl hu ht hn hx =>
     obtain⟨k1,k2,k3,k4,k5⟩:=hR.ids i i' e hu;exact .ver _ i' sz v es x (hR.noU (BJ.slice_none hs)) hl k5 (k1.trans ht) (by omega) (fun q=>by rw[k3];exact hx (by omega))
   ·exact hR.noU r.slice_none
 |msl i n =>
  simp only[Eng.ren0];split
  ·rename_i i' e;cases r with
   |msl _ _ _ a cap hu ht hn ha hx =>
    obtain⟨k1,k2,k3,k4,k5⟩:=hR.ids i i' e hu;exact .msl _ i' n a cap k5 (k1.trans ht) (by omega) ha (fun q=>by rw[k3];exact hx (by omega))
  ·exact .junk _ _
 |agg cs=>exact down
 |tup cs=>exact down
 |cptr cs=>exact down
 |ref i off =>
  simp only[Eng.ren0];split
  ·rename_i i' e;cases r with
   |ref _ _ _ b hu ht hx =>
    obtain⟨k1,k2,k3,k4,k5⟩:=hR.ids i i' e hu;exact .ref _ i' off b k5 (k1.trans ht) (k3.trans hx)
  ·exact down
 |eref i n sz k off =>
  simp only[Eng.ren0];split
  ·rename_i i' e;cases r with
   |eref _ _ _ _ _ _ b cap hu ht hn hx =>
    obtain⟨k1,k2,k3,k4,k5⟩:=hR.ids i i' e hu;exact .eref _ i' n sz k off b cap k5 (k1.trans ht) ⟨hn.1,by omega⟩ (fun q=>by rw[k3];exact hx (by omega))
  ·exact .junk _ _
 |mref i =>
  simp only[Eng.ren0];split
  ·rename_i i' e;cases r with
   |mref _ _ b hu ht hx =>
    obtain⟨k1,k2,k3,k4,k5⟩:=hR.ids i i' e hu;exact .mref _ i' b k5 (k1.trans ht) (k3.trans hx)
  ·exact down
 |cmap sh B4=>exact down
 |clo i cs=>exact down
 |junk=>exact down
theorem BJ.ren1(hR:Kp f h h2 g g2 w){av:AV}{x:Value}(r:BJ g w (AR h) av x):BJ g2 w (AR h2) (ren1 f h av) x:=by
 cases av with
 |agg cs =>
  cases r with
  |agg _ _ vs hs h1 hr =>
   exact .agg _ _ vs (by simp[hs]) h1 fun i av x q1 q2=>by
    rw[AI]at q1;obtain⟨a,q3,rfl⟩:=AZ.1 q1;exact(hr i a x q3 q2).ren0 hR
 |clo i cs =>
  cases r with
  |clo _ _ _ vs hs hr =>
   exact .clo _ _ _ vs (by simp[hs]) fun i av x q1 q2=>by
    rw[AI]at q1;obtain⟨a,q3,rfl⟩:=AZ.1 q1;exact(hr i a x q3 q2).ren0 hR
 |_=>exact r.ren0 hR
theorem BJ.ren(hR:Kp f h h2 g g2 w){av:AV}{x:Value}(r:BJ g w (AR h) av x):BJ g2 w (AR h2) (ren f h av) x:=by
 cases av with
 |tup cs =>
  cases r with
  |tup _ _ vs hs hr =>
   exact .tup _ _ vs (by simp[hs]) fun i av x q1 q2=>by
    rw[AI]at q1;obtain⟨a,q3,rfl⟩:=AZ.1 q1;exact(hr i a x q3 q2).ren1 hR
 |_=>exact r.ren1 hR
theorem Ml(f:Nat→Option Nat)(h:Nat→HO)(o:HO):(o.ren f h).live↔o.live:=by cases o<;>exact Qs
theorem Mm(f:Nat→Option Nat)(h:Nat→HO)(o:HO):o.ren f h≠.free↔o≠.free:=by cases o<;>simp[HO.ren]
theorem Ej.ren(hR:Kp f h h2 g g2 w){i j:Nat}(QL:f i=some j)(hu:AR h i){o:HO}(r:Ej g w (AR h) i o):Ej g2 w (AR h2) j (o.ren f h):=by
 obtain⟨k1,k2,k3,k4,k5⟩:=hR.ids i j QL hu;have yI:∀{cs:List AV} {vs:List Value},CH g w Fm cs vs→CH g2 w Fm cs vs:=fun hr=>hr.mono hR.keeps (fun _ h=>h) (fun _ h=>h.elim);have te:∀{av:AV} {x:Value},BJ g w Fm av x→BJ g2 w Fm av x:=fun hr=>hr.mono hR.keeps (fun _ h=>h) (fun _ h=>h.elim);cases o with
 |free=>trivial
 |dead=>trivial
 |cells cs =>
  obtain⟨t,b,E,vs,a1,a2,a3,a4,a5⟩:=r;refine⟨k1.trans t,b,E,vs,k4.trans a1,k3.trans a2,a3,⟨by simp[a4.1],a4.2.1,fun i av x q1 q2=>?_⟩,fun o ho=>a5 o ((hR.S b o).1 ho)⟩;rw[AI]at q1;obtain⟨a,q3,rfl⟩:=AZ.1 q1;exact(a4.2.2 i a x q3 q2).ren1 hR
 |ro cs =>
  obtain⟨t,b,a1,a2⟩:=r;exact⟨k1.trans t,b,k3.trans a1,te a2⟩
 |tok sz n =>
  obtain⟨t,l,a,cap,a1,a2⟩:=r;refine⟨k1.trans t,k2.trans l,a,cap,k3.trans a1,?_⟩;rcases a2 with ⟨b1,b2⟩ | ⟨b1,b,E,vs,off,b2,b3,b4,b5,b6⟩
  ·exact .inl ⟨b1,k4.trans b2⟩
  ·exact .inr ⟨b1,b,E,vs,off,b2,k4.trans b3,b4,b5,fun o ho=>b6 o ((hR.S b o).1 ho)⟩
 |var sz v n =>
  obtain⟨t,l,a,cap,a1,a2⟩:=r;refine⟨k1.trans t,k2.trans l,a,cap,k3.trans a1,?_⟩;rcases a2 with ⟨b1,b2⟩ | ⟨b1,b,E,vs,off,b2,b3,b4,b5,b6⟩
  ·exact .inl ⟨b1,k4.trans b2⟩
  ·exact .inr ⟨b1,b,E,vs,off,b2,k4.trans b3,b4,b5,fun o ho=>b6 o ((hR.S b o).1 ho)⟩
 |vox v=>exact⟨k1.trans r.1,k2.trans r.2⟩
 |hol sz es i c av =>
  obtain⟨t,l,al,b,cap,E,vs,b1,b2,b3,b4,b5,b6,b7,b8,x,b9,Yw⟩:=r;exact⟨k1.trans t,k2.trans l,al,b,cap,E,vs,k3.trans b1,k4.trans b2,b3,b4,b5,yI b6,fun o ho=>b7 o ((hR.S b o).1 ho),b8,x,b9,Yw.ren1 hR⟩
 |raw b ob =>
  obtain⟨t,a1,a2,a3,a4⟩:=r;exact⟨k1.trans t,k4.trans a1,a2,a3,fun o ho=>a4 o ((hR.S b o).1 ho)⟩
 |arr sz es =>
  obtain⟨t,l,al,a2⟩:=r;refine⟨k1.trans t,k2.trans l,al,?_⟩;rcases a2 with ⟨b1,b2,b3⟩ | ⟨b,cap,E,vs,b1,b2,b3,b4,b5,b6,b7⟩
  ·exact .inl ⟨b1,k3.trans b2,k4.trans b3⟩
  ·exact .inr ⟨b,cap,E,vs,k3.trans b1,k4.trans b2,b3,b4,b5,yI b6,fun o ho=>b7 o ((hR.S b o).1 ho)⟩
 |map sh B4 =>
  obtain⟨t,b,es,ck,a1,a2,a3,a4,a5,a6⟩:=r;exact⟨k1.trans t,b,es,ck,k4.trans a1,k3.trans a2,a3,a4,fun i kv e q1 q2=>te (a5 i kv e q1 q2),fun o ho=>a6 o ((hR.S b o).1 ho)⟩
 |mapU sh B4 =>
  obtain⟨t,b,es,ck,a1,a2,a3,a4,a5,a6⟩:=r;refine⟨k1.trans t,b,es,ck,k4.trans a1,k3.trans a2,a3,Vc _ a4,fun i kv e q1 q2=>?_,fun o ho=>a6 o ((hR.S b o).1 ho)⟩;rw[AI]at q1;obtain⟨p,q3,rfl⟩:=AZ.1 q1;exact(a5 i p e q3 q2).ren1 hR
 |rom sh B4 =>
  obtain⟨t,b,a1,a2⟩:=r;exact⟨k1.trans t,b,k3.trans a1,te a2⟩
 |iter all rem FC =>
  obtain⟨t,b,mb,JV,seen,st,es,ck,a1,a2,a3,a4,a5,a6,a7,a8,a9,WR,ab,a12,mP⟩:=r;exact⟨k1.trans t,b,mb,JV,seen,st,es,ck,k4.trans a1,k3.trans a2,a3,(hR.S _ _).2 a4,a5,a6,a7,a8,fun i kv e q1 q2=>te (a9 i kv e q1 q2),WR,ab,a12,fun o ho=>mP o ((hR.S b o).1 ho)⟩
end
theorem OW{h:Nat→HO}{d:Nat}:∀{n:Nat},DH h d n=true→∀k,k<n→h (Br d k)=.free
 |0,_,k,hk=>by omega
 |n+1,hf,k,hk=>by
  simp only[DH,Ag]at hf
  by_cases e:k=n
  ·subst e
   have:=hf.1
   split at this
   ·rename_i e2;exact e2
   ·cases this
  ·exact OW hf.2 k (by omega)
theorem Nk{d nn:Nat}:∀{σ:IU},Do σ d nn=true→∀{i j},Cv σ i=some j→¬(Br d 0≤i∧i<Br d nn)
 | [],_,i,j,h=>by simp[Cv]at h
 |(a,b)::r,hs,i,j,hf=>by
  simp only[Do,Ag]at hs;unfold Cv at hf
  by_cases e1:a=i
  ·subst e1;have h1:=hs.1;simp only[CU,Bool.and_eq_false_iff]at h1;intro hc;rcases h1 with h1 | h1
   ·rw[Nat.ble_eq_true_of_le hc.1]at h1;cases h1
   ·have h2:Nat.blt a (Br d nn)=true:=by rw[Cm];exact hc.2
    rw[h2]at h1;cases h1
  ·simp only[CM e1,Er]at hf;exact Nk hs.2 hf
section
variable {P:Program}{w0:World}{g0:Gh}{h0 h:Nat→HO}{g:Gh}{w:World}
def Dy(σ:IU)(g:Gh):Gh :=
 ⟨fun j=>match HH σ j with | some i=>g.ρ i | none=>.nilIface,fun j=>match HH σ j with | some i=>g.ln i | none=>0,fun j=>match HH σ j with | some i=>g.tk i | none=>false,
  fun j=>match HH σ j with | some i=>g.own i | none=>none,g.S⟩
def src(σ:IU)(d nn:Nat)(i:Nat):Option Nat :=
 match Cv σ i with
 |some j=>some j
 |none=>match Nat.ble (Br d 0) i&&Nat.blt i (Br d nn)with |true=>some (2000+(i-Br d 0)) |false=>none
def GH(σ:IU)(d nn:Nat)(g g' : Gh):Gh :=
 ⟨fun i=>match src σ d nn i with | some j=>g'.ρ j | none=>g.ρ i,fun i=>match src σ d nn i with | some j=>g'.ln j | none=>g.ln i,fun i=>match src σ d nn i with | some j=>g'.tk j | none=>g.tk i,
  fun i=>match src σ d nn i with | some j=>g'.own j | none=>g.own i,g'.S⟩
theorem bP(σ:IU)(d nn:Nat)(h h' : Nat→HO)(i:Nat):D8 σ d nn h h' i=match src σ d nn i with | some j=>(h' j).ren (E6 σ d nn) h' | none=>h i:=by
 unfold D8 src;cases Cv σ i with
 |some j=>rfl
 |none =>
  dsimp only;cases Nat.ble (Br d 0) i&&Nat.blt i (Br d nn)<;>rfl
theorem iX{σ:IU}{d nn:Nat}(hσ:Eo σ=true)(ha:Do σ d nn=true)(i j:Nat):src σ d nn i=some j↔E6 σ d nn j=some i:=by
 have inv:=Wv hσ;unfold src E6;cases h1:Cv σ i with
 |some j' =>
  have hb:=(inv i j').1 h1;dsimp only;constructor
  ·intro h;cases h;rw[hb]
  ·intro h;cases h2:HH σ j with
   |some i'=>rw[h2]at h;cases h;rw[(inv i j).2 h2]at h1;exact h1.symm
   |none =>
    rw[h2]at h;dsimp only at h;split at h
    ·rename_i hc;have h:=BP h;subst h;simp only[Ag,Dd,Cm]at hc;exact absurd ⟨by unfold Br;omega,by unfold Br;omega⟩ (Nk ha h1)
    ·cases h
 |none =>
  dsimp only;cases h2:HH σ j with
  |some i' =>
   dsimp only;have hf:=(inv i' j).2 h2;have hr:=Vn hσ hf;constructor
   ·intro h;split at h
    ·cases h;omega
    ·cases h
   ·intro h;cases h;rw[hf]at h1;cases h1
  |none =>
   dsimp only;constructor
   ·intro h;split at h
    ·rename_i hc;cases h;simp only[Ag,Dd,Cm]at hc;have e1:(Nat.ble 2000 (2000+(i-Br d 0))&&Nat.blt (2000+(i-Br d 0)) (2000+nn))=true:=by
      simp only[Ag,Dd,Cm];unfold Br at hc⊢;omega
     rw[e1]
     have:Br d (2000+(i-Br d 0)-2000)=i:=by unfold Br at hc⊢;omega
     rw[this]
    ·cases h
   ·intro h;split at h
    ·rename_i hc;have h:=BP h;subst h;simp only[Ag,Dd,Cm]at hc;have e1:(Nat.ble (Br d 0) (Br d (j-2000))&&Nat.blt (Br d (j-2000)) (Br d nn))=true:=by
      simp only[Ag,Dd,Cm];unfold Br;omega
     rw[e1]
     have:2000+(Br d (j-2000)-Br d 0)=j:=by unfold Br;omega
     rw[this]
    ·cases h
theorem V7(hI:DM w0 g0 h0 h g w){σ:IU}(hσ:Eo σ=true):Kp (Cv σ) h (FB σ h) g (Dy σ g) w∧DM w (Dy σ g) (FB σ h) (FB σ h) (Dy σ g) w:=by
 have inv:=Wv hσ;have Ff:∀j,FB σ h j=match HH σ j with | some i=>(h i).ren (Cv σ) h | none=>.free:=Pd _ _ σ
 have hR:Kp (Cv σ) h (FB σ h) g (Dy σ g) w:=by
  refine⟨fun r r' hr hu=>?_,fun b o=>Qs,hI.objs⟩;have hb:=(inv r r').1 hr;refine⟨by simp[Dy,hb],by simp[Dy,hb],by simp[Dy,hb],by simp[Dy,hb],?_⟩;unfold AR;rw[Ff,hb];exact(Mm _ _ _).2 hu
 have L9:∀j,(FB σ h j).live→∃i,HH σ j=some i∧(h i).live:=fun j hl=>by
  rw[Ff]at hl;cases e:HH σ j with
  |none=>rw[e]at hl;exact hl.elim
  |some i=>rw[e]at hl;exact⟨i,rfl,(Ml _ _ _).1 hl⟩
 have Wf:∀j i,HH σ j=some i→(Dy σ g).own j=g.own i:=fun j i e=>by simp[Dy,e]
 refine⟨hR,rfl,rfl,rfl,Ak _,fun _ _ _=>rfl,hI.slt,fun j=>?_,fun j j' b hl PK e e'=>?_,fun j b hl e=>?_,fun _ _ h=>.inl h,hI.glob⟩
 ·rw[Ff];cases e:HH σ j with
  |none=>trivial
  |some i =>
   by_cases hu:AR h i
   ·exact(hI.objs i).ren hR ((inv i j).2 e) hu
   ·have:h i=.free:=BM.1 hu
    dsimp only;rw[this];trivial
 ·obtain⟨i,e1,l1⟩:=L9 j hl;obtain⟨i',e2,l2⟩:=L9 j' PK;rw[Wf j i e1]at e;rw[Wf j' i' e2]at e';obtain rfl:=hI.inj i i' b l1 l2 e e'
  have:=(inv i j).2 e1
  rw[(inv i j').2 e2]at this;cases this;rfl
 ·obtain⟨i,e1,l1⟩:=L9 j hl;have e0:=e;rw[Wf j i e1]at e;exact⟨(hI.loc i b l1 e).1,.inr ⟨j,hl,e0⟩⟩
theorem Mx{C:(Ending→World→Prop)→Prop}(hm:∀{R R' : Ending→World→Prop},C R→(∀e w,R e w→R' e w)→C R')(hI:DM w0 g0 h0 h g w){σ:IU}{d nn:Nat}(Gz:(Eo σ&&DH h d nn&&Do σ d nn)=true){Q:AV→(Nat→HO)→Prop}
  (hc:DM w (Dy σ g) (FB σ h) (FB σ h) (Dy σ g) w→C (fun e w'=>∃v r h' g',e=Ending.returned v∧Q r h'∧BJ g' w' (AR h') r v∧DM w (Dy σ g) (FB σ h) h' g' w'∧Le (FB σ h) (Dy σ g) w h' g' w')) {R:Ending→World→Prop}
  (az:∀v r h' g2 w',Q r h'→DM w0 g0 h0 (D8 σ d nn h h') g2 w'→Le h g w (D8 σ d nn h h') g2 w'→BJ g2 w' (AR (D8 σ d nn h h')) (ren (E6 σ d nn) h' r) v→R (.returned v) w'):C R:=by
 simp only[Ag]at Gz;obtain⟨⟨hσ,hnf⟩,qD⟩:=Gz;obtain⟨hF,kl⟩:=V7 hI hσ;have inv:=Wv hσ;have kD:=iX hσ qD;refine hm (hc kl) ?_
 rintro e w' ⟨v,r,h',g',rfl,q1,q2,q3,q4⟩
 have hb:=bP σ d nn h h';have fV:∀i j,src σ d nn i=some j→(GH σ d nn g g').ρ i=g'.ρ j∧(GH σ d nn g g').ln i=g'.ln j∧(GH σ d nn g g').tk i=g'.tk j∧(GH σ d nn g g').own i=g'.own j:=fun i j e=>by simp[GH,e]
 have u7:∀i,src σ d nn i=none→(GH σ d nn g g').ρ i=g.ρ i∧(GH σ d nn g g').ln i=g.ln i∧(GH σ d nn g g').tk i=g.tk i∧(GH σ d nn g g').own i=g.own i:=fun i e=>by simp[GH,e]
 have hB:Kp (E6 σ d nn) h' (D8 σ d nn h h') g' (GH σ d nn g g') w':=by
  refine⟨fun j i hj hu=>?_,fun b o=>Qs,q3.objs⟩;have e:=(kD i j).2 hj;obtain⟨k1,k2,k3,k4⟩:=fV i j e;refine⟨k3,k2,k1,k4,?_⟩;unfold AR;rw[hb,e];exact(Mm _ _ _).2 hu
 have mc:∀j,FB σ h j=match HH σ j with | some i=>(h i).ren (Cv σ) h | none=>.free:=Pd _ _ σ
 have uV:∀j i,Cv σ i=some j→(h i).live→(FB σ h j).live:=fun j i e hl=>by
  rw[mc,(inv i j).1 e];exact(Ml _ _ _).2 hl
 have x7:∀j i,Cv σ i=some j→(Dy σ g).own j=g.own i:=fun j i e=>by simp[Dy,(inv i j).1 e]
 have Rx : ∀j,(FB σ h j).live→∃i,Cv σ i=some j∧(h i).live∧(Dy σ g).own j=g.own i:=fun j hl=>by
  rw[mc]at hl;cases e:HH σ j with
  |none=>rw[e]at hl;exact hl.elim
  |some i=>rw[e]at hl;exact⟨i,(inv i j).2 e,(Ml _ _ _).1 hl,by simp[Dy,e]⟩
 -- what the callee yH not touch
 have fT:∀b,b<w.heap.size→(∀i,(h i).live→Cv σ i≠none→g.own i≠some b)→w'.heap[b]?=w.heap[b]?:=fun b DL hn=>q3.frame b DL fun j hl e=>by
  obtain⟨i,e1,l1,o1⟩:=Rx j hl;exact hn i l1 (by rw[e1];simp) (by rw[←o1];exact e)
 have uK:∀b o,g'.S b o→b<w.heap.size→(∀i,(h i).live→Cv σ i≠none→g.own i≠some b)→g.S b o:=fun b o hs DL hn=>by
  rcases q3.sg b o hs with h1 | h1 | ⟨j,h1,h2⟩
  ·exact h1
  ·omega
  ·obtain⟨i,e1,l1,o1⟩:=Rx j h1;exact absurd (by rw[←o1];exact h2) (hn i l1 (by rw[e1];simp))
 have hk:E2 g w (GH σ d nn g g') w':=q4.keeps;have Aa:∀i,Cv σ i=none→src σ d nn i≠none→h i=.free:=fun i e1 e2=>by
  unfold src at e2;rw[e1]at e2;dsimp only at e2;split at e2
  ·rename_i hc;simp only[Ag,Dd,Cm]at hc
   have:=OW hnf (i-Br d 0) (by unfold Br at hc⊢;omega)
   rw[show Br d (i-Br d 0)=i by unfold Br at hc⊢;omega]at this;exact this
  ·exact absurd rfl e2
 have cC:∀i j,Cv σ i=some j→src σ d nn i=some j:=fun i j e=>by unfold src;rw[e]
 have yc:JY g (GH σ d nn g g') (AR h):=fun i hu=>by
  cases e:Cv σ i with
  |some j =>
   obtain⟨k1,k2,k3,k4⟩:=fV i j (cC i j e);obtain⟨f1,f2,f3,f4,f5⟩:=hF.ids i j e hu;obtain⟨m1,m2,m3,m4⟩:=q4.gh j f5;exact⟨(k3.trans m1).trans f1,by omega,fun t=>(k1.trans (m3 (f1.trans t))).trans f3,fun l=>(k1.trans (m4 (by omega))).trans f3⟩
  |none =>
   have e2:src σ d nn i=none:=BM.1 fun e2=>hu (Aa i e e2);obtain⟨k1,k2,k3,k4⟩:=u7 i e2;exact⟨k3,by omega,fun _=>k1,fun _=>k1⟩
 have K9:∀i,AR h i→AR (D8 σ d nn h h') i:=fun i hu=>by
  unfold AR;rw[hb];cases e:Cv σ i with
  |some j =>
   rw[cC i j e];exact(Mm _ _ _).2 (q4.us j (hF.ids i j e hu).2.2.2.2)
  |none =>
   have e2:src σ d nn i=none:=BM.1 fun e2=>hu (Aa i e e2);rw[e2];exact hu
 have cw:∀i,(D8 σ d nn h h' i).live→(∃j,src σ d nn i=some j∧(h' j).live∧(GH σ d nn g g').own i=g'.own j)∨(src σ d nn i=none∧(h i).live∧(GH σ d nn g g').own i=g.own i∧Cv σ i=none):=fun i hl=>by
  rw[hb]at hl;cases e:src σ d nn i with
  |some j=>rw[e]at hl;exact .inl ⟨j,rfl,(Ml _ _ _).1 hl,(fV i j e).2.2.2⟩
  |none =>
   rw[e]at hl;refine .inr ⟨rfl,hl,(u7 i e).2.2.2,?_⟩;cases e2:Cv σ i with
   |none=>rfl
   |some j=>rw[cC i j e2]at e;cases e
 have qH:∀j b,(h' j).live→g'.own j=some b→b<w'.heap.size∧(w.heap.size≤b∨∃i,Cv σ i≠none∧(h i).live∧g.own i=some b):=fun j b hl e=>by
  obtain⟨h1,h2⟩:=q3.loc j b hl e;refine⟨h1,h2.imp id ?_⟩
  rintro⟨j',l',e'⟩
  obtain⟨i,e1,l1,o1⟩:=Rx j' l';exact⟨i,by rw[e1];simp,l1,by rw[←o1];exact e'⟩
 have kF:∀i b,(h i).live→g.own i=some b→Cv σ i=none→∀i',(h i').live→Cv σ i'≠none→g.own i'≠some b:=fun i b hl e hn i' PK XG e'=>by
  obtain rfl:=hI.inj i i' b hl PK e e';exact XG hn
 refine az v r h' (GH σ d nn g g') w' q1 ⟨q3.os.trans hI.os,q3.tape.trans hI.tape,q3.output.trans hI.output,AU hI.size q3.size,fun b DL hn=>?_,q3.slt,fun i=>?_,fun i i' b hl PK e e'=>?_,fun i b hl e=>?_,fun b o hs=>?_,hI.glob.keep hk⟩ ⟨yc,K9,hk⟩ (q2.ren hB)
 ·refine(fT b (BK DL hI.size) fun i hl _ e=>?_).trans (hI.frame b DL hn);rcases(hI.loc i b hl e).2 with h1 | ⟨r',h1,h2⟩
  ·omega
  ·exact hn r' h1 h2
 ·rw[hb];cases e:src σ d nn i with
  |some j =>
   by_cases hu:AR h' j
   ·exact(q3.objs j).ren hB ((kD i j).1 e) hu
   ·have:h' j=.free:=BM.1 hu
    dsimp only;rw[this];trivial
  |none =>
   obtain⟨k1,k2,k3,k4⟩:=u7 i e;have e2:Cv σ i=none:=by
    cases e2:Cv σ i with
    |none=>rfl
    |some j=>rw[cC i j e2]at e;cases e
   refine(hI.objs i).same hk K9 yc k1 k2 k3 k4 fun b hl ho=>?_;have DL:=(hI.loc i b hl ho).1;exact⟨fT b DL (kF i b hl ho e2),fun k hs=>uK b k hs DL (kF i b hl ho e2)⟩
 ·have mixed:∀i j i',(h' j).live→g'.own j=some b→(h i').live→g.own i'=some b→Cv σ i'=none→i=i':=fun i j i' l1 o1 l2 o2 n2=>by
   rcases(qH j b l1 o1).2 with h1 | ⟨i3,n3,l3,o3⟩
   ·have:=(hI.loc i' b l2 o2).1;omega
   ·exact absurd o3 (kF i' b l2 o2 n2 i3 l3 n3)
  rcases cw i hl with ⟨j,s1,l1,o1⟩ | ⟨s1,l1,o1,n1⟩<;>rcases cw i' PK with ⟨j',s2,l2,o2⟩ | ⟨s2,l2,o2,n2⟩
  ·obtain rfl:=q3.inj j j' b l1 l2 (by rw[←o1];exact e) (by rw[←o2];exact e');have a1:=(kD i j).1 s1;rw[(kD i' j).1 s2]at a1;cases a1;rfl
  ·exact mixed i j i' l1 (by rw[←o1];exact e) l2 (by rw[←o2];exact e') n2
  ·exact(mixed i' j' i l2 (by rw[←o2];exact e') l1 (by rw[←o1];exact e) n1).symm
  ·exact hI.inj i i' b l1 l2 (by rw[←o1];exact e) (by rw[←o2];exact e')
 ·rcases cw i hl with ⟨j,s1,l1,o1⟩ | ⟨s1,l1,o1,n1⟩
  ·obtain⟨h1,h2⟩:=qH j b l1 (by rw[←o1];exact e);refine⟨h1,?_⟩;rcases h2 with h2 | ⟨i3,n3,l3,o3⟩
   ·exact .inl (AU hI.size h2)
   ·exact(hI.loc i3 b l3 o3).2
  ·obtain⟨h1,h2⟩:=hI.loc i b l1 (by rw[←o1];exact e);exact⟨BK h1 q3.size,h2⟩
 ·rcases q3.sg b o hs with h1 | h1 | ⟨j,h1,h2⟩
  ·exact hI.sg b o h1
  ·exact .inr (.inl (AU hI.size h1))
  ·obtain⟨i,e1,l1,o1⟩:=Rx j h1;exact .inr (hI.loc i b l1 (by rw[←o1];exact h2)).2
theorem eX(hI:DM w0 g0 h0 h g w){σ:IU}{d nn:Nat}(Gz:(Eo σ&&DH h d nn&&Do σ d nn)=true){f:Nat}{args:List AV}{Q:AV→(Nat→HO)→Prop}(hc:Be P f args (FB σ h) Q){vals:Array Value}(hs:vals.size=args.length)
  (hv:∀(i:Nat) (av:AV) (x:Value),args[i]?=some av→vals[i]?=some x→BJ (Dy σ g) w (AR (FB σ h)) av x) {R:Ending→World→Prop}
  (az:∀v r h' g2 w',Q r h'→DM w0 g0 h0 (D8 σ d nn h h') g2 w'→Le h g w (D8 σ d nn h h') g2 w'→BJ g2 w' (AR (D8 σ d nn h h')) (ren (E6 σ d nn) h' r) v→R (.returned v) w'):Calls P f vals w R :=
 Mx (C:=Calls P f vals w) (fun h k=>h.mono k) hI Gz (hc.2 (Dy σ g) w vals hs hv) az
end
structure SR(N:Nat)(ds:List Deferred)(w0:World)(g0:Gh)(h0:Nat→HO)(st:St)(g:Gh)(a:Act)(w:World):Prop where
 inv:DM w0 g0 h0 st.h g w
 le:Le h0 g0 w0 st.h g w
 dfs:a.defers=ds
 size:a.tmps.size=N
 slots:∀i,BJ g w (AR st.h) (st.t i) (a.tmps.getD i undef)
section
variable {P:Program}{N:Nat}{ds:List Deferred}{w0:World}{g0:Gh}{h0:Nat→HO}{st:St}{g:Gh}{a:Act}{w:World}
theorem SR.eval(hS:SR N ds w0 g0 h0 st g a w)(x:Operand):BJ g w (AR st.h) (ev st.t x) (a.eval x):=by
 cases x with
 |tmp i=>exact hS.slots i
 |const v=>exact .v _ _
 |global b=>exact .v _ _
 |func f=>exact .v _ _
theorem SR.put(hS:SR N ds w0 g0 h0 st g a w){d:Option Nat}(hd:∀i,d=some i→i<N){v:AV}{x:Value}{h' : Nat→HO}{g' : Gh}{w' : World}(hI:DM w0 g0 h0 h' g' w')(Hl:Le st.h g w h' g' w')(hr:BJ g' w' (AR h') v x) :
  SR N ds w0 g0 h0 (st.put d v h') g' (a.put d x) w':=by
 have old:∀i,BJ g' w' (AR h') (st.t i) (a.tmps.getD i undef):=fun i=>(hS.slots i).le Hl;cases d with
 |none=>exact⟨hI,hS.le.trans Hl,hS.dfs,hS.size,old⟩
 |some d =>
  have uX:=hd d rfl;refine⟨hI,hS.le.trans Hl,hS.dfs,by simp[Act.put,hS.size],fun i=>?_⟩;simp only[St.put,Act.put,G4]
  by_cases e:i=d
  ·subst e
   have:i<a.tmps.size:=by rw[hS.size];exact uX
   simp only[CY,JK];rw[Cw,Array.getElem?_setIfInBounds_self,Aw this];exact hr
  ·simp only[CM e,Er];rw[Cw,Array.getElem?_setIfInBounds_ne (Ne.symm e),←Cw];exact old i
def Yy(w0:World)(g0:Gh)(h0 h:Nat→HO)(g:Gh)(w:World)(K:HK)(next:Value→World→Prop):Prop :=
 ∀v h' g' w' x,K v h'→DM w0 g0 h0 h' g' w'→Le h g w h' g' w'→BJ g' w' (AR h') v x→next x w'
theorem DZ{o:Oper}{m:Sem Value}{K:HK}{next:Act→World→Prop}{Q:Exit→Act→World→Prop}(hx:execOp a.eval o=(do pure (Next.value (←m))))(hd:N4 P w0 g0 h0 st.h g w m K)
  (hn:Yy w0 g0 h0 st.h g w K fun x w'=>next (a.put o.dst x) w'):o.wp P a w next Q:=by
 obtain⟨x,w',g',av,h',h1,h2,h3,h4,h5⟩:=hd;unfold Oper.wp;rw[hx,Sem.run_bind,h1];exact hn av h' g' w' x h2 h3 h4 h5
theorem WG{o:Oper}{m:Sem Unit}{K:HK}{next:Act→World→Prop}{Q:Exit→Act→World→Prop}(hx:execOp a.eval o=(do m;pure Next.skip))(hd:dY P w0 g0 h0 st.h g w m K)
  (hn:Yy w0 g0 h0 st.h g w K fun x w'=>next (a.put o.dst x) w'):o.wp P a w next Q:=by
 obtain⟨w',g',h',h1,h2,h3,h4⟩:=hd;unfold Oper.wp;rw[hx,Sem.run_bind,h1];exact hn _ h' g' w' undef h2 h3 h4 (.v _ _)
theorem bA{o:Oper}{K:HK}{next:Act→World→Prop}{Q:Exit→Act→World→Prop}{v:AV}{x:Value}(hI:DM w0 g0 h0 st.h g w)(hx:(execOp a.eval o).run P w=.ok (.value x) w)(hk:K v st.h)(hr:BJ g w (AR st.h) v x)
  (hn:Yy w0 g0 h0 st.h g w K fun x w'=>next (a.put o.dst x) w'):o.wp P a w next Q:=by
 unfold Oper.wp;rw[hx];exact hn _ _ _ _ _ hk hI (.refl _ _ _) hr
theorem Sf{C:(Ending→World→Prop)→Prop}(hm:∀{R R' : Ending→World→Prop},C R→(∀e w,R e w→R' e w)→C R')(hI:DM w0 g0 h0 st.h g w){Q:AV→(Nat→HO)→Prop}
  (hc:DM w g Aa Aa g w→C (fun e w'=>∃v r h' g',e=Ending.returned v∧Q r h'∧BJ g' w' (AR h') r v∧DM w g Aa h' g' w'∧Le Aa g w h' g' w')) {R:Ending→World→Prop}
  (hR:∀v r h' g' w',Q r h'→h'=Aa→DM w0 g0 h0 st.h g' w'→Le st.h g w st.h g' w'→BJ g' w' Fm r v→R (.returned v) w') (hQ:∀r h',Q r h'→h'=Aa):C R:=by
 have hU:AR Aa=Fm:=by funext i;unfold AR Fm Aa;simp
 have kl:DM w g Aa Aa g w:=⟨rfl,rfl,rfl,Ak _,fun _ _ _=>rfl,hI.slt,fun _=>trivial,fun _ _ _ h=>h.elim,fun _ _ h=>h.elim,fun _ _ h=>.inl h,hI.glob⟩;refine hm (hc kl) ?_
 rintro e w' ⟨v,r,h',g',rfl,q1,q2,q3,q4⟩
 obtain rfl:=hQ r h' q1;rw[hU]at q2
 -- the caller's ghost,with the callee's stable cells
 have hk:E2 g w ⟨g.ρ,g.ln,g.tk,g.own,g'.S⟩ w':=q4.keeps;have hg:JY g ⟨g.ρ,g.ln,g.tk,g.own,g'.S⟩ (AR st.h):=fun _ _=>⟨rfl,Ak _,fun _=>rfl,fun _=>rfl⟩;have fT:∀b,b<w.heap.size→w'.heap[b]?=w.heap[b]?:=fun b hb=>q3.frame b hb (fun _ h=>h.elim);have uK:∀b o,g'.S b o→b<w.heap.size→g.S b o:=fun b o hs hb=>by
  rcases q3.sg b o hs with h1 | h1 | ⟨_,h1,_⟩
  ·exact h1
  ·omega
  ·exact h1.elim
 refine hR v r Aa ⟨g.ρ,g.ln,g.tk,g.own,g'.S⟩ w' q1 rfl ⟨q3.os.trans hI.os,q3.tape.trans hI.tape,q3.output.trans hI.output,AU hI.size q3.size,fun b hb hn=>?_,q3.slt,fun i=>?_,hI.inj,fun i b hl ho=>?_,fun b o hs=>?_,hI.glob.keep hk⟩ ⟨hg,fun _ h=>h,hk⟩ ?_
 ·exact(fT b (BK hb hI.size)).trans (hI.frame b hb hn)
 ·refine(hI.objs i).same hk (fun _ h=>h) hg rfl rfl rfl rfl (fun b hl ho=>?_);have DL:=(hI.loc i b hl ho).1;exact⟨fT b DL,fun k hs=>uK b k hs DL⟩
 ·obtain⟨h1,h2⟩:=hI.loc i b hl ho;exact⟨BK h1 q3.size,h2⟩
 ·rcases q3.sg b o hs with h1 | h1 | ⟨_,h1,_⟩
  ·exact hI.sg b o h1
  ·exact .inr (.inl (AU hI.size h1))
  ·exact h1.elim
 ·have:E2 g' w' ⟨g.ρ,g.ln,g.tk,g.own,g'.S⟩ w':=fun b o h=>⟨h,rfl,fun _ _ h=>h⟩
  exact q2.mono this (fun _ h=>h) (fun _ h=>h.elim)
theorem bT(hI:DM w0 g0 h0 st.h g w){f:Nat}{args:List AV}{Q:AV→(Nat→HO)→Prop}(hc:Be P f args Aa Q){vals:Array Value}(hs:vals.size=args.length)
  (hv:∀(i:Nat) (av:AV) (x:Value),args[i]?=some av→vals[i]?=some x→BJ g w Fm av x) {R:Ending→World→Prop}
  (hR:∀v r h' g' w',Q r h'→h'=Aa→DM w0 g0 h0 st.h g' w'→Le st.h g w st.h g' w'→BJ g' w' Fm r v→R (.returned v) w') (hQ:∀r h',Q r h'→h'=Aa):Calls P f vals w R :=
 have hU:AR Aa=Fm:=by funext i;unfold AR Fm Aa;simp
 Sf (C:=Calls P f vals w) (fun h k=>h.mono k) hI (hc.2 g w vals hs (fun i av x h1 h2=>by rw[hU];exact hv i av x h1 h2)) hR hQ
theorem YieldAt.imp{F:Fence}{m:Nat}{P:Program}{l:Nat}{args:Array Value}{W:World}{R R' : Ending→World→Prop}(h:YieldAt F m P l args W R)(hr:∀e w,R e w→R' e w):YieldAt F m P l args W R' :=
 let ⟨fn,t,a,b,h1,h2⟩:=h
 ⟨fn,t,a,b,h1,h2.mono hr⟩
theorem IL.imp{Y:Gh→World→Prop}{l:Nat}{args:List AV}{h0:Nat→HO}{Q Q' : AV→(Nat→HO)→Prop}(h:IL P Y l args h0 Q)(hq:∀r h',Q r h'→Q' r h'):IL P Y l args h0 Q' :=
 fun g w vals q1 q2 q3 q4=>YieldAt.imp (h g w vals q1 q2 q3 q4) fun _ _ ⟨v,r,h',g',e1,e2,rest⟩=>⟨v,r,h',g',e1,hq _ _ e2,rest⟩
theorem F1.imp{Y:Nat→Gh→World→Prop}{F:AV}{args:List AV}{h0:Nat→HO}{Q Q' : AV→(Nat→HO)→Prop}(h:F1 P Y F args h0 Q)(hq:∀r h',Q r h'→Q' r h'):F1 P Y F args h0 Q':=by
 have one:∀{f:Nat} {l:List AV},Be P f l h0 Q→Be P f l h0 Q':=fun hc =>
  ⟨hc.1,fun g w vals q1 q2 q3=>(hc.2 g w vals q1 q2 q3).mono fun _ _ ⟨v,r,h',g',e1,e2,rest⟩=>⟨v,r,h',g',e1,hq _ _ e2,rest⟩⟩
 unfold F1 at h⊢;split at h
 ·exact one h
 ·exact one h
 ·exact IL.imp h hq
 ·exact h.elim
abbrev JD(ro:Option Nat):Fence:={ Fence.wide with round:=ro }
theorem MN{ro:Option Nat}{o:Oper}{a:Act}{w:World}{next:Act→World→Prop}{Q:Exit→Act→World→Prop}(hd:∀c,o.op≠.defer c)(h:o.wp P a w next Q):o.wpIn (JD ro) 0 P a w next Q:=by
 refine⟨fun _ _=>trivial,?_⟩;have e:o.semAt (JD ro).round a.eval=execOp a.eval o:=Oper.semAt_eq ro a.eval o hd;rw[e];unfold Oper.wp at h;have key:∀res:Result Next,o.upon P a next Q res→o.uponIn (JD ro) 0 P a next Q res:=fun res h=>by
  cases res with
  |ok n w'=>cases n with
   |enter f args=>exact(show(_→_)∧CallsIn (JD ro) 0 P f args w' _ from⟨fun e=>by(cases e),callsIn_wide.2 h⟩)
   |row r args=>exact(show(_→_)∧RowsIn (JD ro) 0 P r args w' _ from⟨fun e=>by(cases e),fun c cs _=>by
     obtain⟨v,bw,r',s⟩:=h c cs;exact⟨v,bw,r',stepsIn_wide.2 s⟩⟩)
   |round _ _ _ _ _=>exact h.elim
   |_=>exact h
  |halt x w'=>cases x<;>exact h
 exact key _ h
theorem GB{f:Nat}{args:Array Value}(h:F2 P f)(w:World):(callFunc f args).run P w=.ok (.enter f args) w:=by
 obtain⟨fn,h1,h2,h3⟩:=h;simp only[callFunc,Sem.run_bind,run_program,h1,Result.andThen_ok,h2,h3,Cy,Fg,Sem.run_pure]
theorem TH{h:Nat→HO}{a:AV}(ha:aP a=true):ren (Cv []) h a=str h a:=by
 have h0:∀a,ren0 (Cv []) h a=str0 h a:=fun a=>by
  cases a with
  |slice tk es=>cases tk<;>rfl
  |_=>rfl
 cases a with
 |tup cs=>cases ha
 |agg cs=>show AV.agg _=AV.agg _;exact Ac _ (Bf fun c _=>h0 c)
 |clo f cs=>show AV.clo f _=AV.clo f _;exact Ac _ (Bf fun c _=>h0 c)
 |v x=>exact h0 (.v x)
 |slice tk es=>exact h0 (.slice tk es)
 |msl r n=>exact h0 (.msl r n)
 |cptr cs=>exact h0 (.cptr cs)
 |ref r o=>exact h0 (.ref r o)
 |eref r n sz i o=>exact h0 (.eref r n sz i o)
 |mref r=>exact h0 (.mref r)
 |cmap sh l=>exact h0 (.cmap sh l)
 |junk=>rfl
theorem P0{h:Nat→HO}:∀{l:List AV},Tu l=true→l.map (ren (Cv []) h)=l.map (str h)
 | [],_=>rfl
 |a::l,e=>by
  unfold Tu at e;split at e
  ·rename_i e1;rw[AN,AN,TH e1,P0 e]
  ·cases e
theorem Qp:∀{l:List AV} {vs:List Value},Vw l=some vs→l=vs.map .v
 | [],vs,h=>by cases h;rfl
 |.v x::r,vs,h=>by
  unfold Vw at h;split at h
  ·rename_i l e;cases h;rw[AN,←Qp e]
  ·cases h
theorem bS{cx:Cx}{d:Option Nat}{st:St}{F:AV}{args:List AV}{K:HK}(hk:Gf cx true d st F args K):Gf cx false d st F args K:=by
 unfold Gf at hk;simp only at hk;split at hk
 ·exact⟨.pure,hk⟩
 ·split at hk
  ·exact hk.elim
  ·rename_i d _;obtain⟨n,sz,es,h1,h2,h3⟩:=hk;simp only[Ag]at h1;refine⟨.gen [] 1,?_⟩;show(Eo []&&DH st.h d 1&&Do [] d 1)=true∧_;refine⟨by simp[Eo,Do,h1.1.1],?_⟩;rw[TH h1.1.2,P0 h1.2];show F1 cx.P (fun l=>cx.yp l []) _ _ Aa _;refine F1.imp h2 ?_
   rintro r h' ⟨e2,e3⟩
   subst e2;subst e3;have e1:ren (E6 [] d 1) (Aj [(2000,.arr sz es)] Aa) (.msl 2000 n)=.msl (Br d 0) n:=rfl;have e2:D8 [] d 1 st.h (Aj [(2000,.arr sz es)] Aa)=AW st.h (Br d 0) (.arr sz es):=by
    funext i
    by_cases e:i=Br d 0
    ·subst e;rw[Bd];have hb:(Nat.ble (Br d 0) (Br d 0)&&Nat.blt (Br d 0) (Br d 1))=true:=by
      unfold Br;simp only[Ag,Dd,Cm];omega
     simp only[D8,Cv,hb,Gd];rfl
    ·rw[BZ _ _ _ _ e]
     have:(Nat.ble (Br d 0) i&&Nat.blt i (Br d 1))=false:=by
      unfold Br at e⊢;rw[AK];simp only[Vd,Ag,Dd,Cm];omega
     simp only[D8,Cv,this]
   rw[e1,e2];exact h3
 ·split at hk
  ·unfold TU at hk;split at hk
   ·exact hk.elim
   ·rename_i d _;obtain⟨sz,es,h1,h2,h3⟩:=hk;simp only[Ag]at h1;refine⟨.gen [] 1,?_⟩;show(Eo []&&DH st.h d 1&&Do [] d 1)=true∧_;refine⟨by simp[Eo,Do,h1.1.1],?_⟩;rw[TH h1.1.2,P0 h1.2];show F1 cx.P (fun l=>cx.yp l []) _ _ Aa _;refine F1.imp h2 ?_
    rintro r h' ⟨e2,e3⟩
    subst e2;subst e3;have e1:ren (E6 [] d 1) (Aj [(2000,.tok sz es.length)] Aa) (.slice (.id 2000 sz) es)=.slice (.id (Br d 0) sz) es:=rfl;have e2:D8 [] d 1 st.h (Aj [(2000,.tok sz es.length)] Aa)=AW st.h (Br d 0) (.tok sz es.length):=by
     funext i
     by_cases e:i=Br d 0
     ·subst e;rw[Bd];have hb:(Nat.ble (Br d 0) (Br d 0)&&Nat.blt (Br d 0) (Br d 1))=true:=by
       unfold Br;simp only[Ag,Dd,Cm];omega
      simp only[D8,Cv,hb,Gd];rfl
     ·rw[BZ _ _ _ _ e]
      have:(Nat.ble (Br d 0) i&&Nat.blt i (Br d 1))=false:=by
       unfold Br at e⊢;rw[AK];simp only[Vd,Ag,Dd,Cm];omega
      simp only[D8,Cv,this]
    rw[e1,e2];exact h3
  split at hk
  ·unfold Qq at hk;split at hk
   ·rename_i d l vs e2 z1;have hl:=Qp e2;split at hk
    ·rename_i r sz es br n e3 e4;obtain⟨⟨rfl,rfl⟩,v,FD,n',h1,h2⟩:=hk;refine⟨.gen [(1000,1000),(1001,1001)] 0,?_⟩;show(Eo [(1000,1000),(1001,1001)]&&DH st.h d 0&&Do [(1000,1000),(1001,1001)] d 0)=true∧_;refine⟨?_,?_⟩
     ·have:Do [(1000,1000),(1001,1001)] d 0=true:=by
       have q:∀r:Nat,(Nat.ble (Br d 0) r&&Nat.blt r (Br d 0))=false:=fun r=>by
        rw[AK];simp only[Vd,Ag,Dd,Cm];omega
       simp only[Do,q,Bool.not_false,Bool.and_self]
      rw[this];rfl
     have f1:args.map (ren (Cv [(1000,1000),(1001,1001)]) st.h)=vs.map .v:=by rw[hl,BN];rfl
     have f2:FB [(1000,1000),(1001,1001)] st.h=Aj [(1000,.cells [.slice (.id 1001 br) es]),(1001,.tok br n)] Aa:=by
      unfold FB Wu Wu Wu;rw[e3,e4];rfl
     rw[f1,f2];refine IL.imp h1 ?_
     rintro r h' ⟨g1,g2⟩
     subst g1;subst g2;have f3:D8 [(1000,1000),(1001,1001)] d 0 st.h (Aj [(1000,.cells [.slice (.id 1001 br) FD]),(1001,.tok br n')] Aa)=AW (AW st.h 1001 (.tok br n')) 1000 (.cells [.slice (.id 1001 br) FD]):=by
      funext i
      by_cases e:i=1000
      ·subst e;rw[Bd];rfl
      ·rw[BZ _ _ _ _ e]
       by_cases e' : i=1001
       ·subst e';rw[Bd];rfl
       ·rw[BZ _ _ _ _ e'];have hn:Cv [(1000,1000),(1001,1001)] i=none:=by simp[Cv,CM (Ne.symm e),CM (Ne.symm e')]
        have:(Nat.ble (Br d 0) i&&Nat.blt i (Br d 0))=false:=by
         rw[AK];simp only[Vd,Ag,Dd,Cm];omega
        simp only[D8,hn,this]
     rw[f3];exact h2
    ·exact hk.elim
   ·exact hk.elim
  unfold Pf at hk;split at hk
  ·unfold Xw at hk;split at hk
   ·rename_i d f _;obtain⟨σ,H0,Hn,args',res,g1,g2,g3,g4⟩:=hk;simp only[Ag]at g2;obtain⟨k1,k2⟩:=g1 st.h fun _ _=>rfl;refine⟨.gen σ 0,?_⟩;show(Eo σ&&DH st.h d 0&&Do σ d 0)=true∧_;refine⟨by rw[g2.1.1,g2.1.2];rfl,?_⟩;rw[k1,k2];refine F1.imp (show F1 cx.P (fun l=>cx.yp l σ) (.v (.func (.func f) ⟨[]⟩ ⟨[]⟩)) args' (Aj H0 Aa) (fun r h'=>r=res∧h'=Aj Hn Aa)from g3) ?_
    rintro r h' ⟨e1,e2⟩
    rw[e1,e2];exact g4
   ·exact hk.elim
  unfold Rd at hk;split at hk
  ·rename_i dd f r n l _;split at hk
   ·rename_i vs dT;have hl:=Qp dT;subst hl;split at hk
    ·rename_i sz es hr;have hf:Cv [(r,1000)] r=some 1000:=by simp[Cv]
     have e1:ren (Cv [(r,1000)]) st.h (.v (.func (.func f) ⟨[]⟩ ⟨[]⟩))=.v (.func (.func f) ⟨[]⟩ ⟨[]⟩):=rfl;have e2:(AV.msl r n::vs.map AV.v).map (ren (Cv [(r,1000)]) st.h)=.msl 1000 n::vs.map .v:=by
      rw[AN]
      congr 1
      ·simp[ren,ren1,ren0,hf]
      ·rw[BN];rfl
     have e3:FB [(r,1000)] st.h=Aj [(1000,.arr sz es)] Aa:=by
      unfold FB Wu;rw[hr];rfl
     split at hk
     ·obtain⟨n',FD,h1,h2⟩:=hk;refine⟨.gen [(r,1000)] 0,?_⟩;show(Eo [(r,1000)]&&DH st.h dd 0&&Do [(r,1000)] dd 0)=true∧_;refine⟨?_,?_⟩
      ·have:Do [(r,1000)] dd 0=true:=by
        unfold Do
        have:(Nat.ble (Br dd 0) r&&Nat.blt r (Br dd 0))=false:=by
         rw[AK];simp only[Vd,Ag,Dd,Cm];omega
        rw[this];rfl
       rw[this];rfl
      rw[e1,e2,e3];refine⟨h1.1,fun g w vals q1 q2 q3=>(h1.2 g w vals q1 q2 q3).mono fun _ _ ⟨v,r',h',g',e1,⟨e2,e3⟩,rest⟩=>⟨v,r',h',g',e1,?_,rest⟩⟩;subst e2;subst e3;have f1:ren (E6 [(r,1000)] dd 0) (Aj [(1000,.arr sz FD)] Aa) (.msl 1000 n')=.msl r n':=rfl;have f2:D8 [(r,1000)] dd 0 st.h (Aj [(1000,.arr sz FD)] Aa)=AW st.h r (.arr sz FD):=by
       funext i
       by_cases e:i=r
       ·subst e;rw[Bd];simp[D8,hf,Aj,HO.ren]
       ·rw[BZ _ _ _ _ e];have hn:Cv [(r,1000)] i=none:=by simp[Cv,CM (Ne.symm e)]
        have:(Nat.ble (Br dd 0) i&&Nat.blt i (Br dd 0))=false:=by
         rw[AK];simp only[Vd,Ag,Dd,Cm];omega
        simp only[D8,hn,this]
      rw[f1,f2];exact h2
     ·obtain⟨n',FD,h0,h1,h2⟩:=hk;simp only[Ag,Cm,CU]at h0;have vH:r≠Br dd 0:=fun e=>by have:=h0.2;rw[e]at this;simp at this
      refine⟨.gen [(r,1000)] 1,?_⟩;show(Eo [(r,1000)]&&DH st.h dd 1&&Do [(r,1000)] dd 1)=true∧_;refine⟨?_,?_⟩
      ·have:Do [(r,1000)] dd 1=true:=by
        unfold Do
        have:(Nat.ble (Br dd 0) r&&Nat.blt r (Br dd 1))=false:=by
         rw[AK];simp only[Vd,Ag,Dd,Cm];unfold Br at vH⊢;omega
        rw[this];rfl
       rw[this,h0.1.1];rfl
      rw[e1,e2,e3];refine⟨h1.1,fun g w vals q1 q2 q3=>(h1.2 g w vals q1 q2 q3).mono fun _ _ ⟨v,r',h',g',e1,⟨e2,e3⟩,rest⟩=>⟨v,r',h',g',e1,?_,rest⟩⟩;subst e2;subst e3;have f1:ren (E6 [(r,1000)] dd 1) (Aj [(1000,.dead),(2000,.arr sz FD)] Aa) (.msl 2000 n')=.msl (Br dd 0) n':=rfl;have f2:D8 [(r,1000)] dd 1 st.h (Aj [(1000,.dead),(2000,.arr sz FD)] Aa)=AW (AW st.h r .dead) (Br dd 0) (.arr sz FD):=by
       funext i
       by_cases e:i=Br dd 0
       ·subst e;rw[Bd];have hn:Cv [(r,1000)] (Br dd 0)=none:=by simp[Cv,CM vH]
        have hb:(Nat.ble (Br dd 0) (Br dd 0)&&Nat.blt (Br dd 0) (Br dd 1))=true:=by
         unfold Br;simp only[Ag,Dd,Cm];omega
        simp only[D8,hn,hb,Gd];rfl
       ·rw[BZ _ _ _ _ e]
        by_cases e4:i=r
        ·subst e4;rw[Bd];simp[D8,hf,Aj,HO.ren]
        ·rw[BZ _ _ _ _ e4];have hn:Cv [(r,1000)] i=none:=by simp[Cv,CM (Ne.symm e4)]
         have:(Nat.ble (Br dd 0) i&&Nat.blt i (Br dd 1))=false:=by
          rw[AK];simp only[Vd,Ag,Dd,Cm];unfold Br at e⊢;omega
         simp only[D8,hn,this]
      rw[f1,f2];exact h2
    ·exact hk.elim
   ·exact hk.elim
  ·exact hk.elim
theorem eT{cx:Cx}{dr:Bool}{d:Option Nat}{f:Operand}{args:Array Operand}{GL:Array TypeId}{dst:Option Nat}{ty:Nat}{pos:String}{after:Array Edge}{gd:Option (Nat×Bool)}{K:HK}{next:Act→World→Prop}{Q:Exit→Act→World→Prop}
  (hP:cx.P=P) (hY:∀l σ h g w,Eo σ=true→DM w0 g0 h0 h g w→Le h0 g0 w0 h g w→cx.yp l σ (Dy σ g) w) {ro:Option Nat} (hS:SR N ds w0 g0 h0 st g a w) (hk:Gf cx dr d st (ev st.t f) (args.toList.map (ev st.t)) K)
  (hn:Yy w0 g0 h0 st.h g w K fun x w'=>next (a.put dst x) w'):Oper.wpIn (JD ro) 0 P ⟨dst,.call ⟨.value f,args,GL⟩,ty,pos,after,gd⟩ a w next Q:=by
 subst hP;have hk:Gf cx false d st (ev st.t f) (args.toList.map (ev st.t)) K:=by
  cases dr with
  |true=>exact bS hk
  |false=>exact hk
 have Je:∀(i:Nat) (av:AV) (x:Value),((args.toList.map (ev st.t)).map (str st.h))[i]?=some av→(args.map a.eval)[i]?=some x→BJ g w Fm av x:=by
  intro i av x h1 h2;rw[AI,AI]at h1;rw[N3]at h2;cases ho:args[i]? with
  |none=>rw[ho]at h2;simp at h2
  |some y =>
   rw[ho]at h2;have hy:args.toList[i]?=some y:=by simpa using ho
   rw[hy]at h1;simp only[FA,Bm]at h1 h2;subst h1;subst h2;exact BJ.str hS.inv.objs (hS.eval y)
 have CJ:(args.map a.eval).size=((args.toList.map (ev st.t)).map (str st.h)).length:=by simp
 have hF:=BJ.str hS.inv.objs (hS.eval f)
 -- a call of yield
 have yl:∀(l:Nat) (R:Ending→World→Prop),a.eval f=.func (.yield l) #[] #[]→YieldAt Fence.wide 0 cx.P l (args.map a.eval) w R→(∀e w',R e w'→∃v,e=.returned v∧next (a.put dst v) w') →
   Oper.wpIn (JD ro) 0 cx.P ⟨dst,.call ⟨.value f,args,GL⟩,ty,pos,after,gd⟩ a w next Q:=by
  rintro l R hx ⟨fn,tm,GD,bd,h1,h2⟩ hR
  refine⟨fun _ _=>trivial,?_⟩;have e:(⟨dst,.call ⟨.value f,args,GL⟩,ty,pos,after,gd⟩:Oper).semAt (JD ro).round a.eval=execOp a.eval ⟨dst,.call ⟨.value f,args,GL⟩,ty,pos,after,gd⟩:=Oper.semAt_eq ro a.eval _ (fun c e=>by cases e);have CP:(execOp a.eval ⟨dst,.call ⟨.value f,args,GL⟩,ty,pos,after,gd⟩).run cx.P w=.ok (.round l fn tm GD bd) w:=by
   simp only[execOp,resolve,hx,Deferred.ofValue,Sem.run_bind,Sem.run_pure,Result.andThen_ok,invoke];simpa using h1
  rw[e,CP];refine(show(_→_)∧RoundIn (JD ro) 0 cx.P l fn tm GD bd w _ from⟨fun e=>by(cases e),RoundIn.mono h2 fun e w' h=>?_⟩);obtain⟨v,rfl,hn⟩:=hR e w' h;exact hn
 -- the call itself
 have go:∀(Q' : AV→(Nat→HO)→Prop),(∀r h',Q' r h'→h'=Aa∧K r st.h)→F1 cx.P (fun _ _ _=>True) (str st.h (ev st.t f)) ((args.toList.map (ev st.t)).map (str st.h)) Aa Q' →
   Oper.wpIn (JD ro) 0 cx.P ⟨dst,.call ⟨.value f,args,GL⟩,ty,pos,after,gd⟩ a w next Q:=by
  intro Q' hQ hc
  have fin:∀{fn:Nat} {l:List AV} {vals:Array Value},Be cx.P fn l Aa Q'→vals.size=l.length→(∀(i:Nat) (av:AV) (x:Value),l[i]?=some av→vals[i]?=some x→BJ g w Fm av x) →
    (execOp a.eval ⟨dst,.call ⟨.value f,args,GL⟩,ty,pos,after,gd⟩).run cx.P w=.ok (.enter fn vals) w→Oper.wpIn (JD ro) 0 cx.P ⟨dst,.call ⟨.value f,args,GL⟩,ty,pos,after,gd⟩ a w next Q:=by
   intro fn l vals hc hs hv CP;refine MN (fun c e=>by cases e) ?_;unfold Oper.wp;rw[CP];exact bT hS.inv hc hs hv (fun v r h' g' w' hq _ hI Hl hr=>hn r _ g' w' v (hQ r h' hq).2 hI Hl (hr.up _)) (fun r h' hq=>(hQ r h' hq).1)
  unfold F1 at hc;split at hc
  ·rename_i fn e;rw[e]at hF;have hx:=hF.v_eq;refine fin hc CJ Je ?_;have LF : a.eval f=.func (.func fn) #[] #[]:=hx;simp only[execOp,resolve,LF,Deferred.ofValue,Sem.run_bind,Sem.run_pure,Result.andThen_ok,invoke];rw[GB hc.1];simp
  ·rename_i fn caps e;rw[e]at hF;generalize hx:a.eval f=fv at hF;cases hF with
   |clo _ _ _ vs EK OJ =>
    refine fin hc (vals:=args.map a.eval++vs) (by simp[EK]) (fun i av x h1 h2=>?_) ?_
    ·rw[LP]at h1;rw[HP]at h2;have hl:((args.toList.map (ev st.t)).map (str st.h)).length=(args.map a.eval).size:=CJ.symm;rw[hl]at h1;split at h1
     ·rename_i hi;rw[Aw hi]at h2;exact Je i av x h1 h2
     ·rename_i hi;rw[Ai hi]at h2;exact OJ _ av x h1 h2
    ·simp only[execOp,resolve,hx,Deferred.ofValue,Sem.run_bind,Sem.run_pure,Result.andThen_ok,invoke];rw[GB hc.1];simp
  ·rename_i l e;rw[e]at hF;have hU:AR Aa=Fm:=by funext i;unfold AR Fm Aa;simp
   refine yl l _ hF.v_eq (Sf (C:=YieldAt Fence.wide 0 cx.P l (args.map a.eval) w) (R:=fun e w'=>∃v,e=.returned v∧next (a.put dst v) w') YieldAt.imp hS.inv (fun kl=>hc g w _ CJ (fun i av x h1 h2=>by rw[hU];exact Je i av x h1 h2) kl trivial)
    (fun v r h' g' w' hq _ hI Hl hr=>⟨v,rfl,hn r _ g' w' v (hQ r h' hq).2 hI Hl (hr.up _)⟩) (fun r h' hq=>(hQ r h' hq).1)) fun _ _ h=>h
  ·exact hc.elim
 have pure:(∃res,Pv cx.P (str st.h (ev st.t f)) ((args.toList.map (ev st.t)).map (str st.h)) res∧K res st.h)→Oper.wpIn (JD ro) 0 cx.P ⟨dst,.call ⟨.value f,args,GL⟩,ty,pos,after,gd⟩ a w next Q:=by
  rintro⟨res,h1,h2⟩
  refine go (fun r h'=>r=res∧h'=Aa) (fun r h' hq=>⟨hq.2,by rw[hq.1];exact h2⟩) ?_;unfold Pv at h1;unfold F1;split at h1
  ·rename_i fn e;rw[e];exact h1
  ·rename_i fn caps e;rw[e];exact h1
  ·exact h1.elim
 unfold Gf at hk
 ·obtain⟨m,hm⟩:=hk;cases m with
  |pure=>exact pure hm
  |rel=>exact go _ (fun r h' hq=>hq) hm
  |gen σ nn =>
   simp only at hm;cases d with
   |none=>exact hm.elim
   |some d =>
    simp only at hm;obtain⟨Gz,hc⟩:=hm;have hσ:Eo σ=true:=by simp only[Ag]at Gz;exact Gz.1.1
    obtain⟨hR,_⟩:=V7 hS.inv hσ;have fN:=(hS.eval f).ren hR;have SI:∀(i:Nat) (av:AV) (x:Value),((args.toList.map (ev st.t)).map (ren (Cv σ) st.h))[i]?=some av→(args.map a.eval)[i]?=some x→BJ (Dy σ g) w (AR (FB σ st.h)) av x:=by
     intro i av x h1 h2;rw[AI,AI]at h1;rw[N3]at h2;cases ho:args[i]? with
     |none=>rw[ho]at h2;simp at h2
     |some y =>
      rw[ho]at h2;have hy:args.toList[i]?=some y:=by simpa using ho
      rw[hy]at h1;simp only[FA,Bm]at h1 h2;subst h1;subst h2;exact(hS.eval y).ren hR
    have Lw:(args.map a.eval).size=((args.toList.map (ev st.t)).map (ren (Cv σ) st.h)).length:=by simp
    have fin:∀{fn:Nat} {l:List AV} {vals:Array Value},Be cx.P fn l (FB σ st.h) (fun r h'=>K (ren (E6 σ d nn) h' r) (D8 σ d nn st.h h'))→vals.size=l.length →
      (∀(i:Nat) (av:AV) (x:Value),l[i]?=some av→vals[i]?=some x→BJ (Dy σ g) w (AR (FB σ st.h)) av x) →
      (execOp a.eval ⟨dst,.call ⟨.value f,args,GL⟩,ty,pos,after,gd⟩).run cx.P w=.ok (.enter fn vals) w→Oper.wpIn (JD ro) 0 cx.P ⟨dst,.call ⟨.value f,args,GL⟩,ty,pos,after,gd⟩ a w next Q:=by
     intro fn l vals hc hs hv CP;refine MN (fun c e=>by cases e) ?_;unfold Oper.wp;rw[CP];exact eX hS.inv Gz hc hs hv (fun v r h' g' w' hq hI Hl hr=>hn _ _ g' w' v hq hI Hl hr)
    unfold F1 at hc;split at hc
    ·rename_i fn e;rw[e]at fN;have hx:a.eval f=.func (.func fn) #[] #[]:=fN.v_eq;refine fin hc Lw SI ?_;simp only[execOp,resolve,hx,Deferred.ofValue,Sem.run_bind,Sem.run_pure,Result.andThen_ok,invoke];rw[GB hc.1];simp
    ·rename_i fn caps e;rw[e]at fN;generalize hx:a.eval f=fv at fN;cases fN with
     |clo _ _ _ vs EK OJ =>
      refine fin hc (vals:=args.map a.eval++vs) (by simp[EK]) (fun i av x h1 h2=>?_) ?_
      ·rw[LP]at h1;rw[HP]at h2;have hl:((args.toList.map (ev st.t)).map (ren (Cv σ) st.h)).length=(args.map a.eval).size:=Lw.symm;rw[hl]at h1;split at h1
       ·rename_i hi;rw[Aw hi]at h2;exact SI i av x h1 h2
       ·rename_i hi;rw[Ai hi]at h2;exact OJ _ av x h1 h2
      ·simp only[execOp,resolve,hx,Deferred.ofValue,Sem.run_bind,Sem.run_pure,Result.andThen_ok,invoke];rw[GB hc.1];simp
    ·rename_i l e;rw[e]at fN
     exact yl l _ fN.v_eq (Mx (C:=YieldAt Fence.wide 0 cx.P l (args.map a.eval) w) (R:=fun e w'=>∃v,e=.returned v∧next (a.put dst v) w') YieldAt.imp hS.inv Gz (fun kl=>hc (Dy σ g) w _ Lw SI kl (hY l σ _ _ _ hσ hS.inv hS.le))
      (fun v r h' g' w' hq hI Hl hr=>⟨v,rfl,hn _ _ g' w' v hq hI Hl hr⟩)) fun _ _ h=>h
    ·exact hc.elim
  |geny σ nn =>
   simp only at hm;cases d with
   |none=>exact hm.elim
   |some d =>
    simp only at hm;obtain⟨Gz,hc⟩:=hm;have hσ:Eo σ=true:=by simp only[Ag]at Gz;exact Gz.1.1
    obtain⟨hR,_⟩:=V7 hS.inv hσ;have fN:=(hS.eval f).ren hR;have SI:∀(i:Nat) (av:AV) (x:Value),((args.toList.map (ev st.t)).map (ren (Cv σ) st.h))[i]?=some av→(args.map a.eval)[i]?=some x→BJ (Dy σ g) w (AR (FB σ st.h)) av x:=by
     intro i av x h1 h2;rw[AI,AI]at h1;rw[N3]at h2;cases ho:args[i]? with
     |none=>rw[ho]at h2;simp at h2
     |some y =>
      rw[ho]at h2;have hy:args.toList[i]?=some y:=by simpa using ho
      rw[hy]at h1;simp only[FA,Bm]at h1 h2;subst h1;subst h2;exact(hS.eval y).ren hR
    have Lw:(args.map a.eval).size=((args.toList.map (ev st.t)).map (ren (Cv σ) st.h)).length:=by simp
    split at hc
    ·rename_i fn caps e;rw[e]at fN;generalize hx:a.eval f=fv at fN;cases fN with
     |clo _ _ _ vs EK OJ =>
      have CP:(execOp a.eval ⟨dst,.call ⟨.value f,args,GL⟩,ty,pos,after,gd⟩).run cx.P w=.ok (.enter fn (args.map a.eval++vs)) w:=by
       simp only[execOp,resolve,hx,Deferred.ofValue,Sem.run_bind,Sem.run_pure,Result.andThen_ok,invoke];rw[GB hc.1];simp
      refine MN (fun c e=>by cases e) ?_;unfold Oper.wp;rw[CP];refine Mx (C:=Calls cx.P fn (args.map a.eval++vs) w) (fun h k=>h.mono k) hS.inv Gz (fun kl=>hc.2 (Dy σ g) w _ (by simp[EK]) (fun i av x h1 h2=>?_) kl (fun l=>hY l σ _ _ _ hσ hS.inv hS.le)) (fun v r h' g' w' hq hI Hl hr=>hn _ _ g' w' v hq hI Hl hr);rw[LP]at h1;rw[HP]at h2;have hl:((args.toList.map (ev st.t)).map (ren (Cv σ) st.h)).length=(args.map a.eval).size:=Lw.symm;rw[hl]at h1;split at h1
      ·rename_i hi;rw[Aw hi]at h2;exact SI i av x h1 h2
      ·rename_i hi;rw[Ai hi]at h2;exact OJ _ av x h1 h2
    ·exact hc.elim
end
end Go.Eng
