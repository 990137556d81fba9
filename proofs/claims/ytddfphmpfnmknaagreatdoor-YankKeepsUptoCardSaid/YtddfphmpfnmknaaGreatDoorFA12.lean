/- Lemmas for the claims of this seat, without a condition: part 12 (EngZ1, EngZ2, EngZA). -/
import Derived.Test.YtddfphmpfnmknaaGreatDoorFA11
namespace Go.Eng
theorem Wp:∀{σ:IV},GH σ=true→∀i j,Cf σ i=some j↔HL σ j=some i
 | [],_,i,j=>by simp[Cf,HL]
 |(a,b)::r,h,i,j=>by
  simp only[GH,Af]at h;obtain⟨h1,h2⟩:=h;have ih:=Wp h2;have jd:Cf r a=none∧HL r b=none:=by
   split at h1
   ·rename_i e1 e2;exact⟨e1,e2⟩
   ·cases h1
  unfold Cf HL
  by_cases e1:a=i<;>by_cases e2:b=j
  ·subst e1;subst e2;simp
  ·subst e1;simp only[CN,JJ,Cz e2,Ej];constructor
   ·intro h;cases h;exact absurd rfl e2
   ·intro h;rw[(ih a j).2 h]at jd;cases jd.1
  ·subst e2;simp only[CN,JJ,Cz e1,Ej];constructor
   ·intro h;rw[(ih i b).1 h]at jd;cases jd.2
   ·intro h;cases h;exact absurd rfl e1
  ·simp only[Cz e1,Cz e2,Ej];exact ih i j
theorem gX:∀{σ:IV},Ei σ=true→GH σ=true
 | [],_=>rfl
 |(a,b)::r,h=>by
  simp only[Ei,Af]at h;simp only[GH,Af];exact⟨h.1.1.1,gX h.2⟩
theorem WA{σ:IV}(h:Ei σ=true):∀i j,Cf σ i=some j↔HL σ j=some i:=Wp (gX h)
theorem Vk:∀{σ:IV},Ei σ=true→∀{i j},Cf σ i=some j→1000≤j∧j<2000
 | [],_,i,j,h=>by simp[Cf]at h
 |(a,b)::r,h,i,j,hf=>by
  simp only[Ei,Af,CV,B9]at h;unfold Cf at hf
  by_cases e1:a=i
  ·subst e1;simp only[CN,JJ]at hf;cases hf;exact⟨h.1.1.2,h.1.2⟩
  ·simp only[Cz e1,Ej]at hf;exact Vk h.2 hf
theorem O0(f:Nat→Option Nat)(h:Nat→HO):∀(σ:IV) (j:Nat),Ai (Wz f h σ) Ab j=match HL σ j with | some i=>(h i).ren f h | none=>.free
 | [],j=>rfl
 |(a,b)::r,j=>by
  unfold Wz Ai HL
  by_cases e:b=j
  ·subst e;simp
  ·simp only[Cz e,Cz (T5 e),Ej];exact O0 f h r j
structure Kj(f:Nat→Option Nat)(h h2:Nat→HO)(g g2:Gh)(w:World):Prop where
 ids:∀r r',f r=some r'→AP h r→g2.tk r'=g.tk r∧g2.ln r'=g.ln r∧g2.ρ r'=g.ρ r∧g2.own r'=g.own r∧AP h2 r'
 S:∀b o,g2.S b o↔g.S b o
 objs:∀r,D6 g w (AP h) r (h r)
section
variable {f:Nat→Option Nat}{h h2:Nat→HO}{g g2:Gh}{w:World}
theorem Kj.keeps(hR:Kj f h h2 g g2 w):EA g w g2 w:=fun b o hs=>⟨(hR.S b o).2 hs,rfl,fun _ _ e=>e⟩
theorem Kj.noU(hR:Kj f h h2 g g2 w){av:AV}{x:Value}(r:BD g w Fi av x):BD g2 w (AP h2) av x:=r.mono hR.keeps (fun _ h=>h.elim) (fun _ h=>h.elim)
theorem BD.ren0(hR:Kj f h h2 g g2 w){av:AV}{x:Value}(r:BD g w (AP h) av x):BD g2 w (AP h2) (ren0 f h av) x:=by
 have down:BD g2 w (AP h2) (Eng.str0 h av) x:=hR.noU (BD.str0 hR.objs r);cases av with
 |v y=>exact down
 |slice tk es =>
  cases tk with
  |none=>exact down
  |full sz=>exact down
  |id i sz =>
   simp only[Eng.ren0];split
   ·rename_i i' e;cases r with
    |tok _ _ _ _ _ hs hl hu ht hn hx =>
     obtain⟨k1,k2,k3,k4,k5⟩:=hR.ids i i' e hu;exact .tok _ i' sz es x (hR.noU (BD.slice_none hs)) hl k5 (k1.trans ht) (by omega) (fun q=>by rw[k3];exact hx (by omega))
   ·exact hR.noU r.slice_none
  |ver i sz v =>
   simp only[Eng.ren0];split
   ·rename_i i' e;cases r with
    |ver _ _ _ _ _ _ hs hl hu ht hn hx =>
     obtain⟨k1,k2,k3,k4,k5⟩:=hR.ids i i' e hu;exact .ver _ i' sz v es x (hR.noU (BD.slice_none hs)) hl k5 (k1.trans ht) (by omega) (fun q=>by rw[k3];exact hx (by omega))
   ·exact hR.noU r.slice_none
 |msl i n =>
  simp only[Eng.ren0];split
  ·rename_i i' e;cases r with
   |msl _ _ _ a cap hu ht hn ha hx =>
    obtain⟨k1,k2,k3,k4,k5⟩:=hR.ids i i' e hu;exact .msl _ i' n a cap k5 (k1.trans ht) (by omega) ha (fun q=>by rw[k3];exact hx (by omega))
  ·exact .junk _ _
 |agg cs=>exact down
 |tup cs=>exact down
 |cptr cs=>exact down
 |ref i off =>
  simp only[Eng.ren0];split
  ·rename_i i' e;cases r with
   |ref _ _ _ b hu ht hx =>
    obtain⟨k1,k2,k3,k4,k5⟩:=hR.ids i i' e hu;exact .ref _ i' off b k5 (k1.trans ht) (k3.trans hx)
  ·exact down
 |eref i n sz k off =>
  simp only[Eng.ren0];split
  ·rename_i i' e;cases r with
   |eref _ _ _ _ _ _ b cap hu ht hn hx =>
    obtain⟨k1,k2,k3,k4,k5⟩:=hR.ids i i' e hu;exact .eref _ i' n sz k off b cap k5 (k1.trans ht) ⟨hn.1,by omega⟩ (fun q=>by rw[k3];exact hx (by omega))
  ·exact .junk _ _
 |mref i =>
  simp only[Eng.ren0];split
  ·rename_i i' e;cases r with
   |mref _ _ b hu ht hx =>
    obtain⟨k1,k2,k3,k4,k5⟩:=hR.ids i i' e hu;exact .mref _ i' b k5 (k1.trans ht) (k3.trans hx)
  ·exact down
 |cmap sh BX=>exact down
 |clo i cs=>exact down
 |junk=>exact down
theorem BD.ren1(hR:Kj f h h2 g g2 w){av:AV}{x:Value}(r:BD g w (AP h) av x):BD g2 w (AP h2) (ren1 f h av) x:=by
 cases av with
 |agg cs =>
  cases r with
  |agg _ _ vs hs h1 hr =>
   exact .agg _ _ vs (by simp[hs]) h1 fun i av x q1 q2=>by
    rw[AG]at q1;obtain⟨a,q3,rfl⟩:=AW.1 q1;exact(hr i a x q3 q2).ren0 hR
 |clo i cs =>
  cases r with
  |clo _ _ _ vs hs hr =>
   exact .clo _ _ _ vs (by simp[hs]) fun i av x q1 q2=>by
    rw[AG]at q1;obtain⟨a,q3,rfl⟩:=AW.1 q1;exact(hr i a x q3 q2).ren0 hR
 |_=>exact r.ren0 hR
theorem BD.ren(hR:Kj f h h2 g g2 w){av:AV}{x:Value}(r:BD g w (AP h) av x):BD g2 w (AP h2) (ren f h av) x:=by
 cases av with
 |tup cs =>
  cases r with
  |tup _ _ vs hs hr =>
   exact .tup _ _ vs (by simp[hs]) fun i av x q1 q2=>by
    rw[AG]at q1;obtain⟨a,q3,rfl⟩:=AW.1 q1;exact(hr i a x q3 q2).ren1 hR
 |_=>exact r.ren1 hR
theorem Mc(f:Nat→Option Nat)(h:Nat→HO)(o:HO):(o.ren f h).live↔o.live:=by cases o<;>exact Qq
theorem Md(f:Nat→Option Nat)(h:Nat→HO)(o:HO):o.ren f h≠.free↔o≠.free:=by cases o<;>simp[HO.ren]
theorem D6.ren(hR:Kj f h h2 g g2 w){i j:Nat}(Pn:f i=some j)(hu:AP h i){o:HO}(r:D6 g w (AP h) i o):D6 g2 w (AP h2) j (o.ren f h):=by
 obtain⟨k1,k2,k3,k4,k5⟩:=hR.ids i j Pn hu;have yD:∀{cs:List AV} {vs:List Value},Cu g w Fi cs vs→Cu g2 w Fi cs vs:=fun hr=>hr.mono hR.keeps (fun _ h=>h) (fun _ h=>h.elim);have s9:∀{av:AV} {x:Value},BD g w Fi av x→BD g2 w Fi av x:=fun hr=>hr.mono hR.keeps (fun _ h=>h) (fun _ h=>h.elim);cases o with
 |free=>trivial
 |dead=>trivial
 |cells cs =>
  obtain⟨t,b,E,vs,a1,a2,a3,a4,a5⟩:=r;refine⟨k1.trans t,b,E,vs,k4.trans a1,k3.trans a2,a3,⟨by simp[a4.1],a4.2.1,fun i av x q1 q2=>?_⟩,fun o ho=>a5 o ((hR.S b o).1 ho)⟩;rw[AG]at q1;obtain⟨a,q3,rfl⟩:=AW.1 q1;exact(a4.2.2 i a x q3 q2).ren1 hR
 |ro cs =>
  obtain⟨t,b,a1,a2⟩:=r;exact⟨k1.trans t,b,k3.trans a1,s9 a2⟩
 |tok sz n =>
  obtain⟨t,l,a,cap,a1,a2⟩:=r;refine⟨k1.trans t,k2.trans l,a,cap,k3.trans a1,?_⟩;rcases a2 with ⟨b1,b2⟩ | ⟨b1,b,E,vs,off,b2,b3,b4,b5,b6⟩
  ·exact .inl ⟨b1,k4.trans b2⟩
  ·exact .inr ⟨b1,b,E,vs,off,b2,k4.trans b3,b4,b5,fun o ho=>b6 o ((hR.S b o).1 ho)⟩
 |var sz v n =>
  obtain⟨t,l,a,cap,a1,a2⟩:=r;refine⟨k1.trans t,k2.trans l,a,cap,k3.trans a1,?_⟩;rcases a2 with ⟨b1,b2⟩ | ⟨b1,b,E,vs,off,b2,b3,b4,b5,b6⟩
  ·exact .inl ⟨b1,k4.trans b2⟩
  ·exact .inr ⟨b1,b,E,vs,off,b2,k4.trans b3,b4,b5,fun o ho=>b6 o ((hR.S b o).1 ho)⟩
 |vox v=>exact⟨k1.trans r.1,k2.trans r.2⟩
 |hol sz es i c av =>
  obtain⟨t,l,al,b,cap,E,vs,b1,b2,b3,b4,b5,b6,b7,b8,x,b9,YE⟩:=r;exact⟨k1.trans t,k2.trans l,al,b,cap,E,vs,k3.trans b1,k4.trans b2,b3,b4,b5,yD b6,fun o ho=>b7 o ((hR.S b o).1 ho),b8,x,b9,YE.ren1 hR⟩
 |raw b ob =>
  obtain⟨t,a1,a2,a3,a4⟩:=r;exact⟨k1.trans t,k4.trans a1,a2,a3,fun o ho=>a4 o ((hR.S b o).1 ho)⟩
 |arr sz es =>
  obtain⟨t,l,al,a2⟩:=r;refine⟨k1.trans t,k2.trans l,al,?_⟩;rcases a2 with ⟨b1,b2,b3⟩ | ⟨b,cap,E,vs,b1,b2,b3,b4,b5,b6,b7⟩
  ·exact .inl ⟨b1,k3.trans b2,k4.trans b3⟩
  ·exact .inr ⟨b,cap,E,vs,k3.trans b1,k4.trans b2,b3,b4,b5,yD b6,fun o ho=>b7 o ((hR.S b o).1 ho)⟩
 |map sh BX =>
  obtain⟨t,b,es,ck,a1,a2,a3,a4,a5,a6⟩:=r;exact⟨k1.trans t,b,es,ck,k4.trans a1,k3.trans a2,a3,a4,fun i kv e q1 q2=>s9 (a5 i kv e q1 q2),fun o ho=>a6 o ((hR.S b o).1 ho)⟩
 |mapU sh BX =>
  obtain⟨t,b,es,ck,a1,a2,a3,a4,a5,a6⟩:=r;refine⟨k1.trans t,b,es,ck,k4.trans a1,k3.trans a2,a3,Va _ a4,fun i kv e q1 q2=>?_,fun o ho=>a6 o ((hR.S b o).1 ho)⟩;rw[AG]at q1;obtain⟨p,q3,rfl⟩:=AW.1 q1;exact(a5 i p e q3 q2).ren1 hR
 |rom sh BX =>
  obtain⟨t,b,a1,a2⟩:=r;exact⟨k1.trans t,b,k3.trans a1,s9 a2⟩
 |iter all rem FA =>
  obtain⟨t,b,mb,JT,seen,st,es,ck,a1,a2,a3,a4,a5,a6,a7,a8,a9,WV,ZV,a12,mG⟩:=r;exact⟨k1.trans t,b,mb,JT,seen,st,es,ck,k4.trans a1,k3.trans a2,a3,(hR.S _ _).2 a4,a5,a6,a7,a8,fun i kv e q1 q2=>s9 (a9 i kv e q1 q2),WV,ZV,a12,fun o ho=>mG o ((hR.S b o).1 ho)⟩
end
theorem OS{h:Nat→HO}{d:Nat}:∀{n:Nat},Dx h d n=true→∀k,k<n→h (Bo d k)=.free
 |0,_,k,hk=>by omega
 |n+1,hf,k,hk=>by
  simp only[Dx,Af]at hf
  by_cases e:k=n
  ·subst e
   have:=hf.1
   split at this
   ·rename_i e2;exact e2
   ·cases this
  ·exact OS hf.2 k (by omega)
theorem M9{d nn:Nat}:∀{σ:IV},Dh σ d nn=true→∀{i j},Cf σ i=some j→¬(Bo d 0≤i∧i<Bo d nn)
 | [],_,i,j,h=>by simp[Cf]at h
 |(a,b)::r,hs,i,j,hf=>by
  simp only[Dh,Af]at hs;unfold Cf at hf
  by_cases e1:a=i
  ·subst e1;have h1:=hs.1;simp only[CI,Bool.and_eq_false_iff]at h1;intro hc;rcases h1 with h1 | h1
   ·rw[Nat.ble_eq_true_of_le hc.1]at h1;cases h1
   ·have h2:Nat.blt a (Bo d nn)=true:=by rw[B9];exact hc.2
    rw[h2]at h1;cases h1
  ·simp only[Cz e1,Ej]at hf;exact M9 hs.2 hf
section
variable {P:Program}{w0:World}{g0:Gh}{h0 h:Nat→HO}{g:Gh}{w:World}
def Dq(σ:IV)(g:Gh):Gh :=
 ⟨fun j=>match HL σ j with | some i=>g.ρ i | none=>.nilIface,fun j=>match HL σ j with | some i=>g.ln i | none=>0,fun j=>match HL σ j with | some i=>g.tk i | none=>false,
  fun j=>match HL σ j with | some i=>g.own i | none=>none,g.S⟩
def src(σ:IV)(d nn:Nat)(i:Nat):Option Nat :=
 match Cf σ i with
 |some j=>some j
 |none=>match Nat.ble (Bo d 0) i&&Nat.blt i (Bo d nn)with |true=>some (2000+(i-Bo d 0)) |false=>none
def GF(σ:IV)(d nn:Nat)(g g' : Gh):Gh :=
 ⟨fun i=>match src σ d nn i with | some j=>g'.ρ j | none=>g.ρ i,fun i=>match src σ d nn i with | some j=>g'.ln j | none=>g.ln i,fun i=>match src σ d nn i with | some j=>g'.tk j | none=>g.tk i,
  fun i=>match src σ d nn i with | some j=>g'.own j | none=>g.own i,g'.S⟩
theorem bF(σ:IV)(d nn:Nat)(h h' : Nat→HO)(i:Nat):D4 σ d nn h h' i=match src σ d nn i with | some j=>(h' j).ren (E3 σ d nn) h' | none=>h i:=by
 unfold D4 src;cases Cf σ i with
 |some j=>rfl
 |none =>
  dsimp only;cases Nat.ble (Bo d 0) i&&Nat.blt i (Bo d nn)<;>rfl
theorem iC{σ:IV}{d nn:Nat}(hσ:Ei σ=true)(ha:Dh σ d nn=true)(i j:Nat):src σ d nn i=some j↔E3 σ d nn j=some i:=by
 have inv:=WA hσ;unfold src E3;cases h1:Cf σ i with
 |some j' =>
  have hb:=(inv i j').1 h1;dsimp only;constructor
  ·intro h;cases h;rw[hb]
  ·intro h;cases h2:HL σ j with
   |some i'=>rw[h2]at h;cases h;rw[(inv i j).2 h2]at h1;exact h1.symm
   |none =>
    rw[h2]at h;dsimp only at h;split at h
    ·rename_i hc;have h:=Ct h;subst h;simp only[Af,CV,B9]at hc;exact absurd ⟨by unfold Bo;omega,by unfold Bo;omega⟩ (M9 ha h1)
    ·cases h
 |none =>
  dsimp only;cases h2:HL σ j with
  |some i' =>
   dsimp only;have hf:=(inv i' j).2 h2;have hr:=Vk hσ hf;constructor
   ·intro h;split at h
    ·cases h;omega
    ·cases h
   ·intro h;cases h;rw[hf]at h1;cases h1
  |none =>
   dsimp only;constructor
   ·intro h;split at h
    ·rename_i hc;cases h;simp only[Af,CV,B9]at hc;have e1:(Nat.ble 2000 (2000+(i-Bo d 0))&&Nat.blt (2000+(i-Bo d 0)) (2000+nn))=true:=by
      simp only[Af,CV,B9];unfold Bo at hc⊢;omega
     rw[e1]
     have:Bo d (2000+(i-Bo d 0)-2000)=i:=by unfold Bo at hc⊢;omega
     rw[this]
    ·cases h
   ·intro h;split at h
    ·rename_i hc;have h:=Ct h;subst h;simp only[Af,CV,B9]at hc;have e1:(Nat.ble (Bo d 0) (Bo d (j-2000))&&Nat.blt (Bo d (j-2000)) (Bo d nn))=true:=by
      simp only[Af,CV,B9];unfold Bo;omega
     rw[e1]
     have:2000+(Bo d (j-2000)-Bo d 0)=j:=by unfold Bo;omega
     rw[this]
    ·cases h
theorem Wf(hI:DB w0 g0 h0 h g w){σ:IV}(hσ:Ei σ=true):Kj (Cf σ) h (Fz σ h) g (Dq σ g) w∧DB w (Dq σ g) (Fz σ h) (Fz σ h) (Dq σ g) w:=by
 have inv:=WA hσ;have Fc:∀j,Fz σ h j=match HL σ j with | some i=>(h i).ren (Cf σ) h | none=>.free:=O0 _ _ σ
 have hR:Kj (Cf σ) h (Fz σ h) g (Dq σ g) w:=by
  refine⟨fun r r' hr hu=>?_,fun b o=>Qq,hI.objs⟩;have hb:=(inv r r').1 hr;refine⟨by simp[Dq,hb],by simp[Dq,hb],by simp[Dq,hb],by simp[Dq,hb],?_⟩;unfold AP;rw[Fc,hb];exact(Md _ _ _).2 hu
 have L0:∀j,(Fz σ h j).live→∃i,HL σ j=some i∧(h i).live:=fun j hl=>by
  rw[Fc]at hl;cases e:HL σ j with
  |none=>rw[e]at hl;exact hl.elim
  |some i=>rw[e]at hl;exact⟨i,rfl,(Mc _ _ _).1 hl⟩
 have Wl:∀j i,HL σ j=some i→(Dq σ g).own j=g.own i:=fun j i e=>by simp[Dq,e]
 refine⟨hR,rfl,rfl,rfl,Al _,fun _ _ _=>rfl,hI.slt,fun j=>?_,fun j j' b hl PG e e'=>?_,fun j b hl e=>?_,fun _ _ h=>.inl h,hI.glob⟩
 ·rw[Fc];cases e:HL σ j with
  |none=>trivial
  |some i =>
   by_cases hu:AP h i
   ·exact(hI.objs i).ren hR ((inv i j).2 e) hu
   ·have:h i=.free:=BQ.1 hu
    dsimp only;rw[this];trivial
 ·obtain⟨i,e1,l1⟩:=L0 j hl;obtain⟨i',e2,l2⟩:=L0 j' PG;rw[Wl j i e1]at e;rw[Wl j' i' e2]at e';obtain rfl:=hI.inj i i' b l1 l2 e e'
  have:=(inv i j).2 e1
  rw[(inv i j').2 e2]at this;cases this;rfl
 ·obtain⟨i,e1,l1⟩:=L0 j hl;have e0:=e;rw[Wl j i e1]at e;exact⟨(hI.loc i b l1 e).1,.inr ⟨j,hl,e0⟩⟩
theorem Mq{C:(Ending→World→Prop)→Prop}(hm:∀{R R' : Ending→World→Prop},C R→(∀e w,R e w→R' e w)→C R')(hI:DB w0 g0 h0 h g w){σ:IV}{d nn:Nat}(Gw:(Ei σ&&Dx h d nn&&Dh σ d nn)=true){Q:AV→(Nat→HO)→Prop}
  (hc:DB w (Dq σ g) (Fz σ h) (Fz σ h) (Dq σ g) w→C (fun e w'=>∃v r h' g',e=Ending.returned v∧Q r h'∧BD g' w' (AP h') r v∧DB w (Dq σ g) (Fz σ h) h' g' w'∧Le (Fz σ h) (Dq σ g) w h' g' w')) {R:Ending→World→Prop}
  (ao:∀v r h' g2 w',Q r h'→DB w0 g0 h0 (D4 σ d nn h h') g2 w'→Le h g w (D4 σ d nn h h') g2 w'→BD g2 w' (AP (D4 σ d nn h h')) (ren (E3 σ d nn) h' r) v→R (.returned v) w'):C R:=by
 simp only[Af]at Gw;obtain⟨⟨hσ,hnf⟩,qr⟩:=Gw;obtain⟨hF,jZ⟩:=Wf hI hσ;have inv:=WA hσ;have kk:=iC hσ qr;refine hm (hc jZ) ?_
 rintro e w' ⟨v,r,h',g',rfl,q1,q2,q3,q4⟩
 have hb:=bF σ d nn h h';have fO:∀i j,src σ d nn i=some j→(GF σ d nn g g').ρ i=g'.ρ j∧(GF σ d nn g g').ln i=g'.ln j∧(GF σ d nn g g').tk i=g'.tk j∧(GF σ d nn g g').own i=g'.own j:=fun i j e=>by simp[GF,e]
 have u6:∀i,src σ d nn i=none→(GF σ d nn g g').ρ i=g.ρ i∧(GF σ d nn g g').ln i=g.ln i∧(GF σ d nn g g').tk i=g.tk i∧(GF σ d nn g g').own i=g.own i:=fun i e=>by simp[GF,e]
 have hB:Kj (E3 σ d nn) h' (D4 σ d nn h h') g' (GF σ d nn g g') w':=by
  refine⟨fun j i hj hu=>?_,fun b o=>Qq,q3.objs⟩;have e:=(kk i j).2 hj;obtain⟨k1,k2,k3,k4⟩:=fO i j e;refine⟨k3,k2,k1,k4,?_⟩;unfold AP;rw[hb,e];exact(Md _ _ _).2 hu
 have lO:∀j,Fz σ h j=match HL σ j with | some i=>(h i).ren (Cf σ) h | none=>.free:=O0 _ _ σ
 have uT:∀j i,Cf σ i=some j→(h i).live→(Fz σ h j).live:=fun j i e hl=>by
  rw[lO,(inv i j).1 e];exact(Mc _ _ _).2 hl
 have xW:∀j i,Cf σ i=some j→(Dq σ g).own j=g.own i:=fun j i e=>by simp[Dq,(inv i j).1 e]
 have Rv : ∀j,(Fz σ h j).live→∃i,Cf σ i=some j∧(h i).live∧(Dq σ g).own j=g.own i:=fun j hl=>by
  rw[lO]at hl;cases e:HL σ j with
  |none=>rw[e]at hl;exact hl.elim
  |some i=>rw[e]at hl;exact⟨i,(inv i j).2 e,(Mc _ _ _).1 hl,by simp[Dq,e]⟩
 -- what the callee yC not touch
 have dN:∀b,b<w.heap.size→(∀i,(h i).live→Cf σ i≠none→g.own i≠some b)→w'.heap[b]?=w.heap[b]?:=fun b DA hn=>q3.frame b DA fun j hl e=>by
  obtain⟨i,e1,l1,o1⟩:=Rv j hl;exact hn i l1 (by rw[e1];simp) (by rw[←o1];exact e)
 have uF:∀b o,g'.S b o→b<w.heap.size→(∀i,(h i).live→Cf σ i≠none→g.own i≠some b)→g.S b o:=fun b o hs DA hn=>by
  rcases q3.sg b o hs with h1 | h1 | ⟨j,h1,h2⟩
  ·exact h1
  ·omega
  ·obtain⟨i,e1,l1,o1⟩:=Rv j h1;exact absurd (by rw[←o1];exact h2) (hn i l1 (by rw[e1];simp))
 have hk:EA g w (GF σ d nn g g') w':=q4.keeps;have Ab:∀i,Cf σ i=none→src σ d nn i≠none→h i=.free:=fun i e1 e2=>by
  unfold src at e2;rw[e1]at e2;dsimp only at e2;split at e2
  ·rename_i hc;simp only[Af,CV,B9]at hc
   have:=OS hnf (i-Bo d 0) (by unfold Bo at hc⊢;omega)
   rw[show Bo d (i-Bo d 0)=i by unfold Bo at hc⊢;omega]at this;exact this
  ·exact absurd rfl e2
 have co:∀i j,Cf σ i=some j→src σ d nn i=some j:=fun i j e=>by unfold src;rw[e]
 have x6:JX g (GF σ d nn g g') (AP h):=fun i hu=>by
  cases e:Cf σ i with
  |some j =>
   obtain⟨k1,k2,k3,k4⟩:=fO i j (co i j e);obtain⟨f1,f2,f3,f4,f5⟩:=hF.ids i j e hu;obtain⟨m1,m2,m3,m4⟩:=q4.gh j f5;exact⟨(k3.trans m1).trans f1,by omega,fun t=>(k1.trans (m3 (f1.trans t))).trans f3,fun l=>(k1.trans (m4 (by omega))).trans f3⟩
  |none =>
   have e2:src σ d nn i=none:=BQ.1 fun e2=>hu (Ab i e e2);obtain⟨k1,k2,k3,k4⟩:=u6 i e2;exact⟨k3,by omega,fun _=>k1,fun _=>k1⟩
 have Kd:∀i,AP h i→AP (D4 σ d nn h h') i:=fun i hu=>by
  unfold AP;rw[hb];cases e:Cf σ i with
  |some j =>
   rw[co i j e];exact(Md _ _ _).2 (q4.us j (hF.ids i j e hu).2.2.2.2)
  |none =>
   have e2:src σ d nn i=none:=BQ.1 fun e2=>hu (Ab i e e2);rw[e2];exact hu
 have ci:∀i,(D4 σ d nn h h' i).live→(∃j,src σ d nn i=some j∧(h' j).live∧(GF σ d nn g g').own i=g'.own j)∨(src σ d nn i=none∧(h i).live∧(GF σ d nn g g').own i=g.own i∧Cf σ i=none):=fun i hl=>by
  rw[hb]at hl;cases e:src σ d nn i with
  |some j=>rw[e]at hl;exact .inl ⟨j,rfl,(Mc _ _ _).1 hl,(fO i j e).2.2.2⟩
  |none =>
   rw[e]at hl;refine .inr ⟨rfl,hl,(u6 i e).2.2.2,?_⟩;cases e2:Cf σ i with
   |none=>rfl
   |some j=>rw[co i j e2]at e;cases e
 have qv:∀j b,(h' j).live→g'.own j=some b→b<w'.heap.size∧(w.heap.size≤b∨∃i,Cf σ i≠none∧(h i).live∧g.own i=some b):=fun j b hl e=>by
  obtain⟨h1,h2⟩:=q3.loc j b hl e;refine⟨h1,h2.imp id ?_⟩
  rintro⟨j',l',e'⟩
  obtain⟨i,e1,l1,o1⟩:=Rv j' l';exact⟨i,by rw[e1];simp,l1,by rw[←o1];exact e'⟩
 have km:∀i b,(h i).live→g.own i=some b→Cf σ i=none→∀i',(h i').live→Cf σ i'≠none→g.own i'≠some b:=fun i b hl e hn i' PG XM e'=>by
  obtain rfl:=hI.inj i i' b hl PG e e';exact XM hn
 refine ao v r h' (GF σ d nn g g') w' q1 ⟨q3.os.trans hI.os,q3.tape.trans hI.tape,q3.output.trans hI.output,Br hI.size q3.size,fun b DA hn=>?_,q3.slt,fun i=>?_,fun i i' b hl PG e e'=>?_,fun i b hl e=>?_,fun b o hs=>?_,hI.glob.keep hk⟩ ⟨x6,Kd,hk⟩ (q2.ren hB)
 ·refine(dN b (Bu DA hI.size) fun i hl _ e=>?_).trans (hI.frame b DA hn);rcases(hI.loc i b hl e).2 with h1 | ⟨r',h1,h2⟩
  ·omega
  ·exact hn r' h1 h2
 ·rw[hb];cases e:src σ d nn i with
  |some j =>
   by_cases hu:AP h' j
   ·exact(q3.objs j).ren hB ((kk i j).1 e) hu
   ·have:h' j=.free:=BQ.1 hu
    dsimp only;rw[this];trivial
  |none =>
   obtain⟨k1,k2,k3,k4⟩:=u6 i e;have e2:Cf σ i=none:=by
    cases e2:Cf σ i with
    |none=>rfl
    |some j=>rw[co i j e2]at e;cases e
   refine(hI.objs i).same hk Kd x6 k1 k2 k3 k4 fun b hl ho=>?_;have DA:=(hI.loc i b hl ho).1;exact⟨dN b DA (km i b hl ho e2),fun k hs=>uF b k hs DA (km i b hl ho e2)⟩
 ·have mixed:∀i j i',(h' j).live→g'.own j=some b→(h i').live→g.own i'=some b→Cf σ i'=none→i=i':=fun i j i' l1 o1 l2 o2 n2=>by
   rcases(qv j b l1 o1).2 with h1 | ⟨i3,n3,l3,o3⟩
   ·have:=(hI.loc i' b l2 o2).1;omega
   ·exact absurd o3 (km i' b l2 o2 n2 i3 l3 n3)
  rcases ci i hl with ⟨j,s1,l1,o1⟩ | ⟨s1,l1,o1,n1⟩<;>rcases ci i' PG with ⟨j',s2,l2,o2⟩ | ⟨s2,l2,o2,n2⟩
  ·obtain rfl:=q3.inj j j' b l1 l2 (by rw[←o1];exact e) (by rw[←o2];exact e');have a1:=(kk i j).1 s1;rw[(kk i' j).1 s2]at a1;cases a1;rfl
  ·exact mixed i j i' l1 (by rw[←o1];exact e) l2 (by rw[←o2];exact e') n2
  ·exact(mixed i' j' i l2 (by rw[←o2];exact e') l1 (by rw[←o1];exact e) n1).symm
  ·exact hI.inj i i' b l1 l2 (by rw[←o1];exact e) (by rw[←o2];exact e')
 ·rcases ci i hl with ⟨j,s1,l1,o1⟩ | ⟨s1,l1,o1,n1⟩
  ·obtain⟨h1,h2⟩:=qv j b l1 (by rw[←o1];exact e);refine⟨h1,?_⟩;rcases h2 with h2 | ⟨i3,n3,l3,o3⟩
   ·exact .inl (Br hI.size h2)
   ·exact(hI.loc i3 b l3 o3).2
  ·obtain⟨h1,h2⟩:=hI.loc i b l1 (by rw[←o1];exact e);exact⟨Bu h1 q3.size,h2⟩
 ·rcases q3.sg b o hs with h1 | h1 | ⟨j,h1,h2⟩
  ·exact hI.sg b o h1
  ·exact .inr (.inl (Br hI.size h1))
  ·obtain⟨i,e1,l1,o1⟩:=Rv j h1;exact .inr (hI.loc i b l1 (by rw[←o1];exact h2)).2
theorem eB(hI:DB w0 g0 h0 h g w){σ:IV}{d nn:Nat}(Gw:(Ei σ&&Dx h d nn&&Dh σ d nn)=true){f:Nat}{args:List AV}{Q:AV→(Nat→HO)→Prop}(hc:A3 P f args (Fz σ h) Q){vals:Array Value}(hs:vals.size=args.length)
  (hv:∀(i:Nat) (av:AV) (x:Value),args[i]?=some av→vals[i]?=some x→BD (Dq σ g) w (AP (Fz σ h)) av x) {R:Ending→World→Prop}
  (ao:∀v r h' g2 w',Q r h'→DB w0 g0 h0 (D4 σ d nn h h') g2 w'→Le h g w (D4 σ d nn h h') g2 w'→BD g2 w' (AP (D4 σ d nn h h')) (ren (E3 σ d nn) h' r) v→R (.returned v) w'):Calls P f vals w R :=
 Mq (C:=Calls P f vals w) (fun h k=>h.mono k) hI Gw (hc.2 (Dq σ g) w vals hs hv) ao
end
structure SR(N:Nat)(ds:List Deferred)(w0:World)(g0:Gh)(h0:Nat→HO)(st:St)(g:Gh)(a:Act)(w:World):Prop where
 inv:DB w0 g0 h0 st.h g w
 le:Le h0 g0 w0 st.h g w
 dfs:a.defers=ds
 size:a.tmps.size=N
 slots:∀i,BD g w (AP st.h) (st.t i) (a.tmps.getD i undef)
section
variable {P:Program}{N:Nat}{ds:List Deferred}{w0:World}{g0:Gh}{h0:Nat→HO}{st:St}{g:Gh}{a:Act}{w:World}
theorem SR.eval(hS:SR N ds w0 g0 h0 st g a w)(x:Operand):BD g w (AP st.h) (ev st.t x) (a.eval x):=by
 cases x with
 |tmp i=>exact hS.slots i
 |const v=>exact .v _ _
 |global b=>exact .v _ _
 |func f=>exact .v _ _
theorem SR.put(hS:SR N ds w0 g0 h0 st g a w){d:Option Nat}(hd:∀i,d=some i→i<N){v:AV}{x:Value}{h' : Nat→HO}{g' : Gh}{w' : World}(hI:DB w0 g0 h0 h' g' w')(Ho:Le st.h g w h' g' w')(hr:BD g' w' (AP h') v x) :
  SR N ds w0 g0 h0 (st.put d v h') g' (a.put d x) w':=by
 have old:∀i,BD g' w' (AP h') (st.t i) (a.tmps.getD i undef):=fun i=>(hS.slots i).le Ho;cases d with
 |none=>exact⟨hI,hS.le.trans Ho,hS.dfs,hS.size,old⟩
 |some d =>
  have uV:=hd d rfl;refine⟨hI,hS.le.trans Ho,hS.dfs,by simp[Act.put,hS.size],fun i=>?_⟩;simp only[St.put,Act.put,G4]
  by_cases e:i=d
  ·subst e
   have:i<a.tmps.size:=by rw[hS.size];exact uV
   simp only[CN,JJ];rw[Cg,Array.getElem?_setIfInBounds_self,Ao this];exact hr
  ·simp only[Cz e,Ej];rw[Cg,Array.getElem?_setIfInBounds_ne (T5 e),←Cg];exact old i
def YG(w0:World)(g0:Gh)(h0 h:Nat→HO)(g:Gh)(w:World)(K:HK)(next:Value→World→Prop):Prop :=
 ∀v h' g' w' x,K v h'→DB w0 g0 h0 h' g' w'→Le h g w h' g' w'→BD g' w' (AP h') v x→next x w'
theorem DU{o:Oper}{m:Sem Value}{K:HK}{next:Act→World→Prop}{Q:Exit→Act→World→Prop}(hx:execOp a.eval o=(do pure (Next.value (←m))))(hd:N0 P w0 g0 h0 st.h g w m K)
  (hn:YG w0 g0 h0 st.h g w K fun x w'=>next (a.put o.dst x) w'):o.wp P a w next Q:=by
 obtain⟨x,w',g',av,h',h1,h2,h3,h4,h5⟩:=hd;unfold Oper.wp;rw[hx,Sem.run_bind,h1];exact hn av h' g' w' x h2 h3 h4 h5
theorem WL{o:Oper}{m:Sem Unit}{K:HK}{next:Act→World→Prop}{Q:Exit→Act→World→Prop}(hx:execOp a.eval o=(do m;pure Next.skip))(hd:dS P w0 g0 h0 st.h g w m K)
  (hn:YG w0 g0 h0 st.h g w K fun x w'=>next (a.put o.dst x) w'):o.wp P a w next Q:=by
 obtain⟨w',g',h',h1,h2,h3,h4⟩:=hd;unfold Oper.wp;rw[hx,Sem.run_bind,h1];exact hn _ h' g' w' undef h2 h3 h4 (.v _ _)
theorem bp{o:Oper}{K:HK}{next:Act→World→Prop}{Q:Exit→Act→World→Prop}{v:AV}{x:Value}(hI:DB w0 g0 h0 st.h g w)(hx:(execOp a.eval o).run P w=.ok (.value x) w)(hk:K v st.h)(hr:BD g w (AP st.h) v x)
  (hn:YG w0 g0 h0 st.h g w K fun x w'=>next (a.put o.dst x) w'):o.wp P a w next Q:=by
 unfold Oper.wp;rw[hx];exact hn _ _ _ _ _ hk hI (.refl _ _ _) hr
theorem Sa{C:(Ending→World→Prop)→Prop}(hm:∀{R R' : Ending→World→Prop},C R→(∀e w,R e w→R' e w)→C R')(hI:DB w0 g0 h0 st.h g w){Q:AV→(Nat→HO)→Prop}
  (hc:DB w g Ab Ab g w→C (fun e w'=>∃v r h' g',e=Ending.returned v∧Q r h'∧BD g' w' (AP h') r v∧DB w g Ab h' g' w'∧Le Ab g w h' g' w')) {R:Ending→World→Prop}
  (hR:∀v r h' g' w',Q r h'→h'=Ab→DB w0 g0 h0 st.h g' w'→Le st.h g w st.h g' w'→BD g' w' Fi r v→R (.returned v) w') (hQ:∀r h',Q r h'→h'=Ab):C R:=by
 have hU:AP Ab=Fi:=by funext i;unfold AP Fi Ab;simp
 have jZ:DB w g Ab Ab g w:=⟨rfl,rfl,rfl,Al _,fun _ _ _=>rfl,hI.slt,fun _=>trivial,fun _ _ _ h=>h.elim,fun _ _ h=>h.elim,fun _ _ h=>.inl h,hI.glob⟩;refine hm (hc jZ) ?_
 rintro e w' ⟨v,r,h',g',rfl,q1,q2,q3,q4⟩
 obtain rfl:=hQ r h' q1;rw[hU]at q2
 -- the caller's ghost,with the callee's stable cells
 have hk:EA g w ⟨g.ρ,g.ln,g.tk,g.own,g'.S⟩ w':=q4.keeps;have hg:JX g ⟨g.ρ,g.ln,g.tk,g.own,g'.S⟩ (AP st.h):=fun _ _=>⟨rfl,Al _,fun _=>rfl,fun _=>rfl⟩;have dN:∀b,b<w.heap.size→w'.heap[b]?=w.heap[b]?:=fun b hb=>q3.frame b hb (fun _ h=>h.elim);have uF:∀b o,g'.S b o→b<w.heap.size→g.S b o:=fun b o hs hb=>by
  rcases q3.sg b o hs with h1 | h1 | ⟨_,h1,_⟩
  ·exact h1
  ·omega
  ·exact h1.elim
 refine hR v r Ab ⟨g.ρ,g.ln,g.tk,g.own,g'.S⟩ w' q1 rfl ⟨q3.os.trans hI.os,q3.tape.trans hI.tape,q3.output.trans hI.output,Br hI.size q3.size,fun b hb hn=>?_,q3.slt,fun i=>?_,hI.inj,fun i b hl ho=>?_,fun b o hs=>?_,hI.glob.keep hk⟩ ⟨hg,fun _ h=>h,hk⟩ ?_
 ·exact(dN b (Bu hb hI.size)).trans (hI.frame b hb hn)
 ·refine(hI.objs i).same hk (fun _ h=>h) hg rfl rfl rfl rfl (fun b hl ho=>?_);have DA:=(hI.loc i b hl ho).1;exact⟨dN b DA,fun k hs=>uF b k hs DA⟩
 ·obtain⟨h1,h2⟩:=hI.loc i b hl ho;exact⟨Bu h1 q3.size,h2⟩
 ·rcases q3.sg b o hs with h1 | h1 | ⟨_,h1,_⟩
  ·exact hI.sg b o h1
  ·exact .inr (.inl (Br hI.size h1))
  ·exact h1.elim
 ·have:EA g' w' ⟨g.ρ,g.ln,g.tk,g.own,g'.S⟩ w':=fun b o h=>⟨h,rfl,fun _ _ h=>h⟩
  exact q2.mono this (fun _ h=>h) (fun _ h=>h.elim)
theorem bK(hI:DB w0 g0 h0 st.h g w){f:Nat}{args:List AV}{Q:AV→(Nat→HO)→Prop}(hc:A3 P f args Ab Q){vals:Array Value}(hs:vals.size=args.length)
  (hv:∀(i:Nat) (av:AV) (x:Value),args[i]?=some av→vals[i]?=some x→BD g w Fi av x) {R:Ending→World→Prop}
  (hR:∀v r h' g' w',Q r h'→h'=Ab→DB w0 g0 h0 st.h g' w'→Le st.h g w st.h g' w'→BD g' w' Fi r v→R (.returned v) w') (hQ:∀r h',Q r h'→h'=Ab):Calls P f vals w R :=
 have hU:AP Ab=Fi:=by funext i;unfold AP Fi Ab;simp
 Sa (C:=Calls P f vals w) (fun h k=>h.mono k) hI (hc.2 g w vals hs (fun i av x h1 h2=>by rw[hU];exact hv i av x h1 h2)) hR hQ
theorem YieldAt.imp{F:Fence}{m:Nat}{P:Program}{l:Nat}{args:Array Value}{W:World}{R R' : Ending→World→Prop}(h:YieldAt F m P l args W R)(hr:∀e w,R e w→R' e w):YieldAt F m P l args W R' :=
 let ⟨fn,t,a,b,h1,h2⟩:=h
 ⟨fn,t,a,b,h1,h2.mono hr⟩
theorem IM.imp{Y:Gh→World→Prop}{l:Nat}{args:List AV}{h0:Nat→HO}{Q Q' : AV→(Nat→HO)→Prop}(h:IM P Y l args h0 Q)(hq:∀r h',Q r h'→Q' r h'):IM P Y l args h0 Q' :=
 fun g w vals q1 q2 q3 q4=>YieldAt.imp (h g w vals q1 q2 q3 q4) fun _ _ ⟨v,r,h',g',e1,e2,rest⟩=>⟨v,r,h',g',e1,hq _ _ e2,rest⟩
theorem F0.imp{Y:Nat→Gh→World→Prop}{F:AV}{args:List AV}{h0:Nat→HO}{Q Q' : AV→(Nat→HO)→Prop}(h:F0 P Y F args h0 Q)(hq:∀r h',Q r h'→Q' r h'):F0 P Y F args h0 Q':=by
 have one:∀{f:Nat} {l:List AV},A3 P f l h0 Q→A3 P f l h0 Q':=fun hc =>
  ⟨hc.1,fun g w vals q1 q2 q3=>(hc.2 g w vals q1 q2 q3).mono fun _ _ ⟨v,r,h',g',e1,e2,rest⟩=>⟨v,r,h',g',e1,hq _ _ e2,rest⟩⟩
 unfold F0 at h⊢;split at h
 ·exact one h
 ·exact one h
 ·exact IM.imp h hq
 ·exact h.elim
abbrev JG(ro:Option Nat):Fence:={ Fence.wide with round:=ro }
theorem MG{ro:Option Nat}{o:Oper}{a:Act}{w:World}{next:Act→World→Prop}{Q:Exit→Act→World→Prop}(hd:∀c,o.op≠.defer c)(h:o.wp P a w next Q):o.wpIn (JG ro) 0 P a w next Q:=by
 refine⟨fun _ _=>trivial,?_⟩;have e:o.semAt (JG ro).round a.eval=execOp a.eval o:=Oper.semAt_eq ro a.eval o hd;rw[e];unfold Oper.wp at h;have key:∀res:Result Next,o.upon P a next Q res→o.uponIn (JG ro) 0 P a next Q res:=fun res h=>by
  cases res with
  |ok n w'=>cases n with
   |enter f args=>exact(show(_→_)∧CallsIn (JG ro) 0 P f args w' _ from⟨fun e=>by(cases e),callsIn_wide.2 h⟩)
   |row r args=>exact(show(_→_)∧RowsIn (JG ro) 0 P r args w' _ from⟨fun e=>by(cases e),fun c cs _=>by
     obtain⟨v,bo,r',s⟩:=h c cs;exact⟨v,bo,r',stepsIn_wide.2 s⟩⟩)
   |round _ _ _ _ _=>exact h.elim
   |_=>exact h
  |halt x w'=>cases x<;>exact h
 exact key _ h
theorem Gy{f:Nat}{args:Array Value}(h:F1 P f)(w:World):(callFunc f args).run P w=.ok (.enter f args) w:=by
 obtain⟨fn,h1,h2,h3⟩:=h;simp only[callFunc,Sem.run_bind,run_program,h1,Result.andThen_ok,h2,h3,Dd,Gk,Sem.run_pure]
theorem TB{h:Nat→HO}{a:AV}(ha:aJ a=true):ren (Cf []) h a=str h a:=by
 have h0:∀a,ren0 (Cf []) h a=str0 h a:=fun a=>by
  cases a with
  |slice tk es=>cases tk<;>rfl
  |_=>rfl
 cases a with
 |tup cs=>cases ha
 |agg cs=>show AV.agg _=AV.agg _;exact Ac _ (A5 fun c _=>h0 c)
 |clo f cs=>show AV.clo f _=AV.clo f _;exact Ac _ (A5 fun c _=>h0 c)
 |v x=>exact h0 (.v x)
 |slice tk es=>exact h0 (.slice tk es)
 |msl r n=>exact h0 (.msl r n)
 |cptr cs=>exact h0 (.cptr cs)
 |ref r o=>exact h0 (.ref r o)
 |eref r n sz i o=>exact h0 (.eref r n sz i o)
 |mref r=>exact h0 (.mref r)
 |cmap sh l=>exact h0 (.cmap sh l)
 |junk=>rfl
theorem PW{h:Nat→HO}:∀{l:List AV},To l=true→l.map (ren (Cf []) h)=l.map (str h)
 | [],_=>rfl
 |a::l,e=>by
  unfold To at e;split at e
  ·rename_i e1;rw[AL,AL,TB e1,PW e]
  ·cases e
theorem Qm:∀{l:List AV} {vs:List Value},Vv l=some vs→l=vs.map .v
 | [],vs,h=>by cases h;rfl
 |.v x::r,vs,h=>by
  unfold Vv at h;split at h
  ·rename_i l e;cases h;rw[AL,←Qm e]
  ·cases h
theorem bJ{cx:Cx}{d:Option Nat}{st:St}{F:AV}{args:List AV}{K:HK}(hk:Gi cx true d st F args K):Gi cx false d st F args K:=by
 unfold Gi at hk;simp only at hk;split at hk
 ·exact⟨.pure,hk⟩
 ·split at hk
  ·exact hk.elim
  ·rename_i d _;obtain⟨n,sz,es,h1,h2,h3⟩:=hk;simp only[Af]at h1;refine⟨.gen [] 1,?_⟩;show(Ei []&&Dx st.h d 1&&Dh [] d 1)=true∧_;refine⟨by simp[Ei,Dh,h1.1.1],?_⟩;rw[TB h1.1.2,PW h1.2];show F0 cx.P (fun l=>cx.yp l []) _ _ Ab _;refine F0.imp h2 ?_
   rintro r h' ⟨e2,e3⟩
   subst e2;subst e3;have e1:ren (E3 [] d 1) (Ai [(2000,.arr sz es)] Ab) (.msl 2000 n)=.msl (Bo d 0) n:=rfl;have e2:D4 [] d 1 st.h (Ai [(2000,.arr sz es)] Ab)=AT st.h (Bo d 0) (.arr sz es):=by
    funext i
    by_cases e:i=Bo d 0
    ·subst e;rw[Ba];have hb:(Nat.ble (Bo d 0) (Bo d 0)&&Nat.blt (Bo d 0) (Bo d 1))=true:=by
      unfold Bo;simp only[Af,CV,B9];omega
     simp only[D4,Cf,hb,Gg];rfl
    ·rw[BV _ _ _ _ e]
     have:(Nat.ble (Bo d 0) i&&Nat.blt i (Bo d 1))=false:=by
      unfold Bo at e⊢;rw[AM];simp only[Vc,Af,CV,B9];omega
     simp only[D4,Cf,this]
   rw[e1,e2];exact h3
 ·split at hk
  ·unfold TV at hk;split at hk
   ·exact hk.elim
   ·rename_i d _;obtain⟨sz,es,h1,h2,h3⟩:=hk;simp only[Af]at h1;refine⟨.gen [] 1,?_⟩;show(Ei []&&Dx st.h d 1&&Dh [] d 1)=true∧_;refine⟨by simp[Ei,Dh,h1.1.1],?_⟩;rw[TB h1.1.2,PW h1.2];show F0 cx.P (fun l=>cx.yp l []) _ _ Ab _;refine F0.imp h2 ?_
    rintro r h' ⟨e2,e3⟩
    subst e2;subst e3;have e1:ren (E3 [] d 1) (Ai [(2000,.tok sz es.length)] Ab) (.slice (.id 2000 sz) es)=.slice (.id (Bo d 0) sz) es:=rfl;have e2:D4 [] d 1 st.h (Ai [(2000,.tok sz es.length)] Ab)=AT st.h (Bo d 0) (.tok sz es.length):=by
     funext i
     by_cases e:i=Bo d 0
     ·subst e;rw[Ba];have hb:(Nat.ble (Bo d 0) (Bo d 0)&&Nat.blt (Bo d 0) (Bo d 1))=true:=by
       unfold Bo;simp only[Af,CV,B9];omega
      simp only[D4,Cf,hb,Gg];rfl
     ·rw[BV _ _ _ _ e]
      have:(Nat.ble (Bo d 0) i&&Nat.blt i (Bo d 1))=false:=by
       unfold Bo at e⊢;rw[AM];simp only[Vc,Af,CV,B9];omega
      simp only[D4,Cf,this]
    rw[e1,e2];exact h3
  split at hk
  ·unfold Qn at hk;split at hk
   ·rename_i d l vs e2 z1;have hl:=Qm e2;split at hk
    ·rename_i r sz es bl n e3 e4;obtain⟨⟨rfl,rfl⟩,v,FB,n',h1,h2⟩:=hk;refine⟨.gen [(1000,1000),(1001,1001)] 0,?_⟩;show(Ei [(1000,1000),(1001,1001)]&&Dx st.h d 0&&Dh [(1000,1000),(1001,1001)] d 0)=true∧_;refine⟨?_,?_⟩
     ·have:Dh [(1000,1000),(1001,1001)] d 0=true:=by
       have q:∀r:Nat,(Nat.ble (Bo d 0) r&&Nat.blt r (Bo d 0))=false:=fun r=>by
        rw[AM];simp only[Vc,Af,CV,B9];omega
       simp only[Dh,q,Bool.not_false,Bool.and_self]
      rw[this];rfl
     have f1:args.map (ren (Cf [(1000,1000),(1001,1001)]) st.h)=vs.map .v:=by rw[hl,BB];rfl
     have f2:Fz [(1000,1000),(1001,1001)] st.h=Ai [(1000,.cells [.slice (.id 1001 bl) es]),(1001,.tok bl n)] Ab:=by
      unfold Fz Wz Wz Wz;rw[e3,e4];rfl
     rw[f1,f2];refine IM.imp h1 ?_
     rintro r h' ⟨g1,g2⟩
     subst g1;subst g2;have f3:D4 [(1000,1000),(1001,1001)] d 0 st.h (Ai [(1000,.cells [.slice (.id 1001 bl) FB]),(1001,.tok bl n')] Ab)=AT (AT st.h 1001 (.tok bl n')) 1000 (.cells [.slice (.id 1001 bl) FB]):=by
      funext i
      by_cases e:i=1000
      ·subst e;rw[Ba];rfl
      ·rw[BV _ _ _ _ e]
       by_cases e' : i=1001
       ·subst e';rw[Ba];rfl
       ·rw[BV _ _ _ _ e'];have hn:Cf [(1000,1000),(1001,1001)] i=none:=by simp[Cf,Cz (Ne.symm e),Cz (Ne.symm e')]
        have:(Nat.ble (Bo d 0) i&&Nat.blt i (Bo d 0))=false:=by
         rw[AM];simp only[Vc,Af,CV,B9];omega
        simp only[D4,hn,this]
     rw[f3];exact h2
    ·exact hk.elim
   ·exact hk.elim
  unfold Pc at hk;split at hk
  ·unfold XC at hk;split at hk
   ·rename_i d f _;obtain⟨σ,H0,Hn,args',res,g1,g2,g3,g4⟩:=hk;simp only[Af]at g2;obtain⟨k1,k2⟩:=g1 st.h fun _ _=>rfl;refine⟨.gen σ 0,?_⟩;show(Ei σ&&Dx st.h d 0&&Dh σ d 0)=true∧_;refine⟨by rw[g2.1.1,g2.1.2];rfl,?_⟩;rw[k1,k2];refine F0.imp (show F0 cx.P (fun l=>cx.yp l σ) (.v (.func (.func f) ⟨[]⟩ ⟨[]⟩)) args' (Ai H0 Ab) (fun r h'=>r=res∧h'=Ai Hn Ab)from g3) ?_
    rintro r h' ⟨e1,e2⟩
    rw[e1,e2];exact g4
   ·exact hk.elim
  unfold Q0 at hk;split at hk
  ·rename_i dd f r n l _;split at hk
   ·rename_i vs dP;have hl:=Qm dP;subst hl;split at hk
    ·rename_i sz es hr;have hf:Cf [(r,1000)] r=some 1000:=by simp[Cf]
     have e1:ren (Cf [(r,1000)]) st.h (.v (.func (.func f) ⟨[]⟩ ⟨[]⟩))=.v (.func (.func f) ⟨[]⟩ ⟨[]⟩):=rfl;have e2:(AV.msl r n::vs.map AV.v).map (ren (Cf [(r,1000)]) st.h)=.msl 1000 n::vs.map .v:=by
      rw[AL]
      congr 1
      ·simp[ren,ren1,ren0,hf]
      ·rw[BB];rfl
     have e3:Fz [(r,1000)] st.h=Ai [(1000,.arr sz es)] Ab:=by
      unfold Fz Wz;rw[hr];rfl
     split at hk
     ·obtain⟨n',FB,h1,h2⟩:=hk;refine⟨.gen [(r,1000)] 0,?_⟩;show(Ei [(r,1000)]&&Dx st.h dd 0&&Dh [(r,1000)] dd 0)=true∧_;refine⟨?_,?_⟩
      ·have:Dh [(r,1000)] dd 0=true:=by
        unfold Dh
        have:(Nat.ble (Bo dd 0) r&&Nat.blt r (Bo dd 0))=false:=by
         rw[AM];simp only[Vc,Af,CV,B9];omega
        rw[this];rfl
       rw[this];rfl
      rw[e1,e2,e3];refine⟨h1.1,fun g w vals q1 q2 q3=>(h1.2 g w vals q1 q2 q3).mono fun _ _ ⟨v,r',h',g',e1,⟨e2,e3⟩,rest⟩=>⟨v,r',h',g',e1,?_,rest⟩⟩;subst e2;subst e3;have f1:ren (E3 [(r,1000)] dd 0) (Ai [(1000,.arr sz FB)] Ab) (.msl 1000 n')=.msl r n':=rfl;have f2:D4 [(r,1000)] dd 0 st.h (Ai [(1000,.arr sz FB)] Ab)=AT st.h r (.arr sz FB):=by
       funext i
       by_cases e:i=r
       ·subst e;rw[Ba];simp[D4,hf,Ai,HO.ren]
       ·rw[BV _ _ _ _ e];have hn:Cf [(r,1000)] i=none:=by simp[Cf,Cz (Ne.symm e)]
        have:(Nat.ble (Bo dd 0) i&&Nat.blt i (Bo dd 0))=false:=by
         rw[AM];simp only[Vc,Af,CV,B9];omega
        simp only[D4,hn,this]
      rw[f1,f2];exact h2
     ·obtain⟨n',FB,h0,h1,h2⟩:=hk;simp only[Af,B9,CI]at h0;have vG:r≠Bo dd 0:=fun e=>by have:=h0.2;rw[e]at this;simp at this
      refine⟨.gen [(r,1000)] 1,?_⟩;show(Ei [(r,1000)]&&Dx st.h dd 1&&Dh [(r,1000)] dd 1)=true∧_;refine⟨?_,?_⟩
      ·have:Dh [(r,1000)] dd 1=true:=by
        unfold Dh
        have:(Nat.ble (Bo dd 0) r&&Nat.blt r (Bo dd 1))=false:=by
         rw[AM];simp only[Vc,Af,CV,B9];unfold Bo at vG⊢;omega
        rw[this];rfl
       rw[this,h0.1.1];rfl
      rw[e1,e2,e3];refine⟨h1.1,fun g w vals q1 q2 q3=>(h1.2 g w vals q1 q2 q3).mono fun _ _ ⟨v,r',h',g',e1,⟨e2,e3⟩,rest⟩=>⟨v,r',h',g',e1,?_,rest⟩⟩;subst e2;subst e3;have f1:ren (E3 [(r,1000)] dd 1) (Ai [(1000,.dead),(2000,.arr sz FB)] Ab) (.msl 2000 n')=.msl (Bo dd 0) n':=rfl;have f2:D4 [(r,1000)] dd 1 st.h (Ai [(1000,.dead),(2000,.arr sz FB)] Ab)=AT (AT st.h r .dead) (Bo dd 0) (.arr sz FB):=by
       funext i
       by_cases e:i=Bo dd 0
       ·subst e;rw[Ba];have hn:Cf [(r,1000)] (Bo dd 0)=none:=by simp[Cf,Cz vG]
        have hb:(Nat.ble (Bo dd 0) (Bo dd 0)&&Nat.blt (Bo dd 0) (Bo dd 1))=true:=by
         unfold Bo;simp only[Af,CV,B9];omega
        simp only[D4,hn,hb,Gg];rfl
       ·rw[BV _ _ _ _ e]
        by_cases e4:i=r
        ·subst e4;rw[Ba];simp[D4,hf,Ai,HO.ren]
        ·rw[BV _ _ _ _ e4];have hn:Cf [(r,1000)] i=none:=by simp[Cf,Cz (Ne.symm e4)]
         have:(Nat.ble (Bo dd 0) i&&Nat.blt i (Bo dd 1))=false:=by
          rw[AM];simp only[Vc,Af,CV,B9];unfold Bo at e⊢;omega
         simp only[D4,hn,this]
      rw[f1,f2];exact h2
    ·exact hk.elim
   ·exact hk.elim
  ·exact hk.elim
theorem eu{cx:Cx}{dr:Bool}{d:Option Nat}{f:Operand}{args:Array Operand}{GJ:Array TypeId}{dst:Option Nat}{ty:Nat}{pos:String}{after:Array Edge}{gd:Option (Nat×Bool)}{K:HK}{next:Act→World→Prop}{Q:Exit→Act→World→Prop}
  (hP:cx.P=P) (hY:∀l σ h g w,Ei σ=true→DB w0 g0 h0 h g w→Le h0 g0 w0 h g w→cx.yp l σ (Dq σ g) w) {ro:Option Nat} (hS:SR N ds w0 g0 h0 st g a w) (hk:Gi cx dr d st (ev st.t f) (args.toList.map (ev st.t)) K)
  (hn:YG w0 g0 h0 st.h g w K fun x w'=>next (a.put dst x) w'):Oper.wpIn (JG ro) 0 P ⟨dst,.call ⟨.value f,args,GJ⟩,ty,pos,after,gd⟩ a w next Q:=by
 subst hP;have hk:Gi cx false d st (ev st.t f) (args.toList.map (ev st.t)) K:=by
  cases dr with
  |true=>exact bJ hk
  |false=>exact hk
 have Ji:∀(i:Nat) (av:AV) (x:Value),((args.toList.map (ev st.t)).map (str st.h))[i]?=some av→(args.map a.eval)[i]?=some x→BD g w Fi av x:=by
  intro i av x h1 h2;rw[AG,AG]at h1;rw[NZ]at h2;cases ho:args[i]? with
  |none=>rw[ho]at h2;simp at h2
  |some y =>
   rw[ho]at h2;have hy:args.toList[i]?=some y:=by simpa using ho
   rw[hy]at h1;simp only[Fy,Bi]at h1 h2;subst h1;subst h2;exact BD.str hS.inv.objs (hS.eval y)
 have Cq:(args.map a.eval).size=((args.toList.map (ev st.t)).map (str st.h)).length:=by simp
 have hF:=BD.str hS.inv.objs (hS.eval f)
 -- a call of yield
 have yl:∀(l:Nat) (R:Ending→World→Prop),a.eval f=.func (.yield l) #[] #[]→YieldAt Fence.wide 0 cx.P l (args.map a.eval) w R→(∀e w',R e w'→∃v,e=.returned v∧next (a.put dst v) w') →
   Oper.wpIn (JG ro) 0 cx.P ⟨dst,.call ⟨.value f,args,GJ⟩,ty,pos,after,gd⟩ a w next Q:=by
  rintro l R hx ⟨fn,tm,GB,bd,h1,h2⟩ hR
  refine⟨fun _ _=>trivial,?_⟩;have e:(⟨dst,.call ⟨.value f,args,GJ⟩,ty,pos,after,gd⟩:Oper).semAt (JG ro).round a.eval=execOp a.eval ⟨dst,.call ⟨.value f,args,GJ⟩,ty,pos,after,gd⟩:=Oper.semAt_eq ro a.eval _ (fun c e=>by cases e);have CD:(execOp a.eval ⟨dst,.call ⟨.value f,args,GJ⟩,ty,pos,after,gd⟩).run cx.P w=.ok (.round l fn tm GB bd) w:=by
   simp only[execOp,resolve,hx,Deferred.ofValue,Sem.run_bind,Sem.run_pure,Result.andThen_ok,invoke];simpa using h1
  rw[e,CD];refine(show(_→_)∧RoundIn (JG ro) 0 cx.P l fn tm GB bd w _ from⟨fun e=>by(cases e),RoundIn.mono h2 fun e w' h=>?_⟩);obtain⟨v,rfl,hn⟩:=hR e w' h;exact hn
 -- the call itself
 have go:∀(Q' : AV→(Nat→HO)→Prop),(∀r h',Q' r h'→h'=Ab∧K r st.h)→F0 cx.P (fun _ _ _=>True) (str st.h (ev st.t f)) ((args.toList.map (ev st.t)).map (str st.h)) Ab Q' →
   Oper.wpIn (JG ro) 0 cx.P ⟨dst,.call ⟨.value f,args,GJ⟩,ty,pos,after,gd⟩ a w next Q:=by
  intro Q' hQ hc
  have fin:∀{fn:Nat} {l:List AV} {vals:Array Value},A3 cx.P fn l Ab Q'→vals.size=l.length→(∀(i:Nat) (av:AV) (x:Value),l[i]?=some av→vals[i]?=some x→BD g w Fi av x) →
    (execOp a.eval ⟨dst,.call ⟨.value f,args,GJ⟩,ty,pos,after,gd⟩).run cx.P w=.ok (.enter fn vals) w→Oper.wpIn (JG ro) 0 cx.P ⟨dst,.call ⟨.value f,args,GJ⟩,ty,pos,after,gd⟩ a w next Q:=by
   intro fn l vals hc hs hv CD;refine MG (fun c e=>by cases e) ?_;unfold Oper.wp;rw[CD];exact bK hS.inv hc hs hv (fun v r h' g' w' hq _ hI Ho hr=>hn r _ g' w' v (hQ r h' hq).2 hI Ho (hr.up _)) (fun r h' hq=>(hQ r h' hq).1)
  unfold F0 at hc;split at hc
  ·rename_i fn e;rw[e]at hF;have hx:=hF.v_eq;refine fin hc Cq Ji ?_;have Ly : a.eval f=.func (.func fn) #[] #[]:=hx;simp only[execOp,resolve,Ly,Deferred.ofValue,Sem.run_bind,Sem.run_pure,Result.andThen_ok,invoke];rw[Gy hc.1];simp
  ·rename_i fn caps e;rw[e]at hF;generalize hx:a.eval f=fv at hF;cases hF with
   |clo _ _ _ vs Ew OH =>
    refine fin hc (vals:=args.map a.eval++vs) (by simp[Ew]) (fun i av x h1 h2=>?_) ?_
    ·rw[LI]at h1;rw[HU]at h2;have hl:((args.toList.map (ev st.t)).map (str st.h)).length=(args.map a.eval).size:=Cq.symm;rw[hl]at h1;split at h1
     ·rename_i hi;rw[Ao hi]at h2;exact Ji i av x h1 h2
     ·rename_i hi;rw[Ah hi]at h2;exact OH _ av x h1 h2
    ·simp only[execOp,resolve,hx,Deferred.ofValue,Sem.run_bind,Sem.run_pure,Result.andThen_ok,invoke];rw[Gy hc.1];simp
  ·rename_i l e;rw[e]at hF;have hU:AP Ab=Fi:=by funext i;unfold AP Fi Ab;simp
   refine yl l _ hF.v_eq (Sa (C:=YieldAt Fence.wide 0 cx.P l (args.map a.eval) w) (R:=fun e w'=>∃v,e=.returned v∧next (a.put dst v) w') YieldAt.imp hS.inv (fun jZ=>hc g w _ Cq (fun i av x h1 h2=>by rw[hU];exact Ji i av x h1 h2) jZ trivial)
    (fun v r h' g' w' hq _ hI Ho hr=>⟨v,rfl,hn r _ g' w' v (hQ r h' hq).2 hI Ho (hr.up _)⟩) (fun r h' hq=>(hQ r h' hq).1)) fun _ _ h=>h
  ·exact hc.elim
 have pure:(∃res,Pp cx.P (str st.h (ev st.t f)) ((args.toList.map (ev st.t)).map (str st.h)) res∧K res st.h)→Oper.wpIn (JG ro) 0 cx.P ⟨dst,.call ⟨.value f,args,GJ⟩,ty,pos,after,gd⟩ a w next Q:=by
  rintro⟨res,h1,h2⟩
  refine go (fun r h'=>r=res∧h'=Ab) (fun r h' hq=>⟨hq.2,by rw[hq.1];exact h2⟩) ?_;unfold Pp at h1;unfold F0;split at h1
  ·rename_i fn e;rw[e];exact h1
  ·rename_i fn caps e;rw[e];exact h1
  ·exact h1.elim
 unfold Gi at hk
 ·obtain⟨m,hm⟩:=hk;cases m with
  |pure=>exact pure hm
  |rel=>exact go _ (fun r h' hq=>hq) hm
  |gen σ nn =>
   simp only at hm;cases d with
   |none=>exact hm.elim
   |some d =>
    simp only at hm;obtain⟨Gw,hc⟩:=hm;have hσ:Ei σ=true:=by simp only[Af]at Gw;exact Gw.1.1
    obtain⟨hR,_⟩:=Wf hS.inv hσ;have fG:=(hS.eval f).ren hR;have SE:∀(i:Nat) (av:AV) (x:Value),((args.toList.map (ev st.t)).map (ren (Cf σ) st.h))[i]?=some av→(args.map a.eval)[i]?=some x→BD (Dq σ g) w (AP (Fz σ st.h)) av x:=by
     intro i av x h1 h2;rw[AG,AG]at h1;rw[NZ]at h2;cases ho:args[i]? with
     |none=>rw[ho]at h2;simp at h2
     |some y =>
      rw[ho]at h2;have hy:args.toList[i]?=some y:=by simpa using ho
      rw[hy]at h1;simp only[Fy,Bi]at h1 h2;subst h1;subst h2;exact(hS.eval y).ren hR
    have Lq:(args.map a.eval).size=((args.toList.map (ev st.t)).map (ren (Cf σ) st.h)).length:=by simp
    have fin:∀{fn:Nat} {l:List AV} {vals:Array Value},A3 cx.P fn l (Fz σ st.h) (fun r h'=>K (ren (E3 σ d nn) h' r) (D4 σ d nn st.h h'))→vals.size=l.length →
      (∀(i:Nat) (av:AV) (x:Value),l[i]?=some av→vals[i]?=some x→BD (Dq σ g) w (AP (Fz σ st.h)) av x) →
      (execOp a.eval ⟨dst,.call ⟨.value f,args,GJ⟩,ty,pos,after,gd⟩).run cx.P w=.ok (.enter fn vals) w→Oper.wpIn (JG ro) 0 cx.P ⟨dst,.call ⟨.value f,args,GJ⟩,ty,pos,after,gd⟩ a w next Q:=by
     intro fn l vals hc hs hv CD;refine MG (fun c e=>by cases e) ?_;unfold Oper.wp;rw[CD];exact eB hS.inv Gw hc hs hv (fun v r h' g' w' hq hI Ho hr=>hn _ _ g' w' v hq hI Ho hr)
    unfold F0 at hc;split at hc
    ·rename_i fn e;rw[e]at fG;have hx:a.eval f=.func (.func fn) #[] #[]:=fG.v_eq;refine fin hc Lq SE ?_;simp only[execOp,resolve,hx,Deferred.ofValue,Sem.run_bind,Sem.run_pure,Result.andThen_ok,invoke];rw[Gy hc.1];simp
    ·rename_i fn caps e;rw[e]at fG;generalize hx:a.eval f=fv at fG;cases fG with
     |clo _ _ _ vs Ew OH =>
      refine fin hc (vals:=args.map a.eval++vs) (by simp[Ew]) (fun i av x h1 h2=>?_) ?_
      ·rw[LI]at h1;rw[HU]at h2;have hl:((args.toList.map (ev st.t)).map (ren (Cf σ) st.h)).length=(args.map a.eval).size:=Lq.symm;rw[hl]at h1;split at h1
       ·rename_i hi;rw[Ao hi]at h2;exact SE i av x h1 h2
       ·rename_i hi;rw[Ah hi]at h2;exact OH _ av x h1 h2
      ·simp only[execOp,resolve,hx,Deferred.ofValue,Sem.run_bind,Sem.run_pure,Result.andThen_ok,invoke];rw[Gy hc.1];simp
    ·rename_i l e;rw[e]at fG
     exact yl l _ fG.v_eq (Mq (C:=YieldAt Fence.wide 0 cx.P l (args.map a.eval) w) (R:=fun e w'=>∃v,e=.returned v∧next (a.put dst v) w') YieldAt.imp hS.inv Gw (fun jZ=>hc (Dq σ g) w _ Lq SE jZ (hY l σ _ _ _ hσ hS.inv hS.le))
      (fun v r h' g' w' hq hI Ho hr=>⟨v,rfl,hn _ _ g' w' v hq hI Ho hr⟩)) fun _ _ h=>h
    ·exact hc.elim
  |geny σ nn =>
   simp only at hm;cases d with
   |none=>exact hm.elim
   |some d =>
    simp only at hm;obtain⟨Gw,hc⟩:=hm;have hσ:Ei σ=true:=by simp only[Af]at Gw;exact Gw.1.1
    obtain⟨hR,_⟩:=Wf hS.inv hσ;have fG:=(hS.eval f).ren hR;have SE:∀(i:Nat) (av:AV) (x:Value),((args.toList.map (ev st.t)).map (ren (Cf σ) st.h))[i]?=some av→(args.map a.eval)[i]?=some x→BD (Dq σ g) w (AP (Fz σ st.h)) av x:=by
     intro i av x h1 h2;rw[AG,AG]at h1;rw[NZ]at h2;cases ho:args[i]? with
     |none=>rw[ho]at h2;simp at h2
     |some y =>
      rw[ho]at h2;have hy:args.toList[i]?=some y:=by simpa using ho
      rw[hy]at h1;simp only[Fy,Bi]at h1 h2;subst h1;subst h2;exact(hS.eval y).ren hR
    have Lq:(args.map a.eval).size=((args.toList.map (ev st.t)).map (ren (Cf σ) st.h)).length:=by simp
    split at hc
    ·rename_i fn caps e;rw[e]at fG;generalize hx:a.eval f=fv at fG;cases fG with
     |clo _ _ _ vs Ew OH =>
      have CD:(execOp a.eval ⟨dst,.call ⟨.value f,args,GJ⟩,ty,pos,after,gd⟩).run cx.P w=.ok (.enter fn (args.map a.eval++vs)) w:=by
       simp only[execOp,resolve,hx,Deferred.ofValue,Sem.run_bind,Sem.run_pure,Result.andThen_ok,invoke];rw[Gy hc.1];simp
      refine MG (fun c e=>by cases e) ?_;unfold Oper.wp;rw[CD];refine Mq (C:=Calls cx.P fn (args.map a.eval++vs) w) (fun h k=>h.mono k) hS.inv Gw (fun jZ=>hc.2 (Dq σ g) w _ (by simp[Ew]) (fun i av x h1 h2=>?_) jZ (fun l=>hY l σ _ _ _ hσ hS.inv hS.le)) (fun v r h' g' w' hq hI Ho hr=>hn _ _ g' w' v hq hI Ho hr);rw[LI]at h1;rw[HU]at h2;have hl:((args.toList.map (ev st.t)).map (ren (Cf σ) st.h)).length=(args.map a.eval).size:=Lq.symm;rw[hl]at h1;split at h1
      ·rename_i hi;rw[Ao hi]at h2;exact SE i av x h1 h2
      ·rename_i hi;rw[Ah hi]at h2;exact OH _ av x h1 h2
    ·exact hc.elim
end
end Go.Eng
