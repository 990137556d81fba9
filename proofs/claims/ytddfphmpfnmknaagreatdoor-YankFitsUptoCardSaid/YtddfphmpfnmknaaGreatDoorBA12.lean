/- Lemmas for the claims of this seat, without a condition: part 12 (EngZ1, EngZ2, EngZA). -/
import Derived.Test.YtddfphmpfnmknaaGreatDoorBA11
namespace Go.Eng
theorem VH:∀{σ:II},Gv σ=true→∀i j,Cj σ i=some j↔Hy σ j=some i
 | [],_,i,j=>by simp[Cj,Hy]
 |(a,b)::r,h,i,j=>by
  simp only[Gv,Af]at h;obtain⟨h1,h2⟩:=h;have ih:=VH h2;have ig:Cj r a=none∧Hy r b=none:=by
   split at h1
   ·rename_i e1 e2;exact⟨e1,e2⟩
   ·cases h1
  unfold Cj Hy
  by_cases e1:a=i<;>by_cases e2:b=j
  ·subst e1;subst e2;simp
  ·subst e1;simp only[CJ,Ju,Cz e2,Ef];constructor
   ·intro h;cases h;exact absurd rfl e2
   ·intro h;rw[(ih a j).2 h]at ig;cases ig.1
  ·subst e2;simp only[CJ,Ju,Cz e1,Ef];constructor
   ·intro h;rw[(ih i b).1 h]at ig;cases ig.2
   ·intro h;cases h;exact absurd rfl e1
  ·simp only[Cz e1,Cz e2,Ef];exact ih i j
theorem fX:∀{σ:II},Ee σ=true→Gv σ=true
 | [],_=>rfl
 |(a,b)::r,h=>by
  simp only[Ee,Af]at h;simp only[Gv,Af];exact⟨h.1.1.1,fX h.2⟩
theorem VS{σ:II}(h:Ee σ=true):∀i j,Cj σ i=some j↔Hy σ j=some i:=VH (fX h)
theorem UO:∀{σ:II},Ee σ=true→∀{i j},Cj σ i=some j→1000≤j∧j<2000
 | [],_,i,j,h=>by simp[Cj]at h
 |(a,b)::r,h,i,j,hf=>by
  simp only[Ee,Af,CR,B9]at h;unfold Cj at hf
  by_cases e1:a=i
  ·subst e1;simp only[CJ,Ju]at hf;cases hf;exact⟨h.1.1.2,h.1.2⟩
  ·simp only[Cz e1,Ef]at hf;exact UO h.2 hf
theorem OB(f:Nat→Option Nat)(h:Nat→HO):∀(σ:II) (j:Nat),Aj (VR f h σ) Aa j=match Hy σ j with | some i=>(h i).ren f h | none=>.free
 | [],j=>rfl
 |(a,b)::r,j=>by
  unfold VR Aj Hy
  by_cases e:b=j
  ·subst e;simp
  ·simp only[Cz e,Cz (Ne.symm e),Ef];exact OB f h r j
structure J9(f:Nat→Option Nat)(h h2:Nat→HO)(g g2:Gh)(w:World):Prop where
 ids:∀r r',f r=some r'→AQ h r→g2.tk r'=g.tk r∧g2.ln r'=g.ln r∧g2.ρ r'=g.ρ r∧g2.own r'=g.own r∧AQ h2 r'
 S:∀b o,g2.S b o↔g.S b o
 objs:∀r,D1 g w (AQ h) r (h r)
section
variable {f:Nat→Option Nat}{h h2:Nat→HO}{g g2:Gh}{w:World}
theorem J9.keeps(hR:J9 f h h2 g g2 w):Ey g w g2 w:=fun b o hs=>⟨(hR.S b o).2 hs,rfl,fun _ _ e=>e⟩
theorem J9.noU(hR:J9 f h h2 g g2 w){av:AV}{x:Value}(r:BC g w E8 av x):BC g2 w (AQ h2) av x:=r.mono hR.keeps (fun _ h=>h.elim) (fun _ h=>h.elim)
theorem BC.ren0(hR:J9 f h h2 g g2 w){av:AV}{x:Value}(r:BC g w (AQ h) av x):BC g2 w (AQ h2) (ren0 f h av) x:=by
 have down:BC g2 w (AQ h2) (Eng.str0 h av) x:=hR.noU (BC.str0 hR.objs r);cases av with
 |v y=>exact down
 |slice tk es =>
  cases tk with
  |none=>exact down
  |full sz=>exact down
  |id i sz =>
   simp only[Eng.ren0];split
   ·rename_i i' e;cases r with
    |tok _ _ _ _ _ hs hl hu ht hn hx =>
     obtain⟨k1,k2,k3,k4,k5⟩:=hR.ids i i' e hu;exact .tok _ i' sz es x (hR.noU (BC.slice_none hs)) hl k5 (k1.trans ht) (by omega) (fun q=>by rw[k3];exact hx (by omega))
   ·exact hR.noU r.slice_none
  |ver i sz v =>
   simp only[Eng.ren0];split
   ·rename_i i' e;cases r with
    |ver _ _ _ _ _ _ hs hl hu ht hn hx =>
     obtain⟨k1,k2,k3,k4,k5⟩:=hR.ids i i' e hu;exact .ver _ i' sz v es x (hR.noU (BC.slice_none hs)) hl k5 (k1.trans ht) (by omega) (fun q=>by rw[k3];exact hx (by omega))
   ·exact hR.noU r.slice_none
 |msl i n =>
  simp only[Eng.ren0];split
  ·rename_i i' e;cases r with
   |msl _ _ _ a cap hu ht hn ha hx =>
    obtain⟨k1,k2,k3,k4,k5⟩:=hR.ids i i' e hu;exact .msl _ i' n a cap k5 (k1.trans ht) (by omega) ha (fun q=>by rw[k3];exact hx (by omega))
  ·exact .junk _ _
 |agg cs=>exact down
 |tup cs=>exact down
 |cptr cs=>exact down
 |ref i off =>
  simp only[Eng.ren0];split
  ·rename_i i' e;cases r with
   |ref _ _ _ b hu ht hx =>
    obtain⟨k1,k2,k3,k4,k5⟩:=hR.ids i i' e hu;exact .ref _ i' off b k5 (k1.trans ht) (k3.trans hx)
  ·exact down
 |eref i n sz k off =>
  simp only[Eng.ren0];split
  ·rename_i i' e;cases r with
   |eref _ _ _ _ _ _ b cap hu ht hn hx =>
    obtain⟨k1,k2,k3,k4,k5⟩:=hR.ids i i' e hu;exact .eref _ i' n sz k off b cap k5 (k1.trans ht) ⟨hn.1,by omega⟩ (fun q=>by rw[k3];exact hx (by omega))
  ·exact .junk _ _
 |mref i =>
  simp only[Eng.ren0];split
  ·rename_i i' e;cases r with
   |mref _ _ b hu ht hx =>
    obtain⟨k1,k2,k3,k4,k5⟩:=hR.ids i i' e hu;exact .mref _ i' b k5 (k1.trans ht) (k3.trans hx)
  ·exact down
 |cmap sh BU=>exact down
 |clo i cs=>exact down
 |junk=>exact down
theorem BC.ren1(hR:J9 f h h2 g g2 w){av:AV}{x:Value}(r:BC g w (AQ h) av x):BC g2 w (AQ h2) (ren1 f h av) x:=by
 cases av with
 |agg cs =>
  cases r with
  |agg _ _ vs hs h1 hr =>
   exact .agg _ _ vs (by simp[hs]) h1 fun i av x q1 q2=>by
    rw[AC]at q1;obtain⟨a,q3,rfl⟩:=AW.1 q1;exact(hr i a x q3 q2).ren0 hR
 |clo i cs =>
  cases r with
  |clo _ _ _ vs hs hr =>
   exact .clo _ _ _ vs (by simp[hs]) fun i av x q1 q2=>by
    rw[AC]at q1;obtain⟨a,q3,rfl⟩:=AW.1 q1;exact(hr i a x q3 q2).ren0 hR
 |_=>exact r.ren0 hR
theorem BC.ren(hR:J9 f h h2 g g2 w){av:AV}{x:Value}(r:BC g w (AQ h) av x):BC g2 w (AQ h2) (ren f h av) x:=by
 cases av with
 |tup cs =>
  cases r with
  |tup _ _ vs hs hr =>
   exact .tup _ _ vs (by simp[hs]) fun i av x q1 q2=>by
    rw[AC]at q1;obtain⟨a,q3,rfl⟩:=AW.1 q1;exact(hr i a x q3 q2).ren1 hR
 |_=>exact r.ren1 hR
theorem LU(f:Nat→Option Nat)(h:Nat→HO)(o:HO):(o.ren f h).live↔o.live:=by cases o<;>exact PO
theorem LV(f:Nat→Option Nat)(h:Nat→HO)(o:HO):o.ren f h≠.free↔o≠.free:=by cases o<;>simp[HO.ren]
theorem D1.ren(hR:J9 f h h2 g g2 w){i j:Nat}(OO:f i=some j)(hu:AQ h i){o:HO}(r:D1 g w (AQ h) i o):D1 g2 w (AQ h2) j (o.ren f h):=by
 obtain⟨k1,k2,k3,k4,k5⟩:=hR.ids i j OO hu;have xD:∀{cs:List AV} {vs:List Value},Cu g w E8 cs vs→Cu g2 w E8 cs vs:=fun hr=>hr.mono hR.keeps (fun _ h=>h) (fun _ h=>h.elim);have rW:∀{av:AV} {x:Value},BC g w E8 av x→BC g2 w E8 av x:=fun hr=>hr.mono hR.keeps (fun _ h=>h) (fun _ h=>h.elim);cases o with
 |free=>trivial
 |dead=>trivial
 |cells cs =>
  obtain⟨t,b,E,vs,a1,a2,a3,a4,a5⟩:=r;refine⟨k1.trans t,b,E,vs,k4.trans a1,k3.trans a2,a3,⟨by simp[a4.1],a4.2.1,fun i av x q1 q2=>?_⟩,fun o ho=>a5 o ((hR.S b o).1 ho)⟩;rw[AC]at q1;obtain⟨a,q3,rfl⟩:=AW.1 q1;exact(a4.2.2 i a x q3 q2).ren1 hR
 |ro cs =>
  obtain⟨t,b,a1,a2⟩:=r;exact⟨k1.trans t,b,k3.trans a1,rW a2⟩
 |tok sz n =>
  obtain⟨t,l,a,cap,a1,a2⟩:=r;refine⟨k1.trans t,k2.trans l,a,cap,k3.trans a1,?_⟩;rcases a2 with ⟨b1,b2⟩ | ⟨b1,b,E,vs,off,b2,b3,b4,b5,b6⟩
  ·exact .inl ⟨b1,k4.trans b2⟩
  ·exact .inr ⟨b1,b,E,vs,off,b2,k4.trans b3,b4,b5,fun o ho=>b6 o ((hR.S b o).1 ho)⟩
 |var sz v n =>
  obtain⟨t,l,a,cap,a1,a2⟩:=r;refine⟨k1.trans t,k2.trans l,a,cap,k3.trans a1,?_⟩;rcases a2 with ⟨b1,b2⟩ | ⟨b1,b,E,vs,off,b2,b3,b4,b5,b6⟩
  ·exact .inl ⟨b1,k4.trans b2⟩
  ·exact .inr ⟨b1,b,E,vs,off,b2,k4.trans b3,b4,b5,fun o ho=>b6 o ((hR.S b o).1 ho)⟩
 |vox v=>exact⟨k1.trans r.1,k2.trans r.2⟩
 |hol sz es i c av =>
  obtain⟨t,l,al,b,cap,E,vs,b1,b2,b3,b4,b5,b6,b7,b8,x,b9,XT⟩:=r;exact⟨k1.trans t,k2.trans l,al,b,cap,E,vs,k3.trans b1,k4.trans b2,b3,b4,b5,xD b6,fun o ho=>b7 o ((hR.S b o).1 ho),b8,x,b9,XT.ren1 hR⟩
 |raw b ob =>
  obtain⟨t,a1,a2,a3,a4⟩:=r;exact⟨k1.trans t,k4.trans a1,a2,a3,fun o ho=>a4 o ((hR.S b o).1 ho)⟩
 |arr sz es =>
  obtain⟨t,l,al,a2⟩:=r;refine⟨k1.trans t,k2.trans l,al,?_⟩;rcases a2 with ⟨b1,b2,b3⟩ | ⟨b,cap,E,vs,b1,b2,b3,b4,b5,b6,b7⟩
  ·exact .inl ⟨b1,k3.trans b2,k4.trans b3⟩
  ·exact .inr ⟨b,cap,E,vs,k3.trans b1,k4.trans b2,b3,b4,b5,xD b6,fun o ho=>b7 o ((hR.S b o).1 ho)⟩
 |map sh BU =>
  obtain⟨t,b,es,ck,a1,a2,a3,a4,a5,a6⟩:=r;exact⟨k1.trans t,b,es,ck,k4.trans a1,k3.trans a2,a3,a4,fun i kv e q1 q2=>rW (a5 i kv e q1 q2),fun o ho=>a6 o ((hR.S b o).1 ho)⟩
 |mapU sh BU =>
  obtain⟨t,b,es,ck,a1,a2,a3,a4,a5,a6⟩:=r;refine⟨k1.trans t,b,es,ck,k4.trans a1,k3.trans a2,a3,UC _ a4,fun i kv e q1 q2=>?_,fun o ho=>a6 o ((hR.S b o).1 ho)⟩;rw[AC]at q1;obtain⟨p,q3,rfl⟩:=AW.1 q1;exact(a5 i p e q3 q2).ren1 hR
 |rom sh BU =>
  obtain⟨t,b,a1,a2⟩:=r;exact⟨k1.trans t,b,k3.trans a1,rW a2⟩
 |iter all rem Fq =>
  obtain⟨t,b,mb,JF,seen,st,es,ck,a1,a2,a3,a4,a5,a6,a7,a8,a9,Wo,Y7,a12,ly⟩:=r;exact⟨k1.trans t,b,mb,JF,seen,st,es,ck,k4.trans a1,k3.trans a2,a3,(hR.S _ _).2 a4,a5,a6,a7,a8,fun i kv e q1 q2=>rW (a9 i kv e q1 q2),Wo,Y7,a12,fun o ho=>ly o ((hR.S b o).1 ho)⟩
end
theorem Ot{h:Nat→HO}{d:Nat}:∀{n:Nat},Dv h d n=true→∀k,k<n→h (Bo d k)=.free
 |0,_,k,hk=>by omega
 |n+1,hf,k,hk=>by
  simp only[Dv,Af]at hf
  by_cases e:k=n
  ·subst e
   have:=hf.1
   split at this
   ·rename_i e2;exact e2
   ·cases this
  ·exact Ot hf.2 k (by omega)
theorem MR{d nn:Nat}:∀{σ:II},Df σ d nn=true→∀{i j},Cj σ i=some j→¬(Bo d 0≤i∧i<Bo d nn)
 | [],_,i,j,h=>by simp[Cj]at h
 |(a,b)::r,hs,i,j,hf=>by
  simp only[Df,Af]at hs;unfold Cj at hf
  by_cases e1:a=i
  ·subst e1;have h1:=hs.1;simp only[CG,Bool.and_eq_false_iff]at h1;intro hc;rcases h1 with h1 | h1
   ·rw[Nat.ble_eq_true_of_le hc.1]at h1;cases h1
   ·have h2:Nat.blt a (Bo d nn)=true:=by rw[B9];exact hc.2
    rw[h2]at h1;cases h1
  ·simp only[Cz e1,Ef]at hf;exact MR hs.2 hf
section
variable {P:Program}{w0:World}{g0:Gh}{h0 h:Nat→HO}{g:Gh}{w:World}
def Do(σ:II)(g:Gh):Gh :=
 ⟨fun j=>match Hy σ j with | some i=>g.ρ i | none=>.nilIface,fun j=>match Hy σ j with | some i=>g.ln i | none=>0,fun j=>match Hy σ j with | some i=>g.tk i | none=>false,
  fun j=>match Hy σ j with | some i=>g.own i | none=>none,g.S⟩
def src(σ:II)(d nn:Nat)(i:Nat):Option Nat :=
 match Cj σ i with
 |some j=>some j
 |none=>match Nat.ble (Bo d 0) i&&Nat.blt i (Bo d nn)with |true=>some (2000+(i-Bo d 0)) |false=>none
def Gu(σ:II)(d nn:Nat)(g g' : Gh):Gh :=
 ⟨fun i=>match src σ d nn i with | some j=>g'.ρ j | none=>g.ρ i,fun i=>match src σ d nn i with | some j=>g'.ln j | none=>g.ln i,fun i=>match src σ d nn i with | some j=>g'.tk j | none=>g.tk i,
  fun i=>match src σ d nn i with | some j=>g'.own j | none=>g.own i,g'.S⟩
theorem ay(σ:II)(d nn:Nat)(h h' : Nat→HO)(i:Nat):DZ σ d nn h h' i=match src σ d nn i with | some j=>(h' j).ren (EV σ d nn) h' | none=>h i:=by
 unfold DZ src;cases Cj σ i with
 |some j=>rfl
 |none =>
  dsimp only;cases Nat.ble (Bo d 0) i&&Nat.blt i (Bo d nn)<;>rfl
theorem gJ{σ:II}{d nn:Nat}(hσ:Ee σ=true)(ha:Df σ d nn=true)(i j:Nat):src σ d nn i=some j↔EV σ d nn j=some i:=by
 have inv:=VS hσ;unfold src EV;cases h1:Cj σ i with
 |some j' =>
  have hb:=(inv i j').1 h1;dsimp only;constructor
  ·intro h;cases h;rw[hb]
  ·intro h;cases h2:Hy σ j with
   |some i'=>rw[h2]at h;cases h;rw[(inv i j).2 h2]at h1;exact h1.symm
   |none =>
    rw[h2]at h;dsimp only at h;split at h
    ·rename_i hc;have h:=B2 h;subst h;simp only[Af,CR,B9]at hc;exact absurd ⟨by unfold Bo;omega,by unfold Bo;omega⟩ (MR ha h1)
    ·cases h
 |none =>
  dsimp only;cases h2:Hy σ j with
  |some i' =>
   dsimp only;have hf:=(inv i' j).2 h2;have hr:=UO hσ hf;constructor
   ·intro h;split at h
    ·cases h;omega
    ·cases h
   ·intro h;cases h;rw[hf]at h1;cases h1
  |none =>
   dsimp only;constructor
   ·intro h;split at h
    ·rename_i hc;cases h;simp only[Af,CR,B9]at hc;have e1:(Nat.ble 2000 (2000+(i-Bo d 0))&&Nat.blt (2000+(i-Bo d 0)) (2000+nn))=true:=by
      simp only[Af,CR,B9];unfold Bo at hc⊢;omega
     rw[e1]
     have:Bo d (2000+(i-Bo d 0)-2000)=i:=by unfold Bo at hc⊢;omega
     rw[this]
    ·cases h
   ·intro h;split at h
    ·rename_i hc;have h:=B2 h;subst h;simp only[Af,CR,B9]at hc;have e1:(Nat.ble (Bo d 0) (Bo d (j-2000))&&Nat.blt (Bo d (j-2000)) (Bo d nn))=true:=by
      simp only[Af,CR,B9];unfold Bo;omega
     rw[e1]
     have:2000+(Bo d (j-2000)-Bo d 0)=j:=by unfold Bo;omega
     rw[this]
    ·cases h
theorem Vz(hI:Dz w0 g0 h0 h g w){σ:II}(hσ:Ee σ=true):J9 (Cj σ) h (Fp σ h) g (Do σ g) w∧Dz w (Do σ g) (Fp σ h) (Fp σ h) (Do σ g) w:=by
 have inv:=VS hσ;have E5:∀j,Fp σ h j=match Hy σ j with | some i=>(h i).ren (Cj σ) h | none=>.free:=OB _ _ σ
 have hR:J9 (Cj σ) h (Fp σ h) g (Do σ g) w:=by
  refine⟨fun r r' hr hu=>?_,fun b o=>PO,hI.objs⟩;have hb:=(inv r r').1 hr;refine⟨by simp[Do,hb],by simp[Do,hb],by simp[Do,hb],by simp[Do,hb],?_⟩;unfold AQ;rw[E5,hb];exact(LV _ _ _).2 hu
 have LG:∀j,(Fp σ h j).live→∃i,Hy σ j=some i∧(h i).live:=fun j hl=>by
  rw[E5]at hl;cases e:Hy σ j with
  |none=>rw[e]at hl;exact hl.elim
  |some i=>rw[e]at hl;exact⟨i,rfl,(LU _ _ _).1 hl⟩
 have VE:∀j i,Hy σ j=some i→(Do σ g).own j=g.own i:=fun j i e=>by simp[Do,e]
 refine⟨hR,rfl,rfl,rfl,Am _,fun _ _ _=>rfl,hI.slt,fun j=>?_,fun j j' b hl Pf e e'=>?_,fun j b hl e=>?_,fun _ _ h=>.inl h,hI.glob⟩
 ·rw[E5];cases e:Hy σ j with
  |none=>trivial
  |some i =>
   by_cases hu:AQ h i
   ·exact(hI.objs i).ren hR ((inv i j).2 e) hu
   ·have:h i=.free:=Cm.1 hu
    dsimp only;rw[this];trivial
 ·obtain⟨i,e1,l1⟩:=LG j hl;obtain⟨i',e2,l2⟩:=LG j' Pf;rw[VE j i e1]at e;rw[VE j' i' e2]at e';obtain rfl:=hI.inj i i' b l1 l2 e e'
  have:=(inv i j).2 e1
  rw[(inv i j').2 e2]at this;cases this;rfl
 ·obtain⟨i,e1,l1⟩:=LG j hl;have e0:=e;rw[VE j i e1]at e;exact⟨(hI.loc i b l1 e).1,.inr ⟨j,hl,e0⟩⟩
theorem L9{C:(Ending→World→Prop)→Prop}(hm:∀{R R' : Ending→World→Prop},C R→(∀e w,R e w→R' e w)→C R')(hI:Dz w0 g0 h0 h g w){σ:II}{d nn:Nat}(Gk:(Ee σ&&Dv h d nn&&Df σ d nn)=true){Q:AV→(Nat→HO)→Prop}
  (hc:Dz w (Do σ g) (Fp σ h) (Fp σ h) (Do σ g) w→C (fun e w'=>∃v r h' g',e=Ending.returned v∧Q r h'∧BC g' w' (AQ h') r v∧Dz w (Do σ g) (Fp σ h) h' g' w'∧Le (Fp σ h) (Do σ g) w h' g' w')) {R:Ending→World→Prop}
  (Zm:∀v r h' g2 w',Q r h'→Dz w0 g0 h0 (DZ σ d nn h h') g2 w'→Le h g w (DZ σ d nn h h') g2 w'→BC g2 w' (AQ (DZ σ d nn h h')) (ren (EV σ d nn) h' r) v→R (.returned v) w'):C R:=by
 simp only[Af]at Gk;obtain⟨⟨hσ,zo⟩,pC⟩:=Gk;obtain⟨hF,jc⟩:=Vz hI hσ;have inv:=VS hσ;have jo:=gJ hσ pC;refine hm (hc jc) ?_
 rintro e w' ⟨v,r,h',g',rfl,q1,q2,q3,q4⟩
 have hb:=ay σ d nn h h';have eF:∀i j,src σ d nn i=some j→(Gu σ d nn g g').ρ i=g'.ρ j∧(Gu σ d nn g g').ln i=g'.ln j∧(Gu σ d nn g g').tk i=g'.tk j∧(Gu σ d nn g g').own i=g'.own j:=fun i j e=>by simp[Gu,e]
 have t6:∀i,src σ d nn i=none→(Gu σ d nn g g').ρ i=g.ρ i∧(Gu σ d nn g g').ln i=g.ln i∧(Gu σ d nn g g').tk i=g.tk i∧(Gu σ d nn g g').own i=g.own i:=fun i e=>by simp[Gu,e]
 have hB:J9 (EV σ d nn) h' (DZ σ d nn h h') g' (Gu σ d nn g g') w':=by
  refine⟨fun j i hj hu=>?_,fun b o=>PO,q3.objs⟩;have e:=(jo i j).2 hj;obtain⟨k1,k2,k3,k4⟩:=eF i j e;refine⟨k3,k2,k1,k4,?_⟩;unfold AQ;rw[hb,e];exact(LV _ _ _).2 hu
 have kJ:∀j,Fp σ h j=match Hy σ j with | some i=>(h i).ren (Cj σ) h | none=>.free:=OB _ _ σ
 have tR:∀j i,Cj σ i=some j→(h i).live→(Fp σ h j).live:=fun j i e hl=>by
  rw[kJ,(inv i j).1 e];exact(LU _ _ _).2 hl
 have wX:∀j i,Cj σ i=some j→(Do σ g).own j=g.own i:=fun j i e=>by simp[Do,(inv i j).1 e]
 have QR : ∀j,(Fp σ h j).live→∃i,Cj σ i=some j∧(h i).live∧(Do σ g).own j=g.own i:=fun j hl=>by
  rw[kJ]at hl;cases e:Hy σ j with
  |none=>rw[e]at hl;exact hl.elim
  |some i=>rw[e]at hl;exact⟨i,(inv i j).2 e,(LU _ _ _).1 hl,by simp[Do,e]⟩
 -- what the callee xC not touch
 have cO:∀b,b<w.heap.size→(∀i,(h i).live→Cj σ i≠none→g.own i≠some b)→w'.heap[b]?=w.heap[b]?:=fun b Ds hn=>q3.frame b Ds fun j hl e=>by
  obtain⟨i,e1,l1,o1⟩:=QR j hl;exact hn i l1 (by rw[e1];simp) (by rw[←o1];exact e)
 have tB:∀b o,g'.S b o→b<w.heap.size→(∀i,(h i).live→Cj σ i≠none→g.own i≠some b)→g.S b o:=fun b o hs Ds hn=>by
  rcases q3.sg b o hs with h1 | h1 | ⟨j,h1,h2⟩
  ·exact h1
  ·omega
  ·obtain⟨i,e1,l1,o1⟩:=QR j h1;exact absurd (by rw[←o1];exact h2) (hn i l1 (by rw[e1];simp))
 have hk:Ey g w (Gu σ d nn g g') w':=q4.keeps;have Aa:∀i,Cj σ i=none→src σ d nn i≠none→h i=.free:=fun i e1 e2=>by
  unfold src at e2;rw[e1]at e2;dsimp only at e2;split at e2
  ·rename_i hc;simp only[Af,CR,B9]at hc
   have:=Ot zo (i-Bo d 0) (by unfold Bo at hc⊢;omega)
   rw[show Bo d (i-Bo d 0)=i by unfold Bo at hc⊢;omega]at this;exact this
  ·exact absurd rfl e2
 have bj:∀i j,Cj σ i=some j→src σ d nn i=some j:=fun i j e=>by unfold src;rw[e]
 have w7:JI g (Gu σ d nn g g') (AQ h):=fun i hu=>by
  cases e:Cj σ i with
  |some j =>
   obtain⟨k1,k2,k3,k4⟩:=eF i j (bj i j e);obtain⟨f1,f2,f3,f4,f5⟩:=hF.ids i j e hu;obtain⟨m1,m2,m3,m4⟩:=q4.gh j f5;exact⟨(k3.trans m1).trans f1,by omega,fun t=>(k1.trans (m3 (f1.trans t))).trans f3,fun l=>(k1.trans (m4 (by omega))).trans f3⟩
  |none =>
   have e2:src σ d nn i=none:=Cm.1 fun e2=>hu (Aa i e e2);obtain⟨k1,k2,k3,k4⟩:=t6 i e2;exact⟨k3,by omega,fun _=>k1,fun _=>k1⟩
 have JZ:∀i,AQ h i→AQ (DZ σ d nn h h') i:=fun i hu=>by
  unfold AQ;rw[hb];cases e:Cj σ i with
  |some j =>
   rw[bj i j e];exact(LV _ _ _).2 (q4.us j (hF.ids i j e hu).2.2.2.2)
  |none =>
   have e2:src σ d nn i=none:=Cm.1 fun e2=>hu (Aa i e e2);rw[e2];exact hu
 have bc:∀i,(DZ σ d nn h h' i).live→(∃j,src σ d nn i=some j∧(h' j).live∧(Gu σ d nn g g').own i=g'.own j)∨(src σ d nn i=none∧(h i).live∧(Gu σ d nn g g').own i=g.own i∧Cj σ i=none):=fun i hl=>by
  rw[hb]at hl;cases e:src σ d nn i with
  |some j=>rw[e]at hl;exact .inl ⟨j,rfl,(LU _ _ _).1 hl,(eF i j e).2.2.2⟩
  |none =>
   rw[e]at hl;refine .inr ⟨rfl,hl,(t6 i e).2.2.2,?_⟩;cases e2:Cj σ i with
   |none=>rfl
   |some j=>rw[bj i j e2]at e;cases e
 have pG:∀j b,(h' j).live→g'.own j=some b→b<w'.heap.size∧(w.heap.size≤b∨∃i,Cj σ i≠none∧(h i).live∧g.own i=some b):=fun j b hl e=>by
  obtain⟨h1,h2⟩:=q3.loc j b hl e;refine⟨h1,h2.imp id ?_⟩
  rintro⟨j',l',e'⟩
  obtain⟨i,e1,l1,o1⟩:=QR j' l';exact⟨i,by rw[e1];simp,l1,by rw[←o1];exact e'⟩
 have jq:∀i b,(h i).live→g.own i=some b→Cj σ i=none→∀i',(h i').live→Cj σ i'≠none→g.own i'≠some b:=fun i b hl e hn i' Pf W5 e'=>by
  obtain rfl:=hI.inj i i' b hl Pf e e';exact W5 hn
 refine Zm v r h' (Gu σ d nn g g') w' q1 ⟨q3.os.trans hI.os,q3.tape.trans hI.tape,q3.output.trans hI.output,Br hI.size q3.size,fun b Ds hn=>?_,q3.slt,fun i=>?_,fun i i' b hl Pf e e'=>?_,fun i b hl e=>?_,fun b o hs=>?_,hI.glob.keep hk⟩ ⟨w7,JZ,hk⟩ (q2.ren hB)
 ·refine(cO b (Bu Ds hI.size) fun i hl _ e=>?_).trans (hI.frame b Ds hn);rcases(hI.loc i b hl e).2 with h1 | ⟨r',h1,h2⟩
  ·omega
  ·exact hn r' h1 h2
 ·rw[hb];cases e:src σ d nn i with
  |some j =>
   by_cases hu:AQ h' j
   ·exact(q3.objs j).ren hB ((jo i j).1 e) hu
   ·have:h' j=.free:=Cm.1 hu
    dsimp only;rw[this];trivial
  |none =>
   obtain⟨k1,k2,k3,k4⟩:=t6 i e;have e2:Cj σ i=none:=by
    cases e2:Cj σ i with
    |none=>rfl
    |some j=>rw[bj i j e2]at e;cases e
   refine(hI.objs i).same hk JZ w7 k1 k2 k3 k4 fun b hl ho=>?_;have Ds:=(hI.loc i b hl ho).1;exact⟨cO b Ds (jq i b hl ho e2),fun k hs=>tB b k hs Ds (jq i b hl ho e2)⟩
 ·have mixed:∀i j i',(h' j).live→g'.own j=some b→(h i').live→g.own i'=some b→Cj σ i'=none→i=i':=fun i j i' l1 o1 l2 o2 n2=>by
   rcases(pG j b l1 o1).2 with h1 | ⟨i3,n3,l3,o3⟩
   ·have:=(hI.loc i' b l2 o2).1;omega
   ·exact absurd o3 (jq i' b l2 o2 n2 i3 l3 n3)
  rcases bc i hl with ⟨j,s1,l1,o1⟩ | ⟨s1,l1,o1,n1⟩<;>rcases bc i' Pf with ⟨j',s2,l2,o2⟩ | ⟨s2,l2,o2,n2⟩
  ·obtain rfl:=q3.inj j j' b l1 l2 (by rw[←o1];exact e) (by rw[←o2];exact e');have a1:=(jo i j).1 s1;rw[(jo i' j).1 s2]at a1;cases a1;rfl
  ·exact mixed i j i' l1 (by rw[←o1];exact e) l2 (by rw[←o2];exact e') n2
  ·exact(mixed i' j' i l2 (by rw[←o2];exact e') l1 (by rw[←o1];exact e) n1).symm
  ·exact hI.inj i i' b l1 l2 (by rw[←o1];exact e) (by rw[←o2];exact e')
 ·rcases bc i hl with ⟨j,s1,l1,o1⟩ | ⟨s1,l1,o1,n1⟩
  ·obtain⟨h1,h2⟩:=pG j b l1 (by rw[←o1];exact e);refine⟨h1,?_⟩;rcases h2 with h2 | ⟨i3,n3,l3,o3⟩
   ·exact .inl (Br hI.size h2)
   ·exact(hI.loc i3 b l3 o3).2
  ·obtain⟨h1,h2⟩:=hI.loc i b l1 (by rw[←o1];exact e);exact⟨Bu h1 q3.size,h2⟩
 ·rcases q3.sg b o hs with h1 | h1 | ⟨j,h1,h2⟩
  ·exact hI.sg b o h1
  ·exact .inr (.inl (Br hI.size h1))
  ·obtain⟨i,e1,l1,o1⟩:=QR j h1;exact .inr (hI.loc i b l1 (by rw[←o1];exact h2)).2
theorem dn(hI:Dz w0 g0 h0 h g w){σ:II}{d nn:Nat}(Gk:(Ee σ&&Dv h d nn&&Df σ d nn)=true){f:Nat}{args:List AV}{Q:AV→(Nat→HO)→Prop}(hc:A3 P f args (Fp σ h) Q){vals:Array Value}(hs:vals.size=args.length)
  (hv:∀(i:Nat) (av:AV) (x:Value),args[i]?=some av→vals[i]?=some x→BC (Do σ g) w (AQ (Fp σ h)) av x) {R:Ending→World→Prop}
  (Zm:∀v r h' g2 w',Q r h'→Dz w0 g0 h0 (DZ σ d nn h h') g2 w'→Le h g w (DZ σ d nn h h') g2 w'→BC g2 w' (AQ (DZ σ d nn h h')) (ren (EV σ d nn) h' r) v→R (.returned v) w'):Calls P f vals w R :=
 L9 (C:=Calls P f vals w) (fun h k=>h.mono k) hI Gk (hc.2 (Do σ g) w vals hs hv) Zm
end
structure SR(N:Nat)(ds:List Deferred)(w0:World)(g0:Gh)(h0:Nat→HO)(st:St)(g:Gh)(a:Act)(w:World):Prop where
 inv:Dz w0 g0 h0 st.h g w
 le:Le h0 g0 w0 st.h g w
 dfs:a.defers=ds
 size:a.tmps.size=N
 slots:∀i,BC g w (AQ st.h) (st.t i) (a.tmps.getD i undef)
section
variable {P:Program}{N:Nat}{ds:List Deferred}{w0:World}{g0:Gh}{h0:Nat→HO}{st:St}{g:Gh}{a:Act}{w:World}
theorem SR.eval(hS:SR N ds w0 g0 h0 st g a w)(x:Operand):BC g w (AQ st.h) (ev st.t x) (a.eval x):=by
 cases x with
 |tmp i=>exact hS.slots i
 |const v=>exact .v _ _
 |global b=>exact .v _ _
 |func f=>exact .v _ _
theorem SR.put(hS:SR N ds w0 g0 h0 st g a w){d:Option Nat}(hd:∀i,d=some i→i<N){v:AV}{x:Value}{h' : Nat→HO}{g' : Gh}{w' : World}(hI:Dz w0 g0 h0 h' g' w')(Hb:Le st.h g w h' g' w')(hr:BC g' w' (AQ h') v x) :
  SR N ds w0 g0 h0 (st.put d v h') g' (a.put d x) w':=by
 have old:∀i,BC g' w' (AQ h') (st.t i) (a.tmps.getD i undef):=fun i=>(hS.slots i).le Hb;cases d with
 |none=>exact⟨hI,hS.le.trans Hb,hS.dfs,hS.size,old⟩
 |some d =>
  have tU:=hd d rfl;refine⟨hI,hS.le.trans Hb,hS.dfs,by simp[Act.put,hS.size],fun i=>?_⟩;simp only[St.put,Act.put,GT]
  by_cases e:i=d
  ·subst e
   have:i<a.tmps.size:=by rw[hS.size];exact tU
   simp only[CJ,Ju];rw[Ck,Array.getElem?_setIfInBounds_self,Ao this];exact hr
  ·simp only[Cz e,Ef];rw[Ck,Array.getElem?_setIfInBounds_ne (Ne.symm e),←Ck];exact old i
def XU(w0:World)(g0:Gh)(h0 h:Nat→HO)(g:Gh)(w:World)(K:HK)(next:Value→World→Prop):Prop :=
 ∀v h' g' w' x,K v h'→Dz w0 g0 h0 h' g' w'→Le h g w h' g' w'→BC g' w' (AQ h') v x→next x w'
theorem DP{o:Oper}{m:Sem Value}{K:HK}{next:Act→World→Prop}{Q:Exit→Act→World→Prop}(hx:execOp a.eval o=(do pure (Next.value (←m))))(hd:NF P w0 g0 h0 st.h g w m K)
  (hn:XU w0 g0 h0 st.h g w K fun x w'=>next (a.put o.dst x) w'):o.wp P a w next Q:=by
 obtain⟨x,w',g',av,h',h1,h2,h3,h4,h5⟩:=hd;unfold Oper.wp;rw[hx,Sem.run_bind,h1];exact hn av h' g' w' x h2 h3 h4 h5
theorem Wc{o:Oper}{m:Sem Unit}{K:HK}{next:Act→World→Prop}{Q:Exit→Act→World→Prop}(hx:execOp a.eval o=(do m;pure Next.skip))(hd:cU P w0 g0 h0 st.h g w m K)
  (hn:XU w0 g0 h0 st.h g w K fun x w'=>next (a.put o.dst x) w'):o.wp P a w next Q:=by
 obtain⟨w',g',h',h1,h2,h3,h4⟩:=hd;unfold Oper.wp;rw[hx,Sem.run_bind,h1];exact hn _ h' g' w' undef h2 h3 h4 (.v _ _)
theorem ac{o:Oper}{K:HK}{next:Act→World→Prop}{Q:Exit→Act→World→Prop}{v:AV}{x:Value}(hI:Dz w0 g0 h0 st.h g w)(hx:(execOp a.eval o).run P w=.ok (.value x) w)(hk:K v st.h)(hr:BC g w (AQ st.h) v x)
  (hn:XU w0 g0 h0 st.h g w K fun x w'=>next (a.put o.dst x) w'):o.wp P a w next Q:=by
 unfold Oper.wp;rw[hx];exact hn _ _ _ _ _ hk hI (.refl _ _ _) hr
theorem Rx{C:(Ending→World→Prop)→Prop}(hm:∀{R R' : Ending→World→Prop},C R→(∀e w,R e w→R' e w)→C R')(hI:Dz w0 g0 h0 st.h g w){Q:AV→(Nat→HO)→Prop}
  (hc:Dz w g Aa Aa g w→C (fun e w'=>∃v r h' g',e=Ending.returned v∧Q r h'∧BC g' w' (AQ h') r v∧Dz w g Aa h' g' w'∧Le Aa g w h' g' w')) {R:Ending→World→Prop}
  (hR:∀v r h' g' w',Q r h'→h'=Aa→Dz w0 g0 h0 st.h g' w'→Le st.h g w st.h g' w'→BC g' w' E8 r v→R (.returned v) w') (hQ:∀r h',Q r h'→h'=Aa):C R:=by
 have hU:AQ Aa=E8:=by funext i;unfold AQ E8 Aa;simp
 have jc:Dz w g Aa Aa g w:=⟨rfl,rfl,rfl,Am _,fun _ _ _=>rfl,hI.slt,fun _=>trivial,fun _ _ _ h=>h.elim,fun _ _ h=>h.elim,fun _ _ h=>.inl h,hI.glob⟩;refine hm (hc jc) ?_
 rintro e w' ⟨v,r,h',g',rfl,q1,q2,q3,q4⟩
 obtain rfl:=hQ r h' q1;rw[hU]at q2
 -- the caller's ghost,with the callee's stable cells
 have hk:Ey g w ⟨g.ρ,g.ln,g.tk,g.own,g'.S⟩ w':=q4.keeps;have hg:JI g ⟨g.ρ,g.ln,g.tk,g.own,g'.S⟩ (AQ st.h):=fun _ _=>⟨rfl,Am _,fun _=>rfl,fun _=>rfl⟩;have cO:∀b,b<w.heap.size→w'.heap[b]?=w.heap[b]?:=fun b hb=>q3.frame b hb (fun _ h=>h.elim);have tB:∀b o,g'.S b o→b<w.heap.size→g.S b o:=fun b o hs hb=>by
  rcases q3.sg b o hs with h1 | h1 | ⟨_,h1,_⟩
  ·exact h1
  ·omega
  ·exact h1.elim
 refine hR v r Aa ⟨g.ρ,g.ln,g.tk,g.own,g'.S⟩ w' q1 rfl ⟨q3.os.trans hI.os,q3.tape.trans hI.tape,q3.output.trans hI.output,Br hI.size q3.size,fun b hb hn=>?_,q3.slt,fun i=>?_,hI.inj,fun i b hl ho=>?_,fun b o hs=>?_,hI.glob.keep hk⟩ ⟨hg,fun _ h=>h,hk⟩ ?_
 ·exact(cO b (Bu hb hI.size)).trans (hI.frame b hb hn)
 ·refine(hI.objs i).same hk (fun _ h=>h) hg rfl rfl rfl rfl (fun b hl ho=>?_);have Ds:=(hI.loc i b hl ho).1;exact⟨cO b Ds,fun k hs=>tB b k hs Ds⟩
 ·obtain⟨h1,h2⟩:=hI.loc i b hl ho;exact⟨Bu h1 q3.size,h2⟩
 ·rcases q3.sg b o hs with h1 | h1 | ⟨_,h1,_⟩
  ·exact hI.sg b o h1
  ·exact .inr (.inl (Br hI.size h1))
  ·exact h1.elim
 ·have:Ey g' w' ⟨g.ρ,g.ln,g.tk,g.own,g'.S⟩ w':=fun b o h=>⟨h,rfl,fun _ _ h=>h⟩
  exact q2.mono this (fun _ h=>h) (fun _ h=>h.elim)
theorem aD(hI:Dz w0 g0 h0 st.h g w){f:Nat}{args:List AV}{Q:AV→(Nat→HO)→Prop}(hc:A3 P f args Aa Q){vals:Array Value}(hs:vals.size=args.length)
  (hv:∀(i:Nat) (av:AV) (x:Value),args[i]?=some av→vals[i]?=some x→BC g w E8 av x) {R:Ending→World→Prop}
  (hR:∀v r h' g' w',Q r h'→h'=Aa→Dz w0 g0 h0 st.h g' w'→Le st.h g w st.h g' w'→BC g' w' E8 r v→R (.returned v) w') (hQ:∀r h',Q r h'→h'=Aa):Calls P f vals w R :=
 have hU:AQ Aa=E8:=by funext i;unfold AQ E8 Aa;simp
 Rx (C:=Calls P f vals w) (fun h k=>h.mono k) hI (hc.2 g w vals hs (fun i av x h1 h2=>by rw[hU];exact hv i av x h1 h2)) hR hQ
theorem YieldAt.imp{F:Fence}{m:Nat}{P:Program}{l:Nat}{args:Array Value}{W:World}{R R' : Ending→World→Prop}(h:YieldAt F m P l args W R)(hr:∀e w,R e w→R' e w):YieldAt F m P l args W R' :=
 let ⟨fn,t,a,b,h1,h2⟩:=h
 ⟨fn,t,a,b,h1,h2.mono hr⟩
theorem IA.imp{Y:Gh→World→Prop}{l:Nat}{args:List AV}{h0:Nat→HO}{Q Q' : AV→(Nat→HO)→Prop}(h:IA P Y l args h0 Q)(hq:∀r h',Q r h'→Q' r h'):IA P Y l args h0 Q' :=
 fun g w vals q1 q2 q3 q4=>YieldAt.imp (h g w vals q1 q2 q3 q4) fun _ _ ⟨v,r,h',g',e1,e2,rest⟩=>⟨v,r,h',g',e1,hq _ _ e2,rest⟩
theorem FR.imp{Y:Nat→Gh→World→Prop}{F:AV}{args:List AV}{h0:Nat→HO}{Q Q' : AV→(Nat→HO)→Prop}(h:FR P Y F args h0 Q)(hq:∀r h',Q r h'→Q' r h'):FR P Y F args h0 Q':=by
 have one:∀{f:Nat} {l:List AV},A3 P f l h0 Q→A3 P f l h0 Q':=fun hc =>
  ⟨hc.1,fun g w vals q1 q2 q3=>(hc.2 g w vals q1 q2 q3).mono fun _ _ ⟨v,r,h',g',e1,e2,rest⟩=>⟨v,r,h',g',e1,hq _ _ e2,rest⟩⟩
 unfold FR at h⊢;split at h
 ·exact one h
 ·exact one h
 ·exact IA.imp h hq
 ·exact h.elim
abbrev Jp(ro:Option Nat):Fence:={ Fence.wide with round:=ro }
theorem Mo{ro:Option Nat}{o:Oper}{a:Act}{w:World}{next:Act→World→Prop}{Q:Exit→Act→World→Prop}(hd:∀c,o.op≠.defer c)(h:o.wp P a w next Q):o.wpIn (Jp ro) 0 P a w next Q:=by
 refine⟨fun _ _=>trivial,?_⟩;have e:o.semAt (Jp ro).round a.eval=execOp a.eval o:=Oper.semAt_eq ro a.eval o hd;rw[e];unfold Oper.wp at h;have key:∀res:Result Next,o.upon P a next Q res→o.uponIn (Jp ro) 0 P a next Q res:=fun res h=>by
  cases res with
  |ok n w'=>cases n with
   |enter f args=>exact(show(_→_)∧CallsIn (Jp ro) 0 P f args w' _ from⟨fun e=>by(cases e),callsIn_wide.2 h⟩)
   |row r args=>exact(show(_→_)∧RowsIn (Jp ro) 0 P r args w' _ from⟨fun e=>by(cases e),fun c cs _=>by
     obtain⟨v,ab,r',s⟩:=h c cs;exact⟨v,ab,r',stepsIn_wide.2 s⟩⟩)
   |round _ _ _ _ _=>exact h.elim
   |_=>exact h
  |halt x w'=>cases x<;>exact h
 exact key _ h
theorem Gm{f:Nat}{args:Array Value}(h:FS P f)(w:World):(callFunc f args).run P w=.ok (.enter f args) w:=by
 obtain⟨fn,h1,h2,h3⟩:=h;simp only[callFunc,Sem.run_bind,run_program,h1,Result.andThen_ok,h2,h3,Dc,F7,Sem.run_pure]
theorem SX{h:Nat→HO}{a:AV}(ha:ZF a=true):ren (Cj []) h a=str h a:=by
 have h0:∀a,ren0 (Cj []) h a=str0 h a:=fun a=>by
  cases a with
  |slice tk es=>cases tk<;>rfl
  |_=>rfl
 cases a with
 |tup cs=>cases ha
 |agg cs=>show AV.agg _=AV.agg _;exact Ad _ (Ba fun c _=>h0 c)
 |clo f cs=>show AV.clo f _=AV.clo f _;exact Ad _ (Ba fun c _=>h0 c)
 |v x=>exact h0 (.v x)
 |slice tk es=>exact h0 (.slice tk es)
 |msl r n=>exact h0 (.msl r n)
 |cptr cs=>exact h0 (.cptr cs)
 |ref r o=>exact h0 (.ref r o)
 |eref r n sz i o=>exact h0 (.eref r n sz i o)
 |mref r=>exact h0 (.mref r)
 |cmap sh l=>exact h0 (.cmap sh l)
 |junk=>rfl
theorem Pv{h:Nat→HO}:∀{l:List AV},SI l=true→l.map (ren (Cj []) h)=l.map (str h)
 | [],_=>rfl
 |a::l,e=>by
  unfold SI at e;split at e
  ·rename_i e1;rw[AJ,AJ,SX e1,Pv e]
  ·cases e
theorem PL:∀{l:List AV} {vs:List Value},UY l=some vs→l=vs.map .v
 | [],vs,h=>by cases h;rfl
 |.v x::r,vs,h=>by
  unfold UY at h;split at h
  ·rename_i l e;cases h;rw[AJ,←PL e]
  ·cases h
theorem aC{cx:Cx}{d:Option Nat}{st:St}{F:AV}{args:List AV}{K:HK}(hk:F4 cx true d st F args K):F4 cx false d st F args K:=by
 unfold F4 at hk;simp only at hk;split at hk
 ·exact⟨.pure,hk⟩
 ·split at hk
  ·exact hk.elim
  ·rename_i d _;obtain⟨n,sz,es,h1,h2,h3⟩:=hk;simp only[Af]at h1;refine⟨.gen [] 1,?_⟩;show(Ee []&&Dv st.h d 1&&Df [] d 1)=true∧_;refine⟨by simp[Ee,Df,h1.1.1],?_⟩;rw[SX h1.1.2,Pv h1.2];show FR cx.P (fun l=>cx.yp l []) _ _ Aa _;refine FR.imp h2 ?_
   rintro r h' ⟨e2,e3⟩
   subst e2;subst e3;have e1:ren (EV [] d 1) (Aj [(2000,.arr sz es)] Aa) (.msl 2000 n)=.msl (Bo d 0) n:=rfl;have e2:DZ [] d 1 st.h (Aj [(2000,.arr sz es)] Aa)=AU st.h (Bo d 0) (.arr sz es):=by
    funext i
    by_cases e:i=Bo d 0
    ·subst e;rw[A9];have hb:(Nat.ble (Bo d 0) (Bo d 0)&&Nat.blt (Bo d 0) (Bo d 1))=true:=by
      unfold Bo;simp only[Af,CR,B9];omega
     simp only[DZ,Cj,hb,F3];rfl
    ·rw[BR _ _ _ _ e]
     have:(Nat.ble (Bo d 0) i&&Nat.blt i (Bo d 1))=false:=by
      unfold Bo at e⊢;rw[AK];simp only[UE,Af,CR,B9];omega
     simp only[DZ,Cj,this]
   rw[e1,e2];exact h3
 ·split at hk
  ·unfold Tj at hk;split at hk
   ·exact hk.elim
   ·rename_i d _;obtain⟨sz,es,h1,h2,h3⟩:=hk;simp only[Af]at h1;refine⟨.gen [] 1,?_⟩;show(Ee []&&Dv st.h d 1&&Df [] d 1)=true∧_;refine⟨by simp[Ee,Df,h1.1.1],?_⟩;rw[SX h1.1.2,Pv h1.2];show FR cx.P (fun l=>cx.yp l []) _ _ Aa _;refine FR.imp h2 ?_
    rintro r h' ⟨e2,e3⟩
    subst e2;subst e3;have e1:ren (EV [] d 1) (Aj [(2000,.tok sz es.length)] Aa) (.slice (.id 2000 sz) es)=.slice (.id (Bo d 0) sz) es:=rfl;have e2:DZ [] d 1 st.h (Aj [(2000,.tok sz es.length)] Aa)=AU st.h (Bo d 0) (.tok sz es.length):=by
     funext i
     by_cases e:i=Bo d 0
     ·subst e;rw[A9];have hb:(Nat.ble (Bo d 0) (Bo d 0)&&Nat.blt (Bo d 0) (Bo d 1))=true:=by
       unfold Bo;simp only[Af,CR,B9];omega
      simp only[DZ,Cj,hb,F3];rfl
     ·rw[BR _ _ _ _ e]
      have:(Nat.ble (Bo d 0) i&&Nat.blt i (Bo d 1))=false:=by
       unfold Bo at e⊢;rw[AK];simp only[UE,Af,CR,B9];omega
      simp only[DZ,Cj,this]
    rw[e1,e2];exact h3
  split at hk
  ·unfold PM at hk;split at hk
   ·rename_i d l vs e2 z1;have hl:=PL e2;split at hk
    ·rename_i r sz es ZZ n e3 e4;obtain⟨⟨rfl,rfl⟩,v,Fr,n',h1,h2⟩:=hk;refine⟨.gen [(1000,1000),(1001,1001)] 0,?_⟩;show(Ee [(1000,1000),(1001,1001)]&&Dv st.h d 0&&Df [(1000,1000),(1001,1001)] d 0)=true∧_;refine⟨?_,?_⟩
     ·have:Df [(1000,1000),(1001,1001)] d 0=true:=by
       have q:∀r:Nat,(Nat.ble (Bo d 0) r&&Nat.blt r (Bo d 0))=false:=fun r=>by
        rw[AK];simp only[UE,Af,CR,B9];omega
       simp only[Df,q,Bool.not_false,Bool.and_self]
      rw[this];rfl
     have f1:args.map (ren (Cj [(1000,1000),(1001,1001)]) st.h)=vs.map .v:=by rw[hl,BK];rfl
     have f2:Fp [(1000,1000),(1001,1001)] st.h=Aj [(1000,.cells [.slice (.id 1001 ZZ) es]),(1001,.tok ZZ n)] Aa:=by
      unfold Fp VR VR VR;rw[e3,e4];rfl
     rw[f1,f2];refine IA.imp h1 ?_
     rintro r h' ⟨g1,g2⟩
     subst g1;subst g2;have f3:DZ [(1000,1000),(1001,1001)] d 0 st.h (Aj [(1000,.cells [.slice (.id 1001 ZZ) Fr]),(1001,.tok ZZ n')] Aa)=AU (AU st.h 1001 (.tok ZZ n')) 1000 (.cells [.slice (.id 1001 ZZ) Fr]):=by
      funext i
      by_cases e:i=1000
      ·subst e;rw[A9];rfl
      ·rw[BR _ _ _ _ e]
       by_cases e' : i=1001
       ·subst e';rw[A9];rfl
       ·rw[BR _ _ _ _ e'];have hn:Cj [(1000,1000),(1001,1001)] i=none:=by simp[Cj,Cz (Ne.symm e),Cz (Ne.symm e')]
        have:(Nat.ble (Bo d 0) i&&Nat.blt i (Bo d 0))=false:=by
         rw[AK];simp only[UE,Af,CR,B9];omega
        simp only[DZ,hn,this]
     rw[f3];exact h2
    ·exact hk.elim
   ·exact hk.elim
  unfold OE at hk;split at hk
  ·unfold WX at hk;split at hk
   ·rename_i d f _;obtain⟨σ,H0,Hn,args',res,g1,g2,g3,g4⟩:=hk;simp only[Af]at g2;obtain⟨k1,k2⟩:=g1 st.h fun _ _=>rfl;refine⟨.gen σ 0,?_⟩;show(Ee σ&&Dv st.h d 0&&Df σ d 0)=true∧_;refine⟨by rw[g2.1.1,g2.1.2];rfl,?_⟩;rw[k1,k2];refine FR.imp (show FR cx.P (fun l=>cx.yp l σ) (.v (.func (.func f) ⟨[]⟩ ⟨[]⟩)) args' (Aj H0 Aa) (fun r h'=>r=res∧h'=Aj Hn Aa)from g3) ?_
    rintro r h' ⟨e1,e2⟩
    rw[e1,e2];exact g4
   ·exact hk.elim
  unfold Qy at hk;split at hk
  ·rename_i dd f r n l _;split at hk
   ·rename_i vs cQ;have hl:=PL cQ;subst hl;split at hk
    ·rename_i sz es hr;have hf:Cj [(r,1000)] r=some 1000:=by simp[Cj]
     have e1:ren (Cj [(r,1000)]) st.h (.v (.func (.func f) ⟨[]⟩ ⟨[]⟩))=.v (.func (.func f) ⟨[]⟩ ⟨[]⟩):=rfl;have e2:(AV.msl r n::vs.map AV.v).map (ren (Cj [(r,1000)]) st.h)=.msl 1000 n::vs.map .v:=by
      rw[AJ]
      congr 1
      ·simp[ren,ren1,ren0,hf]
      ·rw[BK];rfl
     have e3:Fp [(r,1000)] st.h=Aj [(1000,.arr sz es)] Aa:=by
      unfold Fp VR;rw[hr];rfl
     split at hk
     ·obtain⟨n',Fr,h1,h2⟩:=hk;refine⟨.gen [(r,1000)] 0,?_⟩;show(Ee [(r,1000)]&&Dv st.h dd 0&&Df [(r,1000)] dd 0)=true∧_;refine⟨?_,?_⟩
      ·have:Df [(r,1000)] dd 0=true:=by
        unfold Df
        have:(Nat.ble (Bo dd 0) r&&Nat.blt r (Bo dd 0))=false:=by
         rw[AK];simp only[UE,Af,CR,B9];omega
        rw[this];rfl
       rw[this];rfl
      rw[e1,e2,e3];refine⟨h1.1,fun g w vals q1 q2 q3=>(h1.2 g w vals q1 q2 q3).mono fun _ _ ⟨v,r',h',g',e1,⟨e2,e3⟩,rest⟩=>⟨v,r',h',g',e1,?_,rest⟩⟩;subst e2;subst e3;have f1:ren (EV [(r,1000)] dd 0) (Aj [(1000,.arr sz Fr)] Aa) (.msl 1000 n')=.msl r n':=rfl;have f2:DZ [(r,1000)] dd 0 st.h (Aj [(1000,.arr sz Fr)] Aa)=AU st.h r (.arr sz Fr):=by
       funext i
       by_cases e:i=r
       ·subst e;rw[A9];simp[DZ,hf,Aj,HO.ren]
       ·rw[BR _ _ _ _ e];have hn:Cj [(r,1000)] i=none:=by simp[Cj,Cz (Ne.symm e)]
        have:(Nat.ble (Bo dd 0) i&&Nat.blt i (Bo dd 0))=false:=by
         rw[AK];simp only[UE,Af,CR,B9];omega
        simp only[DZ,hn,this]
      rw[f1,f2];exact h2
     ·obtain⟨n',Fr,h0,h1,h2⟩:=hk;simp only[Af,B9,CG]at h0;have ux:r≠Bo dd 0:=fun e=>by have:=h0.2;rw[e]at this;simp at this
      refine⟨.gen [(r,1000)] 1,?_⟩;show(Ee [(r,1000)]&&Dv st.h dd 1&&Df [(r,1000)] dd 1)=true∧_;refine⟨?_,?_⟩
      ·have:Df [(r,1000)] dd 1=true:=by
        unfold Df
        have:(Nat.ble (Bo dd 0) r&&Nat.blt r (Bo dd 1))=false:=by
         rw[AK];simp only[UE,Af,CR,B9];unfold Bo at ux⊢;omega
        rw[this];rfl
       rw[this,h0.1.1];rfl
      rw[e1,e2,e3];refine⟨h1.1,fun g w vals q1 q2 q3=>(h1.2 g w vals q1 q2 q3).mono fun _ _ ⟨v,r',h',g',e1,⟨e2,e3⟩,rest⟩=>⟨v,r',h',g',e1,?_,rest⟩⟩;subst e2;subst e3;have f1:ren (EV [(r,1000)] dd 1) (Aj [(1000,.dead),(2000,.arr sz Fr)] Aa) (.msl 2000 n')=.msl (Bo dd 0) n':=rfl;have f2:DZ [(r,1000)] dd 1 st.h (Aj [(1000,.dead),(2000,.arr sz Fr)] Aa)=AU (AU st.h r .dead) (Bo dd 0) (.arr sz Fr):=by
       funext i
       by_cases e:i=Bo dd 0
       ·subst e;rw[A9];have hn:Cj [(r,1000)] (Bo dd 0)=none:=by simp[Cj,Cz ux]
        have hb:(Nat.ble (Bo dd 0) (Bo dd 0)&&Nat.blt (Bo dd 0) (Bo dd 1))=true:=by
         unfold Bo;simp only[Af,CR,B9];omega
        simp only[DZ,hn,hb,F3];rfl
       ·rw[BR _ _ _ _ e]
        by_cases e4:i=r
        ·subst e4;rw[A9];simp[DZ,hf,Aj,HO.ren]
        ·rw[BR _ _ _ _ e4];have hn:Cj [(r,1000)] i=none:=by simp[Cj,Cz (Ne.symm e4)]
         have:(Nat.ble (Bo dd 0) i&&Nat.blt i (Bo dd 1))=false:=by
          rw[AK];simp only[UE,Af,CR,B9];unfold Bo at e⊢;omega
         simp only[DZ,hn,this]
      rw[f1,f2];exact h2
    ·exact hk.elim
   ·exact hk.elim
  ·exact hk.elim
theorem dk{cx:Cx}{dr:Bool}{d:Option Nat}{f:Operand}{args:Array Operand}{Gy:Array TypeId}{dst:Option Nat}{ty:Nat}{pos:String}{after:Array Edge}{gd:Option (Nat×Bool)}{K:HK}{next:Act→World→Prop}{Q:Exit→Act→World→Prop}
  (hP:cx.P=P) (hY:∀l σ h g w,Ee σ=true→Dz w0 g0 h0 h g w→Le h0 g0 w0 h g w→cx.yp l σ (Do σ g) w) {ro:Option Nat} (hS:SR N ds w0 g0 h0 st g a w) (hk:F4 cx dr d st (ev st.t f) (args.toList.map (ev st.t)) K)
  (hn:XU w0 g0 h0 st.h g w K fun x w'=>next (a.put dst x) w'):Oper.wpIn (Jp ro) 0 P ⟨dst,.call ⟨.value f,args,Gy⟩,ty,pos,after,gd⟩ a w next Q:=by
 subst hP;have hk:F4 cx false d st (ev st.t f) (args.toList.map (ev st.t)) K:=by
  cases dr with
  |true=>exact aC hk
  |false=>exact hk
 have I4:∀(i:Nat) (av:AV) (x:Value),((args.toList.map (ev st.t)).map (str st.h))[i]?=some av→(args.map a.eval)[i]?=some x→BC g w E8 av x:=by
  intro i av x h1 h2;rw[AC,AC]at h1;rw[NE]at h2;cases ho:args[i]? with
  |none=>rw[ho]at h2;simp at h2
  |some y =>
   rw[ho]at h2;have hy:args.toList[i]?=some y:=by simpa using ho
   rw[hy]at h1;simp only[Fo,Bj]at h1 h2;subst h1;subst h2;exact BC.str hS.inv.objs (hS.eval y)
 have Cw:(args.map a.eval).size=((args.toList.map (ev st.t)).map (str st.h)).length:=by simp
 have hF:=BC.str hS.inv.objs (hS.eval f)
 -- a call of yield
 have yl:∀(l:Nat) (R:Ending→World→Prop),a.eval f=.func (.yield l) #[] #[]→YieldAt Fence.wide 0 cx.P l (args.map a.eval) w R→(∀e w',R e w'→∃v,e=.returned v∧next (a.put dst v) w') →
   Oper.wpIn (Jp ro) 0 cx.P ⟨dst,.call ⟨.value f,args,Gy⟩,ty,pos,after,gd⟩ a w next Q:=by
  rintro l R hx ⟨fn,tm,Gq,bd,h1,h2⟩ hR
  refine⟨fun _ _=>trivial,?_⟩;have e:(⟨dst,.call ⟨.value f,args,Gy⟩,ty,pos,after,gd⟩:Oper).semAt (Jp ro).round a.eval=execOp a.eval ⟨dst,.call ⟨.value f,args,Gy⟩,ty,pos,after,gd⟩:=Oper.semAt_eq ro a.eval _ (fun c e=>by cases e);have CB:(execOp a.eval ⟨dst,.call ⟨.value f,args,Gy⟩,ty,pos,after,gd⟩).run cx.P w=.ok (.round l fn tm Gq bd) w:=by
   simp only[execOp,resolve,hx,Deferred.ofValue,Sem.run_bind,Sem.run_pure,Result.andThen_ok,invoke];simpa using h1
  rw[e,CB];refine(show(_→_)∧RoundIn (Jp ro) 0 cx.P l fn tm Gq bd w _ from⟨fun e=>by(cases e),RoundIn.mono h2 fun e w' h=>?_⟩);obtain⟨v,rfl,hn⟩:=hR e w' h;exact hn
 -- the call itself
 have go:∀(Q' : AV→(Nat→HO)→Prop),(∀r h',Q' r h'→h'=Aa∧K r st.h)→FR cx.P (fun _ _ _=>True) (str st.h (ev st.t f)) ((args.toList.map (ev st.t)).map (str st.h)) Aa Q' →
   Oper.wpIn (Jp ro) 0 cx.P ⟨dst,.call ⟨.value f,args,Gy⟩,ty,pos,after,gd⟩ a w next Q:=by
  intro Q' hQ hc
  have fin:∀{fn:Nat} {l:List AV} {vals:Array Value},A3 cx.P fn l Aa Q'→vals.size=l.length→(∀(i:Nat) (av:AV) (x:Value),l[i]?=some av→vals[i]?=some x→BC g w E8 av x) →
    (execOp a.eval ⟨dst,.call ⟨.value f,args,Gy⟩,ty,pos,after,gd⟩).run cx.P w=.ok (.enter fn vals) w→Oper.wpIn (Jp ro) 0 cx.P ⟨dst,.call ⟨.value f,args,Gy⟩,ty,pos,after,gd⟩ a w next Q:=by
   intro fn l vals hc hs hv CB;refine Mo (fun c e=>by cases e) ?_;unfold Oper.wp;rw[CB];exact aD hS.inv hc hs hv (fun v r h' g' w' hq _ hI Hb hr=>hn r _ g' w' v (hQ r h' hq).2 hI Hb (hr.up _)) (fun r h' hq=>(hQ r h' hq).1)
  unfold FR at hc;split at hc
  ·rename_i fn e;rw[e]at hF;have hx:=hF.v_eq;refine fin hc Cw I4 ?_;have Li : a.eval f=.func (.func fn) #[] #[]:=hx;simp only[execOp,resolve,Li,Deferred.ofValue,Sem.run_bind,Sem.run_pure,Result.andThen_ok,invoke];rw[Gm hc.1];simp
  ·rename_i fn caps e;rw[e]at hF;generalize hx:a.eval f=fv at hF;cases hF with
   |clo _ _ _ vs Et Og =>
    refine fin hc (vals:=args.map a.eval++vs) (by simp[Et]) (fun i av x h1 h2=>?_) ?_
    ·rw[Lq]at h1;rw[HE]at h2;have hl:((args.toList.map (ev st.t)).map (str st.h)).length=(args.map a.eval).size:=Cw.symm;rw[hl]at h1;split at h1
     ·rename_i hi;rw[Ao hi]at h2;exact I4 i av x h1 h2
     ·rename_i hi;rw[Ai hi]at h2;exact Og _ av x h1 h2
    ·simp only[execOp,resolve,hx,Deferred.ofValue,Sem.run_bind,Sem.run_pure,Result.andThen_ok,invoke];rw[Gm hc.1];simp
  ·rename_i l e;rw[e]at hF;have hU:AQ Aa=E8:=by funext i;unfold AQ E8 Aa;simp
   refine yl l _ hF.v_eq (Rx (C:=YieldAt Fence.wide 0 cx.P l (args.map a.eval) w) (R:=fun e w'=>∃v,e=.returned v∧next (a.put dst v) w') YieldAt.imp hS.inv (fun jc=>hc g w _ Cw (fun i av x h1 h2=>by rw[hU];exact I4 i av x h1 h2) jc trivial)
    (fun v r h' g' w' hq _ hI Hb hr=>⟨v,rfl,hn r _ g' w' v (hQ r h' hq).2 hI Hb (hr.up _)⟩) (fun r h' hq=>(hQ r h' hq).1)) fun _ _ h=>h
  ·exact hc.elim
 have pure:(∃res,OQ cx.P (str st.h (ev st.t f)) ((args.toList.map (ev st.t)).map (str st.h)) res∧K res st.h)→Oper.wpIn (Jp ro) 0 cx.P ⟨dst,.call ⟨.value f,args,Gy⟩,ty,pos,after,gd⟩ a w next Q:=by
  rintro⟨res,h1,h2⟩
  refine go (fun r h'=>r=res∧h'=Aa) (fun r h' hq=>⟨hq.2,by rw[hq.1];exact h2⟩) ?_;unfold OQ at h1;unfold FR;split at h1
  ·rename_i fn e;rw[e];exact h1
  ·rename_i fn caps e;rw[e];exact h1
  ·exact h1.elim
 unfold F4 at hk
 ·obtain⟨m,hm⟩:=hk;cases m with
  |pure=>exact pure hm
  |rel=>exact go _ (fun r h' hq=>hq) hm
  |gen σ nn =>
   simp only at hm;cases d with
   |none=>exact hm.elim
   |some d =>
    simp only at hm;obtain⟨Gk,hc⟩:=hm;have hσ:Ee σ=true:=by simp only[Af]at Gk;exact Gk.1.1
    obtain⟨hR,_⟩:=Vz hS.inv hσ;have d5:=(hS.eval f).ren hR;have RX:∀(i:Nat) (av:AV) (x:Value),((args.toList.map (ev st.t)).map (ren (Cj σ) st.h))[i]?=some av→(args.map a.eval)[i]?=some x→BC (Do σ g) w (AQ (Fp σ st.h)) av x:=by
     intro i av x h1 h2;rw[AC,AC]at h1;rw[NE]at h2;cases ho:args[i]? with
     |none=>rw[ho]at h2;simp at h2
     |some y =>
      rw[ho]at h2;have hy:args.toList[i]?=some y:=by simpa using ho
      rw[hy]at h1;simp only[Fo,Bj]at h1 h2;subst h1;subst h2;exact(hS.eval y).ren hR
    have K7:(args.map a.eval).size=((args.toList.map (ev st.t)).map (ren (Cj σ) st.h)).length:=by simp
    have fin:∀{fn:Nat} {l:List AV} {vals:Array Value},A3 cx.P fn l (Fp σ st.h) (fun r h'=>K (ren (EV σ d nn) h' r) (DZ σ d nn st.h h'))→vals.size=l.length →
      (∀(i:Nat) (av:AV) (x:Value),l[i]?=some av→vals[i]?=some x→BC (Do σ g) w (AQ (Fp σ st.h)) av x) →
      (execOp a.eval ⟨dst,.call ⟨.value f,args,Gy⟩,ty,pos,after,gd⟩).run cx.P w=.ok (.enter fn vals) w→Oper.wpIn (Jp ro) 0 cx.P ⟨dst,.call ⟨.value f,args,Gy⟩,ty,pos,after,gd⟩ a w next Q:=by
     intro fn l vals hc hs hv CB;refine Mo (fun c e=>by cases e) ?_;unfold Oper.wp;rw[CB];exact dn hS.inv Gk hc hs hv (fun v r h' g' w' hq hI Hb hr=>hn _ _ g' w' v hq hI Hb hr)
    unfold FR at hc;split at hc
    ·rename_i fn e;rw[e]at d5;have hx:a.eval f=.func (.func fn) #[] #[]:=d5.v_eq;refine fin hc K7 RX ?_;simp only[execOp,resolve,hx,Deferred.ofValue,Sem.run_bind,Sem.run_pure,Result.andThen_ok,invoke];rw[Gm hc.1];simp
    ·rename_i fn caps e;rw[e]at d5;generalize hx:a.eval f=fv at d5;cases d5 with
     |clo _ _ _ vs Et Og =>
      refine fin hc (vals:=args.map a.eval++vs) (by simp[Et]) (fun i av x h1 h2=>?_) ?_
      ·rw[Lq]at h1;rw[HE]at h2;have hl:((args.toList.map (ev st.t)).map (ren (Cj σ) st.h)).length=(args.map a.eval).size:=K7.symm;rw[hl]at h1;split at h1
       ·rename_i hi;rw[Ao hi]at h2;exact RX i av x h1 h2
       ·rename_i hi;rw[Ai hi]at h2;exact Og _ av x h1 h2
      ·simp only[execOp,resolve,hx,Deferred.ofValue,Sem.run_bind,Sem.run_pure,Result.andThen_ok,invoke];rw[Gm hc.1];simp
    ·rename_i l e;rw[e]at d5
     exact yl l _ d5.v_eq (L9 (C:=YieldAt Fence.wide 0 cx.P l (args.map a.eval) w) (R:=fun e w'=>∃v,e=.returned v∧next (a.put dst v) w') YieldAt.imp hS.inv Gk (fun jc=>hc (Do σ g) w _ K7 RX jc (hY l σ _ _ _ hσ hS.inv hS.le))
      (fun v r h' g' w' hq hI Hb hr=>⟨v,rfl,hn _ _ g' w' v hq hI Hb hr⟩)) fun _ _ h=>h
    ·exact hc.elim
  |geny σ nn =>
   simp only at hm;cases d with
   |none=>exact hm.elim
   |some d =>
    simp only at hm;obtain⟨Gk,hc⟩:=hm;have hσ:Ee σ=true:=by simp only[Af]at Gk;exact Gk.1.1
    obtain⟨hR,_⟩:=Vz hS.inv hσ;have d5:=(hS.eval f).ren hR;have RX:∀(i:Nat) (av:AV) (x:Value),((args.toList.map (ev st.t)).map (ren (Cj σ) st.h))[i]?=some av→(args.map a.eval)[i]?=some x→BC (Do σ g) w (AQ (Fp σ st.h)) av x:=by
     intro i av x h1 h2;rw[AC,AC]at h1;rw[NE]at h2;cases ho:args[i]? with
     |none=>rw[ho]at h2;simp at h2
     |some y =>
      rw[ho]at h2;have hy:args.toList[i]?=some y:=by simpa using ho
      rw[hy]at h1;simp only[Fo,Bj]at h1 h2;subst h1;subst h2;exact(hS.eval y).ren hR
    have K7:(args.map a.eval).size=((args.toList.map (ev st.t)).map (ren (Cj σ) st.h)).length:=by simp
    split at hc
    ·rename_i fn caps e;rw[e]at d5;generalize hx:a.eval f=fv at d5;cases d5 with
     |clo _ _ _ vs Et Og =>
      have CB:(execOp a.eval ⟨dst,.call ⟨.value f,args,Gy⟩,ty,pos,after,gd⟩).run cx.P w=.ok (.enter fn (args.map a.eval++vs)) w:=by
       simp only[execOp,resolve,hx,Deferred.ofValue,Sem.run_bind,Sem.run_pure,Result.andThen_ok,invoke];rw[Gm hc.1];simp
      refine Mo (fun c e=>by cases e) ?_;unfold Oper.wp;rw[CB];refine L9 (C:=Calls cx.P fn (args.map a.eval++vs) w) (fun h k=>h.mono k) hS.inv Gk (fun jc=>hc.2 (Do σ g) w _ (by simp[Et]) (fun i av x h1 h2=>?_) jc (fun l=>hY l σ _ _ _ hσ hS.inv hS.le)) (fun v r h' g' w' hq hI Hb hr=>hn _ _ g' w' v hq hI Hb hr);rw[Lq]at h1;rw[HE]at h2;have hl:((args.toList.map (ev st.t)).map (ren (Cj σ) st.h)).length=(args.map a.eval).size:=K7.symm;rw[hl]at h1;split at h1
      ·rename_i hi;rw[Ao hi]at h2;exact RX i av x h1 h2
      ·rename_i hi;rw[Ai hi]at h2;exact Og _ av x h1 h2
    ·exact hc.elim
end
end Go.Eng
