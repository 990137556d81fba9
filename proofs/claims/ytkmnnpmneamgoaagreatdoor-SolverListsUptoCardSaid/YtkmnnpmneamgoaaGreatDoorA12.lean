/- Lemmas for the claims of this seat, without a condition: part 12 (EngZ1, EngZ2, EngZA). -/
import Derived.Test.YtkmnnpmneamgoaaGreatDoorA11
namespace Go.Eng

theorem Wo:∀{σ:Hq},ES σ=true→∀i j,Cn σ i=some j↔GC σ j=some i
 | [],_,i,j=>by simp[Cn,GC]
 |(a,b)::r,h,i,j=>by
  simp only[ES,Ag]at h;obtain⟨h1,h2⟩:=h;have ih:=Wo h2;have mf:Cn r a=none∧GC r b=none:=by
   split at h1
   ·rename_i e1 e2;exact⟨e1,e2⟩
   ·cases h1
  unfold Cn GC
  by_cases e1:a=i<;>by_cases e2:b=j
  ·subst e1;subst e2;simp
  ·subst e1;simp only[Dc,JP,Ci e2,D7];constructor
   ·intro h;cases h;exact absurd rfl e2
   ·intro h;rw[(ih a j).2 h]at mf;cases mf.1
  ·subst e2;simp only[Dc,JP,Ci e1,D7];constructor
   ·intro h;rw[(ih i b).1 h]at mf;cases mf.2
   ·intro h;cases h;exact absurd rfl e1
  ·simp only[Ci e1,Ci e2,D7];exact ih i j
theorem iA:∀{σ:Hq},D4 σ=true→ES σ=true
 | [],_=>rfl
 |(a,b)::r,h=>by
  simp only[D4,Ag]at h;simp only[ES,Ag];exact⟨h.1.1.1,iA h.2⟩
theorem WD{σ:Hq}(h:D4 σ=true):∀i j,Cn σ i=some j↔GC σ j=some i:=Wo (iA h)
theorem Vr:∀{σ:Hq},D4 σ=true→∀{i j},Cn σ i=some j→1000≤j∧j<2000
 | [],_,i,j,h=>by simp[Cn]at h
 |(a,b)::r,h,i,j,hf=>by
  simp only[D4,Ag,Dn,Ck]at h;unfold Cn at hf
  by_cases e1:a=i
  ·subst e1;simp only[Dc,JP]at hf;cases hf;exact⟨h.1.1.2,h.1.2⟩
  ·simp only[Ci e1,D7]at hf;exact Vr h.2 hf
theorem O7(f:Nat→Option Nat)(h:Nat→HO):∀(σ:Hq) (j:Nat),Af (WC f h σ) Aa j=match GC σ j with | some i=>(h i).ren f h | none=>.free
 | [],j=>rfl
 |(a,b)::r,j=>by
  unfold WC Af GC
  by_cases e:b=j
  ·subst e;simp
  ·simp only[Ci e,Ci (Ne.symm e),D7];exact O7 f h r j

structure Kt(f:Nat→Option Nat)(h h2:Nat→HO)(g g2:Gh)(w:World):Prop where
 ids:∀r r',f r=some r'→AM h r→g2.tk r'=g.tk r∧g2.ln r'=g.ln r∧g2.ρ r'=g.ρ r∧g2.own r'=g.own r∧AM h2 r'
 S:∀b o,g2.S b o↔g.S b o
 objs:∀r,Ec g w (AM h) r (h r)

section
variable {f:Nat→Option Nat}{h h2:Nat→HO}{g g2:Gh}{w:World}
theorem Kt.keeps(hR:Kt f h h2 g g2 w):E0 g w g2 w:=fun b o hs=>⟨(hR.S b o).2 hs,rfl,fun _ _ e=>e⟩
theorem Kt.noU(hR:Kt f h h2 g g2 w){av:AV}{x:Value}(r:BI g w Fj av x):BI g2 w (AM h2) av x:=r.mono hR.keeps (fun _ h=>h.elim) (fun _ h=>h.elim)
theorem BI.ren0(hR:Kt f h h2 g g2 w){av:AV}{x:Value}(r:BI g w (AM h) av x):BI g2 w (AM h2) (ren0 f h av) x:=by
 have down:BI g2 w (AM h2) (Eng.str0 h av) x:=hR.noU (BI.str0 hR.objs r);cases av with
 |v y=>exact down
 |slice tk es =>
  cases tk with
  |none=>exact down
  |full sz=>exact down
  |id i sz =>
   simp only[Eng.ren0];split
   ·rename_i i' e;cases r with
    |tok _ _ _ _ _ hs hl hu ht hn hx =>
     obtain⟨k1,k2,k3,k4,k5⟩:=hR.ids i i' e hu;exact .tok _ i' sz es x (hR.noU (BI.slice_none hs)) hl k5 (k1.trans ht) (by omega) (fun q=>by rw[k3];exact hx (by omega))
   ·exact hR.noU r.slice_none
  |ver i sz v =>
   simp only[Eng.ren0];split
   ·rename_i i' e;cases r with
    |ver _ _ _ _ _ _ hs hl hu ht hn hx =>
     obtain⟨k1,k2,k3,k4,k5⟩:=hR.ids i i' e hu;exact .ver _ i' sz v es x (hR.noU (BI.slice_none hs)) hl k5 (k1.trans ht) (by omega) (fun q=>by rw[k3];exact hx (by omega))
   ·exact hR.noU r.slice_none
 |msl i n =>
  simp only[Eng.ren0];split
  ·rename_i i' e;cases r with
   |msl _ _ _ a cap hu ht hn ha hx =>
    obtain⟨k1,k2,k3,k4,k5⟩:=hR.ids i i' e hu;exact .msl _ i' n a cap k5 (k1.trans ht) (by omega) ha (fun q=>by rw[k3];exact hx (by omega))
  ·exact .junk _ _
 |agg cs=>exact down
 |tup cs=>exact down
 |cptr cs=>exact down
 |ref i off =>
  simp only[Eng.ren0];split
  ·rename_i i' e;cases r with
   |ref _ _ _ b hu ht hx =>
    obtain⟨k1,k2,k3,k4,k5⟩:=hR.ids i i' e hu;exact .ref _ i' off b k5 (k1.trans ht) (k3.trans hx)
  ·exact down
 |eref i n sz k off =>
  simp only[Eng.ren0];split
  ·rename_i i' e;cases r with
   |eref _ _ _ _ _ _ b cap hu ht hn hx =>
    obtain⟨k1,k2,k3,k4,k5⟩:=hR.ids i i' e hu;exact .eref _ i' n sz k off b cap k5 (k1.trans ht) ⟨hn.1,by omega⟩ (fun q=>by rw[k3];exact hx (by omega))
  ·exact .junk _ _
 |mref i =>
  simp only[Eng.ren0];split
  ·rename_i i' e;cases r with
   |mref _ _ b hu ht hx =>
    obtain⟨k1,k2,k3,k4,k5⟩:=hR.ids i i' e hu;exact .mref _ i' b k5 (k1.trans ht) (k3.trans hx)
  ·exact down
 |cmap sh Cb=>exact down
 |clo i cs=>exact down
 |junk=>exact down
theorem BI.ren1(hR:Kt f h h2 g g2 w){av:AV}{x:Value}(r:BI g w (AM h) av x):BI g2 w (AM h2) (ren1 f h av) x:=by
 cases av with
 |agg cs =>
  cases r with
  |agg _ _ vs hs h1 hr =>
   exact .agg _ _ vs (by simp[hs]) h1 fun i av x q1 q2=>by
    rw[AI]at q1;obtain⟨a,q3,rfl⟩:=AQ.1 q1;exact(hr i a x q3 q2).ren0 hR
 |clo i cs =>
  cases r with
  |clo _ _ _ vs hs hr =>
   exact .clo _ _ _ vs (by simp[hs]) fun i av x q1 q2=>by
    rw[AI]at q1;obtain⟨a,q3,rfl⟩:=AQ.1 q1;exact(hr i a x q3 q2).ren0 hR
 |_=>exact r.ren0 hR
theorem BI.ren(hR:Kt f h h2 g g2 w){av:AV}{x:Value}(r:BI g w (AM h) av x):BI g2 w (AM h2) (ren f h av) x:=by
 cases av with
 |tup cs =>
  cases r with
  |tup _ _ vs hs hr =>
   exact .tup _ _ vs (by simp[hs]) fun i av x q1 q2=>by
    rw[AI]at q1;obtain⟨a,q3,rfl⟩:=AQ.1 q1;exact(hr i a x q3 q2).ren1 hR
 |_=>exact r.ren1 hR
theorem Ms(f:Nat→Option Nat)(h:Nat→HO)(o:HO):(o.ren f h).live↔o.live:=by cases o<;>exact Qy
theorem Mt(f:Nat→Option Nat)(h:Nat→HO)(o:HO):o.ren f h≠.free↔o≠.free:=by cases o<;>simp[HO.ren]
theorem Ec.ren(hR:Kt f h h2 g g2 w){i j:Nat}(Wf:f i=some j)(hu:AM h i){o:HO}(r:Ec g w (AM h) i o):Ec g2 w (AM h2) j (o.ren f h):=by
 obtain⟨k1,k2,k3,k4,k5⟩:=hR.ids i j Wf hu;have noL:∀{cs:List AV} {vs:List Value},CT g w Fj cs vs→CT g2 w Fj cs vs:=fun hr=>hr.mono hR.keeps (fun _ h=>h) (fun _ h=>h.elim);have tH:∀{av:AV} {x:Value},BI g w Fj av x→BI g2 w Fj av x:=fun hr=>hr.mono hR.keeps (fun _ h=>h) (fun _ h=>h.elim);cases o with
 |free=>trivial
 |dead=>trivial
 |cells cs =>
  obtain⟨t,b,E,vs,a1,a2,a3,a4,a5⟩:=r;refine⟨k1.trans t,b,E,vs,k4.trans a1,k3.trans a2,a3,⟨by simp[a4.1],a4.2.1,fun i av x q1 q2=>?_⟩,fun o ho=>a5 o ((hR.S b o).1 ho)⟩;rw[AI]at q1;obtain⟨a,q3,rfl⟩:=AQ.1 q1;exact(a4.2.2 i a x q3 q2).ren1 hR
 |ro cs =>
  obtain⟨t,b,a1,a2⟩:=r;exact⟨k1.trans t,b,k3.trans a1,tH a2⟩
 |tok sz n =>
  obtain⟨t,l,a,cap,a1,a2⟩:=r;refine⟨k1.trans t,k2.trans l,a,cap,k3.trans a1,?_⟩;rcases a2 with ⟨b1,b2⟩ | ⟨b1,b,E,vs,off,b2,b3,b4,b5,b6⟩
  ·exact .inl ⟨b1,k4.trans b2⟩
  ·exact .inr ⟨b1,b,E,vs,off,b2,k4.trans b3,b4,b5,fun o ho=>b6 o ((hR.S b o).1 ho)⟩
 |var sz v n =>
  obtain⟨t,l,a,cap,a1,a2⟩:=r;refine⟨k1.trans t,k2.trans l,a,cap,k3.trans a1,?_⟩;rcases a2 with ⟨b1,b2⟩ | ⟨b1,b,E,vs,off,b2,b3,b4,b5,b6⟩
  ·exact .inl ⟨b1,k4.trans b2⟩
  ·exact .inr ⟨b1,b,E,vs,off,b2,k4.trans b3,b4,b5,fun o ho=>b6 o ((hR.S b o).1 ho)⟩
 |vox v=>exact⟨k1.trans r.1,k2.trans r.2⟩
 |raw b ob =>
  obtain⟨t,a1,a2,a3,a4⟩:=r;exact⟨k1.trans t,k4.trans a1,a2,a3,fun o ho=>a4 o ((hR.S b o).1 ho)⟩
 |arr sz es =>
  obtain⟨t,l,al,a2⟩:=r;refine⟨k1.trans t,k2.trans l,al,?_⟩;rcases a2 with ⟨b1,b2,b3⟩ | ⟨b,cap,E,vs,b1,b2,b3,b4,b5,b6,b7⟩
  ·exact .inl ⟨b1,k3.trans b2,k4.trans b3⟩
  ·exact .inr ⟨b,cap,E,vs,k3.trans b1,k4.trans b2,b3,b4,b5,noL b6,fun o ho=>b7 o ((hR.S b o).1 ho)⟩
 |map sh Cb =>
  obtain⟨t,b,es,ck,a1,a2,a3,a4,a5,a6⟩:=r;exact⟨k1.trans t,b,es,ck,k4.trans a1,k3.trans a2,a3,a4,fun i kv e q1 q2=>tH (a5 i kv e q1 q2),fun o ho=>a6 o ((hR.S b o).1 ho)⟩
 |mapU sh Cb =>
  obtain⟨t,b,es,ck,a1,a2,a3,a4,a5,a6⟩:=r;refine⟨k1.trans t,b,es,ck,k4.trans a1,k3.trans a2,a3,Ve _ a4,fun i kv e q1 q2=>?_,fun o ho=>a6 o ((hR.S b o).1 ho)⟩;rw[AI]at q1;obtain⟨p,q3,rfl⟩:=AQ.1 q1;exact(a5 i p e q3 q2).ren1 hR
 |rom sh Cb =>
  obtain⟨t,b,a1,a2⟩:=r;exact⟨k1.trans t,b,k3.trans a1,tH a2⟩
 |iter all rem F6 =>
  obtain⟨t,b,mb,J3,seen,st,es,ck,a1,a2,a3,a4,a5,a6,a7,a8,a9,WV,am,a12,mP⟩:=r;exact⟨k1.trans t,b,mb,J3,seen,st,es,ck,k4.trans a1,k3.trans a2,a3,(hR.S _ _).2 a4,a5,a6,a7,a8,fun i kv e q1 q2=>tH (a9 i kv e q1 q2),WV,am,a12,fun o ho=>mP o ((hR.S b o).1 ho)⟩
end
end Go.Eng

namespace Go.Eng

theorem OZ{h:Nat→HO}{d:Nat}:∀{n:Nat},DA h d n=true→∀k,k<n→h (BA d k)=.free
 |0,_,k,hk=>by omega
 |n+1,hf,k,hk=>by
  simp only[DA,Ag]at hf
  by_cases e:k=n
  ·subst e
   have:=hf.1
   split at this
   ·rename_i e2;exact e2
   ·cases this
  ·exact OZ hf.2 k (by omega)
theorem Nr{d nn:Nat}:∀{σ:Hq},Dj σ d nn=true→∀{i j},Cn σ i=some j→¬(BA d 0≤i∧i<BA d nn)
 | [],_,i,j,h=>by simp[Cn]at h
 |(a,b)::r,hs,i,j,hf=>by
  simp only[Dj,Ag]at hs;unfold Cn at hf
  by_cases e1:a=i
  ·subst e1;have h1:=hs.1;simp only[CX,Bool.and_eq_false_iff]at h1;intro hc;rcases h1 with h1 | h1
   ·rw[Nat.ble_eq_true_of_le hc.1]at h1;cases h1
   ·have h2:Nat.blt a (BA d nn)=true:=by rw[Ck];exact hc.2
    rw[h2]at h1;cases h1
  ·simp only[Ci e1,D7]at hf;exact Nr hs.2 hf

section
variable {P:Program}{w0:World}{g0:Gh}{h0 h:Nat→HO}{g:Gh}{w:World}

def CO(σ:Hq)(g:Gh):Gh :=
 ⟨fun j=>match GC σ j with | some i=>g.ρ i | none=>.nilIface,fun j=>match GC σ j with | some i=>g.ln i | none=>0,fun j=>match GC σ j with | some i=>g.tk i | none=>false,
  fun j=>match GC σ j with | some i=>g.own i | none=>none,g.S⟩
def Vy(σ:Hq)(d nn:Nat)(i:Nat):Option Nat :=
 match Cn σ i with
 |some j=>some j
 |none=>match Nat.ble (BA d 0) i&&Nat.blt i (BA d nn)with |true=>some (2000+(i-BA d 0)) |false=>none
def GS(σ:Hq)(d nn:Nat)(g g' : Gh):Gh :=
 ⟨fun i=>match Vy σ d nn i with | some j=>g'.ρ j | none=>g.ρ i,fun i=>match Vy σ d nn i with | some j=>g'.ln j | none=>g.ln i,fun i=>match Vy σ d nn i with | some j=>g'.tk j | none=>g.tk i,
  fun i=>match Vy σ d nn i with | some j=>g'.own j | none=>g.own i,g'.S⟩
theorem bK(σ:Hq)(d nn:Nat)(h h' : Nat→HO)(i:Nat):Ea σ d nn h h' i=match Vy σ d nn i with | some j=>(h' j).ren (Fg σ d nn) h' | none=>h i:=by
 unfold Ea Vy;cases Cn σ i with
 |some j=>rfl
 |none =>
  dsimp only;cases Nat.ble (BA d 0) i&&Nat.blt i (BA d nn)<;>rfl
theorem jd{σ:Hq}{d nn:Nat}(hσ:D4 σ=true)(ha:Dj σ d nn=true)(i j:Nat):Vy σ d nn i=some j↔Fg σ d nn j=some i:=by
 have inv:=WD hσ;unfold Vy Fg;cases h1:Cn σ i with
 |some j' =>
  have hb:=(inv i j').1 h1;dsimp only;constructor
  ·intro h;cases h;rw[hb]
  ·intro h;cases h2:GC σ j with
   |some i'=>rw[h2]at h;cases h;rw[(inv i j).2 h2]at h1;exact h1.symm
   |none =>
    rw[h2]at h;dsimp only at h;split at h
    ·rename_i hc;have h:=Ch h;subst h;simp only[Ag,Dn,Ck]at hc;exact absurd ⟨by unfold BA;omega,by unfold BA;omega⟩ (Nr ha h1)
    ·cases h
 |none =>
  dsimp only;cases h2:GC σ j with
  |some i' =>
   dsimp only;have hf:=(inv i' j).2 h2;have hr:=Vr hσ hf;constructor
   ·intro h;split at h
    ·cases h;omega
    ·cases h
   ·intro h;cases h;rw[hf]at h1;cases h1
  |none =>
   dsimp only;constructor
   ·intro h;split at h
    ·rename_i hc;cases h;simp only[Ag,Dn,Ck]at hc;have e1:(Nat.ble 2000 (2000+(i-BA d 0))&&Nat.blt (2000+(i-BA d 0)) (2000+nn))=true:=by
      simp only[Ag,Dn,Ck];unfold BA at hc⊢;omega
     rw[e1]
     have:BA d (2000+(i-BA d 0)-2000)=i:=by unfold BA at hc⊢;omega
     rw[this]
    ·cases h
   ·intro h;split at h
    ·rename_i hc;have h:=Ch h;subst h;simp only[Ag,Dn,Ck]at hc;have e1:(Nat.ble (BA d 0) (BA d (j-2000))&&Nat.blt (BA d (j-2000)) (BA d nn))=true:=by
      simp only[Ag,Dn,Ck];unfold BA;omega
     rw[e1]
     have:2000+(BA d (j-2000)-BA d 0)=j:=by unfold BA;omega
     rw[this]
    ·cases h

theorem SJ(hI:Dx w0 g0 h0 h g w){σ:Hq}(hσ:D4 σ=true):Kt (Cn σ) h (Fc σ h) g (CO σ g) w∧Dx w (CO σ g) (Fc σ h) (Fc σ h) (CO σ g) w:=by
 have inv:=WD hσ;have EN:∀j,Fc σ h j=match GC σ j with | some i=>(h i).ren (Cn σ) h | none=>.free:=O7 _ _ σ
 have hR:Kt (Cn σ) h (Fc σ h) g (CO σ g) w:=by
  refine⟨fun r r' hr hu=>?_,fun b o=>Qy,hI.objs⟩;have hb:=(inv r r').1 hr;refine⟨by simp[CO,hb],by simp[CO,hb],by simp[CO,hb],by simp[CO,hb],?_⟩;unfold AM;rw[EN,hb];exact(Mt _ _ _).2 hu
 have Mj:∀j,(Fc σ h j).live→∃i,GC σ j=some i∧(h i).live:=fun j hl=>by
  rw[EN]at hl;cases e:GC σ j with
  |none=>rw[e]at hl;exact hl.elim
  |some i=>rw[e]at hl;exact⟨i,rfl,(Ms _ _ _).1 hl⟩
 have Wi:∀j i,GC σ j=some i→(CO σ g).own j=g.own i:=fun j i e=>by simp[CO,e]
 refine⟨hR,rfl,rfl,rfl,Ao _,fun _ _ _=>rfl,hI.slt,fun j=>?_,fun j j' b hl PK e e'=>?_,fun j b hl e=>?_,fun _ _ h=>.inl h,hI.glob⟩
 ·rw[EN];cases e:GC σ j with
  |none=>trivial
  |some i =>
   by_cases hu:AM h i
   ·exact(hI.objs i).ren hR ((inv i j).2 e) hu
   ·have:h i=.free:=B3.1 hu
    dsimp only;rw[this];trivial
 ·obtain⟨i,e1,l1⟩:=Mj j hl;obtain⟨i',e2,l2⟩:=Mj j' PK;rw[Wi j i e1]at e;rw[Wi j' i' e2]at e';obtain rfl:=hI.inj i i' b l1 l2 e e'
  have:=(inv i j).2 e1
  rw[(inv i j').2 e2]at this;cases this;rfl
 ·obtain⟨i,e1,l1⟩:=Mj j hl;have e0:=e;rw[Wi j i e1]at e;exact⟨(hI.loc i b l1 e).1,.inr ⟨j,hl,e0⟩⟩

theorem Kx{C:(Ending→World→Prop)→Prop}(hm:∀{R R' : Ending→World→Prop},C R→(∀e w,R e w→R' e w)→C R')(hI:Dx w0 g0 h0 h g w){σ:Hq}{d nn:Nat}(FO:(D4 σ&&DA h d nn&&Dj σ d nn)=true){Q:AV→(Nat→HO)→Prop}
  (hc:Dx w (CO σ g) (Fc σ h) (Fc σ h) (CO σ g) w→C (fun e w'=>∃v r h' g',e=Ending.returned v∧Q r h'∧BI g' w' (AM h') r v∧Dx w (CO σ g) (Fc σ h) h' g' w'∧Le (Fc σ h) (CO σ g) w h' g' w')) {R:Ending→World→Prop}
  (aI:∀v r h' g2 w',Q r h'→Dx w0 g0 h0 (Ea σ d nn h h') g2 w'→Le h g w (Ea σ d nn h h') g2 w'→BI g2 w' (AM (Ea σ d nn h h')) (ren (Fg σ d nn) h' r) v→R (.returned v) w'):C R:=by
 simp only[Ag]at FO;obtain⟨⟨hσ,hnf⟩,qP⟩:=FO;obtain⟨hF,ku⟩:=SJ hI hσ;have inv:=WD hσ;have kL:=jd hσ qP;refine hm (hc ku) ?_
 rintro e w' ⟨v,r,h',g',rfl,q1,q2,q3,q4⟩
 have hb:=bK σ d nn h h';have gv:∀i j,Vy σ d nn i=some j→(GS σ d nn g g').ρ i=g'.ρ j∧(GS σ d nn g g').ln i=g'.ln j∧(GS σ d nn g g').tk i=g'.tk j∧(GS σ d nn g g').own i=g'.own j:=fun i j e=>by simp[GS,e]
 have wl:∀i,Vy σ d nn i=none→(GS σ d nn g g').ρ i=g.ρ i∧(GS σ d nn g g').ln i=g.ln i∧(GS σ d nn g g').tk i=g.tk i∧(GS σ d nn g g').own i=g.own i:=fun i e=>by simp[GS,e]
 have hB:Kt (Fg σ d nn) h' (Ea σ d nn h h') g' (GS σ d nn g g') w':=by
  refine⟨fun j i hj hu=>?_,fun b o=>Qy,q3.objs⟩;have e:=(kL i j).2 hj;obtain⟨k1,k2,k3,k4⟩:=gv i j e;refine⟨k3,k2,k1,k4,?_⟩;unfold AM;rw[hb,e];exact(Mt _ _ _).2 hu
 have mg:∀j,Fc σ h j=match GC σ j with | some i=>(h i).ren (Cn σ) h | none=>.free:=O7 _ _ σ
 have wg:∀j i,Cn σ i=some j→(h i).live→(Fc σ h j).live:=fun j i e hl=>by
  rw[mg,(inv i j).1 e];exact(Ms _ _ _).2 hl
 have yY:∀j i,Cn σ i=some j→(CO σ g).own j=g.own i:=fun j i e=>by simp[CO,(inv i j).1 e]
 have Rx : ∀j,(Fc σ h j).live→∃i,Cn σ i=some j∧(h i).live∧(CO σ g).own j=g.own i:=fun j hl=>by
  rw[mg]at hl;cases e:GC σ j with
  |none=>rw[e]at hl;exact hl.elim
  |some i=>rw[e]at hl;exact⟨i,(inv i j).2 e,(Ms _ _ _).1 hl,by simp[CO,e]⟩
 -- what the callee zy not touch
 have jz:∀b,b<w.heap.size→(∀i,(h i).live→Cn σ i≠none→g.own i≠some b)→w'.heap[b]?=w.heap[b]?:=fun b Dz hn=>q3.frame b Dz fun j hl e=>by
  obtain⟨i,e1,l1,o1⟩:=Rx j hl;exact hn i l1 (by rw[e1];simp) (by rw[←o1];exact e)
 have vR:∀b o,g'.S b o→b<w.heap.size→(∀i,(h i).live→Cn σ i≠none→g.own i≠some b)→g.S b o:=fun b o hs Dz hn=>by
  rcases q3.sg b o hs with h1 | h1 | ⟨j,h1,h2⟩
  ·exact h1
  ·omega
  ·obtain⟨i,e1,l1,o1⟩:=Rx j h1;exact absurd (by rw[←o1];exact h2) (hn i l1 (by rw[e1];simp))
 have hk:E0 g w (GS σ d nn g g') w':=q4.keeps;have Aa:∀i,Cn σ i=none→Vy σ d nn i≠none→h i=.free:=fun i e1 e2=>by
  unfold Vy at e2;rw[e1]at e2;dsimp only at e2;split at e2
  ·rename_i hc;simp only[Ag,Dn,Ck]at hc
   have:=OZ hnf (i-BA d 0) (by unfold BA at hc⊢;omega)
   rw[show BA d (i-BA d 0)=i by unfold BA at hc⊢;omega]at this;exact this
  ·exact absurd rfl e2
 have cu:∀i j,Cn σ i=some j→Vy σ d nn i=some j:=fun i j e=>by unfold Vy;rw[e]
 have y8:J6 g (GS σ d nn g g') (AM h):=fun i hu=>by
  cases e:Cn σ i with
  |some j =>
   obtain⟨k1,k2,k3,k4⟩:=gv i j (cu i j e);obtain⟨f1,f2,f3,f4,f5⟩:=hF.ids i j e hu;obtain⟨m1,m2,m3,m4⟩:=q4.gh j f5;exact⟨(k3.trans m1).trans f1,by omega,fun t=>(k1.trans (m3 (f1.trans t))).trans f3,fun l=>(k1.trans (m4 (by omega))).trans f3⟩
  |none =>
   have e2:Vy σ d nn i=none:=B3.1 fun e2=>hu (Aa i e e2);obtain⟨k1,k2,k3,k4⟩:=wl i e2;exact⟨k3,by omega,fun _=>k1,fun _=>k1⟩
 have KH:∀i,AM h i→AM (Ea σ d nn h h') i:=fun i hu=>by
  unfold AM;rw[hb];cases e:Cn σ i with
  |some j =>
   rw[cu i j e];exact(Mt _ _ _).2 (q4.us j (hF.ids i j e hu).2.2.2.2)
  |none =>
   have e2:Vy σ d nn i=none:=B3.1 fun e2=>hu (Aa i e e2);rw[e2];exact hu
 have Zn:∀i,(Ea σ d nn h h' i).live→(∃j,Vy σ d nn i=some j∧(h' j).live∧(GS σ d nn g g').own i=g'.own j)∨(Vy σ d nn i=none∧(h i).live∧(GS σ d nn g g').own i=g.own i∧Cn σ i=none):=fun i hl=>by
  rw[hb]at hl;cases e:Vy σ d nn i with
  |some j=>rw[e]at hl;exact .inl ⟨j,rfl,(Ms _ _ _).1 hl,(gv i j e).2.2.2⟩
  |none =>
   rw[e]at hl;refine .inr ⟨rfl,hl,(wl i e).2.2.2,?_⟩;cases e2:Cn σ i with
   |none=>rfl
   |some j=>rw[cu i j e2]at e;cases e
 have rh:∀j b,(h' j).live→g'.own j=some b→b<w'.heap.size∧(w.heap.size≤b∨∃i,Cn σ i≠none∧(h i).live∧g.own i=some b):=fun j b hl e=>by
  obtain⟨h1,h2⟩:=q3.loc j b hl e;refine⟨h1,h2.imp id ?_⟩
  rintro⟨j',l',e'⟩
  obtain⟨i,e1,l1,o1⟩:=Rx j' l';exact⟨i,by rw[e1];simp,l1,by rw[←o1];exact e'⟩
 have kN:∀i b,(h i).live→g.own i=some b→Cn σ i=none→∀i',(h i').live→Cn σ i'≠none→g.own i'≠some b:=fun i b hl e hn i' PK XI e'=>by
  obtain rfl:=hI.inj i i' b hl PK e e';exact XI hn
 refine aI v r h' (GS σ d nn g g') w' q1 ⟨q3.os.trans hI.os,q3.tape.trans hI.tape,q3.output.trans hI.output,Bu hI.size q3.size,fun b Dz hn=>?_,q3.slt,fun i=>?_,fun i i' b hl PK e e'=>?_,fun i b hl e=>?_,fun b o hs=>?_,hI.glob.keep hk⟩ ⟨y8,KH,hk⟩ (q2.ren hB)
 ·refine(jz b (BP Dz hI.size) fun i hl _ e=>?_).trans (hI.frame b Dz hn);rcases(hI.loc i b hl e).2 with h1 | ⟨r',h1,h2⟩
  ·omega
  ·exact hn r' h1 h2
 ·rw[hb];cases e:Vy σ d nn i with
  |some j =>
   by_cases hu:AM h' j
   ·exact(q3.objs j).ren hB ((kL i j).1 e) hu
   ·have:h' j=.free:=B3.1 hu
    dsimp only;rw[this];trivial
  |none =>
   obtain⟨k1,k2,k3,k4⟩:=wl i e;have e2:Cn σ i=none:=by
    cases e2:Cn σ i with
    |none=>rfl
    |some j=>rw[cu i j e2]at e;cases e
   refine(hI.objs i).same hk KH y8 k1 k2 k3 k4 fun b hl ho=>?_;have Dz:=(hI.loc i b hl ho).1;exact⟨jz b Dz (kN i b hl ho e2),fun k hs=>vR b k hs Dz (kN i b hl ho e2)⟩
 ·have mixed:∀i j i',(h' j).live→g'.own j=some b→(h i').live→g.own i'=some b→Cn σ i'=none→i=i':=fun i j i' l1 o1 l2 o2 n2=>by
   rcases(rh j b l1 o1).2 with h1 | ⟨i3,n3,l3,o3⟩
   ·have:=(hI.loc i' b l2 o2).1;omega
   ·exact absurd o3 (kN i' b l2 o2 n2 i3 l3 n3)
  rcases Zn i hl with ⟨j,s1,l1,o1⟩ | ⟨s1,l1,o1,n1⟩<;>rcases Zn i' PK with ⟨j',s2,l2,o2⟩ | ⟨s2,l2,o2,n2⟩
  ·obtain rfl:=q3.inj j j' b l1 l2 (by rw[←o1];exact e) (by rw[←o2];exact e');have a1:=(kL i j).1 s1;rw[(kL i' j).1 s2]at a1;cases a1;rfl
  ·exact mixed i j i' l1 (by rw[←o1];exact e) l2 (by rw[←o2];exact e') n2
  ·exact(mixed i' j' i l2 (by rw[←o2];exact e') l1 (by rw[←o1];exact e) n1).symm
  ·exact hI.inj i i' b l1 l2 (by rw[←o1];exact e) (by rw[←o2];exact e')
 ·rcases Zn i hl with ⟨j,s1,l1,o1⟩ | ⟨s1,l1,o1,n1⟩
  ·obtain⟨h1,h2⟩:=rh j b l1 (by rw[←o1];exact e);refine⟨h1,?_⟩;rcases h2 with h2 | ⟨i3,n3,l3,o3⟩
   ·exact .inl (Bu hI.size h2)
   ·exact(hI.loc i3 b l3 o3).2
  ·obtain⟨h1,h2⟩:=hI.loc i b l1 (by rw[←o1];exact e);exact⟨BP h1 q3.size,h2⟩
 ·rcases q3.sg b o hs with h1 | h1 | ⟨j,h1,h2⟩
  ·exact hI.sg b o h1
  ·exact .inr (.inl (Bu hI.size h1))
  ·obtain⟨i,e1,l1,o1⟩:=Rx j h1;exact .inr (hI.loc i b l1 (by rw[←o1];exact h2)).2
theorem eZ(hI:Dx w0 g0 h0 h g w){σ:Hq}{d nn:Nat}(FO:(D4 σ&&DA h d nn&&Dj σ d nn)=true){f:Nat}{args:List AV}{Q:AV→(Nat→HO)→Prop}(hc:Bo P f args (Fc σ h) Q){vals:Array Value}(hs:vals.size=args.length)
  (hv:∀(i:Nat) (av:AV) (x:Value),args[i]?=some av→vals[i]?=some x→BI (CO σ g) w (AM (Fc σ h)) av x) {R:Ending→World→Prop}
  (aI:∀v r h' g2 w',Q r h'→Dx w0 g0 h0 (Ea σ d nn h h') g2 w'→Le h g w (Ea σ d nn h h') g2 w'→BI g2 w' (AM (Ea σ d nn h h')) (ren (Fg σ d nn) h' r) v→R (.returned v) w'):Calls P f vals w R :=
 Kx (C:=Calls P f vals w) (fun h k=>h.mono k) hI FO (hc.2 (CO σ g) w vals hs hv) aI
end
end Go.Eng

namespace Go.Eng

structure SR(N:Nat)(ds:List Deferred)(w0:World)(g0:Gh)(h0:Nat→HO)(st:St)(g:Gh)(a:Act)(w:World):Prop where
 inv:Dx w0 g0 h0 st.h g w
 le:Le h0 g0 w0 st.h g w
 dfs:a.defers=ds
 size:a.tmps.size=N
 slots:∀i,BI g w (AM st.h) (st.t i) (a.tmps.getD i undef)

section
variable {P:Program}{N:Nat}{ds:List Deferred}{w0:World}{g0:Gh}{h0:Nat→HO}{st:St}{g:Gh}{a:Act}{w:World}

theorem SR.eval(hS:SR N ds w0 g0 h0 st g a w)(x:Operand):BI g w (AM st.h) (ev st.t x) (a.eval x):=by
 cases x with
 |tmp i=>exact hS.slots i
 |const v=>exact .v _ _
 |global b=>exact .v _ _
 |func f=>exact .v _ _
theorem SR.put(hS:SR N ds w0 g0 h0 st g a w){d:Option Nat}(hd:∀i,d=some i→i<N){v:AV}{x:Value}{h' : Nat→HO}{g' : Gh}{w' : World}(hI:Dx w0 g0 h0 h' g' w')(Hs:Le st.h g w h' g' w')(hr:BI g' w' (AM h') v x) :
  SR N ds w0 g0 h0 (st.put d v h') g' (a.put d x) w':=by
 have old:∀i,BI g' w' (AM h') (st.t i) (a.tmps.getD i undef):=fun i=>(hS.slots i).le Hs;cases d with
 |none=>exact⟨hI,hS.le.trans Hs,hS.dfs,hS.size,old⟩
 |some d =>
  have hdN:=hd d rfl;refine⟨hI,hS.le.trans Hs,hS.dfs,by simp[Act.put,hS.size],fun i=>?_⟩;simp only[St.put,Act.put,HS]
  by_cases e:i=d
  ·subst e
   have:i<a.tmps.size:=by rw[hS.size];exact hdN
   simp only[Dc,JP];rw[Cw,Array.getElem?_setIfInBounds_self,AB this];exact hr
  ·simp only[Ci e,D7];rw[Cw,Array.getElem?_setIfInBounds_ne (Ne.symm e),←Cw];exact old i

def YI(w0:World)(g0:Gh)(h0 h:Nat→HO)(g:Gh)(w:World)(K:HK)(next:Value→World→Prop):Prop :=
 ∀v h' g' w' x,K v h'→Dx w0 g0 h0 h' g' w'→Le h g w h' g' w'→BI g' w' (AM h') v x→next x w'

theorem D5{o:Oper}{m:Sem Value}{K:HK}{next:Act→World→Prop}{Q:Exit→Act→World→Prop}(hx:execOp a.eval o=(do pure (Next.value (←m))))(hd:Ob P w0 g0 h0 st.h g w m K)
  (hn:YI w0 g0 h0 st.h g w K fun x w'=>next (a.put o.dst x) w'):o.wp P a w next Q:=by
 obtain⟨x,w',g',av,h',h1,h2,h3,h4,h5⟩:=hd;unfold Oper.wp;rw[hx,Sem.run_bind,h1];exact hn av h' g' w' x h2 h3 h4 h5
theorem WM{o:Oper}{m:Sem Unit}{K:HK}{next:Act→World→Prop}{Q:Exit→Act→World→Prop}(hx:execOp a.eval o=(do m;pure Next.skip))(hd:d9 P w0 g0 h0 st.h g w m K)
  (hn:YI w0 g0 h0 st.h g w K fun x w'=>next (a.put o.dst x) w'):o.wp P a w next Q:=by
 obtain⟨w',g',h',h1,h2,h3,h4⟩:=hd;unfold Oper.wp;rw[hx,Sem.run_bind,h1];exact hn _ h' g' w' undef h2 h3 h4 (.v _ _)
theorem bt{o:Oper}{K:HK}{next:Act→World→Prop}{Q:Exit→Act→World→Prop}{v:AV}{x:Value}(hI:Dx w0 g0 h0 st.h g w)(hx:(execOp a.eval o).run P w=.ok (.value x) w)(hk:K v st.h)(hr:BI g w (AM st.h) v x)
  (hn:YI w0 g0 h0 st.h g w K fun x w'=>next (a.put o.dst x) w'):o.wp P a w next Q:=by
 unfold Oper.wp;rw[hx];exact hn _ _ _ _ _ hk hI (.refl _ _ _) hr

theorem Sg{C:(Ending→World→Prop)→Prop}(hm:∀{R R' : Ending→World→Prop},C R→(∀e w,R e w→R' e w)→C R')(hI:Dx w0 g0 h0 st.h g w){Q:AV→(Nat→HO)→Prop}
  (hc:Dx w g Aa Aa g w→C (fun e w'=>∃v r h' g',e=Ending.returned v∧Q r h'∧BI g' w' (AM h') r v∧Dx w g Aa h' g' w'∧Le Aa g w h' g' w')) {R:Ending→World→Prop}
  (hR:∀v r h' g' w',Q r h'→h'=Aa→Dx w0 g0 h0 st.h g' w'→Le st.h g w st.h g' w'→BI g' w' Fj r v→R (.returned v) w') (hQ:∀r h',Q r h'→h'=Aa):C R:=by
 have hU:AM Aa=Fj:=by funext i;unfold AM Fj Aa;simp
 have ku:Dx w g Aa Aa g w:=⟨rfl,rfl,rfl,Ao _,fun _ _ _=>rfl,hI.slt,fun _=>trivial,fun _ _ _ h=>h.elim,fun _ _ h=>h.elim,fun _ _ h=>.inl h,hI.glob⟩;refine hm (hc ku) ?_
 rintro e w' ⟨v,r,h',g',rfl,q1,q2,q3,q4⟩
 obtain rfl:=hQ r h' q1;rw[hU]at q2
 -- the caller's ghost,with the callee's stable cells
 have hk:E0 g w ⟨g.ρ,g.ln,g.tk,g.own,g'.S⟩ w':=q4.keeps;have hg:J6 g ⟨g.ρ,g.ln,g.tk,g.own,g'.S⟩ (AM st.h):=fun _ _=>⟨rfl,Ao _,fun _=>rfl,fun _=>rfl⟩;have jz:∀b,b<w.heap.size→w'.heap[b]?=w.heap[b]?:=fun b hb=>q3.frame b hb (fun _ h=>h.elim);have vR:∀b o,g'.S b o→b<w.heap.size→g.S b o:=fun b o hs hb=>by
  rcases q3.sg b o hs with h1 | h1 | ⟨_,h1,_⟩
  ·exact h1
  ·omega
  ·exact h1.elim
 refine hR v r Aa ⟨g.ρ,g.ln,g.tk,g.own,g'.S⟩ w' q1 rfl ⟨q3.os.trans hI.os,q3.tape.trans hI.tape,q3.output.trans hI.output,Bu hI.size q3.size,fun b hb hn=>?_,q3.slt,fun i=>?_,hI.inj,fun i b hl ho=>?_,fun b o hs=>?_,hI.glob.keep hk⟩ ⟨hg,fun _ h=>h,hk⟩ ?_
 ·exact(jz b (BP hb hI.size)).trans (hI.frame b hb hn)
 ·refine(hI.objs i).same hk (fun _ h=>h) hg rfl rfl rfl rfl (fun b hl ho=>?_);have Dz:=(hI.loc i b hl ho).1;exact⟨jz b Dz,fun k hs=>vR b k hs Dz⟩
 ·obtain⟨h1,h2⟩:=hI.loc i b hl ho;exact⟨BP h1 q3.size,h2⟩
 ·rcases q3.sg b o hs with h1 | h1 | ⟨_,h1,_⟩
  ·exact hI.sg b o h1
  ·exact .inr (.inl (Bu hI.size h1))
  ·exact h1.elim
 ·have:E0 g' w' ⟨g.ρ,g.ln,g.tk,g.own,g'.S⟩ w':=fun b o h=>⟨h,rfl,fun _ _ h=>h⟩
  exact q2.mono this (fun _ h=>h) (fun _ h=>h.elim)

theorem bO(hI:Dx w0 g0 h0 st.h g w){f:Nat}{args:List AV}{Q:AV→(Nat→HO)→Prop}(hc:Bo P f args Aa Q){vals:Array Value}(hs:vals.size=args.length)
  (hv:∀(i:Nat) (av:AV) (x:Value),args[i]?=some av→vals[i]?=some x→BI g w Fj av x) {R:Ending→World→Prop}
  (hR:∀v r h' g' w',Q r h'→h'=Aa→Dx w0 g0 h0 st.h g' w'→Le st.h g w st.h g' w'→BI g' w' Fj r v→R (.returned v) w') (hQ:∀r h',Q r h'→h'=Aa):Calls P f vals w R :=
 have hU:AM Aa=Fj:=by funext i;unfold AM Fj Aa;simp
 Sg (C:=Calls P f vals w) (fun h k=>h.mono k) hI (hc.2 g w vals hs (fun i av x h1 h2=>by rw[hU];exact hv i av x h1 h2)) hR hQ
theorem YieldAt.imp{F:Fence}{m:Nat}{P:Program}{l:Nat}{args:Array Value}{W:World}{R R' : Ending→World→Prop}(h:YieldAt F m P l args W R)(hr:∀e w,R e w→R' e w):YieldAt F m P l args W R' :=
 let ⟨fn,t,a,b,h1,h2⟩:=h
 ⟨fn,t,a,b,h1,h2.mono hr⟩
theorem GO.imp{Y:Gh→World→Prop}{l:Nat}{args:List AV}{h0:Nat→HO}{Q Q' : AV→(Nat→HO)→Prop}(h:GO P Y l args h0 Q)(hq:∀r h',Q r h'→Q' r h'):GO P Y l args h0 Q' :=
 fun g w vals q1 q2 q3 q4=>YieldAt.imp (h g w vals q1 q2 q3 q4) fun _ _ ⟨v,r,h',g',e1,e2,rest⟩=>⟨v,r,h',g',e1,hq _ _ e2,rest⟩
theorem Gc.imp{Y:Nat→Gh→World→Prop}{F:AV}{args:List AV}{h0:Nat→HO}{Q Q' : AV→(Nat→HO)→Prop}(h:Gc P Y F args h0 Q)(hq:∀r h',Q r h'→Q' r h'):Gc P Y F args h0 Q':=by
 have one:∀{f:Nat} {l:List AV},Bo P f l h0 Q→Bo P f l h0 Q':=fun hc =>
  ⟨hc.1,fun g w vals q1 q2 q3=>(hc.2 g w vals q1 q2 q3).mono fun _ _ ⟨v,r,h',g',e1,e2,rest⟩=>⟨v,r,h',g',e1,hq _ _ e2,rest⟩⟩
 unfold Gc at h⊢;split at h
 ·exact one h
 ·exact one h
 ·exact GO.imp h hq
 ·exact h.elim
abbrev Ja(ro:Option Nat):Fence:={ Fence.wide with round:=ro }
theorem RH{ro:Option Nat}{o:Oper}{a:Act}{w:World}{next:Act→World→Prop}{Q:Exit→Act→World→Prop}(hd:∀c,o.op≠.defer c)(h:o.wp P a w next Q):o.wpIn (Ja ro) 0 P a w next Q:=by
 refine⟨fun _ _=>trivial,?_⟩;have e:o.semAt (Ja ro).round a.eval=execOp a.eval o:=Oper.semAt_eq ro a.eval o hd;rw[e];unfold Oper.wp at h;have key:∀res:Result Next,o.upon P a next Q res→o.uponIn (Ja ro) 0 P a next Q res:=fun res h=>by
  cases res with
  |ok n w'=>cases n with
   |enter f args=>exact(show(_→_)∧CallsIn (Ja ro) 0 P f args w' _ from⟨fun e=>by(cases e),callsIn_wide.2 h⟩)
   |row r args=>exact(show(_→_)∧RowsIn (Ja ro) 0 P r args w' _ from⟨fun e=>by(cases e),fun c cs _=>by
     obtain⟨v,Qu,r',s⟩:=h c cs;exact⟨v,Qu,r',stepsIn_wide.2 s⟩⟩)
   |round _ _ _ _ _=>exact h.elim
   |_=>exact h
  |halt x w'=>cases x<;>exact h
 exact key _ h
theorem F4{f:Nat}{args:Array Value}(h:Gd P f)(w:World):(callFunc f args).run P w=.ok (.enter f args) w:=by
 obtain⟨fn,h1,h2,h3⟩:=h;simp only[callFunc,Sem.run_bind,run_program,h1,Result.andThen_ok,h2,h3,Da,Ga,Sem.run_pure]

theorem TO{h:Nat→HO}{a:AV}(ha:aU a=true):ren (Cn []) h a=str h a:=by
 have h0:∀a,ren0 (Cn []) h a=str0 h a:=fun a=>by
  cases a with
  |slice tk es=>cases tk<;>rfl
  |_=>rfl
 cases a with
 |tup cs=>cases ha
 |agg cs=>show AV.agg _=AV.agg _;exact Ac _ (Ba fun c _=>h0 c)
 |clo f cs=>show AV.clo f _=AV.clo f _;exact Ac _ (Ba fun c _=>h0 c)
 |v x=>exact h0 (.v x)
 |slice tk es=>exact h0 (.slice tk es)
 |msl r n=>exact h0 (.msl r n)
 |cptr cs=>exact h0 (.cptr cs)
 |ref r o=>exact h0 (.ref r o)
 |eref r n sz i o=>exact h0 (.eref r n sz i o)
 |mref r=>exact h0 (.mref r)
 |cmap sh l=>exact h0 (.cmap sh l)
 |junk=>rfl
theorem Qd{h:Nat→HO}:∀{l:List AV},Tx l=true→l.map (ren (Cn []) h)=l.map (str h)
 | [],_=>rfl
 |a::l,e=>by
  unfold Tx at e;split at e
  ·rename_i e1;rw[AN,AN,TO e1,Qd e]
  ·cases e
theorem Qt:∀{l:List AV} {vs:List Value},VH l=some vs→l=vs.map .v
 | [],vs,h=>by cases h;rfl
 |.v x::r,vs,h=>by
  unfold VH at h;split at h
  ·rename_i l e;cases h;rw[AN,←Qt e]
  ·cases h
theorem bN{cx:Cx}{d:Option Nat}{st:St}{F:AV}{args:List AV}{K:HK}(hk:Gu cx true d st F args K):Gu cx false d st F args K:=by
 unfold Gu at hk;simp only at hk;split at hk
 ·exact⟨.pure,hk⟩
 ·split at hk
  ·exact hk.elim
  ·rename_i d _;obtain⟨n,sz,es,h1,h2,h3⟩:=hk;simp only[Ag]at h1;refine⟨.gen [] 1,?_⟩;show(D4 []&&DA st.h d 1&&Dj [] d 1)=true∧_;refine⟨by simp[D4,Dj,h1.1.1],?_⟩;rw[TO h1.1.2,Qd h1.2];show Gc cx.P (fun l=>cx.yp l []) _ _ Aa _;refine Gc.imp h2 ?_
   rintro r h' ⟨e2,e3⟩
   subst e2;subst e3;have e1:ren (Fg [] d 1) (Af [(2000,.arr sz es)] Aa) (.msl 2000 n)=.msl (BA d 0) n:=rfl;have e2:Ea [] d 1 st.h (Af [(2000,.arr sz es)] Aa)=AW st.h (BA d 0) (.arr sz es):=by
    funext i
    by_cases e:i=BA d 0
    ·subst e;rw[Bd];have hb:(Nat.ble (BA d 0) (BA d 0)&&Nat.blt (BA d 0) (BA d 1))=true:=by
      unfold BA;simp only[Ag,Dn,Ck];omega
     simp only[Ea,Cn,hb,Ff];rfl
    ·rw[B9 _ _ _ _ e]
     have:(Nat.ble (BA d 0) i&&Nat.blt i (BA d 1))=false:=by
      unfold BA at e⊢;rw[AH];simp only[Vf,Ag,Dn,Ck];omega
     simp only[Ea,Cn,this]
   rw[e1,e2];exact h3
 ·split at hk
  ·unfold T1 at hk;split at hk
   ·exact hk.elim
   ·rename_i d _;obtain⟨sz,es,h1,h2,h3⟩:=hk;simp only[Ag]at h1;refine⟨.gen [] 1,?_⟩;show(D4 []&&DA st.h d 1&&Dj [] d 1)=true∧_;refine⟨by simp[D4,Dj,h1.1.1],?_⟩;rw[TO h1.1.2,Qd h1.2];show Gc cx.P (fun l=>cx.yp l []) _ _ Aa _;refine Gc.imp h2 ?_
    rintro r h' ⟨e2,e3⟩
    subst e2;subst e3;have e1:ren (Fg [] d 1) (Af [(2000,.tok sz es.length)] Aa) (.slice (.id 2000 sz) es)=.slice (.id (BA d 0) sz) es:=rfl;have e2:Ea [] d 1 st.h (Af [(2000,.tok sz es.length)] Aa)=AW st.h (BA d 0) (.tok sz es.length):=by
     funext i
     by_cases e:i=BA d 0
     ·subst e;rw[Bd];have hb:(Nat.ble (BA d 0) (BA d 0)&&Nat.blt (BA d 0) (BA d 1))=true:=by
       unfold BA;simp only[Ag,Dn,Ck];omega
      simp only[Ea,Cn,hb,Ff];rfl
     ·rw[B9 _ _ _ _ e]
      have:(Nat.ble (BA d 0) i&&Nat.blt i (BA d 1))=false:=by
       unfold BA at e⊢;rw[AH];simp only[Vf,Ag,Dn,Ck];omega
      simp only[Ea,Cn,this]
    rw[e1,e2];exact h3
  split at hk
  ·unfold Qw at hk;split at hk
   ·rename_i d l vs e2 z1;have hl:=Qt e2;split at hk
    ·rename_i r sz es lR n e3 e4;obtain⟨⟨rfl,rfl⟩,v,EM,n',h1,h2⟩:=hk;refine⟨.gen [(1000,1000),(1001,1001)] 0,?_⟩;show(D4 [(1000,1000),(1001,1001)]&&DA st.h d 0&&Dj [(1000,1000),(1001,1001)] d 0)=true∧_;refine⟨?_,?_⟩
     ·have:Dj [(1000,1000),(1001,1001)] d 0=true:=by
       have q:∀r:Nat,(Nat.ble (BA d 0) r&&Nat.blt r (BA d 0))=false:=fun r=>by
        rw[AH];simp only[Vf,Ag,Dn,Ck];omega
       simp only[Dj,q,Bool.not_false,Bool.and_self]
      rw[this];rfl
     have f1:args.map (ren (Cn [(1000,1000),(1001,1001)]) st.h)=vs.map .v:=by rw[hl,BX];rfl
     have f2:Fc [(1000,1000),(1001,1001)] st.h=Af [(1000,.cells [.slice (.id 1001 lR) es]),(1001,.tok lR n)] Aa:=by
      unfold Fc WC WC WC;rw[e3,e4];rfl
     rw[f1,f2];refine GO.imp h1 ?_
     rintro r h' ⟨g1,g2⟩
     subst g1;subst g2;have f3:Ea [(1000,1000),(1001,1001)] d 0 st.h (Af [(1000,.cells [.slice (.id 1001 lR) EM]),(1001,.tok lR n')] Aa)=AW (AW st.h 1001 (.tok lR n')) 1000 (.cells [.slice (.id 1001 lR) EM]):=by
      funext i
      by_cases e:i=1000
      ·subst e;rw[Bd];rfl
      ·rw[B9 _ _ _ _ e]
       by_cases e' : i=1001
       ·subst e';rw[Bd];rfl
       ·rw[B9 _ _ _ _ e'];have hn:Cn [(1000,1000),(1001,1001)] i=none:=by simp[Cn,Ci (Ne.symm e),Ci (Ne.symm e')]
        have:(Nat.ble (BA d 0) i&&Nat.blt i (BA d 0))=false:=by
         rw[AH];simp only[Vf,Ag,Dn,Ck];omega
        simp only[Ea,hn,this]
     rw[f3];exact h2
    ·exact hk.elim
   ·exact hk.elim
  unfold O9 at hk;split at hk
  ·unfold Xr at hk;split at hk
   ·rename_i d f _;obtain⟨σ,H0,Hn,args',res,g1,g2,g3,g4⟩:=hk;simp only[Ag]at g2;obtain⟨k1,k2⟩:=g1 st.h fun _ _=>rfl;refine⟨.gen σ 0,?_⟩;show(D4 σ&&DA st.h d 0&&Dj σ d 0)=true∧_;refine⟨by rw[g2.1.1,g2.1.2];rfl,?_⟩;rw[k1,k2];refine Gc.imp (show Gc cx.P (fun l=>cx.yp l σ) (.v (.func (.func f) ⟨[]⟩ ⟨[]⟩)) args' (Af H0 Aa) (fun r h'=>r=res∧h'=Af Hn Aa)from g3) ?_
    rintro r h' ⟨e1,e2⟩
    rw[e1,e2];exact g4
   ·exact hk.elim
  unfold Rf at hk;split at hk
  ·rename_i dd f r n l _;split at hk
   ·rename_i vs jD;have hl:=Qt jD;subst hl;split at hk
    ·rename_i sz es hr;have hf:Cn [(r,1000)] r=some 1000:=by simp[Cn]
     have e1:ren (Cn [(r,1000)]) st.h (.v (.func (.func f) ⟨[]⟩ ⟨[]⟩))=.v (.func (.func f) ⟨[]⟩ ⟨[]⟩):=rfl;have e2:(AV.msl r n::vs.map AV.v).map (ren (Cn [(r,1000)]) st.h)=.msl 1000 n::vs.map .v:=by
      rw[AN]
      congr 1
      ·simp[ren,ren1,ren0,hf]
      ·rw[BX];rfl
     have e3:Fc [(r,1000)] st.h=Af [(1000,.arr sz es)] Aa:=by
      unfold Fc WC;rw[hr];rfl
     split at hk
     ·obtain⟨n',EM,h1,h2⟩:=hk;refine⟨.gen [(r,1000)] 0,?_⟩;show(D4 [(r,1000)]&&DA st.h dd 0&&Dj [(r,1000)] dd 0)=true∧_;refine⟨?_,?_⟩
      ·have:Dj [(r,1000)] dd 0=true:=by
        unfold Dj
        have:(Nat.ble (BA dd 0) r&&Nat.blt r (BA dd 0))=false:=by
         rw[AH];simp only[Vf,Ag,Dn,Ck];omega
        rw[this];rfl
       rw[this];rfl
      rw[e1,e2,e3];refine⟨h1.1,fun g w vals q1 q2 q3=>(h1.2 g w vals q1 q2 q3).mono fun _ _ ⟨v,r',h',g',e1,⟨e2,e3⟩,rest⟩=>⟨v,r',h',g',e1,?_,rest⟩⟩;subst e2;subst e3;have f1:ren (Fg [(r,1000)] dd 0) (Af [(1000,.arr sz EM)] Aa) (.msl 1000 n')=.msl r n':=rfl;have f2:Ea [(r,1000)] dd 0 st.h (Af [(1000,.arr sz EM)] Aa)=AW st.h r (.arr sz EM):=by
       funext i
       by_cases e:i=r
       ·subst e;rw[Bd];simp[Ea,hf,Af,HO.ren]
       ·rw[B9 _ _ _ _ e];have hn:Cn [(r,1000)] i=none:=by simp[Cn,Ci (Ne.symm e)]
        have:(Nat.ble (BA dd 0) i&&Nat.blt i (BA dd 0))=false:=by
         rw[AH];simp only[Vf,Ag,Dn,Ck];omega
        simp only[Ea,hn,this]
      rw[f1,f2];exact h2
     ·obtain⟨n',EM,h0,h1,h2⟩:=hk;simp only[Ag,Ck,CX]at h0;have wO:r≠BA dd 0:=fun e=>by have:=h0.2;rw[e]at this;simp at this
      refine⟨.gen [(r,1000)] 1,?_⟩;show(D4 [(r,1000)]&&DA st.h dd 1&&Dj [(r,1000)] dd 1)=true∧_;refine⟨?_,?_⟩
      ·have:Dj [(r,1000)] dd 1=true:=by
        unfold Dj
        have:(Nat.ble (BA dd 0) r&&Nat.blt r (BA dd 1))=false:=by
         rw[AH];simp only[Vf,Ag,Dn,Ck];unfold BA at wO⊢;omega
        rw[this];rfl
       rw[this,h0.1.1];rfl
      rw[e1,e2,e3];refine⟨h1.1,fun g w vals q1 q2 q3=>(h1.2 g w vals q1 q2 q3).mono fun _ _ ⟨v,r',h',g',e1,⟨e2,e3⟩,rest⟩=>⟨v,r',h',g',e1,?_,rest⟩⟩;subst e2;subst e3;have f1:ren (Fg [(r,1000)] dd 1) (Af [(1000,.dead),(2000,.arr sz EM)] Aa) (.msl 2000 n')=.msl (BA dd 0) n':=rfl;have f2:Ea [(r,1000)] dd 1 st.h (Af [(1000,.dead),(2000,.arr sz EM)] Aa)=AW (AW st.h r .dead) (BA dd 0) (.arr sz EM):=by
       funext i
       by_cases e:i=BA dd 0
       ·subst e;rw[Bd];have hn:Cn [(r,1000)] (BA dd 0)=none:=by simp[Cn,Ci wO]
        have hb:(Nat.ble (BA dd 0) (BA dd 0)&&Nat.blt (BA dd 0) (BA dd 1))=true:=by
         unfold BA;simp only[Ag,Dn,Ck];omega
        simp only[Ea,hn,hb,Ff];rfl
       ·rw[B9 _ _ _ _ e]
        by_cases e4:i=r
        ·subst e4;rw[Bd];simp[Ea,hf,Af,HO.ren]
        ·rw[B9 _ _ _ _ e4];have hn:Cn [(r,1000)] i=none:=by simp[Cn,Ci (Ne.symm e4)]
         have:(Nat.ble (BA dd 0) i&&Nat.blt i (BA dd 1))=false:=by
          rw[AH];simp only[Vf,Ag,Dn,Ck];unfold BA at e⊢;omega
         simp only[Ea,hn,this]
      rw[f1,f2];exact h2
    ·exact hk.elim
   ·exact hk.elim
  ·exact hk.elim
theorem eY{cx:Cx}{dr:Bool}{d:Option Nat}{f:Operand}{args:Array Operand}{G4:Array TypeId}{dst:Option Nat}{ty:Nat}{pos:String}{after:Array Edge}{gd:Option (Nat×Bool)}{K:HK}{next:Act→World→Prop}{Q:Exit→Act→World→Prop}
  (hP:cx.P=P) (hY:∀l σ h g w,D4 σ=true→Dx w0 g0 h0 h g w→Le h0 g0 w0 h g w→cx.yp l σ (CO σ g) w) {ro:Option Nat} (hS:SR N ds w0 g0 h0 st g a w) (hk:Gu cx dr d st (ev st.t f) (args.toList.map (ev st.t)) K)
  (hn:YI w0 g0 h0 st.h g w K fun x w'=>next (a.put dst x) w'):Oper.wpIn (Ja ro) 0 P ⟨dst,.call ⟨.value f,args,G4⟩,ty,pos,after,gd⟩ a w next Q:=by
 subst hP;have hk:Gu cx false d st (ev st.t f) (args.toList.map (ev st.t)) K:=by
  cases dr with
  |true=>exact bN hk
  |false=>exact hk
 have Jq:∀(i:Nat) (av:AV) (x:Value),((args.toList.map (ev st.t)).map (str st.h))[i]?=some av→(args.map a.eval)[i]?=some x→BI g w Fj av x:=by
  intro i av x h1 h2;rw[AI,AI]at h1;rw[Oa]at h2;cases ho:args[i]? with
  |none=>rw[ho]at h2;simp at h2
  |some y =>
   rw[ho]at h2;have hy:args.toList[i]?=some y:=by simpa using ho
   rw[hy]at h1;simp only[Gq,Br]at h1 h2;subst h1;subst h2;exact BI.str hS.inv.objs (hS.eval y)
 have CW:(args.map a.eval).size=((args.toList.map (ev st.t)).map (str st.h)).length:=by simp
 have hF:=BI.str hS.inv.objs (hS.eval f)
 -- a call of yield
 have yl:∀(l:Nat) (R:Ending→World→Prop),a.eval f=.func (.yield l) #[] #[]→YieldAt Fence.wide 0 cx.P l (args.map a.eval) w R→(∀e w',R e w'→∃v,e=.returned v∧next (a.put dst v) w') →
   Oper.wpIn (Ja ro) 0 cx.P ⟨dst,.call ⟨.value f,args,G4⟩,ty,pos,after,gd⟩ a w next Q:=by
  rintro l R hx ⟨fn,tm,Em,bd,h1,h2⟩ hR
  refine⟨fun _ _=>trivial,?_⟩;have e:(⟨dst,.call ⟨.value f,args,G4⟩,ty,pos,after,gd⟩:Oper).semAt (Ja ro).round a.eval=execOp a.eval ⟨dst,.call ⟨.value f,args,G4⟩,ty,pos,after,gd⟩:=Oper.semAt_eq ro a.eval _ (fun c e=>by cases e);have Dd:(execOp a.eval ⟨dst,.call ⟨.value f,args,G4⟩,ty,pos,after,gd⟩).run cx.P w=.ok (.round l fn tm Em bd) w:=by
   simp only[execOp,resolve,hx,Deferred.ofValue,Sem.run_bind,Sem.run_pure,Result.andThen_ok,invoke];simpa using h1
  rw[e,Dd];refine(show(_→_)∧RoundIn (Ja ro) 0 cx.P l fn tm Em bd w _ from⟨fun e=>by(cases e),RoundIn.mono h2 fun e w' h=>?_⟩);obtain⟨v,rfl,hn⟩:=hR e w' h;exact hn
 -- the call itself
 have go:∀(Q' : AV→(Nat→HO)→Prop),(∀r h',Q' r h'→h'=Aa∧K r st.h)→Gc cx.P (fun _ _ _=>True) (str st.h (ev st.t f)) ((args.toList.map (ev st.t)).map (str st.h)) Aa Q' →
   Oper.wpIn (Ja ro) 0 cx.P ⟨dst,.call ⟨.value f,args,G4⟩,ty,pos,after,gd⟩ a w next Q:=by
  intro Q' hQ hc
  have fin:∀{fn:Nat} {l:List AV} {vals:Array Value},Bo cx.P fn l Aa Q'→vals.size=l.length→(∀(i:Nat) (av:AV) (x:Value),l[i]?=some av→vals[i]?=some x→BI g w Fj av x) →
    (execOp a.eval ⟨dst,.call ⟨.value f,args,G4⟩,ty,pos,after,gd⟩).run cx.P w=.ok (.enter fn vals) w→Oper.wpIn (Ja ro) 0 cx.P ⟨dst,.call ⟨.value f,args,G4⟩,ty,pos,after,gd⟩ a w next Q:=by
   intro fn l vals hc hs hv Dd;refine RH (fun c e=>by cases e) ?_;unfold Oper.wp;rw[Dd];exact bO hS.inv hc hs hv (fun v r h' g' w' hq _ hI Hs hr=>hn r _ g' w' v (hQ r h' hq).2 hI Hs (hr.up _)) (fun r h' hq=>(hQ r h' hq).1)
  unfold Gc at hc;split at hc
  ·rename_i fn e;rw[e]at hF;have hx:=hF.v_eq;refine fin hc CW Jq ?_;have Mk : a.eval f=.func (.func fn) #[] #[]:=hx;simp only[execOp,resolve,Mk,Deferred.ofValue,Sem.run_bind,Sem.run_pure,Result.andThen_ok,invoke];rw[F4 hc.1];simp
  ·rename_i fn caps e;rw[e]at hF;generalize hx:a.eval f=fv at hF;cases hF with
   |clo _ _ _ vs Ed M3 =>
    refine fin hc (vals:=args.map a.eval++vs) (by simp[Ed]) (fun i av x h1 h2=>?_) ?_
    ·rw[LY]at h1;rw[EZ]at h2;have hl:((args.toList.map (ev st.t)).map (str st.h)).length=(args.map a.eval).size:=CW.symm;rw[hl]at h1;split at h1
     ·rename_i hi;rw[AB hi]at h2;exact Jq i av x h1 h2
     ·rename_i hi;rw[Ar hi]at h2;exact M3 _ av x h1 h2
    ·simp only[execOp,resolve,hx,Deferred.ofValue,Sem.run_bind,Sem.run_pure,Result.andThen_ok,invoke];rw[F4 hc.1];simp
  ·rename_i l e;rw[e]at hF;have hU:AM Aa=Fj:=by funext i;unfold AM Fj Aa;simp
   refine yl l _ hF.v_eq (Sg (C:=YieldAt Fence.wide 0 cx.P l (args.map a.eval) w) (R:=fun e w'=>∃v,e=.returned v∧next (a.put dst v) w') YieldAt.imp hS.inv (fun ku=>hc g w _ CW (fun i av x h1 h2=>by rw[hU];exact Jq i av x h1 h2) ku trivial)
    (fun v r h' g' w' hq _ hI Hs hr=>⟨v,rfl,hn r _ g' w' v (hQ r h' hq).2 hI Hs (hr.up _)⟩) (fun r h' hq=>(hQ r h' hq).1)) fun _ _ h=>h
  ·exact hc.elim
 have pure:(∃res,Pq cx.P (str st.h (ev st.t f)) ((args.toList.map (ev st.t)).map (str st.h)) res∧K res st.h)→Oper.wpIn (Ja ro) 0 cx.P ⟨dst,.call ⟨.value f,args,G4⟩,ty,pos,after,gd⟩ a w next Q:=by
  rintro⟨res,h1,h2⟩
  refine go (fun r h'=>r=res∧h'=Aa) (fun r h' hq=>⟨hq.2,by rw[hq.1];exact h2⟩) ?_;unfold Pq at h1;unfold Gc;split at h1
  ·rename_i fn e;rw[e];exact h1
  ·rename_i fn caps e;rw[e];exact h1
  ·exact h1.elim
 unfold Gu at hk
 ·obtain⟨m,hm⟩:=hk;cases m with
  |pure=>exact pure hm
  |rel=>exact go _ (fun r h' hq=>hq) hm
  |gen σ nn =>
   simp only at hm;cases d with
   |none=>exact hm.elim
   |some d =>
    simp only at hm;obtain⟨FO,hc⟩:=hm;have hσ:D4 σ=true:=by simp only[Ag]at FO;exact FO.1.1
    obtain⟨hR,_⟩:=SJ hS.inv hσ;have fZ:=(hS.eval f).ren hR;have SL:∀(i:Nat) (av:AV) (x:Value),((args.toList.map (ev st.t)).map (ren (Cn σ) st.h))[i]?=some av→(args.map a.eval)[i]?=some x→BI (CO σ g) w (AM (Fc σ st.h)) av x:=by
     intro i av x h1 h2;rw[AI,AI]at h1;rw[Oa]at h2;cases ho:args[i]? with
     |none=>rw[ho]at h2;simp at h2
     |some y =>
      rw[ho]at h2;have hy:args.toList[i]?=some y:=by simpa using ho
      rw[hy]at h1;simp only[Gq,Br]at h1 h2;subst h1;subst h2;exact(hS.eval y).ren hR
    have ST:(args.map a.eval).size=((args.toList.map (ev st.t)).map (ren (Cn σ) st.h)).length:=by simp
    have fin:∀{fn:Nat} {l:List AV} {vals:Array Value},Bo cx.P fn l (Fc σ st.h) (fun r h'=>K (ren (Fg σ d nn) h' r) (Ea σ d nn st.h h'))→vals.size=l.length →
      (∀(i:Nat) (av:AV) (x:Value),l[i]?=some av→vals[i]?=some x→BI (CO σ g) w (AM (Fc σ st.h)) av x) →
      (execOp a.eval ⟨dst,.call ⟨.value f,args,G4⟩,ty,pos,after,gd⟩).run cx.P w=.ok (.enter fn vals) w→Oper.wpIn (Ja ro) 0 cx.P ⟨dst,.call ⟨.value f,args,G4⟩,ty,pos,after,gd⟩ a w next Q:=by
     intro fn l vals hc hs hv Dd;refine RH (fun c e=>by cases e) ?_;unfold Oper.wp;rw[Dd];exact eZ hS.inv FO hc hs hv (fun v r h' g' w' hq hI Hs hr=>hn _ _ g' w' v hq hI Hs hr)
    unfold Gc at hc;split at hc
    ·rename_i fn e;rw[e]at fZ;have hx:a.eval f=.func (.func fn) #[] #[]:=fZ.v_eq;refine fin hc ST SL ?_;simp only[execOp,resolve,hx,Deferred.ofValue,Sem.run_bind,Sem.run_pure,Result.andThen_ok,invoke];rw[F4 hc.1];simp
    ·rename_i fn caps e;rw[e]at fZ;generalize hx:a.eval f=fv at fZ;cases fZ with
     |clo _ _ _ vs Ed M3 =>
      refine fin hc (vals:=args.map a.eval++vs) (by simp[Ed]) (fun i av x h1 h2=>?_) ?_
      ·rw[LY]at h1;rw[EZ]at h2;have hl:((args.toList.map (ev st.t)).map (ren (Cn σ) st.h)).length=(args.map a.eval).size:=ST.symm;rw[hl]at h1;split at h1
       ·rename_i hi;rw[AB hi]at h2;exact SL i av x h1 h2
       ·rename_i hi;rw[Ar hi]at h2;exact M3 _ av x h1 h2
      ·simp only[execOp,resolve,hx,Deferred.ofValue,Sem.run_bind,Sem.run_pure,Result.andThen_ok,invoke];rw[F4 hc.1];simp
    ·rename_i l e;rw[e]at fZ
     exact yl l _ fZ.v_eq (Kx (C:=YieldAt Fence.wide 0 cx.P l (args.map a.eval) w) (R:=fun e w'=>∃v,e=.returned v∧next (a.put dst v) w') YieldAt.imp hS.inv FO (fun ku=>hc (CO σ g) w _ ST SL ku (hY l σ _ _ _ hσ hS.inv hS.le))
      (fun v r h' g' w' hq hI Hs hr=>⟨v,rfl,hn _ _ g' w' v hq hI Hs hr⟩)) fun _ _ h=>h
    ·exact hc.elim
  |geny σ nn =>
   simp only at hm;cases d with
   |none=>exact hm.elim
   |some d =>
    simp only at hm;obtain⟨FO,hc⟩:=hm;have hσ:D4 σ=true:=by simp only[Ag]at FO;exact FO.1.1
    obtain⟨hR,_⟩:=SJ hS.inv hσ;have fZ:=(hS.eval f).ren hR;have SL:∀(i:Nat) (av:AV) (x:Value),((args.toList.map (ev st.t)).map (ren (Cn σ) st.h))[i]?=some av→(args.map a.eval)[i]?=some x→BI (CO σ g) w (AM (Fc σ st.h)) av x:=by
     intro i av x h1 h2;rw[AI,AI]at h1;rw[Oa]at h2;cases ho:args[i]? with
     |none=>rw[ho]at h2;simp at h2
     |some y =>
      rw[ho]at h2;have hy:args.toList[i]?=some y:=by simpa using ho
      rw[hy]at h1;simp only[Gq,Br]at h1 h2;subst h1;subst h2;exact(hS.eval y).ren hR
    have ST:(args.map a.eval).size=((args.toList.map (ev st.t)).map (ren (Cn σ) st.h)).length:=by simp
    split at hc
    ·rename_i fn caps e;rw[e]at fZ;generalize hx:a.eval f=fv at fZ;cases fZ with
     |clo _ _ _ vs Ed M3 =>
      have Dd:(execOp a.eval ⟨dst,.call ⟨.value f,args,G4⟩,ty,pos,after,gd⟩).run cx.P w=.ok (.enter fn (args.map a.eval++vs)) w:=by
       simp only[execOp,resolve,hx,Deferred.ofValue,Sem.run_bind,Sem.run_pure,Result.andThen_ok,invoke];rw[F4 hc.1];simp
      refine RH (fun c e=>by cases e) ?_;unfold Oper.wp;rw[Dd];refine Kx (C:=Calls cx.P fn (args.map a.eval++vs) w) (fun h k=>h.mono k) hS.inv FO (fun ku=>hc.2 (CO σ g) w _ (by simp[Ed]) (fun i av x h1 h2=>?_) ku (fun l=>hY l σ _ _ _ hσ hS.inv hS.le)) (fun v r h' g' w' hq hI Hs hr=>hn _ _ g' w' v hq hI Hs hr);rw[LY]at h1;rw[EZ]at h2;have hl:((args.toList.map (ev st.t)).map (ren (Cn σ) st.h)).length=(args.map a.eval).size:=ST.symm;rw[hl]at h1;split at h1
      ·rename_i hi;rw[AB hi]at h2;exact SL i av x h1 h2
      ·rename_i hi;rw[Ar hi]at h2;exact M3 _ av x h1 h2
    ·exact hc.elim
end
end Go.Eng
