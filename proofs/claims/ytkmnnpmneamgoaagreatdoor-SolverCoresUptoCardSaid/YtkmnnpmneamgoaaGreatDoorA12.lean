/- Lemmas for the claims of this seat, without a condition: part 12 (EngZ1, EngZ2, EngZA). -/
import Derived.Test.YtkmnnpmneamgoaaGreatDoorA11
namespace Go.Eng

theorem WH:∀{σ:Hy},Fb σ=true→∀i j,Cr σ i=some j↔GW σ j=some i
 | [],_,i,j=>by simp[Cr,GW]
 |(a,b)::r,h,i,j=>by
  simp only[Fb,Af]at h;obtain⟨h1,h2⟩:=h;have ih:=WH h2;have mW:Cr r a=none∧GW r b=none:=by
   split at h1
   ·rename_i e1 e2;exact⟨e1,e2⟩
   ·cases h1
  unfold Cr GW
  by_cases e1:a=i<;>by_cases e2:b=j
  ·subst e1;subst e2;simp
  ·subst e1;simp only[Ds,JY,Cn e2,Ef];constructor
   ·intro h;cases h;exact absurd rfl e2
   ·intro h;rw[(ih a j).2 h]at mW;cases mW.1
  ·subst e2;simp only[Ds,JY,Cn e1,Ef];constructor
   ·intro h;rw[(ih i b).1 h]at mW;cases mW.2
   ·intro h;cases h;exact absurd rfl e1
  ·simp only[Cn e1,Cn e2,Ef];exact ih i j
theorem iW:∀{σ:Hy},Ec σ=true→Fb σ=true
 | [],_=>rfl
 |(a,b)::r,h=>by
  simp only[Ec,Af]at h;simp only[Fb,Af];exact⟨h.1.1.1,iW h.2⟩
theorem WY{σ:Hy}(h:Ec σ=true):∀i j,Cr σ i=some j↔GW σ j=some i:=WH (iW h)
theorem VL:∀{σ:Hy},Ec σ=true→∀{i j},Cr σ i=some j→1000≤j∧j<2000
 | [],_,i,j,h=>by simp[Cr]at h
 |(a,b)::r,h,i,j,hf=>by
  simp only[Ec,Af,Dn,Cp]at h;unfold Cr at hf
  by_cases e1:a=i
  ·subst e1;simp only[Ds,JY]at hf;cases hf;exact⟨h.1.1.2,h.1.2⟩
  ·simp only[Cn e1,Ef]at hf;exact VL h.2 hf
theorem Pi(f:Nat→Option Nat)(h:Nat→HO):∀(σ:Hy) (j:Nat),Ag (WX f h σ) Aa j=match GW σ j with | some i=>(h i).ren f h | none=>.free
 | [],j=>rfl
 |(a,b)::r,j=>by
  unfold WX Ag GW
  by_cases e:b=j
  ·subst e;simp
  ·simp only[Cn e,Cn (Uq e),Ef];exact Pi f h r j

structure KC(f:Nat→Option Nat)(h h2:Nat→HO)(g g2:Gh)(w:World):Prop where
 ids:∀r r',f r=some r'→AM h r→g2.tk r'=g.tk r∧g2.ln r'=g.ln r∧g2.ρ r'=g.ρ r∧g2.own r'=g.own r∧AM h2 r'
 S:∀b o,g2.S b o↔g.S b o
 objs:∀r,Ej g w (AM h) r (h r)

section
variable {f:Nat→Option Nat}{h h2:Nat→HO}{g g2:Gh}{w:World}
theorem KC.keeps(hR:KC f h h2 g g2 w):E5 g w g2 w:=fun b o hs=>⟨(hR.S b o).2 hs,rfl,fun _ _ e=>e⟩
theorem KC.noU(hR:KC f h h2 g g2 w){av:AV}{x:Value}(r:BK g w Fp av x):BK g2 w (AM h2) av x:=r.mono hR.keeps (fun _ h=>h.elim) (fun _ h=>h.elim)
theorem BK.ren0(hR:KC f h h2 g g2 w){av:AV}{x:Value}(r:BK g w (AM h) av x):BK g2 w (AM h2) (ren0 f h av) x:=by
 have down:BK g2 w (AM h2) (Eng.str0 h av) x:=hR.noU (BK.str0 hR.objs r);cases av with
 |v y=>exact down
 |slice tk es =>
  cases tk with
  |none=>exact down
  |full sz=>exact down
  |id i sz =>
   simp only[Eng.ren0];split
   ·rename_i i' e;cases r with
    |tok _ _ _ _ _ hs hl hu ht hn hx =>
     obtain⟨k1,k2,k3,k4,k5⟩:=hR.ids i i' e hu;exact .tok _ i' sz es x (hR.noU (BK.slice_none hs)) hl k5 (k1.trans ht) (by omega) (fun q=>by rw[k3];exact hx (by omega))
   ·exact hR.noU r.slice_none
  |ver i sz v =>
   simp only[Eng.ren0];split
   ·rename_i i' e;cases r with
    |ver _ _ _ _ _ _ hs hl hu ht hn hx =>
     obtain⟨k1,k2,k3,k4,k5⟩:=hR.ids i i' e hu;exact .ver _ i' sz v es x (hR.noU (BK.slice_none hs)) hl k5 (k1.trans ht) (by omega) (fun q=>by rw[k3];exact hx (by omega))
   ·exact hR.noU r.slice_none
 |msl i n =>
  simp only[Eng.ren0];split
  ·rename_i i' e;cases r with
   |msl _ _ _ a cap hu ht hn ha hx =>
    obtain⟨k1,k2,k3,k4,k5⟩:=hR.ids i i' e hu;exact .msl _ i' n a cap k5 (k1.trans ht) (by omega) ha (fun q=>by rw[k3];exact hx (by omega))
  ·exact .junk _ _
 |agg cs=>exact down
 |tup cs=>exact down
 |cptr cs=>exact down
 |ref i off =>
  simp only[Eng.ren0];split
  ·rename_i i' e;cases r with
   |ref _ _ _ b hu ht hx =>
    obtain⟨k1,k2,k3,k4,k5⟩:=hR.ids i i' e hu;exact .ref _ i' off b k5 (k1.trans ht) (k3.trans hx)
  ·exact down
 |eref i n sz k off =>
  simp only[Eng.ren0];split
  ·rename_i i' e;cases r with
   |eref _ _ _ _ _ _ b cap hu ht hn hx =>
    obtain⟨k1,k2,k3,k4,k5⟩:=hR.ids i i' e hu;exact .eref _ i' n sz k off b cap k5 (k1.trans ht) ⟨hn.1,by omega⟩ (fun q=>by rw[k3];exact hx (by omega))
  ·exact .junk _ _
 |mref i =>
  simp only[Eng.ren0];split
  ·rename_i i' e;cases r with
   |mref _ _ b hu ht hx =>
    obtain⟨k1,k2,k3,k4,k5⟩:=hR.ids i i' e hu;exact .mref _ i' b k5 (k1.trans ht) (k3.trans hx)
  ·exact down
 |cmap sh Cb=>exact down
 |clo i cs=>exact down
 |junk=>exact down
theorem BK.ren1(hR:KC f h h2 g g2 w){av:AV}{x:Value}(r:BK g w (AM h) av x):BK g2 w (AM h2) (ren1 f h av) x:=by
 cases av with
 |agg cs =>
  cases r with
  |agg _ _ vs hs h1 hr =>
   exact .agg _ _ vs (by simp[hs]) h1 fun i av x q1 q2=>by
    rw[AJ]at q1;obtain⟨a,q3,rfl⟩:=AQ.1 q1;exact(hr i a x q3 q2).ren0 hR
 |clo i cs =>
  cases r with
  |clo _ _ _ vs hs hr =>
   exact .clo _ _ _ vs (by simp[hs]) fun i av x q1 q2=>by
    rw[AJ]at q1;obtain⟨a,q3,rfl⟩:=AQ.1 q1;exact(hr i a x q3 q2).ren0 hR
 |_=>exact r.ren0 hR
theorem BK.ren(hR:KC f h h2 g g2 w){av:AV}{x:Value}(r:BK g w (AM h) av x):BK g2 w (AM h2) (ren f h av) x:=by
 cases av with
 |tup cs =>
  cases r with
  |tup _ _ vs hs hr =>
   exact .tup _ _ vs (by simp[hs]) fun i av x q1 q2=>by
    rw[AJ]at q1;obtain⟨a,q3,rfl⟩:=AQ.1 q1;exact(hr i a x q3 q2).ren1 hR
 |_=>exact r.ren1 hR
theorem MA(f:Nat→Option Nat)(h:Nat→HO)(o:HO):(o.ren f h).live↔o.live:=by cases o<;>exact QM
theorem MB(f:Nat→Option Nat)(h:Nat→HO)(o:HO):o.ren f h≠.free↔o≠.free:=by cases o<;>simp[HO.ren]
theorem Ej.ren(hR:KC f h h2 g g2 w){i j:Nat}(Wy:f i=some j)(hu:AM h i){o:HO}(r:Ej g w (AM h) i o):Ej g2 w (AM h2) j (o.ren f h):=by
 obtain⟨k1,k2,k3,k4,k5⟩:=hR.ids i j Wy hu;have noL:∀{cs:List AV} {vs:List Value},CY g w Fp cs vs→CY g2 w Fp cs vs:=fun hr=>hr.mono hR.keeps (fun _ h=>h) (fun _ h=>h.elim);have un:∀{av:AV} {x:Value},BK g w Fp av x→BK g2 w Fp av x:=fun hr=>hr.mono hR.keeps (fun _ h=>h) (fun _ h=>h.elim);cases o with
 |free=>trivial
 |dead=>trivial
 |cells cs =>
  obtain⟨t,b,E,vs,a1,a2,a3,a4,a5⟩:=r;refine⟨k1.trans t,b,E,vs,k4.trans a1,k3.trans a2,a3,⟨by simp[a4.1],a4.2.1,fun i av x q1 q2=>?_⟩,fun o ho=>a5 o ((hR.S b o).1 ho)⟩;rw[AJ]at q1;obtain⟨a,q3,rfl⟩:=AQ.1 q1;exact(a4.2.2 i a x q3 q2).ren1 hR
 |ro cs =>
  obtain⟨t,b,a1,a2⟩:=r;exact⟨k1.trans t,b,k3.trans a1,un a2⟩
 |tok sz n =>
  obtain⟨t,l,a,cap,a1,a2⟩:=r;refine⟨k1.trans t,k2.trans l,a,cap,k3.trans a1,?_⟩;rcases a2 with ⟨b1,b2⟩ | ⟨b1,b,E,vs,off,b2,b3,b4,b5,b6⟩
  ·exact .inl ⟨b1,k4.trans b2⟩
  ·exact .inr ⟨b1,b,E,vs,off,b2,k4.trans b3,b4,b5,fun o ho=>b6 o ((hR.S b o).1 ho)⟩
 |var sz v n =>
  obtain⟨t,l,a,cap,a1,a2⟩:=r;refine⟨k1.trans t,k2.trans l,a,cap,k3.trans a1,?_⟩;rcases a2 with ⟨b1,b2⟩ | ⟨b1,b,E,vs,off,b2,b3,b4,b5,b6⟩
  ·exact .inl ⟨b1,k4.trans b2⟩
  ·exact .inr ⟨b1,b,E,vs,off,b2,k4.trans b3,b4,b5,fun o ho=>b6 o ((hR.S b o).1 ho)⟩
 |vox v=>exact⟨k1.trans r.1,k2.trans r.2⟩
 |arr sz es =>
  obtain⟨t,l,al,a2⟩:=r;refine⟨k1.trans t,k2.trans l,al,?_⟩;rcases a2 with ⟨b1,b2,b3⟩ | ⟨b,cap,E,vs,b1,b2,b3,b4,b5,b6,b7⟩
  ·exact .inl ⟨b1,k3.trans b2,k4.trans b3⟩
  ·exact .inr ⟨b,cap,E,vs,k3.trans b1,k4.trans b2,b3,b4,b5,noL b6,fun o ho=>b7 o ((hR.S b o).1 ho)⟩
 |map sh Cb =>
  obtain⟨t,b,es,ck,a1,a2,a3,a4,a5,a6⟩:=r;exact⟨k1.trans t,b,es,ck,k4.trans a1,k3.trans a2,a3,a4,fun i kv e q1 q2=>un (a5 i kv e q1 q2),fun o ho=>a6 o ((hR.S b o).1 ho)⟩
 |mapU sh Cb =>
  obtain⟨t,b,es,ck,a1,a2,a3,a4,a5,a6⟩:=r;refine⟨k1.trans t,b,es,ck,k4.trans a1,k3.trans a2,a3,Vx _ a4,fun i kv e q1 q2=>?_,fun o ho=>a6 o ((hR.S b o).1 ho)⟩;rw[AJ]at q1;obtain⟨p,q3,rfl⟩:=AQ.1 q1;exact(a5 i p e q3 q2).ren1 hR
 |rom sh Cb =>
  obtain⟨t,b,a1,a2⟩:=r;exact⟨k1.trans t,b,k3.trans a1,un a2⟩
 |iter all rem F9 =>
  obtain⟨t,b,mb,Kc,seen,st,es,ck,a1,a2,a3,a4,a5,a6,a7,a8,a9,Xg,aN,a12,nF⟩:=r;exact⟨k1.trans t,b,mb,Kc,seen,st,es,ck,k4.trans a1,k3.trans a2,a3,(hR.S _ _).2 a4,a5,a6,a7,a8,fun i kv e q1 q2=>un (a9 i kv e q1 q2),Xg,aN,a12,fun o ho=>nF o ((hR.S b o).1 ho)⟩
end
end Go.Eng

namespace Go.Eng

theorem Pa{h:Nat→HO}{d:Nat}:∀{n:Nat},DE h d n=true→∀k,k<n→h (BB d k)=.free
 |0,_,k,hk=>by omega
 |n+1,hf,k,hk=>by
  simp only[DE,Af]at hf
  by_cases e:k=n
  ·subst e
   have:=hf.1
   split at this
   ·rename_i e2;exact e2
   ·cases this
  ·exact Pa hf.2 k (by omega)
theorem NE{d nn:Nat}:∀{σ:Hy},Dm σ d nn=true→∀{i j},Cr σ i=some j→¬(BB d 0≤i∧i<BB d nn)
 | [],_,i,j,h=>by simp[Cr]at h
 |(a,b)::r,hs,i,j,hf=>by
  simp only[Dm,Af]at hs;unfold Cr at hf
  by_cases e1:a=i
  ·subst e1;have h1:=hs.1;simp only[Cy,Bool.and_eq_false_iff]at h1;intro hc;rcases h1 with h1 | h1
   ·rw[Nat.ble_eq_true_of_le hc.1]at h1;cases h1
   ·have h2:Nat.blt a (BB d nn)=true:=by rw[Cp];exact hc.2
    rw[h2]at h1;cases h1
  ·simp only[Cn e1,Ef]at hf;exact NE hs.2 hf

section
variable {P:Program}{w0:World}{g0:Gh}{h0 h:Nat→HO}{g:Gh}{w:World}

def CZ(σ:Hy)(g:Gh):Gh :=
 ⟨fun j=>match GW σ j with | some i=>g.ρ i | none=>.nilIface,fun j=>match GW σ j with | some i=>g.ln i | none=>0,fun j=>match GW σ j with | some i=>g.tk i | none=>false,
  fun j=>match GW σ j with | some i=>g.own i | none=>none,g.S⟩
def VT(σ:Hy)(d nn:Nat)(i:Nat):Option Nat :=
 match Cr σ i with
 |some j=>some j
 |none=>match Nat.ble (BB d 0) i&&Nat.blt i (BB d nn)with |true=>some (2000+(i-BB d 0)) |false=>none
def GV(σ:Hy)(d nn:Nat)(g g' : Gh):Gh :=
 ⟨fun i=>match VT σ d nn i with | some j=>g'.ρ j | none=>g.ρ i,fun i=>match VT σ d nn i with | some j=>g'.ln j | none=>g.ln i,fun i=>match VT σ d nn i with | some j=>g'.tk j | none=>g.tk i,
  fun i=>match VT σ d nn i with | some j=>g'.own j | none=>g.own i,g'.S⟩
theorem cn(σ:Hy)(d nn:Nat)(h h' : Nat→HO)(i:Nat):Eh σ d nn h h' i=match VT σ d nn i with | some j=>(h' j).ren (Fl σ d nn) h' | none=>h i:=by
 unfold Eh VT;cases Cr σ i with
 |some j=>rfl
 |none =>
  dsimp only;cases Nat.ble (BB d 0) i&&Nat.blt i (BB d nn)<;>rfl
theorem jy{σ:Hy}{d nn:Nat}(hσ:Ec σ=true)(ha:Dm σ d nn=true)(i j:Nat):VT σ d nn i=some j↔Fl σ d nn j=some i:=by
 have inv:=WY hσ;unfold VT Fl;cases h1:Cr σ i with
 |some j' =>
  have hb:=(inv i j').1 h1;dsimp only;constructor
  ·intro h;cases h;rw[hb]
  ·intro h;cases h2:GW σ j with
   |some i'=>rw[h2]at h;cases h;rw[(inv i j).2 h2]at h1;exact h1.symm
   |none =>
    rw[h2]at h;dsimp only at h;split at h
    ·rename_i hc;have h:=Ck h;subst h;simp only[Af,Dn,Cp]at hc;exact absurd ⟨by unfold BB;omega,by unfold BB;omega⟩ (NE ha h1)
    ·cases h
 |none =>
  dsimp only;cases h2:GW σ j with
  |some i' =>
   dsimp only;have hf:=(inv i' j).2 h2;have hr:=VL hσ hf;constructor
   ·intro h;split at h
    ·cases h;omega
    ·cases h
   ·intro h;cases h;rw[hf]at h1;cases h1
  |none =>
   dsimp only;constructor
   ·intro h;split at h
    ·rename_i hc;cases h;simp only[Af,Dn,Cp]at hc;have e1:(Nat.ble 2000 (2000+(i-BB d 0))&&Nat.blt (2000+(i-BB d 0)) (2000+nn))=true:=by
      simp only[Af,Dn,Cp];unfold BB at hc⊢;omega
     rw[e1]
     have:BB d (2000+(i-BB d 0)-2000)=i:=by unfold BB at hc⊢;omega
     rw[this]
    ·cases h
   ·intro h;split at h
    ·rename_i hc;have h:=Ck h;subst h;simp only[Af,Dn,Cp]at hc;have e1:(Nat.ble (BB d 0) (BB d (j-2000))&&Nat.blt (BB d (j-2000)) (BB d nn))=true:=by
      simp only[Af,Dn,Cp];unfold BB;omega
     rw[e1]
     have:2000+(BB d (j-2000)-BB d 0)=j:=by unfold BB;omega
     rw[this]
    ·cases h

theorem Tc(hI:DF w0 g0 h0 h g w){σ:Hy}(hσ:Ec σ=true):KC (Cr σ) h (Fo σ h) g (CZ σ g) w∧DF w (CZ σ g) (Fo σ h) (Fo σ h) (CZ σ g) w:=by
 have inv:=WY hσ;have EU:∀j,Fo σ h j=match GW σ j with | some i=>(h i).ren (Cr σ) h | none=>.free:=Pi _ _ σ
 have hR:KC (Cr σ) h (Fo σ h) g (CZ σ g) w:=by
  refine⟨fun r r' hr hu=>?_,fun b o=>QM,hI.objs⟩;have hb:=(inv r r').1 hr;refine⟨by simp[CZ,hb],by simp[CZ,hb],by simp[CZ,hb],by simp[CZ,hb],?_⟩;unfold AM;rw[EU,hb];exact(MB _ _ _).2 hu
 have Ms:∀j,(Fo σ h j).live→∃i,GW σ j=some i∧(h i).live:=fun j hl=>by
  rw[EU]at hl;cases e:GW σ j with
  |none=>rw[e]at hl;exact hl.elim
  |some i=>rw[e]at hl;exact⟨i,rfl,(MA _ _ _).1 hl⟩
 have WB:∀j i,GW σ j=some i→(CZ σ g).own j=g.own i:=fun j i e=>by simp[CZ,e]
 refine⟨hR,rfl,rfl,rfl,Ao _,fun _ _ _=>rfl,hI.slt,fun j=>?_,fun j j' b hl PV e e'=>?_,fun j b hl e=>?_,fun _ _ h=>.inl h,hI.glob⟩
 ·rw[EU];cases e:GW σ j with
  |none=>trivial
  |some i =>
   by_cases hu:AM h i
   ·exact(hI.objs i).ren hR ((inv i j).2 e) hu
   ·have:h i=.free:=BR.1 hu
    dsimp only;rw[this];trivial
 ·obtain⟨i,e1,l1⟩:=Ms j hl;obtain⟨i',e2,l2⟩:=Ms j' PV;rw[WB j i e1]at e;rw[WB j' i' e2]at e';obtain rfl:=hI.inj i i' b l1 l2 e e'
  have:=(inv i j).2 e1
  rw[(inv i j').2 e2]at this;cases this;rfl
 ·obtain⟨i,e1,l1⟩:=Ms j hl;have e0:=e;rw[WB j i e1]at e;exact⟨(hI.loc i b l1 e).1,.inr ⟨j,hl,e0⟩⟩

theorem KG{C:(Ending→World→Prop)→Prop}(hm:∀{R R' : Ending→World→Prop},C R→(∀e w,R e w→R' e w)→C R')(hI:DF w0 g0 h0 h g w){σ:Hy}{d nn:Nat}(FV:(Ec σ&&DE h d nn&&Dm σ d nn)=true){Q:AV→(Nat→HO)→Prop}
  (hc:DF w (CZ σ g) (Fo σ h) (Fo σ h) (CZ σ g) w→C (fun e w'=>∃v r h' g',e=Ending.returned v∧Q r h'∧BK g' w' (AM h') r v∧DF w (CZ σ g) (Fo σ h) h' g' w'∧Le (Fo σ h) (CZ σ g) w h' g' w')) {R:Ending→World→Prop}
  (bm:∀v r h' g2 w',Q r h'→DF w0 g0 h0 (Eh σ d nn h h') g2 w'→Le h g w (Eh σ d nn h h') g2 w'→BK g2 w' (AM (Eh σ d nn h h')) (ren (Fl σ d nn) h' r) v→R (.returned v) w'):C R:=by
 simp only[Af]at FV;obtain⟨⟨hσ,hnf⟩,rz⟩:=FV;obtain⟨hF,k9⟩:=Tc hI hσ;have inv:=WY hσ;have lw:=jy hσ rz;refine hm (hc k9) ?_
 rintro e w' ⟨v,r,h',g',rfl,q1,q2,q3,q4⟩
 have hb:=cn σ d nn h h';have jW:∀i j,VT σ d nn i=some j→(GV σ d nn g g').ρ i=g'.ρ j∧(GV σ d nn g g').ln i=g'.ln j∧(GV σ d nn g g').tk i=g'.tk j∧(GV σ d nn g g').own i=g'.own j:=fun i j e=>by simp[GV,e]
 have w6:∀i,VT σ d nn i=none→(GV σ d nn g g').ρ i=g.ρ i∧(GV σ d nn g g').ln i=g.ln i∧(GV σ d nn g g').tk i=g.tk i∧(GV σ d nn g g').own i=g.own i:=fun i e=>by simp[GV,e]
 have hB:KC (Fl σ d nn) h' (Eh σ d nn h h') g' (GV σ d nn g g') w':=by
  refine⟨fun j i hj hu=>?_,fun b o=>QM,q3.objs⟩;have e:=(lw i j).2 hj;obtain⟨k1,k2,k3,k4⟩:=jW i j e;refine⟨k3,k2,k1,k4,?_⟩;unfold AM;rw[hb,e];exact(MB _ _ _).2 hu
 have mX:∀j,Fo σ h j=match GW σ j with | some i=>(h i).ren (Cr σ) h | none=>.free:=Pi _ _ σ
 have wV:∀j i,Cr σ i=some j→(h i).live→(Fo σ h j).live:=fun j i e hl=>by
  rw[mX,(inv i j).1 e];exact(MA _ _ _).2 hl
 have zH:∀j i,Cr σ i=some j→(CZ σ g).own j=g.own i:=fun j i e=>by simp[CZ,(inv i j).1 e]
 have RO : ∀j,(Fo σ h j).live→∃i,Cr σ i=some j∧(h i).live∧(CZ σ g).own j=g.own i:=fun j hl=>by
  rw[mX]at hl;cases e:GW σ j with
  |none=>rw[e]at hl;exact hl.elim
  |some i=>rw[e]at hl;exact⟨i,(inv i j).2 e,(MA _ _ _).1 hl,by simp[CZ,e]⟩
 -- what the callee may not touch
 have jV:∀b,b<w.heap.size→(∀i,(h i).live→Cr σ i≠none→g.own i≠some b)→w'.heap[b]?=w.heap[b]?:=fun b Dy hn=>q3.frame b Dy fun j hl e=>by
  obtain⟨i,e1,l1,o1⟩:=RO j hl;exact hn i l1 (by rw[e1];simp) (by rw[←o1];exact e)
 have wI:∀b o,g'.S b o→b<w.heap.size→(∀i,(h i).live→Cr σ i≠none→g.own i≠some b)→g.S b o:=fun b o hs Dy hn=>by
  rcases q3.sg b o hs with h1 | h1 | ⟨j,h1,h2⟩
  ·exact h1
  ·omega
  ·obtain⟨i,e1,l1,o1⟩:=RO j h1;exact absurd (by rw[←o1];exact h2) (hn i l1 (by rw[e1];simp))
 have hk:E5 g w (GV σ d nn g g') w':=q4.keeps;have Aa:∀i,Cr σ i=none→VT σ d nn i≠none→h i=.free:=fun i e1 e2=>by
  unfold VT at e2;rw[e1]at e2;dsimp only at e2;split at e2
  ·rename_i hc;simp only[Af,Dn,Cp]at hc
   have:=Pa hnf (i-BB d 0) (by unfold BB at hc⊢;omega)
   rw[show BB d (i-BB d 0)=i by unfold BB at hc⊢;omega]at this;exact this
  ·exact absurd rfl e2
 have c8:∀i j,Cr σ i=some j→VT σ d nn i=some j:=fun i j e=>by unfold VT;rw[e]
 have zM:Ke g (GV σ d nn g g') (AM h):=fun i hu=>by
  cases e:Cr σ i with
  |some j =>
   obtain⟨k1,k2,k3,k4⟩:=jW i j (c8 i j e);obtain⟨f1,f2,f3,f4,f5⟩:=hF.ids i j e hu;obtain⟨m1,m2,m3,m4⟩:=q4.gh j f5;exact⟨(k3.trans m1).trans f1,by omega,fun t=>(k1.trans (m3 (f1.trans t))).trans f3,fun l=>(k1.trans (m4 (by omega))).trans f3⟩
  |none =>
   have e2:VT σ d nn i=none:=BR.1 fun e2=>hu (Aa i e e2);obtain⟨k1,k2,k3,k4⟩:=w6 i e2;exact⟨k3,by omega,fun _=>k1,fun _=>k1⟩
 have KN:∀i,AM h i→AM (Eh σ d nn h h') i:=fun i hu=>by
  unfold AM;rw[hb];cases e:Cr σ i with
  |some j =>
   rw[c8 i j e];exact(MB _ _ _).2 (q4.us j (hF.ids i j e hu).2.2.2.2)
  |none =>
   have e2:VT σ d nn i=none:=BR.1 fun e2=>hu (Aa i e e2);rw[e2];exact hu
 have Xb:∀i,(Eh σ d nn h h' i).live→(∃j,VT σ d nn i=some j∧(h' j).live∧(GV σ d nn g g').own i=g'.own j)∨(VT σ d nn i=none∧(h i).live∧(GV σ d nn g g').own i=g.own i∧Cr σ i=none):=fun i hl=>by
  rw[hb]at hl;cases e:VT σ d nn i with
  |some j=>rw[e]at hl;exact .inl ⟨j,rfl,(MA _ _ _).1 hl,(jW i j e).2.2.2⟩
  |none =>
   rw[e]at hl;refine .inr ⟨rfl,hl,(w6 i e).2.2.2,?_⟩;cases e2:Cr σ i with
   |none=>rfl
   |some j=>rw[c8 i j e2]at e;cases e
 have rR:∀j b,(h' j).live→g'.own j=some b→b<w'.heap.size∧(w.heap.size≤b∨∃i,Cr σ i≠none∧(h i).live∧g.own i=some b):=fun j b hl e=>by
  obtain⟨h1,h2⟩:=q3.loc j b hl e;refine⟨h1,h2.imp id ?_⟩
  rintro⟨j',l',e'⟩
  obtain⟨i,e1,l1,o1⟩:=RO j' l';exact⟨i,by rw[e1];simp,l1,by rw[←o1];exact e'⟩
 have lx:∀i b,(h i).live→g.own i=some b→Cr σ i=none→∀i',(h i').live→Cr σ i'≠none→g.own i'≠some b:=fun i b hl e hn i' PV X7 e'=>by
  obtain rfl:=hI.inj i i' b hl PV e e';exact X7 hn
 refine bm v r h' (GV σ d nn g g') w' q1 ⟨q3.os.trans hI.os,q3.tape.trans hI.tape,q3.output.trans hI.output,Bw hI.size q3.size,fun b Dy hn=>?_,q3.slt,fun i=>?_,fun i i' b hl PV e e'=>?_,fun i b hl e=>?_,fun b o hs=>?_,hI.glob.keep hk⟩ ⟨zM,KN,hk⟩ (q2.ren hB)
 ·refine(jV b (BP Dy hI.size) fun i hl _ e=>?_).trans (hI.frame b Dy hn);rcases(hI.loc i b hl e).2 with h1 | ⟨r',h1,h2⟩
  ·omega
  ·exact hn r' h1 h2
 ·rw[hb];cases e:VT σ d nn i with
  |some j =>
   by_cases hu:AM h' j
   ·exact(q3.objs j).ren hB ((lw i j).1 e) hu
   ·have:h' j=.free:=BR.1 hu
    dsimp only;rw[this];trivial
  |none =>
   obtain⟨k1,k2,k3,k4⟩:=w6 i e;have e2:Cr σ i=none:=by
    cases e2:Cr σ i with
    |none=>rfl
    |some j=>rw[c8 i j e2]at e;cases e
   refine(hI.objs i).same hk KN zM k1 k2 k3 k4 fun b hl ho=>?_;have Dy:=(hI.loc i b hl ho).1;exact⟨jV b Dy (lx i b hl ho e2),fun k hs=>wI b k hs Dy (lx i b hl ho e2)⟩
 ·have mixed:∀i j i',(h' j).live→g'.own j=some b→(h i').live→g.own i'=some b→Cr σ i'=none→i=i':=fun i j i' l1 o1 l2 o2 n2=>by
   rcases(rR j b l1 o1).2 with h1 | ⟨i3,n3,l3,o3⟩
   ·have:=(hI.loc i' b l2 o2).1;omega
   ·exact absurd o3 (lx i' b l2 o2 n2 i3 l3 n3)
  rcases Xb i hl with ⟨j,s1,l1,o1⟩ | ⟨s1,l1,o1,n1⟩<;>rcases Xb i' PV with ⟨j',s2,l2,o2⟩ | ⟨s2,l2,o2,n2⟩
  ·obtain rfl:=q3.inj j j' b l1 l2 (by rw[←o1];exact e) (by rw[←o2];exact e');have a1:=(lw i j).1 s1;rw[(lw i' j).1 s2]at a1;cases a1;rfl
  ·exact mixed i j i' l1 (by rw[←o1];exact e) l2 (by rw[←o2];exact e') n2
  ·exact(mixed i' j' i l2 (by rw[←o2];exact e') l1 (by rw[←o1];exact e) n1).symm
  ·exact hI.inj i i' b l1 l2 (by rw[←o1];exact e) (by rw[←o2];exact e')
 ·rcases Xb i hl with ⟨j,s1,l1,o1⟩ | ⟨s1,l1,o1,n1⟩
  ·obtain⟨h1,h2⟩:=rR j b l1 (by rw[←o1];exact e);refine⟨h1,?_⟩;rcases h2 with h2 | ⟨i3,n3,l3,o3⟩
   ·exact .inl (Bw hI.size h2)
   ·exact(hI.loc i3 b l3 o3).2
  ·obtain⟨h1,h2⟩:=hI.loc i b l1 (by rw[←o1];exact e);exact⟨BP h1 q3.size,h2⟩
 ·rcases q3.sg b o hs with h1 | h1 | ⟨j,h1,h2⟩
  ·exact hI.sg b o h1
  ·exact .inr (.inl (Bw hI.size h1))
  ·obtain⟨i,e1,l1,o1⟩:=RO j h1;exact .inr (hI.loc i b l1 (by rw[←o1];exact h2)).2
theorem fI(hI:DF w0 g0 h0 h g w){σ:Hy}{d nn:Nat}(FV:(Ec σ&&DE h d nn&&Dm σ d nn)=true){f:Nat}{args:List AV}{Q:AV→(Nat→HO)→Prop}(hc:Bo P f args (Fo σ h) Q){vals:Array Value}(hs:vals.size=args.length)
  (hv:∀(i:Nat) (av:AV) (x:Value),args[i]?=some av→vals[i]?=some x→BK (CZ σ g) w (AM (Fo σ h)) av x) {R:Ending→World→Prop}
  (bm:∀v r h' g2 w',Q r h'→DF w0 g0 h0 (Eh σ d nn h h') g2 w'→Le h g w (Eh σ d nn h h') g2 w'→BK g2 w' (AM (Eh σ d nn h h')) (ren (Fl σ d nn) h' r) v→R (.returned v) w'):Calls P f vals w R :=
 KG (C:=Calls P f vals w) (fun h k=>h.mono k) hI FV (hc.2 (CZ σ g) w vals hs hv) bm
end
end Go.Eng

namespace Go.Eng

structure SR(N:Nat)(ds:List Deferred)(w0:World)(g0:Gh)(h0:Nat→HO)(st:St)(g:Gh)(a:Act)(w:World):Prop where
 inv:DF w0 g0 h0 st.h g w
 le:Le h0 g0 w0 st.h g w
 dfs:a.defers=ds
 size:a.tmps.size=N
 slots:∀i,BK g w (AM st.h) (st.t i) (a.tmps.getD i undef)

section
variable {P:Program}{N:Nat}{ds:List Deferred}{w0:World}{g0:Gh}{h0:Nat→HO}{st:St}{g:Gh}{a:Act}{w:World}

theorem SR.eval(hS:SR N ds w0 g0 h0 st g a w)(x:Operand):BK g w (AM st.h) (ev st.t x) (a.eval x):=by
 cases x with
 |tmp i=>exact hS.slots i
 |const v=>exact .v _ _
 |global b=>exact .v _ _
 |func f=>exact .v _ _
theorem SR.put(hS:SR N ds w0 g0 h0 st g a w){d:Option Nat}(hd:∀i,d=some i→i<N){v:AV}{x:Value}{h' : Nat→HO}{g' : Gh}{w' : World}(hI:DF w0 g0 h0 h' g' w')(HN:Le st.h g w h' g' w')(hr:BK g' w' (AM h') v x) :
  SR N ds w0 g0 h0 (st.put d v h') g' (a.put d x) w':=by
 have old:∀i,BK g' w' (AM h') (st.t i) (a.tmps.getD i undef):=fun i=>(hS.slots i).le HN;cases d with
 |none=>exact⟨hI,hS.le.trans HN,hS.dfs,hS.size,old⟩
 |some d =>
  have hdN:=hd d rfl;refine⟨hI,hS.le.trans HN,hS.dfs,by simp[Act.put,hS.size],fun i=>?_⟩;simp only[St.put,Act.put,H3]
  by_cases e:i=d
  ·subst e
   have:i<a.tmps.size:=by rw[hS.size];exact hdN
   simp only[Ds,JY];rw[Cw,Array.getElem?_setIfInBounds_self,Ax this];exact hr
  ·simp only[Cn e,Ef];rw[Cw,Array.getElem?_setIfInBounds_ne (Uq e),←Cw];exact old i

def Y6(w0:World)(g0:Gh)(h0 h:Nat→HO)(g:Gh)(w:World)(K:HK)(next:Value→World→Prop):Prop :=
 ∀v h' g' w' x,K v h'→DF w0 g0 h0 h' g' w'→Le h g w h' g' w'→BK g' w' (AM h') v x→next x w'

theorem Ed{o:Oper}{m:Sem Value}{K:HK}{next:Act→World→Prop}{Q:Exit→Act→World→Prop}(hx:execOp a.eval o=(do pure (Next.value (←m))))(hd:Oo P w0 g0 h0 st.h g w m K)
  (hn:Y6 w0 g0 h0 st.h g w K fun x w'=>next (a.put o.dst x) w'):o.wp P a w next Q:=by
 obtain⟨x,w',g',av,h',h1,h2,h3,h4,h5⟩:=hd;unfold Oper.wp;rw[hx,Sem.run_bind,h1];exact hn av h' g' w' x h2 h3 h4 h5
theorem W8{o:Oper}{m:Sem Unit}{K:HK}{next:Act→World→Prop}{Q:Exit→Act→World→Prop}(hx:execOp a.eval o=(do m;pure Next.skip))(hd:fe P w0 g0 h0 st.h g w m K)
  (hn:Y6 w0 g0 h0 st.h g w K fun x w'=>next (a.put o.dst x) w'):o.wp P a w next Q:=by
 obtain⟨w',g',h',h1,h2,h3,h4⟩:=hd;unfold Oper.wp;rw[hx,Sem.run_bind,h1];exact hn _ h' g' w' undef h2 h3 h4 (.v _ _)
theorem bU{o:Oper}{K:HK}{next:Act→World→Prop}{Q:Exit→Act→World→Prop}{v:AV}{x:Value}(hI:DF w0 g0 h0 st.h g w)(hx:(execOp a.eval o).run P w=.ok (.value x) w)(hk:K v st.h)(hr:BK g w (AM st.h) v x)
  (hn:Y6 w0 g0 h0 st.h g w K fun x w'=>next (a.put o.dst x) w'):o.wp P a w next Q:=by
 unfold Oper.wp;rw[hx];exact hn _ _ _ _ _ hk hI (.refl _ _ _) hr

theorem SA{C:(Ending→World→Prop)→Prop}(hm:∀{R R' : Ending→World→Prop},C R→(∀e w,R e w→R' e w)→C R')(hI:DF w0 g0 h0 st.h g w){Q:AV→(Nat→HO)→Prop}
  (hc:DF w g Aa Aa g w→C (fun e w'=>∃v r h' g',e=Ending.returned v∧Q r h'∧BK g' w' (AM h') r v∧DF w g Aa h' g' w'∧Le Aa g w h' g' w')) {R:Ending→World→Prop}
  (hR:∀v r h' g' w',Q r h'→h'=Aa→DF w0 g0 h0 st.h g' w'→Le st.h g w st.h g' w'→BK g' w' Fp r v→R (.returned v) w') (hQ:∀r h',Q r h'→h'=Aa):C R:=by
 have hU:AM Aa=Fp:=by funext i;unfold AM Fp Aa;simp
 have k9:DF w g Aa Aa g w:=⟨rfl,rfl,rfl,Ao _,fun _ _ _=>rfl,hI.slt,fun _=>trivial,fun _ _ _ h=>h.elim,fun _ _ h=>h.elim,fun _ _ h=>.inl h,hI.glob⟩;refine hm (hc k9) ?_
 rintro e w' ⟨v,r,h',g',rfl,q1,q2,q3,q4⟩
 obtain rfl:=hQ r h' q1;rw[hU]at q2
 -- the caller's ghost,with the callee's stable cells
 have hk:E5 g w ⟨g.ρ,g.ln,g.tk,g.own,g'.S⟩ w':=q4.keeps;have hg:Ke g ⟨g.ρ,g.ln,g.tk,g.own,g'.S⟩ (AM st.h):=fun _ _=>⟨rfl,Ao _,fun _=>rfl,fun _=>rfl⟩;have jV:∀b,b<w.heap.size→w'.heap[b]?=w.heap[b]?:=fun b hb=>q3.frame b hb (fun _ h=>h.elim);have wI:∀b o,g'.S b o→b<w.heap.size→g.S b o:=fun b o hs hb=>by
  rcases q3.sg b o hs with h1 | h1 | ⟨_,h1,_⟩
  ·exact h1
  ·omega
  ·exact h1.elim
 refine hR v r Aa ⟨g.ρ,g.ln,g.tk,g.own,g'.S⟩ w' q1 rfl ⟨q3.os.trans hI.os,q3.tape.trans hI.tape,q3.output.trans hI.output,Bw hI.size q3.size,fun b hb hn=>?_,q3.slt,fun i=>?_,hI.inj,fun i b hl ho=>?_,fun b o hs=>?_,hI.glob.keep hk⟩ ⟨hg,fun _ h=>h,hk⟩ ?_
 ·exact(jV b (BP hb hI.size)).trans (hI.frame b hb hn)
 ·refine(hI.objs i).same hk (fun _ h=>h) hg rfl rfl rfl rfl (fun b hl ho=>?_);have Dy:=(hI.loc i b hl ho).1;exact⟨jV b Dy,fun k hs=>wI b k hs Dy⟩
 ·obtain⟨h1,h2⟩:=hI.loc i b hl ho;exact⟨BP h1 q3.size,h2⟩
 ·rcases q3.sg b o hs with h1 | h1 | ⟨_,h1,_⟩
  ·exact hI.sg b o h1
  ·exact .inr (.inl (Bw hI.size h1))
  ·exact h1.elim
 ·have:E5 g' w' ⟨g.ρ,g.ln,g.tk,g.own,g'.S⟩ w':=fun b o h=>⟨h,rfl,fun _ _ h=>h⟩
  exact q2.mono this (fun _ h=>h) (fun _ h=>h.elim)

theorem cr(hI:DF w0 g0 h0 st.h g w){f:Nat}{args:List AV}{Q:AV→(Nat→HO)→Prop}(hc:Bo P f args Aa Q){vals:Array Value}(hs:vals.size=args.length)
  (hv:∀(i:Nat) (av:AV) (x:Value),args[i]?=some av→vals[i]?=some x→BK g w Fp av x) {R:Ending→World→Prop}
  (hR:∀v r h' g' w',Q r h'→h'=Aa→DF w0 g0 h0 st.h g' w'→Le st.h g w st.h g' w'→BK g' w' Fp r v→R (.returned v) w') (hQ:∀r h',Q r h'→h'=Aa):Calls P f vals w R :=
 have hU:AM Aa=Fp:=by funext i;unfold AM Fp Aa;simp
 SA (C:=Calls P f vals w) (fun h k=>h.mono k) hI (hc.2 g w vals hs (fun i av x h1 h2=>by rw[hU];exact hv i av x h1 h2)) hR hQ
theorem YieldAt.imp{F:Fence}{m:Nat}{P:Program}{l:Nat}{args:Array Value}{W:World}{R R' : Ending→World→Prop}(h:YieldAt F m P l args W R)(hr:∀e w,R e w→R' e w):YieldAt F m P l args W R' :=
 let ⟨fn,t,a,b,h1,h2⟩:=h
 ⟨fn,t,a,b,h1,h2.mono hr⟩
theorem GR.imp{Y:Gh→World→Prop}{l:Nat}{args:List AV}{h0:Nat→HO}{Q Q' : AV→(Nat→HO)→Prop}(h:GR P Y l args h0 Q)(hq:∀r h',Q r h'→Q' r h'):GR P Y l args h0 Q' :=
 fun g w vals q1 q2 q3 q4=>YieldAt.imp (h g w vals q1 q2 q3 q4) fun _ _ ⟨v,r,h',g',e1,e2,rest⟩=>⟨v,r,h',g',e1,hq _ _ e2,rest⟩
theorem Gg.imp{Y:Nat→Gh→World→Prop}{F:AV}{args:List AV}{h0:Nat→HO}{Q Q' : AV→(Nat→HO)→Prop}(h:Gg P Y F args h0 Q)(hq:∀r h',Q r h'→Q' r h'):Gg P Y F args h0 Q':=by
 have one:∀{f:Nat} {l:List AV},Bo P f l h0 Q→Bo P f l h0 Q':=fun hc =>
  ⟨hc.1,fun g w vals q1 q2 q3=>(hc.2 g w vals q1 q2 q3).mono fun _ _ ⟨v,r,h',g',e1,e2,rest⟩=>⟨v,r,h',g',e1,hq _ _ e2,rest⟩⟩
 unfold Gg at h⊢;split at h
 ·exact one h
 ·exact one h
 ·exact GR.imp h hq
 ·exact h.elim
abbrev JQ(ro:Option Nat):Fence:={ Fence.wide with round:=ro }
theorem RZ{ro:Option Nat}{o:Oper}{a:Act}{w:World}{next:Act→World→Prop}{Q:Exit→Act→World→Prop}(hd:∀c,o.op≠.defer c)(h:o.wp P a w next Q):o.wpIn (JQ ro) 0 P a w next Q:=by
 refine⟨fun _ _=>trivial,?_⟩;have e:o.semAt (JQ ro).round a.eval=execOp a.eval o:=Oper.semAt_eq ro a.eval o hd;rw[e];unfold Oper.wp at h;have key:∀res:Result Next,o.upon P a next Q res→o.uponIn (JQ ro) 0 P a next Q res:=fun res h=>by
  cases res with
  |ok n w'=>cases n with
   |enter f args=>exact(show(_→_)∧CallsIn (JQ ro) 0 P f args w' _ from⟨fun e=>by(cases e),callsIn_wide.2 h⟩)
   |row r args=>exact(show(_→_)∧RowsIn (JQ ro) 0 P r args w' _ from⟨fun e=>by(cases e),fun c cs _=>by
     obtain⟨v,QJ,r',s⟩:=h c cs;exact⟨v,QJ,r',stepsIn_wide.2 s⟩⟩)
   |round _ _ _ _ _=>exact h.elim
   |_=>exact h
  |halt x w'=>cases x<;>exact h
 exact key _ h
theorem F7{f:Nat}{args:Array Value}(h:Gi P f)(w:World):(callFunc f args).run P w=.ok (.enter f args) w:=by
 obtain⟨fn,h1,h2,h3⟩:=h;simp only[callFunc,Sem.run_bind,run_program,h1,Result.andThen_ok,h2,h3,Df,Gc,Sem.run_pure]

theorem T3{h:Nat→HO}{a:AV}(ha:bB a=true):ren (Cr []) h a=str h a:=by
 have h0:∀a,ren0 (Cr []) h a=str0 h a:=fun a=>by
  cases a with
  |slice tk es=>cases tk<;>rfl
  |_=>rfl
 cases a with
 |tup cs=>cases ha
 |agg cs=>show AV.agg _=AV.agg _;exact Ac _ (A8 fun c _=>h0 c)
 |clo f cs=>show AV.clo f _=AV.clo f _;exact Ac _ (A8 fun c _=>h0 c)
 |v x=>exact h0 (.v x)
 |slice tk es=>exact h0 (.slice tk es)
 |msl r n=>exact h0 (.msl r n)
 |cptr cs=>exact h0 (.cptr cs)
 |ref r o=>exact h0 (.ref r o)
 |eref r n sz i o=>exact h0 (.eref r n sz i o)
 |mref r=>exact h0 (.mref r)
 |cmap sh l=>exact h0 (.cmap sh l)
 |junk=>rfl
theorem Qq{h:Nat→HO}:∀{l:List AV},TQ l=true→l.map (ren (Cr []) h)=l.map (str h)
 | [],_=>rfl
 |a::l,e=>by
  unfold TQ at e;split at e
  ·rename_i e1;rw[AN,AN,T3 e1,Qq e]
  ·cases e
theorem QI:∀{l:List AV} {vs:List Value},V2 l=some vs→l=vs.map .v
 | [],vs,h=>by cases h;rfl
 |.v x::r,vs,h=>by
  unfold V2 at h;split at h
  ·rename_i l e;cases h;rw[AN,←QI e]
  ·cases h
theorem cq{cx:Cx}{d:Option Nat}{st:St}{F:AV}{args:List AV}{K:HK}(hk:GA cx true d st F args K):GA cx false d st F args K:=by
 unfold GA at hk;simp only at hk;split at hk
 ·exact⟨.pure,hk⟩
 ·split at hk
  ·exact hk.elim
  ·rename_i d _;obtain⟨n,sz,es,h1,h2,h3⟩:=hk;simp only[Af]at h1;refine⟨.gen [] 1,?_⟩;show(Ec []&&DE st.h d 1&&Dm [] d 1)=true∧_;refine⟨by simp[Ec,Dm,h1.1.1],?_⟩;rw[T3 h1.1.2,Qq h1.2];show Gg cx.P (fun l=>cx.yp l []) _ _ Aa _;refine Gg.imp h2 ?_
   rintro r h' ⟨e2,e3⟩
   subst e2;subst e3;have e1:ren (Fl [] d 1) (Ag [(2000,.arr sz es)] Aa) (.msl 2000 n)=.msl (BB d 0) n:=rfl;have e2:Eh [] d 1 st.h (Ag [(2000,.arr sz es)] Aa)=AZ st.h (BB d 0) (.arr sz es):=by
    funext i
    by_cases e:i=BB d 0
    ·subst e;rw[Bg];have hb:(Nat.ble (BB d 0) (BB d 0)&&Nat.blt (BB d 0) (BB d 1))=true:=by
      unfold BB;simp only[Af,Dn,Cp];omega
     simp only[Eh,Cr,hb,Fk];rfl
    ·rw[B9 _ _ _ _ e]
     have:(Nat.ble (BB d 0) i&&Nat.blt i (BB d 1))=false:=by
      unfold BB at e⊢;rw[AI];simp only[Ri,Af,Dn,Cp];omega
     simp only[Eh,Cr,this]
   rw[e1,e2];exact h3
 ·split at hk
  ·unfold Uh at hk;split at hk
   ·exact hk.elim
   ·rename_i d _;obtain⟨sz,es,h1,h2,h3⟩:=hk;simp only[Af]at h1;refine⟨.gen [] 1,?_⟩;show(Ec []&&DE st.h d 1&&Dm [] d 1)=true∧_;refine⟨by simp[Ec,Dm,h1.1.1],?_⟩;rw[T3 h1.1.2,Qq h1.2];show Gg cx.P (fun l=>cx.yp l []) _ _ Aa _;refine Gg.imp h2 ?_
    rintro r h' ⟨e2,e3⟩
    subst e2;subst e3;have e1:ren (Fl [] d 1) (Ag [(2000,.tok sz es.length)] Aa) (.slice (.id 2000 sz) es)=.slice (.id (BB d 0) sz) es:=rfl;have e2:Eh [] d 1 st.h (Ag [(2000,.tok sz es.length)] Aa)=AZ st.h (BB d 0) (.tok sz es.length):=by
     funext i
     by_cases e:i=BB d 0
     ·subst e;rw[Bg];have hb:(Nat.ble (BB d 0) (BB d 0)&&Nat.blt (BB d 0) (BB d 1))=true:=by
       unfold BB;simp only[Af,Dn,Cp];omega
      simp only[Eh,Cr,hb,Fk];rfl
     ·rw[B9 _ _ _ _ e]
      have:(Nat.ble (BB d 0) i&&Nat.blt i (BB d 1))=false:=by
       unfold BB at e⊢;rw[AI];simp only[Ri,Af,Dn,Cp];omega
      simp only[Eh,Cr,this]
    rw[e1,e2];exact h3
  split at hk
  ·unfold QK at hk;split at hk
   ·rename_i d l vs e2 z1;have hl:=QI e2;split at hk
    ·rename_i r sz es mF n e3 e4;obtain⟨⟨rfl,rfl⟩,v,ET,n',h1,h2⟩:=hk;refine⟨.gen [(1000,1000),(1001,1001)] 0,?_⟩;show(Ec [(1000,1000),(1001,1001)]&&DE st.h d 0&&Dm [(1000,1000),(1001,1001)] d 0)=true∧_;refine⟨?_,?_⟩
     ·have:Dm [(1000,1000),(1001,1001)] d 0=true:=by
       have q:∀r:Nat,(Nat.ble (BB d 0) r&&Nat.blt r (BB d 0))=false:=fun r=>by
        rw[AI];simp only[Ri,Af,Dn,Cp];omega
       simp only[Dm,q,Bool.not_false,Bool.and_self]
      rw[this];rfl
     have f1:args.map (ren (Cr [(1000,1000),(1001,1001)]) st.h)=vs.map .v:=by rw[hl,BY];rfl
     have f2:Fo [(1000,1000),(1001,1001)] st.h=Ag [(1000,.cells [.slice (.id 1001 mF) es]),(1001,.tok mF n)] Aa:=by
      unfold Fo WX WX WX;rw[e3,e4];rfl
     rw[f1,f2];refine GR.imp h1 ?_
     rintro r h' ⟨g1,g2⟩
     subst g1;subst g2;have f3:Eh [(1000,1000),(1001,1001)] d 0 st.h (Ag [(1000,.cells [.slice (.id 1001 mF) ET]),(1001,.tok mF n')] Aa)=AZ (AZ st.h 1001 (.tok mF n')) 1000 (.cells [.slice (.id 1001 mF) ET]):=by
      funext i
      by_cases e:i=1000
      ·subst e;rw[Bg];rfl
      ·rw[B9 _ _ _ _ e]
       by_cases e' : i=1001
       ·subst e';rw[Bg];rfl
       ·rw[B9 _ _ _ _ e'];have hn:Cr [(1000,1000),(1001,1001)] i=none:=by simp[Cr,Cn (Ne.symm e),Cn (Ne.symm e')]
        have:(Nat.ble (BB d 0) i&&Nat.blt i (BB d 0))=false:=by
         rw[AI];simp only[Ri,Af,Dn,Cp];omega
        simp only[Eh,hn,this]
     rw[f3];exact h2
    ·exact hk.elim
   ·exact hk.elim
  unfold Pk at hk;split at hk
  ·unfold XP at hk;split at hk
   ·rename_i d f _;obtain⟨σ,H0,Hn,args',res,g1,g2,g3,g4⟩:=hk;simp only[Af]at g2;obtain⟨k1,k2⟩:=g1 st.h fun _ _=>rfl;refine⟨.gen σ 0,?_⟩;show(Ec σ&&DE st.h d 0&&Dm σ d 0)=true∧_;refine⟨by rw[g2.1.1,g2.1.2];rfl,?_⟩;rw[k1,k2];refine Gg.imp (show Gg cx.P (fun l=>cx.yp l σ) (.v (.func (.func f) ⟨[]⟩ ⟨[]⟩)) args' (Ag H0 Aa) (fun r h'=>r=res∧h'=Ag Hn Aa)from g3) ?_
    rintro r h' ⟨e1,e2⟩
    rw[e1,e2];exact g4
   ·exact hk.elim
  unfold Rv at hk;split at hk
  ·rename_i dd f r n l _;split at hk
   ·rename_i vs j7;have hl:=QI j7;subst hl;split at hk
    ·rename_i sz es hr;have hf:Cr [(r,1000)] r=some 1000:=by simp[Cr]
     have e1:ren (Cr [(r,1000)]) st.h (.v (.func (.func f) ⟨[]⟩ ⟨[]⟩))=.v (.func (.func f) ⟨[]⟩ ⟨[]⟩):=rfl;have e2:(AV.msl r n::vs.map AV.v).map (ren (Cr [(r,1000)]) st.h)=.msl 1000 n::vs.map .v:=by
      rw[AN]
      congr 1
      ·simp[ren,ren1,ren0,hf]
      ·rw[BY];rfl
     have e3:Fo [(r,1000)] st.h=Ag [(1000,.arr sz es)] Aa:=by
      unfold Fo WX;rw[hr];rfl
     split at hk
     ·obtain⟨n',ET,h1,h2⟩:=hk;refine⟨.gen [(r,1000)] 0,?_⟩;show(Ec [(r,1000)]&&DE st.h dd 0&&Dm [(r,1000)] dd 0)=true∧_;refine⟨?_,?_⟩
      ·have:Dm [(r,1000)] dd 0=true:=by
        unfold Dm
        have:(Nat.ble (BB dd 0) r&&Nat.blt r (BB dd 0))=false:=by
         rw[AI];simp only[Ri,Af,Dn,Cp];omega
        rw[this];rfl
       rw[this];rfl
      rw[e1,e2,e3];refine⟨h1.1,fun g w vals q1 q2 q3=>(h1.2 g w vals q1 q2 q3).mono fun _ _ ⟨v,r',h',g',e1,⟨e2,e3⟩,rest⟩=>⟨v,r',h',g',e1,?_,rest⟩⟩;subst e2;subst e3;have f1:ren (Fl [(r,1000)] dd 0) (Ag [(1000,.arr sz ET)] Aa) (.msl 1000 n')=.msl r n':=rfl;have f2:Eh [(r,1000)] dd 0 st.h (Ag [(1000,.arr sz ET)] Aa)=AZ st.h r (.arr sz ET):=by
       funext i
       by_cases e:i=r
       ·subst e;rw[Bg];simp[Eh,hf,Ag,HO.ren]
       ·rw[B9 _ _ _ _ e];have hn:Cr [(r,1000)] i=none:=by simp[Cr,Cn (Ne.symm e)]
        have:(Nat.ble (BB dd 0) i&&Nat.blt i (BB dd 0))=false:=by
         rw[AI];simp only[Ri,Af,Dn,Cp];omega
        simp only[Eh,hn,this]
      rw[f1,f2];exact h2
     ·obtain⟨n',ET,h0,h1,h2⟩:=hk;simp only[Af,Cp,Cy]at h0;have xr:r≠BB dd 0:=fun e=>by have:=h0.2;rw[e]at this;simp at this
      refine⟨.gen [(r,1000)] 1,?_⟩;show(Ec [(r,1000)]&&DE st.h dd 1&&Dm [(r,1000)] dd 1)=true∧_;refine⟨?_,?_⟩
      ·have:Dm [(r,1000)] dd 1=true:=by
        unfold Dm
        have:(Nat.ble (BB dd 0) r&&Nat.blt r (BB dd 1))=false:=by
         rw[AI];simp only[Ri,Af,Dn,Cp];unfold BB at xr⊢;omega
        rw[this];rfl
       rw[this,h0.1.1];rfl
      rw[e1,e2,e3];refine⟨h1.1,fun g w vals q1 q2 q3=>(h1.2 g w vals q1 q2 q3).mono fun _ _ ⟨v,r',h',g',e1,⟨e2,e3⟩,rest⟩=>⟨v,r',h',g',e1,?_,rest⟩⟩;subst e2;subst e3;have f1:ren (Fl [(r,1000)] dd 1) (Ag [(1000,.dead),(2000,.arr sz ET)] Aa) (.msl 2000 n')=.msl (BB dd 0) n':=rfl;have f2:Eh [(r,1000)] dd 1 st.h (Ag [(1000,.dead),(2000,.arr sz ET)] Aa)=AZ (AZ st.h r .dead) (BB dd 0) (.arr sz ET):=by
       funext i
       by_cases e:i=BB dd 0
       ·subst e;rw[Bg];have hn:Cr [(r,1000)] (BB dd 0)=none:=by simp[Cr,Cn xr]
        have hb:(Nat.ble (BB dd 0) (BB dd 0)&&Nat.blt (BB dd 0) (BB dd 1))=true:=by
         unfold BB;simp only[Af,Dn,Cp];omega
        simp only[Eh,hn,hb,Fk];rfl
       ·rw[B9 _ _ _ _ e]
        by_cases e4:i=r
        ·subst e4;rw[Bg];simp[Eh,hf,Ag,HO.ren]
        ·rw[B9 _ _ _ _ e4];have hn:Cr [(r,1000)] i=none:=by simp[Cr,Cn (Ne.symm e4)]
         have:(Nat.ble (BB dd 0) i&&Nat.blt i (BB dd 1))=false:=by
          rw[AI];simp only[Ri,Af,Dn,Cp];unfold BB at e⊢;omega
         simp only[Eh,hn,this]
      rw[f1,f2];exact h2
    ·exact hk.elim
   ·exact hk.elim
  ·exact hk.elim
theorem fH{cx:Cx}{dr:Bool}{d:Option Nat}{f:Operand}{args:Array Operand}{Ha:Array TypeId}{dst:Option Nat}{ty:Nat}{pos:String}{after:Array Edge}{gd:Option (Nat×Bool)}{K:HK}{next:Act→World→Prop}{Q:Exit→Act→World→Prop}
  (hP:cx.P=P) (hY:∀l σ h g w,Ec σ=true→DF w0 g0 h0 h g w→Le h0 g0 w0 h g w→cx.yp l σ (CZ σ g) w) {ro:Option Nat} (hS:SR N ds w0 g0 h0 st g a w) (hk:GA cx dr d st (ev st.t f) (args.toList.map (ev st.t)) K)
  (hn:Y6 w0 g0 h0 st.h g w K fun x w'=>next (a.put dst x) w'):Oper.wpIn (JQ ro) 0 P ⟨dst,.call ⟨.value f,args,Ha⟩,ty,pos,after,gd⟩ a w next Q:=by
 subst hP;have hk:GA cx false d st (ev st.t f) (args.toList.map (ev st.t)) K:=by
  cases dr with
  |true=>exact cq hk
  |false=>exact hk
 have Jy:∀(i:Nat) (av:AV) (x:Value),((args.toList.map (ev st.t)).map (str st.h))[i]?=some av→(args.map a.eval)[i]?=some x→BK g w Fp av x:=by
  intro i av x h1 h2;rw[AJ,AJ]at h1;rw[On]at h2;cases ho:args[i]? with
  |none=>rw[ho]at h2;simp at h2
  |some y =>
   rw[ho]at h2;have hy:args.toList[i]?=some y:=by simpa using ho
   rw[hy]at h1;simp only[Gv,Bv]at h1 h2;subst h1;subst h2;exact BK.str hS.inv.objs (hS.eval y)
 have CW:(args.map a.eval).size=((args.toList.map (ev st.t)).map (str st.h)).length:=by simp
 have hF:=BK.str hS.inv.objs (hS.eval f)
 -- a call of yield
 have yl:∀(l:Nat) (R:Ending→World→Prop),a.eval f=.func (.yield l) #[] #[]→YieldAt Fence.wide 0 cx.P l (args.map a.eval) w R→(∀e w',R e w'→∃v,e=.returned v∧next (a.put dst v) w') →
   Oper.wpIn (JQ ro) 0 cx.P ⟨dst,.call ⟨.value f,args,Ha⟩,ty,pos,after,gd⟩ a w next Q:=by
  rintro l R hx ⟨fn,tm,EA,bd,h1,h2⟩ hR
  refine⟨fun _ _=>trivial,?_⟩;have e:(⟨dst,.call ⟨.value f,args,Ha⟩,ty,pos,after,gd⟩:Oper).semAt (JQ ro).round a.eval=execOp a.eval ⟨dst,.call ⟨.value f,args,Ha⟩,ty,pos,after,gd⟩:=Oper.semAt_eq ro a.eval _ (fun c e=>by cases e);have Do:(execOp a.eval ⟨dst,.call ⟨.value f,args,Ha⟩,ty,pos,after,gd⟩).run cx.P w=.ok (.round l fn tm EA bd) w:=by
   simp only[execOp,resolve,hx,Deferred.ofValue,Sem.run_bind,Sem.run_pure,Result.andThen_ok,invoke];simpa using h1
  rw[e,Do];refine(show(_→_)∧RoundIn (JQ ro) 0 cx.P l fn tm EA bd w _ from⟨fun e=>by(cases e),RoundIn.mono h2 fun e w' h=>?_⟩);obtain⟨v,rfl,hn⟩:=hR e w' h;exact hn
 -- the call itself
 have go:∀(Q' : AV→(Nat→HO)→Prop),(∀r h',Q' r h'→h'=Aa∧K r st.h)→Gg cx.P (fun _ _ _=>True) (str st.h (ev st.t f)) ((args.toList.map (ev st.t)).map (str st.h)) Aa Q' →
   Oper.wpIn (JQ ro) 0 cx.P ⟨dst,.call ⟨.value f,args,Ha⟩,ty,pos,after,gd⟩ a w next Q:=by
  intro Q' hQ hc
  have fin:∀{fn:Nat} {l:List AV} {vals:Array Value},Bo cx.P fn l Aa Q'→vals.size=l.length→(∀(i:Nat) (av:AV) (x:Value),l[i]?=some av→vals[i]?=some x→BK g w Fp av x) →
    (execOp a.eval ⟨dst,.call ⟨.value f,args,Ha⟩,ty,pos,after,gd⟩).run cx.P w=.ok (.enter fn vals) w→Oper.wpIn (JQ ro) 0 cx.P ⟨dst,.call ⟨.value f,args,Ha⟩,ty,pos,after,gd⟩ a w next Q:=by
   intro fn l vals hc hs hv Do;refine RZ (fun c e=>by cases e) ?_;unfold Oper.wp;rw[Do];exact cr hS.inv hc hs hv (fun v r h' g' w' hq _ hI HN hr=>hn r _ g' w' v (hQ r h' hq).2 hI HN (hr.up _)) (fun r h' hq=>(hQ r h' hq).1)
  unfold Gg at hc;split at hc
  ·rename_i fn e;rw[e]at hF;have hx:=hF.v_eq;refine fin hc CW Jy ?_;have Mt : a.eval f=.func (.func fn) #[] #[]:=hx;simp only[execOp,resolve,Mt,Deferred.ofValue,Sem.run_bind,Sem.run_pure,Result.andThen_ok,invoke];rw[F7 hc.1];simp
  ·rename_i fn caps e;rw[e]at hF;generalize hx:a.eval f=fv at hF;cases hF with
   |clo _ _ _ vs En Nb =>
    refine fin hc (vals:=args.map a.eval++vs) (by simp[En]) (fun i av x h1 h2=>?_) ?_
    ·rw[L7]at h1;rw[E4]at h2;have hl:((args.toList.map (ev st.t)).map (str st.h)).length=(args.map a.eval).size:=CW.symm;rw[hl]at h1;split at h1
     ·rename_i hi;rw[Ax hi]at h2;exact Jy i av x h1 h2
     ·rename_i hi;rw[Aq hi]at h2;exact Nb _ av x h1 h2
    ·simp only[execOp,resolve,hx,Deferred.ofValue,Sem.run_bind,Sem.run_pure,Result.andThen_ok,invoke];rw[F7 hc.1];simp
  ·rename_i l e;rw[e]at hF;have hU:AM Aa=Fp:=by funext i;unfold AM Fp Aa;simp
   refine yl l _ hF.v_eq (SA (C:=YieldAt Fence.wide 0 cx.P l (args.map a.eval) w) (R:=fun e w'=>∃v,e=.returned v∧next (a.put dst v) w') YieldAt.imp hS.inv (fun k9=>hc g w _ CW (fun i av x h1 h2=>by rw[hU];exact Jy i av x h1 h2) k9 trivial)
    (fun v r h' g' w' hq _ hI HN hr=>⟨v,rfl,hn r _ g' w' v (hQ r h' hq).2 hI HN (hr.up _)⟩) (fun r h' hq=>(hQ r h' hq).1)) fun _ _ h=>h
  ·exact hc.elim
 have pure:(∃res,PB cx.P (str st.h (ev st.t f)) ((args.toList.map (ev st.t)).map (str st.h)) res∧K res st.h)→Oper.wpIn (JQ ro) 0 cx.P ⟨dst,.call ⟨.value f,args,Ha⟩,ty,pos,after,gd⟩ a w next Q:=by
  rintro⟨res,h1,h2⟩
  refine go (fun r h'=>r=res∧h'=Aa) (fun r h' hq=>⟨hq.2,by rw[hq.1];exact h2⟩) ?_;unfold PB at h1;unfold Gg;split at h1
  ·rename_i fn e;rw[e];exact h1
  ·rename_i fn caps e;rw[e];exact h1
  ·exact h1.elim
 unfold GA at hk
 ·obtain⟨m,hm⟩:=hk;cases m with
  |pure=>exact pure hm
  |rel=>exact go _ (fun r h' hq=>hq) hm
  |gen σ nn =>
   simp only at hm;cases d with
   |none=>exact hm.elim
   |some d =>
    simp only at hm;obtain⟨FV,hc⟩:=hm;have hσ:Ec σ=true:=by simp only[Af]at FV;exact FV.1.1
    obtain⟨hR,_⟩:=Tc hS.inv hσ;have gA:=(hS.eval f).ren hR;have Te:∀(i:Nat) (av:AV) (x:Value),((args.toList.map (ev st.t)).map (ren (Cr σ) st.h))[i]?=some av→(args.map a.eval)[i]?=some x→BK (CZ σ g) w (AM (Fo σ st.h)) av x:=by
     intro i av x h1 h2;rw[AJ,AJ]at h1;rw[On]at h2;cases ho:args[i]? with
     |none=>rw[ho]at h2;simp at h2
     |some y =>
      rw[ho]at h2;have hy:args.toList[i]?=some y:=by simpa using ho
      rw[hy]at h1;simp only[Gv,Bv]at h1 h2;subst h1;subst h2;exact(hS.eval y).ren hR
    have Tl:(args.map a.eval).size=((args.toList.map (ev st.t)).map (ren (Cr σ) st.h)).length:=by simp
    have fin:∀{fn:Nat} {l:List AV} {vals:Array Value},Bo cx.P fn l (Fo σ st.h) (fun r h'=>K (ren (Fl σ d nn) h' r) (Eh σ d nn st.h h'))→vals.size=l.length →
      (∀(i:Nat) (av:AV) (x:Value),l[i]?=some av→vals[i]?=some x→BK (CZ σ g) w (AM (Fo σ st.h)) av x) →
      (execOp a.eval ⟨dst,.call ⟨.value f,args,Ha⟩,ty,pos,after,gd⟩).run cx.P w=.ok (.enter fn vals) w→Oper.wpIn (JQ ro) 0 cx.P ⟨dst,.call ⟨.value f,args,Ha⟩,ty,pos,after,gd⟩ a w next Q:=by
     intro fn l vals hc hs hv Do;refine RZ (fun c e=>by cases e) ?_;unfold Oper.wp;rw[Do];exact fI hS.inv FV hc hs hv (fun v r h' g' w' hq hI HN hr=>hn _ _ g' w' v hq hI HN hr)
    unfold Gg at hc;split at hc
    ·rename_i fn e;rw[e]at gA;have hx:a.eval f=.func (.func fn) #[] #[]:=gA.v_eq;refine fin hc Tl Te ?_;simp only[execOp,resolve,hx,Deferred.ofValue,Sem.run_bind,Sem.run_pure,Result.andThen_ok,invoke];rw[F7 hc.1];simp
    ·rename_i fn caps e;rw[e]at gA;generalize hx:a.eval f=fv at gA;cases gA with
     |clo _ _ _ vs En Nb =>
      refine fin hc (vals:=args.map a.eval++vs) (by simp[En]) (fun i av x h1 h2=>?_) ?_
      ·rw[L7]at h1;rw[E4]at h2;have hl:((args.toList.map (ev st.t)).map (ren (Cr σ) st.h)).length=(args.map a.eval).size:=Tl.symm;rw[hl]at h1;split at h1
       ·rename_i hi;rw[Ax hi]at h2;exact Te i av x h1 h2
       ·rename_i hi;rw[Aq hi]at h2;exact Nb _ av x h1 h2
      ·simp only[execOp,resolve,hx,Deferred.ofValue,Sem.run_bind,Sem.run_pure,Result.andThen_ok,invoke];rw[F7 hc.1];simp
    ·rename_i l e;rw[e]at gA
     exact yl l _ gA.v_eq (KG (C:=YieldAt Fence.wide 0 cx.P l (args.map a.eval) w) (R:=fun e w'=>∃v,e=.returned v∧next (a.put dst v) w') YieldAt.imp hS.inv FV (fun k9=>hc (CZ σ g) w _ Tl Te k9 (hY l σ _ _ _ hσ hS.inv hS.le))
      (fun v r h' g' w' hq hI HN hr=>⟨v,rfl,hn _ _ g' w' v hq hI HN hr⟩)) fun _ _ h=>h
    ·exact hc.elim
  |geny σ nn =>
   simp only at hm;cases d with
   |none=>exact hm.elim
   |some d =>
    simp only at hm;obtain⟨FV,hc⟩:=hm;have hσ:Ec σ=true:=by simp only[Af]at FV;exact FV.1.1
    obtain⟨hR,_⟩:=Tc hS.inv hσ;have gA:=(hS.eval f).ren hR;have Te:∀(i:Nat) (av:AV) (x:Value),((args.toList.map (ev st.t)).map (ren (Cr σ) st.h))[i]?=some av→(args.map a.eval)[i]?=some x→BK (CZ σ g) w (AM (Fo σ st.h)) av x:=by
     intro i av x h1 h2;rw[AJ,AJ]at h1;rw[On]at h2;cases ho:args[i]? with
     |none=>rw[ho]at h2;simp at h2
     |some y =>
      rw[ho]at h2;have hy:args.toList[i]?=some y:=by simpa using ho
      rw[hy]at h1;simp only[Gv,Bv]at h1 h2;subst h1;subst h2;exact(hS.eval y).ren hR
    have Tl:(args.map a.eval).size=((args.toList.map (ev st.t)).map (ren (Cr σ) st.h)).length:=by simp
    split at hc
    ·rename_i fn caps e;rw[e]at gA;generalize hx:a.eval f=fv at gA;cases gA with
     |clo _ _ _ vs En Nb =>
      have Do:(execOp a.eval ⟨dst,.call ⟨.value f,args,Ha⟩,ty,pos,after,gd⟩).run cx.P w=.ok (.enter fn (args.map a.eval++vs)) w:=by
       simp only[execOp,resolve,hx,Deferred.ofValue,Sem.run_bind,Sem.run_pure,Result.andThen_ok,invoke];rw[F7 hc.1];simp
      refine RZ (fun c e=>by cases e) ?_;unfold Oper.wp;rw[Do];refine KG (C:=Calls cx.P fn (args.map a.eval++vs) w) (fun h k=>h.mono k) hS.inv FV (fun k9=>hc.2 (CZ σ g) w _ (by simp[En]) (fun i av x h1 h2=>?_) k9 (fun l=>hY l σ _ _ _ hσ hS.inv hS.le)) (fun v r h' g' w' hq hI HN hr=>hn _ _ g' w' v hq hI HN hr);rw[L7]at h1;rw[E4]at h2;have hl:((args.toList.map (ev st.t)).map (ren (Cr σ) st.h)).length=(args.map a.eval).size:=Tl.symm;rw[hl]at h1;split at h1
      ·rename_i hi;rw[Ax hi]at h2;exact Te i av x h1 h2
      ·rename_i hi;rw[Aq hi]at h2;exact Nb _ av x h1 h2
    ·exact hc.elim
end
end Go.Eng
