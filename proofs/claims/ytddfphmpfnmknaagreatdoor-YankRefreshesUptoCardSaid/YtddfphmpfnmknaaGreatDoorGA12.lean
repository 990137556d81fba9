/- Lemmas for the claims of this seat, without a condition: part 12 (EngZ1, EngZ2, EngZA). -/
import Derived.Test.YtddfphmpfnmknaaGreatDoorGA11
namespace Go.Eng
variable {vals:Array Value}{o:Oper}{args:Array Value}{σ:JO}{K:HK}{x:Value}{cx:Cx}
theorem Ym:∀{σ:JO},Hm σ=true→∀i j,CC σ i=some j↔IC σ j=some i
 | [],_,i,j=>by simp[CC,IC]
 |(a,b)::r,h,i,j=>by
  simp only[Hm,Ai]at h;obtain⟨h1,h2⟩:=h;have ih:=Ym h2;have m5:CC r a=none∧IC r b=none:=by
   split at h1
   ·rename_i e1 e2;exact⟨e1,e2⟩
   ·cases h1
  unfold CC IC
  by_cases e1:a=i<;>by_cases e2:b=j
  ·subst e1;subst e2;simp
  ·subst e1;simp only[Dh,KF,CX e2,EM];constructor
   ·intro h;cases h;exact absurd rfl e2
   ·intro h;rw[(ih a j).2 h]at m5;cases m5.1
  ·subst e2;simp only[Dh,KF,CX e1,EM];constructor
   ·intro h;rw[(ih i b).1 h]at m5;cases m5.2
   ·intro h;cases h;exact absurd rfl e1
  ·simp only[CX e1,CX e2,EM];exact ih i j
theorem lU:∀{σ:JO},EK σ=true→Hm σ=true
 | [],_=>rfl
 |(a,b)::r,h=>by
  simp only[EK,Ai]at h;simp only[Hm,Ai];exact⟨h.1.1.1,lU h.2⟩
theorem YC(h:EK σ=true):∀i j,CC σ i=some j↔IC σ j=some i:=Ym (lU h)
theorem Xj:∀{σ:JO},EK σ=true→∀{i j},CC σ i=some j→1000≤j∧j<2000
 | [],_,i,j,h=>by simp[CC]at h
 |(a,b)::r,h,i,j,hf=>by
  simp only[EK,Ai,Do,Cm]at h;unfold CC at hf
  by_cases e1:a=i
  ·subst e1;simp only[Dh,KF]at hf;cases hf;exact⟨h.1.1.2,h.1.2⟩
  ·simp only[CX e1,EM]at hf;exact Xj h.2 hf
theorem QC(f:Nat→Option Nat)(h:Nat→HO):∀(σ:JO) (j:Nat),Ak (YB f h σ) Af j=match IC σ j with | some i=>(h i).ren f h | none=>.free
 | [],j=>rfl
 |(a,b)::r,j=>by
  unfold YB Ak IC
  by_cases e:b=j
  ·subst e;simp
  ·simp only[CX e,CX (VL e),EM];exact QC f h r j
structure Lk(f:Nat→Option Nat)(h h2:Nat→HO)(g g2:Gh)(w:World):Prop where
 ids:∀r r',f r=some r'→AT h r→g2.tk r'=g.tk r∧g2.ln r'=g.ln r∧g2.ρ r'=g.ρ r∧g2.own r'=g.own r∧AT h2 r'
 S:∀b o,g2.S b o↔g.S b o
 objs:∀r,Ez g w (AT h) r (h r)
section
variable {f:Nat→Option Nat}{h h2:Nat→HO}{g g2:Gh}{w:World}
theorem Lk.keeps(hR:Lk f h h2 g g2 w):E3 g w g2 w:=fun b o hs=>⟨(hR.S b o).2 hs,rfl,fun _ _ e=>e⟩
theorem Lk.noU(hR:Lk f h h2 g g2 w){av:AV}(r:BP g w FQ av x):BP g2 w (AT h2) av x:=r.mono hR.keeps (fun _ h=>h.elim) (fun _ h=>h.elim)
theorem BP.ren0(hR:Lk f h h2 g g2 w){av:AV}{x:Value}(r:BP g w (AT h) av x):BP g2 w (AT h2) (ren0 f h av) x:=by
 have down:BP g2 w (AT h2) (Eng.str0 h av) x:=hR.noU (BP.str0 hR.objs r);cases av with
 |v y=>exact down
 |slice tk es =>
  cases tk with
  |none=>exact down
  |full sz=>exact down
  |id i sz =>
   simp only[Eng.ren0];split
   ·rename_i i' e;cases r with
    |tok _ _ _ _ _ hs hl hu ht hn hx =>
     obtain⟨k1,k2,k3,k4,k5⟩:=hR.ids i i' e hu;exact .tok _ i' sz es x (hR.noU (BP.slice_none hs)) hl k5 (k1.trans ht) ch (fun q=>by rw[k3];exact hx ch)
   ·exact hR.noU r.slice_none
  |ver i sz v =>
   simp only[Eng.ren0];split
   ·rename_i i' e;cases r with
    |ver _ _ _ _ _ _ hs hl hu ht hn hx =>
     obtain⟨k1,k2,k3,k4,k5⟩:=hR.ids i i' e hu;exact .ver _ i' sz v es x (hR.noU (BP.slice_none hs)) hl k5 (k1.trans ht) ch (fun q=>by rw[k3];exact hx ch)
   ·exact hR.noU r.slice_none
 |msl i n =>
  simp only[Eng.ren0];split
  ·rename_i i' e;cases r with
   |msl _ _ _ a cap hu ht hn ha hx =>
    obtain⟨k1,k2,k3,k4,k5⟩:=hR.ids i i' e hu;exact .msl _ i' n a cap k5 (k1.trans ht) ch ha (fun q=>by rw[k3];exact hx ch)
  ·exact .junk _ _
 |agg cs=>exact down
 |tup cs=>exact down
 |cptr cs=>exact down
 |ref i off =>
  simp only[Eng.ren0];split
  ·rename_i i' e;cases r with
   |ref _ _ _ b hu ht hx =>
    obtain⟨k1,k2,k3,k4,k5⟩:=hR.ids i i' e hu;exact .ref _ i' off b k5 (k1.trans ht) (k3.trans hx)
  ·exact down
 |eref i n sz k off =>
  simp only[Eng.ren0];split
  ·rename_i i' e;cases r with
   |eref _ _ _ _ _ _ b cap hu ht hn hx =>
    obtain⟨k1,k2,k3,k4,k5⟩:=hR.ids i i' e hu;exact .eref _ i' n sz k off b cap k5 (k1.trans ht) ⟨hn.1,by omega⟩ (fun q=>by rw[k3];exact hx ch)
  ·exact .junk _ _
 |mref i =>
  simp only[Eng.ren0];split
  ·rename_i i' e;cases r with
   |mref _ _ b hu ht hx =>
    obtain⟨k1,k2,k3,k4,k5⟩:=hR.ids i i' e hu;exact .mref _ i' b k5 (k1.trans ht) (k3.trans hx)
  ·exact down
 |cmap sh B8=>exact down
 |clo i cs=>exact down
 |junk=>exact down
theorem BP.ren1(hR:Lk f h h2 g g2 w){av:AV}{x:Value}(r:BP g w (AT h) av x):BP g2 w (AT h2) (ren1 f h av) x:=by
 cases av with
 |agg cs =>
  cases r with
  |agg _ _ vs hs h1 hr =>
   exact .agg _ _ vs (by simp[hs]) h1 fun i av x q1 q2=>by
    rw[AL]at q1;obtain⟨a,q3,rfl⟩:=AW.1 q1;exact(hr i a x q3 q2).ren0 hR
 |clo i cs =>
  cases r with
  |clo _ _ _ vs hs hr =>
   exact .clo _ _ _ vs (by simp[hs]) fun i av x q1 q2=>by
    rw[AL]at q1;obtain⟨a,q3,rfl⟩:=AW.1 q1;exact(hr i a x q3 q2).ren0 hR
 |_=>exact r.ren0 hR
theorem BP.ren(hR:Lk f h h2 g g2 w){av:AV}{x:Value}(r:BP g w (AT h) av x):BP g2 w (AT h2) (ren f h av) x:=by
 cases av with
 |tup cs =>
  cases r with
  |tup _ _ vs hs hr =>
   exact .tup _ _ vs (by simp[hs]) fun i av x q1 q2=>by
    rw[AL]at q1;obtain⟨a,q3,rfl⟩:=AW.1 q1;exact(hr i a x q3 q2).ren1 hR
 |_=>exact r.ren1 hR
theorem Nj(f:Nat→Option Nat)(h:Nat→HO)(o:HO):(o.ren f h).live↔o.live:=by cases o<;>exact Sg
theorem Nk(f:Nat→Option Nat)(h:Nat→HO)(o:HO):o.ren f h≠.free↔o≠.free:=by cases o<;>simp[HO.ren]
theorem Ez.ren(hR:Lk f h h2 g g2 w){i j:Nat}(QV:f i=some j)(hu:AT h i){o:HO}(r:Ez g w (AT h) i o):Ez g2 w (AT h2) j (o.ren f h):=by
 obtain⟨k1,k2,k3,k4,k5⟩:=hR.ids i j QV hu;have noL:∀{cs:List AV} {vs:List Value},CU g w FQ cs vs→CU g2 w FQ cs vs:=fun hr=>hr.mono hR.keeps (fun _ h=>h) (fun _ h=>h.elim);have yt:∀{av:AV} {x:Value},BP g w FQ av x→BP g2 w FQ av x:=fun hr=>hr.mono hR.keeps (fun _ h=>h) (fun _ h=>h.elim);cases o with
 |free=>trivial
 |dead=>trivial
 |cells cs =>
  obtain⟨t,b,E,vs,a1,a2,a3,a4,a5⟩:=r;refine⟨k1.trans t,b,E,vs,k4.trans a1,k3.trans a2,a3,⟨by simp[a4.1],a4.2.1,fun i av x q1 q2=>?_⟩,fun o ho=>a5 o ((hR.S b o).1 ho)⟩;rw[AL]at q1;obtain⟨a,q3,rfl⟩:=AW.1 q1;exact(a4.2.2 i a x q3 q2).ren1 hR
 |ro cs =>
  obtain⟨t,b,a1,a2⟩:=r;exact⟨k1.trans t,b,k3.trans a1,yt a2⟩
 |tok sz n =>
  obtain⟨t,l,a,cap,a1,a2⟩:=r;refine⟨k1.trans t,k2.trans l,a,cap,k3.trans a1,?_⟩;rcases a2 with ⟨b1,b2⟩ | ⟨b1,b,E,vs,off,b2,b3,b4,b5,b6⟩
  ·exact .inl ⟨b1,k4.trans b2⟩
  ·exact .inr ⟨b1,b,E,vs,off,b2,k4.trans b3,b4,b5,fun o ho=>b6 o ((hR.S b o).1 ho)⟩
 |var sz v n =>
  obtain⟨t,l,a,cap,a1,a2⟩:=r;refine⟨k1.trans t,k2.trans l,a,cap,k3.trans a1,?_⟩;rcases a2 with ⟨b1,b2⟩ | ⟨b1,b,E,vs,off,b2,b3,b4,b5,b6⟩
  ·exact .inl ⟨b1,k4.trans b2⟩
  ·exact .inr ⟨b1,b,E,vs,off,b2,k4.trans b3,b4,b5,fun o ho=>b6 o ((hR.S b o).1 ho)⟩
 |vox v=>exact⟨k1.trans r.1,k2.trans r.2⟩
 |hol sz es i c av =>
  obtain⟨t,l,al,b,cap,E,vs,b1,b2,b3,b4,b5,b6,b7,b8,x,b9,YO⟩:=r;exact⟨k1.trans t,k2.trans l,al,b,cap,E,vs,k3.trans b1,k4.trans b2,b3,b4,b5,noL b6,fun o ho=>b7 o ((hR.S b o).1 ho),b8,x,b9,YO.ren1 hR⟩
 |raw b ob =>
  obtain⟨t,a1,a2,a3,a4⟩:=r;exact⟨k1.trans t,k4.trans a1,a2,a3,fun o ho=>a4 o ((hR.S b o).1 ho)⟩
 |arr sz es =>
  obtain⟨t,l,al,a2⟩:=r;refine⟨k1.trans t,k2.trans l,al,?_⟩;rcases a2 with ⟨b1,b2,b3⟩ | ⟨b,cap,E,vs,b1,b2,b3,b4,b5,b6,b7⟩
  ·exact .inl ⟨b1,k3.trans b2,k4.trans b3⟩
  ·exact .inr ⟨b,cap,E,vs,k3.trans b1,k4.trans b2,b3,b4,b5,noL b6,fun o ho=>b7 o ((hR.S b o).1 ho)⟩
 |map sh B8 =>
  obtain⟨t,b,es,ck,a1,a2,a3,a4,a5,a6⟩:=r;exact⟨k1.trans t,b,es,ck,k4.trans a1,k3.trans a2,a3,a4,fun i kv e q1 q2=>yt (a5 i kv e q1 q2),fun o ho=>a6 o ((hR.S b o).1 ho)⟩
 |mapU sh B8 =>
  obtain⟨t,b,es,ck,a1,a2,a3,a4,a5,a6⟩:=r;refine⟨k1.trans t,b,es,ck,k4.trans a1,k3.trans a2,a3,W6 _ a4,fun i kv e q1 q2=>?_,fun o ho=>a6 o ((hR.S b o).1 ho)⟩;rw[AL]at q1;obtain⟨p,q3,rfl⟩:=AW.1 q1;exact(a5 i p e q3 q2).ren1 hR
 |rom sh B8 =>
  obtain⟨t,b,a1,a2⟩:=r;exact⟨k1.trans t,b,k3.trans a1,yt a2⟩
 |iter all rem F6 =>
  obtain⟨t,b,mb,KQ,seen,st,es,ck,a1,a2,a3,a4,a5,a6,a7,a8,a9,YW,du,a12,qW⟩:=r;exact⟨k1.trans t,b,mb,KQ,seen,st,es,ck,k4.trans a1,k3.trans a2,a3,(hR.S _ _).2 a4,a5,a6,a7,a8,fun i kv e q1 q2=>yt (a9 i kv e q1 q2),YW,du,a12,fun o ho=>qW o ((hR.S b o).1 ho)⟩
end
theorem Qs{h:Nat→HO}{d:Nat}:∀{n:Nat},DR h d n=true→∀k,k<n→h (BA d k)=.free
 |0,_,k,hk=>by omega
 |n+1,hf,k,hk=>by
  simp only[DR,Ai]at hf
  by_cases e:k=n
  ·subst e
   have:=hf.1
   split at this
   ·rename_i e2;exact e2
   ·cases this
  ·exact Qs hf.2 k ch
theorem Om{d nn:Nat}:∀{σ:JO},DD σ d nn=true→∀{i j},CC σ i=some j→¬(BA d 0≤i∧i<BA d nn)
 | [],_,i,j,h=>by simp[CC]at h
 |(a,b)::r,hs,i,j,hf=>by
  simp only[DD,Ai]at hs;unfold CC at hf
  by_cases e1:a=i
  ·subst e1;have h1:=hs.1;simp only[Dd,Bool.and_eq_false_iff]at h1;intro hc;rcases h1 with h1 | h1
   ·rw[Nat.ble_eq_true_of_le hc.1]at h1;cases h1
   ·have h2:Nat.blt a (BA d nn)=true:=by rw[Cm];exact hc.2
    rw[h2]at h1;cases h1
  ·simp only[CX e1,EM]at hf;exact Om hs.2 hf
section
variable {P:Program}{w0:World}{g0:Gh}{h0 h:Nat→HO}{g:Gh}{w:World}
def DK(σ:JO)(g:Gh):Gh :=
 ⟨fun j=>match IC σ j with | some i=>g.ρ i | none=>.nilIface,fun j=>match IC σ j with | some i=>g.ln i | none=>0,fun j=>match IC σ j with | some i=>g.tk i | none=>false,
  fun j=>match IC σ j with | some i=>g.own i | none=>none,g.S⟩
def src(σ:JO)(d nn:Nat)(i:Nat):Option Nat :=
 match CC σ i with
 |some j=>some j
 |none=>match Nat.ble (BA d 0) i&&Nat.blt i (BA d nn)with |true=>some (2000+(i-BA d 0)) |false=>none
def Hl(σ:JO)(d nn:Nat)(g g' : Gh):Gh :=
 ⟨fun i=>match src σ d nn i with | some j=>g'.ρ j | none=>g.ρ i,fun i=>match src σ d nn i with | some j=>g'.ln j | none=>g.ln i,fun i=>match src σ d nn i with | some j=>g'.tk j | none=>g.tk i,
  fun i=>match src σ d nn i with | some j=>g'.own j | none=>g.own i,g'.S⟩
theorem fJ(σ:JO)(d nn:Nat)(h h' : Nat→HO)(i:Nat):Eu σ d nn h h' i=match src σ d nn i with | some j=>(h' j).ren (FC σ d nn) h' | none=>h i:=by
 unfold Eu src;cases CC σ i with
 |some j=>rfl
 |none =>
  dsimp only;cases Nat.ble (BA d 0) i&&Nat.blt i (BA d nn)<;>rfl
theorem mB{d nn:Nat}(hσ:EK σ=true)(ha:DD σ d nn=true)(i j:Nat):src σ d nn i=some j↔FC σ d nn j=some i:=by
 have inv:=YC hσ;unfold src FC;cases h1:CC σ i with
 |some j' =>
  have hb:=(inv i j').1 h1;dsimp only;constructor
  ·intro h;cases h;rw[hb]
  ·intro h;cases h2:IC σ j with
   |some i'=>rw[h2]at h;cases h;rw[(inv i j).2 h2]at h1;exact h1.symm
   |none =>
    rw[h2]at h;dsimp only at h;split at h
    ·rename_i hc;have h:=Cr h;subst h;simp only[Ai,Do,Cm]at hc;exact absurd ⟨by unfold BA;omega,by unfold BA;omega⟩ (Om ha h1)
    ·cases h
 |none =>
  dsimp only;cases h2:IC σ j with
  |some i' =>
   dsimp only;have hf:=(inv i' j).2 h2;have hr:=Xj hσ hf;constructor
   ·intro h;split at h
    ·cases h;omega
    ·cases h
   ·intro h;cases h;rw[hf]at h1;cases h1
  |none =>
   dsimp only;constructor
   ·intro h;split at h
    ·rename_i hc;cases h;simp only[Ai,Do,Cm]at hc;have e1:(Nat.ble 2000 (2000+(i-BA d 0))&&Nat.blt (2000+(i-BA d 0)) (2000+nn))=true:=by
      simp only[Ai,Do,Cm];unfold BA at hc⊢;omega
     rw[e1]
     have:BA d (2000+(i-BA d 0)-2000)=i:=by unfold BA at hc⊢;omega
     rw[this]
    ·cases h
   ·intro h;split at h
    ·rename_i hc;have h:=Cr h;subst h;simp only[Ai,Do,Cm]at hc;have e1:(Nat.ble (BA d 0) (BA d (j-2000))&&Nat.blt (BA d (j-2000)) (BA d nn))=true:=by
      simp only[Ai,Do,Cm];unfold BA;omega
     rw[e1]
     have:2000+(BA d (j-2000)-BA d 0)=j:=by unfold BA;omega
     rw[this]
    ·cases h
theorem Yb(hI:DV w0 g0 h0 h g w)(hσ:EK σ=true):Lk (CC σ) h (F4 σ h) g (DK σ g) w∧DV w (DK σ g) (F4 σ h) (F4 σ h) (DK σ g) w:=by
 have inv:=YC hσ;have FN:∀j,F4 σ h j=match IC σ j with | some i=>(h i).ren (CC σ) h | none=>.free:=QC _ _ σ
 have hR:Lk (CC σ) h (F4 σ h) g (DK σ g) w:=by
  refine⟨fun r r' hr hu=>?_,fun b o=>Sg,hI.objs⟩;have hb:=(inv r r').1 hr;refine⟨by simp[DK,hb],by simp[DK,hb],by simp[DK,hb],by simp[DK,hb],?_⟩;unfold AT;rw[FN,hb];exact(Nk _ _ _).2 hu
 have M4:∀j,(F4 σ h j).live→∃i,IC σ j=some i∧(h i).live:=fun j hl=>by
  rw[FN]at hl;cases e:IC σ j with
  |none=>rw[e]at hl;exact hl.elim
  |some i=>rw[e]at hl;exact⟨i,rfl,(Nj _ _ _).1 hl⟩
 have Yh:∀j i,IC σ j=some i→(DK σ g).own j=g.own i:=fun j i e=>by simp[DK,e]
 refine⟨hR,rfl,rfl,rfl,Ao _,fun _ _ _=>rfl,hI.slt,fun j=>?_,fun j j' b hl Rs e e'=>?_,fun j b hl e=>?_,fun _ _ h=>.inl h,hI.glob⟩
 ·rw[FN];cases e:IC σ j with
  |none=>trivial
  |some i =>
   by_cases hu:AT h i
   ·exact(hI.objs i).ren hR ((inv i j).2 e) hu
   ·have:h i=.free:=BB.1 hu
    dsimp only;rw[this];trivial
 ·obtain⟨i,e1,l1⟩:=M4 j hl;obtain⟨i',e2,l2⟩:=M4 j' Rs;rw[Yh j i e1]at e;rw[Yh j' i' e2]at e';obtain rfl:=hI.inj i i' b l1 l2 e e'
  have:=(inv i j).2 e1
  rw[(inv i j').2 e2]at this;cases this;rfl
 ·obtain⟨i,e1,l1⟩:=M4 j hl;have e0:=e;rw[Yh j i e1]at e;exact⟨(hI.loc i b l1 e).1,.inr ⟨j,hl,e0⟩⟩
theorem Ny{C:(Ending→World→Prop)→Prop}(hm:∀{R R' : Ending→World→Prop},C R→(∀e w,R e w→R' e w)→C R')(hI:DV w0 g0 h0 h g w){d nn:Nat}(Gs:(EK σ&&DR h d nn&&DD σ d nn)=true){Q:AV→(Nat→HO)→Prop}(hc:DV w (DK σ g) (F4 σ h) (F4 σ h) (DK σ g) w→C (fun e w'=>∃v r h' g',e=Ending.returned v∧Q r h'∧BP g' w' (AT h') r v∧DV w (DK σ g) (F4 σ h) h' g' w'∧Le (F4 σ h) (DK σ g) w h' g' w')){R:Ending→World→Prop}(dK:∀v r h' g2 w',Q r h'→DV w0 g0 h0 (Eu σ d nn h h') g2 w'→Le h g w (Eu σ d nn h h') g2 w'→BP g2 w' (AT (Eu σ d nn h h')) (ren (FC σ d nn) h' r) v→R (.returned v) w'):C R:=by
 simp only[Ai]at Gs;obtain⟨⟨hσ,hnf⟩,vr⟩:=Gs;obtain⟨hF,ol⟩:=Yb hI hσ;have inv:=YC hσ;have oG:=mB hσ vr;refine hm (hc ol) ?_
 rintro e w' ⟨v,r,h',g',rfl,q1,q2,q3,q4⟩
 have hb:=fJ σ d nn h h';have kH:∀i j,src σ d nn i=some j→(Hl σ d nn g g').ρ i=g'.ρ j∧(Hl σ d nn g g').ln i=g'.ln j∧(Hl σ d nn g g').tk i=g'.tk j∧(Hl σ d nn g g').own i=g'.own j:=fun i j e=>by simp[Hl,e]
 have hg3:∀i,src σ d nn i=none→(Hl σ d nn g g').ρ i=g.ρ i∧(Hl σ d nn g g').ln i=g.ln i∧(Hl σ d nn g g').tk i=g.tk i∧(Hl σ d nn g g').own i=g.own i:=fun i e=>by simp[Hl,e]
 have hB:Lk (FC σ d nn) h' (Eu σ d nn h h') g' (Hl σ d nn g g') w':=by
  refine⟨fun j i hj hu=>?_,fun b o=>Sg,q3.objs⟩;have e:=(oG i j).2 hj;obtain⟨k1,k2,k3,k4⟩:=kH i j e;refine⟨k3,k2,k1,k4,?_⟩;unfold AT;rw[hb,e];exact(Nk _ _ _).2 hu
 have ql:∀j,F4 σ h j=match IC σ j with | some i=>(h i).ren (CC σ) h | none=>.free:=QC _ _ σ
 have Aan:∀j i,CC σ i=some j→(h i).live→(F4 σ h j).live:=fun j i e hl=>by
  rw[ql,(inv i j).1 e];exact(Nj _ _ _).2 hl
 have Ad8:∀j i,CC σ i=some j→(DK σ g).own j=g.own i:=fun j i e=>by simp[DK,(inv i j).1 e]
 have Tr : ∀j,(F4 σ h j).live→∃i,CC σ i=some j∧(h i).live∧(DK σ g).own j=g.own i:=fun j hl=>by
  rw[ql]at hl;cases e:IC σ j with
  |none=>rw[e]at hl;exact hl.elim
  |some i=>rw[e]at hl;exact⟨i,(inv i j).2 e,(Nj _ _ _).1 hl,by simp[DK,e]⟩
 -- what the callee may not touch
 have i9:∀b,b<w.heap.size→(∀i,(h i).live→CC σ i≠none→g.own i≠some b)→w'.heap[b]?=w.heap[b]?:=fun b DJ hn=>q3.frame b DJ fun j hl e=>by
  obtain⟨i,e1,l1,o1⟩:=Tr j hl;exact hn i l1 (by rw[e1];simp) (by rw[←o1];exact e)
 have hSs:∀b o,g'.S b o→b<w.heap.size→(∀i,(h i).live→CC σ i≠none→g.own i≠some b)→g.S b o:=fun b o hs DJ hn=>by
  rcases q3.sg b o hs with h1 | h1 | ⟨j,h1,h2⟩
  ·exact h1
  ·omega
  ·obtain⟨i,e1,l1,o1⟩:=Tr j h1;exact absurd (by rw[←o1];exact h2) (hn i l1 (by rw[e1];simp))
 have hk:E3 g w (Hl σ d nn g g') w':=q4.keeps;have Af:∀i,CC σ i=none→src σ d nn i≠none→h i=.free:=fun i e1 e2=>by
  unfold src at e2;rw[e1]at e2;dsimp only at e2;split at e2
  ·rename_i hc;simp only[Ai,Do,Cm]at hc
   have:=Qs hnf (i-BA d 0) (by unfold BA at hc⊢;omega)
   rw[show BA d (i-BA d 0)=i by unfold BA at hc⊢;omega]at this;exact this
  ·exact absurd rfl e2
 have gH:∀i j,CC σ i=some j→src σ d nn i=some j:=fun i j e=>by unfold src;rw[e]
 have hgl:KT g (Hl σ d nn g g') (AT h):=fun i hu=>by
  cases e:CC σ i with
  |some j =>
   obtain⟨k1,k2,k3,k4⟩:=kH i j (gH i j e);obtain⟨f1,f2,f3,f4,f5⟩:=hF.ids i j e hu;obtain⟨m1,m2,m3,m4⟩:=q4.gh j f5;exact⟨(k3.trans m1).trans f1,by omega,fun t=>(k1.trans (m3 (f1.trans t))).trans f3,fun l=>(k1.trans (m4 ch)).trans f3⟩
  |none =>
   have e2:src σ d nn i=none:=BB.1 fun e2=>hu (Af i e e2);obtain⟨k1,k2,k3,k4⟩:=hg3 i e2;exact⟨k3,by omega,fun _=>k1,fun _=>k1⟩
 have Lb:∀i,AT h i→AT (Eu σ d nn h h') i:=fun i hu=>by
  unfold AT;rw[hb];cases e:CC σ i with
  |some j =>
   rw[gH i j e];exact(Nk _ _ _).2 (q4.us j (hF.ids i j e hu).2.2.2.2)
  |none =>
   have e2:src σ d nn i=none:=BB.1 fun e2=>hu (Af i e e2);rw[e2];exact hu
 have gA:∀i,(Eu σ d nn h h' i).live→(∃j,src σ d nn i=some j∧(h' j).live∧(Hl σ d nn g g').own i=g'.own j)∨(src σ d nn i=none∧(h i).live∧(Hl σ d nn g g').own i=g.own i∧CC σ i=none):=fun i hl=>by
  rw[hb]at hl;cases e:src σ d nn i with
  |some j=>rw[e]at hl;exact .inl ⟨j,rfl,(Nj _ _ _).1 hl,(kH i j e).2.2.2⟩
  |none =>
   rw[e]at hl;refine .inr ⟨rfl,hl,(hg3 i e).2.2.2,?_⟩;cases e2:CC σ i with
   |none=>rfl
   |some j=>rw[gH i j e2]at e;cases e
 have vB:∀j b,(h' j).live→g'.own j=some b→b<w'.heap.size∧(w.heap.size≤b∨∃i,CC σ i≠none∧(h i).live∧g.own i=some b):=fun j b hl e=>by
  obtain⟨h1,h2⟩:=q3.loc j b hl e;refine⟨h1,h2.imp id ?_⟩
  rintro⟨j',l',e'⟩
  obtain⟨i,e1,l1,o1⟩:=Tr j' l';exact⟨i,by rw[e1];simp,l1,by rw[←o1];exact e'⟩
 have oJ:∀i b,(h i).live→g.own i=some b→CC σ i=none→∀i',(h i').live→CC σ i'≠none→g.own i'≠some b:=fun i b hl e hn i' Rs ZP e'=>by
  obtain rfl:=hI.inj i i' b hl Rs e e';exact ZP hn
 refine dK v r h' (Hl σ d nn g g') w' q1 ⟨q3.os.trans hI.os,q3.tape.trans hI.tape,q3.output.trans hI.output,Bf hI.size q3.size,fun b DJ hn=>?_,q3.slt,fun i=>?_,fun i i' b hl Rs e e'=>?_,fun i b hl e=>?_,fun b o hs=>?_,hI.glob.keep hk⟩ ⟨hgl,Lb,hk⟩ (q2.ren hB)
 ·refine(i9 b (BD DJ hI.size) fun i hl _ e=>?_).trans (hI.frame b DJ hn);rcases(hI.loc i b hl e).2 with h1 | ⟨r',h1,h2⟩
  ·omega
  ·exact hn r' h1 h2
 ·rw[hb];cases e:src σ d nn i with
  |some j =>
   by_cases hu:AT h' j
   ·exact(q3.objs j).ren hB ((oG i j).1 e) hu
   ·have:h' j=.free:=BB.1 hu
    dsimp only;rw[this];trivial
  |none =>
   obtain⟨k1,k2,k3,k4⟩:=hg3 i e;have e2:CC σ i=none:=by
    cases e2:CC σ i with
    |none=>rfl
    |some j=>rw[gH i j e2]at e;cases e
   refine(hI.objs i).same hk Lb hgl k1 k2 k3 k4 fun b hl ho=>?_;have DJ:=(hI.loc i b hl ho).1;exact⟨i9 b DJ (oJ i b hl ho e2),fun k hs=>hSs b k hs DJ (oJ i b hl ho e2)⟩
 ·have mixed:∀i j i',(h' j).live→g'.own j=some b→(h i').live→g.own i'=some b→CC σ i'=none→i=i':=fun i j i' l1 o1 l2 o2 n2=>by
   rcases(vB j b l1 o1).2 with h1 | ⟨i3,n3,l3,o3⟩
   ·have:=(hI.loc i' b l2 o2).1;omega
   ·exact absurd o3 (oJ i' b l2 o2 n2 i3 l3 n3)
  rcases gA i hl with ⟨j,s1,l1,o1⟩ | ⟨s1,l1,o1,n1⟩<;>rcases gA i' Rs with ⟨j',s2,l2,o2⟩ | ⟨s2,l2,o2,n2⟩
  ·obtain rfl:=q3.inj j j' b l1 l2 (by rw[←o1];exact e) (by rw[←o2];exact e');have a1:=(oG i j).1 s1;rw[(oG i' j).1 s2]at a1;cases a1;rfl
  ·exact mixed i j i' l1 (by rw[←o1];exact e) l2 (by rw[←o2];exact e') n2
  ·exact(mixed i' j' i l2 (by rw[←o2];exact e') l1 (by rw[←o1];exact e) n1).symm
  ·exact hI.inj i i' b l1 l2 (by rw[←o1];exact e) (by rw[←o2];exact e')
 ·rcases gA i hl with ⟨j,s1,l1,o1⟩ | ⟨s1,l1,o1,n1⟩
  ·obtain⟨h1,h2⟩:=vB j b l1 (by rw[←o1];exact e);refine⟨h1,?_⟩;rcases h2 with h2 | ⟨i3,n3,l3,o3⟩
   ·exact .inl (Bf hI.size h2)
   ·exact(hI.loc i3 b l3 o3).2
  ·obtain⟨h1,h2⟩:=hI.loc i b l1 (by rw[←o1];exact e);exact⟨BD h1 q3.size,h2⟩
 ·rcases q3.sg b o hs with h1 | h1 | ⟨j,h1,h2⟩
  ·exact hI.sg b o h1
  ·exact .inr (.inl (Bf hI.size h1))
  ·obtain⟨i,e1,l1,o1⟩:=Tr j h1;exact .inr (hI.loc i b l1 (by rw[←o1];exact h2)).2
theorem jD(hI:DV w0 g0 h0 h g w){d nn:Nat}(Gs:(EK σ&&DR h d nn&&DD σ d nn)=true){f:Nat}{args:List AV}{Q:AV→(Nat→HO)→Prop}(hc:A1 P f args (F4 σ h) Q)(hs:vals.size=args.length)(hv:∀(i:Nat) (av:AV) (x:Value),args[i]?=some av→vals[i]?=some x→BP (DK σ g) w (AT (F4 σ h)) av x){R:Ending→World→Prop}(dK:∀v r h' g2 w',Q r h'→DV w0 g0 h0 (Eu σ d nn h h') g2 w'→Le h g w (Eu σ d nn h h') g2 w'→BP g2 w' (AT (Eu σ d nn h h')) (ren (FC σ d nn) h' r) v→R (.returned v) w'):Calls P f vals w R :=
 Ny (C:=Calls P f vals w) (fun h k=>h.mono k) hI Gs (hc.2 (DK σ g) w vals hs hv) dK
end
structure SR(N:Nat)(ds:List Deferred)(w0:World)(g0:Gh)(h0:Nat→HO)(st:St)(g:Gh)(a:Act)(w:World):Prop where
 inv:DV w0 g0 h0 st.h g w
 le:Le h0 g0 w0 st.h g w
 dfs:a.defers=ds
 size:a.tmps.size=N
 slots:∀i,BP g w (AT st.h) (st.t i) (a.tmps.getD i undef)
section
variable {P:Program}{N:Nat}{ds:List Deferred}{w0:World}{g0:Gh}{h0:Nat→HO}{st:St}{g:Gh}{a:Act}{w:World}
theorem SR.eval(hS:SR N ds w0 g0 h0 st g a w)(x:Operand):BP g w (AT st.h) (ev st.t x) (a.eval x):=by
 cases x with
 |tmp i=>exact hS.slots i
 |const v=>exact .v _ _
 |global b=>exact .v _ _
 |func f=>exact .v _ _
theorem SR.put(hS:SR N ds w0 g0 h0 st g a w){d:Option Nat}(hd:∀i,d=some i→i<N){v:AV}{x:Value}{h' : Nat→HO}{g' : Gh}{w' : World}(hI:DV w0 g0 h0 h' g' w')(HD:Le st.h g w h' g' w')(hr:BP g' w' (AT h') v x) :
  SR N ds w0 g0 h0 (st.put d v h') g' (a.put d x) w':=by
 have old:∀i,BP g' w' (AT h') (st.t i) (a.tmps.getD i undef):=fun i=>(hS.slots i).le HD;cases d with
 |none=>exact⟨hI,hS.le.trans HD,hS.dfs,hS.size,old⟩
 |some d =>
  have hdN:=hd d rfl;refine⟨hI,hS.le.trans HD,hS.dfs,by simp[Act.put,hS.size],fun i=>?_⟩;simp only[St.put,Act.put,HI]
  by_cases e:i=d
  ·subst e
   have:i<a.tmps.size:=by rw[hS.size];exact hdN
   simp only[Dh,KF];rw[CD,Array.getElem?_setIfInBounds_self,Al this];exact hr
  ·simp only[CX e,EM];rw[CD,Array.getElem?_setIfInBounds_ne (VL e),←CD];exact old i
def bx(w0:World)(g0:Gh)(h0 h:Nat→HO)(g:Gh)(w:World)(K:HK)(next:Value→World→Prop):Prop :=
 ∀v h' g' w' x,K v h'→DV w0 g0 h0 h' g' w'→Le h g w h' g' w'→BP g' w' (AT h') v x→next x w'
theorem Ee{m:Sem Value}{next:Act→World→Prop}{Q:Exit→Act→World→Prop}(hx:execOp a.eval o=(do pure (Next.value (←m))))(hd:Po P w0 g0 h0 st.h g w m K)(hn:bx w0 g0 h0 st.h g w K fun x w'=>next (a.put o.dst x) w'):o.wp P a w next Q:=by
 obtain⟨x,w',g',av,h',h1,h2,h3,h4,h5⟩:=hd;unfold Oper.wp;rw[hx,Sem.run_bind,h1];exact hn av h' g' w' x h2 h3 h4 h5
theorem YL{m:Sem Unit}{next:Act→World→Prop}{Q:Exit→Act→World→Prop}(hx:execOp a.eval o=(do m;pure Next.skip))(hd:jj P w0 g0 h0 st.h g w m K)(hn:bx w0 g0 h0 st.h g w K fun x w'=>next (a.put o.dst x) w'):o.wp P a w next Q:=by
 obtain⟨w',g',h',h1,h2,h3,h4⟩:=hd;unfold Oper.wp;rw[hx,Sem.run_bind,h1];exact hn _ h' g' w' undef h2 h3 h4 (.v _ _)
theorem fo{next:Act→World→Prop}{Q:Exit→Act→World→Prop}{v:AV}(hI:DV w0 g0 h0 st.h g w)(hx:(execOp a.eval o).run P w=.ok (.value x) w)(hk:K v st.h)(hr:BP g w (AT st.h) v x)(hn:bx w0 g0 h0 st.h g w K fun x w'=>next (a.put o.dst x) w'):o.wp P a w next Q:=by
 unfold Oper.wp;rw[hx];exact hn _ _ _ _ _ hk hI (.refl _ _ _) hr
theorem T1{C:(Ending→World→Prop)→Prop}(hm:∀{R R' : Ending→World→Prop},C R→(∀e w,R e w→R' e w)→C R')(hI:DV w0 g0 h0 st.h g w){Q:AV→(Nat→HO)→Prop}
  (hc:DV w g Af Af g w→C (fun e w'=>∃v r h' g',e=Ending.returned v∧Q r h'∧BP g' w' (AT h') r v∧DV w g Af h' g' w'∧Le Af g w h' g' w')) {R:Ending→World→Prop}
  (hR:∀v r h' g' w',Q r h'→h'=Af→DV w0 g0 h0 st.h g' w'→Le st.h g w st.h g' w'→BP g' w' FQ r v→R (.returned v) w') (hQ:∀r h',Q r h'→h'=Af):C R:=by
 have hU:AT Af=FQ:=by funext i;unfold AT FQ Af;simp
 have ol:DV w g Af Af g w:=⟨rfl,rfl,rfl,Ao _,fun _ _ _=>rfl,hI.slt,fun _=>trivial,fun _ _ _ h=>h.elim,fun _ _ h=>h.elim,fun _ _ h=>.inl h,hI.glob⟩;refine hm (hc ol) ?_
 rintro e w' ⟨v,r,h',g',rfl,q1,q2,q3,q4⟩
 obtain rfl:=hQ r h' q1;rw[hU]at q2
 -- the caller's ghost,with the callee's stable cells
 have hk:E3 g w ⟨g.ρ,g.ln,g.tk,g.own,g'.S⟩ w':=q4.keeps;have hg:KT g ⟨g.ρ,g.ln,g.tk,g.own,g'.S⟩ (AT st.h):=fun _ _=>⟨rfl,Ao _,fun _=>rfl,fun _=>rfl⟩;have i9:∀b,b<w.heap.size→w'.heap[b]?=w.heap[b]?:=fun b hb=>q3.frame b hb (fun _ h=>h.elim);have hSs:∀b o,g'.S b o→b<w.heap.size→g.S b o:=fun b o hs hb=>by
  rcases q3.sg b o hs with h1 | h1 | ⟨_,h1,_⟩
  ·exact h1
  ·omega
  ·exact h1.elim
 refine hR v r Af ⟨g.ρ,g.ln,g.tk,g.own,g'.S⟩ w' q1 rfl ⟨q3.os.trans hI.os,q3.tape.trans hI.tape,q3.output.trans hI.output,Bf hI.size q3.size,fun b hb hn=>?_,q3.slt,fun i=>?_,hI.inj,fun i b hl ho=>?_,fun b o hs=>?_,hI.glob.keep hk⟩ ⟨hg,fun _ h=>h,hk⟩ ?_
 ·exact(i9 b (BD hb hI.size)).trans (hI.frame b hb hn)
 ·refine(hI.objs i).same hk (fun _ h=>h) hg rfl rfl rfl rfl (fun b hl ho=>?_);have DJ:=(hI.loc i b hl ho).1;exact⟨i9 b DJ,fun k hs=>hSs b k hs DJ⟩
 ·obtain⟨h1,h2⟩:=hI.loc i b hl ho;exact⟨BD h1 q3.size,h2⟩
 ·rcases q3.sg b o hs with h1 | h1 | ⟨_,h1,_⟩
  ·exact hI.sg b o h1
  ·exact .inr (.inl (Bf hI.size h1))
  ·exact h1.elim
 ·have:E3 g' w' ⟨g.ρ,g.ln,g.tk,g.own,g'.S⟩ w':=fun b o h=>⟨h,rfl,fun _ _ h=>h⟩
  exact q2.mono this (fun _ h=>h) (fun _ h=>h.elim)
theorem fN(hI:DV w0 g0 h0 st.h g w){f:Nat}{args:List AV}{Q:AV→(Nat→HO)→Prop}(hc:A1 P f args Af Q)(hs:vals.size=args.length)(hv:∀(i:Nat) (av:AV) (x:Value),args[i]?=some av→vals[i]?=some x→BP g w FQ av x){R:Ending→World→Prop}(hR:∀v r h' g' w',Q r h'→h'=Af→DV w0 g0 h0 st.h g' w'→Le st.h g w st.h g' w'→BP g' w' FQ r v→R (.returned v) w')(hQ:∀r h',Q r h'→h'=Af):Calls P f vals w R :=
 have hU:AT Af=FQ:=by funext i;unfold AT FQ Af;simp
 T1 (C:=Calls P f vals w) (fun h k=>h.mono k) hI (hc.2 g w vals hs (fun i av x h1 h2=>by rw[hU];exact hv i av x h1 h2)) hR hQ
theorem YieldAt.imp{F:Fence}{m:Nat}{P:Program}{l:Nat}{W:World}{R R' : Ending→World→Prop}(h:YieldAt F m P l args W R)(hr:∀e w,R e w→R' e w):YieldAt F m P l args W R' :=
 let ⟨fn,t,a,b,h1,h2⟩:=h
 ⟨fn,t,a,b,h1,h2.mono hr⟩
theorem JH.imp{Y:Gh→World→Prop}{l:Nat}{args:List AV}{h0:Nat→HO}{Q Q' : AV→(Nat→HO)→Prop}(h:JH P Y l args h0 Q)(hq:∀r h',Q r h'→Q' r h'):JH P Y l args h0 Q' :=
 fun g w vals q1 q2 q3 q4=>YieldAt.imp (h g w vals q1 q2 q3 q4) fun _ _ ⟨v,r,h',g',e1,e2,rest⟩=>⟨v,r,h',g',e1,hq _ _ e2,rest⟩
theorem GC.imp{Y:Nat→Gh→World→Prop}{F:AV}{args:List AV}{h0:Nat→HO}{Q Q' : AV→(Nat→HO)→Prop}(h:GC P Y F args h0 Q)(hq:∀r h',Q r h'→Q' r h'):GC P Y F args h0 Q':=by
 have one:∀{f:Nat} {l:List AV},A1 P f l h0 Q→A1 P f l h0 Q':=fun hc =>
  ⟨hc.1,fun g w vals q1 q2 q3=>(hc.2 g w vals q1 q2 q3).mono fun _ _ ⟨v,r,h',g',e1,e2,rest⟩=>⟨v,r,h',g',e1,hq _ _ e2,rest⟩⟩
 unfold GC at h⊢;split at h
 ·exact one h
 ·exact one h
 ·exact JH.imp h hq
 ·exact h.elim
abbrev KA(ro:Option Nat):Fence:={ Fence.wide with round:=ro }
theorem NO{ro:Option Nat}{a:Act}{w:World}{next:Act→World→Prop}{Q:Exit→Act→World→Prop}(hd:∀c,o.op≠.defer c)(h:o.wp P a w next Q):o.wpIn (KA ro) 0 P a w next Q:=by
 refine⟨fun _ _=>trivial,?_⟩;have e:o.semAt (KA ro).round a.eval=execOp a.eval o:=Oper.semAt_eq ro a.eval o hd;rw[e];unfold Oper.wp at h;have key:∀res:Result Next,o.upon P a next Q res→o.uponIn (KA ro) 0 P a next Q res:=fun res h=>by
  cases res with
  |ok n w'=>cases n with
   |enter f args=>exact(show(_→_)∧CallsIn (KA ro) 0 P f args w' _ from⟨fun e=>by(cases e),callsIn_wide.2 h⟩)
   |row r args=>exact(show(_→_)∧RowsIn (KA ro) 0 P r args w' _ from⟨fun e=>by(cases e),fun c cs _=>by
     obtain⟨v,fm,r',s⟩:=h c cs;exact⟨v,fm,r',stepsIn_wide.2 s⟩⟩)
   |round _ _ _ _ _=>exact h.elim
   |_=>exact h
  |halt x w'=>cases x<;>exact h
 exact key _ h
theorem Hc{f:Nat}(h:GD P f)(w:World):(callFunc f args).run P w=.ok (.enter f args) w:=by
 obtain⟨fn,h1,h2,h3⟩:=h;simp only[callFunc,Sem.run_bind,run_program,h1,Result.andThen_ok,h2,h3,DA,GZ,Sem.run_pure]
theorem Vh{h:Nat→HO}{a:AV}(ha:d8 a=true):ren (CC []) h a=str h a:=by
 have h0:∀a,ren0 (CC []) h a=str0 h a:=fun a=>by
  cases a with
  |slice tk es=>cases tk<;>rfl
  |_=>rfl
 cases a with
 |tup cs=>cases ha
 |agg cs=>show AV.agg _=AV.agg _;exact Ab _ (Bd fun c _=>h0 c)
 |clo f cs=>show AV.clo f _=AV.clo f _;exact Ab _ (Bd fun c _=>h0 c)
 |v x=>exact h0 (.v x)
 |slice tk es=>exact h0 (.slice tk es)
 |msl r n=>exact h0 (.msl r n)
 |cptr cs=>exact h0 (.cptr cs)
 |ref r o=>exact h0 (.ref r o)
 |eref r n sz i o=>exact h0 (.eref r n sz i o)
 |mref r=>exact h0 (.mref r)
 |cmap sh l=>exact h0 (.cmap sh l)
 |junk=>rfl
theorem RO{h:Nat→HO}:∀{l:List AV},U4 l=true→l.map (ren (CC []) h)=l.map (str h)
 | [],_=>rfl
 |a::l,e=>by
  unfold U4 at e;split at e
  ·rename_i e1;rw[AJ,AJ,Vh e1,RO e]
  ·cases e
theorem Sd:∀{l:List AV} {vs:List Value},XC l=some vs→l=vs.map .v
 | [],vs,h=>by cases h;rfl
 |.v x::r,vs,h=>by
  unfold XC at h;split at h
  ·rename_i l e;cases h;rw[AJ,←Sd e]
  ·cases h
theorem fM{d:Option Nat}{st:St}{F:AV}{args:List AV}(hk:GX cx true d st F args K):GX cx false d st F args K:=by
 unfold GX at hk;simp only at hk;split at hk
 ·exact⟨.pure,hk⟩
 ·split at hk
  ·exact hk.elim
  ·rename_i d _;obtain⟨n,sz,es,h1,h2,h3⟩:=hk;simp only[Ai]at h1;refine⟨.gen [] 1,?_⟩;show(EK []&&DR st.h d 1&&DD [] d 1)=true∧_;refine⟨by simp[EK,DD,h1.1.1],?_⟩;rw[Vh h1.1.2,RO h1.2];show GC cx.P (fun l=>cx.yp l []) _ _ Af _;refine GC.imp h2 ?_
   rintro r h' ⟨e2,e3⟩
   subst e2;subst e3;have e1:ren (FC [] d 1) (Ak [(2000,.arr sz es)] Af) (.msl 2000 n)=.msl (BA d 0) n:=rfl;have e2:Eu [] d 1 st.h (Ak [(2000,.arr sz es)] Af)=A0 st.h (BA d 0) (.arr sz es):=by
    funext i
    by_cases e:i=BA d 0
    ·subst e;rw[Bg];have hb:(Nat.ble (BA d 0) (BA d 0)&&Nat.blt (BA d 0) (BA d 1))=true:=by
      unfold BA;simp only[Ai,Do,Cm];omega
     simp only[Eu,CC,hb,EF];rfl
    ·rw[B7 _ _ _ _ e]
     have:(Nat.ble (BA d 0) i&&Nat.blt i (BA d 1))=false:=by
      unfold BA at e⊢;rw[AI];simp only[W9,Ai,Do,Cm];omega
     simp only[Eu,CC,this]
   rw[e1,e2];exact h3
 ·split at hk
  ·unfold VB at hk;split at hk
   ·exact hk.elim
   ·rename_i d _;obtain⟨sz,es,h1,h2,h3⟩:=hk;simp only[Ai]at h1;refine⟨.gen [] 1,?_⟩;show(EK []&&DR st.h d 1&&DD [] d 1)=true∧_;refine⟨by simp[EK,DD,h1.1.1],?_⟩;rw[Vh h1.1.2,RO h1.2];show GC cx.P (fun l=>cx.yp l []) _ _ Af _;refine GC.imp h2 ?_
    rintro r h' ⟨e2,e3⟩
    subst e2;subst e3;have e1:ren (FC [] d 1) (Ak [(2000,.tok sz es.length)] Af) (.slice (.id 2000 sz) es)=.slice (.id (BA d 0) sz) es:=rfl;have e2:Eu [] d 1 st.h (Ak [(2000,.tok sz es.length)] Af)=A0 st.h (BA d 0) (.tok sz es.length):=by
     funext i
     by_cases e:i=BA d 0
     ·subst e;rw[Bg];have hb:(Nat.ble (BA d 0) (BA d 0)&&Nat.blt (BA d 0) (BA d 1))=true:=by
       unfold BA;simp only[Ai,Do,Cm];omega
      simp only[Eu,CC,hb,EF];rfl
     ·rw[B7 _ _ _ _ e]
      have:(Nat.ble (BA d 0) i&&Nat.blt i (BA d 1))=false:=by
       unfold BA at e⊢;rw[AI];simp only[W9,Ai,Do,Cm];omega
      simp only[Eu,CC,this]
    rw[e1,e2];exact h3
  split at hk
  ·unfold Se at hk;split at hk
   ·rename_i d l vs e2 z1;have hl:=Sd e2;split at hk
    ·rename_i r sz es ff n e3 e4;obtain⟨⟨rfl,rfl⟩,v,F7,n',h1,h2⟩:=hk;refine⟨.gen [(1000,1000),(1001,1001)] 0,?_⟩;show(EK [(1000,1000),(1001,1001)]&&DR st.h d 0&&DD [(1000,1000),(1001,1001)] d 0)=true∧_;refine⟨?_,?_⟩
     ·have:DD [(1000,1000),(1001,1001)] d 0=true:=by
       have q:∀r:Nat,(Nat.ble (BA d 0) r&&Nat.blt r (BA d 0))=false:=fun r=>by
        rw[AI];simp only[W9,Ai,Do,Cm];omega
       simp only[DD,q,Bool.not_false,Bool.and_self]
      rw[this];rfl
     have f1:args.map (ren (CC [(1000,1000),(1001,1001)]) st.h)=vs.map .v:=by rw[hl,BE];rfl
     have f2:F4 [(1000,1000),(1001,1001)] st.h=Ak [(1000,.cells [.slice (.id 1001 ff) es]),(1001,.tok ff n)] Af:=by
      unfold F4 YB YB YB;rw[e3,e4];rfl
     rw[f1,f2];refine JH.imp h1 ?_
     rintro r h' ⟨g1,g2⟩
     subst g1;subst g2;have f3:Eu [(1000,1000),(1001,1001)] d 0 st.h (Ak [(1000,.cells [.slice (.id 1001 ff) F7]),(1001,.tok ff n')] Af)=A0 (A0 st.h 1001 (.tok ff n')) 1000 (.cells [.slice (.id 1001 ff) F7]):=by
      funext i
      by_cases e:i=1000
      ·subst e;rw[Bg];rfl
      ·rw[B7 _ _ _ _ e]
       by_cases e' : i=1001
       ·subst e';rw[Bg];rfl
       ·rw[B7 _ _ _ _ e'];have hn:CC [(1000,1000),(1001,1001)] i=none:=by simp[CC,CX (Ne.symm e),CX (Ne.symm e')]
        have:(Nat.ble (BA d 0) i&&Nat.blt i (BA d 0))=false:=by
         rw[AI];simp only[W9,Ai,Do,Cm];omega
        simp only[Eu,hn,this]
     rw[f3];exact h2
    ·exact hk.elim
   ·exact hk.elim
  unfold QE at hk;split at hk
  ·unfold ZA at hk;split at hk
   ·rename_i d f _;obtain⟨σ,H0,Hn,args',res,g1,g2,g3,g4⟩:=hk;simp only[Ai]at g2;obtain⟨k1,k2⟩:=g1 st.h fun _ _=>rfl;refine⟨.gen σ 0,?_⟩;show(EK σ&&DR st.h d 0&&DD σ d 0)=true∧_;refine⟨by rw[g2.1.1,g2.1.2];rfl,?_⟩;rw[k1,k2];refine GC.imp (show GC cx.P (fun l=>cx.yp l σ) (.v (.func (.func f) ⟨[]⟩ ⟨[]⟩)) args' (Ak H0 Af) (fun r h'=>r=res∧h'=Ak Hn Af)from g3) ?_
    rintro r h' ⟨e1,e2⟩
    rw[e1,e2];exact g4
   ·exact hk.elim
  unfold SV at hk;split at hk
  ·rename_i dd f r n l _;split at hk
   ·rename_i vs je;have hl:=Sd je;subst hl;split at hk
    ·rename_i sz es hr;have hf:CC [(r,1000)] r=some 1000:=by simp[CC]
     have e1:ren (CC [(r,1000)]) st.h (.v (.func (.func f) ⟨[]⟩ ⟨[]⟩))=.v (.func (.func f) ⟨[]⟩ ⟨[]⟩):=rfl;have e2:(AV.msl r n::vs.map AV.v).map (ren (CC [(r,1000)]) st.h)=.msl 1000 n::vs.map .v:=by
      rw[AJ]
      congr 1
      ·simp[ren,ren1,ren0,hf]
      ·rw[BE];rfl
     have e3:F4 [(r,1000)] st.h=Ak [(1000,.arr sz es)] Af:=by
      unfold F4 YB;rw[hr];rfl
     split at hk
     ·obtain⟨n',F7,h1,h2⟩:=hk;refine⟨.gen [(r,1000)] 0,?_⟩;show(EK [(r,1000)]&&DR st.h dd 0&&DD [(r,1000)] dd 0)=true∧_;refine⟨?_,?_⟩
      ·have:DD [(r,1000)] dd 0=true:=by
        unfold DD
        have:(Nat.ble (BA dd 0) r&&Nat.blt r (BA dd 0))=false:=by
         rw[AI];simp only[W9,Ai,Do,Cm];omega
        rw[this];rfl
       rw[this];rfl
      rw[e1,e2,e3];refine⟨h1.1,fun g w vals q1 q2 q3=>(h1.2 g w vals q1 q2 q3).mono fun _ _ ⟨v,r',h',g',e1,⟨e2,e3⟩,rest⟩=>⟨v,r',h',g',e1,?_,rest⟩⟩;subst e2;subst e3;have f1:ren (FC [(r,1000)] dd 0) (Ak [(1000,.arr sz F7)] Af) (.msl 1000 n')=.msl r n':=rfl;have f2:Eu [(r,1000)] dd 0 st.h (Ak [(1000,.arr sz F7)] Af)=A0 st.h r (.arr sz F7):=by
       funext i
       by_cases e:i=r
       ·subst e;rw[Bg];simp[Eu,hf,Ak,HO.ren]
       ·rw[B7 _ _ _ _ e];have hn:CC [(r,1000)] i=none:=by simp[CC,CX (Ne.symm e)]
        have:(Nat.ble (BA dd 0) i&&Nat.blt i (BA dd 0))=false:=by
         rw[AI];simp only[W9,Ai,Do,Cm];omega
        simp only[Eu,hn,this]
      rw[f1,f2];exact h2
     ·obtain⟨n',F7,h0,h1,h2⟩:=hk;simp only[Ai,Cm,Dd]at h0;have hrd:r≠BA dd 0:=fun e=>by have:=h0.2;rw[e]at this;simp at this
      refine⟨.gen [(r,1000)] 1,?_⟩;show(EK [(r,1000)]&&DR st.h dd 1&&DD [(r,1000)] dd 1)=true∧_;refine⟨?_,?_⟩
      ·have:DD [(r,1000)] dd 1=true:=by
        unfold DD
        have:(Nat.ble (BA dd 0) r&&Nat.blt r (BA dd 1))=false:=by
         rw[AI];simp only[W9,Ai,Do,Cm];unfold BA at hrd⊢;omega
        rw[this];rfl
       rw[this,h0.1.1];rfl
      rw[e1,e2,e3];refine⟨h1.1,fun g w vals q1 q2 q3=>(h1.2 g w vals q1 q2 q3).mono fun _ _ ⟨v,r',h',g',e1,⟨e2,e3⟩,rest⟩=>⟨v,r',h',g',e1,?_,rest⟩⟩;subst e2;subst e3;have f1:ren (FC [(r,1000)] dd 1) (Ak [(1000,.dead),(2000,.arr sz F7)] Af) (.msl 2000 n')=.msl (BA dd 0) n':=rfl;have f2:Eu [(r,1000)] dd 1 st.h (Ak [(1000,.dead),(2000,.arr sz F7)] Af)=A0 (A0 st.h r .dead) (BA dd 0) (.arr sz F7):=by
       funext i
       by_cases e:i=BA dd 0
       ·subst e;rw[Bg];have hn:CC [(r,1000)] (BA dd 0)=none:=by simp[CC,CX hrd]
        have hb:(Nat.ble (BA dd 0) (BA dd 0)&&Nat.blt (BA dd 0) (BA dd 1))=true:=by
         unfold BA;simp only[Ai,Do,Cm];omega
        simp only[Eu,hn,hb,EF];rfl
       ·rw[B7 _ _ _ _ e]
        by_cases e4:i=r
        ·subst e4;rw[Bg];simp[Eu,hf,Ak,HO.ren]
        ·rw[B7 _ _ _ _ e4];have hn:CC [(r,1000)] i=none:=by simp[CC,CX (Ne.symm e4)]
         have:(Nat.ble (BA dd 0) i&&Nat.blt i (BA dd 1))=false:=by
          rw[AI];simp only[W9,Ai,Do,Cm];unfold BA at e⊢;omega
         simp only[Eu,hn,this]
      rw[f1,f2];exact h2
    ·exact hk.elim
   ·exact hk.elim
  ·exact hk.elim
theorem jC{dr:Bool}{d:Option Nat}{f:Operand}{args:Array Operand}{Hp:Array TypeId}{dst:Option Nat}{ty:Nat}{pos:String}{after:Array Edge}{gd:Option (Nat×Bool)}{next:Act→World→Prop}{Q:Exit→Act→World→Prop}(hP:cx.P=P)(hY:∀l σ h g w,EK σ=true→DV w0 g0 h0 h g w→Le h0 g0 w0 h g w→cx.yp l σ (DK σ g) w){ro:Option Nat}(hS:SR N ds w0 g0 h0 st g a w)(hk:GX cx dr d st (ev st.t f) (args.toList.map (ev st.t)) K)(hn:bx w0 g0 h0 st.h g w K fun x w'=>next (a.put dst x) w'):Oper.wpIn (KA ro) 0 P ⟨dst,.call ⟨.value f,args,Hp⟩,ty,pos,after,gd⟩ a w next Q:=by
 subst hP;have hk:GX cx false d st (ev st.t f) (args.toList.map (ev st.t)) K:=by
  cases dr with
  |true=>exact fM hk
  |false=>exact hk
 have Ke:∀(i:Nat) (av:AV) (x:Value),((args.toList.map (ev st.t)).map (str st.h))[i]?=some av→(args.map a.eval)[i]?=some x→BP g w FQ av x:=by
  intro i av x h1 h2;rw[AL,AL]at h1;rw[Pn]at h2;cases ho:args[i]? with
  |none=>rw[ho]at h2;simp at h2
  |some y =>
   rw[ho]at h2;have hy:args.toList[i]?=some y:=by simpa using ho
   rw[hy]at h1;simp only[Ib,Bq]at h1 h2;subst h1;subst h2;exact BP.str hS.inv.objs (hS.eval y)
 have CB:(args.map a.eval).size=((args.toList.map (ev st.t)).map (str st.h)).length:=by simp
 have hF:=BP.str hS.inv.objs (hS.eval f)
 -- a call of yield
 have yl:∀(l:Nat) (R:Ending→World→Prop),a.eval f=.func (.yield l) #[] #[]→YieldAt Fence.wide 0 cx.P l (args.map a.eval) w R→(∀e w',R e w'→∃v,e=.returned v∧next (a.put dst v) w') →
   Oper.wpIn (KA ro) 0 cx.P ⟨dst,.call ⟨.value f,args,Hp⟩,ty,pos,after,gd⟩ a w next Q:=by
  rintro l R hx ⟨fn,tm,Hh,bd,h1,h2⟩ hR
  refine⟨fun _ _=>trivial,?_⟩;have e:(⟨dst,.call ⟨.value f,args,Hp⟩,ty,pos,after,gd⟩:Oper).semAt (KA ro).round a.eval=execOp a.eval ⟨dst,.call ⟨.value f,args,Hp⟩,ty,pos,after,gd⟩:=Oper.semAt_eq ro a.eval _ (fun c e=>by cases e);have Da:(execOp a.eval ⟨dst,.call ⟨.value f,args,Hp⟩,ty,pos,after,gd⟩).run cx.P w=.ok (.round l fn tm Hh bd) w:=by
   simp only[execOp,resolve,hx,Deferred.ofValue,Sem.run_bind,Sem.run_pure,Result.andThen_ok,invoke];simpa using h1
  rw[e,Da];refine(show(_→_)∧RoundIn (KA ro) 0 cx.P l fn tm Hh bd w _ from⟨fun e=>by(cases e),RoundIn.mono h2 fun e w' h=>?_⟩);obtain⟨v,rfl,hn⟩:=hR e w' h;exact hn
 -- the call itself
 have go:∀(Q' : AV→(Nat→HO)→Prop),(∀r h',Q' r h'→h'=Af∧K r st.h)→GC cx.P (fun _ _ _=>True) (str st.h (ev st.t f)) ((args.toList.map (ev st.t)).map (str st.h)) Af Q' →
   Oper.wpIn (KA ro) 0 cx.P ⟨dst,.call ⟨.value f,args,Hp⟩,ty,pos,after,gd⟩ a w next Q:=by
  intro Q' hQ hc
  have fin:∀{fn:Nat} {l:List AV} {vals:Array Value},A1 cx.P fn l Af Q'→vals.size=l.length→(∀(i:Nat) (av:AV) (x:Value),l[i]?=some av→vals[i]?=some x→BP g w FQ av x) →
    (execOp a.eval ⟨dst,.call ⟨.value f,args,Hp⟩,ty,pos,after,gd⟩).run cx.P w=.ok (.enter fn vals) w→Oper.wpIn (KA ro) 0 cx.P ⟨dst,.call ⟨.value f,args,Hp⟩,ty,pos,after,gd⟩ a w next Q:=by
   intro fn l vals hc hs hv Da;refine NO (fun c e=>by cases e) ?_;unfold Oper.wp;rw[Da];exact fN hS.inv hc hs hv (fun v r h' g' w' hq _ hI HD hr=>hn r _ g' w' v (hQ r h' hq).2 hI HD (hr.up _)) (fun r h' hq=>(hQ r h' hq).1)
  unfold GC at hc;split at hc
  ·rename_i fn e;rw[e]at hF;have hx:=hF.v_eq;refine fin hc CB Ke ?_;have MF : a.eval f=.func (.func fn) #[] #[]:=hx;simp only[execOp,resolve,MF,Deferred.ofValue,Sem.run_bind,Sem.run_pure,Result.andThen_ok,invoke];rw[Hc hc.1];simp
  ·rename_i fn caps e;rw[e]at hF;generalize hx:a.eval f=fv at hF;cases hF with
   |clo _ _ _ vs Ev Qg =>
    refine fin hc (vals:=args.map a.eval++vs) (by simp[Ev]) (fun i av x h1 h2=>?_) ?_
    ·rw[MK]at h1;rw[IJ]at h2;have hl:((args.toList.map (ev st.t)).map (str st.h)).length=(args.map a.eval).size:=CB.symm;rw[hl]at h1;split at h1
     ·rename_i hi;rw[Al hi]at h2;exact Ke i av x h1 h2
     ·rename_i hi;rw[Ae hi]at h2;exact Qg _ av x h1 h2
    ·simp only[execOp,resolve,hx,Deferred.ofValue,Sem.run_bind,Sem.run_pure,Result.andThen_ok,invoke];rw[Hc hc.1];simp
  ·rename_i l e;rw[e]at hF;have hU:AT Af=FQ:=by funext i;unfold AT FQ Af;simp
   refine yl l _ hF.v_eq (T1 (C:=YieldAt Fence.wide 0 cx.P l (args.map a.eval) w) (R:=fun e w'=>∃v,e=.returned v∧next (a.put dst v) w') YieldAt.imp hS.inv (fun ol=>hc g w _ CB (fun i av x h1 h2=>by rw[hU];exact Ke i av x h1 h2) ol trivial)
    (fun v r h' g' w' hq _ hI HD hr=>⟨v,rfl,hn r _ g' w' v (hQ r h' hq).2 hI HD (hr.up _)⟩) (fun r h' hq=>(hQ r h' hq).1)) fun _ _ h=>h
  ·exact hc.elim
 have pure:(∃res,QZ cx.P (str st.h (ev st.t f)) ((args.toList.map (ev st.t)).map (str st.h)) res∧K res st.h)→Oper.wpIn (KA ro) 0 cx.P ⟨dst,.call ⟨.value f,args,Hp⟩,ty,pos,after,gd⟩ a w next Q:=by
  rintro⟨res,h1,h2⟩
  refine go (fun r h'=>r=res∧h'=Af) (fun r h' hq=>⟨hq.2,by rw[hq.1];exact h2⟩) ?_;unfold QZ at h1;unfold GC;split at h1
  ·rename_i fn e;rw[e];exact h1
  ·rename_i fn caps e;rw[e];exact h1
  ·exact h1.elim
 unfold GX at hk
 ·obtain⟨m,hm⟩:=hk;cases m with
  |pure=>exact pure hm
  |rel=>exact go _ (fun r h' hq=>hq) hm
  |gen σ nn =>
   simp only at hm;cases d with
   |none=>exact hm.elim
   |some d =>
    simp only at hm;obtain⟨Gs,hc⟩:=hm;have hσ:EK σ=true:=by simp only[Ai]at Gs;exact Gs.1.1
    obtain⟨hR,_⟩:=Yb hS.inv hσ;have gv:=(hS.eval f).ren hR;have Uu:∀(i:Nat) (av:AV) (x:Value),((args.toList.map (ev st.t)).map (ren (CC σ) st.h))[i]?=some av→(args.map a.eval)[i]?=some x→BP (DK σ g) w (AT (F4 σ st.h)) av x:=by
     intro i av x h1 h2;rw[AL,AL]at h1;rw[Pn]at h2;cases ho:args[i]? with
     |none=>rw[ho]at h2;simp at h2
     |some y =>
      rw[ho]at h2;have hy:args.toList[i]?=some y:=by simpa using ho
      rw[hy]at h1;simp only[Ib,Bq]at h1 h2;subst h1;subst h2;exact(hS.eval y).ren hR
    have Mr:(args.map a.eval).size=((args.toList.map (ev st.t)).map (ren (CC σ) st.h)).length:=by simp
    have fin:∀{fn:Nat} {l:List AV} {vals:Array Value},A1 cx.P fn l (F4 σ st.h) (fun r h'=>K (ren (FC σ d nn) h' r) (Eu σ d nn st.h h'))→vals.size=l.length →
      (∀(i:Nat) (av:AV) (x:Value),l[i]?=some av→vals[i]?=some x→BP (DK σ g) w (AT (F4 σ st.h)) av x) →
      (execOp a.eval ⟨dst,.call ⟨.value f,args,Hp⟩,ty,pos,after,gd⟩).run cx.P w=.ok (.enter fn vals) w→Oper.wpIn (KA ro) 0 cx.P ⟨dst,.call ⟨.value f,args,Hp⟩,ty,pos,after,gd⟩ a w next Q:=by
     intro fn l vals hc hs hv Da;refine NO (fun c e=>by cases e) ?_;unfold Oper.wp;rw[Da];exact jD hS.inv Gs hc hs hv (fun v r h' g' w' hq hI HD hr=>hn _ _ g' w' v hq hI HD hr)
    unfold GC at hc;split at hc
    ·rename_i fn e;rw[e]at gv;have hx:a.eval f=.func (.func fn) #[] #[]:=gv.v_eq;refine fin hc Mr Uu ?_;simp only[execOp,resolve,hx,Deferred.ofValue,Sem.run_bind,Sem.run_pure,Result.andThen_ok,invoke];rw[Hc hc.1];simp
    ·rename_i fn caps e;rw[e]at gv;generalize hx:a.eval f=fv at gv;cases gv with
     |clo _ _ _ vs Ev Qg =>
      refine fin hc (vals:=args.map a.eval++vs) (by simp[Ev]) (fun i av x h1 h2=>?_) ?_
      ·rw[MK]at h1;rw[IJ]at h2;have hl:((args.toList.map (ev st.t)).map (ren (CC σ) st.h)).length=(args.map a.eval).size:=Mr.symm;rw[hl]at h1;split at h1
       ·rename_i hi;rw[Al hi]at h2;exact Uu i av x h1 h2
       ·rename_i hi;rw[Ae hi]at h2;exact Qg _ av x h1 h2
      ·simp only[execOp,resolve,hx,Deferred.ofValue,Sem.run_bind,Sem.run_pure,Result.andThen_ok,invoke];rw[Hc hc.1];simp
    ·rename_i l e;rw[e]at gv
     exact yl l _ gv.v_eq (Ny (C:=YieldAt Fence.wide 0 cx.P l (args.map a.eval) w) (R:=fun e w'=>∃v,e=.returned v∧next (a.put dst v) w') YieldAt.imp hS.inv Gs (fun ol=>hc (DK σ g) w _ Mr Uu ol (hY l σ _ _ _ hσ hS.inv hS.le))
      (fun v r h' g' w' hq hI HD hr=>⟨v,rfl,hn _ _ g' w' v hq hI HD hr⟩)) fun _ _ h=>h
    ·exact hc.elim
  |geny σ nn =>
   simp only at hm;cases d with
   |none=>exact hm.elim
   |some d =>
    simp only at hm;obtain⟨Gs,hc⟩:=hm;have hσ:EK σ=true:=by simp only[Ai]at Gs;exact Gs.1.1
    obtain⟨hR,_⟩:=Yb hS.inv hσ;have gv:=(hS.eval f).ren hR;have Uu:∀(i:Nat) (av:AV) (x:Value),((args.toList.map (ev st.t)).map (ren (CC σ) st.h))[i]?=some av→(args.map a.eval)[i]?=some x→BP (DK σ g) w (AT (F4 σ st.h)) av x:=by
     intro i av x h1 h2;rw[AL,AL]at h1;rw[Pn]at h2;cases ho:args[i]? with
     |none=>rw[ho]at h2;simp at h2
     |some y =>
      rw[ho]at h2;have hy:args.toList[i]?=some y:=by simpa using ho
      rw[hy]at h1;simp only[Ib,Bq]at h1 h2;subst h1;subst h2;exact(hS.eval y).ren hR
    have Mr:(args.map a.eval).size=((args.toList.map (ev st.t)).map (ren (CC σ) st.h)).length:=by simp
    split at hc
    ·rename_i fn caps e;rw[e]at gv;generalize hx:a.eval f=fv at gv;cases gv with
     |clo _ _ _ vs Ev Qg =>
      have Da:(execOp a.eval ⟨dst,.call ⟨.value f,args,Hp⟩,ty,pos,after,gd⟩).run cx.P w=.ok (.enter fn (args.map a.eval++vs)) w:=by
       simp only[execOp,resolve,hx,Deferred.ofValue,Sem.run_bind,Sem.run_pure,Result.andThen_ok,invoke];rw[Hc hc.1];simp
      refine NO (fun c e=>by cases e) ?_;unfold Oper.wp;rw[Da];refine Ny (C:=Calls cx.P fn (args.map a.eval++vs) w) (fun h k=>h.mono k) hS.inv Gs (fun ol=>hc.2 (DK σ g) w _ (by simp[Ev]) (fun i av x h1 h2=>?_) ol (fun l=>hY l σ _ _ _ hσ hS.inv hS.le)) (fun v r h' g' w' hq hI HD hr=>hn _ _ g' w' v hq hI HD hr);rw[MK]at h1;rw[IJ]at h2;have hl:((args.toList.map (ev st.t)).map (ren (CC σ) st.h)).length=(args.map a.eval).size:=Mr.symm;rw[hl]at h1;split at h1
      ·rename_i hi;rw[Al hi]at h2;exact Uu i av x h1 h2
      ·rename_i hi;rw[Ae hi]at h2;exact Qg _ av x h1 h2
    ·exact hc.elim
end
end Go.Eng
