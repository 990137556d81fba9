/- Lemmas for the claims of this seat, without a condition: part 12 (EngZ1, EngZ2, EngZA). -/
import Derived.Test.YtkmnnpmneamgoaaGreatDoorA11
namespace Go.Eng

theorem VY:∀{σ:Hh},EH σ=true→∀i j,Ch σ i=some j↔Gx σ j=some i
 | [],_,i,j=>by simp[Ch,Gx]
 |(a,b)::r,h,i,j=>by
  simp only[EH,Af]at h;obtain⟨h1,h2⟩:=h;have ih:=VY h2;have lq:Ch r a=none∧Gx r b=none:=by
   split at h1
   ·rename_i e1 e2;exact⟨e1,e2⟩
   ·cases h1
  unfold Ch Gx
  by_cases e1:a=i<;>by_cases e2:b=j
  ·subst e1;subst e2;simp
  ·subst e1;simp only[CU,JE,Cc e2,D1];constructor
   ·intro h;cases h;exact absurd rfl e2
   ·intro h;rw[(ih a j).2 h]at lq;cases lq.1
  ·subst e2;simp only[CU,JE,Cc e1,D1];constructor
   ·intro h;rw[(ih i b).1 h]at lq;cases lq.2
   ·intro h;cases h;exact absurd rfl e1
  ·simp only[Cc e1,Cc e2,D1];exact ih i j
theorem gH:∀{σ:Hh},DZ σ=true→EH σ=true
 | [],_=>rfl
 |(a,b)::r,h=>by
  simp only[DZ,Af]at h;simp only[EH,Af];exact⟨h.1.1.1,gH h.2⟩
theorem Wc{σ:Hh}(h:DZ σ=true):∀i j,Ch σ i=some j↔Gx σ j=some i:=VY (gH h)
theorem U4:∀{σ:Hh},DZ σ=true→∀{i j},Ch σ i=some j→1000≤j∧j<2000
 | [],_,i,j,h=>by simp[Ch]at h
 |(a,b)::r,h,i,j,hf=>by
  simp only[DZ,Af,C3,Cg]at h;unfold Ch at hf
  by_cases e1:a=i
  ·subst e1;simp only[CU,JE]at hf;cases hf;exact⟨h.1.1.2,h.1.2⟩
  ·simp only[Cc e1,D1]at hf;exact U4 h.2 hf
theorem OP(f:Nat→Option Nat)(h:Nat→HO):∀(σ:Hh) (j:Nat),Ad (Wb f h σ) Aa j=match Gx σ j with | some i=>(h i).ren f h | none=>.free
 | [],j=>rfl
 |(a,b)::r,j=>by
  unfold Wb Ad Gx
  by_cases e:b=j
  ·subst e;simp
  ·simp only[Cc e,Cc (TP e),D1];exact OP f h r j

structure Kh(f:Nat→Option Nat)(h h2:Nat→HO)(g g2:Gh)(w:World):Prop where
 ids:∀r r',f r=some r'→AK h r→g2.tk r'=g.tk r∧g2.ln r'=g.ln r∧g2.ρ r'=g.ρ r∧g2.own r'=g.own r∧AK h2 r'
 S:∀b o,g2.S b o↔g.S b o
 objs:∀r,D4 g w (AK h) r (h r)

section
variable {f:Nat→Option Nat}{h h2:Nat→HO}{g g2:Gh}{w:World}
theorem Kh.keeps(hR:Kh f h h2 g g2 w):EP g w g2 w:=fun b o hs=>⟨(hR.S b o).2 hs,rfl,fun _ _ e=>e⟩
theorem Kh.noU(hR:Kh f h h2 g g2 w){av:AV}{x:Value}(r:BF g w E8 av x):BF g2 w (AK h2) av x:=r.mono hR.keeps (fun _ h=>h.elim) (fun _ h=>h.elim)
theorem BF.ren0(hR:Kh f h h2 g g2 w){av:AV}{x:Value}(r:BF g w (AK h) av x):BF g2 w (AK h2) (ren0 f h av) x:=by
 have down:BF g2 w (AK h2) (Eng.str0 h av) x:=hR.noU (BF.str0 hR.objs r);cases av with
 |v y=>exact down
 |slice tk es =>
  cases tk with
  |none=>exact down
  |full sz=>exact down
  |id i sz =>
   simp only[Eng.ren0];split
   ·rename_i i' e;cases r with
    |tok _ _ _ _ _ hs hl hu ht hn hx =>
     obtain⟨k1,k2,k3,k4,k5⟩:=hR.ids i i' e hu;exact .tok _ i' sz es x (hR.noU (BF.slice_none hs)) hl k5 (k1.trans ht) (by omega) (fun q=>by rw[k3];exact hx (by omega))
   ·exact hR.noU r.slice_none
  |ver i sz v =>
   simp only[Eng.ren0];split
   ·rename_i i' e;cases r with
    |ver _ _ _ _ _ _ hs hl hu ht hn hx =>
     obtain⟨k1,k2,k3,k4,k5⟩:=hR.ids i i' e hu;exact .ver _ i' sz v es x (hR.noU (BF.slice_none hs)) hl k5 (k1.trans ht) (by omega) (fun q=>by rw[k3];exact hx (by omega))
   ·exact hR.noU r.slice_none
 |msl i n =>
  simp only[Eng.ren0];split
  ·rename_i i' e;cases r with
   |msl _ _ _ a cap hu ht hn ha hx =>
    obtain⟨k1,k2,k3,k4,k5⟩:=hR.ids i i' e hu;exact .msl _ i' n a cap k5 (k1.trans ht) (by omega) ha (fun q=>by rw[k3];exact hx (by omega))
  ·exact .junk _ _
 |agg cs=>exact down
 |tup cs=>exact down
 |cptr cs=>exact down
 |ref i off =>
  simp only[Eng.ren0];split
  ·rename_i i' e;cases r with
   |ref _ _ _ b hu ht hx =>
    obtain⟨k1,k2,k3,k4,k5⟩:=hR.ids i i' e hu;exact .ref _ i' off b k5 (k1.trans ht) (k3.trans hx)
  ·exact down
 |eref i n sz k off =>
  simp only[Eng.ren0];split
  ·rename_i i' e;cases r with
   |eref _ _ _ _ _ _ b cap hu ht hn hx =>
    obtain⟨k1,k2,k3,k4,k5⟩:=hR.ids i i' e hu;exact .eref _ i' n sz k off b cap k5 (k1.trans ht) ⟨hn.1,by omega⟩ (fun q=>by rw[k3];exact hx (by omega))
  ·exact .junk _ _
 |mref i =>
  simp only[Eng.ren0];split
  ·rename_i i' e;cases r with
   |mref _ _ b hu ht hx =>
    obtain⟨k1,k2,k3,k4,k5⟩:=hR.ids i i' e hu;exact .mref _ i' b k5 (k1.trans ht) (k3.trans hx)
  ·exact down
 |cmap sh B5=>exact down
 |clo i cs=>exact down
 |junk=>exact down
theorem BF.ren1(hR:Kh f h h2 g g2 w){av:AV}{x:Value}(r:BF g w (AK h) av x):BF g2 w (AK h2) (ren1 f h av) x:=by
 cases av with
 |agg cs =>
  cases r with
  |agg _ _ vs hs h1 hr =>
   exact .agg _ _ vs (by simp[hs]) h1 fun i av x q1 q2=>by
    rw[AH]at q1;obtain⟨a,q3,rfl⟩:=AW.1 q1;exact(hr i a x q3 q2).ren0 hR
 |clo i cs =>
  cases r with
  |clo _ _ _ vs hs hr =>
   exact .clo _ _ _ vs (by simp[hs]) fun i av x q1 q2=>by
    rw[AH]at q1;obtain⟨a,q3,rfl⟩:=AW.1 q1;exact(hr i a x q3 q2).ren0 hR
 |_=>exact r.ren0 hR
theorem BF.ren(hR:Kh f h h2 g g2 w){av:AV}{x:Value}(r:BF g w (AK h) av x):BF g2 w (AK h2) (ren f h av) x:=by
 cases av with
 |tup cs =>
  cases r with
  |tup _ _ vs hs hr =>
   exact .tup _ _ vs (by simp[hs]) fun i av x q1 q2=>by
    rw[AH]at q1;obtain⟨a,q3,rfl⟩:=AW.1 q1;exact(hr i a x q3 q2).ren1 hR
 |_=>exact r.ren1 hR
theorem Mh(f:Nat→Option Nat)(h:Nat→HO)(o:HO):(o.ren f h).live↔o.live:=by cases o<;>exact Qe
theorem Mi(f:Nat→Option Nat)(h:Nat→HO)(o:HO):o.ren f h≠.free↔o≠.free:=by cases o<;>simp[HO.ren]
theorem D4.ren(hR:Kh f h h2 g g2 w){i j:Nat}(Qs:f i=some j)(hu:AK h i){o:HO}(r:D4 g w (AK h) i o):D4 g2 w (AK h2) j (o.ren f h):=by
 obtain⟨k1,k2,k3,k4,k5⟩:=hR.ids i j Qs hu;have noL:∀{cs:List AV} {vs:List Value},CE g w E8 cs vs→CE g2 w E8 cs vs:=fun hr=>hr.mono hR.keeps (fun _ h=>h) (fun _ h=>h.elim);have sm:∀{av:AV} {x:Value},BF g w E8 av x→BF g2 w E8 av x:=fun hr=>hr.mono hR.keeps (fun _ h=>h) (fun _ h=>h.elim);cases o with
 |free=>trivial
 |dead=>trivial
 |cells cs =>
  obtain⟨t,b,E,vs,a1,a2,a3,a4,a5⟩:=r;refine⟨k1.trans t,b,E,vs,k4.trans a1,k3.trans a2,a3,⟨by simp[a4.1],a4.2.1,fun i av x q1 q2=>?_⟩,fun o ho=>a5 o ((hR.S b o).1 ho)⟩;rw[AH]at q1;obtain⟨a,q3,rfl⟩:=AW.1 q1;exact(a4.2.2 i a x q3 q2).ren1 hR
 |ro cs =>
  obtain⟨t,b,a1,a2⟩:=r;exact⟨k1.trans t,b,k3.trans a1,sm a2⟩
 |tok sz n =>
  obtain⟨t,l,a,cap,a1,a2⟩:=r;refine⟨k1.trans t,k2.trans l,a,cap,k3.trans a1,?_⟩;rcases a2 with ⟨b1,b2⟩ | ⟨b1,b,E,vs,off,b2,b3,b4,b5,b6⟩
  ·exact .inl ⟨b1,k4.trans b2⟩
  ·exact .inr ⟨b1,b,E,vs,off,b2,k4.trans b3,b4,b5,fun o ho=>b6 o ((hR.S b o).1 ho)⟩
 |var sz v n =>
  obtain⟨t,l,a,cap,a1,a2⟩:=r;refine⟨k1.trans t,k2.trans l,a,cap,k3.trans a1,?_⟩;rcases a2 with ⟨b1,b2⟩ | ⟨b1,b,E,vs,off,b2,b3,b4,b5,b6⟩
  ·exact .inl ⟨b1,k4.trans b2⟩
  ·exact .inr ⟨b1,b,E,vs,off,b2,k4.trans b3,b4,b5,fun o ho=>b6 o ((hR.S b o).1 ho)⟩
 |vox v=>exact⟨k1.trans r.1,k2.trans r.2⟩
 |raw b ob =>
  obtain⟨t,a1,a2,a3,a4⟩:=r;exact⟨k1.trans t,k4.trans a1,a2,a3,fun o ho=>a4 o ((hR.S b o).1 ho)⟩
 |arr sz es =>
  obtain⟨t,l,al,a2⟩:=r;refine⟨k1.trans t,k2.trans l,al,?_⟩;rcases a2 with ⟨b1,b2,b3⟩ | ⟨b,cap,E,vs,b1,b2,b3,b4,b5,b6,b7⟩
  ·exact .inl ⟨b1,k3.trans b2,k4.trans b3⟩
  ·exact .inr ⟨b,cap,E,vs,k3.trans b1,k4.trans b2,b3,b4,b5,noL b6,fun o ho=>b7 o ((hR.S b o).1 ho)⟩
 |map sh B5 =>
  obtain⟨t,b,es,ck,a1,a2,a3,a4,a5,a6⟩:=r;exact⟨k1.trans t,b,es,ck,k4.trans a1,k3.trans a2,a3,a4,fun i kv e q1 q2=>sm (a5 i kv e q1 q2),fun o ho=>a6 o ((hR.S b o).1 ho)⟩
 |mapU sh B5 =>
  obtain⟨t,b,es,ck,a1,a2,a3,a4,a5,a6⟩:=r;refine⟨k1.trans t,b,es,ck,k4.trans a1,k3.trans a2,a3,UT _ a4,fun i kv e q1 q2=>?_,fun o ho=>a6 o ((hR.S b o).1 ho)⟩;rw[AH]at q1;obtain⟨p,q3,rfl⟩:=AW.1 q1;exact(a5 i p e q3 q2).ren1 hR
 |rom sh B5 =>
  obtain⟨t,b,a1,a2⟩:=r;exact⟨k1.trans t,b,k3.trans a1,sm a2⟩
 |iter all rem F2 =>
  obtain⟨t,b,mb,JU,seen,st,es,ck,a1,a2,a3,a4,a5,a6,a7,a8,a9,Ws,Zy,a12,l5⟩:=r;exact⟨k1.trans t,b,mb,JU,seen,st,es,ck,k4.trans a1,k3.trans a2,a3,(hR.S _ _).2 a4,a5,a6,a7,a8,fun i kv e q1 q2=>sm (a9 i kv e q1 q2),Ws,Zy,a12,fun o ho=>l5 o ((hR.S b o).1 ho)⟩
end
end Go.Eng

namespace Go.Eng

theorem OI{h:Nat→HO}{d:Nat}:∀{n:Nat},Dq h d n=true→∀k,k<n→h (Bu d k)=.free
 |0,_,k,hk=>by omega
 |n+1,hf,k,hk=>by
  simp only[Dq,Af]at hf
  by_cases e:k=n
  ·subst e
   have:=hf.1
   split at this
   ·rename_i e2;exact e2
   ·cases this
  ·exact OI hf.2 k (by omega)
theorem Nb{d nn:Nat}:∀{σ:Hh},CZ σ d nn=true→∀{i j},Ch σ i=some j→¬(Bu d 0≤i∧i<Bu d nn)
 | [],_,i,j,h=>by simp[Ch]at h
 |(a,b)::r,hs,i,j,hf=>by
  simp only[CZ,Af]at hs;unfold Ch at hf
  by_cases e1:a=i
  ·subst e1;have h1:=hs.1;simp only[CN,Bool.and_eq_false_iff]at h1;intro hc;rcases h1 with h1 | h1
   ·rw[Nat.ble_eq_true_of_le hc.1]at h1;cases h1
   ·have h2:Nat.blt a (Bu d nn)=true:=by rw[Cg];exact hc.2
    rw[h2]at h1;cases h1
  ·simp only[Cc e1,D1]at hf;exact Nb hs.2 hf

section
variable {P:Program}{w0:World}{g0:Gh}{h0 h:Nat→HO}{g:Gh}{w:World}

def CA(σ:Hh)(g:Gh):Gh :=
 ⟨fun j=>match Gx σ j with | some i=>g.ρ i | none=>.nilIface,fun j=>match Gx σ j with | some i=>g.ln i | none=>0,fun j=>match Gx σ j with | some i=>g.tk i | none=>false,
  fun j=>match Gx σ j with | some i=>g.own i | none=>none,g.S⟩
def Vb(σ:Hh)(d nn:Nat)(i:Nat):Option Nat :=
 match Ch σ i with
 |some j=>some j
 |none=>match Nat.ble (Bu d 0) i&&Nat.blt i (Bu d nn)with |true=>some (2000+(i-Bu d 0)) |false=>none
def GM(σ:Hh)(d nn:Nat)(g g' : Gh):Gh :=
 ⟨fun i=>match Vb σ d nn i with | some j=>g'.ρ j | none=>g.ρ i,fun i=>match Vb σ d nn i with | some j=>g'.ln j | none=>g.ln i,fun i=>match Vb σ d nn i with | some j=>g'.tk j | none=>g.tk i,
  fun i=>match Vb σ d nn i with | some j=>g'.own j | none=>g.own i,g'.S⟩
theorem bf(σ:Hh)(d nn:Nat)(h h' : Nat→HO)(i:Nat):D2 σ d nn h h' i=match Vb σ d nn i with | some j=>(h' j).ren (E7 σ d nn) h' | none=>h i:=by
 unfold D2 Vb;cases Ch σ i with
 |some j=>rfl
 |none =>
  dsimp only;cases Nat.ble (Bu d 0) i&&Nat.blt i (Bu d nn)<;>rfl
theorem iu{σ:Hh}{d nn:Nat}(hσ:DZ σ=true)(ha:CZ σ d nn=true)(i j:Nat):Vb σ d nn i=some j↔E7 σ d nn j=some i:=by
 have inv:=Wc hσ;unfold Vb E7;cases h1:Ch σ i with
 |some j' =>
  have hb:=(inv i j').1 h1;dsimp only;constructor
  ·intro h;cases h;rw[hb]
  ·intro h;cases h2:Gx σ j with
   |some i'=>rw[h2]at h;cases h;rw[(inv i j).2 h2]at h1;exact h1.symm
   |none =>
    rw[h2]at h;dsimp only at h;split at h
    ·rename_i hc;have h:=CC h;subst h;simp only[Af,C3,Cg]at hc;exact absurd ⟨by unfold Bu;omega,by unfold Bu;omega⟩ (Nb ha h1)
    ·cases h
 |none =>
  dsimp only;cases h2:Gx σ j with
  |some i' =>
   dsimp only;have hf:=(inv i' j).2 h2;have hr:=U4 hσ hf;constructor
   ·intro h;split at h
    ·cases h;omega
    ·cases h
   ·intro h;cases h;rw[hf]at h1;cases h1
  |none =>
   dsimp only;constructor
   ·intro h;split at h
    ·rename_i hc;cases h;simp only[Af,C3,Cg]at hc;have e1:(Nat.ble 2000 (2000+(i-Bu d 0))&&Nat.blt (2000+(i-Bu d 0)) (2000+nn))=true:=by
      simp only[Af,C3,Cg];unfold Bu at hc⊢;omega
     rw[e1]
     have:Bu d (2000+(i-Bu d 0)-2000)=i:=by unfold Bu at hc⊢;omega
     rw[this]
    ·cases h
   ·intro h;split at h
    ·rename_i hc;have h:=CC h;subst h;simp only[Af,C3,Cg]at hc;have e1:(Nat.ble (Bu d 0) (Bu d (j-2000))&&Nat.blt (Bu d (j-2000)) (Bu d nn))=true:=by
      simp only[Af,C3,Cg];unfold Bu;omega
     rw[e1]
     have:2000+(Bu d (j-2000)-Bu d 0)=j:=by unfold Bu;omega
     rw[this]
    ·cases h

theorem Sv(hI:Dk w0 g0 h0 h g w){σ:Hh}(hσ:DZ σ=true):Kh (Ch σ) h (E3 σ h) g (CA σ g) w∧Dk w (CA σ g) (E3 σ h) (E3 σ h) (CA σ g) w:=by
 have inv:=Wc hσ;have EB:∀j,E3 σ h j=match Gx σ j with | some i=>(h i).ren (Ch σ) h | none=>.free:=OP _ _ σ
 have hR:Kh (Ch σ) h (E3 σ h) g (CA σ g) w:=by
  refine⟨fun r r' hr hu=>?_,fun b o=>Qe,hI.objs⟩;have hb:=(inv r r').1 hr;refine⟨by simp[CA,hb],by simp[CA,hb],by simp[CA,hb],by simp[CA,hb],?_⟩;unfold AK;rw[EB,hb];exact(Mi _ _ _).2 hu
 have L5:∀j,(E3 σ h j).live→∃i,Gx σ j=some i∧(h i).live:=fun j hl=>by
  rw[EB]at hl;cases e:Gx σ j with
  |none=>rw[e]at hl;exact hl.elim
  |some i=>rw[e]at hl;exact⟨i,rfl,(Mh _ _ _).1 hl⟩
 have VT:∀j i,Gx σ j=some i→(CA σ g).own j=g.own i:=fun j i e=>by simp[CA,e]
 refine⟨hR,rfl,rfl,rfl,Ak _,fun _ _ _=>rfl,hI.slt,fun j=>?_,fun j j' b hl Pp e e'=>?_,fun j b hl e=>?_,fun _ _ h=>.inl h,hI.glob⟩
 ·rw[EB];cases e:Gx σ j with
  |none=>trivial
  |some i =>
   by_cases hu:AK h i
   ·exact(hI.objs i).ren hR ((inv i j).2 e) hu
   ·have:h i=.free:=BZ.1 hu
    dsimp only;rw[this];trivial
 ·obtain⟨i,e1,l1⟩:=L5 j hl;obtain⟨i',e2,l2⟩:=L5 j' Pp;rw[VT j i e1]at e;rw[VT j' i' e2]at e';obtain rfl:=hI.inj i i' b l1 l2 e e'
  have:=(inv i j).2 e1
  rw[(inv i j').2 e2]at this;cases this;rfl
 ·obtain⟨i,e1,l1⟩:=L5 j hl;have e0:=e;rw[VT j i e1]at e;exact⟨(hI.loc i b l1 e).1,.inr ⟨j,hl,e0⟩⟩

theorem Kl{C:(Ending→World→Prop)→Prop}(hm:∀{R R' : Ending→World→Prop},C R→(∀e w,R e w→R' e w)→C R')(hI:Dk w0 g0 h0 h g w){σ:Hh}{d nn:Nat}(F3:(DZ σ&&Dq h d nn&&CZ σ d nn)=true){Q:AV→(Nat→HO)→Prop}
  (hc:Dk w (CA σ g) (E3 σ h) (E3 σ h) (CA σ g) w→C (fun e w'=>∃v r h' g',e=Ending.returned v∧Q r h'∧BF g' w' (AK h') r v∧Dk w (CA σ g) (E3 σ h) h' g' w'∧Le (E3 σ h) (CA σ g) w h' g' w')) {R:Ending→World→Prop}
  (ZR:∀v r h' g2 w',Q r h'→Dk w0 g0 h0 (D2 σ d nn h h') g2 w'→Le h g w (D2 σ d nn h h') g2 w'→BF g2 w' (AK (D2 σ d nn h h')) (ren (E7 σ d nn) h' r) v→R (.returned v) w'):C R:=by
 simp only[Af]at F3;obtain⟨⟨hσ,xQ⟩,pW⟩:=F3;obtain⟨hF,jI⟩:=Sv hI hσ;have inv:=Wc hσ;have j7:=iu hσ pW;refine hm (hc jI) ?_
 rintro e w' ⟨v,r,h',g',rfl,q1,q2,q3,q4⟩
 have hb:=bf σ d nn h h';have fA:∀i j,Vb σ d nn i=some j→(GM σ d nn g g').ρ i=g'.ρ j∧(GM σ d nn g g').ln i=g'.ln j∧(GM σ d nn g g').tk i=g'.tk j∧(GM σ d nn g g').own i=g'.own j:=fun i j e=>by simp[GM,e]
 have uC:∀i,Vb σ d nn i=none→(GM σ d nn g g').ρ i=g.ρ i∧(GM σ d nn g g').ln i=g.ln i∧(GM σ d nn g g').tk i=g.tk i∧(GM σ d nn g g').own i=g.own i:=fun i e=>by simp[GM,e]
 have hB:Kh (E7 σ d nn) h' (D2 σ d nn h h') g' (GM σ d nn g g') w':=by
  refine⟨fun j i hj hu=>?_,fun b o=>Qe,q3.objs⟩;have e:=(j7 i j).2 hj;obtain⟨k1,k2,k3,k4⟩:=fA i j e;refine⟨k3,k2,k1,k4,?_⟩;unfold AK;rw[hb,e];exact(Mi _ _ _).2 hu
 have lu:∀j,E3 σ h j=match Gx σ j with | some i=>(h i).ren (Ch σ) h | none=>.free:=OP _ _ σ
 have uw:∀j i,Ch σ i=some j→(h i).live→(E3 σ h j).live:=fun j i e hl=>by
  rw[lu,(inv i j).1 e];exact(Mh _ _ _).2 hl
 have xD:∀j i,Ch σ i=some j→(CA σ g).own j=g.own i:=fun j i e=>by simp[CA,(inv i j).1 e]
 have Rf : ∀j,(E3 σ h j).live→∃i,Ch σ i=some j∧(h i).live∧(CA σ g).own j=g.own i:=fun j hl=>by
  rw[lu]at hl;cases e:Gx σ j with
  |none=>rw[e]at hl;exact hl.elim
  |some i=>rw[e]at hl;exact⟨i,(inv i j).2 e,(Mh _ _ _).1 hl,by simp[CA,e]⟩
 -- what the callee yc not touch
 have iR:∀b,b<w.heap.size→(∀i,(h i).live→Ch σ i≠none→g.own i≠some b)→w'.heap[b]?=w.heap[b]?:=fun b Dt hn=>q3.frame b Dt fun j hl e=>by
  obtain⟨i,e1,l1,o1⟩:=Rf j hl;exact hn i l1 (by rw[e1];simp) (by rw[←o1];exact e)
 have uf:∀b o,g'.S b o→b<w.heap.size→(∀i,(h i).live→Ch σ i≠none→g.own i≠some b)→g.S b o:=fun b o hs Dt hn=>by
  rcases q3.sg b o hs with h1 | h1 | ⟨j,h1,h2⟩
  ·exact h1
  ·omega
  ·obtain⟨i,e1,l1,o1⟩:=Rf j h1;exact absurd (by rw[←o1];exact h2) (hn i l1 (by rw[e1];simp))
 have hk:EP g w (GM σ d nn g g') w':=q4.keeps;have Aa:∀i,Ch σ i=none→Vb σ d nn i≠none→h i=.free:=fun i e1 e2=>by
  unfold Vb at e2;rw[e1]at e2;dsimp only at e2;split at e2
  ·rename_i hc;simp only[Af,C3,Cg]at hc
   have:=OI xQ (i-Bu d 0) (by unfold Bu at hc⊢;omega)
   rw[show Bu d (i-Bu d 0)=i by unfold Bu at hc⊢;omega]at this;exact this
  ·exact absurd rfl e2
 have bT:∀i j,Ch σ i=some j→Vb σ d nn i=some j:=fun i j e=>by unfold Vb;rw[e]
 have xI:JW g (GM σ d nn g g') (AK h):=fun i hu=>by
  cases e:Ch σ i with
  |some j =>
   obtain⟨k1,k2,k3,k4⟩:=fA i j (bT i j e);obtain⟨f1,f2,f3,f4,f5⟩:=hF.ids i j e hu;obtain⟨m1,m2,m3,m4⟩:=q4.gh j f5;exact⟨(k3.trans m1).trans f1,by omega,fun t=>(k1.trans (m3 (f1.trans t))).trans f3,fun l=>(k1.trans (m4 (by omega))).trans f3⟩
  |none =>
   have e2:Vb σ d nn i=none:=BZ.1 fun e2=>hu (Aa i e e2);obtain⟨k1,k2,k3,k4⟩:=uC i e2;exact⟨k3,by omega,fun _=>k1,fun _=>k1⟩
 have Kw:∀i,AK h i→AK (D2 σ d nn h h') i:=fun i hu=>by
  unfold AK;rw[hb];cases e:Ch σ i with
  |some j =>
   rw[bT i j e];exact(Mi _ _ _).2 (q4.us j (hF.ids i j e hu).2.2.2.2)
  |none =>
   have e2:Vb σ d nn i=none:=BZ.1 fun e2=>hu (Aa i e e2);rw[e2];exact hu
 have YU:∀i,(D2 σ d nn h h' i).live→(∃j,Vb σ d nn i=some j∧(h' j).live∧(GM σ d nn g g').own i=g'.own j)∨(Vb σ d nn i=none∧(h i).live∧(GM σ d nn g g').own i=g.own i∧Ch σ i=none):=fun i hl=>by
  rw[hb]at hl;cases e:Vb σ d nn i with
  |some j=>rw[e]at hl;exact .inl ⟨j,rfl,(Mh _ _ _).1 hl,(fA i j e).2.2.2⟩
  |none =>
   rw[e]at hl;refine .inr ⟨rfl,hl,(uC i e).2.2.2,?_⟩;cases e2:Ch σ i with
   |none=>rfl
   |some j=>rw[bT i j e2]at e;cases e
 have Jy:∀j b,(h' j).live→g'.own j=some b→b<w'.heap.size∧(w.heap.size≤b∨∃i,Ch σ i≠none∧(h i).live∧g.own i=some b):=fun j b hl e=>by
  obtain⟨h1,h2⟩:=q3.loc j b hl e;refine⟨h1,h2.imp id ?_⟩
  rintro⟨j',l',e'⟩
  obtain⟨i,e1,l1,o1⟩:=Rf j' l';exact⟨i,by rw[e1];simp,l1,by rw[←o1];exact e'⟩
 have ka:∀i b,(h i).live→g.own i=some b→Ch σ i=none→∀i',(h i').live→Ch σ i'≠none→g.own i'≠some b:=fun i b hl e hn i' Pp Xk e'=>by
  obtain rfl:=hI.inj i i' b hl Pp e e';exact Xk hn
 refine ZR v r h' (GM σ d nn g g') w' q1 ⟨q3.os.trans hI.os,q3.tape.trans hI.tape,q3.output.trans hI.output,Bh hI.size q3.size,fun b Dt hn=>?_,q3.slt,fun i=>?_,fun i i' b hl Pp e e'=>?_,fun i b hl e=>?_,fun b o hs=>?_,hI.glob.keep hk⟩ ⟨xI,Kw,hk⟩ (q2.ren hB)
 ·refine(iR b (BK Dt hI.size) fun i hl _ e=>?_).trans (hI.frame b Dt hn);rcases(hI.loc i b hl e).2 with h1 | ⟨r',h1,h2⟩
  ·omega
  ·exact hn r' h1 h2
 ·rw[hb];cases e:Vb σ d nn i with
  |some j =>
   by_cases hu:AK h' j
   ·exact(q3.objs j).ren hB ((j7 i j).1 e) hu
   ·have:h' j=.free:=BZ.1 hu
    dsimp only;rw[this];trivial
  |none =>
   obtain⟨k1,k2,k3,k4⟩:=uC i e;have e2:Ch σ i=none:=by
    cases e2:Ch σ i with
    |none=>rfl
    |some j=>rw[bT i j e2]at e;cases e
   refine(hI.objs i).same hk Kw xI k1 k2 k3 k4 fun b hl ho=>?_;have Dt:=(hI.loc i b hl ho).1;exact⟨iR b Dt (ka i b hl ho e2),fun k hs=>uf b k hs Dt (ka i b hl ho e2)⟩
 ·have mixed:∀i j i',(h' j).live→g'.own j=some b→(h i').live→g.own i'=some b→Ch σ i'=none→i=i':=fun i j i' l1 o1 l2 o2 n2=>by
   rcases(Jy j b l1 o1).2 with h1 | ⟨i3,n3,l3,o3⟩
   ·have:=(hI.loc i' b l2 o2).1;omega
   ·exact absurd o3 (ka i' b l2 o2 n2 i3 l3 n3)
  rcases YU i hl with ⟨j,s1,l1,o1⟩ | ⟨s1,l1,o1,n1⟩<;>rcases YU i' Pp with ⟨j',s2,l2,o2⟩ | ⟨s2,l2,o2,n2⟩
  ·obtain rfl:=q3.inj j j' b l1 l2 (by rw[←o1];exact e) (by rw[←o2];exact e');have a1:=(j7 i j).1 s1;rw[(j7 i' j).1 s2]at a1;cases a1;rfl
  ·exact mixed i j i' l1 (by rw[←o1];exact e) l2 (by rw[←o2];exact e') n2
  ·exact(mixed i' j' i l2 (by rw[←o2];exact e') l1 (by rw[←o1];exact e) n1).symm
  ·exact hI.inj i i' b l1 l2 (by rw[←o1];exact e) (by rw[←o2];exact e')
 ·rcases YU i hl with ⟨j,s1,l1,o1⟩ | ⟨s1,l1,o1,n1⟩
  ·obtain⟨h1,h2⟩:=Jy j b l1 (by rw[←o1];exact e);refine⟨h1,?_⟩;rcases h2 with h2 | ⟨i3,n3,l3,o3⟩
   ·exact .inl (Bh hI.size h2)
   ·exact(hI.loc i3 b l3 o3).2
  ·obtain⟨h1,h2⟩:=hI.loc i b l1 (by rw[←o1];exact e);exact⟨BK h1 q3.size,h2⟩
 ·rcases q3.sg b o hs with h1 | h1 | ⟨j,h1,h2⟩
  ·exact hI.sg b o h1
  ·exact .inr (.inl (Bh hI.size h1))
  ·obtain⟨i,e1,l1,o1⟩:=Rf j h1;exact .inr (hI.loc i b l1 (by rw[←o1];exact h2)).2
theorem dX(hI:Dk w0 g0 h0 h g w){σ:Hh}{d nn:Nat}(F3:(DZ σ&&Dq h d nn&&CZ σ d nn)=true){f:Nat}{args:List AV}{Q:AV→(Nat→HO)→Prop}(hc:Bn P f args (E3 σ h) Q){vals:Array Value}(hs:vals.size=args.length)
  (hv:∀(i:Nat) (av:AV) (x:Value),args[i]?=some av→vals[i]?=some x→BF (CA σ g) w (AK (E3 σ h)) av x) {R:Ending→World→Prop}
  (ZR:∀v r h' g2 w',Q r h'→Dk w0 g0 h0 (D2 σ d nn h h') g2 w'→Le h g w (D2 σ d nn h h') g2 w'→BF g2 w' (AK (D2 σ d nn h h')) (ren (E7 σ d nn) h' r) v→R (.returned v) w'):Calls P f vals w R :=
 Kl (C:=Calls P f vals w) (fun h k=>h.mono k) hI F3 (hc.2 (CA σ g) w vals hs hv) ZR
end
end Go.Eng

namespace Go.Eng

structure SR(N:Nat)(ds:List Deferred)(w0:World)(g0:Gh)(h0:Nat→HO)(st:St)(g:Gh)(a:Act)(w:World):Prop where
 inv:Dk w0 g0 h0 st.h g w
 le:Le h0 g0 w0 st.h g w
 dfs:a.defers=ds
 size:a.tmps.size=N
 slots:∀i,BF g w (AK st.h) (st.t i) (a.tmps.getD i undef)

section
variable {P:Program}{N:Nat}{ds:List Deferred}{w0:World}{g0:Gh}{h0:Nat→HO}{st:St}{g:Gh}{a:Act}{w:World}

theorem SR.eval(hS:SR N ds w0 g0 h0 st g a w)(x:Operand):BF g w (AK st.h) (ev st.t x) (a.eval x):=by
 cases x with
 |tmp i=>exact hS.slots i
 |const v=>exact .v _ _
 |global b=>exact .v _ _
 |func f=>exact .v _ _
theorem SR.put(hS:SR N ds w0 g0 h0 st g a w){d:Option Nat}(hd:∀i,d=some i→i<N){v:AV}{x:Value}{h' : Nat→HO}{g' : Gh}{w' : World}(hI:Dk w0 g0 h0 h' g' w')(HI:Le st.h g w h' g' w')(hr:BF g' w' (AK h') v x) :
  SR N ds w0 g0 h0 (st.put d v h') g' (a.put d x) w':=by
 have old:∀i,BF g' w' (AK h') (st.t i) (a.tmps.getD i undef):=fun i=>(hS.slots i).le HI;cases d with
 |none=>exact⟨hI,hS.le.trans HI,hS.dfs,hS.size,old⟩
 |some d =>
  have zI:=hd d rfl;refine⟨hI,hS.le.trans HI,hS.dfs,by simp[Act.put,hS.size],fun i=>?_⟩;simp only[St.put,Act.put,HG]
  by_cases e:i=d
  ·subst e
   have:i<a.tmps.size:=by rw[hS.size];exact zI
   simp only[CU,JE];rw[Cp,Array.getElem?_setIfInBounds_self,Aw this];exact hr
  ·simp only[Cc e,D1];rw[Cp,Array.getElem?_setIfInBounds_ne (TP e),←Cp];exact old i

def Yb(w0:World)(g0:Gh)(h0 h:Nat→HO)(g:Gh)(w:World)(K:HK)(next:Value→World→Prop):Prop :=
 ∀v h' g' w' x,K v h'→Dk w0 g0 h0 h' g' w'→Le h g w h' g' w'→BF g' w' (AK h') v x→next x w'

theorem D0{o:Oper}{m:Sem Value}{K:HK}{next:Act→World→Prop}{Q:Exit→Act→World→Prop}(hx:execOp a.eval o=(do pure (Next.value (←m))))(hd:NX P w0 g0 h0 st.h g w m K)
  (hn:Yb w0 g0 h0 st.h g w K fun x w'=>next (a.put o.dst x) w'):o.wp P a w next Q:=by
 obtain⟨x,w',g',av,h',h1,h2,h3,h4,h5⟩:=hd;unfold Oper.wp;rw[hx,Sem.run_bind,h1];exact hn av h' g' w' x h2 h3 h4 h5
theorem Wk{o:Oper}{m:Sem Unit}{K:HK}{next:Act→World→Prop}{Q:Exit→Act→World→Prop}(hx:execOp a.eval o=(do m;pure Next.skip))(hd:dC P w0 g0 h0 st.h g w m K)
  (hn:Yb w0 g0 h0 st.h g w K fun x w'=>next (a.put o.dst x) w'):o.wp P a w next Q:=by
 obtain⟨w',g',h',h1,h2,h3,h4⟩:=hd;unfold Oper.wp;rw[hx,Sem.run_bind,h1];exact hn _ h' g' w' undef h2 h3 h4 (.v _ _)
theorem aJ{o:Oper}{K:HK}{next:Act→World→Prop}{Q:Exit→Act→World→Prop}{v:AV}{x:Value}(hI:Dk w0 g0 h0 st.h g w)(hx:(execOp a.eval o).run P w=.ok (.value x) w)(hk:K v st.h)(hr:BF g w (AK st.h) v x)
  (hn:Yb w0 g0 h0 st.h g w K fun x w'=>next (a.put o.dst x) w'):o.wp P a w next Q:=by
 unfold Oper.wp;rw[hx];exact hn _ _ _ _ _ hk hI (.refl _ _ _) hr

theorem RS{C:(Ending→World→Prop)→Prop}(hm:∀{R R' : Ending→World→Prop},C R→(∀e w,R e w→R' e w)→C R')(hI:Dk w0 g0 h0 st.h g w){Q:AV→(Nat→HO)→Prop}
  (hc:Dk w g Aa Aa g w→C (fun e w'=>∃v r h' g',e=Ending.returned v∧Q r h'∧BF g' w' (AK h') r v∧Dk w g Aa h' g' w'∧Le Aa g w h' g' w')) {R:Ending→World→Prop}
  (hR:∀v r h' g' w',Q r h'→h'=Aa→Dk w0 g0 h0 st.h g' w'→Le st.h g w st.h g' w'→BF g' w' E8 r v→R (.returned v) w') (hQ:∀r h',Q r h'→h'=Aa):C R:=by
 have hU:AK Aa=E8:=by funext i;unfold AK E8 Aa;simp
 have jI:Dk w g Aa Aa g w:=⟨rfl,rfl,rfl,Ak _,fun _ _ _=>rfl,hI.slt,fun _=>trivial,fun _ _ _ h=>h.elim,fun _ _ h=>h.elim,fun _ _ h=>.inl h,hI.glob⟩;refine hm (hc jI) ?_
 rintro e w' ⟨v,r,h',g',rfl,q1,q2,q3,q4⟩
 obtain rfl:=hQ r h' q1;rw[hU]at q2
 -- the caller's ghost,with the callee's stable cells
 have hk:EP g w ⟨g.ρ,g.ln,g.tk,g.own,g'.S⟩ w':=q4.keeps;have hg:JW g ⟨g.ρ,g.ln,g.tk,g.own,g'.S⟩ (AK st.h):=fun _ _=>⟨rfl,Ak _,fun _=>rfl,fun _=>rfl⟩;have iR:∀b,b<w.heap.size→w'.heap[b]?=w.heap[b]?:=fun b hb=>q3.frame b hb (fun _ h=>h.elim);have uf:∀b o,g'.S b o→b<w.heap.size→g.S b o:=fun b o hs hb=>by
  rcases q3.sg b o hs with h1 | h1 | ⟨_,h1,_⟩
  ·exact h1
  ·omega
  ·exact h1.elim
 refine hR v r Aa ⟨g.ρ,g.ln,g.tk,g.own,g'.S⟩ w' q1 rfl ⟨q3.os.trans hI.os,q3.tape.trans hI.tape,q3.output.trans hI.output,Bh hI.size q3.size,fun b hb hn=>?_,q3.slt,fun i=>?_,hI.inj,fun i b hl ho=>?_,fun b o hs=>?_,hI.glob.keep hk⟩ ⟨hg,fun _ h=>h,hk⟩ ?_
 ·exact(iR b (BK hb hI.size)).trans (hI.frame b hb hn)
 ·refine(hI.objs i).same hk (fun _ h=>h) hg rfl rfl rfl rfl (fun b hl ho=>?_);have Dt:=(hI.loc i b hl ho).1;exact⟨iR b Dt,fun k hs=>uf b k hs Dt⟩
 ·obtain⟨h1,h2⟩:=hI.loc i b hl ho;exact⟨BK h1 q3.size,h2⟩
 ·rcases q3.sg b o hs with h1 | h1 | ⟨_,h1,_⟩
  ·exact hI.sg b o h1
  ·exact .inr (.inl (Bh hI.size h1))
  ·exact h1.elim
 ·have:EP g' w' ⟨g.ρ,g.ln,g.tk,g.own,g'.S⟩ w':=fun b o h=>⟨h,rfl,fun _ _ h=>h⟩
  exact q2.mono this (fun _ h=>h) (fun _ h=>h.elim)

theorem bm(hI:Dk w0 g0 h0 st.h g w){f:Nat}{args:List AV}{Q:AV→(Nat→HO)→Prop}(hc:Bn P f args Aa Q){vals:Array Value}(hs:vals.size=args.length)
  (hv:∀(i:Nat) (av:AV) (x:Value),args[i]?=some av→vals[i]?=some x→BF g w E8 av x) {R:Ending→World→Prop}
  (hR:∀v r h' g' w',Q r h'→h'=Aa→Dk w0 g0 h0 st.h g' w'→Le st.h g w st.h g' w'→BF g' w' E8 r v→R (.returned v) w') (hQ:∀r h',Q r h'→h'=Aa):Calls P f vals w R :=
 have hU:AK Aa=E8:=by funext i;unfold AK E8 Aa;simp
 RS (C:=Calls P f vals w) (fun h k=>h.mono k) hI (hc.2 g w vals hs (fun i av x h1 h2=>by rw[hU];exact hv i av x h1 h2)) hR hQ
theorem YieldAt.imp{F:Fence}{m:Nat}{P:Program}{l:Nat}{args:Array Value}{W:World}{R R' : Ending→World→Prop}(h:YieldAt F m P l args W R)(hr:∀e w,R e w→R' e w):YieldAt F m P l args W R' :=
 let ⟨fn,t,a,b,h1,h2⟩:=h
 ⟨fn,t,a,b,h1,h2.mono hr⟩
theorem GH.imp{Y:Gh→World→Prop}{l:Nat}{args:List AV}{h0:Nat→HO}{Q Q' : AV→(Nat→HO)→Prop}(h:GH P Y l args h0 Q)(hq:∀r h',Q r h'→Q' r h'):GH P Y l args h0 Q' :=
 fun g w vals q1 q2 q3 q4=>YieldAt.imp (h g w vals q1 q2 q3 q4) fun _ _ ⟨v,r,h',g',e1,e2,rest⟩=>⟨v,r,h',g',e1,hq _ _ e2,rest⟩
theorem Ga.imp{Y:Nat→Gh→World→Prop}{F:AV}{args:List AV}{h0:Nat→HO}{Q Q' : AV→(Nat→HO)→Prop}(h:Ga P Y F args h0 Q)(hq:∀r h',Q r h'→Q' r h'):Ga P Y F args h0 Q':=by
 have one:∀{f:Nat} {l:List AV},Bn P f l h0 Q→Bn P f l h0 Q':=fun hc =>
  ⟨hc.1,fun g w vals q1 q2 q3=>(hc.2 g w vals q1 q2 q3).mono fun _ _ ⟨v,r,h',g',e1,e2,rest⟩=>⟨v,r,h',g',e1,hq _ _ e2,rest⟩⟩
 unfold Ga at h⊢;split at h
 ·exact one h
 ·exact one h
 ·exact GH.imp h hq
 ·exact h.elim
abbrev IZ(ro:Option Nat):Fence:={ Fence.wide with round:=ro }
theorem Rs{ro:Option Nat}{o:Oper}{a:Act}{w:World}{next:Act→World→Prop}{Q:Exit→Act→World→Prop}(hd:∀c,o.op≠.defer c)(h:o.wp P a w next Q):o.wpIn (IZ ro) 0 P a w next Q:=by
 refine⟨fun _ _=>trivial,?_⟩;have e:o.semAt (IZ ro).round a.eval=execOp a.eval o:=Oper.semAt_eq ro a.eval o hd;rw[e];unfold Oper.wp at h;have key:∀res:Result Next,o.upon P a next Q res→o.uponIn (IZ ro) 0 P a next Q res:=fun res h=>by
  cases res with
  |ok n w'=>cases n with
   |enter f args=>exact(show(_→_)∧CallsIn (IZ ro) 0 P f args w' _ from⟨fun e=>by(cases e),callsIn_wide.2 h⟩)
   |row r args=>exact(show(_→_)∧RowsIn (IZ ro) 0 P r args w' _ from⟨fun e=>by(cases e),fun c cs _=>by
     obtain⟨v,Qb,r',s⟩:=h c cs;exact⟨v,Qb,r',stepsIn_wide.2 s⟩⟩)
   |round _ _ _ _ _=>exact h.elim
   |_=>exact h
  |halt x w'=>cases x<;>exact h
 exact key _ h
theorem F0{f:Nat}{args:Array Value}(h:Gb P f)(w:World):(callFunc f args).run P w=.ok (.enter f args) w:=by
 obtain⟨fn,h1,h2,h3⟩:=h;simp only[callFunc,Sem.run_bind,run_program,h1,Result.andThen_ok,h2,h3,CT,FL,Sem.run_pure]

theorem Tp{h:Nat→HO}{a:AV}(ha:aj a=true):ren (Ch []) h a=str h a:=by
 have h0:∀a,ren0 (Ch []) h a=str0 h a:=fun a=>by
  cases a with
  |slice tk es=>cases tk<;>rfl
  |_=>rfl
 cases a with
 |tup cs=>cases ha
 |agg cs=>show AV.agg _=AV.agg _;exact Ae _ (Be fun c _=>h0 c)
 |clo f cs=>show AV.clo f _=AV.clo f _;exact Ae _ (Be fun c _=>h0 c)
 |v x=>exact h0 (.v x)
 |slice tk es=>exact h0 (.slice tk es)
 |msl r n=>exact h0 (.msl r n)
 |cptr cs=>exact h0 (.cptr cs)
 |ref r o=>exact h0 (.ref r o)
 |eref r n sz i o=>exact h0 (.eref r n sz i o)
 |mref r=>exact h0 (.mref r)
 |cmap sh l=>exact h0 (.cmap sh l)
 |junk=>rfl
theorem PK{h:Nat→HO}:∀{l:List AV},SZ l=true→l.map (ren (Ch []) h)=l.map (str h)
 | [],_=>rfl
 |a::l,e=>by
  unfold SZ at e;split at e
  ·rename_i e1;rw[AM,AM,Tp e1,PK e]
  ·cases e
theorem P0:∀{l:List AV} {vs:List Value},Vg l=some vs→l=vs.map .v
 | [],vs,h=>by cases h;rfl
 |.v x::r,vs,h=>by
  unfold Vg at h;split at h
  ·rename_i l e;cases h;rw[AM,←P0 e]
  ·cases h
theorem bl{cx:Cx}{d:Option Nat}{st:St}{F:AV}{args:List AV}{K:HK}(hk:Gm cx true d st F args K):Gm cx false d st F args K:=by
 unfold Gm at hk;simp only at hk;split at hk
 ·exact⟨.pure,hk⟩
 ·split at hk
  ·exact hk.elim
  ·rename_i d _;obtain⟨n,sz,es,h1,h2,h3⟩:=hk;simp only[Af]at h1;refine⟨.gen [] 1,?_⟩;show(DZ []&&Dq st.h d 1&&CZ [] d 1)=true∧_;refine⟨by simp[DZ,CZ,h1.1.1],?_⟩;rw[Tp h1.1.2,PK h1.2];show Ga cx.P (fun l=>cx.yp l []) _ _ Aa _;refine Ga.imp h2 ?_
   rintro r h' ⟨e2,e3⟩
   subst e2;subst e3;have e1:ren (E7 [] d 1) (Ad [(2000,.arr sz es)] Aa) (.msl 2000 n)=.msl (Bu d 0) n:=rfl;have e2:D2 [] d 1 st.h (Ad [(2000,.arr sz es)] Aa)=AT st.h (Bu d 0) (.arr sz es):=by
    funext i
    by_cases e:i=Bu d 0
    ·subst e;rw[A9];have hb:(Nat.ble (Bu d 0) (Bu d 0)&&Nat.blt (Bu d 0) (Bu d 1))=true:=by
      unfold Bu;simp only[Af,C3,Cg];omega
     simp only[D2,Ch,hb,Is];rfl
    ·rw[B3 _ _ _ _ e]
     have:(Nat.ble (Bu d 0) i&&Nat.blt i (Bu d 1))=false:=by
      unfold Bu at e⊢;rw[AL];simp only[UU,Af,C3,Cg];omega
     simp only[D2,Ch,this]
   rw[e1,e2];exact h3
 ·split at hk
  ·unfold TE at hk;split at hk
   ·exact hk.elim
   ·rename_i d _;obtain⟨sz,es,h1,h2,h3⟩:=hk;simp only[Af]at h1;refine⟨.gen [] 1,?_⟩;show(DZ []&&Dq st.h d 1&&CZ [] d 1)=true∧_;refine⟨by simp[DZ,CZ,h1.1.1],?_⟩;rw[Tp h1.1.2,PK h1.2];show Ga cx.P (fun l=>cx.yp l []) _ _ Aa _;refine Ga.imp h2 ?_
    rintro r h' ⟨e2,e3⟩
    subst e2;subst e3;have e1:ren (E7 [] d 1) (Ad [(2000,.tok sz es.length)] Aa) (.slice (.id 2000 sz) es)=.slice (.id (Bu d 0) sz) es:=rfl;have e2:D2 [] d 1 st.h (Ad [(2000,.tok sz es.length)] Aa)=AT st.h (Bu d 0) (.tok sz es.length):=by
     funext i
     by_cases e:i=Bu d 0
     ·subst e;rw[A9];have hb:(Nat.ble (Bu d 0) (Bu d 0)&&Nat.blt (Bu d 0) (Bu d 1))=true:=by
       unfold Bu;simp only[Af,C3,Cg];omega
      simp only[D2,Ch,hb,Is];rfl
     ·rw[B3 _ _ _ _ e]
      have:(Nat.ble (Bu d 0) i&&Nat.blt i (Bu d 1))=false:=by
       unfold Bu at e⊢;rw[AL];simp only[UU,Af,C3,Cg];omega
      simp only[D2,Ch,this]
    rw[e1,e2];exact h3
  split at hk
  ·unfold Qc at hk;split at hk
   ·rename_i d l vs e2 z1;have hl:=P0 e2;split at hk
    ·rename_i r sz es la n e3 e4;obtain⟨⟨rfl,rfl⟩,v,EA,n',h1,h2⟩:=hk;refine⟨.gen [(1000,1000),(1001,1001)] 0,?_⟩;show(DZ [(1000,1000),(1001,1001)]&&Dq st.h d 0&&CZ [(1000,1000),(1001,1001)] d 0)=true∧_;refine⟨?_,?_⟩
     ·have:CZ [(1000,1000),(1001,1001)] d 0=true:=by
       have q:∀r:Nat,(Nat.ble (Bu d 0) r&&Nat.blt r (Bu d 0))=false:=fun r=>by
        rw[AL];simp only[UU,Af,C3,Cg];omega
       simp only[CZ,q,Bool.not_false,Bool.and_self]
      rw[this];rfl
     have f1:args.map (ren (Ch [(1000,1000),(1001,1001)]) st.h)=vs.map .v:=by rw[hl,BW];rfl
     have f2:E3 [(1000,1000),(1001,1001)] st.h=Ad [(1000,.cells [.slice (.id 1001 la) es]),(1001,.tok la n)] Aa:=by
      unfold E3 Wb Wb Wb;rw[e3,e4];rfl
     rw[f1,f2];refine GH.imp h1 ?_
     rintro r h' ⟨g1,g2⟩
     subst g1;subst g2;have f3:D2 [(1000,1000),(1001,1001)] d 0 st.h (Ad [(1000,.cells [.slice (.id 1001 la) EA]),(1001,.tok la n')] Aa)=AT (AT st.h 1001 (.tok la n')) 1000 (.cells [.slice (.id 1001 la) EA]):=by
      funext i
      by_cases e:i=1000
      ·subst e;rw[A9];rfl
      ·rw[B3 _ _ _ _ e]
       by_cases e' : i=1001
       ·subst e';rw[A9];rfl
       ·rw[B3 _ _ _ _ e'];have hn:Ch [(1000,1000),(1001,1001)] i=none:=by simp[Ch,Cc (Ne.symm e),Cc (Ne.symm e')]
        have:(Nat.ble (Bu d 0) i&&Nat.blt i (Bu d 0))=false:=by
         rw[AL];simp only[UU,Af,C3,Cg];omega
        simp only[D2,hn,this]
     rw[f3];exact h2
    ·exact hk.elim
   ·exact hk.elim
  unfold OS at hk;split at hk
  ·unfold W4 at hk;split at hk
   ·rename_i d f _;obtain⟨σ,H0,Hn,args',res,g1,g2,g3,g4⟩:=hk;simp only[Af]at g2;obtain⟨k1,k2⟩:=g1 st.h fun _ _=>rfl;refine⟨.gen σ 0,?_⟩;show(DZ σ&&Dq st.h d 0&&CZ σ d 0)=true∧_;refine⟨by rw[g2.1.1,g2.1.2];rfl,?_⟩;rw[k1,k2];refine Ga.imp (show Ga cx.P (fun l=>cx.yp l σ) (.v (.func (.func f) ⟨[]⟩ ⟨[]⟩)) args' (Ad H0 Aa) (fun r h'=>r=res∧h'=Ad Hn Aa)from g3) ?_
    rintro r h' ⟨e1,e2⟩
    rw[e1,e2];exact g4
   ·exact hk.elim
  unfold QO at hk;split at hk
  ·rename_i dd f r n l _;split at hk
   ·rename_i vs ZW;have hl:=P0 ZW;subst hl;split at hk
    ·rename_i sz es hr;have hf:Ch [(r,1000)] r=some 1000:=by simp[Ch]
     have e1:ren (Ch [(r,1000)]) st.h (.v (.func (.func f) ⟨[]⟩ ⟨[]⟩))=.v (.func (.func f) ⟨[]⟩ ⟨[]⟩):=rfl;have e2:(AV.msl r n::vs.map AV.v).map (ren (Ch [(r,1000)]) st.h)=.msl 1000 n::vs.map .v:=by
      rw[AM]
      congr 1
      ·simp[ren,ren1,ren0,hf]
      ·rw[BW];rfl
     have e3:E3 [(r,1000)] st.h=Ad [(1000,.arr sz es)] Aa:=by
      unfold E3 Wb;rw[hr];rfl
     split at hk
     ·obtain⟨n',EA,h1,h2⟩:=hk;refine⟨.gen [(r,1000)] 0,?_⟩;show(DZ [(r,1000)]&&Dq st.h dd 0&&CZ [(r,1000)] dd 0)=true∧_;refine⟨?_,?_⟩
      ·have:CZ [(r,1000)] dd 0=true:=by
        unfold CZ
        have:(Nat.ble (Bu dd 0) r&&Nat.blt r (Bu dd 0))=false:=by
         rw[AL];simp only[UU,Af,C3,Cg];omega
        rw[this];rfl
       rw[this];rfl
      rw[e1,e2,e3];refine⟨h1.1,fun g w vals q1 q2 q3=>(h1.2 g w vals q1 q2 q3).mono fun _ _ ⟨v,r',h',g',e1,⟨e2,e3⟩,rest⟩=>⟨v,r',h',g',e1,?_,rest⟩⟩;subst e2;subst e3;have f1:ren (E7 [(r,1000)] dd 0) (Ad [(1000,.arr sz EA)] Aa) (.msl 1000 n')=.msl r n':=rfl;have f2:D2 [(r,1000)] dd 0 st.h (Ad [(1000,.arr sz EA)] Aa)=AT st.h r (.arr sz EA):=by
       funext i
       by_cases e:i=r
       ·subst e;rw[A9];simp[D2,hf,Ad,HO.ren]
       ·rw[B3 _ _ _ _ e];have hn:Ch [(r,1000)] i=none:=by simp[Ch,Cc (Ne.symm e)]
        have:(Nat.ble (Bu dd 0) i&&Nat.blt i (Bu dd 0))=false:=by
         rw[AL];simp only[UU,Af,C3,Cg];omega
        simp only[D2,hn,this]
      rw[f1,f2];exact h2
     ·obtain⟨n',EA,h0,h1,h2⟩:=hk;simp only[Af,Cg,CN]at h0;have vg:r≠Bu dd 0:=fun e=>by have:=h0.2;rw[e]at this;simp at this
      refine⟨.gen [(r,1000)] 1,?_⟩;show(DZ [(r,1000)]&&Dq st.h dd 1&&CZ [(r,1000)] dd 1)=true∧_;refine⟨?_,?_⟩
      ·have:CZ [(r,1000)] dd 1=true:=by
        unfold CZ
        have:(Nat.ble (Bu dd 0) r&&Nat.blt r (Bu dd 1))=false:=by
         rw[AL];simp only[UU,Af,C3,Cg];unfold Bu at vg⊢;omega
        rw[this];rfl
       rw[this,h0.1.1];rfl
      rw[e1,e2,e3];refine⟨h1.1,fun g w vals q1 q2 q3=>(h1.2 g w vals q1 q2 q3).mono fun _ _ ⟨v,r',h',g',e1,⟨e2,e3⟩,rest⟩=>⟨v,r',h',g',e1,?_,rest⟩⟩;subst e2;subst e3;have f1:ren (E7 [(r,1000)] dd 1) (Ad [(1000,.dead),(2000,.arr sz EA)] Aa) (.msl 2000 n')=.msl (Bu dd 0) n':=rfl;have f2:D2 [(r,1000)] dd 1 st.h (Ad [(1000,.dead),(2000,.arr sz EA)] Aa)=AT (AT st.h r .dead) (Bu dd 0) (.arr sz EA):=by
       funext i
       by_cases e:i=Bu dd 0
       ·subst e;rw[A9];have hn:Ch [(r,1000)] (Bu dd 0)=none:=by simp[Ch,Cc vg]
        have hb:(Nat.ble (Bu dd 0) (Bu dd 0)&&Nat.blt (Bu dd 0) (Bu dd 1))=true:=by
         unfold Bu;simp only[Af,C3,Cg];omega
        simp only[D2,hn,hb,Is];rfl
       ·rw[B3 _ _ _ _ e]
        by_cases e4:i=r
        ·subst e4;rw[A9];simp[D2,hf,Ad,HO.ren]
        ·rw[B3 _ _ _ _ e4];have hn:Ch [(r,1000)] i=none:=by simp[Ch,Cc (Ne.symm e4)]
         have:(Nat.ble (Bu dd 0) i&&Nat.blt i (Bu dd 1))=false:=by
          rw[AL];simp only[UU,Af,C3,Cg];unfold Bu at e⊢;omega
         simp only[D2,hn,this]
      rw[f1,f2];exact h2
    ·exact hk.elim
   ·exact hk.elim
  ·exact hk.elim
theorem dW{cx:Cx}{dr:Bool}{d:Option Nat}{f:Operand}{args:Array Operand}{GY:Array TypeId}{dst:Option Nat}{ty:Nat}{pos:String}{after:Array Edge}{gd:Option (Nat×Bool)}{K:HK}{next:Act→World→Prop}{Q:Exit→Act→World→Prop}
  (hP:cx.P=P) (hY:∀l σ h g w,DZ σ=true→Dk w0 g0 h0 h g w→Le h0 g0 w0 h g w→cx.yp l σ (CA σ g) w) {ro:Option Nat} (hS:SR N ds w0 g0 h0 st g a w) (hk:Gm cx dr d st (ev st.t f) (args.toList.map (ev st.t)) K)
  (hn:Yb w0 g0 h0 st.h g w K fun x w'=>next (a.put dst x) w'):Oper.wpIn (IZ ro) 0 P ⟨dst,.call ⟨.value f,args,GY⟩,ty,pos,after,gd⟩ a w next Q:=by
 subst hP;have hk:Gm cx false d st (ev st.t f) (args.toList.map (ev st.t)) K:=by
  cases dr with
  |true=>exact bl hk
  |false=>exact hk
 have Jc:∀(i:Nat) (av:AV) (x:Value),((args.toList.map (ev st.t)).map (str st.h))[i]?=some av→(args.map a.eval)[i]?=some x→BF g w E8 av x:=by
  intro i av x h1 h2;rw[AH,AH]at h1;rw[NW]at h2;cases ho:args[i]? with
  |none=>rw[ho]at h2;simp at h2
  |some y =>
   rw[ho]at h2;have hy:args.toList[i]?=some y:=by simpa using ho
   rw[hy]at h1;simp only[Gl,Bq]at h1 h2;subst h1;subst h2;exact BF.str hS.inv.objs (hS.eval y)
 have CM:(args.map a.eval).size=((args.toList.map (ev st.t)).map (str st.h)).length:=by simp
 have hF:=BF.str hS.inv.objs (hS.eval f)
 -- a call of yield
 have yl:∀(l:Nat) (R:Ending→World→Prop),a.eval f=.func (.yield l) #[] #[]→YieldAt Fence.wide 0 cx.P l (args.map a.eval) w R→(∀e w',R e w'→∃v,e=.returned v∧next (a.put dst v) w') →
   Oper.wpIn (IZ ro) 0 cx.P ⟨dst,.call ⟨.value f,args,GY⟩,ty,pos,after,gd⟩ a w next Q:=by
  rintro l R hx ⟨fn,tm,Eb,bd,h1,h2⟩ hR
  refine⟨fun _ _=>trivial,?_⟩;have e:(⟨dst,.call ⟨.value f,args,GY⟩,ty,pos,after,gd⟩:Oper).semAt (IZ ro).round a.eval=execOp a.eval ⟨dst,.call ⟨.value f,args,GY⟩,ty,pos,after,gd⟩:=Oper.semAt_eq ro a.eval _ (fun c e=>by cases e);have CV:(execOp a.eval ⟨dst,.call ⟨.value f,args,GY⟩,ty,pos,after,gd⟩).run cx.P w=.ok (.round l fn tm Eb bd) w:=by
   simp only[execOp,resolve,hx,Deferred.ofValue,Sem.run_bind,Sem.run_pure,Result.andThen_ok,invoke];simpa using h1
  rw[e,CV];refine(show(_→_)∧RoundIn (IZ ro) 0 cx.P l fn tm Eb bd w _ from⟨fun e=>by(cases e),RoundIn.mono h2 fun e w' h=>?_⟩);obtain⟨v,rfl,hn⟩:=hR e w' h;exact hn
 -- the call itself
 have go:∀(Q' : AV→(Nat→HO)→Prop),(∀r h',Q' r h'→h'=Aa∧K r st.h)→Ga cx.P (fun _ _ _=>True) (str st.h (ev st.t f)) ((args.toList.map (ev st.t)).map (str st.h)) Aa Q' →
   Oper.wpIn (IZ ro) 0 cx.P ⟨dst,.call ⟨.value f,args,GY⟩,ty,pos,after,gd⟩ a w next Q:=by
  intro Q' hQ hc
  have fin:∀{fn:Nat} {l:List AV} {vals:Array Value},Bn cx.P fn l Aa Q'→vals.size=l.length→(∀(i:Nat) (av:AV) (x:Value),l[i]?=some av→vals[i]?=some x→BF g w E8 av x) →
    (execOp a.eval ⟨dst,.call ⟨.value f,args,GY⟩,ty,pos,after,gd⟩).run cx.P w=.ok (.enter fn vals) w→Oper.wpIn (IZ ro) 0 cx.P ⟨dst,.call ⟨.value f,args,GY⟩,ty,pos,after,gd⟩ a w next Q:=by
   intro fn l vals hc hs hv CV;refine Rs (fun c e=>by cases e) ?_;unfold Oper.wp;rw[CV];exact bm hS.inv hc hs hv (fun v r h' g' w' hq _ hI HI hr=>hn r _ g' w' v (hQ r h' hq).2 hI HI (hr.up _)) (fun r h' hq=>(hQ r h' hq).1)
  unfold Ga at hc;split at hc
  ·rename_i fn e;rw[e]at hF;have hx:=hF.v_eq;refine fin hc CM Jc ?_;have L6 : a.eval f=.func (.func fn) #[] #[]:=hx;simp only[execOp,resolve,L6,Deferred.ofValue,Sem.run_bind,Sem.run_pure,Result.andThen_ok,invoke];rw[F0 hc.1];simp
  ·rename_i fn caps e;rw[e]at hF;generalize hx:a.eval f=fv at hF;cases hF with
   |clo _ _ _ vs Ew MN =>
    refine fin hc (vals:=args.map a.eval++vs) (by simp[Ew]) (fun i av x h1 h2=>?_) ?_
    ·rw[LK]at h1;rw[EO]at h2;have hl:((args.toList.map (ev st.t)).map (str st.h)).length=(args.map a.eval).size:=CM.symm;rw[hl]at h1;split at h1
     ·rename_i hi;rw[Aw hi]at h2;exact Jc i av x h1 h2
     ·rename_i hi;rw[Am hi]at h2;exact MN _ av x h1 h2
    ·simp only[execOp,resolve,hx,Deferred.ofValue,Sem.run_bind,Sem.run_pure,Result.andThen_ok,invoke];rw[F0 hc.1];simp
  ·rename_i l e;rw[e]at hF;have hU:AK Aa=E8:=by funext i;unfold AK E8 Aa;simp
   refine yl l _ hF.v_eq (RS (C:=YieldAt Fence.wide 0 cx.P l (args.map a.eval) w) (R:=fun e w'=>∃v,e=.returned v∧next (a.put dst v) w') YieldAt.imp hS.inv (fun jI=>hc g w _ CM (fun i av x h1 h2=>by rw[hU];exact Jc i av x h1 h2) jI trivial)
    (fun v r h' g' w' hq _ hI HI hr=>⟨v,rfl,hn r _ g' w' v (hQ r h' hq).2 hI HI (hr.up _)⟩) (fun r h' hq=>(hQ r h' hq).1)) fun _ _ h=>h
  ·exact hc.elim
 have pure:(∃res,O8 cx.P (str st.h (ev st.t f)) ((args.toList.map (ev st.t)).map (str st.h)) res∧K res st.h)→Oper.wpIn (IZ ro) 0 cx.P ⟨dst,.call ⟨.value f,args,GY⟩,ty,pos,after,gd⟩ a w next Q:=by
  rintro⟨res,h1,h2⟩
  refine go (fun r h'=>r=res∧h'=Aa) (fun r h' hq=>⟨hq.2,by rw[hq.1];exact h2⟩) ?_;unfold O8 at h1;unfold Ga;split at h1
  ·rename_i fn e;rw[e];exact h1
  ·rename_i fn caps e;rw[e];exact h1
  ·exact h1.elim
 unfold Gm at hk
 ·obtain⟨m,hm⟩:=hk;cases m with
  |pure=>exact pure hm
  |rel=>exact go _ (fun r h' hq=>hq) hm
  |gen σ nn =>
   simp only at hm;cases d with
   |none=>exact hm.elim
   |some d =>
    simp only at hm;obtain⟨F3,hc⟩:=hm;have hσ:DZ σ=true:=by simp only[Af]at F3;exact F3.1.1
    obtain⟨hR,_⟩:=Sv hS.inv hσ;have fg:=(hS.eval f).ren hR;have Sx:∀(i:Nat) (av:AV) (x:Value),((args.toList.map (ev st.t)).map (ren (Ch σ) st.h))[i]?=some av→(args.map a.eval)[i]?=some x→BF (CA σ g) w (AK (E3 σ st.h)) av x:=by
     intro i av x h1 h2;rw[AH,AH]at h1;rw[NW]at h2;cases ho:args[i]? with
     |none=>rw[ho]at h2;simp at h2
     |some y =>
      rw[ho]at h2;have hy:args.toList[i]?=some y:=by simpa using ho
      rw[hy]at h1;simp only[Gl,Bq]at h1 h2;subst h1;subst h2;exact(hS.eval y).ren hR
    have SD:(args.map a.eval).size=((args.toList.map (ev st.t)).map (ren (Ch σ) st.h)).length:=by simp
    have fin:∀{fn:Nat} {l:List AV} {vals:Array Value},Bn cx.P fn l (E3 σ st.h) (fun r h'=>K (ren (E7 σ d nn) h' r) (D2 σ d nn st.h h'))→vals.size=l.length →
      (∀(i:Nat) (av:AV) (x:Value),l[i]?=some av→vals[i]?=some x→BF (CA σ g) w (AK (E3 σ st.h)) av x) →
      (execOp a.eval ⟨dst,.call ⟨.value f,args,GY⟩,ty,pos,after,gd⟩).run cx.P w=.ok (.enter fn vals) w→Oper.wpIn (IZ ro) 0 cx.P ⟨dst,.call ⟨.value f,args,GY⟩,ty,pos,after,gd⟩ a w next Q:=by
     intro fn l vals hc hs hv CV;refine Rs (fun c e=>by cases e) ?_;unfold Oper.wp;rw[CV];exact dX hS.inv F3 hc hs hv (fun v r h' g' w' hq hI HI hr=>hn _ _ g' w' v hq hI HI hr)
    unfold Ga at hc;split at hc
    ·rename_i fn e;rw[e]at fg;have hx:a.eval f=.func (.func fn) #[] #[]:=fg.v_eq;refine fin hc SD Sx ?_;simp only[execOp,resolve,hx,Deferred.ofValue,Sem.run_bind,Sem.run_pure,Result.andThen_ok,invoke];rw[F0 hc.1];simp
    ·rename_i fn caps e;rw[e]at fg;generalize hx:a.eval f=fv at fg;cases fg with
     |clo _ _ _ vs Ew MN =>
      refine fin hc (vals:=args.map a.eval++vs) (by simp[Ew]) (fun i av x h1 h2=>?_) ?_
      ·rw[LK]at h1;rw[EO]at h2;have hl:((args.toList.map (ev st.t)).map (ren (Ch σ) st.h)).length=(args.map a.eval).size:=SD.symm;rw[hl]at h1;split at h1
       ·rename_i hi;rw[Aw hi]at h2;exact Sx i av x h1 h2
       ·rename_i hi;rw[Am hi]at h2;exact MN _ av x h1 h2
      ·simp only[execOp,resolve,hx,Deferred.ofValue,Sem.run_bind,Sem.run_pure,Result.andThen_ok,invoke];rw[F0 hc.1];simp
    ·rename_i l e;rw[e]at fg
     exact yl l _ fg.v_eq (Kl (C:=YieldAt Fence.wide 0 cx.P l (args.map a.eval) w) (R:=fun e w'=>∃v,e=.returned v∧next (a.put dst v) w') YieldAt.imp hS.inv F3 (fun jI=>hc (CA σ g) w _ SD Sx jI (hY l σ _ _ _ hσ hS.inv hS.le))
      (fun v r h' g' w' hq hI HI hr=>⟨v,rfl,hn _ _ g' w' v hq hI HI hr⟩)) fun _ _ h=>h
    ·exact hc.elim
  |geny σ nn =>
   simp only at hm;cases d with
   |none=>exact hm.elim
   |some d =>
    simp only at hm;obtain⟨F3,hc⟩:=hm;have hσ:DZ σ=true:=by simp only[Af]at F3;exact F3.1.1
    obtain⟨hR,_⟩:=Sv hS.inv hσ;have fg:=(hS.eval f).ren hR;have Sx:∀(i:Nat) (av:AV) (x:Value),((args.toList.map (ev st.t)).map (ren (Ch σ) st.h))[i]?=some av→(args.map a.eval)[i]?=some x→BF (CA σ g) w (AK (E3 σ st.h)) av x:=by
     intro i av x h1 h2;rw[AH,AH]at h1;rw[NW]at h2;cases ho:args[i]? with
     |none=>rw[ho]at h2;simp at h2
     |some y =>
      rw[ho]at h2;have hy:args.toList[i]?=some y:=by simpa using ho
      rw[hy]at h1;simp only[Gl,Bq]at h1 h2;subst h1;subst h2;exact(hS.eval y).ren hR
    have SD:(args.map a.eval).size=((args.toList.map (ev st.t)).map (ren (Ch σ) st.h)).length:=by simp
    split at hc
    ·rename_i fn caps e;rw[e]at fg;generalize hx:a.eval f=fv at fg;cases fg with
     |clo _ _ _ vs Ew MN =>
      have CV:(execOp a.eval ⟨dst,.call ⟨.value f,args,GY⟩,ty,pos,after,gd⟩).run cx.P w=.ok (.enter fn (args.map a.eval++vs)) w:=by
       simp only[execOp,resolve,hx,Deferred.ofValue,Sem.run_bind,Sem.run_pure,Result.andThen_ok,invoke];rw[F0 hc.1];simp
      refine Rs (fun c e=>by cases e) ?_;unfold Oper.wp;rw[CV];refine Kl (C:=Calls cx.P fn (args.map a.eval++vs) w) (fun h k=>h.mono k) hS.inv F3 (fun jI=>hc.2 (CA σ g) w _ (by simp[Ew]) (fun i av x h1 h2=>?_) jI (fun l=>hY l σ _ _ _ hσ hS.inv hS.le)) (fun v r h' g' w' hq hI HI hr=>hn _ _ g' w' v hq hI HI hr);rw[LK]at h1;rw[EO]at h2;have hl:((args.toList.map (ev st.t)).map (ren (Ch σ) st.h)).length=(args.map a.eval).size:=SD.symm;rw[hl]at h1;split at h1
      ·rename_i hi;rw[Aw hi]at h2;exact Sx i av x h1 h2
      ·rename_i hi;rw[Am hi]at h2;exact MN _ av x h1 h2
    ·exact hc.elim
end
end Go.Eng
