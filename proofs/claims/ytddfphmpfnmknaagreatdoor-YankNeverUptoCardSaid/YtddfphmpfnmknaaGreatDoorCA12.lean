/- Lemmas for the claims of this seat, without a condition: part 12 (EngZ1, EngZ2, EngZA). -/
import Derived.Test.YtddfphmpfnmknaaGreatDoorCA11
namespace Go.Eng
theorem Wj:∀{σ:IR},GE σ=true→∀i j,Cf σ i=some j↔HF σ j=some i
 | [],_,i,j=>by simp[Cf,HF]
 |(a,b)::r,h,i,j=>by
  simp only[GE,Af]at h;obtain⟨h1,h2⟩:=h;have ih:=Wj h2;have iV:Cf r a=none∧HF r b=none:=by
   split at h1
   ·rename_i e1 e2;exact⟨e1,e2⟩
   ·cases h1
  unfold Cf HF
  by_cases e1:a=i<;>by_cases e2:b=j
  ·subst e1;subst e2;simp
  ·subst e1;simp only[CK,JG,Cw e2,El];constructor
   ·intro h;cases h;exact absurd rfl e2
   ·intro h;rw[(ih a j).2 h]at iV;cases iV.1
  ·subst e2;simp only[CK,JG,Cw e1,El];constructor
   ·intro h;rw[(ih i b).1 h]at iV;cases iV.2
   ·intro h;cases h;exact absurd rfl e1
  ·simp only[Cw e1,Cw e2,El];exact ih i j
theorem gQ:∀{σ:IR},Ek σ=true→GE σ=true
 | [],_=>rfl
 |(a,b)::r,h=>by
  simp only[Ek,Af]at h;simp only[GE,Af];exact⟨h.1.1.1,gQ h.2⟩
theorem Wv{σ:IR}(h:Ek σ=true):∀i j,Cf σ i=some j↔HF σ j=some i:=Wj (gQ h)
theorem Vd:∀{σ:IR},Ek σ=true→∀{i j},Cf σ i=some j→1000≤j∧j<2000
 | [],_,i,j,h=>by simp[Cf]at h
 |(a,b)::r,h,i,j,hf=>by
  simp only[Ek,Af,CT,Ca]at h;unfold Cf at hf
  by_cases e1:a=i
  ·subst e1;simp only[CK,JG]at hf;cases hf;exact⟨h.1.1.2,h.1.2⟩
  ·simp only[Cw e1,El]at hf;exact Vd h.2 hf
theorem OY(f:Nat→Option Nat)(h:Nat→HO):∀(σ:IR) (j:Nat),Ai (Wu f h σ) Aa j=match HF σ j with | some i=>(h i).ren f h | none=>.free
 | [],j=>rfl
 |(a,b)::r,j=>by
  unfold Wu Ai HF
  by_cases e:b=j
  ·subst e;simp
  ·simp only[Cw e,Cw (TZ e),El];exact OY f h r j
structure Km(f:Nat→Option Nat)(h h2:Nat→HO)(g g2:Gh)(w:World):Prop where
 ids:∀r r',f r=some r'→AP h r→g2.tk r'=g.tk r∧g2.ln r'=g.ln r∧g2.ρ r'=g.ρ r∧g2.own r'=g.own r∧AP h2 r'
 S:∀b o,g2.S b o↔g.S b o
 objs:∀r,D8 g w (AP h) r (h r)
section
variable {f:Nat→Option Nat}{h h2:Nat→HO}{g g2:Gh}{w:World}
theorem Km.keeps(hR:Km f h h2 g g2 w):EE g w g2 w:=fun b o hs=>⟨(hR.S b o).2 hs,rfl,fun _ _ e=>e⟩
theorem Km.noU(hR:Km f h h2 g g2 w){av:AV}{x:Value}(r:BD g w Fg av x):BD g2 w (AP h2) av x:=r.mono hR.keeps (fun _ h=>h.elim) (fun _ h=>h.elim)
theorem BD.ren0(hR:Km f h h2 g g2 w){av:AV}{x:Value}(r:BD g w (AP h) av x):BD g2 w (AP h2) (ren0 f h av) x:=by
 have down:BD g2 w (AP h2) (Eng.str0 h av) x:=hR.noU (BD.str0 hR.objs r);cases av with
 |v y=>exact down
 |slice tk es =>
  cases tk with
  |none=>exact down
  |full sz=>exact down
  |id i sz =>
   simp only[Eng.ren0];split
   ·rename_i i' e;cases r with
    |tok _ _ _ _ _ hs hl hu ht hn hx =>
     obtain⟨k1,k2,k3,k4,k5⟩:=hR.ids i i' e hu;exact .tok _ i' sz es x (hR.noU (BD.slice_none hs)) hl k5 (k1.trans ht) (by omega) (fun q=>by rw[k3];exact hx (by omega))
   ·exact hR.noU r.slice_none
  |ver i sz v =>
   simp only[Eng.ren0];split
   ·rename_i i' e;cases r with
    |ver _ _ _ _ _ _ hs hl hu ht hn hx =>
     obtain⟨k1,k2,k3,k4,k5⟩:=hR.ids i i' e hu;exact .ver _ i' sz v es x (hR.noU (BD.slice_none hs)) hl k5 (k1.trans ht) (by omega) (fun q=>by rw[k3];exact hx (by omega))
   ·exact hR.noU r.slice_none
 |msl i n =>
  simp only[Eng.ren0];split
  ·rename_i i' e;cases r with
   |msl _ _ _ a cap hu ht hn ha hx =>
    obtain⟨k1,k2,k3,k4,k5⟩:=hR.ids i i' e hu;exact .msl _ i' n a cap k5 (k1.trans ht) (by omega) ha (fun q=>by rw[k3];exact hx (by omega))
  ·exact .junk _ _
 |agg cs=>exact down
 |tup cs=>exact down
 |cptr cs=>exact down
 |ref i off =>
  simp only[Eng.ren0];split
  ·rename_i i' e;cases r with
   |ref _ _ _ b hu ht hx =>
    obtain⟨k1,k2,k3,k4,k5⟩:=hR.ids i i' e hu;exact .ref _ i' off b k5 (k1.trans ht) (k3.trans hx)
  ·exact down
 |eref i n sz k off =>
  simp only[Eng.ren0];split
  ·rename_i i' e;cases r with
   |eref _ _ _ _ _ _ b cap hu ht hn hx =>
    obtain⟨k1,k2,k3,k4,k5⟩:=hR.ids i i' e hu;exact .eref _ i' n sz k off b cap k5 (k1.trans ht) ⟨hn.1,by omega⟩ (fun q=>by rw[k3];exact hx (by omega))
  ·exact .junk _ _
 |mref i =>
  simp only[Eng.ren0];split
  ·rename_i i' e;cases r with
   |mref _ _ b hu ht hx =>
    obtain⟨k1,k2,k3,k4,k5⟩:=hR.ids i i' e hu;exact .mref _ i' b k5 (k1.trans ht) (k3.trans hx)
  ·exact down
 |cmap sh BW=>exact down
 |clo i cs=>exact down
 |junk=>exact down
theorem BD.ren1(hR:Km f h h2 g g2 w){av:AV}{x:Value}(r:BD g w (AP h) av x):BD g2 w (AP h2) (ren1 f h av) x:=by
 cases av with
 |agg cs =>
  cases r with
  |agg _ _ vs hs h1 hr =>
   exact .agg _ _ vs (by simp[hs]) h1 fun i av x q1 q2=>by
    rw[AF]at q1;obtain⟨a,q3,rfl⟩:=AS.1 q1;exact(hr i a x q3 q2).ren0 hR
 |clo i cs =>
  cases r with
  |clo _ _ _ vs hs hr =>
   exact .clo _ _ _ vs (by simp[hs]) fun i av x q1 q2=>by
    rw[AF]at q1;obtain⟨a,q3,rfl⟩:=AS.1 q1;exact(hr i a x q3 q2).ren0 hR
 |_=>exact r.ren0 hR
theorem BD.ren(hR:Km f h h2 g g2 w){av:AV}{x:Value}(r:BD g w (AP h) av x):BD g2 w (AP h2) (ren f h av) x:=by
 cases av with
 |tup cs =>
  cases r with
  |tup _ _ vs hs hr =>
   exact .tup _ _ vs (by simp[hs]) fun i av x q1 q2=>by
    rw[AF]at q1;obtain⟨a,q3,rfl⟩:=AS.1 q1;exact(hr i a x q3 q2).ren1 hR
 |_=>exact r.ren1 hR
theorem Mh(f:Nat→Option Nat)(h:Nat→HO)(o:HO):(o.ren f h).live↔o.live:=by cases o<;>exact Ql
theorem Mi(f:Nat→Option Nat)(h:Nat→HO)(o:HO):o.ren f h≠.free↔o≠.free:=by cases o<;>simp[HO.ren]
theorem D8.ren(hR:Km f h h2 g g2 w){i j:Nat}(Pk:f i=some j)(hu:AP h i){o:HO}(r:D8 g w (AP h) i o):D8 g2 w (AP h2) j (o.ren f h):=by
 obtain⟨k1,k2,k3,k4,k5⟩:=hR.ids i j Pk hu;have yr:∀{cs:List AV} {vs:List Value},Ct g w Fg cs vs→Ct g2 w Fg cs vs:=fun hr=>hr.mono hR.keeps (fun _ h=>h) (fun _ h=>h.elim);have sU:∀{av:AV} {x:Value},BD g w Fg av x→BD g2 w Fg av x:=fun hr=>hr.mono hR.keeps (fun _ h=>h) (fun _ h=>h.elim);cases o with
 |free=>trivial
 |dead=>trivial
 |cells cs =>
  obtain⟨t,b,E,vs,a1,a2,a3,a4,a5⟩:=r;refine⟨k1.trans t,b,E,vs,k4.trans a1,k3.trans a2,a3,⟨by simp[a4.1],a4.2.1,fun i av x q1 q2=>?_⟩,fun o ho=>a5 o ((hR.S b o).1 ho)⟩;rw[AF]at q1;obtain⟨a,q3,rfl⟩:=AS.1 q1;exact(a4.2.2 i a x q3 q2).ren1 hR
 |ro cs =>
  obtain⟨t,b,a1,a2⟩:=r;exact⟨k1.trans t,b,k3.trans a1,sU a2⟩
 |tok sz n =>
  obtain⟨t,l,a,cap,a1,a2⟩:=r;refine⟨k1.trans t,k2.trans l,a,cap,k3.trans a1,?_⟩;rcases a2 with ⟨b1,b2⟩ | ⟨b1,b,E,vs,off,b2,b3,b4,b5,b6⟩
  ·exact .inl ⟨b1,k4.trans b2⟩
  ·exact .inr ⟨b1,b,E,vs,off,b2,k4.trans b3,b4,b5,fun o ho=>b6 o ((hR.S b o).1 ho)⟩
 |var sz v n =>
  obtain⟨t,l,a,cap,a1,a2⟩:=r;refine⟨k1.trans t,k2.trans l,a,cap,k3.trans a1,?_⟩;rcases a2 with ⟨b1,b2⟩ | ⟨b1,b,E,vs,off,b2,b3,b4,b5,b6⟩
  ·exact .inl ⟨b1,k4.trans b2⟩
  ·exact .inr ⟨b1,b,E,vs,off,b2,k4.trans b3,b4,b5,fun o ho=>b6 o ((hR.S b o).1 ho)⟩
 |vox v=>exact⟨k1.trans r.1,k2.trans r.2⟩
 |hol sz es i c av =>
  obtain⟨t,l,al,b,cap,E,vs,b1,b2,b3,b4,b5,b6,b7,b8,x,b9,Yv⟩:=r;exact⟨k1.trans t,k2.trans l,al,b,cap,E,vs,k3.trans b1,k4.trans b2,b3,b4,b5,yr b6,fun o ho=>b7 o ((hR.S b o).1 ho),b8,x,b9,Yv.ren1 hR⟩
 |raw b ob =>
  obtain⟨t,a1,a2,a3,a4⟩:=r;exact⟨k1.trans t,k4.trans a1,a2,a3,fun o ho=>a4 o ((hR.S b o).1 ho)⟩
 |arr sz es =>
  obtain⟨t,l,al,a2⟩:=r;refine⟨k1.trans t,k2.trans l,al,?_⟩;rcases a2 with ⟨b1,b2,b3⟩ | ⟨b,cap,E,vs,b1,b2,b3,b4,b5,b6,b7⟩
  ·exact .inl ⟨b1,k3.trans b2,k4.trans b3⟩
  ·exact .inr ⟨b,cap,E,vs,k3.trans b1,k4.trans b2,b3,b4,b5,yr b6,fun o ho=>b7 o ((hR.S b o).1 ho)⟩
 |map sh BW =>
  obtain⟨t,b,es,ck,a1,a2,a3,a4,a5,a6⟩:=r;exact⟨k1.trans t,b,es,ck,k4.trans a1,k3.trans a2,a3,a4,fun i kv e q1 q2=>sU (a5 i kv e q1 q2),fun o ho=>a6 o ((hR.S b o).1 ho)⟩
 |mapU sh BW =>
  obtain⟨t,b,es,ck,a1,a2,a3,a4,a5,a6⟩:=r;refine⟨k1.trans t,b,es,ck,k4.trans a1,k3.trans a2,a3,U4 _ a4,fun i kv e q1 q2=>?_,fun o ho=>a6 o ((hR.S b o).1 ho)⟩;rw[AF]at q1;obtain⟨p,q3,rfl⟩:=AS.1 q1;exact(a5 i p e q3 q2).ren1 hR
 |rom sh BW =>
  obtain⟨t,b,a1,a2⟩:=r;exact⟨k1.trans t,b,k3.trans a1,sU a2⟩
 |iter all rem Fx =>
  obtain⟨t,b,mb,JU,seen,st,es,ck,a1,a2,a3,a4,a5,a6,a7,a8,a9,WQ,ZM,a12,mq⟩:=r;exact⟨k1.trans t,b,mb,JU,seen,st,es,ck,k4.trans a1,k3.trans a2,a3,(hR.S _ _).2 a4,a5,a6,a7,a8,fun i kv e q1 q2=>sU (a9 i kv e q1 q2),WQ,ZM,a12,fun o ho=>mq o ((hR.S b o).1 ho)⟩
end
theorem OQ{h:Nat→HO}{d:Nat}:∀{n:Nat},Dv h d n=true→∀k,k<n→h (Bp d k)=.free
 |0,_,k,hk=>by omega
 |n+1,hf,k,hk=>by
  simp only[Dv,Af]at hf
  by_cases e:k=n
  ·subst e
   have:=hf.1
   split at this
   ·rename_i e2;exact e2
   ·cases this
  ·exact OQ hf.2 k (by omega)
theorem Nc{d nn:Nat}:∀{σ:IR},Df σ d nn=true→∀{i j},Cf σ i=some j→¬(Bp d 0≤i∧i<Bp d nn)
 | [],_,i,j,h=>by simp[Cf]at h
 |(a,b)::r,hs,i,j,hf=>by
  simp only[Df,Af]at hs;unfold Cf at hf
  by_cases e1:a=i
  ·subst e1;have h1:=hs.1;simp only[CG,Bool.and_eq_false_iff]at h1;intro hc;rcases h1 with h1 | h1
   ·rw[Nat.ble_eq_true_of_le hc.1]at h1;cases h1
   ·have h2:Nat.blt a (Bp d nn)=true:=by rw[Ca];exact hc.2
    rw[h2]at h1;cases h1
  ·simp only[Cw e1,El]at hf;exact Nc hs.2 hf
section
variable {P:Program}{w0:World}{g0:Gh}{h0 h:Nat→HO}{g:Gh}{w:World}
def Dn(σ:IR)(g:Gh):Gh :=
 ⟨fun j=>match HF σ j with | some i=>g.ρ i | none=>.nilIface,fun j=>match HF σ j with | some i=>g.ln i | none=>0,fun j=>match HF σ j with | some i=>g.tk i | none=>false,
  fun j=>match HF σ j with | some i=>g.own i | none=>none,g.S⟩
def src(σ:IR)(d nn:Nat)(i:Nat):Option Nat :=
 match Cf σ i with
 |some j=>some j
 |none=>match Nat.ble (Bp d 0) i&&Nat.blt i (Bp d nn)with |true=>some (2000+(i-Bp d 0)) |false=>none
def GD(σ:IR)(d nn:Nat)(g g' : Gh):Gh :=
 ⟨fun i=>match src σ d nn i with | some j=>g'.ρ j | none=>g.ρ i,fun i=>match src σ d nn i with | some j=>g'.ln j | none=>g.ln i,fun i=>match src σ d nn i with | some j=>g'.tk j | none=>g.tk i,
  fun i=>match src σ d nn i with | some j=>g'.own j | none=>g.own i,g'.S⟩
theorem bv(σ:IR)(d nn:Nat)(h h' : Nat→HO)(i:Nat):D6 σ d nn h h' i=match src σ d nn i with | some j=>(h' j).ren (E3 σ d nn) h' | none=>h i:=by
 unfold D6 src;cases Cf σ i with
 |some j=>rfl
 |none =>
  dsimp only;cases Nat.ble (Bp d 0) i&&Nat.blt i (Bp d nn)<;>rfl
theorem iv{σ:IR}{d nn:Nat}(hσ:Ek σ=true)(ha:Df σ d nn=true)(i j:Nat):src σ d nn i=some j↔E3 σ d nn j=some i:=by
 have inv:=Wv hσ;unfold src E3;cases h1:Cf σ i with
 |some j' =>
  have hb:=(inv i j').1 h1;dsimp only;constructor
  ·intro h;cases h;rw[hb]
  ·intro h;cases h2:HF σ j with
   |some i'=>rw[h2]at h;cases h;rw[(inv i j).2 h2]at h1;exact h1.symm
   |none =>
    rw[h2]at h;dsimp only at h;split at h
    ·rename_i hc;have h:=Cs h;subst h;simp only[Af,CT,Ca]at hc;exact absurd ⟨by unfold Bp;omega,by unfold Bp;omega⟩ (Nc ha h1)
    ·cases h
 |none =>
  dsimp only;cases h2:HF σ j with
  |some i' =>
   dsimp only;have hf:=(inv i' j).2 h2;have hr:=Vd hσ hf;constructor
   ·intro h;split at h
    ·cases h;omega
    ·cases h
   ·intro h;cases h;rw[hf]at h1;cases h1
  |none =>
   dsimp only;constructor
   ·intro h;split at h
    ·rename_i hc;cases h;simp only[Af,CT,Ca]at hc;have e1:(Nat.ble 2000 (2000+(i-Bp d 0))&&Nat.blt (2000+(i-Bp d 0)) (2000+nn))=true:=by
      simp only[Af,CT,Ca];unfold Bp at hc⊢;omega
     rw[e1]
     have:Bp d (2000+(i-Bp d 0)-2000)=i:=by unfold Bp at hc⊢;omega
     rw[this]
    ·cases h
   ·intro h;split at h
    ·rename_i hc;have h:=Cs h;subst h;simp only[Af,CT,Ca]at hc;have e1:(Nat.ble (Bp d 0) (Bp d (j-2000))&&Nat.blt (Bp d (j-2000)) (Bp d nn))=true:=by
      simp only[Af,CT,Ca];unfold Bp;omega
     rw[e1]
     have:2000+(Bp d (j-2000)-Bp d 0)=j:=by unfold Bp;omega
     rw[this]
    ·cases h
theorem Wa(hI:DA w0 g0 h0 h g w){σ:IR}(hσ:Ek σ=true):Km (Cf σ) h (Fw σ h) g (Dn σ g) w∧DA w (Dn σ g) (Fw σ h) (Fw σ h) (Dn σ g) w:=by
 have inv:=Wv hσ;have Fc:∀j,Fw σ h j=match HF σ j with | some i=>(h i).ren (Cf σ) h | none=>.free:=OY _ _ σ
 have hR:Km (Cf σ) h (Fw σ h) g (Dn σ g) w:=by
  refine⟨fun r r' hr hu=>?_,fun b o=>Ql,hI.objs⟩;have hb:=(inv r r').1 hr;refine⟨by simp[Dn,hb],by simp[Dn,hb],by simp[Dn,hb],by simp[Dn,hb],?_⟩;unfold AP;rw[Fc,hb];exact(Mi _ _ _).2 hu
 have L4:∀j,(Fw σ h j).live→∃i,HF σ j=some i∧(h i).live:=fun j hl=>by
  rw[Fc]at hl;cases e:HF σ j with
  |none=>rw[e]at hl;exact hl.elim
  |some i=>rw[e]at hl;exact⟨i,rfl,(Mh _ _ _).1 hl⟩
 have Wf:∀j i,HF σ j=some i→(Dn σ g).own j=g.own i:=fun j i e=>by simp[Dn,e]
 refine⟨hR,rfl,rfl,rfl,Al _,fun _ _ _=>rfl,hI.slt,fun j=>?_,fun j j' b hl OH e e'=>?_,fun j b hl e=>?_,fun _ _ h=>.inl h,hI.glob⟩
 ·rw[Fc];cases e:HF σ j with
  |none=>trivial
  |some i =>
   by_cases hu:AP h i
   ·exact(hI.objs i).ren hR ((inv i j).2 e) hu
   ·have:h i=.free:=BZ.1 hu
    dsimp only;rw[this];trivial
 ·obtain⟨i,e1,l1⟩:=L4 j hl;obtain⟨i',e2,l2⟩:=L4 j' OH;rw[Wf j i e1]at e;rw[Wf j' i' e2]at e';obtain rfl:=hI.inj i i' b l1 l2 e e'
  have:=(inv i j).2 e1
  rw[(inv i j').2 e2]at this;cases this;rfl
 ·obtain⟨i,e1,l1⟩:=L4 j hl;have e0:=e;rw[Wf j i e1]at e;exact⟨(hI.loc i b l1 e).1,.inr ⟨j,hl,e0⟩⟩
theorem Mu{C:(Ending→World→Prop)→Prop}(hm:∀{R R' : Ending→World→Prop},C R→(∀e w,R e w→R' e w)→C R')(hI:DA w0 g0 h0 h g w){σ:IR}{d nn:Nat}(Gv:(Ek σ&&Dv h d nn&&Df σ d nn)=true){Q:AV→(Nat→HO)→Prop}
  (hc:DA w (Dn σ g) (Fw σ h) (Fw σ h) (Dn σ g) w→C (fun e w'=>∃v r h' g',e=Ending.returned v∧Q r h'∧BD g' w' (AP h') r v∧DA w (Dn σ g) (Fw σ h) h' g' w'∧Le (Fw σ h) (Dn σ g) w h' g' w')) {R:Ending→World→Prop}
  (ab:∀v r h' g2 w',Q r h'→DA w0 g0 h0 (D6 σ d nn h h') g2 w'→Le h g w (D6 σ d nn h h') g2 w'→BD g2 w' (AP (D6 σ d nn h h')) (ren (E3 σ d nn) h' r) v→R (.returned v) w'):C R:=by
 simp only[Af]at Gv;obtain⟨⟨hσ,hnf⟩,qk⟩:=Gv;obtain⟨hF,jL⟩:=Wa hI hσ;have inv:=Wv hσ;have jY:=iv hσ qk;refine hm (hc jL) ?_
 rintro e w' ⟨v,r,h',g',rfl,q1,q2,q3,q4⟩
 have hb:=bv σ d nn h h';have fG:∀i j,src σ d nn i=some j→(GD σ d nn g g').ρ i=g'.ρ j∧(GD σ d nn g g').ln i=g'.ln j∧(GD σ d nn g g').tk i=g'.tk j∧(GD σ d nn g g').own i=g'.own j:=fun i j e=>by simp[GD,e]
 have uQ:∀i,src σ d nn i=none→(GD σ d nn g g').ρ i=g.ρ i∧(GD σ d nn g g').ln i=g.ln i∧(GD σ d nn g g').tk i=g.tk i∧(GD σ d nn g g').own i=g.own i:=fun i e=>by simp[GD,e]
 have hB:Km (E3 σ d nn) h' (D6 σ d nn h h') g' (GD σ d nn g g') w':=by
  refine⟨fun j i hj hu=>?_,fun b o=>Ql,q3.objs⟩;have e:=(jY i j).2 hj;obtain⟨k1,k2,k3,k4⟩:=fG i j e;refine⟨k3,k2,k1,k4,?_⟩;unfold AP;rw[hb,e];exact(Mi _ _ _).2 hu
 have lD:∀j,Fw σ h j=match HF σ j with | some i=>(h i).ren (Cf σ) h | none=>.free:=OY _ _ σ
 have uI:∀j i,Cf σ i=some j→(h i).live→(Fw σ h j).live:=fun j i e hl=>by
  rw[lD,(inv i j).1 e];exact(Mh _ _ _).2 hl
 have xL:∀j i,Cf σ i=some j→(Dn σ g).own j=g.own i:=fun j i e=>by simp[Dn,(inv i j).1 e]
 have Ro : ∀j,(Fw σ h j).live→∃i,Cf σ i=some j∧(h i).live∧(Dn σ g).own j=g.own i:=fun j hl=>by
  rw[lD]at hl;cases e:HF σ j with
  |none=>rw[e]at hl;exact hl.elim
  |some i=>rw[e]at hl;exact⟨i,(inv i j).2 e,(Mh _ _ _).1 hl,by simp[Dn,e]⟩
 -- what the callee yq not touch
 have dI:∀b,b<w.heap.size→(∀i,(h i).live→Cf σ i≠none→g.own i≠some b)→w'.heap[b]?=w.heap[b]?:=fun b Dz hn=>q3.frame b Dz fun j hl e=>by
  obtain⟨i,e1,l1,o1⟩:=Ro j hl;exact hn i l1 (by rw[e1];simp) (by rw[←o1];exact e)
 have uu:∀b o,g'.S b o→b<w.heap.size→(∀i,(h i).live→Cf σ i≠none→g.own i≠some b)→g.S b o:=fun b o hs Dz hn=>by
  rcases q3.sg b o hs with h1 | h1 | ⟨j,h1,h2⟩
  ·exact h1
  ·omega
  ·obtain⟨i,e1,l1,o1⟩:=Ro j h1;exact absurd (by rw[←o1];exact h2) (hn i l1 (by rw[e1];simp))
 have hk:EE g w (GD σ d nn g g') w':=q4.keeps;have Aa:∀i,Cf σ i=none→src σ d nn i≠none→h i=.free:=fun i e1 e2=>by
  unfold src at e2;rw[e1]at e2;dsimp only at e2;split at e2
  ·rename_i hc;simp only[Af,CT,Ca]at hc
   have:=OQ hnf (i-Bp d 0) (by unfold Bp at hc⊢;omega)
   rw[show Bp d (i-Bp d 0)=i by unfold Bp at hc⊢;omega]at this;exact this
  ·exact absurd rfl e2
 have cd:∀i j,Cf σ i=some j→src σ d nn i=some j:=fun i j e=>by unfold src;rw[e]
 have xQ:JY g (GD σ d nn g g') (AP h):=fun i hu=>by
  cases e:Cf σ i with
  |some j =>
   obtain⟨k1,k2,k3,k4⟩:=fG i j (cd i j e);obtain⟨f1,f2,f3,f4,f5⟩:=hF.ids i j e hu;obtain⟨m1,m2,m3,m4⟩:=q4.gh j f5;exact⟨(k3.trans m1).trans f1,by omega,fun t=>(k1.trans (m3 (f1.trans t))).trans f3,fun l=>(k1.trans (m4 (by omega))).trans f3⟩
  |none =>
   have e2:src σ d nn i=none:=BZ.1 fun e2=>hu (Aa i e e2);obtain⟨k1,k2,k3,k4⟩:=uQ i e2;exact⟨k3,by omega,fun _=>k1,fun _=>k1⟩
 have Kf:∀i,AP h i→AP (D6 σ d nn h h') i:=fun i hu=>by
  unfold AP;rw[hb];cases e:Cf σ i with
  |some j =>
   rw[cd i j e];exact(Mi _ _ _).2 (q4.us j (hF.ids i j e hu).2.2.2.2)
  |none =>
   have e2:src σ d nn i=none:=BZ.1 fun e2=>hu (Aa i e e2);rw[e2];exact hu
 have bZ:∀i,(D6 σ d nn h h' i).live→(∃j,src σ d nn i=some j∧(h' j).live∧(GD σ d nn g g').own i=g'.own j)∨(src σ d nn i=none∧(h i).live∧(GD σ d nn g g').own i=g.own i∧Cf σ i=none):=fun i hl=>by
  rw[hb]at hl;cases e:src σ d nn i with
  |some j=>rw[e]at hl;exact .inl ⟨j,rfl,(Mh _ _ _).1 hl,(fG i j e).2.2.2⟩
  |none =>
   rw[e]at hl;refine .inr ⟨rfl,hl,(uQ i e).2.2.2,?_⟩;cases e2:Cf σ i with
   |none=>rfl
   |some j=>rw[cd i j e2]at e;cases e
 have qn:∀j b,(h' j).live→g'.own j=some b→b<w'.heap.size∧(w.heap.size≤b∨∃i,Cf σ i≠none∧(h i).live∧g.own i=some b):=fun j b hl e=>by
  obtain⟨h1,h2⟩:=q3.loc j b hl e;refine⟨h1,h2.imp id ?_⟩
  rintro⟨j',l',e'⟩
  obtain⟨i,e1,l1,o1⟩:=Ro j' l';exact⟨i,by rw[e1];simp,l1,by rw[←o1];exact e'⟩
 have j7:∀i b,(h i).live→g.own i=some b→Cf σ i=none→∀i',(h i').live→Cf σ i'≠none→g.own i'≠some b:=fun i b hl e hn i' OH XF e'=>by
  obtain rfl:=hI.inj i i' b hl OH e e';exact XF hn
 refine ab v r h' (GD σ d nn g g') w' q1 ⟨q3.os.trans hI.os,q3.tape.trans hI.tape,q3.output.trans hI.output,Br hI.size q3.size,fun b Dz hn=>?_,q3.slt,fun i=>?_,fun i i' b hl OH e e'=>?_,fun i b hl e=>?_,fun b o hs=>?_,hI.glob.keep hk⟩ ⟨xQ,Kf,hk⟩ (q2.ren hB)
 ·refine(dI b (Bu Dz hI.size) fun i hl _ e=>?_).trans (hI.frame b Dz hn);rcases(hI.loc i b hl e).2 with h1 | ⟨r',h1,h2⟩
  ·omega
  ·exact hn r' h1 h2
 ·rw[hb];cases e:src σ d nn i with
  |some j =>
   by_cases hu:AP h' j
   ·exact(q3.objs j).ren hB ((jY i j).1 e) hu
   ·have:h' j=.free:=BZ.1 hu
    dsimp only;rw[this];trivial
  |none =>
   obtain⟨k1,k2,k3,k4⟩:=uQ i e;have e2:Cf σ i=none:=by
    cases e2:Cf σ i with
    |none=>rfl
    |some j=>rw[cd i j e2]at e;cases e
   refine(hI.objs i).same hk Kf xQ k1 k2 k3 k4 fun b hl ho=>?_;have Dz:=(hI.loc i b hl ho).1;exact⟨dI b Dz (j7 i b hl ho e2),fun k hs=>uu b k hs Dz (j7 i b hl ho e2)⟩
 ·have mixed:∀i j i',(h' j).live→g'.own j=some b→(h i').live→g.own i'=some b→Cf σ i'=none→i=i':=fun i j i' l1 o1 l2 o2 n2=>by
   rcases(qn j b l1 o1).2 with h1 | ⟨i3,n3,l3,o3⟩
   ·have:=(hI.loc i' b l2 o2).1;omega
   ·exact absurd o3 (j7 i' b l2 o2 n2 i3 l3 n3)
  rcases bZ i hl with ⟨j,s1,l1,o1⟩ | ⟨s1,l1,o1,n1⟩<;>rcases bZ i' OH with ⟨j',s2,l2,o2⟩ | ⟨s2,l2,o2,n2⟩
  ·obtain rfl:=q3.inj j j' b l1 l2 (by rw[←o1];exact e) (by rw[←o2];exact e');have a1:=(jY i j).1 s1;rw[(jY i' j).1 s2]at a1;cases a1;rfl
  ·exact mixed i j i' l1 (by rw[←o1];exact e) l2 (by rw[←o2];exact e') n2
  ·exact(mixed i' j' i l2 (by rw[←o2];exact e') l1 (by rw[←o1];exact e) n1).symm
  ·exact hI.inj i i' b l1 l2 (by rw[←o1];exact e) (by rw[←o2];exact e')
 ·rcases bZ i hl with ⟨j,s1,l1,o1⟩ | ⟨s1,l1,o1,n1⟩
  ·obtain⟨h1,h2⟩:=qn j b l1 (by rw[←o1];exact e);refine⟨h1,?_⟩;rcases h2 with h2 | ⟨i3,n3,l3,o3⟩
   ·exact .inl (Br hI.size h2)
   ·exact(hI.loc i3 b l3 o3).2
  ·obtain⟨h1,h2⟩:=hI.loc i b l1 (by rw[←o1];exact e);exact⟨Bu h1 q3.size,h2⟩
 ·rcases q3.sg b o hs with h1 | h1 | ⟨j,h1,h2⟩
  ·exact hI.sg b o h1
  ·exact .inr (.inl (Br hI.size h1))
  ·obtain⟨i,e1,l1,o1⟩:=Ro j h1;exact .inr (hI.loc i b l1 (by rw[←o1];exact h2)).2
theorem d8(hI:DA w0 g0 h0 h g w){σ:IR}{d nn:Nat}(Gv:(Ek σ&&Dv h d nn&&Df σ d nn)=true){f:Nat}{args:List AV}{Q:AV→(Nat→HO)→Prop}(hc:A3 P f args (Fw σ h) Q){vals:Array Value}(hs:vals.size=args.length)
  (hv:∀(i:Nat) (av:AV) (x:Value),args[i]?=some av→vals[i]?=some x→BD (Dn σ g) w (AP (Fw σ h)) av x) {R:Ending→World→Prop}
  (ab:∀v r h' g2 w',Q r h'→DA w0 g0 h0 (D6 σ d nn h h') g2 w'→Le h g w (D6 σ d nn h h') g2 w'→BD g2 w' (AP (D6 σ d nn h h')) (ren (E3 σ d nn) h' r) v→R (.returned v) w'):Calls P f vals w R :=
 Mu (C:=Calls P f vals w) (fun h k=>h.mono k) hI Gv (hc.2 (Dn σ g) w vals hs hv) ab
end
structure SR(N:Nat)(ds:List Deferred)(w0:World)(g0:Gh)(h0:Nat→HO)(st:St)(g:Gh)(a:Act)(w:World):Prop where
 inv:DA w0 g0 h0 st.h g w
 le:Le h0 g0 w0 st.h g w
 dfs:a.defers=ds
 size:a.tmps.size=N
 slots:∀i,BD g w (AP st.h) (st.t i) (a.tmps.getD i undef)
section
variable {P:Program}{N:Nat}{ds:List Deferred}{w0:World}{g0:Gh}{h0:Nat→HO}{st:St}{g:Gh}{a:Act}{w:World}
theorem SR.eval(hS:SR N ds w0 g0 h0 st g a w)(x:Operand):BD g w (AP st.h) (ev st.t x) (a.eval x):=by
 cases x with
 |tmp i=>exact hS.slots i
 |const v=>exact .v _ _
 |global b=>exact .v _ _
 |func f=>exact .v _ _
theorem SR.put(hS:SR N ds w0 g0 h0 st g a w){d:Option Nat}(hd:∀i,d=some i→i<N){v:AV}{x:Value}{h' : Nat→HO}{g' : Gh}{w' : World}(hI:DA w0 g0 h0 h' g' w')(Hg:Le st.h g w h' g' w')(hr:BD g' w' (AP h') v x) :
  SR N ds w0 g0 h0 (st.put d v h') g' (a.put d x) w':=by
 have old:∀i,BD g' w' (AP h') (st.t i) (a.tmps.getD i undef):=fun i=>(hS.slots i).le Hg;cases d with
 |none=>exact⟨hI,hS.le.trans Hg,hS.dfs,hS.size,old⟩
 |some d =>
  have uK:=hd d rfl;refine⟨hI,hS.le.trans Hg,hS.dfs,by simp[Act.put,hS.size],fun i=>?_⟩;simp only[St.put,Act.put,G0]
  by_cases e:i=d
  ·subst e
   have:i<a.tmps.size:=by rw[hS.size];exact uK
   simp only[CK,JG];rw[Cg,Array.getElem?_setIfInBounds_self,Ao this];exact hr
  ·simp only[Cw e,El];rw[Cg,Array.getElem?_setIfInBounds_ne (TZ e),←Cg];exact old i
def Yx(w0:World)(g0:Gh)(h0 h:Nat→HO)(g:Gh)(w:World)(K:HK)(next:Value→World→Prop):Prop :=
 ∀v h' g' w' x,K v h'→DA w0 g0 h0 h' g' w'→Le h g w h' g' w'→BD g' w' (AP h') v x→next x w'
theorem DV{o:Oper}{m:Sem Value}{K:HK}{next:Act→World→Prop}{Q:Exit→Act→World→Prop}(hx:execOp a.eval o=(do pure (Next.value (←m))))(hd:N1 P w0 g0 h0 st.h g w m K)
  (hn:Yx w0 g0 h0 st.h g w K fun x w'=>next (a.put o.dst x) w'):o.wp P a w next Q:=by
 obtain⟨x,w',g',av,h',h1,h2,h3,h4,h5⟩:=hd;unfold Oper.wp;rw[hx,Sem.run_bind,h1];exact hn av h' g' w' x h2 h3 h4 h5
theorem WG{o:Oper}{m:Sem Unit}{K:HK}{next:Act→World→Prop}{Q:Exit→Act→World→Prop}(hx:execOp a.eval o=(do m;pure Next.skip))(hd:dN P w0 g0 h0 st.h g w m K)
  (hn:Yx w0 g0 h0 st.h g w K fun x w'=>next (a.put o.dst x) w'):o.wp P a w next Q:=by
 obtain⟨w',g',h',h1,h2,h3,h4⟩:=hd;unfold Oper.wp;rw[hx,Sem.run_bind,h1];exact hn _ h' g' w' undef h2 h3 h4 (.v _ _)
theorem bc{o:Oper}{K:HK}{next:Act→World→Prop}{Q:Exit→Act→World→Prop}{v:AV}{x:Value}(hI:DA w0 g0 h0 st.h g w)(hx:(execOp a.eval o).run P w=.ok (.value x) w)(hk:K v st.h)(hr:BD g w (AP st.h) v x)
  (hn:Yx w0 g0 h0 st.h g w K fun x w'=>next (a.put o.dst x) w'):o.wp P a w next Q:=by
 unfold Oper.wp;rw[hx];exact hn _ _ _ _ _ hk hI (.refl _ _ _) hr
theorem RW{C:(Ending→World→Prop)→Prop}(hm:∀{R R' : Ending→World→Prop},C R→(∀e w,R e w→R' e w)→C R')(hI:DA w0 g0 h0 st.h g w){Q:AV→(Nat→HO)→Prop}
  (hc:DA w g Aa Aa g w→C (fun e w'=>∃v r h' g',e=Ending.returned v∧Q r h'∧BD g' w' (AP h') r v∧DA w g Aa h' g' w'∧Le Aa g w h' g' w')) {R:Ending→World→Prop}
  (hR:∀v r h' g' w',Q r h'→h'=Aa→DA w0 g0 h0 st.h g' w'→Le st.h g w st.h g' w'→BD g' w' Fg r v→R (.returned v) w') (hQ:∀r h',Q r h'→h'=Aa):C R:=by
 have hU:AP Aa=Fg:=by funext i;unfold AP Fg Aa;simp
 have jL:DA w g Aa Aa g w:=⟨rfl,rfl,rfl,Al _,fun _ _ _=>rfl,hI.slt,fun _=>trivial,fun _ _ _ h=>h.elim,fun _ _ h=>h.elim,fun _ _ h=>.inl h,hI.glob⟩;refine hm (hc jL) ?_
 rintro e w' ⟨v,r,h',g',rfl,q1,q2,q3,q4⟩
 obtain rfl:=hQ r h' q1;rw[hU]at q2
 -- the caller's ghost,with the callee's stable cells
 have hk:EE g w ⟨g.ρ,g.ln,g.tk,g.own,g'.S⟩ w':=q4.keeps;have hg:JY g ⟨g.ρ,g.ln,g.tk,g.own,g'.S⟩ (AP st.h):=fun _ _=>⟨rfl,Al _,fun _=>rfl,fun _=>rfl⟩;have dI:∀b,b<w.heap.size→w'.heap[b]?=w.heap[b]?:=fun b hb=>q3.frame b hb (fun _ h=>h.elim);have uu:∀b o,g'.S b o→b<w.heap.size→g.S b o:=fun b o hs hb=>by
  rcases q3.sg b o hs with h1 | h1 | ⟨_,h1,_⟩
  ·exact h1
  ·omega
  ·exact h1.elim
 refine hR v r Aa ⟨g.ρ,g.ln,g.tk,g.own,g'.S⟩ w' q1 rfl ⟨q3.os.trans hI.os,q3.tape.trans hI.tape,q3.output.trans hI.output,Br hI.size q3.size,fun b hb hn=>?_,q3.slt,fun i=>?_,hI.inj,fun i b hl ho=>?_,fun b o hs=>?_,hI.glob.keep hk⟩ ⟨hg,fun _ h=>h,hk⟩ ?_
 ·exact(dI b (Bu hb hI.size)).trans (hI.frame b hb hn)
 ·refine(hI.objs i).same hk (fun _ h=>h) hg rfl rfl rfl rfl (fun b hl ho=>?_);have Dz:=(hI.loc i b hl ho).1;exact⟨dI b Dz,fun k hs=>uu b k hs Dz⟩
 ·obtain⟨h1,h2⟩:=hI.loc i b hl ho;exact⟨Bu h1 q3.size,h2⟩
 ·rcases q3.sg b o hs with h1 | h1 | ⟨_,h1,_⟩
  ·exact hI.sg b o h1
  ·exact .inr (.inl (Br hI.size h1))
  ·exact h1.elim
 ·have:EE g' w' ⟨g.ρ,g.ln,g.tk,g.own,g'.S⟩ w':=fun b o h=>⟨h,rfl,fun _ _ h=>h⟩
  exact q2.mono this (fun _ h=>h) (fun _ h=>h.elim)
theorem bB(hI:DA w0 g0 h0 st.h g w){f:Nat}{args:List AV}{Q:AV→(Nat→HO)→Prop}(hc:A3 P f args Aa Q){vals:Array Value}(hs:vals.size=args.length)
  (hv:∀(i:Nat) (av:AV) (x:Value),args[i]?=some av→vals[i]?=some x→BD g w Fg av x) {R:Ending→World→Prop}
  (hR:∀v r h' g' w',Q r h'→h'=Aa→DA w0 g0 h0 st.h g' w'→Le st.h g w st.h g' w'→BD g' w' Fg r v→R (.returned v) w') (hQ:∀r h',Q r h'→h'=Aa):Calls P f vals w R :=
 have hU:AP Aa=Fg:=by funext i;unfold AP Fg Aa;simp
 RW (C:=Calls P f vals w) (fun h k=>h.mono k) hI (hc.2 g w vals hs (fun i av x h1 h2=>by rw[hU];exact hv i av x h1 h2)) hR hQ
theorem YieldAt.imp{F:Fence}{m:Nat}{P:Program}{l:Nat}{args:Array Value}{W:World}{R R' : Ending→World→Prop}(h:YieldAt F m P l args W R)(hr:∀e w,R e w→R' e w):YieldAt F m P l args W R' :=
 let ⟨fn,t,a,b,h1,h2⟩:=h
 ⟨fn,t,a,b,h1,h2.mono hr⟩
theorem II.imp{Y:Gh→World→Prop}{l:Nat}{args:List AV}{h0:Nat→HO}{Q Q' : AV→(Nat→HO)→Prop}(h:II P Y l args h0 Q)(hq:∀r h',Q r h'→Q' r h'):II P Y l args h0 Q' :=
 fun g w vals q1 q2 q3 q4=>YieldAt.imp (h g w vals q1 q2 q3 q4) fun _ _ ⟨v,r,h',g',e1,e2,rest⟩=>⟨v,r,h',g',e1,hq _ _ e2,rest⟩
theorem F2.imp{Y:Nat→Gh→World→Prop}{F:AV}{args:List AV}{h0:Nat→HO}{Q Q' : AV→(Nat→HO)→Prop}(h:F2 P Y F args h0 Q)(hq:∀r h',Q r h'→Q' r h'):F2 P Y F args h0 Q':=by
 have one:∀{f:Nat} {l:List AV},A3 P f l h0 Q→A3 P f l h0 Q':=fun hc =>
  ⟨hc.1,fun g w vals q1 q2 q3=>(hc.2 g w vals q1 q2 q3).mono fun _ _ ⟨v,r,h',g',e1,e2,rest⟩=>⟨v,r,h',g',e1,hq _ _ e2,rest⟩⟩
 unfold F2 at h⊢;split at h
 ·exact one h
 ·exact one h
 ·exact II.imp h hq
 ·exact h.elim
abbrev JB(ro:Option Nat):Fence:={ Fence.wide with round:=ro }
theorem MK{ro:Option Nat}{o:Oper}{a:Act}{w:World}{next:Act→World→Prop}{Q:Exit→Act→World→Prop}(hd:∀c,o.op≠.defer c)(h:o.wp P a w next Q):o.wpIn (JB ro) 0 P a w next Q:=by
 refine⟨fun _ _=>trivial,?_⟩;have e:o.semAt (JB ro).round a.eval=execOp a.eval o:=Oper.semAt_eq ro a.eval o hd;rw[e];unfold Oper.wp at h;have key:∀res:Result Next,o.upon P a next Q res→o.uponIn (JB ro) 0 P a next Q res:=fun res h=>by
  cases res with
  |ok n w'=>cases n with
   |enter f args=>exact(show(_→_)∧CallsIn (JB ro) 0 P f args w' _ from⟨fun e=>by(cases e),callsIn_wide.2 h⟩)
   |row r args=>exact(show(_→_)∧RowsIn (JB ro) 0 P r args w' _ from⟨fun e=>by(cases e),fun c cs _=>by
     obtain⟨v,aZ,r',s⟩:=h c cs;exact⟨v,aZ,r',stepsIn_wide.2 s⟩⟩)
   |round _ _ _ _ _=>exact h.elim
   |_=>exact h
  |halt x w'=>cases x<;>exact h
 exact key _ h
theorem Gx{f:Nat}{args:Array Value}(h:F3 P f)(w:World):(callFunc f args).run P w=.ok (.enter f args) w:=by
 obtain⟨fn,h1,h2,h3⟩:=h;simp only[callFunc,Sem.run_bind,run_program,h1,Result.andThen_ok,h2,h3,CJ,FX,Sem.run_pure]
theorem Tx{h:Nat→HO}{a:AV}(ha:aB a=true):ren (Cf []) h a=str h a:=by
 have h0:∀a,ren0 (Cf []) h a=str0 h a:=fun a=>by
  cases a with
  |slice tk es=>cases tk<;>rfl
  |_=>rfl
 cases a with
 |tup cs=>cases ha
 |agg cs=>show AV.agg _=AV.agg _;exact Ac _ (A9 fun c _=>h0 c)
 |clo f cs=>show AV.clo f _=AV.clo f _;exact Ac _ (A9 fun c _=>h0 c)
 |v x=>exact h0 (.v x)
 |slice tk es=>exact h0 (.slice tk es)
 |msl r n=>exact h0 (.msl r n)
 |cptr cs=>exact h0 (.cptr cs)
 |ref r o=>exact h0 (.ref r o)
 |eref r n sz i o=>exact h0 (.eref r n sz i o)
 |mref r=>exact h0 (.mref r)
 |cmap sh l=>exact h0 (.cmap sh l)
 |junk=>rfl
theorem PS{h:Nat→HO}:∀{l:List AV},Ti l=true→l.map (ren (Cf []) h)=l.map (str h)
 | [],_=>rfl
 |a::l,e=>by
  unfold Ti at e;split at e
  ·rename_i e1;rw[AH,AH,Tx e1,PS e]
  ·cases e
theorem Qi:∀{l:List AV} {vs:List Value},Vo l=some vs→l=vs.map .v
 | [],vs,h=>by cases h;rfl
 |.v x::r,vs,h=>by
  unfold Vo at h;split at h
  ·rename_i l e;cases h;rw[AH,←Qi e]
  ·cases h
theorem bA{cx:Cx}{d:Option Nat}{st:St}{F:AV}{args:List AV}{K:HK}(hk:Gg cx true d st F args K):Gg cx false d st F args K:=by
 unfold Gg at hk;simp only at hk;split at hk
 ·exact⟨.pure,hk⟩
 ·split at hk
  ·exact hk.elim
  ·rename_i d _;obtain⟨n,sz,es,h1,h2,h3⟩:=hk;simp only[Af]at h1;refine⟨.gen [] 1,?_⟩;show(Ek []&&Dv st.h d 1&&Df [] d 1)=true∧_;refine⟨by simp[Ek,Df,h1.1.1],?_⟩;rw[Tx h1.1.2,PS h1.2];show F2 cx.P (fun l=>cx.yp l []) _ _ Aa _;refine F2.imp h2 ?_
   rintro r h' ⟨e2,e3⟩
   subst e2;subst e3;have e1:ren (E3 [] d 1) (Ai [(2000,.arr sz es)] Aa) (.msl 2000 n)=.msl (Bp d 0) n:=rfl;have e2:D6 [] d 1 st.h (Ai [(2000,.arr sz es)] Aa)=AR st.h (Bp d 0) (.arr sz es):=by
    funext i
    by_cases e:i=Bp d 0
    ·subst e;rw[A8];have hb:(Nat.ble (Bp d 0) (Bp d 0)&&Nat.blt (Bp d 0) (Bp d 1))=true:=by
      unfold Bp;simp only[Af,CT,Ca];omega
     simp only[D6,Cf,hb,Gf];rfl
    ·rw[BT _ _ _ _ e]
     have:(Nat.ble (Bp d 0) i&&Nat.blt i (Bp d 1))=false:=by
      unfold Bp at e⊢;rw[AM];simp only[U6,Af,CT,Ca];omega
     simp only[D6,Cf,this]
   rw[e1,e2];exact h3
 ·split at hk
  ·unfold TO at hk;split at hk
   ·exact hk.elim
   ·rename_i d _;obtain⟨sz,es,h1,h2,h3⟩:=hk;simp only[Af]at h1;refine⟨.gen [] 1,?_⟩;show(Ek []&&Dv st.h d 1&&Df [] d 1)=true∧_;refine⟨by simp[Ek,Df,h1.1.1],?_⟩;rw[Tx h1.1.2,PS h1.2];show F2 cx.P (fun l=>cx.yp l []) _ _ Aa _;refine F2.imp h2 ?_
    rintro r h' ⟨e2,e3⟩
    subst e2;subst e3;have e1:ren (E3 [] d 1) (Ai [(2000,.tok sz es.length)] Aa) (.slice (.id 2000 sz) es)=.slice (.id (Bp d 0) sz) es:=rfl;have e2:D6 [] d 1 st.h (Ai [(2000,.tok sz es.length)] Aa)=AR st.h (Bp d 0) (.tok sz es.length):=by
     funext i
     by_cases e:i=Bp d 0
     ·subst e;rw[A8];have hb:(Nat.ble (Bp d 0) (Bp d 0)&&Nat.blt (Bp d 0) (Bp d 1))=true:=by
       unfold Bp;simp only[Af,CT,Ca];omega
      simp only[D6,Cf,hb,Gf];rfl
     ·rw[BT _ _ _ _ e]
      have:(Nat.ble (Bp d 0) i&&Nat.blt i (Bp d 1))=false:=by
       unfold Bp at e⊢;rw[AM];simp only[U6,Af,CT,Ca];omega
      simp only[D6,Cf,this]
    rw[e1,e2];exact h3
  split at hk
  ·unfold Qj at hk;split at hk
   ·rename_i d l vs e2 z1;have hl:=Qi e2;split at hk
    ·rename_i r sz es aW n e3 e4;obtain⟨⟨rfl,rfl⟩,v,Fy,n',h1,h2⟩:=hk;refine⟨.gen [(1000,1000),(1001,1001)] 0,?_⟩;show(Ek [(1000,1000),(1001,1001)]&&Dv st.h d 0&&Df [(1000,1000),(1001,1001)] d 0)=true∧_;refine⟨?_,?_⟩
     ·have:Df [(1000,1000),(1001,1001)] d 0=true:=by
       have q:∀r:Nat,(Nat.ble (Bp d 0) r&&Nat.blt r (Bp d 0))=false:=fun r=>by
        rw[AM];simp only[U6,Af,CT,Ca];omega
       simp only[Df,q,Bool.not_false,Bool.and_self]
      rw[this];rfl
     have f1:args.map (ren (Cf [(1000,1000),(1001,1001)]) st.h)=vs.map .v:=by rw[hl,BB];rfl
     have f2:Fw [(1000,1000),(1001,1001)] st.h=Ai [(1000,.cells [.slice (.id 1001 aW) es]),(1001,.tok aW n)] Aa:=by
      unfold Fw Wu Wu Wu;rw[e3,e4];rfl
     rw[f1,f2];refine II.imp h1 ?_
     rintro r h' ⟨g1,g2⟩
     subst g1;subst g2;have f3:D6 [(1000,1000),(1001,1001)] d 0 st.h (Ai [(1000,.cells [.slice (.id 1001 aW) Fy]),(1001,.tok aW n')] Aa)=AR (AR st.h 1001 (.tok aW n')) 1000 (.cells [.slice (.id 1001 aW) Fy]):=by
      funext i
      by_cases e:i=1000
      ·subst e;rw[A8];rfl
      ·rw[BT _ _ _ _ e]
       by_cases e' : i=1001
       ·subst e';rw[A8];rfl
       ·rw[BT _ _ _ _ e'];have hn:Cf [(1000,1000),(1001,1001)] i=none:=by simp[Cf,Cw (Ne.symm e),Cw (Ne.symm e')]
        have:(Nat.ble (Bp d 0) i&&Nat.blt i (Bp d 0))=false:=by
         rw[AM];simp only[U6,Af,CT,Ca];omega
        simp only[D6,hn,this]
     rw[f3];exact h2
    ·exact hk.elim
   ·exact hk.elim
  unfold Pa at hk;split at hk
  ·unfold Xv at hk;split at hk
   ·rename_i d f _;obtain⟨σ,H0,Hn,args',res,g1,g2,g3,g4⟩:=hk;simp only[Af]at g2;obtain⟨k1,k2⟩:=g1 st.h fun _ _=>rfl;refine⟨.gen σ 0,?_⟩;show(Ek σ&&Dv st.h d 0&&Df σ d 0)=true∧_;refine⟨by rw[g2.1.1,g2.1.2];rfl,?_⟩;rw[k1,k2];refine F2.imp (show F2 cx.P (fun l=>cx.yp l σ) (.v (.func (.func f) ⟨[]⟩ ⟨[]⟩)) args' (Ai H0 Aa) (fun r h'=>r=res∧h'=Ai Hn Aa)from g3) ?_
    rintro r h' ⟨e1,e2⟩
    rw[e1,e2];exact g4
   ·exact hk.elim
  unfold QV at hk;split at hk
  ·rename_i dd f r n l _;split at hk
   ·rename_i vs dK;have hl:=Qi dK;subst hl;split at hk
    ·rename_i sz es hr;have hf:Cf [(r,1000)] r=some 1000:=by simp[Cf]
     have e1:ren (Cf [(r,1000)]) st.h (.v (.func (.func f) ⟨[]⟩ ⟨[]⟩))=.v (.func (.func f) ⟨[]⟩ ⟨[]⟩):=rfl;have e2:(AV.msl r n::vs.map AV.v).map (ren (Cf [(r,1000)]) st.h)=.msl 1000 n::vs.map .v:=by
      rw[AH]
      congr 1
      ·simp[ren,ren1,ren0,hf]
      ·rw[BB];rfl
     have e3:Fw [(r,1000)] st.h=Ai [(1000,.arr sz es)] Aa:=by
      unfold Fw Wu;rw[hr];rfl
     split at hk
     ·obtain⟨n',Fy,h1,h2⟩:=hk;refine⟨.gen [(r,1000)] 0,?_⟩;show(Ek [(r,1000)]&&Dv st.h dd 0&&Df [(r,1000)] dd 0)=true∧_;refine⟨?_,?_⟩
      ·have:Df [(r,1000)] dd 0=true:=by
        unfold Df
        have:(Nat.ble (Bp dd 0) r&&Nat.blt r (Bp dd 0))=false:=by
         rw[AM];simp only[U6,Af,CT,Ca];omega
        rw[this];rfl
       rw[this];rfl
      rw[e1,e2,e3];refine⟨h1.1,fun g w vals q1 q2 q3=>(h1.2 g w vals q1 q2 q3).mono fun _ _ ⟨v,r',h',g',e1,⟨e2,e3⟩,rest⟩=>⟨v,r',h',g',e1,?_,rest⟩⟩;subst e2;subst e3;have f1:ren (E3 [(r,1000)] dd 0) (Ai [(1000,.arr sz Fy)] Aa) (.msl 1000 n')=.msl r n':=rfl;have f2:D6 [(r,1000)] dd 0 st.h (Ai [(1000,.arr sz Fy)] Aa)=AR st.h r (.arr sz Fy):=by
       funext i
       by_cases e:i=r
       ·subst e;rw[A8];simp[D6,hf,Ai,HO.ren]
       ·rw[BT _ _ _ _ e];have hn:Cf [(r,1000)] i=none:=by simp[Cf,Cw (Ne.symm e)]
        have:(Nat.ble (Bp dd 0) i&&Nat.blt i (Bp dd 0))=false:=by
         rw[AM];simp only[U6,Af,CT,Ca];omega
        simp only[D6,hn,this]
      rw[f1,f2];exact h2
     ·obtain⟨n',Fy,h0,h1,h2⟩:=hk;simp only[Af,Ca,CG]at h0;have vt:r≠Bp dd 0:=fun e=>by have:=h0.2;rw[e]at this;simp at this
      refine⟨.gen [(r,1000)] 1,?_⟩;show(Ek [(r,1000)]&&Dv st.h dd 1&&Df [(r,1000)] dd 1)=true∧_;refine⟨?_,?_⟩
      ·have:Df [(r,1000)] dd 1=true:=by
        unfold Df
        have:(Nat.ble (Bp dd 0) r&&Nat.blt r (Bp dd 1))=false:=by
         rw[AM];simp only[U6,Af,CT,Ca];unfold Bp at vt⊢;omega
        rw[this];rfl
       rw[this,h0.1.1];rfl
      rw[e1,e2,e3];refine⟨h1.1,fun g w vals q1 q2 q3=>(h1.2 g w vals q1 q2 q3).mono fun _ _ ⟨v,r',h',g',e1,⟨e2,e3⟩,rest⟩=>⟨v,r',h',g',e1,?_,rest⟩⟩;subst e2;subst e3;have f1:ren (E3 [(r,1000)] dd 1) (Ai [(1000,.dead),(2000,.arr sz Fy)] Aa) (.msl 2000 n')=.msl (Bp dd 0) n':=rfl;have f2:D6 [(r,1000)] dd 1 st.h (Ai [(1000,.dead),(2000,.arr sz Fy)] Aa)=AR (AR st.h r .dead) (Bp dd 0) (.arr sz Fy):=by
       funext i
       by_cases e:i=Bp dd 0
       ·subst e;rw[A8];have hn:Cf [(r,1000)] (Bp dd 0)=none:=by simp[Cf,Cw vt]
        have hb:(Nat.ble (Bp dd 0) (Bp dd 0)&&Nat.blt (Bp dd 0) (Bp dd 1))=true:=by
         unfold Bp;simp only[Af,CT,Ca];omega
        simp only[D6,hn,hb,Gf];rfl
       ·rw[BT _ _ _ _ e]
        by_cases e4:i=r
        ·subst e4;rw[A8];simp[D6,hf,Ai,HO.ren]
        ·rw[BT _ _ _ _ e4];have hn:Cf [(r,1000)] i=none:=by simp[Cf,Cw (Ne.symm e4)]
         have:(Nat.ble (Bp dd 0) i&&Nat.blt i (Bp dd 1))=false:=by
          rw[AM];simp only[U6,Af,CT,Ca];unfold Bp at e⊢;omega
         simp only[D6,hn,this]
      rw[f1,f2];exact h2
    ·exact hk.elim
   ·exact hk.elim
  ·exact hk.elim
theorem d7{cx:Cx}{dr:Bool}{d:Option Nat}{f:Operand}{args:Array Operand}{GG:Array TypeId}{dst:Option Nat}{ty:Nat}{pos:String}{after:Array Edge}{gd:Option (Nat×Bool)}{K:HK}{next:Act→World→Prop}{Q:Exit→Act→World→Prop}
  (hP:cx.P=P) (hY:∀l σ h g w,Ek σ=true→DA w0 g0 h0 h g w→Le h0 g0 w0 h g w→cx.yp l σ (Dn σ g) w) {ro:Option Nat} (hS:SR N ds w0 g0 h0 st g a w) (hk:Gg cx dr d st (ev st.t f) (args.toList.map (ev st.t)) K)
  (hn:Yx w0 g0 h0 st.h g w K fun x w'=>next (a.put dst x) w'):Oper.wpIn (JB ro) 0 P ⟨dst,.call ⟨.value f,args,GG⟩,ty,pos,after,gd⟩ a w next Q:=by
 subst hP;have hk:Gg cx false d st (ev st.t f) (args.toList.map (ev st.t)) K:=by
  cases dr with
  |true=>exact bA hk
  |false=>exact hk
 have Jc:∀(i:Nat) (av:AV) (x:Value),((args.toList.map (ev st.t)).map (str st.h))[i]?=some av→(args.map a.eval)[i]?=some x→BD g w Fg av x:=by
  intro i av x h1 h2;rw[AF,AF]at h1;rw[N0]at h2;cases ho:args[i]? with
  |none=>rw[ho]at h2;simp at h2
  |some y =>
   rw[ho]at h2;have hy:args.toList[i]?=some y:=by simpa using ho
   rw[hy]at h1;simp only[Fv,Bh]at h1 h2;subst h1;subst h2;exact BD.str hS.inv.objs (hS.eval y)
 have Cn:(args.map a.eval).size=((args.toList.map (ev st.t)).map (str st.h)).length:=by simp
 have hF:=BD.str hS.inv.objs (hS.eval f)
 -- a call of yield
 have yl:∀(l:Nat) (R:Ending→World→Prop),a.eval f=.func (.yield l) #[] #[]→YieldAt Fence.wide 0 cx.P l (args.map a.eval) w R→(∀e w',R e w'→∃v,e=.returned v∧next (a.put dst v) w') →
   Oper.wpIn (JB ro) 0 cx.P ⟨dst,.call ⟨.value f,args,GG⟩,ty,pos,after,gd⟩ a w next Q:=by
  rintro l R hx ⟨fn,tm,Gz,bd,h1,h2⟩ hR
  refine⟨fun _ _=>trivial,?_⟩;have e:(⟨dst,.call ⟨.value f,args,GG⟩,ty,pos,after,gd⟩:Oper).semAt (JB ro).round a.eval=execOp a.eval ⟨dst,.call ⟨.value f,args,GG⟩,ty,pos,after,gd⟩:=Oper.semAt_eq ro a.eval _ (fun c e=>by cases e);have CB:(execOp a.eval ⟨dst,.call ⟨.value f,args,GG⟩,ty,pos,after,gd⟩).run cx.P w=.ok (.round l fn tm Gz bd) w:=by
   simp only[execOp,resolve,hx,Deferred.ofValue,Sem.run_bind,Sem.run_pure,Result.andThen_ok,invoke];simpa using h1
  rw[e,CB];refine(show(_→_)∧RoundIn (JB ro) 0 cx.P l fn tm Gz bd w _ from⟨fun e=>by(cases e),RoundIn.mono h2 fun e w' h=>?_⟩);obtain⟨v,rfl,hn⟩:=hR e w' h;exact hn
 -- the call itself
 have go:∀(Q' : AV→(Nat→HO)→Prop),(∀r h',Q' r h'→h'=Aa∧K r st.h)→F2 cx.P (fun _ _ _=>True) (str st.h (ev st.t f)) ((args.toList.map (ev st.t)).map (str st.h)) Aa Q' →
   Oper.wpIn (JB ro) 0 cx.P ⟨dst,.call ⟨.value f,args,GG⟩,ty,pos,after,gd⟩ a w next Q:=by
  intro Q' hQ hc
  have fin:∀{fn:Nat} {l:List AV} {vals:Array Value},A3 cx.P fn l Aa Q'→vals.size=l.length→(∀(i:Nat) (av:AV) (x:Value),l[i]?=some av→vals[i]?=some x→BD g w Fg av x) →
    (execOp a.eval ⟨dst,.call ⟨.value f,args,GG⟩,ty,pos,after,gd⟩).run cx.P w=.ok (.enter fn vals) w→Oper.wpIn (JB ro) 0 cx.P ⟨dst,.call ⟨.value f,args,GG⟩,ty,pos,after,gd⟩ a w next Q:=by
   intro fn l vals hc hs hv CB;refine MK (fun c e=>by cases e) ?_;unfold Oper.wp;rw[CB];exact bB hS.inv hc hs hv (fun v r h' g' w' hq _ hI Hg hr=>hn r _ g' w' v (hQ r h' hq).2 hI Hg (hr.up _)) (fun r h' hq=>(hQ r h' hq).1)
  unfold F2 at hc;split at hc
  ·rename_i fn e;rw[e]at hF;have hx:=hF.v_eq;refine fin hc Cn Jc ?_;have JM : a.eval f=.func (.func fn) #[] #[]:=hx;simp only[execOp,resolve,JM,Deferred.ofValue,Sem.run_bind,Sem.run_pure,Result.andThen_ok,invoke];rw[Gx hc.1];simp
  ·rename_i fn caps e;rw[e]at hF;generalize hx:a.eval f=fv at hF;cases hF with
   |clo _ _ _ vs EC OF =>
    refine fin hc (vals:=args.map a.eval++vs) (by simp[EC]) (fun i av x h1 h2=>?_) ?_
    ·rw[LK]at h1;rw[HN]at h2;have hl:((args.toList.map (ev st.t)).map (str st.h)).length=(args.map a.eval).size:=Cn.symm;rw[hl]at h1;split at h1
     ·rename_i hi;rw[Ao hi]at h2;exact Jc i av x h1 h2
     ·rename_i hi;rw[Ah hi]at h2;exact OF _ av x h1 h2
    ·simp only[execOp,resolve,hx,Deferred.ofValue,Sem.run_bind,Sem.run_pure,Result.andThen_ok,invoke];rw[Gx hc.1];simp
  ·rename_i l e;rw[e]at hF;have hU:AP Aa=Fg:=by funext i;unfold AP Fg Aa;simp
   refine yl l _ hF.v_eq (RW (C:=YieldAt Fence.wide 0 cx.P l (args.map a.eval) w) (R:=fun e w'=>∃v,e=.returned v∧next (a.put dst v) w') YieldAt.imp hS.inv (fun jL=>hc g w _ Cn (fun i av x h1 h2=>by rw[hU];exact Jc i av x h1 h2) jL trivial)
    (fun v r h' g' w' hq _ hI Hg hr=>⟨v,rfl,hn r _ g' w' v (hQ r h' hq).2 hI Hg (hr.up _)⟩) (fun r h' hq=>(hQ r h' hq).1)) fun _ _ h=>h
  ·exact hc.elim
 have pure:(∃res,Pm cx.P (str st.h (ev st.t f)) ((args.toList.map (ev st.t)).map (str st.h)) res∧K res st.h)→Oper.wpIn (JB ro) 0 cx.P ⟨dst,.call ⟨.value f,args,GG⟩,ty,pos,after,gd⟩ a w next Q:=by
  rintro⟨res,h1,h2⟩
  refine go (fun r h'=>r=res∧h'=Aa) (fun r h' hq=>⟨hq.2,by rw[hq.1];exact h2⟩) ?_;unfold Pm at h1;unfold F2;split at h1
  ·rename_i fn e;rw[e];exact h1
  ·rename_i fn caps e;rw[e];exact h1
  ·exact h1.elim
 unfold Gg at hk
 ·obtain⟨m,hm⟩:=hk;cases m with
  |pure=>exact pure hm
  |rel=>exact go _ (fun r h' hq=>hq) hm
  |gen σ nn =>
   simp only at hm;cases d with
   |none=>exact hm.elim
   |some d =>
    simp only at hm;obtain⟨Gv,hc⟩:=hm;have hσ:Ek σ=true:=by simp only[Af]at Gv;exact Gv.1.1
    obtain⟨hR,_⟩:=Wa hS.inv hσ;have bV:=(hS.eval f).ren hR;have SA:∀(i:Nat) (av:AV) (x:Value),((args.toList.map (ev st.t)).map (ren (Cf σ) st.h))[i]?=some av→(args.map a.eval)[i]?=some x→BD (Dn σ g) w (AP (Fw σ st.h)) av x:=by
     intro i av x h1 h2;rw[AF,AF]at h1;rw[N0]at h2;cases ho:args[i]? with
     |none=>rw[ho]at h2;simp at h2
     |some y =>
      rw[ho]at h2;have hy:args.toList[i]?=some y:=by simpa using ho
      rw[hy]at h1;simp only[Fv,Bh]at h1 h2;subst h1;subst h2;exact(hS.eval y).ren hR
    have Lu:(args.map a.eval).size=((args.toList.map (ev st.t)).map (ren (Cf σ) st.h)).length:=by simp
    have fin:∀{fn:Nat} {l:List AV} {vals:Array Value},A3 cx.P fn l (Fw σ st.h) (fun r h'=>K (ren (E3 σ d nn) h' r) (D6 σ d nn st.h h'))→vals.size=l.length →
      (∀(i:Nat) (av:AV) (x:Value),l[i]?=some av→vals[i]?=some x→BD (Dn σ g) w (AP (Fw σ st.h)) av x) →
      (execOp a.eval ⟨dst,.call ⟨.value f,args,GG⟩,ty,pos,after,gd⟩).run cx.P w=.ok (.enter fn vals) w→Oper.wpIn (JB ro) 0 cx.P ⟨dst,.call ⟨.value f,args,GG⟩,ty,pos,after,gd⟩ a w next Q:=by
     intro fn l vals hc hs hv CB;refine MK (fun c e=>by cases e) ?_;unfold Oper.wp;rw[CB];exact d8 hS.inv Gv hc hs hv (fun v r h' g' w' hq hI Hg hr=>hn _ _ g' w' v hq hI Hg hr)
    unfold F2 at hc;split at hc
    ·rename_i fn e;rw[e]at bV;have hx:a.eval f=.func (.func fn) #[] #[]:=bV.v_eq;refine fin hc Lu SA ?_;simp only[execOp,resolve,hx,Deferred.ofValue,Sem.run_bind,Sem.run_pure,Result.andThen_ok,invoke];rw[Gx hc.1];simp
    ·rename_i fn caps e;rw[e]at bV;generalize hx:a.eval f=fv at bV;cases bV with
     |clo _ _ _ vs EC OF =>
      refine fin hc (vals:=args.map a.eval++vs) (by simp[EC]) (fun i av x h1 h2=>?_) ?_
      ·rw[LK]at h1;rw[HN]at h2;have hl:((args.toList.map (ev st.t)).map (ren (Cf σ) st.h)).length=(args.map a.eval).size:=Lu.symm;rw[hl]at h1;split at h1
       ·rename_i hi;rw[Ao hi]at h2;exact SA i av x h1 h2
       ·rename_i hi;rw[Ah hi]at h2;exact OF _ av x h1 h2
      ·simp only[execOp,resolve,hx,Deferred.ofValue,Sem.run_bind,Sem.run_pure,Result.andThen_ok,invoke];rw[Gx hc.1];simp
    ·rename_i l e;rw[e]at bV
     exact yl l _ bV.v_eq (Mu (C:=YieldAt Fence.wide 0 cx.P l (args.map a.eval) w) (R:=fun e w'=>∃v,e=.returned v∧next (a.put dst v) w') YieldAt.imp hS.inv Gv (fun jL=>hc (Dn σ g) w _ Lu SA jL (hY l σ _ _ _ hσ hS.inv hS.le))
      (fun v r h' g' w' hq hI Hg hr=>⟨v,rfl,hn _ _ g' w' v hq hI Hg hr⟩)) fun _ _ h=>h
    ·exact hc.elim
  |geny σ nn =>
   simp only at hm;cases d with
   |none=>exact hm.elim
   |some d =>
    simp only at hm;obtain⟨Gv,hc⟩:=hm;have hσ:Ek σ=true:=by simp only[Af]at Gv;exact Gv.1.1
    obtain⟨hR,_⟩:=Wa hS.inv hσ;have bV:=(hS.eval f).ren hR;have SA:∀(i:Nat) (av:AV) (x:Value),((args.toList.map (ev st.t)).map (ren (Cf σ) st.h))[i]?=some av→(args.map a.eval)[i]?=some x→BD (Dn σ g) w (AP (Fw σ st.h)) av x:=by
     intro i av x h1 h2;rw[AF,AF]at h1;rw[N0]at h2;cases ho:args[i]? with
     |none=>rw[ho]at h2;simp at h2
     |some y =>
      rw[ho]at h2;have hy:args.toList[i]?=some y:=by simpa using ho
      rw[hy]at h1;simp only[Fv,Bh]at h1 h2;subst h1;subst h2;exact(hS.eval y).ren hR
    have Lu:(args.map a.eval).size=((args.toList.map (ev st.t)).map (ren (Cf σ) st.h)).length:=by simp
    split at hc
    ·rename_i fn caps e;rw[e]at bV;generalize hx:a.eval f=fv at bV;cases bV with
     |clo _ _ _ vs EC OF =>
      have CB:(execOp a.eval ⟨dst,.call ⟨.value f,args,GG⟩,ty,pos,after,gd⟩).run cx.P w=.ok (.enter fn (args.map a.eval++vs)) w:=by
       simp only[execOp,resolve,hx,Deferred.ofValue,Sem.run_bind,Sem.run_pure,Result.andThen_ok,invoke];rw[Gx hc.1];simp
      refine MK (fun c e=>by cases e) ?_;unfold Oper.wp;rw[CB];refine Mu (C:=Calls cx.P fn (args.map a.eval++vs) w) (fun h k=>h.mono k) hS.inv Gv (fun jL=>hc.2 (Dn σ g) w _ (by simp[EC]) (fun i av x h1 h2=>?_) jL (fun l=>hY l σ _ _ _ hσ hS.inv hS.le)) (fun v r h' g' w' hq hI Hg hr=>hn _ _ g' w' v hq hI Hg hr);rw[LK]at h1;rw[HN]at h2;have hl:((args.toList.map (ev st.t)).map (ren (Cf σ) st.h)).length=(args.map a.eval).size:=Lu.symm;rw[hl]at h1;split at h1
      ·rename_i hi;rw[Ao hi]at h2;exact SA i av x h1 h2
      ·rename_i hi;rw[Ah hi]at h2;exact OF _ av x h1 h2
    ·exact hc.elim
end
end Go.Eng
