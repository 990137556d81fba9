/- Lemmas for the claims of this seat, without a condition: part 12 (EngZ1, EngZ2, EngZA). -/
import Derived.Test.YtddfphmpfnmknaaGreatDoorDA11
namespace Go.Eng
theorem WS:∀{σ:I7},GW σ=true→∀i j,Cq σ i=some j↔HZ σ j=some i
 | [],_,i,j=>by simp[Cq,HZ]
 |(a,b)::r,h,i,j=>by
  simp only[GW,Ah]at h;obtain⟨h1,h2⟩:=h;have ih:=WS h2;have jI:Cq r a=none∧HZ r b=none:=by
   split at h1
   ·rename_i e1 e2;exact⟨e1,e2⟩
   ·cases h1
  unfold Cq HZ
  by_cases e1:a=i<;>by_cases e2:b=j
  ·subst e1;subst e2;simp
  ·subst e1;simp only[CX,JZ,CM e2,Ew];constructor
   ·intro h;cases h;exact absurd rfl e2
   ·intro h;rw[(ih a j).2 h]at jI;cases jI.1
  ·subst e2;simp only[CX,JZ,CM e1,Ew];constructor
   ·intro h;rw[(ih i b).1 h]at jI;cases jI.2
   ·intro h;cases h;exact absurd rfl e1
  ·simp only[CM e1,CM e2,Ew];exact ih i j
theorem iI:∀{σ:I7},Ev σ=true→GW σ=true
 | [],_=>rfl
 |(a,b)::r,h=>by
  simp only[Ev,Ah]at h;simp only[GW,Ah];exact⟨h.1.1.1,iI h.2⟩
theorem W5{σ:I7}(h:Ev σ=true):∀i j,Cq σ i=some j↔HZ σ j=some i:=WS (iI h)
theorem VM:∀{σ:I7},Ev σ=true→∀{i j},Cq σ i=some j→1000≤j∧j<2000
 | [],_,i,j,h=>by simp[Cq]at h
 |(a,b)::r,h,i,j,hf=>by
  simp only[Ev,Ah,Dg,Cg]at h;unfold Cq at hf
  by_cases e1:a=i
  ·subst e1;simp only[CX,JZ]at hf;cases hf;exact⟨h.1.1.2,h.1.2⟩
  ·simp only[CM e1,Ew]at hf;exact VM h.2 hf
theorem Pt(f:Nat→Option Nat)(h:Nat→HO):∀(σ:I7) (j:Nat),Ak (W4 f h σ) Aa j=match HZ σ j with | some i=>(h i).ren f h | none=>.free
 | [],j=>rfl
 |(a,b)::r,j=>by
  unfold W4 Ak HZ
  by_cases e:b=j
  ·subst e;simp
  ·simp only[CM e,CM (Ne.symm e),Ew];exact Pt f h r j
structure Ky(f:Nat→Option Nat)(h h2:Nat→HO)(g g2:Gh)(w:World):Prop where
 ids:∀r r',f r=some r'→AT h r→g2.tk r'=g.tk r∧g2.ln r'=g.ln r∧g2.ρ r'=g.ρ r∧g2.own r'=g.own r∧AT h2 r'
 S:∀b o,g2.S b o↔g.S b o
 objs:∀r,Ej g w (AT h) r (h r)
section
variable {f:Nat→Option Nat}{h h2:Nat→HO}{g g2:Gh}{w:World}
theorem Ky.keeps(hR:Ky f h h2 g g2 w):EO g w g2 w:=fun b o hs=>⟨(hR.S b o).2 hs,rfl,fun _ _ e=>e⟩
theorem Ky.noU(hR:Ky f h h2 g g2 w){av:AV}{x:Value}(r:BH g w Fy av x):BH g2 w (AT h2) av x:=r.mono hR.keeps (fun _ h=>h.elim) (fun _ h=>h.elim)
theorem BH.ren0(hR:Ky f h h2 g g2 w){av:AV}{x:Value}(r:BH g w (AT h) av x):BH g2 w (AT h2) (ren0 f h av) x:=by
 have down:BH g2 w (AT h2) (Eng.str0 h av) x:=hR.noU (BH.str0 hR.objs r);cases av with
 |v y=>exact down
 |slice tk es =>
  cases tk with
  |none=>exact down
  |full sz=>exact down
  |id i sz =>
   simp only[Eng.ren0];split
   ·rename_i i' e;cases r with
    |tok _ _ _ _ _ hs hl hu ht hn hx =>
     obtain⟨k1,k2,k3,k4,k5⟩:=hR.ids i i' e hu;exact .tok _ i' sz es x (hR.noU (BH.slice_none hs)) hl k5 (k1.trans ht) (by omega) (fun q=>by rw[k3];exact hx (by omega))
   ·exact hR.noU r.slice_none
  |ver i sz v =>
   simp only[Eng.ren0];split
   ·rename_i i' e;cases r with
    |ver _ _ _ _ _ _ hs hl hu ht hn hx =>
     obtain⟨k1,k2,k3,k4,k5⟩:=hR.ids i i' e hu;exact .ver _ i' sz v es x (hR.noU (BH.slice_none hs)) hl k5 (k1.trans ht) (by omega) (fun q=>by rw[k3];exact hx (by omega))
   ·exact hR.noU r.slice_none
 |msl i n =>
  simp only[Eng.ren0];split
  ·rename_i i' e;cases r with
   |msl _ _ _ a cap hu ht hn ha hx =>
    obtain⟨k1,k2,k3,k4,k5⟩:=hR.ids i i' e hu;exact .msl _ i' n a cap k5 (k1.trans ht) (by omega) ha (fun q=>by rw[k3];exact hx (by omega))
  ·exact .junk _ _
 |agg cs=>exact down
 |tup cs=>exact down
 |cptr cs=>exact down
 |ref i off =>
  simp only[Eng.ren0];split
  ·rename_i i' e;cases r with
   |ref _ _ _ b hu ht hx =>
    obtain⟨k1,k2,k3,k4,k5⟩:=hR.ids i i' e hu;exact .ref _ i' off b k5 (k1.trans ht) (k3.trans hx)
  ·exact down
 |eref i n sz k off =>
  simp only[Eng.ren0];split
  ·rename_i i' e;cases r with
   |eref _ _ _ _ _ _ b cap hu ht hn hx =>
    obtain⟨k1,k2,k3,k4,k5⟩:=hR.ids i i' e hu;exact .eref _ i' n sz k off b cap k5 (k1.trans ht) ⟨hn.1,by omega⟩ (fun q=>by rw[k3];exact hx (by omega))
  ·exact .junk _ _
 |mref i =>
  simp only[Eng.ren0];split
  ·rename_i i' e;cases r with
   |mref _ _ b hu ht hx =>
    obtain⟨k1,k2,k3,k4,k5⟩:=hR.ids i i' e hu;exact .mref _ i' b k5 (k1.trans ht) (k3.trans hx)
  ·exact down
 |cmap sh B2=>exact down
 |clo i cs=>exact down
 |junk=>exact down
theorem BH.ren1(hR:Ky f h h2 g g2 w){av:AV}{x:Value}(r:BH g w (AT h) av x):BH g2 w (AT h2) (ren1 f h av) x:=by
 cases av with
 |agg cs =>
  cases r with
  |agg _ _ vs hs h1 hr =>
   exact .agg _ _ vs (by simp[hs]) h1 fun i av x q1 q2=>by
    rw[AI]at q1;obtain⟨a,q3,rfl⟩:=AU.1 q1;exact(hr i a x q3 q2).ren0 hR
 |clo i cs =>
  cases r with
  |clo _ _ _ vs hs hr =>
   exact .clo _ _ _ vs (by simp[hs]) fun i av x q1 q2=>by
    rw[AI]at q1;obtain⟨a,q3,rfl⟩:=AU.1 q1;exact(hr i a x q3 q2).ren0 hR
 |_=>exact r.ren0 hR
theorem BH.ren(hR:Ky f h h2 g g2 w){av:AV}{x:Value}(r:BH g w (AT h) av x):BH g2 w (AT h2) (ren f h av) x:=by
 cases av with
 |tup cs =>
  cases r with
  |tup _ _ vs hs hr =>
   exact .tup _ _ vs (by simp[hs]) fun i av x q1 q2=>by
    rw[AI]at q1;obtain⟨a,q3,rfl⟩:=AU.1 q1;exact(hr i a x q3 q2).ren1 hR
 |_=>exact r.ren1 hR
theorem Mr(f:Nat→Option Nat)(h:Nat→HO)(o:HO):(o.ren f h).live↔o.live:=by cases o<;>exact QQ
theorem Ms(f:Nat→Option Nat)(h:Nat→HO)(o:HO):o.ren f h≠.free↔o≠.free:=by cases o<;>simp[HO.ren]
theorem Ej.ren(hR:Ky f h h2 g g2 w){i j:Nat}(PK:f i=some j)(hu:AT h i){o:HO}(r:Ej g w (AT h) i o):Ej g2 w (AT h2) j (o.ren f h):=by
 obtain⟨k1,k2,k3,k4,k5⟩:=hR.ids i j PK hu;have noL:∀{cs:List AV} {vs:List Value},CI g w Fy cs vs→CI g2 w Fy cs vs:=fun hr=>hr.mono hR.keeps (fun _ h=>h) (fun _ h=>h.elim);have uv:∀{av:AV} {x:Value},BH g w Fy av x→BH g2 w Fy av x:=fun hr=>hr.mono hR.keeps (fun _ h=>h) (fun _ h=>h.elim);cases o with
 |free=>trivial
 |dead=>trivial
 |cells cs =>
  obtain⟨t,b,E,vs,a1,a2,a3,a4,a5⟩:=r;refine⟨k1.trans t,b,E,vs,k4.trans a1,k3.trans a2,a3,⟨by simp[a4.1],a4.2.1,fun i av x q1 q2=>?_⟩,fun o ho=>a5 o ((hR.S b o).1 ho)⟩;rw[AI]at q1;obtain⟨a,q3,rfl⟩:=AU.1 q1;exact(a4.2.2 i a x q3 q2).ren1 hR
 |ro cs =>
  obtain⟨t,b,a1,a2⟩:=r;exact⟨k1.trans t,b,k3.trans a1,uv a2⟩
 |tok sz n =>
  obtain⟨t,l,a,cap,a1,a2⟩:=r;refine⟨k1.trans t,k2.trans l,a,cap,k3.trans a1,?_⟩;rcases a2 with ⟨b1,b2⟩ | ⟨b1,b,E,vs,off,b2,b3,b4,b5,b6⟩
  ·exact .inl ⟨b1,k4.trans b2⟩
  ·exact .inr ⟨b1,b,E,vs,off,b2,k4.trans b3,b4,b5,fun o ho=>b6 o ((hR.S b o).1 ho)⟩
 |var sz v n =>
  obtain⟨t,l,a,cap,a1,a2⟩:=r;refine⟨k1.trans t,k2.trans l,a,cap,k3.trans a1,?_⟩;rcases a2 with ⟨b1,b2⟩ | ⟨b1,b,E,vs,off,b2,b3,b4,b5,b6⟩
  ·exact .inl ⟨b1,k4.trans b2⟩
  ·exact .inr ⟨b1,b,E,vs,off,b2,k4.trans b3,b4,b5,fun o ho=>b6 o ((hR.S b o).1 ho)⟩
 |vox v=>exact⟨k1.trans r.1,k2.trans r.2⟩
 |hol sz es i c av =>
  obtain⟨t,l,al,b,cap,E,vs,b1,b2,b3,b4,b5,b6,b7,b8,x,b9,Y2⟩:=r;exact⟨k1.trans t,k2.trans l,al,b,cap,E,vs,k3.trans b1,k4.trans b2,b3,b4,b5,noL b6,fun o ho=>b7 o ((hR.S b o).1 ho),b8,x,b9,Y2.ren1 hR⟩
 |raw b ob =>
  obtain⟨t,a1,a2,a3,a4⟩:=r;exact⟨k1.trans t,k4.trans a1,a2,a3,fun o ho=>a4 o ((hR.S b o).1 ho)⟩
 |arr sz es =>
  obtain⟨t,l,al,a2⟩:=r;refine⟨k1.trans t,k2.trans l,al,?_⟩;rcases a2 with ⟨b1,b2,b3⟩ | ⟨b,cap,E,vs,b1,b2,b3,b4,b5,b6,b7⟩
  ·exact .inl ⟨b1,k3.trans b2,k4.trans b3⟩
  ·exact .inr ⟨b,cap,E,vs,k3.trans b1,k4.trans b2,b3,b4,b5,noL b6,fun o ho=>b7 o ((hR.S b o).1 ho)⟩
 |map sh B2 =>
  obtain⟨t,b,es,ck,a1,a2,a3,a4,a5,a6⟩:=r;exact⟨k1.trans t,b,es,ck,k4.trans a1,k3.trans a2,a3,a4,fun i kv e q1 q2=>uv (a5 i kv e q1 q2),fun o ho=>a6 o ((hR.S b o).1 ho)⟩
 |mapU sh B2 =>
  obtain⟨t,b,es,ck,a1,a2,a3,a4,a5,a6⟩:=r;refine⟨k1.trans t,b,es,ck,k4.trans a1,k3.trans a2,a3,VA _ a4,fun i kv e q1 q2=>?_,fun o ho=>a6 o ((hR.S b o).1 ho)⟩;rw[AI]at q1;obtain⟨p,q3,rfl⟩:=AU.1 q1;exact(a5 i p e q3 q2).ren1 hR
 |rom sh B2 =>
  obtain⟨t,b,a1,a2⟩:=r;exact⟨k1.trans t,b,k3.trans a1,uv a2⟩
 |iter all rem FN =>
  obtain⟨t,b,mb,Kb,seen,st,es,ck,a1,a2,a3,a4,a5,a6,a7,a8,a9,Xq,az,a12,ne⟩:=r;exact⟨k1.trans t,b,mb,Kb,seen,st,es,ck,k4.trans a1,k3.trans a2,a3,(hR.S _ _).2 a4,a5,a6,a7,a8,fun i kv e q1 q2=>uv (a9 i kv e q1 q2),Xq,az,a12,fun o ho=>ne o ((hR.S b o).1 ho)⟩
end
theorem Pk{h:Nat→HO}{d:Nat}:∀{n:Nat},DI h d n=true→∀k,k<n→h (By d k)=.free
 |0,_,k,hk=>by omega
 |n+1,hf,k,hk=>by
  simp only[DI,Ah]at hf
  by_cases e:k=n
  ·subst e
   have:=hf.1
   split at this
   ·rename_i e2;exact e2
   ·cases this
  ·exact Pk hf.2 k (by omega)
theorem Nv{d nn:Nat}:∀{σ:I7},Dv σ d nn=true→∀{i j},Cq σ i=some j→¬(By d 0≤i∧i<By d nn)
 | [],_,i,j,h=>by simp[Cq]at h
 |(a,b)::r,hs,i,j,hf=>by
  simp only[Dv,Ah]at hs;unfold Cq at hf
  by_cases e1:a=i
  ·subst e1;have h1:=hs.1;simp only[CT,Bool.and_eq_false_iff]at h1;intro hc;rcases h1 with h1 | h1
   ·rw[Nat.ble_eq_true_of_le hc.1]at h1;cases h1
   ·have h2:Nat.blt a (By d nn)=true:=by rw[Cg];exact hc.2
    rw[h2]at h1;cases h1
  ·simp only[CM e1,Ew]at hf;exact Nv hs.2 hf
section
variable {P:Program}{w0:World}{g0:Gh}{h0 h:Nat→HO}{g:Gh}{w:World}
def Dz(σ:I7)(g:Gh):Gh :=
 ⟨fun j=>match HZ σ j with | some i=>g.ρ i | none=>.nilIface,fun j=>match HZ σ j with | some i=>g.ln i | none=>0,fun j=>match HZ σ j with | some i=>g.tk i | none=>false,
  fun j=>match HZ σ j with | some i=>g.own i | none=>none,g.S⟩
def src(σ:I7)(d nn:Nat)(i:Nat):Option Nat :=
 match Cq σ i with
 |some j=>some j
 |none=>match Nat.ble (By d 0) i&&Nat.blt i (By d nn)with |true=>some (2000+(i-By d 0)) |false=>none
def GV(σ:I7)(d nn:Nat)(g g' : Gh):Gh :=
 ⟨fun i=>match src σ d nn i with | some j=>g'.ρ j | none=>g.ρ i,fun i=>match src σ d nn i with | some j=>g'.ln j | none=>g.ln i,fun i=>match src σ d nn i with | some j=>g'.tk j | none=>g.tk i,
  fun i=>match src σ d nn i with | some j=>g'.own j | none=>g.own i,g'.S⟩
theorem bV(σ:I7)(d nn:Nat)(h h' : Nat→HO)(i:Nat):Ef σ d nn h h' i=match src σ d nn i with | some j=>(h' j).ren (Fj σ d nn) h' | none=>h i:=by
 unfold Ef src;cases Cq σ i with
 |some j=>rfl
 |none =>
  dsimp only;cases Nat.ble (By d 0) i&&Nat.blt i (By d nn)<;>rfl
theorem jk{σ:I7}{d nn:Nat}(hσ:Ev σ=true)(ha:Dv σ d nn=true)(i j:Nat):src σ d nn i=some j↔Fj σ d nn j=some i:=by
 have inv:=W5 hσ;unfold src Fj;cases h1:Cq σ i with
 |some j' =>
  have hb:=(inv i j').1 h1;dsimp only;constructor
  ·intro h;cases h;rw[hb]
  ·intro h;cases h2:HZ σ j with
   |some i'=>rw[h2]at h;cases h;rw[(inv i j).2 h2]at h1;exact h1.symm
   |none =>
    rw[h2]at h;dsimp only at h;split at h
    ·rename_i hc;have h:=Ca h;subst h;simp only[Ah,Dg,Cg]at hc;exact absurd ⟨by unfold By;omega,by unfold By;omega⟩ (Nv ha h1)
    ·cases h
 |none =>
  dsimp only;cases h2:HZ σ j with
  |some i' =>
   dsimp only;have hf:=(inv i' j).2 h2;have hr:=VM hσ hf;constructor
   ·intro h;split at h
    ·cases h;omega
    ·cases h
   ·intro h;cases h;rw[hf]at h1;cases h1
  |none =>
   dsimp only;constructor
   ·intro h;split at h
    ·rename_i hc;cases h;simp only[Ah,Dg,Cg]at hc;have e1:(Nat.ble 2000 (2000+(i-By d 0))&&Nat.blt (2000+(i-By d 0)) (2000+nn))=true:=by
      simp only[Ah,Dg,Cg];unfold By at hc⊢;omega
     rw[e1]
     have:By d (2000+(i-By d 0)-2000)=i:=by unfold By at hc⊢;omega
     rw[this]
    ·cases h
   ·intro h;split at h
    ·rename_i hc;have h:=Ca h;subst h;simp only[Ah,Dg,Cg]at hc;have e1:(Nat.ble (By d 0) (By d (j-2000))&&Nat.blt (By d (j-2000)) (By d nn))=true:=by
      simp only[Ah,Dg,Cg];unfold By;omega
     rw[e1]
     have:2000+(By d (j-2000)-By d 0)=j:=by unfold By;omega
     rw[this]
    ·cases h
theorem WI(hI:DK w0 g0 h0 h g w){σ:I7}(hσ:Ev σ=true):Ky (Cq σ) h (FM σ h) g (Dz σ g) w∧DK w (Dz σ g) (FM σ h) (FM σ h) (Dz σ g) w:=by
 have inv:=W5 hσ;have Ft:∀j,FM σ h j=match HZ σ j with | some i=>(h i).ren (Cq σ) h | none=>.free:=Pt _ _ σ
 have hR:Ky (Cq σ) h (FM σ h) g (Dz σ g) w:=by
  refine⟨fun r r' hr hu=>?_,fun b o=>QQ,hI.objs⟩;have hb:=(inv r r').1 hr;refine⟨by simp[Dz,hb],by simp[Dz,hb],by simp[Dz,hb],by simp[Dz,hb],?_⟩;unfold AT;rw[Ft,hb];exact(Ms _ _ _).2 hu
 have Md:∀j,(FM σ h j).live→∃i,HZ σ j=some i∧(h i).live:=fun j hl=>by
  rw[Ft]at hl;cases e:HZ σ j with
  |none=>rw[e]at hl;exact hl.elim
  |some i=>rw[e]at hl;exact⟨i,rfl,(Mr _ _ _).1 hl⟩
 have WN:∀j i,HZ σ j=some i→(Dz σ g).own j=g.own i:=fun j i e=>by simp[Dz,e]
 refine⟨hR,rfl,rfl,rfl,Al _,fun _ _ _=>rfl,hI.slt,fun j=>?_,fun j j' b hl Qc e e'=>?_,fun j b hl e=>?_,fun _ _ h=>.inl h,hI.glob⟩
 ·rw[Ft];cases e:HZ σ j with
  |none=>trivial
  |some i =>
   by_cases hu:AT h i
   ·exact(hI.objs i).ren hR ((inv i j).2 e) hu
   ·have:h i=.free:=BV.1 hu
    dsimp only;rw[this];trivial
 ·obtain⟨i,e1,l1⟩:=Md j hl;obtain⟨i',e2,l2⟩:=Md j' Qc;rw[WN j i e1]at e;rw[WN j' i' e2]at e';obtain rfl:=hI.inj i i' b l1 l2 e e'
  have:=(inv i j).2 e1
  rw[(inv i j').2 e2]at this;cases this;rfl
 ·obtain⟨i,e1,l1⟩:=Md j hl;have e0:=e;rw[WN j i e1]at e;exact⟨(hI.loc i b l1 e).1,.inr ⟨j,hl,e0⟩⟩
theorem MH{C:(Ending→World→Prop)→Prop}(hm:∀{R R' : Ending→World→Prop},C R→(∀e w,R e w→R' e w)→C R')(hI:DK w0 g0 h0 h g w){σ:I7}{d nn:Nat}(GO:(Ev σ&&DI h d nn&&Dv σ d nn)=true){Q:AV→(Nat→HO)→Prop}
  (hc:DK w (Dz σ g) (FM σ h) (FM σ h) (Dz σ g) w→C (fun e w'=>∃v r h' g',e=Ending.returned v∧Q r h'∧BH g' w' (AT h') r v∧DK w (Dz σ g) (FM σ h) h' g' w'∧Le (FM σ h) (Dz σ g) w h' g' w')) {R:Ending→World→Prop}
  (aN:∀v r h' g2 w',Q r h'→DK w0 g0 h0 (Ef σ d nn h h') g2 w'→Le h g w (Ef σ d nn h h') g2 w'→BH g2 w' (AT (Ef σ d nn h h')) (ren (Fj σ d nn) h' r) v→R (.returned v) w'):C R:=by
 simp only[Ah]at GO;obtain⟨⟨hσ,hnf⟩,rr⟩:=GO;obtain⟨hF,kG⟩:=WI hI hσ;have inv:=W5 hσ;have kT:=jk hσ rr;refine hm (hc kG) ?_
 rintro e w' ⟨v,r,h',g',rfl,q1,q2,q3,q4⟩
 have hb:=bV σ d nn h h';have gE:∀i j,src σ d nn i=some j→(GV σ d nn g g').ρ i=g'.ρ j∧(GV σ d nn g g').ln i=g'.ln j∧(GV σ d nn g g').tk i=g'.tk j∧(GV σ d nn g g').own i=g'.own j:=fun i j e=>by simp[GV,e]
 have wT:∀i,src σ d nn i=none→(GV σ d nn g g').ρ i=g.ρ i∧(GV σ d nn g g').ln i=g.ln i∧(GV σ d nn g g').tk i=g.tk i∧(GV σ d nn g g').own i=g.own i:=fun i e=>by simp[GV,e]
 have hB:Ky (Fj σ d nn) h' (Ef σ d nn h h') g' (GV σ d nn g g') w':=by
  refine⟨fun j i hj hu=>?_,fun b o=>QQ,q3.objs⟩;have e:=(kT i j).2 hj;obtain⟨k1,k2,k3,k4⟩:=gE i j e;refine⟨k3,k2,k1,k4,?_⟩;unfold AT;rw[hb,e];exact(Ms _ _ _).2 hu
 have mw:∀j,FM σ h j=match HZ σ j with | some i=>(h i).ren (Cq σ) h | none=>.free:=Pt _ _ σ
 have wL:∀j i,Cq σ i=some j→(h i).live→(FM σ h j).live:=fun j i e hl=>by
  rw[mw,(inv i j).1 e];exact(Mr _ _ _).2 hl
 have zA:∀j i,Cq σ i=some j→(Dz σ g).own j=g.own i:=fun j i e=>by simp[Dz,(inv i j).1 e]
 have RX : ∀j,(FM σ h j).live→∃i,Cq σ i=some j∧(h i).live∧(Dz σ g).own j=g.own i:=fun j hl=>by
  rw[mw]at hl;cases e:HZ σ j with
  |none=>rw[e]at hl;exact hl.elim
  |some i=>rw[e]at hl;exact⟨i,(inv i j).2 e,(Mr _ _ _).1 hl,by simp[Dz,e]⟩
 -- what the callee may not touch
 have d9:∀b,b<w.heap.size→(∀i,(h i).live→Cq σ i≠none→g.own i≠some b)→w'.heap[b]?=w.heap[b]?:=fun b DB hn=>q3.frame b DB fun j hl e=>by
  obtain⟨i,e1,l1,o1⟩:=RX j hl;exact hn i l1 (by rw[e1];simp) (by rw[←o1];exact e)
 have wz:∀b o,g'.S b o→b<w.heap.size→(∀i,(h i).live→Cq σ i≠none→g.own i≠some b)→g.S b o:=fun b o hs DB hn=>by
  rcases q3.sg b o hs with h1 | h1 | ⟨j,h1,h2⟩
  ·exact h1
  ·omega
  ·obtain⟨i,e1,l1,o1⟩:=RX j h1;exact absurd (by rw[←o1];exact h2) (hn i l1 (by rw[e1];simp))
 have hk:EO g w (GV σ d nn g g') w':=q4.keeps;have Aa:∀i,Cq σ i=none→src σ d nn i≠none→h i=.free:=fun i e1 e2=>by
  unfold src at e2;rw[e1]at e2;dsimp only at e2;split at e2
  ·rename_i hc;simp only[Ah,Dg,Cg]at hc
   have:=Pk hnf (i-By d 0) (by unfold By at hc⊢;omega)
   rw[show By d (i-By d 0)=i by unfold By at hc⊢;omega]at this;exact this
  ·exact absurd rfl e2
 have cJ:∀i j,Cq σ i=some j→src σ d nn i=some j:=fun i j e=>by unfold src;rw[e]
 have zF:Ke g (GV σ d nn g g') (AT h):=fun i hu=>by
  cases e:Cq σ i with
  |some j =>
   obtain⟨k1,k2,k3,k4⟩:=gE i j (cJ i j e);obtain⟨f1,f2,f3,f4,f5⟩:=hF.ids i j e hu;obtain⟨m1,m2,m3,m4⟩:=q4.gh j f5;exact⟨(k3.trans m1).trans f1,by omega,fun t=>(k1.trans (m3 (f1.trans t))).trans f3,fun l=>(k1.trans (m4 (by omega))).trans f3⟩
  |none =>
   have e2:src σ d nn i=none:=BV.1 fun e2=>hu (Aa i e e2);obtain⟨k1,k2,k3,k4⟩:=wT i e2;exact⟨k3,by omega,fun _=>k1,fun _=>k1⟩
 have Kr:∀i,AT h i→AT (Ef σ d nn h h') i:=fun i hu=>by
  unfold AT;rw[hb];cases e:Cq σ i with
  |some j =>
   rw[cJ i j e];exact(Ms _ _ _).2 (q4.us j (hF.ids i j e hu).2.2.2.2)
  |none =>
   have e2:src σ d nn i=none:=BV.1 fun e2=>hu (Aa i e e2);rw[e2];exact hu
 have cE:∀i,(Ef σ d nn h h' i).live→(∃j,src σ d nn i=some j∧(h' j).live∧(GV σ d nn g g').own i=g'.own j)∨(src σ d nn i=none∧(h i).live∧(GV σ d nn g g').own i=g.own i∧Cq σ i=none):=fun i hl=>by
  rw[hb]at hl;cases e:src σ d nn i with
  |some j=>rw[e]at hl;exact .inl ⟨j,rfl,(Mr _ _ _).1 hl,(gE i j e).2.2.2⟩
  |none =>
   rw[e]at hl;refine .inr ⟨rfl,hl,(wT i e).2.2.2,?_⟩;cases e2:Cq σ i with
   |none=>rfl
   |some j=>rw[cJ i j e2]at e;cases e
 have rv:∀j b,(h' j).live→g'.own j=some b→b<w'.heap.size∧(w.heap.size≤b∨∃i,Cq σ i≠none∧(h i).live∧g.own i=some b):=fun j b hl e=>by
  obtain⟨h1,h2⟩:=q3.loc j b hl e;refine⟨h1,h2.imp id ?_⟩
  rintro⟨j',l',e'⟩
  obtain⟨i,e1,l1,o1⟩:=RX j' l';exact⟨i,by rw[e1];simp,l1,by rw[←o1];exact e'⟩
 have kV:∀i b,(h i).live→g.own i=some b→Cq σ i=none→∀i',(h i').live→Cq σ i'≠none→g.own i'≠some b:=fun i b hl e hn i' Qc X9 e'=>by
  obtain rfl:=hI.inj i i' b hl Qc e e';exact X9 hn
 refine aN v r h' (GV σ d nn g g') w' q1 ⟨q3.os.trans hI.os,q3.tape.trans hI.tape,q3.output.trans hI.output,Bx hI.size q3.size,fun b DB hn=>?_,q3.slt,fun i=>?_,fun i i' b hl Qc e e'=>?_,fun i b hl e=>?_,fun b o hs=>?_,hI.glob.keep hk⟩ ⟨zF,Kr,hk⟩ (q2.ren hB)
 ·refine(d9 b (BB DB hI.size) fun i hl _ e=>?_).trans (hI.frame b DB hn);rcases(hI.loc i b hl e).2 with h1 | ⟨r',h1,h2⟩
  ·omega
  ·exact hn r' h1 h2
 ·rw[hb];cases e:src σ d nn i with
  |some j =>
   by_cases hu:AT h' j
   ·exact(q3.objs j).ren hB ((kT i j).1 e) hu
   ·have:h' j=.free:=BV.1 hu
    dsimp only;rw[this];trivial
  |none =>
   obtain⟨k1,k2,k3,k4⟩:=wT i e;have e2:Cq σ i=none:=by
    cases e2:Cq σ i with
    |none=>rfl
    |some j=>rw[cJ i j e2]at e;cases e
   refine(hI.objs i).same hk Kr zF k1 k2 k3 k4 fun b hl ho=>?_;have DB:=(hI.loc i b hl ho).1;exact⟨d9 b DB (kV i b hl ho e2),fun k hs=>wz b k hs DB (kV i b hl ho e2)⟩
 ·have mixed:∀i j i',(h' j).live→g'.own j=some b→(h i').live→g.own i'=some b→Cq σ i'=none→i=i':=fun i j i' l1 o1 l2 o2 n2=>by
   rcases(rv j b l1 o1).2 with h1 | ⟨i3,n3,l3,o3⟩
   ·have:=(hI.loc i' b l2 o2).1;omega
   ·exact absurd o3 (kV i' b l2 o2 n2 i3 l3 n3)
  rcases cE i hl with ⟨j,s1,l1,o1⟩ | ⟨s1,l1,o1,n1⟩<;>rcases cE i' Qc with ⟨j',s2,l2,o2⟩ | ⟨s2,l2,o2,n2⟩
  ·obtain rfl:=q3.inj j j' b l1 l2 (by rw[←o1];exact e) (by rw[←o2];exact e');have a1:=(kT i j).1 s1;rw[(kT i' j).1 s2]at a1;cases a1;rfl
  ·exact mixed i j i' l1 (by rw[←o1];exact e) l2 (by rw[←o2];exact e') n2
  ·exact(mixed i' j' i l2 (by rw[←o2];exact e') l1 (by rw[←o1];exact e) n1).symm
  ·exact hI.inj i i' b l1 l2 (by rw[←o1];exact e) (by rw[←o2];exact e')
 ·rcases cE i hl with ⟨j,s1,l1,o1⟩ | ⟨s1,l1,o1,n1⟩
  ·obtain⟨h1,h2⟩:=rv j b l1 (by rw[←o1];exact e);refine⟨h1,?_⟩;rcases h2 with h2 | ⟨i3,n3,l3,o3⟩
   ·exact .inl (Bx hI.size h2)
   ·exact(hI.loc i3 b l3 o3).2
  ·obtain⟨h1,h2⟩:=hI.loc i b l1 (by rw[←o1];exact e);exact⟨BB h1 q3.size,h2⟩
 ·rcases q3.sg b o hs with h1 | h1 | ⟨j,h1,h2⟩
  ·exact hI.sg b o h1
  ·exact .inr (.inl (Bx hI.size h1))
  ·obtain⟨i,e1,l1,o1⟩:=RX j h1;exact .inr (hI.loc i b l1 (by rw[←o1];exact h2)).2
theorem fh(hI:DK w0 g0 h0 h g w){σ:I7}{d nn:Nat}(GO:(Ev σ&&DI h d nn&&Dv σ d nn)=true){f:Nat}{args:List AV}{Q:AV→(Nat→HO)→Prop}(hc:A6 P f args (FM σ h) Q){vals:Array Value}(hs:vals.size=args.length)
  (hv:∀(i:Nat) (av:AV) (x:Value),args[i]?=some av→vals[i]?=some x→BH (Dz σ g) w (AT (FM σ h)) av x) {R:Ending→World→Prop}
  (aN:∀v r h' g2 w',Q r h'→DK w0 g0 h0 (Ef σ d nn h h') g2 w'→Le h g w (Ef σ d nn h h') g2 w'→BH g2 w' (AT (Ef σ d nn h h')) (ren (Fj σ d nn) h' r) v→R (.returned v) w'):Calls P f vals w R :=
 MH (C:=Calls P f vals w) (fun h k=>h.mono k) hI GO (hc.2 (Dz σ g) w vals hs hv) aN
end
structure SR(N:Nat)(ds:List Deferred)(w0:World)(g0:Gh)(h0:Nat→HO)(st:St)(g:Gh)(a:Act)(w:World):Prop where
 inv:DK w0 g0 h0 st.h g w
 le:Le h0 g0 w0 st.h g w
 dfs:a.defers=ds
 size:a.tmps.size=N
 slots:∀i,BH g w (AT st.h) (st.t i) (a.tmps.getD i undef)
section
variable {P:Program}{N:Nat}{ds:List Deferred}{w0:World}{g0:Gh}{h0:Nat→HO}{st:St}{g:Gh}{a:Act}{w:World}
theorem SR.eval(hS:SR N ds w0 g0 h0 st g a w)(x:Operand):BH g w (AT st.h) (ev st.t x) (a.eval x):=by
 cases x with
 |tmp i=>exact hS.slots i
 |const v=>exact .v _ _
 |global b=>exact .v _ _
 |func f=>exact .v _ _
theorem SR.put(hS:SR N ds w0 g0 h0 st g a w){d:Option Nat}(hd:∀i,d=some i→i<N){v:AV}{x:Value}{h' : Nat→HO}{g' : Gh}{w' : World}(hI:DK w0 g0 h0 h' g' w')(He:Le st.h g w h' g' w')(hr:BH g' w' (AT h') v x) :
  SR N ds w0 g0 h0 (st.put d v h') g' (a.put d x) w':=by
 have old:∀i,BH g' w' (AT h') (st.t i) (a.tmps.getD i undef):=fun i=>(hS.slots i).le He;cases d with
 |none=>exact⟨hI,hS.le.trans He,hS.dfs,hS.size,old⟩
 |some d =>
  have wN:=hd d rfl;refine⟨hI,hS.le.trans He,hS.dfs,by simp[Act.put,hS.size],fun i=>?_⟩;simp only[St.put,Act.put,Hh]
  by_cases e:i=d
  ·subst e
   have:i<a.tmps.size:=by rw[hS.size];exact wN
   simp only[CX,JZ];rw[Cs,Array.getElem?_setIfInBounds_self,Ap this];exact hr
  ·simp only[CM e,Ew];rw[Cs,Array.getElem?_setIfInBounds_ne (Ne.symm e),←Cs];exact old i
def Y5(w0:World)(g0:Gh)(h0 h:Nat→HO)(g:Gh)(w:World)(K:HK)(next:Value→World→Prop):Prop :=
 ∀v h' g' w' x,K v h'→DK w0 g0 h0 h' g' w'→Le h g w h' g' w'→BH g' w' (AT h') v x→next x w'
theorem D1{o:Oper}{m:Sem Value}{K:HK}{next:Act→World→Prop}{Q:Exit→Act→World→Prop}(hx:execOp a.eval o=(do pure (Next.value (←m))))(hd:On P w0 g0 h0 st.h g w m K)
  (hn:Y5 w0 g0 h0 st.h g w K fun x w'=>next (a.put o.dst x) w'):o.wp P a w next Q:=by
 obtain⟨x,w',g',av,h',h1,h2,h3,h4,h5⟩:=hd;unfold Oper.wp;rw[hx,Sem.run_bind,h1];exact hn av h' g' w' x h2 h3 h4 h5
theorem Xe{o:Oper}{m:Sem Unit}{K:HK}{next:Act→World→Prop}{Q:Exit→Act→World→Prop}(hx:execOp a.eval o=(do m;pure Next.skip))(hd:eH P w0 g0 h0 st.h g w m K)
  (hn:Y5 w0 g0 h0 st.h g w K fun x w'=>next (a.put o.dst x) w'):o.wp P a w next Q:=by
 obtain⟨w',g',h',h1,h2,h3,h4⟩:=hd;unfold Oper.wp;rw[hx,Sem.run_bind,h1];exact hn _ h' g' w' undef h2 h3 h4 (.v _ _)
theorem bI{o:Oper}{K:HK}{next:Act→World→Prop}{Q:Exit→Act→World→Prop}{v:AV}{x:Value}(hI:DK w0 g0 h0 st.h g w)(hx:(execOp a.eval o).run P w=.ok (.value x) w)(hk:K v st.h)(hr:BH g w (AT st.h) v x)
  (hn:Y5 w0 g0 h0 st.h g w K fun x w'=>next (a.put o.dst x) w'):o.wp P a w next Q:=by
 unfold Oper.wp;rw[hx];exact hn _ _ _ _ _ hk hI (.refl _ _ _) hr
theorem SI{C:(Ending→World→Prop)→Prop}(hm:∀{R R' : Ending→World→Prop},C R→(∀e w,R e w→R' e w)→C R')(hI:DK w0 g0 h0 st.h g w){Q:AV→(Nat→HO)→Prop}
  (hc:DK w g Aa Aa g w→C (fun e w'=>∃v r h' g',e=Ending.returned v∧Q r h'∧BH g' w' (AT h') r v∧DK w g Aa h' g' w'∧Le Aa g w h' g' w')) {R:Ending→World→Prop}
  (hR:∀v r h' g' w',Q r h'→h'=Aa→DK w0 g0 h0 st.h g' w'→Le st.h g w st.h g' w'→BH g' w' Fy r v→R (.returned v) w') (hQ:∀r h',Q r h'→h'=Aa):C R:=by
 have hU:AT Aa=Fy:=by funext i;unfold AT Fy Aa;simp
 have kG:DK w g Aa Aa g w:=⟨rfl,rfl,rfl,Al _,fun _ _ _=>rfl,hI.slt,fun _=>trivial,fun _ _ _ h=>h.elim,fun _ _ h=>h.elim,fun _ _ h=>.inl h,hI.glob⟩;refine hm (hc kG) ?_
 rintro e w' ⟨v,r,h',g',rfl,q1,q2,q3,q4⟩
 obtain rfl:=hQ r h' q1;rw[hU]at q2
 -- the caller's ghost,with the callee's stable cells
 have hk:EO g w ⟨g.ρ,g.ln,g.tk,g.own,g'.S⟩ w':=q4.keeps;have hg:Ke g ⟨g.ρ,g.ln,g.tk,g.own,g'.S⟩ (AT st.h):=fun _ _=>⟨rfl,Al _,fun _=>rfl,fun _=>rfl⟩;have d9:∀b,b<w.heap.size→w'.heap[b]?=w.heap[b]?:=fun b hb=>q3.frame b hb (fun _ h=>h.elim);have wz:∀b o,g'.S b o→b<w.heap.size→g.S b o:=fun b o hs hb=>by
  rcases q3.sg b o hs with h1 | h1 | ⟨_,h1,_⟩
  ·exact h1
  ·omega
  ·exact h1.elim
 refine hR v r Aa ⟨g.ρ,g.ln,g.tk,g.own,g'.S⟩ w' q1 rfl ⟨q3.os.trans hI.os,q3.tape.trans hI.tape,q3.output.trans hI.output,Bx hI.size q3.size,fun b hb hn=>?_,q3.slt,fun i=>?_,hI.inj,fun i b hl ho=>?_,fun b o hs=>?_,hI.glob.keep hk⟩ ⟨hg,fun _ h=>h,hk⟩ ?_
 ·exact(d9 b (BB hb hI.size)).trans (hI.frame b hb hn)
 ·refine(hI.objs i).same hk (fun _ h=>h) hg rfl rfl rfl rfl (fun b hl ho=>?_);have DB:=(hI.loc i b hl ho).1;exact⟨d9 b DB,fun k hs=>wz b k hs DB⟩
 ·obtain⟨h1,h2⟩:=hI.loc i b hl ho;exact⟨BB h1 q3.size,h2⟩
 ·rcases q3.sg b o hs with h1 | h1 | ⟨_,h1,_⟩
  ·exact hI.sg b o h1
  ·exact .inr (.inl (Bx hI.size h1))
  ·exact h1.elim
 ·have:EO g' w' ⟨g.ρ,g.ln,g.tk,g.own,g'.S⟩ w':=fun b o h=>⟨h,rfl,fun _ _ h=>h⟩
  exact q2.mono this (fun _ h=>h) (fun _ h=>h.elim)
theorem bZ(hI:DK w0 g0 h0 st.h g w){f:Nat}{args:List AV}{Q:AV→(Nat→HO)→Prop}(hc:A6 P f args Aa Q){vals:Array Value}(hs:vals.size=args.length)
  (hv:∀(i:Nat) (av:AV) (x:Value),args[i]?=some av→vals[i]?=some x→BH g w Fy av x) {R:Ending→World→Prop}
  (hR:∀v r h' g' w',Q r h'→h'=Aa→DK w0 g0 h0 st.h g' w'→Le st.h g w st.h g' w'→BH g' w' Fy r v→R (.returned v) w') (hQ:∀r h',Q r h'→h'=Aa):Calls P f vals w R :=
 have hU:AT Aa=Fy:=by funext i;unfold AT Fy Aa;simp
 SI (C:=Calls P f vals w) (fun h k=>h.mono k) hI (hc.2 g w vals hs (fun i av x h1 h2=>by rw[hU];exact hv i av x h1 h2)) hR hQ
theorem YieldAt.imp{F:Fence}{m:Nat}{P:Program}{l:Nat}{args:Array Value}{W:World}{R R' : Ending→World→Prop}(h:YieldAt F m P l args W R)(hr:∀e w,R e w→R' e w):YieldAt F m P l args W R' :=
 let ⟨fn,t,a,b,h1,h2⟩:=h
 ⟨fn,t,a,b,h1,h2.mono hr⟩
theorem I0.imp{Y:Gh→World→Prop}{l:Nat}{args:List AV}{h0:Nat→HO}{Q Q' : AV→(Nat→HO)→Prop}(h:I0 P Y l args h0 Q)(hq:∀r h',Q r h'→Q' r h'):I0 P Y l args h0 Q' :=
 fun g w vals q1 q2 q3 q4=>YieldAt.imp (h g w vals q1 q2 q3 q4) fun _ _ ⟨v,r,h',g',e1,e2,rest⟩=>⟨v,r,h',g',e1,hq _ _ e2,rest⟩
theorem Gj.imp{Y:Nat→Gh→World→Prop}{F:AV}{args:List AV}{h0:Nat→HO}{Q Q' : AV→(Nat→HO)→Prop}(h:Gj P Y F args h0 Q)(hq:∀r h',Q r h'→Q' r h'):Gj P Y F args h0 Q':=by
 have one:∀{f:Nat} {l:List AV},A6 P f l h0 Q→A6 P f l h0 Q':=fun hc =>
  ⟨hc.1,fun g w vals q1 q2 q3=>(hc.2 g w vals q1 q2 q3).mono fun _ _ ⟨v,r,h',g',e1,e2,rest⟩=>⟨v,r,h',g',e1,hq _ _ e2,rest⟩⟩
 unfold Gj at h⊢;split at h
 ·exact one h
 ·exact one h
 ·exact I0.imp h hq
 ·exact h.elim
abbrev JQ(ro:Option Nat):Fence:={ Fence.wide with round:=ro }
theorem MX{ro:Option Nat}{o:Oper}{a:Act}{w:World}{next:Act→World→Prop}{Q:Exit→Act→World→Prop}(hd:∀c,o.op≠.defer c)(h:o.wp P a w next Q):o.wpIn (JQ ro) 0 P a w next Q:=by
 refine⟨fun _ _=>trivial,?_⟩;have e:o.semAt (JQ ro).round a.eval=execOp a.eval o:=Oper.semAt_eq ro a.eval o hd;rw[e];unfold Oper.wp at h;have key:∀res:Result Next,o.upon P a next Q res→o.uponIn (JQ ro) 0 P a next Q res:=fun res h=>by
  cases res with
  |ok n w'=>cases n with
   |enter f args=>exact(show(_→_)∧CallsIn (JQ ro) 0 P f args w' _ from⟨fun e=>by(cases e),callsIn_wide.2 h⟩)
   |row r args=>exact(show(_→_)∧RowsIn (JQ ro) 0 P r args w' _ from⟨fun e=>by(cases e),fun c cs _=>by
     obtain⟨v,bH,r',s⟩:=h c cs;exact⟨v,bH,r',stepsIn_wide.2 s⟩⟩)
   |round _ _ _ _ _=>exact h.elim
   |_=>exact h
  |halt x w'=>cases x<;>exact h
 exact key _ h
theorem GP{f:Nat}{args:Array Value}(h:Gk P f)(w:World):(callFunc f args).run P w=.ok (.enter f args) w:=by
 obtain⟨fn,h1,h2,h3⟩:=h;simp only[callFunc,Sem.run_bind,run_program,h1,Result.andThen_ok,h2,h3,Du,GF,Sem.run_pure]
theorem T9{h:Nat→HO}{a:AV}(ha:bi a=true):ren (Cq []) h a=str h a:=by
 have h0:∀a,ren0 (Cq []) h a=str0 h a:=fun a=>by
  cases a with
  |slice tk es=>cases tk<;>rfl
  |_=>rfl
 cases a with
 |tup cs=>cases ha
 |agg cs=>show AV.agg _=AV.agg _;exact Ac _ (Be fun c _=>h0 c)
 |clo f cs=>show AV.clo f _=AV.clo f _;exact Ac _ (Be fun c _=>h0 c)
 |v x=>exact h0 (.v x)
 |slice tk es=>exact h0 (.slice tk es)
 |msl r n=>exact h0 (.msl r n)
 |cptr cs=>exact h0 (.cptr cs)
 |ref r o=>exact h0 (.ref r o)
 |eref r n sz i o=>exact h0 (.eref r n sz i o)
 |mref r=>exact h0 (.mref r)
 |cmap sh l=>exact h0 (.cmap sh l)
 |junk=>rfl
theorem Qu{h:Nat→HO}:∀{l:List AV},TW l=true→l.map (ren (Cq []) h)=l.map (str h)
 | [],_=>rfl
 |a::l,e=>by
  unfold TW at e;split at e
  ·rename_i e1;rw[AP,AP,T9 e1,Qu e]
  ·cases e
theorem QM:∀{l:List AV} {vs:List Value},VY l=some vs→l=vs.map .v
 | [],vs,h=>by cases h;rfl
 |.v x::r,vs,h=>by
  unfold VY at h;split at h
  ·rename_i l e;cases h;rw[AP,←QM e]
  ·cases h
theorem bY{cx:Cx}{d:Option Nat}{st:St}{F:AV}{args:List AV}{K:HK}(hk:GC cx true d st F args K):GC cx false d st F args K:=by
 unfold GC at hk;simp only at hk;split at hk
 ·exact⟨.pure,hk⟩
 ·split at hk
  ·exact hk.elim
  ·rename_i d _;obtain⟨n,sz,es,h1,h2,h3⟩:=hk;simp only[Ah]at h1;refine⟨.gen [] 1,?_⟩;show(Ev []&&DI st.h d 1&&Dv [] d 1)=true∧_;refine⟨by simp[Ev,Dv,h1.1.1],?_⟩;rw[T9 h1.1.2,Qu h1.2];show Gj cx.P (fun l=>cx.yp l []) _ _ Aa _;refine Gj.imp h2 ?_
   rintro r h' ⟨e2,e3⟩
   subst e2;subst e3;have e1:ren (Fj [] d 1) (Ak [(2000,.arr sz es)] Aa) (.msl 2000 n)=.msl (By d 0) n:=rfl;have e2:Ef [] d 1 st.h (Ak [(2000,.arr sz es)] Aa)=A0 st.h (By d 0) (.arr sz es):=by
    funext i
    by_cases e:i=By d 0
    ·subst e;rw[Bd];have hb:(Nat.ble (By d 0) (By d 0)&&Nat.blt (By d 0) (By d 1))=true:=by
      unfold By;simp only[Ah,Dg,Cg];omega
     simp only[Ef,Cq,hb,ES];rfl
    ·rw[BZ _ _ _ _ e]
     have:(Nat.ble (By d 0) i&&Nat.blt i (By d 1))=false:=by
      unfold By at e⊢;rw[AK];simp only[VC,Ah,Dg,Cg];omega
     simp only[Ef,Cq,this]
   rw[e1,e2];exact h3
 ·split at hk
  ·unfold Up at hk;split at hk
   ·exact hk.elim
   ·rename_i d _;obtain⟨sz,es,h1,h2,h3⟩:=hk;simp only[Ah]at h1;refine⟨.gen [] 1,?_⟩;show(Ev []&&DI st.h d 1&&Dv [] d 1)=true∧_;refine⟨by simp[Ev,Dv,h1.1.1],?_⟩;rw[T9 h1.1.2,Qu h1.2];show Gj cx.P (fun l=>cx.yp l []) _ _ Aa _;refine Gj.imp h2 ?_
    rintro r h' ⟨e2,e3⟩
    subst e2;subst e3;have e1:ren (Fj [] d 1) (Ak [(2000,.tok sz es.length)] Aa) (.slice (.id 2000 sz) es)=.slice (.id (By d 0) sz) es:=rfl;have e2:Ef [] d 1 st.h (Ak [(2000,.tok sz es.length)] Aa)=A0 st.h (By d 0) (.tok sz es.length):=by
     funext i
     by_cases e:i=By d 0
     ·subst e;rw[Bd];have hb:(Nat.ble (By d 0) (By d 0)&&Nat.blt (By d 0) (By d 1))=true:=by
       unfold By;simp only[Ah,Dg,Cg];omega
      simp only[Ef,Cq,hb,ES];rfl
     ·rw[BZ _ _ _ _ e]
      have:(Nat.ble (By d 0) i&&Nat.blt i (By d 1))=false:=by
       unfold By at e⊢;rw[AK];simp only[VC,Ah,Dg,Cg];omega
      simp only[Ef,Cq,this]
    rw[e1,e2];exact h3
  split at hk
  ·unfold QO at hk;split at hk
   ·rename_i d l vs e2 z1;have hl:=QM e2;split at hk
    ·rename_i r sz es bE n e3 e4;obtain⟨⟨rfl,rfl⟩,v,FO,n',h1,h2⟩:=hk;refine⟨.gen [(1000,1000),(1001,1001)] 0,?_⟩;show(Ev [(1000,1000),(1001,1001)]&&DI st.h d 0&&Dv [(1000,1000),(1001,1001)] d 0)=true∧_;refine⟨?_,?_⟩
     ·have:Dv [(1000,1000),(1001,1001)] d 0=true:=by
       have q:∀r:Nat,(Nat.ble (By d 0) r&&Nat.blt r (By d 0))=false:=fun r=>by
        rw[AK];simp only[VC,Ah,Dg,Cg];omega
       simp only[Dv,q,Bool.not_false,Bool.and_self]
      rw[this];rfl
     have f1:args.map (ren (Cq [(1000,1000),(1001,1001)]) st.h)=vs.map .v:=by rw[hl,BQ];rfl
     have f2:FM [(1000,1000),(1001,1001)] st.h=Ak [(1000,.cells [.slice (.id 1001 bE) es]),(1001,.tok bE n)] Aa:=by
      unfold FM W4 W4 W4;rw[e3,e4];rfl
     rw[f1,f2];refine I0.imp h1 ?_
     rintro r h' ⟨g1,g2⟩
     subst g1;subst g2;have f3:Ef [(1000,1000),(1001,1001)] d 0 st.h (Ak [(1000,.cells [.slice (.id 1001 bE) FO]),(1001,.tok bE n')] Aa)=A0 (A0 st.h 1001 (.tok bE n')) 1000 (.cells [.slice (.id 1001 bE) FO]):=by
      funext i
      by_cases e:i=1000
      ·subst e;rw[Bd];rfl
      ·rw[BZ _ _ _ _ e]
       by_cases e' : i=1001
       ·subst e';rw[Bd];rfl
       ·rw[BZ _ _ _ _ e'];have hn:Cq [(1000,1000),(1001,1001)] i=none:=by simp[Cq,CM (Ne.symm e),CM (Ne.symm e')]
        have:(Nat.ble (By d 0) i&&Nat.blt i (By d 0))=false:=by
         rw[AK];simp only[VC,Ah,Dg,Cg];omega
        simp only[Ef,hn,this]
     rw[f3];exact h2
    ·exact hk.elim
   ·exact hk.elim
  unfold Pw at hk;split at hk
  ·unfold X0 at hk;split at hk
   ·rename_i d f _;obtain⟨σ,H0,Hn,args',res,g1,g2,g3,g4⟩:=hk;simp only[Ah]at g2;obtain⟨k1,k2⟩:=g1 st.h fun _ _=>rfl;refine⟨.gen σ 0,?_⟩;show(Ev σ&&DI st.h d 0&&Dv σ d 0)=true∧_;refine⟨by rw[g2.1.1,g2.1.2];rfl,?_⟩;rw[k1,k2];refine Gj.imp (show Gj cx.P (fun l=>cx.yp l σ) (.v (.func (.func f) ⟨[]⟩ ⟨[]⟩)) args' (Ak H0 Aa) (fun r h'=>r=res∧h'=Ak Hn Aa)from g3) ?_
    rintro r h' ⟨e1,e2⟩
    rw[e1,e2];exact g4
   ·exact hk.elim
  unfold RD at hk;split at hk
  ·rename_i dd f r n l _;split at hk
   ·rename_i vs eD;have hl:=QM eD;subst hl;split at hk
    ·rename_i sz es hr;have hf:Cq [(r,1000)] r=some 1000:=by simp[Cq]
     have e1:ren (Cq [(r,1000)]) st.h (.v (.func (.func f) ⟨[]⟩ ⟨[]⟩))=.v (.func (.func f) ⟨[]⟩ ⟨[]⟩):=rfl;have e2:(AV.msl r n::vs.map AV.v).map (ren (Cq [(r,1000)]) st.h)=.msl 1000 n::vs.map .v:=by
      rw[AP]
      congr 1
      ·simp[ren,ren1,ren0,hf]
      ·rw[BQ];rfl
     have e3:FM [(r,1000)] st.h=Ak [(1000,.arr sz es)] Aa:=by
      unfold FM W4;rw[hr];rfl
     split at hk
     ·obtain⟨n',FO,h1,h2⟩:=hk;refine⟨.gen [(r,1000)] 0,?_⟩;show(Ev [(r,1000)]&&DI st.h dd 0&&Dv [(r,1000)] dd 0)=true∧_;refine⟨?_,?_⟩
      ·have:Dv [(r,1000)] dd 0=true:=by
        unfold Dv
        have:(Nat.ble (By dd 0) r&&Nat.blt r (By dd 0))=false:=by
         rw[AK];simp only[VC,Ah,Dg,Cg];omega
        rw[this];rfl
       rw[this];rfl
      rw[e1,e2,e3];refine⟨h1.1,fun g w vals q1 q2 q3=>(h1.2 g w vals q1 q2 q3).mono fun _ _ ⟨v,r',h',g',e1,⟨e2,e3⟩,rest⟩=>⟨v,r',h',g',e1,?_,rest⟩⟩;subst e2;subst e3;have f1:ren (Fj [(r,1000)] dd 0) (Ak [(1000,.arr sz FO)] Aa) (.msl 1000 n')=.msl r n':=rfl;have f2:Ef [(r,1000)] dd 0 st.h (Ak [(1000,.arr sz FO)] Aa)=A0 st.h r (.arr sz FO):=by
       funext i
       by_cases e:i=r
       ·subst e;rw[Bd];simp[Ef,hf,Ak,HO.ren]
       ·rw[BZ _ _ _ _ e];have hn:Cq [(r,1000)] i=none:=by simp[Cq,CM (Ne.symm e)]
        have:(Nat.ble (By dd 0) i&&Nat.blt i (By dd 0))=false:=by
         rw[AK];simp only[VC,Ah,Dg,Cg];omega
        simp only[Ef,hn,this]
      rw[f1,f2];exact h2
     ·obtain⟨n',FO,h0,h1,h2⟩:=hk;simp only[Ah,Cg,CT]at h0;have xl:r≠By dd 0:=fun e=>by have:=h0.2;rw[e]at this;simp at this
      refine⟨.gen [(r,1000)] 1,?_⟩;show(Ev [(r,1000)]&&DI st.h dd 1&&Dv [(r,1000)] dd 1)=true∧_;refine⟨?_,?_⟩
      ·have:Dv [(r,1000)] dd 1=true:=by
        unfold Dv
        have:(Nat.ble (By dd 0) r&&Nat.blt r (By dd 1))=false:=by
         rw[AK];simp only[VC,Ah,Dg,Cg];unfold By at xl⊢;omega
        rw[this];rfl
       rw[this,h0.1.1];rfl
      rw[e1,e2,e3];refine⟨h1.1,fun g w vals q1 q2 q3=>(h1.2 g w vals q1 q2 q3).mono fun _ _ ⟨v,r',h',g',e1,⟨e2,e3⟩,rest⟩=>⟨v,r',h',g',e1,?_,rest⟩⟩;subst e2;subst e3;have f1:ren (Fj [(r,1000)] dd 1) (Ak [(1000,.dead),(2000,.arr sz FO)] Aa) (.msl 2000 n')=.msl (By dd 0) n':=rfl;have f2:Ef [(r,1000)] dd 1 st.h (Ak [(1000,.dead),(2000,.arr sz FO)] Aa)=A0 (A0 st.h r .dead) (By dd 0) (.arr sz FO):=by
       funext i
       by_cases e:i=By dd 0
       ·subst e;rw[Bd];have hn:Cq [(r,1000)] (By dd 0)=none:=by simp[Cq,CM xl]
        have hb:(Nat.ble (By dd 0) (By dd 0)&&Nat.blt (By dd 0) (By dd 1))=true:=by
         unfold By;simp only[Ah,Dg,Cg];omega
        simp only[Ef,hn,hb,ES];rfl
       ·rw[BZ _ _ _ _ e]
        by_cases e4:i=r
        ·subst e4;rw[Bd];simp[Ef,hf,Ak,HO.ren]
        ·rw[BZ _ _ _ _ e4];have hn:Cq [(r,1000)] i=none:=by simp[Cq,CM (Ne.symm e4)]
         have:(Nat.ble (By dd 0) i&&Nat.blt i (By dd 1))=false:=by
          rw[AK];simp only[VC,Ah,Dg,Cg];unfold By at e⊢;omega
         simp only[Ef,hn,this]
      rw[f1,f2];exact h2
    ·exact hk.elim
   ·exact hk.elim
  ·exact hk.elim
theorem fg{cx:Cx}{dr:Bool}{d:Option Nat}{f:Operand}{args:Array Operand}{GZ:Array TypeId}{dst:Option Nat}{ty:Nat}{pos:String}{after:Array Edge}{gd:Option (Nat×Bool)}{K:HK}{next:Act→World→Prop}{Q:Exit→Act→World→Prop}
  (hP:cx.P=P) (hY:∀l σ h g w,Ev σ=true→DK w0 g0 h0 h g w→Le h0 g0 w0 h g w→cx.yp l σ (Dz σ g) w) {ro:Option Nat} (hS:SR N ds w0 g0 h0 st g a w) (hk:GC cx dr d st (ev st.t f) (args.toList.map (ev st.t)) K)
  (hn:Y5 w0 g0 h0 st.h g w K fun x w'=>next (a.put dst x) w'):Oper.wpIn (JQ ro) 0 P ⟨dst,.call ⟨.value f,args,GZ⟩,ty,pos,after,gd⟩ a w next Q:=by
 subst hP;have hk:GC cx false d st (ev st.t f) (args.toList.map (ev st.t)) K:=by
  cases dr with
  |true=>exact bY hk
  |false=>exact hk
 have Jv:∀(i:Nat) (av:AV) (x:Value),((args.toList.map (ev st.t)).map (str st.h))[i]?=some av→(args.map a.eval)[i]?=some x→BH g w Fy av x:=by
  intro i av x h1 h2;rw[AI,AI]at h1;rw[Om]at h2;cases ho:args[i]? with
  |none=>rw[ho]at h2;simp at h2
  |some y =>
   rw[ho]at h2;have hy:args.toList[i]?=some y:=by simpa using ho
   rw[hy]at h1;simp only[FL,Bo]at h1 h2;subst h1;subst h2;exact BH.str hS.inv.objs (hS.eval y)
 have CB:(args.map a.eval).size=((args.toList.map (ev st.t)).map (str st.h)).length:=by simp
 have hF:=BH.str hS.inv.objs (hS.eval f)
 -- a call of yield
 have yl:∀(l:Nat) (R:Ending→World→Prop),a.eval f=.func (.yield l) #[] #[]→YieldAt Fence.wide 0 cx.P l (args.map a.eval) w R→(∀e w',R e w'→∃v,e=.returned v∧next (a.put dst v) w') →
   Oper.wpIn (JQ ro) 0 cx.P ⟨dst,.call ⟨.value f,args,GZ⟩,ty,pos,after,gd⟩ a w next Q:=by
  rintro l R hx ⟨fn,tm,GR,bd,h1,h2⟩ hR
  refine⟨fun _ _=>trivial,?_⟩;have e:(⟨dst,.call ⟨.value f,args,GZ⟩,ty,pos,after,gd⟩:Oper).semAt (JQ ro).round a.eval=execOp a.eval ⟨dst,.call ⟨.value f,args,GZ⟩,ty,pos,after,gd⟩:=Oper.semAt_eq ro a.eval _ (fun c e=>by cases e);have CP:(execOp a.eval ⟨dst,.call ⟨.value f,args,GZ⟩,ty,pos,after,gd⟩).run cx.P w=.ok (.round l fn tm GR bd) w:=by
   simp only[execOp,resolve,hx,Deferred.ofValue,Sem.run_bind,Sem.run_pure,Result.andThen_ok,invoke];simpa using h1
  rw[e,CP];refine(show(_→_)∧RoundIn (JQ ro) 0 cx.P l fn tm GR bd w _ from⟨fun e=>by(cases e),RoundIn.mono h2 fun e w' h=>?_⟩);obtain⟨v,rfl,hn⟩:=hR e w' h;exact hn
 -- the call itself
 have go:∀(Q' : AV→(Nat→HO)→Prop),(∀r h',Q' r h'→h'=Aa∧K r st.h)→Gj cx.P (fun _ _ _=>True) (str st.h (ev st.t f)) ((args.toList.map (ev st.t)).map (str st.h)) Aa Q' →
   Oper.wpIn (JQ ro) 0 cx.P ⟨dst,.call ⟨.value f,args,GZ⟩,ty,pos,after,gd⟩ a w next Q:=by
  intro Q' hQ hc
  have fin:∀{fn:Nat} {l:List AV} {vals:Array Value},A6 cx.P fn l Aa Q'→vals.size=l.length→(∀(i:Nat) (av:AV) (x:Value),l[i]?=some av→vals[i]?=some x→BH g w Fy av x) →
    (execOp a.eval ⟨dst,.call ⟨.value f,args,GZ⟩,ty,pos,after,gd⟩).run cx.P w=.ok (.enter fn vals) w→Oper.wpIn (JQ ro) 0 cx.P ⟨dst,.call ⟨.value f,args,GZ⟩,ty,pos,after,gd⟩ a w next Q:=by
   intro fn l vals hc hs hv CP;refine MX (fun c e=>by cases e) ?_;unfold Oper.wp;rw[CP];exact bZ hS.inv hc hs hv (fun v r h' g' w' hq _ hI He hr=>hn r _ g' w' v (hQ r h' hq).2 hI He (hr.up _)) (fun r h' hq=>(hQ r h' hq).1)
  unfold Gj at hc;split at hc
  ·rename_i fn e;rw[e]at hF;have hx:=hF.v_eq;refine fin hc CB Jv ?_;have LN : a.eval f=.func (.func fn) #[] #[]:=hx;simp only[execOp,resolve,LN,Deferred.ofValue,Sem.run_bind,Sem.run_pure,Result.andThen_ok,invoke];rw[GP hc.1];simp
  ·rename_i fn caps e;rw[e]at hF;generalize hx:a.eval f=fv at hF;cases hF with
   |clo _ _ _ vs Eh O0 =>
    refine fin hc (vals:=args.map a.eval++vs) (by simp[Eh]) (fun i av x h1 h2=>?_) ?_
    ·rw[LU]at h1;rw[H7]at h2;have hl:((args.toList.map (ev st.t)).map (str st.h)).length=(args.map a.eval).size:=CB.symm;rw[hl]at h1;split at h1
     ·rename_i hi;rw[Ap hi]at h2;exact Jv i av x h1 h2
     ·rename_i hi;rw[Aj hi]at h2;exact O0 _ av x h1 h2
    ·simp only[execOp,resolve,hx,Deferred.ofValue,Sem.run_bind,Sem.run_pure,Result.andThen_ok,invoke];rw[GP hc.1];simp
  ·rename_i l e;rw[e]at hF;have hU:AT Aa=Fy:=by funext i;unfold AT Fy Aa;simp
   refine yl l _ hF.v_eq (SI (C:=YieldAt Fence.wide 0 cx.P l (args.map a.eval) w) (R:=fun e w'=>∃v,e=.returned v∧next (a.put dst v) w') YieldAt.imp hS.inv (fun kG=>hc g w _ CB (fun i av x h1 h2=>by rw[hU];exact Jv i av x h1 h2) kG trivial)
    (fun v r h' g' w' hq _ hI He hr=>⟨v,rfl,hn r _ g' w' v (hQ r h' hq).2 hI He (hr.up _)⟩) (fun r h' hq=>(hQ r h' hq).1)) fun _ _ h=>h
  ·exact hc.elim
 have pure:(∃res,PM cx.P (str st.h (ev st.t f)) ((args.toList.map (ev st.t)).map (str st.h)) res∧K res st.h)→Oper.wpIn (JQ ro) 0 cx.P ⟨dst,.call ⟨.value f,args,GZ⟩,ty,pos,after,gd⟩ a w next Q:=by
  rintro⟨res,h1,h2⟩
  refine go (fun r h'=>r=res∧h'=Aa) (fun r h' hq=>⟨hq.2,by rw[hq.1];exact h2⟩) ?_;unfold PM at h1;unfold Gj;split at h1
  ·rename_i fn e;rw[e];exact h1
  ·rename_i fn caps e;rw[e];exact h1
  ·exact h1.elim
 unfold GC at hk
 ·obtain⟨m,hm⟩:=hk;cases m with
  |pure=>exact pure hm
  |rel=>exact go _ (fun r h' hq=>hq) hm
  |gen σ nn =>
   simp only at hm;cases d with
   |none=>exact hm.elim
   |some d =>
    simp only at hm;obtain⟨GO,hc⟩:=hm;have hσ:Ev σ=true:=by simp only[Ah]at GO;exact GO.1.1
    obtain⟨hR,_⟩:=WI hS.inv hσ;have gt:=(hS.eval f).ren hR;have Tl:∀(i:Nat) (av:AV) (x:Value),((args.toList.map (ev st.t)).map (ren (Cq σ) st.h))[i]?=some av→(args.map a.eval)[i]?=some x→BH (Dz σ g) w (AT (FM σ st.h)) av x:=by
     intro i av x h1 h2;rw[AI,AI]at h1;rw[Om]at h2;cases ho:args[i]? with
     |none=>rw[ho]at h2;simp at h2
     |some y =>
      rw[ho]at h2;have hy:args.toList[i]?=some y:=by simpa using ho
      rw[hy]at h1;simp only[FL,Bo]at h1 h2;subst h1;subst h2;exact(hS.eval y).ren hR
    have LD:(args.map a.eval).size=((args.toList.map (ev st.t)).map (ren (Cq σ) st.h)).length:=by simp
    have fin:∀{fn:Nat} {l:List AV} {vals:Array Value},A6 cx.P fn l (FM σ st.h) (fun r h'=>K (ren (Fj σ d nn) h' r) (Ef σ d nn st.h h'))→vals.size=l.length →
      (∀(i:Nat) (av:AV) (x:Value),l[i]?=some av→vals[i]?=some x→BH (Dz σ g) w (AT (FM σ st.h)) av x) →
      (execOp a.eval ⟨dst,.call ⟨.value f,args,GZ⟩,ty,pos,after,gd⟩).run cx.P w=.ok (.enter fn vals) w→Oper.wpIn (JQ ro) 0 cx.P ⟨dst,.call ⟨.value f,args,GZ⟩,ty,pos,after,gd⟩ a w next Q:=by
     intro fn l vals hc hs hv CP;refine MX (fun c e=>by cases e) ?_;unfold Oper.wp;rw[CP];exact fh hS.inv GO hc hs hv (fun v r h' g' w' hq hI He hr=>hn _ _ g' w' v hq hI He hr)
    unfold Gj at hc;split at hc
    ·rename_i fn e;rw[e]at gt;have hx:a.eval f=.func (.func fn) #[] #[]:=gt.v_eq;refine fin hc LD Tl ?_;simp only[execOp,resolve,hx,Deferred.ofValue,Sem.run_bind,Sem.run_pure,Result.andThen_ok,invoke];rw[GP hc.1];simp
    ·rename_i fn caps e;rw[e]at gt;generalize hx:a.eval f=fv at gt;cases gt with
     |clo _ _ _ vs Eh O0 =>
      refine fin hc (vals:=args.map a.eval++vs) (by simp[Eh]) (fun i av x h1 h2=>?_) ?_
      ·rw[LU]at h1;rw[H7]at h2;have hl:((args.toList.map (ev st.t)).map (ren (Cq σ) st.h)).length=(args.map a.eval).size:=LD.symm;rw[hl]at h1;split at h1
       ·rename_i hi;rw[Ap hi]at h2;exact Tl i av x h1 h2
       ·rename_i hi;rw[Aj hi]at h2;exact O0 _ av x h1 h2
      ·simp only[execOp,resolve,hx,Deferred.ofValue,Sem.run_bind,Sem.run_pure,Result.andThen_ok,invoke];rw[GP hc.1];simp
    ·rename_i l e;rw[e]at gt
     exact yl l _ gt.v_eq (MH (C:=YieldAt Fence.wide 0 cx.P l (args.map a.eval) w) (R:=fun e w'=>∃v,e=.returned v∧next (a.put dst v) w') YieldAt.imp hS.inv GO (fun kG=>hc (Dz σ g) w _ LD Tl kG (hY l σ _ _ _ hσ hS.inv hS.le))
      (fun v r h' g' w' hq hI He hr=>⟨v,rfl,hn _ _ g' w' v hq hI He hr⟩)) fun _ _ h=>h
    ·exact hc.elim
  |geny σ nn =>
   simp only at hm;cases d with
   |none=>exact hm.elim
   |some d =>
    simp only at hm;obtain⟨GO,hc⟩:=hm;have hσ:Ev σ=true:=by simp only[Ah]at GO;exact GO.1.1
    obtain⟨hR,_⟩:=WI hS.inv hσ;have gt:=(hS.eval f).ren hR;have Tl:∀(i:Nat) (av:AV) (x:Value),((args.toList.map (ev st.t)).map (ren (Cq σ) st.h))[i]?=some av→(args.map a.eval)[i]?=some x→BH (Dz σ g) w (AT (FM σ st.h)) av x:=by
     intro i av x h1 h2;rw[AI,AI]at h1;rw[Om]at h2;cases ho:args[i]? with
     |none=>rw[ho]at h2;simp at h2
     |some y =>
      rw[ho]at h2;have hy:args.toList[i]?=some y:=by simpa using ho
      rw[hy]at h1;simp only[FL,Bo]at h1 h2;subst h1;subst h2;exact(hS.eval y).ren hR
    have LD:(args.map a.eval).size=((args.toList.map (ev st.t)).map (ren (Cq σ) st.h)).length:=by simp
    split at hc
    ·rename_i fn caps e;rw[e]at gt;generalize hx:a.eval f=fv at gt;cases gt with
     |clo _ _ _ vs Eh O0 =>
      have CP:(execOp a.eval ⟨dst,.call ⟨.value f,args,GZ⟩,ty,pos,after,gd⟩).run cx.P w=.ok (.enter fn (args.map a.eval++vs)) w:=by
       simp only[execOp,resolve,hx,Deferred.ofValue,Sem.run_bind,Sem.run_pure,Result.andThen_ok,invoke];rw[GP hc.1];simp
      refine MX (fun c e=>by cases e) ?_;unfold Oper.wp;rw[CP];refine MH (C:=Calls cx.P fn (args.map a.eval++vs) w) (fun h k=>h.mono k) hS.inv GO (fun kG=>hc.2 (Dz σ g) w _ (by simp[Eh]) (fun i av x h1 h2=>?_) kG (fun l=>hY l σ _ _ _ hσ hS.inv hS.le)) (fun v r h' g' w' hq hI He hr=>hn _ _ g' w' v hq hI He hr);rw[LU]at h1;rw[H7]at h2;have hl:((args.toList.map (ev st.t)).map (ren (Cq σ) st.h)).length=(args.map a.eval).size:=LD.symm;rw[hl]at h1;split at h1
      ·rename_i hi;rw[Ap hi]at h2;exact Tl i av x h1 h2
      ·rename_i hi;rw[Aj hi]at h2;exact O0 _ av x h1 h2
    ·exact hc.elim
end
end Go.Eng
