/- Lemmas for the claims of this seat, without a condition: part 12 (EngZ1, EngZ2, EngZA). -/
import Derived.Test.YtkmnnpmneamgoaaGreatDoorA11
namespace Go.Eng

theorem inj_inv:∀ {σ:Ren},renInj σ=true→∀ i j,rfwd σ i=some j↔rbwd σ j=some i
 | [],_,i,j=>by simp [rfwd,rbwd]
 | (a,b) :: r,h,i,j=>by
  simp only [renInj,Bool.and_eq_true] at h;obtain ⟨h1,h2⟩:=h;have ih:=inj_inv h2;have hab:rfwd r a=none∧rbwd r b=none:=by
   split at h1
   ·rename_i e1 e2; exact ⟨e1,e2⟩
   ·cases h1
  unfold rfwd rbwd
  by_cases e1:a=i <;> by_cases e2:b=j
  ·subst e1; subst e2; simp
  ·subst e1;simp only [Nat.beq_refl,cond_true,beq_ne e2,cond_false];constructor
   ·intro h; cases h; exact absurd rfl e2
   ·intro h; rw [(ih a j).2 h] at hab; cases hab.1
  ·subst e2;simp only [Nat.beq_refl,cond_true,beq_ne e1,cond_false];constructor
   ·intro h; rw [(ih i b).1 h] at hab; cases hab.2
   ·intro h; cases h; exact absurd rfl e1
  ·simp only [beq_ne e1,beq_ne e2,cond_false];exact ih i j
theorem ok_inj:∀ {σ:Ren},renOk σ=true→renInj σ=true
 | [],_=>rfl
 | (a,b) :: r,h=>by
  simp only [renOk,Bool.and_eq_true] at h;simp only [renInj,Bool.and_eq_true];exact ⟨h.1.1.1,ok_inj h.2⟩
theorem ren_inv {σ:Ren} (h:renOk σ=true):∀ i j,rfwd σ i=some j↔rbwd σ j=some i:=inj_inv (ok_inj h)
theorem ren_range:∀ {σ:Ren},renOk σ=true→∀ {i j},rfwd σ i=some j→1000≤j∧j<2000
 | [],_,i,j,h=>by simp [rfwd] at h
 | (a,b) :: r,h,i,j,hf=>by
  simp only [renOk,Bool.and_eq_true,Nat.ble_eq,Nat.blt_eq] at h;unfold rfwd at hf
  by_cases e1:a=i
  ·subst e1;simp only [Nat.beq_refl,cond_true] at hf;cases hf;exact ⟨h.1.1.2,h.1.2⟩
  ·simp only [beq_ne e1,cond_false] at hf;exact ren_range h.2 hf
theorem renL_get (f:Nat→Option Nat) (h:Nat→HO):∀ (σ:Ren) (j:Nat),heapOf (renL f h σ) hfree j=match rbwd σ j with | some i=>(h i).ren f h | none=>.free
 | [],j=>rfl
 | (a,b) :: r,j=>by
  unfold renL heapOf rbwd
  by_cases e:b=j
  ·subst e; simp
  ·simp only [beq_ne e,beq_ne (Ne.symm e),cond_false];exact renL_get f h r j

structure RenOk (f:Nat→Option Nat) (h h2:Nat→HO) (g g2:Gh) (w:World):Prop where
 ids:∀ r r',f r=some r'→used h r→g2.tk r'=g.tk r∧g2.ln r'=g.ln r∧g2.ρ r'=g.ρ r∧g2.own r'=g.own r∧used h2 r'
 S:∀ b o,g2.S b o↔g.S b o
 objs:∀ r,ObjRep g w (used h) r (h r)

section
variable {f:Nat→Option Nat} {h h2:Nat→HO} {g g2:Gh} {w:World}
theorem RenOk.keeps (hR:RenOk f h h2 g g2 w):Keeps g w g2 w:=fun b o hs=>⟨(hR.S b o).2 hs,rfl,fun _ _ e=>e⟩
theorem RenOk.noU (hR:RenOk f h h2 g g2 w) {av:AV} {x:Value} (r:Rep g w NoU av x):Rep g2 w (used h2) av x:=r.mono hR.keeps (fun _ h=>h.elim) (fun _ h=>h.elim)
theorem Rep.ren0 (hR:RenOk f h h2 g g2 w) {av:AV} {x:Value} (r:Rep g w (used h) av x):Rep g2 w (used h2) (ren0 f h av) x:=by
 have down:Rep g2 w (used h2) (Eng.str0 h av) x:=hR.noU (Rep.str0 hR.objs r);cases av with
 | v y=>exact down
 | slice tk es =>
  cases tk with
  | none=>exact down
  | full sz=>exact down
  | id i sz =>
   simp only [Eng.ren0];split
   ·rename_i i' e;cases r with
    | tok _ _ _ _ _ hs hl hu ht hn hx =>
     obtain ⟨k1,k2,k3,k4,k5⟩:=hR.ids i i' e hu;exact .tok _ i' sz es x (hR.noU (Rep.slice_none hs)) hl k5 (k1.trans ht) (by omega) (fun q=>by rw [k3]; exact hx (by omega))
   ·exact hR.noU r.slice_none
  | ver i sz v =>
   simp only [Eng.ren0];split
   ·rename_i i' e;cases r with
    | ver _ _ _ _ _ _ hs hl hu ht hn hx =>
     obtain ⟨k1,k2,k3,k4,k5⟩:=hR.ids i i' e hu;exact .ver _ i' sz v es x (hR.noU (Rep.slice_none hs)) hl k5 (k1.trans ht) (by omega) (fun q=>by rw [k3]; exact hx (by omega))
   ·exact hR.noU r.slice_none
 | msl i n =>
  simp only [Eng.ren0];split
  ·rename_i i' e;cases r with
   | msl _ _ _ a cap hu ht hn ha hx =>
    obtain ⟨k1,k2,k3,k4,k5⟩:=hR.ids i i' e hu;exact .msl _ i' n a cap k5 (k1.trans ht) (by omega) ha (fun q=>by rw [k3]; exact hx (by omega))
  ·exact .junk _ _
 | agg cs=>exact down
 | tup cs=>exact down
 | cptr cs=>exact down
 | ref i off =>
  simp only [Eng.ren0];split
  ·rename_i i' e;cases r with
   | ref _ _ _ b hu ht hx =>
    obtain ⟨k1,k2,k3,k4,k5⟩:=hR.ids i i' e hu;exact .ref _ i' off b k5 (k1.trans ht) (k3.trans hx)
  ·exact down
 | eref i n sz k off =>
  simp only [Eng.ren0];split
  ·rename_i i' e;cases r with
   | eref _ _ _ _ _ _ b cap hu ht hn hx =>
    obtain ⟨k1,k2,k3,k4,k5⟩:=hR.ids i i' e hu;exact .eref _ i' n sz k off b cap k5 (k1.trans ht) ⟨hn.1,by omega⟩ (fun q=>by rw [k3]; exact hx (by omega))
  ·exact .junk _ _
 | mref i =>
  simp only [Eng.ren0];split
  ·rename_i i' e;cases r with
   | mref _ _ b hu ht hx =>
    obtain ⟨k1,k2,k3,k4,k5⟩:=hR.ids i i' e hu;exact .mref _ i' b k5 (k1.trans ht) (k3.trans hx)
  ·exact down
 | cmap sh kvs=>exact down
 | clo i cs=>exact down
 | junk=>exact down
theorem Rep.ren1 (hR:RenOk f h h2 g g2 w) {av:AV} {x:Value} (r:Rep g w (used h) av x):Rep g2 w (used h2) (ren1 f h av) x:=by
 cases av with
 | agg cs =>
  cases r with
  | agg _ _ vs hs h1 hr =>
   exact .agg _ _ vs (by simp [hs]) h1 fun i av x q1 q2=>by
    rw [List.getElem?_map] at q1;obtain ⟨a,q3,rfl⟩:=Option.map_eq_some_iff.1 q1;exact (hr i a x q3 q2).ren0 hR
 | clo i cs =>
  cases r with
  | clo _ _ _ vs hs hr =>
   exact .clo _ _ _ vs (by simp [hs]) fun i av x q1 q2=>by
    rw [List.getElem?_map] at q1;obtain ⟨a,q3,rfl⟩:=Option.map_eq_some_iff.1 q1;exact (hr i a x q3 q2).ren0 hR
 | _=>exact r.ren0 hR
theorem Rep.ren (hR:RenOk f h h2 g g2 w) {av:AV} {x:Value} (r:Rep g w (used h) av x):Rep g2 w (used h2) (ren f h av) x:=by
 cases av with
 | tup cs =>
  cases r with
  | tup _ _ vs hs hr =>
   exact .tup _ _ vs (by simp [hs]) fun i av x q1 q2=>by
    rw [List.getElem?_map] at q1;obtain ⟨a,q3,rfl⟩:=Option.map_eq_some_iff.1 q1;exact (hr i a x q3 q2).ren1 hR
 | _=>exact r.ren1 hR
theorem ren_live (f:Nat→Option Nat) (h:Nat→HO) (o:HO):(o.ren f h).live↔o.live:=by cases o <;> exact Iff.rfl
theorem ren_used (f:Nat→Option Nat) (h:Nat→HO) (o:HO):o.ren f h≠.free↔o≠.free:=by cases o <;> simp [HO.ren]
theorem ObjRep.ren (hR:RenOk f h h2 g g2 w) {i j:Nat} (hij:f i=some j) (hu:used h i) {o:HO} (r:ObjRep g w (used h) i o):ObjRep g2 w (used h2) j (o.ren f h):=by
 obtain ⟨k1,k2,k3,k4,k5⟩:=hR.ids i j hij hu;have noL:∀ {cs:List AV} {vs:List Value},RepL g w NoU cs vs→RepL g2 w NoU cs vs:=fun hr=>hr.mono hR.keeps (fun _ h=>h) (fun _ h=>h.elim);have no1:∀ {av:AV} {x:Value},Rep g w NoU av x→Rep g2 w NoU av x:=fun hr=>hr.mono hR.keeps (fun _ h=>h) (fun _ h=>h.elim);cases o with
 | free=>trivial
 | dead=>trivial
 | cells cs =>
  obtain ⟨t,b,E,vs,a1,a2,a3,a4,a5⟩:=r;refine ⟨k1.trans t,b,E,vs,k4.trans a1,k3.trans a2,a3,⟨by simp [a4.1],a4.2.1,fun i av x q1 q2=>?_⟩,fun o ho=>a5 o ((hR.S b o).1 ho)⟩;rw [List.getElem?_map] at q1;obtain ⟨a,q3,rfl⟩:=Option.map_eq_some_iff.1 q1;exact (a4.2.2 i a x q3 q2).ren1 hR
 | ro cs =>
  obtain ⟨t,b,a1,a2⟩:=r;exact ⟨k1.trans t,b,k3.trans a1,no1 a2⟩
 | tok sz n =>
  obtain ⟨t,l,a,cap,a1,a2⟩:=r;refine ⟨k1.trans t,k2.trans l,a,cap,k3.trans a1,?_⟩;rcases a2 with ⟨b1,b2⟩ | ⟨b1,b,E,vs,off,b2,b3,b4,b5,b6⟩
  ·exact .inl ⟨b1,k4.trans b2⟩
  ·exact .inr ⟨b1,b,E,vs,off,b2,k4.trans b3,b4,b5,fun o ho=>b6 o ((hR.S b o).1 ho)⟩
 | var sz v n =>
  obtain ⟨t,l,a,cap,a1,a2⟩:=r;refine ⟨k1.trans t,k2.trans l,a,cap,k3.trans a1,?_⟩;rcases a2 with ⟨b1,b2⟩ | ⟨b1,b,E,vs,off,b2,b3,b4,b5,b6⟩
  ·exact .inl ⟨b1,k4.trans b2⟩
  ·exact .inr ⟨b1,b,E,vs,off,b2,k4.trans b3,b4,b5,fun o ho=>b6 o ((hR.S b o).1 ho)⟩
 | vox v=>exact ⟨k1.trans r.1,k2.trans r.2⟩
 | arr sz es =>
  obtain ⟨t,l,al,a2⟩:=r;refine ⟨k1.trans t,k2.trans l,al,?_⟩;rcases a2 with ⟨b1,b2,b3⟩ | ⟨b,cap,E,vs,b1,b2,b3,b4,b5,b6,b7⟩
  ·exact .inl ⟨b1,k3.trans b2,k4.trans b3⟩
  ·exact .inr ⟨b,cap,E,vs,k3.trans b1,k4.trans b2,b3,b4,b5,noL b6,fun o ho=>b7 o ((hR.S b o).1 ho)⟩
 | map sh kvs =>
  obtain ⟨t,b,es,ck,a1,a2,a3,a4,a5,a6⟩:=r;exact ⟨k1.trans t,b,es,ck,k4.trans a1,k3.trans a2,a3,a4,fun i kv e q1 q2=>no1 (a5 i kv e q1 q2),fun o ho=>a6 o ((hR.S b o).1 ho)⟩
 | mapU sh kvs =>
  obtain ⟨t,b,es,ck,a1,a2,a3,a4,a5,a6⟩:=r;refine ⟨k1.trans t,b,es,ck,k4.trans a1,k3.trans a2,a3,mapOk_map _ a4,fun i kv e q1 q2=>?_,fun o ho=>a6 o ((hR.S b o).1 ho)⟩;rw [List.getElem?_map] at q1;obtain ⟨p,q3,rfl⟩:=Option.map_eq_some_iff.1 q1;exact (a5 i p e q3 q2).ren1 hR
 | rom sh kvs =>
  obtain ⟨t,b,a1,a2⟩:=r;exact ⟨k1.trans t,b,k3.trans a1,no1 a2⟩
 | iter all rem cur =>
  obtain ⟨t,b,mb,since,seen,st,es,ck,a1,a2,a3,a4,a5,a6,a7,a8,a9,a10,a11,a12,a13⟩:=r;exact ⟨k1.trans t,b,mb,since,seen,st,es,ck,k4.trans a1,k3.trans a2,a3,(hR.S _ _).2 a4,a5,a6,a7,a8,fun i kv e q1 q2=>no1 (a9 i kv e q1 q2),a10,a11,a12,fun o ho=>a13 o ((hR.S b o).1 ho)⟩
end
end Go.Eng

namespace Go.Eng

theorem newFree_spec {h:Nat→HO} {d:Nat} : ∀ {n:Nat},newFree h d n=true→∀ k,k<n→h (newId d k)=.free
 | 0,_,k,hk=>by omega
 | n+1,hf,k,hk=>by
  simp only [newFree,Bool.and_eq_true] at hf
  by_cases e:k=n
  ·subst e
   have:=hf.1
   split at this
   ·rename_i e2; exact e2
   ·cases this
  ·exact newFree_spec hf.2 k (by omega)
theorem newApart_spec {d nn:Nat} : ∀ {σ:Ren},newApart σ d nn=true→∀ {i j},rfwd σ i=some j→¬ (newId d 0≤i∧i<newId d nn)
 | [],_,i,j,h=>by simp [rfwd] at h
 | (a,b) :: r,hs,i,j,hf=>by
  simp only [newApart,Bool.and_eq_true] at hs;unfold rfwd at hf
  by_cases e1:a=i
  ·subst e1;have h1:=hs.1;simp only [Bool.not_eq_true',Bool.and_eq_false_iff] at h1;intro hc;rcases h1 with h1 | h1
   ·rw [Nat.ble_eq_true_of_le hc.1] at h1; cases h1
   ·have h2:Nat.blt a (newId d nn)=true:=by rw [Nat.blt_eq]; exact hc.2
    rw [h2] at h1; cases h1
  ·simp only [beq_ne e1,cond_false] at hf;exact newApart_spec hs.2 hf

section
variable {P:Program} {w0:World} {g0:Gh} {h0 h:Nat→HO} {g:Gh} {w:World}

def ghFwd (σ:Ren) (g:Gh):Gh :=
 ⟨fun j=>match rbwd σ j with | some i=>g.ρ i | none=>.nilIface,fun j=>match rbwd σ j with | some i=>g.ln i | none=>0,fun j=>match rbwd σ j with | some i=>g.tk i | none=>false,
  fun j=>match rbwd σ j with | some i=>g.own i | none=>none,g.S⟩
def src (σ:Ren) (d nn:Nat) (i:Nat):Option Nat :=
 match rfwd σ i with
 | some j=>some j
 | none=>match Nat.ble (newId d 0) i&&Nat.blt i (newId d nn) with | true=>some (2000+(i - newId d 0)) | false=>none
def ghBack (σ:Ren) (d nn:Nat) (g g' : Gh):Gh :=
 ⟨fun i=>match src σ d nn i with | some j=>g'.ρ j | none=>g.ρ i,fun i=>match src σ d nn i with | some j=>g'.ln j | none=>g.ln i,fun i=>match src σ d nn i with | some j=>g'.tk j | none=>g.tk i,
  fun i=>match src σ d nn i with | some j=>g'.own j | none=>g.own i,g'.S⟩
theorem backH_src (σ:Ren) (d nn:Nat) (h h' : Nat→HO) (i:Nat):backH σ d nn h h' i=match src σ d nn i with | some j=>(h' j).ren (backId σ d nn) h' | none=>h i:=by
 unfold backH src;cases rfwd σ i with
 | some j=>rfl
 | none =>
  dsimp only;cases Nat.ble (newId d 0) i&&Nat.blt i (newId d nn) <;> rfl
theorem src_back {σ:Ren} {d nn:Nat} (hσ:renOk σ=true) (ha:newApart σ d nn=true) (i j:Nat):src σ d nn i=some j↔backId σ d nn j=some i:=by
 have inv:=ren_inv hσ;unfold src backId;cases h1:rfwd σ i with
 | some j' =>
  have hb:=(inv i j').1 h1;dsimp only;constructor
  ·intro h; cases h; rw [hb]
  ·intro h;cases h2:rbwd σ j with
   | some i'=>rw [h2] at h; cases h; rw [(inv i j).2 h2] at h1; exact h1.symm
   | none =>
    rw [h2] at h;dsimp only at h;split at h
    ·rename_i hc;have h:=Option.some.inj h; subst h;simp only [Bool.and_eq_true,Nat.ble_eq,Nat.blt_eq] at hc;exact absurd ⟨by unfold newId; omega,by unfold newId; omega⟩ (newApart_spec ha h1)
    ·cases h
 | none =>
  dsimp only;cases h2:rbwd σ j with
  | some i' =>
   dsimp only;have hf:=(inv i' j).2 h2;have hr:=ren_range hσ hf;constructor
   ·intro h;split at h
    ·cases h; omega
    ·cases h
   ·intro h; cases h; rw [hf] at h1; cases h1
  | none =>
   dsimp only;constructor
   ·intro h;split at h
    ·rename_i hc;cases h;simp only [Bool.and_eq_true,Nat.ble_eq,Nat.blt_eq] at hc;have e1:(Nat.ble 2000 (2000+(i - newId d 0))&&Nat.blt (2000+(i - newId d 0)) (2000+nn))=true:=by
      simp only [Bool.and_eq_true,Nat.ble_eq,Nat.blt_eq];unfold newId at hc ⊢; omega
     rw [e1]
     have:newId d (2000+(i - newId d 0) - 2000)=i:=by unfold newId at hc ⊢; omega
     rw [this]
    ·cases h
   ·intro h;split at h
    ·rename_i hc;have h:=Option.some.inj h; subst h;simp only [Bool.and_eq_true,Nat.ble_eq,Nat.blt_eq] at hc;have e1:(Nat.ble (newId d 0) (newId d (j - 2000))&&Nat.blt (newId d (j - 2000)) (newId d nn))=true:=by
      simp only [Bool.and_eq_true,Nat.ble_eq,Nat.blt_eq];unfold newId; omega
     rw [e1]
     have:2000+(newId d (j - 2000) - newId d 0)=j:=by unfold newId; omega
     rw [this]
    ·cases h

theorem fwd_ok (hI:Inv w0 g0 h0 h g w) {σ:Ren} (hσ:renOk σ=true):RenOk (rfwd σ) h (renH σ h) g (ghFwd σ g) w∧Inv w (ghFwd σ g) (renH σ h) (renH σ h) (ghFwd σ g) w:=by
 have inv:=ren_inv hσ;have hget:∀ j,renH σ h j=match rbwd σ j with | some i=>(h i).ren (rfwd σ) h | none=>.free:=renL_get _ _ σ
 have hR:RenOk (rfwd σ) h (renH σ h) g (ghFwd σ g) w:=by
  refine ⟨fun r r' hr hu=>?_,fun b o=>Iff.rfl,hI.objs⟩;have hb:=(inv r r').1 hr;refine ⟨by simp [ghFwd,hb],by simp [ghFwd,hb],by simp [ghFwd,hb],by simp [ghFwd,hb],?_⟩;unfold used;rw [hget,hb];exact (ren_used _ _ _).2 hu
 have hlive:∀ j,(renH σ h j).live→∃ i,rbwd σ j=some i∧(h i).live:=fun j hl=>by
  rw [hget] at hl;cases e:rbwd σ j with
  | none=>rw [e] at hl; exact hl.elim
  | some i=>rw [e] at hl; exact ⟨i,rfl,(ren_live _ _ _).1 hl⟩
 have hown:∀ j i,rbwd σ j=some i→(ghFwd σ g).own j=g.own i:=fun j i e=>by simp [ghFwd,e]
 refine ⟨hR,rfl,rfl,rfl,Nat.le_refl _,fun _ _ _=>rfl,hI.slt,fun j=>?_,fun j j' b hl hl' e e'=>?_,fun j b hl e=>?_,fun _ _ h=>.inl h,hI.glob⟩
 ·rw [hget];cases e:rbwd σ j with
  | none=>trivial
  | some i =>
   by_cases hu:used h i
   ·exact (hI.objs i).ren hR ((inv i j).2 e) hu
   ·have:h i=.free:=Classical.not_not.1 hu
    dsimp only;rw [this]; trivial
 ·obtain ⟨i,e1,l1⟩:=hlive j hl;obtain ⟨i',e2,l2⟩:=hlive j' hl';rw [hown j i e1] at e;rw [hown j' i' e2] at e';obtain rfl:=hI.inj i i' b l1 l2 e e'
  have:=(inv i j).2 e1
  rw [(inv i j').2 e2] at this;cases this; rfl
 ·obtain ⟨i,e1,l1⟩:=hlive j hl;have e0:=e;rw [hown j i e1] at e;exact ⟨(hI.loc i b l1 e).1,.inr ⟨j,hl,e0⟩⟩

theorem call_genC {C:(Ending→World→Prop)→Prop} (hm:∀ {R R' : Ending→World→Prop},C R→(∀ e w,R e w→R' e w)→C R') (hI:Inv w0 g0 h0 h g w) {σ:Ren} {d nn:Nat} (hok:(renOk σ&&newFree h d nn&&newApart σ d nn)=true) {Q:AV→(Nat→HO)→Prop}
  (hc:Inv w (ghFwd σ g) (renH σ h) (renH σ h) (ghFwd σ g) w→C (fun e w'=>∃ v r h' g',e=Ending.returned v∧Q r h'∧Rep g' w' (used h') r v∧Inv w (ghFwd σ g) (renH σ h) h' g' w'∧Le (renH σ h) (ghFwd σ g) w h' g' w')) {R:Ending→World→Prop}
  (hRR:∀ v r h' g2 w',Q r h'→Inv w0 g0 h0 (backH σ d nn h h') g2 w'→Le h g w (backH σ d nn h h') g2 w'→Rep g2 w' (used (backH σ d nn h h')) (ren (backId σ d nn) h' r) v→R (.returned v) w'):C R:=by
 simp only [Bool.and_eq_true] at hok;obtain ⟨⟨hσ,hnf⟩,hap⟩:=hok;obtain ⟨hF,hI0⟩:=fwd_ok hI hσ;have inv:=ren_inv hσ;have hsb:=src_back hσ hap;refine hm (hc hI0) ?_
 rintro e w' ⟨v,r,h',g',rfl,q1,q2,q3,q4⟩
 have hb:=backH_src σ d nn h h';have hg2:∀ i j,src σ d nn i=some j→(ghBack σ d nn g g').ρ i=g'.ρ j∧(ghBack σ d nn g g').ln i=g'.ln j∧(ghBack σ d nn g g').tk i=g'.tk j∧(ghBack σ d nn g g').own i=g'.own j:=fun i j e=>by simp [ghBack,e]
 have hg3:∀ i,src σ d nn i=none→(ghBack σ d nn g g').ρ i=g.ρ i∧(ghBack σ d nn g g').ln i=g.ln i∧(ghBack σ d nn g g').tk i=g.tk i∧(ghBack σ d nn g g').own i=g.own i:=fun i e=>by simp [ghBack,e]
 have hB:RenOk (backId σ d nn) h' (backH σ d nn h h') g' (ghBack σ d nn g g') w':=by
  refine ⟨fun j i hj hu=>?_,fun b o=>Iff.rfl,q3.objs⟩;have e:=(hsb i j).2 hj;obtain ⟨k1,k2,k3,k4⟩:=hg2 i j e;refine ⟨k3,k2,k1,k4,?_⟩;unfold used;rw [hb,e];exact (ren_used _ _ _).2 hu
 have hcget:∀ j,renH σ h j=match rbwd σ j with | some i=>(h i).ren (rfwd σ) h | none=>.free:=renL_get _ _ σ
 have hclive:∀ j i,rfwd σ i=some j→(h i).live→(renH σ h j).live:=fun j i e hl=>by
  rw [hcget,(inv i j).1 e]; exact (ren_live _ _ _).2 hl
 have hcown:∀ j i,rfwd σ i=some j→(ghFwd σ g).own j=g.own i:=fun j i e=>by simp [ghFwd,(inv i j).1 e]
 have hclive' : ∀ j,(renH σ h j).live→∃ i,rfwd σ i=some j∧(h i).live∧(ghFwd σ g).own j=g.own i:=fun j hl=>by
  rw [hcget] at hl;cases e:rbwd σ j with
  | none=>rw [e] at hl; exact hl.elim
  | some i=>rw [e] at hl; exact ⟨i,(inv i j).2 e,(ren_live _ _ _).1 hl,by simp [ghFwd,e]⟩
 -- what the callee may not touch
 have hfr:∀ b,b<w.heap.size→(∀ i,(h i).live→rfwd σ i≠none→g.own i≠some b)→w'.heap[b]?=w.heap[b]?:=fun b hlt hn=>q3.frame b hlt fun j hl e=>by
  obtain ⟨i,e1,l1,o1⟩:=hclive' j hl;exact hn i l1 (by rw [e1]; simp) (by rw [← o1]; exact e)
 have hSs:∀ b o,g'.S b o→b<w.heap.size→(∀ i,(h i).live→rfwd σ i≠none→g.own i≠some b)→g.S b o:=fun b o hs hlt hn=>by
  rcases q3.sg b o hs with h1 | h1 | ⟨j,h1,h2⟩
  ·exact h1
  ·omega
  ·obtain ⟨i,e1,l1,o1⟩:=hclive' j h1;exact absurd (by rw [← o1]; exact h2) (hn i l1 (by rw [e1]; simp))
 have hk:Keeps g w (ghBack σ d nn g g') w':=q4.keeps;have hfree:∀ i,rfwd σ i=none→src σ d nn i≠none→h i=.free:=fun i e1 e2=>by
  unfold src at e2;rw [e1] at e2;dsimp only at e2;split at e2
  ·rename_i hc;simp only [Bool.and_eq_true,Nat.ble_eq,Nat.blt_eq] at hc
   have:=newFree_spec hnf (i - newId d 0) (by unfold newId at hc ⊢; omega)
   rw [show newId d (i - newId d 0)=i by unfold newId at hc ⊢; omega] at this;exact this
  ·exact absurd rfl e2
 have hsrc:∀ i j,rfwd σ i=some j→src σ d nn i=some j:=fun i j e=>by unfold src; rw [e]
 have hgl:GhLe g (ghBack σ d nn g g') (used h):=fun i hu=>by
  cases e:rfwd σ i with
  | some j =>
   obtain ⟨k1,k2,k3,k4⟩:=hg2 i j (hsrc i j e);obtain ⟨f1,f2,f3,f4,f5⟩:=hF.ids i j e hu;obtain ⟨m1,m2,m3,m4⟩:=q4.gh j f5;exact ⟨(k3.trans m1).trans f1,by omega,fun t=>(k1.trans (m3 (f1.trans t))).trans f3,fun l=>(k1.trans (m4 (by omega))).trans f3⟩
  | none =>
   have e2:src σ d nn i=none:=Classical.not_not.1 fun e2=>hu (hfree i e e2);obtain ⟨k1,k2,k3,k4⟩:=hg3 i e2;exact ⟨k3,by omega,fun _=>k1,fun _=>k1⟩
 have hus:∀ i,used h i→used (backH σ d nn h h') i:=fun i hu=>by
  unfold used;rw [hb];cases e:rfwd σ i with
  | some j =>
   rw [hsrc i j e];exact (ren_used _ _ _).2 (q4.us j (hF.ids i j e hu).2.2.2.2)
  | none =>
   have e2:src σ d nn i=none:=Classical.not_not.1 fun e2=>hu (hfree i e e2);rw [e2]; exact hu
 have hl2:∀ i,(backH σ d nn h h' i).live→(∃ j,src σ d nn i=some j∧(h' j).live∧(ghBack σ d nn g g').own i=g'.own j)∨(src σ d nn i=none∧(h i).live∧(ghBack σ d nn g g').own i=g.own i∧rfwd σ i=none):=fun i hl=>by
  rw [hb] at hl;cases e:src σ d nn i with
  | some j=>rw [e] at hl; exact .inl ⟨j,rfl,(ren_live _ _ _).1 hl,(hg2 i j e).2.2.2⟩
  | none =>
   rw [e] at hl;refine .inr ⟨rfl,hl,(hg3 i e).2.2.2,?_⟩;cases e2:rfwd σ i with
   | none=>rfl
   | some j=>rw [hsrc i j e2] at e; cases e
 have hcal:∀ j b,(h' j).live→g'.own j=some b→b<w'.heap.size∧(w.heap.size≤b∨∃ i,rfwd σ i≠none∧(h i).live∧g.own i=some b):=fun j b hl e=>by
  obtain ⟨h1,h2⟩:=q3.loc j b hl e;refine ⟨h1,h2.imp id ?_⟩
  rintro ⟨j',l',e'⟩
  obtain ⟨i,e1,l1,o1⟩:=hclive' j' l';exact ⟨i,by rw [e1]; simp,l1,by rw [← o1]; exact e'⟩
 have hun:∀ i b,(h i).live→g.own i=some b→rfwd σ i=none→∀ i',(h i').live→rfwd σ i'≠none→g.own i'≠some b:=fun i b hl e hn i' hl' hn' e'=>by
  obtain rfl:=hI.inj i i' b hl hl' e e';exact hn' hn
 refine hRR v r h' (ghBack σ d nn g g') w' q1 ⟨q3.os.trans hI.os,q3.tape.trans hI.tape,q3.output.trans hI.output,Nat.le_trans hI.size q3.size,fun b hlt hn=>?_,q3.slt,fun i=>?_,fun i i' b hl hl' e e'=>?_,fun i b hl e=>?_,fun b o hs=>?_,hI.glob.keep hk⟩ ⟨hgl,hus,hk⟩ (q2.ren hB)
 ·refine (hfr b (Nat.lt_of_lt_of_le hlt hI.size) fun i hl _ e=>?_).trans (hI.frame b hlt hn);rcases (hI.loc i b hl e).2 with h1 | ⟨r',h1,h2⟩
  ·omega
  ·exact hn r' h1 h2
 ·rw [hb];cases e:src σ d nn i with
  | some j =>
   by_cases hu:used h' j
   ·exact (q3.objs j).ren hB ((hsb i j).1 e) hu
   ·have:h' j=.free:=Classical.not_not.1 hu
    dsimp only;rw [this]; trivial
  | none =>
   obtain ⟨k1,k2,k3,k4⟩:=hg3 i e;have e2:rfwd σ i=none:=by
    cases e2:rfwd σ i with
    | none=>rfl
    | some j=>rw [hsrc i j e2] at e; cases e
   refine (hI.objs i).same hk hus hgl k1 k2 k3 k4 fun b hl ho=>?_;have hlt:=(hI.loc i b hl ho).1;exact ⟨hfr b hlt (hun i b hl ho e2),fun k hs=>hSs b k hs hlt (hun i b hl ho e2)⟩
 ·have mixed:∀ i j i',(h' j).live→g'.own j=some b→(h i').live→g.own i'=some b→rfwd σ i'=none→i=i':=fun i j i' l1 o1 l2 o2 n2=>by
   rcases (hcal j b l1 o1).2 with h1 | ⟨i3,n3,l3,o3⟩
   ·have:=(hI.loc i' b l2 o2).1; omega
   ·exact absurd o3 (hun i' b l2 o2 n2 i3 l3 n3)
  rcases hl2 i hl with ⟨j,s1,l1,o1⟩ | ⟨s1,l1,o1,n1⟩ <;> rcases hl2 i' hl' with ⟨j',s2,l2,o2⟩ | ⟨s2,l2,o2,n2⟩
  ·obtain rfl:=q3.inj j j' b l1 l2 (by rw [← o1]; exact e) (by rw [← o2]; exact e');have a1:=(hsb i j).1 s1;rw [(hsb i' j).1 s2] at a1;cases a1; rfl
  ·exact mixed i j i' l1 (by rw [← o1]; exact e) l2 (by rw [← o2]; exact e') n2
  ·exact (mixed i' j' i l2 (by rw [← o2]; exact e') l1 (by rw [← o1]; exact e) n1).symm
  ·exact hI.inj i i' b l1 l2 (by rw [← o1]; exact e) (by rw [← o2]; exact e')
 ·rcases hl2 i hl with ⟨j,s1,l1,o1⟩ | ⟨s1,l1,o1,n1⟩
  ·obtain ⟨h1,h2⟩:=hcal j b l1 (by rw [← o1]; exact e);refine ⟨h1,?_⟩;rcases h2 with h2 | ⟨i3,n3,l3,o3⟩
   ·exact .inl (Nat.le_trans hI.size h2)
   ·exact (hI.loc i3 b l3 o3).2
  ·obtain ⟨h1,h2⟩:=hI.loc i b l1 (by rw [← o1]; exact e);exact ⟨Nat.lt_of_lt_of_le h1 q3.size,h2⟩
 ·rcases q3.sg b o hs with h1 | h1 | ⟨j,h1,h2⟩
  ·exact hI.sg b o h1
  ·exact .inr (.inl (Nat.le_trans hI.size h1))
  ·obtain ⟨i,e1,l1,o1⟩:=hclive' j h1;exact .inr (hI.loc i b l1 (by rw [← o1]; exact h2)).2
theorem call_gen (hI:Inv w0 g0 h0 h g w) {σ:Ren} {d nn:Nat} (hok:(renOk σ&&newFree h d nn&&newApart σ d nn)=true) {f:Nat} {args:List AV} {Q:AV→(Nat→HO)→Prop} (hc:ACall P f args (renH σ h) Q) {vals:Array Value} (hs:vals.size=args.length)
  (hv:∀ (i:Nat) (av:AV) (x:Value),args[i]?=some av→vals[i]?=some x→Rep (ghFwd σ g) w (used (renH σ h)) av x) {R:Ending→World→Prop}
  (hRR:∀ v r h' g2 w',Q r h'→Inv w0 g0 h0 (backH σ d nn h h') g2 w'→Le h g w (backH σ d nn h h') g2 w'→Rep g2 w' (used (backH σ d nn h h')) (ren (backId σ d nn) h' r) v→R (.returned v) w'):Calls P f vals w R :=
 call_genC (C:=Calls P f vals w) (fun h k=>h.mono k) hI hok (hc.2 (ghFwd σ g) w vals hs hv) hRR
end
end Go.Eng

namespace Go.Eng

structure SR (N:Nat) (ds:List Deferred) (w0:World) (g0:Gh) (h0:Nat→HO) (st:St) (g:Gh) (a:Act) (w:World):Prop where
 inv:Inv w0 g0 h0 st.h g w
 le:Le h0 g0 w0 st.h g w
 dfs:a.defers=ds
 size:a.tmps.size=N
 slots:∀ i,Rep g w (used st.h) (st.t i) (a.tmps.getD i undef)

section
variable {P:Program} {N:Nat} {ds:List Deferred} {w0:World} {g0:Gh} {h0:Nat→HO} {st:St} {g:Gh} {a:Act} {w:World}

theorem SR.eval (hS:SR N ds w0 g0 h0 st g a w) (x:Operand):Rep g w (used st.h) (ev st.t x) (a.eval x):=by
 cases x with
 | tmp i=>exact hS.slots i
 | const v=>exact .v _ _
 | global b=>exact .v _ _
 | func f=>exact .v _ _
theorem SR.put (hS:SR N ds w0 g0 h0 st g a w) {d:Option Nat} (hd:∀ i,d=some i→i<N) {v:AV} {x:Value} {h' : Nat→HO} {g' : Gh} {w' : World} (hI:Inv w0 g0 h0 h' g' w') (hle:Le st.h g w h' g' w') (hr:Rep g' w' (used h') v x) :
  SR N ds w0 g0 h0 (st.put d v h') g' (a.put d x) w':=by
 have old:∀ i,Rep g' w' (used h') (st.t i) (a.tmps.getD i undef):=fun i=>(hS.slots i).le hle;cases d with
 | none=>exact ⟨hI,hS.le.trans hle,hS.dfs,hS.size,old⟩
 | some d =>
  have hdN:=hd d rfl;refine ⟨hI,hS.le.trans hle,hS.dfs,by simp [Act.put,hS.size],fun i=>?_⟩;simp only [St.put,Act.put,tput]
  by_cases e:i=d
  ·subst e
   have:i<a.tmps.size:=by rw [hS.size]; exact hdN
   simp only [Nat.beq_refl,cond_true];rw [Array.getD_eq_getD_getElem?,Array.getElem?_setIfInBounds_self,if_pos this];exact hr
  ·simp only [beq_ne e,cond_false];rw [Array.getD_eq_getD_getElem?,Array.getElem?_setIfInBounds_ne (Ne.symm e),← Array.getD_eq_getD_getElem?];exact old i

def Goes (w0:World) (g0:Gh) (h0 h:Nat→HO) (g:Gh) (w:World) (K:HK) (next:Value→World→Prop):Prop :=
 ∀ v h' g' w' x,K v h'→Inv w0 g0 h0 h' g' w'→Le h g w h' g' w'→Rep g' w' (used h') v x→next x w'

theorem wp_val {o:Oper} {m:Sem Value} {K:HK} {next:Act→World→Prop} {Q:Exit→Act→World→Prop} (hx:execOp a.eval o=(do pure (Next.value (← m)))) (hd:Does P w0 g0 h0 st.h g w m K)
  (hn:Goes w0 g0 h0 st.h g w K fun x w'=>next (a.put o.dst x) w'):o.wp P a w next Q:=by
 obtain ⟨x,w',g',av,h',h1,h2,h3,h4,h5⟩:=hd;unfold Oper.wp;rw [hx,Sem.run_bind,h1];exact hn av h' g' w' x h2 h3 h4 h5
theorem wp_unit {o:Oper} {m:Sem Unit} {K:HK} {next:Act→World→Prop} {Q:Exit→Act→World→Prop} (hx:execOp a.eval o=(do m; pure Next.skip)) (hd:DoesU P w0 g0 h0 st.h g w m K)
  (hn:Goes w0 g0 h0 st.h g w K fun x w'=>next (a.put o.dst x) w'):o.wp P a w next Q:=by
 obtain ⟨w',g',h',h1,h2,h3,h4⟩:=hd;unfold Oper.wp;rw [hx,Sem.run_bind,h1];exact hn _ h' g' w' undef h2 h3 h4 (.v _ _)
theorem wp_same {o:Oper} {K:HK} {next:Act→World→Prop} {Q:Exit→Act→World→Prop} {v:AV} {x:Value} (hI:Inv w0 g0 h0 st.h g w) (hx:(execOp a.eval o).run P w=.ok (.value x) w) (hk:K v st.h) (hr:Rep g w (used st.h) v x)
  (hn:Goes w0 g0 h0 st.h g w K fun x w'=>next (a.put o.dst x) w'):o.wp P a w next Q:=by
 unfold Oper.wp;rw [hx];exact hn _ _ _ _ _ hk hI (.refl _ _ _) hr

theorem call_freeC {C:(Ending→World→Prop)→Prop} (hm:∀ {R R' : Ending→World→Prop},C R→(∀ e w,R e w→R' e w)→C R') (hI:Inv w0 g0 h0 st.h g w) {Q:AV→(Nat→HO)→Prop}
  (hc:Inv w g hfree hfree g w→C (fun e w'=>∃ v r h' g',e=Ending.returned v∧Q r h'∧Rep g' w' (used h') r v∧Inv w g hfree h' g' w'∧Le hfree g w h' g' w')) {R:Ending→World→Prop}
  (hR:∀ v r h' g' w',Q r h'→h'=hfree→Inv w0 g0 h0 st.h g' w'→Le st.h g w st.h g' w'→Rep g' w' NoU r v→R (.returned v) w') (hQ:∀ r h',Q r h'→h'=hfree):C R:=by
 have hU:used hfree=NoU:=by funext i; unfold used NoU hfree; simp
 have hI0:Inv w g hfree hfree g w:=⟨rfl,rfl,rfl,Nat.le_refl _,fun _ _ _=>rfl,hI.slt,fun _=>trivial,fun _ _ _ h=>h.elim,fun _ _ h=>h.elim,fun _ _ h=>.inl h,hI.glob⟩;refine hm (hc hI0) ?_
 rintro e w' ⟨v,r,h',g',rfl,q1,q2,q3,q4⟩
 obtain rfl:=hQ r h' q1;rw [hU] at q2
 -- the caller's ghost,with the callee's stable cells
 have hk:Keeps g w ⟨g.ρ,g.ln,g.tk,g.own,g'.S⟩ w':=q4.keeps;have hg:GhLe g ⟨g.ρ,g.ln,g.tk,g.own,g'.S⟩ (used st.h):=fun _ _=>⟨rfl,Nat.le_refl _,fun _=>rfl,fun _=>rfl⟩;have hfr:∀ b,b<w.heap.size→w'.heap[b]?=w.heap[b]?:=fun b hb=>q3.frame b hb (fun _ h=>h.elim);have hSs:∀ b o,g'.S b o→b<w.heap.size→g.S b o:=fun b o hs hb=>by
  rcases q3.sg b o hs with h1 | h1 | ⟨_,h1,_⟩
  ·exact h1
  ·omega
  ·exact h1.elim
 refine hR v r hfree ⟨g.ρ,g.ln,g.tk,g.own,g'.S⟩ w' q1 rfl ⟨q3.os.trans hI.os,q3.tape.trans hI.tape,q3.output.trans hI.output,Nat.le_trans hI.size q3.size,fun b hb hn=>?_,q3.slt,fun i=>?_,hI.inj,fun i b hl ho=>?_,fun b o hs=>?_,hI.glob.keep hk⟩ ⟨hg,fun _ h=>h,hk⟩ ?_
 ·exact (hfr b (Nat.lt_of_lt_of_le hb hI.size)).trans (hI.frame b hb hn)
 ·refine (hI.objs i).same hk (fun _ h=>h) hg rfl rfl rfl rfl (fun b hl ho=>?_);have hlt:=(hI.loc i b hl ho).1;exact ⟨hfr b hlt,fun k hs=>hSs b k hs hlt⟩
 ·obtain ⟨h1,h2⟩:=hI.loc i b hl ho;exact ⟨Nat.lt_of_lt_of_le h1 q3.size,h2⟩
 ·rcases q3.sg b o hs with h1 | h1 | ⟨_,h1,_⟩
  ·exact hI.sg b o h1
  ·exact .inr (.inl (Nat.le_trans hI.size h1))
  ·exact h1.elim
 ·have:Keeps g' w' ⟨g.ρ,g.ln,g.tk,g.own,g'.S⟩ w':=fun b o h=>⟨h,rfl,fun _ _ h=>h⟩
  exact q2.mono this (fun _ h=>h) (fun _ h=>h.elim)

theorem call_free (hI:Inv w0 g0 h0 st.h g w) {f:Nat} {args:List AV} {Q:AV→(Nat→HO)→Prop} (hc:ACall P f args hfree Q) {vals:Array Value} (hs:vals.size=args.length)
  (hv:∀ (i:Nat) (av:AV) (x:Value),args[i]?=some av→vals[i]?=some x→Rep g w NoU av x) {R:Ending→World→Prop}
  (hR:∀ v r h' g' w',Q r h'→h'=hfree→Inv w0 g0 h0 st.h g' w'→Le st.h g w st.h g' w'→Rep g' w' NoU r v→R (.returned v) w') (hQ:∀ r h',Q r h'→h'=hfree):Calls P f vals w R :=
 have hU:used hfree=NoU:=by funext i; unfold used NoU hfree; simp
 call_freeC (C:=Calls P f vals w) (fun h k=>h.mono k) hI (hc.2 g w vals hs (fun i av x h1 h2=>by rw [hU]; exact hv i av x h1 h2)) hR hQ
theorem YieldAt.imp {F:Fence} {m:Nat} {P:Program} {l:Nat} {args:Array Value} {W:World} {R R' : Ending→World→Prop} (h:YieldAt F m P l args W R) (hr:∀ e w,R e w→R' e w):YieldAt F m P l args W R' :=
 let ⟨fn,t,a,b,h1,h2⟩:=h
 ⟨fn,t,a,b,h1,h2.mono hr⟩
theorem YCall.imp {Y:Gh→World→Prop} {l:Nat} {args:List AV} {h0:Nat→HO} {Q Q' : AV→(Nat→HO)→Prop} (h:YCall P Y l args h0 Q) (hq:∀ r h',Q r h'→Q' r h'):YCall P Y l args h0 Q' :=
 fun g w vals q1 q2 q3 q4=>YieldAt.imp (h g w vals q1 q2 q3 q4) fun _ _ ⟨v,r,h',g',e1,e2,rest⟩=>⟨v,r,h',g',e1,hq _ _ e2,rest⟩
theorem ACallV.imp {Y:Nat→Gh→World→Prop} {F:AV} {args:List AV} {h0:Nat→HO} {Q Q' : AV→(Nat→HO)→Prop} (h:ACallV P Y F args h0 Q) (hq:∀ r h',Q r h'→Q' r h'):ACallV P Y F args h0 Q':=by
 have one:∀ {f:Nat} {l:List AV},ACall P f l h0 Q→ACall P f l h0 Q':=fun hc =>
  ⟨hc.1,fun g w vals q1 q2 q3=>(hc.2 g w vals q1 q2 q3).mono fun _ _ ⟨v,r,h',g',e1,e2,rest⟩=>⟨v,r,h',g',e1,hq _ _ e2,rest⟩⟩
 unfold ACallV at h ⊢;split at h
 ·exact one h
 ·exact one h
 ·exact YCall.imp h hq
 ·exact h.elim
abbrev fro (ro:Option Nat):Fence:={ Fence.wide with round:=ro }
theorem opIn_of {ro:Option Nat} {o:Oper} {a:Act} {w:World} {next:Act→World→Prop} {Q:Exit→Act→World→Prop} (hd:∀ c,o.op≠.defer c) (h:o.wp P a w next Q):o.wpIn (fro ro) 0 P a w next Q:=by
 refine ⟨fun _ _=>trivial,?_⟩;have e:o.semAt (fro ro).round a.eval=execOp a.eval o:=Oper.semAt_eq ro a.eval o hd;rw [e];unfold Oper.wp at h;have key:∀ res:Result Next,o.upon P a next Q res→o.uponIn (fro ro) 0 P a next Q res:=fun res h=>by
  cases res with
  | ok n w'=>cases n with
   | enter f args=>exact (show (_→_)∧CallsIn (fro ro) 0 P f args w' _ from ⟨fun e=>by (cases e),callsIn_wide.2 h⟩)
   | row r args=>exact (show (_→_)∧RowsIn (fro ro) 0 P r args w' _ from ⟨fun e=>by (cases e),fun c cs _=>by
     obtain ⟨v,w'',r',s⟩:=h c cs;exact ⟨v,w'',r',stepsIn_wide.2 s⟩⟩)
   | round _ _ _ _ _=>exact h.elim
   | _=>exact h
  | halt x w'=>cases x <;> exact h
 exact key _ h
theorem run_callFunc {f:Nat} {args:Array Value} (h:Enters P f) (w:World):(callFunc f args).run P w=.ok (.enter f args) w:=by
 obtain ⟨fn,h1,h2,h3⟩:=h;simp only [callFunc,Sem.run_bind,run_program,h1,Result.andThen_ok,h2,h3,Bool.false_eq_true,if_false,Sem.run_pure]

theorem ren_none {h:Nat→HO} {a:AV} (ha:noTup a=true):ren (rfwd []) h a=str h a:=by
 have h0:∀ a,ren0 (rfwd []) h a=str0 h a:=fun a=>by
  cases a with
  | slice tk es=>cases tk <;> rfl
  | _=>rfl
 cases a with
 | tup cs=>cases ha
 | agg cs=>show AV.agg _=AV.agg _; exact congrArg _ (List.map_congr_left fun c _=>h0 c)
 | clo f cs=>show AV.clo f _=AV.clo f _; exact congrArg _ (List.map_congr_left fun c _=>h0 c)
 | v x=>exact h0 (.v x)
 | slice tk es=>exact h0 (.slice tk es)
 | msl r n=>exact h0 (.msl r n)
 | cptr cs=>exact h0 (.cptr cs)
 | ref r o=>exact h0 (.ref r o)
 | eref r n sz i o=>exact h0 (.eref r n sz i o)
 | mref r=>exact h0 (.mref r)
 | cmap sh l=>exact h0 (.cmap sh l)
 | junk=>rfl
theorem ren_nones {h:Nat→HO} : ∀ {l:List AV},noTups l=true→l.map (ren (rfwd []) h)=l.map (str h)
 | [],_=>rfl
 | a :: l,e=>by
  unfold noTups at e;split at e
  ·rename_i e1; rw [List.map_cons,List.map_cons,ren_none e1,ren_nones e]
  ·cases e
theorem valsL_map:∀ {l:List AV} {vs:List Value},valsL l=some vs→l=vs.map .v
 | [],vs,h=>by cases h; rfl
 | .v x :: r,vs,h=>by
  unfold valsL at h;split at h
  ·rename_i l e; cases h; rw [List.map_cons,← valsL_map e]
  ·cases h
theorem callD_gen {cx:Cx} {d:Option Nat} {st:St} {F:AV} {args:List AV} {K:HK} (hk:callK cx true d st F args K):callK cx false d st F args K:=by
 unfold callK at hk;simp only at hk;split at hk
 ·exact ⟨.pure,hk⟩
 ·split at hk
  ·exact hk.elim
  ·rename_i d _;obtain ⟨n,sz,es,h1,h2,h3⟩:=hk;simp only [Bool.and_eq_true] at h1;refine ⟨.gen [] 1,?_⟩;show (renOk []&&newFree st.h d 1&&newApart [] d 1)=true∧_;refine ⟨by simp [renOk,newApart,h1.1.1],?_⟩;rw [ren_none h1.1.2,ren_nones h1.2];show ACallV cx.P (fun l=>cx.yp l []) _ _ hfree _;refine ACallV.imp h2 ?_
   rintro r h' ⟨e2,e3⟩
   subst e2; subst e3;have e1:ren (backId [] d 1) (heapOf [(2000,.arr sz es)] hfree) (.msl 2000 n)=.msl (newId d 0) n:=rfl;have e2:backH [] d 1 st.h (heapOf [(2000,.arr sz es)] hfree)=hput st.h (newId d 0) (.arr sz es):=by
    funext i
    by_cases e:i=newId d 0
    ·subst e;rw [hput_same];have hb:(Nat.ble (newId d 0) (newId d 0)&&Nat.blt (newId d 0) (newId d 1))=true:=by
      unfold newId; simp only [Bool.and_eq_true,Nat.ble_eq,Nat.blt_eq]; omega
     simp only [backH,rfwd,hb,Nat.sub_self]; rfl
    ·rw [hput_ne _ _ _ _ e]
     have:(Nat.ble (newId d 0) i&&Nat.blt i (newId d 1))=false:=by
      unfold newId at e ⊢;rw [Bool.eq_false_iff];simp only [ne_eq,Bool.and_eq_true,Nat.ble_eq,Nat.blt_eq];omega
     simp only [backH,rfwd,this]
   rw [e1,e2]; exact h3
 ·split at hk
  ·unfold tokenK at hk;split at hk
   ·exact hk.elim
   ·rename_i d _;obtain ⟨sz,es,h1,h2,h3⟩:=hk;simp only [Bool.and_eq_true] at h1;refine ⟨.gen [] 1,?_⟩;show (renOk []&&newFree st.h d 1&&newApart [] d 1)=true∧_;refine ⟨by simp [renOk,newApart,h1.1.1],?_⟩;rw [ren_none h1.1.2,ren_nones h1.2];show ACallV cx.P (fun l=>cx.yp l []) _ _ hfree _;refine ACallV.imp h2 ?_
    rintro r h' ⟨e2,e3⟩
    subst e2; subst e3;have e1:ren (backId [] d 1) (heapOf [(2000,.tok sz es.length)] hfree) (.slice (.id 2000 sz) es)=.slice (.id (newId d 0) sz) es:=rfl;have e2:backH [] d 1 st.h (heapOf [(2000,.tok sz es.length)] hfree)=hput st.h (newId d 0) (.tok sz es.length):=by
     funext i
     by_cases e:i=newId d 0
     ·subst e;rw [hput_same];have hb:(Nat.ble (newId d 0) (newId d 0)&&Nat.blt (newId d 0) (newId d 1))=true:=by
       unfold newId; simp only [Bool.and_eq_true,Nat.ble_eq,Nat.blt_eq]; omega
      simp only [backH,rfwd,hb,Nat.sub_self]; rfl
     ·rw [hput_ne _ _ _ _ e]
      have:(Nat.ble (newId d 0) i&&Nat.blt i (newId d 1))=false:=by
       unfold newId at e ⊢;rw [Bool.eq_false_iff];simp only [ne_eq,Bool.and_eq_true,Nat.ble_eq,Nat.blt_eq];omega
      simp only [backH,rfwd,this]
    rw [e1,e2]; exact h3
  split at hk
  ·unfold yieldK at hk;split at hk
   ·rename_i d l vs e2 z1;have hl:=valsL_map e2;split at hk
    ·rename_i r sz es sz2 n e3 e4;obtain ⟨⟨rfl,rfl⟩,v,es',n',h1,h2⟩:=hk;refine ⟨.gen [(1000,1000),(1001,1001)] 0,?_⟩;show (renOk [(1000,1000),(1001,1001)]&&newFree st.h d 0&&newApart [(1000,1000),(1001,1001)] d 0)=true∧_;refine ⟨?_,?_⟩
     ·have:newApart [(1000,1000),(1001,1001)] d 0=true:=by
       have q:∀ r:Nat,(Nat.ble (newId d 0) r&&Nat.blt r (newId d 0))=false:=fun r=>by
        rw [Bool.eq_false_iff]; simp only [ne_eq,Bool.and_eq_true,Nat.ble_eq,Nat.blt_eq]; omega
       simp only [newApart,q,Bool.not_false,Bool.and_self]
      rw [this]; rfl
     have f1:args.map (ren (rfwd [(1000,1000),(1001,1001)]) st.h)=vs.map .v:=by rw [hl,List.map_map]; rfl
     have f2:renH [(1000,1000),(1001,1001)] st.h=heapOf [(1000,.cells [.slice (.id 1001 sz2) es]),(1001,.tok sz2 n)] hfree:=by
      unfold renH renL renL renL;rw [e3,e4]; rfl
     rw [f1,f2];refine YCall.imp h1 ?_
     rintro r h' ⟨g1,g2⟩
     subst g1; subst g2;have f3:backH [(1000,1000),(1001,1001)] d 0 st.h (heapOf [(1000,.cells [.slice (.id 1001 sz2) es']),(1001,.tok sz2 n')] hfree)=hput (hput st.h 1001 (.tok sz2 n')) 1000 (.cells [.slice (.id 1001 sz2) es']):=by
      funext i
      by_cases e:i=1000
      ·subst e; rw [hput_same]; rfl
      ·rw [hput_ne _ _ _ _ e]
       by_cases e' : i=1001
       ·subst e'; rw [hput_same]; rfl
       ·rw [hput_ne _ _ _ _ e'];have hn:rfwd [(1000,1000),(1001,1001)] i=none:=by simp [rfwd,beq_ne (Ne.symm e),beq_ne (Ne.symm e')]
        have:(Nat.ble (newId d 0) i&&Nat.blt i (newId d 0))=false:=by
         rw [Bool.eq_false_iff]; simp only [ne_eq,Bool.and_eq_true,Nat.ble_eq,Nat.blt_eq]; omega
        simp only [backH,hn,this]
     rw [f3]; exact h2
    ·exact hk.elim
   ·exact hk.elim
  unfold restK at hk;split at hk
  ·unfold gencK at hk;split at hk
   ·rename_i d f _;obtain ⟨σ,H0,Hn,args',res,g1,g2,g3,g4⟩:=hk;simp only [Bool.and_eq_true] at g2;obtain ⟨k1,k2⟩:=g1 st.h fun _ _=>rfl;refine ⟨.gen σ 0,?_⟩;show (renOk σ&&newFree st.h d 0&&newApart σ d 0)=true∧_;refine ⟨by rw [g2.1.1,g2.1.2]; rfl,?_⟩;rw [k1,k2];refine ACallV.imp (show ACallV cx.P (fun l=>cx.yp l σ) (.v (.func (.func f) ⟨[]⟩ ⟨[]⟩)) args' (heapOf H0 hfree) (fun r h'=>r=res∧h'=heapOf Hn hfree) from g3) ?_
    rintro r h' ⟨e1,e2⟩
    rw [e1,e2]; exact g4
   ·exact hk.elim
  unfold turnK at hk;split at hk
  ·rename_i dd f r n l _;split at hk
   ·rename_i vs hvs;have hl:=valsL_map hvs;subst hl;split at hk
    ·rename_i sz es hr;have hf:rfwd [(r,1000)] r=some 1000:=by simp [rfwd]
     have e1:ren (rfwd [(r,1000)]) st.h (.v (.func (.func f) ⟨[]⟩ ⟨[]⟩))=.v (.func (.func f) ⟨[]⟩ ⟨[]⟩):=rfl;have e2:(AV.msl r n :: vs.map AV.v).map (ren (rfwd [(r,1000)]) st.h)=.msl 1000 n :: vs.map .v:=by
      rw [List.map_cons]
      congr 1
      ·simp [ren,ren1,ren0,hf]
      ·rw [List.map_map]; rfl
     have e3:renH [(r,1000)] st.h=heapOf [(1000,.arr sz es)] hfree:=by
      unfold renH renL;rw [hr]; rfl
     split at hk
     ·obtain ⟨n',es',h1,h2⟩:=hk;refine ⟨.gen [(r,1000)] 0,?_⟩;show (renOk [(r,1000)]&&newFree st.h dd 0&&newApart [(r,1000)] dd 0)=true∧_;refine ⟨?_,?_⟩
      ·have:newApart [(r,1000)] dd 0=true:=by
        unfold newApart
        have:(Nat.ble (newId dd 0) r&&Nat.blt r (newId dd 0))=false:=by
         rw [Bool.eq_false_iff]; simp only [ne_eq,Bool.and_eq_true,Nat.ble_eq,Nat.blt_eq]; omega
        rw [this]; rfl
       rw [this]; rfl
      rw [e1,e2,e3];refine ⟨h1.1,fun g w vals q1 q2 q3=>(h1.2 g w vals q1 q2 q3).mono fun _ _ ⟨v,r',h',g',e1,⟨e2,e3⟩,rest⟩=>⟨v,r',h',g',e1,?_,rest⟩⟩;subst e2; subst e3;have f1:ren (backId [(r,1000)] dd 0) (heapOf [(1000,.arr sz es')] hfree) (.msl 1000 n')=.msl r n':=rfl;have f2:backH [(r,1000)] dd 0 st.h (heapOf [(1000,.arr sz es')] hfree)=hput st.h r (.arr sz es'):=by
       funext i
       by_cases e:i=r
       ·subst e;rw [hput_same];simp [backH,hf,heapOf,HO.ren]
       ·rw [hput_ne _ _ _ _ e];have hn:rfwd [(r,1000)] i=none:=by simp [rfwd,beq_ne (Ne.symm e)]
        have:(Nat.ble (newId dd 0) i&&Nat.blt i (newId dd 0))=false:=by
         rw [Bool.eq_false_iff]; simp only [ne_eq,Bool.and_eq_true,Nat.ble_eq,Nat.blt_eq]; omega
        simp only [backH,hn,this]
      rw [f1,f2]; exact h2
     ·obtain ⟨n',es',h0,h1,h2⟩:=hk;simp only [Bool.and_eq_true,Nat.blt_eq,Bool.not_eq_true'] at h0;have hrd:r≠newId dd 0:=fun e=>by have:=h0.2; rw [e] at this; simp at this
      refine ⟨.gen [(r,1000)] 1,?_⟩;show (renOk [(r,1000)]&&newFree st.h dd 1&&newApart [(r,1000)] dd 1)=true∧_;refine ⟨?_,?_⟩
      ·have:newApart [(r,1000)] dd 1=true:=by
        unfold newApart
        have:(Nat.ble (newId dd 0) r&&Nat.blt r (newId dd 1))=false:=by
         rw [Bool.eq_false_iff]; simp only [ne_eq,Bool.and_eq_true,Nat.ble_eq,Nat.blt_eq]; unfold newId at hrd ⊢; omega
        rw [this]; rfl
       rw [this,h0.1.1]; rfl
      rw [e1,e2,e3];refine ⟨h1.1,fun g w vals q1 q2 q3=>(h1.2 g w vals q1 q2 q3).mono fun _ _ ⟨v,r',h',g',e1,⟨e2,e3⟩,rest⟩=>⟨v,r',h',g',e1,?_,rest⟩⟩;subst e2; subst e3;have f1:ren (backId [(r,1000)] dd 1) (heapOf [(1000,.dead),(2000,.arr sz es')] hfree) (.msl 2000 n')=.msl (newId dd 0) n':=rfl;have f2:backH [(r,1000)] dd 1 st.h (heapOf [(1000,.dead),(2000,.arr sz es')] hfree)=hput (hput st.h r .dead) (newId dd 0) (.arr sz es'):=by
       funext i
       by_cases e:i=newId dd 0
       ·subst e;rw [hput_same];have hn:rfwd [(r,1000)] (newId dd 0)=none:=by simp [rfwd,beq_ne hrd]
        have hb:(Nat.ble (newId dd 0) (newId dd 0)&&Nat.blt (newId dd 0) (newId dd 1))=true:=by
         unfold newId; simp only [Bool.and_eq_true,Nat.ble_eq,Nat.blt_eq]; omega
        simp only [backH,hn,hb,Nat.sub_self]; rfl
       ·rw [hput_ne _ _ _ _ e]
        by_cases e4:i=r
        ·subst e4;rw [hput_same];simp [backH,hf,heapOf,HO.ren]
        ·rw [hput_ne _ _ _ _ e4];have hn:rfwd [(r,1000)] i=none:=by simp [rfwd,beq_ne (Ne.symm e4)]
         have:(Nat.ble (newId dd 0) i&&Nat.blt i (newId dd 1))=false:=by
          rw [Bool.eq_false_iff]; simp only [ne_eq,Bool.and_eq_true,Nat.ble_eq,Nat.blt_eq]; unfold newId at e ⊢; omega
         simp only [backH,hn,this]
      rw [f1,f2]; exact h2
    ·exact hk.elim
   ·exact hk.elim
  ·exact hk.elim
theorem callK_ok {cx:Cx} {dr:Bool} {d:Option Nat} {f:Operand} {args:Array Operand} {tys:Array TypeId} {dst:Option Nat} {ty:Nat} {pos:String} {after:Array Edge} {gd:Option (Nat × Bool)} {K:HK} {next:Act→World→Prop} {Q:Exit→Act→World→Prop}
  (hP:cx.P=P) (hY:∀ l σ h g w,renOk σ=true→Inv w0 g0 h0 h g w→Le h0 g0 w0 h g w→cx.yp l σ (ghFwd σ g) w) {ro:Option Nat} (hS:SR N ds w0 g0 h0 st g a w) (hk:callK cx dr d st (ev st.t f) (args.toList.map (ev st.t)) K)
  (hn:Goes w0 g0 h0 st.h g w K fun x w'=>next (a.put dst x) w'):Oper.wpIn (fro ro) 0 P ⟨dst,.call ⟨.value f,args,tys⟩,ty,pos,after,gd⟩ a w next Q:=by
 subst hP;have hk:callK cx false d st (ev st.t f) (args.toList.map (ev st.t)) K:=by
  cases dr with
  | true=>exact callD_gen hk
  | false=>exact hk
 have hargs:∀ (i:Nat) (av:AV) (x:Value),((args.toList.map (ev st.t)).map (str st.h))[i]?=some av→(args.map a.eval)[i]?=some x→Rep g w NoU av x:=by
  intro i av x h1 h2;rw [List.getElem?_map,List.getElem?_map] at h1;rw [Array.getElem?_map] at h2;cases ho:args[i]? with
  | none=>rw [ho] at h2; simp at h2
  | some y =>
   rw [ho] at h2;have hy:args.toList[i]?=some y:=by simpa using ho
   rw [hy] at h1;simp only [Option.map_some,Option.some.injEq] at h1 h2;subst h1; subst h2;exact Rep.str hS.inv.objs (hS.eval y)
 have hlen:(args.map a.eval).size=((args.toList.map (ev st.t)).map (str st.h)).length:=by simp
 have hF:=Rep.str hS.inv.objs (hS.eval f)
 -- a call of yield
 have yl:∀ (l:Nat) (R:Ending→World→Prop),a.eval f=.func (.yield l) #[] #[]→YieldAt Fence.wide 0 cx.P l (args.map a.eval) w R→(∀ e w',R e w'→∃ v,e=.returned v∧next (a.put dst v) w') →
   Oper.wpIn (fro ro) 0 cx.P ⟨dst,.call ⟨.value f,args,tys⟩,ty,pos,after,gd⟩ a w next Q:=by
  rintro l R hx ⟨fn,tm,asg,bd,h1,h2⟩ hR
  refine ⟨fun _ _=>trivial,?_⟩;have e:(⟨dst,.call ⟨.value f,args,tys⟩,ty,pos,after,gd⟩ : Oper).semAt (fro ro).round a.eval=execOp a.eval ⟨dst,.call ⟨.value f,args,tys⟩,ty,pos,after,gd⟩:=Oper.semAt_eq ro a.eval _ (fun c e=>by cases e);have hrun:(execOp a.eval ⟨dst,.call ⟨.value f,args,tys⟩,ty,pos,after,gd⟩).run cx.P w=.ok (.round l fn tm asg bd) w:=by
   simp only [execOp,resolve,hx,Deferred.ofValue,Sem.run_bind,Sem.run_pure,Result.andThen_ok,invoke];simpa using h1
  rw [e,hrun];refine (show (_→_)∧RoundIn (fro ro) 0 cx.P l fn tm asg bd w _ from ⟨fun e=>by (cases e),RoundIn.mono h2 fun e w' h=>?_⟩);obtain ⟨v,rfl,hn⟩:=hR e w' h;exact hn
 -- the call itself
 have go:∀ (Q' : AV→(Nat→HO)→Prop),(∀ r h',Q' r h'→h'=hfree∧K r st.h)→ACallV cx.P (fun _ _ _=>True) (str st.h (ev st.t f)) ((args.toList.map (ev st.t)).map (str st.h)) hfree Q' →
   Oper.wpIn (fro ro) 0 cx.P ⟨dst,.call ⟨.value f,args,tys⟩,ty,pos,after,gd⟩ a w next Q:=by
  intro Q' hQ hc
  have fin:∀ {fn:Nat} {l:List AV} {vals:Array Value},ACall cx.P fn l hfree Q'→vals.size=l.length→(∀ (i:Nat) (av:AV) (x:Value),l[i]?=some av→vals[i]?=some x→Rep g w NoU av x) →
    (execOp a.eval ⟨dst,.call ⟨.value f,args,tys⟩,ty,pos,after,gd⟩).run cx.P w=.ok (.enter fn vals) w→Oper.wpIn (fro ro) 0 cx.P ⟨dst,.call ⟨.value f,args,tys⟩,ty,pos,after,gd⟩ a w next Q:=by
   intro fn l vals hc hs hv hrun;refine opIn_of (fun c e=>by cases e) ?_;unfold Oper.wp;rw [hrun];exact call_free hS.inv hc hs hv (fun v r h' g' w' hq _ hI hle hr=>hn r _ g' w' v (hQ r h' hq).2 hI hle (hr.up _)) (fun r h' hq=>(hQ r h' hq).1)
  unfold ACallV at hc;split at hc
  ·rename_i fn e;rw [e] at hF;have hx:=hF.v_eq;refine fin hc hlen hargs ?_;have hx' : a.eval f=.func (.func fn) #[] #[]:=hx;simp only [execOp,resolve,hx',Deferred.ofValue,Sem.run_bind,Sem.run_pure,Result.andThen_ok,invoke];rw [run_callFunc hc.1];simp
  ·rename_i fn caps e;rw [e] at hF;generalize hx:a.eval f=fv at hF;cases hF with
   | clo _ _ _ vs hsz hcap =>
    refine fin hc (vals:=args.map a.eval++vs) (by simp [hsz]) (fun i av x h1 h2=>?_) ?_
    ·rw [List.getElem?_append] at h1;rw [Array.getElem?_append] at h2;have hl:((args.toList.map (ev st.t)).map (str st.h)).length=(args.map a.eval).size:=hlen.symm;rw [hl] at h1;split at h1
     ·rename_i hi;rw [if_pos hi] at h2;exact hargs i av x h1 h2
     ·rename_i hi;rw [if_neg hi] at h2;exact hcap _ av x h1 h2
    ·simp only [execOp,resolve,hx,Deferred.ofValue,Sem.run_bind,Sem.run_pure,Result.andThen_ok,invoke];rw [run_callFunc hc.1];simp
  ·rename_i l e;rw [e] at hF;have hU:used hfree=NoU:=by funext i; unfold used NoU hfree; simp
   refine yl l _ hF.v_eq (call_freeC (C:=YieldAt Fence.wide 0 cx.P l (args.map a.eval) w) (R:=fun e w'=>∃ v,e=.returned v∧next (a.put dst v) w') YieldAt.imp hS.inv (fun hI0=>hc g w _ hlen (fun i av x h1 h2=>by rw [hU]; exact hargs i av x h1 h2) hI0 trivial)
    (fun v r h' g' w' hq _ hI hle hr=>⟨v,rfl,hn r _ g' w' v (hQ r h' hq).2 hI hle (hr.up _)⟩) (fun r h' hq=>(hQ r h' hq).1)) fun _ _ h=>h
  ·exact hc.elim
 have pure:(∃ res,PCallV cx.P (str st.h (ev st.t f)) ((args.toList.map (ev st.t)).map (str st.h)) res∧K res st.h)→Oper.wpIn (fro ro) 0 cx.P ⟨dst,.call ⟨.value f,args,tys⟩,ty,pos,after,gd⟩ a w next Q:=by
  rintro ⟨res,h1,h2⟩
  refine go (fun r h'=>r=res∧h'=hfree) (fun r h' hq=>⟨hq.2,by rw [hq.1]; exact h2⟩) ?_;unfold PCallV at h1;unfold ACallV;split at h1
  ·rename_i fn e; rw [e]; exact h1
  ·rename_i fn caps e; rw [e]; exact h1
  ·exact h1.elim
 unfold callK at hk
 ·obtain ⟨m,hm⟩:=hk;cases m with
  | pure=>exact pure hm
  | rel=>exact go _ (fun r h' hq=>hq) hm
  | gen σ nn =>
   simp only at hm;cases d with
   | none=>exact hm.elim
   | some d =>
    simp only at hm;obtain ⟨hok,hc⟩:=hm;have hσ:renOk σ=true:=by simp only [Bool.and_eq_true] at hok; exact hok.1.1
    obtain ⟨hR,_⟩:=fwd_ok hS.inv hσ;have hF2:=(hS.eval f).ren hR;have hargs2:∀ (i:Nat) (av:AV) (x:Value),((args.toList.map (ev st.t)).map (ren (rfwd σ) st.h))[i]?=some av→(args.map a.eval)[i]?=some x→Rep (ghFwd σ g) w (used (renH σ st.h)) av x:=by
     intro i av x h1 h2;rw [List.getElem?_map,List.getElem?_map] at h1;rw [Array.getElem?_map] at h2;cases ho:args[i]? with
     | none=>rw [ho] at h2; simp at h2
     | some y =>
      rw [ho] at h2;have hy:args.toList[i]?=some y:=by simpa using ho
      rw [hy] at h1;simp only [Option.map_some,Option.some.injEq] at h1 h2;subst h1; subst h2;exact (hS.eval y).ren hR
    have hlen2:(args.map a.eval).size=((args.toList.map (ev st.t)).map (ren (rfwd σ) st.h)).length:=by simp
    have fin:∀ {fn:Nat} {l:List AV} {vals:Array Value},ACall cx.P fn l (renH σ st.h) (fun r h'=>K (ren (backId σ d nn) h' r) (backH σ d nn st.h h'))→vals.size=l.length →
      (∀ (i:Nat) (av:AV) (x:Value),l[i]?=some av→vals[i]?=some x→Rep (ghFwd σ g) w (used (renH σ st.h)) av x) →
      (execOp a.eval ⟨dst,.call ⟨.value f,args,tys⟩,ty,pos,after,gd⟩).run cx.P w=.ok (.enter fn vals) w→Oper.wpIn (fro ro) 0 cx.P ⟨dst,.call ⟨.value f,args,tys⟩,ty,pos,after,gd⟩ a w next Q:=by
     intro fn l vals hc hs hv hrun;refine opIn_of (fun c e=>by cases e) ?_;unfold Oper.wp;rw [hrun];exact call_gen hS.inv hok hc hs hv (fun v r h' g' w' hq hI hle hr=>hn _ _ g' w' v hq hI hle hr)
    unfold ACallV at hc;split at hc
    ·rename_i fn e;rw [e] at hF2;have hx:a.eval f=.func (.func fn) #[] #[]:=hF2.v_eq;refine fin hc hlen2 hargs2 ?_;simp only [execOp,resolve,hx,Deferred.ofValue,Sem.run_bind,Sem.run_pure,Result.andThen_ok,invoke];rw [run_callFunc hc.1];simp
    ·rename_i fn caps e;rw [e] at hF2;generalize hx:a.eval f=fv at hF2;cases hF2 with
     | clo _ _ _ vs hsz hcap =>
      refine fin hc (vals:=args.map a.eval++vs) (by simp [hsz]) (fun i av x h1 h2=>?_) ?_
      ·rw [List.getElem?_append] at h1;rw [Array.getElem?_append] at h2;have hl:((args.toList.map (ev st.t)).map (ren (rfwd σ) st.h)).length=(args.map a.eval).size:=hlen2.symm;rw [hl] at h1;split at h1
       ·rename_i hi;rw [if_pos hi] at h2;exact hargs2 i av x h1 h2
       ·rename_i hi;rw [if_neg hi] at h2;exact hcap _ av x h1 h2
      ·simp only [execOp,resolve,hx,Deferred.ofValue,Sem.run_bind,Sem.run_pure,Result.andThen_ok,invoke];rw [run_callFunc hc.1];simp
    ·rename_i l e;rw [e] at hF2
     exact yl l _ hF2.v_eq (call_genC (C:=YieldAt Fence.wide 0 cx.P l (args.map a.eval) w) (R:=fun e w'=>∃ v,e=.returned v∧next (a.put dst v) w') YieldAt.imp hS.inv hok (fun hI0=>hc (ghFwd σ g) w _ hlen2 hargs2 hI0 (hY l σ _ _ _ hσ hS.inv hS.le))
      (fun v r h' g' w' hq hI hle hr=>⟨v,rfl,hn _ _ g' w' v hq hI hle hr⟩)) fun _ _ h=>h
    ·exact hc.elim
  | geny σ nn =>
   simp only at hm;cases d with
   | none=>exact hm.elim
   | some d =>
    simp only at hm;obtain ⟨hok,hc⟩:=hm;have hσ:renOk σ=true:=by simp only [Bool.and_eq_true] at hok; exact hok.1.1
    obtain ⟨hR,_⟩:=fwd_ok hS.inv hσ;have hF2:=(hS.eval f).ren hR;have hargs2:∀ (i:Nat) (av:AV) (x:Value),((args.toList.map (ev st.t)).map (ren (rfwd σ) st.h))[i]?=some av→(args.map a.eval)[i]?=some x→Rep (ghFwd σ g) w (used (renH σ st.h)) av x:=by
     intro i av x h1 h2;rw [List.getElem?_map,List.getElem?_map] at h1;rw [Array.getElem?_map] at h2;cases ho:args[i]? with
     | none=>rw [ho] at h2; simp at h2
     | some y =>
      rw [ho] at h2;have hy:args.toList[i]?=some y:=by simpa using ho
      rw [hy] at h1;simp only [Option.map_some,Option.some.injEq] at h1 h2;subst h1; subst h2;exact (hS.eval y).ren hR
    have hlen2:(args.map a.eval).size=((args.toList.map (ev st.t)).map (ren (rfwd σ) st.h)).length:=by simp
    split at hc
    ·rename_i fn caps e;rw [e] at hF2;generalize hx:a.eval f=fv at hF2;cases hF2 with
     | clo _ _ _ vs hsz hcap =>
      have hrun:(execOp a.eval ⟨dst,.call ⟨.value f,args,tys⟩,ty,pos,after,gd⟩).run cx.P w=.ok (.enter fn (args.map a.eval++vs)) w:=by
       simp only [execOp,resolve,hx,Deferred.ofValue,Sem.run_bind,Sem.run_pure,Result.andThen_ok,invoke];rw [run_callFunc hc.1];simp
      refine opIn_of (fun c e=>by cases e) ?_;unfold Oper.wp;rw [hrun];refine call_genC (C:=Calls cx.P fn (args.map a.eval++vs) w) (fun h k=>h.mono k) hS.inv hok (fun hI0=>hc.2 (ghFwd σ g) w _ (by simp [hsz]) (fun i av x h1 h2=>?_) hI0 (fun l=>hY l σ _ _ _ hσ hS.inv hS.le)) (fun v r h' g' w' hq hI hle hr=>hn _ _ g' w' v hq hI hle hr);rw [List.getElem?_append] at h1;rw [Array.getElem?_append] at h2;have hl:((args.toList.map (ev st.t)).map (ren (rfwd σ) st.h)).length=(args.map a.eval).size:=hlen2.symm;rw [hl] at h1;split at h1
      ·rename_i hi;rw [if_pos hi] at h2;exact hargs2 i av x h1 h2
      ·rename_i hi;rw [if_neg hi] at h2;exact hcap _ av x h1 h2
    ·exact hc.elim
end
end Go.Eng
