/- Lemmas for the claims of this seat, without a condition: part 10 (EngZ2, EngZA, EngZB). -/
import Derived.Test.YtodcmjcogdcmlaaGreatDoorA09
namespace Go.Eng

theorem newFree_spec {h : Nat → HO} {d : Nat} : ∀ {n : Nat}, newFree h d n = true → ∀ k, k < n → h (newId d k) = .free
 | 0, _, k, hk => by omega
 | n + 1, hf, k, hk => by
  simp only [newFree, Bool.and_eq_true] at hf
  by_cases e : k = n
  ·subst e
   have := hf.1
   split at this
   ·rename_i e2; exact e2
   ·cases this
  ·exact newFree_spec hf.2 k (by omega)
theorem newApart_spec {d nn : Nat} : ∀ {σ : Ren}, newApart σ d nn = true → ∀ {i j}, rfwd σ i = some j → ¬ (newId d 0 ≤ i ∧ i < newId d nn)
 | [], _, i, j, h => by simp [rfwd] at h
 | (a, b) :: r, hs, i, j, hf => by
  simp only [newApart, Bool.and_eq_true] at hs
  unfold rfwd at hf
  by_cases e1 : a = i
  ·subst e1
   have h1 := hs.1
   simp only [Bool.not_eq_true', Bool.and_eq_false_iff] at h1
   intro hc
   rcases h1 with h1 | h1
   ·rw [Nat.ble_eq_true_of_le hc.1] at h1; cases h1
   ·have h2 : Nat.blt a (newId d nn) = true := by rw [Nat.blt_eq]; exact hc.2
    rw [h2] at h1; cases h1
  ·simp only [beq_ne e1, cond_false] at hf
   exact newApart_spec hs.2 hf

section
variable {P : Program} {w0 : World} {g0 : Gh} {h0 h : Nat → HO} {g : Gh} {w : World}

def ghFwd (σ : Ren) (g : Gh) : Gh :=
 ⟨fun j => match rbwd σ j with | some i => g.ρ i | none => .nilIface, fun j => match rbwd σ j with | some i => g.ln i | none => 0, fun j => match rbwd σ j with | some i => g.tk i | none => false,
  fun j => match rbwd σ j with | some i => g.own i | none => none, g.S⟩
def src (σ : Ren) (d nn : Nat) (i : Nat) : Option Nat :=
 match rfwd σ i with
 | some j => some j
 | none => match Nat.ble (newId d 0) i && Nat.blt i (newId d nn) with | true => some (2000 + (i - newId d 0)) | false => none
def ghBack (σ : Ren) (d nn : Nat) (g g' : Gh) : Gh :=
 ⟨fun i => match src σ d nn i with | some j => g'.ρ j | none => g.ρ i, fun i => match src σ d nn i with | some j => g'.ln j | none => g.ln i, fun i => match src σ d nn i with | some j => g'.tk j | none => g.tk i,
  fun i => match src σ d nn i with | some j => g'.own j | none => g.own i, g'.S⟩
theorem backH_src (σ : Ren) (d nn : Nat) (h h' : Nat → HO) (i : Nat) : backH σ d nn h h' i = match src σ d nn i with | some j => (h' j).ren (backId σ d nn) h' | none => h i := by
 unfold backH src
 cases rfwd σ i with
 | some j => rfl
 | none =>
  dsimp only
  cases Nat.ble (newId d 0) i && Nat.blt i (newId d nn) <;> rfl
theorem src_back {σ : Ren} {d nn : Nat} (hσ : renOk σ = true) (ha : newApart σ d nn = true) (i j : Nat) : src σ d nn i = some j ↔ backId σ d nn j = some i := by
 have inv := ren_inv hσ
 unfold src backId
 cases h1 : rfwd σ i with
 | some j' =>
  have hb := (inv i j').1 h1
  dsimp only
  constructor
  ·intro h; cases h; rw [hb]
  ·intro h
   cases h2 : rbwd σ j with
   | some i' => rw [h2] at h; cases h; rw [(inv i j).2 h2] at h1; exact h1.symm
   | none =>
    rw [h2] at h
    dsimp only at h
    split at h
    ·rename_i hc
     have h := Option.some.inj h; subst h
     simp only [Bool.and_eq_true, Nat.ble_eq, Nat.blt_eq] at hc
     exact absurd ⟨by unfold newId; omega, by unfold newId; omega⟩ (newApart_spec ha h1)
    ·cases h
 | none =>
  dsimp only
  cases h2 : rbwd σ j with
  | some i' =>
   dsimp only
   have hf := (inv i' j).2 h2
   have hr := ren_range hσ hf
   constructor
   ·intro h
    split at h
    ·cases h; omega
    ·cases h
   ·intro h; cases h; rw [hf] at h1; cases h1
  | none =>
   dsimp only
   constructor
   ·intro h
    split at h
    ·rename_i hc
     cases h
     simp only [Bool.and_eq_true, Nat.ble_eq, Nat.blt_eq] at hc
     have e1 : (Nat.ble 2000 (2000 + (i - newId d 0)) && Nat.blt (2000 + (i - newId d 0)) (2000 + nn)) = true := by
      simp only [Bool.and_eq_true, Nat.ble_eq, Nat.blt_eq]
      unfold newId at hc ⊢; omega
     rw [e1]
     have : newId d (2000 + (i - newId d 0) - 2000) = i := by unfold newId at hc ⊢; omega
     rw [this]
    ·cases h
   ·intro h
    split at h
    ·rename_i hc
     have h := Option.some.inj h; subst h
     simp only [Bool.and_eq_true, Nat.ble_eq, Nat.blt_eq] at hc
     have e1 : (Nat.ble (newId d 0) (newId d (j - 2000)) && Nat.blt (newId d (j - 2000)) (newId d nn)) = true := by
      simp only [Bool.and_eq_true, Nat.ble_eq, Nat.blt_eq]
      unfold newId; omega
     rw [e1]
     have : 2000 + (newId d (j - 2000) - newId d 0) = j := by unfold newId; omega
     rw [this]
    ·cases h

theorem fwd_ok (hI : Inv w0 g0 h0 h g w) {σ : Ren} (hσ : renOk σ = true) : RenOk (rfwd σ) h (renH σ h) g (ghFwd σ g) w ∧ Inv w (ghFwd σ g) (renH σ h) (renH σ h) (ghFwd σ g) w := by
 have inv := ren_inv hσ
 have hget : ∀ j, renH σ h j = match rbwd σ j with | some i => (h i).ren (rfwd σ) h | none => .free := renL_get _ _ σ
 have hR : RenOk (rfwd σ) h (renH σ h) g (ghFwd σ g) w := by
  refine ⟨fun r r' hr hu => ?_, fun b o => Iff.rfl, hI.objs⟩
  have hb := (inv r r').1 hr
  refine ⟨by simp [ghFwd, hb], by simp [ghFwd, hb], by simp [ghFwd, hb], by simp [ghFwd, hb], ?_⟩
  unfold used
  rw [hget, hb]
  exact (ren_used _ _ _).2 hu
 have hlive : ∀ j, (renH σ h j).live → ∃ i, rbwd σ j = some i ∧ (h i).live := fun j hl => by
  rw [hget] at hl
  cases e : rbwd σ j with
  | none => rw [e] at hl; exact hl.elim
  | some i => rw [e] at hl; exact ⟨i, rfl, (ren_live _ _ _).1 hl⟩
 have hown : ∀ j i, rbwd σ j = some i → (ghFwd σ g).own j = g.own i := fun j i e => by simp [ghFwd, e]
 refine ⟨hR, rfl, rfl, rfl, Nat.le_refl _, fun _ _ _ => rfl, hI.slt, fun j => ?_, fun j j' b hl hl' e e' => ?_, fun j b hl e => ?_, fun _ _ h => .inl h, hI.glob⟩
 ·rw [hget]
  cases e : rbwd σ j with
  | none => trivial
  | some i =>
   by_cases hu : used h i
   ·exact (hI.objs i).ren hR ((inv i j).2 e) hu
   ·have : h i = .free := Classical.not_not.1 hu
    dsimp only
    rw [this]; trivial
 ·obtain ⟨i, e1, l1⟩ := hlive j hl
  obtain ⟨i', e2, l2⟩ := hlive j' hl'
  rw [hown j i e1] at e
  rw [hown j' i' e2] at e'
  obtain rfl := hI.inj i i' b l1 l2 e e'
  have := (inv i j).2 e1
  rw [(inv i j').2 e2] at this
  cases this; rfl
 ·obtain ⟨i, e1, l1⟩ := hlive j hl
  have e0 := e
  rw [hown j i e1] at e
  exact ⟨(hI.loc i b l1 e).1, .inr ⟨j, hl, e0⟩⟩

theorem call_gen (hI : Inv w0 g0 h0 h g w) {σ : Ren} {d nn : Nat} (hok : (renOk σ && newFree h d nn && newApart σ d nn) = true) {f : Nat} {args : List AV} {Q : AV → (Nat → HO) → Prop} (hc : ACall P f args (renH σ h) Q) {vals : Array Value} (hs : vals.size = args.length)
  (hv : ∀ (i : Nat) (av : AV) (x : Value), args[i]? = some av → vals[i]? = some x → Rep (ghFwd σ g) w (used (renH σ h)) av x) {R : Ending → World → Prop}
  (hRR : ∀ v r h' g2 w', Q r h' → Inv w0 g0 h0 (backH σ d nn h h') g2 w' → Le h g w (backH σ d nn h h') g2 w' → Rep g2 w' (used (backH σ d nn h h')) (ren (backId σ d nn) h' r) v → R (.returned v) w') : Calls P f vals w R := by
 simp only [Bool.and_eq_true] at hok
 obtain ⟨⟨hσ, hnf⟩, hap⟩ := hok
 obtain ⟨hF, hI0⟩ := fwd_ok hI hσ
 have inv := ren_inv hσ
 have hsb := src_back hσ hap
 obtain ⟨_, hc⟩ := hc
 refine (hc (ghFwd σ g) w vals hs hv hI0).mono ?_
 rintro e w' ⟨v, r, h', g', rfl, q1, q2, q3, q4⟩
 have hb := backH_src σ d nn h h'
 have hg2 : ∀ i j, src σ d nn i = some j → (ghBack σ d nn g g').ρ i = g'.ρ j ∧ (ghBack σ d nn g g').ln i = g'.ln j ∧ (ghBack σ d nn g g').tk i = g'.tk j ∧ (ghBack σ d nn g g').own i = g'.own j := fun i j e => by simp [ghBack, e]
 have hg3 : ∀ i, src σ d nn i = none → (ghBack σ d nn g g').ρ i = g.ρ i ∧ (ghBack σ d nn g g').ln i = g.ln i ∧ (ghBack σ d nn g g').tk i = g.tk i ∧ (ghBack σ d nn g g').own i = g.own i := fun i e => by simp [ghBack, e]
 have hB : RenOk (backId σ d nn) h' (backH σ d nn h h') g' (ghBack σ d nn g g') w' := by
  refine ⟨fun j i hj hu => ?_, fun b o => Iff.rfl, q3.objs⟩
  have e := (hsb i j).2 hj
  obtain ⟨k1, k2, k3, k4⟩ := hg2 i j e
  refine ⟨k3, k2, k1, k4, ?_⟩
  unfold used
  rw [hb, e]
  exact (ren_used _ _ _).2 hu
 have hcget : ∀ j, renH σ h j = match rbwd σ j with | some i => (h i).ren (rfwd σ) h | none => .free := renL_get _ _ σ
 have hclive : ∀ j i, rfwd σ i = some j → (h i).live → (renH σ h j).live := fun j i e hl => by
  rw [hcget, (inv i j).1 e]; exact (ren_live _ _ _).2 hl
 have hcown : ∀ j i, rfwd σ i = some j → (ghFwd σ g).own j = g.own i := fun j i e => by simp [ghFwd, (inv i j).1 e]
 have hclive' : ∀ j, (renH σ h j).live → ∃ i, rfwd σ i = some j ∧ (h i).live ∧ (ghFwd σ g).own j = g.own i := fun j hl => by
  rw [hcget] at hl
  cases e : rbwd σ j with
  | none => rw [e] at hl; exact hl.elim
  | some i => rw [e] at hl; exact ⟨i, (inv i j).2 e, (ren_live _ _ _).1 hl, by simp [ghFwd, e]⟩
 -- what the callee may not touch
 have hfr : ∀ b, b < w.heap.size → (∀ i, (h i).live → rfwd σ i ≠ none → g.own i ≠ some b) → w'.heap[b]? = w.heap[b]? := fun b hlt hn => q3.frame b hlt fun j hl e => by
  obtain ⟨i, e1, l1, o1⟩ := hclive' j hl
  exact hn i l1 (by rw [e1]; simp) (by rw [← o1]; exact e)
 have hSs : ∀ b o, g'.S b o → b < w.heap.size → (∀ i, (h i).live → rfwd σ i ≠ none → g.own i ≠ some b) → g.S b o := fun b o hs hlt hn => by
  rcases q3.sg b o hs with h1 | h1 | ⟨j, h1, h2⟩
  ·exact h1
  ·omega
  ·obtain ⟨i, e1, l1, o1⟩ := hclive' j h1
   exact absurd (by rw [← o1]; exact h2) (hn i l1 (by rw [e1]; simp))
 have hk : Keeps g w (ghBack σ d nn g g') w' := q4.keeps
 have hfree : ∀ i, rfwd σ i = none → src σ d nn i ≠ none → h i = .free := fun i e1 e2 => by
  unfold src at e2
  rw [e1] at e2
  dsimp only at e2
  split at e2
  ·rename_i hc
   simp only [Bool.and_eq_true, Nat.ble_eq, Nat.blt_eq] at hc
   have := newFree_spec hnf (i - newId d 0) (by unfold newId at hc ⊢; omega)
   rw [show newId d (i - newId d 0) = i by unfold newId at hc ⊢; omega] at this
   exact this
  ·exact absurd rfl e2
 have hsrc : ∀ i j, rfwd σ i = some j → src σ d nn i = some j := fun i j e => by unfold src; rw [e]
 have hgl : GhLe g (ghBack σ d nn g g') (used h) := fun i hu => by
  cases e : rfwd σ i with
  | some j =>
   obtain ⟨k1, k2, k3, k4⟩ := hg2 i j (hsrc i j e)
   obtain ⟨f1, f2, f3, f4, f5⟩ := hF.ids i j e hu
   obtain ⟨m1, m2, m3, m4⟩ := q4.gh j f5
   exact ⟨(k3.trans m1).trans f1, by omega, fun t => (k1.trans (m3 (f1.trans t))).trans f3, fun l => (k1.trans (m4 (by omega))).trans f3⟩
  | none =>
   have e2 : src σ d nn i = none := Classical.not_not.1 fun e2 => hu (hfree i e e2)
   obtain ⟨k1, k2, k3, k4⟩ := hg3 i e2
   exact ⟨k3, by omega, fun _ => k1, fun _ => k1⟩
 have hus : ∀ i, used h i → used (backH σ d nn h h') i := fun i hu => by
  unfold used
  rw [hb]
  cases e : rfwd σ i with
  | some j =>
   rw [hsrc i j e]
   exact (ren_used _ _ _).2 (q4.us j (hF.ids i j e hu).2.2.2.2)
  | none =>
   have e2 : src σ d nn i = none := Classical.not_not.1 fun e2 => hu (hfree i e e2)
   rw [e2]; exact hu
 have hl2 : ∀ i, (backH σ d nn h h' i).live → (∃ j, src σ d nn i = some j ∧ (h' j).live ∧ (ghBack σ d nn g g').own i = g'.own j) ∨ (src σ d nn i = none ∧ (h i).live ∧ (ghBack σ d nn g g').own i = g.own i ∧ rfwd σ i = none) := fun i hl => by
  rw [hb] at hl
  cases e : src σ d nn i with
  | some j => rw [e] at hl; exact .inl ⟨j, rfl, (ren_live _ _ _).1 hl, (hg2 i j e).2.2.2⟩
  | none =>
   rw [e] at hl
   refine .inr ⟨rfl, hl, (hg3 i e).2.2.2, ?_⟩
   cases e2 : rfwd σ i with
   | none => rfl
   | some j => rw [hsrc i j e2] at e; cases e
 have hcal : ∀ j b, (h' j).live → g'.own j = some b → b < w'.heap.size ∧ (w.heap.size ≤ b ∨ ∃ i, rfwd σ i ≠ none ∧ (h i).live ∧ g.own i = some b) := fun j b hl e => by
  obtain ⟨h1, h2⟩ := q3.loc j b hl e
  refine ⟨h1, h2.imp id ?_⟩
  rintro ⟨j', l', e'⟩
  obtain ⟨i, e1, l1, o1⟩ := hclive' j' l'
  exact ⟨i, by rw [e1]; simp, l1, by rw [← o1]; exact e'⟩
 have hun : ∀ i b, (h i).live → g.own i = some b → rfwd σ i = none → ∀ i', (h i').live → rfwd σ i' ≠ none → g.own i' ≠ some b := fun i b hl e hn i' hl' hn' e' => by
  obtain rfl := hI.inj i i' b hl hl' e e'
  exact hn' hn
 refine hRR v r h' (ghBack σ d nn g g') w' q1 ⟨q3.os.trans hI.os, q3.tape.trans hI.tape, q3.output.trans hI.output, Nat.le_trans hI.size q3.size, fun b hlt hn => ?_, q3.slt, fun i => ?_, fun i i' b hl hl' e e' => ?_, fun i b hl e => ?_, fun b o hs => ?_, hI.glob.keep hk⟩ ⟨hgl, hus, hk⟩ (q2.ren hB)
 ·refine (hfr b (Nat.lt_of_lt_of_le hlt hI.size) fun i hl _ e => ?_).trans (hI.frame b hlt hn)
  rcases (hI.loc i b hl e).2 with h1 | ⟨r', h1, h2⟩
  ·omega
  ·exact hn r' h1 h2
 ·rw [hb]
  cases e : src σ d nn i with
  | some j =>
   by_cases hu : used h' j
   ·exact (q3.objs j).ren hB ((hsb i j).1 e) hu
   ·have : h' j = .free := Classical.not_not.1 hu
    dsimp only
    rw [this]; trivial
  | none =>
   obtain ⟨k1, k2, k3, k4⟩ := hg3 i e
   have e2 : rfwd σ i = none := by
    cases e2 : rfwd σ i with
    | none => rfl
    | some j => rw [hsrc i j e2] at e; cases e
   refine (hI.objs i).same hk hus hgl k1 k2 k3 k4 fun b hl ho => ?_
   have hlt := (hI.loc i b hl ho).1
   exact ⟨hfr b hlt (hun i b hl ho e2), fun k hs => hSs b k hs hlt (hun i b hl ho e2)⟩
 ·have mixed : ∀ i j i', (h' j).live → g'.own j = some b → (h i').live → g.own i' = some b → rfwd σ i' = none → i = i' := fun i j i' l1 o1 l2 o2 n2 => by
   rcases (hcal j b l1 o1).2 with h1 | ⟨i3, n3, l3, o3⟩
   ·have := (hI.loc i' b l2 o2).1; omega
   ·exact absurd o3 (hun i' b l2 o2 n2 i3 l3 n3)
  rcases hl2 i hl with ⟨j, s1, l1, o1⟩ | ⟨s1, l1, o1, n1⟩ <;> rcases hl2 i' hl' with ⟨j', s2, l2, o2⟩ | ⟨s2, l2, o2, n2⟩
  ·obtain rfl := q3.inj j j' b l1 l2 (by rw [← o1]; exact e) (by rw [← o2]; exact e')
   have a1 := (hsb i j).1 s1
   rw [(hsb i' j).1 s2] at a1
   cases a1; rfl
  ·exact mixed i j i' l1 (by rw [← o1]; exact e) l2 (by rw [← o2]; exact e') n2
  ·exact (mixed i' j' i l2 (by rw [← o2]; exact e') l1 (by rw [← o1]; exact e) n1).symm
  ·exact hI.inj i i' b l1 l2 (by rw [← o1]; exact e) (by rw [← o2]; exact e')
 ·rcases hl2 i hl with ⟨j, s1, l1, o1⟩ | ⟨s1, l1, o1, n1⟩
  ·obtain ⟨h1, h2⟩ := hcal j b l1 (by rw [← o1]; exact e)
   refine ⟨h1, ?_⟩
   rcases h2 with h2 | ⟨i3, n3, l3, o3⟩
   ·exact .inl (Nat.le_trans hI.size h2)
   ·exact (hI.loc i3 b l3 o3).2
  ·obtain ⟨h1, h2⟩ := hI.loc i b l1 (by rw [← o1]; exact e)
   exact ⟨Nat.lt_of_lt_of_le h1 q3.size, h2⟩
 ·rcases q3.sg b o hs with h1 | h1 | ⟨j, h1, h2⟩
  ·exact hI.sg b o h1
  ·exact .inr (.inl (Nat.le_trans hI.size h1))
  ·obtain ⟨i, e1, l1, o1⟩ := hclive' j h1
   exact .inr (hI.loc i b l1 (by rw [← o1]; exact h2)).2
end
end Go.Eng

namespace Go.Eng

structure SR (N : Nat) (w0 : World) (g0 : Gh) (h0 : Nat → HO) (st : St) (g : Gh) (a : Act) (w : World) : Prop where
 inv : Inv w0 g0 h0 st.h g w
 le : Le h0 g0 w0 st.h g w
 dfs : a.defers = []
 size : a.tmps.size = N
 slots : ∀ i, Rep g w (used st.h) (st.t i) (a.tmps.getD i undef)

section
variable {P : Program} {N : Nat} {w0 : World} {g0 : Gh} {h0 : Nat → HO} {st : St} {g : Gh} {a : Act} {w : World}

theorem SR.eval (hS : SR N w0 g0 h0 st g a w) (x : Operand) : Rep g w (used st.h) (ev st.t x) (a.eval x) := by
 cases x with
 | tmp i => exact hS.slots i
 | const v => exact .v _ _
 | global b => exact .v _ _
 | func f => exact .v _ _
theorem SR.put (hS : SR N w0 g0 h0 st g a w) {d : Option Nat} (hd : ∀ i, d = some i → i < N) {v : AV} {x : Value} {h' : Nat → HO} {g' : Gh} {w' : World} (hI : Inv w0 g0 h0 h' g' w') (hle : Le st.h g w h' g' w') (hr : Rep g' w' (used h') v x) :
  SR N w0 g0 h0 (st.put d v h') g' (a.put d x) w' := by
 have old : ∀ i, Rep g' w' (used h') (st.t i) (a.tmps.getD i undef) := fun i => (hS.slots i).le hle
 cases d with
 | none => exact ⟨hI, hS.le.trans hle, hS.dfs, hS.size, old⟩
 | some d =>
  have hdN := hd d rfl
  refine ⟨hI, hS.le.trans hle, hS.dfs, by simp [Act.put, hS.size], fun i => ?_⟩
  simp only [St.put, Act.put, tput]
  by_cases e : i = d
  ·subst e
   have : i < a.tmps.size := by rw [hS.size]; exact hdN
   simp only [Nat.beq_refl, cond_true]
   rw [Array.getD_eq_getD_getElem?, Array.getElem?_setIfInBounds_self, if_pos this]
   exact hr
  ·simp only [beq_ne e, cond_false]
   rw [Array.getD_eq_getD_getElem?, Array.getElem?_setIfInBounds_ne (Ne.symm e), ← Array.getD_eq_getD_getElem?]
   exact old i

def Goes (w0 : World) (g0 : Gh) (h0 h : Nat → HO) (g : Gh) (w : World) (K : HK) (next : Value → World → Prop) : Prop :=
 ∀ v h' g' w' x, K v h' → Inv w0 g0 h0 h' g' w' → Le h g w h' g' w' → Rep g' w' (used h') v x → next x w'

theorem wp_val {o : Oper} {m : Sem Value} {K : HK} {next : Act → World → Prop} {Q : Exit → Act → World → Prop} (hx : execOp a.eval o = (do pure (Next.value (← m)))) (hd : Does P w0 g0 h0 st.h g w m K)
  (hn : Goes w0 g0 h0 st.h g w K fun x w' => next (a.put o.dst x) w') : o.wp P a w next Q := by
 obtain ⟨x, w', g', av, h', h1, h2, h3, h4, h5⟩ := hd
 unfold Oper.wp
 rw [hx, Sem.run_bind, h1]
 exact hn av h' g' w' x h2 h3 h4 h5
theorem wp_unit {o : Oper} {m : Sem Unit} {K : HK} {next : Act → World → Prop} {Q : Exit → Act → World → Prop} (hx : execOp a.eval o = (do m; pure Next.skip)) (hd : DoesU P w0 g0 h0 st.h g w m K)
  (hn : Goes w0 g0 h0 st.h g w K fun x w' => next (a.put o.dst x) w') : o.wp P a w next Q := by
 obtain ⟨w', g', h', h1, h2, h3, h4⟩ := hd
 unfold Oper.wp
 rw [hx, Sem.run_bind, h1]
 exact hn _ h' g' w' undef h2 h3 h4 (.v _ _)
theorem wp_same {o : Oper} {K : HK} {next : Act → World → Prop} {Q : Exit → Act → World → Prop} {v : AV} {x : Value} (hI : Inv w0 g0 h0 st.h g w) (hx : (execOp a.eval o).run P w = .ok (.value x) w) (hk : K v st.h) (hr : Rep g w (used st.h) v x)
  (hn : Goes w0 g0 h0 st.h g w K fun x w' => next (a.put o.dst x) w') : o.wp P a w next Q := by
 unfold Oper.wp
 rw [hx]
 exact hn _ _ _ _ _ hk hI (.refl _ _ _) hr

theorem call_free (hI : Inv w0 g0 h0 st.h g w) {f : Nat} {args : List AV} {Q : AV → (Nat → HO) → Prop} (hc : ACall P f args hfree Q) {vals : Array Value} (hs : vals.size = args.length)
  (hv : ∀ (i : Nat) (av : AV) (x : Value), args[i]? = some av → vals[i]? = some x → Rep g w NoU av x) {R : Ending → World → Prop}
  (hR : ∀ v r h' g' w', Q r h' → h' = hfree → Inv w0 g0 h0 st.h g' w' → Le st.h g w st.h g' w' → Rep g' w' NoU r v → R (.returned v) w') (hQ : ∀ r h', Q r h' → h' = hfree) : Calls P f vals w R := by
 obtain ⟨_, hc⟩ := hc
 have hU : used hfree = NoU := by funext i; unfold used NoU hfree; simp
 have hI0 : Inv w g hfree hfree g w := ⟨rfl, rfl, rfl, Nat.le_refl _, fun _ _ _ => rfl, hI.slt, fun _ => trivial, fun _ _ _ h => h.elim, fun _ _ h => h.elim, fun _ _ h => .inl h, hI.glob⟩
 refine (hc g w vals hs (fun i av x h1 h2 => by rw [hU]; exact hv i av x h1 h2) hI0).mono ?_
 rintro e w' ⟨v, r, h', g', rfl, q1, q2, q3, q4⟩
 obtain rfl := hQ r h' q1
 rw [hU] at q2
 -- the caller's ghost, with the callee's stable cells
 have hk : Keeps g w ⟨g.ρ, g.ln, g.tk, g.own, g'.S⟩ w' := q4.keeps
 have hg : GhLe g ⟨g.ρ, g.ln, g.tk, g.own, g'.S⟩ (used st.h) := fun _ _ => ⟨rfl, Nat.le_refl _, fun _ => rfl, fun _ => rfl⟩
 have hfr : ∀ b, b < w.heap.size → w'.heap[b]? = w.heap[b]? := fun b hb => q3.frame b hb (fun _ h => h.elim)
 have hSs : ∀ b o, g'.S b o → b < w.heap.size → g.S b o := fun b o hs hb => by
  rcases q3.sg b o hs with h1 | h1 | ⟨_, h1, _⟩
  ·exact h1
  ·omega
  ·exact h1.elim
 refine hR v r hfree ⟨g.ρ, g.ln, g.tk, g.own, g'.S⟩ w' q1 rfl ⟨q3.os.trans hI.os, q3.tape.trans hI.tape, q3.output.trans hI.output, Nat.le_trans hI.size q3.size, fun b hb hn => ?_, q3.slt, fun i => ?_, hI.inj, fun i b hl ho => ?_, fun b o hs => ?_, hI.glob.keep hk⟩ ⟨hg, fun _ h => h, hk⟩ ?_
 ·exact (hfr b (Nat.lt_of_lt_of_le hb hI.size)).trans (hI.frame b hb hn)
 ·refine (hI.objs i).same hk (fun _ h => h) hg rfl rfl rfl rfl (fun b hl ho => ?_)
  have hlt := (hI.loc i b hl ho).1
  exact ⟨hfr b hlt, fun k hs => hSs b k hs hlt⟩
 ·obtain ⟨h1, h2⟩ := hI.loc i b hl ho
  exact ⟨Nat.lt_of_lt_of_le h1 q3.size, h2⟩
 ·rcases q3.sg b o hs with h1 | h1 | ⟨_, h1, _⟩
  ·exact hI.sg b o h1
  ·exact .inr (.inl (Nat.le_trans hI.size h1))
  ·exact h1.elim
 ·have : Keeps g' w' ⟨g.ρ, g.ln, g.tk, g.own, g'.S⟩ w' := fun b o h => ⟨h, rfl, fun _ _ h => h⟩
  exact q2.mono this (fun _ h => h) (fun _ h => h.elim)

theorem run_callFunc {f : Nat} {args : Array Value} (h : Enters P f) (w : World) : (callFunc f args).run P w = .ok (.enter f args) w := by
 obtain ⟨fn, h1, h2, h3⟩ := h
 simp only [callFunc, Sem.run_bind, run_program, h1, Result.andThen_ok, h2, h3, Bool.false_eq_true, if_false, Sem.run_pure]

theorem ren_none {h : Nat → HO} {a : AV} (ha : noTup a = true) : ren (rfwd []) h a = str h a := by
 have h0 : ∀ a, ren0 (rfwd []) h a = str0 h a := fun a => by
  cases a with
  | slice tk es => cases tk <;> rfl
  | _ => rfl
 cases a with
 | tup cs => cases ha
 | agg cs => show AV.agg _ = AV.agg _; exact congrArg _ (List.map_congr_left fun c _ => h0 c)
 | clo f cs => show AV.clo f _ = AV.clo f _; exact congrArg _ (List.map_congr_left fun c _ => h0 c)
 | v x => exact h0 (.v x)
 | slice tk es => exact h0 (.slice tk es)
 | msl r n => exact h0 (.msl r n)
 | cptr cs => exact h0 (.cptr cs)
 | ref r o => exact h0 (.ref r o)
 | eref r n sz i o => exact h0 (.eref r n sz i o)
 | mref r => exact h0 (.mref r)
 | cmap sh l => exact h0 (.cmap sh l)
 | junk => rfl
theorem ren_nones {h : Nat → HO} : ∀ {l : List AV}, noTups l = true → l.map (ren (rfwd []) h) = l.map (str h)
 | [], _ => rfl
 | a :: l, e => by
  unfold noTups at e
  split at e
  ·rename_i e1; rw [List.map_cons, List.map_cons, ren_none e1, ren_nones e]
  ·cases e
theorem valsL_map : ∀ {l : List AV} {vs : List Value}, valsL l = some vs → l = vs.map .v
 | [], vs, h => by cases h; rfl
 | .v x :: r, vs, h => by
  unfold valsL at h
  split at h
  ·rename_i l e; cases h; rw [List.map_cons, ← valsL_map e]
  ·cases h
theorem callD_gen {cx : Cx} {d : Option Nat} {st : St} {F : AV} {args : List AV} {K : HK} (hk : callK cx true d st F args K) : callK cx false d st F args K := by
 unfold callK at hk
 simp only at hk
 split at hk
 ·exact ⟨.pure, hk⟩
 ·split at hk
  ·exact hk.elim
  ·rename_i d _
   obtain ⟨n, sz, es, h1, h2, h3⟩ := hk
   simp only [Bool.and_eq_true] at h1
   refine ⟨.gen [] 1, ?_⟩
   show (renOk [] && newFree st.h d 1 && newApart [] d 1) = true ∧ _
   refine ⟨by simp [renOk, newApart, h1.1.1], ?_⟩
   rw [ren_none h1.1.2, ren_nones h1.2]
   show ACallV cx.P _ _ hfree _
   have mono : ∀ {fn : Nat} {l : List AV}, ACall cx.P fn l hfree (fun r h' => r = .msl 2000 n ∧ h' = heapOf [(2000, .arr sz es)] hfree) → ACall cx.P fn l hfree fun r h' => K (ren (backId [] d 1) h' r) (backH [] d 1 st.h h') := fun hc =>
    ⟨hc.1, fun g w vals q1 q2 q3 => (hc.2 g w vals q1 q2 q3).mono fun _ _ ⟨v, r, h', g', e1, ⟨e2, e3⟩, rest⟩ => ⟨v, r, h', g', e1, by
     subst e2; subst e3
     have e1 : ren (backId [] d 1) (heapOf [(2000, .arr sz es)] hfree) (.msl 2000 n) = .msl (newId d 0) n := rfl
     have e2 : backH [] d 1 st.h (heapOf [(2000, .arr sz es)] hfree) = hput st.h (newId d 0) (.arr sz es) := by
      funext i
      by_cases e : i = newId d 0
      ·subst e
       rw [hput_same]
       have hb : (Nat.ble (newId d 0) (newId d 0) && Nat.blt (newId d 0) (newId d 1)) = true := by
        unfold newId; simp only [Bool.and_eq_true, Nat.ble_eq, Nat.blt_eq]; omega
       simp only [backH, rfwd, hb, Nat.sub_self]; rfl
      ·rw [hput_ne _ _ _ _ e]
       have : (Nat.ble (newId d 0) i && Nat.blt i (newId d 1)) = false := by
        unfold newId at e ⊢
        rw [Bool.eq_false_iff]
        simp only [ne_eq, Bool.and_eq_true, Nat.ble_eq, Nat.blt_eq]
        omega
       simp only [backH, rfwd, this]
     rw [e1, e2]; exact h3, rest⟩⟩
   unfold ACallV at h2 ⊢
   split at h2
   ·rename_i e; exact mono h2
   ·rename_i e; exact mono h2
   ·exact h2.elim
 ·split at hk
  ·unfold tokenK at hk
   split at hk
   ·exact hk.elim
   ·rename_i d _
    obtain ⟨sz, es, h1, h2, h3⟩ := hk
    simp only [Bool.and_eq_true] at h1
    refine ⟨.gen [] 1, ?_⟩
    show (renOk [] && newFree st.h d 1 && newApart [] d 1) = true ∧ _
    refine ⟨by simp [renOk, newApart, h1.1.1], ?_⟩
    rw [ren_none h1.1.2, ren_nones h1.2]
    show ACallV cx.P _ _ hfree _
    have mono : ∀ {fn : Nat} {l : List AV}, ACall cx.P fn l hfree (fun r h' => r = .slice (.id 2000 sz) es ∧ h' = heapOf [(2000, .tok sz es.length)] hfree) → ACall cx.P fn l hfree fun r h' => K (ren (backId [] d 1) h' r) (backH [] d 1 st.h h') := fun hc =>
     ⟨hc.1, fun g w vals q1 q2 q3 => (hc.2 g w vals q1 q2 q3).mono fun _ _ ⟨v, r, h', g', e1, ⟨e2, e3⟩, rest⟩ => ⟨v, r, h', g', e1, by
      subst e2; subst e3
      have e1 : ren (backId [] d 1) (heapOf [(2000, .tok sz es.length)] hfree) (.slice (.id 2000 sz) es) = .slice (.id (newId d 0) sz) es := rfl
      have e2 : backH [] d 1 st.h (heapOf [(2000, .tok sz es.length)] hfree) = hput st.h (newId d 0) (.tok sz es.length) := by
       funext i
       by_cases e : i = newId d 0
       ·subst e
        rw [hput_same]
        have hb : (Nat.ble (newId d 0) (newId d 0) && Nat.blt (newId d 0) (newId d 1)) = true := by
         unfold newId; simp only [Bool.and_eq_true, Nat.ble_eq, Nat.blt_eq]; omega
        simp only [backH, rfwd, hb, Nat.sub_self]; rfl
       ·rw [hput_ne _ _ _ _ e]
        have : (Nat.ble (newId d 0) i && Nat.blt i (newId d 1)) = false := by
         unfold newId at e ⊢
         rw [Bool.eq_false_iff]
         simp only [ne_eq, Bool.and_eq_true, Nat.ble_eq, Nat.blt_eq]
         omega
        simp only [backH, rfwd, this]
      rw [e1, e2]; exact h3, rest⟩⟩
    unfold ACallV at h2 ⊢
    split at h2
    ·rename_i e; exact mono h2
    ·rename_i e; exact mono h2
    ·exact h2.elim
  unfold turnK at hk
  split at hk
  ·rename_i dd f r n l _
   split at hk
   ·rename_i vs hvs
    have hl := valsL_map hvs
    subst hl
    split at hk
    ·rename_i sz es hr
     have hf : rfwd [(r, 1000)] r = some 1000 := by simp [rfwd]
     have e1 : ren (rfwd [(r, 1000)]) st.h (.v (.func (.func f) ⟨[]⟩ ⟨[]⟩)) = .v (.func (.func f) ⟨[]⟩ ⟨[]⟩) := rfl
     have e2 : (AV.msl r n :: vs.map AV.v).map (ren (rfwd [(r, 1000)]) st.h) = .msl 1000 n :: vs.map .v := by
      rw [List.map_cons]
      congr 1
      ·simp [ren, ren1, ren0, hf]
      ·rw [List.map_map]; rfl
     have e3 : renH [(r, 1000)] st.h = heapOf [(1000, .arr sz es)] hfree := by
      unfold renH renL
      rw [hr]; rfl
     split at hk
     ·obtain ⟨n', es', h1, h2⟩ := hk
      refine ⟨.gen [(r, 1000)] 0, ?_⟩
      show (renOk [(r, 1000)] && newFree st.h dd 0 && newApart [(r, 1000)] dd 0) = true ∧ _
      refine ⟨?_, ?_⟩
      ·have : newApart [(r, 1000)] dd 0 = true := by
        unfold newApart
        have : (Nat.ble (newId dd 0) r && Nat.blt r (newId dd 0)) = false := by
         rw [Bool.eq_false_iff]; simp only [ne_eq, Bool.and_eq_true, Nat.ble_eq, Nat.blt_eq]; omega
        rw [this]; rfl
       rw [this]; rfl
      rw [e1, e2, e3]
      refine ⟨h1.1, fun g w vals q1 q2 q3 => (h1.2 g w vals q1 q2 q3).mono fun _ _ ⟨v, r', h', g', e1, ⟨e2, e3⟩, rest⟩ => ⟨v, r', h', g', e1, ?_, rest⟩⟩
      subst e2; subst e3
      have f1 : ren (backId [(r, 1000)] dd 0) (heapOf [(1000, .arr sz es')] hfree) (.msl 1000 n') = .msl r n' := rfl
      have f2 : backH [(r, 1000)] dd 0 st.h (heapOf [(1000, .arr sz es')] hfree) = hput st.h r (.arr sz es') := by
       funext i
       by_cases e : i = r
       ·subst e
        rw [hput_same]
        simp [backH, hf, heapOf, HO.ren]
       ·rw [hput_ne _ _ _ _ e]
        have hn : rfwd [(r, 1000)] i = none := by simp [rfwd, beq_ne (Ne.symm e)]
        have : (Nat.ble (newId dd 0) i && Nat.blt i (newId dd 0)) = false := by
         rw [Bool.eq_false_iff]; simp only [ne_eq, Bool.and_eq_true, Nat.ble_eq, Nat.blt_eq]; omega
        simp only [backH, hn, this]
      rw [f1, f2]; exact h2
     ·obtain ⟨n', es', h0, h1, h2⟩ := hk
      simp only [Bool.and_eq_true, Nat.blt_eq, Bool.not_eq_true'] at h0
      have hrd : r ≠ newId dd 0 := fun e => by have := h0.2; rw [e] at this; simp at this
      refine ⟨.gen [(r, 1000)] 1, ?_⟩
      show (renOk [(r, 1000)] && newFree st.h dd 1 && newApart [(r, 1000)] dd 1) = true ∧ _
      refine ⟨?_, ?_⟩
      ·have : newApart [(r, 1000)] dd 1 = true := by
        unfold newApart
        have : (Nat.ble (newId dd 0) r && Nat.blt r (newId dd 1)) = false := by
         rw [Bool.eq_false_iff]; simp only [ne_eq, Bool.and_eq_true, Nat.ble_eq, Nat.blt_eq]; unfold newId at hrd ⊢; omega
        rw [this]; rfl
       rw [this, h0.1.1]; rfl
      rw [e1, e2, e3]
      refine ⟨h1.1, fun g w vals q1 q2 q3 => (h1.2 g w vals q1 q2 q3).mono fun _ _ ⟨v, r', h', g', e1, ⟨e2, e3⟩, rest⟩ => ⟨v, r', h', g', e1, ?_, rest⟩⟩
      subst e2; subst e3
      have f1 : ren (backId [(r, 1000)] dd 1) (heapOf [(1000, .dead), (2000, .arr sz es')] hfree) (.msl 2000 n') = .msl (newId dd 0) n' := rfl
      have f2 : backH [(r, 1000)] dd 1 st.h (heapOf [(1000, .dead), (2000, .arr sz es')] hfree) = hput (hput st.h r .dead) (newId dd 0) (.arr sz es') := by
       funext i
       by_cases e : i = newId dd 0
       ·subst e
        rw [hput_same]
        have hn : rfwd [(r, 1000)] (newId dd 0) = none := by simp [rfwd, beq_ne hrd]
        have hb : (Nat.ble (newId dd 0) (newId dd 0) && Nat.blt (newId dd 0) (newId dd 1)) = true := by
         unfold newId; simp only [Bool.and_eq_true, Nat.ble_eq, Nat.blt_eq]; omega
        simp only [backH, hn, hb, Nat.sub_self]; rfl
       ·rw [hput_ne _ _ _ _ e]
        by_cases e4 : i = r
        ·subst e4
         rw [hput_same]
         simp [backH, hf, heapOf, HO.ren]
        ·rw [hput_ne _ _ _ _ e4]
         have hn : rfwd [(r, 1000)] i = none := by simp [rfwd, beq_ne (Ne.symm e4)]
         have : (Nat.ble (newId dd 0) i && Nat.blt i (newId dd 1)) = false := by
          rw [Bool.eq_false_iff]; simp only [ne_eq, Bool.and_eq_true, Nat.ble_eq, Nat.blt_eq]; unfold newId at e ⊢; omega
         simp only [backH, hn, this]
      rw [f1, f2]; exact h2
    ·exact hk.elim
   ·exact hk.elim
  ·exact hk.elim
theorem callK_ok {cx : Cx} {dr : Bool} {d : Option Nat} {f : Operand} {args : Array Operand} {tys : Array TypeId} {dst : Option Nat} {ty : Nat} {pos : String} {after : Array Edge} {gd : Option (Nat × Bool)} {K : HK} {next : Act → World → Prop} {Q : Exit → Act → World → Prop}
  (hP : cx.P = P) (hS : SR N w0 g0 h0 st g a w) (hk : callK cx dr d st (ev st.t f) (args.toList.map (ev st.t)) K)
  (hn : Goes w0 g0 h0 st.h g w K fun x w' => next (a.put dst x) w') : Oper.wp P ⟨dst, .call ⟨.value f, args, tys⟩, ty, pos, after, gd⟩ a w next Q := by
 subst hP
 have hk : callK cx false d st (ev st.t f) (args.toList.map (ev st.t)) K := by
  cases dr with
  | true => exact callD_gen hk
  | false => exact hk
 have hargs : ∀ (i : Nat) (av : AV) (x : Value), ((args.toList.map (ev st.t)).map (str st.h))[i]? = some av → (args.map a.eval)[i]? = some x → Rep g w NoU av x := by
  intro i av x h1 h2
  rw [List.getElem?_map, List.getElem?_map] at h1
  rw [Array.getElem?_map] at h2
  cases ho : args[i]? with
  | none => rw [ho] at h2; simp at h2
  | some y =>
   rw [ho] at h2
   have hy : args.toList[i]? = some y := by simpa using ho
   rw [hy] at h1
   simp only [Option.map_some, Option.some.injEq] at h1 h2
   subst h1; subst h2
   exact Rep.str hS.inv.objs (hS.eval y)
 have hlen : (args.map a.eval).size = ((args.toList.map (ev st.t)).map (str st.h)).length := by simp
 have hF := Rep.str hS.inv.objs (hS.eval f)
 -- the call itself
 have go : ∀ (Q' : AV → (Nat → HO) → Prop), (∀ r h', Q' r h' → h' = hfree ∧ K r st.h) → ACallV cx.P (str st.h (ev st.t f)) ((args.toList.map (ev st.t)).map (str st.h)) hfree Q' →
   Oper.wp cx.P ⟨dst, .call ⟨.value f, args, tys⟩, ty, pos, after, gd⟩ a w next Q := by
  intro Q' hQ hc
  have fin : ∀ {fn : Nat} {l : List AV} {vals : Array Value}, ACall cx.P fn l hfree Q' → vals.size = l.length → (∀ (i : Nat) (av : AV) (x : Value), l[i]? = some av → vals[i]? = some x → Rep g w NoU av x) →
    (execOp a.eval ⟨dst, .call ⟨.value f, args, tys⟩, ty, pos, after, gd⟩).run cx.P w = .ok (.enter fn vals) w → Oper.wp cx.P ⟨dst, .call ⟨.value f, args, tys⟩, ty, pos, after, gd⟩ a w next Q := by
   intro fn l vals hc hs hv hrun
   unfold Oper.wp
   rw [hrun]
   exact call_free hS.inv hc hs hv (fun v r h' g' w' hq _ hI hle hr => hn r _ g' w' v (hQ r h' hq).2 hI hle (hr.up _)) (fun r h' hq => (hQ r h' hq).1)
  unfold ACallV at hc
  split at hc
  ·rename_i fn e
   rw [e] at hF
   have hx := hF.v_eq
   refine fin hc hlen hargs ?_
   have hx' : a.eval f = .func (.func fn) #[] #[] := hx
   simp only [execOp, resolve, hx', Deferred.ofValue, Sem.run_bind, Sem.run_pure, Result.andThen_ok, invoke]
   rw [run_callFunc hc.1]
   simp
  ·rename_i fn caps e
   rw [e] at hF
   generalize hx : a.eval f = fv at hF
   cases hF with
   | clo _ _ _ vs hsz hcap =>
    refine fin hc (vals := args.map a.eval ++ vs) (by simp [hsz]) (fun i av x h1 h2 => ?_) ?_
    ·rw [List.getElem?_append] at h1
     rw [Array.getElem?_append] at h2
     have hl : ((args.toList.map (ev st.t)).map (str st.h)).length = (args.map a.eval).size := hlen.symm
     rw [hl] at h1
     split at h1
     ·rename_i hi
      rw [if_pos hi] at h2
      exact hargs i av x h1 h2
     ·rename_i hi
      rw [if_neg hi] at h2
      exact hcap _ av x h1 h2
    ·simp only [execOp, resolve, hx, Deferred.ofValue, Sem.run_bind, Sem.run_pure, Result.andThen_ok, invoke]
     rw [run_callFunc hc.1]
     simp
  ·exact hc.elim
 have pure : (∃ res, PCallV cx.P (str st.h (ev st.t f)) ((args.toList.map (ev st.t)).map (str st.h)) res ∧ K res st.h) → Oper.wp cx.P ⟨dst, .call ⟨.value f, args, tys⟩, ty, pos, after, gd⟩ a w next Q := by
  rintro ⟨res, h1, h2⟩
  refine go (fun r h' => r = res ∧ h' = hfree) (fun r h' hq => ⟨hq.2, by rw [hq.1]; exact h2⟩) ?_
  unfold PCallV at h1
  unfold ACallV
  split at h1
  ·exact h1
  ·exact h1
  ·exact h1.elim
 unfold callK at hk
 ·obtain ⟨m, hm⟩ := hk
  cases m with
  | pure => exact pure hm
  | rel => exact go _ (fun r h' hq => hq) hm
  | gen σ nn =>
   simp only at hm
   cases d with
   | none => exact hm.elim
   | some d =>
    simp only at hm
    obtain ⟨hok, hc⟩ := hm
    have hσ : renOk σ = true := by simp only [Bool.and_eq_true] at hok; exact hok.1.1
    obtain ⟨hR, _⟩ := fwd_ok hS.inv hσ
    have hF2 := (hS.eval f).ren hR
    have hargs2 : ∀ (i : Nat) (av : AV) (x : Value), ((args.toList.map (ev st.t)).map (ren (rfwd σ) st.h))[i]? = some av → (args.map a.eval)[i]? = some x → Rep (ghFwd σ g) w (used (renH σ st.h)) av x := by
     intro i av x h1 h2
     rw [List.getElem?_map, List.getElem?_map] at h1
     rw [Array.getElem?_map] at h2
     cases ho : args[i]? with
     | none => rw [ho] at h2; simp at h2
     | some y =>
      rw [ho] at h2
      have hy : args.toList[i]? = some y := by simpa using ho
      rw [hy] at h1
      simp only [Option.map_some, Option.some.injEq] at h1 h2
      subst h1; subst h2
      exact (hS.eval y).ren hR
    have hlen2 : (args.map a.eval).size = ((args.toList.map (ev st.t)).map (ren (rfwd σ) st.h)).length := by simp
    have fin : ∀ {fn : Nat} {l : List AV} {vals : Array Value}, ACall cx.P fn l (renH σ st.h) (fun r h' => K (ren (backId σ d nn) h' r) (backH σ d nn st.h h')) → vals.size = l.length →
      (∀ (i : Nat) (av : AV) (x : Value), l[i]? = some av → vals[i]? = some x → Rep (ghFwd σ g) w (used (renH σ st.h)) av x) →
      (execOp a.eval ⟨dst, .call ⟨.value f, args, tys⟩, ty, pos, after, gd⟩).run cx.P w = .ok (.enter fn vals) w → Oper.wp cx.P ⟨dst, .call ⟨.value f, args, tys⟩, ty, pos, after, gd⟩ a w next Q := by
     intro fn l vals hc hs hv hrun
     unfold Oper.wp
     rw [hrun]
     exact call_gen hS.inv hok hc hs hv (fun v r h' g' w' hq hI hle hr => hn _ _ g' w' v hq hI hle hr)
    unfold ACallV at hc
    split at hc
    ·rename_i fn e
     rw [e] at hF2
     have hx : a.eval f = .func (.func fn) #[] #[] := hF2.v_eq
     refine fin hc hlen2 hargs2 ?_
     simp only [execOp, resolve, hx, Deferred.ofValue, Sem.run_bind, Sem.run_pure, Result.andThen_ok, invoke]
     rw [run_callFunc hc.1]
     simp
    ·rename_i fn caps e
     rw [e] at hF2
     generalize hx : a.eval f = fv at hF2
     cases hF2 with
     | clo _ _ _ vs hsz hcap =>
      refine fin hc (vals := args.map a.eval ++ vs) (by simp [hsz]) (fun i av x h1 h2 => ?_) ?_
      ·rw [List.getElem?_append] at h1
       rw [Array.getElem?_append] at h2
       have hl : ((args.toList.map (ev st.t)).map (ren (rfwd σ) st.h)).length = (args.map a.eval).size := hlen2.symm
       rw [hl] at h1
       split at h1
       ·rename_i hi
        rw [if_pos hi] at h2
        exact hargs2 i av x h1 h2
       ·rename_i hi
        rw [if_neg hi] at h2
        exact hcap _ av x h1 h2
      ·simp only [execOp, resolve, hx, Deferred.ofValue, Sem.run_bind, Sem.run_pure, Result.andThen_ok, invoke]
       rw [run_callFunc hc.1]
       simp
    ·exact hc.elim
end
end Go.Eng

namespace Go.Eng

section
variable {P : Program} {N : Nat} {w0 : World} {g0 : Gh} {h0 : Nat → HO} {st : St} {g : Gh} {a : Act} {w : World}

theorem builtinK_ok {cx : Cx} (hT : TabOk P cx.T) {b : Builtin} {args : Array Operand} {tys : Array TypeId} {dst : Option Nat} {ty : Nat} {pos : String} {after : Array Edge} {gd : Option (Nat × Bool)} {K : HK} {next : Act → World → Prop} {Q : Exit → Act → World → Prop}
  (hS : SR N w0 g0 h0 st g a w) (hk : builtinK cx dst st.h b tys.toList (args.toList.map (ev st.t)) K)
  (hn : Goes w0 g0 h0 st.h g w K fun x w' => next (a.put dst x) w') : Oper.wp P ⟨dst, .call ⟨.builtin b, args, tys⟩, ty, pos, after, gd⟩ a w next Q := by
 have hI := hS.inv
 have hE := hS.eval
 obtain ⟨l⟩ := args
 obtain ⟨tl⟩ := tys
 unfold builtinK at hk
 split at hk
 ·rename_i x t e1 e2
  match l, e1 with
  | [y], e1 =>
   simp only [List.map_cons, List.map_nil, List.cons.injEq, and_true] at e1
   subst e1
   simp only at e2
   subst e2
   exact wp_val (m := Builtin.len_ #[t] ty #[a.eval y]) (by simp [execOp, resolve, invoke, builtin]) (Gives.does hI (lenHK_ok hT hI.objs (hE y) hk)) hn
 ·rename_i s x t t' e1 e2
  match l, e1 with
  | [y, z], e1 =>
   simp only [List.map_cons, List.map_nil, List.cons.injEq, and_true] at e1
   obtain ⟨rfl, rfl⟩ := e1
   simp only at e2
   subst e2
   split at hk
   ·rename_i ht
    obtain rfl := Nat.eq_of_beq_eq_true ht
    exact wp_val (m := Builtin.append_ #[t, t] ty #[a.eval y, a.eval z]) (by simp [execOp, resolve, invoke, builtin]) (appendK_ok hI hT (hE y) (hE z) hk) hn
   ·exact hk.elim
 ·rename_i x y tys e1
  match l, e1 with
  | [y, z], e1 =>
   simp only [List.map_cons, List.map_nil, List.cons.injEq, and_true] at e1
   obtain ⟨rfl, rfl⟩ := e1
   exact wp_val (m := Builtin.max_ ⟨tl⟩ ty #[a.eval y, a.eval z]) (by simp [execOp, resolve, invoke, builtin]) (Gives.does hI (maxK_ok (hE y) (hE z) hk)) hn
 ·rename_i x y tys e1
  match l, e1 with
  | [y, z], e1 =>
   simp only [List.map_cons, List.map_nil, List.cons.injEq, and_true] at e1
   obtain ⟨rfl, rfl⟩ := e1
   exact wp_val (m := Builtin.min_ ⟨tl⟩ ty #[a.eval y, a.eval z]) (by simp [execOp, resolve, invoke, builtin]) (Gives.does hI (minK_ok (hE y) (hE z) hk)) hn
 ·exact hk.elim

theorem aop_ok {cx : Cx} (hP : cx.P = P) (hT : TabOk P cx.T) {dr : Bool} {o : Oper} {K : HK} {next : Act → World → Prop} {Q : Exit → Act → World → Prop} (hS : SR N w0 g0 h0 st g a w) (hk : aop cx dr o st K)
  (hn : Goes w0 g0 h0 st.h g w K fun x w' => next (a.put o.dst x) w') : o.wp P a w next Q := by
 have hI := hS.inv
 have hE := hS.eval
 obtain ⟨dst, op, ty, pos, after, gd⟩ := o
 unfold aop at hk
 cases op with
 | move x => exact wp_same hI (x := a.eval x) rfl hk (hE x) hn
 | assign x =>
  obtain ⟨g', av, h', q1, q2, q3, q4⟩ := assignK_ok hI (hE x) hk
  exact hn _ _ _ _ _ q1 q2 q3 q4
 | pick c x y => exact wp_val (m := do pure (if ← asBool (a.eval c) then a.eval x else a.eval y)) (by simp [execOp]) (Gives.does hI (pickK_ok (hE c) (hE x) (hE y) hk)) hn
 | alloc e => exact wp_val rfl (allocK_ok hI hT hk) hn
 | box e x => exact wp_val rfl (boxK_ok hI (hE x) hk) hn
 | build t ps => exact wp_val rfl (Gives.does hI (buildK_ok hT hE hk)) hn
 | buildSlice t n ps => exact wp_val rfl (buildSliceK_ok hI hT hE hk) hn
 | insert t m k x => exact wp_unit rfl (mapUpdateK_ok hI hT (hE m) (hE k) (hE x) hk) hn
 | load t x => exact wp_val rfl (Gives.does hI (loadHK_ok hI.objs hT (hE x) hk)) hn
 | store t p x => exact wp_unit rfl (storeK_ok hI hT (hE p) (hE x) hk) hn
 | nilCheck x =>
  obtain ⟨h1, h2⟩ := nilCheckK_ok (P := P) (w := w) (hE x) hk (pos := pos) (after := after) (gd := gd) (dst := dst) (ty := ty) (ρ := a.eval) rfl
  exact wp_same hI h1 h2 (hE x) hn
 | binOp op t x y u => exact wp_val rfl (Gives.does hI (binK_ok hT (hE x) (hE y) hk)) hn
 | unOp op t x => exact wp_val rfl (Gives.does hI (unopK_ok (hE x) hk)) hn
 | convert s t x => exact wp_val rfl (Gives.does hI (convK_ok hT (hE x) hk)) hn
 | makeFunc fn first cap => exact wp_val rfl (Gives.does hI (makeFuncK_ok hI.objs hE hk)) hn
 | makeMap t r =>
  cases r with
  | some r => exact hk.elim
  | none => exact wp_val rfl (makeMapK_ok hI hk) hn
 | makeSlice t n c => exact wp_val rfl (makeSliceK_ok hI hT (hE n) (hE c) hk) hn
 | slice t x lo hi mx =>
  cases dr with
  | true => exact wp_val rfl (sliceK_ok hI hT hE (hE x) hk) hn
  | false =>
   cases hp : asgO cx.pl.tok dst with
   | none =>
    have hk' : sliceK cx dst st.h t (ev st.t x) (optInt st.t lo) (optInt st.t hi) (optInt st.t mx) K := by
     have hk2 : (match asgO cx.pl.tok dst with
      | none => sliceK cx dst st.h t (ev st.t x) (optInt st.t lo) (optInt st.t hi) (optInt st.t mx) K
      | some _ => resliceK cx dst st.h t (ev st.t x) (optInt st.t lo) hi mx K) := hk
     rw [hp] at hk2; exact hk2
    exact wp_val rfl (sliceK_ok hI hT hE (hE x) hk') hn
   | some _ =>
    have hk' : resliceK cx dst st.h t (ev st.t x) (optInt st.t lo) hi mx K := by
     have hk2 : (match asgO cx.pl.tok dst with
      | none => sliceK cx dst st.h t (ev st.t x) (optInt st.t lo) (optInt st.t hi) (optInt st.t mx) K
      | some _ => resliceK cx dst st.h t (ev st.t x) (optInt st.t lo) hi mx K) := hk
     rw [hp] at hk2; exact hk2
    exact wp_val rfl (resliceK_ok hI hT hE (hE x) hk') hn
 | fieldAddr s x f => exact wp_val rfl (Gives.does hI (fieldK_ok hT (hE x) hk)) hn
 | field s x f => exact wp_val rfl (Gives.does hI (fieldVK_ok hT (hE x) hk)) hn
 | indexAddr t x i => exact wp_val rfl (Gives.does hI (indexAddrK_ok hT (hE x) (hE i) hk)) hn
 | index t x i => exact wp_val rfl (Gives.does hI (indexK_ok hT (hE x) (hE i) hk)) hn
 | lookup t x i ok =>
  have hk : lookupK cx.T st.h t (ev st.t x) (ev st.t i) ok fun v => K v st.h := by
   cases dr with
   | true => exact lookupD_K hk
   | false => exact hk
  exact wp_val rfl (Gives.does hI (lookupK_ok hT hI.objs (hE x) (hE i) hk)) hn
 | mapUpdate t m k x => exact wp_unit rfl (mapUpdateK_ok hI hT (hE m) (hE k) (hE x) hk) hn
 | range t x =>
  simp only at hk
  split at hk
  ·rename_i kt e ht
   exact wp_val rfl (rangeK_ok hI hT ht (hE x) hk) hn
  ·exact hk.elim
 | next it s =>
  cases s with
  | true => exact hk.elim
  | false => exact wp_val rfl (nextK_ok hI (hE it) hk) hn
 | entry it => exact wp_val rfl (Gives.does hI (entryK_ok hI.objs (hE it) hk)) hn
 | extract x i => exact wp_val rfl (Gives.does hI (extractK_ok (hE x) hk)) hn
 | call c =>
  obtain ⟨cal, args, tys⟩ := c
  cases cal with
  | builtin b => exact builtinK_ok hT hS hk hn
  | value f => exact callK_ok hP hS hk hn
  | invoke r m => exact hk.elim
 | _ => exact hk.elim
end
end Go.Eng
