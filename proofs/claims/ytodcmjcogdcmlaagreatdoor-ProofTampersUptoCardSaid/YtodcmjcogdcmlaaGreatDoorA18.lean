/- Lemmas for the claims of this seat, without a condition: part 18 (C5, C6, C7, C8, C9, C10, C11, C12, C13, C14, CSort2, C15, C16). -/
import Derived.Test.YtodcmjcogdcmlaaGreatDoorA17
import Derived.Test.YtodcmjcogdcmlaaGreatDoorA15
import Derived.Test.YtodcmjcogdcmlaaGreatDoorA03
import Derived.Shelf.SlSortCmp.NoneTotal
namespace Go.Eng
open Go.Proofs
theorem all_yes {α : Type} {p : α → Bool} {l : List α} {i : Nat} (h : ∀ j (hj : j < l.length), j < i → p l[j] = true) (hi : ¬ i < l.length) : l.all p = true := by
  rw [List.all_eq_true]
  intro x hx
  obtain ⟨j, hj, rfl⟩ := List.mem_iff_getElem.1 hx
  exact h j hj (by omega)
theorem all_no {α : Type} {p : α → Bool} {l : List α} {i : Nat} (hi : i < l.length) (h : p l[i] = false) : l.all p = false := by
  rw [List.all_eq_false]
  exact ⟨l[i], List.getElem_mem hi, by simp [h]⟩
theorem any_yes {α : Type} {p : α → Bool} {l : List α} {i : Nat} (hi : i < l.length) (h : p l[i] = true) : l.any p = true := by
  rw [List.any_eq_true]
  exact ⟨l[i], List.getElem_mem hi, h⟩
theorem any_no {α : Type} {p : α → Bool} {l : List α} {i : Nat} (h : ∀ j (hj : j < l.length), j < i → p l[j] = false) (hi : ¬ i < l.length) : l.any p = false := by
  rw [List.any_eq_false]
  intro x hx
  obtain ⟨j, hj, rfl⟩ := List.mem_iff_getElem.1 hx
  simp [h j hj (by omega)]
abbrev FewT (l : List Tm) : Prop := Few l ∧ ∀ t ∈ l, Few t.set
theorem c26 (l : List Tm) (s : List Sl) (hl : FewT l) (hs : Few s) : PC 26 [sl encTm l, sl encSl s] (vb (l.all fun t => holds t s)) := by
  have hc : ∀ i (h : i < l.length), PC 55 [.agg (encTm l[i]), sl encSl s] (vb (holds l[i] s)) := fun i h => c55 l[i] s hs (hl.2 _ (List.getElem_mem h))
  obtain ⟨hl, _⟩ := hl
  unfold Few at hl
  refine pcall_sub (cxp pl0) rfl tab_ok hm rfl Tryz.func26 (by kernel_rfl) rfl (Nz rfl) (by kernel_rfl) ?_
  refine Xi {i : Nat // i ≤ l.length ∧ ∀ j (hj : j < l.length), j < i → holds l[j] s = true} (Xi (fun i => ⟨[(0, sl encTm l), (1, sl encSl s), (7, vi (l.map encTm).length), (8, vi i.1)], [], hfree⟩) (Xi (fun i => l.length - i.1) (Yi (Xi ⟨0, by simp⟩ ?_) ?_)))
  · exact ⟨⟨Zr, Zr, Zr, Zr, trivial⟩, trivial, fun _ => .inl rfl, trivial⟩
  · intro ⟨i, h1, h2⟩
    refine Yi ?_ ?_
    · intro h
      have h : (i : Int) < (l.map encTm).length := h
      have h : i < l.length := by simpa using h
      have hg : l[i]? = some l[i] := List.getElem?_eq_getElem h
      have hci := hc i h
      refine Xi (encTm l[i]) (Yi (Yi (by show (0 : Int) ≤ i; omega) (by simp [hg])) (Yi rfl (Yi (Nz rfl) ?_)))
      cases hp : holds l[i] s with
      | false =>
        rw [hp] at hci
        refine Xi .pure (Xi _ (Yi hci ?_))
        rw [all_no (p := fun t => holds t s) h hp]
        exact .refl _
      | true =>
        rw [hp] at hci
        refine Xi .pure (Xi _ (Yi hci ?_))
        refine Yi (by show InI64 ((i : Int) + 1); unfold InI64; omega) ?_
        refine Xi ⟨i + 1, by omega, fun j hj hji => ?_⟩ ?_
        · by_cases e : j = i
          · subst e; exact hp
          · exact h2 j hj (by omega)
        · exact ⟨by show l.length - (i + 1) < l.length - i; omega, ⟨Zr, Zr, Zr, Zr, trivial⟩, trivial, fun _ => .inl rfl, trivial⟩
    · intro h
      have h : ¬ (i : Int) < (l.map encTm).length := h
      have h : ¬ i < l.length := by simpa using h
      rw [all_yes (p := fun t => holds t s) h2 h]
      exact .refl _
theorem c131 (x : Sl) (t : Tm) : PC 131 [.agg (encSl x), .cptr (encTm t)] (vb (decide (x.path = t.path))) := by
  refine pcall_sub (cxp pl0) rfl tab_ok hm rfl Tryz.func131 (by kernel_rfl) rfl (Nz rfl) (by kernel_rfl) ?_
  refine Yi ?_ ?_
  · intro h
    have h : x.path = t.path := h
    rw [decide_eq_true h]
    exact .refl _
  · intro h
    have h : ¬ x.path = t.path := h
    rw [decide_eq_false h]
    exact .refl _
theorem c130 (t : Tm) (s : List Sl) (hs : Few s) : PC 130 [.agg (encTm t), .cptr [sl encSl s]] (vb (!hasPath s t.path)) := by
  have hc := c51 (Stable.ptr (encTm t)) s (fun x => decide (x.path = t.path)) (fun x _ => c131 x t) hs
  unfold hasPath
  cases hp : s.any fun x => decide (x.path = t.path) with
  | true =>
    rw [hp] at hc
    refine pcall_sub (cxp (plz [2])) rfl tab_ok hm rfl Tryz.func130 (by kernel_rfl) rfl (Nz rfl) (by kernel_rfl) ?_
    exact Xi .pure (Xi _ (Yi hc (.refl _)))
  | false =>
    rw [hp] at hc
    refine pcall_sub (cxp (plz [2])) rfl tab_ok hm rfl Tryz.func130 (by kernel_rfl) rfl (Nz rfl) (by kernel_rfl) ?_
    exact Xi .pure (Xi _ (Yi hc (.refl _)))
theorem c91 (l : List Tm) (s : List Sl) (hl : FewT l) (hs : Few s) : PC 91 [sl encTm l, sl encSl s] (vb (entailed l s)) := by
  have hv := c26 l s hl hs
  have hc := c129 (Stable.ptr [sl encSl s]) l (fun t => !hasPath s t.path) (fun t _ => c130 t s hs) hl.1
  unfold entailed violated
  cases h1 : l.all fun t => holds t s with
  | false =>
    rw [h1] at hv
    refine pcall_sub (cxp (plz [3])) rfl tab_ok hm rfl Tryz.func91 (by kernel_rfl) rfl (Nz rfl) (by kernel_rfl) ?_
    exact Xi .pure (Xi _ (Yi hv (.refl _)))
  | true =>
    rw [h1] at hv
    cases h2 : l.any fun t => !hasPath s t.path with
    | true =>
      rw [h2] at hc
      refine pcall_sub (cxp (plz [3])) rfl tab_ok hm rfl Tryz.func91 (by kernel_rfl) rfl (Nz rfl) (by kernel_rfl) ?_
      exact Xi .pure (Xi _ (Yi hv (Xi .pure (Xi _ (Yi hc (.refl _))))))
    | false =>
      rw [h2] at hc
      refine pcall_sub (cxp (plz [3])) rfl tab_ok hm rfl Tryz.func91 (by kernel_rfl) rfl (Nz rfl) (by kernel_rfl) ?_
      exact Xi .pure (Xi _ (Yi hv (Xi .pure (Xi _ (Yi hc (.refl _))))))
end Go.Eng

namespace Go.Eng
open Go.Proofs
def inR (p : Int) (s : Int × Int) : Bool := decide (max 0 s.1 ≤ p) && decide (p < min 1000000 s.2)
theorem inR_has (s : List (Int × Int)) (p : Int) : s.any (inR p) = has s p := by
  unfold has
  by_cases h : 0 ≤ p ∧ p < 1000000
  · rw [decide_eq_true h.1, decide_eq_true h.2]
    simp only [Bool.true_and]
    congr 1
    funext x
    unfold inR inSpan
    congr 1
    · exact decide_eq_decide.2 (by omega)
    · exact decide_eq_decide.2 (by omega)
  · have e : (decide (0 ≤ p) && decide (p < 1000000)) = false := by
      rcases Decidable.not_and_iff_or_not.1 h with h | h <;> simp [h]
    rw [e, Bool.false_and]
    rw [List.any_eq_false]
    intro x _
    unfold inR
    simp only [Bool.and_eq_true, not_and]
    intro h1 h2
    have h1 := of_decide_eq_true h1
    have h2 := of_decide_eq_true h2
    exact h ⟨by omega, by omega⟩
theorem c132 (s : List (Int × Int)) (p : Int) (hl : Few s) : PC 132 [sl encSpan s, vi p] (vb (has s p)) := by
  rw [← inR_has]
  unfold Few at hl
  refine pcall_sub (cxp pl0) rfl tab_ok hm rfl Tryz.func132 (by kernel_rfl) rfl (Nz rfl) (by kernel_rfl) ?_
  refine Xi {i : Nat // i ≤ s.length ∧ ∀ j (hj : j < s.length), j < i → inR p s[j] = false} (Xi (fun i => ⟨[(0, sl encSpan s), (1, vi p), (5, vi i.1)], [], hfree⟩) (Xi (fun i => s.length - i.1) (Yi (Xi ⟨0, by simp⟩ ?_) ?_)))
  · exact ⟨⟨Zr, Zr, Zr, trivial⟩, trivial, fun _ => .inl rfl, trivial⟩
  · intro ⟨i, h1, h2⟩
    refine Yi ?_ ?_
    · intro h
      have h : (i : Int) < (s.map encSpan).length := h
      have h : i < s.length := by simpa using h
      have hg : s[i]? = some s[i] := List.getElem?_eq_getElem h
      refine Xi (encSpan s[i]) (Yi (Yi (by show (0 : Int) ≤ i; omega) (by simp [hg])) (Yi rfl ?_))
      refine Yi ?_ ?_
      · intro h3
        have h3 : max 0 s[i].1 ≤ p := h3
        refine Xi (encSpan s[i]) (Yi (Yi (by show (0 : Int) ≤ i; omega) (by simp [hg])) (Yi rfl ?_))
        refine Yi ?_ ?_
        · intro h4
          have h4 : p < min 1000000 s[i].2 := h4
          have h5 : inR p s[i] = true := by unfold inR; rw [decide_eq_true h3, decide_eq_true h4]; rfl
          show Sub (vb true) (vb (s.any (inR p)))
          rw [any_yes (p := inR p) h h5]
          exact .refl _
        · intro h4
          have h4 : ¬ p < min 1000000 s[i].2 := h4
          refine Yi (by show InI64 ((i : Int) + 1); unfold InI64; omega) ?_
          refine Xi ⟨i + 1, by omega, fun j hj hji => ?_⟩ ?_
          · by_cases e : j = i
            · subst e; unfold inR; rw [decide_eq_false h4, Bool.and_false]
            · exact h2 j hj (by omega)
          · exact ⟨by show s.length - (i + 1) < s.length - i; omega, ⟨Zr, Zr, Zr, trivial⟩, trivial, fun _ => .inl rfl, trivial⟩
      · intro h3
        have h3 : ¬ max 0 s[i].1 ≤ p := h3
        refine Yi (by show InI64 ((i : Int) + 1); unfold InI64; omega) ?_
        refine Xi ⟨i + 1, by omega, fun j hj hji => ?_⟩ ?_
        · by_cases e : j = i
          · subst e; unfold inR; rw [decide_eq_false h3, Bool.false_and]
          · exact h2 j hj (by omega)
        · exact ⟨by show s.length - (i + 1) < s.length - i; omega, ⟨Zr, Zr, Zr, trivial⟩, trivial, fun _ => .inl rfl, trivial⟩
    · intro h
      have h : ¬ (i : Int) < (s.map encSpan).length := h
      have h : ¬ i < s.length := by simpa using h
      show Sub (vb false) (vb (s.any (inR p)))
      rw [any_no (p := inR p) h2 h]
      exact .refl _
theorem c135 (s : List Sl) (p : ByteArray) (hl : Few s) : PC 135 [sl encSl s, vs p] (vb (hasPath s p)) := by
  unfold Few at hl
  unfold hasPath
  refine pcall_sub (cxp pl0) rfl tab_ok hm rfl Tryz.func135 (by kernel_rfl) rfl (Nz rfl) (by kernel_rfl) ?_
  refine Xi {i : Nat // i ≤ s.length ∧ ∀ j (hj : j < s.length), j < i → decide (s[j].path = p) = false} (Xi (fun i => ⟨[(0, sl encSl s), (1, vs p), (5, vi i.1)], [], hfree⟩) (Xi (fun i => s.length - i.1) (Yi (Xi ⟨0, by simp⟩ ?_) ?_)))
  · exact ⟨⟨Zr, Zr, Zr, trivial⟩, trivial, fun _ => .inl rfl, trivial⟩
  · intro ⟨i, h1, h2⟩
    refine Yi ?_ ?_
    · intro h
      have h : (i : Int) < (s.map encSl).length := h
      have h : i < s.length := by simpa using h
      have hg : s[i]? = some s[i] := List.getElem?_eq_getElem h
      refine Xi (encSl s[i]) (Yi (Yi (by show (0 : Int) ≤ i; omega) (by simp [hg])) (Yi rfl ?_))
      refine Yi ?_ ?_
      · intro h3
        have h3 : s[i].path = p := h3
        rw [any_yes (p := fun x : Sl => decide (x.path = p)) h (decide_eq_true h3)]
        exact .refl _
      · intro h3
        have h3 : ¬ s[i].path = p := h3
        refine Yi (by show InI64 ((i : Int) + 1); unfold InI64; omega) ?_
        refine Xi ⟨i + 1, by omega, fun j hj hji => ?_⟩ ?_
        · by_cases e : j = i
          · subst e; exact decide_eq_false h3
          · exact h2 j hj (by omega)
        · exact ⟨by show s.length - (i + 1) < s.length - i; omega, ⟨Zr, Zr, Zr, trivial⟩, trivial, fun _ => .inl rfl, trivial⟩
    · intro h
      have h : ¬ (i : Int) < (s.map encSl).length := h
      have h : ¬ i < s.length := by simpa using h
      rw [any_no (p := fun x : Sl => decide (x.path = p)) h2 h]
      exact .refl _
end Go.Eng

namespace Go.Eng
open Go.Proofs
theorem c197 (n : Int) : PC 197 [vi n] (vb (decide (okPart n))) := by
  refine pcall_sub (cxp pl0) rfl tab_ok hm rfl Tryz.func197 (by kernel_rfl) rfl (Nz rfl) (by kernel_rfl) ?_
  refine Yi ?_ ?_
  · intro h
    have h : 0 ≤ n := h
    refine Yi ?_ ?_
    · intro h2
      have h2 : n ≤ 999 := h2
      show Sub (vb true) (vb (decide (okPart n)))
      rw [decide_eq_true ⟨h, h2⟩]
      exact .refl _
    · intro h2
      have h2 : ¬ n ≤ 999 := h2
      show Sub (vb false) (vb (decide (okPart n)))
      rw [decide_eq_false fun q => h2 q.2]
      exact .refl _
  · intro h
    have h : ¬ 0 ≤ n := h
    show Sub (vb false) (vb (decide (okPart n)))
    rw [decide_eq_false fun q => h q.1]
    exact .refl _
theorem c168 (v : Ver) : PC 168 [.agg (encVer v)] (vb (validB v)) := by
  have ha := c197 v.a
  have hb := c197 v.b
  have hc := c197 v.c
  unfold validB
  cases h1 : decide (okPart v.a) with
  | false =>
    rw [h1] at ha
    refine pcall_sub (cxp pl0) rfl tab_ok hm rfl Tryz.func168 (by kernel_rfl) rfl (Nz rfl) (by kernel_rfl) ?_
    exact Xi .pure (Xi _ (Yi ha (.refl _)))
  | true =>
    rw [h1] at ha
    cases h2 : decide (okPart v.b) with
    | false =>
      rw [h2] at hb
      refine pcall_sub (cxp pl0) rfl tab_ok hm rfl Tryz.func168 (by kernel_rfl) rfl (Nz rfl) (by kernel_rfl) ?_
      exact Xi .pure (Xi _ (Yi ha (Xi .pure (Xi _ (Yi hb (.refl _))))))
    | true =>
      rw [h2] at hb
      refine pcall_sub (cxp pl0) rfl tab_ok hm rfl Tryz.func168 (by kernel_rfl) rfl (Nz rfl) (by kernel_rfl) ?_
      exact Xi .pure (Xi _ (Yi ha (Xi .pure (Xi _ (Yi hb (Xi .pure (Xi _ (Yi hc (.refl _)))))))))
theorem c201 (v : Ver) : PC 201 [.agg (encVer v)] (.tup [vi (if validB v then place v else 0), vi (if validB v then 0 else 2)]) := by
  have hc := c168 v
  cases h : validB v with
  | false =>
    rw [h] at hc
    refine pcall_sub (cxp pl0) rfl tab_ok hm rfl Tryz.func201 (by kernel_rfl) rfl (Nz rfl) (by kernel_rfl) ?_
    exact Yi (Nz rfl) (Xi .pure (Xi _ (Yi hc (.refl _))))
  | true =>
    rw [h] at hc
    have hv := valid_place h
    refine pcall_sub (cxp pl0) rfl tab_ok hm rfl Tryz.func201 (by kernel_rfl) rfl (Nz rfl) (by kernel_rfl) ?_
    refine Yi (Nz rfl) (Xi .pure (Xi _ (Yi hc ?_)))
    refine Yi (by show InI64 (1000 * v.b); unfold InI64; omega) ?_
    exact Yi (by show InI64 (1000 * v.b + v.c); unfold InI64; omega) (.refl _)
end Go.Eng

namespace Go.Eng
open Go.Proofs
theorem find_at {α : Type} {p : α → Bool} : ∀ {l : List α} {i : Nat} (hi : i < l.length), (∀ j (hj : j < l.length), j < i → p l[j] = false) → p l[i] = true → l.find? p = some l[i]
  | x :: r, 0, _, _, h => by
    have h : p x = true := h
    simp [h]
  | x :: r, i + 1, hi, hb, h => by
    have h0 : p x = false := hb 0 (by simp) (by omega)
    rw [List.find?_cons, h0]
    exact find_at (l := r) (i := i) (by simpa using hi) (fun j hj hji => hb (j + 1) (by simpa using hj) (by omega)) h
theorem find_none {α : Type} {p : α → Bool} {l : List α} {i : Nat} (h : ∀ j (hj : j < l.length), j < i → p l[j] = false) (hi : ¬ i < l.length) : l.find? p = none := by
  rw [List.find?_eq_none]
  intro x hx
  obtain ⟨j, hj, rfl⟩ := List.mem_iff_getElem.1 hx
  simp [h j hj (by omega)]
theorem holds_at {t : Tm} {s : List Sl} {i : Nat} (hi : i < s.length) (h2 : ∀ j (hj : j < s.length), j < i → decide (s[j].path = t.path) = false) (h : s[i].path = t.path) : holds t s = (validB s[i].ver && has t.set (place s[i].ver)) := by
  unfold holds
  rw [find_at (p := fun x : Sl => decide (x.path = t.path)) hi h2 (decide_eq_true h)]
theorem holds_none {t : Tm} {s : List Sl} {i : Nat} (h2 : ∀ j (hj : j < s.length), j < i → decide (s[j].path = t.path) = false) (hi : ¬ i < s.length) : holds t s = t.absent := by
  unfold holds
  rw [find_none (p := fun x : Sl => decide (x.path = t.path)) h2 hi]
theorem c178 (t : Tm) (s : List Sl) (hl : Few s) (ht : Few t.set) : PC 178 [.agg (encTm t), sl encSl s] (vb (holds t s)) := by
  unfold Few at hl
  refine pcall_sub (cxp (plz [2])) rfl tab_ok hm rfl Tryz.func178 (by kernel_rfl) rfl (Nz rfl) (by kernel_rfl) ?_
  refine Xi {i : Nat // i ≤ s.length ∧ ∀ j (hj : j < s.length), j < i → decide (s[j].path = t.path) = false} (Xi (fun i => ⟨[(1, sl encSl s), (2, .ref 2 0), (5, vi i.1)], [(2, .ro (encTm t))], hfree⟩) (Xi (fun i => s.length - i.1) (Yi (Xi ⟨0, by simp⟩ ?_) ?_)))
  · exact ⟨⟨Zr, Zr, Zr, trivial⟩, ⟨Zr, trivial⟩, fun _ => .inl rfl, trivial⟩
  · intro ⟨i, h1, h2⟩
    refine Yi ?_ ?_
    · intro h
      have h : (i : Int) < (s.map encSl).length := h
      have h : i < s.length := by simpa using h
      have hg : s[i]? = some s[i] := List.getElem?_eq_getElem h
      refine Xi (encSl s[i]) (Yi (Yi (by show (0 : Int) ≤ i; omega) (by simp [hg])) (Yi rfl ?_))
      refine Yi ?_ ?_
      · intro h3
        have h3 : s[i].path = t.path := h3
        refine Yi (by kernel_rfl) ?_
        refine Xi (encSl s[i]) (Yi (Yi (by show (0 : Int) ≤ i; omega) (by simp [hg])) (Yi rfl (Yi (Nz rfl) ?_)))
        have hp := c201 s[i].ver
        have hq := holds_at h h2 h3
        refine Or.elim (Bool.eq_false_or_eq_true (validB s[i].ver)) (fun hv => ?_) (fun hv => ?_)
        · rw [hv, if_pos rfl, if_pos rfl] at hp
          rw [hv, Bool.true_and] at hq
          refine Xi .pure (Xi _ (Yi hp ?_))
          refine Yi ?_ ?_
          · intro _
            refine Xi .pure (Xi _ (Yi (c132 t.set (place s[i].ver) ht) ?_))
            show Sub (vb (has t.set (place s[i].ver))) (vb (holds t s))
            rw [hq]
            exact .refl _
          · intro h
            exact absurd rfl h
        · rw [hv, if_neg (by decide), if_neg (by decide)] at hp
          rw [hv, Bool.false_and] at hq
          refine Xi .pure (Xi _ (Yi hp ?_))
          refine Yi ?_ ?_
          · intro h
            have h : (2 : Int) = 0 := h
            omega
          · intro _
            show Sub (vb false) (vb (holds t s))
            rw [hq]
            exact .refl _
      · intro h3
        have h3 : ¬ s[i].path = t.path := h3
        refine Yi (by kernel_rfl) ?_
        refine Yi (by show InI64 ((i : Int) + 1); unfold InI64; omega) ?_
        refine Xi ⟨i + 1, by omega, fun j hj hji => ?_⟩ ?_
        · by_cases e : j = i
          · subst e; exact decide_eq_false h3
          · exact h2 j hj (by omega)
        · exact ⟨by show s.length - (i + 1) < s.length - i; omega, ⟨Zr, Zr, Zr, trivial⟩, ⟨Zr, trivial⟩, fun _ => .inl rfl, trivial⟩
    · intro h
      have h : ¬ (i : Int) < (s.map encSl).length := h
      have h : ¬ i < s.length := by simpa using h
      have hq := holds_none h2 h
      refine Yi ?_ ?_
      · intro h5
        have h5 : t.absent = true := h5
        show Sub (vb true) (vb (holds t s))
        rw [hq, h5]
        exact .refl _
      · intro h5
        have h5 : t.absent = false := h5
        show Sub (vb false) (vb (holds t s))
        rw [hq, h5]
        exact .refl _
end Go.Eng

namespace Go.Eng
open Go.Proofs
theorem c136 (l : List Tm) (s : List Sl) (hl : FewT l) (hs : Few s) : PC 136 [sl encTm l, sl encSl s] (vb (violated l s)) := by
  have hc : ∀ i (h : i < l.length), PC 178 [.agg (encTm l[i]), sl encSl s] (vb (holds l[i] s)) := fun i h => c178 l[i] s hs (hl.2 _ (List.getElem_mem h))
  obtain ⟨hl, _⟩ := hl
  unfold Few at hl
  refine pcall_sub (cxp pl0) rfl tab_ok hm rfl Tryz.func136 (by kernel_rfl) rfl (Nz rfl) (by kernel_rfl) ?_
  refine Xi {i : Nat // i ≤ l.length ∧ ∀ j (hj : j < l.length), j < i → holds l[j] s = true} (Xi (fun i => ⟨[(0, sl encTm l), (1, sl encSl s), (5, vi i.1)], [], hfree⟩) (Xi (fun i => l.length - i.1) (Yi (Xi ⟨0, by simp⟩ ?_) ?_)))
  · exact ⟨⟨Zr, Zr, Zr, trivial⟩, trivial, fun _ => .inl rfl, trivial⟩
  · intro ⟨i, h1, h2⟩
    refine Yi ?_ ?_
    · intro h
      have h : (i : Int) < (l.map encTm).length := h
      have h : i < l.length := by simpa using h
      have hg : l[i]? = some l[i] := List.getElem?_eq_getElem h
      have hci := hc i h
      refine Xi (encTm l[i]) (Yi (Yi (by show (0 : Int) ≤ i; omega) (by simp [hg])) (Yi rfl (Yi (Nz rfl) ?_)))
      refine Or.elim (Bool.eq_false_or_eq_true (holds l[i] s)) (fun hp => ?_) (fun hp => ?_)
      · rw [hp] at hci
        refine Xi .pure (Xi _ (Yi hci ?_))
        refine Yi (by show InI64 ((i : Int) + 1); unfold InI64; omega) ?_
        refine Xi ⟨i + 1, by omega, fun j hj hji => ?_⟩ ?_
        · by_cases e : j = i
          · subst e; exact hp
          · exact h2 j hj (by omega)
        · exact ⟨by show l.length - (i + 1) < l.length - i; omega, ⟨Zr, Zr, Zr, trivial⟩, trivial, fun _ => .inl rfl, trivial⟩
      · rw [hp] at hci
        refine Xi .pure (Xi _ (Yi hci ?_))
        show Sub (vb false) (vb (violated l s))
        rw [show violated l s = false from all_no (p := fun t => holds t s) h hp]
        exact .refl _
    · intro h
      have h : ¬ (i : Int) < (l.map encTm).length := h
      have h : ¬ i < l.length := by simpa using h
      show Sub (vb true) (vb (violated l s))
      rw [show violated l s = true from all_yes (p := fun t => holds t s) h2 h]
      exact .refl _
def entailedR (l : List Tm) (s : List Sl) : Bool := l.all (fun t => hasPath s t.path) && violated l s
theorem entailedR_eq (l : List Tm) (s : List Sl) : entailedR l s = entailed l s := by
  unfold entailedR entailed
  rw [Bool.and_comm, List.not_any_eq_all_not]
  simp
theorem c96 (l : List Tm) (s : List Sl) (hl : FewT l) (hs : Few s) : PC 96 [sl encTm l, sl encSl s] (vb (entailed l s)) := by
  have hc : ∀ i (h : i < l.length), PC 135 [sl encSl s, vs l[i].path] (vb (hasPath s l[i].path)) := fun i h => c135 s l[i].path hs
  have hv := c136 l s hl hs
  obtain ⟨hl, _⟩ := hl
  unfold Few at hl
  rw [← entailedR_eq]
  refine pcall_sub (cxp pl0) rfl tab_ok hm rfl Tryz.func96 (by kernel_rfl) rfl (Nz rfl) (by kernel_rfl) ?_
  refine Xi {i : Nat // i ≤ l.length ∧ ∀ j (hj : j < l.length), j < i → hasPath s l[j].path = true} (Xi (fun i => ⟨[(0, sl encTm l), (1, sl encSl s), (5, vi i.1)], [], hfree⟩) (Xi (fun i => l.length - i.1) (Yi (Xi ⟨0, by simp⟩ ?_) ?_)))
  · exact ⟨⟨Zr, Zr, Zr, trivial⟩, trivial, fun _ => .inl rfl, trivial⟩
  · intro ⟨i, h1, h2⟩
    refine Yi ?_ ?_
    · intro h
      have h : (i : Int) < (l.map encTm).length := h
      have h : i < l.length := by simpa using h
      have hg : l[i]? = some l[i] := List.getElem?_eq_getElem h
      have hci := hc i h
      refine Xi (encTm l[i]) (Yi (Yi (by show (0 : Int) ≤ i; omega) (by simp [hg])) (Yi rfl ?_))
      refine Or.elim (Bool.eq_false_or_eq_true (hasPath s l[i].path)) (fun hp => ?_) (fun hp => ?_)
      · rw [hp] at hci
        refine Xi .pure (Xi _ (Yi hci ?_))
        refine Yi (by show InI64 ((i : Int) + 1); unfold InI64; omega) ?_
        refine Xi ⟨i + 1, by omega, fun j hj hji => ?_⟩ ?_
        · by_cases e : j = i
          · subst e; exact hp
          · exact h2 j hj (by omega)
        · exact ⟨by show l.length - (i + 1) < l.length - i; omega, ⟨Zr, Zr, Zr, trivial⟩, trivial, fun _ => .inl rfl, trivial⟩
      · rw [hp] at hci
        refine Xi .pure (Xi _ (Yi hci ?_))
        show Sub (vb false) (vb (entailedR l s))
        rw [show entailedR l s = false by unfold entailedR; rw [all_no (p := fun t : Tm => hasPath s t.path) h hp, Bool.false_and]]
        exact .refl _
    · intro h
      have h : ¬ (i : Int) < (l.map encTm).length := h
      have h : ¬ i < l.length := by simpa using h
      refine Xi .pure (Xi _ (Yi hv ?_))
      show Sub (vb (violated l s)) (vb (entailedR l s))
      rw [show entailedR l s = violated l s by unfold entailedR; rw [all_yes (p := fun t : Tm => hasPath s t.path) h2 h, Bool.true_and]]
      exact .refl _
end Go.Eng

namespace Go.Eng
open Go.Proofs
abbrev encAn (a : An) : List AV := [vb a.found, sl encSl a.sel, sl encNf a.infs, sl encSk a.skips]
theorem c108 (r : Rl) : PC 108 [.agg (encRl r)] (.agg (encSl ⟨r.path, r.ver⟩)) := by
  refine pcall_sub (cxp pl0) rfl tab_ok hm rfl Tryz.func108 (by kernel_rfl) rfl (Nz rfl) (by kernel_rfl) ?_
  exact Yi (Nz rfl) (Yi (Nz rfl) (Yi (Nz rfl) (.refl _)))
theorem c17 (a : An) : PC 17 [.agg (encAn a)] (vb (small a)) := by
  refine pcall_sub (cxp pl0) rfl tab_ok hm rfl Tryz.func17 (by kernel_rfl) rfl (Nz rfl) (by kernel_rfl) ?_
  refine Yi ?_ ?_
  · intro h
    have h : ((a.infs.map encNf).length : Int) ≤ 400 := h
    have h : a.infs.length ≤ 400 := by rw [List.length_map] at h; omega
    refine Yi ?_ ?_
    · intro h2
      have h2 : ((a.sel.map encSl).length : Int) ≤ 16 := h2
      have h2 : a.sel.length ≤ 16 := by rw [List.length_map] at h2; omega
      refine Yi ?_ ?_
      · intro h3
        have h3 : ((a.skips.map encSk).length : Int) ≤ 100 := h3
        have h3 : a.skips.length ≤ 100 := by rw [List.length_map] at h3; omega
        show Sub (vb true) (vb (small a))
        rw [show small a = true by simp [small, h, h2, h3]]
        exact .refl _
      · intro h3
        have h3 : ¬ ((a.skips.map encSk).length : Int) ≤ 100 := h3
        have h3 : ¬ a.skips.length ≤ 100 := by rw [List.length_map] at h3; omega
        show Sub (vb false) (vb (small a))
        rw [show small a = false by simp [small, h3]]
        exact .refl _
    · intro h2
      have h2 : ¬ ((a.sel.map encSl).length : Int) ≤ 16 := h2
      have h2 : ¬ a.sel.length ≤ 16 := by rw [List.length_map] at h2; omega
      show Sub (vb false) (vb (small a))
      rw [show small a = false by simp [small, h2]]
      exact .refl _
  · intro h
    have h : ¬ ((a.infs.map encNf).length : Int) ≤ 400 := h
    have h : ¬ a.infs.length ≤ 400 := by rw [List.length_map] at h; omega
    show Sub (vb false) (vb (small a))
    rw [show small a = false by simp [small, h]]
    exact .refl _
end Go.Eng

namespace Go.Eng
open Go.Proofs
theorem c82 (s : List Sl) (p : ByteArray) (hl : Few s) : PC 82 [sl encSl s, vs p] (.tup [.agg (encSl ((findSl s p).getD sl0)), vb (findSl s p).isSome]) := by
  unfold Few at hl
  refine pcall_sub (cxp pl0) rfl tab_ok hm rfl Tryz.func82 (by kernel_rfl) rfl (Nz rfl) (by kernel_rfl) ?_
  refine Xi {i : Nat // i ≤ s.length ∧ ∀ j (hj : j < s.length), j < i → decide (s[j].path = p) = false} (Xi (fun i => ⟨[(0, sl encSl s), (1, vs p), (4, .ref 4 0), (6, vi i.1)], [(4, .cells (encSl sl0))], hfree⟩) (Xi (fun i => s.length - i.1) (Yi (Xi ⟨0, by simp⟩ ?_) ?_)))
  · exact ⟨⟨Zr, Zr, Zr, Zr, trivial⟩, ⟨Zr, trivial⟩, fun _ => .inl rfl, trivial⟩
  · intro ⟨i, h1, h2⟩
    refine Yi ?_ ?_
    · intro h
      have h : (i : Int) < (s.map encSl).length := h
      have h : i < s.length := by simpa using h
      have hg : s[i]? = some s[i] := List.getElem?_eq_getElem h
      refine Xi (encSl s[i]) (Yi (Yi (by show (0 : Int) ≤ i; omega) (by simp [hg])) (Yi rfl ?_))
      refine Yi ?_ ?_
      · intro h3
        have h3 : s[i].path = p := h3
        have hf : findSl s p = some s[i] := find_at (p := fun x : Sl => decide (x.path = p)) h h2 (decide_eq_true h3)
        refine Xi (encSl s[i]) (Yi (Yi (by show (0 : Int) ≤ i; omega) (by simp [hg])) (Yi rfl (Yi (Nz rfl) (Yi (Nz rfl) (Yi (Nz rfl) ?_)))))
        show Sub (.tup [.agg (encSl s[i]), vb true]) _
        rw [hf]
        exact .refl _
      · intro h3
        have h3 : ¬ s[i].path = p := h3
        refine Yi (by show InI64 ((i : Int) + 1); unfold InI64; omega) ?_
        refine Xi ⟨i + 1, by omega, fun j hj hji => ?_⟩ ?_
        · by_cases e : j = i
          · subst e; exact decide_eq_false h3
          · exact h2 j hj (by omega)
        · exact ⟨by show s.length - (i + 1) < s.length - i; omega, ⟨Zr, Zr, Zr, Zr, trivial⟩, ⟨Zr, trivial⟩, fun _ => .inl rfl, trivial⟩
    · intro h
      have h : ¬ (i : Int) < (s.map encSl).length := h
      have h : ¬ i < s.length := by simpa using h
      have hf : findSl s p = none := find_none (p := fun x : Sl => decide (x.path = p)) h2 h
      refine Yi (Nz rfl) (Yi (Nz rfl) ?_)
      show Sub (.tup [.agg (encSl sl0), vb false]) _
      rw [hf]
      exact .refl _
end Go.Eng

namespace Go.Eng
open Go.Proofs
theorem c142 (x y : Int × Int) (h : InI64 (x.1 - y.1)) : PC 142 [.agg (encSpan x), .agg (encSpan y)] (vi (x.1 - y.1)) := by
  refine pcall_sub (cxp pl0) rfl tab_ok hm rfl Tryz.func142 (by kernel_rfl) rfl (Nz rfl) (by kernel_rfl) ?_
  exact Yi h (.refl _)
theorem c75 (l m : List (Int × Int)) (hl : Few l) : PC 75 [sl encSpan l, sl encSpan m] (vb (decide (l = m))) := by
  refine pcall_sub (cxp pl0) rfl tab_ok hm rfl Tryz.func75 (by kernel_rfl) rfl (Nz rfl) (by kernel_rfl) ?_
  refine Yi ?_ ?_
  · intro h
    have h : ¬ ((l.map encSpan).length : Int) = (m.map encSpan).length := h
    have : l ≠ m := fun e => h (by rw [e])
    rw [decide_eq_false this]
    exact .refl _
  · intro h
    have h : ¬ ((l.map encSpan).length : Int) ≠ (m.map encSpan).length := h
    have hlen : l.length = m.length := by simp at h; omega
    refine Xi {i : Nat // i ≤ l.length ∧ l.take i = m.take i} (Xi (fun i => ⟨[(0, sl encSpan l), (1, sl encSpan m), (5, vi i.1)], [], hfree⟩) (Xi (fun i => l.length - i.1) (Yi (Xi ⟨0, by simp⟩ ?_) ?_)))
    · exact ⟨⟨Zr, Zr, Zr, trivial⟩, trivial, fun _ => .inl rfl, trivial⟩
    · intro ⟨i, h1, h2⟩
      refine Yi ?_ ?_
      · intro h
        have h : (i : Int) < (l.map encSpan).length := h
        have h : i < l.length := by simpa using h
        have h' : i < m.length := by omega
        have hg : l[i]? = some l[i] := List.getElem?_eq_getElem h
        have hg' : m[i]? = some m[i] := List.getElem?_eq_getElem h'
        refine Xi (encSpan l[i]) (Yi (Yi (by show (0 : Int) ≤ i; omega) (by simp [hg])) (Yi rfl (Yi (Nz rfl) ?_)))
        refine Xi (encSpan m[i]) (Yi (Yi (by show (0 : Int) ≤ i; omega) (by simp [hg'])) (Yi rfl (Yi (Nz rfl) ?_)))
        refine Yi ?_ ?_
        · intro h5
          have e : l[i] = m[i] := eq_span.1 h5
          refine Yi (by kernel_rfl) ?_
          refine Yi (by show InI64 ((i : Int) + 1); unfold Few at hl; unfold InI64; omega) ?_
          refine Xi ⟨i + 1, by omega, ?_⟩ ?_
          · rw [List.take_add_one, List.take_add_one, h2, hg, hg', e]
          · exact ⟨by show l.length - (i + 1) < l.length - i; omega, ⟨Zr, Zr, Zr, trivial⟩, trivial, fun _ => .inl rfl, trivial⟩
        · intro h5
          refine Yi (by kernel_rfl) ?_
          have : l ≠ m := fun e => h5 (eq_span.2 (by subst e; rfl))
          rw [decide_eq_false this]
          exact .refl _
      · intro h
        have h : ¬ (i : Int) < (l.map encSpan).length := h
        have h : ¬ i < l.length := by simpa using h
        have e : l = m := by
          rw [← List.take_of_length_le (l := l) (i := i) (by omega), h2, List.take_of_length_le (by omega)]
        rw [decide_eq_true e]
        exact .refl _
end Go.Eng

namespace Go.Eng
open Go.Proofs
theorem c39 (l m : List Tm) (hs : FewT l) : PC 39 [sl encTm l, sl encTm m] (vb (decide (l = m))) := by
  have hl := hs.1
  unfold Few at hl
  refine pcall_sub (cxp pl0) rfl tab_ok hm rfl Tryz.func39 (by kernel_rfl) rfl (Nz rfl) (by kernel_rfl) ?_
  refine Yi ?_ ?_
  · intro h
    have h : ¬ ((l.map encTm).length : Int) = (m.map encTm).length := h
    have : l ≠ m := fun e => h (by rw [e])
    show Sub (vb false) (vb (decide (l = m)))
    rw [decide_eq_false this]
    exact .refl _
  · intro h
    have h : ¬ ((l.map encTm).length : Int) ≠ (m.map encTm).length := h
    have hlen : l.length = m.length := by simp at h; omega
    refine Xi {i : Nat // i ≤ l.length ∧ l.take i = m.take i} (Xi (fun i => ⟨[(0, sl encTm l), (1, sl encTm m), (5, vi i.1)], [], hfree⟩) (Xi (fun i => l.length - i.1) (Yi (Xi ⟨0, by simp⟩ ?_) ?_)))
    · exact ⟨⟨Zr, Zr, Zr, trivial⟩, trivial, fun _ => .inl rfl, trivial⟩
    · intro ⟨i, h1, h2⟩
      refine Yi ?_ ?_
      · intro h
        have h : (i : Int) < (l.map encTm).length := h
        have h : i < l.length := by simpa using h
        have h' : i < m.length := by omega
        have hg : l[i]? = some l[i] := List.getElem?_eq_getElem h
        have hg' : m[i]? = some m[i] := List.getElem?_eq_getElem h'
        refine Xi (encTm l[i]) (Yi (Yi (by show (0 : Int) ≤ i; omega) (by simp [hg])) (Yi rfl ?_))
        refine Xi (encTm m[i]) (Yi (Yi (by show (0 : Int) ≤ i; omega) (by simp [hg'])) (Yi rfl ?_))
        refine Yi ?_ ?_
        · intro h5
          have h5 : l[i].path ≠ m[i].path := h5
          refine Yi (by kernel_rfl) ?_
          have hne : l ≠ m := fun e => by subst e; exact h5 rfl
          show Sub (vb false) (vb (decide (l = m)))
          rw [decide_eq_false hne]
          exact .refl _
        · intro h5
          have h5 : l[i].path = m[i].path := Classical.not_not.1 h5
          refine Xi (encTm l[i]) (Yi (Yi (by show (0 : Int) ≤ i; omega) (by simp [hg])) (Yi rfl ?_))
          refine Yi ?_ ?_
          · intro h6
            have h6 : l[i].absent = true := h6
            refine Xi (encTm m[i]) (Yi (Yi (by show (0 : Int) ≤ i; omega) (by simp [hg'])) (Yi rfl ?_))
            refine Yi ?_ ?_
            · intro h7
              have h7 : m[i].absent = true := h7
              refine Xi (encTm l[i]) (Yi (Yi (by show (0 : Int) ≤ i; omega) (by simp [hg])) (Yi rfl ?_))
              refine Xi (encTm m[i]) (Yi (Yi (by show (0 : Int) ≤ i; omega) (by simp [hg'])) (Yi rfl ?_))
              have hc := c75 l[i].set m[i].set (hs.2 _ (List.getElem_mem h))
              refine Or.elim (Classical.em (l[i].set = m[i].set)) (fun h8 => ?_) (fun h8 => ?_)
              · rw [decide_eq_true h8] at hc
                refine Xi _ (Yi hc ?_)
                refine Yi (by kernel_rfl) ?_
                refine Yi (by show InI64 ((i : Int) + 1); unfold InI64; omega) ?_
                refine Xi ⟨i + 1, by omega, ?_⟩ ?_
                · rw [List.take_add_one, List.take_add_one, h2, hg, hg', tm_ext h5 (h6.trans h7.symm) h8]
                · exact ⟨by show l.length - (i + 1) < l.length - i; omega, ⟨Zr, Zr, Zr, trivial⟩, trivial, fun _ => .inl rfl, trivial⟩
              · rw [decide_eq_false h8] at hc
                refine Xi _ (Yi hc ?_)
                refine Yi (by kernel_rfl) ?_
                have hne : l ≠ m := fun e => by subst e; exact h8 rfl
                show Sub (vb false) (vb (decide (l = m)))
                rw [decide_eq_false hne]
                exact .refl _
            · intro h7
              have h7 : m[i].absent = false := h7
              refine Yi (by kernel_rfl) ?_
              have hne : l ≠ m := fun e => by subst e; rw [h6] at h7; cases h7
              show Sub (vb false) (vb (decide (l = m)))
              rw [decide_eq_false hne]
              exact .refl _
          · intro h6
            have h6 : l[i].absent = false := h6
            refine Xi (encTm m[i]) (Yi (Yi (by show (0 : Int) ≤ i; omega) (by simp [hg'])) (Yi rfl ?_))
            refine Yi ?_ ?_
            · intro h7
              have h7 : m[i].absent = true := h7
              refine Yi (by kernel_rfl) ?_
              have hne : l ≠ m := fun e => by subst e; rw [h6] at h7; cases h7
              show Sub (vb false) (vb (decide (l = m)))
              rw [decide_eq_false hne]
              exact .refl _
            · intro h7
              have h7 : m[i].absent = false := h7
              refine Xi (encTm l[i]) (Yi (Yi (by show (0 : Int) ≤ i; omega) (by simp [hg])) (Yi rfl ?_))
              refine Xi (encTm m[i]) (Yi (Yi (by show (0 : Int) ≤ i; omega) (by simp [hg'])) (Yi rfl ?_))
              have hc := c75 l[i].set m[i].set (hs.2 _ (List.getElem_mem h))
              refine Or.elim (Classical.em (l[i].set = m[i].set)) (fun h8 => ?_) (fun h8 => ?_)
              · rw [decide_eq_true h8] at hc
                refine Xi _ (Yi hc ?_)
                refine Yi (by kernel_rfl) ?_
                refine Yi (by show InI64 ((i : Int) + 1); unfold InI64; omega) ?_
                refine Xi ⟨i + 1, by omega, ?_⟩ ?_
                · rw [List.take_add_one, List.take_add_one, h2, hg, hg', tm_ext h5 (h6.trans h7.symm) h8]
                · exact ⟨by show l.length - (i + 1) < l.length - i; omega, ⟨Zr, Zr, Zr, trivial⟩, trivial, fun _ => .inl rfl, trivial⟩
              · rw [decide_eq_false h8] at hc
                refine Xi _ (Yi hc ?_)
                refine Yi (by kernel_rfl) ?_
                have hne : l ≠ m := fun e => by subst e; exact h8 rfl
                show Sub (vb false) (vb (decide (l = m)))
                rw [decide_eq_false hne]
                exact .refl _
      · intro h
        have h : ¬ (i : Int) < (l.map encTm).length := h
        have h : ¬ i < l.length := by simpa using h
        have e : l = m := by
          rw [← List.take_of_length_le (l := l) (i := i) (by omega), h2, List.take_of_length_le (by omega)]
        show Sub (vb true) (vb (decide (l = m)))
        rw [decide_eq_true e]
        exact .refl _
end Go.Eng

namespace Go.Eng
open Go.Proofs
theorem c14 (l m : List (List Tm)) (hs : Few l ∧ ∀ x ∈ l, FewT x) : PC 14 [sl encInc l, sl encInc m] (vb (decide (l = m))) := by
  have hl := hs.1
  refine pcall_sub (cxp pl0) rfl tab_ok hm rfl Tryz.func14 (by kernel_rfl) rfl (Nz rfl) (by kernel_rfl) ?_
  refine Yi ?_ ?_
  · intro h
    have h : ¬ ((l.map encInc).length : Int) = (m.map encInc).length := h
    have : l ≠ m := fun e => h (by rw [e])
    rw [decide_eq_false this]
    exact .refl _
  · intro h
    have h : ¬ ((l.map encInc).length : Int) ≠ (m.map encInc).length := h
    have hlen : l.length = m.length := by simp at h; omega
    refine Xi {i : Nat // i ≤ l.length ∧ l.take i = m.take i} (Xi (fun i => ⟨[(0, sl encInc l), (1, sl encInc m), (5, vi i.1)], [], hfree⟩) (Xi (fun i => l.length - i.1) (Yi (Xi ⟨0, by simp⟩ ?_) ?_)))
    · exact ⟨⟨Zr, Zr, Zr, trivial⟩, trivial, fun _ => .inl rfl, trivial⟩
    · intro ⟨i, h1, h2⟩
      refine Yi ?_ ?_
      · intro h
        have h : (i : Int) < (l.map encInc).length := h
        have h : i < l.length := by simpa using h
        have h' : i < m.length := by omega
        have hg : l[i]? = some l[i] := List.getElem?_eq_getElem h
        have hg' : m[i]? = some m[i] := List.getElem?_eq_getElem h'
        have hc := c39 l[i] m[i] (hs.2 _ (List.getElem_mem h))
        refine Xi (encInc l[i]) (Yi (Yi (by show (0 : Int) ≤ i; omega) (by simp [hg])) (Yi rfl ?_))
        refine Xi (encInc m[i]) (Yi (Yi (by show (0 : Int) ≤ i; omega) (by simp [hg'])) (Yi rfl ?_))
        refine Or.elim (Classical.em (l[i] = m[i])) (fun h8 => ?_) (fun h8 => ?_)
        · rw [decide_eq_true h8] at hc
          refine Xi _ (Yi hc ?_)
          refine Yi (by kernel_rfl) ?_
          refine Yi (by show InI64 ((i : Int) + 1); unfold Few at hl; unfold InI64; omega) ?_
          refine Xi ⟨i + 1, by omega, ?_⟩ ?_
          · rw [List.take_add_one, List.take_add_one, h2, hg, hg', h8]
          · exact ⟨by show l.length - (i + 1) < l.length - i; omega, ⟨Zr, Zr, Zr, trivial⟩, trivial, fun _ => .inl rfl, trivial⟩
        · rw [decide_eq_false h8] at hc
          refine Xi _ (Yi hc ?_)
          refine Yi (by kernel_rfl) ?_
          have : l ≠ m := fun e => h8 (by subst e; rfl)
          show Sub (vb false) (vb (decide (l = m)))
          rw [decide_eq_false this]
          exact .refl _
      · intro h
        have h : ¬ (i : Int) < (l.map encInc).length := h
        have h : ¬ i < l.length := by simpa using h
        have e : l = m := by
          rw [← List.take_of_length_le (l := l) (i := i) (by omega), h2, List.take_of_length_le (by omega)]
        rw [decide_eq_true e]
        exact .refl _
end Go.Eng

namespace Go.Eng
open Go.Proofs Go.Shelf Go.RowKit Go.Lib Go.Sort
theorem ltSpA (x y : SpA) : ltOf cfSpA x y = decide (x.1.1 < y.1.1) := by
  unfold ltOf cfSpA
  rw [Bool.eq_iff_iff]; simp only [decide_eq_true_eq]; omega
theorem swoSpA : SWO (ltOf cfSpA) where
  irrefl x := by rw [ltSpA]; simp
  trans x y z h1 h2 := by rw [ltSpA] at *; simp at *; omega
  ntrans x y z h1 h2 := by rw [ltSpA] at *; simp at *; omega
theorem lexB_cmp : ∀ x y : List UInt8, decide (Lib.compareBytes x y < 0) = lexB x y
  | [], [] => rfl
  | [], _ :: _ => rfl
  | _ :: _, [] => rfl
  | a :: x, b :: y => by
    unfold Lib.compareBytes lexB
    by_cases h : a < b
    · simp [h]
    · by_cases h2 : b < a
      · have : ¬ a = b := fun e => by subst e; exact absurd h2 (UInt8.lt_irrefl a)
        simp [h, h2, this]
      · have e : a = b := UInt8.le_antisymm (UInt8.not_lt.1 h2) (UInt8.not_lt.1 h)
        subst e
        simp [UInt8.lt_irrefl, lexB_cmp x y]
theorem ltTmA (x y : TmA) : ltOf cfTmA x y = blt x.1 y.1 := lexB_cmp _ _
theorem swoTmA : SWO (ltOf cfTmA) where
  irrefl x := by rw [ltTmA]; exact blt_irrefl _
  trans x y z h1 h2 := by rw [ltTmA] at *; exact blt_trans h1 h2
  ntrans x y z h1 h2 := by
    rw [ltTmA] at *
    rw [Bool.eq_false_iff]
    intro h
    cases hyx : blt y.1 x.1 with
    | true => have := blt_trans hyx h; rw [h2] at this; cases this
    | false =>
      have e := blt_tri h1 hyx
      rw [e] at h
      rw [h2] at h; cases h
abbrev fnV (k : Nat) : Value := .func (.func k) #[] #[]
theorem ent (k : Nat) {fn : Func} {c : Code} (hf : Tryz.prog.funcs[k]? = some fn) (hn : (fn.name == "runtime.NumGoroutine") = false) (hb : fn.body = some c) : Enters Tryz.prog k := enters_fn hf hn hb
theorem c180 (l : List (Int × Int)) (hl : Few l) (h : ∀ x ∈ l, 0 ≤ x.1 ∧ x.1 ≤ 1000000) (lim : Nat) (hlim : lim < 100) :
    ACall Tryz.prog 180 [.msl 1000 l.length, vi 0, vi l.length, vi lim, .v (fnV 142)] (heapOf [(1000, .arr 2 (l.map encSpan))] hfree) fun r h' =>
      r = .tup [] ∧ ∃ l' : List (Int × Int), l'.Perm l ∧ l'.Pairwise (fun x y => x.1 ≤ y.1) ∧ h' = heapOf [(1000, .arr 2 (l'.map encSpan))] hfree := by
  have hl : l.length ≤ 1073741824 := hl
  have hE : Enters Tryz.prog 180 := ent 180 Tryz.func180 (by kernel_rfl) rfl
  have eg : ∀ args w, (callFunc 142 args).run Tryz.prog w = .ok (.enter 142 args) w := enters_of Tryz.func142 (by kernel_rfl) rfl
  have hmain := acall_sortfunc (P := Tryz.prog) (f := 180) (α := SpA) (rest := [.int .i64 0, .int .i64 l.length, .int .i64 lim, fnV 142]) hE encSpan encSpA (k := 2) (fun _ => rfl) (fun _ => rfl) (ltOf cfSpA) (fun x a => a.1 = x) l (by omega) ?_ ?_ ?_
  · refine ⟨hE, fun g w vals q1 q2 q3 => (hmain.2 g w vals q1 q2 q3).mono fun _ _ ⟨v, r, h', g', e1, ⟨e2, l', p1, ⟨al, a1, a2, a3⟩, p2⟩, rest⟩ => ⟨v, r, h', g', e1, ⟨e2, l', p1, ?_, p2⟩, rest⟩⟩
    rw [List.pairwise_iff_getElem] at a3 ⊢
    intro i j hi hj hij
    have := a3 i j (by omega) (by omega) hij
    rw [ltSpA] at this
    have e1 := a2 i _ _ (List.getElem?_eq_getElem hi) (List.getElem?_eq_getElem (by omega))
    have e2 := a2 j _ _ (List.getElem?_eq_getElem hj) (List.getElem?_eq_getElem (by omega))
    rw [← e1, ← e2]
    have := of_decide_eq_false this
    omega
  · intro x hx g w vs hr
    match vs, hr with
    | [a, b], hr =>
      have h1 := (hr.2.2 0 (vi x.1) a rfl rfl).v_eq
      have h2 := (hr.2.2 1 (vi x.2) b rfl rfl).v_eq
      subst h1; subst h2
      exact ⟨⟨x, h x hx⟩, rfl, rfl⟩
    | [], hr => have := hr.1; simp at this
    | [_], hr => have := hr.1; simp at this
    | _ :: _ :: _ :: _, hr => have := hr.1; simp at this
  · intro w b cap d hH hb hsz hdl
    have hcmp : CmpLays Tryz.prog 142 #[] encSpA 2 cfSpA b 0 d.size w := fun _ _ _ _ x y => Tryz.closure142 x y _
    have hp := AnyQ.pdqsortCmpFunc_all Tryz.layPdqSpan 2 Tryz.isAgg118 Tryz.sizeOf118 encSpA cfSpA 142 #[] swoSpA b 0 cap d w eg hcmp ⟨fun _ => rfl, fun x v hv => by simp [encSpA] at hv; rcases hv with rfl | rfl <;> rfl, hH, hb⟩ (d.size + 1) 0 d.size lim d w (by omega) rfl (SWK.start hH) (Nat.zero_le _) (Nat.le_refl _) hsz (by omega) (Or.inl rfl)
    rw [hdl] at hp ⊢
    refine hp.mono ?_
    rintro e w' ⟨rfl, n, os, rfl⟩
    have h := pdq_sorts (ltOf cfSpA) swoSpA d 0 d.size lim true true (Nat.zero_le _) (Nat.le_refl _) (Or.inl rfl)
    rw [hdl] at h
    exact ⟨rfl, _, n, os, h.1, h.2, rfl⟩
  · intro e w
    subst e
    exact AnyF.pdqsortCmpFunc_none Tryz.layPdqSpan none 0 lim (fnV 142) w
theorem c104 (l : List Tm) (hl : Few l) (lim : Nat) (hlim : lim < 100) :
    ACall Tryz.prog 104 [.msl 1000 l.length, vi 0, vi l.length, vi lim, .v (fnV 62)] (heapOf [(1000, .arr 3 (l.map encTm))] hfree) fun r h' =>
      r = .tup [] ∧ ∃ l' : List Tm, l'.Perm l ∧ l'.Pairwise (fun x y => blt y.path x.path = false) ∧ h' = heapOf [(1000, .arr 3 (l'.map encTm))] hfree := by
  have hl : l.length ≤ 1073741824 := hl
  have hE : Enters Tryz.prog 104 := ent 104 Tryz.func104 (by kernel_rfl) rfl
  have eg : ∀ args w, (callFunc 62 args).run Tryz.prog w = .ok (.enter 62 args) w := enters_of Tryz.func62 (by kernel_rfl) rfl
  have hmain := acall_sortfunc (P := Tryz.prog) (f := 104) (α := TmA) (rest := [.int .i64 0, .int .i64 l.length, .int .i64 lim, fnV 62]) hE encTm encTmA (k := 3) (fun _ => rfl) (fun _ => rfl) (ltOf cfTmA) (fun x a => a.1 = x.path) l (by omega) ?_ ?_ ?_
  · refine ⟨hE, fun g w vals q1 q2 q3 => (hmain.2 g w vals q1 q2 q3).mono fun _ _ ⟨v, r, h', g', e1, ⟨e2, l', p1, ⟨al, a1, a2, a3⟩, p2⟩, rest⟩ => ⟨v, r, h', g', e1, ⟨e2, l', p1, ?_, p2⟩, rest⟩⟩
    rw [List.pairwise_iff_getElem] at a3 ⊢
    intro i j hi hj hij
    have := a3 i j (by omega) (by omega) hij
    rw [ltTmA] at this
    have e1 := a2 i _ _ (List.getElem?_eq_getElem hi) (List.getElem?_eq_getElem (by omega))
    have e2 := a2 j _ _ (List.getElem?_eq_getElem hj) (List.getElem?_eq_getElem (by omega))
    rw [← e1, ← e2]
    exact this
  · intro x hx g w vs hr
    match vs, hr with
    | [a, b, c], hr =>
      have h1 := (hr.2.2 0 (Go.Eng.vs x.path) a rfl rfl).v_eq
      subst h1
      exact ⟨⟨x.path, ⟨b, hr.2.1 b (by simp)⟩, ⟨c, hr.2.1 c (by simp)⟩⟩, rfl, rfl⟩
    | [], hr => have := hr.1; simp at this
    | [_], hr => have := hr.1; simp at this
    | [_, _], hr => have := hr.1; simp at this
    | _ :: _ :: _ :: _ :: _, hr => have := hr.1; simp at this
  · intro w b cap d hH hb hsz hdl
    have hcmp : CmpLays Tryz.prog 62 #[] encTmA 3 cfTmA b 0 d.size w := fun _ _ _ _ x y => Tryz.closure62 x y _
    have hp := AnyQ.pdqsortCmpFunc_all Tryz.layPdqTerm 3 Tryz.isAgg107 Tryz.sizeOf107 encTmA cfTmA 62 #[] swoTmA b 0 cap d w eg hcmp ⟨fun _ => rfl, fun x v hv => by
        simp only [encTmA, List.mem_cons, List.mem_nil_iff, or_false] at hv
        rcases hv with rfl | rfl | rfl
        · rfl
        · exact x.2.1.2
        · exact x.2.2.2, hH, hb⟩ (d.size + 1) 0 d.size lim d w (by omega) rfl (SWK.start hH) (Nat.zero_le _) (Nat.le_refl _) hsz (by omega) (Or.inl rfl)
    rw [hdl] at hp ⊢
    refine hp.mono ?_
    rintro e w' ⟨rfl, n, os, rfl⟩
    have h := pdq_sorts (ltOf cfTmA) swoTmA d 0 d.size lim true true (Nat.zero_le _) (Nat.le_refl _) (Or.inl rfl)
    rw [hdl] at h
    exact ⟨rfl, _, n, os, h.1, h.2, rfl⟩
  · intro e w
    subst e
    exact AnyF.pdqsortCmpFunc_none Tryz.layPdqTerm none 0 lim (fnV 62) w
end Go.Eng

namespace Go.Eng
open Go.Proofs
-- the checker, and what reads it
abbrev encIxC (x : List Rl) (ifs : AV) : List AV := [sl encRl x, ifs]
abbrev encCk (x : List Rl) (ifs : AV) (roots : List Rq) (d : List (List Tm)) : List AV := [sl encRl x, ifs, sl encRq roots, sl encInc d]
theorem c40 (x : List Rl) (ifs : AV) (roots : List Rq) (d : List (List Tm)) (hd : Few d) : PC 40 [.cptr (encCk x ifs roots d)] (vb (refutedB d)) := by
  unfold Few at hd
  refine pcall_sub (cxp pl0) rfl tab_ok hm rfl Tryz.func40 (by kernel_rfl) rfl (Nz rfl) (by kernel_rfl) ?_
  refine Yi ?_ ?_
  · intro h
    have h : (0 : Int) < (d.map encInc).length := h
    have h : 0 < d.length := by simpa using h
    have hg : d[d.length - 1]? = some d[d.length - 1] := List.getElem?_eq_getElem (by omega)
    have hl : d.getLast? = some d[d.length - 1] := by rw [List.getLast?_eq_getElem?, hg]
    refine Yi (by show InI64 (((d.map encInc).length : Int) - 1); unfold InI64; rw [List.length_map]; omega) ?_
    refine Xi (encInc d[d.length - 1]) (Yi (Yi (by show (0 : Int) ≤ ((d.map encInc).length : Int) - 1; rw [List.length_map]; omega) (by rw [show (((d.map encInc).length : Int) - 1).toNat = d.length - 1 by rw [List.length_map]; omega]; simp [hg])) (Yi rfl ?_))
    refine Yi ?_ ?_
    · intro h2
      have h2 : ((d[d.length - 1].map encTm).length : Int) = 0 := h2
      have h2 : d[d.length - 1] = [] := by rw [List.length_map] at h2; exact List.eq_nil_of_length_eq_zero (by omega)
      show Sub (vb true) (vb (refutedB d))
      unfold refutedB
      rw [hl, h2]
      exact .refl _
    · intro h2
      have h2 : ¬ ((d[d.length - 1].map encTm).length : Int) = 0 := h2
      have h2 : d[d.length - 1] ≠ [] := fun e => h2 (by rw [e]; rfl)
      show Sub (vb false) (vb (refutedB d))
      unfold refutedB
      rw [hl]
      cases hx : d[d.length - 1] with
      | nil => exact absurd hx h2
      | cons a b => exact .refl _
  · intro h
    have h : ¬ (0 : Int) < (d.map encInc).length := h
    have h : d = [] := List.eq_nil_of_length_eq_zero (by rw [List.length_map] at h; omega)
    subst h
    exact .refl _
theorem incGo_at : ∀ (s : List Sl) (i : Nat) (h : i + 1 < s.length), incGo (some s[i].path) (s.drop (i + 1)) = (blt s[i].path s[i + 1].path && incGo (some s[i + 1].path) (s.drop (i + 2))) := fun s i h => by
  rw [List.drop_eq_getElem_cons h]; rfl
theorem blt_eq (a b : ByteArray) : blt a b = Op.bytesLess a.toList b.toList := by
  have : ∀ x y : List UInt8, lexB x y = Op.bytesLess x y := by
    intro x
    induction x with
    | nil => intro y; cases y <;> rfl
    | cons a x ih =>
      intro y
      cases y with
      | nil => rfl
      | cons b y =>
        unfold lexB Op.bytesLess
        rw [ih]
        rw [Bool.eq_iff_iff]
        simp
  unfold blt
  rw [this, ByteArray.toList_eq, ByteArray.toList_eq]
theorem c41 (s : List Sl) (hs : Few s) : PC 41 [sl encSl s] (vb (increasing s)) := by
  unfold Few at hs
  refine pcall_sub (cxp pl0) rfl tab_ok hm rfl Tryz.func41 (by kernel_rfl) rfl (Nz rfl) (by kernel_rfl) ?_
  refine Xi {i : Nat // 1 ≤ i ∧ (s = [] ∨ i ≤ s.length) ∧ increasing s = (match s[i - 1]? with | none => true | some y => incGo (some y.path) (s.drop i))} (Xi (fun i => ⟨[(0, sl encSl s), (3, vi i.1)], [], hfree⟩) (Xi (fun i => s.length - i.1) (Yi (Xi ⟨1, Nat.le_refl _, by cases s with | nil => exact .inl rfl | cons _ _ => exact .inr (by simp), by cases s <;> rfl⟩ ?_) ?_)))
  · exact ⟨⟨Zr, Zr, trivial⟩, trivial, fun _ => .inl rfl, trivial⟩
  · intro ⟨i, h1, h2, h3⟩
    refine Yi ?_ ?_
    · intro h
      have h : (i : Int) < (s.map encSl).length := h
      have h : i < s.length := by simpa using h
      have hg : s[i]? = some s[i] := List.getElem?_eq_getElem h
      have h' : i - 1 < s.length := by omega
      have hg' : s[i - 1]? = some s[i - 1] := List.getElem?_eq_getElem h'
      have e1 : ((i : Int) - 1).toNat = i - 1 := by omega
      have hstep : increasing s = (blt s[i - 1].path s[i].path && incGo (some s[i].path) (s.drop (i + 1))) := by
        rw [h3, hg']
        have := incGo_at s (i - 1) (by omega)
        simp only [show i - 1 + 1 = i by omega, show i - 1 + 2 = i + 1 by omega] at this
        exact this
      refine Yi (by show InI64 ((i : Int) - 1); unfold InI64; omega) ?_
      refine Xi (encSl s[i - 1]) (Yi (Yi (by show (0 : Int) ≤ (i : Int) - 1; omega) (by show (s.map encSl)[((i : Int) - 1).toNat]? = _; rw [e1]; simp [hg'])) (Yi rfl ?_))
      refine Xi (encSl s[i]) (Yi (Yi (by show (0 : Int) ≤ i; omega) (by simp [hg])) (Yi rfl ?_))
      refine Yi ?_ ?_
      · intro h4
        have h4 : Op.bytesLess s[i - 1].path.toList s[i].path.toList = false := h4
        rw [← blt_eq] at h4
        refine Yi (by kernel_rfl) ?_
        show Sub (vb false) (vb (increasing s))
        rw [hstep, h4]
        exact .refl _
      · intro h4
        have h4 : ¬ Op.bytesLess s[i - 1].path.toList s[i].path.toList = false := h4
        rw [← blt_eq, Bool.not_eq_false] at h4
        refine Yi (by kernel_rfl) ?_
        refine Yi (by show InI64 ((i : Int) + 1); unfold InI64; omega) ?_
        refine Xi ⟨i + 1, by omega, .inr (by omega), ?_⟩ ?_
        · rw [hstep, h4, show i + 1 - 1 = i by omega, hg]; rfl
        · exact ⟨by show s.length - (i + 1) < s.length - i; omega, ⟨Zr, Zr, trivial⟩, trivial, fun _ => .inl rfl, trivial⟩
    · intro h
      have h : ¬ (i : Int) < (s.map encSl).length := h
      have h : ¬ i < s.length := by simpa using h
      show Sub (vb true) (vb (increasing s))
      have : increasing s = true := by
        rcases h2 with h2 | h2
        · rw [h2]; rfl
        · have e : i = s.length := by omega
          rw [h3, e, List.drop_length]
          cases s[s.length - 1]? <;> rfl
      rw [this]
      exact .refl _
end Go.Eng

namespace Go.Eng
open Go.Proofs
theorem ACall.imp {P : Program} {f : Nat} {args : List AV} {h0 : Nat → HO} {Q Q' : AV → (Nat → HO) → Prop} (h : ACall P f args h0 Q) (hq : ∀ r h', Q r h' → Q' r h') : ACall P f args h0 Q' := h.mono fun r h' q => ⟨r, .refl _, hq r h' q⟩
theorem ACall.to {P : Program} {f : Nat} {args : List AV} {h0 : Nat → HO} {α : Type} {r0 : AV} {p : α → Prop} {H : α → Nat → HO} {Q' : AV → (Nat → HO) → Prop} (h : ACall P f args h0 fun r h' => r = r0 ∧ ∃ x, p x ∧ h' = H x) (k : ∀ x, p x → Q' r0 (H x)) : ACall P f args h0 Q' :=
  h.imp fun r h' ⟨e1, x, e2, e3⟩ => by subst e1; subst e3; exact k x e2
theorem c105 (n : Nat) (h : n ≤ 1073741824) : ∃ lim : Nat, lim < 100 ∧ PC 105 [.v (.int .u64 (IntKind.u64.wrap (n : Int)))] (vi lim) := by
  refine ⟨Lib.bitLen n, Nat.lt_of_le_of_lt (Lib.bitLen_le n 62 (by omega) (by omega)) (by omega), ?_⟩
  have wr : IntKind.u64.wrap (n : Int) = n := by simp [IntKind.wrap, IntKind.bits, IntKind.signed]; omega
  rw [wr]
  refine pcall_same [.int .u64 n] (.int .i64 (Lib.bitLen n : Nat)) (ent 105 Tryz.func105 (by kernel_rfl) rfl) rfl (fun _ _ => .v _ _) fun w _ => ?_
  have := Any.bits_Len Tryz.layBits (n : Int) w (by omega) (by omega)
  rw [Int.toNat_natCast] at this
  exact this
theorem c141 (l : List (Int × Int)) (hl : Few l) (h : ∀ x ∈ l, 0 ≤ x.1 ∧ x.1 ≤ 1000000) :
    ACall Tryz.prog 141 [.msl 1000 l.length, .v (fnV 142)] (heapOf [(1000, .arr 2 (l.map encSpan))] hfree) fun r h' =>
      r = .tup [] ∧ ∃ l' : List (Int × Int), (l'.Perm l ∧ l'.Pairwise (fun x y => x.1 ≤ y.1)) ∧ h' = heapOf [(1000, .arr 2 (l'.map encSpan))] hfree := by
  obtain ⟨lim, hlim, hb⟩ := c105 l.length hl
  refine acall_sub (cxe pl0) [(1000, 1000)] rfl tab_ok hm rfl Tryz.func141 (by kernel_rfl) rfl (Nz rfl) (by kernel_rfl) rfl ?_
  refine Xi .pure (Xi _ (Yi (hb) ?_))
  refine Xi (.gen [(1000, 1000)] 0) (Yi rfl ((c180 l hl h lim hlim).imp ?_))
  intro r h' hq
  refine Exists.elim hq.2 (fun l' hl' => ?_)
  refine Xi (.tup []) (Yi ?_ (Yi rfl (Xi l' (Yi ⟨hl'.1, hl'.2.1⟩ ?_))))
  · exact .refl _
  · rw [hl'.2.2]; rfl
theorem c61 (l : List Tm) (hl : Few l) :
    ACall Tryz.prog 61 [.msl 1000 l.length, .v (fnV 62)] (heapOf [(1000, .arr 3 (l.map encTm))] hfree) fun r h' =>
      r = .tup [] ∧ ∃ l' : List Tm, (l'.Perm l ∧ l'.Pairwise (fun x y => blt y.path x.path = false)) ∧ h' = heapOf [(1000, .arr 3 (l'.map encTm))] hfree := by
  obtain ⟨lim, hlim, hb⟩ := c105 l.length hl
  refine acall_sub (cxe pl0) [(1000, 1000)] rfl tab_ok hm rfl Tryz.func61 (by kernel_rfl) rfl (Nz rfl) (by kernel_rfl) rfl ?_
  refine Xi .pure (Xi _ (Yi (hb) ?_))
  refine Xi (.gen [(1000, 1000)] 0) (Yi rfl ((c104 l hl lim hlim).imp ?_))
  intro r h' hq
  refine Exists.elim hq.2 (fun l' hl' => ?_)
  refine Xi (.tup []) (Yi ?_ (Yi rfl (Xi l' (Yi ⟨hl'.1, hl'.2.1⟩ ?_))))
  · exact .refl _
  · rw [hl'.2.2]; rfl
end Go.Eng
