/- Lemmas for the claims of this seat, without a condition: part 27 (C57, C58, C59, C70). -/
import Derived.Test.YtodcmjcogdcmlaaGreatDoorA26
namespace Go.Eng
open Go.Proofs
def smallR (r : Rl) : Bool := decide (r.path.size ≤ 100) && decide (r.arch.size ≤ 100) && decide (r.ifc.size ≤ 100) && decide (r.cert.size ≤ 100) && smallQs r.reqs
def smallX (x : List Rl) (n : Nat) : Bool := x.all smallR && decide (x.length ≤ n)
theorem c34 (x : List Rl) (n : Nat) (hl : Few x) (hr : ∀ r ∈ x, Few r.reqs) : PC 34 [sl encRl x, vi n] (vb (smallX x n)) := by
  unfold Few at hl
  refine pcall_sub (cxp pl0) rfl tab_ok hm rfl Tryz.func34 (by kernel_rfl) rfl (Nz rfl) (by kernel_rfl) ?_
  refine Xi {i : Nat // i ≤ x.length ∧ ∀ j (hj : j < x.length), j < i → smallR x[j] = true} (Xi (fun i => ⟨[(0, sl encRl x), (1, vi n), (5, vi i.1)], [], hfree⟩) (Xi (fun i => x.length - i.1) (Yi (Xi ⟨0, Nat.zero_le _, fun j _ h => by omega⟩ ?_) ?_)))
  · exact ⟨⟨Zr, Zr, Zr, trivial⟩, trivial, fun _ => .inl rfl, trivial⟩
  intro ⟨i, h1, h2⟩
  refine Yi ?_ ?_
  · intro h
    have h : (i : Int) < (x.map encRl).length := h
    have h : i < x.length := by simpa using h
    have hg : x[i]? = some x[i] := List.getElem?_eq_getElem h
    have no : smallR x[i] = false → false = smallX x n := fun e => by
      unfold smallX
      have : x.all smallR = false := by
        rw [Bool.eq_false_iff]; intro ha
        have := List.all_eq_true.1 ha _ (List.getElem_mem h)
        rw [e] at this; cases this
      rw [this]; rfl
    have hc := c35 x[i].reqs (hr _ (List.getElem_mem h))
    refine Xi (encRl x[i]) (Yi (Yi (by show (0 : Int) ≤ i; omega) (by simp [hg])) (Yi rfl ?_))
    refine Yi ?_ ?_
    · intro h3
      have h3 : (100 : Int) < ((x[i].path.size : Nat) : Int) := h3
      exact .of_eq (congrArg vb (no (by unfold smallR; rw [decide_eq_false (by omega : ¬ x[i].path.size ≤ 100)]; simp)))
    intro h3
    have h3 : ¬ (100 : Int) < ((x[i].path.size : Nat) : Int) := h3
    refine Xi (encRl x[i]) (Yi (Yi (by show (0 : Int) ≤ i; omega) (by simp [hg])) (Yi rfl ?_))
    refine Yi ?_ ?_
    · intro h4
      have h4 : (100 : Int) < ((x[i].arch.size : Nat) : Int) := h4
      exact .of_eq (congrArg vb (no (by unfold smallR; rw [decide_eq_false (by omega : ¬ x[i].arch.size ≤ 100)]; simp)))
    intro h4
    have h4 : ¬ (100 : Int) < ((x[i].arch.size : Nat) : Int) := h4
    refine Xi (encRl x[i]) (Yi (Yi (by show (0 : Int) ≤ i; omega) (by simp [hg])) (Yi rfl ?_))
    refine Yi ?_ ?_
    · intro h5
      have h5 : (100 : Int) < ((x[i].ifc.size : Nat) : Int) := h5
      exact .of_eq (congrArg vb (no (by unfold smallR; rw [decide_eq_false (by omega : ¬ x[i].ifc.size ≤ 100)]; simp)))
    intro h5
    have h5 : ¬ (100 : Int) < ((x[i].ifc.size : Nat) : Int) := h5
    refine Xi (encRl x[i]) (Yi (Yi (by show (0 : Int) ≤ i; omega) (by simp [hg])) (Yi rfl ?_))
    refine Yi ?_ ?_
    · intro h6
      have h6 : (100 : Int) < ((x[i].cert.size : Nat) : Int) := h6
      exact .of_eq (congrArg vb (no (by unfold smallR; rw [decide_eq_false (by omega : ¬ x[i].cert.size ≤ 100)]; simp)))
    intro h6
    have h6 : ¬ (100 : Int) < ((x[i].cert.size : Nat) : Int) := h6
    refine Xi (encRl x[i]) (Yi (Yi (by show (0 : Int) ≤ i; omega) (by simp [hg])) (Yi rfl ?_))
    refine Or.elim (Bool.eq_false_or_eq_true (smallQs x[i].reqs)) (fun e => ?_) (fun e => ?_)
    rotate_left
    · rw [e] at hc
      refine Xi .pure (Xi _ (Yi (hc) ?_))
      exact .of_eq (congrArg vb (no (by unfold smallR; rw [e, Bool.and_false])))
    rw [e] at hc
    refine Xi .pure (Xi _ (Yi (hc) ?_))
    refine Yi (by show InI64 ((i : Int) + 1); unfold InI64; omega) ?_
    refine Xi ⟨i + 1, by omega, fun j hj hji => ?_⟩ ?_
    · rcases Nat.lt_or_ge j i with z | z
      · exact h2 j hj z
      · have : j = i := by omega
        subst this; unfold smallR
        rw [decide_eq_true (by omega : x[j].path.size ≤ 100), decide_eq_true (by omega : x[j].arch.size ≤ 100), decide_eq_true (by omega : x[j].ifc.size ≤ 100), decide_eq_true (by omega : x[j].cert.size ≤ 100), e]; rfl
    · exact ⟨by show x.length - (i + 1) < x.length - i; omega, ⟨Zr, Zr, Zr, trivial⟩, trivial, fun _ => .inl rfl, trivial⟩
  · intro h
    have h : ¬ (i : Int) < (x.map encRl).length := h
    have h : ¬ i < x.length := by simpa using h
    have ha : x.all smallR = true := List.all_eq_true.2 fun q hq => by
      obtain ⟨j, hj, rfl⟩ := List.getElem_of_mem hq
      exact h2 j hj (by omega)
    refine Yi ?_ ?_
    · intro h3
      have h3 : ((x.map encRl).length : Int) ≤ n := h3
      rw [List.length_map] at h3
      exact .of_eq (congrArg vb (show true = smallX x n by unfold smallX; rw [ha, decide_eq_true (by omega)]; rfl))
    · intro h3
      have h3 : ¬ ((x.map encRl).length : Int) ≤ n := h3
      rw [List.length_map] at h3
      exact .of_eq (congrArg vb (show false = smallX x n by unfold smallX; rw [decide_eq_false (by omega), Bool.and_false]))
theorem c11 (x : List Rl) (ifs : List (List AV)) (roots : List Rq) (hl : Few x) (hr : ∀ r ∈ x, Few r.reqs) (hq : Few roots) : PC 11 [ixV x ifs, sl encRq roots] (vb (smallX x 16 && smallQs roots)) := by
  have h1 := c34 x 16 hl hr
  have h2 := c35 roots hq
  cases e : smallX x 16 with
  | true =>
    rw [e] at h1
    refine pcall_sub (cxp pl0) rfl tab_ok hm rfl Tryz.func11 (by kernel_rfl) rfl (Nz rfl) (by kernel_rfl) ?_
    refine Xi .pure (Xi _ (Yi (h1) ?_))
    refine Xi .pure (Xi _ (Yi (h2) ?_))
    exact .refl _
  | false =>
    rw [e] at h1
    refine pcall_sub (cxp pl0) rfl tab_ok hm rfl Tryz.func11 (by kernel_rfl) rfl (Nz rfl) (by kernel_rfl) ?_
    refine Xi .pure (Xi _ (Yi (h1) ?_))
    exact .refl _
end Go.Eng

namespace Go.Eng
open Go.Proofs
abbrev nilA : AV := .v (.slice none 0 0)
abbrev exR : List (List AV) := [[vs exA, vi 1, vi 0, vi 0, sl encRq [⟨exB, [(2000, 1000000)]⟩], vs mt, vs mt, vs mt, vb false], [vs exB, vi 1, vi 0, vi 0, nilA, vs mt, vs mt, vs mt, vb false], [vs exB, vi 1, vi 1, vi 0, nilA, vs mt, vs mt, vs mt, vb false]]
theorem subR (p : ByteArray) (a b c : Int) : SubL [vs p, vi a, vi b, vi c, nilA, vs mt, vs mt, vs mt, vb false] [vs p, vi a, vi b, vi c, .slice .none [], vs mt, vs mt, vs mt, vb false] :=
  ⟨.refl _, .refl _, .refl _, .refl _, .nil, .refl _, .refl _, .refl _, .refl _, trivial⟩
theorem subX : SubE exR (exIx.map encRl) := ⟨SubL.refl _, subR exB 1 0 0, subR exB 1 1 0, trivial⟩
theorem subI : Sub (.agg [.slice .none exR, nilA]) (ixV exIx []) := Sub.agg ⟨Sub.slice subX, .nil, trivial⟩
theorem subE3 : Sub (.tup [.agg [.slice .none exR, nilA], sl encRq exRoots, sl encNf exInf]) (.tup [ixV exIx [], sl encRq exRoots, sl encNf exInf]) := Sub.tup ⟨subI, .refl _, .refl _, trivial⟩
theorem c33 : PC 33 [] (.tup [ixV exIx [], sl encRq exRoots, sl encNf exInf]) := by
  refine pcall_sub (cxp pl0) rfl tab_ok hm rfl Tryz.func33 (by kernel_rfl) rfl (Nz rfl) (by kernel_rfl) ?_
  refine Yi (Nz rfl) (Yi (Nz rfl) (Yi (Nz rfl) (Yi (Nz rfl) (Yi (Nz rfl) (Yi (Nz rfl) (Yi (Nz rfl) ?_))))))
  exact subE3
end Go.Eng

namespace Go.Eng
open Go.Proofs
abbrev H45 (x : List Rl) (ifs : List (List AV)) (roots : List Rq) (s : List Sl) : Prop := PC 45 [ixV x ifs, sl encRq roots, sl encSl s] (vi (solvesP x roots s))
abbrev availableB (x : List Rl) (roots : List Rq) (s : List Sl) : Bool := decide (solvesP x roots s = 0) && !s.any (goneB x)
theorem c23 (x : List Rl) (ifs : List (List AV)) (roots : List Rq) (s : List Sl) (h84 : H84 x ifs) (h45 : H45 x ifs roots s) (hx : ∀ r ∈ x, FewR r) (hs : Few s) : PC 23 [ixV x ifs, sl encRq roots, sl encSl s] (vb (availableB x roots s)) := by
  have hc := c51 (Stable.ptr [sl encRl x, .slice .none ifs]) s (goneB x) (fun y _ => c52 x ifs y h84 hx) hs
  cases e : s.any (goneB x) with
  | true =>
    rw [e] at hc
    refine pcall_sub (cxp (plz [3])) rfl tab_ok hm rfl Tryz.func23 (by kernel_rfl) rfl (Nz rfl) (by kernel_rfl) ?_
    refine Yi (Nz rfl) ?_
    refine Xi .pure (Xi _ (Yi (h45) ?_))
    refine Yi ?_ ?_
    · intro h
      have h : solvesP x roots s = 0 := h
      refine Xi .pure (Xi _ (Yi (hc) ?_))
      exact .of_eq (congrArg vb (show false = availableB x roots s by unfold availableB; rw [e, Bool.not_true, Bool.and_false]))
    · intro h
      have h : ¬ solvesP x roots s = 0 := h
      exact .of_eq (congrArg vb (show false = availableB x roots s by unfold availableB; rw [decide_eq_false h]; rfl))
  | false =>
    rw [e] at hc
    refine pcall_sub (cxp (plz [3])) rfl tab_ok hm rfl Tryz.func23 (by kernel_rfl) rfl (Nz rfl) (by kernel_rfl) ?_
    refine Yi (Nz rfl) ?_
    refine Xi .pure (Xi _ (Yi (h45) ?_))
    refine Yi ?_ ?_
    · intro h
      have h : solvesP x roots s = 0 := h
      refine Xi .pure (Xi _ (Yi (hc) ?_))
      exact .of_eq (congrArg vb (show true = availableB x roots s by unfold availableB; rw [e, decide_eq_true h]; rfl))
    · intro h
      have h : ¬ solvesP x roots s = 0 := h
      exact .of_eq (congrArg vb (show false = availableB x roots s by unfold availableB; rw [decide_eq_false h]; rfl))
end Go.Eng

namespace Go.Eng
open Go.Proofs
theorem deriveGo_in {x : List Rl} {roots : List Rq} {l0 : List Nf} : ∀ (l : List Nf) (d d' : List (List Tm)), (∀ i ∈ l, i ∈ l0) → (∀ t ∈ d, InU (pathsU x roots l0) t) → deriveGo x roots l d = some d' → ∀ t ∈ d', InU (pathsU x roots l0) t
  | [], d, d', _, hd, h => by
    have : d = d' := Option.some.inj h
    exact this ▸ hd
  | i :: l, d, d', hi, hd, h => by
    unfold deriveGo at h
    cases e : inferP x roots d i with
    | none => rw [e] at h; cases h
    | some t =>
      rw [e] at h
      refine deriveGo_in l (d ++ [t]) d' (fun j hj => hi j (List.mem_cons_of_mem _ hj)) (fun u hu => ?_) h
      rcases List.mem_append.1 hu with hu | hu
      · exact hd u hu
      · rw [List.mem_singleton.1 hu]; exact inferP_in (hi i (List.mem_cons_self ..)) hd e
theorem derived_few {x : List Rl} {roots : List Rq} {l : List Nf} (h : (deriveP x roots l).2 = 0) : ∀ t ∈ (deriveP x roots l).1, FewT t := fun t ht => by
  obtain ⟨h1, h2, h3, h4⟩ := deriveP_ok h
  have := (deriveGo_in (l0 := l) l [] _ (fun _ h => h) (fun _ h => by cases h) h4 t ht).fewI (pathsU_few h1 h2 h3)
  exact ⟨by have := this.1; unfold Few; omega, this.2⟩
theorem fold_out (l : List Vis) (a : List ByteArray) : l.foldl outStep a = a ++ l.map (fun v => v.rel.path) := by
  induction l generalizing a with
  | nil => simp
  | cons v l ih => rw [List.foldl_cons, ih, List.map_cons]; simp [outStep]
abbrev pl18 : Pol := ⟨[], [], [], [], [], [], [], [(24, (10, 0, 900, 1))], [], [], [4, 5, 7]⟩
abbrev decV (p : List ByteArray × Int) : AV := .tup [sl encStr1 p.1, vi p.2]
theorem nilD (e : Int) : Sub (.tup [.v (.slice none 0 0), vi e]) (decV ([], e)) := Sub.tup ⟨.nil, .refl _, trivial⟩
theorem c18 (x : List Rl) (ifs : List (List AV)) (roots : List Rq) (s : List Sl) (h84 : H84 x ifs) (hx : ∀ r ∈ x, FewR r) (hr : ∀ q ∈ roots, FewQ q) (hs : s.length ≤ 500) : PC 18 [ixV x ifs, sl encRq roots, sl encSl s] (decV (decisionsP x roots s)) := by
  have hsf : Few s := by unfold Few; omega
  have hc36 : PC 36 [ixV x ifs, sl encRq roots, .v (.slice none 0 0)] (ckRes x ifs roots []) := (c36 x ifs roots [] hx hr (fun _ => c165 x ifs roots h84)).args ⟨.refl _, .refl _, .nil, trivial⟩
  have hc41 := c41 s hsf
  obtain ⟨D, hD⟩ : ∃ D, D = decisionsP x roots s := ⟨_, rfl⟩
  rw [← hD]
  unfold decisionsP at hD
  by_cases h0 : checkIx x ≠ 0 ∨ checkRqs roots ≠ 0
  · have e : deriveP x roots [] = ([], 1) := by unfold deriveP; rw [if_pos h0]
    have hD : D = ([], 1) := by rw [hD, if_pos (h0.elim .inl (fun h => .inr (.inl h)))]
    rw [← ckRes_err e (by decide)] at hc36
    refine pcall_sub (cxp pl18) rfl tab_ok hm rfl Tryz.func18 (by kernel_rfl) rfl (Nz rfl) (by kernel_rfl) ?_
    refine Yi (Nz rfl) ?_
    refine Xi .pure (Xi _ (Yi (hc36) ?_))
    refine Yi ?_ ?_
    · intro _
      exact (nilD 1).trans (.of_eq (by rw [hD]))
    · intro h; exact absurd (show (1 : Int) ≠ 0 by decide) h
  · have e : deriveP x roots [] = ([], 0) := by unfold deriveP; rw [if_neg h0]; rfl
    have h1 : checkIx x = 0 := Classical.not_not.1 fun h => h0 (.inl h)
    have h2 : checkRqs roots = 0 := Classical.not_not.1 fun h => h0 (.inr h)
    rw [← ckRes_ok e] at hc36
    cases hi : increasing s with
    | false =>
      have hD : D = ([], 1) := by rw [hD, if_pos (.inr (.inr hi))]
      rw [hi] at hc41
      refine pcall_sub (cxp pl18) rfl tab_ok hm rfl Tryz.func18 (by kernel_rfl) rfl (Nz rfl) (by kernel_rfl) ?_
      refine Yi (Nz rfl) ?_
      refine Xi .pure (Xi _ (Yi (hc36) ?_))
      refine Yi ?_ ?_
      · intro h; exact absurd rfl h
      intro _
      refine Xi .pure (Xi _ (Yi (hc41) ?_))
      exact (nilD 1).trans (.of_eq (by rw [hD]))
    | true =>
      have hD : D = if (visits x roots s).2 then ((visits x roots s).1.map fun v => v.rel.path, 0) else ([], 6) := by
        rw [hD, if_neg (fun h => h.elim (fun h => h0 (.inl h)) (fun h => h.elim (fun h => h0 (.inr h)) (fun h => by rw [hi] at h; cases h)))]
      rw [hi] at hc41
      have hcd := c42d x ifs roots [] s [] h84 h1 hx (by have := reqs_few h2; omega) (fun q hq => (hr q hq).1) hs rfl
      have hf : (visits x roots s).1.foldl outStep [] = (visits x roots s).1.map (fun v => v.rel.path) := by rw [fold_out]; rfl
      rw [hf] at hcd
      refine pcall_sub (cxp pl18) rfl tab_ok hm rfl Tryz.func18 (by kernel_rfl) rfl (Nz rfl) (by kernel_rfl) ?_
      refine Yi (Nz rfl) ?_
      refine Xi .pure (Xi _ (Yi (hc36) ?_))
      refine Yi ?_ ?_
      · intro h; exact absurd rfl h
      intro _
      refine Xi .pure (Xi _ (Yi (hc41) ?_))
      refine Xi ⟨[(2, sl encSl s), (8, .cptr (encCk x (.slice .none ifs) roots []))], [], hfree⟩ (Yi ?_ ?_)
      · exact ⟨⟨Zr, Zr, trivial⟩, trivial, fun _ => .inl rfl, trivial⟩
      refine Xi ⟨[(2, sl encSl s), (8, .cptr (encCk x (.slice .none ifs) roots [])), (10, .ref 10 0)], [(10, .cells [.v (.slice none 0 0)])], hfree⟩ (Yi ?_ ?_)
      · exact ⟨⟨Zr, Zr, Zr, trivial⟩, ⟨Zr, trivial⟩, fun _ => .inl rfl, trivial⟩
      refine Xi (.gen [(10, 1000), (900, 1001)] 0) (Yi rfl (hcd.imp ?_))
      intro v g q
      have q1 := q.1
      have q2 := q.2
      refine Or.elim (Bool.eq_false_or_eq_true (visits x roots s).2) (fun hv => ?_) (fun hv => ?_)
      · rw [hv] at q1 hD
        subst q1
        subst q2
        refine Xi ⟨[(10, .ref 10 0)], [(10, .cells [.slice (.id 900 1) (((visits x roots s).1.map (fun v => v.rel.path)).map encStr1)]), (900, .tok 1 (((visits x roots s).1.map (fun v => v.rel.path)).map encStr1).length)], hfree⟩ (Yi ?_ ?_)
        · exact ⟨⟨Zr, trivial⟩, ⟨Zr, Zr, trivial⟩, fun _ => .inl rfl, trivial⟩
        exact .of_eq (show decV ((visits x roots s).1.map (fun v => v.rel.path), 0) = decV D by rw [hD]; rfl)
      · rw [hv] at q1 hD
        subst q1
        subst q2
        exact (nilD 6).trans (.of_eq (show decV ([], 6) = decV D by rw [hD]; rfl))
abbrev pl21 : Pol := ⟨[7], [], [], [], [], [], [], [], [], [], [2, 4, 8, 10, 11, 12, 13]⟩
theorem c21 (x : List Rl) (ifs : List (List AV)) (roots : List Rq) (a : An) (h84 : H84 x ifs) (h45 : H45 x ifs roots a.sel) (hx : ∀ r ∈ x, FewR r) (hr : ∀ q ∈ roots, FewQ q) (hs : a.sel.length ≤ 500) (hk : Few a.skips) : PC 21 [ixV x ifs, sl encRq roots, .agg (encAn a)] (vi (checkP x roots a)) := by
  obtain ⟨found, sel, infs, skips⟩ := a
  have hs : sel.length ≤ 500 := hs
  have hc36 := c36 x ifs roots infs hx hr (fun _ => c165 x ifs roots h84)
  unfold ckRes at hc36
  obtain ⟨D, hD⟩ : ∃ D, D = checkP x roots ⟨found, sel, infs, skips⟩ := ⟨_, rfl⟩
  rw [← hD]
  unfold checkP at hD
  by_cases he : (deriveP x roots infs).2 = 0
  · rw [if_pos he] at hc36
    rw [if_neg (by rw [he]; decide)] at hD
    obtain ⟨h1, h2, h3, h4⟩ := deriveP_ok he
    have hdf := derived_few he
    have hdl : (deriveP x roots infs).1.length ≤ 65536 := derive_few
    obtain ⟨d, hd⟩ : ∃ d, d = (deriveP x roots infs).1 := ⟨_, rfl⟩
    rw [← hd] at hD hc36 hdf hdl
    have hc40 := c40 x (.slice .none ifs) roots d (by unfold Few; omega)
    refine pcall_sub (cxp pl21) rfl tab_ok hm rfl Tryz.func21 (by kernel_rfl) rfl (Nz rfl) (by kernel_rfl) ?_
    refine Yi (Nz rfl) ?_
    refine Xi .pure (Xi _ (Yi (hc36) ?_))
    refine Yi (Nz rfl) ?_
    refine Xi ⟨[(1, sl encRq roots), (3, .ref 3 0), (5, .ref 5 0), (7, .ref 7 0), (8, vi 0)], [(3, .cells [sl encRl x, .slice .none ifs]), (5, .cells [vb found, sl encSl sel, sl encNf infs, sl encSk skips]), (7, .ro [.cptr (encCk x (.slice .none ifs) roots d)])], hfree⟩ (Yi ?_ ?_)
    · exact ⟨⟨Zr, Zr, Zr, Zr, Zr, trivial⟩, ⟨Zr, Zr, Zr, trivial⟩, fun _ => .inl rfl, trivial⟩
    refine Yi ?_ ?_
    · intro h; exact absurd rfl h
    intro _
    refine Xi ⟨[(1, sl encRq roots), (3, .ref 3 0), (5, .ref 5 0), (7, .ref 7 0)], [(3, .cells [sl encRl x, .slice .none ifs]), (5, .cells [vb found, sl encSl sel, sl encNf infs, sl encSk skips]), (7, .ro [.cptr (encCk x (.slice .none ifs) roots d)])], hfree⟩ (Yi ?_ ?_)
    · exact ⟨⟨Zr, Zr, Zr, Zr, trivial⟩, ⟨Zr, Zr, Zr, trivial⟩, fun _ => .inl rfl, trivial⟩
    refine Yi ?_ ?_
    · intro hf
      have hf : found = true := hf
      have hD : D = if solvesP x roots sel ≠ 0 then 18 else if (((visits x roots sel).1.foldl (skipStep x d) (true, skips)).1 && ((visits x roots sel).1.foldl (skipStep x d) (true, skips)).2.isEmpty) then 0 else 18 := by
        rw [hD, if_neg (by show ¬ found = false; rw [hf]; decide)]
      refine Xi ⟨[(1, sl encRq roots), (3, .ref 3 0), (5, .ref 5 0), (7, .ref 7 0)], [(3, .cells [sl encRl x, .slice .none ifs]), (5, .cells [vb found, sl encSl sel, sl encNf infs, sl encSk skips]), (7, .ro [.cptr (encCk x (.slice .none ifs) roots d)])], hfree⟩ (Yi ?_ ?_)
      · exact ⟨⟨Zr, Zr, Zr, Zr, trivial⟩, ⟨Zr, Zr, Zr, trivial⟩, fun _ => .inl rfl, trivial⟩
      refine Yi (Nz rfl) ?_
      refine Xi .pure (Xi _ (Yi (h45) ?_))
      refine Yi ?_ ?_
      · intro hz
        have hz : solvesP x roots sel ≠ 0 := hz
        exact .of_eq (congrArg vi (show (18 : Int) = D by rw [hD, if_pos hz]))
      intro hz
      have hz : ¬ solvesP x roots sel ≠ 0 := hz
      have hD : D = if (((visits x roots sel).1.foldl (skipStep x d) (true, skips)).1 && ((visits x roots sel).1.foldl (skipStep x d) (true, skips)).2.isEmpty) then 0 else 18 := by rw [hD, if_neg hz]
      have hcd := c42c x ifs roots d sel (true, skips) h84 h1 hx (by have := reqs_few h2; omega) (fun q hq => (hr q hq).1) hs hdl hdf
      refine Xi ⟨[(5, .ref 5 0), (7, .ref 7 0)], [(5, .cells [vb found, sl encSl sel, sl encNf infs, sl encSk skips]), (7, .ro [.cptr (encCk x (.slice .none ifs) roots d)])], hfree⟩ (Yi ?_ ?_)
      · exact ⟨⟨Zr, Zr, trivial⟩, ⟨Zr, Zr, trivial⟩, fun _ => .inl rfl, trivial⟩
      refine Yi (Nz rfl) ?_
      refine Xi ⟨[(5, .ref 5 0), (7, .ref 7 0), (9, .ref 9 0)], [(5, .cells [vb found, sl encSl sel, sl encNf infs, sl encSk skips]), (7, .ro [.cptr (encCk x (.slice .none ifs) roots d)]), (9, .cells [vb true])], hfree⟩ (Yi ?_ ?_)
      · exact ⟨⟨Zr, Zr, Zr, trivial⟩, ⟨Zr, Zr, Zr, trivial⟩, fun _ => .inl rfl, trivial⟩
      refine Yi (Nz rfl) ?_
      refine Xi ⟨[(5, .ref 5 0), (7, .ref 7 0), (9, .ref 9 0), (10, .ref 10 0)], [(5, .cells [vb found, sl encSl sel, sl encNf infs, sl encSk skips]), (7, .ro [.cptr (encCk x (.slice .none ifs) roots d)]), (9, .cells [vb true]), (10, .cells [sl encSk skips])], hfree⟩ (Yi ?_ ?_)
      · exact ⟨⟨Zr, Zr, Zr, Zr, trivial⟩, ⟨Zr, Zr, Zr, Zr, trivial⟩, fun _ => .inl rfl, trivial⟩
      refine Xi (.gen [(10, 1000), (9, 1001)] 0) (Yi rfl (hcd.imp ?_))
      intro v g q
      have q1 := q.1
      have q2 := q.2
      subst q1
      subst q2
      refine Exists.elim (show ∃ A, A = (visits x roots sel).1.foldl (skipStep x d) (true, skips) from ⟨_, rfl⟩) (fun A hA => ?_)
      refine Xi ⟨[(9, .ref 9 0), (10, .ref 10 0)], [(9, .cells [vb A.1]), (10, .cells [sl encSk A.2])], hfree⟩ (Yi ?_ ?_)
      · exact ⟨⟨Zr, Zr, trivial⟩, ⟨⟨congrArg (fun a : Bool × List Sk => HO.cells [vb a.1]) hA.symm, rfl⟩, ⟨congrArg (fun a : Bool × List Sk => HO.cells [sl encSk a.2]) hA.symm, rfl⟩, trivial⟩, fun _ => .inl rfl, trivial⟩
      rw [← hA] at hD
      refine Yi ?_ ?_
      · intro h5
        have h5 : A.1 = true := h5
        refine Yi ?_ ?_
        · intro h6
          have h6 : (0 : Int) < (A.2.map encSk).length := h6
          have h6 : A.2.isEmpty = false := by
            cases e : A.2 with
            | nil => rw [e] at h6; exact absurd h6 (by decide)
            | cons _ _ => rfl
          exact .of_eq (congrArg vi (show (18 : Int) = D by rw [hD, h5, h6]; rfl))
        · intro h6
          have h6 : ¬ (0 : Int) < (A.2.map encSk).length := h6
          have h6 : A.2.isEmpty = true := by
            cases e : A.2 with
            | nil => rfl
            | cons _ _ => rw [e] at h6; exact absurd (by rw [List.map_cons, List.length_cons]; omega) h6
          exact .of_eq (congrArg vi (show (0 : Int) = D by rw [hD, h5, h6]; rfl))
      · intro h5
        have h5 : A.1 = false := h5
        exact .of_eq (congrArg vi (show (18 : Int) = D by rw [hD, h5]; rfl))
    · intro hf
      have hf : found = false := hf
      have hD : D = if (!sel.isEmpty || !skips.isEmpty || !refutedB d) then 18 else 0 := by
        rw [hD, if_pos hf]
      refine Yi ?_ ?_
      · intro h5
        have h5 : (0 : Int) < (sel.map encSl).length := h5
        have h5 : sel.isEmpty = false := by
          cases e : sel with
          | nil => rw [e] at h5; exact absurd h5 (by decide)
          | cons _ _ => rfl
        exact .of_eq (congrArg vi (show (18 : Int) = D by rw [hD, h5]; rfl))
      intro h5
      have h5 : ¬ (0 : Int) < (sel.map encSl).length := h5
      have h5 : sel.isEmpty = true := by
        cases e : sel with
        | nil => rfl
        | cons _ _ => rw [e] at h5; exact absurd (by rw [List.map_cons, List.length_cons]; omega) h5
      refine Yi ?_ ?_
      · intro h6
        have h6 : (0 : Int) < (skips.map encSk).length := h6
        have h6 : skips.isEmpty = false := by
          cases e : skips with
          | nil => rw [e] at h6; exact absurd h6 (by decide)
          | cons _ _ => rfl
        exact .of_eq (congrArg vi (show (18 : Int) = D by rw [hD, h5, h6]; rfl))
      intro h6
      have h6 : ¬ (0 : Int) < (skips.map encSk).length := h6
      have h6 : skips.isEmpty = true := by
        cases e : skips with
        | nil => rfl
        | cons _ _ => rw [e] at h6; exact absurd (by rw [List.map_cons, List.length_cons]; omega) h6
      refine Or.elim (Bool.eq_false_or_eq_true (refutedB d)) (fun h7 => ?_) (fun h7 => ?_)
      · rw [h7] at hc40
        refine Xi .pure (Xi _ (Yi (hc40) ?_))
        exact .of_eq (congrArg vi (show (0 : Int) = D by rw [hD, h5, h6, h7]; rfl))
      · rw [h7] at hc40
        refine Xi .pure (Xi _ (Yi (hc40) ?_))
        exact .of_eq (congrArg vi (show (18 : Int) = D by rw [hD, h5, h6, h7]; rfl))
  · rw [if_neg he] at hc36
    rw [if_pos he] at hD
    refine pcall_sub (cxp pl21) rfl tab_ok hm rfl Tryz.func21 (by kernel_rfl) rfl (Nz rfl) (by kernel_rfl) ?_
    refine Yi (Nz rfl) ?_
    refine Xi .pure (Xi _ (Yi (hc36) ?_))
    refine Yi (Nz rfl) ?_
    refine Xi ⟨[(8, vi (deriveP x roots infs).2)], [], hfree⟩ (Yi ?_ ?_)
    · exact ⟨⟨Zr, trivial⟩, trivial, fun _ => .inl rfl, trivial⟩
    refine Yi ?_ ?_
    · intro _
      exact .of_eq (congrArg vi hD.symm)
    · intro h; exact absurd he h
end Go.Eng
