/- Lemmas for the claims of this seat, without a condition: part 29 (R25). -/
import Derived.Test.YtodcmjcogdcmlaaGreatDoorA28
namespace Go.Eng
open Go.Proofs
abbrev derR (x : List Rl) (roots : List Rq) (l : List Nf) : AV := .tup [sl encInc (deriveP x roots l).1, vi (deriveP x roots l).2]
theorem derR_no {x : List Rl} {roots : List Rq} {l : List Nf} {e : Int} (h : deriveP x roots l = ([], e)) : Sub (.tup [.v (.slice none 0 0), vi e]) (derR x roots l) :=
 (show Sub (.tup [.v (.slice none 0 0), vi e]) (.tup [.slice .none [], vi e]) from Sub.tup ⟨.nil, .refl _, trivial⟩).trans (.of_eq (show AV.tup [.slice .none [], vi e] = derR x roots l by unfold derR; rw [h]; rfl))
theorem deriveP_eq (x : List Rl) (roots : List Rq) (l : List Nf) : deriveP x roots l = if checkIx x ≠ 0 ∨ checkRqs roots ≠ 0 then ([], (1 : Int)) else if 65536 < l.length then ([], (7 : Int)) else match deriveGo x roots l [] with | none => ([], (18 : Int)) | some d => (d, (0 : Int)) := rfl
theorem derived_fewA {x : List Rl} {roots : List Rq} {l : List Nf} : ∀ t ∈ (deriveP x roots l).1, FewT t := by
 by_cases h : (deriveP x roots l).2 = 0
 ·exact derived_few h
 ·rw [derive_err h]; exact fun t ht => by cases ht
theorem ck_yes0 {a b : Int} (h : (decide (a = 0) && decide (b = 0)) = true) : a = 0 ∧ b = 0 := by simpa using h
theorem ck_yes {a b : Int} (h : (decide (a = 0) && decide (b = 0)) = true) : ¬ (a ≠ 0 ∨ b ≠ 0) := by have := ck_yes0 h; omega
theorem ck_no {a b : Int} (h : (decide (a = 0) && decide (b = 0)) = false) : a ≠ 0 ∨ b ≠ 0 := by
 simp only [Bool.and_eq_false_iff, decide_eq_false_iff_not] at h; exact h
set_option maxHeartbeats 4000000 in
theorem c13 (x : List Rl) (ifs : List (List AV)) (roots : List Rq) (l : List Nf) (hx : ∀ r ∈ x, FewR r) (hr : ∀ q ∈ roots, FewQ q) : PC 13 [.agg [sl encRl x, .slice .none ifs], sl encRq roots, sl encNf l] (derR x roots l) := by
 refine pcall_sub (cxp ⟨[], [], [], [], [], [], [], [], [], [], [3, 8, 10]⟩) rfl tab_ok hm rfl Tryz.func13 (by kernel_rfl) rfl (Nz rfl) (by kernel_rfl) ?_
 refine Yi (Nz rfl) ?_
 refine Or.elim (Bool.eq_false_or_eq_true (decide (checkIx x = 0) && decide (checkRqs roots = 0))) (fun h1 => ?_) (fun h1 => ?_)
 ·have h1 : (decide (checkIx x = 0) && decide (checkRqs roots = 0)) = true := h1
  have hc2 := c37 x ifs roots hx hr
  rw [show (decide (checkIx x = 0) && decide (checkRqs roots = 0)) = true from h1] at hc2
  refine Xi .pure (Xi _ (Yi hc2 ?_))
  refine Xi ⟨[(1, sl encRq roots), (2, sl encNf l), (3, .ref 3 0)], [(3, .cells [sl encRl x, .slice .none ifs])], hfree⟩ (Yi ⟨⟨Zr,Zr,Zr,Tv⟩,⟨Zr,Tv⟩,Fh,Tv⟩ ?_)
  refine Yi (fun h3 => ?_) (fun h3 => ?_)
  ·have h3 : (65536 : Int) < ((l.map encNf).length : Int) := h3
   have n3 : 65536 < l.length := by have q := h3; rw [Lm] at q; omega
   exact derR_no (by rw [deriveP_eq, if_neg (ck_yes h1), if_pos (by have h9 := h3; rw [Lm] at h9; omega)])
  have h3 : ¬ ((65536 : Int) < ((l.map encNf).length : Int)) := h3
  have n3 : ¬ 65536 < l.length := by have q := h3; rw [Lm] at q; omega
  have hb3 : l.length ≤ 65536 := by have h9 := h3; rw [Lm] at h9; omega
  have e0 : checkIx x = 0 := (ck_yes0 h1).1
  have hU := pathsU_few (x := x) (roots := roots) (l := l) e0 (ck_yes0 h1).2 hb3
  refine Xi {q : Nat × List (List Tm) // q.1 ≤ l.length ∧ deriveGo x roots (l.take q.1) [] = some q.2 ∧ q.2.length = q.1 ∧ ∀ t ∈ q.2, InU (pathsU x roots l) t} (Xi (fun q => ⟨[(1, sl encRq roots), (2, sl encNf l), (3, .ref 3 0), (8, .slice (.id 19 1) (q.1.2.map encInc)), (9, vi q.1.1)], [(3, .cells [sl encRl x, .slice .none ifs]), (19, .tok 1 q.1.2.length)], hfree⟩) (Xi (fun q => l.length - q.1.1) (Yi (Xi ⟨(0, []), Nat.zero_le _, rfl, rfl, fun t ht => by cases ht⟩ ?_) ?_)))
  ·exact ⟨⟨Zr, Zr, Zr, Zr, Zr, Tv⟩, ⟨Zr, Zr, Tv⟩, Fh, Tv⟩
  intro ⟨⟨i, D⟩, i1, i2, i3, i4⟩
  have i1 : i ≤ l.length := i1
  have i2 : deriveGo x roots (l.take i) [] = some D := i2
  have i3 : D.length = i := i3
  have i4 : ∀ t ∈ D, InU (pathsU x roots l) t := i4
  refine Yi (fun h5 => ?_) (fun h5 => ?_)
  ·have h5 : (i : Int) < ((l.map encNf).length : Int) := h5
   have n5 : i < l.length := by have q := h5; rw [Lm] at q; omega
   have g5 : l[i]? = some l[i] := Ge n5
   refine Yi (Nz rfl) ?_
   refine Xi (encNf l[i]) (Yi (Yi (show (0 : Int) ≤ i by omega) (map_at g5)) (Yi rfl ?_))
   refine Yi (Nz rfl) ?_
   refine Or.elim (Bool.eq_false_or_eq_true (inferP x roots D l[i]).isSome) (fun h6 => ?_) (fun h6 => ?_)
   ·have h6 : (inferP x roots D l[i]).isSome = true := h6
    have hc7 := (show PC 38 [ixV x ifs, sl encRq roots, .agg (encNf l[i]), sl encInc D] (.tup [sl encTm (inferL x roots D l[i]), vb (inferP x roots D l[i]).isSome]) from c38 x ifs roots D l[i] e0 hx (fun q hq => (hr q hq).1) (fun t ht => (i4 t ht).fewI hU))
    rw [show (inferP x roots D l[i]).isSome = true from h6] at hc7
    refine Xi _ (Yi hc7 ?_)
    refine Yi (by kernel_rfl) ?_
    refine Xi ⟨[(1, sl encRq roots), (2, sl encNf l), (3, .ref 3 0), (8, .slice (.id 19 1) (D.map encInc)), (9, vi i), (10, sl encTm (inferL x roots D l[i])), (11, vb true)], [(3, .cells [sl encRl x, .slice .none ifs]), (19, .tok 1 D.length)], hfree⟩ (Yi ⟨⟨Zr,Zr,Zr,Zr,Zr,Zr,Zr,Tv⟩,⟨Zr,Zr,Tv⟩,Fh,Tv⟩ ?_)
    have b8 : AllLen 1 [[sl encTm (inferL x roots D l[i])]] ∧ (D.map encInc).length = D.length ∧ ((D.map encInc).length + ([[sl encTm (inferL x roots D l[i])]] : List (List AV)).length) * 24 ≤ 140737488355328 ∧ (D.map encInc).length + ([[sl encTm (inferL x roots D l[i])]] : List (List AV)).length ≤ 9223372036854775807 := ⟨⟨rfl, trivial⟩, (by simp), (by simp only [Lm, List.length_cons, List.length_nil]; omega), (by simp only [Lm, List.length_cons, List.length_nil]; omega)⟩
    refine Yi b8 ?_
    refine Xi ⟨[(1, sl encRq roots), (2, sl encNf l), (3, .ref 3 0), (8, .slice (.id 19 1) ((D.map encInc) ++ [[sl encTm (inferL x roots D l[i])]])), (9, vi i)], [(3, .cells [sl encRl x, .slice .none ifs]), (19, .tok 1 ((D.map encInc).length + ([[sl encTm (inferL x roots D l[i])]] : List (List AV)).length))], hfree⟩ (Yi ⟨⟨Zr,Zr,Zr,Zr,Zr,Tv⟩,⟨Zr,Zr,Tv⟩,Fh,Tv⟩ ?_)
    refine Yi (by show InI64 ((i : Int) + (1 : Int)); unfold InI64; omega) ?_
    refine Exists.elim (Option.isSome_iff_exists.1 h6) (fun t ht => ?_)
    have etl := inferL_ok ht
    have hgt := go_take n5 i2
    rw [ht] at hgt
    refine Xi ⟨(i + 1, (D ++ [t])), by omega, hgt, by rw [List.length_append, i3]; rfl, fun u hu => (List.mem_append.1 hu).elim (i4 u) (fun hu => by rw [List.mem_singleton.1 hu]; exact inferP_in (List.getElem_mem n5) i4 ht)⟩ ?_
    exact ⟨by show l.length - (i + 1) < l.length - i; omega, ⟨Zr, Zr, Zr, ⟨(show AV.slice (.id 19 1) (D.map encInc ++ [[sl encTm (inferL x roots D l[i])]]) = .slice (.id 19 1) ((D ++ [t]).map encInc) by rw [etl, List.map_append]; rfl), rfl⟩, Zr, Tv⟩, ⟨Zr, ⟨(show HO.tok 1 ((D.map encInc).length + ([[sl encTm (inferL x roots D l[i])]] : List (List AV)).length) = .tok 1 (D ++ [t]).length by rw [Lm, List.length_append]; rfl), rfl⟩, Tv⟩, Fh, Tv⟩
   have h6 : (inferP x roots D l[i]).isSome = false := h6
   have hc10 := (show PC 38 [ixV x ifs, sl encRq roots, .agg (encNf l[i]), sl encInc D] (.tup [sl encTm (inferL x roots D l[i]), vb (inferP x roots D l[i]).isSome]) from c38 x ifs roots D l[i] e0 hx (fun q hq => (hr q hq).1) (fun t ht => (i4 t ht).fewI hU))
   rw [show (inferP x roots D l[i]).isSome = false from h6] at hc10
   refine Xi _ (Yi hc10 ?_)
   refine Yi (by kernel_rfl) ?_
   refine Xi ⟨[(1, sl encRq roots), (2, sl encNf l), (3, .ref 3 0), (8, .slice (.id 19 1) (D.map encInc)), (9, vi i), (10, sl encTm (inferL x roots D l[i])), (11, vb false)], [(3, .cells [sl encRl x, .slice .none ifs]), (19, .tok 1 D.length)], hfree⟩ (Yi ⟨⟨Zr,Zr,Zr,Zr,Zr,Zr,Zr,Tv⟩,⟨Zr,Zr,Tv⟩,Fh,Tv⟩ ?_)
   have hgt := go_take n5 i2
   rw [show inferP x roots D l[i] = none from Option.not_isSome_iff_eq_none.1 (by rw [h6]; decide)] at hgt
   exact derR_no (by rw [deriveP_eq, if_neg (ck_yes h1), if_neg (by omega), go_none hgt])
  have h5 : ¬ ((i : Int) < ((l.map encNf).length : Int)) := h5
  have n5 : ¬ i < l.length := by have q := h5; rw [Lm] at q; omega
  rw [List.take_of_length_le (by omega)] at i2
  exact .of_eq (show AV.tup [sl encInc D, vi 0] = derR x roots l by unfold derR; rw [deriveP_eq, if_neg (ck_yes h1), if_neg (by omega), i2])
 have h1 : (decide (checkIx x = 0) && decide (checkRqs roots = 0)) = false := h1
 have hc13 := c37 x ifs roots hx hr
 rw [show (decide (checkIx x = 0) && decide (checkRqs roots = 0)) = false from h1] at hc13
 refine Xi .pure (Xi _ (Yi hc13 ?_))
 exact derR_no (by rw [deriveP_eq, if_pos (ck_no h1)])
set_option maxHeartbeats 4000000 in
theorem c16 (x : List Rl) (ifs : List (List AV)) (roots : List Rq) (l : List Nf) (hx : ∀ r ∈ x, FewR r) (hr : ∀ q ∈ roots, FewQ q) : PC 16 [.agg [sl encRl x, .slice .none ifs], sl encRq roots, sl encNf l] (vi (refutesP x roots l)) := by
 have hdl := derive_few (x := x) (roots := roots) (l := l)
 have hdm : ((deriveP x roots l).1.map encInc).length ≤ 65536 := by rw [Lm]; exact hdl
 refine pcall_sub (cxp ⟨[], [], [], [], [], [], [], [], [], [], [2, 5, 6]⟩) rfl tab_ok hm rfl Tryz.func16 (by kernel_rfl) rfl (Nz rfl) (by kernel_rfl) ?_
 refine Yi (Nz rfl) ?_
 refine Xi .pure (Xi _ (Yi (c13 x ifs roots l hx hr) ?_))
 refine Xi ⟨[(7, sl encInc (deriveP x roots l).1), (8, vi (deriveP x roots l).2)], [], hfree⟩ (Yi ⟨⟨Zr,Zr,Tv⟩,Tv,Fh,Tv⟩ ?_)
 refine Yi (fun h1 => ?_) (fun h1 => ?_)
 ·have h1 : ((deriveP x roots l).2 : Int) ≠ (0 : Int) := h1
  exact .of_eq (congrArg vi (show (deriveP x roots l).2 = refutesP x roots l by unfold refutesP; rw [if_pos h1]))
 have h1 : ((deriveP x roots l).2 : Int) = (0 : Int) := Classical.byContradiction h1
 refine Yi (fun h3 => ?_) (fun h3 => ?_)
 ·have h3 : (((deriveP x roots l).1.map encInc).length : Int) = (0 : Int) := h3
  refine Xi ⟨[], [], hfree⟩ (Yi ⟨Tv,Tv,Fh,Tv⟩ ?_)
  have hnil : (deriveP x roots l).1 = [] := List.eq_nil_of_length_eq_zero (by have h9 := h3; rw [Lm] at h9; omega)
  exact .of_eq (congrArg vi (show (18 : Int) = refutesP x roots l by unfold refutesP; rw [if_neg (not_not_intro h1), show refutedB (deriveP x roots l).1 = false by rw [hnil]; rfl]; rfl))
 have h3 : ¬ ((((deriveP x roots l).1.map encInc).length : Int) = (0 : Int)) := h3
 have hne : (deriveP x roots l).1 ≠ [] := fun e => by rw [e] at h3; exact h3 rfl
 refine Exists.elim (show ∃ a t, (deriveP x roots l).1 = a ++ [t] from ⟨_, _, (List.dropLast_concat_getLast hne).symm⟩) (fun a hat => ?_)
 refine Exists.elim hat (fun t hat => ?_)
 have hlz : (((deriveP x roots l).1.map encInc).length : Int) = (a.length : Int) + 1 := by rw [hat, Lm, List.length_append]; rfl
 have hgz : (deriveP x roots l).1[((((deriveP x roots l).1.map encInc).length : Int) - 1).toNat]? = some t := by
  rw [hlz, show ((a.length : Int) + 1 - 1).toNat = a.length by omega, hat, List.getElem?_append_right (Nat.le_refl _), Nat.sub_self]; rfl
 refine Yi (by show InI64 ((((deriveP x roots l).1.map encInc).length : Int) - (1 : Int)); unfold InI64; omega) ?_
 refine Xi (encInc t) (Yi (Yi (show (0 : Int) ≤ (((deriveP x roots l).1.map encInc).length : Int) - 1 by omega) (map_at hgz)) (Yi rfl ?_))
 refine Yi (fun h5 => ?_) (fun h5 => ?_)
 ·have h5 : (0 : Int) < ((t.map encTm).length : Int) := h5
  have n5 : 0 < t.length := by have q := h5; rw [Lm] at q; omega
  refine Xi ⟨[], [], hfree⟩ (Yi ⟨Tv,Tv,Fh,Tv⟩ ?_)
  refine Exists.elim (show ∃ u m, t = u :: m by cases t with | nil => exact absurd h5 (by decide) | cons u m => exact ⟨u, m, rfl⟩) (fun u hu => ?_)
  refine Exists.elim hu (fun m hu => ?_)
  exact .of_eq (congrArg vi (show (18 : Int) = refutesP x roots l by unfold refutesP; rw [if_neg (not_not_intro h1), show refutedB (deriveP x roots l).1 = false by rw [hat, hu]; unfold refutedB; rw [List.getLast?_append]; rfl]; rfl))
 have h5 : ¬ ((0 : Int) < ((t.map encTm).length : Int)) := h5
 have n5 : ¬ 0 < t.length := by have q := h5; rw [Lm] at q; omega
 refine Xi ⟨[], [], hfree⟩ (Yi ⟨Tv,Tv,Fh,Tv⟩ ?_)
 have htn : t = [] := List.eq_nil_of_length_eq_zero (by have h9 := h5; rw [Lm] at h9; omega)
 exact .of_eq (congrArg vi (show (0 : Int) = refutesP x roots l by unfold refutesP; rw [if_neg (not_not_intro h1), show refutedB (deriveP x roots l).1 = true by rw [hat, htn]; unfold refutedB; rw [List.getLast?_append]; rfl]; rfl))
set_option maxHeartbeats 4000000 in
theorem c3 (x : List Rl) (ifs : List (List AV)) (roots : List Rq) (l : List Nf) (L : Lim x roots) : PC 3 [.agg [sl encRl x, .slice .none ifs], sl encRq roots, sl encNf l] (vb true) := by
 have h11 := L.c11 ifs
 have h12 := c12 x ifs roots l (L.ck ifs)
 have h15 := c15 x ifs roots l (L.ck ifs)
 have h13 := c13 x ifs roots l (L.ck ifs).1 (L.ck ifs).2.1
 have h16 := c16 x ifs roots l (L.ck ifs).1 (L.ck ifs).2.1
 have h14 := c14 (deriveP x roots l).1 (deriveP x roots l).1 ⟨by have := derive_few (x := x) (roots := roots) (l := l); unfold Few; omega, derived_fewA⟩
 rw [decide_eq_true rfl] at h14
 refine pcall_sub (cxp ⟨[], [], [], [], [], [], [], [], [], [], [4, 5, 6, 7]⟩) rfl tab_ok hm rfl Tryz.func3 (by kernel_rfl) rfl (Nz rfl) (by kernel_rfl) ?_
 refine Xi .pure (Xi _ (Yi c10 ?_))
 refine Yi (Nz rfl) ?_
 refine Or.elim (Bool.eq_false_or_eq_true (smallX x 16 && smallQs roots)) (fun h1 => ?_) (fun h1 => ?_)
 ·have h1 : (smallX x 16 && smallQs roots) = true := h1
  have hc2 := h11
  rw [show (smallX x 16 && smallQs roots) = true from h1] at hc2
  refine Xi .pure (Xi _ (Yi hc2 ?_))
  refine Yi (fun h3 => ?_) (fun h3 => ?_)
  ·have h3 : (400 : Int) < ((l.map encNf).length : Int) := h3
   have n3 : 400 < l.length := by have q := h3; rw [Lm] at q; omega
   refine Xi ⟨[], [], hfree⟩ (Yi ⟨Tv,Tv,Fh,Tv⟩ ?_)
   exact .refl _
  have h3 : ¬ ((400 : Int) < ((l.map encNf).length : Int)) := h3
  have n3 : ¬ 400 < l.length := by have q := h3; rw [Lm] at q; omega
  refine Xi ⟨[(1, sl encRq roots), (2, sl encNf l), (3, .ref 3 0)], [(3, .cells [sl encRl x, .slice .none ifs])], hfree⟩ (Yi ⟨⟨Zr,Zr,Zr,Tv⟩,⟨Zr,Tv⟩,Fh,Tv⟩ ?_)
  refine Yi (Nz rfl) ?_
  refine Xi .pure (Xi _ (Yi h12 ?_))
  refine Xi ⟨[(1, sl encRq roots), (2, sl encNf l), (3, .ref 3 0), (7, sl encInc (deriveP x roots l).1), (8, vi (deriveP x roots l).2)], [(3, .cells [sl encRl x, .slice .none ifs])], hfree⟩ (Yi ⟨⟨Zr,Zr,Zr,Zr,Zr,Tv⟩,⟨Zr,Tv⟩,Fh,Tv⟩ ?_)
  refine Yi (Nz rfl) ?_
  refine Xi .pure (Xi _ (Yi h13 ?_))
  refine Xi ⟨[(1, sl encRq roots), (2, sl encNf l), (3, .ref 3 0), (7, sl encInc (deriveP x roots l).1), (8, vi (deriveP x roots l).2), (9, sl encInc (deriveP x roots l).1), (10, vi (deriveP x roots l).2)], [(3, .cells [sl encRl x, .slice .none ifs])], hfree⟩ (Yi ⟨⟨Zr,Zr,Zr,Zr,Zr,Zr,Zr,Tv⟩,⟨Zr,Tv⟩,Fh,Tv⟩ ?_)
  refine Xi _ (Yi h14 ?_)
  refine Yi (fun _ => ?_) (fun hf => absurd rfl hf)
  refine Yi (Nz rfl) ?_
  refine Xi _ (Yi h15 ?_)
  refine Yi (Nz rfl) ?_
  refine Xi _ (Yi h16 ?_)
  refine Yi (fun _ => ?_) (fun hf => absurd rfl hf)
  refine Yi (by kernel_rfl) ?_
  exact .refl _
 have h1 : (smallX x 16 && smallQs roots) = false := h1
 have hc6 := h11
 rw [show (smallX x 16 && smallQs roots) = false from h1] at hc6
 refine Xi .pure (Xi _ (Yi hc6 ?_))
 refine Xi ⟨[], [], hfree⟩ (Yi ⟨Tv,Tv,Fh,Tv⟩ ?_)
 exact .refl _
end Go.Eng
