/- The law ProofTampers of chapter 36 returns true and leaves its arguments as they were, for every input: of bulk at most 1048576 (the row's own bound), the listed tables as the program's text lays them. -/
import Derived.Test.YtodcmjcogdcmlaaGreatDoorA27
import Derived.Test.YtodcmjcogdcmlaaGreatDoorA28
import Derived.Test.YtodcmjcogdcmlaaGreatDoorA25
import Derived.Test.YtodcmjcogdcmlaaGreatDoorA29
namespace Go.Eng
open Go.Proofs
theorem c25 (t : List Tm) (s : List Sl) (ht : FewT t) (hs : Few s) : PC 25 [sl encTm t, .cptr [sl encSl s]] (vb (t.all fun u => holds u s)) := by
  refine pcall_sub (cxp pl0) rfl tab_ok hm rfl Tryz.func25 (by kernel_rfl) rfl (Nz rfl) (by kernel_rfl) ?_
  refine Xi .pure (Xi _ (Yi (c26 t s ht hs) ?_))
  exact .refl _
end Go.Eng

namespace Go.Eng
open Go.Proofs
abbrev pl5 : Pol := ⟨[7], [], [], [], [], [], [], [], [], [], [3, 5, 6, 8]⟩
theorem c5 (x : List Rl) (ifs : List (List AV)) (roots : List Rq) (l : List Nf) (s : List Sl) (L : Lim x roots) (hs : s.length ≤ 1048576) : PC 5 [ixV x ifs, sl encRq roots, sl encNf l, sl encSl s] (vb true) := by
  have h11 := L.c11 ifs
  have hsf : Few s := by unfold Few; omega
  have h12 := c12 x ifs roots l (L.ck ifs)
  have h15 := c15 x ifs roots l (L.ck ifs)
  refine pcall_sub (cxp pl5) rfl tab_ok hm rfl Tryz.func5 (by kernel_rfl) rfl (Nz rfl) (by kernel_rfl) ?_
  refine Xi .pure (Xi _ (Yi (c10) ?_))
  refine Xi ⟨[(1, sl encRq roots), (2, sl encNf l), (4, .ref 4 0), (7, .ref 7 0)], [(4, .cells [sl encRl x, .slice .none ifs]), (7, .ro [sl encSl s])], hfree⟩ (Yi ?_ ?_)
  · exact ⟨⟨Zr, Zr, Zr, Zr, trivial⟩, ⟨Zr, Zr, trivial⟩, fun _ => .inl rfl, trivial⟩
  refine Yi (Nz rfl) ?_
  refine Or.elim (Bool.eq_false_or_eq_true (smallX x 16 && smallQs roots)).symm (fun h1 => ?_) (fun h1 => ?_)
  · rw [h1] at h11
    refine Xi .pure (Xi _ (Yi (h11) ?_))
    exact .refl _
  rw [h1] at h11
  refine Xi .pure (Xi _ (Yi (h11) ?_))
  refine Yi (fun _ => ?_) (fun h2 => ?_)
  · exact .refl _
  refine Yi (fun _ => ?_) (fun h3 => ?_)
  · exact .refl _
  have h3 : ¬ (16 : Int) < (s.map encSl).length := h3
  have h3 : s.length ≤ 16 := by rw [List.length_map] at h3; omega
  have h23 := c23 x ifs roots s (L.c84 ifs) (L.c45 ifs h1 s (by omega)) L.x hsf
  refine Yi (Nz rfl) ?_
  refine Or.elim (Bool.eq_false_or_eq_true (availableB x roots s)).symm (fun h4 => ?_) (fun h4 => ?_)
  · rw [h4] at h23
    refine Xi .pure (Xi _ (Yi (h23) ?_))
    exact .refl _
  rw [h4] at h23
  refine Xi .pure (Xi _ (Yi (h23) ?_))
  have h4 : availableB x roots s = true := h4
  have h41 : solvesP x roots s = 0 ∧ s.any (goneB x) = false := by
    unfold availableB at h4
    simp only [Bool.and_eq_true, decide_eq_true_eq, Bool.not_eq_true'] at h4
    exact h4
  refine Xi ⟨[(1, sl encRq roots), (2, sl encNf l), (4, .ref 4 0), (7, .ref 7 0)], [(4, .cells [sl encRl x, .slice .none ifs]), (7, .ro [sl encSl s])], hfree⟩ (Yi ?_ ?_)
  · exact ⟨⟨Zr, Zr, Zr, Zr, trivial⟩, ⟨Zr, Zr, trivial⟩, fun _ => .inl rfl, trivial⟩
  refine Yi (Nz rfl) ?_
  refine Xi .pure (Xi _ (Yi (h12) ?_))
  refine Xi ⟨[(1, sl encRq roots), (2, sl encNf l), (4, .ref 4 0), (7, .ref 7 0), (9, sl encInc (deriveP x roots l).1), (10, vi (deriveP x roots l).2)], [(4, .cells [sl encRl x, .slice .none ifs]), (7, .ro [sl encSl s])], hfree⟩ (Yi ?_ ?_)
  · exact ⟨⟨Zr, Zr, Zr, Zr, Zr, Zr, trivial⟩, ⟨Zr, Zr, trivial⟩, fun _ => .inl rfl, trivial⟩
  refine Yi (fun h5 => ?_) (fun h5 => ?_)
  · have h5 : (deriveP x roots l).2 ≠ 0 := h5
    have h6 : (deriveP x roots l).1 = [] := deriveP_err h5
    refine Yi (fun _ => ?_) (fun h7 => ?_)
    · exact .refl _
    · have h7 : ¬ (((deriveP x roots l).1.map encInc).length : Int) = 0 := h7
      exact absurd (by rw [h6]; rfl) h7
  have h5 : ¬ (deriveP x roots l).2 ≠ 0 := h5
  have h5 : (deriveP x roots l).2 = 0 := Classical.not_not.1 h5
  have law := law_sound h41.1 h41.2 h5
  have hdf := derived_few h5
  have h24 := c24 (fF := 25) (caps := [.cptr [sl encSl s]]) (fun c hc => by
    obtain rfl := List.mem_singleton.1 hc
    intro h; rfl) (deriveP x roots l).1 (fun y => violated y s) (fun y hy => c25 y s (hdf y hy) hsf) (by have := derive_few (x := x) (roots := roots) (l := l); unfold Few; omega)
  rw [law.1] at h24
  rw [law.2] at h15
  refine Xi ⟨[(1, sl encRq roots), (2, sl encNf l), (4, .ref 4 0), (7, .ref 7 0), (9, sl encInc (deriveP x roots l).1)], [(4, .cells [sl encRl x, .slice .none ifs]), (7, .ro [sl encSl s])], hfree⟩ (Yi ?_ ?_)
  · exact ⟨⟨Zr, Zr, Zr, Zr, Zr, trivial⟩, ⟨Zr, Zr, trivial⟩, fun _ => .inl rfl, trivial⟩
  refine Xi .pure (Xi _ (Yi (h24) ?_))
  refine Yi (Nz rfl) ?_
  refine Xi .pure (Xi _ (Yi (h15) ?_))
  refine Yi (fun _ => ?_) (fun h => absurd rfl h)
  exact .refl _
end Go.Eng

namespace Go.Eng
open Go.Proofs
abbrev pl7 : Pol := ⟨[], [], [], [], [], [], [], [], [], [], [3, 5, 6, 8, 11, 12, 15]⟩
theorem c7 (x : List Rl) (ifs : List (List AV)) (roots : List Rq) (a : An) (s : List Sl) (L : Lim x roots) (hs : s.length ≤ 1048576) : PC 7 [ixV x ifs, sl encRq roots, .agg (encAn a), sl encSl s] (vb true) := by
  have h11 := L.c11 ifs
  have h17 := c17 a
  have hsf : Few s := by unfold Few; omega
  refine pcall_sub (cxp pl7) rfl tab_ok hm rfl Tryz.func7 (by kernel_rfl) rfl (Nz rfl) (by kernel_rfl) ?_
  refine Xi .pure (Xi _ (Yi (c10) ?_))
  refine Xi ⟨[(1, sl encRq roots), (3, sl encSl s), (4, .ref 4 0), (6, .ref 6 0)], [(4, .cells [sl encRl x, .slice .none ifs]), (6, .cells (encAn a))], hfree⟩ (Yi ?_ ?_)
  · exact ⟨⟨Zr, Zr, Zr, Zr, trivial⟩, ⟨Zr, Zr, trivial⟩, fun _ => .inl rfl, trivial⟩
  refine Yi (Nz rfl) ?_
  refine Or.elim (Bool.eq_false_or_eq_true (smallX x 16 && smallQs roots)).symm (fun h1 => ?_) (fun h1 => ?_)
  · rw [h1] at h11
    refine Xi .pure (Xi _ (Yi (h11) ?_))
    exact .refl _
  rw [h1] at h11
  refine Xi .pure (Xi _ (Yi (h11) ?_))
  refine Yi (Nz rfl) ?_
  refine Or.elim (Bool.eq_false_or_eq_true (small a)).symm (fun h2 => ?_) (fun h2 => ?_)
  · rw [h2] at h17
    refine Xi .pure (Xi _ (Yi (h17) ?_))
    exact .refl _
  rw [h2] at h17
  refine Xi .pure (Xi _ (Yi (h17) ?_))
  refine Yi (fun _ => ?_) (fun h3 => ?_)
  · exact .refl _
  have h3 : ¬ (16 : Int) < (s.map encSl).length := h3
  have h3 : s.length ≤ 16 := by rw [List.length_map] at h3; omega
  have h21 := L.c21 ifs h1 a h2
  refine Yi (Nz rfl) ?_
  refine Yi (Nz rfl) ?_
  refine Xi .pure (Xi _ (Yi (h21) ?_))
  refine Yi (fun h4 => ?_) (fun h4 => ?_)
  · exact .refl _
  have h4 : ¬ checkP x roots a ≠ 0 := h4
  have h4 : checkP x roots a = 0 := Classical.not_not.1 h4
  have h23 := c23 x ifs roots s (L.c84 ifs) (L.c45 ifs h1 s (by omega)) L.x hsf
  refine Yi (Nz rfl) ?_
  refine Or.elim (Bool.eq_false_or_eq_true (availableB x roots s)).symm (fun h5 => ?_) (fun h5 => ?_)
  · rw [h5] at h23
    refine Xi .pure (Xi _ (Yi (h23) ?_))
    exact .refl _
  rw [h5] at h23
  refine Xi .pure (Xi _ (Yi (h23) ?_))
  have h5 : availableB x roots s = true := h5
  have h51 : solvesP x roots s = 0 ∧ s.any (goneB x) = false := by
    unfold availableB at h5
    simp only [Bool.and_eq_true, decide_eq_true_eq, Bool.not_eq_true'] at h5
    exact h5
  have law := law_first h4 h51.1 h51.2
  have hsel := (small_sel h2).1
  have h18 := c18 x ifs roots a.sel (L.c84 ifs) L.x L.rq (by omega)
  refine Exists.elim (show ∃ P, P = (decisionsP x roots a.sel).1 from ⟨_, rfl⟩) (fun P hP => ?_)
  have l2 := law.2.1
  have l3 := law.2.2.1
  have l4 := law.2.2.2
  unfold decV at h18
  rw [l2, ← hP] at h18
  rw [← hP] at l3 l4
  refine Xi ⟨[(1, sl encRq roots), (3, sl encSl s), (4, .ref 4 0), (6, .ref 6 0)], [(4, .cells [sl encRl x, .slice .none ifs]), (6, .cells (encAn a))], hfree⟩ (Yi ?_ ?_)
  · exact ⟨⟨Zr, Zr, Zr, Zr, trivial⟩, ⟨Zr, Zr, trivial⟩, fun _ => .inl rfl, trivial⟩
  refine Yi (Nz rfl) ?_
  refine Xi .pure (Xi _ (Yi (h18) ?_))
  refine Xi ⟨[(3, sl encSl s), (6, .ref 6 0), (9, sl encStr1 P), (10, vi 0)], [(6, .cells (encAn a))], hfree⟩ (Yi ?_ ?_)
  · exact ⟨⟨Zr, Zr, Zr, Zr, trivial⟩, ⟨Zr, trivial⟩, fun _ => .inl rfl, trivial⟩
  refine Yi (fun _ => ?_) (fun h6 => ?_)
  · refine Yi (fun h => absurd rfl h) (fun _ => ?_)
    refine Yi (fun h7 => ?_) (fun _ => ?_)
    · have h7 : ((P.map encStr1).length : Int) ≠ ((a.sel.map encSl).length : Int) := h7
      exact absurd (by rw [List.length_map, List.length_map, l3]) h7
    refine Xi ⟨[(3, sl encSl s), (6, .ref 6 0), (9, sl encStr1 P)], [(6, .cells (encAn a))], hfree⟩ (Yi ?_ ?_)
    · exact ⟨⟨Zr, Zr, Zr, trivial⟩, ⟨Zr, trivial⟩, fun _ => .inl rfl, trivial⟩
    refine Xi {i : Nat // i ≤ P.length ∧ firstGo a.sel s (P.drop i) = true} (Xi (fun i => ⟨[(3, sl encSl s), (6, .ref 6 0), (68, sl encStr1 P), (69, vi (P.map encStr1).length), (70, vi i.1)], [(6, .cells (encAn a))], hfree⟩) (Xi (fun i => P.length - i.1) (Yi (Xi ⟨0, Nat.zero_le _, l4⟩ ?_) ?_)))
    · exact ⟨⟨Zr, Zr, Zr, Zr, Zr, trivial⟩, ⟨Zr, trivial⟩, fun _ => .inl rfl, trivial⟩
    intro ⟨i, i1, i2⟩
    have i1 : i ≤ P.length := i1
    refine Yi ?_ ?_
    · intro h
      have h : (i : Int) < (P.map encStr1).length := h
      have h : i < P.length := by simpa using h
      have hg : P[i]? = some P[i] := List.getElem?_eq_getElem h
      have hst : firstGo a.sel s (P.drop i) = if placeL a.sel P[i] ≠ placeL s P[i] then decide (0 ≤ placeL a.sel P[i]) && decide (placeL a.sel P[i] < placeL s P[i]) else firstGo a.sel s (P.drop (i + 1)) := by
        rw [List.drop_eq_getElem_cons h]; rfl
      rw [hst] at i2
      refine Xi (encStr1 P[i]) (Yi (Yi (by show (0 : Int) ≤ i; omega) (by simp [hg])) (Yi rfl ?_))
      refine Xi ⟨[(3, sl encSl s), (6, .ref 6 0), (12, vs P[i]), (68, sl encStr1 P), (69, vi (P.map encStr1).length), (70, vi i)], [(6, .cells (encAn a))], hfree⟩ (Yi ?_ ?_)
      · exact ⟨⟨Zr, Zr, Zr, Zr, Zr, Zr, trivial⟩, ⟨Zr, trivial⟩, fun _ => .inl rfl, trivial⟩
      refine Xi .pure (Xi _ (Yi (c28 a.sel P[i] (by unfold Few; omega)) ?_))
      refine Xi .pure (Xi _ (Yi (c28 s P[i] hsf) ?_))
      refine Xi ⟨[(3, sl encSl s), (6, .ref 6 0), (13, vi (placeL a.sel P[i])), (14, vi (placeL s P[i])), (68, sl encStr1 P), (69, vi (P.map encStr1).length), (70, vi i)], [(6, .cells (encAn a))], hfree⟩ (Yi ?_ ?_)
      · exact ⟨⟨Zr, Zr, Zr, Zr, Zr, Zr, Zr, trivial⟩, ⟨Zr, trivial⟩, fun _ => .inl rfl, trivial⟩
      refine Yi (fun h7 => ?_) (fun h7 => ?_)
      · have h7 : placeL a.sel P[i] ≠ placeL s P[i] := h7
        rw [if_pos h7] at i2
        simp only [Bool.and_eq_true, decide_eq_true_eq] at i2
        refine Yi (fun _ => ?_) (fun h8 => absurd i2.1 h8)
        refine Yi (fun _ => ?_) (fun h8 => absurd i2.2 h8)
        exact .refl _
      · have h7 : ¬ placeL a.sel P[i] ≠ placeL s P[i] := h7
        rw [if_neg h7] at i2
        refine Yi (by show InI64 ((i : Int) + 1); unfold InI64; omega) ?_
        refine Xi ⟨i + 1, by omega, i2⟩ ?_
        exact ⟨by show P.length - (i + 1) < P.length - i; omega, ⟨Zr, Zr, Zr, Zr, Zr, trivial⟩, ⟨Zr, trivial⟩, fun _ => .inl rfl, trivial⟩
    · intro h
      have h : ¬ (i : Int) < (P.map encStr1).length := h
      have h : ¬ i < P.length := by simpa using h
      rw [List.drop_eq_nil_of_le (by omega)] at i2
      have i2 : a.sel = s := of_decide_eq_true i2
      have h27 := c27 a.sel s (by unfold Few; omega)
      rw [decide_eq_true i2] at h27
      refine Xi ⟨[(3, sl encSl s), (6, .ref 6 0)], [(6, .cells (encAn a))], hfree⟩ (Yi ?_ ?_)
      · exact ⟨⟨Zr, Zr, trivial⟩, ⟨Zr, trivial⟩, fun _ => .inl rfl, trivial⟩
      refine Xi .pure (Xi _ (Yi (h27) ?_))
      exact .refl _
  · have h6 : a.found = false := h6
    exact absurd (h6.symm.trans law.1) (by decide)
end Go.Eng

namespace Go.Eng
open Go.Proofs
theorem c30t (l : List Nf) (hl : Few l) : ACall Tryz.prog 30 [sl encNf l] (heapOf [] hfree) fun r h' => r = .slice (.id 2000 6) (l.map encNf) ∧ h' = heapOf [(2000, .tok 6 (l.map encNf).length)] hfree := by
  refine acall_sub (cxe (plT 6)) [(2, 2000)] rfl tab_ok hm rfl Tryz.func30 (by kernel_rfl) rfl (Nz rfl) (by kernel_rfl) rfl ?_
  have bulk : AllLen 6 (l.map encNf) ∧ ([] : List (List AV)).length = 0 ∧ (([] : List (List AV)).length + (l.map encNf).length) * 56 ≤ 140737488355328 ∧ ([] : List (List AV)).length + (l.map encNf).length ≤ 9223372036854775807 := by
    refine ⟨allLen_map (enc := encNf) (n := 6) (fun _ => rfl) l, rfl, ?_, ?_⟩ <;> simp only [List.length_nil, List.length_map] <;> unfold Few at hl <;> omega
  have e2 : HO.tok 6 (([] : List (List AV)).length + (l.map encNf).length) = .tok 6 (l.map encNf).length := by rw [List.length_nil, Nat.zero_add]
  have e3 : AV.slice (.id 2000 6) ([] ++ l.map encNf) = .slice (.id 2000 6) (l.map encNf) := rfl
  refine Xi 0 ?_
  refine Xi 0 ?_
  refine Yi ?_ ?_
  · intro _
    refine Xi ⟨[(0, sl encNf l)], [], hfree⟩ (Yi ?_ ?_)
    · exact ⟨⟨Zr, trivial⟩, trivial, fun _ => .inl rfl, ext_dec (by kernel_rfl)⟩
    refine Xi 2 ?_
    refine Yi bulk ?_
    exact Xi _ (Yi (.refl _) (Yi e3 (congrArg (fun o => heapOf [(2000, o)] hfree) e2)))
  · intro h
    have h : l.map encNf = [] := h
    refine Yi ?_ ?_
    · refine Xi ⟨[], [], hfree⟩ (Yi ?_ ?_)
      · exact ⟨trivial, trivial, fun _ => .inl rfl, ext_dec (by kernel_rfl)⟩
      refine Xi 0 ?_
      exact Xi _ (Yi (.refl _) (Yi (show AV.slice (.id 2000 6) [] = _ by rw [h]) (show heapOf [(2000, HO.tok 6 0)] hfree = _ by rw [h]; rfl)))
    · refine Xi ⟨[(0, sl encNf l)], [], hfree⟩ (Yi ?_ ?_)
      · exact ⟨⟨Zr, trivial⟩, trivial, fun _ => .inl rfl, ext_dec (by kernel_rfl)⟩
      refine Xi 2 ?_
      refine Yi bulk ?_
      exact Xi _ (Yi (.refl _) (Yi e3 (congrArg (fun o => heapOf [(2000, o)] hfree) e2)))
theorem c31t (l : List Sk) (hl : Few l) : ACall Tryz.prog 31 [sl encSk l] (heapOf [] hfree) fun r h' => r = .slice (.id 2000 3) (l.map encSk) ∧ h' = heapOf [(2000, .tok 3 (l.map encSk).length)] hfree := by
  refine acall_sub (cxe (plT 3)) [(2, 2000)] rfl tab_ok hm rfl Tryz.func31 (by kernel_rfl) rfl (Nz rfl) (by kernel_rfl) rfl ?_
  have bulk : AllLen 3 (l.map encSk) ∧ ([] : List (List AV)).length = 0 ∧ (([] : List (List AV)).length + (l.map encSk).length) * 32 ≤ 140737488355328 ∧ ([] : List (List AV)).length + (l.map encSk).length ≤ 9223372036854775807 := by
    refine ⟨allLen_map (enc := encSk) (n := 3) (fun _ => rfl) l, rfl, ?_, ?_⟩ <;> simp only [List.length_nil, List.length_map] <;> unfold Few at hl <;> omega
  have e2 : HO.tok 3 (([] : List (List AV)).length + (l.map encSk).length) = .tok 3 (l.map encSk).length := by rw [List.length_nil, Nat.zero_add]
  have e3 : AV.slice (.id 2000 3) ([] ++ l.map encSk) = .slice (.id 2000 3) (l.map encSk) := rfl
  refine Xi 0 ?_
  refine Xi 0 ?_
  refine Yi ?_ ?_
  · intro _
    refine Xi ⟨[(0, sl encSk l)], [], hfree⟩ (Yi ?_ ?_)
    · exact ⟨⟨Zr, trivial⟩, trivial, fun _ => .inl rfl, ext_dec (by kernel_rfl)⟩
    refine Xi 2 ?_
    refine Yi bulk ?_
    exact Xi _ (Yi (.refl _) (Yi e3 (congrArg (fun o => heapOf [(2000, o)] hfree) e2)))
  · intro h
    have h : l.map encSk = [] := h
    refine Yi ?_ ?_
    · refine Xi ⟨[], [], hfree⟩ (Yi ?_ ?_)
      · exact ⟨trivial, trivial, fun _ => .inl rfl, ext_dec (by kernel_rfl)⟩
      refine Xi 0 ?_
      exact Xi _ (Yi (.refl _) (Yi (show AV.slice (.id 2000 3) [] = _ by rw [h]) (show heapOf [(2000, HO.tok 3 0)] hfree = _ by rw [h]; rfl)))
    · refine Xi ⟨[(0, sl encSk l)], [], hfree⟩ (Yi ?_ ?_)
      · exact ⟨⟨Zr, trivial⟩, trivial, fun _ => .inl rfl, ext_dec (by kernel_rfl)⟩
      refine Xi 2 ?_
      refine Yi bulk ?_
      exact Xi _ (Yi (.refl _) (Yi e3 (congrArg (fun o => heapOf [(2000, o)] hfree) e2)))
end Go.Eng

namespace Go.Eng
open Go.Proofs
abbrev pl8 : Pol := ⟨[], [], [], [], [], [], [], [], [], [], [3, 5, 6, 8, 9, 10, 12, 15, 16, 18, 19, 20, 21]⟩
theorem c8 (x : List Rl) (ifs : List (List AV)) (roots : List Rq) (l : List Nf) (n : Int) (L : Lim x roots) (hn : 0 ≤ n ∧ n ≤ 65535) : PC 8 [ixV x ifs, sl encRq roots, sl encNf l, .v (.int .u16 n)] (vb true) := by
  have h11 := L.c11 ifs
  have h12 := c12 x ifs roots l (L.ck ifs)
  refine pcall_sub (cxp pl8) rfl tab_ok hm rfl Tryz.func8 (by kernel_rfl) rfl (Nz rfl) (by kernel_rfl) ?_
  refine Xi .pure (Xi _ (Yi (c10) ?_))
  refine Xi ⟨[(1, sl encRq roots), (2, sl encNf l), (3, .v (.int .u16 n)), (4, .ref 4 0)], [(4, .cells [sl encRl x, .slice .none ifs])], hfree⟩ (Yi ?_ ?_)
  · exact ⟨⟨Zr, Zr, Zr, Zr, trivial⟩, ⟨Zr, trivial⟩, fun _ => .inl rfl, trivial⟩
  refine Yi (Nz rfl) ?_
  refine Or.elim (Bool.eq_false_or_eq_true (smallX x 16 && smallQs roots)).symm (fun h1 => ?_) (fun h1 => ?_)
  · rw [h1] at h11
    refine Xi .pure (Xi _ (Yi (h11) ?_))
    exact .refl _
  rw [h1] at h11
  refine Xi .pure (Xi _ (Yi (h11) ?_))
  refine Yi (fun _ => ?_) (fun h2 => ?_)
  · exact .refl _
  have h2 : ¬ (400 : Int) < (l.map encNf).length := h2
  have h2 : l.length ≤ 400 := by rw [List.length_map] at h2; omega
  refine Xi ⟨[(1, sl encRq roots), (2, sl encNf l), (3, .v (.int .u16 n)), (4, .ref 4 0)], [(4, .cells [sl encRl x, .slice .none ifs])], hfree⟩ (Yi ?_ ?_)
  · exact ⟨⟨Zr, Zr, Zr, Zr, trivial⟩, ⟨Zr, trivial⟩, fun _ => .inl rfl, trivial⟩
  refine Yi (Nz rfl) ?_
  refine Xi .pure (Xi _ (Yi (h12) ?_))
  refine Xi ⟨[(1, sl encRq roots), (2, sl encNf l), (3, .v (.int .u16 n)), (4, .ref 4 0), (9, sl encInc (deriveP x roots l).1), (10, vi (deriveP x roots l).2)], [(4, .cells [sl encRl x, .slice .none ifs])], hfree⟩ (Yi ?_ ?_)
  · exact ⟨⟨Zr, Zr, Zr, Zr, Zr, Zr, trivial⟩, ⟨Zr, trivial⟩, fun _ => .inl rfl, trivial⟩
  refine Yi (fun h5 => ?_) (fun h5 => ?_)
  · have h5 : (deriveP x roots l).2 ≠ 0 := h5
    have h6 : (deriveP x roots l).1 = [] := deriveP_err h5
    refine Yi (fun _ => ?_) (fun h7 => ?_)
    · refine Yi (fun _ => ?_) (fun h8 => absurd h5 h8)
      exact .refl _
    · have h7 : ¬ (((deriveP x roots l).1.map encInc).length : Int) = 0 := h7
      exact absurd (by rw [h6]; rfl) h7
  have h5 : ¬ (deriveP x roots l).2 ≠ 0 := h5
  have h5 : (deriveP x roots l).2 = 0 := Classical.not_not.1 h5
  have hdf := derived_few h5
  have hdl : (deriveP x roots l).1.length ≤ 65536 := derive_few
  refine Exists.elim (show ∃ k : Nat, (k : Int) = n % ((l.length : Int) + 1) from ⟨(n % ((l.length : Int) + 1)).toNat, Int.toNat_of_nonneg (Int.emod_nonneg _ (by omega))⟩) (fun k hk => ?_)
  have hkl : k ≤ l.length := by have := Int.emod_lt_of_pos n (show (0 : Int) < (l.length : Int) + 1 by omega); omega
  have law := law_prefix h2 h5 k hkl
  refine Exists.elim (show ∃ d, d = (deriveP x roots l).1 from ⟨_, rfl⟩) (fun d hd => ?_)
  rw [← hd] at law hdf hdl
  have l1 := law.1
  have l2 := law.2.1
  have l3 := law.2.2.1
  have l4 := law.2.2.2
  refine Yi (fun h6 => ?_) (fun _ => ?_)
  · have h6 : (((deriveP x roots l).1.map encInc).length : Int) ≠ ((l.map encNf).length : Int) := h6
    rw [← hd] at h6
    exact absurd (by rw [List.length_map, List.length_map, l1]) h6
  refine Xi ⟨[(1, sl encRq roots), (2, sl encNf l), (3, .v (.int .u16 n)), (4, .ref 4 0), (9, sl encInc d)], [(4, .cells [sl encRl x, .slice .none ifs])], hfree⟩ (Yi ?_ ?_)
  · exact ⟨⟨Zr, Zr, Zr, Zr, ⟨congrArg (sl encInc) hd.symm, rfl⟩, trivial⟩, ⟨Zr, trivial⟩, fun _ => .inl rfl, trivial⟩
  refine Yi (show InI64 n by unfold InI64; omega) ?_
  refine Yi (show InI64 (((l.map encNf).length : Int) + 1) by rw [List.length_map]; unfold InI64; omega) ?_
  refine Yi (show 0 ≤ n ∧ 0 < ((l.map encNf).length : Int) + 1 by rw [List.length_map]; omega) ?_
  have ek : vi (n % (((l.map encNf).length : Int) + 1)) = vi k := by rw [List.length_map, ← hk]
  refine Xi ⟨[(1, sl encRq roots), (2, sl encNf l), (4, .ref 4 0), (9, sl encInc d), (11, vi k)], [(4, .cells [sl encRl x, .slice .none ifs])], hfree⟩ (Yi ?_ ?_)
  · exact ⟨⟨Zr, Zr, Zr, Zr, ⟨ek, rfl⟩, trivial⟩, ⟨Zr, trivial⟩, fun _ => .inl rfl, trivial⟩
  have h12b := c12 x ifs roots (l.take k) (L.ck ifs)
  rw [l2] at h12b
  have et : ((l.map encNf).take ((k : Int)).toNat).drop (0 : Int).toNat = (l.take k).map encNf := by rw [Int.toNat_natCast, List.map_take]; rfl
  have ed : ((d.map encInc).take ((k : Int)).toNat).drop (0 : Int).toNat = (d.take k).map encInc := by rw [Int.toNat_natCast, List.map_take]; rfl
  have h12b : PC 12 [ixV x ifs, sl encRq roots, .slice .none (((l.map encNf).take ((k : Int)).toNat).drop (0 : Int).toNat)] (.tup [sl encInc (d.take k), vi 0]) := by rw [et]; exact h12b
  refine Yi (Nz rfl) ?_
  refine Yi (show (0 : Int) ≤ 0 ∧ (0 : Int) ≤ (k : Int) ∧ (k : Int) ≤ ((l.map encNf).length : Int) by rw [List.length_map]; omega) (Yi (fun c hc => by obtain ⟨z, _, rfl⟩ := List.mem_map.1 hc; rfl) ?_)
  refine Xi _ (Yi (h12b) ?_)
  refine Yi (by kernel_rfl) ?_
  refine Xi ⟨[(1, sl encRq roots), (2, sl encNf l), (4, .ref 4 0), (9, sl encInc d), (10, vi 0), (11, vi k), (12, sl encInc (d.take k))], [(4, .cells [sl encRl x, .slice .none ifs])], hfree⟩ (Yi ?_ ?_)
  · exact ⟨⟨Zr, Zr, Zr, Zr, Zr, Zr, Zr, trivial⟩, ⟨Zr, trivial⟩, fun _ => .inl rfl, trivial⟩
  have h14 := c14 (d.take k) (d.take k) ⟨by unfold Few; rw [List.length_take]; omega, fun y hy => hdf y (List.mem_of_mem_take hy)⟩
  rw [decide_eq_true rfl] at h14
  have h14 : PC 14 [sl encInc (d.take k), .slice .none (((d.map encInc).take ((k : Int)).toNat).drop (0 : Int).toNat)] (vb true) := by rw [ed]; exact h14
  refine Yi (fun h => absurd rfl h) (fun _ => ?_)
  refine Yi (show (0 : Int) ≤ 0 ∧ (0 : Int) ≤ (k : Int) ∧ (k : Int) ≤ ((d.map encInc).length : Int) by rw [List.length_map, l1]; omega) (Yi (fun c hc => by obtain ⟨z, _, rfl⟩ := List.mem_map.1 hc; rfl) ?_)
  refine Xi .pure (Xi _ (Yi (h14) ?_))
  refine Xi ⟨[(1, sl encRq roots), (2, sl encNf l), (4, .ref 4 0), (9, sl encInc d), (11, vi k)], [(4, .cells [sl encRl x, .slice .none ifs])], hfree⟩ (Yi ?_ ?_)
  · exact ⟨⟨Zr, Zr, Zr, Zr, Zr, trivial⟩, ⟨Zr, trivial⟩, fun _ => .inl rfl, trivial⟩
  refine Xi {i : Nat // i ≤ d.length} (Xi (fun i => ⟨[(1, sl encRq roots), (2, sl encNf l), (4, .ref 4 0), (11, vi k), (77, sl encInc d), (78, vi (d.map encInc).length), (79, vi i.1)], [(4, .cells [sl encRl x, .slice .none ifs])], hfree⟩) (Xi (fun i => d.length - i.1) (Yi (Xi ⟨0, Nat.zero_le _⟩ ?_) ?_)))
  · exact ⟨⟨Zr, Zr, Zr, Zr, Zr, Zr, Zr, trivial⟩, ⟨Zr, trivial⟩, fun _ => .inl rfl, trivial⟩
  intro ⟨i, i1⟩
  have i1 : i ≤ d.length := i1
  refine Yi ?_ ?_
  · intro h
    have h : (i : Int) < (d.map encInc).length := h
    have h : i < d.length := by simpa using h
    have hg : d[i]? = some d[i] := List.getElem?_eq_getElem h
    have hmem : d[i] ∈ d := List.getElem_mem h
    refine Xi (encInc d[i]) (Yi (Yi (by show (0 : Int) ≤ i; omega) (by simp [hg])) (Yi rfl ?_))
    refine Xi ⟨[(1, sl encRq roots), (2, sl encNf l), (4, .ref 4 0), (11, vi k), (14, sl encTm d[i]), (77, sl encInc d), (78, vi (d.map encInc).length), (79, vi i)], [(4, .cells [sl encRl x, .slice .none ifs])], hfree⟩ (Yi ?_ ?_)
    · exact ⟨⟨Zr, Zr, Zr, Zr, Zr, Zr, Zr, Zr, trivial⟩, ⟨Zr, trivial⟩, fun _ => .inl rfl, trivial⟩
    have ec : canRes d[i] = .tup [sl encTm d[i], vb true] := by unfold canRes ofT; rw [l3 _ hmem]; rfl
    have h29 := c29 d[i] (hdf _ hmem).1 (hdf _ hmem).2
    rw [ec] at h29
    refine Xi .pure (Xi _ (Yi (h29) ?_))
    refine Xi ⟨[(1, sl encRq roots), (2, sl encNf l), (4, .ref 4 0), (11, vi k), (14, sl encTm d[i]), (15, sl encTm d[i]), (16, vb true), (77, sl encInc d), (78, vi (d.map encInc).length), (79, vi i)], [(4, .cells [sl encRl x, .slice .none ifs])], hfree⟩ (Yi ?_ ?_)
    · exact ⟨⟨Zr, Zr, Zr, Zr, Zr, Zr, Zr, Zr, Zr, Zr, trivial⟩, ⟨Zr, trivial⟩, fun _ => .inl rfl, trivial⟩
    have h14b := c14 [d[i]] [d[i]] ⟨by simp, fun y hy => by rw [List.mem_singleton.1 hy]; exact hdf _ hmem⟩
    rw [decide_eq_true rfl] at h14b
    refine Xi .pure (Xi _ (Yi (h14b) ?_))
    refine Xi ⟨[(1, sl encRq roots), (2, sl encNf l), (4, .ref 4 0), (11, vi k), (77, sl encInc d), (78, vi (d.map encInc).length), (79, vi i)], [(4, .cells [sl encRl x, .slice .none ifs])], hfree⟩ (Yi ?_ ?_)
    · exact ⟨⟨Zr, Zr, Zr, Zr, Zr, Zr, Zr, trivial⟩, ⟨Zr, trivial⟩, fun _ => .inl rfl, trivial⟩
    refine Yi (by show InI64 ((i : Int) + 1); unfold InI64; omega) ?_
    refine Xi ⟨i + 1, by omega⟩ ?_
    exact ⟨by show d.length - (i + 1) < d.length - i; omega, ⟨Zr, Zr, Zr, Zr, Zr, Zr, Zr, trivial⟩, ⟨Zr, trivial⟩, fun _ => .inl rfl, trivial⟩
  intro _
  refine Xi ⟨[(1, sl encRq roots), (2, sl encNf l), (4, .ref 4 0), (11, vi k)], [(4, .cells [sl encRl x, .slice .none ifs])], hfree⟩ (Yi ?_ ?_)
  · exact ⟨⟨Zr, Zr, Zr, Zr, trivial⟩, ⟨Zr, trivial⟩, fun _ => .inl rfl, trivial⟩
  refine Yi (show (0 : Int) ≤ 0 ∧ (0 : Int) ≤ (k : Int) ∧ (k : Int) ≤ ((l.map encNf).length : Int) by rw [List.length_map]; omega) (Yi (fun c hc => by obtain ⟨z, _, rfl⟩ := List.mem_map.1 hc; rfl) ?_)
  have h30 := c30t (l.take k) (by unfold Few; rw [List.length_take]; omega)
  have h30 : ACall Tryz.prog 30 [.slice .none (((l.map encNf).take ((k : Int)).toNat).drop (0 : Int).toNat)] (heapOf [] hfree) fun r h' => r = .slice (.id 2000 6) ((l.take k).map encNf) ∧ h' = heapOf [(2000, .tok 6 ((l.take k).map encNf).length)] hfree := by rw [et]; exact h30
  refine Xi (.gen [] 1) (Yi rfl (h30.imp ?_))
  intro v g q
  have q1 := q.1
  have q2 := q.2
  subst q1
  subst q2
  have bulk : AllLen 6 [encNf (badInf k)] ∧ ((l.take k).map encNf).length = ((l.take k).map encNf).length ∧ (((l.take k).map encNf).length + [encNf (badInf k)].length) * 56 ≤ 140737488355328 ∧ ((l.take k).map encNf).length + [encNf (badInf k)].length ≤ 9223372036854775807 :=
    ⟨⟨rfl, trivial⟩, rfl, by rw [List.length_map, List.length_singleton, List.length_take]; omega, by rw [List.length_map, List.length_singleton, List.length_take]; omega⟩
  refine Yi bulk ?_
  refine Xi ⟨[(1, sl encRq roots), (4, .ref 4 0), (17, .slice (.id 20200 6) ((l.take k).map encNf ++ [encNf (badInf k)]))], [(4, .cells [sl encRl x, .slice .none ifs]), (20200, .tok 6 (((l.take k).map encNf).length + [encNf (badInf k)].length))], hfree⟩ (Yi ?_ ?_)
  · exact ⟨⟨Zr, Zr, Zr, trivial⟩, ⟨Zr, Zr, trivial⟩, fun _ => .inl rfl, trivial⟩
  have h12c := c12 x ifs roots (l.take k ++ [badInf k]) (L.ck ifs)
  rw [l4] at h12c
  have ea : (l.take k ++ [badInf k]).map encNf = (l.take k).map encNf ++ [encNf (badInf k)] := by rw [List.map_append]; rfl
  unfold sl at h12c
  rw [ea] at h12c
  refine Yi (Nz rfl) ?_
  refine Xi .pure (Xi _ (Yi (h12c) ?_))
  refine Xi ⟨[(10, vi 18)], [], hfree⟩ (Yi ?_ ?_)
  · exact ⟨⟨Zr, trivial⟩, trivial, fun _ => .inl rfl, trivial⟩
  refine Yi (fun _ => ?_) (fun h => absurd rfl h)
  exact .refl _
end Go.Eng

namespace Go.Eng
open Go.Proofs
theorem c32a (l : List Sl) (hl : Few l) (hne : l ≠ []) : ACall Tryz.prog 32 [sl encSl l] (heapOf [] hfree) fun r h' => r = .msl 2000 l.length ∧ h' = heapOf [(2000, .arr 4 (l.map encSl))] hfree := by
  refine acall_sub (cxe (pla [(5, 4)] [])) [(5, 2000)] rfl tab_ok hm rfl Tryz.func32 (by kernel_rfl) rfl (Nz rfl) (by kernel_rfl) rfl ?_
  have bulk : AllLen 4 (l.map encSl) ∧ ([] : List (List AV)).length = 0 ∧ (([] : List (List AV)).length + (l.map encSl).length) * 40 ≤ 140737488355328 ∧ ([] : List (List AV)).length + (l.map encSl).length ≤ 9223372036854775807 := by
    refine ⟨allLen_map (enc := encSl) (n := 4) (fun _ => rfl) l, rfl, ?_, ?_⟩ <;> simp only [List.length_nil, List.length_map] <;> unfold Few at hl <;> omega
  refine Yi ?_ ?_
  · intro _
    refine Yi bulk ?_
    have e1 : AV.msl 2000 (([] : List (List AV)).length + (l.map encSl).length) = .msl 2000 l.length := by simp
    refine Xi (.msl 2000 (([] : List (List AV)).length + (l.map encSl).length)) (Yi (.refl _) (Yi e1 ?_))
    rfl
  · intro h
    have h : l.map encSl = [] := h
    exact absurd (List.map_eq_nil_iff.1 h) hne
abbrev pl9 : Pol := ⟨[], [], [], [], [], [], [], [], [], [(100020, 1011)], [3, 5, 6, 7, 9, 11, 12, 14, 16, 17, 18, 19, 20]⟩
abbrev zSk : Sk := ⟨exA, 0, 0⟩
theorem c9 (x : List Rl) (ifs : List (List AV)) (roots : List Rq) (a : An) (n : Int) (v : Ver) (L : Lim x roots) (hn : 0 ≤ n ∧ n ≤ 255) : PC 9 [ixV x ifs, sl encRq roots, .agg (encAn a), .v (.int .u8 n), .agg (encVer v)] (vb true) := by
  have h11 := L.c11 ifs
  have h17 := c17 a
  refine pcall_sub (cxp pl9) rfl tab_ok hm rfl Tryz.func9 (by kernel_rfl) rfl (Nz rfl) (by kernel_rfl) ?_
  refine Xi .pure (Xi _ (Yi (c10) ?_))
  refine Xi ⟨[(1, sl encRq roots), (3, .v (.int .u8 n)), (5, .ref 5 0), (7, .ref 7 0), (9, .ref 9 0)], [(5, .cells [sl encRl x, .slice .none ifs]), (7, .cells (encAn a)), (9, .cells (encVer v))], hfree⟩ (Yi ?_ ?_)
  · exact ⟨⟨Zr, Zr, Zr, Zr, Zr, trivial⟩, ⟨Zr, Zr, Zr, trivial⟩, fun _ => .inl rfl, trivial⟩
  refine Yi (Nz rfl) ?_
  refine Or.elim (Bool.eq_false_or_eq_true (smallX x 16 && smallQs roots)).symm (fun h1 => ?_) (fun h1 => ?_)
  · rw [h1] at h11
    refine Xi .pure (Xi _ (Yi (h11) ?_))
    exact .refl _
  rw [h1] at h11
  refine Xi .pure (Xi _ (Yi (h11) ?_))
  refine Yi (Nz rfl) ?_
  refine Or.elim (Bool.eq_false_or_eq_true (small a)).symm (fun h2 => ?_) (fun h2 => ?_)
  · rw [h2] at h17
    refine Xi .pure (Xi _ (Yi (h17) ?_))
    exact .refl _
  rw [h2] at h17
  refine Xi .pure (Xi _ (Yi (h17) ?_))
  have h21 := L.c21 ifs h1 a h2
  refine Yi (Nz rfl) ?_
  refine Yi (Nz rfl) ?_
  refine Xi .pure (Xi _ (Yi (h21) ?_))
  refine Yi (fun h4 => ?_) (fun h4 => ?_)
  · exact .refl _
  have h4 : ¬ checkP x roots a ≠ 0 := h4
  have h4 : checkP x roots a = 0 := Classical.not_not.1 h4
  refine Yi (fun hf => ?_) (fun hf => ?_)
  rotate_left
  · exact .refl _
  have hf : a.found = true := hf
  have law := law_tampers h4 hf
  have hsm := small_sel h2
  have h21x : ∀ (s : List Sl) (k : List Sk), s.length ≤ 500 → Few k → PC 21 [ixV x ifs, sl encRq roots, .agg [vb a.found, sl encSl s, sl encNf a.infs, sl encSk k]] (vi (checkP x roots ⟨true, s, a.infs, k⟩)) := fun s k h5 h6 => by
    rw [hf]
    exact c21 x ifs roots ⟨true, s, a.infs, k⟩ (L.c84 ifs) (L.c45 ifs h1 s (by omega)) L.x L.rq h5 h6
  refine Xi ⟨[(1, sl encRq roots), (3, .v (.int .u8 n)), (5, .ref 5 0), (7, .ref 7 0), (9, .ref 9 0)], [(5, .cells [sl encRl x, .slice .none ifs]), (7, .cells (encAn a)), (9, .cells (encVer v))], hfree⟩ (Yi ?_ ?_)
  · exact ⟨⟨Zr, Zr, Zr, Zr, Zr, trivial⟩, ⟨Zr, Zr, Zr, trivial⟩, fun _ => .inl rfl, trivial⟩
  refine Yi (Nz rfl) (Yi (Nz rfl) ?_)
  refine Xi ⟨[(1, sl encRq roots), (3, .v (.int .u8 n)), (5, .ref 5 0), (7, .ref 7 0), (9, .ref 9 0), (11, .ref 11 0)], [(5, .cells [sl encRl x, .slice .none ifs]), (7, .cells (encAn a)), (9, .cells (encVer v)), (11, .cells [vb a.found, sl encSl a.sel, sl encNf a.infs, sl encSk a.skips])], hfree⟩ (Yi ?_ ?_)
  · exact ⟨⟨Zr, Zr, Zr, Zr, Zr, Zr, trivial⟩, ⟨Zr, Zr, Zr, Zr, trivial⟩, fun _ => .inl rfl, trivial⟩
  refine Xi (.gen [] 1) (Yi rfl ((c31t a.skips (by unfold Few; omega)).imp ?_))
  intro w g q
  have q1 := q.1
  have q2 := q.2
  subst q1
  subst q2
  clear q
  have bulk : AllLen 3 [[vs exA, vi 0, vi 0]] ∧ (a.skips.map encSk).length = (a.skips.map encSk).length ∧ ((a.skips.map encSk).length + [[vs exA, vi 0, vi 0]].length) * 32 ≤ 140737488355328 ∧ (a.skips.map encSk).length + [[vs exA, vi 0, vi 0]].length ≤ 9223372036854775807 :=
    ⟨⟨rfl, trivial⟩, rfl, by rw [List.length_map, List.length_singleton]; omega, by rw [List.length_map, List.length_singleton]; omega⟩
  refine Yi bulk ?_
  refine Yi (Nz rfl) ?_
  refine Xi ⟨[(1, sl encRq roots), (3, .v (.int .u8 n)), (5, .ref 5 0), (7, .ref 7 0), (9, .ref 9 0), (11, .ref 11 0)], [(5, .cells [sl encRl x, .slice .none ifs]), (7, .cells (encAn a)), (9, .cells (encVer v)), (11, .cells [vb a.found, sl encSl a.sel, sl encNf a.infs, .slice (.id 14000 3) (a.skips.map encSk ++ [[vs exA, vi 0, vi 0]])]), (14000, .tok 3 ((a.skips.map encSk).length + [[vs exA, vi 0, vi 0]].length))], hfree⟩ (Yi ?_ ?_)
  · exact ⟨⟨Zr, Zr, Zr, Zr, Zr, Zr, trivial⟩, ⟨Zr, Zr, Zr, Zr, Zr, trivial⟩, fun _ => .inl rfl, trivial⟩
  have h21a := h21x a.sel (a.skips ++ [zSk]) (by omega) (by unfold Few; rw [List.length_append, List.length_singleton]; omega)
  rw [law.1] at h21a
  have ez : (a.skips ++ [zSk]).map encSk = a.skips.map encSk ++ [[vs exA, vi 0, vi 0]] := by rw [List.map_append]; rfl
  unfold sl at h21a
  rw [ez] at h21a
  refine Yi (Nz rfl) ?_
  refine Yi (Nz rfl) ?_
  refine Xi .pure (Xi _ (Yi (h21a) ?_))
  refine Yi (fun h => absurd rfl h) (fun _ => ?_)
  refine Xi ⟨[(1, sl encRq roots), (3, .v (.int .u8 n)), (5, .ref 5 0), (7, .ref 7 0), (9, .ref 9 0), (11, .ref 11 0)], [(5, .cells [sl encRl x, .slice .none ifs]), (7, .cells (encAn a)), (9, .cells (encVer v)), (11, .cells [vb a.found, sl encSl a.sel, sl encNf a.infs, .slice (.id 14000 3) (a.skips.map encSk ++ [[vs exA, vi 0, vi 0]])]), (14000, .tok 3 ((a.skips.map encSk).length + [[vs exA, vi 0, vi 0]].length))], hfree⟩ (Yi ?_ ?_)
  · exact ⟨⟨Zr, Zr, Zr, Zr, Zr, Zr, trivial⟩, ⟨Zr, Zr, Zr, Zr, Zr, trivial⟩, fun _ => .inl rfl, trivial⟩
  refine Yi (fun h7 => ?_) (fun h7 => ?_)
  rotate_left
  · refine Xi ⟨[(1, sl encRq roots), (3, .v (.int .u8 n)), (5, .ref 5 0), (7, .ref 7 0), (9, .ref 9 0), (11, .ref 11 0)], [(5, .cells [sl encRl x, .slice .none ifs]), (7, .cells (encAn a)), (9, .cells (encVer v)), (11, .cells [vb a.found, sl encSl a.sel, sl encNf a.infs, .slice (.id 14000 3) (a.skips.map encSk ++ [[vs exA, vi 0, vi 0]])]), (14000, .tok 3 ((a.skips.map encSk).length + [[vs exA, vi 0, vi 0]].length))], hfree⟩ (Yi ?_ ?_)
    · exact ⟨⟨Zr, Zr, Zr, Zr, Zr, Zr, trivial⟩, ⟨Zr, Zr, Zr, Zr, Zr, trivial⟩, fun _ => .inl rfl, trivial⟩
    refine Yi (fun h5 => ?_) (fun h5 => ?_)
    · exact .refl _
    have h5 : ¬ ((a.sel.map encSl).length : Int) = 0 := h5
    have h5 : a.sel.length ≠ 0 := by rw [List.length_map] at h5; omega
    have hne : a.sel ≠ [] := fun e => h5 (by rw [e]; rfl)
    refine Exists.elim (show ∃ k : Nat, (k : Int) = n % (a.sel.length : Int) from ⟨(n % (a.sel.length : Int)).toNat, Int.toNat_of_nonneg (Int.emod_nonneg _ (by omega))⟩) (fun k hk => ?_)
    have hkl : k < a.sel.length := by have := Int.emod_lt_of_pos n (show (0 : Int) < (a.sel.length : Int) by omega); omega
    have hgy : a.sel[k]? = some a.sel[k] := List.getElem?_eq_getElem hkl
    refine Xi ⟨[(1, sl encRq roots), (3, .v (.int .u8 n)), (5, .ref 5 0), (7, .ref 7 0), (9, .ref 9 0), (11, .ref 11 0)], [(5, .cells [sl encRl x, .slice .none ifs]), (7, .cells (encAn a)), (9, .cells (encVer v)), (11, .cells [vb a.found, sl encSl a.sel, sl encNf a.infs, .slice (.id 14000 3) (a.skips.map encSk ++ [[vs exA, vi 0, vi 0]])]), (14000, .tok 3 ((a.skips.map encSk).length + [[vs exA, vi 0, vi 0]].length))], hfree⟩ (Yi ?_ ?_)
    · exact ⟨⟨Zr, Zr, Zr, Zr, Zr, Zr, trivial⟩, ⟨Zr, Zr, Zr, Zr, Zr, trivial⟩, fun _ => .inl rfl, trivial⟩
    refine Yi (show InI64 n by unfold InI64; omega) ?_
    refine Yi (show 0 ≤ n ∧ 0 < ((a.sel.map encSl).length : Int) by rw [List.length_map]; omega) ?_
    have ek : vi (n % ((a.sel.map encSl).length : Int)) = vi k := by rw [List.length_map, ← hk]
    refine Xi ⟨[(1, sl encRq roots), (3, .v (.int .u8 n)), (5, .ref 5 0), (7, .ref 7 0), (9, .ref 9 0), (11, .ref 11 0), (13, vi k)], [(5, .cells [sl encRl x, .slice .none ifs]), (7, .cells (encAn a)), (9, .cells (encVer v)), (11, .cells [vb a.found, sl encSl a.sel, sl encNf a.infs, .slice (.id 14000 3) (a.skips.map encSk ++ [[vs exA, vi 0, vi 0]])]), (14000, .tok 3 ((a.skips.map encSk).length + [[vs exA, vi 0, vi 0]].length))], hfree⟩ (Yi ?_ ?_)
    · exact ⟨⟨Zr, Zr, Zr, Zr, Zr, Zr, ⟨ek, rfl⟩, trivial⟩, ⟨Zr, Zr, Zr, Zr, Zr, trivial⟩, fun _ => .inl rfl, trivial⟩
    refine Yi (Nz rfl) (Yi (Nz rfl) ?_)
    refine Xi ⟨[(1, sl encRq roots), (3, .v (.int .u8 n)), (5, .ref 5 0), (7, .ref 7 0), (9, .ref 9 0), (11, .ref 11 0), (13, vi k)], [(5, .cells [sl encRl x, .slice .none ifs]), (7, .cells (encAn a)), (9, .cells (encVer v)), (11, .cells [vb a.found, sl encSl a.sel, sl encNf a.infs, sl encSk a.skips])], hfree⟩ (Yi ?_ ?_)
    · exact ⟨⟨Zr, Zr, Zr, Zr, Zr, Zr, Zr, trivial⟩, ⟨Zr, Zr, Zr, Zr, trivial⟩, fun _ => .inl rfl, trivial⟩
    refine Xi (.gen [] 1) (Yi rfl ((c32a a.sel (by unfold Few; omega) hne).imp ?_))
    intro w g q
    have q1 := q.1
    have q2 := q.2
    subst q1
    subst q2
    clear q
    refine Yi (Nz rfl) ?_
    refine Xi ⟨[(1, sl encRq roots), (3, .v (.int .u8 n)), (5, .ref 5 0), (7, .ref 7 0), (9, .ref 9 0), (11, .ref 11 0), (13, vi k)], [(5, .cells [sl encRl x, .slice .none ifs]), (7, .cells (encAn a)), (9, .cells (encVer v)), (11, .cells [vb a.found, .msl 17900 a.sel.length, sl encNf a.infs, sl encSk a.skips]), (17900, .arr 4 (a.sel.map encSl))], hfree⟩ (Yi ?_ ?_)
    · exact ⟨⟨Zr, Zr, Zr, Zr, Zr, Zr, Zr, trivial⟩, ⟨Zr, Zr, Zr, Zr, Zr, trivial⟩, fun _ => .inl rfl, trivial⟩
    refine Yi (Nz rfl) ?_
    refine Yi (show (0 : Int) ≤ k ∧ (k : Int) < (a.sel.length : Int) by omega) ?_
    have hgk : (a.sel.map encSl)[k]? = some (encSl a.sel[k]) := by rw [List.getElem?_map, hgy]; rfl
    refine Yi (by rw [List.length_map]) (Xi (encSl a.sel[k]) (Yi hgk (Yi (Nz rfl) ?_)))
    have es : (a.sel.map encSl).set k [vs a.sel[k].path, vi v.a, vi v.b, vi v.c] = (a.sel.set k ⟨a.sel[k].path, v⟩).map encSl := by rw [List.map_set]
    refine Yi (by rw [List.length_set, List.length_map]) ?_
    refine Xi ⟨[(1, sl encRq roots), (3, .v (.int .u8 n)), (5, .ref 5 0), (7, .ref 7 0), (9, .ref 9 0), (11, .ref 11 0), (13, vi k)], [(5, .cells [sl encRl x, .slice .none ifs]), (7, .cells (encAn a)), (9, .cells (encVer v)), (11, .cells [vb a.found, .slice (.id 17900 4) ((a.sel.set k ⟨a.sel[k].path, v⟩).map encSl), sl encNf a.infs, sl encSk a.skips]), (17900, .tok 4 ((a.sel.set k ⟨a.sel[k].path, v⟩).map encSl).length)], hfree⟩ (Yi ?_ ?_)
    · exact ⟨⟨Zr, Zr, Zr, Zr, Zr, Zr, Zr, trivial⟩, ⟨Zr, Zr, Zr, ⟨congrArg (fun e => HO.cells [vb a.found, .slice (.id 17900 4) e, sl encNf a.infs, sl encSk a.skips]) es, rfl⟩, ⟨congrArg (fun e : List (List AV) => HO.tok 4 e.length) es, rfl⟩, trivial⟩, fun _ => .inl rfl, trivial⟩
    refine Yi (Nz rfl) ?_
    refine Xi (encSl a.sel[k]) (Yi (Yi (by show (0 : Int) ≤ k; omega) (by rw [Int.toNat_natCast]; exact hgk)) (Yi rfl ?_))
    refine Yi (Nz rfl) ?_
    refine Yi (fun h6 => ?_) (fun h6 => ?_)
    · refine Yi (by kernel_rfl) ?_
      exact .refl _
    have h6 : ¬ (v.a = a.sel[k].ver.a ∧ v.b = a.sel[k].ver.b ∧ v.c = a.sel[k].ver.c ∧ True) := h6
    have hs2 : a.sel.set k ⟨a.sel[k].path, v⟩ ≠ a.sel := fun e => h6 (by
      have e2 : (a.sel.set k ⟨a.sel[k].path, v⟩)[k]? = some ⟨a.sel[k].path, v⟩ := List.getElem?_set_self hkl
      rw [e, hgy] at e2
      have e3 := congrArg Sl.ver (Option.some.inj e2)
      have e3 : a.sel[k].ver = v := e3
      rw [e3]
      exact ⟨rfl, rfl, rfl, trivial⟩)
    have h21c := h21x (a.sel.set k ⟨a.sel[k].path, v⟩) a.skips (by rw [List.length_set]; omega) (by unfold Few; omega)
    rw [law.2.2 _ hs2] at h21c
    refine Yi (Nz rfl) ?_
    refine Yi (Nz rfl) ?_
    refine Xi _ (Yi (h21c) ?_)
    refine Yi (fun _ => ?_) (fun h => absurd rfl h)
    refine Yi (by kernel_rfl) ?_
    exact .refl _
  have h7 : (0 : Int) < (a.skips.map encSk).length := h7
  have hsn : a.skips ≠ [] := fun e => by rw [e] at h7; exact absurd h7 (by decide)
  have h7 : 0 < a.skips.length := by rw [List.length_map] at h7; omega
  refine Xi ⟨[(1, sl encRq roots), (3, .v (.int .u8 n)), (5, .ref 5 0), (7, .ref 7 0), (9, .ref 9 0), (11, .ref 11 0), (12, vi (a.skips.map encSk).length)], [(5, .cells [sl encRl x, .slice .none ifs]), (7, .cells (encAn a)), (9, .cells (encVer v)), (11, .cells [vb a.found, sl encSl a.sel, sl encNf a.infs, .slice (.id 14000 3) (a.skips.map encSk ++ [[vs exA, vi 0, vi 0]])]), (14000, .tok 3 ((a.skips.map encSk).length + [[vs exA, vi 0, vi 0]].length))], hfree⟩ (Yi ?_ ?_)
  · exact ⟨⟨Zr, Zr, Zr, Zr, Zr, Zr, Zr, trivial⟩, ⟨Zr, Zr, Zr, Zr, Zr, trivial⟩, fun _ => .inl rfl, trivial⟩
  refine Yi (show InI64 (((a.skips.map encSk).length : Int) - 1) by rw [List.length_map]; unfold InI64; omega) ?_
  refine Yi (show (0 : Int) ≤ 0 ∧ (0 : Int) ≤ ((a.skips.map encSk).length : Int) - 1 ∧ ((a.skips.map encSk).length : Int) - 1 ≤ ((a.skips.map encSk).length : Int) by rw [List.length_map]; omega) (Yi (fun c hc => by obtain ⟨z, _, rfl⟩ := List.mem_map.1 hc; rfl) ?_)
  refine Yi (Nz rfl) ?_
  have ed : ((a.skips.map encSk).take (((a.skips.map encSk).length : Int) - 1).toNat).drop (0 : Int).toNat = a.skips.dropLast.map encSk := by
    rw [List.length_map, show ((a.skips.length : Int) - 1).toNat = a.skips.length - 1 by omega, List.dropLast_eq_take, List.map_take]; rfl
  refine Xi ⟨[(1, sl encRq roots), (3, .v (.int .u8 n)), (5, .ref 5 0), (7, .ref 7 0), (9, .ref 9 0), (11, .ref 11 0)], [(5, .cells [sl encRl x, .slice .none ifs]), (7, .cells (encAn a)), (9, .cells (encVer v)), (11, .cells [vb a.found, sl encSl a.sel, sl encNf a.infs, sl encSk a.skips.dropLast])], hfree⟩ (Yi ?_ ?_)
  · exact ⟨⟨Zr, Zr, Zr, Zr, Zr, Zr, trivial⟩, ⟨Zr, Zr, Zr, ⟨congrArg (fun e => HO.cells [vb a.found, sl encSl a.sel, sl encNf a.infs, .slice .none e]) ed, rfl⟩, trivial⟩, fun _ => .inl rfl, trivial⟩
  have h21b := h21x a.sel a.skips.dropLast (by omega) (by unfold Few; rw [List.length_dropLast]; omega)
  rw [law.2.1 hsn] at h21b
  refine Yi (Nz rfl) ?_
  refine Yi (Nz rfl) ?_
  refine Xi .pure (Xi _ (Yi (h21b) ?_))
  refine Yi (fun h => absurd rfl h) (fun _ => ?_)
  refine Xi ⟨[(1, sl encRq roots), (3, .v (.int .u8 n)), (5, .ref 5 0), (7, .ref 7 0), (9, .ref 9 0), (11, .ref 11 0)], [(5, .cells [sl encRl x, .slice .none ifs]), (7, .cells (encAn a)), (9, .cells (encVer v)), (11, .cells [vb a.found, sl encSl a.sel, sl encNf a.infs, sl encSk a.skips.dropLast])], hfree⟩ (Yi ?_ ?_)
  · exact ⟨⟨Zr, Zr, Zr, Zr, Zr, Zr, trivial⟩, ⟨Zr, Zr, Zr, Zr, trivial⟩, fun _ => .inl rfl, trivial⟩
  refine Yi (fun h5 => ?_) (fun h5 => ?_)
  · exact .refl _
  have h5 : ¬ ((a.sel.map encSl).length : Int) = 0 := h5
  have h5 : a.sel.length ≠ 0 := by rw [List.length_map] at h5; omega
  have hne : a.sel ≠ [] := fun e => h5 (by rw [e]; rfl)
  refine Exists.elim (show ∃ k : Nat, (k : Int) = n % (a.sel.length : Int) from ⟨(n % (a.sel.length : Int)).toNat, Int.toNat_of_nonneg (Int.emod_nonneg _ (by omega))⟩) (fun k hk => ?_)
  have hkl : k < a.sel.length := by have := Int.emod_lt_of_pos n (show (0 : Int) < (a.sel.length : Int) by omega); omega
  have hgy : a.sel[k]? = some a.sel[k] := List.getElem?_eq_getElem hkl
  refine Xi ⟨[(1, sl encRq roots), (3, .v (.int .u8 n)), (5, .ref 5 0), (7, .ref 7 0), (9, .ref 9 0), (11, .ref 11 0)], [(5, .cells [sl encRl x, .slice .none ifs]), (7, .cells (encAn a)), (9, .cells (encVer v)), (11, .cells [vb a.found, sl encSl a.sel, sl encNf a.infs, sl encSk a.skips.dropLast])], hfree⟩ (Yi ?_ ?_)
  · exact ⟨⟨Zr, Zr, Zr, Zr, Zr, Zr, trivial⟩, ⟨Zr, Zr, Zr, Zr, trivial⟩, fun _ => .inl rfl, trivial⟩
  refine Yi (show InI64 n by unfold InI64; omega) ?_
  refine Yi (show 0 ≤ n ∧ 0 < ((a.sel.map encSl).length : Int) by rw [List.length_map]; omega) ?_
  have ek : vi (n % ((a.sel.map encSl).length : Int)) = vi k := by rw [List.length_map, ← hk]
  refine Xi ⟨[(1, sl encRq roots), (3, .v (.int .u8 n)), (5, .ref 5 0), (7, .ref 7 0), (9, .ref 9 0), (11, .ref 11 0), (13, vi k)], [(5, .cells [sl encRl x, .slice .none ifs]), (7, .cells (encAn a)), (9, .cells (encVer v)), (11, .cells [vb a.found, sl encSl a.sel, sl encNf a.infs, sl encSk a.skips.dropLast])], hfree⟩ (Yi ?_ ?_)
  · exact ⟨⟨Zr, Zr, Zr, Zr, Zr, Zr, ⟨ek, rfl⟩, trivial⟩, ⟨Zr, Zr, Zr, Zr, trivial⟩, fun _ => .inl rfl, trivial⟩
  refine Yi (Nz rfl) (Yi (Nz rfl) ?_)
  refine Xi ⟨[(1, sl encRq roots), (3, .v (.int .u8 n)), (5, .ref 5 0), (7, .ref 7 0), (9, .ref 9 0), (11, .ref 11 0), (13, vi k)], [(5, .cells [sl encRl x, .slice .none ifs]), (7, .cells (encAn a)), (9, .cells (encVer v)), (11, .cells [vb a.found, sl encSl a.sel, sl encNf a.infs, sl encSk a.skips])], hfree⟩ (Yi ?_ ?_)
  · exact ⟨⟨Zr, Zr, Zr, Zr, Zr, Zr, Zr, trivial⟩, ⟨Zr, Zr, Zr, Zr, trivial⟩, fun _ => .inl rfl, trivial⟩
  refine Xi (.gen [] 1) (Yi rfl ((c32a a.sel (by unfold Few; omega) hne).imp ?_))
  intro w g q
  have q1 := q.1
  have q2 := q.2
  subst q1
  subst q2
  clear q
  refine Yi (Nz rfl) ?_
  refine Xi ⟨[(1, sl encRq roots), (3, .v (.int .u8 n)), (5, .ref 5 0), (7, .ref 7 0), (9, .ref 9 0), (11, .ref 11 0), (13, vi k)], [(5, .cells [sl encRl x, .slice .none ifs]), (7, .cells (encAn a)), (9, .cells (encVer v)), (11, .cells [vb a.found, .msl 17900 a.sel.length, sl encNf a.infs, sl encSk a.skips]), (17900, .arr 4 (a.sel.map encSl))], hfree⟩ (Yi ?_ ?_)
  · exact ⟨⟨Zr, Zr, Zr, Zr, Zr, Zr, Zr, trivial⟩, ⟨Zr, Zr, Zr, Zr, Zr, trivial⟩, fun _ => .inl rfl, trivial⟩
  refine Yi (Nz rfl) ?_
  refine Yi (show (0 : Int) ≤ k ∧ (k : Int) < (a.sel.length : Int) by omega) ?_
  have hgk : (a.sel.map encSl)[k]? = some (encSl a.sel[k]) := by rw [List.getElem?_map, hgy]; rfl
  refine Yi (by rw [List.length_map]) (Xi (encSl a.sel[k]) (Yi hgk (Yi (Nz rfl) ?_)))
  have es : (a.sel.map encSl).set k [vs a.sel[k].path, vi v.a, vi v.b, vi v.c] = (a.sel.set k ⟨a.sel[k].path, v⟩).map encSl := by rw [List.map_set]
  refine Yi (by rw [List.length_set, List.length_map]) ?_
  refine Xi ⟨[(1, sl encRq roots), (3, .v (.int .u8 n)), (5, .ref 5 0), (7, .ref 7 0), (9, .ref 9 0), (11, .ref 11 0), (13, vi k)], [(5, .cells [sl encRl x, .slice .none ifs]), (7, .cells (encAn a)), (9, .cells (encVer v)), (11, .cells [vb a.found, .slice (.id 17900 4) ((a.sel.set k ⟨a.sel[k].path, v⟩).map encSl), sl encNf a.infs, sl encSk a.skips]), (17900, .tok 4 ((a.sel.set k ⟨a.sel[k].path, v⟩).map encSl).length)], hfree⟩ (Yi ?_ ?_)
  · exact ⟨⟨Zr, Zr, Zr, Zr, Zr, Zr, Zr, trivial⟩, ⟨Zr, Zr, Zr, ⟨congrArg (fun e => HO.cells [vb a.found, .slice (.id 17900 4) e, sl encNf a.infs, sl encSk a.skips]) es, rfl⟩, ⟨congrArg (fun e : List (List AV) => HO.tok 4 e.length) es, rfl⟩, trivial⟩, fun _ => .inl rfl, trivial⟩
  refine Yi (Nz rfl) ?_
  refine Xi (encSl a.sel[k]) (Yi (Yi (by show (0 : Int) ≤ k; omega) (by rw [Int.toNat_natCast]; exact hgk)) (Yi rfl ?_))
  refine Yi (Nz rfl) ?_
  refine Yi (fun h6 => ?_) (fun h6 => ?_)
  · refine Yi (by kernel_rfl) ?_
    exact .refl _
  have h6 : ¬ (v.a = a.sel[k].ver.a ∧ v.b = a.sel[k].ver.b ∧ v.c = a.sel[k].ver.c ∧ True) := h6
  have hs2 : a.sel.set k ⟨a.sel[k].path, v⟩ ≠ a.sel := fun e => h6 (by
    have e2 : (a.sel.set k ⟨a.sel[k].path, v⟩)[k]? = some ⟨a.sel[k].path, v⟩ := List.getElem?_set_self hkl
    rw [e, hgy] at e2
    have e3 := congrArg Sl.ver (Option.some.inj e2)
    have e3 : a.sel[k].ver = v := e3
    rw [e3]
    exact ⟨rfl, rfl, rfl, trivial⟩)
  have h21c := h21x (a.sel.set k ⟨a.sel[k].path, v⟩) a.skips (by rw [List.length_set]; omega) (by unfold Few; omega)
  rw [law.2.2 _ hs2] at h21c
  refine Yi (Nz rfl) ?_
  refine Yi (Nz rfl) ?_
  refine Xi _ (Yi (h21c) ?_)
  refine Yi (fun _ => ?_) (fun h => absurd rfl h)
  refine Yi (by kernel_rfl) ?_
  exact .refl _
end Go.Eng

namespace Go.Proofs.YtodcmjcogdcmlaaGreatDoor.joins
open Go Go.Eng Go.Proofs Go.ChangeShapes Go.WideShapes Go.ChangeAt Go.RowKit
abbrev args9 : Array Value := #[.agg #[nilV, nilV], nilV, .agg #[.bool false, nilV, nilV, nilV], .int .u8 0, .agg #[.int .i64 0, .int .i64 0, .int .i64 0]]
theorem laid_met9 (os : Os) : laidMet Tryz.prog Rows.proofTampersUptoRow.laid ((laidWorld os).forCall (fun _ _ => 0) ⟨#[], args9, []⟩).memory :=
  laidMet_of_run' 8 (by as_aux_lemma => kernel_rfl) (by as_aux_lemma => kernel_rfl)
theorem reads9 (os : Os) {H : Type} (enc : TypeId × Value → H) : ∃ places, DataW.whole enc Tryz.prog ((laidWorld os).forCall (fun _ _ => 0) ⟨#[], args9, []⟩).memory Tryz.f9.params.toList Rows.proofTampersSpec.vars false args9.toList 8 =
    some ([.agg [.nil, .nil], .nil, .agg [.lit (.bool false), .nil, .nil, .nil], .lit (.int .u8 0), .agg [.lit (.int .i64 0), .lit (.int .i64 0), .lit (.int .i64 0)]], [], places) :=
  ⟨[], by kernel_rfl⟩
set_option maxRecDepth 100000 in
theorem contract9 (H : Type) (enc : TypeId × Value → H) (W : World) (base : Nat) (args : Array Value) (ds gs : List (DataW H)) (before : List MemPlace)
    (hval : ∀ (j : Nat) t v, Tryz.f9.params[j]? = some t → args[j]? = some v → Value.okWide Tryz.prog W .any base t v)
    (hW : DataW.Whole enc Tryz.prog Tryz.f9.params.toList Rows.proofTampersSpec.vars false W args.toList ds gs before) (hk : Rows.uptoSmall H (ds ++ gs) = true) (hM : ∃ m, W.cell? ⟨0, 0, none⟩ = some (.int .i64 m)) :
    Calls Tryz.prog 9 args W fun e W' => ∃ v, e = .returned v ∧ Rows.proofTampersSpec.post enc Tryz.prog Tryz.f9 false true false false W args v W' := by
  have hW' := hW
  obtain ⟨p, q, hA0, hV, rfl, hfz, hnd⟩ := hW
  have hA : DataW.TrodAll enc Tryz.prog W 0 (fun _ => true) true Tryz.f9.params.toList args.toList ds p := hA0
  rw [Tryz.params9] at hA hval
  obtain ⟨v0, vs0, d0, ds0, p0, q0, hargs, rfl, rfl, h0, r0⟩ := trodAll_cons hA
  obtain ⟨v1, vs1, d1, ds1, p1, q1, rfl, rfl, rfl, h1, r1⟩ := trodAll_cons r0
  obtain ⟨v2, vs2, d2, ds2, p2, q2, rfl, rfl, rfl, h2, r2⟩ := trodAll_cons r1
  obtain ⟨v3, vs3, d3, ds3, p3, q3, rfl, rfl, rfl, h3, r3⟩ := trodAll_cons r2
  obtain ⟨v4, vs4, d4, ds4, p4, q4, rfl, rfl, rfl, h4, r4⟩ := trodAll_cons r3
  obtain ⟨rfl, rfl, rfl⟩ := trodAll_nil r4
  have eargs : args = #[v0, v1, v2, v3, v4] := arr5 hargs
  subst eargs
  obtain ⟨rfl, rfl⟩ := trodVars_none hV
  have hb : Rows.uptoBulkAll ([d0, d1, d2, d3, d4] : List (DataW H)) ≤ 1048576 := by
    rw [List.append_nil] at hk
    exact of_decide_eq_true hk
  have bd : ∀ d ∈ ([d0, d1, d2, d3, d4] : List (DataW H)), Rows.uptoBulk d ≤ NB := fun d hd => Nat.le_trans (all_le hd) hb
  obtain ⟨c0, rfl⟩ := ok_agg Tryz.underlying25 (hval 0 25 v0 rfl rfl)
  have hv1 := ok_slice Tryz.underlying26 (hval 1 26 v1 rfl rfl)
  obtain ⟨c2, rfl⟩ := ok_agg Tryz.underlying40 (hval 2 40 v2 rfl rfl)
  have hv3 := ok_int Tryz.underlying5 (hval 3 5 v3 rfl rfl)
  obtain ⟨c4, rfl⟩ := ok_agg Tryz.underlying57 (hval 4 57 v4 rfl rfl)
  obtain ⟨x0, R0, K0⟩ := open_agg oIx h0 (bd _ (by simp))
  obtain ⟨x1, R1, K1⟩ := open_one (e := fun l : List Rq => sl encRq l) oRqs hv1 h1 (bd _ (by simp))
  obtain ⟨x2, R2, K2⟩ := open_agg oAn h2 (bd _ (by simp))
  obtain ⟨x3, R3, K3⟩ := open_one (e := fun n : Int => .v (.int .u8 n)) oU8 hv3 h3 (bd _ (by simp))
  obtain ⟨x4, R4, K4⟩ := open_agg oVer h4 (bd _ (by simp))
  have hc : PC 9 [ixV x0.1 x0.2, sl encRq x1, .agg (encAn x2), .v (.int .u8 x3), .agg (encVer x4)] (vb true) := c9 x0.1 x0.2 x1 x2 x3 x4 (lim_of K0 K1) K3
  refine (run_true (vals := #[.agg c0, v1, .agg c2, v3, .agg c4]) hc hM rfl (fun i av y e1 e2 => ?_)).mono fun e W' ⟨he, hs⟩ => ⟨_, he, post_true hs rfl (by simpa using hW') rfl (by rw [Tryz.params9]; decide +kernel) rfl⟩
  match i with
  | 0 => cases e1; cases e2; exact R0
  | 1 => cases e1; cases e2; exact R1
  | 2 => cases e1; cases e2; exact R2
  | 3 => cases e1; cases e2; exact R3
  | 4 => cases e1; cases e2; exact R4
  | _ + 5 => simp at e1
set_option maxRecDepth 100000 in
theorem lifted9 (os : Os) (started : os.Started) (H : Type) (enc : TypeId × Value → H) (F : Stop.Interp) :
    ReturnsInHanded {} Tryz.checked os 9 .any ((Rows.OpenSpec.upto Rows.proofTampersSpec).preRow enc Tryz.prog Tryz.f9 Rows.proofTampersUptoRow.domain false Rows.proofTampersUptoRow.laid) (((Rows.OpenSpec.upto Rows.proofTampersSpec).at F).post enc Tryz.prog Tryz.f9 false true false false) := by
  obtain ⟨places, hx⟩ := reads9 os enc
  refine returnsInHanded_of_row (C := Tryz.checked) (s := Rows.OpenSpec.upto Rows.proofTampersSpec) own started (by as_aux_lemma => kernel_rfl) Tryz.func9
    (witness_row_at (enc := enc) (C := Tryz.checked) false (laidWorld os) args9 rfl (by as_aux_lemma => kernel_rfl) (by as_aux_lemma => kernel_rfl) (by as_aux_lemma => kernel_rfl)
      (OpenSpec.preRow_of_cond 8 hx (by as_aux_lemma => kernel_rfl) (fun k hk => by cases hk; as_aux_lemma => kernel_rfl) (by as_aux_lemma => kernel_rfl) (laid_met9 os))) ?_
  intro W base args ds gs before hval hW _ hcond _ _ hsh _
  exact contract9 H enc W base args ds gs before hval hW (hcond _ rfl) (maxLen_cell hsh)
theorem and_mk {a b : Bool} (h : a = true) (k : b = true) : (a && b) = true := by rw [h, k]; rfl
set_option maxHeartbeats 4000000 in
theorem closed : joinedFacts Tryz.pinned.checked.prog 9 Tryz.f9 (Rows.OpenSpec.upto Rows.proofTampersSpec).bare Rows.proofTampersUptoRow = true := by
  unfold joinedFacts
  repeat' with_reducible refine and_mk ?_ ?_
  all_goals (as_aux_lemma => kernel_rfl)
theorem said9 : Rows.ProofTampersUptoSaid :=
  OpenClaim.holds_of_cond 9 Tryz.f9 rfl rfl rfl rfl rfl rfl rfl ⟨rfl, rfl, rfl, rfl, rfl⟩ rfl rfl rfl rfl rfl (by as_aux_lemma => kernel_rfl) Tryz.func9 closed
    (of_decide_eq_true (by as_aux_lemma => kernel_rfl)) (by unfold Func.isWrapper; first | (rw [if_pos (by decide +kernel)]; kernel_rfl) | (rw [if_neg (by decide +kernel)]; exact ⟨rfl, rfl⟩))
    (fun os started H enc _ F => by rw [OpenClaim.pre_eq_preRow]; exact lifted9 os started H enc F)
theorem plain9 (f : FuncId) (fn : Func) (hf : Tryz.pinned.checked.prog.funcNamed "modcert/modcertlaw36.ProofTampers" = some f) (hfn : Tryz.pinned.checked.prog.funcs[f]? = some fn) :
    false = Tryz.pinned.checked.prog.looks [] ∧ ∀ (j : Nat) t, fn.params[j]? = some t → Tryz.pinned.checked.prog.wantsStandIn t = false := by
  obtain rfl : f = 9 := Option.some.inj ((show Tryz.prog.funcNamed "modcert/modcertlaw36.ProofTampers" = some 9 by kernel_rfl).symm.trans hf) |>.symm
  obtain rfl : fn = Tryz.f9 := (Option.some.inj (Tryz.func9.symm.trans hfn)).symm
  refine ⟨looksOff, fun j t ht => noStand t ?_⟩
  rw [Tryz.params9] at ht
  have hm : t ∈ #[25, 26, 40, 5, 57] := Array.mem_of_getElem? ht
  exact (show ∀ t ∈ ([25, 26, 40, 5, 57] : List Nat), t ∈ ([25, 26, 27, 37, 40, 63, 5, 57] : List Nat) by decide) t (by simpa using hm)
theorem card9 : Rows.ProofTampersUptoCardSaid :=
  Claim7.holds_tied_plain_at .later [] _ _ _ _ said9 (fun _ h => by cases h) (by kernel_rfl) (fun _ h => by cases h) proofTampersUpto_row_tie rfl ⟨rfl, rfl⟩ (by kernel_rfl) rfl plain9 (by kernel_rfl)
end Go.Proofs.YtodcmjcogdcmlaaGreatDoor.joins
