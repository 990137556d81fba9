/- Lemmas for the claims of this seat, without a condition: part 27 (R22). -/
import Derived.Test.YtodcmjcogdcmlaaGreatDoorA26
namespace Go.Eng
open Go.Proofs
theorem enc_len {α : Type} {enc : α → List AV} {n : Nat} (h : ∀ x, (enc x).length = n) (l : List α) : ∀ cs ∈ l.map enc, cs.length = n := fun cs hc => by
 obtain ⟨x, _, rfl⟩ := List.mem_map.1 hc; exact h x
abbrev segT (A : List Tm) (k : Nat) : List (List AV) := ((A.map encTm).take (((A.map encTm).length : Nat) : Int).toNat).drop ((k : Nat) : Int).toNat
theorem segT_eq (A : List Tm) (k : Nat) : segT A k = (A.drop k).map encTm := by
 unfold segT
 rw [Int.toNat_natCast, Int.toNat_natCast, List.take_of_length_le (Nat.le_refl _), List.map_drop]
abbrev hdT (A : List Tm) (k : Nat) : List (List AV) := ((A.map encTm).take ((k : Nat) : Int).toNat).drop ((0 : Int)).toNat
theorem hdT_eq (A : List Tm) (k : Nat) : hdT A k = (A.take k).map encTm := by
 unfold hdT
 rw [Int.toNat_natCast, show (0 : Int).toNat = 0 from rfl, List.drop_zero, List.map_take]
theorem bulkT1 (A : List Tm) (x : Tm) (k : Nat) (h : A.length ≤ 1073741824) : AllLen 3 (segT A k) ∧ [encTm x].length = 1 ∧ ([encTm x].length + (segT A k).length) * 48 ≤ 140737488355328 ∧ [encTm x].length + (segT A k).length ≤ 9223372036854775807 := by
 rw [segT_eq]
 refine ⟨allLen_of (enc_len (enc := encTm) (n := 3) (fun _ => rfl) _), rfl, ?_, ?_⟩ <;> rw [Lm, List.length_drop, List.length_singleton] <;> omega
theorem bulkT2 (A : List Tm) (x : Tm) (k : Nat) (h : A.length ≤ 1073741824) : AllLen 3 ([encTm x] ++ segT A k) ∧ 0 < ([encTm x] ++ segT A k).length ∧ ((hdT A k).length + ([encTm x] ++ segT A k).length) * 48 ≤ 140737488355328 ∧ (hdT A k).length + ([encTm x] ++ segT A k).length ≤ 9223372036854775807 := by
 rw [segT_eq, hdT_eq]
 refine ⟨⟨rfl, allLen_of (enc_len (enc := encTm) (n := 3) (fun _ => rfl) _)⟩, by simp, ?_, ?_⟩
 ·rw [List.length_append, Lm, Lm, List.length_take, List.length_drop, List.length_singleton]; omega
 ·rw [List.length_append, Lm, Lm, List.length_take, List.length_drop, List.length_singleton]; omega
theorem insTE (A : List Tm) (x : Tm) (k : Nat) : hdT A k ++ ([encTm x] ++ segT A k) = (A.take k ++ ([x] ++ A.drop k)).map encTm := by
 rw [segT_eq, hdT_eq, List.map_append, List.map_append]; rfl
theorem set_at {l : List (List AV)} {k : Nat} {c x : List AV} (h : l[k]? = some x) : (l.set k c)[k]? = some c := List.getElem?_set_self (List.getElem?_eq_some_iff.1 h).1
theorem set2 (A : List Tm) (k : Nat) (t : Tm) (c : List AV) : ((A.map encTm).set k c).set k (encTm t) = (A.set k t).map encTm := by rw [List.set_set, List.map_set]
theorem inter_can (a b : SpanL) : inter a (canon b) = inter a b := inter_congr (fun _ => rfl) (has_canon b)
theorem neverT_eq (t : Tm) : neverT t = (!t.absent && decide (t.set = [])) := by
 unfold neverT; congr 1; cases t.set <;> rfl
theorem any_take {q : Tm → Bool} {l : List Tm} (h : ∀ j (hj : j < l.length), q l[j] = false) : l.any q = false := by
 rw [List.any_eq_false]
 intro x hx
 obtain ⟨j, hj, rfl⟩ := List.getElem_of_mem hx
 rw [h j hj]; decide
theorem any_at {q : Tm → Bool} {l : List Tm} {j : Nat} (hj : j < l.length) (h : q l[j] = true) : l.any q = true := List.any_eq_true.2 ⟨_, List.getElem_mem hj, h⟩

set_option maxHeartbeats 4000000 in
theorem c121 (l : List Tm) (hl : Few l) (hs : ∀ t ∈ l, Few t.set) : PC 121 [sl encTm l] (canRes l) := by
 have hl : l.length ≤ 1073741824 := hl
 have hc : ∀ s : SpanL, Few s → PC 115 [sl encSpan s] (sl encSpan (canon s)) := c115
 have h172 : ∀ (u t : Tm), Canon u.set → PC 172 [.slice .none [[sl encSpan u.set], [sl encSpan (canon t.set)]]] (sl encSpan (inter u.set (canon t.set))) := fun u t hu => c172 [u.set, canon t.set] (by unfold Few; simp) (fun s hs => by
  rcases List.mem_cons.1 hs with rfl | hs
  ·exact few_can hu
  ·rw [List.mem_singleton.1 hs]; exact canon_fw _) (by
  have h1 := compl_few u.set
  have h2 := compl_few (canon t.set)
  unfold Few
  show (compl u.set ++ (compl (canon t.set) ++ [])).length ≤ _
  rw [List.length_append, List.length_append]; simp only [List.length_nil]; omega)
 refine pcall_sub (cxp ⟨[], [], [(10, 3), (93, 3), (100, 3)], [], [], [], [], [], [], [(200004, 10004), (200012, 4)], [4, 6, 12]⟩) rfl tab_ok hm rfl Tryz.func121 (by kernel_rfl) rfl (Nz rfl) (by kernel_rfl) ?_
 refine Xi {q : Nat × List Tm // q.1 ≤ l.length ∧ q.2 = mergeT (l.take q.1)} (Xi (fun q => ⟨[(0, sl encTm l), (4, .msl 10 q.1.2.length), (5, vi q.1.1)], [(10, .arr 3 (q.1.2.map encTm))], hfree⟩) (Xi (fun q => l.length - q.1.1) (Yi (Xi ⟨(0, []), Nat.zero_le _, rfl⟩ ?_) ?_)))
 ·exact ⟨⟨Zr, Zr, Zr, Tv⟩, ⟨Zr, Tv⟩, Fh, Tv⟩
 intro ⟨⟨i, A⟩, i1, i2⟩
 have i1 : i ≤ l.length := i1
 have i2 : A = mergeT (l.take i) := i2
 have hA : A.length ≤ i := by rw [i2]; exact mergeT_len l i i1
 have hAc : ∀ t ∈ A, Canon t.set := fun t ht => by rw [i2] at ht; exact (mergeT_sorted _).canon t ht
 refine Yi (fun h1 => ?_) (fun h1 => ?_)
 ·have h1 : (i : Int) < ((l.map encTm).length : Int) := h1
  have n1 : i < l.length := by simpa using h1
  have g1 : l[i]? = some l[i] := Ge n1
  refine Xi (encTm l[i]) (Yi (Yi (show (0 : Int) ≤ i by omega) (map_at g1)) (Yi rfl ?_))
  refine Xi (encTm l[i]) (Yi (Yi (show (0 : Int) ≤ i by omega) (map_at g1)) (Yi rfl ?_))
  refine Yi (fun h2 => ?_) (fun h2 => ?_)
  ·have h2 : l[i].absent = true := h2
   refine Xi (encTm l[i]) (Yi (Yi (show (0 : Int) ≤ i by omega) (map_at g1)) (Yi rfl ?_))
   refine Xi _ (Yi (hc (l[i].set) (hs _ (List.getElem_mem n1))) ?_)
   refine Yi (Nz rfl) ?_
   refine Yi (by kernel_rfl) ?_
   refine Xi ⟨[(0, sl encTm l), (4, .msl 10 A.length), (5, vi i), (6, .ref 6 0)], [(6, .cells [vs l[i].path, vb l[i].absent, sl encSpan (canon l[i].set)]), (10, .arr 3 (A.map encTm))], hfree⟩ (Yi ?_ ?_)
   ·exact ⟨⟨Zr, Zr, Zr, Zr, Tv⟩, ⟨⟨(show HO.cells [vs l[i].path, vb true, sl encSpan (canon l[i].set)] = .cells [vs l[i].path, vb l[i].absent, sl encSpan (canon l[i].set)] by rw [← show l[i].absent = true from h2]), rfl⟩, Zr, Tv⟩, Fh, Tv⟩
   refine Xi {k : Nat // k ≤ A.length ∧ ∀ j (h : j < A.length), j < k → blt A[j].path l[i].path = true} (Xi (fun q => ⟨[(0, sl encTm l), (4, .msl 10 A.length), (5, vi i), (6, .ref 6 0), (7, vi q.1)], [(6, .cells [vs l[i].path, vb l[i].absent, sl encSpan (canon l[i].set)]), (10, .arr 3 (A.map encTm))], hfree⟩) (Xi (fun q => A.length - q.1) (Yi (Xi ⟨0, Nat.zero_le _, fun j _ h => by omega⟩ ?_) ?_)))
   ·exact ⟨⟨Zr, Zr, Zr, Zr, Zr, Tv⟩, ⟨Zr, Zr, Tv⟩, Fh, Tv⟩
   intro ⟨k, k1, k2⟩
   refine Yi (fun h3 => ?_) (fun h3 => ?_)
   ·have h3 : (k : Int) < (A.length : Int) := h3
    have n3 : k < A.length := by omega
    have g3 : A[k]? = some A[k] := Ge n3
    refine Yi (by show (0 : Int) ≤ k ∧ (k : Int) < (A.length : Nat); omega) ?_
    refine Yi (show A.length = (A.map encTm).length by simp) (Xi (encTm A[k]) (Yi (map_at g3) ?_))
    refine Yi (fun h4 => ?_) (fun h4 => ?_)
    ·have h4 : blt A[k].path l[i].path = true := (blt_eq _ _).trans h4
     refine Yi (by kernel_rfl) ?_
     refine Yi (by show InI64 ((k : Int) + (1 : Int)); unfold InI64; omega) ?_
     refine Xi ⟨k + 1, by omega, fun j hj hji => (Nat.lt_or_ge j k).elim (k2 j hj) (fun z => by have e : j = k := (by omega); subst e; exact h4)⟩ ?_
     exact ⟨by show A.length - (k + 1) < A.length - k; omega, ⟨Zr, Zr, Zr, Zr, Zr, Tv⟩, ⟨Zr, Zr, Tv⟩, Fh, Tv⟩
    have h4 : blt A[k].path l[i].path = false := (blt_eq _ _).trans (Bool.eq_false_iff.2 h4)
    refine Yi (by kernel_rfl) ?_
    refine Yi (fun _ => ?_) (fun hf => absurd h3 hf)
    refine Yi (by show (0 : Int) ≤ k ∧ (k : Int) < (A.length : Nat); omega) ?_
    refine Yi (show A.length = (A.map encTm).length by simp) (Xi (encTm A[k]) (Yi (map_at g3) ?_))
    refine Yi (fun h6 => ?_) (fun h6 => ?_)
    ·have h6 : (A[k].path : ByteArray) = l[i].path := h6
     refine Yi (by kernel_rfl) ?_
     refine Yi (by show (0 : Int) ≤ k ∧ (k : Int) < (A.length : Nat); omega) ?_
     refine Yi (show A.length = (A.map encTm).length by simp) (Xi (encTm A[k]) (Yi (map_at g3) ?_))
     refine Yi (fun h7 => ?_) (fun h7 => ?_)
     ·have h7 : A[k].absent = true := h7
      refine Yi (fun _ => ?_) (fun hf => absurd (hf.symm.trans (h2 : l[i].absent = true)) (by decide))
      refine Yi (by show (0 : Int) ≤ k ∧ (k : Int) < (A.length : Nat); omega) ?_
      refine Yi (show A.length = (A.map encTm).length by simp) (Xi (encTm A[k]) (Yi (map_at g3) (Yi (Nz rfl) ?_)))
      refine Yi (by show (0 : Int) ≤ k ∧ (k : Int) < (A.length : Nat); omega) ?_
      refine Yi (show A.length = (((A.map encTm).set k [vs A[k].path, vb true, sl encSpan A[k].set]) : List (List AV)).length by simp) (Xi [vs A[k].path, vb true, sl encSpan A[k].set] (Yi (set_at (map_at g3)) ?_))
      refine Xi _ (Yi (h172 A[k] l[i] (hAc _ (List.getElem_mem n3))) ?_)
      refine Yi (by show (0 : Int) ≤ k ∧ (k : Int) < (A.length : Nat); omega) ?_
      refine Yi (show A.length = (((A.map encTm).set k [vs A[k].path, vb true, sl encSpan A[k].set]) : List (List AV)).length by simp) (Xi [vs A[k].path, vb true, sl encSpan A[k].set] (Yi (set_at (map_at g3)) (Yi (Nz rfl) ?_)))
      refine Yi (by kernel_rfl) ?_
      have hB : insT l[i] A = A.set k (bothT A[k] l[i]) := insT_at l[i] A k n3 k2 h6
      refine Exists.elim (show ∃ B, B = A.set k (bothT A[k] l[i]) from ⟨_, rfl⟩) (fun B hBB => ?_)
      have hBm : B = mergeT (l.take (i + 1)) := by rw [mergeT_take l i n1, ← i2, hB, hBB]
      have e10 : HO.arr 3 (((A.map encTm).set k [vs A[k].path, vb true, sl encSpan A[k].set]).set k [vs A[k].path, vb true, sl encSpan (inter A[k].set (canon l[i].set))]) = .arr 3 (B.map encTm) := by
       rw [inter_can, hBB]
       exact congrArg (HO.arr 3) ((congrArg (fun b => ((A.map encTm).set k _).set k [vs A[k].path, vb b, sl encSpan (inter A[k].set l[i].set)]) (show true = (A[k].absent && l[i].absent) by rw [show l[i].absent = true from h2, show A[k].absent = true from h7]; try rfl)).trans (set2 A k (bothT A[k] l[i]) _))
      have e4 : AV.msl 10 A.length = .msl 10 B.length := by rw [hBB, List.length_set]
      refine Xi ⟨[(0, sl encTm l), (4, .msl 10 B.length), (5, vi i)], [(10, .arr 3 (B.map encTm))], hfree⟩ (Yi ?_ ?_)
      ·exact ⟨⟨Zr, ⟨e4, rfl⟩, Zr, Tv⟩, ⟨⟨e10, rfl⟩, Tv⟩, Fh, Tv⟩
      refine Yi (by show InI64 ((i : Int) + (1 : Int)); unfold InI64; omega) ?_
      refine Xi ⟨(i + 1, B), by omega, hBm⟩ ?_
      exact ⟨by show l.length - (i + 1) < l.length - i; omega, ⟨Zr, Zr, Zr, Tv⟩, ⟨Zr, Tv⟩, Fh, Tv⟩
     have h7 : A[k].absent = false := h7
     refine Yi (by show (0 : Int) ≤ k ∧ (k : Int) < (A.length : Nat); omega) ?_
     refine Yi (show A.length = (A.map encTm).length by simp) (Xi (encTm A[k]) (Yi (map_at g3) (Yi (Nz rfl) ?_)))
     refine Yi (by show (0 : Int) ≤ k ∧ (k : Int) < (A.length : Nat); omega) ?_
     refine Yi (show A.length = (((A.map encTm).set k [vs A[k].path, vb false, sl encSpan A[k].set]) : List (List AV)).length by simp) (Xi [vs A[k].path, vb false, sl encSpan A[k].set] (Yi (set_at (map_at g3)) ?_))
     refine Xi _ (Yi (h172 A[k] l[i] (hAc _ (List.getElem_mem n3))) ?_)
     refine Yi (by show (0 : Int) ≤ k ∧ (k : Int) < (A.length : Nat); omega) ?_
     refine Yi (show A.length = (((A.map encTm).set k [vs A[k].path, vb false, sl encSpan A[k].set]) : List (List AV)).length by simp) (Xi [vs A[k].path, vb false, sl encSpan A[k].set] (Yi (set_at (map_at g3)) (Yi (Nz rfl) ?_)))
     refine Yi (by kernel_rfl) ?_
     have hB : insT l[i] A = A.set k (bothT A[k] l[i]) := insT_at l[i] A k n3 k2 h6
     refine Exists.elim (show ∃ B, B = A.set k (bothT A[k] l[i]) from ⟨_, rfl⟩) (fun B hBB => ?_)
     have hBm : B = mergeT (l.take (i + 1)) := by rw [mergeT_take l i n1, ← i2, hB, hBB]
     have e10 : HO.arr 3 (((A.map encTm).set k [vs A[k].path, vb false, sl encSpan A[k].set]).set k [vs A[k].path, vb false, sl encSpan (inter A[k].set (canon l[i].set))]) = .arr 3 (B.map encTm) := by
      rw [inter_can, hBB]
      exact congrArg (HO.arr 3) ((congrArg (fun b => ((A.map encTm).set k _).set k [vs A[k].path, vb b, sl encSpan (inter A[k].set l[i].set)]) (show false = (A[k].absent && l[i].absent) by rw [show l[i].absent = true from h2, show A[k].absent = false from h7]; try rfl)).trans (set2 A k (bothT A[k] l[i]) _))
     have e4 : AV.msl 10 A.length = .msl 10 B.length := by rw [hBB, List.length_set]
     refine Xi ⟨[(0, sl encTm l), (4, .msl 10 B.length), (5, vi i)], [(10, .arr 3 (B.map encTm))], hfree⟩ (Yi ?_ ?_)
     ·exact ⟨⟨Zr, ⟨e4, rfl⟩, Zr, Tv⟩, ⟨⟨e10, rfl⟩, Tv⟩, Fh, Tv⟩
     refine Yi (by show InI64 ((i : Int) + (1 : Int)); unfold InI64; omega) ?_
     refine Xi ⟨(i + 1, B), by omega, hBm⟩ ?_
     exact ⟨by show l.length - (i + 1) < l.length - i; omega, ⟨Zr, Zr, Zr, Tv⟩, ⟨Zr, Tv⟩, Fh, Tv⟩
    have h6 : ¬ (A[k].path : ByteArray) = l[i].path := h6
    refine Yi (by kernel_rfl) ?_
    refine Yi (by rw [Lm]) ?_
    refine Xi ⟨[(0, sl encTm l), (4, sl encTm A), (5, vi i), (6, .ref 6 0), (7, vi k)], [(6, .cells [vs l[i].path, vb l[i].absent, sl encSpan (canon l[i].set)])], hfree⟩ (Yi ?_ ?_)
    ·exact ⟨⟨Zr, Zr, Zr, Zr, Zr, Tv⟩, ⟨Zr, Tv⟩, Fh, Tv⟩
    refine Yi (show (0 : Int) ≤ 0 ∧ (0 : Int) ≤ k ∧ (k : Int) = k ∧ (k : Int) ≤ ((A.map encTm).length : Nat) by rw [Lm]; omega) (Yi (enc_len (enc := encTm) (n := 3) (fun _ => rfl) A) ?_)
    refine Yi (Nz rfl) ?_
    refine Yi (show (0 : Int) ≤ k ∧ (k : Int) ≤ ((A.map encTm).length : Nat) ∧ (((A.map encTm).length : Nat) : Int) ≤ ((A.map encTm).length : Nat) by rw [Lm]; omega) (Yi (enc_len (enc := encTm) (n := 3) (fun _ => rfl) A) ?_)
    refine Yi (bulkT1 A (canT1 l[i]) k (by omega)) ?_
    refine Yi (bulkT2 A (canT1 l[i]) k (by omega)) ?_
    refine Yi (by kernel_rfl) ?_
    have hB : insT l[i] A = (A.take k ++ ([canT1 l[i]] ++ A.drop k)) := insT_new l[i] A k k1 k2 (fun h => ⟨h4, h6⟩)
    have hBm : (A.take k ++ ([canT1 l[i]] ++ A.drop k)) = mergeT (l.take (i + 1)) := by rw [mergeT_take l i n1, ← i2, hB]
    refine Yi rfl ?_
    refine Exists.elim (show ∃ B, B = (A.take k ++ ([canT1 l[i]] ++ A.drop k)) from ⟨_, rfl⟩) (fun B hBB => ?_)
    rw [← hBB] at hBm
    have e10 : HO.arr 3 (hdT A k ++ ([encTm (canT1 l[i])] ++ segT A k)) = .arr 3 (B.map encTm) := by rw [insTE, hBB]
    have e4 : AV.msl 10 (hdT A k ++ ([encTm (canT1 l[i])] ++ segT A k)).length = .msl 10 B.length := by rw [insTE, hBB, Lm]
    refine Xi ⟨[(0, sl encTm l), (4, .msl 10 B.length), (5, vi i)], [(10, .arr 3 (B.map encTm))], hfree⟩ (Yi ?_ ?_)
    ·exact ⟨⟨Zr, ⟨e4, rfl⟩, Zr, Tv⟩, ⟨⟨e10, rfl⟩, Tv⟩, Fh, Tv⟩
    refine Yi (by show InI64 ((i : Int) + (1 : Int)); unfold InI64; omega) ?_
    refine Xi ⟨(i + 1, B), by omega, hBm⟩ ?_
    exact ⟨by show l.length - (i + 1) < l.length - i; omega, ⟨Zr, Zr, Zr, Tv⟩, ⟨Zr, Tv⟩, Fh, Tv⟩
   have h3 : ¬ ((k : Int) < (A.length : Int)) := h3
   have n3 : ¬ k < A.length := by omega
   refine Yi (by kernel_rfl) ?_
   refine Yi (fun hf => absurd hf h3) (fun _ => ?_)
   refine Yi (by kernel_rfl) ?_
   refine Yi (by rw [Lm]) ?_
   refine Xi ⟨[(0, sl encTm l), (4, sl encTm A), (5, vi i), (6, .ref 6 0), (7, vi k)], [(6, .cells [vs l[i].path, vb l[i].absent, sl encSpan (canon l[i].set)])], hfree⟩ (Yi ?_ ?_)
   ·exact ⟨⟨Zr, Zr, Zr, Zr, Zr, Tv⟩, ⟨Zr, Tv⟩, Fh, Tv⟩
   refine Yi (show (0 : Int) ≤ 0 ∧ (0 : Int) ≤ k ∧ (k : Int) = k ∧ (k : Int) ≤ ((A.map encTm).length : Nat) by rw [Lm]; omega) (Yi (enc_len (enc := encTm) (n := 3) (fun _ => rfl) A) ?_)
   refine Yi (Nz rfl) ?_
   refine Yi (show (0 : Int) ≤ k ∧ (k : Int) ≤ ((A.map encTm).length : Nat) ∧ (((A.map encTm).length : Nat) : Int) ≤ ((A.map encTm).length : Nat) by rw [Lm]; omega) (Yi (enc_len (enc := encTm) (n := 3) (fun _ => rfl) A) ?_)
   refine Yi (bulkT1 A (canT1 l[i]) k (by omega)) ?_
   refine Yi (bulkT2 A (canT1 l[i]) k (by omega)) ?_
   refine Yi (by kernel_rfl) ?_
   have hB : insT l[i] A = (A.take k ++ ([canT1 l[i]] ++ A.drop k)) := insT_new l[i] A k k1 k2 (fun h => absurd h (by omega))
   have hBm : (A.take k ++ ([canT1 l[i]] ++ A.drop k)) = mergeT (l.take (i + 1)) := by rw [mergeT_take l i n1, ← i2, hB]
   refine Yi rfl ?_
   refine Exists.elim (show ∃ B, B = (A.take k ++ ([canT1 l[i]] ++ A.drop k)) from ⟨_, rfl⟩) (fun B hBB => ?_)
   rw [← hBB] at hBm
   have e10 : HO.arr 3 (hdT A k ++ ([encTm (canT1 l[i])] ++ segT A k)) = .arr 3 (B.map encTm) := by rw [insTE, hBB]
   have e4 : AV.msl 10 (hdT A k ++ ([encTm (canT1 l[i])] ++ segT A k)).length = .msl 10 B.length := by rw [insTE, hBB, Lm]
   refine Xi ⟨[(0, sl encTm l), (4, .msl 10 B.length), (5, vi i)], [(10, .arr 3 (B.map encTm))], hfree⟩ (Yi ?_ ?_)
   ·exact ⟨⟨Zr, ⟨e4, rfl⟩, Zr, Tv⟩, ⟨⟨e10, rfl⟩, Tv⟩, Fh, Tv⟩
   refine Yi (by show InI64 ((i : Int) + (1 : Int)); unfold InI64; omega) ?_
   refine Xi ⟨(i + 1, B), by omega, hBm⟩ ?_
   exact ⟨by show l.length - (i + 1) < l.length - i; omega, ⟨Zr, Zr, Zr, Tv⟩, ⟨Zr, Tv⟩, Fh, Tv⟩
  have h2 : l[i].absent = false := h2
  refine Xi (encTm l[i]) (Yi (Yi (show (0 : Int) ≤ i by omega) (map_at g1)) (Yi rfl ?_))
  refine Xi _ (Yi (hc (l[i].set) (hs _ (List.getElem_mem n1))) ?_)
  refine Yi (Nz rfl) ?_
  refine Yi (by kernel_rfl) ?_
  refine Xi ⟨[(0, sl encTm l), (4, .msl 10 A.length), (5, vi i), (6, .ref 6 0)], [(6, .cells [vs l[i].path, vb l[i].absent, sl encSpan (canon l[i].set)]), (10, .arr 3 (A.map encTm))], hfree⟩ (Yi ?_ ?_)
  ·exact ⟨⟨Zr, Zr, Zr, Zr, Tv⟩, ⟨⟨(show HO.cells [vs l[i].path, vb false, sl encSpan (canon l[i].set)] = .cells [vs l[i].path, vb l[i].absent, sl encSpan (canon l[i].set)] by rw [← show l[i].absent = false from h2]), rfl⟩, Zr, Tv⟩, Fh, Tv⟩
  refine Xi {k : Nat // k ≤ A.length ∧ ∀ j (h : j < A.length), j < k → blt A[j].path l[i].path = true} (Xi (fun q => ⟨[(0, sl encTm l), (4, .msl 10 A.length), (5, vi i), (6, .ref 6 0), (7, vi q.1)], [(6, .cells [vs l[i].path, vb l[i].absent, sl encSpan (canon l[i].set)]), (10, .arr 3 (A.map encTm))], hfree⟩) (Xi (fun q => A.length - q.1) (Yi (Xi ⟨0, Nat.zero_le _, fun j _ h => by omega⟩ ?_) ?_)))
  ·exact ⟨⟨Zr, Zr, Zr, Zr, Zr, Tv⟩, ⟨Zr, Zr, Tv⟩, Fh, Tv⟩
  intro ⟨k, k1, k2⟩
  refine Yi (fun h12 => ?_) (fun h12 => ?_)
  ·have h12 : (k : Int) < (A.length : Int) := h12
   have n12 : k < A.length := by omega
   have g12 : A[k]? = some A[k] := Ge n12
   refine Yi (by show (0 : Int) ≤ k ∧ (k : Int) < (A.length : Nat); omega) ?_
   refine Yi (show A.length = (A.map encTm).length by simp) (Xi (encTm A[k]) (Yi (map_at g12) ?_))
   refine Yi (fun h13 => ?_) (fun h13 => ?_)
   ·have h13 : blt A[k].path l[i].path = true := (blt_eq _ _).trans h13
    refine Yi (by kernel_rfl) ?_
    refine Yi (by show InI64 ((k : Int) + (1 : Int)); unfold InI64; omega) ?_
    refine Xi ⟨k + 1, by omega, fun j hj hji => (Nat.lt_or_ge j k).elim (k2 j hj) (fun z => by have e : j = k := (by omega); subst e; exact h13)⟩ ?_
    exact ⟨by show A.length - (k + 1) < A.length - k; omega, ⟨Zr, Zr, Zr, Zr, Zr, Tv⟩, ⟨Zr, Zr, Tv⟩, Fh, Tv⟩
   have h13 : blt A[k].path l[i].path = false := (blt_eq _ _).trans (Bool.eq_false_iff.2 h13)
   refine Yi (by kernel_rfl) ?_
   refine Yi (fun _ => ?_) (fun hf => absurd h12 hf)
   refine Yi (by show (0 : Int) ≤ k ∧ (k : Int) < (A.length : Nat); omega) ?_
   refine Yi (show A.length = (A.map encTm).length by simp) (Xi (encTm A[k]) (Yi (map_at g12) ?_))
   refine Yi (fun h15 => ?_) (fun h15 => ?_)
   ·have h15 : (A[k].path : ByteArray) = l[i].path := h15
    refine Yi (by kernel_rfl) ?_
    refine Yi (by show (0 : Int) ≤ k ∧ (k : Int) < (A.length : Nat); omega) ?_
    refine Yi (show A.length = (A.map encTm).length by simp) (Xi (encTm A[k]) (Yi (map_at g12) ?_))
    refine Yi (fun h16 => ?_) (fun h16 => ?_)
    ·have h16 : A[k].absent = true := h16
     refine Yi (fun hf => absurd (hf.symm.trans (h2 : l[i].absent = false)) (by decide)) (fun _ => ?_)
     refine Yi (by show (0 : Int) ≤ k ∧ (k : Int) < (A.length : Nat); omega) ?_
     refine Yi (show A.length = (A.map encTm).length by simp) (Xi (encTm A[k]) (Yi (map_at g12) (Yi (Nz rfl) ?_)))
     refine Yi (by show (0 : Int) ≤ k ∧ (k : Int) < (A.length : Nat); omega) ?_
     refine Yi (show A.length = (((A.map encTm).set k [vs A[k].path, vb false, sl encSpan A[k].set]) : List (List AV)).length by simp) (Xi [vs A[k].path, vb false, sl encSpan A[k].set] (Yi (set_at (map_at g12)) ?_))
     refine Xi _ (Yi (h172 A[k] l[i] (hAc _ (List.getElem_mem n12))) ?_)
     refine Yi (by show (0 : Int) ≤ k ∧ (k : Int) < (A.length : Nat); omega) ?_
     refine Yi (show A.length = (((A.map encTm).set k [vs A[k].path, vb false, sl encSpan A[k].set]) : List (List AV)).length by simp) (Xi [vs A[k].path, vb false, sl encSpan A[k].set] (Yi (set_at (map_at g12)) (Yi (Nz rfl) ?_)))
     refine Yi (by kernel_rfl) ?_
     have hB : insT l[i] A = A.set k (bothT A[k] l[i]) := insT_at l[i] A k n12 k2 h15
     refine Exists.elim (show ∃ B, B = A.set k (bothT A[k] l[i]) from ⟨_, rfl⟩) (fun B hBB => ?_)
     have hBm : B = mergeT (l.take (i + 1)) := by rw [mergeT_take l i n1, ← i2, hB, hBB]
     have e10 : HO.arr 3 (((A.map encTm).set k [vs A[k].path, vb false, sl encSpan A[k].set]).set k [vs A[k].path, vb false, sl encSpan (inter A[k].set (canon l[i].set))]) = .arr 3 (B.map encTm) := by
      rw [inter_can, hBB]
      exact congrArg (HO.arr 3) ((congrArg (fun b => ((A.map encTm).set k _).set k [vs A[k].path, vb b, sl encSpan (inter A[k].set l[i].set)]) (show false = (A[k].absent && l[i].absent) by rw [show l[i].absent = false from h2, show A[k].absent = true from h16]; try rfl)).trans (set2 A k (bothT A[k] l[i]) _))
     have e4 : AV.msl 10 A.length = .msl 10 B.length := by rw [hBB, List.length_set]
     refine Xi ⟨[(0, sl encTm l), (4, .msl 10 B.length), (5, vi i)], [(10, .arr 3 (B.map encTm))], hfree⟩ (Yi ?_ ?_)
     ·exact ⟨⟨Zr, ⟨e4, rfl⟩, Zr, Tv⟩, ⟨⟨e10, rfl⟩, Tv⟩, Fh, Tv⟩
     refine Yi (by show InI64 ((i : Int) + (1 : Int)); unfold InI64; omega) ?_
     refine Xi ⟨(i + 1, B), by omega, hBm⟩ ?_
     exact ⟨by show l.length - (i + 1) < l.length - i; omega, ⟨Zr, Zr, Zr, Tv⟩, ⟨Zr, Tv⟩, Fh, Tv⟩
    have h16 : A[k].absent = false := h16
    refine Yi (by show (0 : Int) ≤ k ∧ (k : Int) < (A.length : Nat); omega) ?_
    refine Yi (show A.length = (A.map encTm).length by simp) (Xi (encTm A[k]) (Yi (map_at g12) (Yi (Nz rfl) ?_)))
    refine Yi (by show (0 : Int) ≤ k ∧ (k : Int) < (A.length : Nat); omega) ?_
    refine Yi (show A.length = (((A.map encTm).set k [vs A[k].path, vb false, sl encSpan A[k].set]) : List (List AV)).length by simp) (Xi [vs A[k].path, vb false, sl encSpan A[k].set] (Yi (set_at (map_at g12)) ?_))
    refine Xi _ (Yi (h172 A[k] l[i] (hAc _ (List.getElem_mem n12))) ?_)
    refine Yi (by show (0 : Int) ≤ k ∧ (k : Int) < (A.length : Nat); omega) ?_
    refine Yi (show A.length = (((A.map encTm).set k [vs A[k].path, vb false, sl encSpan A[k].set]) : List (List AV)).length by simp) (Xi [vs A[k].path, vb false, sl encSpan A[k].set] (Yi (set_at (map_at g12)) (Yi (Nz rfl) ?_)))
    refine Yi (by kernel_rfl) ?_
    have hB : insT l[i] A = A.set k (bothT A[k] l[i]) := insT_at l[i] A k n12 k2 h15
    refine Exists.elim (show ∃ B, B = A.set k (bothT A[k] l[i]) from ⟨_, rfl⟩) (fun B hBB => ?_)
    have hBm : B = mergeT (l.take (i + 1)) := by rw [mergeT_take l i n1, ← i2, hB, hBB]
    have e10 : HO.arr 3 (((A.map encTm).set k [vs A[k].path, vb false, sl encSpan A[k].set]).set k [vs A[k].path, vb false, sl encSpan (inter A[k].set (canon l[i].set))]) = .arr 3 (B.map encTm) := by
     rw [inter_can, hBB]
     exact congrArg (HO.arr 3) ((congrArg (fun b => ((A.map encTm).set k _).set k [vs A[k].path, vb b, sl encSpan (inter A[k].set l[i].set)]) (show false = (A[k].absent && l[i].absent) by rw [show l[i].absent = false from h2, show A[k].absent = false from h16]; try rfl)).trans (set2 A k (bothT A[k] l[i]) _))
    have e4 : AV.msl 10 A.length = .msl 10 B.length := by rw [hBB, List.length_set]
    refine Xi ⟨[(0, sl encTm l), (4, .msl 10 B.length), (5, vi i)], [(10, .arr 3 (B.map encTm))], hfree⟩ (Yi ?_ ?_)
    ·exact ⟨⟨Zr, ⟨e4, rfl⟩, Zr, Tv⟩, ⟨⟨e10, rfl⟩, Tv⟩, Fh, Tv⟩
    refine Yi (by show InI64 ((i : Int) + (1 : Int)); unfold InI64; omega) ?_
    refine Xi ⟨(i + 1, B), by omega, hBm⟩ ?_
    exact ⟨by show l.length - (i + 1) < l.length - i; omega, ⟨Zr, Zr, Zr, Tv⟩, ⟨Zr, Tv⟩, Fh, Tv⟩
   have h15 : ¬ (A[k].path : ByteArray) = l[i].path := h15
   refine Yi (by kernel_rfl) ?_
   refine Yi (by rw [Lm]) ?_
   refine Xi ⟨[(0, sl encTm l), (4, sl encTm A), (5, vi i), (6, .ref 6 0), (7, vi k)], [(6, .cells [vs l[i].path, vb l[i].absent, sl encSpan (canon l[i].set)])], hfree⟩ (Yi ?_ ?_)
   ·exact ⟨⟨Zr, Zr, Zr, Zr, Zr, Tv⟩, ⟨Zr, Tv⟩, Fh, Tv⟩
   refine Yi (show (0 : Int) ≤ 0 ∧ (0 : Int) ≤ k ∧ (k : Int) = k ∧ (k : Int) ≤ ((A.map encTm).length : Nat) by rw [Lm]; omega) (Yi (enc_len (enc := encTm) (n := 3) (fun _ => rfl) A) ?_)
   refine Yi (Nz rfl) ?_
   refine Yi (show (0 : Int) ≤ k ∧ (k : Int) ≤ ((A.map encTm).length : Nat) ∧ (((A.map encTm).length : Nat) : Int) ≤ ((A.map encTm).length : Nat) by rw [Lm]; omega) (Yi (enc_len (enc := encTm) (n := 3) (fun _ => rfl) A) ?_)
   refine Yi (bulkT1 A (canT1 l[i]) k (by omega)) ?_
   refine Yi (bulkT2 A (canT1 l[i]) k (by omega)) ?_
   refine Yi (by kernel_rfl) ?_
   have hB : insT l[i] A = (A.take k ++ ([canT1 l[i]] ++ A.drop k)) := insT_new l[i] A k k1 k2 (fun h => ⟨h13, h15⟩)
   have hBm : (A.take k ++ ([canT1 l[i]] ++ A.drop k)) = mergeT (l.take (i + 1)) := by rw [mergeT_take l i n1, ← i2, hB]
   refine Yi rfl ?_
   refine Exists.elim (show ∃ B, B = (A.take k ++ ([canT1 l[i]] ++ A.drop k)) from ⟨_, rfl⟩) (fun B hBB => ?_)
   rw [← hBB] at hBm
   have e10 : HO.arr 3 (hdT A k ++ ([encTm (canT1 l[i])] ++ segT A k)) = .arr 3 (B.map encTm) := by rw [insTE, hBB]
   have e4 : AV.msl 10 (hdT A k ++ ([encTm (canT1 l[i])] ++ segT A k)).length = .msl 10 B.length := by rw [insTE, hBB, Lm]
   refine Xi ⟨[(0, sl encTm l), (4, .msl 10 B.length), (5, vi i)], [(10, .arr 3 (B.map encTm))], hfree⟩ (Yi ?_ ?_)
   ·exact ⟨⟨Zr, ⟨e4, rfl⟩, Zr, Tv⟩, ⟨⟨e10, rfl⟩, Tv⟩, Fh, Tv⟩
   refine Yi (by show InI64 ((i : Int) + (1 : Int)); unfold InI64; omega) ?_
   refine Xi ⟨(i + 1, B), by omega, hBm⟩ ?_
   exact ⟨by show l.length - (i + 1) < l.length - i; omega, ⟨Zr, Zr, Zr, Tv⟩, ⟨Zr, Tv⟩, Fh, Tv⟩
  have h12 : ¬ ((k : Int) < (A.length : Int)) := h12
  have n12 : ¬ k < A.length := by omega
  refine Yi (by kernel_rfl) ?_
  refine Yi (fun hf => absurd hf h12) (fun _ => ?_)
  refine Yi (by kernel_rfl) ?_
  refine Yi (by rw [Lm]) ?_
  refine Xi ⟨[(0, sl encTm l), (4, sl encTm A), (5, vi i), (6, .ref 6 0), (7, vi k)], [(6, .cells [vs l[i].path, vb l[i].absent, sl encSpan (canon l[i].set)])], hfree⟩ (Yi ?_ ?_)
  ·exact ⟨⟨Zr, Zr, Zr, Zr, Zr, Tv⟩, ⟨Zr, Tv⟩, Fh, Tv⟩
  refine Yi (show (0 : Int) ≤ 0 ∧ (0 : Int) ≤ k ∧ (k : Int) = k ∧ (k : Int) ≤ ((A.map encTm).length : Nat) by rw [Lm]; omega) (Yi (enc_len (enc := encTm) (n := 3) (fun _ => rfl) A) ?_)
  refine Yi (Nz rfl) ?_
  refine Yi (show (0 : Int) ≤ k ∧ (k : Int) ≤ ((A.map encTm).length : Nat) ∧ (((A.map encTm).length : Nat) : Int) ≤ ((A.map encTm).length : Nat) by rw [Lm]; omega) (Yi (enc_len (enc := encTm) (n := 3) (fun _ => rfl) A) ?_)
  refine Yi (bulkT1 A (canT1 l[i]) k (by omega)) ?_
  refine Yi (bulkT2 A (canT1 l[i]) k (by omega)) ?_
  refine Yi (by kernel_rfl) ?_
  have hB : insT l[i] A = (A.take k ++ ([canT1 l[i]] ++ A.drop k)) := insT_new l[i] A k k1 k2 (fun h => absurd h (by omega))
  have hBm : (A.take k ++ ([canT1 l[i]] ++ A.drop k)) = mergeT (l.take (i + 1)) := by rw [mergeT_take l i n1, ← i2, hB]
  refine Yi rfl ?_
  refine Exists.elim (show ∃ B, B = (A.take k ++ ([canT1 l[i]] ++ A.drop k)) from ⟨_, rfl⟩) (fun B hBB => ?_)
  rw [← hBB] at hBm
  have e10 : HO.arr 3 (hdT A k ++ ([encTm (canT1 l[i])] ++ segT A k)) = .arr 3 (B.map encTm) := by rw [insTE, hBB]
  have e4 : AV.msl 10 (hdT A k ++ ([encTm (canT1 l[i])] ++ segT A k)).length = .msl 10 B.length := by rw [insTE, hBB, Lm]
  refine Xi ⟨[(0, sl encTm l), (4, .msl 10 B.length), (5, vi i)], [(10, .arr 3 (B.map encTm))], hfree⟩ (Yi ?_ ?_)
  ·exact ⟨⟨Zr, ⟨e4, rfl⟩, Zr, Tv⟩, ⟨⟨e10, rfl⟩, Tv⟩, Fh, Tv⟩
  refine Yi (by show InI64 ((i : Int) + (1 : Int)); unfold InI64; omega) ?_
  refine Xi ⟨(i + 1, B), by omega, hBm⟩ ?_
  exact ⟨by show l.length - (i + 1) < l.length - i; omega, ⟨Zr, Zr, Zr, Tv⟩, ⟨Zr, Tv⟩, Fh, Tv⟩
 have h1 : ¬ ((i : Int) < ((l.map encTm).length : Int)) := h1
 have n1 : ¬ i < l.length := by simpa using h1
 have hAl : A = mergeT l := by rw [i2, List.take_of_length_le (by omega)]
 refine Xi {q : Nat × List Tm // q.1 ≤ A.length ∧ (∀ j (h : j < A.length), j < q.1 → neverT A[j] = false) ∧ q.2 = (A.take q.1).filter fun t => !alwaysT t} (Xi (fun q => ⟨[(4, .msl 10 A.length), (8, .slice (.id 101 3) (q.1.2.map encTm)), (9, vi q.1.1)], [(10, .arr 3 (A.map encTm)), (101, .tok 3 q.1.2.length)], hfree⟩) (Xi (fun q => A.length - q.1.1) (Yi (Xi ⟨(0, []), Nat.zero_le _, fun j _ h => by omega, rfl⟩ ?_) ?_)))
 ·exact ⟨⟨Zr, Zr, Zr, Tv⟩, ⟨Zr, Zr, Tv⟩, Fh, Tv⟩
 intro ⟨⟨j, O⟩, j1, j2, j3⟩
 have j1 : j ≤ A.length := j1
 have j2 : ∀ m (h : m < A.length), m < j → neverT A[m] = false := j2
 have j3 : O = (A.take j).filter (fun t => !alwaysT t) := j3
 have hO : O.length ≤ j := by
  have := List.length_filter_le (fun t => !alwaysT t) (A.take j)
  rw [List.length_take] at this; rw [j3]; omega
 refine Yi (fun h21 => ?_) (fun h21 => ?_)
 ·have h21 : (j : Int) < (A.length : Int) := h21
  have n21 : j < A.length := by omega
  have g21 : A[j]? = some A[j] := Ge n21
  refine Yi (by show (0 : Int) ≤ j ∧ (j : Int) < (A.length : Nat); omega) ?_
  refine Yi (show A.length = (A.map encTm).length by simp) (Xi (encTm A[j]) (Yi (map_at g21) ?_))
  refine Yi (Nz rfl) ?_
  refine Or.elim (Bool.eq_false_or_eq_true (!A[j].absent && decide (A[j].set = []))) (fun h22 => ?_) (fun h22 => ?_)
  ·have h22 : (!A[j].absent && decide (A[j].set = [])) = true := h22
   have hc23 := c173 A[j]
   rw [show (!A[j].absent && decide (A[j].set = [])) = true from h22] at hc23
   refine Xi .pure (Xi _ (Yi hc23 ?_))
   have hcn : canonT l = none := by unfold canonT; rw [← hAl, if_pos (any_at n21 (by rw [neverT_eq]; exact h22))]
   exact (show Sub (.tup [.v (.slice none 0 0), vb false]) (.tup [.slice .none [], vb false]) from Sub.tup ⟨.nil, .refl _, trivial⟩).trans (.of_eq (show AV.tup [.slice .none [], vb false] = canRes l by unfold canRes ofT; rw [hcn]; rfl))
  have h22 : (!A[j].absent && decide (A[j].set = [])) = false := h22
  have hc25 := c173 A[j]
  rw [show (!A[j].absent && decide (A[j].set = [])) = false from h22] at hc25
  refine Xi .pure (Xi _ (Yi hc25 ?_))
  refine Yi (by show (0 : Int) ≤ j ∧ (j : Int) < (A.length : Nat); omega) ?_
  refine Yi (show A.length = (A.map encTm).length by simp) (Xi (encTm A[j]) (Yi (map_at g21) ?_))
  refine Yi (Nz rfl) ?_
  refine Or.elim (Bool.eq_false_or_eq_true (A[j].absent && decide (A[j].set = [(0, 1000000)]))) (fun h26 => ?_) (fun h26 => ?_)
  ·have h26 : (A[j].absent && decide (A[j].set = [(0, 1000000)])) = true := h26
   have hc27 := c174 A[j] (few_can (hAc _ (List.getElem_mem n21)))
   rw [show (A[j].absent && decide (A[j].set = [(0, 1000000)])) = true from h26] at hc27
   refine Xi .pure (Xi _ (Yi hc27 ?_))
   refine Yi (by show InI64 ((j : Int) + (1 : Int)); unfold InI64; omega) ?_
   refine Xi ⟨(j + 1, O), by omega, fun m hm hmj => (Nat.lt_or_ge m j).elim (j2 m hm) (fun z => by have e : m = j := (by omega); subst e; rw [neverT_eq]; exact h22), by show O = (A.take (j + 1)).filter _; rw [List.take_add_one, Ge n21, List.filter_append, ← j3]; show _ = O ++ [A[j]].filter _; rw [List.filter_cons, if_neg (by rw [show alwaysT A[j] = true from h26]; decide)]; simp⟩ ?_
   exact ⟨by show A.length - (j + 1) < A.length - j; omega, ⟨Zr, Zr, Zr, Tv⟩, ⟨Zr, Zr, Tv⟩, Fh, Tv⟩
  have h26 : (A[j].absent && decide (A[j].set = [(0, 1000000)])) = false := h26
  have hc29 := c174 A[j] (few_can (hAc _ (List.getElem_mem n21)))
  rw [show (A[j].absent && decide (A[j].set = [(0, 1000000)])) = false from h26] at hc29
  refine Xi .pure (Xi _ (Yi hc29 ?_))
  refine Yi (by show (0 : Int) ≤ j ∧ (j : Int) < (A.length : Nat); omega) ?_
  refine Yi (show A.length = (A.map encTm).length by simp) (Xi (encTm A[j]) (Yi (map_at g21) ?_))
  refine Yi (Nz rfl) ?_
  have b30 : AllLen 3 [(encTm A[j])] ∧ (O.map encTm).length = O.length ∧ ((O.map encTm).length + ([(encTm A[j])] : List (List AV)).length) * 48 ≤ 140737488355328 ∧ (O.map encTm).length + ([(encTm A[j])] : List (List AV)).length ≤ 9223372036854775807 := ⟨⟨rfl, trivial⟩, (by simp), (by simp only [Lm, List.length_cons, List.length_nil]; omega), (by simp only [Lm, List.length_cons, List.length_nil]; omega)⟩
  refine Yi b30 ?_
  refine Yi (by show InI64 ((j : Int) + (1 : Int)); unfold InI64; omega) ?_
  refine Xi ⟨(j + 1, (O ++ [A[j]])), by omega, fun m hm hmj => (Nat.lt_or_ge m j).elim (j2 m hm) (fun z => by have e : m = j := (by omega); subst e; rw [neverT_eq]; exact h22), by show (O ++ [A[j]]) = (A.take (j + 1)).filter _; rw [List.take_add_one, Ge n21, List.filter_append, ← j3]; show _ = O ++ [A[j]].filter _; rw [List.filter_cons, if_pos (by rw [show alwaysT A[j] = false from h26]; rfl)]; simp⟩ ?_
  exact ⟨by show A.length - (j + 1) < A.length - j; omega, ⟨Zr, ⟨(show AV.slice (.id 101 3) (O.map encTm ++ [encTm A[j]]) = .slice (.id 101 3) ((O ++ [A[j]]).map encTm) by simp), rfl⟩, Zr, Tv⟩, ⟨Zr, ⟨(show HO.tok 3 ((O.map encTm).length + [encTm A[j]].length) = .tok 3 (O ++ [A[j]]).length by simp), rfl⟩, Tv⟩, Fh, Tv⟩
 have h21 : ¬ ((j : Int) < (A.length : Int)) := h21
 have n21 : ¬ j < A.length := by omega
 have ej : A.take j = A := List.take_of_length_le (by omega)
 rw [ej] at j3
 have hcn : canonT l = some O := by unfold canonT; rw [← hAl, if_neg (by rw [any_take fun m hm => j2 m hm (by omega)]; decide), j3]
 exact .of_eq (show AV.tup [sl encTm O, vb true] = canRes l by unfold canRes ofT; rw [hcn]; rfl)
end Go.Eng
