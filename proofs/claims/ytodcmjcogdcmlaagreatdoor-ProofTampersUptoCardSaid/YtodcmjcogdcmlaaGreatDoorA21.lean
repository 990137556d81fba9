/- Lemmas for the claims of this seat, without a condition: part 21 (C30, C31, C32, C33, C34, C35, C36, C37, C38). -/
import Derived.Test.YtodcmjcogdcmlaaGreatDoorA20
namespace Go.Eng
open Go.Proofs
abbrev ckSig : Ren := [(1000, 1000), (1001, 1001)]
theorem plc_rng (v : Ver) : 0 ≤ plc v ∧ plc v < 1000000 := by
  unfold plc
  cases h : validB v with
  | true => exact place_in h
  | false => simp
theorem rel_some {x : List Rl} {p : ByteArray} {pl : Int} {r : Rl} (h : releaseP x p pl = some r) : r ∈ x ∧ r.path = p ∧ plc r.ver = pl := by
  unfold releaseP at h
  have h1 := List.find?_some h
  simp only [Bool.and_eq_true, decide_eq_true_eq] at h1
  exact ⟨List.mem_of_find?_eq_some h, h1.1, h1.2⟩
theorem ne0_nil {l : List Tm} (h : ¬ (0 : Int) < (l.map encTm).length) : AV.tup [sl encTm l, vb false] = incV (ne0 l) := by
  cases l with
  | nil => rfl
  | cons a l => exact absurd (by rw [List.length_map, List.length_cons]; omega) h
theorem ne0_cons {l : List Tm} (h : (0 : Int) < (l.map encTm).length) : AV.tup [sl encTm l, vb true] = incV (ne0 l) := by
  cases l with
  | nil => exact absurd h (by decide)
  | cons a l => rfl
abbrev reqV (x : List Rl) (i : Nf) : Option (List Tm) := match releaseP x i.path i.place with
  | none => none
  | some r => match nthZ r.reqs i.number with
    | none => none
    | some q => ne0 (requiresT i.path i.place q)
theorem c163 (x : List Rl) (ifs : List (List AV)) (roots : List Rq) (d : List (List Tm)) (i : Nf) (hx : Few x) (hr : ∀ r ∈ x, ∀ q ∈ r.reqs, Few q.set) :
    ACall Tryz.prog 163 [.ref 1000 0, .agg (encNf i)] (heapOf (ckH x ifs roots d) hfree) fun r h' => r = incV (reqV x i) ∧ h' = heapOf (ckH x ifs roots d) hfree := by
  have hc := c192 x ifs roots d i.path i.place hx
  cases h1 : releaseP x i.path i.place with
  | none =>
    rw [h1] at hc
    have e : AV.tup [sl encTm [], vb false] = incV (reqV x i) := by unfold reqV; rw [h1]
    refine acall_sub (cxe (plcut [2])) [(1000, 1000), (1001, 1001)] rfl tab_ok hm rfl Tryz.func163 (by kernel_rfl) rfl (Nz rfl) (by kernel_rfl) rfl ?_
    refine Xi (.gen [(1000, 1000), (1001, 1001)] 0) (Yi rfl (hc.imp ?_))
    intro v1 g1 q1
    have q11 := q1.1
    have q12 := q1.2
    subst q11
    subst q12
    refine Yi (Nz rfl) ?_
    refine Xi ⟨[(0, .ref 1000 0), (3, .ref 3 0), (6, .ref 6 0), (7, vb false)], [(3, .cells (encNf i)), (6, .cells zRl), (1000, ckO x ifs roots d), (1001, tkO d)], hfree⟩ (Yi ?_ ?_)
    · exact ⟨⟨Zr, Zr, Zr, Zr, trivial⟩, ⟨Zr, Zr, Zr, Zr, trivial⟩, fun _ => .inl rfl, ext_dec (by kernel_rfl)⟩
    exact Xi _ (Yi nilInc (Yi e rfl))
  | some r =>
    rw [h1] at hc
    obtain ⟨m1, m2, m3⟩ := rel_some h1
    have hpl := plc_rng r.ver
    rw [m3] at hpl
    have er : reqV x i = match nthZ r.reqs i.number with | none => none | some q => ne0 (requiresT i.path i.place q) := by unfold reqV; rw [h1]
    have miss : nthZ r.reqs i.number = none → AV.tup [sl encTm [], vb false] = incV (reqV x i) := fun h => by rw [er, h]
    refine acall_sub (cxe (plcut [2, 4, 5])) [(1000, 1000), (1001, 1001)] rfl tab_ok hm rfl Tryz.func163 (by kernel_rfl) rfl (Nz rfl) (by kernel_rfl) rfl ?_
    refine Xi (.gen [(1000, 1000), (1001, 1001)] 0) (Yi rfl (hc.imp ?_))
    intro v1 g1 q1
    have q11 := q1.1
    have q12 := q1.2
    subst q11
    subst q12
    refine Yi (Nz rfl) ?_
    refine Xi ⟨[(0, .ref 1000 0), (3, .ref 3 0), (6, .ref 6 0), (7, vb true)], [(3, .cells (encNf i)), (6, .cells (encRl r)), (1000, ckO x ifs roots d), (1001, tkO d)], hfree⟩ (Yi ?_ ?_)
    · exact ⟨⟨Zr, Zr, Zr, Zr, trivial⟩, ⟨Zr, Zr, Zr, Zr, trivial⟩, fun _ => .inl rfl, ext_dec (by kernel_rfl)⟩
    refine Yi ?_ ?_
    · intro h
      have h : i.number < 0 := h
      have e := miss (nthZ_neg h)
      exact Xi _ (Yi nilInc (Yi e rfl))
    · intro h
      have h : ¬ i.number < 0 := h
      refine Yi ?_ ?_
      · intro h2
        have h2 : ((r.reqs.map encRq).length : Int) ≤ i.number := h2
        have e := miss (nthZ_big (by rw [List.length_map] at h2; exact h2))
        exact Xi _ (Yi nilInc (Yi e rfl))
      · intro h2
        have h2 : ¬ ((r.reqs.map encRq).length : Int) ≤ i.number := h2
        refine Exists.elim (nthZ_at h (by rw [List.length_map] at h2; exact h2)) (fun q hq => ?_)
        have hg : (r.reqs.map encRq)[i.number.toNat]? = some (encRq q) := map_at hq.2.1
        refine Xi ⟨[(3, .ref 3 0), (6, .ref 6 0)], [(3, .cells (encNf i)), (6, .cells (encRl r)), (1000, ckO x ifs roots d), (1001, tkO d)], hfree⟩ (Yi ?_ ?_)
        · exact ⟨⟨Zr, Zr, trivial⟩, ⟨Zr, Zr, Zr, Zr, trivial⟩, fun _ => .inl rfl, ext_dec (by kernel_rfl)⟩
        refine Xi (encRq q) (Yi (Yi (by show (0 : Int) ≤ i.number; omega) hg) (Yi rfl (Yi (Nz rfl) ?_)))
        refine Xi _ (Yi (c193 i.path i.place q (by unfold InI64; omega) (hr r m1 q hq.2.2)) ?_)
        refine Yi (by kernel_rfl) ?_
        have eq : reqV x i = ne0 (requiresT i.path i.place q) := by rw [er, hq.1]
        refine Xi ⟨[(8, sl encTm (requiresT i.path i.place q))], [(1000, ckO x ifs roots d), (1001, tkO d)], hfree⟩ (Yi ?_ ?_)
        · exact ⟨⟨Zr, trivial⟩, ⟨Zr, Zr, trivial⟩, fun _ => .inl rfl, ext_dec (by kernel_rfl)⟩
        refine Yi ?_ ?_
        · intro h3
          have h3 : (0 : Int) < ((requiresT i.path i.place q).map encTm).length := h3
          have e : AV.tup [sl encTm (requiresT i.path i.place q), vb true] = incV (reqV x i) := by rw [eq]; exact ne0_cons h3
          exact Xi _ (Yi (.refl _) (Yi e rfl))
        · intro h3
          have h3 : ¬ (0 : Int) < ((requiresT i.path i.place q).map encTm).length := h3
          have e : AV.tup [sl encTm (requiresT i.path i.place q), vb false] = incV (reqV x i) := by rw [eq]; exact ne0_nil h3
          exact Xi _ (Yi (.refl _) (Yi e rfl))
end Go.Eng

namespace Go.Eng
open Go.Proofs
abbrev FewI (t : List Tm) : Prop := t.length ≤ 500000000 ∧ ∀ u ∈ t, Few u.set
theorem res_err {a b : List Tm} {p : ByteArray} (h : (resolveT a b p).2 ≠ 0) : (resolveT a b p).1 = [] := by
  unfold resolveT at h ⊢
  split at h
  · split at h
    · exact absurd rfl h
    · rfl
  · rfl
abbrev resI (d : List (List Tm)) (i : Nf) : Option (List Tm) := match nthZ d i.left, nthZ d i.right with
  | some a, some b => if (resolveT a b i.path).2 = 0 then some (resolveT a b i.path).1 else none
  | _, _ => none
theorem resI_l {d : List (List Tm)} {i : Nf} (h : nthZ d i.left = none) : resI d i = none := by unfold resI; rw [h]
theorem resI_r {d : List (List Tm)} {i : Nf} (h : nthZ d i.right = none) : resI d i = none := by unfold resI; rw [h]; split <;> first | rfl | (rename_i e; cases e)
theorem c167 (x : List Rl) (ifs : List (List AV)) (roots : List Rq) (d : List (List Tm)) (i : Nf) (hi : ∀ t ∈ d, FewI t) :
    ACall Tryz.prog 167 [.ref 1000 0, .agg (encNf i)] (heapOf (ckH x ifs roots d) hfree) fun r h' => r = incV (resI d i) ∧ h' = heapOf (ckH x ifs roots d) hfree := by
  have miss : resI d i = none → AV.tup [sl encTm [], vb false] = incV (resI d i) := fun h => by rw [h]
  refine acall_sub (cxe (plcut [2, 4, 5])) [(1000, 1000), (1001, 1001)] rfl tab_ok hm rfl Tryz.func167 (by kernel_rfl) rfl (Nz rfl) (by kernel_rfl) rfl ?_
  refine Xi ⟨[(0, .ref 1000 0), (3, .ref 3 0), (6, vi (d.map encInc).length)], [(3, .cells (encNf i)), (1000, ckO x ifs roots d), (1001, tkO d)], hfree⟩ (Yi ?_ ?_)
  · exact ⟨⟨Zr, Zr, Zr, trivial⟩, ⟨Zr, Zr, Zr, trivial⟩, fun _ => .inl rfl, ext_dec (by kernel_rfl)⟩
  refine Yi ?_ ?_
  · intro h
    have h : i.left < 0 := h
    have e := miss (resI_l (nthZ_neg h))
    exact Xi _ (Yi nilInc (Yi e rfl))
  intro h
  have h : ¬ i.left < 0 := h
  refine Yi ?_ ?_
  · intro h2
    have h2 : ((d.map encInc).length : Int) ≤ i.left := h2
    have e := miss (resI_l (nthZ_big (by rw [List.length_map] at h2; exact h2)))
    exact Xi _ (Yi nilInc (Yi e rfl))
  intro h2
  have h2 : ¬ ((d.map encInc).length : Int) ≤ i.left := h2
  refine Yi ?_ ?_
  · intro h3
    have h3 : i.right < 0 := h3
    have e := miss (resI_r (nthZ_neg h3))
    exact Xi _ (Yi nilInc (Yi e rfl))
  intro h3
  have h3 : ¬ i.right < 0 := h3
  refine Yi ?_ ?_
  · intro h4
    have h4 : ((d.map encInc).length : Int) ≤ i.right := h4
    have e := miss (resI_r (nthZ_big (by rw [List.length_map] at h4; exact h4)))
    exact Xi _ (Yi nilInc (Yi e rfl))
  intro h4
  have h4 : ¬ ((d.map encInc).length : Int) ≤ i.right := h4
  refine Exists.elim (nthZ_at h (by rw [List.length_map] at h2; exact h2)) (fun a ha => ?_)
  refine Exists.elim (nthZ_at h3 (by rw [List.length_map] at h4; exact h4)) (fun b hb => ?_)
  have ga : (d.map encInc)[i.left.toNat]? = some (encInc a) := map_at ha.2.1
  have gb : (d.map encInc)[i.right.toNat]? = some (encInc b) := map_at hb.2.1
  have hfa := hi a ha.2.2
  have hfb := hi b hb.2.2
  have hc := c196 a b i.path hfa.1 hfb.1 hfa.2 hfb.2
  have er : resI d i = if (resolveT a b i.path).2 = 0 then some (resolveT a b i.path).1 else none := by unfold resI; rw [ha.1, hb.1]
  refine Xi ⟨[(0, .ref 1000 0), (3, .ref 3 0)], [(3, .cells (encNf i)), (1000, ckO x ifs roots d), (1001, tkO d)], hfree⟩ (Yi ?_ ?_)
  · exact ⟨⟨Zr, Zr, trivial⟩, ⟨Zr, Zr, Zr, trivial⟩, fun _ => .inl rfl, ext_dec (by kernel_rfl)⟩
  refine Xi (encInc a) (Yi (Yi (by show (0 : Int) ≤ i.left; omega) ga) (Yi rfl ?_))
  refine Xi (encInc b) (Yi (Yi (by show (0 : Int) ≤ i.right; omega) gb) (Yi rfl ?_))
  refine Xi _ (Yi (hc) ?_)
  refine Yi (by kernel_rfl) ?_
  refine Xi ⟨[(7, sl encTm (resolveT a b i.path).1), (8, vi (resolveT a b i.path).2)], [(1000, ckO x ifs roots d), (1001, tkO d)], hfree⟩ (Yi ?_ ?_)
  · exact ⟨⟨Zr, Zr, trivial⟩, ⟨Zr, Zr, trivial⟩, fun _ => .inl rfl, ext_dec (by kernel_rfl)⟩
  refine Yi ?_ ?_
  · intro h5
    have h5 : (resolveT a b i.path).2 = 0 := h5
    have e : AV.tup [sl encTm (resolveT a b i.path).1, vb true] = incV (resI d i) := by rw [er, if_pos h5]
    exact Xi _ (Yi (.refl _) (Yi e rfl))
  · intro h5
    have h5 : ¬ (resolveT a b i.path).2 = 0 := h5
    have e : AV.tup [sl encTm (resolveT a b i.path).1, vb false] = incV (resI d i) := by rw [er, if_neg h5, res_err h5]
    exact Xi _ (Yi (.refl _) (Yi e rfl))
end Go.Eng

namespace Go.Eng
open Go.Proofs
theorem c160 (i : Nf) : PC 160 [.agg (encNf i)] (.agg (encNf { i with number := 0 })) := by
  refine pcall_sub (cxp pl0) rfl tab_ok hm rfl Tryz.func160 (by kernel_rfl) rfl (Nz rfl) (by kernel_rfl) ?_
  refine Yi (Nz rfl) (Yi (Nz rfl) (Yi (Nz rfl) (Yi (Nz rfl) ?_)))
  exact .refl _
theorem c162 (i : Nf) : PC 162 [.agg (encNf i)] (.agg (encNf { i with path := mt, place := 0, number := 0 })) := by
  refine pcall_sub (cxp pl0) rfl tab_ok hm rfl Tryz.func162 (by kernel_rfl) rfl (Nz rfl) (by kernel_rfl) ?_
  refine Yi (Nz rfl) (Yi (Nz rfl) (Yi (Nz rfl) (Yi (Nz rfl) (Yi (Nz rfl) (Yi (Nz rfl) ?_)))))
  exact .refl _
theorem c164 (i : Nf) : PC 164 [.agg (encNf i)] (.agg (encNf { i with path := mt })) := by
  refine pcall_sub (cxp pl0) rfl tab_ok hm rfl Tryz.func164 (by kernel_rfl) rfl (Nz rfl) (by kernel_rfl) ?_
  refine Yi (Nz rfl) (Yi (Nz rfl) (Yi (Nz rfl) (Yi (Nz rfl) ?_)))
  exact .refl _
theorem c166 (i : Nf) : PC 166 [.agg (encNf i)] (.agg (encNf { i with path := mt, left := 0, right := 0 })) := by
  refine pcall_sub (cxp pl0) rfl tab_ok hm rfl Tryz.func166 (by kernel_rfl) rfl (Nz rfl) (by kernel_rfl) ?_
  refine Yi (Nz rfl) (Yi (Nz rfl) (Yi (Nz rfl) (Yi (Nz rfl) (Yi (Nz rfl) (Yi (Nz rfl) ?_)))))
  exact .refl _
theorem c111 : PC 111 [] (.agg [.v (fnV 160), .v (fnV 161), .v (fnV 162), .v (fnV 163), .v (fnV 164), .v (fnV 165), .v (fnV 166), .v (fnV 167)]) := by
  refine pcall_sub (cxp pl0) rfl tab_ok hm rfl Tryz.func111 (by kernel_rfl) rfl (Nz rfl) (by kernel_rfl) ?_
  refine Yi (Nz rfl) (Yi (Nz rfl) ?_)
  exact .refl _
end Go.Eng

namespace Go.Eng
open Go.Proofs
theorem c189 (s : ByteArray) : PC 189 [vs s] (vb false) := by
  refine pcall_sub (cxp pl0) rfl tab_ok hm rfl Tryz.func189 (by kernel_rfl) rfl (Nz rfl) (by kernel_rfl) ?_
  refine Yi ?_ ?_
  · intro h; exact absurd rfl (show s ≠ s from h)
  · intro _; exact .refl _
theorem c221 (z : Int) : PC 221 [vi z] (vb false) := by
  refine pcall_sub (cxp pl0) rfl tab_ok hm rfl Tryz.func221 (by kernel_rfl) rfl (Nz rfl) (by kernel_rfl) ?_
  refine Yi ?_ ?_
  · intro h; exact absurd rfl (show z ≠ z from h)
  · intro _; exact .refl _
theorem c157 (a b : ByteArray) : PC 157 [vs a, vs b] (vi (cmpB a b)) := by
  refine pcall_sub (cxp pl0) rfl tab_ok hm rfl Tryz.func157 (by kernel_rfl) rfl (Nz rfl) (by kernel_rfl) ?_
  refine Xi .pure (Xi _ (Yi (c189 a) ?_))
  refine Xi .pure (Xi _ (Yi (c189 b) ?_))
  refine Yi ?_ ?_
  · intro h
    have h : Op.bytesLess a.toList b.toList = true := h
    exact .of_eq (congrArg vi (show (-1 : Int) = cmpB a b by unfold cmpB; rw [if_pos (by rw [blt_eq]; exact h)]))
  · intro h
    have h : ¬ Op.bytesLess a.toList b.toList = true := h
    refine Yi ?_ ?_
    · intro h2
      have h2 : Op.bytesLess b.toList a.toList = true := h2
      exact .of_eq (congrArg vi (show (1 : Int) = cmpB a b by unfold cmpB; rw [if_neg (by rw [blt_eq]; exact h), if_pos (by rw [blt_eq]; exact h2)]))
    · intro h2
      have h2 : ¬ Op.bytesLess b.toList a.toList = true := h2
      exact .of_eq (congrArg vi (show (0 : Int) = cmpB a b by unfold cmpB; rw [if_neg (by rw [blt_eq]; exact h), if_neg (by rw [blt_eq]; exact h2)]))
theorem c190 (a b : Int) : PC 190 [vi a, vi b] (vi (cmpI a b)) := by
  refine pcall_sub (cxp pl0) rfl tab_ok hm rfl Tryz.func190 (by kernel_rfl) rfl (Nz rfl) (by kernel_rfl) ?_
  refine Xi .pure (Xi _ (Yi (c221 a) ?_))
  refine Xi .pure (Xi _ (Yi (c221 b) ?_))
  refine Yi ?_ ?_
  · intro h
    have h : a < b := h
    exact .of_eq (congrArg vi (show (-1 : Int) = cmpI a b by unfold cmpI; rw [if_pos h]))
  · intro h
    have h : ¬ a < b := h
    refine Yi ?_ ?_
    · intro h2
      have h2 : b < a := h2
      exact .of_eq (congrArg vi (show (1 : Int) = cmpI a b by unfold cmpI; rw [if_neg h, if_pos h2]))
    · intro h2
      have h2 : ¬ b < a := h2
      exact .of_eq (congrArg vi (show (0 : Int) = cmpI a b by unfold cmpI; rw [if_neg h, if_neg h2]))
theorem c156 (a b : Int) : PC 156 [.slice .none [[vi a], [vi b]]] (vi (if a ≠ 0 then a else b)) := by
  refine pcall_sub (cxp pl0) rfl tab_ok hm rfl Tryz.func156 (by kernel_rfl) rfl (Nz rfl) (by kernel_rfl) ?_
  refine Xi {i : Nat // i ≤ 2 ∧ (0 < i → a = 0) ∧ (1 < i → b = 0)} (Xi (fun i => ⟨[(3, vi 0), (6, .slice .none [[vi a], [vi b]]), (7, vi 2), (8, vi i.1)], [], hfree⟩) (Xi (fun i => 2 - i.1) (Yi (Xi ⟨0, by omega, by omega, by omega⟩ ?_) ?_)))
  · exact ⟨⟨Zr, Zr, Zr, Zr, trivial⟩, trivial, fun _ => .inl rfl, trivial⟩
  intro ⟨i, h1, h2, h3⟩
  refine Yi ?_ ?_
  · intro h
    have h : (i : Int) < 2 := h
    match i, h1, h2, h3, h with
    | 0, h1, h2, h3, h =>
      refine Xi [vi a] (Yi (Yi (Int.le_refl _) rfl) (Yi rfl ?_))
      refine Yi ?_ ?_
      · intro h4
        have h4 : a ≠ 0 := h4
        exact .of_eq (congrArg vi (if_pos h4).symm)
      · intro h4
        have h4 : ¬ a ≠ 0 := h4
        refine Yi (by show InI64 ((0 : Int) + 1); unfold InI64; omega) ?_
        refine Xi ⟨1, by omega, fun _ => by omega, fun q => absurd q (by decide)⟩ ?_
        exact ⟨by show 2 - 1 < 2 - 0; decide, ⟨Zr, Zr, Zr, Zr, trivial⟩, trivial, fun _ => .inl rfl, trivial⟩
    | 1, h1, h2, h3, h =>
      have ha := h2 (by decide)
      refine Xi [vi b] (Yi (Yi (by show (0 : Int) ≤ 1; decide) rfl) (Yi rfl ?_))
      refine Yi ?_ ?_
      · intro h4
        exact .of_eq (congrArg vi (if_neg (by omega)).symm)
      · intro h4
        have h4 : ¬ b ≠ 0 := h4
        refine Yi (by show InI64 ((1 : Int) + 1); unfold InI64; omega) ?_
        refine Xi ⟨2, by omega, fun _ => ha, fun q => by omega⟩ ?_
        exact ⟨by show 2 - 2 < 2 - 1; decide, ⟨Zr, Zr, Zr, Zr, trivial⟩, trivial, fun _ => .inl rfl, trivial⟩
    | i + 2, h1, h2, h3, h => omega
  · intro h
    have h : ¬ (i : Int) < 2 := h
    have ha := h2 (by omega)
    have hb := h3 (by omega)
    exact .of_eq (congrArg vi (show (0 : Int) = if a ≠ 0 then a else b by rw [if_neg (by omega), hb]))
theorem cmpV_hit (a b : Ver) (i : Nat) (hi : i < 3) (h : ∀ j, j < i → cmpI (part a j) (part b j) = 0) (hn : cmpI (part a i) (part b i) ≠ 0) : cmpV a b = cmpI (part a i) (part b i) := by
  unfold cmpV
  match i, hi, h, hn with
  | 0, _, _, hn => exact if_pos hn
  | 1, _, h, hn =>
    have h0 : cmpI a.a b.a = 0 := h 0 (by decide)
    rw [if_neg (by omega)]; exact if_pos hn
  | 2, _, h, hn =>
    have h0 : cmpI a.a b.a = 0 := h 0 (by decide)
    have h1 : cmpI a.b b.b = 0 := h 1 (by decide)
    rw [if_neg (by omega), if_neg (by omega)]; rfl
theorem cmpV_all (a b : Ver) (h : ∀ j, j < 3 → cmpI (part a j) (part b j) = 0) : cmpV a b = 0 := by
  unfold cmpV
  have h0 : cmpI a.a b.a = 0 := h 0 (by decide)
  have h1 : cmpI a.b b.b = 0 := h 1 (by decide)
  have h2 : cmpI a.c b.c = 0 := h 2 (by decide)
  rw [if_neg (by omega), if_neg (by omega), h2]
theorem c158 (a b : Ver) : PC 158 [.agg (encVer a), .agg (encVer b)] (vi (cmpV a b)) := by
  refine pcall_sub (cxp pl0) rfl tab_ok hm rfl Tryz.func158 (by kernel_rfl) rfl (Nz rfl) (by kernel_rfl) ?_
  refine Yi (Nz rfl) ?_
  refine Xi _ (Yi (c138 a) ?_)
  refine Yi (Nz rfl) ?_
  refine Xi _ (Yi (c138 b) ?_)
  refine Yi (Nz rfl) (Yi (Nz rfl) ?_)
  refine Yi (by kernel_rfl) ?_
  refine Xi {i : Nat // i ≤ 3 ∧ ∀ j, j < i → cmpI (part a j) (part b j) = 0} (Xi (fun i => ⟨[(5, .ref 5 0), (6, .ref 6 0), (13, vi i.1)], [(5, .cells (encVer a)), (6, .cells (encVer b))], hfree⟩) (Xi (fun i => 3 - i.1) (Yi (Xi ⟨0, by omega, fun j h => by omega⟩ ?_) ?_)))
  · exact ⟨⟨Zr, Zr, Zr, trivial⟩, ⟨Zr, Zr, trivial⟩, fun _ => .inl rfl, trivial⟩
  intro ⟨i, h1, h2⟩
  refine Yi ?_ ?_
  · intro h
    have h : (i : Int) < 3 := h
    have next : cmpI (part a i) (part b i) = 0 → ∀ j, j < i + 1 → cmpI (part a j) (part b j) = 0 := fun hz j hj => by
      rcases Nat.lt_or_ge j i with q | q
      · exact h2 j q
      · have : j = i := by omega
        subst this; exact hz
    match i, h1, h2, h, next with
    | 0, h1, h2, h, next =>
      refine Yi ⟨by show (0 : Int) ≤ 0; decide, by show (0 : Int) < 3; decide⟩ ?_
      refine Yi ⟨by show (0 : Int) ≤ 0; decide, by show (0 : Int) < 3; decide⟩ ?_
      refine Xi _ (Yi (c190 (part a 0) (part b 0)) ?_)
      refine Yi (by kernel_rfl) ?_
      refine Yi ?_ ?_
      · intro h4
        have h4 : cmpI (part a 0) (part b 0) ≠ 0 := h4
        exact .of_eq (congrArg vi (cmpV_hit a b 0 (by decide) h2 h4).symm)
      · intro h4
        have h4 : ¬ cmpI (part a 0) (part b 0) ≠ 0 := h4
        refine Yi (by show InI64 ((0 : Int) + 1); unfold InI64; omega) ?_
        refine Xi ⟨1, by omega, next (Decidable.of_not_not h4)⟩ ?_
        exact ⟨by show 3 - 1 < 3 - 0; decide, ⟨Zr, Zr, Zr, trivial⟩, ⟨Zr, Zr, trivial⟩, fun _ => .inl rfl, trivial⟩
    | 1, h1, h2, h, next =>
      refine Yi ⟨by show (0 : Int) ≤ 1; decide, by show (1 : Int) < 3; decide⟩ ?_
      refine Yi ⟨by show (0 : Int) ≤ 1; decide, by show (1 : Int) < 3; decide⟩ ?_
      refine Xi _ (Yi (c190 (part a 1) (part b 1)) ?_)
      refine Yi (by kernel_rfl) ?_
      refine Yi ?_ ?_
      · intro h4
        have h4 : cmpI (part a 1) (part b 1) ≠ 0 := h4
        exact .of_eq (congrArg vi (cmpV_hit a b 1 (by decide) h2 h4).symm)
      · intro h4
        have h4 : ¬ cmpI (part a 1) (part b 1) ≠ 0 := h4
        refine Yi (by show InI64 ((1 : Int) + 1); unfold InI64; omega) ?_
        refine Xi ⟨2, by omega, next (Decidable.of_not_not h4)⟩ ?_
        exact ⟨by show 3 - 2 < 3 - 1; decide, ⟨Zr, Zr, Zr, trivial⟩, ⟨Zr, Zr, trivial⟩, fun _ => .inl rfl, trivial⟩
    | 2, h1, h2, h, next =>
      refine Yi ⟨by show (0 : Int) ≤ 2; decide, by show (2 : Int) < 3; decide⟩ ?_
      refine Yi ⟨by show (0 : Int) ≤ 2; decide, by show (2 : Int) < 3; decide⟩ ?_
      refine Xi _ (Yi (c190 (part a 2) (part b 2)) ?_)
      refine Yi (by kernel_rfl) ?_
      refine Yi ?_ ?_
      · intro h4
        have h4 : cmpI (part a 2) (part b 2) ≠ 0 := h4
        exact .of_eq (congrArg vi (cmpV_hit a b 2 (by decide) h2 h4).symm)
      · intro h4
        have h4 : ¬ cmpI (part a 2) (part b 2) ≠ 0 := h4
        refine Yi (by show InI64 ((2 : Int) + 1); unfold InI64; omega) ?_
        refine Xi ⟨3, by omega, next (Decidable.of_not_not h4)⟩ ?_
        exact ⟨by show 3 - 3 < 3 - 2; decide, ⟨Zr, Zr, Zr, trivial⟩, ⟨Zr, Zr, trivial⟩, fun _ => .inl rfl, trivial⟩
    | i + 3, h1, h2, h, next => omega
  · intro h
    have h : ¬ (i : Int) < 3 := h
    exact .of_eq (congrArg vi (cmpV_all a b fun j hj => h2 j (by omega)).symm)
end Go.Eng

namespace Go.Eng
open Go.Proofs
theorem c109 (a b : Rl) : PC 109 [.agg (encRl a), .agg (encRl b)] (vi (cmpR a b)) := by
  refine pcall_sub (cxp pl0) rfl tab_ok hm rfl Tryz.func109 (by kernel_rfl) rfl (Nz rfl) (by kernel_rfl) ?_
  refine Xi _ (Yi (c157 a.path b.path) ?_)
  refine Yi (Nz rfl) (Yi (Nz rfl) ?_)
  refine Xi _ (Yi (c158 a.ver b.ver) ?_)
  refine Xi _ (Yi (c156 (cmpB a.path b.path) (cmpV a.ver b.ver)) ?_)
  refine Yi (by kernel_rfl) ?_
  exact .refl _
abbrev FewS (s : ByteArray) : Prop := s.size ≤ 1073741824
abbrev FewQ (q : Rq) : Prop := Few q.set ∧ FewS q.path
abbrev FewR (r : Rl) : Prop := FewS r.path ∧ ∀ q ∈ r.reqs, FewQ q
abbrev lineV (nm : ByteArray → ByteArray) (p : ByteArray) : AV := match pathMajor p with
  | some m => .tup [vs (nm p), vi m, vi 0]
  | none => .tup [vs ⟨#[]⟩, vi 0, vi 4]
abbrev Line (nm : ByteArray → ByteArray) : Prop := ∀ p : ByteArray, FewS p → PC 155 [vs p] (lineV nm p)
theorem Line.none {nm : ByteArray → ByteArray} (h : Line nm) {p : ByteArray} (hp : FewS p) (e : pathMajor p = .none) : PC 155 [vs p] (.tup [vs ⟨#[]⟩, vi 0, vi 4]) := by
  have := h p hp; unfold lineV at this; rw [e] at this; exact this
theorem Line.some {nm : ByteArray → ByteArray} (h : Line nm) {p : ByteArray} {m : Int} (hp : FewS p) (e : pathMajor p = .some m) : PC 155 [vs p] (.tup [vs (nm p), vi m, vi 0]) := by
  have := h p hp; unfold lineV at this; rw [e] at this; exact this
theorem c110n {nm : ByteArray → ByteArray} (hL : Line nm) (q : Rq) (hq : Few q.set) (hp : FewS q.path) : PC 110 [.agg (encRq q), .v (.pointer none)] (vi (rqOk none q)) := by
  cases hpm : pathMajor q.path with
  | none =>
    have e : (4 : Int) = rqOk none q := by unfold rqOk; rw [hpm]; rfl
    have hl := hL.none hp hpm
    refine pcall_sub (cxp pl0) rfl tab_ok hm rfl Tryz.func110 (by kernel_rfl) rfl (Nz rfl) (by kernel_rfl) ?_
    refine Xi .pure (Xi _ (Yi (hl) ?_))
    refine Yi ?_ ?_
    · intro _; exact .of_eq (congrArg vi e)
    · intro h; exact absurd (show (4 : Int) ≠ 0 by decide) h
  | some m =>
    have er : rqOk none q = if (q.set.isEmpty || !decide (q.set = canon q.set) || false) = true then 1 else 0 := by unfold rqOk; rw [hpm]; rfl
    have hl := hL.some hp hpm
    have hc := c102 q.set hq
    have he := c159 q.set (canon q.set) hq
    have hemp : ∀ {n : Int}, n = (q.set.map encSpan).length → n = 0 → q.set.isEmpty = true := fun h1 h2 => by
      rw [List.length_map] at h1; rw [List.isEmpty_iff]; exact List.eq_nil_of_length_eq_zero (by omega)
    have hnem : ¬ ((q.set.map encSpan).length : Int) = 0 → q.set.isEmpty = false := fun h => by
      cases hqs : q.set with
      | nil => rw [hqs] at h; exact absurd rfl h
      | cons a l => rfl
    rcases Bool.eq_false_or_eq_true (decide (q.set = canon q.set)) with h2 | h2
    · rw [h2] at he
      refine pcall_sub (cxp (plcut [2, 4])) rfl tab_ok hm rfl Tryz.func110 (by kernel_rfl) rfl (Nz rfl) (by kernel_rfl) ?_
      refine Xi .pure (Xi _ (Yi (hl) ?_))
      refine Xi ⟨[(1, .v (.pointer none)), (2, .ref 2 0), (7, vi 0)], [(2, .cells (encRq q))], hfree⟩ (Yi ?_ ?_)
      · exact ⟨⟨Zr, Zr, Zr, trivial⟩, ⟨Zr, trivial⟩, fun _ => .inl rfl, trivial⟩
      refine Yi ?_ ?_
      · intro h; exact absurd rfl h
      intro _
      refine Xi ⟨[(1, .v (.pointer none)), (2, .ref 2 0)], [(2, .cells (encRq q))], hfree⟩ (Yi ?_ ?_)
      · exact ⟨⟨Zr, Zr, trivial⟩, ⟨Zr, trivial⟩, fun _ => .inl rfl, trivial⟩
      refine Yi ?_ ?_
      · intro h
        have h : ((q.set.map encSpan).length : Int) = 0 := h
        have e : (1 : Int) = rqOk none q := by rw [er, hemp rfl h]; rfl
        refine Yi (by kernel_rfl) ?_
        exact .of_eq (congrArg vi e)
      intro h
      have h : ¬ ((q.set.map encSpan).length : Int) = 0 := h
      have hn := hnem h
      refine Xi _ (Yi (hc) ?_)
      refine Xi _ (Yi (he) ?_)
      refine Yi (by kernel_rfl) ?_
      have e : (0 : Int) = rqOk none q := by rw [er, hn, h2]; rfl
      exact .of_eq (congrArg vi e)
    · rw [h2] at he
      refine pcall_sub (cxp (plcut [2, 4])) rfl tab_ok hm rfl Tryz.func110 (by kernel_rfl) rfl (Nz rfl) (by kernel_rfl) ?_
      refine Xi .pure (Xi _ (Yi (hl) ?_))
      refine Xi ⟨[(1, .v (.pointer none)), (2, .ref 2 0), (7, vi 0)], [(2, .cells (encRq q))], hfree⟩ (Yi ?_ ?_)
      · exact ⟨⟨Zr, Zr, Zr, trivial⟩, ⟨Zr, trivial⟩, fun _ => .inl rfl, trivial⟩
      refine Yi ?_ ?_
      · intro h; exact absurd rfl h
      intro _
      refine Xi ⟨[(1, .v (.pointer none)), (2, .ref 2 0)], [(2, .cells (encRq q))], hfree⟩ (Yi ?_ ?_)
      · exact ⟨⟨Zr, Zr, trivial⟩, ⟨Zr, trivial⟩, fun _ => .inl rfl, trivial⟩
      refine Yi ?_ ?_
      · intro h
        have h : ((q.set.map encSpan).length : Int) = 0 := h
        have e : (1 : Int) = rqOk none q := by rw [er, hemp rfl h]; rfl
        refine Yi (by kernel_rfl) ?_
        exact .of_eq (congrArg vi e)
      intro h
      have h : ¬ ((q.set.map encSpan).length : Int) = 0 := h
      have hn := hnem h
      refine Xi _ (Yi (hc) ?_)
      refine Xi _ (Yi (he) ?_)
      refine Yi (by kernel_rfl) ?_
      have e : (1 : Int) = rqOk none q := by rw [er, hn, h2]; rfl
      exact .of_eq (congrArg vi e)
theorem c110s {nm : ByteArray → ByteArray} (hL : Line nm) (q b : Rq) (hq : Few q.set) (hp : FewS q.path) : PC 110 [.agg (encRq q), .cptr (encRq b)] (vi (rqOk (some b.path) q)) := by
  cases hpm : pathMajor q.path with
  | none =>
    have e : (4 : Int) = rqOk (some b.path) q := by unfold rqOk; rw [hpm]; rfl
    have hl := hL.none hp hpm
    refine pcall_sub (cxp pl0) rfl tab_ok hm rfl Tryz.func110 (by kernel_rfl) rfl (Nz rfl) (by kernel_rfl) ?_
    refine Xi .pure (Xi _ (Yi (hl) ?_))
    refine Yi ?_ ?_
    · intro _; exact .of_eq (congrArg vi e)
    · intro h; exact absurd (show (4 : Int) ≠ 0 by decide) h
  | some m =>
    have er : rqOk (some b.path) q = if (q.set.isEmpty || !decide (q.set = canon q.set) || !blt b.path q.path) = true then 1 else 0 := by unfold rqOk; rw [hpm]; rfl
    have hl := hL.some hp hpm
    have hc := c102 q.set hq
    have he := c159 q.set (canon q.set) hq
    have hemp : ∀ {n : Int}, n = (q.set.map encSpan).length → n = 0 → q.set.isEmpty = true := fun h1 h2 => by
      rw [List.length_map] at h1; rw [List.isEmpty_iff]; exact List.eq_nil_of_length_eq_zero (by omega)
    have hnem : ¬ ((q.set.map encSpan).length : Int) = 0 → q.set.isEmpty = false := fun h => by
      cases hqs : q.set with
      | nil => rw [hqs] at h; exact absurd rfl h
      | cons a l => rfl
    rcases Bool.eq_false_or_eq_true (decide (q.set = canon q.set)) with h2 | h2
    · rw [h2] at he
      refine pcall_sub (cxp (plcut [2, 4])) rfl tab_ok hm rfl Tryz.func110 (by kernel_rfl) rfl (Nz rfl) (by kernel_rfl) ?_
      refine Xi .pure (Xi _ (Yi (hl) ?_))
      refine Xi ⟨[(1, .cptr (encRq b)), (2, .ref 2 0), (7, vi 0)], [(2, .cells (encRq q))], hfree⟩ (Yi ?_ ?_)
      · exact ⟨⟨Zr, Zr, Zr, trivial⟩, ⟨Zr, trivial⟩, fun _ => .inl rfl, trivial⟩
      refine Yi ?_ ?_
      · intro h; exact absurd rfl h
      intro _
      refine Xi ⟨[(1, .cptr (encRq b)), (2, .ref 2 0)], [(2, .cells (encRq q))], hfree⟩ (Yi ?_ ?_)
      · exact ⟨⟨Zr, Zr, trivial⟩, ⟨Zr, trivial⟩, fun _ => .inl rfl, trivial⟩
      refine Yi ?_ ?_
      · intro h
        have h : ((q.set.map encSpan).length : Int) = 0 := h
        have e : (1 : Int) = rqOk (some b.path) q := by rw [er, hemp rfl h]; rfl
        refine Yi (by kernel_rfl) ?_
        exact .of_eq (congrArg vi e)
      intro h
      have h : ¬ ((q.set.map encSpan).length : Int) = 0 := h
      have hn := hnem h
      refine Xi _ (Yi (hc) ?_)
      refine Xi _ (Yi (he) ?_)
      refine Yi ?_ ?_
      · intro h3
        have h3 : Op.bytesLess b.path.toList q.path.toList = false := h3
        refine Yi (by kernel_rfl) ?_
        have e : (1 : Int) = rqOk (some b.path) q := by rw [er, hn, h2, blt_eq, h3]; rfl
        exact .of_eq (congrArg vi e)
      · intro h3
        have h3 : ¬ Op.bytesLess b.path.toList q.path.toList = false := h3
        have h3 : Op.bytesLess b.path.toList q.path.toList = true := by simpa using h3
        refine Yi (by kernel_rfl) ?_
        have e : (0 : Int) = rqOk (some b.path) q := by rw [er, hn, h2, blt_eq, h3]; rfl
        exact .of_eq (congrArg vi e)
    · rw [h2] at he
      refine pcall_sub (cxp (plcut [2, 4])) rfl tab_ok hm rfl Tryz.func110 (by kernel_rfl) rfl (Nz rfl) (by kernel_rfl) ?_
      refine Xi .pure (Xi _ (Yi (hl) ?_))
      refine Xi ⟨[(1, .cptr (encRq b)), (2, .ref 2 0), (7, vi 0)], [(2, .cells (encRq q))], hfree⟩ (Yi ?_ ?_)
      · exact ⟨⟨Zr, Zr, Zr, trivial⟩, ⟨Zr, trivial⟩, fun _ => .inl rfl, trivial⟩
      refine Yi ?_ ?_
      · intro h; exact absurd rfl h
      intro _
      refine Xi ⟨[(1, .cptr (encRq b)), (2, .ref 2 0)], [(2, .cells (encRq q))], hfree⟩ (Yi ?_ ?_)
      · exact ⟨⟨Zr, Zr, trivial⟩, ⟨Zr, trivial⟩, fun _ => .inl rfl, trivial⟩
      refine Yi ?_ ?_
      · intro h
        have h : ((q.set.map encSpan).length : Int) = 0 := h
        have e : (1 : Int) = rqOk (some b.path) q := by rw [er, hemp rfl h]; rfl
        refine Yi (by kernel_rfl) ?_
        exact .of_eq (congrArg vi e)
      intro h
      have h : ¬ ((q.set.map encSpan).length : Int) = 0 := h
      have hn := hnem h
      refine Xi _ (Yi (hc) ?_)
      refine Xi _ (Yi (he) ?_)
      refine Yi (by kernel_rfl) ?_
      have e : (1 : Int) = rqOk (some b.path) q := by rw [er, hn, h2]; rfl
      exact .of_eq (congrArg vi e)
end Go.Eng

namespace Go.Eng
open Go.Proofs
abbrev cellsAt (l : List Rq) (k : Nat) : List AV := ((l.map encRq)[k]?).getD []
abbrev bpAt (l : List Rq) : Nat → AV
  | 0 => .v (.pointer none)
  | k + 1 => .cptr (cellsAt l k)
abbrev befAt (l : List Rq) : Nat → Option ByteArray
  | 0 => none
  | k + 1 => (l[k]?).map (·.path)
theorem cellsAt_eq {l : List Rq} {k : Nat} (h : k < l.length) : cellsAt l k = encRq l[k] := by
  unfold cellsAt; rw [List.getElem?_map, List.getElem?_eq_getElem h]; rfl
theorem befAt_eq {l : List Rq} {k : Nat} (h : k < l.length) : befAt l (k + 1) = some l[k].path := by
  show (l[k]?).map _ = _; rw [List.getElem?_eq_getElem h]; rfl
theorem c65 {nm : ByteArray → ByteArray} (hL : Line nm) (l : List Rq) (hs : ∀ q ∈ l, FewQ q) : PC 65 [sl encRq l] (vi (checkRqs l)) := by
  refine pcall_sub (cxp (plcut [8])) rfl tab_ok hm rfl Tryz.func65 (by kernel_rfl) rfl (Nz rfl) (by kernel_rfl) ?_
  refine Yi ?_ ?_
  · intro h
    have h : (16 : Int) < (l.map encRq).length := h
    exact .of_eq (congrArg vi (show (7 : Int) = checkRqs l by unfold checkRqs; rw [if_pos (by rw [List.length_map] at h; omega)]))
  intro h
  have h : ¬ (16 : Int) < (l.map encRq).length := h
  have hl : l.length ≤ 16 := by rw [List.length_map] at h; omega
  have hck : checkRqs l = checkRqsGo none l := by unfold checkRqs; rw [if_neg (by omega)]
  refine Xi {i : Nat // i ≤ l.length ∧ checkRqsGo none l = checkRqsGo (befAt l i) (l.drop i)} (Xi (fun i => ⟨[(0, sl encRq l), (3, bpAt l i.1), (10, sl encRq l), (11, vi (l.map encRq).length), (12, vi i.1)], [], hfree⟩) (Xi (fun i => l.length - i.1) (Yi (Xi ⟨0, Nat.zero_le _, rfl⟩ ?_) ?_)))
  · exact ⟨⟨Zr, Zr, Zr, Zr, Zr, trivial⟩, trivial, fun _ => .inl rfl, trivial⟩
  intro ⟨i, h1, h2⟩
  refine Yi ?_ ?_
  · intro h
    have h : (i : Int) < (l.map encRq).length := h
    have h : i < l.length := by simpa using h
    have hg : l[i]? = some l[i] := List.getElem?_eq_getElem h
    have hd : l.drop i = l[i] :: l.drop (i + 1) := List.drop_eq_getElem_cons h
    have hq := hs l[i] (List.getElem_mem h)
    have hc : PC 110 [.agg (encRq l[i]), bpAt l i] (vi (rqOk (befAt l i) l[i])) := by
      cases i with
      | zero => exact c110n hL _ hq.1 hq.2
      | succ k =>
        rw [befAt_eq (by omega : k < l.length)]
        show PC 110 [_, .cptr (cellsAt l k)] _
        rw [cellsAt_eq (by omega : k < l.length)]
        exact c110s hL _ _ hq.1 hq.2
    have hgo : checkRqsGo none l = if rqOk (befAt l i) l[i] = 0 then checkRqsGo (some l[i].path) (l.drop (i + 1)) else rqOk (befAt l i) l[i] := by rw [h2, hd]; rfl
    match i, h1, h2, h, hg, hd, hc, hgo with
    | 0, h1, h2, h, hg, hd, hc, hgo =>
      refine Xi (encRq l[0]) (Yi (Yi (by show (0 : Int) ≤ ((0 : Nat) : Int); omega) (by simp [hg])) (Yi rfl ?_))
      refine Yi (Nz rfl) (Yi (Nz rfl) (Yi (Nz rfl) ?_))
      refine Xi .pure (Xi _ (Yi (hc) ?_))
      refine Xi ⟨[(0, sl encRq l), (4, vi ((0 : Nat) : Int)), (6, vi (rqOk (befAt l (0)) l[0])), (10, sl encRq l), (11, vi (l.map encRq).length), (12, vi ((0 : Nat) : Int))], [], hfree⟩ (Yi ?_ ?_)
      · exact ⟨⟨Zr, Zr, Zr, Zr, Zr, Zr, trivial⟩, trivial, fun _ => .inl rfl, trivial⟩
      refine Yi ?_ ?_
      · intro h4
        have h4 : rqOk (befAt l (0)) l[0] ≠ 0 := h4
        exact .of_eq (congrArg vi (show rqOk (befAt l (0)) l[0] = checkRqs l by rw [hck, hgo, if_neg h4]))
      · intro h4
        have h4 : ¬ rqOk (befAt l (0)) l[0] ≠ 0 := h4
        refine Xi (encRq l[0]) (Yi (Yi (by show (0 : Int) ≤ ((0 : Nat) : Int); omega) (by simp [hg])) (Yi rfl ?_))
        refine Yi (by show InI64 (((0 : Nat) : Int) + 1); unfold InI64; omega) ?_
        refine Xi ⟨0 + 1, by omega, by rw [hgo, if_pos (Decidable.of_not_not h4), befAt_eq h]⟩ ?_
        have e1 : AV.cptr (encRq l[0]) = .cptr (cellsAt l (0)) := by rw [cellsAt_eq h]
        exact ⟨by show l.length - (0 + 1) < l.length - (0); omega, ⟨Zr, ⟨e1, rfl⟩, Zr, Zr, Zr, trivial⟩, trivial, fun _ => .inl rfl, trivial⟩
    | k + 1, h1, h2, h, hg, hd, hc, hgo =>
      refine Xi (encRq l[k + 1]) (Yi (Yi (by show (0 : Int) ≤ ((k + 1 : Nat) : Int); omega) (by simp [hg])) (Yi rfl ?_))
      refine Yi (Nz rfl) (Yi (Nz rfl) (Yi (Nz rfl) ?_))
      refine Xi .pure (Xi _ (Yi (hc) ?_))
      refine Xi ⟨[(0, sl encRq l), (4, vi ((k + 1 : Nat) : Int)), (6, vi (rqOk (befAt l (k + 1)) l[k + 1])), (10, sl encRq l), (11, vi (l.map encRq).length), (12, vi ((k + 1 : Nat) : Int))], [], hfree⟩ (Yi ?_ ?_)
      · exact ⟨⟨Zr, Zr, Zr, Zr, Zr, Zr, trivial⟩, trivial, fun _ => .inl rfl, trivial⟩
      refine Yi ?_ ?_
      · intro h4
        have h4 : rqOk (befAt l (k + 1)) l[k + 1] ≠ 0 := h4
        exact .of_eq (congrArg vi (show rqOk (befAt l (k + 1)) l[k + 1] = checkRqs l by rw [hck, hgo, if_neg h4]))
      · intro h4
        have h4 : ¬ rqOk (befAt l (k + 1)) l[k + 1] ≠ 0 := h4
        refine Xi (encRq l[k + 1]) (Yi (Yi (by show (0 : Int) ≤ ((k + 1 : Nat) : Int); omega) (by simp [hg])) (Yi rfl ?_))
        refine Yi (by show InI64 (((k + 1 : Nat) : Int) + 1); unfold InI64; omega) ?_
        refine Xi ⟨k + 1 + 1, by omega, by rw [hgo, if_pos (Decidable.of_not_not h4), befAt_eq h]⟩ ?_
        have e1 : AV.cptr (encRq l[k + 1]) = .cptr (cellsAt l (k + 1)) := by rw [cellsAt_eq h]
        exact ⟨by show l.length - (k + 1 + 1) < l.length - (k + 1); omega, ⟨Zr, ⟨e1, rfl⟩, Zr, Zr, Zr, trivial⟩, trivial, fun _ => .inl rfl, trivial⟩
  · intro h
    have h : ¬ (i : Int) < (l.map encRq).length := h
    have h : ¬ i < l.length := by simpa using h
    have e : (0 : Int) = checkRqs l := by rw [hck, h2, List.drop_eq_nil_of_le (by omega)]; rfl
    exact .of_eq (congrArg vi e)
end Go.Eng

namespace Go.Eng
open Go.Proofs
abbrev dgAt (r : Rl) : Nat → ByteArray
  | 0 => r.arch
  | 1 => r.ifc
  | _ => r.cert
theorem dg_all {r : Rl} (h : ∀ j, j < 3 → dgOk (dgAt r j) = true) : (dgOk r.arch && dgOk r.ifc && dgOk r.cert) = true := by
  have h0 : dgOk r.arch = true := h 0 (by decide)
  have h1 : dgOk r.ifc = true := h 1 (by decide)
  have h2 : dgOk r.cert = true := h 2 (by decide)
  rw [h0, h1, h2]; rfl
theorem dg_not {r : Rl} {i : Nat} (hi : i < 3) (h : dgOk (dgAt r i) = false) : (dgOk r.arch && dgOk r.ifc && dgOk r.cert) = false := by
  match i, hi, h with
  | 0, _, h => have h : dgOk r.arch = false := h; rw [h]; rfl
  | 1, _, h => have h : dgOk r.ifc = false := h; rw [h, Bool.and_false]; rfl
  | 2, _, h => have h : dgOk r.cert = false := h; rw [h, Bool.and_false]
theorem c107 {nm : ByteArray → ByteArray} (hL : Line nm) (r : Rl) (hr : FewR r) : PC 107 [.agg (encRl r)] (vi (checkRl r)) := by
  cases hpm : pathMajor r.path with
  | none =>
    have e : (4 : Int) = checkRl r := by unfold checkRl; rw [hpm]
    have hl := hL.none hr.1 hpm
    refine pcall_sub (cxp pl0) rfl tab_ok hm rfl Tryz.func107 (by kernel_rfl) rfl (Nz rfl) (by kernel_rfl) ?_
    refine Xi .pure (Xi _ (Yi (hl) ?_))
    refine Yi ?_ ?_
    · intro _; exact .of_eq (congrArg vi e)
    · intro h; exact absurd (show (4 : Int) ≠ 0 by decide) h
  | some m =>
    have er : checkRl r = if (!validB r.ver || !decide (r.ver.a = m)) = true then 2 else if checkRqs r.reqs ≠ 0 then checkRqs r.reqs else if (dgOk r.arch && dgOk r.ifc && dgOk r.cert) = true then 0 else 1 := by unfold checkRl; rw [hpm]
    have hl := hL.some hr.1 hpm
    have hv := c100 r.ver
    have hc := c65 hL r.reqs hr.2
    rcases Bool.eq_false_or_eq_true (validB r.ver) with h2 | h2
    · rw [h2] at hv
      refine pcall_sub (cxp (plcut [2, 4, 6, 7, 9])) rfl tab_ok hm rfl Tryz.func107 (by kernel_rfl) rfl (Nz rfl) (by kernel_rfl) ?_
      refine Xi .pure (Xi _ (Yi (hl) ?_))
      refine Xi ⟨[(1, .ref 1 0), (4, vi m), (5, vi 0)], [(1, .cells (encRl r))], hfree⟩ (Yi ?_ ?_)
      · exact ⟨⟨Zr, Zr, Zr, trivial⟩, ⟨Zr, trivial⟩, fun _ => .inl rfl, trivial⟩
      refine Yi ?_ ?_
      · intro h; exact absurd rfl h
      intro _
      refine Xi ⟨[(1, .ref 1 0), (4, vi m)], [(1, .cells (encRl r))], hfree⟩ (Yi ?_ ?_)
      · exact ⟨⟨Zr, Zr, trivial⟩, ⟨Zr, trivial⟩, fun _ => .inl rfl, trivial⟩
      refine Yi (Nz rfl) ?_
      refine Xi .pure (Xi _ (Yi (hv) ?_))
      refine Yi ?_ ?_
      · intro h
        have h : r.ver.a ≠ m := h
        have e : (2 : Int) = checkRl r := by rw [er, h2, decide_eq_false h]; rfl
        exact .of_eq (congrArg vi e)
      intro h
      have h : ¬ r.ver.a ≠ m := h
      have h3 : r.ver.a = m := Decidable.of_not_not h
      have er2 : checkRl r = if checkRqs r.reqs ≠ 0 then checkRqs r.reqs else if (dgOk r.arch && dgOk r.ifc && dgOk r.cert) = true then 0 else 1 := by rw [er, h2, decide_eq_true h3]; rfl
      refine Xi ⟨[(1, .ref 1 0)], [(1, .cells (encRl r))], hfree⟩ (Yi ?_ ?_)
      · exact ⟨⟨Zr, trivial⟩, ⟨Zr, trivial⟩, fun _ => .inl rfl, trivial⟩
      refine Xi .pure (Xi _ (Yi (hc) ?_))
      refine Xi ⟨[(1, .ref 1 0), (6, vi (checkRqs r.reqs))], [(1, .cells (encRl r))], hfree⟩ (Yi ?_ ?_)
      · exact ⟨⟨Zr, Zr, trivial⟩, ⟨Zr, trivial⟩, fun _ => .inl rfl, trivial⟩
      refine Yi ?_ ?_
      · intro h4
        have h4 : checkRqs r.reqs ≠ 0 := h4
        exact .of_eq (congrArg vi (show checkRqs r.reqs = checkRl r by rw [er2, if_pos h4]))
      intro h4
      have h4 : ¬ checkRqs r.reqs ≠ 0 := h4
      have er3 : checkRl r = if (dgOk r.arch && dgOk r.ifc && dgOk r.cert) = true then 0 else 1 := by rw [er2, if_neg h4]
      refine Xi ⟨[(1, .ref 1 0)], [(1, .cells (encRl r))], hfree⟩ (Yi ?_ ?_)
      · exact ⟨⟨Zr, trivial⟩, ⟨Zr, trivial⟩, fun _ => .inl rfl, trivial⟩
      refine Xi {i : Nat // i ≤ 3 ∧ ∀ j, j < i → dgOk (dgAt r j) = true} (Xi (fun i => ⟨[(41, .slice (.id 41 1) [[vs r.arch], [vs r.ifc], [vs r.cert]]), (42, vi 3), (43, vi i.1)], [(41, .tok 1 3)], hfree⟩) (Xi (fun i => 3 - i.1) (Yi (Xi ⟨0, by omega, fun j h => by omega⟩ ?_) ?_)))
      · exact ⟨⟨Zr, Zr, Zr, trivial⟩, ⟨Zr, trivial⟩, fun _ => .inl rfl, trivial⟩
      intro ⟨i, i1, i2⟩
      refine Yi ?_ ?_
      · intro h
        have h : (i : Int) < 3 := h
        have next : dgOk (dgAt r i) = true → ∀ j, j < i + 1 → dgOk (dgAt r j) = true := fun hz j hj => by
          rcases Nat.lt_or_ge j i with q | q
          · exact i2 j q
          · have : j = i := by omega
            subst this; exact hz
        match i, i1, i2, h, next with
        | 0, i1, i2, h, next =>
          refine Xi [vs r.arch] (Yi (Yi (by show (0 : Int) ≤ 0; decide) rfl) (Yi rfl ?_))
          refine Yi ?_ ?_
          · intro h5
            have h5 : ((r.arch.size : Nat) : Int) ≠ 0 := h5
            refine Yi ?_ ?_
            · intro h6
              have h6 : ((r.arch.size : Nat) : Int) ≠ 32 := h6
              have e : (1 : Int) = checkRl r := by rw [er3, dg_not (i := 0) (by decide) (show dgOk r.arch = false by unfold dgOk; rw [decide_eq_false (by omega), decide_eq_false (by omega)]; rfl)]; rfl
              exact .of_eq (congrArg vi e)
            · intro h6
              have h6 : ¬ ((r.arch.size : Nat) : Int) ≠ 32 := h6
              refine Yi (by show InI64 ((0 : Int) + 1); unfold InI64; omega) ?_
              refine Xi ⟨1, by omega, next (show dgOk r.arch = true by unfold dgOk; rw [decide_eq_true (by omega : r.arch.size = 32), Bool.or_true])⟩ ?_
              exact ⟨by show 3 - 1 < 3 - 0; decide, ⟨Zr, Zr, Zr, trivial⟩, ⟨Zr, trivial⟩, fun _ => .inl rfl, trivial⟩
          · intro h5
            have h5 : ¬ ((r.arch.size : Nat) : Int) ≠ 0 := h5
            refine Yi (by show InI64 ((0 : Int) + 1); unfold InI64; omega) ?_
            refine Xi ⟨1, by omega, next (show dgOk r.arch = true by unfold dgOk; rw [decide_eq_true (by omega : r.arch.size = 0)]; rfl)⟩ ?_
            exact ⟨by show 3 - 1 < 3 - 0; decide, ⟨Zr, Zr, Zr, trivial⟩, ⟨Zr, trivial⟩, fun _ => .inl rfl, trivial⟩
        | 1, i1, i2, h, next =>
          refine Xi [vs r.ifc] (Yi (Yi (by show (0 : Int) ≤ 1; decide) rfl) (Yi rfl ?_))
          refine Yi ?_ ?_
          · intro h5
            have h5 : ((r.ifc.size : Nat) : Int) ≠ 0 := h5
            refine Yi ?_ ?_
            · intro h6
              have h6 : ((r.ifc.size : Nat) : Int) ≠ 32 := h6
              have e : (1 : Int) = checkRl r := by rw [er3, dg_not (i := 1) (by decide) (show dgOk r.ifc = false by unfold dgOk; rw [decide_eq_false (by omega), decide_eq_false (by omega)]; rfl)]; rfl
              exact .of_eq (congrArg vi e)
            · intro h6
              have h6 : ¬ ((r.ifc.size : Nat) : Int) ≠ 32 := h6
              refine Yi (by show InI64 ((1 : Int) + 1); unfold InI64; omega) ?_
              refine Xi ⟨2, by omega, next (show dgOk r.ifc = true by unfold dgOk; rw [decide_eq_true (by omega : r.ifc.size = 32), Bool.or_true])⟩ ?_
              exact ⟨by show 3 - 2 < 3 - 1; decide, ⟨Zr, Zr, Zr, trivial⟩, ⟨Zr, trivial⟩, fun _ => .inl rfl, trivial⟩
          · intro h5
            have h5 : ¬ ((r.ifc.size : Nat) : Int) ≠ 0 := h5
            refine Yi (by show InI64 ((1 : Int) + 1); unfold InI64; omega) ?_
            refine Xi ⟨2, by omega, next (show dgOk r.ifc = true by unfold dgOk; rw [decide_eq_true (by omega : r.ifc.size = 0)]; rfl)⟩ ?_
            exact ⟨by show 3 - 2 < 3 - 1; decide, ⟨Zr, Zr, Zr, trivial⟩, ⟨Zr, trivial⟩, fun _ => .inl rfl, trivial⟩
        | 2, i1, i2, h, next =>
          refine Xi [vs r.cert] (Yi (Yi (by show (0 : Int) ≤ 2; decide) rfl) (Yi rfl ?_))
          refine Yi ?_ ?_
          · intro h5
            have h5 : ((r.cert.size : Nat) : Int) ≠ 0 := h5
            refine Yi ?_ ?_
            · intro h6
              have h6 : ((r.cert.size : Nat) : Int) ≠ 32 := h6
              have e : (1 : Int) = checkRl r := by rw [er3, dg_not (i := 2) (by decide) (show dgOk r.cert = false by unfold dgOk; rw [decide_eq_false (by omega), decide_eq_false (by omega)]; rfl)]; rfl
              exact .of_eq (congrArg vi e)
            · intro h6
              have h6 : ¬ ((r.cert.size : Nat) : Int) ≠ 32 := h6
              refine Yi (by show InI64 ((2 : Int) + 1); unfold InI64; omega) ?_
              refine Xi ⟨3, by omega, next (show dgOk r.cert = true by unfold dgOk; rw [decide_eq_true (by omega : r.cert.size = 32), Bool.or_true])⟩ ?_
              exact ⟨by show 3 - 3 < 3 - 2; decide, ⟨Zr, Zr, Zr, trivial⟩, ⟨Zr, trivial⟩, fun _ => .inl rfl, trivial⟩
          · intro h5
            have h5 : ¬ ((r.cert.size : Nat) : Int) ≠ 0 := h5
            refine Yi (by show InI64 ((2 : Int) + 1); unfold InI64; omega) ?_
            refine Xi ⟨3, by omega, next (show dgOk r.cert = true by unfold dgOk; rw [decide_eq_true (by omega : r.cert.size = 0)]; rfl)⟩ ?_
            exact ⟨by show 3 - 3 < 3 - 2; decide, ⟨Zr, Zr, Zr, trivial⟩, ⟨Zr, trivial⟩, fun _ => .inl rfl, trivial⟩
        | i + 3, i1, i2, h, next => omega
      · intro h
        have h : ¬ (i : Int) < 3 := h
        have e : (0 : Int) = checkRl r := by rw [er3, if_pos (dg_all fun j hj => i2 j (by omega))]
        exact .of_eq (congrArg vi e)
    · rw [h2] at hv
      have e : (2 : Int) = checkRl r := by rw [er, h2]; rfl
      refine pcall_sub (cxp (plcut [2, 4])) rfl tab_ok hm rfl Tryz.func107 (by kernel_rfl) rfl (Nz rfl) (by kernel_rfl) ?_
      refine Xi .pure (Xi _ (Yi (hl) ?_))
      refine Xi ⟨[(1, .ref 1 0), (4, vi m), (5, vi 0)], [(1, .cells (encRl r))], hfree⟩ (Yi ?_ ?_)
      · exact ⟨⟨Zr, Zr, Zr, trivial⟩, ⟨Zr, trivial⟩, fun _ => .inl rfl, trivial⟩
      refine Yi ?_ ?_
      · intro h; exact absurd rfl h
      intro _
      refine Xi ⟨[(1, .ref 1 0), (4, vi m)], [(1, .cells (encRl r))], hfree⟩ (Yi ?_ ?_)
      · exact ⟨⟨Zr, Zr, trivial⟩, ⟨Zr, trivial⟩, fun _ => .inl rfl, trivial⟩
      refine Yi (Nz rfl) ?_
      refine Xi .pure (Xi _ (Yi (hv) ?_))
      exact .of_eq (congrArg vi e)
end Go.Eng

namespace Go.Eng
open Go.Proofs
theorem key_eq {a b : Rl} (h : a.path = b.path ∧ a.ver.a = b.ver.a ∧ a.ver.b = b.ver.b ∧ a.ver.c = b.ver.c) : keyR a = keyR b := by
  unfold keyR
  obtain ⟨h1, h2, h3, h4⟩ := h
  have : a.ver = b.ver := by
    cases ha : a.ver; cases hb : b.ver; rw [ha, hb] at h2 h3 h4; simp_all
  rw [h1, this]
theorem key_parts {a b : Rl} (h : keyR a = keyR b) : a.path = b.path ∧ a.ver.a = b.ver.a ∧ a.ver.b = b.ver.b ∧ a.ver.c = b.ver.c := by
  unfold keyR at h
  injection h with h1 h2
  exact ⟨h1, by rw [h2], by rw [h2], by rw [h2]⟩
abbrev befR (x : List Rl) : Nat → Option Rl
  | 0 => none
  | k + 1 => x[k]?
theorem c64 {nm : ByteArray → ByteArray} (hL : Line nm) (x : List Rl) (ifs : List (List AV)) (hs : ∀ r ∈ x, FewR r) : PC 64 [.agg [sl encRl x, .slice .none ifs]] (vi (checkIx x)) := by
  refine pcall_sub (cxp (plcut [7, 9, 11, 13])) rfl tab_ok hm rfl Tryz.func64 (by kernel_rfl) rfl (Nz rfl) (by kernel_rfl) ?_
  refine Yi ?_ ?_
  · intro h
    have h : (256 : Int) < (x.map encRl).length := h
    exact .of_eq (congrArg vi (show (7 : Int) = checkIx x by unfold checkIx; rw [if_pos (by rw [List.length_map] at h; omega)]))
  intro h
  have h : ¬ (256 : Int) < (x.map encRl).length := h
  have hl : x.length ≤ 256 := by rw [List.length_map] at h; omega
  have hck : checkIx x = checkIxGo none x := by unfold checkIx; rw [if_neg (by omega)]
  refine Xi {i : Nat // i ≤ x.length ∧ checkIxGo none x = checkIxGo (befR x i) (x.drop i)} (Xi (fun i => ⟨[(1, .ref 1 0), (12, sl encRl x), (13, vi (x.map encRl).length), (14, vi i.1)], [(1, .cells [sl encRl x, .slice .none ifs])], hfree⟩) (Xi (fun i => x.length - i.1) (Yi (Xi ⟨0, Nat.zero_le _, rfl⟩ ?_) ?_)))
  · exact ⟨⟨Zr, Zr, Zr, Zr, trivial⟩, ⟨Zr, trivial⟩, fun _ => .inl rfl, trivial⟩
  intro ⟨i, h1, h2⟩
  refine Yi ?_ ?_
  · intro h
    have h : (i : Int) < (x.map encRl).length := h
    have h : i < x.length := by simpa using h
    have hg : x[i]? = some x[i] := List.getElem?_eq_getElem h
    have hd : x.drop i = x[i] :: x.drop (i + 1) := List.drop_eq_getElem_cons h
    have hc := c107 hL x[i] (hs x[i] (List.getElem_mem h))
    have hgo : checkIxGo none x = if checkRl x[i] ≠ 0 then checkRl x[i] else match befR x i with
      | none => checkIxGo (some x[i]) (x.drop (i + 1))
      | some b => if keyR b = keyR x[i] then 5 else if 0 < cmpR b x[i] then 1 else checkIxGo (some x[i]) (x.drop (i + 1)) := by rw [h2, hd]; rfl
    have hnext : befR x (i + 1) = some x[i] := List.getElem?_eq_getElem h
    refine Xi (encRl x[i]) (Yi (Yi (by show (0 : Int) ≤ i; omega) (by simp [hg])) (Yi rfl ?_))
    refine Yi (Nz rfl) (Yi (Nz rfl) (Yi (Nz rfl) ?_))
    refine Xi .pure (Xi _ (Yi (hc) ?_))
    refine Xi ⟨[(1, .ref 1 0), (3, vi i), (4, .ref 4 0), (5, vi (checkRl x[i])), (12, sl encRl x), (13, vi (x.map encRl).length), (14, vi i)], [(1, .cells [sl encRl x, .slice .none ifs]), (4, .cells (encRl x[i]))], hfree⟩ (Yi ?_ ?_)
    · exact ⟨⟨Zr, Zr, Zr, Zr, Zr, Zr, Zr, trivial⟩, ⟨Zr, Zr, trivial⟩, fun _ => .inl rfl, trivial⟩
    refine Yi ?_ ?_
    · intro h4
      have h4 : checkRl x[i] ≠ 0 := h4
      exact .of_eq (congrArg vi (show checkRl x[i] = checkIx x by rw [hck, hgo, if_pos h4]))
    intro h4
    have h4 : ¬ checkRl x[i] ≠ 0 := h4
    refine Xi ⟨[(1, .ref 1 0), (3, vi i), (4, .ref 4 0), (12, sl encRl x), (13, vi (x.map encRl).length), (14, vi i)], [(1, .cells [sl encRl x, .slice .none ifs]), (4, .cells (encRl x[i]))], hfree⟩ (Yi ?_ ?_)
    · exact ⟨⟨Zr, Zr, Zr, Zr, Zr, Zr, trivial⟩, ⟨Zr, Zr, trivial⟩, fun _ => .inl rfl, trivial⟩
    refine Yi ?_ ?_
    · intro h5
      have h5 : (i : Int) = 0 := h5
      have h6 : i = 0 := by omega
      refine Yi (by show InI64 ((i : Int) + 1); unfold InI64; omega) ?_
      refine Xi ⟨i + 1, by omega, by rw [hgo, if_neg h4, hnext]; subst h6; rfl⟩ ?_
      exact ⟨by show x.length - (i + 1) < x.length - i; omega, ⟨Zr, Zr, Zr, Zr, trivial⟩, ⟨Zr, trivial⟩, fun _ => .inl rfl, trivial⟩
    intro h5
    have h5 : ¬ (i : Int) = 0 := h5
    have hi1 : i - 1 < x.length := by omega
    have hb : befR x i = some x[i - 1] := by
      obtain ⟨k, rfl⟩ : ∃ k, i = k + 1 := ⟨i - 1, by omega⟩
      exact List.getElem?_eq_getElem (by omega)
    have hgo2 : checkIxGo none x = if keyR x[i - 1] = keyR x[i] then 5 else if 0 < cmpR x[i - 1] x[i] then 1 else checkIxGo (some x[i]) (x.drop (i + 1)) := by rw [hgo, if_neg h4, hb]
    refine Yi (by show InI64 ((i : Int) - 1); unfold InI64; omega) ?_
    have hg1 : (x.map encRl)[((i : Int) - 1).toNat]? = some (encRl x[i - 1]) := by rw [show ((i : Int) - 1).toNat = i - 1 by omega]; exact map_at (List.getElem?_eq_getElem hi1)
    refine Xi (encRl x[i - 1]) (Yi (Yi (by show (0 : Int) ≤ (i : Int) - 1; omega) hg1) (Yi rfl ?_))
    refine Yi (Nz rfl) (Yi (Nz rfl) ?_)
    refine Xi ⟨[(1, .ref 1 0), (4, .ref 4 0), (6, .ref 6 0), (12, sl encRl x), (13, vi (x.map encRl).length), (14, vi i)], [(1, .cells [sl encRl x, .slice .none ifs]), (4, .cells (encRl x[i])), (6, .cells (encRl x[i - 1]))], hfree⟩ (Yi ?_ ?_)
    · exact ⟨⟨Zr, Zr, Zr, Zr, Zr, Zr, trivial⟩, ⟨Zr, Zr, Zr, trivial⟩, fun _ => .inl rfl, trivial⟩
    refine Yi (Nz rfl) ?_
    refine Xi _ (Yi (c108 x[i - 1]) ?_)
    refine Yi (Nz rfl) ?_
    refine Xi _ (Yi (c108 x[i]) ?_)
    refine Yi ?_ ?_
    · intro h6
      refine Yi (by kernel_rfl) ?_
      have e : (5 : Int) = checkIx x := by rw [hck, hgo2, if_pos (key_eq ⟨h6.1, h6.2.1, h6.2.2.1, h6.2.2.2.1⟩)]
      exact .of_eq (congrArg vi e)
    intro h6
    refine Yi (by kernel_rfl) ?_
    have h7 : ¬ keyR x[i - 1] = keyR x[i] := fun e => by
      have e := key_parts e
      exact h6 ⟨e.1, e.2.1, e.2.2.1, e.2.2.2, trivial⟩
    refine Xi ⟨[(1, .ref 1 0), (4, .ref 4 0), (6, .ref 6 0), (12, sl encRl x), (13, vi (x.map encRl).length), (14, vi i)], [(1, .cells [sl encRl x, .slice .none ifs]), (4, .cells (encRl x[i])), (6, .cells (encRl x[i - 1]))], hfree⟩ (Yi ?_ ?_)
    · exact ⟨⟨Zr, Zr, Zr, Zr, Zr, Zr, trivial⟩, ⟨Zr, Zr, Zr, trivial⟩, fun _ => .inl rfl, trivial⟩
    refine Yi (Nz rfl) (Yi (Nz rfl) ?_)
    refine Xi .pure (Xi _ (Yi (c109 x[i - 1] x[i]) ?_))
    refine Yi ?_ ?_
    · intro h8
      have h8 : (0 : Int) < cmpR x[i - 1] x[i] := h8
      have e : (1 : Int) = checkIx x := by rw [hck, hgo2, if_neg h7, if_pos h8]
      exact .of_eq (congrArg vi e)
    · intro h8
      have h8 : ¬ (0 : Int) < cmpR x[i - 1] x[i] := h8
      refine Yi (by show InI64 ((i : Int) + 1); unfold InI64; omega) ?_
      refine Xi ⟨i + 1, by omega, by rw [hgo2, if_neg h7, if_neg h8, hnext]⟩ ?_
      exact ⟨by show x.length - (i + 1) < x.length - i; omega, ⟨Zr, Zr, Zr, Zr, trivial⟩, ⟨Zr, trivial⟩, fun _ => .inl rfl, trivial⟩
  · intro h
    have h : ¬ (i : Int) < (x.map encRl).length := h
    have h : ¬ i < x.length := by simpa using h
    have e : (0 : Int) = checkIx x := by rw [hck, h2, List.drop_eq_nil_of_le (by omega)]; rfl
    exact .of_eq (congrArg vi e)
end Go.Eng

namespace Go.Eng
open Go.Proofs
abbrev rlC (r : Rl) (a : AV) : List AV := [vs r.path, vi r.ver.a, vi r.ver.b, vi r.ver.c, a, vs r.arch, vs r.ifc, vs r.cert, vb r.yanked]
abbrev pl98 : Pol := ⟨[], [], [], [], [], [], [], [(9, (1, 4, 900, 2))], [], [], [6, 7]⟩
theorem c98 (r : Rl) (hr : r.reqs.length ≤ 1000) (hs : ∀ q ∈ r.reqs, Few q.set) : PC 98 [.agg (encRl r)] (.agg (encRl r)) := by
  refine pcall_sub (cxp pl98) rfl tab_ok hm rfl Tryz.func98 (by kernel_rfl) rfl (Nz rfl) (by kernel_rfl) ?_
  refine Yi (Nz rfl) ?_
  refine Xi {i : Nat // i ≤ r.reqs.length} (Xi (fun i => ⟨[(1, .ref 1 0), (2, .ref 2 0), (9, sl encRq r.reqs), (10, vi (r.reqs.map encRq).length), (11, vi i.1)], [(1, .cells (rlC r (.slice (.id 900 2) ((r.reqs.take i.1).map encRq)))), (2, .cells zRl), (900, .tok 2 ((r.reqs.take i.1).map encRq).length)], hfree⟩) (Xi (fun i => r.reqs.length - i.1) (Yi (Xi ⟨0, Nat.zero_le _⟩ ?_) ?_)))
  · exact ⟨⟨Zr, Zr, Zr, Zr, Zr, trivial⟩, ⟨Zr, Zr, Zr, trivial⟩, fun _ => .inl rfl, trivial⟩
  intro ⟨i, h1⟩
  refine Yi ?_ ?_
  · intro h
    have h : (i : Int) < (r.reqs.map encRq).length := h
    have h : i < r.reqs.length := by simpa using h
    have hg : r.reqs[i]? = some r.reqs[i] := List.getElem?_eq_getElem h
    refine Xi (encRq r.reqs[i]) (Yi (Yi (by show (0 : Int) ≤ i; omega) (by simp [hg])) (Yi rfl ?_))
    have hq := hs r.reqs[i] (List.getElem_mem h)
    refine Yi (Nz rfl) (Yi (Nz rfl) ?_)
    refine Xi ⟨[(1, .ref 1 0), (2, .ref 2 0), (5, .ref 5 0), (9, sl encRq r.reqs), (10, vi (r.reqs.map encRq).length), (11, vi i)], [(1, .cells (rlC r (.slice (.id 900 2) ((r.reqs.take i).map encRq)))), (2, .cells zRl), (5, .cells (encRq r.reqs[i])), (900, .tok 2 ((r.reqs.take i).map encRq).length)], hfree⟩ (Yi ?_ ?_)
    · exact ⟨⟨Zr, Zr, Zr, Zr, Zr, Zr, trivial⟩, ⟨Zr, Zr, Zr, Zr, trivial⟩, fun _ => .inl rfl, trivial⟩
    refine Xi .pure (Xi _ (Yi (c137 r.reqs[i].set hq) ?_))
    refine Yi (Nz rfl) ?_
    refine Xi ⟨[(1, .ref 1 0), (2, .ref 2 0), (5, .ref 5 0), (9, sl encRq r.reqs), (10, vi (r.reqs.map encRq).length), (11, vi i)], [(1, .cells (rlC r (.slice (.id 900 2) ((r.reqs.take i).map encRq)))), (2, .cells zRl), (5, .cells (encRq r.reqs[i])), (900, .tok 2 ((r.reqs.take i).map encRq).length)], hfree⟩ (Yi ?_ ?_)
    · exact ⟨⟨Zr, Zr, Zr, Zr, Zr, Zr, trivial⟩, ⟨Zr, Zr, Zr, Zr, trivial⟩, fun _ => .inl rfl, trivial⟩
    refine Yi (Nz rfl) ?_
    have bulk : AllLen 2 [encRq r.reqs[i]] ∧ ((r.reqs.take i).map encRq).length = ((r.reqs.take i).map encRq).length ∧ (((r.reqs.take i).map encRq).length + [encRq r.reqs[i]].length) * 40 ≤ 140737488355328 ∧ ((r.reqs.take i).map encRq).length + [encRq r.reqs[i]].length ≤ 9223372036854775807 :=
      ⟨⟨rfl, trivial⟩, rfl, by rw [List.length_map, List.length_take, List.length_singleton]; omega, by rw [List.length_map, List.length_take, List.length_singleton]; omega⟩
    refine Yi bulk ?_
    refine Yi (Nz rfl) ?_
    refine Yi (by show InI64 ((i : Int) + 1); unfold InI64; omega) ?_
    refine Xi ⟨i + 1, by omega⟩ ?_
    have et : (r.reqs.take (i + 1)).map encRq = (r.reqs.take i).map encRq ++ [encRq r.reqs[i]] := by rw [List.take_add_one, hg, List.map_append]; rfl
    have e1 : HO.cells (rlC r (.slice (.id 900 2) ((r.reqs.take i).map encRq ++ [encRq r.reqs[i]]))) = .cells (rlC r (.slice (.id 900 2) ((r.reqs.take (i + 1)).map encRq))) := by rw [et]
    have e2 : HO.tok 2 (((r.reqs.take i).map encRq).length + [encRq r.reqs[i]].length) = .tok 2 ((r.reqs.take (i + 1)).map encRq).length := by rw [et, List.length_append]
    exact ⟨by show r.reqs.length - (i + 1) < r.reqs.length - i; omega, ⟨Zr, Zr, Zr, Zr, Zr, trivial⟩, ⟨⟨e1, rfl⟩, Zr, ⟨e2, rfl⟩, trivial⟩, fun _ => .inl rfl, trivial⟩
  · intro h
    have h : ¬ (i : Int) < (r.reqs.map encRq).length := h
    have h : ¬ i < r.reqs.length := by simpa using h
    refine Yi (Nz rfl) (Yi (Nz rfl) (Yi (Nz rfl) ?_))
    have e : AV.agg (rlC r (.slice .none ((r.reqs.take i).map encRq))) = .agg (encRl r) := by rw [List.take_of_length_le (by omega)]
    exact .of_eq e
end Go.Eng
