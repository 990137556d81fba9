/- The law ProofSound of chapter 36 returns true and leaves its arguments as they were, for every input: of bulk at most 1048576 (the row's own bound), the listed tables as the program's text lays them. -/
import Derived.Test.YtodcmjcogdcmlaaGreatDoorA27
import Derived.Test.YtodcmjcogdcmlaaGreatDoorA28
import Derived.Test.YtodcmjcogdcmlaaGreatDoorA29
namespace Go.Eng
open Go.Proofs
theorem c25 (t : List Tm) (s : List Sl) (ht : FewT t) (hs : Few s) : PC 25 [sl encTm t, .cptr [sl encSl s]] (vb (t.all fun u => holds u s)) := by
  refine pcall_sub (cxp pl0) rfl tab_ok hm rfl Tryz.func25 (by kernel_rfl) rfl (Nz rfl) (by kernel_rfl) ?_
  refine Xi .pure (Xi _ (Yi (c26 t s ht hs) ?_))
  exact .refl _
end Go.Eng

namespace Go.Eng
open Go.Proofs
abbrev pl5 : Pol := ⟨[7], [], [], [], [], [], [], [], [], [], [3, 5, 6, 8]⟩
theorem c5 (x : List Rl) (ifs : List (List AV)) (roots : List Rq) (l : List Nf) (s : List Sl) (L : Lim x roots) (hs : s.length ≤ 1048576) : PC 5 [ixV x ifs, sl encRq roots, sl encNf l, sl encSl s] (vb true) := by
  have h11 := L.c11 ifs
  have hsf : Few s := by unfold Few; omega
  have h12 := c12 x ifs roots l (L.ck ifs)
  have h15 := c15 x ifs roots l (L.ck ifs)
  refine pcall_sub (cxp pl5) rfl tab_ok hm rfl Tryz.func5 (by kernel_rfl) rfl (Nz rfl) (by kernel_rfl) ?_
  refine Xi .pure (Xi _ (Yi (c10) ?_))
  refine Xi ⟨[(1, sl encRq roots), (2, sl encNf l), (4, .ref 4 0), (7, .ref 7 0)], [(4, .cells [sl encRl x, .slice .none ifs]), (7, .ro [sl encSl s])], hfree⟩ (Yi ?_ ?_)
  · exact ⟨⟨Zr, Zr, Zr, Zr, trivial⟩, ⟨Zr, Zr, trivial⟩, fun _ => .inl rfl, trivial⟩
  refine Yi (Nz rfl) ?_
  refine Or.elim (Bool.eq_false_or_eq_true (smallX x 16 && smallQs roots)).symm (fun h1 => ?_) (fun h1 => ?_)
  · rw [h1] at h11
    refine Xi .pure (Xi _ (Yi (h11) ?_))
    exact .refl _
  rw [h1] at h11
  refine Xi .pure (Xi _ (Yi (h11) ?_))
  refine Yi (fun _ => ?_) (fun h2 => ?_)
  · exact .refl _
  refine Yi (fun _ => ?_) (fun h3 => ?_)
  · exact .refl _
  have h3 : ¬ (16 : Int) < (s.map encSl).length := h3
  have h3 : s.length ≤ 16 := by rw [List.length_map] at h3; omega
  have h23 := c23 x ifs roots s (L.c84 ifs) (L.c45 ifs h1 s (by omega)) L.x hsf
  refine Yi (Nz rfl) ?_
  refine Or.elim (Bool.eq_false_or_eq_true (availableB x roots s)).symm (fun h4 => ?_) (fun h4 => ?_)
  · rw [h4] at h23
    refine Xi .pure (Xi _ (Yi (h23) ?_))
    exact .refl _
  rw [h4] at h23
  refine Xi .pure (Xi _ (Yi (h23) ?_))
  have h4 : availableB x roots s = true := h4
  have h41 : solvesP x roots s = 0 ∧ s.any (goneB x) = false := by
    unfold availableB at h4
    simp only [Bool.and_eq_true, decide_eq_true_eq, Bool.not_eq_true'] at h4
    exact h4
  refine Xi ⟨[(1, sl encRq roots), (2, sl encNf l), (4, .ref 4 0), (7, .ref 7 0)], [(4, .cells [sl encRl x, .slice .none ifs]), (7, .ro [sl encSl s])], hfree⟩ (Yi ?_ ?_)
  · exact ⟨⟨Zr, Zr, Zr, Zr, trivial⟩, ⟨Zr, Zr, trivial⟩, fun _ => .inl rfl, trivial⟩
  refine Yi (Nz rfl) ?_
  refine Xi .pure (Xi _ (Yi (h12) ?_))
  refine Xi ⟨[(1, sl encRq roots), (2, sl encNf l), (4, .ref 4 0), (7, .ref 7 0), (9, sl encInc (deriveP x roots l).1), (10, vi (deriveP x roots l).2)], [(4, .cells [sl encRl x, .slice .none ifs]), (7, .ro [sl encSl s])], hfree⟩ (Yi ?_ ?_)
  · exact ⟨⟨Zr, Zr, Zr, Zr, Zr, Zr, trivial⟩, ⟨Zr, Zr, trivial⟩, fun _ => .inl rfl, trivial⟩
  refine Yi (fun h5 => ?_) (fun h5 => ?_)
  · have h5 : (deriveP x roots l).2 ≠ 0 := h5
    have h6 : (deriveP x roots l).1 = [] := deriveP_err h5
    refine Yi (fun _ => ?_) (fun h7 => ?_)
    · exact .refl _
    · have h7 : ¬ (((deriveP x roots l).1.map encInc).length : Int) = 0 := h7
      exact absurd (by rw [h6]; rfl) h7
  have h5 : ¬ (deriveP x roots l).2 ≠ 0 := h5
  have h5 : (deriveP x roots l).2 = 0 := Classical.not_not.1 h5
  have law := law_sound h41.1 h41.2 h5
  have hdf := derived_few h5
  have h24 := c24 (fF := 25) (caps := [.cptr [sl encSl s]]) (fun c hc => by
    obtain rfl := List.mem_singleton.1 hc
    intro h; rfl) (deriveP x roots l).1 (fun y => violated y s) (fun y hy => c25 y s (hdf y hy) hsf) (by have := derive_few (x := x) (roots := roots) (l := l); unfold Few; omega)
  rw [law.1] at h24
  rw [law.2] at h15
  refine Xi ⟨[(1, sl encRq roots), (2, sl encNf l), (4, .ref 4 0), (7, .ref 7 0), (9, sl encInc (deriveP x roots l).1)], [(4, .cells [sl encRl x, .slice .none ifs]), (7, .ro [sl encSl s])], hfree⟩ (Yi ?_ ?_)
  · exact ⟨⟨Zr, Zr, Zr, Zr, Zr, trivial⟩, ⟨Zr, Zr, trivial⟩, fun _ => .inl rfl, trivial⟩
  refine Xi .pure (Xi _ (Yi (h24) ?_))
  refine Yi (Nz rfl) ?_
  refine Xi .pure (Xi _ (Yi (h15) ?_))
  refine Yi (fun _ => ?_) (fun h => absurd rfl h)
  exact .refl _
end Go.Eng

namespace Go.Proofs.YtodcmjcogdcmlaaGreatDoor.joins
open Go Go.Eng Go.Proofs Go.ChangeShapes Go.WideShapes Go.ChangeAt Go.RowKit
abbrev args5 : Array Value := #[.agg #[nilV, nilV], nilV, nilV, nilV]
theorem laid_met5 (os : Os) : laidMet Tryz.prog Rows.proofSoundUptoRow.laid ((laidWorld os).forCall (fun _ _ => 0) ⟨#[], args5, []⟩).memory :=
  laidMet_of_run' 8 (by as_aux_lemma => kernel_rfl) (by as_aux_lemma => kernel_rfl)
theorem reads5 (os : Os) {H : Type} (enc : TypeId × Value → H) : ∃ places, DataW.whole enc Tryz.prog ((laidWorld os).forCall (fun _ _ => 0) ⟨#[], args5, []⟩).memory Tryz.f5.params.toList Rows.proofSoundSpec.vars false args5.toList 8 =
    some ([.agg [.nil, .nil], .nil, .nil, .nil], [], places) :=
  ⟨[], by kernel_rfl⟩
set_option maxRecDepth 100000 in
theorem contract5 (H : Type) (enc : TypeId × Value → H) (W : World) (base : Nat) (args : Array Value) (ds gs : List (DataW H)) (before : List MemPlace)
    (hval : ∀ (j : Nat) t v, Tryz.f5.params[j]? = some t → args[j]? = some v → Value.okWide Tryz.prog W .any base t v)
    (hW : DataW.Whole enc Tryz.prog Tryz.f5.params.toList Rows.proofSoundSpec.vars false W args.toList ds gs before) (hk : Rows.uptoSmall H (ds ++ gs) = true) (hM : ∃ m, W.cell? ⟨0, 0, none⟩ = some (.int .i64 m)) :
    Calls Tryz.prog 5 args W fun e W' => ∃ v, e = .returned v ∧ Rows.proofSoundSpec.post enc Tryz.prog Tryz.f5 false true false false W args v W' := by
  have hW' := hW
  obtain ⟨p, q, hA0, hV, rfl, hfz, hnd⟩ := hW
  have hA : DataW.TrodAll enc Tryz.prog W 0 (fun _ => true) true Tryz.f5.params.toList args.toList ds p := hA0
  rw [Tryz.params5] at hA hval
  obtain ⟨v0, vs0, d0, ds0, p0, q0, hargs, rfl, rfl, h0, r0⟩ := trodAll_cons hA
  obtain ⟨v1, vs1, d1, ds1, p1, q1, rfl, rfl, rfl, h1, r1⟩ := trodAll_cons r0
  obtain ⟨v2, vs2, d2, ds2, p2, q2, rfl, rfl, rfl, h2, r2⟩ := trodAll_cons r1
  obtain ⟨v3, vs3, d3, ds3, p3, q3, rfl, rfl, rfl, h3, r3⟩ := trodAll_cons r2
  obtain ⟨rfl, rfl, rfl⟩ := trodAll_nil r3
  have eargs : args = #[v0, v1, v2, v3] := arr4 hargs
  subst eargs
  obtain ⟨rfl, rfl⟩ := trodVars_none hV
  have hb : Rows.uptoBulkAll ([d0, d1, d2, d3] : List (DataW H)) ≤ 1048576 := by
    rw [List.append_nil] at hk
    exact of_decide_eq_true hk
  have bd : ∀ d ∈ ([d0, d1, d2, d3] : List (DataW H)), Rows.uptoBulk d ≤ NB := fun d hd => Nat.le_trans (all_le hd) hb
  obtain ⟨c0, rfl⟩ := ok_agg Tryz.underlying25 (hval 0 25 v0 rfl rfl)
  have hv1 := ok_slice Tryz.underlying26 (hval 1 26 v1 rfl rfl)
  have hv2 := ok_slice Tryz.underlying27 (hval 2 27 v2 rfl rfl)
  have hv3 := ok_slice Tryz.underlying37 (hval 3 37 v3 rfl rfl)
  obtain ⟨x0, R0, K0⟩ := open_agg oIx h0 (bd _ (by simp))
  obtain ⟨x1, R1, K1⟩ := open_one (e := fun l : List Rq => sl encRq l) oRqs hv1 h1 (bd _ (by simp))
  obtain ⟨x2, R2, K2⟩ := open_one (e := fun l : List Nf => sl encNf l) oNfs hv2 h2 (bd _ (by simp))
  obtain ⟨x3, R3, K3⟩ := open_one (e := fun l : List Sl => sl encSl l) oSls hv3 h3 (bd _ (by simp))
  have hc : PC 5 [ixV x0.1 x0.2, sl encRq x1, sl encNf x2, sl encSl x3] (vb true) := c5 x0.1 x0.2 x1 x2 x3 (lim_of K0 K1) K3.1
  refine (run_true (vals := #[.agg c0, v1, v2, v3]) hc hM rfl (fun i av y e1 e2 => ?_)).mono fun e W' ⟨he, hs⟩ => ⟨_, he, post_true hs rfl (by simpa using hW') rfl (by rw [Tryz.params5]; decide +kernel) rfl⟩
  match i with
  | 0 => cases e1; cases e2; exact R0
  | 1 => cases e1; cases e2; exact R1
  | 2 => cases e1; cases e2; exact R2
  | 3 => cases e1; cases e2; exact R3
  | _ + 4 => simp at e1
set_option maxRecDepth 100000 in
theorem lifted5 (os : Os) (started : os.Started) (H : Type) (enc : TypeId × Value → H) (F : Stop.Interp) :
    ReturnsInHanded {} Tryz.checked os 5 .any ((Rows.OpenSpec.upto Rows.proofSoundSpec).preRow enc Tryz.prog Tryz.f5 Rows.proofSoundUptoRow.domain false Rows.proofSoundUptoRow.laid) (((Rows.OpenSpec.upto Rows.proofSoundSpec).at F).post enc Tryz.prog Tryz.f5 false true false false) := by
  obtain ⟨places, hx⟩ := reads5 os enc
  refine returnsInHanded_of_row (C := Tryz.checked) (s := Rows.OpenSpec.upto Rows.proofSoundSpec) own started (by as_aux_lemma => kernel_rfl) Tryz.func5
    (witness_row_at (enc := enc) (C := Tryz.checked) false (laidWorld os) args5 rfl (by as_aux_lemma => kernel_rfl) (by as_aux_lemma => kernel_rfl) (by as_aux_lemma => kernel_rfl)
      (OpenSpec.preRow_of_cond 8 hx (by as_aux_lemma => kernel_rfl) (fun k hk => by cases hk; as_aux_lemma => kernel_rfl) (by as_aux_lemma => kernel_rfl) (laid_met5 os))) ?_
  intro W base args ds gs before hval hW _ hcond _ _ hsh _
  exact contract5 H enc W base args ds gs before hval hW (hcond _ rfl) (maxLen_cell hsh)
theorem and_mk {a b : Bool} (h : a = true) (k : b = true) : (a && b) = true := by rw [h, k]; rfl
set_option maxHeartbeats 4000000 in
theorem closed : joinedFacts Tryz.pinned.checked.prog 5 Tryz.f5 (Rows.OpenSpec.upto Rows.proofSoundSpec).bare Rows.proofSoundUptoRow = true := by
  unfold joinedFacts
  repeat' with_reducible refine and_mk ?_ ?_
  all_goals (as_aux_lemma => kernel_rfl)
theorem said5 : Rows.ProofSoundUptoSaid :=
  OpenClaim.holds_of_cond 5 Tryz.f5 rfl rfl rfl rfl rfl rfl rfl ⟨rfl, rfl, rfl, rfl, rfl⟩ rfl rfl rfl rfl rfl (by as_aux_lemma => kernel_rfl) Tryz.func5 closed
    (of_decide_eq_true (by as_aux_lemma => kernel_rfl)) (by unfold Func.isWrapper; first | (rw [if_pos (by decide +kernel)]; kernel_rfl) | (rw [if_neg (by decide +kernel)]; exact ⟨rfl, rfl⟩))
    (fun os started H enc _ F => by rw [OpenClaim.pre_eq_preRow]; exact lifted5 os started H enc F)
theorem plain5 (f : FuncId) (fn : Func) (hf : Tryz.pinned.checked.prog.funcNamed "modcert/modcertlaw36.ProofSound" = some f) (hfn : Tryz.pinned.checked.prog.funcs[f]? = some fn) :
    false = Tryz.pinned.checked.prog.looks [] ∧ ∀ (j : Nat) t, fn.params[j]? = some t → Tryz.pinned.checked.prog.wantsStandIn t = false := by
  obtain rfl : f = 5 := Option.some.inj ((show Tryz.prog.funcNamed "modcert/modcertlaw36.ProofSound" = some 5 by kernel_rfl).symm.trans hf) |>.symm
  obtain rfl : fn = Tryz.f5 := (Option.some.inj (Tryz.func5.symm.trans hfn)).symm
  refine ⟨looksOff, fun j t ht => noStand t ?_⟩
  rw [Tryz.params5] at ht
  have hm : t ∈ #[25, 26, 27, 37] := Array.mem_of_getElem? ht
  exact (show ∀ t ∈ ([25, 26, 27, 37] : List Nat), t ∈ ([25, 26, 27, 37, 40, 63, 5, 57] : List Nat) by decide) t (by simpa using hm)
theorem card5 : Rows.ProofSoundUptoCardSaid :=
  Claim7.holds_tied_plain_at .later [] _ _ _ _ said5 (fun _ h => by cases h) (by kernel_rfl) (fun _ h => by cases h) proofSoundUpto_row_tie rfl ⟨rfl, rfl⟩ (by kernel_rfl) rfl plain5 (by kernel_rfl)
end Go.Proofs.YtodcmjcogdcmlaaGreatDoor.joins
