/- Lemmas for the claims of this seat, without a condition: part 23 (C58, C59, C70, C71, C72, C73). -/
import Derived.Test.YtodcmjcogdcmlaaGreatDoorA22
namespace Go.Eng
open Go.Proofs
abbrev nilA : AV := .v (.slice none 0 0)
abbrev exR : List (List AV) := [[vs exA, vi 1, vi 0, vi 0, sl encRq [⟨exB, [(2000, 1000000)]⟩], vs mt, vs mt, vs mt, vb false], [vs exB, vi 1, vi 0, vi 0, nilA, vs mt, vs mt, vs mt, vb false], [vs exB, vi 1, vi 1, vi 0, nilA, vs mt, vs mt, vs mt, vb false]]
theorem subR (p : ByteArray) (a b c : Int) : SubL [vs p, vi a, vi b, vi c, nilA, vs mt, vs mt, vs mt, vb false] [vs p, vi a, vi b, vi c, .slice .none [], vs mt, vs mt, vs mt, vb false] :=
 ⟨.refl _, .refl _, .refl _, .refl _, .nil, .refl _, .refl _, .refl _, .refl _, trivial⟩
theorem subX : SubE exR (exIx.map encRl) := ⟨SubL.refl _, subR exB 1 0 0, subR exB 1 1 0, trivial⟩
theorem subI : Sub (.agg [.slice .none exR, nilA]) (ixV exIx []) := Sub.agg ⟨Sub.slice subX, .nil, trivial⟩
theorem subE3 : Sub (.tup [.agg [.slice .none exR, nilA], sl encRq exRoots, sl encNf exInf]) (.tup [ixV exIx [], sl encRq exRoots, sl encNf exInf]) := Sub.tup ⟨subI, .refl _, .refl _, trivial⟩
theorem c33 : PC 33 [] (.tup [ixV exIx [], sl encRq exRoots, sl encNf exInf]) := by
 refine pcall_sub (cxp pl0) rfl tab_ok hm rfl Tryz.func33 (by kernel_rfl) rfl (Nz rfl) (by kernel_rfl) ?_
 refine Yi (Nz rfl) (Yi (Nz rfl) (Yi (Nz rfl) (Yi (Nz rfl) (Yi (Nz rfl) (Yi (Nz rfl) (Yi (Nz rfl) ?_))))))
 exact subE3
end Go.Eng

namespace Go.Eng
open Go.Proofs
abbrev H45 (x : List Rl) (ifs : List (List AV)) (roots : List Rq) (s : List Sl) : Prop := PC 45 [ixV x ifs, sl encRq roots, sl encSl s] (vi (solvesP x roots s))
end Go.Eng

namespace Go.Eng
open Go.Proofs
theorem deriveGo_in {x : List Rl} {roots : List Rq} {l0 : List Nf} : ∀ (l : List Nf) (d d' : List (List Tm)), (∀ i ∈ l, i ∈ l0) → (∀ t ∈ d, InU (pathsU x roots l0) t) → deriveGo x roots l d = some d' → ∀ t ∈ d', InU (pathsU x roots l0) t
 | [], d, d', _, hd, h => by
  have : d = d' := Option.some.inj h
  exact this ▸ hd
 | i :: l, d, d', hi, hd, h => by
  unfold deriveGo at h
  cases e : inferP x roots d i with
  | none => rw [e] at h; cases h
  | some t =>
   rw [e] at h
   refine deriveGo_in l (d ++ [t]) d' (fun j hj => hi j (List.mem_cons_of_mem _ hj)) (fun u hu => ?_) h
   rcases List.mem_append.1 hu with hu | hu
   ·exact hd u hu
   ·rw [List.mem_singleton.1 hu]; exact inferP_in (hi i (List.mem_cons_self ..)) hd e
theorem derived_few {x : List Rl} {roots : List Rq} {l : List Nf} (h : (deriveP x roots l).2 = 0) : ∀ t ∈ (deriveP x roots l).1, FewT t := fun t ht => by
 obtain ⟨h1, h2, h3, h4⟩ := deriveP_ok h
 have := (deriveGo_in (l0 := l) l [] _ (fun _ h => h) (fun _ h => by cases h) h4 t ht).fewI (pathsU_few h1 h2 h3)
 exact ⟨by have := this.1; unfold Few; omega, this.2⟩
theorem fold_out (l : List Vis) (a : List ByteArray) : l.foldl outStep a = a ++ l.map (fun v => v.rel.path) := by
 induction l generalizing a with
 | nil => simp
 | cons v l ih => rw [List.foldl_cons, ih, List.map_cons]; simp [outStep]
abbrev pl18 : Pol := ⟨[], [], [], [], [], [], [], [(24, (10, 0, 900, 1))], [], [], [4, 5, 7]⟩
abbrev decV (p : List ByteArray × Int) : AV := .tup [sl encStr1 p.1, vi p.2]
theorem nilD (e : Int) : Sub (.tup [.v (.slice none 0 0), vi e]) (decV ([], e)) := Sub.tup ⟨.nil, .refl _, trivial⟩
theorem c18 (x : List Rl) (ifs : List (List AV)) (roots : List Rq) (s : List Sl) (h84 : H84 x ifs) (hx : ∀ r ∈ x, FewR r) (hr : ∀ q ∈ roots, FewQ q) (hs : s.length ≤ 500) : PC 18 [ixV x ifs, sl encRq roots, sl encSl s] (decV (decisionsP x roots s)) := by
 have hsf : Few s := by unfold Few; omega
 have hc36 : PC 36 [ixV x ifs, sl encRq roots, .v (.slice none 0 0)] (ckRes x ifs roots []) := (c36 x ifs roots [] hx hr (fun _ => c165 x ifs roots h84)).args ⟨.refl _, .refl _, .nil, trivial⟩
 have hc41 := c41 s hsf
 obtain ⟨D, hD⟩ : ∃ D, D = decisionsP x roots s := ⟨_, rfl⟩
 rw [← hD]
 unfold decisionsP at hD
 by_cases h0 : checkIx x ≠ 0 ∨ checkRqs roots ≠ 0
 ·have e : deriveP x roots [] = ([], 1) := by unfold deriveP; rw [if_pos h0]
  have hD : D = ([], 1) := by rw [hD, if_pos (h0.elim .inl (fun h => .inr (.inl h)))]
  rw [← ckRes_err e (by decide)] at hc36
  refine pcall_sub (cxp pl18) rfl tab_ok hm rfl Tryz.func18 (by kernel_rfl) rfl (Nz rfl) (by kernel_rfl) ?_
  refine Yi (Nz rfl) ?_
  refine Xi .pure (Xi _ (Yi (hc36) ?_))
  refine Yi ?_ ?_
  ·intro _
   exact (nilD 1).trans (.of_eq (by rw [hD]))
  ·intro h; exact absurd (show (1 : Int) ≠ 0 by decide) h
 ·have e : deriveP x roots [] = ([], 0) := by unfold deriveP; rw [if_neg h0]; rfl
  have h1 : checkIx x = 0 := Classical.not_not.1 fun h => h0 (.inl h)
  have h2 : checkRqs roots = 0 := Classical.not_not.1 fun h => h0 (.inr h)
  rw [← ckRes_ok e] at hc36
  cases hi : increasing s with
  | false =>
   have hD : D = ([], 1) := by rw [hD, if_pos (.inr (.inr hi))]
   rw [hi] at hc41
   refine pcall_sub (cxp pl18) rfl tab_ok hm rfl Tryz.func18 (by kernel_rfl) rfl (Nz rfl) (by kernel_rfl) ?_
   refine Yi (Nz rfl) ?_
   refine Xi .pure (Xi _ (Yi (hc36) ?_))
   refine Yi ?_ ?_
   ·intro h; exact absurd rfl h
   intro _
   refine Xi .pure (Xi _ (Yi (hc41) ?_))
   exact (nilD 1).trans (.of_eq (by rw [hD]))
  | true =>
   have hD : D = if (visits x roots s).2 then ((visits x roots s).1.map fun v => v.rel.path, 0) else ([], 6) := by
    rw [hD, if_neg (fun h => h.elim (fun h => h0 (.inl h)) (fun h => h.elim (fun h => h0 (.inr h)) (fun h => by rw [hi] at h; cases h)))]
   rw [hi] at hc41
   have hcd := c42d x ifs roots [] s [] h84 h1 hx (by have := reqs_few h2; omega) (fun q hq => (hr q hq).1) hs rfl
   have hf : (visits x roots s).1.foldl outStep [] = (visits x roots s).1.map (fun v => v.rel.path) := by rw [fold_out]; rfl
   rw [hf] at hcd
   refine pcall_sub (cxp pl18) rfl tab_ok hm rfl Tryz.func18 (by kernel_rfl) rfl (Nz rfl) (by kernel_rfl) ?_
   refine Yi (Nz rfl) ?_
   refine Xi .pure (Xi _ (Yi (hc36) ?_))
   refine Yi ?_ ?_
   ·intro h; exact absurd rfl h
   intro _
   refine Xi .pure (Xi _ (Yi (hc41) ?_))
   refine Xi ⟨[(2, sl encSl s), (8, .cptr (encCk x (.slice .none ifs) roots []))], [], hfree⟩ (Yi ?_ ?_)
   ·exact ⟨⟨Zr, Zr, Tv⟩, Tv, Fh, Tv⟩
   refine Xi ⟨[(2, sl encSl s), (8, .cptr (encCk x (.slice .none ifs) roots [])), (10, .ref 10 0)], [(10, .cells [.v (.slice none 0 0)])], hfree⟩ (Yi ?_ ?_)
   ·exact ⟨⟨Zr, Zr, Zr, Tv⟩, ⟨Zr, Tv⟩, Fh, Tv⟩
   refine Xi (.gen [(10, 1000), (900, 1001)] 0) (Yi rfl (hcd.imp ?_))
   intro v g q
   have q1 := q.1
   have q2 := q.2
   refine Or.elim (Bool.eq_false_or_eq_true (visits x roots s).2) (fun hv => ?_) (fun hv => ?_)
   ·rw [hv] at q1 hD
    subst q1
    subst q2
    refine Xi ⟨[(10, .ref 10 0)], [(10, .cells [.slice (.id 900 1) (((visits x roots s).1.map (fun v => v.rel.path)).map encStr1)]), (900, .tok 1 (((visits x roots s).1.map (fun v => v.rel.path)).map encStr1).length)], hfree⟩ (Yi ?_ ?_)
    ·exact ⟨⟨Zr, Tv⟩, ⟨Zr, Zr, Tv⟩, Fh, Tv⟩
    exact .of_eq (show decV ((visits x roots s).1.map (fun v => v.rel.path), 0) = decV D by rw [hD]; rfl)
   ·rw [hv] at q1 hD
    subst q1
    subst q2
    exact (nilD 6).trans (.of_eq (show decV ([], 6) = decV D by rw [hD]; rfl))
abbrev pl21 : Pol := ⟨[7], [], [], [], [], [], [], [], [], [], [2, 4, 8, 10, 11, 12, 13]⟩
theorem c21 (x : List Rl) (ifs : List (List AV)) (roots : List Rq) (a : An) (h84 : H84 x ifs) (h45 : H45 x ifs roots a.sel) (hx : ∀ r ∈ x, FewR r) (hr : ∀ q ∈ roots, FewQ q) (hs : a.sel.length ≤ 500) (hk : Few a.skips) : PC 21 [ixV x ifs, sl encRq roots, .agg (encAn a)] (vi (checkP x roots a)) := by
 obtain ⟨found, sel, infs, skips⟩ := a
 have hs : sel.length ≤ 500 := hs
 have hc36 := c36 x ifs roots infs hx hr (fun _ => c165 x ifs roots h84)
 unfold ckRes at hc36
 obtain ⟨D, hD⟩ : ∃ D, D = checkP x roots ⟨found, sel, infs, skips⟩ := ⟨_, rfl⟩
 rw [← hD]
 unfold checkP at hD
 by_cases he : (deriveP x roots infs).2 = 0
 ·rw [if_pos he] at hc36
  rw [if_neg (by rw [he]; decide)] at hD
  obtain ⟨h1, h2, h3, h4⟩ := deriveP_ok he
  have hdf := derived_few he
  have hdl : (deriveP x roots infs).1.length ≤ 65536 := derive_few
  obtain ⟨d, hd⟩ : ∃ d, d = (deriveP x roots infs).1 := ⟨_, rfl⟩
  rw [← hd] at hD hc36 hdf hdl
  have hc40 := c40 x (.slice .none ifs) roots d (by unfold Few; omega)
  refine pcall_sub (cxp pl21) rfl tab_ok hm rfl Tryz.func21 (by kernel_rfl) rfl (Nz rfl) (by kernel_rfl) ?_
  refine Yi (Nz rfl) ?_
  refine Xi .pure (Xi _ (Yi (hc36) ?_))
  refine Yi (Nz rfl) ?_
  refine Xi ⟨[(1, sl encRq roots), (3, .ref 3 0), (5, .ref 5 0), (7, .ref 7 0), (8, vi 0)], [(3, .cells [sl encRl x, .slice .none ifs]), (5, .cells [vb found, sl encSl sel, sl encNf infs, sl encSk skips]), (7, .ro [.cptr (encCk x (.slice .none ifs) roots d)])], hfree⟩ (Yi ?_ ?_)
  ·exact ⟨⟨Zr, Zr, Zr, Zr, Zr, Tv⟩, ⟨Zr, Zr, Zr, Tv⟩, Fh, Tv⟩
  refine Yi ?_ ?_
  ·intro h; exact absurd rfl h
  intro _
  refine Xi ⟨[(1, sl encRq roots), (3, .ref 3 0), (5, .ref 5 0), (7, .ref 7 0)], [(3, .cells [sl encRl x, .slice .none ifs]), (5, .cells [vb found, sl encSl sel, sl encNf infs, sl encSk skips]), (7, .ro [.cptr (encCk x (.slice .none ifs) roots d)])], hfree⟩ (Yi ?_ ?_)
  ·exact ⟨⟨Zr, Zr, Zr, Zr, Tv⟩, ⟨Zr, Zr, Zr, Tv⟩, Fh, Tv⟩
  refine Yi ?_ ?_
  ·intro hf
   have hf : found = true := hf
   have hD : D = if solvesP x roots sel ≠ 0 then 18 else if (((visits x roots sel).1.foldl (skipStep x d) (true, skips)).1 && ((visits x roots sel).1.foldl (skipStep x d) (true, skips)).2.isEmpty) then 0 else 18 := by
    rw [hD, if_neg (by show ¬ found = false; rw [hf]; decide)]
   refine Xi ⟨[(1, sl encRq roots), (3, .ref 3 0), (5, .ref 5 0), (7, .ref 7 0)], [(3, .cells [sl encRl x, .slice .none ifs]), (5, .cells [vb found, sl encSl sel, sl encNf infs, sl encSk skips]), (7, .ro [.cptr (encCk x (.slice .none ifs) roots d)])], hfree⟩ (Yi ?_ ?_)
   ·exact ⟨⟨Zr, Zr, Zr, Zr, Tv⟩, ⟨Zr, Zr, Zr, Tv⟩, Fh, Tv⟩
   refine Yi (Nz rfl) ?_
   refine Xi .pure (Xi _ (Yi (h45) ?_))
   refine Yi ?_ ?_
   ·intro hz
    have hz : solvesP x roots sel ≠ 0 := hz
    exact .of_eq (congrArg vi (show (18 : Int) = D by rw [hD, if_pos hz]))
   intro hz
   have hz : ¬ solvesP x roots sel ≠ 0 := hz
   have hD : D = if (((visits x roots sel).1.foldl (skipStep x d) (true, skips)).1 && ((visits x roots sel).1.foldl (skipStep x d) (true, skips)).2.isEmpty) then 0 else 18 := by rw [hD, if_neg hz]
   have hcd := c42c x ifs roots d sel (true, skips) h84 h1 hx (by have := reqs_few h2; omega) (fun q hq => (hr q hq).1) hs hdl hdf
   refine Xi ⟨[(5, .ref 5 0), (7, .ref 7 0)], [(5, .cells [vb found, sl encSl sel, sl encNf infs, sl encSk skips]), (7, .ro [.cptr (encCk x (.slice .none ifs) roots d)])], hfree⟩ (Yi ?_ ?_)
   ·exact ⟨⟨Zr, Zr, Tv⟩, ⟨Zr, Zr, Tv⟩, Fh, Tv⟩
   refine Yi (Nz rfl) ?_
   refine Xi ⟨[(5, .ref 5 0), (7, .ref 7 0), (9, .ref 9 0)], [(5, .cells [vb found, sl encSl sel, sl encNf infs, sl encSk skips]), (7, .ro [.cptr (encCk x (.slice .none ifs) roots d)]), (9, .cells [vb true])], hfree⟩ (Yi ?_ ?_)
   ·exact ⟨⟨Zr, Zr, Zr, Tv⟩, ⟨Zr, Zr, Zr, Tv⟩, Fh, Tv⟩
   refine Yi (Nz rfl) ?_
   refine Xi ⟨[(5, .ref 5 0), (7, .ref 7 0), (9, .ref 9 0), (10, .ref 10 0)], [(5, .cells [vb found, sl encSl sel, sl encNf infs, sl encSk skips]), (7, .ro [.cptr (encCk x (.slice .none ifs) roots d)]), (9, .cells [vb true]), (10, .cells [sl encSk skips])], hfree⟩ (Yi ?_ ?_)
   ·exact ⟨⟨Zr, Zr, Zr, Zr, Tv⟩, ⟨Zr, Zr, Zr, Zr, Tv⟩, Fh, Tv⟩
   refine Xi (.gen [(10, 1000), (9, 1001)] 0) (Yi rfl (hcd.imp ?_))
   intro v g q
   have q1 := q.1
   have q2 := q.2
   subst q1
   subst q2
   refine Exists.elim (show ∃ A, A = (visits x roots sel).1.foldl (skipStep x d) (true, skips) from ⟨_, rfl⟩) (fun A hA => ?_)
   refine Xi ⟨[(9, .ref 9 0), (10, .ref 10 0)], [(9, .cells [vb A.1]), (10, .cells [sl encSk A.2])], hfree⟩ (Yi ?_ ?_)
   ·exact ⟨⟨Zr, Zr, Tv⟩, ⟨⟨congrArg (fun a : Bool × List Sk => HO.cells [vb a.1]) hA.symm, rfl⟩, ⟨congrArg (fun a : Bool × List Sk => HO.cells [sl encSk a.2]) hA.symm, rfl⟩, Tv⟩, Fh, Tv⟩
   rw [← hA] at hD
   refine Yi ?_ ?_
   ·intro h5
    have h5 : A.1 = true := h5
    refine Yi ?_ ?_
    ·intro h6
     have h6 : (0 : Int) < (A.2.map encSk).length := h6
     have h6 : A.2.isEmpty = false := by
      cases e : A.2 with
      | nil => rw [e] at h6; exact absurd h6 (by decide)
      | cons _ _ => rfl
     exact .of_eq (congrArg vi (show (18 : Int) = D by rw [hD, h5, h6]; rfl))
    ·intro h6
     have h6 : ¬ (0 : Int) < (A.2.map encSk).length := h6
     have h6 : A.2.isEmpty = true := by
      cases e : A.2 with
      | nil => rfl
      | cons _ _ => rw [e] at h6; exact absurd (by rw [List.map_cons, List.length_cons]; omega) h6
     exact .of_eq (congrArg vi (show (0 : Int) = D by rw [hD, h5, h6]; rfl))
   ·intro h5
    have h5 : A.1 = false := h5
    exact .of_eq (congrArg vi (show (18 : Int) = D by rw [hD, h5]; rfl))
  ·intro hf
   have hf : found = false := hf
   have hD : D = if (!sel.isEmpty || !skips.isEmpty || !refutedB d) then 18 else 0 := by
    rw [hD, if_pos hf]
   refine Yi ?_ ?_
   ·intro h5
    have h5 : (0 : Int) < (sel.map encSl).length := h5
    have h5 : sel.isEmpty = false := by
     cases e : sel with
     | nil => rw [e] at h5; exact absurd h5 (by decide)
     | cons _ _ => rfl
    exact .of_eq (congrArg vi (show (18 : Int) = D by rw [hD, h5]; rfl))
   intro h5
   have h5 : ¬ (0 : Int) < (sel.map encSl).length := h5
   have h5 : sel.isEmpty = true := by
    cases e : sel with
    | nil => rfl
    | cons _ _ => rw [e] at h5; exact absurd (by rw [List.map_cons, List.length_cons]; omega) h5
   refine Yi ?_ ?_
   ·intro h6
    have h6 : (0 : Int) < (skips.map encSk).length := h6
    have h6 : skips.isEmpty = false := by
     cases e : skips with
     | nil => rw [e] at h6; exact absurd h6 (by decide)
     | cons _ _ => rfl
    exact .of_eq (congrArg vi (show (18 : Int) = D by rw [hD, h5, h6]; rfl))
   intro h6
   have h6 : ¬ (0 : Int) < (skips.map encSk).length := h6
   have h6 : skips.isEmpty = true := by
    cases e : skips with
    | nil => rfl
    | cons _ _ => rw [e] at h6; exact absurd (by rw [List.map_cons, List.length_cons]; omega) h6
   refine Or.elim (Bool.eq_false_or_eq_true (refutedB d)) (fun h7 => ?_) (fun h7 => ?_)
   ·rw [h7] at hc40
    refine Xi .pure (Xi _ (Yi (hc40) ?_))
    exact .of_eq (congrArg vi (show (0 : Int) = D by rw [hD, h5, h6, h7]; rfl))
   ·rw [h7] at hc40
    refine Xi .pure (Xi _ (Yi (hc40) ?_))
    exact .of_eq (congrArg vi (show (18 : Int) = D by rw [hD, h5, h6, h7]; rfl))
 ·rw [if_neg he] at hc36
  rw [if_pos he] at hD
  refine pcall_sub (cxp pl21) rfl tab_ok hm rfl Tryz.func21 (by kernel_rfl) rfl (Nz rfl) (by kernel_rfl) ?_
  refine Yi (Nz rfl) ?_
  refine Xi .pure (Xi _ (Yi (hc36) ?_))
  refine Yi (Nz rfl) ?_
  refine Xi ⟨[(8, vi (deriveP x roots infs).2)], [], hfree⟩ (Yi ?_ ?_)
  ·exact ⟨⟨Zr, Tv⟩, Tv, Fh, Tv⟩
  refine Yi ?_ ?_
  ·intro _
   exact .of_eq (congrArg vi hD.symm)
  ·intro h; exact absurd he h
end Go.Eng

namespace Go.Eng
open Go.Proofs
def potL (d : List ByteArray) : List Rl → Nat
 | [] => 0
 | r :: l => (if d.any (fun p => decide (p = r.path)) then 0 else r.reqs.length) + potL d l
theorem potL_le (d : List ByteArray) (p : ByteArray) : ∀ l : List Rl, potL (d ++ [p]) l ≤ potL d l
 | [] => Nat.le_refl _
 | r :: l => by
  have ih := potL_le d p l
  unfold potL
  rw [List.any_append]
  cases d.any (fun p => decide (p = r.path)) with
  | true => simpa using ih
  | false =>
   simp only [Bool.false_or, Bool.false_eq_true, if_false]
   split <;> omega
theorem potL_next (d : List ByteArray) (p : ByteArray) (hp : d.any (fun q => decide (q = p)) = false) : ∀ l : List Rl, potL (d ++ [p]) l + (reqsOf l p).length ≤ potL d l
 | [] => by simp [potL, reqsOf]
 | r :: l => by
  by_cases hr : r.path = p
  ·have e : reqsOf (r :: l) p = r.reqs := by unfold reqsOf; rw [List.find?_cons]; simp [hr]
   rw [e]
   unfold potL
   rw [List.any_append, hr, hp]
   have := potL_le d p l
   simp
   omega
  ·have e : reqsOf (r :: l) p = reqsOf l p := by unfold reqsOf; rw [List.find?_cons]; simp [hr]
   rw [e]
   have ih := potL_next d p hp l
   unfold potL
   rw [List.any_append]
   have e2 : ([p].any fun q => decide (q = r.path)) = false := by simp; exact fun h => hr h.symm
   rw [e2, Bool.or_false]
   omega
theorem potL_nil : ∀ l : List Rl, potL [] l = (l.map fun r => r.reqs.length).foldl (· + ·) 0
 | l => by
  have gen : ∀ (l : List Rl) (a : Nat), (l.map fun r => r.reqs.length).foldl (· + ·) a = a + potL [] l := fun l => by
   induction l with
   | nil => intro a; rfl
   | cons r l ih => intro a; rw [List.map_cons, List.foldl_cons, ih]; simp [potL]; omega
  rw [gen, Nat.zero_add]
structure NI (l : List Rl) (roots : List Rq) (d : List ByteArray) (t : List Rq) (n : Nat) : Prop where
 need : needP l (fuelP l roots) roots [] = needP l n t d
 pot : t.length + potL d l + 1 ≤ n
section
variable {l : List Rl} {roots t : List Rq} {d : List ByteArray} {n : Nat}
theorem NI.start (l : List Rl) (roots : List Rq) : NI l roots [] roots (fuelP l roots) := ⟨rfl, by rw [potL_nil]; unfold fuelP; omega⟩
theorem NI.stop (h : NI l roots d [] n) : needP l (fuelP l roots) roots [] = d := by
 rw [h.need]
 cases n <;> rfl
theorem NI.old {q : Rq} (h : NI l roots d (q :: t) (n + 1)) (hq : d.any (fun p => decide (p = q.path)) = true) : NI l roots d t n :=
 ⟨by rw [h.need]; show (if _ then _ else _) = _; rw [if_pos hq], by have := h.pot; simp only [List.length_cons] at this; omega⟩
theorem NI.new {q : Rq} (h : NI l roots d (q :: t) (n + 1)) (hq : d.any (fun p => decide (p = q.path)) = false) : NI l roots (d ++ [q.path]) (t ++ reqsOf l q.path) n :=
 ⟨by rw [h.need]; show (if _ then _ else _) = _; rw [if_neg (by rw [hq]; decide)], by
  have := h.pot
  have := potL_next d q.path hq l
  simp only [List.length_cons, List.length_append] at *; omega⟩
end
abbrev kvD (p : ByteArray) : Value × AV := (.string p, vb true)
theorem kvD_mem {d : List ByteArray} {p : ByteArray} {a : AV} (h : (Value.string p, a) ∈ d.map kvD) : p ∈ d ∧ a = vb true := by
 obtain ⟨q, h1, h2⟩ := List.mem_map.1 h
 simp only [kvD, Prod.mk.injEq, Value.string.injEq] at h2
 exact ⟨h2.1 ▸ h1, h2.2.symm⟩
theorem any_mem {d : List ByteArray} {p : ByteArray} : (d.any fun q => decide (q = p)) = true ↔ p ∈ d := any_path
theorem by_new {l : List Rl} (hn : (l.map (·.path)).Nodup) {i : Nat} (hi : i < l.length) : mput ((l.take i).map kvN) (.string l[i].path) (.agg (encRl l[i])) = (l.take (i + 1)).map kvN := by
 rw [mput_app]
 ·rw [List.take_add_one, Ge hi, List.map_append]; rfl
 intro a ha
 obtain ⟨r, hr, he, _⟩ := kvN_mem ha
 obtain ⟨j, hj, e2⟩ := List.mem_iff_getElem.1 hr
 rw [List.length_take] at hj
 rw [List.getElem_take] at e2
 have := (List.getElem_inj (xs := l.map (·.path)) (i := j) (j := i) (h₀ := by rw [Lm]; omega) (h₁ := by rw [Lm]; omega) hn).1 (by rw [List.getElem_map, List.getElem_map, e2, he])
 omega
theorem sel_nodup {x : List Rl} {s : List Sl} {l : List Rl} (hi : increasing s = true) (h : selP x s = some l) : (l.map (·.path)).Nodup := by
 have e := (selP_ok h).1
 have : l.map (·.path) = s.map (·.path) := by rw [← e, List.map_map]; rfl
 rw [this]
 have hp := (incGo_pair hi).1
 have gen : ∀ {s : List Sl}, s.Pairwise (fun a b => blt a.path b.path = true) → (s.map (·.path)).Nodup := fun {s} hs => by
  induction s with
  | nil => simp
  | cons y s ih =>
   rw [List.pairwise_cons] at hs
   rw [List.map_cons, List.nodup_cons]
   refine ⟨fun hm => ?_, ih hs.2⟩
   obtain ⟨z, hz, e⟩ := List.mem_map.1 hm
   have := hs.1 z hz
   rw [e, blt_irrefl] at this; cases this
 exact gen hp
abbrev pl45 : Pol := ⟨[], [(72, 2)], [], [(47, [35, 10])], [], [], [72], [], [], [], [2, 4, 5, 7, 8, 10, 11, 13, 14, 16, 17, 20, 22, 23, 24, 25, 26, 27, 30]⟩
theorem c45 (x : List Rl) (ifs : List (List AV)) (roots : List Rq) (s : List Sl) (h84 : H84 x ifs) (hx : ∀ r ∈ x, FewR r) (hr : roots.length ≤ 1000000) (hrq : ∀ q ∈ roots, Few q.set) (hs : s.length ≤ 1000000) : H45 x ifs roots s := by
 have hsf : Few s := by unfold Few; omega
 have hrf : Few roots := by unfold Few; omega
 obtain ⟨D, hD⟩ : ∃ D, D = solvesP x roots s := ⟨_, rfl⟩
 unfold H45
 rw [← hD]
 unfold solvesP at hD
 by_cases h0 : checkIx x = 0
 ·have h84 : PC 84 [ixV x ifs] (.tup [.agg [.cmap shK (x.map kvR), .cmap shS ((pathsIx x []).map (kvP x))], vi 0]) := by
   have := h84; unfold H84 tblV at this; rw [if_pos h0] at this; exact this
  rw [if_neg (by rw [h0]; decide)] at hD
  have hc85 := c85 x s ((pathsIx x []).map (kvP x)) h0 hsf
  unfold selV at hc85
  cases hi : increasing s with
  | false =>
   rw [if_pos hi] at hc85
   rw [if_pos (by rw [hi]; rfl)] at hD
   refine pcall_sub (cxp pl45) rfl tab_ok hm rfl Tryz.func45 (by kernel_rfl) rfl (Nz rfl) (by kernel_rfl) ?_
   refine Xi 0 ?_
   refine Xi 0 ?_
   refine Yi (Nz rfl) ?_
   refine Xi .pure (Xi _ (Yi (h84) ?_))
   refine Yi (Nz rfl) ?_
   refine Xi ⟨[(1, sl encRq roots), (2, sl encSl s), (7, .ref 7 0), (8, vi 0)], [(7, .cells [.cmap shK (x.map kvR), .cmap shS ((pathsIx x []).map (kvP x))])], hfree⟩ (Yi ?_ ?_)
   ·exact ⟨⟨Zr, Zr, Zr, Zr, Tv⟩, ⟨Zr, Tv⟩, Fh, Tv⟩
   refine Xi 0 ?_
   refine Yi ?_ ?_
   ·intro h; exact absurd rfl h
   intro _
   refine Xi ⟨[(1, sl encRq roots), (2, sl encSl s), (7, .ref 7 0)], [(7, .cells [.cmap shK (x.map kvR), .cmap shS ((pathsIx x []).map (kvP x))])], hfree⟩ (Yi ?_ ?_)
   ·exact ⟨⟨Zr, Zr, Zr, Tv⟩, ⟨Zr, Tv⟩, Fh, Tv⟩
   refine Xi 0 ?_
   refine Yi (Nz rfl) ?_
   refine Xi .pure (Xi _ (Yi (hc85) ?_))
   refine Xi ⟨[(8, vi 1)], [], hfree⟩ (Yi ?_ ?_)
   ·exact ⟨⟨Zr, Tv⟩, Tv, Fh, Tv⟩
   refine Xi 0 ?_
   refine Yi ?_ ?_
   ·intro _
    refine Xi 0 ?_
    exact .of_eq (congrArg vi hD.symm)
   ·intro h; exact absurd (show (1 : Int) ≠ 0 by decide) h
  | true =>
   rw [if_neg (by rw [hi]; decide)] at hc85
   rw [if_neg (by rw [hi]; decide)] at hD
   cases hsel : selP x s with
   | none =>
    rw [hsel] at hc85 hD
    refine pcall_sub (cxp pl45) rfl tab_ok hm rfl Tryz.func45 (by kernel_rfl) rfl (Nz rfl) (by kernel_rfl) ?_
    refine Xi 0 ?_
    refine Xi 0 ?_
    refine Yi (Nz rfl) ?_
    refine Xi .pure (Xi _ (Yi (h84) ?_))
    refine Yi (Nz rfl) ?_
    refine Xi ⟨[(1, sl encRq roots), (2, sl encSl s), (7, .ref 7 0), (8, vi 0)], [(7, .cells [.cmap shK (x.map kvR), .cmap shS ((pathsIx x []).map (kvP x))])], hfree⟩ (Yi ?_ ?_)
    ·exact ⟨⟨Zr, Zr, Zr, Zr, Tv⟩, ⟨Zr, Tv⟩, Fh, Tv⟩
    refine Xi 0 ?_
    refine Yi ?_ ?_
    ·intro h; exact absurd rfl h
    intro _
    refine Xi ⟨[(1, sl encRq roots), (2, sl encSl s), (7, .ref 7 0)], [(7, .cells [.cmap shK (x.map kvR), .cmap shS ((pathsIx x []).map (kvP x))])], hfree⟩ (Yi ?_ ?_)
    ·exact ⟨⟨Zr, Zr, Zr, Tv⟩, ⟨Zr, Tv⟩, Fh, Tv⟩
    refine Xi 0 ?_
    refine Yi (Nz rfl) ?_
    refine Xi .pure (Xi _ (Yi (hc85) ?_))
    refine Xi ⟨[(8, vi 6)], [], hfree⟩ (Yi ?_ ?_)
    ·exact ⟨⟨Zr, Tv⟩, Tv, Fh, Tv⟩
    refine Xi 0 ?_
    refine Yi ?_ ?_
    ·intro _
     refine Xi 0 ?_
     exact .of_eq (congrArg vi hD.symm)
    ·intro h; exact absurd (show (6 : Int) ≠ 0 by decide) h
   | some l =>
    rw [hsel] at hc85 hD
    have hnd := sel_nodup hi hsel
    have hll : l.length = s.length := by rw [← (selP_ok hsel).1, Lm]
    have hlx : ∀ r ∈ l, r ∈ x := fun r hr => (findRl_ok ((selP_ok hsel).2.1 r hr)).2.1
    have hlq : ∀ r ∈ l, r.reqs.length ≤ 16 := fun r hr => (ix_few h0).2 r (hlx r hr)
    have hc86 : ∀ q : Rq, Few q.set → PC 86 ([.agg (encRq q)] ++ [.cptr [.cmap shS (l.map kvN)]]) (vb (brokenP l q)) := fun q hq => c86 l hnd q hq
    have hst : Stable [.cptr [.cmap shS (l.map kvN)]] := fun c hc => by
     obtain rfl := List.mem_singleton.1 hc
     intro h; rfl
    have hD : D = if l.any (fun r => r.reqs.any (brokenP l)) then 17 else if roots.any (brokenP l) then 17 else if (needP l (fuelP l roots) roots []).length < l.length then 8 else 0 := hD
    refine pcall_sub (cxp pl45) rfl tab_ok hm rfl Tryz.func45 (by kernel_rfl) rfl (Nz rfl) (by kernel_rfl) ?_
    refine Xi 0 ?_
    refine Xi 0 ?_
    refine Yi (Nz rfl) ?_
    refine Xi .pure (Xi _ (Yi (h84) ?_))
    refine Yi (Nz rfl) ?_
    refine Xi ⟨[(1, sl encRq roots), (2, sl encSl s), (7, .ref 7 0), (8, vi 0)], [(7, .cells [.cmap shK (x.map kvR), .cmap shS ((pathsIx x []).map (kvP x))])], hfree⟩ (Yi ?_ ?_)
    ·exact ⟨⟨Zr, Zr, Zr, Zr, Tv⟩, ⟨Zr, Tv⟩, Fh, Tv⟩
    refine Xi 0 ?_
    refine Yi ?_ ?_
    ·intro h; exact absurd rfl h
    intro _
    refine Xi ⟨[(1, sl encRq roots), (2, sl encSl s), (7, .ref 7 0)], [(7, .cells [.cmap shK (x.map kvR), .cmap shS ((pathsIx x []).map (kvP x))])], hfree⟩ (Yi ?_ ?_)
    ·exact ⟨⟨Zr, Zr, Zr, Tv⟩, ⟨Zr, Tv⟩, Fh, Tv⟩
    refine Xi 0 ?_
    refine Yi (Nz rfl) ?_
    refine Xi .pure (Xi _ (Yi (hc85) ?_))
    refine Xi ⟨[(1, sl encRq roots), (8, vi 0), (9, sl encRl l)], [], hfree⟩ (Yi ?_ ?_)
    ·exact ⟨⟨Zr, Zr, Zr, Tv⟩, Tv, Fh, Tv⟩
    refine Xi 0 ?_
    refine Yi ?_ ?_
    ·intro h; exact absurd rfl h
    intro _
    refine Xi ⟨[(1, sl encRq roots), (9, sl encRl l)], [], hfree⟩ (Yi ?_ ?_)
    ·exact ⟨⟨Zr, Zr, Tv⟩, Tv, Fh, Tv⟩
    refine Xi 0 ?_
    refine Yi (Nz rfl) ?_
    refine Xi ⟨[(1, sl encRq roots), (9, sl encRl l), (10, .ref 10 0)], [(10, .cells [.mref 35]), (35, .map shS [])], hfree⟩ (Yi ?_ ?_)
    ·exact ⟨⟨Zr, Zr, Zr, Tv⟩, ⟨Zr, Zr, Tv⟩, Fh, Tv⟩
    refine Xi 0 ?_
    refine Xi {i : Nat // i ≤ l.length} (Xi (fun i => ⟨[(1, sl encRq roots), (9, sl encRl l), (10, .ref 10 0), (36, sl encRl l), (37, vi (l.map encRl).length), (38, vi i.1)], [(10, .cells [.mref 35]), (35, .map shS ((l.take i.1).map kvN))], hfree⟩) (Xi (fun i => l.length - i.1) (Yi (Xi ⟨0, Nat.zero_le _⟩ ?_) ?_)))
    ·exact ⟨⟨Zr, Zr, Zr, Zr, Zr, Zr, Tv⟩, ⟨Zr, Zr, Tv⟩, Fh, Tv⟩
    intro ⟨i, i1⟩
    have i1 : i ≤ l.length := i1
    refine Xi 0 ?_
    refine Yi ?_ ?_
    ·intro h
     have h : (i : Int) < (l.map encRl).length := h
     have h : i < l.length := by simpa using h
     have hg : l[i]? = some l[i] := Ge h
     refine Xi ⟨[(1, sl encRq roots), (9, sl encRl l), (10, .ref 10 0), (36, sl encRl l), (37, vi (l.map encRl).length), (38, vi i)], [(10, .cells [.mref 35]), (35, .map shS ((l.take i).map kvN))], hfree⟩ (Yi ?_ ?_)
     ·exact ⟨⟨Zr, Zr, Zr, Zr, Zr, Zr, Tv⟩, ⟨Zr, Zr, Tv⟩, Fh, Tv⟩
     refine Xi 0 ?_
     refine Xi (encRl l[i]) (Yi (Yi (by show (0 : Int) ≤ i; omega) (by simp [hg])) (Yi rfl ?_))
     refine Yi (Nz rfl) (Yi (Nz rfl) ?_)
     refine Xi ⟨[(1, sl encRq roots), (9, sl encRl l), (10, .ref 10 0), (36, sl encRl l), (37, vi (l.map encRl).length), (12, .ref 12 0), (38, vi i)], [(12, .cells (encRl l[i])), (10, .cells [.mref 35]), (35, .map shS ((l.take i).map kvN))], hfree⟩ (Yi ?_ ?_)
     ·exact ⟨⟨Zr, Zr, Zr, Zr, Zr, Zr, Zr, Tv⟩, ⟨Zr, Zr, Zr, Tv⟩, Fh, Tv⟩
     refine Xi 0 ?_
     refine Yi (Nz rfl) ?_
     have e35 := by_new hnd h
     refine Xi 0 ?_
     refine Yi (by show InI64 ((i : Int) + 1); unfold InI64; omega) ?_
     refine Xi ⟨i + 1, by omega⟩ ?_
     exact ⟨by show l.length - (i + 1) < l.length - i; omega, ⟨Zr, Zr, Zr, Zr, Zr, Zr, Tv⟩, ⟨Zr, ⟨congrArg (HO.map shS) e35, rfl⟩, Tv⟩, Fh, Tv⟩
    intro h
    have h : ¬ (i : Int) < (l.map encRl).length := h
    have h : ¬ i < l.length := by simpa using h
    have et : (l.take i).map kvN = l.map kvN := by rw [List.take_of_length_le (by omega)]
    refine Xi ⟨[(1, sl encRq roots), (9, sl encRl l), (10, .ref 10 0)], [(10, .cells [.mref 35]), (35, .map shS (l.map kvN))], hfree⟩ (Yi ?_ ?_)
    ·exact ⟨⟨Zr, Zr, Zr, Tv⟩, ⟨Zr, ⟨congrArg (HO.map shS) et, rfl⟩, Tv⟩, Fh, Tv⟩
    refine Xi 0 ?_
    refine Xi ⟨[(1, sl encRq roots), (9, sl encRl l), (10, .ref 10 0), (13, .clo 86 [.cptr [.cmap shS (l.map kvN)]])], [(10, .ro [.cmap shS (l.map kvN)])], hfree⟩ (Yi ?_ ?_)
    ·exact ⟨⟨Zr, Zr, Zr, Zr, Tv⟩, ⟨Zr, Tv⟩, Fh, Tv⟩
    refine Xi 0 ?_
    refine Xi {i : Nat // i ≤ l.length ∧ ∀ j (hj : j < l.length), j < i → l[j].reqs.any (brokenP l) = false} (Xi (fun i => ⟨[(1, sl encRq roots), (9, sl encRl l), (10, .ref 10 0), (13, .clo 86 [.cptr [.cmap shS (l.map kvN)]]), (48, sl encRl l), (49, vi (l.map encRl).length), (50, vi i.1)], [(10, .ro [.cmap shS (l.map kvN)])], hfree⟩) (Xi (fun i => l.length - i.1) (Yi (Xi ⟨0, Nat.zero_le _, fun j _ hj => absurd hj (Nat.not_lt_zero j)⟩ ?_) ?_)))
    ·exact ⟨⟨Zr, Zr, Zr, Zr, Zr, Zr, Zr, Tv⟩, ⟨Zr, Tv⟩, Fh, Tv⟩
    intro ⟨i, i1, i2⟩
    have i1 : i ≤ l.length := i1
    refine Xi 0 ?_
    refine Yi ?_ ?_
    ·intro h
     have h : (i : Int) < (l.map encRl).length := h
     have h : i < l.length := by simpa using h
     have hg : l[i]? = some l[i] := Ge h
     have hc89 : PC 89 [sl encRq l[i].reqs, .clo 86 [.cptr [.cmap shS (l.map kvN)]]] (vb (l[i].reqs.any (brokenP l))) := c89 hst l[i].reqs (brokenP l) (fun q hq => hc86 q ((hx _ (hlx _ (List.getElem_mem h))).2 q hq).1) (by have := hlq _ (List.getElem_mem h); unfold Few; omega)
     refine Xi ⟨[(1, sl encRq roots), (9, sl encRl l), (10, .ref 10 0), (13, .clo 86 [.cptr [.cmap shS (l.map kvN)]]), (48, sl encRl l), (49, vi (l.map encRl).length), (50, vi i)], [(10, .ro [.cmap shS (l.map kvN)])], hfree⟩ (Yi ?_ ?_)
     ·exact ⟨⟨Zr, Zr, Zr, Zr, Zr, Zr, Zr, Tv⟩, ⟨Zr, Tv⟩, Fh, Tv⟩
     refine Xi 0 ?_
     refine Xi (encRl l[i]) (Yi (Yi (by show (0 : Int) ≤ i; omega) (by simp [hg])) (Yi rfl ?_))
     refine Yi (Nz rfl) (Yi (Nz rfl) ?_)
     refine Xi ⟨[(1, sl encRq roots), (9, sl encRl l), (10, .ref 10 0), (13, .clo 86 [.cptr [.cmap shS (l.map kvN)]]), (48, sl encRl l), (49, vi (l.map encRl).length), (15, .ref 15 0), (50, vi i)], [(10, .ro [.cmap shS (l.map kvN)]), (15, .cells (encRl l[i]))], hfree⟩ (Yi ?_ ?_)
     ·exact ⟨⟨Zr, Zr, Zr, Zr, Zr, Zr, Zr, Zr, Tv⟩, ⟨Zr, Zr, Tv⟩, Fh, Tv⟩
     refine Xi 0 ?_
     refine Or.elim (Bool.eq_false_or_eq_true (l[i].reqs.any (brokenP l))) (fun hb => ?_) (fun hb => ?_)
     ·rw [hb] at hc89
      refine Xi .pure (Xi _ (Yi (hc89) ?_))
      refine Xi 0 ?_
      have ha : l.any (fun r => r.reqs.any (brokenP l)) = true := List.any_eq_true.2 ⟨l[i], List.getElem_mem h, hb⟩
      exact .of_eq (congrArg vi (show (17 : Int) = D by rw [hD, if_pos ha]))
     ·rw [hb] at hc89
      refine Xi .pure (Xi _ (Yi (hc89) ?_))
      refine Xi 0 ?_
      refine Yi (by show InI64 ((i : Int) + 1); unfold InI64; omega) ?_
      refine Xi ⟨i + 1, by omega, fun j hj hji => ?_⟩ ?_
      ·by_cases e : j = i
       ·subst e; exact hb
       ·exact i2 j hj (by omega)
      exact ⟨by show l.length - (i + 1) < l.length - i; omega, ⟨Zr, Zr, Zr, Zr, Zr, Zr, Zr, Tv⟩, ⟨Zr, Tv⟩, Fh, Tv⟩
    intro h
    have h : ¬ (i : Int) < (l.map encRl).length := h
    have h : ¬ i < l.length := by simpa using h
    have ha : l.any (fun r => r.reqs.any (brokenP l)) = false := by
     rw [List.any_eq_false]
     intro r hr
     obtain ⟨j, hj, e⟩ := List.mem_iff_getElem.1 hr
     have := i2 j hj (by omega)
     rw [e] at this
     rw [this]; decide
    have hD : D = if roots.any (brokenP l) then 17 else if (needP l (fuelP l roots) roots []).length < l.length then 8 else 0 := by rw [hD, if_neg (by rw [ha]; decide)]
    have hc89 : PC 89 [sl encRq roots, .clo 86 [.cptr [.cmap shS (l.map kvN)]]] (vb (roots.any (brokenP l))) := c89 hst roots (brokenP l) (fun q hq => hc86 q (hrq q hq)) hrf
    refine Xi ⟨[(1, sl encRq roots), (9, sl encRl l), (10, .ref 10 0), (13, .clo 86 [.cptr [.cmap shS (l.map kvN)]])], [(10, .ro [.cmap shS (l.map kvN)])], hfree⟩ (Yi ?_ ?_)
    ·exact ⟨⟨Zr, Zr, Zr, Zr, Tv⟩, ⟨Zr, Tv⟩, Fh, Tv⟩
    refine Xi 0 ?_
    refine Or.elim (Bool.eq_false_or_eq_true (roots.any (brokenP l))) (fun hb => ?_) (fun hb => ?_)
    ·rw [hb] at hc89
     refine Xi .pure (Xi _ (Yi (hc89) ?_))
     refine Xi 0 ?_
     exact .of_eq (congrArg vi (show (17 : Int) = D by rw [hD, if_pos hb]))
    rw [hb] at hc89
    have hD : D = if (needP l (fuelP l roots) roots []).length < l.length then 8 else 0 := by rw [hD, if_neg (by rw [hb]; decide)]
    refine Xi .pure (Xi _ (Yi (hc89) ?_))
    refine Xi ⟨[(1, sl encRq roots), (9, sl encRl l), (10, .ref 10 0)], [(10, .ro [.cmap shS (l.map kvN)])], hfree⟩ (Yi ?_ ?_)
    ·exact ⟨⟨Zr, Zr, Zr, Tv⟩, ⟨Zr, Tv⟩, Fh, Tv⟩
    refine Xi 0 ?_
    refine Xi ⟨[(1, sl encRq roots), (9, sl encRl l), (10, .ref 10 0), (16, .mref 62)], [(10, .ro [.cmap shS (l.map kvN)]), (62, .map shS [])], hfree⟩ (Yi ?_ ?_)
    ·exact ⟨⟨Zr, Zr, Zr, Zr, Tv⟩, ⟨Zr, Zr, Tv⟩, Fh, Tv⟩
    refine Xi 0 ?_
    refine Xi (.gen [] 1) (Yi rfl ((c76t roots hrf).imp ?_))
    intro v g q
    have q1 := q.1
    have q2 := q.2
    subst q1
    subst q2
    clear q
    have hpot0 : potL [] l ≤ 16 * l.length := by
     have gen : ∀ l : List Rl, (∀ r ∈ l, r.reqs.length ≤ 16) → potL [] l ≤ 16 * l.length := fun l => by
      induction l with
      | nil => intro _; exact Nat.le_refl _
      | cons r l ih =>
       intro h
       have h1 := h r (List.mem_cons_self ..)
       have h2 := ih fun s hs => h s (List.mem_cons_of_mem _ hs)
       unfold potL
       simp only [List.any_nil, Bool.false_eq_true, if_false, List.length_cons]
       omega
     exact gen l hlq
    have hfu : fuelP l roots ≤ roots.length + 16 * l.length + 1 := by unfold fuelP; rw [← potL_nil]; omega
    refine Xi {p : List ByteArray × List Rq × Nat × Bool // NI l roots p.1 p.2.1 p.2.2.1 ∧ p.2.2.1 ≤ fuelP l roots} (Xi (fun p => ⟨[(9, sl encRl l), (10, .ref 10 0), (16, .mref 62), (17, .slice (.id (bif p.1.2.2.2 then 16400 else 201) 2) (p.1.2.1.map encRq))], [(10, .ro [.cmap shS (l.map kvN)]), (62, .map shS (p.1.1.map kvD)), (16400, bif p.1.2.2.2 then .tok 2 (p.1.2.1.map encRq).length else .free), (201, bif p.1.2.2.2 then .free else .tok 2 (p.1.2.1.map encRq).length)], hfree⟩) (Xi (fun p => p.1.2.2.1) (Yi (Xi ⟨([], roots, fuelP l roots, true), NI.start l roots, Nat.le_refl _⟩ ?_) ?_)))
    ·exact ⟨⟨Zr, Zr, Zr, Zr, Tv⟩, ⟨Zr, Zr, Zr, Zr, Tv⟩, Fh, Tv⟩
    intro ⟨⟨d, t, n, b⟩, ni, nf⟩
    have ni : NI l roots d t n := ni
    have nf : n ≤ fuelP l roots := nf
    refine Or.elim (Bool.eq_false_or_eq_true b) (fun eb => ?_) (fun eb => ?_)
    ·refine Xi ⟨[(9, sl encRl l), (10, .ref 10 0), (16, .mref 62), (17, .slice (.id 16400 2) (t.map encRq))], [(10, .ro [.cmap shS (l.map kvN)]), (62, .map shS (d.map kvD)), (16400, .tok 2 (t.map encRq).length)], hfree⟩ (Yi ?_ ?_)
     ·exact ⟨⟨Zr, Zr, Zr, ⟨by show AV.slice (.id (bif b then 16400 else 201) 2) (t.map encRq) = _; rw [eb]; rfl, rfl⟩, Tv⟩, ⟨Zr, Zr, ⟨by show (bif b then HO.tok 2 (t.map encRq).length else HO.free) = _; rw [eb]; rfl, rfl⟩, Tv⟩, Fh, Tv⟩
     refine Xi 0 ?_
     refine Yi ?_ ?_
     ·intro h
      have h : (0 : Int) < (t.map encRq).length := h
      refine Exists.elim (show ∃ q t', t = q :: t' by cases t with | nil => exact absurd h (by decide) | cons q t' => exact ⟨q, t', rfl⟩) (fun q hq => ?_)
      refine Exists.elim hq (fun t' hq => ?_)
      refine Exists.elim (show ∃ m, n = m + 1 from ⟨n - 1, by have := ni.pot; omega⟩) (fun m hm' => ?_)
      have ni : NI l roots d (q :: t') (m + 1) := hq ▸ hm' ▸ ni
      have hpot := ni.pot
      have hg0 : (t.map encRq)[(0 : Int).toNat]? = some (encRq q) := by rw [hq]; rfl
      refine Xi ⟨[(9, sl encRl l), (10, .ref 10 0), (16, .mref 62), (17, .slice (.id 16400 2) (t.map encRq))], [(10, .ro [.cmap shS (l.map kvN)]), (62, .map shS (d.map kvD)), (16400, .tok 2 (t.map encRq).length)], hfree⟩ (Yi ?_ ?_)
      ·exact ⟨⟨Zr, Zr, Zr, Zr, Tv⟩, ⟨Zr, Zr, Zr, Tv⟩, Fh, Tv⟩
      refine Xi 0 ?_
      refine Xi (encRq q) (Yi (Yi (by decide) hg0) (Yi rfl ?_))
      refine Yi (Nz rfl) (Yi (Nz rfl) ?_)
      refine Xi ⟨[(9, sl encRl l), (10, .ref 10 0), (16, .mref 62), (17, .slice (.id 16400 2) (t.map encRq)), (18, .ref 18 0)], [(10, .ro [.cmap shS (l.map kvN)]), (62, .map shS (d.map kvD)), (16400, .tok 2 (t.map encRq).length), (18, .cells (encRq q))], hfree⟩ (Yi ?_ ?_)
      ·exact ⟨⟨Zr, Zr, Zr, Zr, Zr, Tv⟩, ⟨Zr, Zr, Zr, Zr, Tv⟩, Fh, Tv⟩
      refine Xi 201 ?_
      have htl : 1 ≤ (t.map encRq).length := by rw [hq]; simp
      refine Yi (Yi rfl (Yi (by decide) (by show (1 : Int) ≤ ((t.map encRq).length : Int); omega))) ?_
      have ed : (t.map encRq).drop (1 : Int).toNat = t'.map encRq := by rw [hq]; rfl
      refine Xi ⟨[(9, sl encRl l), (10, .ref 10 0), (16, .mref 62), (17, .slice (.id 201 2) (t'.map encRq)), (18, .ref 18 0)], [(10, .ro [.cmap shS (l.map kvN)]), (62, .map shS (d.map kvD)), (201, .tok 2 (t'.map encRq).length), (18, .cells (encRq q))], hfree⟩ (Yi ?_ ?_)
      ·exact ⟨⟨Zr, Zr, Zr, ⟨congrArg (AV.slice (.id 201 2)) ed, rfl⟩, Zr, Tv⟩, ⟨Zr, Zr, ⟨congrArg (fun e : List (List AV) => HO.tok 2 e.length) ed, rfl⟩, Zr, Tv⟩, Fh, Tv⟩
      refine Xi 0 ?_
      refine Yi ?_ ?_
      ·intro a ha
       refine Exists.elim (show ∃ u, u = () from ⟨(), rfl⟩) (fun _ _ => ?_)
       have e := (kvD_mem ha).2
       subst e
       have ho := any_mem.2 (kvD_mem ha).1
       have ni2 := ni.old ho
       refine Xi ⟨(d, t', m, false), ni2, by show m ≤ _; omega⟩ ?_
       exact ⟨by show m < n; omega, ⟨Zr, Zr, Zr, Zr, Tv⟩, ⟨Zr, Zr, Zr, Zr, Tv⟩, Fh, Tv⟩
      intro hno
      have ho : d.any (fun p => decide (p = q.path)) = false := by
       rw [Bool.eq_false_iff]
       intro hc
       exact hno (vb true) (List.mem_map.2 ⟨q.path, any_mem.1 hc, rfl⟩)
      have ni2 := ni.new ho
      have hpot2 := ni2.pot
      refine Xi 0 ?_
      have e62 : mput (d.map kvD) (.string q.path) (vb true) = (d ++ [q.path]).map kvD := by rw [mput_app hno, List.map_append]; rfl
      refine Xi 0 ?_
      refine Yi ?_ ?_
      ·intro a ha
       refine Exists.elim (kvN_mem ha) (fun r hr' => ?_)
       have e := hr'.2.2
       subst e
       have hro : reqsOf l q.path = r.reqs := by
        unfold reqsOf
        rw [← hr'.2.1, find_path hnd hr'.1]
       rw [hro] at ni2 hpot2
       have hrl := hlq r hr'.1
       have bulk : AllLen 2 (r.reqs.map encRq) ∧ (t'.map encRq).length = (t'.map encRq).length ∧ ((t'.map encRq).length + (r.reqs.map encRq).length) * 40 ≤ 140737488355328 ∧ (t'.map encRq).length + (r.reqs.map encRq).length ≤ 9223372036854775807 :=
        ⟨allLen_map (enc := encRq) (n := 2) (fun _ => rfl) r.reqs, rfl, by rw [Lm, Lm]; rw [List.length_append] at hpot2; omega, by rw [Lm, Lm]; rw [List.length_append] at hpot2; omega⟩
       refine Yi bulk ?_
       have e17 : AV.slice (.id 201 2) (t'.map encRq ++ r.reqs.map encRq) = .slice (.id 201 2) ((t' ++ r.reqs).map encRq) := by rw [List.map_append]
       have o17 : HO.tok 2 ((t'.map encRq).length + (r.reqs.map encRq).length) = .tok 2 ((t' ++ r.reqs).map encRq).length := by rw [List.map_append, List.length_append]
       refine Xi ⟨(d ++ [q.path], t' ++ r.reqs, m, false), ni2, by show m ≤ _; omega⟩ ?_
       exact ⟨by show m < n; omega, ⟨Zr, Zr, Zr, ⟨e17, rfl⟩, Tv⟩, ⟨Zr, ⟨congrArg (HO.map shS) e62, rfl⟩, Zr, ⟨o17, rfl⟩, Tv⟩, Fh, Tv⟩
      intro hnb
      have hro : reqsOf l q.path = [] := by
       unfold reqsOf
       rw [List.find?_eq_none.2 (fun r hr' he => hnb (.agg (encRl r)) (List.mem_map.2 ⟨r, hr', by rw [← of_decide_eq_true he]⟩))]
      rw [hro] at ni2 hpot2
      have bulk : AllLen 2 [] ∧ (t'.map encRq).length = (t'.map encRq).length ∧ ((t'.map encRq).length + ([] : List (List AV)).length) * 40 ≤ 140737488355328 ∧ (t'.map encRq).length + ([] : List (List AV)).length ≤ 9223372036854775807 :=
       ⟨trivial, rfl, by rw [Lm, List.length_nil]; rw [List.length_append] at hpot2; omega, by rw [Lm, List.length_nil]; rw [List.length_append] at hpot2; omega⟩
      refine Yi bulk ?_
      have e17 : AV.slice (.id 201 2) (t'.map encRq ++ []) = .slice (.id 201 2) ((t' ++ []).map encRq) := by rw [List.append_nil, List.append_nil]
      have o17 : HO.tok 2 ((t'.map encRq).length + ([] : List (List AV)).length) = .tok 2 ((t' ++ []).map encRq).length := by rw [List.append_nil, List.length_nil, Nat.add_zero]
      refine Xi ⟨(d ++ [q.path], t' ++ [], m, false), ni2, by show m ≤ _; omega⟩ ?_
      exact ⟨by show m < n; omega, ⟨Zr, Zr, Zr, ⟨e17, rfl⟩, Tv⟩, ⟨Zr, ⟨congrArg (HO.map shS) e62, rfl⟩, Zr, ⟨o17, rfl⟩, Tv⟩, Fh, Tv⟩
     intro h
     have h : ¬ (0 : Int) < (t.map encRq).length := h
     have ht0 : t = [] := by
      cases t with
      | nil => rfl
      | cons q t' => exact absurd (by rw [List.map_cons, List.length_cons]; omega) h
     have hnd2 : needP l (fuelP l roots) roots [] = d := (ht0 ▸ ni).stop
     have hD : D = if d.length < l.length then 8 else 0 := by rw [hD, hnd2]
     refine Xi ⟨[(9, sl encRl l), (16, .mref 62)], [(62, .map shS (d.map kvD))], hfree⟩ (Yi ?_ ?_)
     ·exact ⟨⟨Zr, Zr, Tv⟩, ⟨Zr, Tv⟩, Fh, Tv⟩
     refine Xi 0 ?_
     refine Yi ?_ ?_
     ·intro h
      have h : ((d.map kvD).length : Int) < ((l.map encRl).length : Int) := h
      have h : d.length < l.length := by simpa using h
      refine Xi 0 ?_
      exact .of_eq (congrArg vi (show (8 : Int) = D by rw [hD, if_pos h]))
     ·intro h
      have h : ¬ ((d.map kvD).length : Int) < ((l.map encRl).length : Int) := h
      have h : ¬ d.length < l.length := by simpa using h
      refine Xi 0 ?_
      exact .of_eq (congrArg vi (show (0 : Int) = D by rw [hD, if_neg h]))
    ·refine Xi ⟨[(9, sl encRl l), (10, .ref 10 0), (16, .mref 62), (17, .slice (.id 201 2) (t.map encRq))], [(10, .ro [.cmap shS (l.map kvN)]), (62, .map shS (d.map kvD)), (201, .tok 2 (t.map encRq).length)], hfree⟩ (Yi ?_ ?_)
     ·exact ⟨⟨Zr, Zr, Zr, ⟨by show AV.slice (.id (bif b then 16400 else 201) 2) (t.map encRq) = _; rw [eb]; rfl, rfl⟩, Tv⟩, ⟨Zr, Zr, ⟨by show (bif b then HO.free else HO.tok 2 (t.map encRq).length) = _; rw [eb]; rfl, rfl⟩, Tv⟩, Fh, Tv⟩
     refine Xi 0 ?_
     refine Yi ?_ ?_
     ·intro h
      have h : (0 : Int) < (t.map encRq).length := h
      refine Exists.elim (show ∃ q t', t = q :: t' by cases t with | nil => exact absurd h (by decide) | cons q t' => exact ⟨q, t', rfl⟩) (fun q hq => ?_)
      refine Exists.elim hq (fun t' hq => ?_)
      refine Exists.elim (show ∃ m, n = m + 1 from ⟨n - 1, by have := ni.pot; omega⟩) (fun m hm' => ?_)
      have ni : NI l roots d (q :: t') (m + 1) := hq ▸ hm' ▸ ni
      have hpot := ni.pot
      have hg0 : (t.map encRq)[(0 : Int).toNat]? = some (encRq q) := by rw [hq]; rfl
      refine Xi ⟨[(9, sl encRl l), (10, .ref 10 0), (16, .mref 62), (17, .slice (.id 201 2) (t.map encRq))], [(10, .ro [.cmap shS (l.map kvN)]), (62, .map shS (d.map kvD)), (201, .tok 2 (t.map encRq).length)], hfree⟩ (Yi ?_ ?_)
      ·exact ⟨⟨Zr, Zr, Zr, Zr, Tv⟩, ⟨Zr, Zr, Zr, Tv⟩, Fh, Tv⟩
      refine Xi 0 ?_
      refine Xi (encRq q) (Yi (Yi (by decide) hg0) (Yi rfl ?_))
      refine Yi (Nz rfl) (Yi (Nz rfl) ?_)
      refine Xi ⟨[(9, sl encRl l), (10, .ref 10 0), (16, .mref 62), (17, .slice (.id 201 2) (t.map encRq)), (18, .ref 18 0)], [(10, .ro [.cmap shS (l.map kvN)]), (62, .map shS (d.map kvD)), (201, .tok 2 (t.map encRq).length), (18, .cells (encRq q))], hfree⟩ (Yi ?_ ?_)
      ·exact ⟨⟨Zr, Zr, Zr, Zr, Zr, Tv⟩, ⟨Zr, Zr, Zr, Zr, Tv⟩, Fh, Tv⟩
      refine Xi 16400 ?_
      have htl : 1 ≤ (t.map encRq).length := by rw [hq]; simp
      refine Yi (Yi rfl (Yi (by decide) (by show (1 : Int) ≤ ((t.map encRq).length : Int); omega))) ?_
      have ed : (t.map encRq).drop (1 : Int).toNat = t'.map encRq := by rw [hq]; rfl
      refine Xi ⟨[(9, sl encRl l), (10, .ref 10 0), (16, .mref 62), (17, .slice (.id 16400 2) (t'.map encRq)), (18, .ref 18 0)], [(10, .ro [.cmap shS (l.map kvN)]), (62, .map shS (d.map kvD)), (16400, .tok 2 (t'.map encRq).length), (18, .cells (encRq q))], hfree⟩ (Yi ?_ ?_)
      ·exact ⟨⟨Zr, Zr, Zr, ⟨congrArg (AV.slice (.id 16400 2)) ed, rfl⟩, Zr, Tv⟩, ⟨Zr, Zr, ⟨congrArg (fun e : List (List AV) => HO.tok 2 e.length) ed, rfl⟩, Zr, Tv⟩, Fh, Tv⟩
      refine Xi 0 ?_
      refine Yi ?_ ?_
      ·intro a ha
       refine Exists.elim (show ∃ u, u = () from ⟨(), rfl⟩) (fun _ _ => ?_)
       have e := (kvD_mem ha).2
       subst e
       have ho := any_mem.2 (kvD_mem ha).1
       have ni2 := ni.old ho
       refine Xi ⟨(d, t', m, true), ni2, by show m ≤ _; omega⟩ ?_
       exact ⟨by show m < n; omega, ⟨Zr, Zr, Zr, Zr, Tv⟩, ⟨Zr, Zr, Zr, Zr, Tv⟩, Fh, Tv⟩
      intro hno
      have ho : d.any (fun p => decide (p = q.path)) = false := by
       rw [Bool.eq_false_iff]
       intro hc
       exact hno (vb true) (List.mem_map.2 ⟨q.path, any_mem.1 hc, rfl⟩)
      have ni2 := ni.new ho
      have hpot2 := ni2.pot
      refine Xi 0 ?_
      have e62 : mput (d.map kvD) (.string q.path) (vb true) = (d ++ [q.path]).map kvD := by rw [mput_app hno, List.map_append]; rfl
      refine Xi 0 ?_
      refine Yi ?_ ?_
      ·intro a ha
       refine Exists.elim (kvN_mem ha) (fun r hr' => ?_)
       have e := hr'.2.2
       subst e
       have hro : reqsOf l q.path = r.reqs := by
        unfold reqsOf
        rw [← hr'.2.1, find_path hnd hr'.1]
       rw [hro] at ni2 hpot2
       have hrl := hlq r hr'.1
       have bulk : AllLen 2 (r.reqs.map encRq) ∧ (t'.map encRq).length = (t'.map encRq).length ∧ ((t'.map encRq).length + (r.reqs.map encRq).length) * 40 ≤ 140737488355328 ∧ (t'.map encRq).length + (r.reqs.map encRq).length ≤ 9223372036854775807 :=
        ⟨allLen_map (enc := encRq) (n := 2) (fun _ => rfl) r.reqs, rfl, by rw [Lm, Lm]; rw [List.length_append] at hpot2; omega, by rw [Lm, Lm]; rw [List.length_append] at hpot2; omega⟩
       refine Yi bulk ?_
       have e17 : AV.slice (.id 16400 2) (t'.map encRq ++ r.reqs.map encRq) = .slice (.id 16400 2) ((t' ++ r.reqs).map encRq) := by rw [List.map_append]
       have o17 : HO.tok 2 ((t'.map encRq).length + (r.reqs.map encRq).length) = .tok 2 ((t' ++ r.reqs).map encRq).length := by rw [List.map_append, List.length_append]
       refine Xi ⟨(d ++ [q.path], t' ++ r.reqs, m, true), ni2, by show m ≤ _; omega⟩ ?_
       exact ⟨by show m < n; omega, ⟨Zr, Zr, Zr, ⟨e17, rfl⟩, Tv⟩, ⟨Zr, ⟨congrArg (HO.map shS) e62, rfl⟩, ⟨o17, rfl⟩, Zr, Tv⟩, Fh, Tv⟩
      intro hnb
      have hro : reqsOf l q.path = [] := by
       unfold reqsOf
       rw [List.find?_eq_none.2 (fun r hr' he => hnb (.agg (encRl r)) (List.mem_map.2 ⟨r, hr', by rw [← of_decide_eq_true he]⟩))]
      rw [hro] at ni2 hpot2
      have bulk : AllLen 2 [] ∧ (t'.map encRq).length = (t'.map encRq).length ∧ ((t'.map encRq).length + ([] : List (List AV)).length) * 40 ≤ 140737488355328 ∧ (t'.map encRq).length + ([] : List (List AV)).length ≤ 9223372036854775807 :=
       ⟨trivial, rfl, by rw [Lm, List.length_nil]; rw [List.length_append] at hpot2; omega, by rw [Lm, List.length_nil]; rw [List.length_append] at hpot2; omega⟩
      refine Yi bulk ?_
      have e17 : AV.slice (.id 16400 2) (t'.map encRq ++ []) = .slice (.id 16400 2) ((t' ++ []).map encRq) := by rw [List.append_nil, List.append_nil]
      have o17 : HO.tok 2 ((t'.map encRq).length + ([] : List (List AV)).length) = .tok 2 ((t' ++ []).map encRq).length := by rw [List.append_nil, List.length_nil, Nat.add_zero]
      refine Xi ⟨(d ++ [q.path], t' ++ [], m, true), ni2, by show m ≤ _; omega⟩ ?_
      exact ⟨by show m < n; omega, ⟨Zr, Zr, Zr, ⟨e17, rfl⟩, Tv⟩, ⟨Zr, ⟨congrArg (HO.map shS) e62, rfl⟩, ⟨o17, rfl⟩, Zr, Tv⟩, Fh, Tv⟩
     intro h
     have h : ¬ (0 : Int) < (t.map encRq).length := h
     have ht0 : t = [] := by
      cases t with
      | nil => rfl
      | cons q t' => exact absurd (by rw [List.map_cons, List.length_cons]; omega) h
     have hnd2 : needP l (fuelP l roots) roots [] = d := (ht0 ▸ ni).stop
     have hD : D = if d.length < l.length then 8 else 0 := by rw [hD, hnd2]
     refine Xi ⟨[(9, sl encRl l), (16, .mref 62)], [(62, .map shS (d.map kvD))], hfree⟩ (Yi ?_ ?_)
     ·exact ⟨⟨Zr, Zr, Tv⟩, ⟨Zr, Tv⟩, Fh, Tv⟩
     refine Xi 0 ?_
     refine Yi ?_ ?_
     ·intro h
      have h : ((d.map kvD).length : Int) < ((l.map encRl).length : Int) := h
      have h : d.length < l.length := by simpa using h
      refine Xi 0 ?_
      exact .of_eq (congrArg vi (show (8 : Int) = D by rw [hD, if_pos h]))
     ·intro h
      have h : ¬ ((d.map kvD).length : Int) < ((l.map encRl).length : Int) := h
      have h : ¬ d.length < l.length := by simpa using h
      refine Xi 0 ?_
      exact .of_eq (congrArg vi (show (0 : Int) = D by rw [hD, if_neg h]))
 ·have h84 : PC 84 [ixV x ifs] (.tup [.agg [.cmap shK [], .cmap shS []], vi (checkIx x)]) := by
   have := h84; unfold H84 tblV at this; rw [if_neg h0] at this; exact this
  rw [if_pos h0] at hD
  refine pcall_sub (cxp pl45) rfl tab_ok hm rfl Tryz.func45 (by kernel_rfl) rfl (Nz rfl) (by kernel_rfl) ?_
  refine Xi 0 ?_
  refine Xi 0 ?_
  refine Yi (Nz rfl) ?_
  refine Xi .pure (Xi _ (Yi (h84) ?_))
  refine Yi (Nz rfl) ?_
  refine Xi ⟨[(8, vi (checkIx x))], [], hfree⟩ (Yi ?_ ?_)
  ·exact ⟨⟨Zr, Tv⟩, Tv, Fh, Tv⟩
  refine Xi 0 ?_
  refine Yi ?_ ?_
  ·intro _
   refine Xi 0 ?_
   exact .of_eq (congrArg vi hD.symm)
  ·intro h; exact absurd h0 h
end Go.Eng

namespace Go.Eng
open Go.Proofs
theorem few_mt (s : ByteArray) (h : s.size ≤ 10) : FewS s := by unfold FewS; omega
theorem ex_few : (∀ r ∈ exIx, FewR r) ∧ ∀ q ∈ exRoots, FewQ q := by
 have hq : ∀ q ∈ exRoots, FewQ q := fun q hq => by
  obtain rfl := List.mem_singleton.1 hq
  exact ⟨by decide, few_mt _ (by decide)⟩
 refine ⟨fun r hr => ?_, hq⟩
 unfold exIx at hr
 simp only [List.mem_cons, List.mem_nil_iff, or_false] at hr
 rcases hr with rfl | rfl | rfl
 ·refine ⟨few_mt _ (by decide), fun q hq => ?_⟩
  obtain rfl := List.mem_singleton.1 hq
  exact ⟨by decide, few_mt _ (by decide)⟩
 ·exact ⟨few_mt _ (by decide), fun q hq => by cases hq⟩
 ·exact ⟨few_mt _ (by decide), fun q hq => by cases hq⟩
theorem ex_ck : Ck exIx [] exRoots := ⟨ex_few.1, ex_few.2, fun _ => c165 _ _ _ (c84 _ _ ex_few.1)⟩
theorem c21e (a : An) (hs : a.sel = []) (hk : a.skips = []) : PC 21 [ixV exIx [], sl encRq exRoots, .agg (encAn a)] (vi (checkP exIx exRoots a)) :=
 c21 exIx [] exRoots a (c84 _ _ ex_few.1) (c45 _ _ _ _ (c84 _ _ ex_few.1) ex_few.1 (by decide) (fun q hq => (ex_few.2 q hq).1) (by rw [hs]; decide)) ex_few.1 ex_few.2 (by rw [hs]; decide) (by rw [hk]; decide)
abbrev pl10 : Pol := ⟨[], [], [], [], [], [], [], [], [], [], [2, 3, 5, 6]⟩
theorem c10 : PC 10 [] (vb true) := by
 have ha := awake_true
 unfold awakeB at ha
 simp only [Bool.and_eq_true, decide_eq_true_eq] at ha
 obtain ⟨⟨⟨⟨⟨⟨⟨⟨a1, a2⟩, a3⟩, a4⟩, a5⟩, a6⟩, a7⟩, a8⟩, a9⟩ := ha
 have hc12 := c12 exIx [] exRoots exInf ex_ck
 have hc15 := c15 exIx [] exRoots exInf ex_ck
 have hc15b := c15 exIx [] exRoots (exInf.take 6) ex_ck
 have hc18 := c18 exIx [] exRoots [⟨exA, ⟨1, 0, 0⟩⟩, ⟨exB, ⟨1, 0, 0⟩⟩] (c84 _ _ ex_few.1) ex_few.1 ex_few.2 (by decide)
 have hc21 := c21e ⟨false, [], exInf, []⟩ rfl rfl
 have hc21b := c21e ⟨true, [], [], []⟩ rfl rfl
 rw [a1] at hc12
 rw [a5] at hc15
 rw [a6] at hc15b
 rw [a7] at hc18
 rw [a8] at hc21
 rw [a9] at hc21b
 generalize (deriveP exIx exRoots exInf).1 = D at hc12 a2 a3 a4
 obtain ⟨T, hT, hT1⟩ : ∃ T, D[5]? = some T ∧ T.length = 1 := by
  cases h5 : D[5]? with
  | none => rw [h5] at a4; cases a4
  | some T => rw [h5] at a4; exact ⟨T, rfl, Option.some.inj a4⟩
 have hg6 : (D.map encInc)[(6 : Int).toNat]? = some (encInc []) := by rw [List.getElem?_map]; show Option.map encInc D[6]? = _; rw [a3]; rfl
 have hg5 : (D.map encInc)[(5 : Int).toNat]? = some (encInc T) := by rw [List.getElem?_map]; show Option.map encInc D[5]? = _; rw [hT]; rfl
 have hDl : ((D.map encInc).length : Int) = 7 := by rw [Lm, a2]; rfl
 have hTl : ((T.map encTm).length : Int) = 1 := by rw [Lm, hT1]; rfl
 refine pcall_sub (cxp pl10) rfl tab_ok hm rfl Tryz.func10 (by kernel_rfl) rfl (Nz rfl) (by kernel_rfl) ?_
 refine Xi .pure (Xi _ (Yi (c33) ?_))
 refine Yi (Nz rfl) ?_
 refine Xi ⟨[(1, .ref 1 0), (2, sl encRq exRoots), (3, sl encNf exInf)], [(1, .cells [sl encRl exIx, .slice .none []])], hfree⟩ (Yi ?_ ?_)
 ·exact ⟨⟨Zr, Zr, Zr, Tv⟩, ⟨Zr, Tv⟩, Fh, Tv⟩
 refine Yi (Nz rfl) ?_
 refine Xi .pure (Xi _ (Yi (hc12) ?_))
 refine Xi ⟨[(1, .ref 1 0), (2, sl encRq exRoots), (3, sl encNf exInf), (4, sl encInc D), (5, vi 0)], [(1, .cells [sl encRl exIx, .slice .none []])], hfree⟩ (Yi ?_ ?_)
 ·exact ⟨⟨Zr, Zr, Zr, Zr, Zr, Tv⟩, ⟨Zr, Tv⟩, Fh, Tv⟩
 refine Yi (fun h => absurd rfl h) (fun _ => ?_)
 refine Yi (fun h => absurd hDl h) (fun _ => ?_)
 refine Xi (encInc []) (Yi (Yi (by decide) hg6) (Yi rfl ?_))
 refine Yi (fun h => absurd rfl h) (fun _ => ?_)
 refine Xi (encInc T) (Yi (Yi (by decide) hg5) (Yi rfl ?_))
 refine Yi (fun h => absurd hTl h) (fun _ => ?_)
 refine Yi (Nz rfl) ?_
 refine Xi _ (Yi (hc15) ?_)
 refine Yi (fun h => absurd rfl h) (fun _ => ?_)
 refine Yi (Nz rfl) ?_
 refine Yi (by decide) (Yi (fun c hc => by obtain ⟨z, _, rfl⟩ := List.mem_map.1 hc; rfl) ?_)
 refine Xi _ (Yi (hc15b) ?_)
 refine Yi (fun h => absurd rfl h) (fun _ => ?_)
 refine Yi (by kernel_rfl) ?_
 refine Xi ⟨[(1, .ref 1 0), (2, sl encRq exRoots), (3, sl encNf exInf)], [(1, .cells [sl encRl exIx, .slice .none []])], hfree⟩ (Yi ?_ ?_)
 ·exact ⟨⟨Zr, Zr, Zr, Tv⟩, ⟨Zr, Tv⟩, Fh, Tv⟩
 refine Yi (Nz rfl) ?_
 refine Xi .pure (Xi _ (Yi (hc18) ?_))
 refine Xi ⟨[(1, .ref 1 0), (2, sl encRq exRoots), (3, sl encNf exInf), (5, vi 0), (6, sl encStr1 [exA, exB])], [(1, .cells [sl encRl exIx, .slice .none []])], hfree⟩ (Yi ?_ ?_)
 ·exact ⟨⟨Zr, Zr, Zr, Zr, Zr, Tv⟩, ⟨Zr, Tv⟩, Fh, Tv⟩
 have hc20 := c20 [exA, exB] [exA, exB] (by decide)
 rw [decide_eq_true rfl] at hc20
 have sa : ∀ f : Bool, ∀ l : List Nf, Sub (.agg [vb f, nilA, sl encNf l, nilA]) (.agg (encAn ⟨f, [], l, []⟩)) := fun f l => Sub.agg ⟨.refl _, .nil, .refl _, .nil, trivial⟩
 have sb : Sub (.agg [vb true, nilA, nilA, nilA]) (.agg (encAn ⟨true, [], [], []⟩)) := Sub.agg ⟨.refl _, .nil, .nil, .nil, trivial⟩
 have hc21 : PC 21 [ixV exIx [], sl encRq exRoots, .agg [vb false, nilA, sl encNf exInf, nilA]] (vi 0) := hc21.args ⟨.refl _, .refl _, sa _ _, trivial⟩
 have hc21b : PC 21 [ixV exIx [], sl encRq exRoots, .agg [vb true, nilA, nilA, nilA]] (vi 18) := hc21b.args ⟨.refl _, .refl _, sb, trivial⟩
 refine Yi (fun _ => ?_) (fun h => absurd rfl h)
 refine Xi .pure (Xi _ (Yi (hc20) ?_))
 refine Yi (Nz rfl) ?_
 refine Xi .pure (Xi _ (Yi (hc21) ?_))
 refine Yi (fun _ => ?_) (fun h => absurd rfl h)
 refine Yi (Nz rfl) ?_
 refine Xi .pure (Xi _ (Yi (hc21b) ?_))
 refine Yi (fun _ => ?_) (fun h => absurd rfl h)
 exact .refl _
end Go.Eng

namespace Go.Eng
open Go.Proofs
structure Lim (x : List Rl) (roots : List Rq) : Prop where
 ix : Few x
 rs : Few roots
 rel : ∀ r ∈ x, Few r.reqs ∧ FewR r
 rq : ∀ q ∈ roots, FewQ q
theorem Lim.x {x : List Rl} {roots : List Rq} (h : Lim x roots) : ∀ r ∈ x, FewR r := fun r hr => (h.rel r hr).2
theorem Lim.c84 {x : List Rl} {roots : List Rq} (h : Lim x roots) (ifs : List (List AV)) : H84 x ifs := Go.Eng.c84 x ifs h.x
theorem Lim.ck {x : List Rl} {roots : List Rq} (h : Lim x roots) (ifs : List (List AV)) : Ck x ifs roots := ⟨h.x, h.rq, fun _ => c165 _ _ _ (h.c84 ifs)⟩
theorem Lim.c11 {x : List Rl} {roots : List Rq} (h : Lim x roots) (ifs : List (List AV)) : PC 11 [ixV x ifs, sl encRq roots] (vb (smallX x 16 && smallQs roots)) :=
 Go.Eng.c11 x ifs roots h.ix (fun r hr => (h.rel r hr).1) h.rs
end Go.Eng
