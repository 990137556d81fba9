/- Lemmas for the claims of this seat, without a condition: part 2 (P5, P6). -/
import Derived.Test.YtodcmjcogdcmlaaGreatDoorA01
namespace Go.Eng
-- the order of releases
theorem cmpI_zero {a b : Int} (h : cmpI a b = 0) : a = b := by
  unfold cmpI at h
  split at h
  · cases h
  · split at h
    · cases h
    · omega
theorem cmpI_lt {a b : Int} (h : cmpI a b < 0) : a < b := by
  unfold cmpI at h
  split at h
  · assumption
  · split at h <;> omega
theorem cmpI_of_lt {a b : Int} (h : a < b) : cmpI a b = -1 := by unfold cmpI; rw [if_pos h]
theorem cmpI_self (a : Int) : cmpI a a = 0 := by unfold cmpI; simp
theorem cmpB_zero {a b : ByteArray} (h : cmpB a b = 0) : a = b := by
  unfold cmpB at h
  cases h1 : blt a b with
  | true => rw [h1] at h; simp at h
  | false =>
    cases h2 : blt b a with
    | true => rw [h1, h2] at h; simp at h
    | false => exact blt_tri h1 h2
theorem cmpB_lt {a b : ByteArray} (h : cmpB a b < 0) : blt a b = true := by
  unfold cmpB at h
  cases h1 : blt a b with
  | true => rfl
  | false => rw [h1] at h; cases h2 : blt b a <;> rw [h2] at h <;> simp at h
theorem cmpB_of_lt {a b : ByteArray} (h : blt a b = true) : cmpB a b = -1 := by unfold cmpB; rw [if_pos h]
theorem cmpB_self (a : ByteArray) : cmpB a a = 0 := by unfold cmpB; simp [blt_irrefl]
def ltV (a b : Ver) : Prop := a.a < b.a ∨ (a.a = b.a ∧ (a.b < b.b ∨ (a.b = b.b ∧ a.c < b.c)))
def ltR (a b : Rl) : Prop := blt a.path b.path = true ∨ (a.path = b.path ∧ ltV a.ver b.ver)
theorem cmpV_lt {a b : Ver} (h : cmpV a b < 0) : ltV a b := by
  unfold cmpV at h
  split at h
  · exact .inl (cmpI_lt h)
  · rename_i h1
    have h1 := cmpI_zero (Classical.not_not.1 h1)
    split at h
    · exact .inr ⟨h1, .inl (cmpI_lt h)⟩
    · rename_i h2
      exact .inr ⟨h1, .inr ⟨cmpI_zero (Classical.not_not.1 h2), cmpI_lt h⟩⟩
theorem cmpV_zero {a b : Ver} (h : cmpV a b = 0) : a = b := by
  unfold cmpV at h
  split at h
  · rename_i h1; exact absurd h h1
  · rename_i h1
    have h1 := cmpI_zero (Classical.not_not.1 h1)
    split at h
    · rename_i h2; exact absurd h h2
    · rename_i h2
      have h2 := cmpI_zero (Classical.not_not.1 h2)
      have h3 := cmpI_zero h
      cases a; cases b; simp_all
theorem cmpR_zero {a b : Rl} (h : cmpR a b = 0) : keyR a = keyR b := by
  unfold cmpR at h
  split at h
  · rename_i h1; exact absurd h h1
  · rename_i h1
    have h1 := cmpB_zero (Classical.not_not.1 h1)
    have h2 := cmpV_zero h
    unfold keyR; rw [h1, h2]
theorem cmpR_lt {a b : Rl} (h : cmpR a b < 0) : ltR a b := by
  unfold cmpR at h
  split at h
  · exact .inl (cmpB_lt h)
  · rename_i h1
    exact .inr ⟨cmpB_zero (Classical.not_not.1 h1), cmpV_lt h⟩
theorem ltV_trans {a b c : Ver} (h : ltV a b) (k : ltV b c) : ltV a c := by unfold ltV at *; omega
theorem ltR_trans {a b c : Rl} (h : ltR a b) (k : ltR b c) : ltR a c := by
  rcases h with h | ⟨h1, h2⟩
  · rcases k with k | ⟨k1, k2⟩
    · exact .inl (blt_trans h k)
    · exact .inl (k1 ▸ h)
  · rcases k with k | ⟨k1, k2⟩
    · exact .inl (h1 ▸ k)
    · exact .inr ⟨h1.trans k1, ltV_trans h2 k2⟩
theorem ltR_irrefl {a b : Rl} (h : ltR a b) (k : keyR a = keyR b) : False := by
  unfold keyR at k
  simp only [Sl.mk.injEq] at k
  rcases h with h | ⟨_, h⟩
  · rw [k.1, blt_irrefl] at h; cases h
  · rw [k.2] at h; unfold ltV at h; omega
-- a valid index
structure RlOk (r : Rl) : Prop where
  maj : pathMajor r.path = some r.ver.a
  val : validB r.ver = true
  reqs : checkRqs r.reqs = 0
theorem checkRl_ok {r : Rl} (h : checkRl r = 0) : RlOk r := by
  unfold checkRl at h
  split at h
  · cases h
  · rename_i m hm
    split at h
    · cases h
    · rename_i h1
      split at h
      · rename_i h2; exact absurd h h2
      · rename_i h2
        simp only [Bool.or_eq_true, Bool.not_eq_true', decide_eq_false_iff_not, not_or, Classical.not_not] at h1
        refine ⟨by rw [hm, h1.2], by simpa using h1.1, Classical.not_not.1 h2⟩
theorem checkIxGo_ok : ∀ {l : List Rl} {b : Option Rl}, checkIxGo b l = 0 → (∀ r ∈ l, RlOk r) ∧ (l.Pairwise ltR ∧ ∀ c, b = some c → ∀ r ∈ l, ltR c r)
  | [], b, _ => ⟨fun _ h => (by cases h), .nil, fun _ _ _ h => (by cases h)⟩
  | r :: l, b, h => by
    unfold checkIxGo at h
    split at h
    · rename_i h1; exact absurd h h1
    · rename_i h1
      have hr := checkRl_ok (Classical.not_not.1 h1)
      have go : checkIxGo (some r) l = 0 → (∀ c, b = some c → ltR c r) → (∀ z ∈ r :: l, RlOk z) ∧ ((r :: l).Pairwise ltR ∧ ∀ c, b = some c → ∀ z ∈ r :: l, ltR c z) := fun h hc => by
        obtain ⟨i1, i2, i3⟩ := checkIxGo_ok h
        refine ⟨fun z hz => ?_, .cons (i3 r rfl) i2, fun c e z hz => ?_⟩
        · rcases List.mem_cons.1 hz with rfl | hz
          · exact hr
          · exact i1 z hz
        · rcases List.mem_cons.1 hz with rfl | hz
          · exact hc c e
          · exact ltR_trans (hc c e) (i3 r rfl z hz)
      cases b with
      | none => exact go h fun _ e => by cases e
      | some b =>
        dsimp only at h
        split at h
        · cases h
        · rename_i hk
          split at h
          · cases h
          · rename_i hc
            refine go h fun c e => ?_
            cases e
            refine cmpR_lt ?_
            have : cmpR b r ≠ 0 := fun e => hk (cmpR_zero e)
            omega
theorem checkIx_ok {l : List Rl} (h : checkIx l = 0) : (∀ r ∈ l, RlOk r) ∧ l.Pairwise ltR := by
  unfold checkIx at h
  split at h
  · cases h
  · exact ⟨(checkIxGo_ok h).1, (checkIxGo_ok h).2.1⟩
theorem key_unique {l : List Rl} (h : l.Pairwise ltR) {a b : Rl} (ha : a ∈ l) (hb : b ∈ l) (hk : keyR a = keyR b) : a = b := by
  induction h with
  | nil => cases ha
  | cons h1 h2 ih =>
    rcases List.mem_cons.1 ha with e1 | ha
    · rcases List.mem_cons.1 hb with e2 | hb
      · exact e1.trans e2.symm
      · exact (ltR_irrefl (e1 ▸ h1 b hb) hk).elim
    · rcases List.mem_cons.1 hb with e2 | hb
      · exact (ltR_irrefl (e2 ▸ h1 a ha) hk.symm).elim
      · exact ih ha hb
theorem ver_of_place {a b : Ver} (ha : validB a = true) (hb : validB b = true) (h1 : a.a = b.a) (h2 : place a = place b) : a = b := by
  have := valid_place ha
  have := valid_place hb
  unfold place at h2
  have e1 : a.b = b.b := by omega
  have e2 : a.c = b.c := by omega
  cases a; cases b; simp_all
theorem RlOk.plc {r : Rl} (h : RlOk r) : plc r.ver = place r.ver := by unfold Go.Eng.plc; rw [h.val]; rfl
theorem same_rl {l : List Rl} (h : (∀ r ∈ l, RlOk r) ∧ l.Pairwise ltR) {a b : Rl} (ha : a ∈ l) (hb : b ∈ l) (h1 : a.path = b.path) (h2 : place a.ver = place b.ver) : a = b := by
  refine key_unique h.2 ha hb ?_
  have := h.1 a ha
  have := h.1 b hb
  have e : a.ver.a = b.ver.a := by
    have e1 := (h.1 a ha).maj; rw [h1, (h.1 b hb).maj] at e1
    exact (Option.some.inj e1).symm
  unfold keyR
  rw [h1, ver_of_place (h.1 a ha).val (h.1 b hb).val e h2]
theorem findRl_ok {x : List Rl} {y : Sl} {r : Rl} (h : findRl x y = some r) : checkIx x = 0 ∧ r ∈ x ∧ keyR r = y := by
  unfold findRl at h
  split at h
  · cases h
  · rename_i h1
    refine ⟨Classical.not_not.1 h1, List.mem_of_find?_eq_some h, ?_⟩
    have := List.find?_some h; simpa using this
structure Sol (x : List Rl) (roots : List Rq) (s : List Sl) : Prop where
  ix : checkIx x = 0
  inc : increasing s = true
  fnd : ∀ y ∈ s, ∃ r, findRl x y = some r ∧ r.yanked = false
  root : ∀ q ∈ roots, ∃ y, findSl s q.path = some y ∧ has q.set (place y.ver) = true
  req : ∀ y ∈ s, ∀ r, findRl x y = some r → ∀ q ∈ r.reqs, ∃ z, findSl s q.path = some z ∧ has q.set (place z.ver) = true
theorem incGo_pair : ∀ {s : List Sl} {b : Option ByteArray}, incGo b s = true → s.Pairwise (fun a b => blt a.path b.path = true) ∧ ∀ c, b = some c → ∀ y ∈ s, blt c y.path = true
  | [], _, _ => ⟨.nil, fun _ _ _ h => by cases h⟩
  | y :: r, b, h => by
    unfold incGo at h
    simp only [Bool.and_eq_true] at h
    obtain ⟨h1, h2⟩ := h
    obtain ⟨i1, i2⟩ := incGo_pair h2
    refine ⟨.cons (i2 _ rfl) i1, fun c e z hz => ?_⟩
    subst e
    rcases List.mem_cons.1 hz with rfl | hz
    · exact h1
    · exact blt_trans h1 (i2 _ rfl z hz)
theorem findSl_of_mem {s : List Sl} (h : s.Pairwise (fun a b => blt a.path b.path = true)) {y : Sl} (hy : y ∈ s) : findSl s y.path = some y := by
  induction h with
  | nil => cases hy
  | cons h1 h2 ih =>
    rename_i a l
    unfold findSl
    rw [List.find?_cons]
    rcases List.mem_cons.1 hy with rfl | hy
    · simp
    · have := blt_ne (h1 y hy)
      simp only [this, decide_false]
      exact ih hy
theorem findSl_incr {s : List Sl} (h : increasing s = true) {y : Sl} (hy : y ∈ s) : findSl s y.path = some y := findSl_of_mem (incGo_pair h).1 hy
theorem Sol.valid {x : List Rl} {roots : List Rq} {s : List Sl} (h : Sol x roots s) : ValidS s := fun y hy => by
  obtain ⟨r, h1, _⟩ := h.fnd y hy
  obtain ⟨_, h2, h3⟩ := findRl_ok h1
  have := ((checkIx_ok h.ix).1 r h2).val
  rw [← h3]; exact this
theorem selP_ok {x : List Rl} : ∀ {s : List Sl} {l : List Rl}, selP x s = some l → l.map keyR = s ∧ (∀ r ∈ l, findRl x (keyR r) = some r) ∧ ∀ y ∈ s, ∃ r ∈ l, findRl x y = some r
  | [], l, h => by cases h; exact ⟨rfl, fun _ h => (by cases h), fun _ h => (by cases h)⟩
  | y :: s, l, h => by
    unfold selP at h
    split at h
    · cases h
    · rename_i r hr
      split at h
      · cases h
      · rename_i l' hl
        cases h
        obtain ⟨i1, i2, i3⟩ := selP_ok hl
        have hk := (findRl_ok hr).2.2
        refine ⟨by rw [List.map_cons, hk, i1], fun z hz => ?_, fun z hz => ?_⟩
        · rcases List.mem_cons.1 hz with rfl | hz
          · rw [hk]; exact hr
          · exact i2 z hz
        · rcases List.mem_cons.1 hz with rfl | hz
          · exact ⟨r, List.mem_cons_self .., hr⟩
          · obtain ⟨c, c1, c2⟩ := i3 z hz
            exact ⟨c, List.mem_cons_of_mem _ c1, c2⟩
theorem find_keys : ∀ (l : List Rl) (p : ByteArray), (l.find? fun r => decide (r.path = p)).map keyR = findSl (l.map keyR) p
  | [], _ => rfl
  | r :: l, p => by
    unfold findSl
    rw [List.find?_cons, List.map_cons, List.find?_cons]
    show _ = (match decide (r.path = p) with | true => some (keyR r) | false => _)
    cases h : decide (r.path = p) with
    | true => rfl
    | false => exact find_keys l p
theorem not_broken {x : List Rl} {s : List Sl} {l : List Rl} (hx : checkIx x = 0) (hl : selP x s = some l) {q : Rq} (h : brokenP l q = false) : ∃ y, findSl s q.path = some y ∧ has q.set (place y.ver) = true := by
  obtain ⟨h1, h2, h3⟩ := selP_ok hl
  unfold brokenP at h
  have hk := find_keys l q.path
  split at h
  · cases h
  · rename_i r hr
    rw [hr, h1] at hk
    refine ⟨keyR r, hk.symm, ?_⟩
    have hm := (findRl_ok (h2 r (List.mem_of_find?_eq_some hr))).2.1
    show has q.set (place r.ver) = true
    rw [← ((checkIx_ok hx).1 r hm).plc]
    simpa using h
structure Sol0 (x : List Rl) (roots : List Rq) (s : List Sl) (l : List Rl) : Prop where
  ix : checkIx x = 0
  inc : increasing s = true
  sel : selP x s = some l
  rl : ∀ r ∈ l, ∀ q ∈ r.reqs, brokenP l q = false
  rt : ∀ q ∈ roots, brokenP l q = false
  min : l.length ≤ (needP l (fuelP l roots) roots []).length
theorem solvesP_ok {x : List Rl} {roots : List Rq} {s : List Sl} (h : solvesP x roots s = 0) : ∃ l, Sol0 x roots s l := by
  unfold solvesP at h
  split at h
  · cases h
  · rename_i h1
    split at h
    · cases h
    · rename_i h2
      split at h
      · cases h
      · rename_i l hl
        split at h
        · cases h
        · rename_i h3
          split at h
          · cases h
          · rename_i h4
            split at h
            · cases h
            · rename_i h5
              refine ⟨l, Classical.not_not.1 h1, by simpa using h2, hl, fun r hr q hq => ?_, fun q hq => ?_, by omega⟩
              · rw [Bool.not_eq_true, List.any_eq_false] at h3
                have := h3 r hr
                rw [Bool.not_eq_true, List.any_eq_false] at this
                simpa using this q hq
              · rw [Bool.not_eq_true, List.any_eq_false] at h4
                simpa using h4 q hq
theorem Sol0.sol {x : List Rl} {roots : List Rq} {s : List Sl} {l : List Rl} (h : Sol0 x roots s l) (hy : ∀ y ∈ s, ∀ r, findRl x y = some r → r.yanked = false) : Sol x roots s := by
  obtain ⟨h1, h2, h3⟩ := selP_ok h.sel
  refine ⟨h.ix, h.inc, fun y hm => ?_, fun q hq => not_broken h.ix h.sel (h.rt q hq), fun y hm r hr q hq => ?_⟩
  · obtain ⟨r, _, hr⟩ := h3 y hm; exact ⟨r, hr, hy y hm r hr⟩
  · obtain ⟨r', h4, h5⟩ := h3 y hm
    rw [hr] at h5; cases h5
    exact not_broken h.ix h.sel (h.rl r h4 q hq)
-- soundness
theorem outside_sat {q : Rq} {s : List Sl} (h : ∃ y, findSl s q.path = some y ∧ has q.set (place y.ver) = true) : holdsS (outside q) (findSl s q.path) = false := by
  obtain ⟨y, h1, h2⟩ := h
  rw [h1]
  unfold holdsS outside
  dsimp only
  rw [has_compl, h2]; simp
theorem ofT_viol {l : List Tm} {s : List Sl} (hs : ValidS s) (hn : canonT l ≠ none) (hv : violated l s = false) : violated (ofT l) s = false := by
  have := violated_canonT (l := l) hs
  unfold ofT
  cases h : canonT l with
  | none => exact absurd h hn
  | some c => rw [h, hv] at this; exact this.symm
theorem ne0_viol {l : List Tm} {s : List Sl} (hs : ValidS s) {o : List Tm} (h : ne0 (ofT l) = some o) (hv : violated l s = false) : violated o s = false := by
  unfold ne0 at h
  split at h
  · cases h
  · rename_i hne
    cases h
    rw [ofT_sound hs (by intro e; rw [e] at hne; exact hne rfl)]
    exact hv
theorem rootT_some (q : Rq) : canonT [outside q] ≠ none := by
  unfold canonT mergeT
  simp only [List.foldl, insT]
  have : neverT (canT1 (outside q)) = false := by simp [neverT, canT1, outside]
  simp [this]
theorem nthZ_mem {α : Type} {l : List α} {i : Int} {a : α} (h : nthZ l i = some a) : a ∈ l := by
  unfold nthZ at h; split at h
  · cases h
  · exact List.mem_of_getElem? h
theorem inferP_sound {x : List Rl} {roots : List Rq} {s : List Sl} (hs : Sol x roots s) {d : List (List Tm)} (hd : ∀ t ∈ d, violated t s = false) {i : Nf} {o : List Tm} (h : inferP x roots d i = some o) : violated o s = false := by
  have hv := hs.valid
  unfold inferP at h
  split at h
  · split at h
    · rw [Option.map_eq_some_iff] at h
      obtain ⟨q, hq, rfl⟩ := h
      refine ofT_viol hv (rootT_some q) ?_
      rw [Bool.eq_false_iff]
      intro hw
      have := violated_iff.1 hw _ (List.mem_singleton.2 rfl)
      rw [show (outside q).path = q.path from rfl, outside_sat (hs.root q (nthZ_mem hq))] at this
      cases this
    · cases h
  · split at h
    · split at h
      · split at h
        · cases h
        · rename_i r hr
          split at h
          · cases h
          · rename_i q hq
            refine ne0_viol hv h ?_
            rw [Bool.eq_false_iff]
            intro hw
            have h1 := violated_iff.1 hw _ (List.mem_cons_self ..)
            have h2 := violated_iff.1 hw (outside q) (by simp)
            rw [show (outside q).path = q.path from rfl] at h2
            dsimp only at h1
            cases hf : findSl s i.path with
            | none => rw [hf] at h1; simp [holdsS] at h1
            | some y =>
              rw [hf] at h1
              unfold holdsS at h1
              simp only [Bool.and_eq_true] at h1
              have hp : place y.ver = i.place := by
                have := h1.2
                simp only [has, List.any_cons, List.any_nil, Bool.or_false, Bool.and_eq_true, inSpan, decide_eq_true_eq] at this
                omega
              have hy := findSl_mem hf
              have hyp := findSl_path hf
              obtain ⟨r', e1, e2⟩ := hs.fnd y hy
              obtain ⟨_, m1, k1⟩ := findRl_ok e1
              have hr1 : r ∈ x := List.mem_of_find?_eq_some hr
              have hr2 := List.find?_some hr
              simp only [Bool.and_eq_true, decide_eq_true_eq] at hr2
              have hok := checkIx_ok hs.ix
              have : r' = r := by
                refine same_rl hok m1 hr1 ?_ ?_
                · rw [hr2.1, ← hyp, ← k1]; rfl
                · rw [← (hok.1 r hr1).plc, hr2.2, ← hp, ← k1]; rfl
              subst this
              have := hs.req y hy r' e1 q (nthZ_mem hq)
              rw [outside_sat this] at h2
              cases h2
      · cases h
    · split at h
      · split at h
        · refine ne0_viol hv h ?_
          rw [Bool.eq_false_iff]
          intro hw
          have h1 := violated_iff.1 hw _ (List.mem_singleton.2 rfl)
          dsimp only at h1
          cases hf : findSl s i.path with
          | none => rw [hf] at h1; simp [holdsS] at h1
          | some y =>
            rw [hf] at h1
            unfold holdsS at h1
            simp only [Bool.and_eq_true] at h1
            have hy := findSl_mem hf
            have hyp := findSl_path hf
            obtain ⟨r, e1, e2⟩ := hs.fnd y hy
            obtain ⟨_, m1, k1⟩ := findRl_ok e1
            have hok := checkIx_ok hs.ix
            have h1 := h1.2
            rw [has_compl] at h1
            have hin := place_in (hv y hy)
            have : has (availP x i.path) (place y.ver) = true := by
              unfold availP
              rw [has_canon]
              unfold has
              simp only [hin, decide_true, Bool.true_and, List.any_eq_true, List.mem_map, List.mem_filter]
              refine ⟨(plc r.ver, plc r.ver + 1), ⟨r, ⟨?_, by simp [e2]⟩, rfl⟩, ?_⟩
              · unfold ofPath
                simp only [hs.ix, ne_eq, not_true, if_false, List.mem_filter, m1, true_and, decide_eq_true_eq]
                rw [← hyp, ← k1]; rfl
              · rw [(hok.1 r m1).plc, ← k1]
                rw [inSpan_iff]
                exact ⟨Int.le_refl _, by show place r.ver < place r.ver + 1; omega⟩
            rw [this] at h1
            simp at h1
        · cases h
      · split at h
        · split at h
          · split at h
            · rename_i a b ha hb
              split at h
              · rename_i h0
                cases h
                rw [Bool.eq_false_iff]
                intro hw
                rcases resolveT_sound hv (o := (resolveT a b i.path).1) (Prod.ext rfl h0) hw with hw | hw
                · rw [hd a (nthZ_mem ha)] at hw; cases hw
                · rw [hd b (nthZ_mem hb)] at hw; cases hw
              · cases h
            · cases h
          · cases h
        · cases h
theorem deriveGo_sound {x : List Rl} {roots : List Rq} {s : List Sl} (hs : Sol x roots s) : ∀ {l : List Nf} {d d' : List (List Tm)}, (∀ t ∈ d, violated t s = false) → deriveGo x roots l d = some d' → ∀ t ∈ d', violated t s = false
  | [], d, d', hd, h => by cases h; exact hd
  | i :: l, d, d', hd, h => by
    unfold deriveGo at h
    split at h
    · cases h
    · rename_i o ho
      refine deriveGo_sound hs (fun t ht => ?_) h
      rcases List.mem_append.1 ht with ht | ht
      · exact hd t ht
      · rw [List.mem_singleton.1 ht]; exact inferP_sound hs hd ho
theorem deriveP_sound {x : List Rl} {roots : List Rq} {s : List Sl} (hs : Sol x roots s) {l : List Nf} : ∀ t ∈ (deriveP x roots l).1, violated t s = false := by
  unfold deriveP
  split
  · intro t ht; cases ht
  · split
    · intro t ht; cases ht
    · split
      · intro t ht; cases ht
      · rename_i d hd
        exact deriveGo_sound hs (fun t ht => by cases ht) hd
theorem refuted_viol {d : List (List Tm)} (h : refutedB d = true) (s : List Sl) : ∃ t ∈ d, violated t s = true := by
  unfold refutedB at h
  split at h
  · rename_i e
    exact ⟨[], List.mem_of_getLast? e, rfl⟩
  · cases h
end Go.Eng

namespace Go.Eng
theorem nodup_sub_len {α : Type} [DecidableEq α] : ∀ {l m : List α}, l.Nodup → (∀ x ∈ l, x ∈ m) → l.length ≤ m.length
  | [], _, _, _ => Nat.zero_le _
  | a :: l, m, hn, hs => by
    rw [List.nodup_cons] at hn
    have ha : a ∈ m := hs a (List.mem_cons_self ..)
    have := nodup_sub_len (l := l) (m := m.erase a) hn.2 fun x hx => by
      have : x ≠ a := fun e => hn.1 (e ▸ hx)
      exact (List.mem_erase_of_ne this).2 (hs x (List.mem_cons_of_mem _ hx))
    rw [List.length_erase_of_mem ha] at this
    have := List.length_pos_of_mem ha
    simp only [List.length_cons]; omega
theorem nodup_cover {α : Type} [DecidableEq α] {l m : List α} (hn : l.Nodup) (hs : ∀ x ∈ l, x ∈ m) (hl : m.length ≤ l.length) : ∀ x ∈ m, x ∈ l := fun x hx => by
  apply Classical.byContradiction
  intro hnx
  have := nodup_sub_len (m := m.erase x) hn fun y hy => (List.mem_erase_of_ne (a := y) (b := x) (fun e => hnx (by rw [← e]; exact hy))).2 (hs y hy)
  rw [List.length_erase_of_mem hx] at this
  have := List.length_pos_of_mem hx
  omega
abbrev IncS (s : List Sl) : Prop := s.Pairwise (fun a b => blt a.path b.path = true)
theorem incS_nodup {s : List Sl} (h : IncS s) : (s.map (·.path)).Nodup := by
  induction h with
  | nil => exact .nil
  | cons h1 h2 ih =>
    rw [List.map_cons, List.nodup_cons]
    refine ⟨fun hm => ?_, ih⟩
    obtain ⟨z, hz, e⟩ := List.mem_map.1 hm
    have := blt_ne (h1 z hz)
    exact this e.symm
theorem incS_ext : ∀ {a b : List Sl}, IncS a → IncS b → (∀ y, y ∈ a ↔ y ∈ b) → a = b
  | [], [], _, _, _ => rfl
  | [], z :: s, _, _, h => by have := (h z).2 (List.mem_cons_self ..); cases this
  | z :: s, [], _, _, h => by have := (h z).1 (List.mem_cons_self ..); cases this
  | y :: r, z :: s, ha, hb, h => by
    have ha := List.pairwise_cons.1 ha
    have hb := List.pairwise_cons.1 hb
    have e : y = z := by
      rcases List.mem_cons.1 ((h y).1 (List.mem_cons_self ..)) with e | h1
      · exact e
      · rcases List.mem_cons.1 ((h z).2 (List.mem_cons_self ..)) with e | h2
        · exact e.symm
        · have a1 := ha.1 z h2
          have a2 := hb.1 y h1
          rw [blt_asymm a1] at a2; cases a2
    subst e
    congr 1
    refine incS_ext ha.2 hb.2 fun x => ⟨fun hx => ?_, fun hx => ?_⟩
    · rcases List.mem_cons.1 ((h x).1 (List.mem_cons_of_mem _ hx)) with e | h1
      · subst e; have := ha.1 x hx; rw [blt_irrefl] at this; cases this
      · exact h1
    · rcases List.mem_cons.1 ((h x).2 (List.mem_cons_of_mem _ hx)) with e | h1
      · subst e; have := hb.1 x hx; rw [blt_irrefl] at this; cases this
      · exact h1
-- the next path
theorem nextGo_spec (before : List Sl) : ∀ {l : List Rq} {acc : Option ByteArray}, (∀ p, acc = some p → hasPath before p = false) →
    (∀ p, nextGo before l acc = some p → hasPath before p = false ∧ (acc = some p ∨ ∃ q ∈ l, q.path = p)) ∧ (nextGo before l acc = none → acc = none ∧ ∀ q ∈ l, hasPath before q.path = true)
  | [], acc, ha => ⟨fun p h => ⟨ha p h, .inl h⟩, fun h => ⟨h, fun _ h => (by cases h)⟩⟩
  | q :: l, acc, ha => by
    unfold nextGo
    have key : ∀ acc', (∀ p, acc' = some p → hasPath before p = false) → (∀ p, acc' = some p → acc = some p ∨ q.path = p) → (acc' = none → acc = none ∧ hasPath before q.path = true) →
        (∀ p, nextGo before l acc' = some p → hasPath before p = false ∧ (acc = some p ∨ ∃ q' ∈ q :: l, q'.path = p)) ∧ (nextGo before l acc' = none → acc = none ∧ ∀ q' ∈ q :: l, hasPath before q'.path = true) := by
      intro acc' h1 h2 h3
      obtain ⟨i1, i2⟩ := nextGo_spec before (l := l) h1
      refine ⟨fun p h => ?_, fun h => ?_⟩
      · obtain ⟨j1, j2⟩ := i1 p h
        refine ⟨j1, ?_⟩
        rcases j2 with j2 | ⟨q', j3, j4⟩
        · rcases h2 p j2 with h2 | h2
          · exact .inl h2
          · exact .inr ⟨q, List.mem_cons_self .., h2⟩
        · exact .inr ⟨q', List.mem_cons_of_mem _ j3, j4⟩
      · obtain ⟨j1, j2⟩ := i2 h
        obtain ⟨k1, k2⟩ := h3 j1
        refine ⟨k1, fun q' hq => ?_⟩
        rcases List.mem_cons.1 hq with rfl | hq
        · exact k2
        · exact j2 q' hq
    cases hb : hasPath before q.path with
    | true => simp only [if_true]; exact key acc ha (fun p h => .inl h) fun h => ⟨h, hb⟩
    | false =>
      simp only [Bool.false_eq_true, if_false]
      cases acc with
      | none => exact key _ (fun p h => by cases h; exact hb) (fun p h => by cases h; exact .inr rfl) fun h => by cases h
      | some p0 =>
        dsimp only
        split
        · exact key _ (fun p h => by cases h; exact hb) (fun p h => by cases h; exact .inr rfl) fun h => by cases h
        · exact key _ (fun p h => by cases h; exact ha _ rfl) (fun p h => by cases h; exact .inl rfl) fun h => by cases h
theorem nextP_some {needs : List Rq} {before : List Sl} {p : ByteArray} (h : nextP needs before = some p) : hasPath before p = false ∧ ∃ q ∈ needs, q.path = p := by
  obtain ⟨h1, h2⟩ := (nextGo_spec before (l := needs) (acc := none) fun _ e => by cases e).1 p h
  rcases h2 with h2 | h2
  · cases h2
  · exact ⟨h1, h2⟩
theorem nextP_none {needs : List Rq} {before : List Sl} (h : nextP needs before = none) : ∀ q ∈ needs, hasPath before q.path = true :=
  ((nextGo_spec before (l := needs) (acc := none) fun _ e => by cases e).2 h).2
theorem hasPath_append (a b : List Sl) (p : ByteArray) : hasPath (a ++ b) p = (hasPath a p || hasPath b p) := by unfold hasPath; rw [List.any_append]
theorem hasPath_true {s : List Sl} {p : ByteArray} : hasPath s p = true ↔ ∃ y ∈ s, y.path = p := by unfold hasPath; simp
theorem hasPath_mem {s : List Sl} {p : ByteArray} : hasPath s p = true ↔ p ∈ s.map (·.path) := by rw [hasPath_true, List.mem_map]
abbrev keyVi (v : Vis) : Sl := keyR v.rel
structure Run (x : List Rl) (s : List Sl) (before : List Sl) (needs : List Rq) (vs : List Vis) : Prop where
  closed : ∀ q ∈ needs, hasPath (before ++ vs.map keyVi) q.path = true
  closedR : ∀ v ∈ vs, ∀ q ∈ v.rel.reqs, hasPath (before ++ vs.map keyVi) q.path = true
  mem : ∀ v ∈ vs, keyVi v ∈ s ∧ findRl x (keyVi v) = some v.rel
  nodup : ((before ++ vs.map keyVi).map (·.path)).Nodup
theorem run_of {x : List Rl} {s : List Sl} : ∀ {n : Nat} {before : List Sl} {needs : List Rq}, (before.map (·.path)).Nodup → (∀ y ∈ before, y ∈ s) → s.length + 1 ≤ n + before.length → (decideP x s n before needs).2 = true →
    Run x s before needs (decideP x s n before needs).1
  | 0, before, needs, h1, h2, h3, _ => by
    exfalso
    have := nodup_sub_len (m := s.map (·.path)) h1 fun p hp => by
      obtain ⟨y, hy, e⟩ := List.mem_map.1 hp
      exact List.mem_map.2 ⟨y, h2 y hy, e⟩
    simp only [List.length_map] at this
    omega
  | n + 1, before, needs, h1, h2, h3, h4 => by
    unfold decideP at h4 ⊢
    cases hp : nextP needs before with
    | none => exact ⟨fun q hq => by simpa using nextP_none hp q hq, fun _ h => (by cases h), fun _ h => (by cases h), by simpa using h1⟩
    | some p =>
      rw [hp] at h4
      dsimp only at h4 ⊢
      cases hf : findSl s p with
      | none => rw [hf] at h4; cases h4
      | some y =>
        rw [hf] at h4
        dsimp only at h4 ⊢
        cases hr : findRl x y with
        | none => rw [hr] at h4; cases h4
        | some r =>
          rw [hr] at h4
          dsimp only at h4 ⊢
          obtain ⟨g1, g2⟩ := nextP_some hp
          have hy := findSl_mem hf
          have hyp := findSl_path hf
          have hk : keyR r = y := (findRl_ok hr).2.2
          have ih := run_of (x := x) (s := s) (n := n) (before := before ++ [y]) (needs := needs ++ r.reqs) (by
              rw [List.map_append, List.nodup_append]
              refine ⟨h1, by simp, fun a ha b hb => ?_⟩
              have hb : b = y.path := by simpa using hb
              intro e
              subst e
              have := hasPath_mem.2 ha
              rw [hb, hyp, g1] at this; cases this)
            (fun z hz => by
              rcases List.mem_append.1 hz with hz | hz
              · exact h2 z hz
              · rw [List.mem_singleton.1 hz]; exact hy) (by rw [List.length_append, List.length_singleton]; omega) h4
          have e : before ++ (⟨before, needs, r⟩ :: (decideP x s n (before ++ [y]) (needs ++ r.reqs)).1).map keyVi = before ++ [y] ++ (decideP x s n (before ++ [y]) (needs ++ r.reqs)).1.map keyVi := by
            rw [List.map_cons, show keyVi ⟨before, needs, r⟩ = y from hk, List.append_assoc]; rfl
          refine ⟨fun q hq => ?_, fun v hv q hq => ?_, fun v hv => ?_, ?_⟩
          · rw [e]; exact ih.closed q (List.mem_append_left _ hq)
          · rw [e]
            rcases List.mem_cons.1 hv with rfl | hv
            · exact ih.closed q (List.mem_append_right _ hq)
            · exact ih.closedR v hv q hq
          · rcases List.mem_cons.1 hv with rfl | hv
            · show keyR r ∈ s ∧ findRl x (keyR r) = some r
              rw [hk]; exact ⟨hy, hr⟩
            · exact ih.mem v hv
          · rw [e]; exact ih.nodup
theorem visits_run {x : List Rl} {roots : List Rq} {s : List Sl} (h : (visits x roots s).2 = true) : Run x s [] roots (visits x roots s).1 := run_of (by simp) (fun _ h => by cases h) (by simp) h
theorem decideP_true {x : List Rl} {s : List Sl} (hs : ∀ y ∈ s, ∃ r, findRl x y = some r) (hq : ∀ y ∈ s, ∀ r, findRl x y = some r → ∀ q ∈ r.reqs, ∃ z, findSl s q.path = some z) :
    ∀ {n : Nat} {before : List Sl} {needs : List Rq}, (∀ q ∈ needs, ∃ z, findSl s q.path = some z) → (decideP x s n before needs).2 = true
  | 0, _, _, _ => rfl
  | n + 1, before, needs, hn => by
    unfold decideP
    cases hp : nextP needs before with
    | none => rfl
    | some p =>
      dsimp only
      obtain ⟨_, q, q1, q2⟩ := nextP_some hp
      obtain ⟨z, hz⟩ := hn q q1
      rw [q2] at hz
      rw [hz]
      dsimp only
      obtain ⟨r, hr⟩ := hs z (findSl_mem hz)
      rw [hr]
      dsimp only
      refine decideP_true hs hq fun q hq' => ?_
      rcases List.mem_append.1 hq' with h | h
      · exact hn q h
      · exact hq z (findSl_mem hz) r hr q h
-- what is needed
theorem needP_sub {l : List Rl} {C : List ByteArray} (hC : ∀ r ∈ l, r.path ∈ C → ∀ q ∈ r.reqs, q.path ∈ C) : ∀ {n : Nat} {t : List Rq} {d : List ByteArray}, (∀ q ∈ t, q.path ∈ C) → (∀ p ∈ d, p ∈ C) → ∀ p ∈ needP l n t d, p ∈ C
  | 0, _, _, _, hd => by unfold needP; exact hd
  | _ + 1, [], _, _, hd => by unfold needP; exact hd
  | n + 1, q :: t, d, ht, hd => by
    unfold needP
    split
    · exact needP_sub hC (fun q hq => ht q (List.mem_cons_of_mem _ hq)) hd
    · refine needP_sub hC (fun q' hq => ?_) fun p hp => ?_
      · rcases List.mem_append.1 hq with hq | hq
        · exact ht q' (List.mem_cons_of_mem _ hq)
        · unfold reqsOf at hq
          split at hq
          · cases hq
          · rename_i r hr
            have h1 := List.find?_some hr
            simp only [decide_eq_true_eq] at h1
            exact hC r (List.mem_of_find?_eq_some hr) (h1 ▸ ht q (List.mem_cons_self ..)) q' hq
      · rcases List.mem_append.1 hp with hp | hp
        · exact hd p hp
        · rw [List.mem_singleton.1 hp]; exact ht q (List.mem_cons_self ..)
theorem needP_nodup {l : List Rl} : ∀ {n : Nat} {t : List Rq} {d : List ByteArray}, d.Nodup → (needP l n t d).Nodup
  | 0, _, _, hd => by unfold needP; exact hd
  | _ + 1, [], _, hd => by unfold needP; exact hd
  | n + 1, q :: t, d, hd => by
    unfold needP
    split
    · exact needP_nodup hd
    · rename_i h
      refine needP_nodup ?_
      rw [List.nodup_append]
      refine ⟨hd, by simp, fun a ha b hb e => ?_⟩
      subst e
      rw [List.mem_singleton.1 hb] at ha
      exact h (List.any_eq_true.2 ⟨q.path, ha, by simp⟩)
theorem closed_all {x : List Rl} {roots : List Rq} {s : List Sl} {l : List Rl} (h : Sol0 x roots s l) {C : List ByteArray} (hn : C.Nodup) (hr : ∀ q ∈ roots, q.path ∈ C) (hC : ∀ y ∈ s, ∀ r, findRl x y = some r → y.path ∈ C → ∀ q ∈ r.reqs, q.path ∈ C)
    (hs : ∀ p ∈ C, p ∈ s.map (·.path)) : (∀ y ∈ s, y.path ∈ C) ∧ C.length = s.length := by
  obtain ⟨h1, h2, h3⟩ := selP_ok h.sel
  have hsub := needP_sub (l := l) (C := C) (fun r hr hp q hq => by
    have hk : keyR r ∈ s := by rw [← h1]; exact List.mem_map.2 ⟨r, hr, rfl⟩
    exact hC (keyR r) hk r (h2 r hr) hp q hq) (n := fuelP l roots) (t := roots) (d := []) hr (fun _ h => by cases h)
  have hlen := nodup_sub_len (needP_nodup (l := l) (n := fuelP l roots) (t := roots) List.nodup_nil) hsub
  have hl : l.length = s.length := by rw [← h1, List.length_map]
  have hmin := h.min
  have hcov := nodup_cover hn hs (by rw [List.length_map]; omega)
  refine ⟨fun y hy => hcov _ (List.mem_map.2 ⟨y, hy, rfl⟩), ?_⟩
  have := nodup_sub_len hn hs
  rw [List.length_map] at this
  omega
theorem Sol0.fnd {x : List Rl} {roots : List Rq} {s : List Sl} {l : List Rl} (h : Sol0 x roots s l) : ∀ y ∈ s, ∃ r, findRl x y = some r := fun y hy => by
  obtain ⟨r, _, h⟩ := (selP_ok h.sel).2.2 y hy; exact ⟨r, h⟩
theorem Sol0.req {x : List Rl} {roots : List Rq} {s : List Sl} {l : List Rl} (h : Sol0 x roots s l) : ∀ y ∈ s, ∀ r, findRl x y = some r → ∀ q ∈ r.reqs, ∃ z, findSl s q.path = some z ∧ has q.set (place z.ver) = true := fun y hy r hr q hq => by
  obtain ⟨r', h4, h5⟩ := (selP_ok h.sel).2.2 y hy
  rw [hr] at h5; cases h5
  exact not_broken h.ix h.sel (h.rl r h4 q hq)
theorem Sol0.root {x : List Rl} {roots : List Rq} {s : List Sl} {l : List Rl} (h : Sol0 x roots s l) : ∀ q ∈ roots, ∃ z, findSl s q.path = some z ∧ has q.set (place z.ver) = true := fun q hq => not_broken h.ix h.sel (h.rt q hq)
theorem Sol0.visits {x : List Rl} {roots : List Rq} {s : List Sl} {l : List Rl} (h : Sol0 x roots s l) : (visits x roots s).2 = true :=
  decideP_true h.fnd (fun y hy r hr q hq => let ⟨z, hz, _⟩ := h.req y hy r hr q hq; ⟨z, hz⟩) fun q hq => let ⟨z, hz, _⟩ := h.root q hq; ⟨z, hz⟩
theorem Sol0.all {x : List Rl} {roots : List Rq} {s : List Sl} {l : List Rl} (h : Sol0 x roots s l) : (∀ y ∈ s, ∃ v ∈ (Go.Eng.visits x roots s).1, keyVi v = y) ∧ (Go.Eng.visits x roots s).1.length = s.length := by
  have hr := visits_run h.visits
  have hu : ∀ {y : Sl}, y ∈ s → findSl s y.path = some y := findSl_incr h.inc
  have key : ∀ y ∈ s, y.path ∈ ((Go.Eng.visits x roots s).1.map keyVi).map (·.path) → ∃ v ∈ (Go.Eng.visits x roots s).1, keyVi v = y := fun y hy hp => by
    obtain ⟨z, hz, e⟩ := List.mem_map.1 hp
    obtain ⟨v, hv, rfl⟩ := List.mem_map.1 hz
    refine ⟨v, hv, ?_⟩
    have h1 := hu (hr.mem v hv).1
    have h2 := hu hy
    rw [e, h2] at h1
    exact (Option.some.inj h1).symm
  have := closed_all h (C := ((Go.Eng.visits x roots s).1.map keyVi).map (·.path)) (by simpa using hr.nodup) (fun q hq => by have := hr.closed q hq; rw [hasPath_mem] at this; simpa using this) (fun y hy r hrl hp q hq => by
    obtain ⟨v, hv, e⟩ := key y hy hp
    have h1 := (hr.mem v hv).2
    rw [e, hrl] at h1
    cases h1
    have := hr.closedR v hv q hq; rw [hasPath_mem] at this; simpa using this) (fun p hp => by
    obtain ⟨z, hz, rfl⟩ := List.mem_map.1 hp
    obtain ⟨v, hv, rfl⟩ := List.mem_map.1 hz
    exact List.mem_map.2 ⟨_, (hr.mem v hv).1, rfl⟩)
  refine ⟨fun y hy => key y hy (this.1 y hy), by simpa using this.2⟩
-- skips
theorem skipGo_covers {d : List (List Tm)} {v : Vis} : ∀ {x : List Rl} {k k' : List Sk}, skipGo d v x k = (k', true) → ∀ o ∈ x, o.path = v.rel.path → o.yanked = false → plc o.ver < plc v.rel.ver →
    (∀ q ∈ v.needs, q.path = v.rel.path → has q.set (plc o.ver) = true) → ∃ t ∈ d, entailed t (v.before ++ [keyR o]) = true
  | [], _, _, _, o, ho, _, _, _, _ => by cases ho
  | z :: x, k, k', h, o, ho, h1, h2, h3, h4 => by
    unfold skipGo at h
    have other : ∀ {k k'}, skipGo d v x k = (k', true) → o ∈ x → ∃ t ∈ d, entailed t (v.before ++ [keyR o]) = true := fun hk ho => skipGo_covers hk o ho h1 h2 h3 h4
    split at h
    · rename_i hc
      rcases List.mem_cons.1 ho with rfl | ho
      · simp [h1, h2, h3] at hc
      · exact other h ho
    · split at h
      · rename_i hc
        rcases List.mem_cons.1 ho with rfl | ho
        · exfalso
          obtain ⟨q, hq, hb⟩ := List.any_eq_true.1 hc
          simp only [Bool.and_eq_true, decide_eq_true_eq, Bool.not_eq_true'] at hb
          rw [h4 q hq hb.1] at hb; cases hb.2
        · exact other h ho
      · split at h
        · simp at h
        · split at h
          · simp at h
          · split at h
            · simp at h
            · rename_i t ht
              split at h
              · rename_i he
                rcases List.mem_cons.1 ho with rfl | ho
                · exact ⟨t, nthZ_mem ht, he⟩
                · exact other h ho
              · simp at h
theorem entailed_sub {t : List Tm} {b s : List Sl} (hs : increasing s = true) (hb : ∀ y ∈ b, y ∈ s) (h : entailed t b = true) : violated t s = true := by
  unfold entailed at h
  simp only [Bool.and_eq_true, Bool.not_eq_true', List.any_eq_false] at h
  obtain ⟨h1, h2⟩ := h
  rw [violated_iff] at h1 ⊢
  intro u hu
  have := h2 u hu
  simp only [Bool.not_eq_false] at this
  rw [hasPath_iff] at this
  cases hf : findSl b u.path with
  | none => rw [hf] at this; cases this
  | some y =>
    have h3 := h1 u hu
    rw [hf] at h3
    have := findSl_incr hs (hb y (findSl_mem hf))
    rw [findSl_path hf] at this
    rw [this]; exact h3
theorem skip_min {x : List Rl} {roots : List Rq} {s : List Sl} (hs : Sol x roots s) {d : List (List Tm)} (hd : ∀ t ∈ d, violated t s = false) {v : Vis} {k k' : List Sk} (hk : skipGo d v x k = (k', true)) (hb : ∀ y ∈ v.before, y ∈ s)
    {y : Sl} (hy : y ∈ s) (hp : y.path = v.rel.path) (hn : ∀ q ∈ v.needs, q.path = v.rel.path → has q.set (place y.ver) = true) (hv : v.rel ∈ x) : ¬ place y.ver < place v.rel.ver := fun hlt => by
  obtain ⟨r, e1, e2⟩ := hs.fnd y hy
  obtain ⟨_, m, kr⟩ := findRl_ok e1
  have hok := checkIx_ok hs.ix
  have hver : r.ver = y.ver := by rw [← kr]; rfl
  have hpath : r.path = y.path := by rw [← kr]; rfl
  have e3 : plc r.ver = place y.ver := by rw [(hok.1 r m).plc, hver]
  obtain ⟨t, ht, he⟩ := skipGo_covers hk r m (hpath.trans hp) e2 (by rw [e3, (hok.1 _ hv).plc]; exact hlt) (fun q hq hqp => by rw [e3]; exact hn q hq hqp)
  have := entailed_sub (s := s) hs.inc (fun z hz => by
    rcases List.mem_append.1 hz with hz | hz
    · exact hb z hz
    · rw [List.mem_singleton.1 hz, kr]; exact hy) he
  rw [hd t ht] at this; cases this
theorem run_first {x : List Rl} {roots : List Rq} {s a : List Sl} (hs : Sol x roots s) {d : List (List Tm)} (hd : ∀ t ∈ d, violated t s = false) : ∀ {n : Nat} {before : List Sl} {needs : List Rq}, (∀ y ∈ before, y ∈ s) →
    (∀ q ∈ needs, ∃ z, findSl s q.path = some z ∧ has q.set (place z.ver) = true) → (∀ v ∈ (decideP x a n before needs).1, ∃ k k', skipGo d v x k = (k', true)) →
    (∀ v ∈ (decideP x a n before needs).1, keyVi v ∈ s) ∨ ∃ pre v post y, (decideP x a n before needs).1 = pre ++ v :: post ∧ (∀ u ∈ pre, keyVi u ∈ s) ∧ findSl s v.rel.path = some y ∧ place v.rel.ver < place y.ver
  | 0, _, _, _, _, _ => .inl fun _ h => by cases h
  | n + 1, before, needs, hb, hn, hv => by
    unfold decideP at hv ⊢
    cases hp : nextP needs before with
    | none => exact .inl fun _ h => by cases h
    | some p =>
      rw [hp] at hv
      dsimp only at hv ⊢
      cases hf : findSl a p with
      | none => exact .inl fun _ h => by cases h
      | some y =>
        rw [hf] at hv
        dsimp only at hv ⊢
        cases hr : findRl x y with
        | none => exact .inl fun _ h => by cases h
        | some r =>
          rw [hr] at hv
          dsimp only at hv ⊢
          obtain ⟨_, q, q1, q2⟩ := nextP_some hp
          obtain ⟨z, z1, z2⟩ := hn q q1
          rw [q2] at z1
          have hz := findSl_mem z1
          have hzp := findSl_path z1
          have hyp := findSl_path hf
          obtain ⟨_, m, kr⟩ := findRl_ok hr
          have hrp : r.path = p := by rw [← hyp, ← kr]; rfl
          obtain ⟨k, k', hk⟩ := hv ⟨before, needs, r⟩ (List.mem_cons_self ..)
          have hmin := skip_min hs hd hk hb hz (hzp.trans hrp.symm) (fun q' hq' hqp => by
            obtain ⟨z', c1, c2⟩ := hn q' hq'
            dsimp only at hqp
            rw [hqp, hrp, z1] at c1
            cases c1; exact c2) m
          dsimp only at hmin
          by_cases e : place z.ver = place r.ver
          · obtain ⟨rz, e1, e2⟩ := hs.fnd z hz
            obtain ⟨_, mz, kz⟩ := findRl_ok e1
            have : rz = r := same_rl (checkIx_ok hs.ix) mz m (by rw [hrp, ← hzp, ← kz]; rfl) (by rw [← e, ← kz]; rfl)
            subst this
            have hyz : y = z := kr.symm.trans kz
            subst hyz
            have ih := run_first hs hd (a := a) (n := n) (before := before ++ [y]) (needs := needs ++ rz.reqs) (fun w hw => by
              rcases List.mem_append.1 hw with hw | hw
              · exact hb w hw
              · rw [List.mem_singleton.1 hw]; exact hz) (fun q' hq' => by
              rcases List.mem_append.1 hq' with hq' | hq'
              · exact hn q' hq'
              · exact hs.req y hz rz e1 q' hq') fun v hv' => hv v (List.mem_cons_of_mem _ hv')
            rcases ih with ih | ⟨pre, v, post, w, i1, i2, i3, i4⟩
            · refine .inl fun v hv' => ?_
              rcases List.mem_cons.1 hv' with rfl | hv'
              · show keyR rz ∈ s
                rw [kr]; exact hz
              · exact ih v hv'
            · refine .inr ⟨⟨before, needs, rz⟩ :: pre, v, post, w, by rw [i1]; rfl, fun u hu => ?_, i3, i4⟩
              rcases List.mem_cons.1 hu with rfl | hu
              · show keyR rz ∈ s
                rw [kr]; exact hz
              · exact i2 u hu
          · refine .inr ⟨[], ⟨before, needs, r⟩, _, z, rfl, fun _ h => (by cases h), by dsimp only; rw [hrp]; exact z1, ?_⟩
            dsimp only; omega
theorem run_same {x : List Rl} {roots : List Rq} {s a : List Sl} {ls la : List Rl} (hs : Sol0 x roots s ls) (ha : Sol0 x roots a la) (h : ∀ v ∈ (visits x roots a).1, keyVi v ∈ s) : a = s := by
  have hr := visits_run ha.visits
  have hall := ha.all
  have hu : ∀ {y : Sl}, y ∈ s → findSl s y.path = some y := findSl_incr hs.inc
  have key : ∀ y ∈ s, y.path ∈ ((visits x roots a).1.map keyVi).map (·.path) → ∃ v ∈ (visits x roots a).1, keyVi v = y := fun y hy hp => by
    obtain ⟨z, hz, e⟩ := List.mem_map.1 hp
    obtain ⟨v, hv, rfl⟩ := List.mem_map.1 hz
    refine ⟨v, hv, ?_⟩
    have h1 := hu (h v hv)
    have h2 := hu hy
    rw [e, h2] at h1
    exact (Option.some.inj h1).symm
  have := closed_all hs (C := ((visits x roots a).1.map keyVi).map (·.path)) (by simpa using hr.nodup) (fun q hq => by have := hr.closed q hq; rw [hasPath_mem] at this; simpa using this) (fun y hy r hrl hp q hq => by
    obtain ⟨v, hv, e⟩ := key y hy hp
    have h1 := (hr.mem v hv).2
    rw [e, hrl] at h1
    cases h1
    have := hr.closedR v hv q hq; rw [hasPath_mem] at this; simpa using this) (fun p hp => by
    obtain ⟨z, hz, rfl⟩ := List.mem_map.1 hp
    obtain ⟨v, hv, rfl⟩ := List.mem_map.1 hz
    exact List.mem_map.2 ⟨_, h v hv, rfl⟩)
  refine incS_ext (incGo_pair ha.inc).1 (incGo_pair hs.inc).1 fun y => ⟨fun hy => ?_, fun hy => ?_⟩
  · obtain ⟨v, hv, rfl⟩ := hall.1 y hy; exact h v hv
  · obtain ⟨v, hv, rfl⟩ := key y hy (this.1 y hy); exact (hr.mem v hv).1
end Go.Eng
