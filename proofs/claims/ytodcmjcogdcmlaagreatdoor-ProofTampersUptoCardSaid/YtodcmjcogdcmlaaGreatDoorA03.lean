/- Lemmas for the claims of this seat, without a condition: part 3 (P7, P8, P9). -/
import Derived.Test.YtodcmjcogdcmlaaGreatDoorA02
namespace Go.Eng
def badY (x : List Rl) (y : Sl) : Bool := match findRl x y with | none => true | some r => r.yanked
theorem sol_of {x : List Rl} {roots : List Rq} {s : List Sl} (h : solvesP x roots s = 0) (hb : s.any (badY x) = false) : Sol x roots s ∧ ∃ l, Sol0 x roots s l := by
  obtain ⟨l, hl⟩ := solvesP_ok h
  refine ⟨hl.sol fun y hy r hr => ?_, l, hl⟩
  rw [List.any_eq_false] at hb
  have := hb y hy
  unfold badY at this
  rw [hr] at this
  simpa using this
theorem deriveP_err {x : List Rl} {roots : List Rq} {l : List Nf} (h : (deriveP x roots l).2 ≠ 0) : (deriveP x roots l).1 = [] := by
  unfold deriveP at *
  by_cases h1 : checkIx x ≠ 0 ∨ checkRqs roots ≠ 0
  · rw [if_pos h1]
  · rw [if_neg h1] at h ⊢
    by_cases h2 : 65536 < l.length
    · rw [if_pos h2]
    · rw [if_neg h2] at h ⊢
      cases h3 : deriveGo x roots l [] with
      | none => rfl
      | some d => rw [h3] at h; exact absurd rfl h
theorem refutedB_not {x : List Rl} {roots : List Rq} {s : List Sl} (hs : Sol x roots s) (l : List Nf) : refutedB (deriveP x roots l).1 = false := by
  rw [Bool.eq_false_iff]
  intro h
  obtain ⟨t, h1, h2⟩ := refuted_viol h s
  rw [deriveP_sound hs t h1] at h2; cases h2
theorem law_sound {x : List Rl} {roots : List Rq} {l : List Nf} {s : List Sl} (h : solvesP x roots s = 0) (hb : s.any (badY x) = false) (he : (deriveP x roots l).2 = 0) :
    (deriveP x roots l).1.any (fun y => violated y s) = false ∧ refutesP x roots l = 18 := by
  have hs := (sol_of h hb).1
  refine ⟨?_, ?_⟩
  · rw [List.any_eq_false]
    intro t ht
    rw [deriveP_sound hs t ht]; simp
  · unfold refutesP
    rw [if_neg (by rw [he]; simp), refutedB_not hs]; rfl
-- right answers
theorem fold_skip {x : List Rl} {d : List (List Tm)} : ∀ {vs : List Vis} {a : Bool × List Sk}, (vs.foldl (skipStep x d) a).1 = true → a.1 = true ∧ ∀ v ∈ vs, (∃ k k', skipGo d v x k = (k', true)) ∧ v.rel.yanked = false
  | [], a, h => ⟨h, fun _ h => by cases h⟩
  | v :: vs, a, h => by
    rw [List.foldl_cons] at h
    obtain ⟨i1, i2⟩ := fold_skip h
    unfold skipStep at i1
    simp only [Bool.and_eq_true, Bool.not_eq_true'] at i1
    refine ⟨i1.1.1, fun u hu => ?_⟩
    rcases List.mem_cons.1 hu with rfl | hu
    · exact ⟨⟨a.2, _, Prod.ext rfl i1.1.2⟩, i1.2⟩
    · exact i2 u hu
structure Right (x : List Rl) (roots : List Rq) (a : An) (l : List Rl) : Prop where
  d0 : (deriveP x roots a.infs).2 = 0
  sol0 : Sol0 x roots a.sel l
  sol : Sol x roots a.sel
  skip : ∀ v ∈ (visits x roots a.sel).1, ∃ k k', skipGo (deriveP x roots a.infs).1 v x k = (k', true)
theorem checkP_ok {x : List Rl} {roots : List Rq} {a : An} (h : checkP x roots a = 0) :
    (deriveP x roots a.infs).2 = 0 ∧ ((a.found = false ∧ a.sel = [] ∧ a.skips = [] ∧ refutedB (deriveP x roots a.infs).1 = true) ∨
      (a.found = true ∧ (∃ l, Right x roots a l) ∧ solvesP x roots a.sel = 0 ∧ (visits x roots a.sel).1.foldl (skipStep x (deriveP x roots a.infs).1) (true, a.skips) = (true, []))) := by
  unfold checkP at h
  split at h
  · rename_i h1; exact absurd h h1
  · rename_i h1
    have h1 := Classical.not_not.1 h1
    refine ⟨h1, ?_⟩
    split at h
    · rename_i h2
      split at h
      · cases h
      · rename_i h3
        simp only [Bool.or_eq_true, Bool.not_eq_true', not_or, Bool.not_eq_false, List.isEmpty_iff] at h3
        exact .inl ⟨h2, h3.1.1, h3.1.2, h3.2⟩
    · rename_i h2
      have h2 : a.found = true := by simpa using h2
      split at h
      · cases h
      · rename_i h3
        have h3 := Classical.not_not.1 h3
        split at h
        · rename_i h4
          simp only [Bool.and_eq_true, List.isEmpty_iff] at h4
          obtain ⟨l, hl⟩ := solvesP_ok h3
          have hf := fold_skip h4.1
          refine .inr ⟨h2, ⟨l, h1, hl, hl.sol fun y hy r hr => ?_, fun v hv => (hf.2 v hv).1⟩, h3, Prod.ext h4.1 h4.2⟩
          obtain ⟨v, hv, rfl⟩ := hl.all.1 y hy
          have := ((visits_run hl.visits).mem v hv).2
          rw [this] at hr; cases hr
          exact (hf.2 v hv).2
        · cases h
theorem right_first {x : List Rl} {roots : List Rq} {a : An} {la ls : List Rl} {s : List Sl} (ha : Right x roots a la) (hs : Sol x roots s) (hs0 : Sol0 x roots s ls) :
    a.sel = s ∨ ∃ pre v post y, (visits x roots a.sel).1 = pre ++ v :: post ∧ (∀ u ∈ pre, keyVi u ∈ s) ∧ findSl s v.rel.path = some y ∧ place v.rel.ver < place y.ver := by
  rcases run_first hs (deriveP_sound hs) (a := a.sel) (n := a.sel.length + 1) (before := []) (needs := roots) (fun _ h => by cases h) (fun q hq => hs.root q hq) ha.skip with h | h
  · exact .inl (run_same hs0 ha.sol0 h)
  · exact .inr h
theorem run_prefix {x : List Rl} {s t : List Sl} : ∀ {n m : Nat} {before : List Sl} {needs : List Rq} {pre post : List Vis} {v : Vis}, increasing s = true → increasing t = true → (decideP x s n before needs).1 = pre ++ v :: post → (∀ u ∈ pre, keyVi u ∈ t) →
    pre.length < m → (∀ y, findSl t v.rel.path = some y → ∃ r, findRl x y = some r) → findSl t v.rel.path ≠ none → ∃ post' v', (decideP x t m before needs).1 = pre ++ v' :: post' ∧ v'.before = v.before ∧ v'.needs = v.needs ∧ v'.rel.path = v.rel.path ∧ keyVi v' ∈ t
  | 0, _, _, _, pre, _, _, _, _, h, _, _, _, _ => by unfold decideP at h; cases pre <;> cases h
  | _ + 1, 0, _, _, _, _, _, _, _, _, _, h, _, _ => by omega
  | n + 1, m + 1, before, needs, pre, post, v, hs, ht, h, hp, hm, hr, hn => by
    unfold decideP at h ⊢
    cases hnx : nextP needs before with
    | none => rw [hnx] at h; cases pre <;> cases h
    | some p =>
      rw [hnx] at h
      dsimp only at h ⊢
      cases hf : findSl s p with
      | none => rw [hf] at h; cases pre <;> cases h
      | some y =>
        rw [hf] at h
        dsimp only at h
        cases hrl : findRl x y with
        | none => rw [hrl] at h; cases pre <;> cases h
        | some r =>
          rw [hrl] at h
          dsimp only at h
          have hk : keyR r = y := (findRl_ok hrl).2.2
          have hyp := findSl_path hf
          have hrp : r.path = p := by rw [← hyp, ← hk]; rfl
          cases pre with
          | nil =>
            rw [List.nil_append] at h
            injection h with h1 h2
            subst h1
            dsimp only at hr hn
            rw [hrp] at hr hn
            cases hft : findSl t p with
            | none => exact absurd hft hn
            | some z =>
              obtain ⟨rz, hrz⟩ := hr z hft
              dsimp only
              rw [hrz]
              have hkz : keyR rz = z := (findRl_ok hrz).2.2
              refine ⟨_, ⟨before, needs, rz⟩, rfl, rfl, rfl, ?_, ?_⟩
              · show rz.path = r.path
                rw [hrp, ← findSl_path hft, ← hkz]; rfl
              · show keyR rz ∈ t
                rw [hkz]; exact findSl_mem hft
          | cons u pre =>
            rw [List.cons_append] at h
            injection h with h1 h2
            subst h1
            have hy : y ∈ t := by
              have := hp _ (List.mem_cons_self ..)
              have this : keyR r ∈ t := this
              rw [hk] at this; exact this
            have hft := findSl_incr ht hy
            rw [hyp] at hft
            rw [hft]
            dsimp only
            rw [hrl]
            obtain ⟨post', v', i1, i2⟩ := run_prefix (t := t) (m := m) hs ht h2 (fun w hw => hp w (List.mem_cons_of_mem _ hw)) (by simpa using hm) hr hn
            exact ⟨post', v', by dsimp only; rw [i1]; rfl, i2⟩
theorem right_same {x : List Rl} {roots : List Rq} {a b : An} {la lb : List Rl} (ha : Right x roots a la) (hb : Right x roots b lb) : a.sel = b.sel := by
  rcases right_first ha hb.sol hb.sol0 with h | ⟨pre, v, post, y, h1, h2, h3, h4⟩
  · exact h
  · exfalso
    have hy := findSl_mem h3
    have hva : v ∈ (visits x roots a.sel).1 := by rw [h1]; simp
    have hma := (visits_run ha.sol0.visits).mem v hva
    -- b's run comes to the same decision, and there its release is the one with the greater place
    have hlen : pre.length < b.sel.length + 1 := by
      have hr := visits_run ha.sol0.visits
      have hn := hr.nodup
      rw [h1] at hn
      have hn' : (pre.map fun u => (keyVi u).path).Nodup := by
        have := hn
        simp only [List.nil_append, List.map_append, List.map_map] at this
        rw [List.nodup_append] at this
        exact this.1
      have := nodup_sub_len (m := b.sel.map (·.path)) hn' fun p hp => by
        obtain ⟨u, hu, e⟩ := List.mem_map.1 hp
        exact List.mem_map.2 ⟨keyVi u, h2 u hu, e⟩
      simp only [List.length_map] at this
      omega
    obtain ⟨post', v', i1, i2, i3, i4, i5⟩ := run_prefix (x := x) (s := a.sel) (t := b.sel) (n := a.sel.length + 1) (m := b.sel.length + 1) (before := []) (needs := roots) ha.sol.inc hb.sol.inc h1 h2 hlen
      (fun z hz => let ⟨r, hr, _⟩ := hb.sol.fnd z (findSl_mem hz); ⟨r, hr⟩) (by rw [h3]; simp)
    have hvb : v' ∈ (visits x roots b.sel).1 := by unfold visits; rw [i1]; simp
    obtain ⟨k, k', hk⟩ := hb.skip v' hvb
    have hv' : keyVi v' = y := by
      have := findSl_incr hb.sol.inc i5
      have e : (keyVi v').path = v.rel.path := i4
      rw [e, h3] at this
      exact (Option.some.inj this).symm
    have hra := visits_run ha.sol0.visits
    -- what was decided before is a's, and a satisfies what is needed
    have hbef : ∀ z ∈ v'.before, z ∈ a.sel := by
      rw [i2]
      intro z hz
      exact visits_before (x := x) (s := a.sel) (n := a.sel.length + 1) (before := []) (needs := roots) (fun _ h => by cases h) v hva z hz
    have hneed : ∀ q ∈ v'.needs, q.path = v'.rel.path → has q.set (place v.rel.ver) = true := by
      rw [i3, i4]
      intro q hq hqp
      obtain ⟨z, z1, z2⟩ := visits_needs (x := x) (s := a.sel) (fun y hy r hr q hq => ha.sol.req y hy r hr q hq) (n := a.sel.length + 1) (before := []) (needs := roots) (fun q hq => ha.sol.root q hq) v hva q hq
      have := findSl_incr ha.sol.inc hma.1
      rw [hqp] at z1
      have e : (keyVi v).path = v.rel.path := rfl
      rw [e, z1] at this
      rw [Option.some.inj this] at z2
      exact z2
    have := skip_min ha.sol (deriveP_sound ha.sol) hk hbef (y := keyVi v) hma.1 i4.symm hneed (findRl_ok ((visits_run hb.sol0.visits).mem v' hvb).2).2.1
    apply this
    show place v.rel.ver < place v'.rel.ver
    have : v'.rel.ver = y.ver := by rw [← hv']; rfl
    rw [this]; exact h4
where
  visits_before {x : List Rl} {s : List Sl} : ∀ {n : Nat} {before : List Sl} {needs : List Rq}, (∀ y ∈ before, y ∈ s) → ∀ v ∈ (decideP x s n before needs).1, ∀ z ∈ v.before, z ∈ s
    | 0, _, _, _, v, hv => by cases hv
    | n + 1, before, needs, hb, v, hv => by
      unfold decideP at hv
      cases hp : nextP needs before with
      | none => rw [hp] at hv; cases hv
      | some p =>
        rw [hp] at hv
        dsimp only at hv
        cases hf : findSl s p with
        | none => rw [hf] at hv; cases hv
        | some y =>
          rw [hf] at hv
          dsimp only at hv
          cases hr : findRl x y with
          | none => rw [hr] at hv; cases hv
          | some r =>
            rw [hr] at hv
            dsimp only at hv
            rcases List.mem_cons.1 hv with rfl | hv
            · exact hb
            · refine visits_before (fun w hw => ?_) v hv
              rcases List.mem_append.1 hw with hw | hw
              · exact hb w hw
              · rw [List.mem_singleton.1 hw]; exact findSl_mem hf
  visits_needs {x : List Rl} {s : List Sl} (hq : ∀ y ∈ s, ∀ r, findRl x y = some r → ∀ q ∈ r.reqs, ∃ z, findSl s q.path = some z ∧ has q.set (place z.ver) = true) : ∀ {n : Nat} {before : List Sl} {needs : List Rq}, (∀ q ∈ needs, ∃ z, findSl s q.path = some z ∧ has q.set (place z.ver) = true) →
      ∀ v ∈ (decideP x s n before needs).1, ∀ q ∈ v.needs, ∃ z, findSl s q.path = some z ∧ has q.set (place z.ver) = true
    | 0, _, _, _, v, hv => by cases hv
    | n + 1, before, needs, hb, v, hv => by
      unfold decideP at hv
      cases hp : nextP needs before with
      | none => rw [hp] at hv; cases hv
      | some p =>
        rw [hp] at hv
        dsimp only at hv
        cases hf : findSl s p with
        | none => rw [hf] at hv; cases hv
        | some y =>
          rw [hf] at hv
          dsimp only at hv
          cases hr : findRl x y with
          | none => rw [hr] at hv; cases hv
          | some r =>
            rw [hr] at hv
            dsimp only at hv
            rcases List.mem_cons.1 hv with rfl | hv
            · exact hb
            · refine visits_needs hq (fun w hw => ?_) v hv
              rcases List.mem_append.1 hw with hw | hw
              · exact hb w hw
              · exact hq y (findSl_mem hf) r hr w hw
theorem law_unique {x : List Rl} {roots : List Rq} {a b : An} (ha : checkP x roots a = 0) (hb : checkP x roots b = 0) : a.found = b.found ∧ a.sel = b.sel := by
  obtain ⟨a0, ha⟩ := checkP_ok ha
  obtain ⟨b0, hb⟩ := checkP_ok hb
  rcases ha with ⟨a1, a2, a3, a4⟩ | ⟨a1, ⟨la, a2⟩, _⟩
  · rcases hb with ⟨b1, b2, b3, b4⟩ | ⟨b1, ⟨lb, b2⟩, _⟩
    · exact ⟨a1.trans b1.symm, a2.trans b2.symm⟩
    · rw [refutedB_not b2.sol] at a4; cases a4
  · rcases hb with ⟨b1, b2, b3, b4⟩ | ⟨b1, ⟨lb, b2⟩, _⟩
    · rw [refutedB_not a2.sol] at b4; cases b4
    · exact ⟨a1.trans b1.symm, right_same a2 b2⟩
-- the first decision that differs
def placeL (s : List Sl) (p : ByteArray) : Int := match findSl s p with | none => -1 | some y => plc y.ver
def firstGo (a s : List Sl) : List ByteArray → Bool
  | [] => decide (a = s)
  | p :: r => if placeL a p ≠ placeL s p then decide (0 ≤ placeL a p) && decide (placeL a p < placeL s p) else firstGo a s r
theorem placeL_of {x : List Rl} {roots : List Rq} {s : List Sl} (hs : Sol x roots s) {y : Sl} (hy : y ∈ s) : placeL s y.path = place y.ver := by
  unfold placeL
  rw [findSl_incr hs.inc hy]
  dsimp only
  unfold plc
  rw [hs.valid y hy]; rfl
theorem law_first {x : List Rl} {roots : List Rq} {a : An} {s : List Sl} (ha : checkP x roots a = 0) (h : solvesP x roots s = 0) (hb : s.any (badY x) = false) :
    a.found = true ∧ (decisionsP x roots a.sel).2 = 0 ∧ (decisionsP x roots a.sel).1.length = a.sel.length ∧ firstGo a.sel s (decisionsP x roots a.sel).1 = true := by
  obtain ⟨hs, ls, hs0⟩ := sol_of h hb
  obtain ⟨a0, ha⟩ := checkP_ok ha
  rcases ha with ⟨a1, a2, a3, a4⟩ | ⟨a1, ⟨la, a2⟩, _⟩
  · rw [refutedB_not hs] at a4; cases a4
  · have hroots : checkIx x = 0 ∧ checkRqs roots = 0 := by
      unfold deriveP at a0
      split at a0
      · cases a0
      · rename_i h; simpa using h
    have hd : decisionsP x roots a.sel = ((visits x roots a.sel).1.map fun v => v.rel.path, 0) := by
      unfold decisionsP
      rw [if_neg (by rw [hroots.1, hroots.2, a2.sol.inc]; simp), if_pos a2.sol0.visits]
    rw [hd]
    refine ⟨a1, rfl, by rw [List.length_map]; exact a2.sol0.all.2, ?_⟩
    have hm := (visits_run a2.sol0.visits).mem
    have agree : ∀ v ∈ (visits x roots a.sel).1, keyVi v ∈ s → placeL a.sel v.rel.path = placeL s v.rel.path := fun v hv hk => by
      have e1 := placeL_of a2.sol (hm v hv).1
      have e2 := placeL_of hs hk
      exact e1.trans e2.symm
    dsimp only
    rcases right_first a2 hs hs0 with e | ⟨pre, v, post, y, h1, h2, h3, h4⟩
    · have : ∀ (vs : List Vis), (∀ v ∈ vs, placeL a.sel v.rel.path = placeL s v.rel.path) → firstGo a.sel s (vs.map fun v => v.rel.path) = true := by
        intro vs
        induction vs with
        | nil => intro _; simp [firstGo, e]
        | cons v vs ih =>
          intro h
          rw [List.map_cons]
          unfold firstGo
          rw [if_neg (by simpa using h v (List.mem_cons_self ..))]
          exact ih fun u hu => h u (List.mem_cons_of_mem _ hu)
      refine this _ fun v hv => agree v hv ?_
      rw [← e]; exact (hm v hv).1
    · have hv : v ∈ (visits x roots a.sel).1 := by rw [h1]; simp
      have e1 := placeL_of a2.sol (hm v hv).1
      have e2 := placeL_of hs (findSl_mem h3)
      rw [findSl_path h3] at e2
      have e1 : placeL a.sel v.rel.path = place v.rel.ver := e1
      have hpos := (place_in (a2.sol.valid _ (hm v hv).1)).1
      have hpos : 0 ≤ place v.rel.ver := hpos
      have : ∀ (pre : List Vis), (∀ u ∈ pre, placeL a.sel u.rel.path = placeL s u.rel.path) → firstGo a.sel s ((pre ++ v :: post).map fun v => v.rel.path) = true := by
        intro pre
        induction pre with
        | nil =>
          intro _
          rw [List.nil_append, List.map_cons]
          unfold firstGo
          rw [e1, e2, if_pos (by omega)]
          simp [hpos, h4]
        | cons u pre ih =>
          intro h
          rw [List.cons_append, List.map_cons]
          unfold firstGo
          rw [if_neg (by simpa using h u (List.mem_cons_self ..))]
          exact ih fun w hw => h w (List.mem_cons_of_mem _ hw)
      rw [h1]
      refine this pre fun u hu => agree u ?_ (h2 u hu)
      rw [h1]; simp [hu]
-- prefixes
theorem deriveGo_len {x : List Rl} {roots : List Rq} : ∀ {l : List Nf} {d d' : List (List Tm)}, deriveGo x roots l d = some d' → d'.length = d.length + l.length
  | [], d, d', h => by cases h; rfl
  | i :: l, d, d', h => by
    unfold deriveGo at h
    split at h
    · cases h
    · have := deriveGo_len h
      simp only [List.length_append, List.length_cons, List.length_nil] at this ⊢; omega
theorem deriveGo_append {x : List Rl} {roots : List Rq} : ∀ (l m : List Nf) (d : List (List Tm)), deriveGo x roots (l ++ m) d = match deriveGo x roots l d with | none => none | some d' => deriveGo x roots m d'
  | [], _, _ => rfl
  | i :: l, m, d => by
    show (match inferP x roots d i with | none => none | some t => deriveGo x roots (l ++ m) (d ++ [t])) = (match (match inferP x roots d i with | none => none | some t => deriveGo x roots l (d ++ [t])) with | none => none | some d' => deriveGo x roots m d')
    cases inferP x roots d i with
    | none => rfl
    | some t => exact deriveGo_append l m _
theorem deriveGo_prefix {x : List Rl} {roots : List Rq} : ∀ {l : List Nf} {d d' : List (List Tm)}, deriveGo x roots l d = some d' → d <+: d'
  | [], d, d', h => by cases h; exact List.prefix_refl _
  | i :: l, d, d', h => by
    unfold deriveGo at h
    split at h
    · cases h
    · exact (List.prefix_append _ _).trans (deriveGo_prefix h)
theorem deriveGo_take {x : List Rl} {roots : List Rq} {l : List Nf} {d : List (List Tm)} (h : deriveGo x roots l [] = some d) (k : Nat) : deriveGo x roots (l.take k) [] = some (d.take k) := by
  rw [← List.take_append_drop k l, deriveGo_append] at h
  cases e : deriveGo x roots (l.take k) [] with
  | none => rw [e] at h; cases h
  | some f =>
    rw [e] at h
    dsimp only at h
    have h1 := deriveGo_len e
    have h2 := deriveGo_len h
    have h3 := deriveGo_prefix h
    congr 1
    simp only [List.length_nil, List.length_take, List.length_drop] at h1 h2
    obtain ⟨z, rfl⟩ := h3
    by_cases hk : k ≤ l.length
    · rw [List.take_append_of_le_length (by omega), List.take_of_length_le (by omega)]
    · rw [List.length_append] at h2
      have : z = [] := List.eq_nil_of_length_eq_zero (by omega)
      subst this
      rw [List.append_nil, List.take_of_length_le (by omega)]
def Form (l : List Tm) : Prop := canonT l = some l
theorem putO_find {l : List Tm} : ∀ (l2 : List Tm), SortedT none (l2 ++ l) → l.foldl (fun acc t => insT t acc) l2 = l2 ++ l := by
  induction l with
  | nil => intro l2 _; simp
  | cons t r ih =>
    intro l2 h
    have hi : insT t l2 = l2 ++ [t] := by
      have : ∀ (m : List Tm) (lo : Option ByteArray), SortedT lo (m ++ t :: r) → insT t m = m ++ [t] := by
        intro m
        induction m with
        | nil =>
          intro lo hm
          have hc : Canon t.set := hm.2.1
          unfold insT
          rw [show canT1 t = t from tm_ext rfl rfl (canon_of_canon hc)]; rfl
        | cons u m ihm =>
          intro lo hm
          have hm : SortedT lo (u :: (m ++ t :: r)) := hm
          have hlt := SortedT.low hm.2.2 t (by simp)
          unfold insT
          rw [if_pos hlt, ihm _ hm.2.2]; rfl
      exact this l2 none h
    rw [List.foldl_cons, hi]
    have := ih (l2 ++ [t]) (by rw [List.append_assoc]; exact h)
    rw [this, List.append_assoc]; rfl
theorem mergeT_sorted_id {l : List Tm} (h : SortedT none l) : mergeT l = l := by
  have := putO_find (l := l) [] h
  simpa [mergeT] using this
theorem canonT_form {l c : List Tm} (h : canonT l = some c) : Form c := by
  have hs := canonT_sorted h
  unfold Form
  unfold canonT at h ⊢
  rw [mergeT_sorted_id hs]
  split at h
  · cases h
  · rename_i hn
    cases h
    rw [if_neg]
    · congr 1
      rw [List.filter_filter]; simp
    · rw [Bool.not_eq_true, List.any_eq_false] at hn ⊢
      intro t ht
      exact hn t (List.mem_filter.1 ht).1
theorem form_nil : Form [] := rfl
theorem ofT_form (l : List Tm) : Form (ofT l) := by
  unfold ofT
  cases h : canonT l with
  | none => exact form_nil
  | some c => exact canonT_form h
theorem resolveT_form (a b : List Tm) (p : ByteArray) : Form (resolveT a b p).1 := by
  unfold resolveT
  split
  · split
    · rename_i h; exact canonT_form h
    · exact form_nil
  · exact form_nil
theorem ne0_some {l o : List Tm} (h : ne0 l = some o) : o = l := by unfold ne0 at h; split at h <;> cases h; rfl
theorem inferP_form {x : List Rl} {roots : List Rq} {d : List (List Tm)} {i : Nf} {o : List Tm} (h : inferP x roots d i = some o) : Form o := by
  unfold inferP at h
  split at h
  · split at h
    · rw [Option.map_eq_some_iff] at h
      obtain ⟨q, _, rfl⟩ := h
      exact ofT_form _
    · cases h
  · split at h
    · split at h
      · split at h
        · cases h
        · split at h
          · cases h
          · rw [ne0_some h]; exact ofT_form _
      · cases h
    · split at h
      · split at h
        · rw [ne0_some h]; exact ofT_form _
        · cases h
      · split at h
        · split at h
          · split at h
            · split at h
              · cases h; exact resolveT_form _ _ _
              · cases h
            · cases h
          · cases h
        · cases h
theorem deriveGo_form {x : List Rl} {roots : List Rq} : ∀ {l : List Nf} {d d' : List (List Tm)}, (∀ t ∈ d, Form t) → deriveGo x roots l d = some d' → ∀ t ∈ d', Form t
  | [], d, d', hd, h => by cases h; exact hd
  | i :: l, d, d', hd, h => by
    unfold deriveGo at h
    split at h
    · cases h
    · rename_i o ho
      refine deriveGo_form (fun t ht => ?_) h
      rcases List.mem_append.1 ht with ht | ht
      · exact hd t ht
      · rw [List.mem_singleton.1 ht]; exact inferP_form ho
theorem deriveP_ok {x : List Rl} {roots : List Rq} {l : List Nf} (h : (deriveP x roots l).2 = 0) : checkIx x = 0 ∧ checkRqs roots = 0 ∧ l.length ≤ 65536 ∧ deriveGo x roots l [] = some (deriveP x roots l).1 := by
  unfold deriveP at *
  split at h
  · cases h
  · rename_i h1
    split at h
    · cases h
    · rename_i h2
      split at h
      · cases h
      · rename_i d hd
        rw [if_neg h1, if_neg h2, hd]
        exact ⟨by simpa using (not_or.1 h1).1, by simpa using (not_or.1 h1).2, by omega, rfl⟩
theorem deriveP_of {x : List Rl} {roots : List Rq} {l : List Nf} (h1 : checkIx x = 0) (h2 : checkRqs roots = 0) (h3 : l.length ≤ 65536) {d : List (List Tm)} (h : deriveGo x roots l [] = some d) : deriveP x roots l = (d, 0) := by
  unfold deriveP
  rw [if_neg (by rw [h1, h2]; simp), if_neg (by omega), h]
def badInf (k : Int) : Nf := ⟨3, exA, 0, 0, k, 0⟩
theorem law_prefix {x : List Rl} {roots : List Rq} {l : List Nf} (hl : l.length ≤ 400) (h : (deriveP x roots l).2 = 0) (k : Nat) (hk : k ≤ l.length) :
    (deriveP x roots l).1.length = l.length ∧ deriveP x roots (l.take k) = ((deriveP x roots l).1.take k, 0) ∧ (∀ y ∈ (deriveP x roots l).1, canonT y = some y) ∧ (deriveP x roots (l.take k ++ [badInf k])).2 = 18 := by
  obtain ⟨h1, h2, h3, h4⟩ := deriveP_ok h
  have ht := deriveGo_take h4 k
  refine ⟨by simpa using deriveGo_len h4, deriveP_of h1 h2 (by rw [List.length_take]; omega) ht, deriveGo_form (fun _ h => by cases h) h4, ?_⟩
  have hlen : ((deriveP x roots l).1.take k).length = k := by
    rw [List.length_take, show (deriveP x roots l).1.length = l.length by simpa using deriveGo_len h4]; omega
  have : deriveGo x roots (l.take k ++ [badInf k]) [] = none := by
    rw [deriveGo_append, ht]
    dsimp only
    unfold deriveGo
    have : inferP x roots ((deriveP x roots l).1.take k) (badInf k) = none := by
      unfold inferP badInf
      have e : nthZ ((deriveP x roots l).1.take k) (k : Int) = none := by
        unfold nthZ
        rw [if_neg (by omega), List.getElem?_eq_none (by rw [hlen]; simp)]
      simp [e]
    rw [this]
  unfold deriveP
  rw [if_neg (by rw [h1, h2]; simp), if_neg (by simp only [List.length_append, List.length_take, List.length_singleton]; omega), this]
-- tampering
theorem skipGo_append {d : List (List Tm)} {v : Vis} (z : List Sk) : ∀ {x : List Rl} {k k' : List Sk}, skipGo d v x k = (k', true) → skipGo d v x (k ++ z) = (k' ++ z, true)
  | [], k, k', h => by unfold skipGo at h ⊢; cases h; rfl
  | o :: x, k, k', h => by
    unfold skipGo at h ⊢
    split at h
    · rename_i hc; rw [if_pos hc]; exact skipGo_append z h
    · rename_i hc
      rw [if_neg hc]
      split at h
      · rename_i hc; rw [if_pos hc]; exact skipGo_append z h
      · rename_i hc
        rw [if_neg hc]
        split at h
        · cases h
        · rename_i y k2
          rw [List.cons_append]
          dsimp only
          split at h
          · cases h
          · rename_i hc
            rw [if_neg hc]
            split at h
            · cases h
            · split at h
              · rename_i he; rw [if_pos he]; exact skipGo_append z h
              · cases h
theorem fold_append {x : List Rl} {d : List (List Tm)} (z : List Sk) : ∀ {vs : List Vis} {b : Bool} {k k' : List Sk}, vs.foldl (skipStep x d) (b, k) = (true, k') → vs.foldl (skipStep x d) (b, k ++ z) = (true, k' ++ z)
  | [], b, k, k', h => by cases h; rfl
  | v :: vs, b, k, k', h => by
    rw [List.foldl_cons] at h ⊢
    have h1 := (fold_skip (x := x) (d := d) (by rw [h])).1
    unfold skipStep at h1
    simp only [Bool.and_eq_true, Bool.not_eq_true'] at h1
    have h2 : skipGo d v x k = ((skipGo d v x k).1, true) := Prod.ext rfl h1.1.2
    have h3 := skipGo_append z h2
    have e : skipStep x d (b, k ++ z) v = (b && true && !v.rel.yanked, (skipGo d v x k).1 ++ z) := by
      unfold skipStep; rw [h3]
    have e' : skipStep x d (b, k) v = (b && true && !v.rel.yanked, (skipGo d v x k).1) := by
      unfold skipStep; rw [h1.1.2]
    rw [e]
    rw [e'] at h
    exact fold_append z h
theorem checkP_18 {x : List Rl} {roots : List Rq} {a : An} (h0 : (deriveP x roots a.infs).2 = 0) (h : checkP x roots a ≠ 0) : checkP x roots a = 18 := by
  unfold checkP at h ⊢
  rw [if_neg (by rw [h0]; simp)] at h ⊢
  split
  · rename_i h1
    rw [if_pos h1] at h
    split
    · rfl
    · rename_i h2; rw [if_neg h2] at h; exact absurd rfl h
  · rename_i h1
    rw [if_neg h1] at h
    split
    · rfl
    · rename_i h2
      rw [if_neg h2] at h
      split
      · rename_i h3; rw [if_pos h3] at h; exact absurd rfl h
      · rfl
theorem law_tampers {x : List Rl} {roots : List Rq} {a : An} (ha : checkP x roots a = 0) (hf : a.found = true) :
    (∀ z : Sk, checkP x roots ⟨true, a.sel, a.infs, a.skips ++ [z]⟩ = 18) ∧ (a.skips ≠ [] → checkP x roots ⟨true, a.sel, a.infs, a.skips.dropLast⟩ = 18) ∧
    ∀ s, s ≠ a.sel → checkP x roots ⟨true, s, a.infs, a.skips⟩ = 18 := by
  obtain ⟨h0, h⟩ := checkP_ok ha
  rcases h with ⟨h1, _⟩ | ⟨_, _, h2, h3⟩
  · rw [hf] at h1; cases h1
  · refine ⟨fun z => ?_, fun hne => ?_, fun s hs => ?_⟩
    · refine checkP_18 h0 fun hc => ?_
      obtain ⟨_, h⟩ := checkP_ok hc
      rcases h with ⟨h, _⟩ | ⟨_, _, _, h5⟩
      · cases h
      · have := fold_append [z] h3
        dsimp only at h5
        rw [this] at h5
        cases h5
    · refine checkP_18 h0 fun hc => ?_
      obtain ⟨_, h⟩ := checkP_ok hc
      rcases h with ⟨h, _⟩ | ⟨_, _, _, h5⟩
      · cases h
      · dsimp only at h5
        have := fold_append [a.skips.getLast hne] h5
        rw [List.dropLast_concat_getLast hne, h3] at this
        cases this
    · refine checkP_18 h0 fun hc => ?_
      exact hs (law_unique hc ha).2
end Go.Eng

namespace Go.Eng
def clipL (l : SpanL) : SpanL := (l.map clip).filter fun x => decide (x.1 < x.2)
theorem clipL_append (a b : SpanL) : clipL (a ++ b) = clipL a ++ clipL b := by unfold clipL; rw [List.map_append, List.filter_append]
theorem clipL_mem {l : SpanL} {x : Int × Int} (h : x ∈ clipL l) : 0 ≤ x.1 ∧ x.1 < x.2 ∧ x.2 ≤ 1000000 := by
  unfold clipL at h
  rw [List.mem_filter, List.mem_map] at h
  obtain ⟨⟨y, _, rfl⟩, h2⟩ := h
  have h2 := of_decide_eq_true h2
  refine ⟨?_, h2, ?_⟩ <;> simp only [clip] <;> omega
theorem clipL_any (l : SpanL) (p : Int) : (clipL l).any (inSpan p) = has l p := by
  rw [← canon_any]
  induction l with
  | nil => rfl
  | cons x r ih =>
    have e : clipL (x :: r) = (if (clip x).1 < (clip x).2 then [clip x] else []) ++ clipL r := by
      unfold clipL
      rw [List.map_cons, List.filter_cons]
      by_cases h : (clip x).1 < (clip x).2 <;> simp [h]
    have ec : canon (x :: r) = if (clip x).1 < (clip x).2 then addS (clip x) (canon r) else canon r := rfl
    rw [e, List.any_append, ih, ec]
    by_cases h : (clip x).1 < (clip x).2
    · rw [if_pos h, if_pos h, addS_any _ p (canon_canon r) h]; simp
    · rw [if_neg h, if_neg h]; simp
theorem canonF_iff : ∀ {l : SpanL} {lo : Int}, CanonF lo l ↔ (∀ y ∈ l, lo ≤ y.1 ∧ y.1 < y.2 ∧ y.2 ≤ 1000000) ∧ l.Pairwise fun a b => a.2 < b.1
  | [], lo => by simp [CanonF]
  | y :: r, lo => by
    rw [List.pairwise_cons]
    constructor
    · intro h
      have hl := h.low
      refine ⟨hl, fun z hz => ?_, ((canonF_iff (l := r)).1 h.2.2.2).2⟩
      have := h.2.2.2.low z hz; omega
    · intro ⟨h1, h2, h3⟩
      have hy := h1 y (List.mem_cons_self ..)
      refine ⟨hy.1, hy.2.1, hy.2.2, canonF_iff.2 ⟨fun z hz => ?_, h3⟩⟩
      have := h1 z (List.mem_cons_of_mem _ hz)
      have := h2 z hz
      omega
def stepR (r : SpanL) (x : Int × Int) : SpanL := match r with
  | [] => [x]
  | y :: t => if x.1 ≤ y.2 then (y.1, max y.2 x.2) :: t else x :: y :: t
def mergeR (s : SpanL) : SpanL := s.foldl stepR []
theorem mergeR_take (s : SpanL) (i : Nat) (h : i < s.length) : mergeR (s.take (i + 1)) = stepR (mergeR (s.take i)) s[i] := by
  unfold mergeR
  rw [List.take_add_one, List.getElem?_eq_getElem h, List.foldl_append]; rfl
theorem stepR_len (r : SpanL) (x : Int × Int) : (stepR r x).length ≤ r.length + 1 ∧ r.length ≤ (stepR r x).length ∧ 0 < (stepR r x).length := by
  unfold stepR
  split
  · simp
  · split <;> simp
theorem mergeR_len (s : SpanL) : ∀ i, i ≤ s.length → (mergeR (s.take i)).length ≤ i ∧ (0 < i → 0 < (mergeR (s.take i)).length) := by
  intro i
  induction i with
  | zero => intro _; simp [mergeR]
  | succ i ih =>
    intro h
    rw [mergeR_take s i (by omega)]
    have := stepR_len (mergeR (s.take i)) s[i]
    have := ih (by omega)
    omega
structure RInv (r done : SpanL) : Prop where
  ok : ∀ y ∈ r, 0 ≤ y.1 ∧ y.1 < y.2 ∧ y.2 ≤ 1000000
  pw : r.Pairwise fun a b => b.2 < a.1
  has : ∀ p, r.any (inSpan p) = done.any (inSpan p)
  first : ∀ y t, r = y :: t → ∃ x ∈ done, y.1 = x.1
theorem stepR_inv {r done : SpanL} {x : Int × Int} (h : RInv r done) (hx : 0 ≤ x.1 ∧ x.1 < x.2 ∧ x.2 ≤ 1000000) (hs : ∀ y ∈ done, y.1 ≤ x.1) : RInv (stepR r x) (done ++ [x]) := by
  unfold stepR
  split
  · refine ⟨fun y hy => ?_, by simp, fun p => ?_, fun y t e => ?_⟩
    · rw [List.mem_singleton.1 hy]; exact hx
    · rw [List.any_append, ← h.has]; rfl
    · cases e; exact ⟨x, by simp, rfl⟩
  · rename_i y t
    have hy := h.ok y (List.mem_cons_self ..)
    obtain ⟨pw1, pw2⟩ := List.pairwise_cons.1 h.pw
    obtain ⟨z, hz, e⟩ := h.first y t rfl
    have hyx := hs z hz
    split
    · rename_i hle
      refine ⟨fun u hu => ?_, List.pairwise_cons.2 ⟨pw1, pw2⟩, fun p => ?_, fun u t' e' => ?_⟩
      · rcases List.mem_cons.1 hu with rfl | hu
        · exact ⟨hy.1, by dsimp only; omega, by dsimp only; omega⟩
        · exact h.ok u (List.mem_cons_of_mem _ hu)
      · rw [List.any_append, ← h.has, List.any_cons, List.any_cons, List.any_cons, List.any_nil, Bool.or_false]
        have : inSpan p (y.1, max y.2 x.2) = (inSpan p y || inSpan p x) := by
          simp only [inSpan]
          rw [Bool.eq_iff_iff]
          simp only [Bool.and_eq_true, Bool.or_eq_true, decide_eq_true_eq]
          omega
        rw [this]
        cases inSpan p y <;> cases inSpan p x <;> cases t.any (inSpan p) <;> rfl
      · cases e'; exact ⟨z, List.mem_append_left _ hz, e⟩
    · rename_i hle
      refine ⟨fun u hu => ?_, List.pairwise_cons.2 ⟨fun u hu => ?_, h.pw⟩, fun p => ?_, fun u t' e' => ?_⟩
      · rcases List.mem_cons.1 hu with rfl | hu
        · exact hx
        · exact h.ok u hu
      · rcases List.mem_cons.1 hu with rfl | hu
        · omega
        · have := pw1 u hu; omega
      · rw [List.any_append, ← h.has, List.any_cons, List.any_cons, List.any_cons, List.any_nil, Bool.or_false]
        cases inSpan p y <;> cases inSpan p x <;> cases t.any (inSpan p) <;> rfl
      · cases e'; exact ⟨x, by simp, rfl⟩
theorem mergeR_inv {s : SpanL} (hok : ∀ y ∈ s, 0 ≤ y.1 ∧ y.1 < y.2 ∧ y.2 ≤ 1000000) (hs : s.Pairwise fun a b => a.1 ≤ b.1) : ∀ i, i ≤ s.length → RInv (mergeR (s.take i)) (s.take i) := by
  intro i
  induction i with
  | zero => intro _; exact ⟨fun _ h => by simp [mergeR] at h, by simp [mergeR], fun p => by simp [mergeR], fun y t e => by simp [mergeR] at e⟩
  | succ i ih =>
    intro h
    have hi : i < s.length := by omega
    rw [mergeR_take s i hi]
    have e : s.take (i + 1) = s.take i ++ [s[i]] := by rw [List.take_add_one, List.getElem?_eq_getElem hi]; rfl
    rw [e]
    refine stepR_inv (ih (by omega)) (hok _ (List.getElem_mem hi)) fun y hy => ?_
    obtain ⟨j, hj, rfl⟩ := List.mem_iff_getElem.1 hy
    rw [List.getElem_take]
    rw [List.length_take] at hj
    exact (List.pairwise_iff_getElem.1 hs) j i (by omega) hi (by omega)
theorem canon_of_sorted {l s : SpanL} (hp : s.Perm (clipL l)) (hs : s.Pairwise fun a b => a.1 ≤ b.1) : (mergeR s).reverse = canon l := by
  have hi := mergeR_inv (s := s) (fun y hy => clipL_mem (hp.mem_iff.1 hy)) hs s.length (Nat.le_refl _)
  rw [List.take_length] at hi
  have hc : Canon (mergeR s).reverse := by
    unfold Canon
    rw [canonF_iff]
    refine ⟨fun y hy => hi.ok y (List.mem_reverse.1 hy), ?_⟩
    rw [List.pairwise_reverse]; exact hi.pw
  refine canon_eq hc fun p => ?_
  rw [has_of_canon hc, List.any_reverse, hi.has, ← clipL_any]
  rw [Bool.eq_iff_iff, List.any_eq_true, List.any_eq_true]
  constructor
  · rintro ⟨y, h1, h2⟩; exact ⟨y, hp.mem_iff.1 h1, h2⟩
  · rintro ⟨y, h1, h2⟩; exact ⟨y, hp.mem_iff.2 h1, h2⟩
end Go.Eng

namespace Go.Eng
-- maps from numbers to numbers, as lists in the order in which they are met
def valM (m : List (Int × Int)) (k : Int) : Int := match m.find? (fun p => decide (p.1 = k)) with | some p => p.2 | none => 0
def putM (m : List (Int × Int)) (k v : Int) : List (Int × Int) := if m.any (fun p => decide (p.1 = k)) then m.map (fun p => if p.1 = k then (k, v) else p) else m ++ [(k, v)]
theorem valM_cons (p : Int × Int) (m : List (Int × Int)) (k : Int) : valM (p :: m) k = if p.1 = k then p.2 else valM m k := by
  unfold valM; rw [List.find?_cons]; by_cases h : p.1 = k <;> simp [h]
theorem valM_put (m : List (Int × Int)) (k v j : Int) : valM (putM m k v) j = if j = k then v else valM m j := by
  unfold putM
  split
  · rename_i h
    induction m with
    | nil => simp at h
    | cons p m ih =>
      rw [List.map_cons, valM_cons, valM_cons]
      by_cases e : p.1 = k
      · rw [if_pos e]
        dsimp only
        by_cases ej : j = k
        · subst ej; simp
        · rw [if_neg (fun c => ej c.symm), if_neg ej, if_neg (fun c => ej (c.symm.trans e))]
          by_cases hm : (m.any fun p => decide (p.1 = k)) = true
          · rw [ih hm, if_neg ej]
          · have : ∀ q ∈ m, q.1 ≠ k := fun q hq e => hm (List.any_eq_true.2 ⟨q, hq, by simp [e]⟩)
            have : m.map (fun p => if p.1 = k then (k, v) else p) = m := by
              conv => rhs; rw [← List.map_id m]
              exact List.map_congr_left fun q hq => by simp [this q hq]
            rw [this]
      · rw [if_neg e]
        have hm : (m.any fun p => decide (p.1 = k)) = true := by simpa [e] using h
        rw [ih hm]
        by_cases ej : j = k
        · subst ej; simp [e]
        · simp [ej]
  · rename_i h
    have hn : ∀ q ∈ m, q.1 ≠ k := fun q hq e => h (List.any_eq_true.2 ⟨q, hq, by simp [e]⟩)
    induction m with
    | nil =>
      rw [List.nil_append, valM_cons]
      by_cases ej : j = k
      · simp [ej]
      · have : ¬ k = j := fun c => ej c.symm
        simp [ej, this]
    | cons p m ih =>
      rw [List.cons_append, valM_cons, valM_cons]
      have e := hn p (List.mem_cons_self ..)
      have ih := ih (by simpa [e] using h) fun q hq => hn q (List.mem_cons_of_mem _ hq)
      by_cases ep : p.1 = j
      · have : ¬ j = k := fun c => e (ep.trans c)
        simp [ep, this]
      · simp only [ep, if_false]; exact ih
def keysM (m : List (Int × Int)) : List Int := m.map (·.1)
theorem keysM_put (m : List (Int × Int)) (k v : Int) : keysM (putM m k v) = if k ∈ keysM m then keysM m else keysM m ++ [k] := by
  unfold putM keysM
  have e : (m.any fun p => decide (p.1 = k)) = decide (k ∈ m.map (·.1)) := by
    rw [Bool.eq_iff_iff]; simp only [List.any_eq_true, decide_eq_true_eq, List.mem_map]
  rw [e]
  by_cases h : k ∈ m.map (·.1)
  · simp only [h, decide_true, if_true, List.map_map]
    apply List.map_congr_left
    intro p _
    simp only [Function.comp]
    split
    · rename_i e; exact e.symm
    · rfl
  · simp [h]
theorem keysM_nodup {m : List (Int × Int)} (h : (keysM m).Nodup) (k v : Int) : (keysM (putM m k v)).Nodup := by
  rw [keysM_put]
  split
  · exact h
  · rename_i hn
    rw [List.nodup_append]
    exact ⟨h, by simp, fun a ha b hb e => by subst e; rw [List.mem_singleton.1 hb] at ha; exact hn ha⟩
theorem keysM_mem (m : List (Int × Int)) (k v j : Int) : j ∈ keysM (putM m k v) ↔ j = k ∨ j ∈ keysM m := by
  rw [keysM_put]
  split
  · rename_i h
    constructor
    · exact .inr
    · rintro (rfl | h')
      · exact h
      · exact h'
  · simp [or_comm]
theorem valM_mem {m : List (Int × Int)} (h : (keysM m).Nodup) {p : Int × Int} (hp : p ∈ m) : valM m p.1 = p.2 := by
  induction m with
  | nil => cases hp
  | cons q m ih =>
    rw [valM_cons]
    unfold keysM at h ih
    rw [List.map_cons, List.nodup_cons] at h
    rcases List.mem_cons.1 hp with rfl | hp
    · simp
    · have : ¬ q.1 = p.1 := fun e => h.1 (e ▸ List.mem_map.2 ⟨p, hp, rfl⟩)
      rw [if_neg this]; exact ih h.2 hp
theorem valM_not {m : List (Int × Int)} {k : Int} (h : k ∉ keysM m) : valM m k = 0 := by
  unfold valM
  have : m.find? (fun p => decide (p.1 = k)) = none := by
    rw [List.find?_eq_none]
    intro p hp
    simp only [decide_eq_true_eq]
    exact fun e => h (List.mem_map.2 ⟨p, hp, e⟩)
  rw [this]
-- counting
def cF (S : SpanL) (k : Int) : Nat := S.countP fun x => decide (x.1 = k)
def cT (S : SpanL) (k : Int) : Nat := S.countP fun x => decide (x.2 = k)
def lF (S : SpanL) (k : Int) : Nat := S.countP fun x => decide (x.1 ≤ k)
def lT (S : SpanL) (k : Int) : Nat := S.countP fun x => decide (x.2 ≤ k)
theorem countP_split {α : Type} {p q r : α → Bool} : ∀ {l : List α}, (∀ x ∈ l, (p x = true ↔ q x = true ∨ r x = true) ∧ ¬ (q x = true ∧ r x = true)) → l.countP p = l.countP q + l.countP r
  | [], _ => rfl
  | x :: l, h => by
    have ih := countP_split fun y hy => h y (List.mem_cons_of_mem _ hy)
    obtain ⟨h1, h2⟩ := h x (List.mem_cons_self ..)
    rw [List.countP_cons, List.countP_cons, List.countP_cons, ih]
    cases hp : p x <;> cases hq : q x <;> cases hr : r x <;> simp_all <;> omega
structure ChInv (m : List (Int × Int)) (S : SpanL) : Prop where
  nd : (keysM m).Nodup
  val : ∀ k, valM m k = (cF S k : Int) - cT S k
  keys : 0 ∈ keysM m ∧ 1000000 ∈ keysM m ∧ ∀ x ∈ S, x.1 ∈ keysM m ∧ x.2 ∈ keysM m
  rng : ∀ k ∈ keysM m, 0 ≤ k ∧ k ≤ 1000000
def ch0 : List (Int × Int) := [(0, 0), (1000000, 0)]
theorem ch0_inv : ChInv ch0 [] := ⟨by decide, fun k => by
    unfold ch0; rw [valM_cons, valM_cons]; simp [valM, cF, cT], ⟨by decide, by decide, fun _ h => by cases h⟩, fun k hk => by
    unfold ch0 keysM at hk; simp at hk; omega⟩
def stepM (m : List (Int × Int)) (x : Int × Int) : List (Int × Int) := putM (putM m x.1 (valM m x.1 + 1)) x.2 (valM (putM m x.1 (valM m x.1 + 1)) x.2 - 1)
theorem stepM_inv {m : List (Int × Int)} {S : SpanL} {x : Int × Int} (h : ChInv m S) (hx : 0 ≤ x.1 ∧ x.1 < x.2 ∧ x.2 ≤ 1000000) : ChInv (stepM m x) (S ++ [x]) := by
  unfold stepM
  refine ⟨keysM_nodup (keysM_nodup h.nd _ _) _ _, fun k => ?_, ⟨?_, ?_, fun y hy => ?_⟩, fun k hk => ?_⟩
  · rw [valM_put, valM_put, valM_put, h.val, h.val, h.val]
    unfold cF cT
    simp only [List.countP_append, List.countP_singleton, decide_eq_true_eq]
    by_cases e1 : k = x.2
    · subst e1
      have : ¬ x.2 = x.1 := by omega
      have : ¬ x.1 = x.2 := by omega
      simp [*]; omega
    · by_cases e2 : k = x.1
      · subst e2
        have : ¬ x.2 = x.1 := by omega
        have : ¬ x.1 = x.2 := by omega
        simp [*]; omega
      · have a1 : ¬ x.1 = k := fun c => e2 c.symm
        have a2 : ¬ x.2 = k := fun c => e1 c.symm
        simp [e1, e2, a1, a2]
  · rw [keysM_mem, keysM_mem]; exact .inr (.inr h.keys.1)
  · rw [keysM_mem, keysM_mem]; exact .inr (.inr h.keys.2.1)
  · simp only [keysM_mem]
    rcases List.mem_append.1 hy with hy | hy
    · have := h.keys.2.2 y hy
      exact ⟨.inr (.inr this.1), .inr (.inr this.2)⟩
    · rw [List.mem_singleton.1 hy]; exact ⟨.inr (.inl rfl), .inl rfl⟩
  · rw [keysM_mem, keysM_mem] at hk
    rcases hk with rfl | rfl | hk
    · omega
    · omega
    · exact h.rng k hk
def sumM (m : List (Int × Int)) (B : List Int) : Int := (B.map (valM m)).foldl (· + ·) 0
theorem foldl_add : ∀ (l : List Int) (a : Int), l.foldl (· + ·) a = a + l.foldl (· + ·) 0
  | [], a => by simp
  | x :: l, a => by rw [List.foldl_cons, List.foldl_cons, foldl_add l (a + x), foldl_add l (0 + x)]; omega
theorem sumM_take (m : List (Int × Int)) (B : List Int) (i : Nat) (h : i < B.length) : sumM m (B.take (i + 1)) = sumM m (B.take i) + valM m B[i] := by
  unfold sumM
  rw [List.take_add_one, List.getElem?_eq_getElem h, List.map_append, List.foldl_append]
  simp only [Option.toList_some, List.map_cons, List.map_nil, List.foldl_cons, List.foldl_nil]
structure BInv (B : List Int) (m : List (Int × Int)) : Prop where
  perm : B.Perm (keysM m)
  srt : B.Pairwise fun a b => a < b
theorem sumM_eq {m : List (Int × Int)} {S : SpanL} {B : List Int} (h : ChInv m S) (hB : BInv B m) : ∀ i (hi : i < B.length), sumM m (B.take (i + 1)) = (lF S B[i] : Int) - lT S B[i] := by
  have mem : ∀ k, k ∈ keysM m → ∃ j, ∃ hj : j < B.length, B[j] = k := fun k hk => by
    have := hB.perm.mem_iff.2 hk
    obtain ⟨j, hj, e⟩ := List.mem_iff_getElem.1 this
    exact ⟨j, hj, e⟩
  have lt : ∀ i j (hi : i < B.length) (hj : j < B.length), i < j → B[i] < B[j] := fun i j hi hj hij => (List.pairwise_iff_getElem.1 hB.srt) i j hi hj hij
  intro i
  induction i with
  | zero =>
    intro hi
    rw [sumM_take m B 0 hi, h.val]
    have : sumM m (B.take 0) = 0 := by simp [sumM]
    rw [this]
    have low : ∀ k ∈ keysM m, B[0] ≤ k := fun k hk => by
      obtain ⟨j, hj, rfl⟩ := mem k hk
      cases j with
      | zero => exact Int.le_refl _
      | succ j => have := lt 0 (j + 1) hi hj (by omega); omega
    have e1 : lF S B[0] = cF S B[0] := by
      unfold lF cF
      apply List.countP_congr
      intro x hx
      have := low _ (h.keys.2.2 x hx).1
      simp only [decide_eq_true_eq]; omega
    have e2 : lT S B[0] = cT S B[0] := by
      unfold lT cT
      apply List.countP_congr
      intro x hx
      have := low _ (h.keys.2.2 x hx).2
      simp only [decide_eq_true_eq]; omega
    rw [e1, e2]; omega
  | succ i ih =>
    intro hi
    rw [sumM_take m B (i + 1) hi, ih (by omega), h.val]
    have nb : ∀ k ∈ keysM m, k ≤ B[i + 1] ↔ k ≤ B[i] ∨ k = B[i + 1] := fun k hk => by
      obtain ⟨j, hj, rfl⟩ := mem k hk
      have l0 := lt i (i + 1) (by omega) hi (by omega)
      rcases Nat.lt_trichotomy j (i + 1) with c | c | c
      · have : B[j] ≤ B[i] := by
          rcases Nat.lt_or_ge j i with d | d
          · have := lt j i hj (by omega) d; omega
          · have : j = i := by omega
            subst this; exact Int.le_refl _
        omega
      · subst c; omega
      · have := lt (i + 1) j hi hj c; omega
    have l0 := lt i (i + 1) (by omega) hi (by omega)
    have e1 : lF S B[i + 1] = lF S B[i] + cF S B[i + 1] := by
      unfold lF cF
      apply countP_split
      intro x hx
      have := nb _ (h.keys.2.2 x hx).1
      simp only [decide_eq_true_eq]; omega
    have e2 : lT S B[i + 1] = lT S B[i] + cT S B[i + 1] := by
      unfold lT cT
      apply countP_split
      intro x hx
      have := nb _ (h.keys.2.2 x hx).2
      simp only [decide_eq_true_eq]; omega
    rw [e1, e2]; omega
theorem cover_eq {S : SpanL} (hS : ∀ x ∈ S, x.1 < x.2) (p : Int) : (lF S p : Int) - lT S p = (S.countP (inSpan p) : Nat) := by
  have : lF S p = S.countP (inSpan p) + lT S p := by
    unfold lF lT
    apply countP_split
    intro x hx
    have := hS x hx
    simp only [inSpan, Bool.and_eq_true, decide_eq_true_eq]; omega
  omega
theorem countP_canon : ∀ {l : SpanL} {lo : Int} (p : Int), CanonF lo l → l.countP (inSpan p) = if l.any (inSpan p) then 1 else 0
  | [], _, _, _ => rfl
  | y :: r, lo, p, ⟨h1, h2, h3, h4⟩ => by
    rw [List.countP_cons, countP_canon p h4, List.any_cons]
    cases hy : inSpan p y with
    | false => rw [Bool.false_or]; simp
    | true =>
      have := inSpan_iff.1 hy
      have : r.any (inSpan p) = false := by
        rw [Bool.eq_false_iff]; intro hr; have := any_low h4 hr; omega
      simp [this]
theorem countP_flat : ∀ (l : List SpanL) (p : Int), ((l.map canon).flatten).countP (inSpan p) = cnt l p
  | [], _ => rfl
  | s :: l, p => by
    rw [List.map_cons, List.flatten_cons, List.countP_append, countP_flat l p, countP_canon p (canon_canon s), canon_any]
    unfold cnt
    rw [List.countP_cons]; omega
def keptB (keep : Nat → Bool) (m : List (Int × Int)) (B : List Int) : Nat → SpanL
  | 0 => []
  | i + 1 => keptB keep m B i ++ (match B[i]?, B[i + 1]? with
    | some a, some b => if keep (sumM m (B.take (i + 1))).toNat then [(a, b)] else []
    | _, _ => [])
theorem keptB_mem {keep : Nat → Bool} {m : List (Int × Int)} {B : List Int} {x : Int × Int} : ∀ {n : Nat}, x ∈ keptB keep m B n ↔ ∃ i, i < n ∧ ∃ (h1 : i < B.length) (h2 : i + 1 < B.length), keep (sumM m (B.take (i + 1))).toNat = true ∧ x = (B[i], B[i + 1])
  | 0 => by simp [keptB]
  | n + 1 => by
    unfold keptB
    rw [List.mem_append, keptB_mem (n := n)]
    constructor
    · rintro (⟨i, h1, h2⟩ | h)
      · exact ⟨i, by omega, h2⟩
      · split at h
        · rename_i a b ha hb
          obtain ⟨h1, e1⟩ := List.getElem?_eq_some_iff.1 ha
          obtain ⟨h2, e2⟩ := List.getElem?_eq_some_iff.1 hb
          split at h
          · rename_i hk
            refine ⟨n, by omega, h1, h2, hk, ?_⟩
            rw [List.mem_singleton.1 h, e1, e2]
          · cases h
        · cases h
    · rintro ⟨i, h1, h2, h3, h4, rfl⟩
      by_cases e : i = n
      · subst e
        refine .inr ?_
        rw [List.getElem?_eq_getElem h2, List.getElem?_eq_getElem h3]
        simp [h4]
      · exact .inl ⟨i, by omega, h2, h3, h4, rfl⟩
theorem bounds_cover {B : List Int} (hs : B.Pairwise fun a b => a < b) {p : Int} : ∀ (n : Nat) (h0 : 0 < B.length) (hn : n < B.length), B[0] ≤ p → p < B[n] → ∃ i, ∃ (h1 : i < B.length) (h2 : i + 1 < B.length), B[i] ≤ p ∧ p < B[i + 1]
  | 0, h0, hn, h1, h2 => by omega
  | n + 1, h0, hn, h1, h2 => by
    by_cases e : B[n] ≤ p
    · exact ⟨n, by omega, hn, e, h2⟩
    · exact bounds_cover hs n h0 (by omega) h1 (by omega)
theorem kept_has {keep : Nat → Bool} {l : List SpanL} {m : List (Int × Int)} {B : List Int} (h : ChInv m (l.map canon).flatten) (hB : BInv B m) (p : Int) : has (keptB keep m B (B.length - 1)) p = (inPl p && keep (cnt l p)) := by
  have hS : ∀ x ∈ (l.map canon).flatten, x.1 < x.2 := fun x hx => by
    obtain ⟨s, hs, hx⟩ := List.mem_flatten.1 hx
    obtain ⟨t, _, rfl⟩ := List.mem_map.1 hs
    exact ((canon_canon t).low x hx).2.1
  have mem : ∀ k, k ∈ keysM m → ∃ j, ∃ hj : j < B.length, B[j] = k := fun k hk => by
    obtain ⟨j, hj, e⟩ := List.mem_iff_getElem.1 (hB.perm.mem_iff.2 hk)
    exact ⟨j, hj, e⟩
  have lt : ∀ i j (hi : i < B.length) (hj : j < B.length), i < j → B[i] < B[j] := fun i j hi hj hij => (List.pairwise_iff_getElem.1 hB.srt) i j hi hj hij
  have rng : ∀ i (hi : i < B.length), 0 ≤ B[i] ∧ B[i] ≤ 1000000 := fun i hi => h.rng _ (hB.perm.mem_iff.1 (List.getElem_mem hi))
  -- between two bounds
  have between : ∀ i (h1 : i < B.length) (h2 : i + 1 < B.length), B[i] ≤ p → p < B[i + 1] → (sumM m (B.take (i + 1))).toNat = cnt l p := fun i h1 h2 a b => by
    have same : ∀ k ∈ keysM m, k ≤ B[i] ↔ k ≤ p := fun k hk => by
      obtain ⟨j, hj, rfl⟩ := mem k hk
      constructor
      · intro c; omega
      · intro c
        rcases Nat.lt_or_ge i j with d | d
        · rcases Nat.lt_or_ge (i + 1) j with f | f
          · have := lt (i + 1) j h2 hj f; omega
          · have : j = i + 1 := by omega
            subst this; omega
        · rcases Nat.lt_or_ge j i with f | f
          · have := lt j i hj h1 f; omega
          · have : j = i := by omega
            subst this; exact Int.le_refl _
    have e1 : lF (l.map canon).flatten B[i] = lF (l.map canon).flatten p := by
      unfold lF
      apply List.countP_congr
      intro x hx
      have := same _ (h.keys.2.2 x hx).1
      simp only [decide_eq_true_eq]; exact this
    have e2 : lT (l.map canon).flatten B[i] = lT (l.map canon).flatten p := by
      unfold lT
      apply List.countP_congr
      intro x hx
      have := same _ (h.keys.2.2 x hx).2
      simp only [decide_eq_true_eq]; exact this
    rw [sumM_eq h hB i h1, e1, e2, cover_eq hS, countP_flat]; simp
  rw [Bool.eq_iff_iff]
  constructor
  · intro hh
    have hin := has_in hh
    unfold has at hh
    simp only [hin, decide_true, Bool.true_and] at hh
    obtain ⟨x, hx, hp⟩ := List.any_eq_true.1 hh
    obtain ⟨i, _, h1, h2, hk, rfl⟩ := keptB_mem.1 hx
    have := inSpan_iff.1 hp
    dsimp only at this
    rw [← between i h1 h2 this.1 this.2]
    simp [inPl, hin, hk]
  · intro hh
    simp only [Bool.and_eq_true, inPl, decide_eq_true_eq] at hh
    obtain ⟨⟨p0, p1⟩, hk⟩ := hh
    obtain ⟨j0, hj0, e0⟩ := mem 0 h.keys.1
    obtain ⟨j1, hj1, e1⟩ := mem 1000000 h.keys.2.1
    have hb0 : B[0]'(by omega) ≤ p := by
      have : B[0]'(by omega) ≤ 0 := by
        cases j0 with
        | zero => omega
        | succ j => have := lt 0 (j + 1) (by omega) hj0 (by omega); omega
      omega
    obtain ⟨i, h1, h2, a, b⟩ := bounds_cover hB.srt j1 (by omega) hj1 hb0 (by omega)
    unfold has
    simp only [p0, p1, decide_true, Bool.true_and]
    exact List.any_eq_true.2 ⟨(B[i], B[i + 1]), keptB_mem.2 ⟨i, by omega, h1, h2, by rw [between i h1 h2 a b]; exact hk, rfl⟩, inSpan_iff.2 ⟨a, b⟩⟩
theorem sumM_rng {l : List SpanL} {m : List (Int × Int)} {B : List Int} (h : ChInv m (l.map canon).flatten) (hB : BInv B m) (i : Nat) (hi : i < B.length) : 0 ≤ sumM m (B.take (i + 1)) ∧ sumM m (B.take (i + 1)) ≤ l.length := by
  have hS : ∀ x ∈ (l.map canon).flatten, x.1 < x.2 := fun x hx => by
    obtain ⟨s, hs, hx⟩ := List.mem_flatten.1 hx
    obtain ⟨t, _, rfl⟩ := List.mem_map.1 hs
    exact ((canon_canon t).low x hx).2.1
  rw [sumM_eq h hB i hi, cover_eq hS, countP_flat]
  have : cnt l B[i] ≤ l.length := List.countP_le_length
  omega
end Go.Eng
