/- Lemmas for the claims of this seat, without a condition: part 4 (P10, P11, P12). -/
import Derived.Test.YtodcmjcogdcmlaaGreatDoorA03
import Derived.Test.YtodcmjcogdcmlaaGreatDoorA01
import Derived.Lib.SplitLaws
import Derived.Lib.IndexBytes
namespace Go.Eng
def putT (m : List Tm) (t : Tm) : List Tm := if m.any (fun u => decide (u.path = t.path)) then m.map (fun u => if u.path = t.path then t else u) else m ++ [t]
def stepT (m : List Tm) (t : Tm) : List Tm := putT m (putO (findT m t.path) t)
def mergeM (l : List Tm) : List Tm := l.foldl stepT []
theorem findT_put (t : Tm) (p : ByteArray) : ∀ m : List Tm, findT (putT m t) p = if t.path = p then some t else findT m p := by
  intro m
  unfold putT
  by_cases h : (m.any fun u => decide (u.path = t.path)) = true
  · rw [if_pos h]
    induction m with
    | nil => simp at h
    | cons u m ih =>
      rw [List.map_cons, findT_cons, findT_cons]
      by_cases e : u.path = t.path
      · rw [if_pos e]
        by_cases ep : t.path = p
        · simp [ep]
        · rw [if_neg ep, if_neg ep, if_neg (fun c => ep (e.symm.trans c))]
          by_cases hm : (m.any fun u => decide (u.path = t.path)) = true
          · rw [ih hm, if_neg ep]
          · have : ∀ q ∈ m, q.path ≠ t.path := fun q hq c => hm (List.any_eq_true.2 ⟨q, hq, by simp [c]⟩)
            have : m.map (fun u => if u.path = t.path then t else u) = m := by
              conv => rhs; rw [← List.map_id m]
              exact List.map_congr_left fun q hq => by simp [this q hq]
            rw [this]
      · rw [if_neg e]
        have hm : (m.any fun u => decide (u.path = t.path)) = true := by simpa [e] using h
        rw [ih hm]
        by_cases ep : t.path = p
        · subst ep; simp [e]
        · simp [ep]
  · rw [if_neg h]
    have hn : ∀ q ∈ m, q.path ≠ t.path := fun q hq e => h (List.any_eq_true.2 ⟨q, hq, by simp [e]⟩)
    clear h
    induction m with
    | nil => rw [List.nil_append, findT_cons]
    | cons u m ih =>
      rw [List.cons_append, findT_cons, findT_cons, ih fun q hq => hn q (List.mem_cons_of_mem _ hq)]
      have := hn u (List.mem_cons_self ..)
      by_cases e : u.path = p
      · have : ¬ t.path = p := fun c => this (e.trans c.symm)
        simp [e, this]
      · simp [e]
def pathsT (m : List Tm) : List ByteArray := m.map (·.path)
open Classical in
theorem pathsT_put (m : List Tm) (t : Tm) : pathsT (putT m t) = if t.path ∈ pathsT m then pathsT m else pathsT m ++ [t.path] := by
  unfold putT pathsT
  have e : (m.any fun u => decide (u.path = t.path)) = true ↔ t.path ∈ m.map (·.path) := by
    simp only [List.any_eq_true, decide_eq_true_eq, List.mem_map]
  by_cases h : t.path ∈ m.map (·.path)
  · rw [if_pos (e.2 h), if_pos h, List.map_map]
    apply List.map_congr_left
    intro p _
    simp only [Function.comp]
    split
    · rename_i e; exact e.symm
    · rfl
  · rw [if_neg (fun c => h (e.1 c)), if_neg h, List.map_append]; rfl
theorem nodup_put {m : List Tm} (h : (pathsT m).Nodup) (t : Tm) : (pathsT (putT m t)).Nodup := by
  rw [pathsT_put]
  split
  · exact h
  · rename_i hn
    rw [List.nodup_append]
    exact ⟨h, by simp, fun a ha b hb e => by subst e; rw [List.mem_singleton.1 hb] at ha; exact hn ha⟩
theorem mergeM_take (l : List Tm) (i : Nat) (h : i < l.length) : mergeM (l.take (i + 1)) = stepT (mergeM (l.take i)) l[i] := by
  unfold mergeM; rw [List.take_add_one, List.getElem?_eq_getElem h, List.foldl_append]; rfl
theorem foldlM_nodup : ∀ (l m : List Tm), (pathsT m).Nodup → (pathsT (l.foldl stepT m)).Nodup
  | [], _, h => h
  | _ :: l, _, h => foldlM_nodup l _ (nodup_put h _)
theorem mergeM_nodup (l : List Tm) : (pathsT (mergeM l)).Nodup := foldlM_nodup l [] .nil
theorem findT_stepT (m : List Tm) (t : Tm) (p : ByteArray) : findT (stepT m t) p = stepO p (findT m p) t := by
  unfold stepT stepO
  have hp : (putO (findT m t.path) t).path = t.path := putO_path _ _ fun u h => findT_path h
  rw [findT_put, hp]
  by_cases e : t.path = p
  · rw [if_pos e, if_pos e, e]
  · rw [if_neg e, if_neg e]
theorem findT_mergeM (p : ByteArray) : ∀ (l m : List Tm), findT (l.foldl stepT m) p = l.foldl (stepO p) (findT m p)
  | [], _ => rfl
  | t :: l, m => by rw [List.foldl_cons, List.foldl_cons, findT_mergeM p l, findT_stepT]
theorem find_merge (l : List Tm) (p : ByteArray) : findT (mergeM l) p = findT (mergeT l) p := by
  unfold mergeM; rw [findT_mergeM, findT_mergeT]; rfl
theorem findT_nodup {m : List Tm} (h : (pathsT m).Nodup) {t : Tm} : t ∈ m ↔ findT m t.path = some t := by
  constructor
  · induction m with
    | nil => intro h; cases h
    | cons u m ih =>
      intro ht
      unfold pathsT at h ih
      rw [List.map_cons, List.nodup_cons] at h
      rw [findT_cons]
      rcases List.mem_cons.1 ht with rfl | ht
      · rw [if_pos rfl]
      · have : ¬ u.path = t.path := fun e => h.1 (e ▸ List.mem_map.2 ⟨t, ht, rfl⟩)
        rw [if_neg this]; exact ih h.2 ht
  · exact findT_mem
theorem nodup_of_paths {m : List Tm} (h : (pathsT m).Nodup) : m.Nodup := by
  unfold pathsT at h
  induction m with
  | nil => exact .nil
  | cons u m ih =>
    rw [List.map_cons, List.nodup_cons] at h
    exact List.nodup_cons.2 ⟨fun hu => h.1 (List.mem_map.2 ⟨u, hu, rfl⟩), ih h.2⟩
theorem sorted_nodup {l : List Tm} {lo : Option ByteArray} (h : SortedT lo l) : (pathsT l).Nodup := by
  unfold pathsT
  induction l generalizing lo with
  | nil => exact .nil
  | cons t l ih =>
    rw [List.map_cons, List.nodup_cons]
    refine ⟨fun hm => ?_, ih h.2.2⟩
    obtain ⟨u, hu, e⟩ := List.mem_map.1 hm
    have := h.2.2.low u hu
    rw [e, blt_irrefl] at this; cases this
theorem mem_merge (l : List Tm) (t : Tm) : t ∈ mergeM l ↔ t ∈ mergeT l := by
  rw [findT_nodup (mergeM_nodup l), find_merge, ← findT_nodup (sorted_nodup (mergeT_sorted l))]
theorem mergeM_canon (l : List Tm) : ∀ t ∈ mergeM l, Canon t.set := fun t ht => (mergeT_sorted l).canon t ((mem_merge l t).1 ht)
theorem stepT_len (m : List Tm) (t : Tm) : (stepT m t).length ≤ m.length + 1 := by
  unfold stepT putT
  split <;> simp
theorem mergeM_len (l : List Tm) : ∀ i, i ≤ l.length → (mergeM (l.take i)).length ≤ i := by
  intro i
  induction i with
  | zero => intro _; simp [mergeM]
  | succ i ih =>
    intro h
    rw [mergeM_take l i (by omega)]
    have := stepT_len (mergeM (l.take i)) l[i]
    have := ih (by omega)
    omega
theorem sortedT_of {s : List Tm} (hs : s.Pairwise fun x y => blt x.path y.path = true) (hc : ∀ t ∈ s, Canon t.set) : SortedT none s := by
  have : ∀ (s : List Tm) (lo : Option ByteArray), s.Pairwise (fun x y => blt x.path y.path = true) → (∀ t ∈ s, Canon t.set) → (∀ p, lo = some p → ∀ t ∈ s, blt p t.path = true) → SortedT lo s := by
    intro s
    induction s with
    | nil => intro _ _ _ _; trivial
    | cons t s ih =>
      intro lo hs hc hl
      obtain ⟨h1, h2⟩ := List.pairwise_cons.1 hs
      exact ⟨fun p e => hl p e t (List.mem_cons_self ..), hc t (List.mem_cons_self ..), ih _ h2 (fun u hu => hc u (List.mem_cons_of_mem _ hu)) fun p e u hu => by cases e; exact h1 u hu⟩
  exact this s none hs hc fun _ e => by cases e
theorem canonT_of_sorted {l s : List Tm} (q : Tm → Bool) (hp : s.Perm ((mergeM l).filter q)) (hs : s.Pairwise fun x y => blt y.path x.path = false) : s = (mergeT l).filter q := by
  have hm : ∀ t, t ∈ s ↔ t ∈ (mergeT l).filter q := fun t => by
    rw [hp.mem_iff, List.mem_filter, List.mem_filter, mem_merge]
  have hnd : (pathsT s).Nodup := by
    have h1 : (pathsT ((mergeM l).filter q)).Nodup := by
      unfold pathsT
      exact List.Nodup.sublist (List.Sublist.map _ List.filter_sublist) (mergeM_nodup l)
    unfold pathsT at h1 ⊢
    exact (hp.map (·.path)).nodup_iff.2 h1
  have hst : s.Pairwise fun x y => blt x.path y.path = true := by
    rw [List.pairwise_iff_getElem] at hs ⊢
    intro i j hi hj hij
    cases hb : blt s[i].path s[j].path with
    | true => rfl
    | false =>
      have e := blt_tri hb (hs i j hi hj hij)
      unfold pathsT at hnd
      have := (List.pairwise_iff_getElem.1 hnd) i j (by simpa using hi) (by simpa using hj) hij
      simp at this
      exact absurd e this
  have hss : SortedT none s := sortedT_of hst fun t ht => (mergeT_sorted l).canon t (List.mem_filter.1 ((hm t).1 ht)).1
  have hsm : SortedT none ((mergeT l).filter q) := SortedT.filter q (mergeT_sorted l)
  refine sortedT_unique hss hsm fun p => ?_
  cases h1 : findT s p with
  | some t =>
    have := (hm t).1 (findT_mem h1)
    rw [findT_some_iff hsm, findT_path h1] at this
    exact this.symm
  | none =>
    cases h2 : findT ((mergeT l).filter q) p with
    | none => rfl
    | some t =>
      have := (hm t).2 (findT_mem h2)
      rw [findT_some_iff hss, findT_path h2, h1] at this
      cases this
theorem bothT_self (t : Tm) : bothT t t = canT1 t := by unfold bothT canT1; rw [inter_self, Bool.and_self]
theorem putO_eq (o : Option Tm) (t : Tm) : putO o t = bothT (o.getD t) t := by cases o with | none => exact (bothT_self t).symm | some u => rfl
theorem always_eq {t : Tm} (h : Canon t.set) : (t.absent && (compl t.set).isEmpty) = alwaysT t := by
  unfold alwaysT
  congr 1
  rw [Bool.eq_iff_iff, List.isEmpty_iff, decide_eq_true_eq]
  have ha : Canon [(0, 1000000)] := ⟨Int.le_refl _, by dsimp only; omega, Int.le_refl _, trivial⟩
  constructor
  · intro e
    refine canon_unique h ha fun p => ?_
    have := has_compl t.set p
    rw [e] at this
    have h0 : has [] p = false := by simp [has]
    rw [h0] at this
    have h1 : has [(0, 1000000)] p = inPl p := by simp [has, inPl, inSpan]
    rw [h1]
    cases hp : inPl p with
    | true => rw [hp] at this; simpa using this.symm
    | false =>
      rw [Bool.eq_false_iff]
      intro hh
      have := has_in hh
      simp [inPl, this] at hp
  · intro e
    rw [nil_iff_of_canon (compl_canon _)]
    intro p
    rw [has_compl, e]
    have h1 : has [(0, 1000000)] p = inPl p := by simp [has, inPl, inSpan]
    rw [h1]; simp
theorem never_eq {t : Tm} (h : Canon t.set) : (!t.absent && (canon t.set).isEmpty) = neverT t := by unfold neverT; rw [canon_of_canon h]
end Go.Eng

namespace Go.Eng
open Go.Lib
theorem splitK_eq (c : UInt8) : ∀ (s : List UInt8) (k : Nat), s.count c ≤ k → splitK [c] 0 k s = splitL c s
  | [], k, _ => by
    cases k with
    | zero => rfl
    | succ k => rfl
  | b :: r, k, h => by
    rw [splitL]
    by_cases e : b = c
    · subst e
      rw [List.count_cons_self] at h
      obtain ⟨k', rfl⟩ : ∃ k', k = k' + 1 := ⟨k - 1, by omega⟩
      rw [if_pos rfl, splitK, index_one, indexByte]
      simp only [beq_self_eq_true, if_true]
      rw [if_neg (by decide)]
      show [] :: splitK [b] 0 k' r = _
      rw [splitK_eq b r k' (by omega)]
    · have hne : (b == c) = false := by simpa using e
      rw [List.count_cons_of_ne (by simpa using e)] at h
      have ih := splitK_eq c r k h
      rw [if_neg e]
      cases k with
      | zero =>
        rw [← ih]; rfl
      | succ k =>
        rw [← ih, splitK, splitK, index_one, index_one, indexByte, hne]
        by_cases h0 : indexByte r c = -1
        · rw [h0]; rfl
        · have h1 : (indexByte r c == -1) = false := by simpa using h0
          have h2 := indexByte_ge r c
          have h3 : (indexByte r c + 1 == -1) = false := by rw [beq_eq_false_iff_ne]; omega
          simp only [Bool.false_eq_true, if_false, h1, h3]
          obtain ⟨i, hi⟩ : ∃ i : Nat, indexByte r c = i := ⟨(indexByte r c).toNat, by omega⟩
          rw [hi]
          show (b :: r).take (((i : Int) + 1).toNat + 0) :: _ = (b :: r.take ((i : Int).toNat + 0)) :: _
          rw [show ((i : Int) + 1).toNat = i + 1 by omega, show ((i : Nat) : Int).toNat = i by omega]
          rfl
theorem count_eq (c : UInt8) : ∀ (n : Nat) (s : List UInt8), s.length ≤ n → count s [c] = s.count c
  | n, s, hn => by
    rcases Int.lt_or_le (indexByte s c) 0 with h | h
    · have h2 := indexByte_ge s c
      have h3 : indexByte s c = -1 := by omega
      rw [count_miss (by rw [index_one]; exact h3)]
      symm
      rw [List.count_eq_zero]
      intro hm
      obtain ⟨k, hk, e⟩ := List.getElem_of_mem hm
      exact indexByte_none h3 k (by rw [List.getElem?_eq_getElem hk, e])
    · obtain ⟨i, hi⟩ : ∃ i : Nat, indexByte s c = i := ⟨(indexByte s c).toNat, by omega⟩
      obtain ⟨h1, h2⟩ := indexByte_some hi
      obtain ⟨hl, hg⟩ := List.getElem?_eq_some_iff.1 h1
      cases n with
      | zero => omega
      | succ n =>
        have hc := count_hit (s := s) (sub := [c]) (i := i) (by simp) (by rw [index_one]; exact hi)
        rw [hc]
        have ih := count_eq c n (s.drop (i + 1)) (by rw [List.length_drop]; omega)
        have hsp : s = s.take i ++ c :: s.drop (i + 1) := by
          rw [← hg, ← List.drop_eq_getElem_cons hl, List.take_append_drop]
        have h0 : (s.take i).count c = 0 := by
          rw [List.count_eq_zero]
          intro hm
          obtain ⟨k, hk, e⟩ := List.getElem_of_mem hm
          rw [List.length_take] at hk
          rw [List.getElem_take] at e
          exact h2 k (by omega) (by rw [List.getElem?_eq_getElem (by omega), e])
        conv => rhs; rw [hsp]
        rw [List.count_append, h0, List.count_cons_self]
        show 1 + count (s.drop (i + 1)) [c] = _
        rw [ih]; omega
theorem splitB_eq (s : ByteArray) (c : UInt8) : ((splitB ⟨#[c]⟩ 0 (countB s ⟨#[c]⟩) s).map (·.data.toList)) = splitL c s.data.toList := by
  rw [splitB_data]
  refine splitK_eq c _ _ ?_
  show _ ≤ count s.data.toList [c]
  rw [count_eq c _ _ (Nat.le_refl _)]; exact Nat.le_refl _
end Go.Eng

namespace Go.Eng
theorem nodup_len {α : Type} : ∀ {l m : List α}, l.Nodup → (∀ x ∈ l, x ∈ m) → l.length ≤ m.length
  | [], _, _, _ => Nat.zero_le _
  | a :: l, m, hn, hs => by
    obtain ⟨h1, h2⟩ := List.nodup_cons.1 hn
    obtain ⟨s, t, rfl⟩ := List.append_of_mem (hs a (List.mem_cons_self ..))
    have : l.length ≤ (s ++ t).length := nodup_len h2 fun x hx => by
      rcases List.mem_append.1 (hs x (List.mem_cons_of_mem _ hx)) with h | h
      · exact List.mem_append_left _ h
      · rcases List.mem_cons.1 h with rfl | h
        · exact absurd hx h1
        · exact List.mem_append_right _ h
    simp only [List.length_append, List.length_cons] at this ⊢; omega
theorem foldl_step_none (p : ByteArray) : ∀ (l : List Tm) (o : Option Tm), (∀ u ∈ l, u.path ≠ p) → l.foldl (stepO p) o = o
  | [], _, _ => rfl
  | t :: l, o, h => by
    rw [List.foldl_cons, show stepO p o t = o by unfold stepO; rw [if_neg (h t (List.mem_cons_self ..))]]
    exact foldl_step_none p l o fun u hu => h u (List.mem_cons_of_mem _ hu)
theorem merge_path {l : List Tm} {t : Tm} (h : t ∈ mergeT l) : ∃ u ∈ l, u.path = t.path := by
  apply Classical.byContradiction
  intro hn
  have : ∀ u ∈ l, u.path ≠ t.path := fun u hu e => hn ⟨u, hu, e⟩
  have h1 := (findT_some_iff (mergeT_sorted l)).1 h
  rw [findT_mergeT, foldl_step_none _ _ _ this] at h1
  cases h1
def InU (U : List ByteArray) (t : List Tm) : Prop := SortedT none t ∧ ∀ u ∈ t, u.path ∈ U
theorem InU.len {U : List ByteArray} {t : List Tm} (h : InU U t) : t.length ≤ U.length := by
  have := nodup_len (sorted_nodup h.1) (m := U) fun p hp => by
    obtain ⟨u, hu, rfl⟩ := List.mem_map.1 hp
    exact h.2 u hu
  unfold pathsT at this
  rwa [List.length_map] at this
theorem canonT_mem {l c : List Tm} (h : canonT l = some c) {t : Tm} (ht : t ∈ c) : t ∈ mergeT l := by
  unfold canonT at h
  split at h
  · cases h
  · cases h; exact (List.mem_filter.1 ht).1
theorem canonT_in {U : List ByteArray} {l c : List Tm} (h : canonT l = some c) (hu : ∀ u ∈ l, u.path ∈ U) : InU U c :=
  ⟨canonT_sorted h, fun t ht => by
    obtain ⟨u, h1, h2⟩ := merge_path (canonT_mem h ht)
    rw [← h2]; exact hu u h1⟩
theorem InU.nil (U : List ByteArray) : InU U [] := ⟨trivial, fun u hu => by cases hu⟩
theorem ofT_in {U : List ByteArray} {l : List Tm} (hu : ∀ u ∈ l, u.path ∈ U) : InU U (ofT l) := by
  unfold ofT
  cases h : canonT l with
  | none => exact .nil U
  | some c => exact canonT_in h hu
theorem resolveT_in {U : List ByteArray} {a b : List Tm} {p : ByteArray} (ha : InU U a) (hb : InU U b) : InU U (resolveT a b p).1 := by
  have sp : ∀ {l r : List Tm} {t : Tm}, InU U l → splitT l p = some (t, r) → t.path ∈ U ∧ ∀ u ∈ r, u.path ∈ U := by
    intro l r t hl h
    unfold splitT at h
    cases e : canonT l with
    | none => rw [e] at h; cases h
    | some c =>
      rw [e] at h
      have h : (match findT c p with | none => none | some t => some (t, withoutT c p)) = some (t, r) := h
      have hc := canonT_in e hl.2
      cases e2 : findT c p with
      | none => rw [e2] at h; cases h
      | some u =>
        rw [e2] at h; cases h
        exact ⟨hc.2 _ (findT_mem e2), fun u hu => hc.2 u (List.mem_filter.1 hu).1⟩
  unfold resolveT
  split
  · rename_i t r u m e1 e2
    obtain ⟨a1, a2⟩ := sp ha e1
    obtain ⟨b1, b2⟩ := sp hb e2
    split
    · rename_i o e3
      refine canonT_in e3 fun v hv => ?_
      rcases List.mem_append.1 hv with hv | hv
      · rcases List.mem_append.1 hv with hv | hv
        · exact a2 v hv
        · exact b2 v hv
      · rw [List.mem_singleton.1 hv]; exact a1
    · exact .nil U
  · exact .nil U
def pathsU (x : List Rl) (roots : List Rq) (l : List Nf) : List ByteArray := (x.map (·.path)) ++ ((x.map (·.reqs)).flatten.map (·.path) ++ (roots.map (·.path) ++ l.map (·.path)))
theorem inferP_in {x : List Rl} {roots : List Rq} {l : List Nf} {d : List (List Tm)} {i : Nf} (hi : i ∈ l) (hd : ∀ t ∈ d, InU (pathsU x roots l) t) {t : List Tm} (h : inferP x roots d i = some t) : InU (pathsU x roots l) t := by
  have hp : i.path ∈ pathsU x roots l := by
    unfold pathsU
    exact List.mem_append_right _ (List.mem_append_right _ (List.mem_append_right _ (List.mem_map.2 ⟨i, hi, rfl⟩)))
  have nz : ∀ {α : Type} {l : List α} {k : Int} {a : α}, nthZ l k = some a → a ∈ l := by
    intro α l k a h
    unfold nthZ at h
    split at h
    · cases h
    · exact List.mem_of_getElem? h
  have n0 : ∀ {a b : List Tm}, ne0 a = some b → b = a := by
    intro a b h
    unfold ne0 at h
    split at h
    · cases h
    · cases h; rfl
  unfold inferP at h
  split at h
  · split at h
    · cases e : nthZ roots i.number with
      | none => rw [e] at h; cases h
      | some q =>
        rw [e] at h; cases h
        refine ofT_in fun u hu => ?_
        rw [List.mem_singleton.1 hu]
        unfold pathsU
        exact List.mem_append_right _ (List.mem_append_right _ (List.mem_append_left _ (List.mem_map.2 ⟨q, nz e, rfl⟩)))
    · cases h
  split at h
  · split at h
    · cases e : releaseP x i.path i.place with
      | none => rw [e] at h; cases h
      | some r =>
        rw [e] at h
        have h : (match nthZ r.reqs i.number with | none => none | some q => ne0 (requiresT i.path i.place q)) = some t := h
        cases e2 : nthZ r.reqs i.number with
        | none => rw [e2] at h; cases h
        | some q =>
          rw [e2] at h
          have h := n0 (show ne0 (requiresT i.path i.place q) = some t from h)
          subst h
          refine ofT_in fun u hu => ?_
          rcases List.mem_cons.1 hu with rfl | hu
          · exact hp
          · rw [List.mem_singleton.1 hu]
            unfold pathsU
            refine List.mem_append_right _ (List.mem_append_left _ (List.mem_map.2 ⟨q, ?_, rfl⟩))
            exact List.mem_flatten.2 ⟨r.reqs, List.mem_map.2 ⟨r, List.mem_of_find?_eq_some e, rfl⟩, nz e2⟩
    · cases h
  split at h
  · split at h
    · have h := n0 h
      subst h
      refine ofT_in fun u hu => ?_
      rw [List.mem_singleton.1 hu]; exact hp
    · cases h
  split at h
  · split at h
    · cases e : nthZ d i.left with
      | none => rw [e] at h; cases h
      | some a =>
        cases e2 : nthZ d i.right with
        | none => rw [e, e2] at h; cases h
        | some b =>
          rw [e, e2] at h
          have h : (if (resolveT a b i.path).2 = 0 then some (resolveT a b i.path).1 else none) = some t := h
          split at h
          · cases h; exact resolveT_in (hd a (nz e)) (hd b (nz e2))
          · cases h
    · cases h
  · cases h
end Go.Eng
