/- Lemmas for the claims of this seat, without a condition: part 10 (EngR). -/
import Derived.Test.YtodcmjcogdcmlaaGreatDoorA09
namespace Go.Eng

theorem RepL.app {g : Gh} {w : World} {U : Nat → Prop} {as1 bs : List AV} {xs ys : List Value} (h : RepL g w U as1 xs) (k : RepL g w U bs ys) : RepL g w U (as1 ++ bs) (xs ++ ys) := by
  refine ⟨by simp [h.1, k.1], fun x hx => (List.mem_append.1 hx).elim (h.2.1 x) (k.2.1 x), fun i av x h1 h2 => ?_⟩
  by_cases hi : i < as1.length
  · rw [List.getElem?_append_left hi] at h1
    rw [List.getElem?_append_left (by rw [h.1]; exact hi)] at h2
    exact h.2.2 i av x h1 h2
  · rw [List.getElem?_append_right (by omega)] at h1
    rw [List.getElem?_append_right (by rw [h.1]; omega), h.1] at h2
    exact k.2.2 _ av x h1 h2

section
variable {P : Program} {w0 : World} {g0 : Gh} {h0 h : Nat → HO} {g : Gh} {w : World} (hI : Inv w0 g0 h0 h g w)
include hI

omit hI in
theorem run_append_room' (t ty e : TypeId) (i : TypeInfo) (ht : P.underlying t = some (.slice e)) (hi : P.info? e = some i) {E : TypeId}
    (g sLen sCap : Nat) (cur : Array Value) (hg : w.heap[g]? = some (.cells cur E (0, 0)))
    (a : Addr) (m c : Nat) (news : List Value) (hl : news.length = m * i.size) (hnews : ∀ j u, news[j]? = some u → w.cell? (a.add j) = some u) (h1 : ∀ u ∈ news, u.oneCell' = true)
    (hroom : sLen + m ≤ sCap) (hfit : sLen * i.size + news.length ≤ cur.size) :
    (Builtin.append_ #[t, t] ty #[.slice (some ⟨g, 0, none⟩) sLen sCap, .slice (some a) m c]).run P w =
      .ok (.slice (some ⟨g, 0, none⟩) (sLen + m) sCap) (w.setRow g (cur.toList.take (sLen * i.size) ++ news ++ cur.toList.drop (sLen * i.size + news.length)).toArray) := by
  have hf := run_firstCells_some (P := P) w i.size m a m c news hl hnews
  have hst := run_storeCells_at P g (sLen * i.size) E news 0 cur w hg (by simpa using hfit) h1
  simp only [Nat.add_zero] at hst
  simp [Builtin.append_, run_underlying ht, sizeOf, typeInfo, hi, Builtin.lenOf, hroom, hf, Addr.add_lit, hst]

omit hI in
theorem run_append_off (t ty e : TypeId) (i : TypeInfo) (ht : P.underlying t = some (.slice e)) (hi : P.info? e = some i) {E : TypeId}
    (g off sLen sCap : Nat) (cur : Array Value) (hg : w.heap[g]? = some (.cells cur E (0, 0)))
    (a : Addr) (m c : Nat) (news : List Value) (hl : news.length = m * i.size) (hnews : ∀ j u, news[j]? = some u → w.cell? (a.add j) = some u) (h1 : ∀ u ∈ news, u.oneCell' = true)
    (hroom : sLen + m ≤ sCap) (hfit : off + sLen * i.size + news.length ≤ cur.size) :
    (Builtin.append_ #[t, t] ty #[.slice (some ⟨g, off, none⟩) sLen sCap, .slice (some a) m c]).run P w =
      .ok (.slice (some ⟨g, off, none⟩) (sLen + m) sCap) (w.setRow g (cur.toList.take (off + sLen * i.size) ++ news ++ cur.toList.drop (off + sLen * i.size + news.length)).toArray) := by
  have hf := run_firstCells_some (P := P) w i.size m a m c news hl hnews
  have hst := run_storeCells_at P g (off + sLen * i.size) E news 0 cur w hg (by simpa using hfit) h1
  simp only [Nat.add_zero] at hst
  simp [Builtin.append_, run_underlying ht, sizeOf, typeInfo, hi, Builtin.lenOf, hroom, hf, Addr.add_lit, hst]

omit hI in
theorem row_off {b off n m sz cap : Nat} {cur : Array Value} {E : TypeId} {olds news : List Value} (hb : w.heap[b]? = some (.cells cur E (0, 0))) (hcur : cur.size = off + cap * sz) (hn : n ≤ cap) (hm : n + m ≤ cap) (hnl : news.length = m * sz) (hol : olds.length = n * sz)
    (holds : ∀ j u, olds[j]? = some u → w.cell? ⟨b, off + j, none⟩ = some u) :
    (cur.toList.take (off + n * sz) ++ news ++ cur.toList.drop (off + n * sz + news.length)).length = off + cap * sz ∧
    ((cur.toList.take (off + n * sz) ++ news ++ cur.toList.drop (off + n * sz + news.length)).drop off).take ((n + m) * sz) = olds ++ news ∧
    ∀ o, o < off + n * sz → (cur.toList.take (off + n * sz) ++ news ++ cur.toList.drop (off + n * sz + news.length)).toArray[o]? = cur[o]? := by
  have hcl : cur.toList.length = off + cap * sz := by rw [Array.length_toList]; exact hcur
  have hmul : (n + m) * sz ≤ cap * sz := Nat.mul_le_mul_right _ hm
  have hmul2 : n * sz ≤ cap * sz := Nat.mul_le_mul_right _ hn
  rw [Nat.add_mul] at hmul
  have htake : (cur.toList.take (off + n * sz)).drop off = olds := by
    apply List.ext_getElem?
    intro j
    by_cases hj : j < n * sz
    · rw [List.getElem?_drop, List.getElem?_take_of_lt (by omega)]
      have hx : olds[j]? = some olds[j] := List.getElem?_eq_getElem (by omega)
      have := holds j _ hx
      rw [cell_row hb] at this
      rw [Array.getElem?_toList, this, hx]
    · rw [List.getElem?_eq_none (by rw [List.length_drop, List.length_take]; omega), List.getElem?_eq_none (by omega)]
  have htl : (cur.toList.take (off + n * sz)).length = off + n * sz := by rw [List.length_take]; omega
  refine ⟨?_, ?_, fun o ho => ?_⟩
  · rw [List.length_append, List.length_append, htl, List.length_drop, hcl, hnl]; omega
  · rw [List.append_assoc, List.drop_append_of_le_length (by rw [htl]; omega), htake, ← List.append_assoc, List.take_left' (by rw [List.length_append, hol, hnl, Nat.add_mul])]
  · rw [List.getElem?_toArray, List.append_assoc, List.getElem?_append_left (by rw [htl]; exact ho), List.getElem?_take_of_lt ho, Array.getElem?_toList]

omit hI in
theorem row_room {b n m sz cap : Nat} {cur : Array Value} {E : TypeId} {olds news : List Value} (hb : w.heap[b]? = some (.cells cur E (0, 0))) (hcur : cur.size = cap * sz) (hn : n ≤ cap) (hm : n + m ≤ cap) (hnl : news.length = m * sz) (hol : olds.length = n * sz)
    (holds : ∀ j u, olds[j]? = some u → w.cell? ⟨b, j, none⟩ = some u) :
    (cur.toList.take (n * sz) ++ news ++ cur.toList.drop (n * sz + news.length)).length = cap * sz ∧
    (cur.toList.take (n * sz) ++ news ++ cur.toList.drop (n * sz + news.length)).take ((n + m) * sz) = olds ++ news ∧
    ∀ o, o < n * sz → (cur.toList.take (n * sz) ++ news ++ cur.toList.drop (n * sz + news.length)).toArray[o]? = cur[o]? := by
  have hcl : cur.toList.length = cap * sz := by rw [Array.length_toList]; exact hcur
  have hmul : (n + m) * sz ≤ cap * sz := Nat.mul_le_mul_right _ hm
  have hmul2 : n * sz ≤ cap * sz := Nat.mul_le_mul_right _ hn
  rw [Nat.add_mul] at hmul
  have htake : cur.toList.take (n * sz) = olds := by
    apply List.ext_getElem?
    intro j
    by_cases hj : j < n * sz
    · rw [List.getElem?_take_of_lt hj]
      have hx : olds[j]? = some olds[j] := List.getElem?_eq_getElem (by omega)
      have := holds j _ hx
      rw [cell_row hb] at this
      rw [Array.getElem?_toList, this, hx]
    · rw [List.getElem?_eq_none (by rw [List.length_take]; omega), List.getElem?_eq_none (by omega)]
  have htl : (cur.toList.take (n * sz)).length = n * sz := by rw [List.length_take]; omega
  refine ⟨?_, ?_, fun o ho => ?_⟩
  · rw [List.length_append, List.length_append, htl, List.length_drop, hcl, hnl]; omega
  · rw [htake, List.take_left' (by rw [List.length_append, hol, hnl, Nat.add_mul])]
  · rw [List.getElem?_toArray, List.append_assoc, List.getElem?_append_left (by rw [htl]; exact ho), List.getElem?_take_of_lt ho, Array.getElem?_toList]

theorem arr_shows {r n sz : Nat} {es : List (List AV)} {x : Value} (he : h r = .arr sz es) (hx : Rep g w (used h) (.msl r n) x) (hn : n = es.length) :
    x = g.ρ r ∧ ∃ news, Shows w x es.length sz news ∧ RepL g w NoU es.flatten news := by
  have ho := hI.objs r
  rw [he] at ho
  obtain ⟨t1, l1, al, a1⟩ := ho
  cases hx with
  | msl _ _ _ a cap hu ht hn' ha hx' =>
    have e := hx' (hn.trans l1.symm)
    refine ⟨e, ?_⟩
    rw [e]
    rcases a1 with ⟨rfl, e2, e3⟩ | ⟨b, cap', E, vs, e1, e2, e3, e4, e5, e6, e7⟩
    · exact ⟨[], ⟨by simp, by simp, none, 0, e2, .inl rfl⟩, by simp, by simp, fun i av x h1 h2 => by simp at h2⟩
    · have hcur : vs.toList.length = cap' * sz := by rw [Array.length_toList]; exact e5
      have hle : es.length * sz ≤ vs.toList.length := by rw [hcur]; exact Nat.mul_le_mul_right _ e3
      refine ⟨vs.toList.take (es.length * sz), ⟨by rw [List.length_take, Nat.min_eq_left hle], e6.2.1, _, _, e1, .inr ⟨_, rfl, fun j u hj => ?_⟩⟩, e6⟩
      rw [Addr.add_lit, Nat.zero_add, cell_row e4]
      have hlt := (List.getElem?_eq_some_iff.1 hj).1
      rw [List.length_take] at hlt
      rw [List.getElem?_take_of_lt (by omega), Array.getElem?_toList] at hj
      exact hj

theorem elemsK_ok {sz : Nat} {x : AV} {vx : Value} {K : List (List AV) → Prop} (hx : Rep g w (used h) x vx) (hk : elemsK h x K) :
    ∃ es, K es ∧ ((∀ c ∈ es, c.length = sz) → ∃ news, Shows w vx es.length sz news ∧ RepL g w NoU es.flatten news) := by
  unfold elemsK at hk
  split at hk
  · exact ⟨_, hk, fun hl => Shows.of_rep hx.slice_none hl⟩
  · obtain rfl := hx.v_eq
    exact ⟨[], hk, fun _ => ⟨[], ⟨by simp, by simp, none, 0, rfl, .inl rfl⟩, by simp, by simp, fun i av x h1 h2 => by simp at h2⟩⟩
  · rename_i r n
    split at hk
    · rename_i sz' es e
      obtain ⟨hn, hk⟩ := hk
      refine ⟨es, hk, fun hl => ?_⟩
      obtain ⟨_, news, n1, n2⟩ := arr_shows hI e hx hn
      refine ⟨news, ?_, n2⟩
      have : news.length = es.length * sz := by rw [n2.1, flatten_len hl]
      exact ⟨this, n1.2.1, n1.2.2⟩
    · exact hk.elim
  · exact hk.elim

theorem newNil_ok {cx : Cx} {d : Option Nat} {sz : Nat} {K : HK} (hk : newSliceK cx d h sz [] K) :
    ∃ g' av h', K av h' ∧ Inv w0 g0 h0 h' g' w ∧ Le h g w h' g' w ∧ Rep g' w (used h') av (.slice none 0 0) := by
  have base : ∀ (d : Nat) (o' : HO), h d = .free → o' ≠ .free → (∀ g' : Gh, g'.ρ d = .slice none 0 0 → g'.ln d = 0 → g'.tk d = true → g'.own d = none → ObjRep g' w (used (hput h d o')) d o') →
      Inv w0 g0 h0 (hput h d o') (g.upd d (.slice none 0 0) 0 true none g.S) w ∧ Le h g w (hput h d o') (g.upd d (.slice none 0 0) 0 true none g.S) w := by
    intro d o' hd hne hobj
    refine hI.upd d o' _ _ _ _ _ w none ⟨rfl, rfl, rfl, Nat.le_refl _⟩ (fun _ _ _ => rfl) (fun b e => by cases e) (fun _ _ h => h) (fun _ _ h => .inl h) (fun b o e => by cases e) (fun b _ e => by cases e) hne (fun hu => absurd hd hu) (fun _ _ => ?_)
    obtain ⟨u1, u2, u3, u4⟩ := upd_same g d (.slice none 0 0) 0 true none g.S
    exact hobj _ u1 u2 u3 u4
  unfold newSliceK at hk
  split at hk
  · exact hk.elim
  · rename_i d
    generalize did cx d = d1 at hk
    split at hk
    · rename_i hd
      split at hk
      · obtain ⟨k1, k2⟩ := base d1 (.arr sz []) hd (by simp) (fun g' u1 u2 u3 u4 => ⟨u3, u2, by simp, .inl ⟨rfl, u1, u4⟩⟩)
        exact ⟨_, _, _, hk, k1, k2, .msl _ d1 0 none 0 (by unfold used; rw [hput_same]; simp) (by simp [Gh.upd]) (Nat.zero_le _) (.inl rfl) (fun _ => by simp [Gh.upd])⟩
      · obtain ⟨k1, k2⟩ := base d1 (.tok sz 0) hd (by simp) (fun g' u1 u2 u3 u4 => ⟨u3, u2, none, 0, u1, .inl ⟨rfl, u4⟩⟩)
        exact ⟨_, _, _, hk, k1, k2, .tok _ d1 sz [] _ (.snil _ _ _) (by simp) (by unfold used; rw [hput_same]; simp) (by simp [Gh.upd]) (Nat.zero_le _) (fun _ => by simp [Gh.upd])⟩
    · exact hk.elim

theorem appendK_ok {cx : Cx} (hT : TabOk P cx.T) {d : Option Nat} {t ty : Nat} {s x : AV} {vs vx : Value} {K : HK} (hs : Rep g w (used h) s vs) (hx : Rep g w (used h) x vx) (hk : appendK cx d h t s x K) :
    Does P w0 g0 h0 h g w (Builtin.append_ #[t, t] ty #[vs, vx]) K := by
  unfold appendK at hk
  split at hk
  · rename_i e ht
    split at hk
    · exact hk.elim
    · rename_i hz
      have hz := Nat.eq_of_beq_eq_true hz
      split at hk
      · exact hk.elim
      · rename_i k hsz
        have h5 := elemsK_ok hI (sz := (cx.T e).size) hx hk
        clear hk
        obtain ⟨es2, hk, h6⟩ := h5
        split at hk
        · obtain ⟨⟨q1, q2, q3⟩, hk⟩ := hk
          obtain rfl := hs.v_eq
          obtain ⟨news, n1, n2⟩ := h6 (AllLen_mem q1)
          obtain ⟨m1, m2, a, c, rfl, m4⟩ := n1
          by_cases hm : es2.length = 0
          · obtain rfl := List.eq_nil_of_length_eq_zero hm
            obtain ⟨g', av, h', k1, k2, k3, k4⟩ := newNil_ok hI hk
            exact ⟨_, w, g', av, h', run_append_zero hT w ht hsz none a 0 0 c (Nat.le_refl _), k1, k2, k3, k4⟩
          · obtain ⟨nc, rest, r1, r2, r3⟩ := run_append_new hT w (ty := ty) ht hsz hz (olds := []) (a := none) (n := 0) (cap := 0) ⟨by simp, by simp, none, 0, rfl, .inl rfl⟩ rfl (fun _ => rfl) ⟨m1, m2, a, c, rfl, m4⟩ rfl (by omega) (by omega) (by rw [Nat.zero_add]; exact q2) (by omega)
            obtain ⟨g', av, h', k1, k2, k3, k4⟩ := newSlice_ok hI hk (vs := ([] ++ news ++ rest).toArray) (cap := nc) e (AllLen_mem q1) (by omega) (by simpa using r3) (by
              rw [List.nil_append, show (news ++ rest).toArray.toList = news ++ rest from rfl, List.take_left' m1]; exact n2) w.drew ⟨rfl, rfl, rfl, rfl⟩
            rw [Nat.zero_add] at r1
            exact ⟨_, _, g', av, h', r1, k1, k2, k3, k4⟩
        · rename_i r sz' es
          have ho := hI.objs r
          split at hk
          · rename_i sz n e0
            rw [e0] at ho
            split at hk
            · rename_i hse hse2
              obtain rfl := Nat.eq_of_beq_eq_true hse2
              obtain hse := Nat.eq_of_beq_eq_true hse
              obtain ⟨⟨q1, q2, q3, q4⟩, hk⟩ := hk
              rw [hse] at q1
              obtain ⟨news, n1, n2⟩ := h6 (AllLen_mem q1)
              obtain ⟨m1, m2, a2, c2, rfl, m4⟩ := n1
              obtain ⟨t1, l1, a, cap, a1, a3⟩ := ho
              have hl : (h r).live := by rw [e0]; trivial
              have hall : ∀ c ∈ es ++ es2, es.length = n → True := fun _ _ _ => trivial
              cases hs with
              | tok _ _ _ _ _ hr hls hu ht' hn hx' =>
                have hv := hx' (q2.trans l1.symm)
                rw [a1] at hv
                subst hv
                subst q2
                have hall : ∀ c ∈ es ++ es2, c.length = sz' := fun c hc => (List.mem_append.1 hc).elim (hls c) (fun h => (AllLen_mem q1 c h).trans hse.symm)
                obtain ⟨olds, o1, o2⟩ := Shows.of_rep hr hls
                have hrl := o2.app n2
                rw [← List.flatten_append] at hrl
                have hcapn : es.length ≤ cap := by rcases a3 with ⟨e1, _⟩ | ⟨e1, _⟩ <;> omega
                by_cases hm : es2.length = 0
                · obtain rfl := List.eq_nil_of_length_eq_zero hm
                  have hobj := hI.objs r
                  rw [e0] at hobj
                  obtain ⟨k1, k2⟩ := hI.upd r (.tok sz' (es.length + ([] : List (List AV)).length)) (g.ρ r) (g.ln r) (g.tk r) (g.own r) g.S w none ⟨rfl, rfl, rfl, Nat.le_refl _⟩ (fun _ _ _ => rfl) (fun b e => by cases e) (fun _ _ h => h) (fun _ _ h => .inl h) (fun b o e => by cases e)
                    (fun b _ e => ⟨(hI.loc r b hl e).1, .inl ⟨hl, e⟩⟩) (by simp) (fun _ => ⟨rfl, Nat.le_refl _, fun _ => rfl, fun _ => rfl⟩) (fun hg hkp => by
                      obtain ⟨u1, u2, u3, u4⟩ := upd_same g r (g.ρ r) (g.ln r) (g.tk r) (g.own r) g.S
                      rw [List.length_nil, Nat.add_zero]
                      exact hobj.same hkp (fun i hi => used_hput (by simp) i hi) hg u1 u2 u3 u4 (fun b _ _ => ⟨rfl, fun _ h => h⟩))
                  refine ⟨_, w, _, _, _, run_append_zero hT w ht hsz a a2 es.length cap c2 hcapn, hk, k1, k2, ?_⟩
                  rw [List.append_nil]
                  exact (Rep.tok (used h) r sz' es _ hr hls hu ht' hn hx').le k2
                · by_cases hroom : es.length + es2.length ≤ cap
                  · rcases a3 with ⟨e1, _⟩ | ⟨e1, b, E, cur, off, rfl, e3, e4, e5, e6⟩
                    · omega
                    · rcases m4 with h | ⟨ba, rfl, hnews⟩
                      · omega
                      · obtain ⟨i, z, i1, i2, i3, i4, i5⟩ := append_facts hT hsz
                        have hmul : (es.length + es2.length) * sz' ≤ cap * sz' := Nat.mul_le_mul_right _ hroom
                        have hm1 : news.length = es2.length * sz' := by rw [hse]; exact m1
                        have hisz : i.size = sz' := i3.trans hse.symm
                        have hrun := run_append_off (P := P) t ty e i (hT.slice ht) i1 b off es.length cap cur e4 ba es2.length c2 news (by rw [hisz]; exact hm1) hnews m2 hroom (by rw [hisz, hm1, e5]; rw [Nat.add_mul] at hmul; omega)
                        rw [hisz] at hrun
                        have holds : ∀ j u, olds[j]? = some u → w.cell? ⟨b, off + j, none⟩ = some u := by
                          obtain ⟨p1, p2, a', c', p3, p4⟩ := o1
                          cases p3
                          intro j u hj
                          rcases p4 with h | ⟨b', h, h'⟩
                          · rw [h, Nat.zero_mul] at p1
                            rw [List.eq_nil_of_length_eq_zero p1] at hj; simp at hj
                          · cases h
                            have := h' j u hj
                            rwa [Addr.add_lit] at this
                        obtain ⟨p1, p2, p3⟩ := row_off e4 e5 e1 hroom hm1 o1.1 holds
                        generalize hnewd : cur.toList.take (off + es.length * sz') ++ news ++ cur.toList.drop (off + es.length * sz' + news.length) = new at hrun p1 p2 p3
                        have hnew := setRow_heap w b cur new.toArray E (0, 0) e4
                        have hblt := (hI.loc r b hl e3).1
                        obtain ⟨k1, k2⟩ := hI.upd r (.tok sz' (es.length + es2.length)) (.slice (some ⟨b, off, none⟩) (es.length + es2.length) cap) (es.length + es2.length) (g.tk r) (g.own r) (g.more b (off + (es.length + es2.length) * sz')) (w.setRow b new.toArray) (some b)
                          ⟨rfl, rfl, rfl, by rw [size_setRow]; exact Nat.le_refl _⟩ (fun k _ hne => setRow_other w b k _ (fun e => hne (by rw [e]))) (fun b' e => by cases e; exact ⟨hl, e3⟩) (fun _ _ h => .inl h)
                          (fun b' o hs => hs.elim .inl (fun hs => .inr ⟨by rw [size_setRow, hs.1]; exact hblt, .inr ⟨hl, by rw [hs.1]; exact e3⟩⟩))
                          (fun b' o e hs => by
                            cases e
                            refine ⟨?_, fun es ck he => by rw [e4] at he; cases he⟩
                            rw [cell_row hnew, cell_row e4]
                            exact p3 o (e6 o hs)) (fun b' _ e => by
                            rw [e3] at e; cases e
                            exact ⟨by rw [size_setRow]; exact hblt, .inl ⟨hl, e3⟩⟩) (by simp) (fun _ => ⟨rfl, by omega, fun e => (by rw [t1] at e; cases e), fun e => by omega⟩) (fun hg hkp => by
                            obtain ⟨u1, u2, u3, u4⟩ := upd_same g r (.slice (some ⟨b, off, none⟩) (es.length + es2.length) cap) (es.length + es2.length) (g.tk r) (g.own r) (g.more b (off + (es.length + es2.length) * sz'))
                            exact ⟨u3.trans t1, u2, _, cap, u1,   .inr ⟨hroom, b, E, _, off, rfl, u4.trans e3, hnew, by rw [List.size_toArray]; exact p1, fun o ho => by
                              rcases ho with ho | ⟨_, ho⟩
                              · have h1 := e6 o ho
                                have h2 : es.length * sz' ≤ (es.length + es2.length) * sz' := Nat.mul_le_mul_right _ (by omega)
                                omega
                              · exact ho⟩⟩)
                        have hrep := Rep.slice_off (g := g.upd r (.slice (some ⟨b, off, none⟩) (es.length + es2.length) cap) (es.length + es2.length) (g.tk r) (g.own r) (g.more b (off + (es.length + es2.length) * sz'))) (U := used (hput h r (.tok sz' (es.length + es2.length)))) (cap := cap) (es := es ++ es2) hnew hall (by rw [List.length_append]; exact hroom) (by
                          rw [List.length_append, show new.toArray.toList = new from rfl, p2]
                          exact hrl.mono k2.keeps (fun _ h => h) (fun _ h => h.elim)) (fun o ho => .inr ⟨rfl, by rw [List.length_append] at ho; exact Nat.add_lt_add_left ho off⟩)
                        rw [List.length_append] at hrep
                        exact ⟨_, _, _, _, _, hrun, hk, k1, k2, .tok _ r sz' _ _ hrep hall (by unfold used; rw [hput_same]; simp) (by simp [Gh.upd, t1]) (by simp [Gh.upd]) (fun _ => by simp [Gh.upd])⟩
                  · have hgrow : cap < es.length + es2.length := by omega
                    have ha : a = none → cap = 0 := by
                      rintro rfl
                      rcases a3 with ⟨e1, _⟩ | ⟨_, b, _, _, _, e2, _⟩
                      · obtain ⟨p1, p2, a', c', p3, p4⟩ := o1
                        cases p3
                        rcases p4 with h | ⟨b', h, _⟩
                        · omega
                        · cases h
                      · cases e2
                    obtain ⟨nc, rest, r1, r2, r3⟩ := run_append_new hT w (ty := ty) ht hsz hz (by rw [← hse]; exact o1) rfl ha ⟨m1, m2, a2, c2, rfl, m4⟩ rfl (by omega) hgrow q3 q4
                    have hnew := heap_new w.drew (.cells (olds ++ news ++ rest).toArray e (0, 0)) (b := w.heap.size) rfl
                    obtain ⟨k1, k2⟩ := hI.upd r (.tok sz' (es.length + es2.length)) (.slice (some ⟨w.heap.size, 0, none⟩) (es.length + es2.length) nc) (es.length + es2.length) (g.tk r) (some w.heap.size) (g.more w.heap.size ((es.length + es2.length) * sz'))
                      (w.drew.alloc (.cells (olds ++ news ++ rest).toArray e (0, 0))) none
                      ⟨rfl, rfl, rfl, by rw [World.size_alloc]; exact Nat.le_succ _⟩ (fun k hk' _ => by rw [heap_alloc_old _ _ (by exact hk')]; rfl) (fun b' e => by cases e) (fun _ _ h => .inl h)
                      (fun b' o hs => hs.elim .inl (fun hs => .inr ⟨by rw [World.size_alloc, hs.1]; exact Nat.lt_succ_self _, .inl (by rw [hs.1]; exact Nat.le_refl _)⟩))
                      (fun b' o e => by cases e) (fun b' _ e => by cases e; exact ⟨by rw [World.size_alloc]; exact Nat.lt_succ_self _, .inr (Nat.le_refl _)⟩) (by simp) (fun _ => ⟨rfl, by omega, fun e => (by rw [t1] at e; cases e), fun e => by omega⟩) (fun hg hkp => by
                        obtain ⟨u1, u2, u3, u4⟩ := upd_same g r (.slice (some ⟨w.heap.size, 0, none⟩) (es.length + es2.length) nc) (es.length + es2.length) (g.tk r) (some w.heap.size) (g.more w.heap.size ((es.length + es2.length) * sz'))
                        exact ⟨u3.trans t1, u2, _, nc, u1, .inr ⟨r2, w.heap.size, e, _, 0, rfl, u4, hnew, by rw [List.size_toArray, hse, Nat.zero_add]; exact r3, fun o ho => by
                          rcases ho with ho | ⟨_, ho⟩
                          · have := hI.slt _ _ ho; omega
                          · omega⟩⟩)
                    have hrep := Rep.slice_row (g := g.upd r (.slice (some ⟨w.heap.size, 0, none⟩) (es.length + es2.length) nc) (es.length + es2.length) (g.tk r) (some w.heap.size) (g.more w.heap.size ((es.length + es2.length) * sz'))) (U := used (hput h r (.tok sz' (es.length + es2.length)))) (cap := nc) (es := es ++ es2) hnew hall (by rw [List.length_append]; exact r2) (by
                      rw [List.length_append, show (olds ++ news ++ rest).toArray.toList = olds ++ news ++ rest from rfl, List.take_left' (by rw [List.length_append, o1.1, m1, hse, Nat.add_mul])]
                      exact hrl.mono k2.keeps (fun _ h => h) (fun _ h => h.elim)) (fun o ho => .inr ⟨rfl, by rw [List.length_append] at ho; exact ho⟩)
                    rw [List.length_append] at hrep
                    exact ⟨_, _, _, _, _, r1, hk, k1, k2, .tok _ r sz' _ _ hrep hall (by unfold used; rw [hput_same]; simp) (by simp [Gh.upd, t1]) (by simp [Gh.upd]) (fun _ => by simp [Gh.upd])⟩
            · exact hk.elim
          · exact hk.elim
        · rename_i r n
          have ho := hI.objs r
          split at hk
          · rename_i sz es e0
            split at hk
            · rename_i hse
              obtain hse := Nat.eq_of_beq_eq_true hse
              obtain ⟨⟨q1, q2, q3, q4⟩, hk⟩ := hk
              rw [hse] at q1
              obtain ⟨news, n1, n2⟩ := h6 (AllLen_mem q1)
              obtain ⟨m1, m2, a2, c2, rfl, m4⟩ := n1
              obtain ⟨hv, olds, o1, o2⟩ := arr_shows hI e0 hs q2.symm
              have hobj := ho
              rw [e0] at ho
              obtain ⟨t1, l1, al, a3⟩ := ho
              have hl : (h r).live := by rw [e0]; trivial
              subst hv
              have hall : ∀ c ∈ es ++ es2, c.length = sz := fun c hc => (List.mem_append.1 hc).elim (al c) (fun h => (AllLen_mem q1 c h).trans hse.symm)
              have hrl := o2.app n2
              rw [← List.flatten_append] at hrl
              obtain ⟨a, cap, hρ, hcapn, ha⟩ : ∃ a cap, g.ρ r = .slice a es.length cap ∧ es.length ≤ cap ∧ (a = none → cap = 0) := by
                rcases a3 with ⟨rfl, e2, e3⟩ | ⟨b, cap, E, cur, e1, e2, e3, e4, e5, e6, e7⟩
                · exact ⟨none, 0, e2, Nat.le_refl _, fun _ => rfl⟩
                · exact ⟨_, cap, e1, e3, fun e => by cases e⟩
              by_cases hm : es2.length = 0
              · obtain rfl := List.eq_nil_of_length_eq_zero hm
                rw [e0] at hobj
                obtain ⟨k1, k2⟩ := hI.upd r (.arr sz (es ++ [])) (g.ρ r) (g.ln r) (g.tk r) (g.own r) g.S w none ⟨rfl, rfl, rfl, Nat.le_refl _⟩ (fun _ _ _ => rfl) (fun b e => by cases e) (fun _ _ h => h) (fun _ _ h => .inl h) (fun b o e => by cases e)
                  (fun b _ e => ⟨(hI.loc r b hl e).1, .inl ⟨hl, e⟩⟩) (by simp) (fun _ => ⟨rfl, Nat.le_refl _, fun _ => rfl, fun _ => rfl⟩) (fun hg hkp => by
                    obtain ⟨u1, u2, u3, u4⟩ := upd_same g r (g.ρ r) (g.ln r) (g.tk r) (g.own r) g.S
                    rw [List.append_nil]
                    exact hobj.same hkp (fun i hi => used_hput (by simp) i hi) hg u1 u2 u3 u4 (fun b _ _ => ⟨rfl, fun _ h => h⟩))
                refine ⟨g.ρ r, w, _, _, _, ?_, hk, k1, k2, ?_⟩
                · rw [hρ]; exact run_append_zero hT w ht hsz a a2 es.length cap c2 hcapn
                · have := hs.le k2
                  rw [← q2] at this
                  exact this
              · by_cases hroom : es.length + es2.length ≤ cap
                · rcases a3 with ⟨rfl, e2, e3⟩ | ⟨b, cap', E, cur, e1, e2, e3, e4, e5, e6, e7⟩
                  · rw [e2] at hρ; cases hρ; omega
                  · rw [e1] at hρ
                    simp only [Value.slice.injEq, true_and] at hρ
                    obtain ⟨rfl, rfl⟩ := hρ
                    rcases m4 with h | ⟨ba, rfl, hnews⟩
                    · omega
                    · obtain ⟨i, z, i1, i2, i3, i4, i5⟩ := append_facts hT hsz
                      have hmul : (es.length + es2.length) * sz ≤ cap' * sz := Nat.mul_le_mul_right _ hroom
                      have hm1 : news.length = es2.length * sz := by rw [hse]; exact m1
                      have hisz : i.size = sz := i3.trans hse.symm
                      have hrun := run_append_room' (P := P) t ty e i (hT.slice ht) i1 b es.length cap' cur e4 ba es2.length c2 news (by rw [hisz]; exact hm1) hnews m2 hroom (by rw [hisz, hm1, ← Nat.add_mul, e5]; exact hmul)
                      rw [hisz] at hrun
                      have holds : ∀ j u, olds[j]? = some u → w.cell? ⟨b, j, none⟩ = some u := by
                        obtain ⟨p1, p2, a', c', p3, p4⟩ := o1
                        rw [e1] at p3
                        cases p3
                        intro j u hj
                        rcases p4 with h | ⟨b', h, h'⟩
                        · rw [h, Nat.zero_mul] at p1
                          rw [List.eq_nil_of_length_eq_zero p1] at hj; simp at hj
                        · cases h
                          have := h' j u hj
                          rwa [Addr.add_lit, Nat.zero_add] at this
                      obtain ⟨p1, p2, p3⟩ := row_room e4 e5 e3 hroom hm1 o1.1 holds
                      generalize hnewd : cur.toList.take (es.length * sz) ++ news ++ cur.toList.drop (es.length * sz + news.length) = new at hrun p1 p2 p3
                      have hnew := setRow_heap w b cur new.toArray E (0, 0) e4
                      have hblt := (hI.loc r b hl e2).1
                      obtain ⟨k1, k2⟩ := hI.upd r (.arr sz (es ++ es2)) (.slice (some ⟨b, 0, none⟩) (es.length + es2.length) cap') (es.length + es2.length) (g.tk r) (g.own r) g.S (w.setRow b new.toArray) (some b)
                        ⟨rfl, rfl, rfl, by rw [size_setRow]; exact Nat.le_refl _⟩ (fun k _ hne => setRow_other w b k _ (fun e => hne (by rw [e]))) (fun b' e => by cases e; exact ⟨hl, e2⟩) (fun _ _ h => h) (fun _ _ h => .inl h)
                        (fun b' o e hs => by cases e; exact absurd hs (e7 o)) (fun b' _ e => by
                          rw [e2] at e; cases e
                          exact ⟨by rw [size_setRow]; exact hblt, .inl ⟨hl, e2⟩⟩) (by simp) (fun _ => ⟨rfl, by omega, fun e => (by rw [t1] at e; cases e), fun e => by omega⟩) (fun hg hkp => by
                          obtain ⟨u1, u2, u3, u4⟩ := upd_same g r (.slice (some ⟨b, 0, none⟩) (es.length + es2.length) cap') (es.length + es2.length) (g.tk r) (g.own r) g.S
                          refine ⟨u3.trans t1, by rw [u2, List.length_append], hall, .inr ⟨b, cap', E, _, by rw [u1, List.length_append], u4.trans e2, by rw [List.length_append]; exact hroom, hnew, by rw [List.size_toArray]; exact p1, ?_, e7⟩⟩
                          rw [List.length_append, show new.toArray.toList = new from rfl, p2]
                          exact hrl.mono hkp (fun _ h => h) (fun _ h => h.elim))
                      rw [e1]
                      exact ⟨_, _, _, _, _, hrun, hk, k1, k2, .msl _ r _ _ _ (by unfold used; rw [hput_same]; simp) (by simp [Gh.upd, t1]) (by simp [Gh.upd]) (.inr ⟨_, rfl⟩) (fun _ => by simp [Gh.upd])⟩
                · have hgrow : cap < es.length + es2.length := by omega
                  obtain ⟨nc, rest, r1, r2, r3⟩ := run_append_new hT w (ty := ty) ht hsz hz (by rw [← hse]; exact o1) hρ ha ⟨m1, m2, a2, c2, rfl, m4⟩ rfl (by omega) hgrow q3 q4
                  have hnew := heap_new w.drew (.cells (olds ++ news ++ rest).toArray e (0, 0)) (b := w.heap.size) rfl
                  obtain ⟨k1, k2⟩ := hI.upd r (.arr sz (es ++ es2)) (.slice (some ⟨w.heap.size, 0, none⟩) (es.length + es2.length) nc) (es.length + es2.length) (g.tk r) (some w.heap.size) g.S
                    (w.drew.alloc (.cells (olds ++ news ++ rest).toArray e (0, 0))) none
                    ⟨rfl, rfl, rfl, by rw [World.size_alloc]; exact Nat.le_succ _⟩ (fun k hk' _ => by rw [heap_alloc_old _ _ (by exact hk')]; rfl) (fun b' e => by cases e) (fun _ _ h => h) (fun _ _ h => .inl h)
                    (fun b' o e => by cases e) (fun b' _ e => by cases e; exact ⟨by rw [World.size_alloc]; exact Nat.lt_succ_self _, .inr (Nat.le_refl _)⟩) (by simp) (fun _ => ⟨rfl, by omega, fun e => (by rw [t1] at e; cases e), fun e => by omega⟩) (fun hg hkp => by
                      obtain ⟨u1, u2, u3, u4⟩ := upd_same g r (.slice (some ⟨w.heap.size, 0, none⟩) (es.length + es2.length) nc) (es.length + es2.length) (g.tk r) (some w.heap.size) g.S
                      refine ⟨u3.trans t1, by rw [u2, List.length_append], hall, .inr ⟨w.heap.size, nc, e, _, by rw [u1, List.length_append], u4, by rw [List.length_append]; exact r2, hnew, by rw [List.size_toArray, hse]; exact r3, ?_, fun o ho => by have := hI.slt _ _ ho; omega⟩⟩
                      rw [List.length_append, show (olds ++ news ++ rest).toArray.toList = olds ++ news ++ rest from rfl, List.take_left' (by rw [List.length_append, o1.1, m1, hse, Nat.add_mul])]
                      exact hrl.mono hkp (fun _ h => h) (fun _ h => h.elim))
                  exact ⟨_, _, _, _, _, r1, hk, k1, k2, .msl _ r _ _ _ (by unfold used; rw [hput_same]; simp) (by simp [Gh.upd, t1]) (by simp [Gh.upd]) (.inr ⟨_, rfl⟩) (fun _ => by simp [Gh.upd])⟩
            · exact hk.elim
          · exact hk.elim
        · exact hk.elim
  · exact hk.elim
end
end Go.Eng
