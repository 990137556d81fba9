/- Lemmas for the claims of this seat, without a condition: part 11 (EngS, EngT). -/
import Derived.Test.YtodcmjcogdcmlaaGreatDoorA10
import Derived.Maps.RangeRun
namespace Go.Eng

section
variable {P : Program} {w0 : World} {g0 : Gh} {h0 h : Nat → HO} {g : Gh} {w : World} (hI : Inv w0 g0 h0 h g w)
include hI

theorem newFull_ok {d sz n : Nat} {es : List (List AV)} {a : Option Addr} (hd : h d = .free) (hl : ∀ c ∈ es, c.length = sz) (hn : es.length = n) (hr : Rep g w NoU (.slice .none es) (.slice a n n)) :
    ∃ g', Inv w0 g0 h0 (hput h d (.tok sz n)) g' w ∧ Le h g w (hput h d (.tok sz n)) g' w ∧ Rep g' w (used (hput h d (.tok sz n))) (.slice (.id d sz) es) (.slice a n n) := by
  obtain ⟨k1, k2⟩ := hI.upd d (.tok sz n) (.slice a n n) n true none g.S w none ⟨rfl, rfl, rfl, Nat.le_refl _⟩ (fun _ _ _ => rfl) (fun b e => by cases e) (fun _ _ h => h) (fun _ _ h => .inl h) (fun b o e => by cases e) (fun b _ e => by cases e) (by simp)
    (fun hu => absurd hd hu) (fun _ _ => by
      obtain ⟨u1, u2, u3, u4⟩ := upd_same g d (.slice a n n) n true none g.S
      exact ⟨u3, u2, a, n, u1, .inl ⟨rfl, u4⟩⟩)
  exact ⟨_, k1, k2, .tok _ d sz es _ (((hr.up (used h)).le k2)) hl (by unfold used; rw [hput_same]; simp) (by simp [Gh.upd]) (by simp [Gh.upd, hn]) (fun _ => by simp [Gh.upd])⟩

theorem assignK_ok {cx : Cx} {d : Option Nat} {x : AV} {vx : Value} {K : HK} (hx : Rep g w (used h) x vx) (hk : assignK cx d h x K) : ∃ g' av h', K av h' ∧ Inv w0 g0 h0 h' g' w ∧ Le h g w h' g' w ∧ Rep g' w (used h') av vx := by
  have plain : K x h → ∃ g' av h', K av h' ∧ Inv w0 g0 h0 h' g' w ∧ Le h g w h' g' w ∧ Rep g' w (used h') av vx := fun hk => ⟨g, x, h, hk, hI, .refl _ _ _, hx⟩
  unfold assignK at hk
  split at hk
  · exact plain hk
  · rename_i d
    split at hk
    · rename_i sz _
      split at hk
      · split at hk
        · rename_i hd
          obtain rfl := hx.v_eq
          obtain ⟨g', k1, k2, k3⟩ := newFull_ok hI (sz := sz) (es := []) (a := none) hd (by simp) rfl (.snil _ _ _)
          exact ⟨g', _, _, hk, k1, k2, k3⟩
        · exact hk.elim
      · exact plain hk
    · split at hk
      · rename_i sz _
        split at hk
        · split at hk
          · rename_i hd
            obtain rfl := hx.v_eq
            obtain ⟨k1, k2⟩ := hI.upd d (.arr sz []) (.slice none 0 0) 0 true none g.S w none ⟨rfl, rfl, rfl, Nat.le_refl _⟩ (fun _ _ _ => rfl) (fun b e => by cases e) (fun _ _ h => h) (fun _ _ h => .inl h) (fun b o e => by cases e) (fun b _ e => by cases e) (by simp)
              (fun hu => absurd hd hu) (fun _ _ => by
                obtain ⟨u1, u2, u3, u4⟩ := upd_same g d (.slice none 0 0) 0 true none g.S
                exact ⟨u3, u2, by simp, .inl ⟨rfl, u1, u4⟩⟩)
            exact ⟨_, _, _, hk, k1, k2, .msl _ d 0 none 0 (by unfold used; rw [hput_same]; simp) (by simp [Gh.upd]) (Nat.zero_le _) (.inl rfl) (fun _ => by simp [Gh.upd])⟩
          · exact hk.elim
        · exact plain hk
      · exact plain hk

theorem makeMapK_ok {T : Tab} {mku : List Nat} {d : Option Nat} {ty : Nat} {K : HK} (hk : makeMapK T mku d h ty K) : Does P w0 g0 h0 h g w (Instr.makeMap ty none) K := by
  unfold makeMapK at hk
  split at hk
  · exact hk.elim
  · rename_i d
    split at hk
    · rename_i hd
      split at hk
      · split at hk
        · rename_i sh _
          split at hk
          · obtain ⟨k1, k2⟩ := hI.newOwn hd (.mapU sh []) (.map #[] 0) (.map (some w.heap.size)) 0 false w ⟨rfl, rfl, rfl, rfl⟩ (by simp) (fun hg hkp => by
              obtain ⟨u1, u2, u3, u4⟩ := upd_same g d (.map (some w.heap.size)) 0 false (some w.heap.size) g.S
              exact ⟨u3, w.heap.size, #[], 0, u4, u1, heap_new w _ rfl, ⟨rfl, by simp, by simp, by simp, by simp, by simp⟩, by simp, fun o ho => by have := hI.slt _ _ ho; omega⟩)
            refine ⟨_, _, _, _, _, ?_, hk, k1, k2, .mref _ d w.heap.size (by unfold used; rw [hput_same]; simp) ?_ ?_⟩
            · simp [Instr.makeMap]
            · simp [Gh.upd]
            · simp [Gh.upd]
          · obtain ⟨k1, k2⟩ := hI.newOwn hd (.map sh []) (.map #[] 0) (.map (some w.heap.size)) 0 false w ⟨rfl, rfl, rfl, rfl⟩ (by simp) (fun hg hkp => by
              obtain ⟨u1, u2, u3, u4⟩ := upd_same g d (.map (some w.heap.size)) 0 false (some w.heap.size) g.S
              exact ⟨u3, w.heap.size, #[], 0, u4, u1, heap_new w _ rfl, ⟨rfl, by simp, by simp, by simp, by simp, by simp⟩, by simp, fun o ho => by have := hI.slt _ _ ho; omega⟩)
            refine ⟨_, _, _, _, _, ?_, hk, k1, k2, .mref _ d w.heap.size (by unfold used; rw [hput_same]; simp) ?_ ?_⟩
            · simp [Instr.makeMap]
            · simp [Gh.upd]
            · simp [Gh.upd]
        · exact hk.elim
      · exact hk.elim
    · exact hk.elim

omit hI in
theorem Rep.sub {es : List (List AV)} {sz l m : Nat} {x : Value} {a : Option Addr} {n cap : Nat} (hr : Rep g w NoU (.slice .none es) x) (hx : x = .slice a n cap) (hl : ∀ c ∈ es, c.length = sz) (h1 : l ≤ m) (h2 : m ≤ es.length) (c' : Nat) (hc : m - l ≤ c') (a' : Option Addr)
    (ha : a' = a.map (·.add (l * sz)) ∨ (m = l ∧ a' = a)) : Rep g w NoU (.slice .none ((es.take m).drop l)) (.slice a' (m - l) c') := by
  subst hx
  have hlen : ((es.take m).drop l).length = m - l := by rw [List.length_drop, List.length_take]; omega
  by_cases h0 : m - l = 0
  · have : (es.take m).drop l = [] := List.eq_nil_of_length_eq_zero (by omega)
    rw [this, h0]
    exact .snil _ _ _
  · cases hr with
    | snil => simp at h2; omega
    | slice _ _ b off sz' cap val hc' hl' hcell hrep =>
      have hz : sz' = sz := by
        have : (0 : Nat) < es.length := by omega
        have h3 := hl' 0 es[0] (List.getElem?_eq_getElem this)
        rw [← h3]; exact hl _ (List.getElem_mem this)
      subst hz
      have ha' : a' = some ⟨b, off + l * sz', none⟩ := by
        rcases ha with h | ⟨h, _⟩
        · rw [h]; simp [Addr.add_lit]
        · omega
      subst ha'
      rw [← hlen]
      have hget : ∀ (i : Nat) (cs : List AV), ((es.take m).drop l)[i]? = some cs → es[l + i]? = some cs := fun i cs h => by
        rw [List.getElem?_drop] at h
        by_cases hi : l + i < m
        · rwa [List.getElem?_take_of_lt hi] at h
        · rw [List.getElem?_eq_none (by rw [List.length_take]; omega)] at h; cases h
      refine .slice _ _ b (off + l * sz') sz' c' (fun i j => val (l + i) j) (by rw [hlen]; exact hc) (fun i cs h => hl' _ _ (hget i cs h)) (fun i cs j av h1 h2 => ?_) (fun i cs j av h1 h2 => hrep _ _ _ _ (hget i cs h1) h2)
      have := hcell _ _ _ _ (hget i cs h1) h2
      rwa [show off + (l + i) * sz' + j = off + l * sz' + i * sz' + j by rw [Nat.add_mul]; omega] at this

omit hI in
theorem optInt_ok {t : Nat → AV} {ρ : Operand → Value} (ht : ∀ x : Operand, Rep g w (used h) (ev t x) (ρ x)) {o : Option Operand} {i : Option Int} (hk : optInt t o = some i) : o.map ρ = i.map fun n => .int .i64 n := by
  cases o with
  | none => cases hk; rfl
  | some x =>
    unfold optInt at hk
    dsimp only at hk
    split at hk
    · rename_i n e
      cases hk
      have := ht x
      rw [e] at this
      simp [this.v_eq]
    · cases hk
omit hI in
theorem run_bounds (b : Bool) (len cap : Nat) (lo hi mx : Option Int) (hmx : mx = none ∨ hi ≠ none) (h0 : 0 ≤ lo.getD 0) (h1 : lo.getD 0 ≤ hi.getD len) (h2 : hi.getD len ≤ mx.getD cap) (h3 : mx.getD cap ≤ cap) :
    (Instr.sliceBounds b len cap (lo.map fun n => .int .i64 n) (hi.map fun n => .int .i64 n) (mx.map fun n => .int .i64 n)).run P w = .ok ((lo.getD 0).toNat, (hi.getD len).toNat, (mx.getD cap).toNat) w := by
  have e1 : ∀ n : Int, 0 ≤ n → (n.toNat : Int) = n := fun n hn => Int.toNat_of_nonneg hn
  cases mx with
  | none =>
    cases hi with
    | none =>
      cases lo with
      | none => simp [Instr.sliceBounds]
      | some l =>
        simp only [Option.getD_some, Option.getD_none] at h0 h1 h2
        simp [Instr.sliceBounds, run_sliceBound, h0, h1]
    | some hh =>
      simp only [Option.getD_some, Option.getD_none] at h1 h2
      have hh0 : 0 ≤ hh := by omega
      cases lo with
      | none => simp [Instr.sliceBounds, run_sliceBound, hh0, h2]
      | some l =>
        simp only [Option.getD_some] at h0 h1
        simp [Instr.sliceBounds, run_sliceBound, h0, h1, h2, hh0, e1]
  | some m =>
    cases hi with
    | none => simp at hmx
    | some hh =>
      simp only [Option.getD_some] at h1 h2 h3
      have hh0 : 0 ≤ hh := by omega
      have hm0 : 0 ≤ m := by omega
      cases lo with
      | none => simp [Instr.sliceBounds, run_sliceBound, h2, h3, hh0, hm0, e1]
      | some l =>
        simp only [Option.getD_some] at h0 h1
        simp [Instr.sliceBounds, run_sliceBound, h0, h1, h2, h3, hh0, hm0, e1]

omit hI in
theorem run_sliceVal {T : Tab} (hT : TabOk P T) {ty e k : Nat} (ht : (T ty).d = .slice e) (hk : (T e).size = k + 1) (a : Option Addr) (len cap : Nat) (lo hi mx : Option Int) (hmx : mx = none ∨ hi ≠ none) (h0 : 0 ≤ lo.getD 0) (h1 : lo.getD 0 ≤ hi.getD len) (h2 : hi.getD len ≤ mx.getD cap) (h3 : mx.getD cap ≤ cap) :
    (Instr.sliceAt ty (.slice a len cap) (lo.map fun n => .int .i64 n) (hi.map fun n => .int .i64 n) (mx.map fun n => .int .i64 n)).run P w =
      .ok (.slice (if (mx.getD cap).toNat = (lo.getD 0).toNat then a else a.map (·.add ((lo.getD 0).toNat * (T e).size))) ((hi.getD len).toNat - (lo.getD 0).toNat) ((mx.getD cap).toNat - (lo.getD 0).toNat)) w := by
  have hu := hT.slice ht
  have hb := run_bounds (P := P) (w := w) true len cap lo hi mx hmx h0 h1 h2 h3
  simp only [Instr.sliceAt, Sem.run_bind, run_underlying hu, Result.andThen_ok, Instr.slice, hb, hT.size1 w hk, Sem.run_pure]
  rw [hk]

theorem Inv.moveO (r r2 : Nat) (hne : r2 ≠ r) (hf : h r2 = .free) (hl : (h r).live) {ob : Option Nat} (ho : ∀ c, ob = some c → g.own r = some c) (o' : HO) (x : Value) (n : Nat) (t : Bool) (hn : o' ≠ .free)
    (hobj : Keeps g w (g.upd r2 x n t ob g.S) w → ObjRep (g.upd r2 x n t ob g.S) w (used (hput (hput h r .dead) r2 o')) r2 o') :
    Inv w0 g0 h0 (hput (hput h r .dead) r2 o') (g.upd r2 x n t ob g.S) w ∧ Le h g w (hput (hput h r .dead) r2 o') (g.upd r2 x n t ob g.S) w := by
  have hGh : GhLe g (g.upd r2 x n t ob g.S) (used h) := by
    intro i hi
    have e : i ≠ r2 := fun e => hi (by rw [e]; exact hf)
    refine ⟨by simp [Gh.upd, e], by simp [Gh.upd, e], fun _ => by simp [Gh.upd, e], fun _ => by simp [Gh.upd, e]⟩
  have hK : Keeps g w (g.upd r2 x n t ob g.S) w := fun b o hb => ⟨hb, rfl, fun _ _ h => h⟩
  have hus : ∀ i, used h i → used (hput (hput h r .dead) r2 o') i := fun i hi => used_hput hn i (used_hput (by simp) i hi)
  have key : ∀ i, i ≠ r2 → (hput (hput h r .dead) r2 o' i).live → i ≠ r ∧ (h i).live := fun i h2 hl => by
    rw [hput_ne _ _ _ _ h2] at hl
    by_cases e : i = r
    · subst e; rw [hput_same] at hl; exact hl.elim
    · rw [hput_ne _ _ _ _ e] at hl; exact ⟨e, hl⟩
  have own : ∀ i, i ≠ r2 → (g.upd r2 x n t ob g.S).own i = g.own i := fun i e => by simp [Gh.upd, e]
  have own2 : (g.upd r2 x n t ob g.S).own r2 = ob := by simp [Gh.upd]
  refine ⟨⟨hI.os, hI.tape, hI.output, hI.size, hI.frame, hI.slt, fun i => ?_, fun i j c hi hj ei ej => ?_, fun i c hi ei => ?_, hI.sg, hI.glob.keep hK⟩, hGh, hus, hK⟩
  · by_cases e : i = r2
    · subst e; rw [hput_same]; exact hobj hK
    · rw [hput_ne _ _ _ _ e]
      by_cases e1 : i = r
      · subst e1; rw [hput_same]; trivial
      · rw [hput_ne _ _ _ _ e1]
        exact (hI.objs i).same hK hus hGh (by simp [Gh.upd, e]) (by simp [Gh.upd, e]) (by simp [Gh.upd, e]) (by simp [Gh.upd, e]) (fun b hl hb => ⟨rfl, fun k hk => hk⟩)
  · by_cases e1 : i = r2 <;> by_cases e2 : j = r2
    · exact e1.trans e2.symm
    · subst e1
      rw [own2] at ei; rw [own j e2] at ej
      obtain ⟨a1, a2⟩ := key j e2 hj
      exact absurd (hI.inj j r _ a2 hl ej (ho _ ei)) a1
    · subst e2
      rw [own2] at ej; rw [own i e1] at ei
      obtain ⟨a1, a2⟩ := key i e1 hi
      exact absurd (hI.inj i r _ a2 hl ei (ho _ ej)) a1
    · rw [own i e1] at ei; rw [own j e2] at ej
      exact hI.inj i j c (key i e1 hi).2 (key j e2 hj).2 ei ej
  · by_cases e1 : i = r2
    · subst e1
      rw [own2] at ei
      exact hI.loc r _ hl (ho _ ei)
    · rw [own i e1] at ei
      exact hI.loc i c (key i e1 hi).2 ei

theorem resliceK_ok {cx : Cx} (hT : TabOk P cx.T) {d : Option Nat} {ty : Nat} {x : AV} {vx : Value} {t : Nat → AV} {ρ : Operand → Value} (ht : ∀ x : Operand, Rep g w (used h) (ev t x) (ρ x)) {lo hi mx : Option Operand} {K : HK} (hx : Rep g w (used h) x vx)
    (hk : resliceK cx d h ty x (optInt t lo) hi mx K) : Does P w0 g0 h0 h g w (Instr.sliceAt ty vx (lo.map ρ) (hi.map ρ) (mx.map ρ)) K := by
  unfold resliceK at hk
  split at hk
  · rename_i d lo' e1
    rw [optInt_ok ht e1]
    split at hk
    · rename_i e hs
      split at hk
      · exact hk.elim
      · rename_i k hsz
        split at hk
        · rename_i r sz es
          split at hk
          · rename_i sz' n e0
            split at hk
            · rename_i hd
              split at hk
              · rename_i q1 q2
                obtain rfl := Nat.eq_of_beq_eq_true q1
                have q2 := Nat.eq_of_beq_eq_true q2
                obtain ⟨⟨rfl, h1, h2⟩, hk⟩ := hk
                have hl : (h r).live := by rw [e0]; trivial
                have hne : did cx d ≠ r := fun e => by rw [e, e0] at hd; cases hd
                have ho := hI.objs r
                rw [e0] at ho
                obtain ⟨t1, l1, a, cap, a1, a3⟩ := ho
                have hr := hx.slice_none
                cases hx with
                | tok _ _ _ _ _ hr0 hls hu ht' hn hx' =>
                  have hv := hx' l1.symm
                  rw [a1] at hv
                  subst hv
                  have hcapn : es.length ≤ cap := by rcases a3 with ⟨e1, _⟩ | ⟨e1, _⟩ <;> omega
                  have hrun := run_sliceVal (P := P) (w := w) hT hs hsz a es.length cap (some lo') none none (.inl rfl) h1 h2 (by simp only [Option.getD_none]; omega) (by simp)
                  simp only [Option.getD_some, Option.getD_none, Int.toNat_natCast] at hrun
                  have hlen : (es.drop lo'.toNat).length = es.length - lo'.toNat := List.length_drop
                  have hsub := Rep.sub (c' := cap - lo'.toNat) hr rfl hls (l := lo'.toNat) (m := es.length) (by omega) (Nat.le_refl _) (by omega) (if cap = lo'.toNat then a else a.map (·.add (lo'.toNat * (cx.T e).size))) (by
                    split
                    · exact .inr ⟨by omega, rfl⟩
                    · rw [q2]; exact .inl rfl)
                  rw [List.take_length] at hsub
                  have fin : ∀ ob : Option Nat, (∀ c, ob = some c → g.own r = some c) → (es.length - lo'.toNat = cap - lo'.toNat ∧ ob = none ∨ es.length - lo'.toNat ≤ cap - lo'.toNat ∧ ∃ b E vs off, (if cap = lo'.toNat then a else a.map (·.add (lo'.toNat * (cx.T e).size))) = some ⟨b, off, none⟩ ∧ ob = some b ∧ w.heap[b]? = some (.cells vs E (0, 0)) ∧ vs.size = off + (cap - lo'.toNat) * sz' ∧ ∀ o, g.S b o → o < off + (es.length - lo'.toNat) * sz') →
                      Does P w0 g0 h0 h g w (Instr.sliceAt ty (.slice a es.length cap) ((some lo').map fun n => .int .i64 n) ((none : Option Operand).map ρ) ((none : Option Operand).map ρ)) K := fun ob ho hob => by
                    obtain ⟨k1, k2⟩ := hI.moveO r (did cx d) hne hd hl ho (.tok sz' (es.drop lo'.toNat).length) (.slice (if cap = lo'.toNat then a else a.map (·.add (lo'.toNat * (cx.T e).size))) (es.length - lo'.toNat) (cap - lo'.toNat)) (es.length - lo'.toNat) true (by simp) (fun hkp => by
                      obtain ⟨u1, u2, u3, u4⟩ := upd_same g (did cx d) (.slice (if cap = lo'.toNat then a else a.map (·.add (lo'.toNat * (cx.T e).size))) (es.length - lo'.toNat) (cap - lo'.toNat)) (es.length - lo'.toNat) true ob g.S
                      refine ⟨u3, u2.trans hlen.symm, _, _, by rw [hlen]; exact u1, ?_⟩
                      rw [hlen, u4]
                      exact hob)
                    exact ⟨_, w, _, _, _, hrun, hk, k1, k2, .tok _ _ _ _ _ (((hsub.mono k2.keeps (fun _ h => h) (fun _ h => h.elim))).up _) (fun c hc => hls c (List.mem_of_mem_drop hc)) (by unfold used; rw [hput_same]; simp) (by simp [Gh.upd]) (by simp [Gh.upd]) (fun _ => by simp [Gh.upd])⟩
                  rcases a3 with ⟨e1, e2⟩ | ⟨e1, b, E, vs, off, rfl, e3, e4, e5, e6⟩
                  · exact fin none (fun c h => by cases h) (.inl ⟨by omega, rfl⟩)
                  · by_cases hc : cap = lo'.toNat
                    · exact fin none (fun c h => by cases h) (.inl ⟨by omega, rfl⟩)
                    · refine fin (some b) (fun c h => by cases h; exact e3) (.inr ⟨by omega, b, E, vs, off + lo'.toNat * sz', ?_, rfl, e4, ?_, fun o ho => ?_⟩)
                      · rw [if_neg hc]; simp [Addr.add_lit, q2]
                      · rw [e5, Nat.sub_mul]
                        have := Nat.mul_le_mul_right sz' (show lo'.toNat ≤ cap by omega)
                        omega
                      · have := e6 o ho
                        rw [Nat.sub_mul]
                        have := Nat.mul_le_mul_right sz' (show lo'.toNat ≤ es.length by omega)
                        omega
              · exact hk.elim
            · exact hk.elim
          · exact hk.elim
        · exact hk.elim
    · exact hk.elim
  · exact hk.elim

theorem sliceK_ok {cx : Cx} (hT : TabOk P cx.T) {d : Option Nat} {ty : Nat} {x : AV} {vx : Value} {t : Nat → AV} {ρ : Operand → Value} (ht : ∀ x : Operand, Rep g w (used h) (ev t x) (ρ x)) {lo hi mx : Option Operand} {K : HK} (hx : Rep g w (used h) x vx)
    (hk : sliceK cx d h ty x (optInt t lo) (optInt t hi) (optInt t mx) K) : Does P w0 g0 h0 h g w (Instr.sliceAt ty vx (lo.map ρ) (hi.map ρ) (mx.map ρ)) K := by
  unfold sliceK at hk
  split at hk
  · rename_i lo' hi' mx' e1 e2 e3
    rw [optInt_ok ht e1, optInt_ok ht e2, optInt_ok ht e3]
    split at hk
    · rename_i hs
      split at hk
      · rename_i s
        obtain ⟨⟨h1, h2, h3⟩, hk⟩ := hk
        obtain rfl := hx.v_eq
        have hb := run_bounds (P := P) (w := w) false s.size s.size lo' hi' none (.inl rfl) h1 h2 (by simpa using h3) (by simp)
        refine (Gives.val (x := .string (s.extract (lo'.getD 0).toNat (hi'.getD s.size).toNat)) ?_ hk).does hI
        simp only [Instr.sliceAt, Sem.run_bind, run_underlying (hT.string hs), Result.andThen_ok, Instr.slice]
        simp only [Option.map_none, Option.isSome_none, Bool.false_eq_true, if_false] at hb ⊢
        simp only [Sem.run_bind, hb, Result.andThen_ok, Sem.run_pure]
      · exact hk.elim
    · rename_i e hs
      split at hk
      · exact hk.elim
      · rename_i k hsz
        split at hk
        · rename_i tk es
          have hr := hx.slice_none
          obtain ⟨a, cap, hv, hcap⟩ : ∃ a cap, vx = .slice a es.length cap ∧ es.length ≤ cap := by
            cases hr with
            | snil _ a cap => exact ⟨a, cap, rfl, Nat.zero_le _⟩
            | slice _ _ b off sz cap val hc => exact ⟨_, cap, rfl, hc⟩
          subst hv
          split at hk
          · obtain ⟨⟨h1, h2, h3⟩, hl, hk⟩ := hk
            have hrun := run_sliceVal (P := P) (w := w) hT hs hsz a es.length cap lo' hi' none (.inl rfl) h1 h2 (by simp only [Option.getD_none]; omega) (by simp)
            refine Gives.does hI ⟨_, _, hrun, hk, (Rep.sub (c' := cap - (lo'.getD 0).toNat) hr rfl hl (l := (lo'.getD 0).toNat) (m := (hi'.getD es.length).toNat) (by omega) (by omega) (by simp; omega) _ ?_).up _⟩
            split
            · rename_i e; simp only [Option.getD_none, Int.toNat_natCast] at e; exact .inr ⟨by omega, rfl⟩
            · exact .inl rfl
          · rename_i m
            split at hk
            · rename_i d hh
              split at hk
              · rename_i hd
                obtain ⟨⟨h1, h2, rfl, h3⟩, hl, hk⟩ := hk
                have hrun := run_sliceVal (P := P) (w := w) hT hs hsz a es.length cap lo' (some m) (some m) (.inr (by simp)) h1 h2 (by simp) (by simp only [Option.getD_some]; omega)
                simp only [Option.getD_some] at hrun
                obtain ⟨g', k1, k2, k3⟩ := newFull_ok hI (sz := (cx.T e).size) (n := m.toNat - (lo'.getD 0).toNat) hd (es := (es.take m.toNat).drop (lo'.getD 0).toNat) (fun c hc => hl c (List.mem_of_mem_take (List.mem_of_mem_drop hc))) (by rw [List.length_drop, List.length_take]; omega)
                  (Rep.sub (c' := m.toNat - (lo'.getD 0).toNat) hr rfl hl (l := (lo'.getD 0).toNat) (m := m.toNat) (by omega) (by omega) (by omega) (if m.toNat = (lo'.getD 0).toNat then a else a.map (·.add ((lo'.getD 0).toNat * (cx.T e).size))) (by
                    split
                    · rename_i e; exact .inr ⟨e, rfl⟩
                    · exact .inl rfl))
                exact ⟨_, w, g', _, _, hrun, hk, k1, k2, k3⟩
              · exact hk.elim
            · exact hk.elim
        · obtain ⟨⟨h1, h2, h3⟩, h4, hk⟩ := hk
          obtain rfl := hx.v_eq
          have hrun := run_sliceVal (P := P) (w := w) hT hs hsz none 0 0 lo' hi' mx' h4 (by omega) (by simp only [Int.natCast_zero] at *; omega) (by simp only [Int.natCast_zero] at *; omega) (by simp only [Int.natCast_zero] at *; omega)
          refine Gives.does hI (Gives.val (x := .slice none 0 0) ?_ hk)
          rw [hrun]
          simp only [h1, Int.natCast_zero, h2, h3]
          simp
        · rename_i r n
          split at hk
          · rename_i sz es e0
            split at hk
            · rename_i hse
              obtain rfl := Nat.eq_of_beq_eq_true hse
              obtain ⟨⟨h1, h2, h3, h4, h5⟩, hk⟩ := hk
              have ho := hI.objs r
              rw [e0] at ho
              obtain ⟨t1, l1, al, a3⟩ := ho
              have hl : (h r).live := by rw [e0]; trivial
              have hmxc : mx' = none ∨ hi' ≠ none := h5.imp id (fun q => q.2)
              cases hx with
              | msl _ _ _ a cap hu ht' hn ha hx' =>
                have hv := hx' (h1.trans l1.symm)
                subst h1
                have hmx : ∀ c : Nat, es.length ≤ c → hi'.getD es.length ≤ mx'.getD c ∧ mx'.getD c ≤ c := fun c hc => by
                  rcases h5 with h5 | ⟨h5, hne⟩
                  · rw [h5]; simp only [Option.getD_none]; omega
                  · obtain ⟨m, hm⟩ := Option.ne_none_iff_exists'.1 hne
                    rw [h5, hm]
                    rw [hm] at h3 h4
                    simp only [Option.getD_some] at h3 h4 ⊢; omega
                rcases a3 with ⟨rfl, q2, q3⟩ | ⟨b, cap', E, vs, q1, q2, q3, q4, q5, q6, q7⟩
                · rw [q2] at hv
                  cases hv
                  have hrun := run_sliceVal (P := P) (w := w) hT hs hsz none 0 0 lo' hi' mx' hmxc h2 h3 (hmx 0 (by simp)).1 (hmx 0 (by simp)).2
                  obtain ⟨k1, k2⟩ := hI.upd r .dead (g.ρ r) (g.ln r) (g.tk r) (g.own r) g.S w none ⟨rfl, rfl, rfl, Nat.le_refl _⟩ (fun _ _ _ => rfl) (fun b e => by cases e) (fun _ _ h => h) (fun _ _ h => .inl h) (fun b o e => by cases e) (fun b hh _ => by cases hh) (by simp)
                    (fun _ => ⟨rfl, Nat.le_refl _, fun _ => rfl, fun _ => rfl⟩) (fun _ _ => trivial)
                  refine ⟨_, w, _, _, _, hrun, hk, k1, k2, ?_⟩
                  have z1 : ((lo'.getD 0).toNat) = 0 := by simp only [List.length_nil, Int.natCast_zero] at h3 h4; omega
                  have z2 : ((hi'.getD (([] : List (List AV)).length : Int)).toNat) = 0 := by simp only [List.length_nil, Int.natCast_zero] at h3 h4 ⊢; omega
                  simp only [List.take_nil, List.drop_nil]
                  have z3 : ((hi'.getD ((0 : Nat) : Int)).toNat) = 0 := z2
                  rw [z1, z3]
                  exact .snil _ _ _
                · rw [q1] at hv
                  cases hv
                  have hrun := run_sliceVal (P := P) (w := w) hT hs hsz (some ⟨b, 0, none⟩) es.length cap lo' hi' mx' hmxc h2 h3 (hmx _ q3).1 (hmx _ q3).2
                  have hblt := (hI.loc r b hl q2).1
                  obtain ⟨k1, k2⟩ := hI.upd r .dead (g.ρ r) (g.ln r) (g.tk r) (g.own r) (g.more b (es.length * (cx.T e).size)) w none ⟨rfl, rfl, rfl, Nat.le_refl _⟩ (fun _ _ _ => rfl) (fun b e => by cases e) (fun _ _ h => .inl h)
                    (fun b' o hs => hs.elim .inl (fun hs => .inr ⟨by rw [hs.1]; exact hblt, .inr ⟨hl, by rw [hs.1]; exact q2⟩⟩)) (fun b o e => by cases e) (fun b hh _ => by cases hh) (by simp)
                    (fun _ => ⟨rfl, Nat.le_refl _, fun _ => rfl, fun _ => rfl⟩) (fun _ _ => trivial)
                  have hrep := Rep.slice_row (g := g.upd r (g.ρ r) (g.ln r) (g.tk r) (g.own r) (g.more b (es.length * (cx.T e).size))) (U := NoU) q4 al q3 (q6.mono k2.keeps (fun _ h => h) (fun _ h => h.elim)) (fun o ho => .inr ⟨rfl, ho⟩)
                  have hmx2 := hmx _ q3
                  refine ⟨_, w, _, _, _, hrun, hk, k1, k2, (Rep.sub (c' := (mx'.getD cap).toNat - (lo'.getD 0).toNat) hrep rfl al (l := (lo'.getD 0).toNat) (m := (hi'.getD es.length).toNat) (by omega) (by omega) (by omega) _ ?_).up _⟩
                  split
                  · rename_i e; exact .inr ⟨by omega, rfl⟩
                  · exact .inl rfl
            · exact hk.elim
          · exact hk.elim
        · exact hk.elim
    · exact hk.elim
  · exact hk.elim

theorem makeSliceK_ok {cx : Cx} (hT : TabOk P cx.T) {d : Option Nat} {ty : Nat} {n c : AV} {vn vc : Value} {K : HK} (hn : Rep g w (used h) n vn) (hc : Rep g w (used h) c vc) (hk : makeSliceK cx d h ty n c K) :
    Does P w0 g0 h0 h g w (Instr.makeSlice ty vn vc) K := by
  unfold makeSliceK at hk
  split at hk
  · rename_i e n c hs
    obtain rfl := hn.v_eq
    obtain rfl := hc.v_eq
    split at hk
    · rename_i hone
      split at hk
      · rename_i hzl
        have hzl := Nat.eq_of_beq_eq_true hzl
        split at hk
        · exact hk.elim
        · rename_i k hsz
          obtain ⟨⟨h1, h2, h3, h4⟩, hk⟩ := hk
          obtain ⟨i, z, i1, i2, i3, i4, i5⟩ := append_facts hT hsz
          have hz0 : (cx.T e).zc ≠ [] := fun e0 => by rw [e0] at hzl; rw [hsz] at hzl; cases hzl
          have wn : IntKind.i64.wrap n = n := wrap_in ⟨by omega, by omega⟩
          have wc : IntKind.i64.wrap c = c := wrap_in ⟨by omega, by omega⟩
          have hall : ∀ l : List AV, (∀ a ∈ l, one a = true) → allOne l = true := by
            intro l
            induction l with
            | nil => intro _; rfl
            | cons a l ih => intro h; simp [allOne, h a (List.mem_cons_self ..), ih (fun b hb => h b (List.mem_cons_of_mem _ hb))]
          have hrow : ((Array.range (c.toNat * (cx.T e).size)).map fun k => z.cells[k % z.cells.size]!).toList = (List.replicate c.toNat (cx.T e).zc).flatten := by
            rw [replicate_flatten c.toNat _ hz0, hzl, i5]
            have e6 : z.cells.size = (cx.T e).size := by rw [← hzl, i5]; simp
            simp [e6, Array.getElem!_eq_getD]
          have hzs : (cx.T e).zc.length = (cx.T e).size := hzl
          have hlr : ∀ c' ∈ List.replicate c.toNat (cx.T e).zc, c'.length = (cx.T e).size := fun c' hc => by rw [List.eq_of_mem_replicate hc]; exact hzl
          have hlr' : ∀ c' ∈ List.replicate n.toNat ((cx.T e).zc.map AV.v), c'.length = (cx.T e).size := fun c' hc => by rw [List.eq_of_mem_replicate hc, List.length_map]; exact hzl
          have hlr2 : ∀ c' ∈ List.replicate n.toNat (cx.T e).zc, c'.length = (cx.T e).size := fun c' hc => by rw [List.eq_of_mem_replicate hc]; exact hzl
          obtain ⟨g', av, h', q1, q2, q3, q4⟩ := newSlice_ok hI hk (vs := (Array.range (c.toNat * (cx.T e).size)).map fun k => z.cells[k % z.cells.size]!) (cap := c.toNat) e hlr' (by rw [List.length_replicate]; omega) (by simp) (by
            rw [hrow, List.length_replicate]
            have e1 : (List.replicate n.toNat ((cx.T e).zc.map AV.v)).flatten = (List.replicate n.toNat (cx.T e).zc).flatten.map AV.v := by
              rw [List.map_flatten, List.map_replicate]
            have e2 : (List.replicate c.toNat (cx.T e).zc).flatten.take (n.toNat * (cx.T e).size) = (List.replicate n.toNat (cx.T e).zc).flatten := by
              obtain ⟨m, hm⟩ : ∃ m, c.toNat = n.toNat + m := ⟨c.toNat - n.toNat, by omega⟩
              rw [hm, ← List.replicate_append_replicate, List.flatten_append, List.take_left' (by rw [flatten_len hlr2, List.length_replicate])]
            rw [e1, e2]
            refine RepL.vals (hall _ (fun a ha => ?_))
            obtain ⟨x, hx, rfl⟩ := List.mem_map.1 ha
            obtain ⟨l, hl, hx⟩ := List.mem_flatten.1 hx
            rw [List.eq_of_mem_replicate hl] at hx
            exact allOne_ok hone _ (List.mem_map.2 ⟨x, hx, rfl⟩)) w ⟨rfl, rfl, rfl, rfl⟩
          rw [List.length_replicate] at q4
          refine ⟨_, _, g', av, h', ?_, q1, q2, q3, q4⟩
          have hb0 : ¬ ((cx.T e).bytes * c > 2 ^ 48) := by rw [Int.mul_comm]; omega
          have hcond : ((decide (c < 0) || decide (((cx.T e).bytes : Int) * c > 2 ^ 48)) || decide (n < 0) || decide (n > c)) = false := by
            simp only [Bool.or_eq_false_iff, decide_eq_false_iff_not]
            exact ⟨⟨⟨by omega, hb0⟩, by omega⟩, by omega⟩
          simp only [Instr.makeSlice, Sem.run_bind, run_underlying (hT.slice hs), Result.andThen_ok, asInt, asIntOf, Sem.run_pure, typeInfo, run_program, i1, i4, wn, wc, hcond, Bool.false_eq_true, if_false, run_askRoom, hT.size1 w hsz]
          by_cases hz : c.toNat * (k + 1) = 0
          · have hc0 : c.toNat = 0 := by
              rcases Nat.mul_eq_zero.1 hz with h | h
              · exact h
              · cases h
            rw [hc0]
            simp only [Nat.zero_mul, if_true]
            simp only [show Array.range 0 = #[] from rfl, Array.map_empty]
            simp [newRow]
          · simp only [if_neg hz, Sem.run_bind, zeroValue, typeInfo, run_program, i1, i2, Result.andThen_ok, Sem.run_pure]
            rw [hsz]
            simp [newRow]
      · exact hk.elim
    · exact hk.elim
  · exact hk.elim
end
end Go.Eng

namespace Go.Eng
open Go.ChangeMaps (setBlock)

theorem setBlock_same {w : World} {r : Nat} {o o' : Obj} (h : w.heap[r]? = some o) : (setBlock w r o').heap[r]? = some o' := by
  have := (Array.getElem?_eq_some_iff.1 h).1
  simp [setBlock, this]
theorem setBlock_other {w : World} {r k : Nat} {o' : Obj} (h : k ≠ r) : (setBlock w r o').heap[k]? = w.heap[k]? := by
  simp [setBlock, Ne.symm h]
theorem setBlock_size (w : World) (r : Nat) (o' : Obj) : (setBlock w r o').heap.size = w.heap.size := by simp [setBlock]

theorem nodup_of_map {α β : Type} {f : α → β} {l : List α} (h : (l.map f).Nodup) : l.Nodup := by
  induction l with
  | nil => exact List.nodup_nil
  | cons c l ih =>
    rw [List.map_cons, List.nodup_cons] at h
    exact List.nodup_cons.2 ⟨fun hc => h.1 (List.mem_map.2 ⟨c, hc, rfl⟩), ih h.2⟩
theorem nodup_idx {α β : Type} {f : α → β} {l : List α} (h : (l.map f).Nodup) {i j : Nat} {a b : α} (ha : l[i]? = some a) (hb : l[j]? = some b) (he : f a = f b) : i = j := by
  induction l generalizing i j with
  | nil => simp at ha
  | cons c l ih =>
    rw [List.map_cons, List.nodup_cons] at h
    cases i with
    | zero =>
      cases j with
      | zero => rfl
      | succ j =>
        simp only [List.getElem?_cons_zero, Option.some.injEq, List.getElem?_cons_succ] at ha hb
        exact absurd (List.mem_map.2 ⟨b, List.mem_of_getElem? hb, by rw [← he, ha]⟩) h.1
    | succ i =>
      cases j with
      | zero =>
        simp only [List.getElem?_cons_zero, Option.some.injEq, List.getElem?_cons_succ] at ha hb
        exact absurd (List.mem_map.2 ⟨a, List.mem_of_getElem? ha, by rw [he, hb]⟩) h.1
      | succ j => exact congrArg (· + 1) (ih h.2 ha hb)

open Classical in
theorem mput_some {kvs : List (Value × AV)} {k : Value} {a b : AV} (h : (k, b) ∈ kvs) : mput kvs k a = kvs.map fun p => if p.1 = k then (k, a) else p := if_pos ⟨b, h⟩
open Classical in
theorem mput_none {kvs : List (Value × AV)} {k : Value} {a : AV} (h : ∀ b, (k, b) ∉ kvs) : mput kvs k a = kvs ++ [(k, a)] := if_neg (fun ⟨b, e⟩ => h b e)

theorem mapOk_map {sh : Shape} {es : Array MapEntry} {ck : Nat} {kvs : List (Value × AV)} (f : AV → AV) (h : MapOk sh es ck kvs) : MapOk sh es ck (kvs.map fun p => (p.1, f p.2)) := by
  obtain ⟨h1, h2, h3, h4, h5, h6⟩ := h
  refine ⟨by simp [h1], fun i kv e q1 q2 => ?_, fun kv hkv => ?_, ?_, h5, h6⟩
  · rw [List.getElem?_map] at q1
    obtain ⟨p, q3, rfl⟩ := Option.map_eq_some_iff.1 q1
    exact h2 i p e q3 q2
  · obtain ⟨p, hp, rfl⟩ := List.mem_map.1 hkv
    exact h3 p hp
  · rw [List.map_map]
    exact h4
theorem mapOk_modify {sh : Shape} {es : Array MapEntry} {ck : Nat} {kvs : List (Value × AV)} (h : MapOk sh es ck kvs) {x : Value} {a v : AV} {y : Value} {j : Nat} (hj : kvs[j]? = some (x, a)) :
    MapOk sh (es.modify j fun e => { e with key := x, val := y }) ck (mput kvs x v) ∧
      ∀ (i : Nat) (kv : Value × AV) (e : MapEntry), (mput kvs x v)[i]? = some kv → (es.modify j fun e => { e with key := x, val := y })[i]? = some e →
        (kv.2 = v ∧ e.val = y) ∨ (kvs[i]? = some kv ∧ es[i]? = some e) := by
  classical
  rw [mput_some (List.mem_of_getElem? hj)]
  obtain ⟨h1, h2, h3, h4, h5, h6⟩ := h
  have hm : ∀ i e, (es.modify j fun e => { e with key := x, val := y })[i]? = some e → ∃ e0, es[i]? = some e0 ∧ e.born = e0.born ∧ (if i = j then e.key = x ∧ e.val = y else e = e0) := by
    intro i e he
    rw [Array.getElem?_modify] at he
    split at he
    · rename_i e1; subst e1
      obtain ⟨e0, q1, q2⟩ := Option.map_eq_some_iff.1 he
      exact ⟨e0, q1, by rw [← q2], by rw [if_pos rfl, ← q2]; exact ⟨rfl, rfl⟩⟩
    · rename_i e1
      exact ⟨e, he, rfl, by rw [if_neg (fun q => e1 q.symm)]⟩
  have hk : ∀ i kv, (kvs.map fun p => if p.1 = x then (x, v) else p)[i]? = some kv → ∃ p, kvs[i]? = some p ∧ kv.1 = p.1 ∧ (if i = j then kv.2 = v else kv = p) := by
    intro i kv hkv
    rw [List.getElem?_map] at hkv
    obtain ⟨p, q1, q2⟩ := Option.map_eq_some_iff.1 hkv
    refine ⟨p, q1, ?_⟩
    by_cases e : p.1 = x
    · rw [if_pos e] at q2
      subst q2
      have := nodup_idx h4 q1 hj e
      exact ⟨e.symm, by rw [if_pos this]⟩
    · rw [if_neg e] at q2
      subst q2
      refine ⟨rfl, ?_⟩
      rw [if_neg]
      intro e2; subst e2
      rw [q1] at hj; cases hj; exact e rfl
  have hkeys : (kvs.map fun p => if p.1 = x then (x, v) else p).map (·.1) = kvs.map (·.1) := by
    rw [List.map_map]
    apply List.map_congr_left
    intro p _
    simp only [Function.comp]
    split
    · rename_i e; exact e.symm
    · rfl
  refine ⟨⟨by simp [h1], fun i kv e q1 q2 => ?_, fun kv hkv => ?_, by rw [hkeys]; exact h4, fun i e q => ?_, fun i i' e e' q q' hb => ?_⟩, fun i kv e q1 q2 => ?_⟩
  · obtain ⟨p, p1, p2, p3⟩ := hk i kv q1
    obtain ⟨e0, r1, r2, r3⟩ := hm i e q2
    have := h2 i p e0 p1 r1
    split at r3
    · rename_i ij; subst ij
      rw [hj] at p1; cases p1
      rw [r3.1, p2]
    · rw [r3, p2]; exact this
  · obtain ⟨i, hi⟩ := List.mem_iff_getElem?.1 hkv
    obtain ⟨p, p1, p2, p3⟩ := hk i kv hi
    rw [p2]; exact h3 p (List.mem_of_getElem? p1)
  · obtain ⟨e0, r1, r2, _⟩ := hm i e q
    rw [r2]; exact h5 i e0 r1
  · obtain ⟨e0, r1, r2, _⟩ := hm i e q
    obtain ⟨e1, s1, s2, _⟩ := hm i' e' q'
    exact h6 i i' e0 e1 r1 s1 (by rw [← r2, ← s2]; exact hb)
  · obtain ⟨p, p1, p2, p3⟩ := hk i kv q1
    obtain ⟨e0, r1, r2, r3⟩ := hm i e q2
    split at r3
    · rename_i ij
      rw [if_pos ij] at p3
      exact .inl ⟨p3, r3.2⟩
    · rename_i ij
      rw [if_neg ij] at p3
      exact .inr ⟨by rw [p3]; exact p1, by rw [r3]; exact r1⟩

theorem mapOk_push {sh : Shape} {es : Array MapEntry} {ck : Nat} {kvs : List (Value × AV)} (h : MapOk sh es ck kvs) {x : Value} {v : AV} {y : Value} (hx : shB sh x = true) (hn : ∀ a, (x, a) ∉ kvs) :
    MapOk sh (es.push { key := x, val := y, born := ck }) (ck + 1) (mput kvs x v) ∧
      ∀ (i : Nat) (kv : Value × AV) (e : MapEntry), (mput kvs x v)[i]? = some kv → (es.push { key := x, val := y, born := ck })[i]? = some e →
        (kv.2 = v ∧ e.val = y) ∨ (kvs[i]? = some kv ∧ es[i]? = some e) := by
  rw [mput_none hn]
  obtain ⟨h1, h2, h3, h4, h5, h6⟩ := h
  have hm : ∀ i e, (es.push { key := x, val := y, born := ck })[i]? = some e → (es[i]? = some e ∧ i < es.size) ∨ (i = es.size ∧ e = { key := x, val := y, born := ck }) := by
    intro i e he
    rw [Array.getElem?_push] at he
    split at he
    · rename_i q; cases he; exact .inr ⟨q, rfl⟩
    · exact .inl ⟨he, (Array.getElem?_eq_some_iff.1 he).1⟩
  have hk : ∀ i kv, (kvs ++ [(x, v)])[i]? = some kv → (kvs[i]? = some kv ∧ i < es.size) ∨ (i = es.size ∧ kv = (x, v)) := by
    intro i kv hkv
    rw [List.getElem?_append] at hkv
    split at hkv
    · rename_i q; exact .inl ⟨hkv, by omega⟩
    · rename_i q
      have : i - kvs.length = 0 := by
        have := (List.getElem?_eq_some_iff.1 hkv).1
        simp at this; omega
      rw [this] at hkv
      simp at hkv
      exact .inr ⟨by omega, hkv.symm⟩
  refine ⟨⟨by simp [h1], fun i kv e q1 q2 => ?_, fun kv hkv => ?_, ?_, fun i e q => ?_, fun i i' e e' q q' hb => ?_⟩, fun i kv e q1 q2 => ?_⟩
  · rcases hk i kv q1 with ⟨p1, p2⟩ | ⟨p1, p2⟩ <;> rcases hm i e q2 with ⟨r1, r2⟩ | ⟨r1, r2⟩
    · exact h2 i kv e p1 r1
    · omega
    · omega
    · rw [p2, r2]
  · rcases List.mem_append.1 hkv with q | q
    · exact h3 kv q
    · rw [List.mem_singleton.1 q]; exact hx
  · rw [List.map_append, List.nodup_append]
    refine ⟨h4, by simp, fun a ha b hb e => ?_⟩
    simp only [List.map_cons, List.map_nil, List.mem_singleton] at hb
    obtain ⟨p, p1, p2⟩ := List.mem_map.1 ha
    refine hn p.2 ?_
    have : p = (x, p.2) := by rw [← hb, ← e, ← p2]
    rw [← this]; exact p1
  · rcases hm i e q with ⟨r1, _⟩ | ⟨_, r2⟩
    · have := h5 i e r1; omega
    · rw [r2]; exact Nat.lt_succ_self _
  · rcases hm i e q with ⟨r1, _⟩ | ⟨r1, r2⟩ <;> rcases hm i' e' q' with ⟨s1, _⟩ | ⟨s1, s2⟩
    · exact h6 i i' e e' r1 s1 hb
    · have := h5 i e r1; rw [s2] at hb; dsimp only at hb; omega
    · have := h5 i' e' s1; rw [r2] at hb; dsimp only at hb; omega
    · omega
  · rcases hk i kv q1 with ⟨p1, p2⟩ | ⟨p1, p2⟩ <;> rcases hm i e q2 with ⟨r1, r2⟩ | ⟨r1, r2⟩
    · exact .inr ⟨p1, r1⟩
    · omega
    · omega
    · exact .inl ⟨by rw [p2], by rw [r2]⟩

section
variable {P : Program} {w0 : World} {g0 : Gh} {h0 h : Nat → HO} {g : Gh} {w : World} (hI : Inv w0 g0 h0 h g w)
include hI

theorem Inv.swap {r b : Nat} (hl : (h r).live) (ho : g.own r = some b) (hn : ∀ o, ¬ g.S b o) (o' : HO) {ob : Obj} (hb : w.heap[b]? = some ob) (ob' : Obj) (w1 : World) (hw1 : w1.heap = w.heap ∧ w1.os = w.os ∧ w1.tape = w.tape ∧ w1.output = w.output) (hne : o' ≠ .free)
    (hobj : GhLe g (g.upd r (g.ρ r) (g.ln r) (g.tk r) (g.own r) g.S) (used h) → Keeps g w (g.upd r (g.ρ r) (g.ln r) (g.tk r) (g.own r) g.S) (setBlock w1 b ob') → (setBlock w1 b ob').heap[b]? = some ob' →
      (∀ k, k ≠ b → (setBlock w1 b ob').heap[k]? = w.heap[k]?) →
      ObjRep (g.upd r (g.ρ r) (g.ln r) (g.tk r) (g.own r) g.S) (setBlock w1 b ob') (used (hput h r o')) r o') :
    Inv w0 g0 h0 (hput h r o') (g.upd r (g.ρ r) (g.ln r) (g.tk r) (g.own r) g.S) (setBlock w1 b ob') ∧ Le h g w (hput h r o') (g.upd r (g.ρ r) (g.ln r) (g.tk r) (g.own r) g.S) (setBlock w1 b ob') := by
  have hlt := (hI.loc r b hl ho).1
  have hnew : (setBlock w1 b ob').heap[b]? = some ob' := setBlock_same (by rw [hw1.1]; exact hb)
  have hoth : ∀ k, k ≠ b → (setBlock w1 b ob').heap[k]? = w.heap[k]? := fun k hk => by rw [setBlock_other hk, hw1.1]
  refine hI.upd r o' _ _ _ _ _ _ (some b) ⟨hw1.2.1, hw1.2.2.1, hw1.2.2.2, by rw [setBlock_size, hw1.1]; exact Nat.le_refl _⟩ (fun k _ hne => hoth k (fun e => hne (by rw [e]))) (fun b' e => by cases e; exact ⟨hl, ho⟩) (fun _ _ h => h) (fun _ _ h => .inl h)
    (fun b' o e hs => by cases e; exact absurd hs (hn o)) (fun b' _ e => ?_) hne (fun _ => ⟨rfl, Nat.le_refl _, fun _ => rfl, fun _ => rfl⟩) (fun hg hk => hobj hg hk hnew hoth)
  rw [ho] at e; cases e
  exact ⟨by rw [setBlock_size, hw1.1]; exact hlt, .inl ⟨hl, ho⟩⟩

theorem mapUpdateK_ok {T : Tab} (hT : TabOk P T) {ty : Nat} {m k x : AV} {vm vk vx : Value} {K : HK} (hm : Rep g w (used h) m vm) (hk' : Rep g w (used h) k vk) (hx : Rep g w (used h) x vx) (hk : mapUpdateK T h ty m k x K) :
    DoesU P w0 g0 h0 h g w (Instr.mapUpdate ty vm vk vx) K := by
  unfold mapUpdateK at hk
  split at hk
  · rename_i r
    split at hk
    · rename_i sh kvs e0
      obtain ⟨kt, e, k1, k2, k3, k4⟩ := keyK_ok hk' hk
      have ho := hI.objs r
      rw [e0] at ho
      obtain ⟨t1, b, es, ck, a1, a2, a3, a4, a5, a6⟩ := ho
      have hl : (h r).live := by rw [e0]; trivial
      cases hm with
      | mref _ _ b' hu ht hp =>
        rw [a2] at hp; cases hp
        have hu' := hT.map k1
        have hget := run_getObj_map (P := P) w b es ck a3
        have hset : ∀ o', (setObj b o').run P w = .ok () (setBlock w b o') := fun o' => by simp [setObj, Sem.run, a3, setBlock]
        have hck := fun bb => shape_check hT k2 w bb k3
        obtain ⟨res, r1, r2⟩ := shape_find hT k2 w k3 es.toList a4.shape
        have hxs := Rep.str hI.objs hx
        rcases r2 with ⟨rfl, hn⟩ | ⟨j, en, rfl, hj, hkey⟩
        · obtain ⟨m1, m2⟩ := mapOk_push a4 (x := vk) (v := str h x) (y := vx) k3 (fun a => a4.none hn a)
          obtain ⟨i1, i2⟩ := Inv.swap hI hl a1 a6 (.map sh (mput kvs vk (str h x))) a3 (.map (es.push { key := vk, val := vx, born := ck }) (ck + 1)) w ⟨rfl, rfl, rfl, rfl⟩ (by simp) (fun hg hkp hnew hoth => by
            obtain ⟨u1, u2, u3, u4⟩ := upd_same g r (g.ρ r) (g.ln r) (g.tk r) (g.own r) g.S
            refine ⟨u3.trans t1, b, _, _, u4.trans a1, u1.trans a2, hnew, m1, fun i kv e q1 q2 => ?_, a6⟩
            rcases m2 i kv e q1 q2 with ⟨p1, p2⟩ | ⟨p1, p2⟩
            · rw [p1, p2]; exact hxs.mono hkp (fun _ h => h) (fun _ h => h.elim)
            · exact (a5 i kv e p1 p2).mono hkp (fun _ h => h) (fun _ h => h.elim))
          refine ⟨_, _, _, ?_, k4, i1, i2⟩
          simp [Instr.mapUpdate, run_underlying hu', hget, hck, r1, hset]
        · obtain ⟨a, q1, q2⟩ := a4.some hj hkey
          obtain ⟨m1, m2⟩ := mapOk_modify a4 (x := vk) (v := str h x) (y := vx) q1
          obtain ⟨i1, i2⟩ := Inv.swap hI hl a1 a6 (.map sh (mput kvs vk (str h x))) a3 (.map (es.modify j fun e => { e with key := vk, val := vx }) ck) w ⟨rfl, rfl, rfl, rfl⟩ (by simp) (fun hg hkp hnew hoth => by
            obtain ⟨u1, u2, u3, u4⟩ := upd_same g r (g.ρ r) (g.ln r) (g.tk r) (g.own r) g.S
            refine ⟨u3.trans t1, b, _, _, u4.trans a1, u1.trans a2, hnew, m1, fun i kv e q1 q2 => ?_, a6⟩
            rcases m2 i kv e q1 q2 with ⟨p1, p2⟩ | ⟨p1, p2⟩
            · rw [p1, p2]; exact hxs.mono hkp (fun _ h => h) (fun _ h => h.elim)
            · exact (a5 i kv e p1 p2).mono hkp (fun _ h => h) (fun _ h => h.elim))
          refine ⟨_, _, _, ?_, k4, i1, i2⟩
          have hj' : es[j]? = some en := by simpa using hj
          have hst := shape_stays (P := P) w k3
          simp [Instr.mapUpdate, run_underlying hu', hget, hck, r1, hset, hj', hkey, hst]
    · rename_i sh kvs e0
      obtain ⟨kt, e, k1, k2, k3, k4⟩ := keyK_ok hk' hk
      have ho := hI.objs r
      rw [e0] at ho
      obtain ⟨t1, b, es, ck, a1, a2, a3, a4, a5, a6⟩ := ho
      have hl : (h r).live := by rw [e0]; trivial
      cases hm with
      | mref _ _ b' hu ht hp =>
        rw [a2] at hp; cases hp
        have hu' := hT.map k1
        have hget := run_getObj_map (P := P) w b es ck a3
        have hset : ∀ o', (setObj b o').run P w = .ok () (setBlock w b o') := fun o' => by simp [setObj, Sem.run, a3, setBlock]
        have hck := fun bb => shape_check hT k2 w bb k3
        obtain ⟨res, r1, r2⟩ := shape_find hT k2 w k3 es.toList a4.shape
        rcases r2 with ⟨rfl, hn⟩ | ⟨j, en, rfl, hj, hkey⟩
        · obtain ⟨m1, m2⟩ := mapOk_push a4 (x := vk) (v := x) (y := vx) k3 (fun a => a4.none hn a)
          obtain ⟨i1, i2⟩ := Inv.swap hI hl a1 a6 (.mapU sh (mput kvs vk (x))) a3 (.map (es.push { key := vk, val := vx, born := ck }) (ck + 1)) w ⟨rfl, rfl, rfl, rfl⟩ (by simp) (fun hg hkp hnew hoth => by
            obtain ⟨u1, u2, u3, u4⟩ := upd_same g r (g.ρ r) (g.ln r) (g.tk r) (g.own r) g.S
            have hus : ∀ i, used h i → used (hput h r (.mapU sh (mput kvs vk x))) i := fun i hi => used_hput (by simp) i hi
            refine ⟨u3.trans t1, b, _, _, u4.trans a1, u1.trans a2, hnew, m1, fun i kv e q1 q2 => ?_, a6⟩
            rcases m2 i kv e q1 q2 with ⟨p1, p2⟩ | ⟨p1, p2⟩
            · rw [p1, p2]; exact hx.mono hkp hus hg
            · exact (a5 i kv e p1 p2).mono hkp hus hg)
          refine ⟨_, _, _, ?_, k4, i1, i2⟩
          simp [Instr.mapUpdate, run_underlying hu', hget, hck, r1, hset]
        · obtain ⟨a, q1, q2⟩ := a4.some hj hkey
          obtain ⟨m1, m2⟩ := mapOk_modify a4 (x := vk) (v := x) (y := vx) q1
          obtain ⟨i1, i2⟩ := Inv.swap hI hl a1 a6 (.mapU sh (mput kvs vk (x))) a3 (.map (es.modify j fun e => { e with key := vk, val := vx }) ck) w ⟨rfl, rfl, rfl, rfl⟩ (by simp) (fun hg hkp hnew hoth => by
            obtain ⟨u1, u2, u3, u4⟩ := upd_same g r (g.ρ r) (g.ln r) (g.tk r) (g.own r) g.S
            have hus : ∀ i, used h i → used (hput h r (.mapU sh (mput kvs vk x))) i := fun i hi => used_hput (by simp) i hi
            refine ⟨u3.trans t1, b, _, _, u4.trans a1, u1.trans a2, hnew, m1, fun i kv e q1 q2 => ?_, a6⟩
            rcases m2 i kv e q1 q2 with ⟨p1, p2⟩ | ⟨p1, p2⟩
            · rw [p1, p2]; exact hx.mono hkp hus hg
            · exact (a5 i kv e p1 p2).mono hkp hus hg)
          refine ⟨_, _, _, ?_, k4, i1, i2⟩
          have hj' : es[j]? = some en := by simpa using hj
          have hst := shape_stays (P := P) w k3
          simp [Instr.mapUpdate, run_underlying hu', hget, hck, r1, hset, hj', hkey, hst]
    · exact hk.elim
  · exact hk.elim

theorem newIter_ok {d b : Nat} {es : Array MapEntry} {ck : Nat} {sh : Shape} {kvs : List (Value × AV)} (hd : h d = .free) (hS : g.S b 0) (hb : w.heap[b]? = some (.map es ck)) (hm : MapOk sh es ck kvs)
    (hv : ∀ (i : Nat) (kv : Value × AV) (e : MapEntry), kvs[i]? = some kv → es[i]? = some e → Rep g w NoU kv.2 e.val) :
    ∃ g', Inv w0 g0 h0 (hput h d (.iter kvs kvs none)) g' (w.alloc (.mapIter (some b) ck #[] ck)) ∧ Le h g w (hput h d (.iter kvs kvs none)) g' (w.alloc (.mapIter (some b) ck #[] ck)) ∧
      Rep g' (w.alloc (.mapIter (some b) ck #[] ck)) (used (hput h d (.iter kvs kvs none))) (.ref d 0) (.pointer (some ⟨w.heap.size, 0, none⟩)) := by
  obtain ⟨k1, k2⟩ := hI.newOwn hd (.iter kvs kvs none) (.mapIter (some b) ck #[] ck) (.pointer (some ⟨w.heap.size, 0, none⟩)) 0 false w ⟨rfl, rfl, rfl, rfl⟩ (by simp) (fun hg hk => by
    obtain ⟨u1, u2, u3, u4⟩ := upd_same g d (.pointer (some ⟨w.heap.size, 0, none⟩)) 0 false (some w.heap.size) g.S
    obtain ⟨c1, c2, c3⟩ := hk b 0 hS
    exact ⟨u3, w.heap.size, b, ck, #[], ck, es, ck, u4, u1, heap_new w _ rfl, c1, c3 es ck hb, ⟨sh, hm⟩, rfl, rfl, fun i kv e q1 q2 => (hv i kv e q1 q2).mono hk (fun _ h => h) (fun _ h => h.elim),
      ⟨nodup_of_map hm.2.2.2.1, fun _ h => h⟩, fun i kv e q1 q2 => by simp [List.mem_of_getElem? q1], trivial, fun o ho => by have := hI.slt _ _ ho; omega⟩)
  refine ⟨_, k1, k2, .ref _ d 0 w.heap.size (by unfold used; rw [hput_same]; simp) ?_ ?_⟩ <;> simp [Gh.upd]

theorem mapStill_ok {r b : Nat} {sh : Shape} {kvs : List (Value × AV)} {es : Array MapEntry} {ck : Nat} (e0 : h r = .map sh kvs) (a1 : g.own r = some b) (a2 : g.ρ r = .map (some b)) (a3 : w.heap[b]? = some (.map es ck)) (a4 : MapOk sh es ck kvs)
    (a5 : ∀ (i : Nat) (kv : Value × AV) (e : MapEntry), kvs[i]? = some kv → es[i]? = some e → Rep g w NoU kv.2 e.val) (t1 : g.tk r = false) :
    ∃ g', Inv w0 g0 h0 (hput h r (.rom sh kvs)) g' w ∧ Le h g w (hput h r (.rom sh kvs)) g' w ∧ g'.S b 0 := by
  have hl : (h r).live := by rw [e0]; trivial
  have hlt := (hI.loc r b hl a1).1
  obtain ⟨k1, k2⟩ := hI.upd r (.rom sh kvs) (g.ρ r) (g.ln r) (g.tk r) none (g.more b 1) w none ⟨rfl, rfl, rfl, Nat.le_refl _⟩ (fun _ _ _ => rfl) (fun b e => by cases e) (fun _ _ h => .inl h)
    (fun b' o hs => hs.elim .inl (fun hs => .inr ⟨by rw [hs.1]; exact hlt, .inr ⟨hl, by rw [hs.1]; exact a1⟩⟩)) (fun b o e => by cases e) (fun b hh _ => by cases hh) (by simp)
    (fun _ => ⟨rfl, Nat.le_refl _, fun _ => rfl, fun _ => rfl⟩) (fun hg hk => by
      obtain ⟨u1, u2, u3, u4⟩ := upd_same g r (g.ρ r) (g.ln r) (g.tk r) none (g.more b 1)
      exact ⟨u3.trans t1, b, u1.trans a2, .cmap _ sh kvs b es ck (.inr ⟨rfl, Nat.zero_lt_one⟩) a3 a4 (fun i kv e q1 q2 => (a5 i kv e q1 q2).mono hk (fun _ h => h) (fun _ h => h.elim))⟩)
  exact ⟨_, k1, k2, .inr ⟨rfl, Nat.zero_lt_one⟩⟩

theorem mapUStill_ok {r b : Nat} {sh : Shape} {kvs : List (Value × AV)} {es : Array MapEntry} {ck : Nat} (e0 : h r = .mapU sh kvs) (a1 : g.own r = some b) (a2 : g.ρ r = .map (some b)) (a3 : w.heap[b]? = some (.map es ck)) (a4 : MapOk sh es ck kvs)
    (a5 : ∀ (i : Nat) (kv : Value × AV) (e : MapEntry), kvs[i]? = some kv → es[i]? = some e → Rep g w (used h) kv.2 e.val) (t1 : g.tk r = false) :
    ∃ g', Inv w0 g0 h0 (hput h r (.rom sh (strM h kvs))) g' w ∧ Le h g w (hput h r (.rom sh (strM h kvs))) g' w ∧ g'.S b 0 := by
  have hl : (h r).live := by rw [e0]; trivial
  have hlt := (hI.loc r b hl a1).1
  obtain ⟨k1, k2⟩ := hI.upd r (.rom sh (strM h kvs)) (g.ρ r) (g.ln r) (g.tk r) none (g.more b 1) w none ⟨rfl, rfl, rfl, Nat.le_refl _⟩ (fun _ _ _ => rfl) (fun b e => by cases e) (fun _ _ h => .inl h)
    (fun b' o hs => hs.elim .inl (fun hs => .inr ⟨by rw [hs.1]; exact hlt, .inr ⟨hl, by rw [hs.1]; exact a1⟩⟩)) (fun b o e => by cases e) (fun b hh _ => by cases hh) (by simp)
    (fun _ => ⟨rfl, Nat.le_refl _, fun _ => rfl, fun _ => rfl⟩) (fun hg hk => by
      obtain ⟨u1, u2, u3, u4⟩ := upd_same g r (g.ρ r) (g.ln r) (g.tk r) none (g.more b 1)
      refine ⟨u3.trans t1, b, u1.trans a2, .cmap _ sh _ b es ck (.inr ⟨rfl, Nat.zero_lt_one⟩) a3 (mapOk_map _ a4) (fun i kv e q1 q2 => ?_)⟩
      unfold strM at q1
      rw [List.getElem?_map] at q1
      obtain ⟨p, q3, rfl⟩ := Option.map_eq_some_iff.1 q1
      exact ((a5 i p e q3 q2).str hI.objs).mono hk (fun _ h => h) (fun _ h => h.elim))
  exact ⟨_, k1, k2, .inr ⟨rfl, Nat.zero_lt_one⟩⟩

theorem rangeK_ok {T : Tab} (hT : TabOk P T) {ty kt e : Nat} (ht : (T ty).d = .map kt e) {d : Option Nat} {x : AV} {vx : Value} {K : HK} (hx : Rep g w (used h) x vx) (hk : rangeK d h x K) :
    Does P w0 g0 h0 h g w (Instr.range ty vx) K := by
  have hu := hT.map ht
  unfold rangeK at hk
  split at hk
  · exact hk.elim
  · rename_i d
    split at hk
    · rename_i hd
      have hrun : ∀ b es ck, w.heap[b]? = some (.map es ck) → (Instr.range ty (.map (some b))).run P w = .ok (.pointer (some ⟨w.heap.size, 0, none⟩)) (w.alloc (.mapIter (some b) ck #[] ck)) := fun b es ck hb => by
        simp [Instr.range, run_underlying hu, run_getObj_map (P := P) w b es ck hb]
      split at hk
      · cases hx with
        | cmap _ _ _ b es ck hS hb hm hv =>
          obtain ⟨g', k1, k2, k3⟩ := newIter_ok hI hd hS hb hm hv
          exact ⟨_, _, _, _, _, hrun _ _ _ hb, hk, k1, k2, k3⟩
      · rename_i r
        have ho := hI.objs r
        cases hx with
        | mref _ _ b hu' ht' hp =>
          split at hk
          · rename_i sh kvs e0
            rw [e0] at ho
            obtain ⟨_, b', a1, a2⟩ := ho
            rw [a1] at hp; cases hp
            cases a2 with
            | cmap _ _ _ _ es ck hS hb hm hv =>
              obtain ⟨g', k1, k2, k3⟩ := newIter_ok hI hd hS hb hm hv
              exact ⟨_, _, _, _, _, hrun _ _ _ hb, hk, k1, k2, k3⟩
          · rename_i sh kvs e0
            rw [e0] at ho
            obtain ⟨t1, b', es, ck, a1, a2, a3, a4, a5, a6⟩ := ho
            rw [a2] at hp; cases hp
            obtain ⟨g1, i1, i2, i3⟩ := mapStill_ok hI e0 a1 a2 a3 a4 a5 t1
            have hne : d ≠ r := fun e => by rw [e, e0] at hd; cases hd
            obtain ⟨g', k1, k2, k3⟩ := newIter_ok i1 (by rw [hput_ne _ _ _ _ hne]; exact hd) i3 a3 a4 (fun i kv e q1 q2 => (a5 i kv e q1 q2).mono i2.keeps (fun _ h => h) (fun _ h => h.elim))
            exact ⟨_, _, _, _, _, hrun _ _ _ a3, hk, k1, i2.trans k2, k3⟩
          · exact hk.elim
      · exact hk.elim
    · exact hk.elim

theorem nextK_ok {ty : TypeId} {x : AV} {vx : Value} {K : HK} (hx : Rep g w (used h) x vx) (hk : nextK h x K) : Does P w0 g0 h0 h g w (Instr.next vx false ty) K := by
  unfold nextK at hk
  split at hk
  · rename_i r
    split at hk
    · rename_i all rem cur e0
      have ho := hI.objs r
      rw [e0] at ho
      obtain ⟨t1, b, mb, since, seen, st, es, ck, a1, a2, a3, a4, a5, ⟨sh, a6⟩, a7, a8, a9, a10, a11, a12, a13⟩ := ho
      have hl : (h r).live := by rw [e0]; trivial
      cases hx with
      | ref _ _ _ b' hu ht hp =>
        rw [a2] at hp; cases hp
        have hlt : ∀ e ∈ es.toList, e.born < since := fun e he => by
          obtain ⟨i, hi⟩ := List.mem_iff_getElem?.1 he
          have := a6.2.2.2.2.1 i e (by simpa using hi)
          omega
        rcases run_next_at (P := P) w ty b mb since st seen es ck a3 a5 hlt (by omega) with ⟨q1, q2⟩ | ⟨e, q1, w1, q2, q3⟩
        · have hrem : rem = [] := by
            apply List.eq_nil_iff_forall_not_mem.2
            intro kv hkv
            obtain ⟨i, hi⟩ := List.mem_iff_getElem?.1 (a10.2 kv hkv)
            have hil : i < es.size := by rw [a6.1]; exact (List.getElem?_eq_some_iff.1 hi).1
            have hb := (a11 i kv es[i] hi (by simp [hil])).1 hkv
            have hm : es[i] ∈ leftOf es seen := by simp [leftOf, hb]
            have := Array.size_pos_of_mem hm
            omega
          exact ⟨_, w, g, _, h, q2, hk.1 hrem, hI, .refl _ _ _, .tup _ _ _ rfl (fun i av x h1 h2 => by
            match i, h1, h2 with
            | 0, h1, h2 => simp at h1 h2; subst h1; subst h2; exact .v _ _)⟩
        · have hq : e ∈ es ∧ e.born ∉ seen := by simpa [leftOf] using q1
          obtain ⟨i, hi⟩ := Array.mem_iff_getElem?.1 hq.1
          have hil : i < all.length := by rw [← a6.1]; exact (Array.getElem?_eq_some_iff.1 hi).1
          have hai : all[i]? = some all[i] := List.getElem?_eq_getElem hil
          have hin := (a11 i _ e hai hi).2 hq.2
          obtain ⟨s1, s2, hs⟩ := List.append_of_mem hin
          have hperm : rem.Perm (all[i] :: (s1 ++ s2)) := by rw [hs]; exact List.perm_middle
          have hnd : (all[i] :: (s1 ++ s2)).Nodup := hperm.nodup_iff.1 a10.1
          have hr := a9 i _ e hai hi
          have hkey := a6.2.1 i _ e hai hi
          have hw1 : w1.heap = w.heap ∧ w1.os = w.os ∧ w1.tape = w.tape ∧ w1.output = w.output := by rcases q2 with rfl | rfl <;> exact ⟨rfl, rfl, rfl, rfl⟩
          obtain ⟨k1, k2⟩ := Inv.swap hI hl a1 a13 (.iter all (s1 ++ s2) (some all[i])) a3 (.mapIter (some mb) since (seen.push e.born) ck) w1 hw1 (by simp) (fun hg hkp hnew hoth => by
            obtain ⟨u1, u2, u3, u4⟩ := upd_same g r (g.ρ r) (g.ln r) (g.tk r) (g.own r) g.S
            obtain ⟨c1, c2, c3⟩ := hkp mb 0 a4
            refine ⟨u3.trans t1, b, mb, since, _, ck, es, ck, u4.trans a1, u1.trans a2, hnew, c1, c3 _ _ a5, ⟨sh, a6⟩, a7, rfl, fun i kv e p q => (a9 i kv e p q).mono hkp (fun _ h => h) (fun _ h => h.elim),
              ⟨(List.nodup_cons.1 hnd).2, fun kv hkv => a10.2 kv (hperm.mem_iff.2 (List.mem_cons_of_mem _ hkv))⟩, fun j kv e' p q => ?_, ⟨i, e, hai, hi, by simp⟩, a13⟩
            rw [Array.mem_push]
            have h1 := a11 j kv e' p q
            rw [hperm.mem_iff, List.mem_cons] at h1
            constructor
            · intro hkv hc
              rcases hc with hc | hc
              · exact (h1.1 (.inr hkv)) hc
              · obtain rfl := a6.2.2.2.2.2 j i e' e q hi hc
                rw [hai] at p; cases p
                exact (List.nodup_cons.1 hnd).1 hkv
            · intro hc
              rcases h1.2 (fun hm => hc (.inl hm)) with e2 | e2
              · have : j = i := nodup_idx (f := fun x => x) (l := all) (by simpa using nodup_of_map a6.2.2.2.1) p hai e2
                subst this
                rw [hi] at q; cases q
                exact absurd (.inr rfl) hc
              · exact e2)
          refine ⟨_, _, _, _, _, q3, hk.2 all[i] (s1 ++ s2) hperm, k1, k2, .tup _ _ _ rfl (fun j av x h1 h2 => ?_)⟩
          match j, h1, h2 with
          | 0, h1, h2 => simp at h1 h2; subst h1; subst h2; exact .v _ _
          | 1, h1, h2 => simp at h1 h2; subst h1; subst h2; rw [hkey]; exact .v _ _
          | 2, h1, h2 => simp at h1 h2; subst h1; subst h2; exact (hr.up _).le k2
    · exact hk.elim
  · exact hk.elim
end
end Go.Eng
