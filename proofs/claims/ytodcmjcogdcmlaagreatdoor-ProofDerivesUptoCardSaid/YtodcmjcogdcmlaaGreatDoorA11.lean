/- Lemmas for the claims of this seat, without a condition: part 11 (EngZC, EngZD, EngZE, EngZF). -/
import Derived.Test.YtodcmjcogdcmlaaGreatDoorA10
import Derived.Deep.LoopGhost
namespace Go.Eng

section
variable {P : Program} {N : Nat} {w0 : World} {g0 : Gh} {h0 h : Nat → HO} {st : St} {g : Gh} {a : Act} {w : World}

theorem frz1_ok (hI : Inv w0 g0 h0 h g w) (r : Nat) : ∃ g', Inv w0 g0 h0 (frz1 h r) g' w ∧ Le h g w (frz1 h r) g' w := by
 unfold frz1
 split
 ·rename_i cs e0
  have ho := hI.objs r
  rw [e0] at ho
  obtain ⟨t1, b, E, vs, a1, a2, a3, a4, a5⟩ := ho
  have hl : (h r).live := by rw [e0]; trivial
  have hlt := (hI.loc r b hl a1).1
  have hs := strL_ok hI a4
  obtain ⟨k1, k2⟩ := hI.upd r (.ro (cs.map (str h))) (g.ρ r) (g.ln r) (g.tk r) none (g.more b cs.length) w none ⟨rfl, rfl, rfl, Nat.le_refl _⟩ (fun _ _ _ => rfl) (fun b e => by cases e) (fun _ _ h => .inl h)
   (fun b' o hs => hs.elim .inl (fun hs => .inr ⟨by rw [hs.1]; exact hlt, .inr ⟨hl, by rw [hs.1]; exact a1⟩⟩)) (fun b o e => by cases e) (fun b hh _ => by cases hh) (by simp)
   (fun _ => ⟨rfl, Nat.le_refl _, fun _ => rfl, fun _ => rfl⟩) (fun hg hk => by
    obtain ⟨u1, u2, u3, u4⟩ := upd_same g r (g.ρ r) (g.ln r) (g.tk r) none (g.more b cs.length)
    exact ⟨u3.trans t1, b, u1.trans a2, Rep.cptr_row a3 (hs.mono hk (fun _ h => h) (fun _ h => h.elim)) (fun o ho => .inr ⟨rfl, by simpa using ho⟩)⟩)
  exact ⟨_, k1, k2⟩
 ·rename_i sh kvs e0
  have ho := hI.objs r
  rw [e0] at ho
  obtain ⟨t1, b, es, ck, a1, a2, a3, a4, a5, a6⟩ := ho
  obtain ⟨g1, i1, i2, i3⟩ := mapStill_ok hI e0 a1 a2 a3 a4 a5 t1
  exact ⟨g1, i1, i2⟩
 ·rename_i sh kvs e0
  have ho := hI.objs r
  rw [e0] at ho
  obtain ⟨t1, b, es, ck, a1, a2, a3, a4, a5, a6⟩ := ho
  obtain ⟨g1, i1, i2, i3⟩ := mapUStill_ok hI e0 a1 a2 a3 a4 a5 t1
  exact ⟨g1, i1, i2⟩
 ·exact ⟨g, hI, .refl _ _ _⟩
theorem frzs_ok : ∀ (l : List Nat) {h : Nat → HO} {g : Gh}, Inv w0 g0 h0 h g w → ∃ g', Inv w0 g0 h0 (frzs h l) g' w ∧ Le h g w (frzs h l) g' w
 | [], _, g, hI => ⟨g, hI, .refl _ _ _⟩
 | r :: l, _, _, hI =>
  let ⟨_, i1, i2⟩ := frz1_ok hI r
  let ⟨g2, j1, j2⟩ := frzs_ok l i1
  ⟨g2, j1, i2.trans j2⟩
theorem overA_get : ∀ (cs : List AV) (k : Nat) (v : AV) (i : Nat) (av : AV), (overA cs k v)[i]? = some av → (i = k ∧ av = v) ∨ cs[i]? = some av
 | [], _, _, _, _, h => by simp [overA] at h
 | c :: cs, 0, v, i, av, h => by
  unfold overA at h
  cases i with
  | zero => simp only [List.getElem?_cons_zero, Option.some.injEq] at h; exact .inl ⟨rfl, h.symm⟩
  | succ i => exact .inr h
 | c :: cs, k + 1, v, i, av, h => by
  unfold overA at h
  cases i with
  | zero => exact .inr h
  | succ i =>
   rcases overA_get cs k v i av (by simpa using h) with ⟨e1, e2⟩ | e
   ·exact .inl ⟨by omega, e2⟩
   ·exact .inr (by simpa using e)
theorem overA_len : ∀ (cs : List AV) (k : Nat) (v : AV), (overA cs k v).length = cs.length
 | [], _, _ => rfl
 | _ :: _, 0, _ => rfl
 | _ :: cs, k + 1, v => by unfold overA; simp [overA_len cs k v]
theorem nthA_get : ∀ (cs : List AV) (k : Nat) (x : Value), nthA cs k = .v x → cs[k]? = some (.v x)
 | [], _, _, h => by simp [nthA] at h
 | _ :: _, 0, _, h => by unfold nthA at h; simp [h]
 | _ :: cs, k + 1, x, h => by unfold nthA at h; simpa using nthA_get cs k x h
theorem tz1_ok (hI : Inv w0 g0 h0 h g w) (r k j sz : Nat) : ∃ g', Inv w0 g0 h0 (tz1 h r k j sz) g' w ∧ Le h g w (tz1 h r k j sz) g' w := by
 have same : ∃ g', Inv w0 g0 h0 h g' w ∧ Le h g w h g' w := ⟨g, hI, .refl _ _ _⟩
 unfold tz1
 split
 ·rename_i cs e0
  split
  ·rename_i e1
   split
   ·rename_i hj
    have hne : r ≠ j := fun e => by rw [e, hj] at e0; cases e0
    obtain ⟨g1, i1, i2, i3⟩ := newFull_ok hI (sz := sz) (es := []) (a := none) hj (by simp) rfl (.snil _ _ _)
    have ho := i1.objs r
    rw [hput_ne _ _ _ _ hne, e0] at ho
    obtain ⟨t1, b, E, vs, a1, a2, a3, a4, a5⟩ := ho
    have hl : (hput h j (.tok sz 0) r).live := by rw [hput_ne _ _ _ _ hne, e0]; trivial
    have hlt := (i1.loc r b hl a1).1
    have hk0 := nthA_get cs k _ e1
    obtain ⟨k1, k2⟩ := i1.upd r (.cells (overA cs k (.slice (.id j sz) []))) (g1.ρ r) (g1.ln r) (g1.tk r) (g1.own r) g1.S w none ⟨rfl, rfl, rfl, Nat.le_refl _⟩ (fun _ _ _ => rfl) (fun b e => by cases e) (fun _ _ h => h) (fun _ _ h => .inl h)
     (fun b o e => by cases e) (fun b' _ e => ⟨(i1.loc r b' hl e).1, .inl ⟨hl, e⟩⟩) (by simp) (fun _ => ⟨rfl, Nat.le_refl _, fun _ => rfl, fun _ => rfl⟩) (fun hg hk => by
      obtain ⟨u1, u2, u3, u4⟩ := upd_same g1 r (g1.ρ r) (g1.ln r) (g1.tk r) (g1.own r) g1.S
      have hus : ∀ i, used (hput h j (.tok sz 0)) i → used (hput (hput h j (.tok sz 0)) r (.cells (overA cs k (.slice (.id j sz) [])))) i := fun i hi => used_hput (by simp) i hi
      refine ⟨u3.trans t1, b, E, vs, u4.trans a1, u1.trans a2, a3, ⟨by rw [overA_len]; exact a4.1, a4.2.1, fun i av x q1 q2 => ?_⟩, a5⟩
      rcases overA_get cs k _ i av q1 with ⟨rfl, rfl⟩ | q
      ·have := (a4.2.2 i _ x hk0 q2).v_eq
       subst this
       exact i3.mono hk hus hg
      ·exact (a4.2.2 i av x q q2).mono hk hus hg)
    exact ⟨_, k1, i2.trans k2⟩
   ·exact same
  ·exact same
 ·exact same
theorem preFz_ok {cx : Cx} {o : Oper} (hS : SR N w0 g0 h0 st g a w) : ∃ g', SR N w0 g0 h0 (preFz cx o st) g' a w := by
 unfold preFz
 split
 ·exact ⟨g, hS⟩
 ·rename_i d _
  split
  ·obtain ⟨g', h1, h2⟩ := tz1_ok hS.inv _ _ _ _
   exact ⟨g', h1, hS.le.trans h2, hS.dfs, hS.size, fun i => (hS.slots i).le h2⟩
  split
  ·exact ⟨g, hS⟩
  ·obtain ⟨g', h1, h2⟩ := frzs_ok (asgL cx.pl.fz d) hS.inv
   exact ⟨g', h1, hS.le.trans h2, hS.dfs, hS.size, fun i => (hS.slots i).le h2⟩

theorem nthA_msl : ∀ (cs : List AV) (k : Nat) (r n : Nat), nthA cs k = .msl r n → cs[k]? = some (.msl r n)
 | [], _, _, _, h => by simp [nthA] at h
 | _ :: _, 0, _, _, h => by unfold nthA at h; simp [h]
 | _ :: cs, k + 1, r, n, h => by unfold nthA at h; simpa using nthA_msl cs k r n h
theorem arr_tok (hI : Inv w0 g0 h0 h g w) {r sz : Nat} {es : List (List AV)} (hr : h r = .arr sz es) :
  ∃ g', Inv w0 g0 h0 (hput h r (.tok sz es.length)) g' w ∧ Le h g w (hput h r (.tok sz es.length)) g' w ∧ Rep g' w (used (hput h r (.tok sz es.length))) (.slice (.id r sz) es) (g.ρ r) ∧ g.ln r = es.length := by
 have ho := hI.objs r
 rw [hr] at ho
 obtain ⟨t1, l1, al, a2⟩ := ho
 have hl : (h r).live := by rw [hr]; trivial
 rcases a2 with ⟨b1, b2, b3⟩ | ⟨b, cap, E, vs, b1, b2, b3, b4, b5, b6, b7⟩
 ·subst b1
  obtain ⟨k1, k2⟩ := hI.upd r (.tok sz 0) (g.ρ r) (g.ln r) (g.tk r) (g.own r) g.S w none ⟨rfl, rfl, rfl, Nat.le_refl _⟩ (fun _ _ _ => rfl) (fun b e => by cases e) (fun _ _ h => h) (fun _ _ h => .inl h)
   (fun b o e => by cases e) (fun b' _ e => ⟨(hI.loc r b' hl e).1, .inl ⟨hl, e⟩⟩) (by simp) (fun _ => ⟨rfl, Nat.le_refl _, fun _ => rfl, fun _ => rfl⟩) (fun hg hk => by
    obtain ⟨u1, u2, u3, u4⟩ := upd_same g r (g.ρ r) (g.ln r) (g.tk r) (g.own r) g.S
    exact ⟨u3.trans t1, u2.trans l1, none, 0, u1.trans b2, .inl ⟨rfl, u4.trans b3⟩⟩)
  refine ⟨_, k1, k2, ?_, l1⟩
  rw [b2]
  exact .tok _ r sz [] _ (.snil _ _ _) (by simp) (by unfold used; rw [List.length_nil, hput_same]; simp) (by simp [Gh.upd, t1]) (by simp) (fun _ => by simp [Gh.upd])
 ·have hlt := (hI.loc r b hl b2).1
  obtain ⟨k1, k2⟩ := hI.upd r (.tok sz es.length) (g.ρ r) (g.ln r) (g.tk r) (g.own r) (g.more b (es.length * sz)) w none ⟨rfl, rfl, rfl, Nat.le_refl _⟩ (fun _ _ _ => rfl) (fun b e => by cases e) (fun _ _ h => .inl h)
   (fun b' o hs => hs.elim .inl (fun hs => .inr ⟨by rw [hs.1]; exact hlt, .inr ⟨hl, by rw [hs.1]; exact b2⟩⟩)) (fun b o e => by cases e) (fun b' _ e => ⟨(hI.loc r b' hl e).1, .inl ⟨hl, e⟩⟩) (by simp)
   (fun _ => ⟨rfl, Nat.le_refl _, fun _ => rfl, fun _ => rfl⟩) (fun hg hk => by
    obtain ⟨u1, u2, u3, u4⟩ := upd_same g r (g.ρ r) (g.ln r) (g.tk r) (g.own r) (g.more b (es.length * sz))
    exact ⟨u3.trans t1, u2.trans l1, _, cap, u1.trans b1, .inr ⟨b3, b, E, vs, 0, rfl, u4.trans b2, b4, by rw [b5, Nat.zero_add], fun o ho => by
     rcases ho with ho | ⟨_, ho⟩
     ·exact absurd ho (b7 o)
     ·omega⟩⟩)
  refine ⟨_, k1, k2, ?_, l1⟩
  rw [b1]
  exact .tok _ r sz es _ (Rep.slice_row b4 al b3 (b6.mono k2.keeps (fun _ h => h) (fun _ h => h.elim)) (fun o ho => .inr ⟨rfl, ho⟩)) al (by unfold used; rw [hput_same]; simp) (by simp [Gh.upd, t1]) (by simp [Gh.upd, l1]) (fun _ => by simp [Gh.upd])
theorem Inv.move {w0 : World} {g0 : Gh} {h0 h : Nat → HO} {g : Gh} {w : World} (hI : Inv w0 g0 h0 h g w) (r r2 : Nat) (hne : r2 ≠ r) (hf : h r2 = .free) (hl : (h r).live) {b : Nat} (ho : g.own r = some b) (o' : HO) (x : Value) (n : Nat) (t : Bool) (hn : o' ≠ .free)
  (hobj : Keeps g w (g.upd r2 x n t (some b) g.S) w → ObjRep (g.upd r2 x n t (some b) g.S) w (used (hput (hput h r .dead) r2 o')) r2 o') :
  Inv w0 g0 h0 (hput (hput h r .dead) r2 o') (g.upd r2 x n t (some b) g.S) w ∧ Le h g w (hput (hput h r .dead) r2 o') (g.upd r2 x n t (some b) g.S) w := by
 have hGh : GhLe g (g.upd r2 x n t (some b) g.S) (used h) := by
  intro i hi
  have e : i ≠ r2 := fun e => hi (by rw [e]; exact hf)
  refine ⟨by simp [Gh.upd, e], by simp [Gh.upd, e], fun _ => by simp [Gh.upd, e], fun _ => by simp [Gh.upd, e]⟩
 have hK : Keeps g w (g.upd r2 x n t (some b) g.S) w := fun b o hb => ⟨hb, rfl, fun _ _ h => h⟩
 have hus : ∀ i, used h i → used (hput (hput h r .dead) r2 o') i := fun i hi => used_hput hn i (used_hput (by simp) i hi)
 have key : ∀ i, i ≠ r2 → (hput (hput h r .dead) r2 o' i).live → i ≠ r ∧ (h i).live := fun i h2 hl => by
  rw [hput_ne _ _ _ _ h2] at hl
  by_cases e : i = r
  ·subst e; rw [hput_same] at hl; exact hl.elim
  ·rw [hput_ne _ _ _ _ e] at hl; exact ⟨e, hl⟩
 have own : ∀ i, i ≠ r2 → (g.upd r2 x n t (some b) g.S).own i = g.own i := fun i e => by simp [Gh.upd, e]
 have own2 : (g.upd r2 x n t (some b) g.S).own r2 = some b := by simp [Gh.upd]
 refine ⟨⟨hI.os, hI.tape, hI.output, hI.size, hI.frame, hI.slt, fun i => ?_, fun i j c hi hj ei ej => ?_, fun i c hi ei => ?_, hI.sg, hI.glob.keep hK⟩, hGh, hus, hK⟩
 ·by_cases e : i = r2
  ·subst e; rw [hput_same]; exact hobj hK
  ·rw [hput_ne _ _ _ _ e]
   by_cases e1 : i = r
   ·subst e1; rw [hput_same]; trivial
   ·rw [hput_ne _ _ _ _ e1]
    exact (hI.objs i).same hK hus hGh (by simp [Gh.upd, e]) (by simp [Gh.upd, e]) (by simp [Gh.upd, e]) (by simp [Gh.upd, e]) (fun b hl hb => ⟨rfl, fun k hk => hk⟩)
 ·by_cases e1 : i = r2 <;> by_cases e2 : j = r2
  ·exact e1.trans e2.symm
  ·subst e1
   rw [own2] at ei; rw [own j e2] at ej
   cases ei
   obtain ⟨a1, a2⟩ := key j e2 hj
   exact absurd (hI.inj j r _ a2 hl ej ho) a1
  ·subst e2
   rw [own2] at ej; rw [own i e1] at ei
   cases ej
   obtain ⟨a1, a2⟩ := key i e1 hi
   exact absurd (hI.inj i r _ a2 hl ei ho) a1
  ·rw [own i e1] at ei; rw [own j e2] at ej
   exact hI.inj i j c (key i e1 hi).2 (key j e2 hj).2 ei ej
 ·by_cases e1 : i = r2
  ·subst e1
   rw [own2] at ei; cases ei
   exact hI.loc r _ hl ho
  ·rw [own i e1] at ei
   exact hI.loc i c (key i e1 hi).2 ei
theorem asK_ok (hS : SR N w0 g0 h0 st g a w) {s k : Nat} {K : St → Prop} (hk : asK st s k K) : ∃ st' g', SR N w0 g0 h0 st' g' a w ∧ K st' := by
 have same : K st → ∃ st' g', SR N w0 g0 h0 st' g' a w ∧ K st' := fun hk => ⟨st, g, hS, hk⟩
 unfold asK at hk
 split at hk
 ·rename_i r n ht
  have hsl := hS.slots s
  rw [ht] at hsl
  split at hk
  ·rename_i sz es hr
   have ho := hS.inv.objs r
   rw [hr] at ho
   obtain ⟨t1, l1, al, a2⟩ := ho
   have hl : (st.h r).live := by rw [hr]; trivial
   have hval : n = es.length → a.tmps.getD s undef = g.ρ r := fun hn => by
    generalize a.tmps.getD s undef = x at hsl
    cases hsl with
    | msl _ r n a cap hu ht hn' ha hx => exact hx (hn.trans l1.symm)
   have fin : ∀ (h' : Nat → HO) (v : AV) (g' : Gh), Inv w0 g0 h0 h' g' w → Le st.h g w h' g' w → Rep g' w (used h') v (a.tmps.getD s undef) → SR N w0 g0 h0 ⟨tput st.t s v, h'⟩ g' a w := fun h' v g' i1 i2 i3 => by
    refine ⟨i1, hS.le.trans i2, hS.dfs, hS.size, fun i => ?_⟩
    show Rep g' w (used h') (tput st.t s v i) _
    by_cases e : i = s
    ·subst e
     have : tput st.t i v i = v := by unfold tput; simp
     rw [this]; exact i3
    ·have : tput st.t s v i = st.t i := by unfold tput; simp [beq_ne e]
     rw [this]; exact (hS.slots i).le i2
   split at hk
   ·obtain ⟨hn, hk⟩ := hk
    obtain ⟨g1, i1, i2, i3, i4⟩ := arr_tok hS.inv hr
    obtain ⟨k1, k2⟩ := i1.upd r .dead (g1.ρ r) (g1.ln r) (g1.tk r) (g1.own r) g1.S w none ⟨rfl, rfl, rfl, Nat.le_refl _⟩ (fun _ _ _ => rfl) (fun b e => by cases e) (fun _ _ h => h) (fun _ _ h => .inl h) (fun b o e => by cases e) (fun b hh _ => by cases hh) (by simp)
     (fun _ => ⟨rfl, Nat.le_refl _, fun _ => rfl, fun _ => rfl⟩) (fun _ _ => trivial)
    exact ⟨_, _, fin _ _ _ k1 (i2.trans k2) (by rw [hval hn]; exact (i3.slice_none.up _).le k2), hk⟩
   ·rename_i k
    split at hk
    ·exact same hk
    ·rename_i hb
     have hne : k + 1 ≠ r := fun e => by rw [e] at hb; exact absurd (Nat.beq_refl r) (by rw [hb]; decide)
     split at hk
     ·rename_i hf
      obtain ⟨hn, hk⟩ := hk
      rcases a2 with ⟨b1, b2, b3⟩ | ⟨b, cap, E, vs, b1, b2, b3, b4, b5, b6, b7⟩
      ·subst b1
       have hv := hval hn
       obtain ⟨k1, k2⟩ := hS.inv.upd r .dead (g.ρ r) (g.ln r) (g.tk r) (g.own r) g.S w none ⟨rfl, rfl, rfl, Nat.le_refl _⟩ (fun _ _ _ => rfl) (fun b e => by cases e) (fun _ _ h => h) (fun _ _ h => .inl h) (fun b o e => by cases e) (fun b hh _ => by cases hh) (by simp)
        (fun _ => ⟨rfl, Nat.le_refl _, fun _ => rfl, fun _ => rfl⟩) (fun _ _ => trivial)
       have hf1 : hput st.h r .dead (k + 1) = .free := by rw [hput_ne _ _ _ _ hne]; exact hf
       obtain ⟨m1, m2⟩ := k1.upd (k + 1) (.arr sz []) (.slice none 0 0) 0 true none (g.upd r (g.ρ r) (g.ln r) (g.tk r) (g.own r) g.S).S w none ⟨rfl, rfl, rfl, Nat.le_refl _⟩ (fun _ _ _ => rfl) (fun b e => by cases e) (fun _ _ h => h) (fun _ _ h => .inl h) (fun b o e => by cases e) (fun b _ e => by cases e) (by simp)
        (fun hu => absurd hf1 hu) (fun _ _ => by
         obtain ⟨u1, u2, u3, u4⟩ := upd_same (g.upd r (g.ρ r) (g.ln r) (g.tk r) (g.own r) g.S) (k + 1) (.slice none 0 0) 0 true none (g.upd r (g.ρ r) (g.ln r) (g.tk r) (g.own r) g.S).S
         exact ⟨u3, u2, by simp, .inl ⟨rfl, u1, u4⟩⟩)
       refine ⟨_, _, fin _ _ _ m1 (k2.trans m2) ?_, hk⟩
       rw [hv, b2, hn]
       exact .msl _ (k + 1) 0 none 0 (by unfold used; rw [hput_same]; simp) (by simp [Gh.upd]) (Nat.zero_le _) (.inl rfl) (fun _ => by simp [Gh.upd])
      ·have hv := hval hn
       obtain ⟨m1, m2⟩ := hS.inv.move r (k + 1) hne hf hl b2 (.arr sz es) (g.ρ r) es.length true (by simp) (fun hkp => by
        obtain ⟨u1, u2, u3, u4⟩ := upd_same g (k + 1) (g.ρ r) es.length true (some b) g.S
        exact ⟨u3, u2, al, .inr ⟨b, cap, E, vs, u1.trans b1, u4, b3, b4, b5, b6.mono hkp (fun _ h => h) (fun _ h => h.elim), b7⟩⟩)
       refine ⟨_, _, fin _ _ _ m1 m2 ?_, hk⟩
       rw [hv, b1, hn]
       exact .msl _ (k + 1) es.length _ cap (by unfold used; rw [hput_same]; simp) (by simp [Gh.upd]) (by simp [Gh.upd]) (.inr ⟨b, rfl⟩) (fun _ => by simp [Gh.upd])
     ·exact hk.elim
  ·exact same hk
 ·exact same hk
theorem azK_ok (hS : SR N w0 g0 h0 st g a w) {o k : Nat} {K : (Nat → HO) → Prop} (hk : azK st.h o k K) : ∃ h' g', SR N w0 g0 h0 ⟨st.t, h'⟩ g' a w ∧ K h' := by
 have same : K st.h → ∃ h' g', SR N w0 g0 h0 ⟨st.t, h'⟩ g' a w ∧ K h' := fun hk => ⟨st.h, g, hS, hk⟩
 unfold azK at hk
 split at hk
 ·rename_i cs e0
  split at hk
  ·rename_i r n e1
   split at hk
   ·rename_i sz es e2
    obtain ⟨rfl, hk⟩ := hk
    have hne : o ≠ r := fun e => by rw [e, e2] at e0; cases e0
    obtain ⟨g1, i1, i2, i3, i4⟩ := arr_tok hS.inv e2
    have ho := i1.objs o
    rw [hput_ne _ _ _ _ hne, e0] at ho
    obtain ⟨t1, b, E, vs, a1, a2, a3, a4, a5⟩ := ho
    have hl : (hput st.h r (.tok sz es.length) o).live := by rw [hput_ne _ _ _ _ hne, e0]; trivial
    have hk0 := nthA_msl cs k _ _ e1
    have hold := hS.inv.objs o
    rw [e0] at hold
    obtain ⟨_, b', E', vs', a1', a2', a3', a4', _⟩ := hold
    obtain ⟨k1, k2⟩ := i1.upd o (.cells (overA cs k (.slice (.id r sz) es))) (g1.ρ o) (g1.ln o) (g1.tk o) (g1.own o) g1.S w none ⟨rfl, rfl, rfl, Nat.le_refl _⟩ (fun _ _ _ => rfl) (fun b e => by cases e) (fun _ _ h => h) (fun _ _ h => .inl h)
     (fun b o e => by cases e) (fun b' _ e => ⟨(i1.loc o b' hl e).1, .inl ⟨hl, e⟩⟩) (by simp) (fun _ => ⟨rfl, Nat.le_refl _, fun _ => rfl, fun _ => rfl⟩) (fun hg hkp => by
      obtain ⟨u1, u2, u3, u4⟩ := upd_same g1 o (g1.ρ o) (g1.ln o) (g1.tk o) (g1.own o) g1.S
      have hus : ∀ i, used (hput st.h r (.tok sz es.length)) i → used (hput (hput st.h r (.tok sz es.length)) o (.cells (overA cs k (.slice (.id r sz) es)))) i := fun i hi => used_hput (by simp) i hi
      refine ⟨u3.trans t1, b, E, vs, u4.trans a1, u1.trans a2, a3, ⟨by rw [overA_len]; exact a4.1, a4.2.1, fun i av x q1 q2 => ?_⟩, a5⟩
      rcases overA_get cs k _ i av q1 with ⟨rfl, rfl⟩ | q
      ·have hx := a4.2.2 i _ x hk0 q2
       have hx0 : x = g.ρ r := by
        have hg1 := i2.gh o (by unfold used; rw [e0]; simp)
        have hvs : vs = vs' := by
         have e3 : g1.ρ o = g.ρ o := hg1.2.2.1 (by
          have := (hS.inv.objs o); rw [e0] at this; exact this.1)
         rw [a2, a2'] at e3
         cases e3
         rw [a3] at a3'; cases a3'; rfl
        subst hvs
        have := a4'.2.2 i _ x hk0 q2
        cases this with
        | msl _ _ _ _ _ _ _ _ _ hz => exact hz i4.symm
       rw [hx0]
       exact i3.mono hkp hus hg
      ·exact (a4.2.2 i av x q q2).mono hkp hus hg)
    exact ⟨_, _, ⟨k1, hS.le.trans (i2.trans k2), hS.dfs, hS.size, fun i => ((hS.slots i).le i2).le k2⟩, hk⟩
   ·exact same hk
  ·exact same hk
 ·exact same hk
theorem akK_ok {cx : Cx} {o : Oper} {K : St → Prop} (hS : SR N w0 g0 h0 st g a w) (hk : akK cx o st K) : ∃ st' g', SR N w0 g0 h0 st' g' a w ∧ K st' := by
 have same : K st → ∃ st' g', SR N w0 g0 h0 st' g' a w ∧ K st' := fun hk => ⟨st, g, hS, hk⟩
 unfold akK at hk
 split at hk
 ·exact same hk
 ·split at hk
  ·exact same hk
  ·rename_i s _
   split at hk
   ·rename_i r n ht
    split at hk
    ·rename_i sz es hr
     obtain ⟨hn, hk⟩ := hk
     subst hn
     have hI := hS.inv
     have ho := hI.objs r
     rw [hr] at ho
     obtain ⟨t1, l1, al, a2⟩ := ho
     have hl : (st.h r).live := by rw [hr]; trivial
     have hsl := hS.slots s
     rw [ht] at hsl
     have hval : a.tmps.getD s undef = g.ρ r := by
      generalize a.tmps.getD s undef = x at hsl
      cases hsl with
      | msl _ r n a cap hu ht hn ha hx => exact hx l1.symm
     have fin : ∀ g', Inv w0 g0 h0 (hput st.h r (.tok sz es.length)) g' w → Le st.h g w (hput st.h r (.tok sz es.length)) g' w → Rep g' w (used (hput st.h r (.tok sz es.length))) (.slice (.id r sz) es) (g.ρ r) →
       ∃ st' g', SR N w0 g0 h0 st' g' a w ∧ K st' := fun g' i1 i2 i3 => by
      refine ⟨_, g', ⟨i1, hS.le.trans i2, hS.dfs, hS.size, fun i => ?_⟩, hk⟩
      show Rep g' w (used (hput st.h r (.tok sz es.length))) (tput st.t s (.slice (.id r sz) es) i) _
      by_cases e : i = s
      ·subst e
       have : tput st.t i (.slice (.id r sz) es) i = .slice (.id r sz) es := by unfold tput; simp
       rw [this, hval]; exact i3
      ·have : tput st.t s (.slice (.id r sz) es) i = st.t i := by unfold tput; simp [beq_ne e]
       rw [this]; exact (hS.slots i).le i2
     rcases a2 with ⟨b1, b2, b3⟩ | ⟨b, cap, E, vs, b1, b2, b3, b4, b5, b6, b7⟩
     ·subst b1
      obtain ⟨k1, k2⟩ := hI.upd r (.tok sz 0) (g.ρ r) (g.ln r) (g.tk r) (g.own r) g.S w none ⟨rfl, rfl, rfl, Nat.le_refl _⟩ (fun _ _ _ => rfl) (fun b e => by cases e) (fun _ _ h => h) (fun _ _ h => .inl h)
       (fun b o e => by cases e) (fun b' _ e => ⟨(hI.loc r b' hl e).1, .inl ⟨hl, e⟩⟩) (by simp) (fun _ => ⟨rfl, Nat.le_refl _, fun _ => rfl, fun _ => rfl⟩) (fun hg hk => by
        obtain ⟨u1, u2, u3, u4⟩ := upd_same g r (g.ρ r) (g.ln r) (g.tk r) (g.own r) g.S
        exact ⟨u3.trans t1, u2.trans l1, none, 0, u1.trans b2, .inl ⟨rfl, u4.trans b3⟩⟩)
      refine fin _ k1 k2 ?_
      rw [b2]
      exact .tok _ r sz [] _ (.snil _ _ _) (by simp) (by unfold used; rw [hput_same]; simp) (by simp [Gh.upd, t1]) (by simp) (fun _ => by simp [Gh.upd])
     ·have hlt := (hI.loc r b hl b2).1
      obtain ⟨k1, k2⟩ := hI.upd r (.tok sz es.length) (g.ρ r) (g.ln r) (g.tk r) (g.own r) (g.more b (es.length * sz)) w none ⟨rfl, rfl, rfl, Nat.le_refl _⟩ (fun _ _ _ => rfl) (fun b e => by cases e) (fun _ _ h => .inl h)
       (fun b' o hs => hs.elim .inl (fun hs => .inr ⟨by rw [hs.1]; exact hlt, .inr ⟨hl, by rw [hs.1]; exact b2⟩⟩)) (fun b o e => by cases e) (fun b' _ e => ⟨(hI.loc r b' hl e).1, .inl ⟨hl, e⟩⟩) (by simp)
       (fun _ => ⟨rfl, Nat.le_refl _, fun _ => rfl, fun _ => rfl⟩) (fun hg hk => by
        obtain ⟨u1, u2, u3, u4⟩ := upd_same g r (g.ρ r) (g.ln r) (g.tk r) (g.own r) (g.more b (es.length * sz))
        exact ⟨u3.trans t1, u2.trans l1, _, cap, u1.trans b1, .inr ⟨b3, b, E, vs, 0, rfl, u4.trans b2, b4, by rw [b5, Nat.zero_add], fun o ho => by
         rcases ho with ho | ⟨_, ho⟩
         ·exact absurd ho (b7 o)
         ·omega⟩⟩)
      refine fin _ k1 k2 ?_
      rw [b1]
      exact .tok _ r sz es _ (Rep.slice_row b4 al b3 (b6.mono k2.keeps (fun _ h => h) (fun _ h => h.elim)) (fun o ho => .inr ⟨rfl, ho⟩)) al (by unfold used; rw [hput_same]; simp) (by simp [Gh.upd, t1]) (by simp [Gh.upd, l1]) (fun _ => by simp [Gh.upd])
    ·exact same hk
   ·exact same hk

variable {cx : Cx} (hP : cx.P = P) (hT : TabOk P cx.T) {ops : Array Oper}
include hP hT

theorem aoper_ok {dr : Bool} {o : Oper} (hd : ∀ i, o.dst = some i → i < N) {K : St → Prop} {next : Act → World → Prop} {Q : Exit → Act → World → Prop} (hS : SR N w0 g0 h0 st g a w) (hk : aoper cx dr ops.toList o st K)
  (hn : ∀ st' g' a' w', K st' → SR N w0 g0 h0 st' g' a' w' → next a' w') : if Region.wanted o (yielded ops a.tmps) then o.wp P a w next Q else next (a.put o.dst undef) w := by
 have run : aopD cx dr o st K → o.wp P a w next Q := by
  intro hk
  unfold aopD at hk
  split at hk
  ·exact aop_ok hP hT hS hk fun v h' g' w' x q1 q2 q3 q4 => hn _ g' _ _ q1 (hS.put hd q2 q3 q4)
  ·obtain ⟨g1, hS1⟩ := preFz_ok (cx := cx) (o := o) hS
   obtain ⟨st', g', hS', hk⟩ := akK_ok hS1 hk
   exact aop_ok hP hT hS' hk fun v h' g' w' x q1 q2 q3 q4 => hn _ g' _ _ q1 (hS'.put hd q2 q3 q4)
 have skip : K (st.put o.dst (.v undef) st.h) → next (a.put o.dst undef) w := fun hk => hn _ g _ _ hk (hS.put hd hS.inv (.refl _ _ _) (.v _ _))
 unfold aoper at hk
 split at hk
 ·rename_i hg
  rw [if_pos (by simp [Region.wanted, hg])]
  exact run hk
 ·rename_i j want hg
  split at hk
  ·exact hk.elim
  ·rename_i d hj
   have hy : ∀ x : Value, Rep g w (used st.h) (st.t d) x → x = a.tmps.getD d undef → True := fun _ _ _ => trivial
   have hs := hS.slots d
   rw [nthDst_eq] at hj
   have key : ∀ b : Bool, a.tmps.getD d undef = .bool b → yielded ops a.tmps j = some b := by
    intro b hb
    have hlt : d < a.tmps.size := by
     apply Nat.lt_of_not_le
     intro hge
     rw [Array.getD_eq_getD_getElem?, Array.getElem?_eq_none hge] at hb
     cases hb
    simp only [yielded, hj, Option.bind_some]
    rw [Array.getD_eq_getD_getElem?, Array.getElem?_eq_getElem hlt] at hb
    rw [Array.getElem?_eq_getElem hlt]
    simp only [Option.getD_some] at hb
    rw [hb]
   have key2 : ∀ t, a.tmps.getD d undef = .tuple t → yielded ops a.tmps j = none := by
    intro t hb
    simp only [yielded, hj, Option.bind_some]
    cases he : a.tmps[d]? with
    | none => rfl
    | some x =>
     rw [Array.getD_eq_getD_getElem?, he] at hb
     simp only [Option.getD_some] at hb
     rw [hb]
   generalize hx : st.t d = x at hk hs
   split at hk
   ·have := key true hs.v_eq
    rw [if_pos (by simp [Region.wanted, hg, this])]
    exact run hk
   ·have := key false hs.v_eq
    rw [if_pos (by simp [Region.wanted, hg, this])]
    exact run hk
   ·have := key true hs.v_eq
    rw [if_neg (by simp [Region.wanted, hg, this])]
    exact skip hk
   ·have := key false hs.v_eq
    rw [if_neg (by simp [Region.wanted, hg, this])]
    exact skip hk
   ·have := key2 _ hs.v_eq
    rw [if_neg (by simp [Region.wanted, hg, this])]
    exact skip hk
   ·exact hk.elim

theorem aops_ok {Q : Exit → Act → World → Prop} {K : St → Prop} (hQ : ∀ st' g' a' w', K st' → SR N w0 g0 h0 st' g' a' w' → Q .normal a' w') :
  ∀ (l : List Oper), (∀ o ∈ l, ∀ i, o.dst = some i → i < N) → ∀ {st : St} {g : Gh} {a : Act} {w : World}, SR N w0 g0 h0 st g a w → aops cx ops.toList l st K → wpList P ops Q l a w
 | [], _, st, g, a, w, hS, hk => hQ st g a w hk hS
 | o :: l, hd, st, g, a, w, hS, hk => by
  have := aoper_ok hP hT (hd o (List.mem_cons_self ..)) (next := wpList P ops Q l) (Q := Q) hS hk fun st' g' a' w' q1 q2 => aops_ok hQ l (fun o' ho' => hd o' (List.mem_cons_of_mem _ ho')) q2 q1
  unfold wpList
  split
  ·rename_i hw; rw [if_pos hw] at this; exact .inl this
  ·rename_i hw; rw [if_neg hw] at this; exact this

theorem aAny_ok {Q : Exit → Act → World → Prop} {K : St → Prop} {FT : Nat → Foot} (hQ : ∀ st' g' a' w', K st' → SR N w0 g0 h0 st' g' a' w' → Q .normal a' w') (hd : ∀ (j : Nat) (o : Oper), ops[j]? = some o → ∀ i, o.dst = some i → i < N) :
  ∀ (fuel : Nat) (listed : Array Bool) {st : St} {g : Gh} {a : Act} {w : World}, SR N w0 g0 h0 st g a w → aAny cx ops FT K fuel listed st → wpAny P .any ops Q fuel listed a w
 | 0, _, st, g, a, w, hS, hk => ⟨hk.1, hQ st g a w hk.2 hS⟩
 | fuel + 1, listed, st, g, a, w, hS, hk => by
  refine ⟨fun h0 => hQ st g a w (hk.1 h0) hS, fun i hi => ?_⟩
  have h1 := hk.2 i hi
  unfold aAt at h1
  unfold wpOp
  cases ho : ops[i]? with
  | none => rw [ho] at h1; exact aAny_ok hQ hd fuel _ hS h1
  | some o =>
   rw [ho] at h1
   have := aoper_ok hP hT (hd i o ho) (next := wpAny P .any ops Q fuel (listed.setIfInBounds i true)) (Q := Q) hS h1.2 fun st' g' a' w' q1 q2 => aAny_ok hQ hd fuel _ q2 q1
   dsimp only
   split
   ·rename_i hw; rw [if_pos hw] at this; exact .inl this
   ·rename_i hw; rw [if_neg hw] at this; exact this
end
end Go.Eng

namespace Go.Eng

theorem idIn_used {h : Nat → HO} {r : Nat} (e : idIn h r = true) : used h r := by
 unfold idIn at e
 unfold used
 split at e
 ·cases e
 ·rename_i hh; exact hh
theorem Rep.ids0 {g : Gh} {w : World} {U : Nat → Prop} {h : Nat → HO} {av : AV} {x : Value} (r : Rep g w U av x) (e : ids0 h av = true) : Rep g w (used h) av x := by
 cases r with
 | v => exact .v _ _
 | junk => exact .junk _ _
 | snil => exact .snil _ _ _
 | slice _ es b off sz cap val hc hl hcell hrep => exact .slice _ es b off sz cap val hc hl hcell hrep
 | tok _ r sz es x hs hl hu ht hn hx => exact .tok _ r sz es x ((Rep.slice_none hs).up _) hl (idIn_used e) ht hn hx
 | full _ sz es x hs hl hx => exact .full _ sz es x ((Rep.slice_none hs).up _) hl hx
 | msl _ r n a cap hu ht hn ha hx => exact .msl _ r n a cap (idIn_used e) ht hn ha hx
 | agg => cases e
 | tup => cases e
 | cptr _ cs b off val hcell hrep => exact .cptr _ cs b off val hcell hrep
 | ref _ r off b hu ht hx => exact .ref _ r off b (idIn_used e) ht hx
 | eref _ r n sz i off b cap hu ht hn hx => exact .eref _ r n sz i off b cap (idIn_used e) ht hn hx
 | mref _ r b hu ht hx => exact .mref _ r b (idIn_used e) ht hx
 | cmap _ sh kvs b es ck hS hb hm hv => exact .cmap _ sh kvs b es ck hS hb hm hv
 | clo => cases e
theorem idsL_mem {h : Nat → HO} {cs : List AV} (e : idsL h cs = true) {i : Nat} {av : AV} (hi : cs[i]? = some av) : ids0 h av = true := by
 induction cs generalizing i with
 | nil => simp at hi
 | cons c cs ih =>
  unfold idsL at e
  split at e
  ·rename_i hc
   cases i with
   | zero => simp only [List.getElem?_cons_zero, Option.some.injEq] at hi; exact hi ▸ hc
   | succ i => exact ih e (by simpa using hi)
  ·cases e
theorem idsKV_mem {h : Nat → HO} {kvs : List (Value × AV)} (e : idsKV h kvs = true) {i : Nat} {kv : Value × AV} (hi : kvs[i]? = some kv) : idsB h kv.2 = true := by
 induction kvs generalizing i with
 | nil => simp at hi
 | cons c cs ih =>
  unfold idsKV at e
  split at e
  ·rename_i hc
   cases i with
   | zero => simp only [List.getElem?_cons_zero, Option.some.injEq] at hi; exact hi ▸ hc
   | succ i => exact ih e (by simpa using hi)
  ·cases e
theorem Rep.ids {g : Gh} {w : World} {U : Nat → Prop} {h : Nat → HO} {av : AV} {x : Value} (r : Rep g w U av x) (e : idsB h av = true) : Rep g w (used h) av x := by
 cases r with
 | agg _ cs vs hs h1 hr => exact .agg _ cs vs hs h1 fun i av x q1 q2 => (hr i av x q1 q2).ids0 (idsL_mem e q1)
 | tup _ cs vs hs hr => exact .tup _ cs vs hs fun i av x q1 q2 => (hr i av x q1 q2).ids0 (idsL_mem e q1)
 | clo _ f cs vs hs hr => exact .clo _ f cs vs hs fun i av x q1 q2 => (hr i av x q1 q2).ids0 (idsL_mem e q1)
 | v => exact .v _ _
 | junk => exact .junk _ _
 | snil => exact .snil _ _ _
 | slice _ es b off sz cap val hc hl hcell hrep => exact .slice _ es b off sz cap val hc hl hcell hrep
 | tok _ r sz es x hs hl hu ht hn hx => exact .tok _ r sz es x ((Rep.slice_none hs).up _) hl (idIn_used e) ht hn hx
 | full _ sz es x hs hl hx => exact .full _ sz es x ((Rep.slice_none hs).up _) hl hx
 | msl _ r n a cap hu ht hn ha hx => exact .msl _ r n a cap (idIn_used e) ht hn ha hx
 | cptr _ cs b off val hcell hrep => exact .cptr _ cs b off val hcell hrep
 | ref _ r off b hu ht hx => exact .ref _ r off b (idIn_used e) ht hx
 | eref _ r n sz i off b cap hu ht hn hx => exact .eref _ r n sz i off b cap (idIn_used e) ht hn hx
 | mref _ r b hu ht hx => exact .mref _ r b (idIn_used e) ht hx
 | cmap _ sh kvs b es ck hS hb hm hv => exact .cmap _ sh kvs b es ck hS hb hm hv

theorem leT_spec {st : St} {h : Nat → HO} : ∀ {l : List (Nat × AV)}, leT st h l → ∀ i, envOf l i = .junk ∨ (st.t i = envOf l i ∧ idsB h (envOf l i) = true)
 | [], _, i => .inl rfl
 | (j, a) :: l, ⟨h1, h2⟩, i => by
  unfold envOf
  by_cases e : i = j
  ·subst e; simp only [Nat.beq_refl, cond_true]; exact .inr h1
  ·simp only [beq_ne e, cond_false]; exact leT_spec h2 i
theorem leH_spec {st : St} {h hb : Nat → HO} (hhb : ∀ j, hb j = .free ∨ (st.h j = hb j ∧ idsH h (hb j) = true)) : ∀ {l : List (Nat × HO)}, leH st h l → ∀ i, heapOf l hb i = .free ∨ (st.h i = heapOf l hb i ∧ idsH h (heapOf l hb i) = true)
 | [], _, i => hhb i
 | (j, a) :: l, ⟨h1, h2⟩, i => by
  unfold heapOf
  by_cases e : i = j
  ·subst e; simp only [Nat.beq_refl, cond_true]; exact .inr h1
  ·simp only [beq_ne e, cond_false]; exact leH_spec hhb h2 i

def ExtOk (cx : Cx) (h0 : Nat → HO) : Prop := match cx.ext with | false => ∀ i, h0 i = .free | true => ∀ i, h0 i ≠ .free → 1000 ≤ i ∧ i < 2000

section
variable {P : Program} {N : Nat} {w0 : World} {g0 : Gh} {h0 : Nat → HO} {st : St} {g : Gh} {a : Act} {w : World} {cx : Cx}

theorem SR.weaken (hE : ExtOk cx h0) (hS : SR N w0 g0 h0 st g a w) {s : LS} (hle : St.le cx st s) : SR N w0 g0 h0 s.st g a w := by
 obtain ⟨h1, h2, h3, h4⟩ := hle
 have hT := leT_spec h1
 have hH : ∀ i, s.st.h i = .free ∨ (st.h i = s.st.h i ∧ idsH s.st.h (s.st.h i) = true) := leH_spec h3 h2
 have hlive : ∀ r, (s.st.h r).live → (st.h r).live := fun r hl => by
  rcases hH r with e | ⟨e, _⟩
  ·rw [e] at hl; exact hl.elim
  ·rw [e]; exact hl
 have hI := hS.inv
 refine ⟨⟨hI.os, hI.tape, hI.output, hI.size, hI.frame, hI.slt, fun r => ?_, fun r r' b l l' => hI.inj r r' b (hlive r l) (hlive r' l'), fun r b l => hI.loc r b (hlive r l), hI.sg, hI.glob⟩, ⟨hS.le.gh, fun i hi => ?_, hS.le.keeps⟩, hS.dfs, hS.size, fun i => ?_⟩
 ·rcases hH r with e | ⟨e, e2⟩
  ·rw [e]; trivial
  ·have ho := hI.objs r
   rw [e] at ho
   generalize s.st.h r = o at ho e2
   cases o with
   | cells cs =>
    obtain ⟨t, b, E, vs, a1, a2, a3, a4, a5⟩ := ho
    exact ⟨t, b, E, vs, a1, a2, a3, ⟨a4.1, a4.2.1, fun i av x q1 q2 => (a4.2.2 i av x q1 q2).ids0 (idsL_mem e2 q1)⟩, a5⟩
   | mapU sh kvs =>
    obtain ⟨t, b, es, ck, a1, a2, a3, a4, a5, a6⟩ := ho
    exact ⟨t, b, es, ck, a1, a2, a3, a4, fun i kv e q1 q2 => (a5 i kv e q1 q2).ids (idsKV_mem e2 q1), a6⟩
   | _ => exact ho
 ·have hu := hS.le.us i hi
  unfold ExtOk at hE
  split at hE
  ·exact absurd (hE i) hi
  ·rename_i hx
   rw [hx] at h4
   exact h4 i (hE i hi).1 (hE i hi).2 hu
 ·show Rep g w (used s.st.h) (envOf s.t i) _
  rcases hT i with e | ⟨e, e2⟩
  ·rw [e]; exact .junk _ _
  ·rw [← e] at e2 ⊢
   exact (hS.slots i).ids e2

def Ex.real : Ex → Exit
 | .normal => .normal
 | .exit id => .exit id
 | .ret => .ret
def dstB (N : Nat) (o : Oper) : Bool := match o.dst with | some d => Nat.blt d N | none => true
def codeOk (N : Nat) : Code → Bool
 | .region _ ops _ => ops.toList.all (dstB N)
 | .seq a b => codeOk N a && codeOk N b
 | .cond _ a b => codeOk N a && codeOk N b
 | .block _ c => codeOk N c
 | .loop c => codeOk N c
 | _ => true

theorem awp_ok (hP : cx.P = P) (hT : TabOk P cx.T) (hm : P.follows .mixedOrders = true) (hE : ExtOk cx h0) : ∀ (c : Code), codeOk N c = true → ∀ {Qa : Ex → St → Prop} {Q : Exit → Act → World → Prop},
  (∀ e st g a w, Qa e st → SR N w0 g0 h0 st g a w → Q e.real a w) → ∀ {st : St} {g : Gh} {a : Act} {w : World}, SR N w0 g0 h0 st g a w → awp cx c Qa st → c.wp P Q a w := by
 intro c
 induction c with
 | skip => intro _ Qa Q hQ st g a w hS hk; exact wp_skip (hQ .normal _ _ _ _ hk hS)
 | label l => intro _ Qa Q hQ st g a w hS hk; exact wp_label (hQ .normal _ _ _ _ hk hS)
 | exit id => intro _ Qa Q hQ st g a w hS hk; exact wp_exit (hQ (.exit id) _ _ _ _ hk hS)
 | ret => intro _ Qa Q hQ st g a w hS hk; exact wp_ret (hQ .ret _ _ _ _ hk hS)
 | region id ops dr =>
  intro hc Qa Q hQ st g a w hS hk
  have hd : ∀ o ∈ ops.toList, ∀ i, o.dst = some i → i < N := fun o ho i hi => by
   have := (List.all_eq_true.1 hc) o ho
   simpa [dstB, hi] using this
  have go : ∀ (st : St) (g : Gh) (hS : SR N w0 g0 h0 st g a w) (cx' : Cx), cx'.P = P → TabOk P cx'.T → aregion cx' ops dr st (Qa .normal) → (Code.region id ops dr).wp P Q a w := by
   intro st g hS cx' hP hT hk
   unfold aregion at hk
   split at hk
   ·exact wp_region_list (aops_ok hP hT (fun st' g' a' w' q1 q2 => hQ .normal _ _ _ _ q1 q2) ops.toList hd hS hk)
   ·obtain ⟨_, FT, hk⟩ := adraw_any hk
    obtain ⟨i1, i2⟩ := hS.inv.heapEq (w' := { w with drawn := w.drawn + 1 }) ⟨rfl, rfl, rfl⟩ rfl
    have hS' : SR N w0 g0 h0 st g a { w with drawn := w.drawn + 1 } := ⟨i1, hS.le.trans i2, hS.dfs, hS.size, fun i => (hS.slots i).le i2⟩
    exact wp_region_any hm (aAny_ok hP hT (fun st' g' a' w' q1 q2 => hQ .normal _ _ _ _ q1 q2) (fun j o ho => hd o (by simpa using Array.mem_of_getElem? ho)) _ _ hS' hk)
  have go2 : ∀ (st : St) (g : Gh) (hS : SR N w0 g0 h0 st g a w), (match cx.pl.dyn with | [] => aregion cx ops dr st (Qa .normal) | _ => ∃ n, aregion { cx with nid := n } ops dr st (Qa .normal)) → (Code.region id ops dr).wp P Q a w := by
   intro st g hS hk
   split at hk
   ·exact go st g hS cx hP hT hk
   ·obtain ⟨n, hk⟩ := hk
    exact go st g hS { cx with nid := n } hP hT hk
  unfold awp cutK at hk
  split at hk
  ·split at hk
   ·split at hk
    ·obtain ⟨s, h1, h2⟩ := hk
     exact go2 s.st _ (hS.weaken hE h1) h2
    ·obtain ⟨st', g', hS', s, h1, h2⟩ := asK_ok hS hk
     exact go2 s.st _ (hS'.weaken hE h1) h2
   ·obtain ⟨h', g', hS', s, h1, h2⟩ := azK_ok hS hk
    exact go2 s.st _ (hS'.weaken hE h1) h2
  ·exact go2 st _ hS hk
 | seq x y ihx ihy =>
  intro hc Qa Q hQ st g a w hS hk
  simp only [codeOk, Bool.and_eq_true] at hc
  refine wp_seq (ihx hc.1 (Qa := fun e st' => match e with | .normal => awp cx y Qa st' | e => Qa e st') (fun e st g a w q hS => ?_) hS hk)
  cases e with
  | normal => exact ihy hc.2 hQ hS q
  | exit id => exact hQ (.exit id) _ _ _ _ q hS
  | ret => exact hQ .ret _ _ _ _ q hS
 | cond c x y ihx ihy =>
  intro hc Qa Q hQ st g a w hS hk
  simp only [codeOk, Bool.and_eq_true] at hc
  have hr := hS.eval c
  unfold awp at hk
  generalize hx : ev st.t c = v at hk hr
  split at hk
  ·exact wp_cond_true hr.v_eq (ihx hc.1 hQ hS hk)
  ·exact wp_cond_false hr.v_eq (ihy hc.2 hQ hS hk)
  ·exact hk.elim
 | block id c ih =>
  intro hc Qa Q hQ st g a w hS hk
  refine wp_block (ih hc (Qa := fun e st' => match e with | .exit j => (bif Nat.beq j id then Qa .normal st' else Qa (.exit j) st') | e => Qa e st') (fun e st g a w q hS => ?_) hS hk)
  cases e with
  | normal => exact hQ .normal _ _ _ _ q hS
  | ret => exact hQ .ret _ _ _ _ q hS
  | exit j =>
   show (if j = id then Q .normal a w else Q (.exit j) a w)
   dsimp only at q
   by_cases e : j = id
   ·rw [if_pos e]
    rw [e, Nat.beq_refl, cond_true] at q
    exact hQ .normal _ _ _ _ q hS
   ·rw [if_neg e]
    rw [beq_ne e, cond_false] at q
    exact hQ (.exit j) _ _ _ _ q hS
 | loop c ih =>
  intro hc Qa Q hQ st g a w hS hk
  obtain ⟨α, I, μ, ⟨x, hx⟩, hbody⟩ := hk
  refine wp_loop_ghost (fun n a w => ∃ x g, μ x = n ∧ SR N w0 g0 h0 (I x).st g a w) (μ x) ⟨x, g, rfl, hS.weaken hE hx⟩ ?_
  rintro n a w ⟨x, g, rfl, hS⟩
  refine ih hc (Qa := fun e st' => match e with | .normal => ∃ y, μ y < μ x ∧ St.le cx st' (I y) | e => Qa e st') (fun e st g a w q hS => ?_) hS (hbody x)
  cases e with
  | normal =>
   obtain ⟨y, q1, q2⟩ := q
   exact ⟨μ y, q1, y, g, rfl, hS.weaken hE q2⟩
  | exit id => exact hQ (.exit id) _ _ _ _ q hS
  | ret => exact hQ .ret _ _ _ _ q hS
 | _ => intro _ Qa Q hQ st g a w hS hk; exact hk.elim
end
end Go.Eng

namespace Go.Eng

section
variable {P : Program} {N : Nat} {w0 : World} {g0 : Gh} {h0 : Nat → HO} {st : St} {g : Gh} {a : Act} {w : World}

theorem load_var {T : Tab} (hT : TabOk P T) {h : Nat → HO} (ho : ∀ r, ObjRep g w (used h) r (h r)) {t : Nat} {p : AV} {vp : Value} {K : AV → Prop} (hp : Rep g w (used h) p vp) (hk : loadHK T h t p K) :
  ∃ ad, (asAddr vp).run P w = .ok ad w ∧ Gives P h g w (loadVar t ad) K := by
 obtain ⟨x, av, h1, h2, h3⟩ := loadHK_ok ho hT hp hk
 have fin : ∀ b off, vp = .pointer (some ⟨b, off, none⟩) → ∃ ad, (asAddr vp).run P w = .ok ad w ∧ Gives P h g w (loadVar t ad) K := by
  rintro b off rfl
  refine ⟨⟨b, off, none⟩, by simp [asAddr], x, av, ?_, h2, h3⟩
  simpa [Instr.loadAt, Instr.sureAddr] using h1
 unfold loadHK at hk
 split at hk
 ·cases hp; exact fin _ _ rfl
 ·cases hp; exact fin _ _ rfl
 ·cases hp; exact fin _ _ rfl
 ·exact hk.elim

def resF (tmps : Array Value) : ResultVar → Sem Value
 | .tmp t => pure (tmps.getD t undef)
 | .cell ad t => do loadVar t (← asAddr (tmps.getD ad undef))
theorem results_eq (fn : Func) (tmps : Array Value) : results fn tmps = (do
 let vs ← fn.results.mapM (resF tmps)
 pure (if h : vs.size = 1 then vs[0] else .tuple vs)) := rfl

theorem outL_ok {cx : Cx} (hT : TabOk P cx.T) (hS : SR N w0 g0 h0 st g a w) : ∀ (rs : List ResultVar) {K : List AV → Prop}, outL cx.T st rs K →
  ∃ l vs, K l ∧ (rs.mapM (resF a.tmps)).run P w = .ok vs w ∧ vs.length = l.length ∧ vs.length = rs.length ∧
   ∀ (i : Nat) (av : AV) (x : Value), l[i]? = some av → vs[i]? = some x → Rep g w NoU av x
 | [], K, hk => ⟨[], [], hk, by simp, rfl, rfl, fun i av x h => by simp at h⟩
 | .tmp t :: r, K, hk => by
  obtain ⟨l, vs, h1, h2, h3, h4, h5⟩ := outL_ok hT hS r hk
  refine ⟨_, a.tmps.getD t undef :: vs, h1, ?_, by simp [h3], by simp [h4], fun i av x q1 q2 => ?_⟩
  ·rw [List.mapM_cons]
   simp only [resF, Sem.run_bind, Sem.run_pure, Result.andThen_ok, h2]
  ·cases i with
   | zero =>
    simp only [List.getElem?_cons_zero, Option.some.injEq] at q1 q2
    subst q1; subst q2
    exact Rep.str hS.inv.objs (hS.slots t)
   | succ i => exact h5 i av x (by simpa using q1) (by simpa using q2)
 | .cell ad t :: r, K, hk => by
  obtain ⟨addr, e1, x0, av0, e2, hk', e4⟩ := load_var hT hS.inv.objs (hS.slots ad) hk
  obtain ⟨l, vs, h1, h2, h3, h4, h5⟩ := outL_ok hT hS r hk'
  refine ⟨_, x0 :: vs, h1, ?_, by simp [h3], by simp [h4], fun i av x q1 q2 => ?_⟩
  ·rw [List.mapM_cons]
   simp only [resF, Sem.run_bind, Sem.run_pure, Result.andThen_ok, h2, e1, e2]
  ·cases i with
   | zero =>
    simp only [List.getElem?_cons_zero, Option.some.injEq] at q1 q2
    subst q1; subst q2
    exact Rep.str hS.inv.objs e4
   | succ i => exact h5 i av x (by simpa using q1) (by simpa using q2)

theorem outK_ok {cx : Cx} (hT : TabOk P cx.T) (hS : SR N w0 g0 h0 st g a w) {fn : Func} {K : AV → Prop} (hk : outK cx st fn.results.toList K) :
  ∃ g' r v h', K r ∧ (results fn a.tmps).run P w = .ok v w ∧ Inv w0 g0 h0 h' g' w ∧ Le h0 g0 w0 h' g' w ∧ Rep g' w NoU r v := by
 obtain ⟨g', i1, i2⟩ := frzs_ok cx.pl.fin hS.inv
 have hS' : SR N w0 g0 h0 ⟨st.t, frzs st.h cx.pl.fin⟩ g' a w := ⟨i1, hS.le.trans i2, hS.dfs, hS.size, fun i => (hS.slots i).le i2⟩
 obtain ⟨l, vs, h1, h2, h3, h4, h5⟩ := outL_ok hT hS' _ hk
 have hrun : (results fn a.tmps).run P w = .ok (if h : vs.toArray.size = 1 then vs.toArray[0] else .tuple vs.toArray) w := by
  rw [results_eq, show fn.results = fn.results.toList.toArray by simp, List.mapM_toArray]
  simp only [Sem.run_bind, Sem.run_map, h2, Result.andThen_ok, Sem.run_pure]
 refine ⟨g', ?_⟩
 match l, vs, h1, h3, h5, hrun with
 | [v], [x], h1, h3, h5, hrun => exact ⟨v, x, _, h1, by simpa using hrun, i1, hS'.le, h5 0 v x rfl rfl⟩
 | [], vs, h1, h3, h5, hrun =>
  have : vs = [] := List.eq_nil_of_length_eq_zero h3
  subst this
  exact ⟨.tup [], .tuple #[], _, h1, by simpa using hrun, i1, hS'.le, .tup _ _ _ rfl fun i av x q => by simp at q⟩
 | v :: v' :: l, vs, h1, h3, h5, hrun =>
  refine ⟨.tup (v :: v' :: l), .tuple vs.toArray, _, h1, ?_, i1, hS'.le, .tup _ _ _ (by simpa using h3) fun i av x q1 q2 => h5 i av x q1 (by simpa using q2)⟩
  rw [hrun]
  have : vs.toArray.size ≠ 1 := by simp [h3]
  simp only [this, dif_neg, not_false_eq_true]

theorem Inv.toFree (hI : Inv w0 g0 hfree st.h g w) : Inv w0 g0 hfree hfree g w :=
 ⟨hI.os, hI.tape, hI.output, hI.size, hI.frame, hI.slt, fun _ => trivial, fun _ _ _ h => h.elim, fun _ _ h => h.elim, hI.sg, hI.glob⟩
theorem envA_rep {U : Nat → Prop} {n : Nat} : ∀ {args : List AV} {vals : List Value}, vals.length = args.length → (∀ (i : Nat) (av : AV) (x : Value), args[i]? = some av → vals[i]? = some x → Rep g w U av x) →
  ∀ i, Rep g w U (envA args i) ((vals ++ List.replicate n undef).getD i undef)
 | [], [], _, _, i => by
  have : (([] : List Value) ++ List.replicate n undef).getD i undef = undef := by
   rw [List.nil_append, List.getD_eq_getElem?_getD, List.getElem?_replicate]
   split <;> rfl
  rw [this]; exact .v _ _
 | [], _ :: _, h, _, _ => by simp at h
 | _ :: _, [], h, _, _ => by simp at h
 | x :: l, v :: vs, h, hr, i => by
  cases i with
  | zero => exact hr 0 x v rfl rfl
  | succ i =>
   have := envA_rep (n := n) (args := l) (vals := vs) (by simpa using h) (fun i av x q1 q2 => hr (i + 1) av x (by simpa using q1) (by simpa using q2)) i
   simpa [envA] using this

theorem acall_of {f : Nat} {fn : Func} {c : Code} {args : List AV} {Q : AV → Prop} (cx : Cx) (hP : cx.P = P) (hT : TabOk P cx.T) (hm : P.follows .mixedOrders = true) (hx : cx.ext = false) (hf : P.funcs[f]? = some fn) (hn : (fn.name == "runtime.NumGoroutine") = false)
  (hb : fn.body = some c) (hN : args.length ≤ fn.ntmps) (hc : codeOk fn.ntmps c = true) (hk : awp cx c (endK cx fn.results.toList Q) ⟨envA args, hfree⟩) : ACall P f args hfree fun r h' => h' = hfree ∧ Q r := by
 refine ⟨⟨fn, hf, hn, by simp [hb]⟩, fun g w vals hs hv hI => calls_of_wp hf hb ?_⟩
 have hU : used hfree = NoU := by funext i; unfold used NoU hfree; simp
 have hS : SR fn.ntmps w g hfree ⟨envA args, hfree⟩ g { tmps := vals ++ Array.replicate (fn.ntmps - vals.size) undef, defers := [] } w := by
  refine ⟨hI, .refl _ _ _, rfl, by simp [hs]; omega, fun i => ?_⟩
  have := envA_rep (n := fn.ntmps - vals.size) (args := args) (vals := vals.toList) (by simpa using hs) (fun i av x q1 q2 => hv i av x q1 (by simpa using q2)) i
  rw [Array.getD_eq_getD_getElem?, ← Array.getElem?_toList]
  rw [List.getD_eq_getElem?_getD] at this
  simpa using this
 refine awp_ok hP hT hm (by unfold ExtOk; rw [hx]; exact fun _ => rfl) c hc (fun e st g' a w' hk hS => ?_) hS hk
 have out : outK cx st fn.results.toList Q → a.defers = [] ∧ ∃ v, (results fn a.tmps).run P w' = .ok v w' ∧ ∃ v' r h' g', (Ending.returned v : Ending) = .returned v' ∧ (h' = hfree ∧ Q r) ∧ Rep g' w' (used h') r v' ∧ Inv w g hfree h' g' w' ∧ Le hfree g w h' g' w' := by
  intro hk
  obtain ⟨g2, r, v, h', q1, q2, q3, q4, q5⟩ := outK_ok hT hS hk
  exact ⟨hS.dfs, v, q2, v, r, hfree, g2, rfl, ⟨rfl, q1⟩, by rw [hU]; exact q5, Inv.toFree (st := ⟨st.t, h'⟩) q3, ⟨fun i hi => absurd rfl hi, fun i hi => absurd rfl hi, q4.keeps⟩⟩
 cases e with
 | normal => exact out hk
 | ret => exact out hk
 | exit id => exact hk.elim

theorem outR_ok {cx : Cx} (hT : TabOk P cx.T) (hS : SR N w0 g0 h0 st g a w) : ∀ (rs : List ResultVar) {K : List AV → Prop}, outR cx.T st rs K →
  ∃ l vs, K l ∧ (rs.mapM (resF a.tmps)).run P w = .ok vs w ∧ vs.length = l.length ∧ vs.length = rs.length ∧
   ∀ (i : Nat) (av : AV) (x : Value), l[i]? = some av → vs[i]? = some x → Rep g w (used st.h) av x
 | [], K, hk => ⟨[], [], hk, by simp, rfl, rfl, fun i av x h => by simp at h⟩
 | .tmp t :: r, K, hk => by
  obtain ⟨l, vs, h1, h2, h3, h4, h5⟩ := outR_ok hT hS r hk
  refine ⟨_, a.tmps.getD t undef :: vs, h1, ?_, by simp [h3], by simp [h4], fun i av x q1 q2 => ?_⟩
  ·rw [List.mapM_cons]
   simp only [resF, Sem.run_bind, Sem.run_pure, Result.andThen_ok, h2]
  ·cases i with
   | zero =>
    simp only [List.getElem?_cons_zero, Option.some.injEq] at q1 q2
    subst q1; subst q2
    exact hS.slots t
   | succ i => exact h5 i av x (by simpa using q1) (by simpa using q2)
 | .cell ad t :: r, K, hk => by
  obtain ⟨addr, e1, x0, av0, e2, hk', e4⟩ := load_var hT hS.inv.objs (hS.slots ad) hk
  obtain ⟨l, vs, h1, h2, h3, h4, h5⟩ := outR_ok hT hS r hk'
  refine ⟨_, x0 :: vs, h1, ?_, by simp [h3], by simp [h4], fun i av x q1 q2 => ?_⟩
  ·rw [List.mapM_cons]
   simp only [resF, Sem.run_bind, Sem.run_pure, Result.andThen_ok, h2, e1, e2]
  ·cases i with
   | zero =>
    simp only [List.getElem?_cons_zero, Option.some.injEq] at q1 q2
    subst q1; subst q2
    exact e4
   | succ i => exact h5 i av x (by simpa using q1) (by simpa using q2)

theorem ext_spec {σ : Ren} : ∀ {H0 : List (Nat × HO)}, extOk σ H0 = true → ∀ i, heapOf H0 hfree i ≠ .free → 1000 ≤ i ∧ i < 2000 ∧ rfwd σ i = some i
 | [], _, i, h => absurd rfl h
 | (a, o) :: r, hx, i, h => by
  simp only [extOk, Bool.and_eq_true, Nat.ble_eq, Nat.blt_eq] at hx
  obtain ⟨⟨⟨h1, h2⟩, h3⟩, h4⟩ := hx
  by_cases e : i = a
  ·subst e
   refine ⟨h1, h2, ?_⟩
   split at h3
   ·rename_i j e; rw [e, Nat.eq_of_beq_eq_true h3]
   ·cases h3
  ·unfold heapOf at h
   simp only [beq_ne e, cond_false] at h
   exact ext_spec h4 i h

theorem exit_ok {H0 : List (Nat × HO)} {σ : Ren} (hσ : renInj σ = true) (hx : extOk σ H0 = true) {h : Nat → HO} (hI : Inv w0 g0 (heapOf H0 hfree) h g w) (hL : Le (heapOf H0 hfree) g0 w0 h g w) :
  RenOk (rfwd σ) h (renH σ h) g (ghFwd σ g) w ∧ Inv w0 g0 (heapOf H0 hfree) (renH σ h) (ghFwd σ g) w ∧ Le (heapOf H0 hfree) g0 w0 (renH σ h) (ghFwd σ g) w := by
 have inv := inj_inv hσ
 have hget : ∀ j, renH σ h j = match rbwd σ j with | some i => (h i).ren (rfwd σ) h | none => .free := renL_get _ _ σ
 have hR : RenOk (rfwd σ) h (renH σ h) g (ghFwd σ g) w := by
  refine ⟨fun r r' hr hu => ?_, fun b o => Iff.rfl, hI.objs⟩
  have hb := (inv r r').1 hr
  refine ⟨by simp [ghFwd, hb], by simp [ghFwd, hb], by simp [ghFwd, hb], by simp [ghFwd, hb], ?_⟩
  unfold used
  rw [hget, hb]
  exact (ren_used _ _ _).2 hu
 have hlive : ∀ j, (renH σ h j).live → ∃ i, rbwd σ j = some i ∧ (h i).live := fun j hl => by
  rw [hget] at hl
  cases e : rbwd σ j with
  | none => rw [e] at hl; exact hl.elim
  | some i => rw [e] at hl; exact ⟨i, rfl, (ren_live _ _ _).1 hl⟩
 have hown : ∀ j i, rbwd σ j = some i → (ghFwd σ g).own j = g.own i := fun j i e => by simp [ghFwd, e]
 refine ⟨hR, ⟨hI.os, hI.tape, hI.output, hI.size, hI.frame, hI.slt, fun j => ?_, fun j j' b hl hl' e e' => ?_, fun j b hl e => ?_, hI.sg, hI.glob⟩, ⟨fun i hi => ?_, fun i hi => ?_, hL.keeps⟩⟩
 ·rw [hget]
  cases e : rbwd σ j with
  | none => trivial
  | some i =>
   by_cases hu : used h i
   ·exact (hI.objs i).ren hR ((inv i j).2 e) hu
   ·have : h i = .free := Classical.not_not.1 hu
    dsimp only
    rw [this]; trivial
 ·obtain ⟨i, e1, l1⟩ := hlive j hl
  obtain ⟨i', e2, l2⟩ := hlive j' hl'
  rw [hown j i e1] at e
  rw [hown j' i' e2] at e'
  obtain rfl := hI.inj i i' b l1 l2 e e'
  have := (inv i j).2 e1
  rw [(inv i j').2 e2] at this
  cases this; rfl
 ·obtain ⟨i, e1, l1⟩ := hlive j hl
  rw [hown j i e1] at e
  exact hI.loc i b l1 e
 ·obtain ⟨_, _, hf⟩ := ext_spec hx i hi
  have hb := (inv i i).1 hf
  have e1 : (ghFwd σ g).ρ i = g.ρ i ∧ (ghFwd σ g).ln i = g.ln i ∧ (ghFwd σ g).tk i = g.tk i := by simp [ghFwd, hb]
  obtain ⟨k1, k2, k3, k4⟩ := hL.gh i hi
  exact ⟨e1.2.2.trans k1, by omega, fun t => e1.1.trans (k3 t), fun l => e1.1.trans (k4 (by omega))⟩
 ·obtain ⟨_, _, hf⟩ := ext_spec hx i hi
  have hb := (inv i i).1 hf
  unfold used
  rw [hget, hb]
  exact (ren_used _ _ _).2 (hL.us i hi)

theorem gcall_of {f : Nat} {fn : Func} {c : Code} {args : List AV} {H0 : List (Nat × HO)} {Q : AV → (Nat → HO) → Prop} (cx : Cx) (σ : Ren) (hP : cx.P = P) (hT : TabOk P cx.T) (hm : P.follows .mixedOrders = true) (hx : cx.ext = true) (hf : P.funcs[f]? = some fn)
  (hn : (fn.name == "runtime.NumGoroutine") = false) (hb : fn.body = some c) (hN : args.length ≤ fn.ntmps) (hc : codeOk fn.ntmps c = true) (hσ : (renInj σ && extOk σ H0) = true)
  (hk : awp cx c (endG cx fn.results.toList σ Q) ⟨envA args, heapOf H0 hfree⟩) : ACall P f args (heapOf H0 hfree) Q := by
 simp only [Bool.and_eq_true] at hσ
 obtain ⟨hσ, hxo⟩ := hσ
 refine ⟨⟨fn, hf, hn, by simp [hb]⟩, fun g w vals hs hv hI => calls_of_wp hf hb ?_⟩
 have hS : SR fn.ntmps w g (heapOf H0 hfree) ⟨envA args, heapOf H0 hfree⟩ g { tmps := vals ++ Array.replicate (fn.ntmps - vals.size) undef, defers := [] } w := by
  refine ⟨hI, .refl _ _ _, rfl, by simp [hs]; omega, fun i => ?_⟩
  have := envA_rep (n := fn.ntmps - vals.size) (args := args) (vals := vals.toList) (by simpa using hs) (fun i av x q1 q2 => hv i av x q1 (by simpa using q2)) i
  rw [Array.getD_eq_getD_getElem?, ← Array.getElem?_toList]
  rw [List.getD_eq_getElem?_getD] at this
  simpa using this
 refine awp_ok hP hT hm (by unfold ExtOk; rw [hx]; exact fun i hi => ⟨(ext_spec hxo i hi).1, (ext_spec hxo i hi).2.1⟩) c hc (fun e st g' a w' hk hS => ?_) hS hk
 have out : outG cx st fn.results.toList σ Q → a.defers = [] ∧ ∃ v, (results fn a.tmps).run P w' = .ok v w' ∧ ∃ v' r h' g', (Ending.returned v : Ending) = .returned v' ∧ Q r h' ∧ Rep g' w' (used h') r v' ∧ Inv w g (heapOf H0 hfree) h' g' w' ∧ Le (heapOf H0 hfree) g w h' g' w' := by
  intro hk
  obtain ⟨g2, i1, i2⟩ := frzs_ok cx.pl.fin hS.inv
  have hS' : SR fn.ntmps w g (heapOf H0 hfree) ⟨st.t, frzs st.h cx.pl.fin⟩ g2 a w' := ⟨i1, hS.le.trans i2, hS.dfs, hS.size, fun i => (hS.slots i).le i2⟩
  obtain ⟨l, vs, h1, h2, h3, h4, h5⟩ := outR_ok hT hS' _ hk
  obtain ⟨hR, j1, j2⟩ := exit_ok hσ hxo i1 hS'.le
  have hrun : (results fn a.tmps).run P w' = .ok (if h : vs.toArray.size = 1 then vs.toArray[0] else .tuple vs.toArray) w' := by
   rw [results_eq, show fn.results = fn.results.toList.toArray by simp, List.mapM_toArray]
   simp only [Sem.run_bind, Sem.run_map, h2, Result.andThen_ok, Sem.run_pure]
  refine ⟨hS.dfs, ?_⟩
  match l, vs, h1, h3, h5, hrun with
  | [v], [x], h1, h3, h5, hrun => exact ⟨x, by simpa using hrun, x, _, _, _, rfl, h1, (h5 0 v x rfl rfl).ren hR, j1, j2⟩
  | [], vs, h1, h3, h5, hrun =>
   have : vs = [] := List.eq_nil_of_length_eq_zero h3
   subst this
   exact ⟨.tuple #[], by simpa using hrun, .tuple #[], _, _, _, rfl, h1, Rep.ren hR (.tup _ [] _ rfl fun i av x q => by simp at q), j1, j2⟩
  | v :: v' :: l, vs, h1, h3, h5, hrun =>
   refine ⟨.tuple vs.toArray, ?_, .tuple vs.toArray, _, _, _, rfl, h1, Rep.ren hR (.tup _ _ _ (by simpa using h3) fun i av x q1 q2 => h5 i av x q1 (by simpa using q2)), j1, j2⟩
   rw [hrun]
   have : vs.toArray.size ≠ 1 := by simp [h3]
   simp only [this, dif_neg, not_false_eq_true]
 cases e with
 | normal => exact out hk
 | ret => exact out hk
 | exit id => exact hk.elim
end
end Go.Eng

namespace Go.Eng

def Sub (r r' : AV) : Prop := ∀ (g : Gh) (w : World) (U : Nat → Prop) (x : Value), Rep g w U r x → Rep g w U r' x
theorem Sub.refl (r : AV) : Sub r r := fun _ _ _ _ h => h
theorem Sub.of_eq {r r' : AV} (h : r = r') : Sub r r' := h ▸ .refl r
theorem Sub.trans {a b c : AV} (h : Sub a b) (k : Sub b c) : Sub a c := fun g w U x r => k g w U x (h g w U x r)
theorem Sub.nil : Sub (.v (.slice none 0 0)) (.slice .none []) := fun _ _ _ _ h => by cases h; exact .snil _ _ _
def SubL : List AV → List AV → Prop
 | [], [] => True
 | a :: r, b :: s => Sub a b ∧ SubL r s
 | _, _ => False
theorem SubL.refl : ∀ l : List AV, SubL l l
 | [] => trivial
 | a :: l => ⟨.refl a, SubL.refl l⟩
theorem SubL.len : ∀ {l l' : List AV}, SubL l l' → l'.length = l.length
 | [], [], _ => rfl
 | _ :: _, _ :: _, h => congrArg (· + 1) h.2.len
 | [], _ :: _, h => h.elim
 | _ :: _, [], h => h.elim
theorem SubL.get : ∀ {l l' : List AV}, SubL l l' → ∀ (i : Nat) (b : AV), l'[i]? = some b → ∃ a, l[i]? = some a ∧ Sub a b
 | [], [], _, i, b, h => by simp at h
 | a :: r, b :: s, hs, i, c, h => by
  cases i with
  | zero => simp only [List.getElem?_cons_zero, Option.some.injEq] at h; subst h; exact ⟨a, rfl, hs.1⟩
  | succ i => exact SubL.get hs.2 i c (by simpa using h)
 | [], _ :: _, h, _, _, _ => h.elim
 | _ :: _, [], h, _, _, _ => h.elim
theorem Sub.tup {l l' : List AV} (h : SubL l l') : Sub (.tup l) (.tup l') := fun g w U x r => by
 cases r with
 | tup _ _ vs hs hr =>
  refine .tup _ _ vs (by rw [hs, h.len]) fun i av x q1 q2 => ?_
  obtain ⟨a, e1, e2⟩ := h.get i av q1
  exact e2 _ _ _ _ (hr i a x e1 q2)
theorem Sub.agg {l l' : List AV} (h : SubL l l') : Sub (.agg l) (.agg l') := fun g w U x r => by
 cases r with
 | agg _ _ vs hs h1 hr =>
  refine .agg _ _ vs (by rw [hs, h.len]) h1 fun i av x q1 q2 => ?_
  obtain ⟨a, e1, e2⟩ := h.get i av q1
  exact e2 _ _ _ _ (hr i a x e1 q2)
def SubE : List (List AV) → List (List AV) → Prop
 | [], [] => True
 | a :: r, b :: s => SubL a b ∧ SubE r s
 | _, _ => False
theorem SubE.len : ∀ {l l' : List (List AV)}, SubE l l' → l'.length = l.length
 | [], [], _ => rfl
 | _ :: _, _ :: _, h => congrArg (· + 1) h.2.len
 | [], _ :: _, h => h.elim
 | _ :: _, [], h => h.elim
theorem SubE.get : ∀ {l l' : List (List AV)}, SubE l l' → ∀ (i : Nat) (b : List AV), l'[i]? = some b → ∃ a, l[i]? = some a ∧ SubL a b
 | [], [], _, i, b, h => by simp at h
 | a :: r, b :: s, hs, i, c, h => by
  cases i with
  | zero => simp only [List.getElem?_cons_zero, Option.some.injEq] at h; subst h; exact ⟨a, rfl, hs.1⟩
  | succ i => exact SubE.get hs.2 i c (by simpa using h)
 | [], _ :: _, h, _, _, _ => h.elim
 | _ :: _, [], h, _, _, _ => h.elim
theorem Sub.slice {l l' : List (List AV)} (h : SubE l l') : Sub (.slice .none l) (.slice .none l') := fun g w U x r => by
 have hlen := h.len
 cases r with
 | snil _ a cap =>
  have : l' = [] := List.eq_nil_of_length_eq_zero (by rw [hlen]; rfl)
  subst this
  exact .snil _ a cap
 | slice _ _ b off sz cap val hc hl hcell hrep =>
  rw [← hlen]
  refine .slice _ _ b off sz cap val (by rw [hlen]; exact hc) (fun i cs hi => ?_) (fun i cs j av hi hj => ?_) (fun i cs j av hi hj => ?_)
  ·obtain ⟨a, e1, e2⟩ := h.get i cs hi
   rw [e2.len]; exact hl i a e1
  ·obtain ⟨a, e1, e2⟩ := h.get i cs hi
   obtain ⟨c, f1, f2⟩ := e2.get j av hj
   exact hcell i a j c e1 f1
  ·obtain ⟨a, e1, e2⟩ := h.get i cs hi
   obtain ⟨c, f1, f2⟩ := e2.get j av hj
   exact f2 _ _ _ _ (hrep i a j c e1 f1)

section
variable {P : Program}
theorem ACall.mono {f : Nat} {args : List AV} {h0 : Nat → HO} {Q Q' : AV → (Nat → HO) → Prop} (h : ACall P f args h0 Q) (hq : ∀ r h', Q r h' → ∃ r', Sub r r' ∧ Q' r' h') : ACall P f args h0 Q' :=
 ⟨h.1, fun g w vals q1 q2 q3 => (h.2 g w vals q1 q2 q3).mono fun _ _ ⟨v, r, h', g', e1, e2, e3, rest⟩ =>
  let ⟨r', s, k⟩ := hq r h' e2
  ⟨v, r', h', g', e1, k, s _ _ _ _ e3, rest⟩⟩
theorem ACall.args {f : Nat} {args args' : List AV} {h0 : Nat → HO} {Q : AV → (Nat → HO) → Prop} (h : ACall P f args h0 Q) (hs : SubL args' args) : ACall P f args' h0 Q :=
 ⟨h.1, fun g w vals q1 q2 q3 => h.2 g w vals (by rw [q1, hs.len]) (fun i av x e1 e2 => by
  obtain ⟨a, f1, f2⟩ := hs.get i av e1
  exact f2 _ _ _ _ (q2 i a x f1 e2)) q3⟩
theorem PCall.args {f : Nat} {args args' : List AV} {res : AV} (h : PCall P f args res) (hs : SubL args' args) : PCall P f args' res := ACall.args h hs
theorem pcall_sub {f : Nat} {fn : Func} {c : Code} {args : List AV} {res : AV} (cx : Cx) (hP : cx.P = P) (hT : TabOk P cx.T) (hm : P.follows .mixedOrders = true) (hx : cx.ext = false) (hf : P.funcs[f]? = some fn) (hn : (fn.name == "runtime.NumGoroutine") = false)
  (hb : fn.body = some c) (hN : args.length ≤ fn.ntmps) (hc : codeOk fn.ntmps c = true) (hk : awp cx c (endK cx fn.results.toList fun r => Sub r res) ⟨envA args, hfree⟩) : PCall P f args res :=
 (acall_of cx hP hT hm hx hf hn hb hN hc hk).mono fun _ _ ⟨e1, e2⟩ => ⟨res, e2, rfl, e1⟩
end
end Go.Eng
