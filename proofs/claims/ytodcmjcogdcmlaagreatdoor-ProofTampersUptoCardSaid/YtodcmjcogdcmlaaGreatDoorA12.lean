/- Lemmas for the claims of this seat, without a condition: part 12 (EngU, EngV, EngW, EngX, EngY). -/
import Derived.Test.YtodcmjcogdcmlaaGreatDoorA11
namespace Go.Eng

def Pick (F : (AV → Prop) → Prop) : Prop := ∀ K, F K → ∃ v, K v ∧ ∀ K', K' v → F K'

theorem pick_id (v : AV) : Pick (fun K => K v) := fun _ h => ⟨v, h, fun _ h => h⟩
theorem pick_and {p : Prop} {F : (AV → Prop) → Prop} (h : Pick F) : Pick (fun K => p ∧ F K) := fun K ⟨hp, hk⟩ =>
  let ⟨v, h1, h2⟩ := h K hk
  ⟨v, h1, fun K' h' => ⟨hp, h2 K' h'⟩⟩
theorem pick_false : Pick (fun _ => False) := fun _ h => h.elim
theorem pick_bool (p : Prop) : Pick (boolK p) := fun K h => by
  by_cases hp : p
  · exact ⟨_, h.1 hp, fun K' h' => ⟨fun _ => h', fun hn => absurd hp hn⟩⟩
  · exact ⟨_, h.2 hp, fun K' h' => ⟨fun q => absurd q hp, fun _ => h'⟩⟩
theorem pick_not {F : (AV → Prop) → Prop} (h : Pick F) : Pick (fun K => F (notK K)) := fun K hk => by
  obtain ⟨v, h1, h2⟩ := h _ hk
  unfold notK at h1
  split at h1
  · exact ⟨_, h1, fun K' h' => h2 _ h'⟩
  · exact ⟨_, h1, fun K' h' => h2 _ h'⟩
  · exact h1.elim
theorem pick_ex {α : Type} {F : α → (AV → Prop) → Prop} (h : ∀ x, Pick (F x)) : Pick (fun K => ∃ x, F x K) := fun K ⟨x, hk⟩ =>
  let ⟨v, h1, h2⟩ := h x K hk
  ⟨v, h1, fun K' h' => ⟨x, h2 K' h'⟩⟩

theorem pick_load (T : Tab) (t : Nat) (cs : List AV) : Pick (loadK T t cs) := by
  have head : Pick (headK cs) := by unfold headK; cases cs with | nil => exact pick_false | cons a _ => exact pick_id a
  unfold loadK
  split
  · exact pick_and (pick_id _)
  · exact pick_and (pick_id _)
  · cases cs with
    | nil => exact pick_false
    | cons a _ =>
      intro K h
      simp only [headK] at h ⊢
      split at h
      · rename_i b
        cases b with
        | true => exact ⟨_, h.1 rfl, fun K' h' => ⟨fun _ => h', fun e => by cases e⟩⟩
        | false => exact ⟨_, h.2 rfl, fun K' h' => ⟨fun e => (by cases e), fun _ => h'⟩⟩
      · exact h.elim
  · exact pick_false
  · exact head
theorem pick_eq (T : Tab) (t : Nat) (x y : AV) (hx : ∀ tk es, x ≠ .slice tk es) : Pick (eqK T t x y) := by
  unfold eqK
  repeat' split
  all_goals first | exact pick_false | exact pick_id _ | exact pick_bool _ | exact pick_and (pick_id _) | exact absurd rfl (hx _ _)
theorem pick_arith (op : BinOp) (k : IntKind) (a b : Int) : Pick (arithK op k a b) := by
  unfold arithK
  repeat' split
  all_goals first | exact pick_false | exact pick_and (pick_id _) | (unfold arithU; split <;> first | exact pick_false | exact pick_id _)
theorem pick_bin (T : Tab) (op : BinOp) (t : Nat) (x y : AV) (hx : ∀ tk es, x ≠ .slice tk es) : Pick (binK T op t x y) := by
  unfold binK
  repeat' split
  all_goals first | exact pick_false | exact pick_bool _ | exact pick_arith _ _ _ _ | exact pick_and (pick_id _) | exact pick_eq _ _ _ _ hx | exact pick_not (pick_eq _ _ _ _ hx)
theorem pick_conv (T : Tab) (s t : Nat) (x : AV) : Pick (convK T s t x) := by
  unfold convK
  repeat' split
  all_goals first | exact pick_false | exact pick_id _ | exact pick_and (pick_id _) | exact pick_ex fun _ => pick_and (pick_id _)
theorem pick_field (T : Tab) (s f : Nat) (x : AV) : Pick (fieldK T s f x) := by
  unfold fieldK
  repeat' split
  all_goals first | exact pick_false | exact pick_id _
theorem pick_fieldV (T : Tab) (s f : Nat) (x : AV) : Pick (fieldVK T s f x) := by
  unfold fieldVK
  repeat' split
  all_goals first | exact pick_false | exact pick_load _ _ _
theorem pick_indexAddr (T : Tab) (t : Nat) (x ix : AV) : Pick (indexAddrK T t x ix) := by
  unfold indexAddrK
  repeat' split
  all_goals first | exact pick_false | exact pick_and (pick_id _) | exact pick_ex fun _ => pick_and (pick_and (pick_id _))
theorem pick_index (T : Tab) (t : Nat) (x ix : AV) : Pick (indexK T t x ix) := by
  unfold indexK
  repeat' split
  all_goals first | exact pick_false | exact pick_and (pick_load _ _ _) | exact pick_ex fun _ => pick_and (pick_id _)
theorem pick_extract (x : AV) (i : Nat) : Pick (extractK x i) := by
  unfold extractK
  repeat' split
  all_goals first | exact pick_false | exact pick_id _
theorem pick_nil (x : AV) : Pick (nilCheckK x) := by
  unfold nilCheckK
  repeat' split
  all_goals first | exact pick_false | exact pick_id _
theorem pick_pick (c a b : AV) : Pick (pickK c a b) := by
  unfold pickK
  repeat' split
  all_goals first | exact pick_false | exact pick_id _
theorem pick_mm (f : Int → Int → Int) (x y : AV) : Pick (mmK f x y) := by
  unfold mmK
  repeat' split
  all_goals first | exact pick_false | exact pick_id _
theorem pick_unop (op : UnOp) (x : AV) : Pick (unopK op x) := by
  unfold unopK
  repeat' split
  all_goals first | exact pick_false | exact pick_not (pick_id _) | exact pick_and (pick_id _)
def PickL {α : Type} (F : (α → Prop) → Prop) : Prop := ∀ K, F K → ∃ v, K v ∧ ∀ K', K' v → F K'
theorem pickL_cells (n : Nat) (a : AV) : PickL (cellsK n a) := by
  intro K h
  unfold cellsK at h ⊢
  repeat' split at h
  all_goals first | exact h.elim | skip
  all_goals exact ⟨_, h, fun K' h' => h'⟩
theorem pickL_fill (pl : Nat → Option (Nat × Nat)) (t : Nat → AV) : ∀ (ps : List (Nat × Operand)) (cs : List AV), PickL (fillK pl cs t ps)
  | [], cs => fun K h => ⟨cs, h, fun _ h => h⟩
  | (i, x) :: r, cs => by
    intro K h
    unfold fillK at h
    split at h
    · exact h.elim
    · rename_i o n e
      obtain ⟨vs, h1, h2⟩ := pickL_cells _ _ _ h
      split at h1
      · rename_i hb
        obtain ⟨c, h3, h4⟩ := pickL_fill pl t r _ _ h1
        refine ⟨c, h3, fun K' h' => ?_⟩
        unfold fillK
        simp only [e]
        refine h2 _ ?_
        simp only [hb]
        exact h4 K' h'
      · exact h1.elim
theorem pick_build (T : Tab) (ty : Nat) (t : Nat → AV) (ps : List (Nat × Operand)) : Pick (buildK T ty t ps) := by
  unfold buildK
  repeat' split
  all_goals first
    | exact pick_false
    | exact fun K h => let ⟨c, h1, h2⟩ := pickL_fill _ _ _ _ _ h; ⟨_, h1, fun K' h' => h2 _ h'⟩
end Go.Eng

namespace Go.Eng

def eff (h : Nat → HO) (e : Option (Nat × HO)) : Nat → HO := match e with | none => h | some (r, o) => hput h r o
structure Alike (o : Oper) (R : List Nat) (st st2 : St) : Prop where
  t : ∀ x ∈ o.op.operands, ev st2.t x = ev st.t x
  h : ∀ r ∈ R, st2.h r = st.h r
def Framed (cx : Cx) (o : Oper) (st : St) (R : List Nat) (w : Option Nat) (K : HK) : Prop :=
  ∃ v e, K v (eff st.h e) ∧ (∀ r o', e = some (r, o') → w = some r ∧ r ∈ R) ∧ ∀ st2, Alike o R st st2 → ∀ K' : HK, K' v (eff st2.h e) → aop cx true o st2 K'

def Covers (w : Option Nat) (r : Nat) : Prop := match w with | none => False | some x => x = r ∨ (10000000 ≤ x ∧ (x % 10000000 = r ∨ x / 10000000 = r))
def effL (h : Nat → HO) : List (Nat × HO) → Nat → HO
  | [] => h
  | p :: l => effL (hput h p.1 p.2) l
def FramedL (cx : Cx) (o : Oper) (st : St) (R : List Nat) (w : Option Nat) (K : HK) : Prop :=
  ∃ v e, K v (effL st.h e) ∧ (∀ r o', (r, o') ∈ e → Covers w r ∧ r ∈ R) ∧ ∀ st2, Alike o R st st2 → ∀ K' : HK, K' v (effL st2.h e) → aop cx true o st2 K'

section
variable {cx : Cx} {o : Oper} {st : St} {R : List Nat} {w : Option Nat} {K : HK}
theorem Framed.pick {F : (AV → Prop) → Prop} (hF : Pick F) (h : F fun v => K v st.h) (h2 : ∀ st2, Alike o R st st2 → ∀ K' : HK, F (fun v => K' v st2.h) → aop cx true o st2 K') : Framed cx o st R w K :=
  let ⟨v, h1, h3⟩ := hF _ h
  ⟨v, none, h1, fun _ _ e => (by cases e), fun st2 ha K' hk => h2 st2 ha K' (h3 _ hk)⟩

theorem mem_idlL {cs : List AV} {a : AV} (h : a ∈ cs) : ∀ r ∈ idl0 a, r ∈ idlL cs := by
  induction cs with
  | nil => cases h
  | cons c cs ih =>
    intro r hr
    rcases List.mem_cons.1 h with rfl | h
    · exact List.mem_append_left _ hr
    · exact List.mem_append_right _ (ih h r hr)
theorem mem_idlC {cs : List AV} {a : AV} (h : a ∈ cs) : ∀ r ∈ idl1 a, r ∈ idlC cs := by
  induction cs with
  | nil => cases h
  | cons c cs ih =>
    intro r hr
    rcases List.mem_cons.1 h with rfl | h
    · exact List.mem_append_left _ hr
    · exact List.mem_append_right _ (ih h r hr)
theorem mem_idlA {cs : List AV} {a : AV} (h : a ∈ cs) : ∀ r ∈ idl a, r ∈ idlA cs := by
  induction cs with
  | nil => cases h
  | cons c cs ih =>
    intro r hr
    rcases List.mem_cons.1 h with rfl | h
    · exact List.mem_append_left _ hr
    · exact List.mem_append_right _ (ih h r hr)
theorem idl0_idl1 (a : AV) : ∀ r ∈ idl0 a, r ∈ idl1 a := by cases a <;> simp [idl0, idl1]
theorem str0_same {h h2 : Nat → HO} {a : AV} (e : ∀ r ∈ idl0 a, h2 r = h r) : str0 h2 a = str0 h a := by
  cases a <;> simp only [str0]
  · rw [e _ (by simp [idl0])]
  · rw [e _ (by simp [idl0])]
theorem str_same1 {h h2 : Nat → HO} {a : AV} (e : ∀ r ∈ idl1 a, h2 r = h r) : str h2 a = str h a := by
  cases a with
  | agg cs => simp only [str]; exact congrArg _ (List.map_congr_left fun c hc => str0_same fun r hr => e r (mem_idlL hc r hr))
  | clo f cs => simp only [str]; exact congrArg _ (List.map_congr_left fun c hc => str0_same fun r hr => e r (mem_idlL hc r hr))
  | _ => exact str0_same (fun r hr => e r (idl0_idl1 _ r hr))
theorem idl1_idl (a : AV) : ∀ r ∈ idl1 a, r ∈ idl a := by
  cases a with
  | agg cs =>
    intro r hr
    simp only [idl, idl1] at *
    induction cs with
    | nil => exact hr
    | cons c cs ih =>
      rcases List.mem_append.1 hr with h | h
      · exact List.mem_append_left _ (idl0_idl1 c r h)
      · exact List.mem_append_right _ (ih h)
  | _ => exact fun r hr => hr
theorem str_same {h h2 : Nat → HO} {a : AV} (e : ∀ r ∈ idl a, h2 r = h r) : str h2 a = str h a := str_same1 fun r hr => e r (idl1_idl a r hr)
theorem strA_same {h h2 : Nat → HO} {l : List AV} (e : ∀ r ∈ idlA l, h2 r = h r) : l.map (str h2) = l.map (str h) :=
  List.map_congr_left fun _ ha => str_same fun r hr => e r (mem_idlA ha r hr)
theorem rsv_same {h h2 : Nat → HO} {a : AV} (e : ∀ r ∈ idl a, h2 r = h r) : rsv h2 a = rsv h a := by
  cases a <;> simp only [rsv]
  · rw [e _ (by simp [idl, idl1, idl0])]
  · rw [e _ (by simp [idl, idl1, idl0])]
theorem cells_same {n : Nat} {a : AV} {K : List AV → Prop} (hk : cellsK n a K) : ∃ cs, K cs ∧ (∀ K' : List AV → Prop, K' cs → cellsK n a K') ∧ ∀ h h2 : Nat → HO, (∀ r ∈ idl a, h2 r = h r) → cs.map (str h2) = cs.map (str h) := by
  have single : K [a] → (∀ K' : List AV → Prop, K' [a] → cellsK n a K') → ∃ cs, K cs ∧ (∀ K' : List AV → Prop, K' cs → cellsK n a K') ∧ ∀ h h2 : Nat → HO, (∀ r ∈ idl a, h2 r = h r) → cs.map (str h2) = cs.map (str h) :=
    fun h1 h2 => ⟨[a], h1, h2, fun h h2 e => by simp [str_same e]⟩
  unfold cellsK at hk
  split at hk
  · rename_i cs
    split at hk
    · rename_i hn
      refine ⟨cs, hk, fun K' h => by unfold cellsK; simp only [hn]; exact h, fun h h2 e => List.map_congr_left fun c hc => str_same1 fun r hr => e r (mem_idlC hc r hr)⟩
    · exact hk.elim
  · rename_i hna
    split at hk
    · rename_i h1
      split at hk
      · refine single hk fun K' h => ?_
        unfold cellsK
        split
        · rename_i cs; exact absurd rfl (hna cs)
        · rw [h1]; exact h
      · exact hk.elim
    · exact hk.elim

theorem hput_at {h : Nat → HO} {r : Nat} {o : HO} : eff h (some (r, o)) = hput h r o := rfl
theorem fillE_same {n sz : Nat} {t : Nat → AV} : ∀ {ps : List (Nat × Operand)} {es : List (List AV)} {h : Nat → HO} {K : List (List AV) → Prop}, fillE n sz h es t ps K →
    ∃ es', K es' ∧ ∀ (t2 : Nat → AV) (h2 : Nat → HO), (∀ r ∈ idlA (ps.map fun p => ev t p.2), h2 r = h r) → (∀ p ∈ ps, ev t2 p.2 = ev t p.2) → ∀ K' : List (List AV) → Prop, K' es' → fillE n sz h2 es t2 ps K'
  | [], es, h, K, hk => ⟨es, hk, fun _ _ _ _ _ h => h⟩
  | (i, x) :: r, es, h, K, hk => by
    unfold fillE at hk
    split at hk
    · rename_i hb
      obtain ⟨cs, c1, c2, c3⟩ := cells_same hk
      obtain ⟨es', e1, e2⟩ := fillE_same c1
      refine ⟨es', e1, fun t2 h2 hh ht K' hk' => ?_⟩
      unfold fillE
      rw [hb, ht (i, x) (List.mem_cons_self ..)]
      refine c2 _ ?_
      rw [c3 h h2 (fun r hr => hh r (List.mem_append_left _ hr))]
      exact e2 t2 h2 (fun r hr => hh r (List.mem_append_right _ hr)) (fun p hp => ht p (List.mem_cons_of_mem _ hp)) K' hk'
    · exact hk.elim
theorem newSlice_same {d : Option Nat} {h : Nat → HO} {sz : Nat} {es : List (List AV)} (hk : newSliceK cx d h sz es K) :
    ∃ d', d.map (did cx) = some d' ∧ ∃ v x, K v (hput h d' x) ∧ ∀ h2 : Nat → HO, h2 d' = h d' → ∀ K' : HK, K' v (hput h2 d' x) → newSliceK cx d h2 sz es K' := by
  unfold newSliceK at hk
  split at hk
  · exact hk.elim
  · rename_i d
    split at hk
    · rename_i hd
      split at hk
      · rename_i e
        exact ⟨did cx d, rfl, _, _, hk, fun h2 hh K' h' => by unfold newSliceK; simp only [hh, hd, e]; exact h'⟩
      · rename_i e
        exact ⟨did cx d, rfl, _, _, hk, fun h2 hh K' h' => by unfold newSliceK; simp only [hh, hd, e]; exact h'⟩
    · exact hk.elim
theorem elems_same {h : Nat → HO} {x : AV} {K : List (List AV) → Prop} (hk : elemsK h x K) : ∃ es, K es ∧ ∀ h2 : Nat → HO, (∀ r n, x = .msl r n → h2 r = h r) → ∀ K' : List (List AV) → Prop, K' es → elemsK h2 x K' := by
  unfold elemsK at hk
  split at hk
  · exact ⟨_, hk, fun _ _ K' h => h⟩
  · exact ⟨_, hk, fun _ _ K' h => h⟩
  · rename_i r n
    split at hk
    · rename_i sz es e
      exact ⟨_, hk.2, fun h2 hh K' h => by unfold elemsK; simp only [hh r n rfl, e]; exact ⟨hk.1, h⟩⟩
    · exact hk.elim
  · exact hk.elim
end
end Go.Eng

namespace Go.Eng

section
variable {cx : Cx} {dst : Option Nat} {ty : Nat} {pos : String} {after : Array Edge} {gd : Option (Nat × Bool)} {st : St} {R : List Nat} {w : Option Nat} {K : HK}

theorem foot_own {d : Option Nat} {l : List Nat} {f : Foot} (h : footD d l = some f) : ∃ d', d = some d' ∧ f = (d' :: l, some d') := by
  unfold footD at h
  cases d with
  | none => cases h
  | some d => cases h; exact ⟨d, rfl, rfl⟩

theorem frame_alloc {e : Nat} (hk : aop cx true ⟨dst, .alloc e, ty, pos, after, gd⟩ st K) (hf : foot cx ⟨dst, .alloc e, ty, pos, after, gd⟩ st = some (R, w)) : Framed cx ⟨dst, .alloc e, ty, pos, after, gd⟩ st R w K := by
  simp only [aop] at hk
  obtain ⟨d, rfl, e0⟩ := foot_own hf
  cases e0
  unfold allocK at hk
  simp only at hk
  split at hk
  · rename_i hd
    split at hk
    · exact hk.elim
    · rename_i hne
      split at hk
      · rename_i ha
        refine ⟨_, some (d, _), hk, fun r o' e => (by cases e; exact ⟨rfl, List.mem_cons_self ..⟩), fun st2 ha2 K' h' => ?_⟩
        simp only [aop, allocK]
        rw [ha2.h d (List.mem_cons_self ..), hd]
        simp only [ha]
        exact h'
      · exact hk.elim
  · exact hk.elim
theorem frame_box {e : Nat} {x : Operand} (hk : aop cx true ⟨dst, .box e x, ty, pos, after, gd⟩ st K) (hf : foot cx ⟨dst, .box e x, ty, pos, after, gd⟩ st = some (R, w)) : Framed cx ⟨dst, .box e x, ty, pos, after, gd⟩ st R w K := by
  simp only [aop] at hk
  obtain ⟨d, rfl, e0⟩ := foot_own hf
  cases e0
  unfold boxK at hk
  simp only at hk
  split at hk
  · rename_i hd
    split at hk
    · exact hk.elim
    · rename_i hne
      obtain ⟨cs, c1, c2, c3⟩ := cells_same hk
      split at c1
      · rename_i hm
        refine ⟨_, some (d, _), c1, fun r o' e => (by cases e; exact ⟨rfl, List.mem_cons_self ..⟩), fun st2 ha2 K' h' => ?_⟩
        have hx : ev st2.t x = ev st.t x := ha2.t x (by simp [Op.operands])
        simp only [aop, boxK]
        rw [ha2.h d (List.mem_cons_self ..), hd, hx]
        simp only [hm]
        refine c2 _ ?_
        rw [c3 st.h st2.h (fun r hr => ha2.h r (List.mem_cons_of_mem _ hr))]
        exact h'
      · rename_i hm
        refine ⟨_, some (d, _), c1, fun r o' e => (by cases e; exact ⟨rfl, List.mem_cons_self ..⟩), fun st2 ha2 K' h' => ?_⟩
        have hx : ev st2.t x = ev st.t x := ha2.t x (by simp [Op.operands])
        simp only [aop, boxK]
        rw [ha2.h d (List.mem_cons_self ..), hd, hx]
        simp only [hm]
        exact c2 _ h'
  · exact hk.elim
theorem frame_buildSlice {t n : Nat} {ps : Array (Nat × Operand)} (hk : aop cx true ⟨dst, .buildSlice t n ps, ty, pos, after, gd⟩ st K) (hf : foot cx ⟨dst, .buildSlice t n ps, ty, pos, after, gd⟩ st = some (R, w)) :
    Framed cx ⟨dst, .buildSlice t n ps, ty, pos, after, gd⟩ st R w K := by
  simp only [aop] at hk
  obtain ⟨d, hd0, e0⟩ := foot_own hf
  cases e0
  unfold buildSliceK at hk
  split at hk
  · rename_i e he
    split at hk
    · rename_i h1 h2
      split at hk
      · exact hk.elim
      · rename_i k hsz
        split at hk
        · rename_i hb
          obtain ⟨es, q1, q2⟩ := fillE_same hk
          obtain ⟨d', hd, v, x, q3, q4⟩ := newSlice_same q1
          have hd : dst.map (did cx) = some d' := hd
          have hd0 : dst.map (did cx) = some d := hd0
          rw [hd0] at hd; cases hd
          refine ⟨v, some (d, x), q3, fun r o' e => (by cases e; exact ⟨rfl, List.mem_cons_self ..⟩), fun st2 ha2 K' h' => ?_⟩
          have hx : ∀ p ∈ ps.toList, ev st2.t p.2 = ev st.t p.2 := fun p hp => ha2.t p.2 (by
            simp only [Op.operands, List.mem_toArray]
            exact List.mem_map.2 ⟨p, hp, rfl⟩)
          simp only [aop, buildSliceK, he, h1, h2]
          split
          · rename_i e0; rw [hsz] at e0; cases e0
          · rw [hb]
            exact q2 st2.t st2.h (fun r hr => ha2.h r (List.mem_cons_of_mem _ hr)) hx _ (q4 st2.h (ha2.h d (List.mem_cons_self ..)) K' h')
        · exact hk.elim
    · exact hk.elim
  · exact hk.elim
theorem frame_makeSlice {t : Nat} {n c : Operand} (hk : aop cx true ⟨dst, .makeSlice t n c, ty, pos, after, gd⟩ st K) (hf : foot cx ⟨dst, .makeSlice t n c, ty, pos, after, gd⟩ st = some (R, w)) :
    Framed cx ⟨dst, .makeSlice t n c, ty, pos, after, gd⟩ st R w K := by
  simp only [aop] at hk
  obtain ⟨d, hd0, e0⟩ := foot_own hf
  cases e0
  have hn : ∀ st2, Alike ⟨dst, .makeSlice t n c, ty, pos, after, gd⟩ (d :: []) st st2 → ev st2.t n = ev st.t n ∧ ev st2.t c = ev st.t c := fun st2 ha => ⟨ha.t n (by simp [Op.operands]), ha.t c (by simp [Op.operands])⟩
  unfold makeSliceK at hk
  split at hk
  · rename_i e a b h1 h2 h3
    split at hk
    · rename_i h4
      split at hk
      · rename_i h5
        split at hk
        · exact hk.elim
        · rename_i k hsz
          obtain ⟨d', hd, v, x, q3, q4⟩ := newSlice_same hk.2
          have hd : dst.map (did cx) = some d' := hd
          have hd0 : dst.map (did cx) = some d := hd0
          rw [hd0] at hd; cases hd
          refine ⟨v, some (d, x), q3, fun r o' e => (by cases e; exact ⟨rfl, List.mem_cons_self ..⟩), fun st2 ha2 K' h' => ?_⟩
          simp only [aop, makeSliceK, (hn st2 ha2).1, (hn st2 ha2).2, h1, h2, h3, h4, h5]
          split
          · rename_i e0; rw [hsz] at e0; cases e0
          · exact ⟨hk.1, q4 st2.h (ha2.h d (List.mem_cons_self ..)) K' h'⟩
      · exact hk.elim
    · exact hk.elim
  · exact hk.elim
theorem frame_makeMap {t : Nat} {r : Option Operand} (hk : aop cx true ⟨dst, .makeMap t r, ty, pos, after, gd⟩ st K) (hf : foot cx ⟨dst, .makeMap t r, ty, pos, after, gd⟩ st = some (R, w)) :
    Framed cx ⟨dst, .makeMap t r, ty, pos, after, gd⟩ st R w K := by
  cases r with
  | some r => exact hk.elim
  | none =>
    simp only [aop] at hk
    obtain ⟨d, rfl, e0⟩ := foot_own hf
    cases e0
    unfold makeMapK at hk
    simp only at hk
    split at hk
    · rename_i hd
      split at hk
      · rename_i h1
        split at hk
        · rename_i h2
          split at hk
          · rename_i h3
            refine ⟨_, some (d, _), hk, fun r o' e => (by cases e; exact ⟨rfl, List.mem_cons_self ..⟩), fun st2 ha2 K' h' => ?_⟩
            simp only [aop, makeMapK]
            rw [ha2.h d (List.mem_cons_self ..), hd]
            simp only [h1, h2, h3]
            exact h'
          · rename_i h3
            refine ⟨_, some (d, _), hk, fun r o' e => (by cases e; exact ⟨rfl, List.mem_cons_self ..⟩), fun st2 ha2 K' h' => ?_⟩
            simp only [aop, makeMapK]
            rw [ha2.h d (List.mem_cons_self ..), hd]
            simp only [h1, h2, h3]
            exact h'
        · exact hk.elim
      · exact hk.elim
    · exact hk.elim
theorem frame_store {t : Nat} {p x : Operand} (hk : aop cx true ⟨dst, .store t p x, ty, pos, after, gd⟩ st K) (hf : foot cx ⟨dst, .store t p x, ty, pos, after, gd⟩ st = some (R, w)) :
    Framed cx ⟨dst, .store t p x, ty, pos, after, gd⟩ st R w K := by
  simp only [aop] at hk
  have hn : ∀ st2, Alike ⟨dst, .store t p x, ty, pos, after, gd⟩ R st st2 → ev st2.t p = ev st.t p ∧ ev st2.t x = ev st.t x := fun st2 ha => ⟨ha.t p (by simp [Op.operands]), ha.t x (by simp [Op.operands])⟩
  unfold storeK at hk
  split at hk
  · exact hk.elim
  · rename_i hne
    obtain ⟨cs, c1, c2, c3⟩ := cells_same hk
    simp only [foot] at hf
    split at hf
    · rename_i r off hp
      split at hf
      · cases hf
      · rename_i hm
        cases hf
        rw [hp] at c1
        simp only at c1
        split at c1
        · rename_i cur hr
          obtain ⟨hle, hk'⟩ := c1
          rw [hm] at hk'
          refine ⟨_, some (r, _), hk', fun r o' e => (by cases e; exact ⟨rfl, List.mem_cons_self ..⟩), fun st2 ha2 K' h' => ?_⟩
          simp only [aop, storeK, (hn st2 ha2).1, (hn st2 ha2).2]
          refine c2 _ ?_
          rw [hp]
          simp only [ha2.h r (List.mem_cons_self ..), hr, hm]
          exact ⟨hle, h'⟩
        · exact c1.elim
    · rename_i r n sz i off hp
      cases hf
      rw [hp] at c1
      simp only at c1
      split at c1
      · rename_i sz' es hr
        split at c1
        · rename_i hs
          obtain ⟨hle, cell, e1, e2, hk'⟩ := c1
          refine ⟨_, some (r, _), hk', fun r o' e => (by cases e; exact ⟨rfl, List.mem_cons_self ..⟩), fun st2 ha2 K' h' => ?_⟩
          simp only [aop, storeK, (hn st2 ha2).1, (hn st2 ha2).2]
          refine c2 _ ?_
          rw [hp]
          simp only [ha2.h r (List.mem_cons_self ..), hr, hs]
          refine ⟨hle, cell, e1, e2, ?_⟩
          rw [c3 st.h st2.h (fun r hr => ha2.h r (List.mem_cons_of_mem _ hr))]
          exact h'
        · exact c1.elim
      · exact c1.elim
    · cases hf
theorem frame_mapUpdate {t : Nat} {m k x : Operand} (hk : aop cx true ⟨dst, .mapUpdate t m k x, ty, pos, after, gd⟩ st K) (hf : foot cx ⟨dst, .mapUpdate t m k x, ty, pos, after, gd⟩ st = some (R, w)) :
    Framed cx ⟨dst, .mapUpdate t m k x, ty, pos, after, gd⟩ st R w K := by
  simp only [aop] at hk
  have hn : ∀ st2, Alike ⟨dst, .mapUpdate t m k x, ty, pos, after, gd⟩ R st st2 → ev st2.t m = ev st.t m ∧ ev st2.t k = ev st.t k ∧ ev st2.t x = ev st.t x := fun st2 ha => ⟨ha.t m (by simp [Op.operands]), ha.t k (by simp [Op.operands]), ha.t x (by simp [Op.operands])⟩
  simp only [foot] at hf
  split at hf
  · rename_i r hm
    cases hf
    unfold mapUpdateK at hk
    rw [hm] at hk
    simp only at hk
    split at hk
    · rename_i sh kvs hr
      unfold keyK at hk
      split at hk
      · rename_i kt e h1
        split at hk
        · rename_i sh' h2
          split at hk
          · rename_i h3
            split at hk
            · rename_i kx h4
              split at hk
              · rename_i h5
                refine ⟨_, some (r, _), hk, fun r o' e => (by cases e; exact ⟨rfl, List.mem_cons_self ..⟩), fun st2 ha2 K' h' => ?_⟩
                obtain ⟨n1, n2, n3⟩ := hn st2 ha2
                simp only [aop, mapUpdateK, n1, n2, n3, hm, ha2.h r (List.mem_cons_self ..), hr, keyK, h1, h2, h3, h4, h5]
                rw [str_same (h := st.h) (h2 := st2.h) (fun r hr => ha2.h r (List.mem_cons_of_mem _ hr))]
                exact h'
              · exact hk.elim
            · exact hk.elim
          · exact hk.elim
        · exact hk.elim
      · exact hk.elim
    · rename_i sh kvs hr
      unfold keyK at hk
      split at hk
      · rename_i kt e h1
        split at hk
        · rename_i sh' h2
          split at hk
          · rename_i h3
            split at hk
            · rename_i kx h4
              split at hk
              · rename_i h5
                refine ⟨_, some (r, _), hk, fun r o' e => (by cases e; exact ⟨rfl, List.mem_cons_self ..⟩), fun st2 ha2 K' h' => ?_⟩
                obtain ⟨n1, n2, n3⟩ := hn st2 ha2
                simp only [aop, mapUpdateK, n1, n2, n3, hm, ha2.h r (List.mem_cons_self ..), hr, keyK, h1, h2, h3, h4, h5]
                exact h'
              · exact hk.elim
            · exact hk.elim
          · exact hk.elim
        · exact hk.elim
      · exact hk.elim
    · exact hk.elim
  · cases hf
theorem pick_or {A B : (AV → Prop) → Prop} (ha : Pick A) (hb : Pick B) : Pick fun K => A K ∨ B K := by
  intro K hk
  rcases hk with hk | hk
  · obtain ⟨v, h1, h2⟩ := ha K hk; exact ⟨v, h1, fun K' h => .inl (h2 K' h)⟩
  · obtain ⟨v, h1, h2⟩ := hb K hk; exact ⟨v, h1, fun K' h => .inr (h2 K' h)⟩
theorem frame_makeFunc {fn : Fn} {first cap : Array Operand} (hk : aop cx true ⟨dst, .makeFunc fn first cap, ty, pos, after, gd⟩ st K) (hf : foot cx ⟨dst, .makeFunc fn first cap, ty, pos, after, gd⟩ st = some (R, w)) :
    Framed cx ⟨dst, .makeFunc fn first cap, ty, pos, after, gd⟩ st R w K := by
  simp only [aop] at hk
  simp only [foot] at hf
  cases hf
  unfold makeFuncK at hk
  split at hk
  · rename_i f h1
    refine ⟨_, none, hk, fun r o' e => (by cases e), fun st2 ha2 K' h' => ?_⟩
    simp only [aop, h1, makeFuncK]
    have : cap.toList.map (fun x => rsv st2.h (ev st2.t x)) = cap.toList.map (fun x => rsv st.h (ev st.t x)) := List.map_congr_left fun x hx => by
      rw [ha2.t x (by simp only [Op.operands, Array.mem_append]; exact .inr (by simpa using hx))]
      exact rsv_same fun r hr => ha2.h r (mem_idlA (List.mem_map.2 ⟨x, hx, rfl⟩) r hr)
    rw [this]
    exact h'
  · exact hk.elim
end
end Go.Eng

namespace Go.Eng

section
variable {cx : Cx} {dst : Option Nat} {ty : Nat} {pos : String} {after : Array Edge} {gd : Option (Nat × Bool)} {st : St} {R : List Nat} {w : Option Nat} {K : HK}

theorem frame_load {t : Nat} {p : Operand} (hk : aop cx true ⟨dst, .load t p, ty, pos, after, gd⟩ st K) (hf : foot cx ⟨dst, .load t p, ty, pos, after, gd⟩ st = some (R, w)) : Framed cx ⟨dst, .load t p, ty, pos, after, gd⟩ st R w K := by
  simp only [aop] at hk
  have hn : ∀ st2, Alike ⟨dst, .load t p, ty, pos, after, gd⟩ R st st2 → ev st2.t p = ev st.t p := fun st2 ha => ha.t p (by simp [Op.operands])
  simp only [foot] at hf
  unfold loadHK at hk
  split at hf
  · rename_i cs hp
    cases hf
    rw [hp] at hk
    simp only at hk
    exact .pick (pick_load _ _ _) hk fun st2 ha K' h => by simp only [aop, loadHK, hn st2 ha, hp]; exact h
  · rename_i r off hp
    cases hf
    rw [hp] at hk
    simp only at hk
    split at hk
    · rename_i cs hr
      exact .pick (pick_load _ _ _) hk fun st2 ha K' h => by simp only [aop, loadHK, hn st2 ha, hp, ha.h r (List.mem_cons_self ..), hr]; exact h
    · rename_i cs hr
      exact .pick (pick_load _ _ _) hk fun st2 ha K' h => by simp only [aop, loadHK, hn st2 ha, hp, ha.h r (List.mem_cons_self ..), hr]; exact h
    · exact hk.elim
  · rename_i r n sz i off hp
    cases hf
    rw [hp] at hk
    simp only at hk
    split at hk
    · rename_i sz' es hr
      split at hk
      · rename_i hs
        exact .pick (pick_and (pick_ex fun _ => pick_and (pick_load _ _ _))) hk fun st2 ha K' h => by simp only [aop, loadHK, hn st2 ha, hp, ha.h r (List.mem_cons_self ..), hr, hs]; exact h
      · exact hk.elim
    · exact hk.elim
  · cases hf
theorem frame_assign {x : Operand} (hk : aop cx true ⟨dst, .assign x, ty, pos, after, gd⟩ st K) (hf : foot cx ⟨dst, .assign x, ty, pos, after, gd⟩ st = some (R, w)) : Framed cx ⟨dst, .assign x, ty, pos, after, gd⟩ st R w K := by
  simp only [aop] at hk
  have hn : ∀ st2, Alike ⟨dst, .assign x, ty, pos, after, gd⟩ R st st2 → ev st2.t x = ev st.t x := fun st2 ha => ha.t x (by simp [Op.operands])
  simp only [foot] at hf
  split at hf
  · cases hf
  · rename_i hx
    cases hf
    have same : ∀ (h : Nat → HO) (K : HK), assignK cx dst h (ev st.t x) K ↔ K (ev st.t x) h := by
      intro h K
      unfold assignK
      repeat' split
      all_goals first | exact Iff.rfl | (rename_i e; exact absurd e (hx _ _ _)) | (rename_i e _ _; exact absurd e (hx _ _ _)) | skip
      all_goals (rename_i e _; exact absurd e (hx _ _ _))
    exact .pick (pick_id _) ((same _ _).1 hk) fun st2 ha K' h => by simp only [aop]; rw [hn st2 ha]; exact (same _ _).2 h
theorem frame_slice {t : Nat} {x : Operand} {lo hi mx : Option Operand} (hk : aop cx true ⟨dst, .slice t x lo hi mx, ty, pos, after, gd⟩ st K) (hf : foot cx ⟨dst, .slice t x lo hi mx, ty, pos, after, gd⟩ st = some (R, w)) :
    Framed cx ⟨dst, .slice t x lo hi mx, ty, pos, after, gd⟩ st R w K := by
  simp only [aop] at hk
  have hn : ∀ st2, Alike ⟨dst, .slice t x lo hi mx, ty, pos, after, gd⟩ R st st2 → ev st2.t x = ev st.t x ∧ optInt st2.t lo = optInt st.t lo ∧ optInt st2.t hi = optInt st.t hi ∧ optInt st2.t mx = optInt st.t mx := by
    intro st2 ha
    have opt : ∀ y : Option Operand, (∀ z, y = some z → ev st2.t z = ev st.t z) → optInt st2.t y = optInt st.t y := by
      intro y hy
      cases y with
      | none => rfl
      | some z => simp only [optInt]; rw [hy z rfl]
    exact ⟨ha.t x (by simp [Op.operands]), opt lo (fun z e => ha.t z (by simp [Op.operands, e])), opt hi (fun z e => ha.t z (by simp [Op.operands, e])), opt mx (fun z e => ha.t z (by simp [Op.operands, e]))⟩
  simp only [foot] at hf
  split at hf
  · cases hf
  · rename_i hx
    cases hf
    have e3 : optInt st.t none = some none := rfl
    have hk2 : Pick (fun K1 => sliceK cx dst st.h t (ev st.t x) (optInt st.t lo) (optInt st.t hi) (some none) fun v _ => K1 v) ∧
        ∀ (h : Nat → HO) (K : HK), sliceK cx dst h t (ev st.t x) (optInt st.t lo) (optInt st.t hi) (some none) K ↔ sliceK cx dst st.h t (ev st.t x) (optInt st.t lo) (optInt st.t hi) (some none) (fun v _ => K v h) := by
      generalize ev st.t x = X at hx
      unfold sliceK
      constructor
      · repeat' split
        all_goals first | exact pick_false | exact pick_and (pick_id _) | exact pick_and (pick_and (pick_id _)) | skip
        all_goals first | (rename_i e; cases e; done) | skip
        all_goals (exfalso; exact hx _ _ rfl)
      · intro h K
        repeat' split
        all_goals first | exact Iff.rfl | skip
        all_goals exfalso
        all_goals first | exact hx _ _ rfl | (rename some none = some (some _) => e4; cases e4)
    rw [e3] at hk
    exact .pick hk2.1 ((hk2.2 _ _).1 hk) fun st2 ha K' h => by
      obtain ⟨n1, n2, n3, n4⟩ := hn st2 ha
      simp only [aop]
      rw [n1, n2, n3, n4, e3]
      exact (hk2.2 _ _).2 h
  · rename_i y tk es hx
    obtain ⟨d, rfl, e0⟩ := foot_own hf
    cases e0
    rw [hx] at hk
    unfold sliceK at hk
    split at hk
    · rename_i lo' hi' mx' e1 e2 e3
      split at hk
      · split at hk <;> first | exact hk.elim | (rename_i e; cases e)
      · rename_i e he
        split at hk
        · exact hk.elim
        · rename_i k hsz
          simp only at hk
          split at hk
          · exfalso
            rename_i e4
            simp only [optInt] at e3
            split at e3 <;> cases e3
          · rename_i m
            split at hk
            · rename some d = some _ => e5
              cases e5
              split at hk
              · rename_i hd
                refine ⟨_, some (d, _), hk.2.2, fun r o' e => (by cases e; exact ⟨rfl, List.mem_cons_self ..⟩), fun st2 ha2 K' h' => ?_⟩
                obtain ⟨n1, n2, n3, n4⟩ := hn st2 ha2
                simp only [aop]
                rw [n1, n2, n3, n4, hx, e1, e2, e3]
                unfold sliceK
                simp only [he]
                split
                · rename_i e0; rw [hsz] at e0; cases e0
                · rw [ha2.h d (List.mem_cons_self ..), hd]
                  exact ⟨hk.1, hk.2.1, h'⟩
              · exact hk.elim
            · exact hk.elim
      · exact hk.elim
    · exact hk.elim
  · cases hf
theorem frame_append {s x : Operand} {tys : Array TypeId} (hk : aop cx true ⟨dst, .call ⟨.builtin .append, #[s, x], tys⟩, ty, pos, after, gd⟩ st K) (hf : foot cx ⟨dst, .call ⟨.builtin .append, #[s, x], tys⟩, ty, pos, after, gd⟩ st = some (R, w)) :
    Framed cx ⟨dst, .call ⟨.builtin .append, #[s, x], tys⟩, ty, pos, after, gd⟩ st R w K := by
  have hk : builtinK cx dst st.h .append tys.toList [ev st.t s, ev st.t x] K := hk
  have hf : footApp cx dst (ev st.t s) (ev st.t x) = some (R, w) := hf
  have hn : ∀ st2, Alike ⟨dst, .call ⟨.builtin .append, #[s, x], tys⟩, ty, pos, after, gd⟩ R st st2 → ev st2.t s = ev st.t s ∧ ev st2.t x = ev st.t x := fun st2 ha =>
    ⟨ha.t s (by simp [Op.operands, Call.operands]), ha.t x (by simp [Op.operands, Call.operands])⟩
  have hgo : ∀ st2, Alike ⟨dst, .call ⟨.builtin .append, #[s, x], tys⟩, ty, pos, after, gd⟩ R st st2 → ∀ K' : HK, builtinK cx dst st2.h .append tys.toList [ev st.t s, ev st.t x] K' → aop cx true ⟨dst, .call ⟨.builtin .append, #[s, x], tys⟩, ty, pos, after, gd⟩ st2 K' := by
    intro st2 ha K' h
    rw [← (hn st2 ha).1, ← (hn st2 ha).2] at h
    exact h
  generalize tys.toList = l at hk hgo
  match l, hk, hgo with
  | [t, t'], hk, hgo =>
    simp only [builtinK] at hk hgo
    split at hk
    · rename_i ht
      simp only [ht] at hgo
      unfold appendK at hk hgo
      split at hk
      · rename_i e he
        simp only [he] at hgo
        split at hk
        · exact hk.elim
        · rename_i hz
          simp only [hz] at hgo
          split at hk
          · exact hk.elim
          · rename_i k hsz
            obtain ⟨es2, q1, q2⟩ := elems_same hk
            have hxr : ∀ d, R = d :: mslL (ev st.t x) → ∀ st2, Alike ⟨dst, .call ⟨.builtin .append, #[s, x], tys⟩, ty, pos, after, gd⟩ R st st2 → ∀ r n, ev st.t x = .msl r n → st2.h r = st.h r := fun d hR st2 ha r n e => ha.h r (by rw [hR, e]; simp [mslL])
            unfold footApp at hf
            split at hf
            · rename_i hs
              obtain ⟨d, hd0, e0⟩ := foot_own hf
              cases e0
              rw [hs] at q1 hgo
              simp only at q1 hgo
              obtain ⟨d', hd, v, y, q3, q4⟩ := newSlice_same q1.2
              rw [hd0] at hd; cases hd
              refine ⟨v, some (d, y), q3, fun r o' e => (by cases e; exact ⟨rfl, List.mem_cons_self ..⟩), fun st2 ha2 K' h' => hgo st2 ha2 K' ?_⟩
              split
              · rename_i e0; rw [hsz] at e0; cases e0
              · exact q2 st2.h (hxr d rfl st2 ha2) _ ⟨q1.1, q4 st2.h (ha2.h d (List.mem_cons_self ..)) K' h'⟩
            · rename_i r sz' es hs
              cases hf
              rw [hs] at q1 hgo
              simp only at q1 hgo
              split at q1
              · rename_i sz n hr
                split at q1
                · rename_i h1 h2
                  refine ⟨_, some (r, _), q1.2, fun r o' e => (by cases e; exact ⟨rfl, List.mem_cons_self ..⟩), fun st2 ha2 K' h' => hgo st2 ha2 K' ?_⟩
                  split
                  · rename_i e0; rw [hsz] at e0; cases e0
                  · refine q2 st2.h (hxr r rfl st2 ha2) _ ?_
                    simp only [ha2.h r (List.mem_cons_self ..), hr, h1, h2]
                    exact ⟨q1.1, h'⟩
                · exact q1.elim
              · exact q1.elim
            · rename_i r n hs
              cases hf
              rw [hs] at q1 hgo
              simp only at q1 hgo
              split at q1
              · rename_i sz es hr
                split at q1
                · rename_i h1
                  refine ⟨_, some (r, _), q1.2, fun r o' e => (by cases e; exact ⟨rfl, List.mem_cons_self ..⟩), fun st2 ha2 K' h' => hgo st2 ha2 K' ?_⟩
                  split
                  · rename_i e0; rw [hsz] at e0; cases e0
                  · refine q2 st2.h (hxr r rfl st2 ha2) _ ?_
                    simp only [ha2.h r (List.mem_cons_self ..), hr, h1]
                    exact ⟨q1.1, h'⟩
                · exact q1.elim
              · exact q1.elim
            · cases hf
      · exact hk.elim
    · exact hk.elim
  | [], hk, _ => exact hk.elim
  | [_], hk, _ => exact hk.elim
  | _ :: _ :: _ :: _, hk, _ => exact hk.elim
theorem pick_zero (T : Tab) (t : Nat) : Pick (zeroAV T t) := by
  unfold zeroAV
  repeat' split
  all_goals first | exact pick_false | exact pick_id _
theorem pick_found (T : Tab) (ty : Nat) (ok : Bool) (kvs : List (Value × AV)) (kx : Value) : Pick (foundD T ty ok kvs kx) := by
  unfold foundD
  repeat' split
  · refine pick_or (pick_ex fun a => pick_and (pick_id _)) (pick_and ?_)
    intro K hk
    obtain ⟨v, h1, h2⟩ := pick_zero T _ _ hk
    exact ⟨_, h1, fun K' h => h2 _ h⟩
  · exact pick_or (pick_ex fun a => pick_and (pick_id _)) (pick_and (pick_zero T _))
  · exact pick_false
theorem pick_key (T : Tab) (ty : Nat) (sh : Shape) (k : AV) {F : Value → (AV → Prop) → Prop} (h : ∀ x, Pick (F x)) : Pick fun K => keyK T ty sh k fun kx => F kx K := by
  unfold keyK
  repeat' split
  all_goals first | exact pick_false | exact h _
theorem frame_lookup {t : Nat} {m k : Operand} {ok : Bool} (hk : aop cx true ⟨dst, .lookup t m k ok, ty, pos, after, gd⟩ st K) (hf : foot cx ⟨dst, .lookup t m k ok, ty, pos, after, gd⟩ st = some (R, w)) :
    Framed cx ⟨dst, .lookup t m k ok, ty, pos, after, gd⟩ st R w K := by
  simp only [aop] at hk
  have hn : ∀ st2, Alike ⟨dst, .lookup t m k ok, ty, pos, after, gd⟩ R st st2 → ev st2.t m = ev st.t m ∧ ev st2.t k = ev st.t k := fun st2 ha => ⟨ha.t m (by simp [Op.operands]), ha.t k (by simp [Op.operands])⟩
  simp only [foot] at hf
  unfold lookupD at hk
  split at hf
  · rename_i sh kvs hm
    cases hf
    rw [hm] at hk
    simp only at hk
    exact .pick (pick_key _ _ _ _ fun _ => pick_found _ _ _ _ _) hk fun st2 ha K' h => by simp only [aop, lookupD, hn st2 ha, hm]; exact h
  · rename_i r hm
    cases hf
    rw [hm] at hk
    simp only at hk
    split at hk
    all_goals first | exact hk.elim | (rename_i e; exact .pick (pick_key _ _ _ _ fun _ => pick_found _ _ _ _ _) hk fun st2 ha K' h => by simp only [aop, lookupD, hn st2 ha, hm, ha.h r (List.mem_cons_self ..), e]; exact h)
  · cases hf
theorem pick_len (T : Tab) (t : Nat) (h : Nat → HO) (x : AV) : Pick (lenHK T t h x) := by
  unfold lenHK
  repeat' split
  all_goals first | exact pick_false | exact pick_id _
theorem len_eq {T : Tab} {t : Nat} {h h2 : Nat → HO} {x : AV} (e : ∀ r, x = .mref r → h2 r = h r) {K : AV → Prop} : lenHK T t h2 x K = lenHK T t h x K := by
  cases x <;> first | rfl | skip
  rename_i r
  unfold lenHK
  simp only [e r rfl]
theorem frame_len {x : Operand} {tys : Array TypeId} (hk : aop cx true ⟨dst, .call ⟨.builtin .len, #[x], tys⟩, ty, pos, after, gd⟩ st K) (hf : foot cx ⟨dst, .call ⟨.builtin .len, #[x], tys⟩, ty, pos, after, gd⟩ st = some (R, w)) :
    Framed cx ⟨dst, .call ⟨.builtin .len, #[x], tys⟩, ty, pos, after, gd⟩ st R w K := by
  have hk : builtinK cx dst st.h .len tys.toList [ev st.t x] K := hk
  have hf : footCall cx dst (.builtin .len) st.t [ev st.t x] = some (R, w) := hf
  have hn : ∀ st2, Alike ⟨dst, .call ⟨.builtin .len, #[x], tys⟩, ty, pos, after, gd⟩ R st st2 → ev st2.t x = ev st.t x := fun st2 ha => ha.t x (by simp [Op.operands, Call.operands])
  have hgo : ∀ st2, Alike ⟨dst, .call ⟨.builtin .len, #[x], tys⟩, ty, pos, after, gd⟩ R st st2 → ∀ K' : HK, builtinK cx dst st2.h .len tys.toList [ev st.t x] K' → aop cx true ⟨dst, .call ⟨.builtin .len, #[x], tys⟩, ty, pos, after, gd⟩ st2 K' := by
    intro st2 ha K' h
    rw [← hn st2 ha] at h
    exact h
  generalize tys.toList = l at hk hgo
  match l, hk, hgo with
  | [t], hk, hgo =>
    have hR : ∀ r, ev st.t x = .mref r → r ∈ R := fun r e => by
      rw [e] at hf
      cases hf; exact List.mem_cons_self ..
    have hw : w = none := by
      unfold footCall at hf
      split at hf <;> first | (cases hf; rfl) | (rename_i e; cases e) | (rename_i e _; cases e) | skip
      all_goals (cases hf)
    subst hw
    exact .pick (pick_len _ _ _ _) hk fun st2 ha K' h => hgo st2 ha K' (by
      simp only [builtinK]
      rw [len_eq fun r e => ha.h r (hR r e)]
      exact h)
  | [], hk, _ => exact hk.elim
  | _ :: _ :: _, hk, _ => exact hk.elim
end
end Go.Eng

namespace Go.Eng

section
variable {cx : Cx} {op : Op} {dst : Option Nat} {ty : Nat} {pos : String} {after : Array Edge} {gd : Option (Nat × Bool)} {st : St} {R : List Nat} {w : Option Nat} {K : HK}

theorem args_len {l : List AV} {t : Nat → AV} {a : Array Operand} (h : a.toList.map (ev t) = l) : a.size = l.length := by rw [← h]; simp
theorem Framed.toL (h : Framed cx ⟨dst, op, ty, pos, after, gd⟩ st R w K) : FramedL cx ⟨dst, op, ty, pos, after, gd⟩ st R w K := by
  obtain ⟨v, e, h1, h2, h3⟩ := h
  cases e with
  | none => exact ⟨v, [], h1, fun r o' e => (by cases e), h3⟩
  | some p => exact ⟨v, [p], h1, fun r o' e => by
      obtain rfl := List.mem_singleton.1 e
      obtain ⟨a, b⟩ := h2 r o' rfl
      exact ⟨by rw [a]; exact .inl rfl, b⟩, h3⟩
theorem frame_call {c : Call} (hk : aop cx true ⟨dst, .call c, ty, pos, after, gd⟩ st K) (hf : foot cx ⟨dst, .call c, ty, pos, after, gd⟩ st = some (R, w)) : FramedL cx ⟨dst, .call c, ty, pos, after, gd⟩ st R w K := by
  obtain ⟨cal, args, tys⟩ := c
  have hargs : ∀ st2, Alike ⟨dst, .call ⟨cal, args, tys⟩, ty, pos, after, gd⟩ R st st2 → args.toList.map (ev st2.t) = args.toList.map (ev st.t) := fun st2 ha =>
    List.map_congr_left fun x hx => ha.t x (by simp only [Op.operands, Call.operands, Array.mem_append]; exact .inr (by simpa using hx))
  cases cal with
  | invoke r m => exact hk.elim
  | value f =>
    have hk : callK cx true dst st (ev st.t f) (args.toList.map (ev st.t)) K := hk
    have hf : footCall cx dst (.value f) st.t (args.toList.map (ev st.t)) = some (R, w) := hf
    unfold footCall at hf
    unfold callK at hk
    simp only at hf hk
    have hn := hargs
    split at hf
    · rename_i hdc
      rw [hdc] at hk
      cases hf
      obtain ⟨res, h1, h2⟩ := hk
      refine Framed.toL ⟨res, none, h2, fun r o' e => (by cases e), fun st2 ha K' h' => ?_⟩
      show callK cx true dst st2 (ev st2.t f) (args.toList.map (ev st2.t)) K'
      rw [hargs st2 ha, ha.t f (by simp [Op.operands, Call.operands])]
      unfold callK
      simp only [hdc]
      refine ⟨res, ?_, h'⟩
      rw [str_same (h := st.h) (fun r hr => ha.h r (List.mem_append_left _ hr)), strA_same (h := st.h) (fun r hr => ha.h r (List.mem_append_right _ hr))]
      exact h1
    · rename_i hdc
      rw [hdc] at hk
      simp only at hk
      cases dst with
      | none => exact hk.elim
      | some d =>
        obtain ⟨n, sz, es, h1, h2, h3⟩ := hk
        have hf : some (newId d 0 :: (idl (ev st.t f) ++ idlA (args.toList.map (ev st.t))), some (newId d 0)) = some (R, w) := hf
        cases hf
        refine Framed.toL ⟨_, some (newId d 0, _), h3, fun r o' e => (by cases e; exact ⟨rfl, List.mem_cons_self ..⟩), fun st2 ha K' h' => ?_⟩
        show callK cx true (some d) st2 (ev st2.t f) (args.toList.map (ev st2.t)) K'
        rw [hargs st2 ha, ha.t f (by simp [Op.operands, Call.operands])]
        unfold callK
        simp only [hdc]
        refine ⟨n, sz, es, ?_, ?_, h'⟩
        · have : newFree st2.h d 1 = newFree st.h d 1 := by simp only [newFree, ha.h (newId d 0) (List.mem_cons_self ..)]
          rw [this]; exact h1
        · rw [str_same (h := st.h) (fun r hr => ha.h r (List.mem_cons_of_mem _ (List.mem_append_left _ hr))), strA_same (h := st.h) (fun r hr => ha.h r (List.mem_cons_of_mem _ (List.mem_append_right _ hr)))]
          exact h2
    · rename_i hdc
      rw [hdc] at hk
      have hk : turnK cx 0 dst st.h (ev st.t f) (args.toList.map (ev st.t)) K := hk
      split at hf
      · rename_i r n l hl
        cases hf
        have hk2 := hk
        unfold turnK at hk2
        rw [hl] at hk2
        split at hk2
        · rename_i d0 f0 r0 n0 l0 e1 e2 z1 z2
          cases e2
          split at hk2
          · rename_i vs hvs
            split at hk2
            · rename_i sz es hr
              obtain ⟨n', es', h1, h2⟩ := hk2
              refine Framed.toL ⟨_, some (r, _), h2, fun r o' e => (by cases e; exact ⟨rfl, List.mem_cons_self ..⟩), fun st2 ha K' h' => ?_⟩
              show callK cx true _ st2 (ev st2.t f) (args.toList.map (ev st2.t)) K'
              rw [hargs st2 ha, ha.t f (by simp [Op.operands, Call.operands]), hl, e1]
              unfold callK
              simp only [hdc]
              unfold turnK
              simp only [hvs, ha.h r (List.mem_cons_self ..), hr]
              exact ⟨n', es', h1, h'⟩
            · exact hk2.elim
          · exact hk2.elim
        · exact hk2.elim
      · cases hf
    · rename_i k hdc
      rw [hdc] at hk
      cases hb : Nat.beq k 1 with
      | true =>
        have hb2 : Nat.beq (k + 1) 2 = true := hb
        have hk : tokenK cx dst st (ev st.t f) (args.toList.map (ev st.t)) K := by
          have hk2 : (match Nat.beq (k + 1) 2 with | true => tokenK cx dst st (ev st.t f) (args.toList.map (ev st.t)) K | false => turnK cx (k + 1) dst st.h (ev st.t f) (args.toList.map (ev st.t)) K) := hk
          rw [hb2] at hk2; exact hk2
        rw [hb] at hf
        cases dst with
        | none => exact hk.elim
        | some d =>
          obtain ⟨sz, es, h1, h2, h3⟩ := hk
          have hf : some (newId d 0 :: (idl (ev st.t f) ++ idlA (args.toList.map (ev st.t))), some (newId d 0)) = some (R, w) := hf
          cases hf
          refine Framed.toL ⟨_, some (newId d 0, _), h3, fun r o' e => (by cases e; exact ⟨rfl, List.mem_cons_self ..⟩), fun st2 ha K' h' => ?_⟩
          show callK cx true (some d) st2 (ev st2.t f) (args.toList.map (ev st2.t)) K'
          rw [hargs st2 ha, ha.t f (by simp [Op.operands, Call.operands])]
          unfold callK
          simp only [hdc, hb2]
          refine ⟨sz, es, ?_, ?_, h'⟩
          · have : newFree st2.h d 1 = newFree st.h d 1 := by simp only [newFree, ha.h (newId d 0) (List.mem_cons_self ..)]
            rw [this]; exact h1
          · rw [str_same (h := st.h) (fun r hr => ha.h r (List.mem_cons_of_mem _ (List.mem_append_left _ hr))), strA_same (h := st.h) (fun r hr => ha.h r (List.mem_cons_of_mem _ (List.mem_append_right _ hr)))]
            exact h2
      | false =>
        have hb2 : Nat.beq (k + 1) 2 = false := hb
        rw [hb] at hf
        have hk : turnK cx (k + 1) dst st.h (ev st.t f) (args.toList.map (ev st.t)) K := by
          have hk2 : (match Nat.beq (k + 1) 2 with | true => tokenK cx dst st (ev st.t f) (args.toList.map (ev st.t)) K | false => turnK cx (k + 1) dst st.h (ev st.t f) (args.toList.map (ev st.t)) K) := hk
          rw [hb2] at hk2; exact hk2
        obtain ⟨d, r, n, l, rfl, hl, e0⟩ := foot2_spec hf
        cases e0
        unfold turnK at hk
        rw [hl] at hk
        split at hk
        · rename_i d0 f0 r0 n0 l0 e9 e1 e2
          cases e9
          cases e2
          split at hk
          · rename_i vs hvs
            split at hk
            · rename_i sz es hr
              obtain ⟨n', es', h0, h1, h2⟩ := hk
              have h00 := h0
              simp only [Bool.and_eq_true, Nat.blt_eq] at h00
              refine ⟨_, [(r, .dead), (newId d 0, _)], h2, fun r' o' e => ?_, fun st2 ha K' h' => ?_⟩
              · rcases List.mem_cons.1 e with e | e
                · cases e
                  refine ⟨.inr ⟨by unfold newId; omega, .inl ?_⟩, List.mem_cons_self ..⟩
                  rw [Nat.add_mul_mod_self_left, Nat.mod_eq_of_lt h00.1.2]
                · obtain e := List.mem_singleton.1 e
                  cases e
                  refine ⟨.inr ⟨by unfold newId; omega, .inr ?_⟩, List.mem_cons_of_mem _ (List.mem_cons_self ..)⟩
                  rw [Nat.add_mul_div_left _ _ (by decide), Nat.div_eq_of_lt h00.1.2, Nat.zero_add]
              show callK cx true _ st2 (ev st2.t f) (args.toList.map (ev st2.t)) K'
              rw [hargs st2 ha, ha.t f (by simp [Op.operands, Call.operands]), hl, e1]
              unfold callK
              simp only [hdc, hb2]
              unfold turnK
              simp only [hvs, ha.h r (List.mem_cons_self ..), hr]
              have : newFree st2.h d 1 = newFree st.h d 1 := by simp only [newFree, ha.h (newId d 0) (List.mem_cons_of_mem _ (List.mem_cons_self ..))]
              exact ⟨n', es', by rw [this]; exact h0, h1, h'⟩
            · exact hk.elim
          · exact hk.elim
        · exact hk.elim
  | builtin b =>
    refine Framed.toL ?_
    have mm : ∀ f : Int → Int → Int, (∀ (d : Option Nat) (h : Nat → HO) (tys : List Nat) (args : List AV) (K : HK), builtinK cx d h b tys args K = (match args with | [x, y] => mmK f x y fun v => K v h | _ => False)) → R = [] ∧ w = none → Framed cx ⟨dst, .call ⟨.builtin b, args, tys⟩, ty, pos, after, gd⟩ st R w K := by
      rintro f hb ⟨rfl, rfl⟩
      have hk : builtinK cx dst st.h b tys.toList (args.toList.map (ev st.t)) K := hk
      rw [hb] at hk
      split at hk
      · rename_i x y e
        refine .pick (pick_mm f x y) hk fun st2 ha K' h => ?_
        show builtinK cx dst st2.h b tys.toList (args.toList.map (ev st2.t)) K'
        rw [hb, hargs st2 ha, e]
        exact h
      · exact hk.elim
    cases b
    case max => exact mm max (fun d h tys args K => by cases args with | nil => rfl | cons x l => cases l with | nil => rfl | cons y l => cases l <;> rfl) (by
      have hf : footCall cx dst (.builtin .max) st.t (args.toList.map (ev st.t)) = some (R, w) := hf
      simp only [footCall] at hf; cases hf; exact ⟨rfl, rfl⟩)
    case min => exact mm min (fun d h tys args K => by cases args with | nil => rfl | cons x l => cases l with | nil => rfl | cons y l => cases l <;> rfl) (by
      have hf : footCall cx dst (.builtin .min) st.t (args.toList.map (ev st.t)) = some (R, w) := hf
      simp only [footCall] at hf; cases hf; exact ⟨rfl, rfl⟩)
    case append =>
      obtain ⟨l⟩ := args
      match l, hk, hf with
      | [s, x], hk, hf => exact frame_append hk hf
      | [], hk, hf => cases tys; exact hk.elim
      | [_], hk, hf => exact hk.elim
      | _ :: _ :: _ :: _, hk, hf => exact hk.elim
    case len =>
      obtain ⟨l⟩ := args
      match l, hk, hf with
      | [x], hk, hf => exact frame_len hk hf
      | [], hk, hf => exact hk.elim
      | _ :: _ :: _, hk, hf => exact hk.elim
    all_goals exact hk.elim
theorem aop_frame1 {o : Oper} (hc : ∀ c, o.op ≠ .call c) (hk : aop cx true o st K) (hf : foot cx o st = some (R, w)) : Framed cx o st R w K := by
  obtain ⟨dst, op, ty, pos, after, gd⟩ := o
  cases op with
  | call c => exact absurd rfl (hc c)
  | alloc e => exact frame_alloc hk hf
  | box e x => exact frame_box hk hf
  | buildSlice t n ps => exact frame_buildSlice hk hf
  | makeSlice t n c => exact frame_makeSlice hk hf
  | makeMap t r => exact frame_makeMap hk hf
  | store t p x => exact frame_store hk hf
  | mapUpdate t m k x => exact frame_mapUpdate hk hf
  | makeFunc fn first cap => exact frame_makeFunc hk hf
  | load t p => exact frame_load hk hf
  | assign x => exact frame_assign hk hf
  | slice t x lo hi mx => exact frame_slice hk hf
  | lookup t x i ok => exact frame_lookup hk hf
  | move x =>
    cases hf
    exact .pick (pick_id _) hk fun st2 ha K' h => by simp only [aop, ha.t x (by simp [Op.operands])]; exact h
  | pick c a b =>
    cases hf
    exact .pick (pick_pick _ _ _) hk fun st2 ha K' h => by simp only [aop, ha.t c (by simp [Op.operands]), ha.t a (by simp [Op.operands]), ha.t b (by simp [Op.operands])]; exact h
  | nilCheck x =>
    cases hf
    exact .pick (pick_nil _) hk fun st2 ha K' h => by simp only [aop, ha.t x (by simp [Op.operands])]; exact h
  | binOp op t x y u =>
    simp only [foot] at hf
    split at hf
    · cases hf
    · rename_i hx
      cases hf
      exact .pick (pick_bin _ _ _ _ _ hx) hk fun st2 ha K' h => by simp only [aop, ha.t x (by simp [Op.operands]), ha.t y (by simp [Op.operands])]; exact h
  | unOp op t x =>
    cases hf
    exact .pick (pick_unop _ _) hk fun st2 ha K' h => by simp only [aop, ha.t x (by simp [Op.operands])]; exact h
  | convert s t x =>
    cases hf
    exact .pick (pick_conv _ _ _ _) hk fun st2 ha K' h => by simp only [aop, ha.t x (by simp [Op.operands])]; exact h
  | fieldAddr s x f =>
    cases hf
    exact .pick (pick_field _ _ _ _) hk fun st2 ha K' h => by simp only [aop, ha.t x (by simp [Op.operands])]; exact h
  | field s x f =>
    cases hf
    exact .pick (pick_fieldV _ _ _ _) hk fun st2 ha K' h => by simp only [aop, ha.t x (by simp [Op.operands])]; exact h
  | indexAddr t x i =>
    cases hf
    exact .pick (pick_indexAddr _ _ _ _) hk fun st2 ha K' h => by simp only [aop, ha.t x (by simp [Op.operands]), ha.t i (by simp [Op.operands])]; exact h
  | index t x i =>
    cases hf
    exact .pick (pick_index _ _ _ _) hk fun st2 ha K' h => by simp only [aop, ha.t x (by simp [Op.operands]), ha.t i (by simp [Op.operands])]; exact h
  | extract x i =>
    cases hf
    exact .pick (pick_extract _ _) hk fun st2 ha K' h => by simp only [aop, ha.t x (by simp [Op.operands])]; exact h
  | build t ps =>
    cases hf
    refine .pick (pick_build _ _ _ _) hk fun st2 ha K' h => ?_
    have hx : ∀ p ∈ ps.toList, ev st2.t p.2 = ev st.t p.2 := fun p hp => ha.t p.2 (by
      simp only [Op.operands, List.mem_toArray]
      exact List.mem_map.2 ⟨p, hp, rfl⟩)
    simp only [aop]
    have fill : ∀ (pl : Nat → Option (Nat × Nat)) (l : List (Nat × Operand)) (cs : List AV) (K : List AV → Prop), (∀ p ∈ l, ev st2.t p.2 = ev st.t p.2) → fillK pl cs st2.t l K = fillK pl cs st.t l K := by
      intro pl l
      induction l with
      | nil => intro cs K _; rfl
      | cons p l ih =>
        intro cs K hp
        obtain ⟨i, x⟩ := p
        have h1 : ev st2.t x = ev st.t x := hp (i, x) (List.mem_cons_self ..)
        have h2 : ∀ cs, fillK pl cs st2.t l K = fillK pl cs st.t l K := fun cs => ih cs K (fun p hp' => hp p (List.mem_cons_of_mem _ hp'))
        simp only [fillK, h1, h2]
    unfold buildK at h ⊢
    simp only [fill _ _ _ _ hx]
    exact h
  | _ => cases hf
theorem aop_frame {o : Oper} (hk : aop cx true o st K) (hf : foot cx o st = some (R, w)) : FramedL cx o st R w K := by
  obtain ⟨dst, op, ty, pos, after, gd⟩ := o
  by_cases h : ∃ c, op = .call c
  · obtain ⟨c, rfl⟩ := h
    exact frame_call hk hf
  · exact Framed.toL (aop_frame1 (fun c e => h ⟨c, e⟩) hk hf)
end
end Go.Eng
