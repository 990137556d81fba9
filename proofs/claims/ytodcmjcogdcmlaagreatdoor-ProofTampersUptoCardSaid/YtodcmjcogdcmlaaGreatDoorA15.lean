/- Lemmas for the claims of this seat, without a condition: part 15 (EngZD, EngZE, EngZF, EngZG, EngZH, EngZI, EngZJ). -/
import Derived.Test.YtodcmjcogdcmlaaGreatDoorA14
import Derived.Deep.LoopGhost
import Derived.Sort.Grow
import Derived.Shelf.GgSortFunc.InsertionK
namespace Go.Eng

theorem idIn_used {h : Nat → HO} {r : Nat} (e : idIn h r = true) : used h r := by
  unfold idIn at e
  unfold used
  split at e
  · cases e
  · rename_i hh; exact hh
theorem Rep.ids0 {g : Gh} {w : World} {U : Nat → Prop} {h : Nat → HO} {av : AV} {x : Value} (r : Rep g w U av x) (e : ids0 h av = true) : Rep g w (used h) av x := by
  cases r with
  | v => exact .v _ _
  | junk => exact .junk _ _
  | snil => exact .snil _ _ _
  | slice _ es b off sz cap val hc hl hcell hrep => exact .slice _ es b off sz cap val hc hl hcell hrep
  | tok _ r sz es x hs hl hu ht hn hx => exact .tok _ r sz es x ((Rep.slice_none hs).up _) hl (idIn_used e) ht hn hx
  | msl _ r n a cap hu ht hn ha hx => exact .msl _ r n a cap (idIn_used e) ht hn ha hx
  | agg => cases e
  | tup => cases e
  | cptr _ cs b off val hcell hrep => exact .cptr _ cs b off val hcell hrep
  | ref _ r off b hu ht hx => exact .ref _ r off b (idIn_used e) ht hx
  | eref _ r n sz i off b cap hu ht hn hx => exact .eref _ r n sz i off b cap (idIn_used e) ht hn hx
  | mref _ r b hu ht hx => exact .mref _ r b (idIn_used e) ht hx
  | cmap _ sh kvs b es ck hS hb hm hv => exact .cmap _ sh kvs b es ck hS hb hm hv
  | clo => cases e
theorem idsL_mem {h : Nat → HO} {cs : List AV} (e : idsL h cs = true) {i : Nat} {av : AV} (hi : cs[i]? = some av) : ids0 h av = true := by
  induction cs generalizing i with
  | nil => simp at hi
  | cons c cs ih =>
    unfold idsL at e
    split at e
    · rename_i hc
      cases i with
      | zero => simp only [List.getElem?_cons_zero, Option.some.injEq] at hi; exact hi ▸ hc
      | succ i => exact ih e (by simpa using hi)
    · cases e
theorem idsKV_mem {h : Nat → HO} {kvs : List (Value × AV)} (e : idsKV h kvs = true) {i : Nat} {kv : Value × AV} (hi : kvs[i]? = some kv) : idsB h kv.2 = true := by
  induction kvs generalizing i with
  | nil => simp at hi
  | cons c cs ih =>
    unfold idsKV at e
    split at e
    · rename_i hc
      cases i with
      | zero => simp only [List.getElem?_cons_zero, Option.some.injEq] at hi; exact hi ▸ hc
      | succ i => exact ih e (by simpa using hi)
    · cases e
theorem Rep.ids {g : Gh} {w : World} {U : Nat → Prop} {h : Nat → HO} {av : AV} {x : Value} (r : Rep g w U av x) (e : idsB h av = true) : Rep g w (used h) av x := by
  cases r with
  | agg _ cs vs hs h1 hr => exact .agg _ cs vs hs h1 fun i av x q1 q2 => (hr i av x q1 q2).ids0 (idsL_mem e q1)
  | tup _ cs vs hs hr => exact .tup _ cs vs hs fun i av x q1 q2 => (hr i av x q1 q2).ids0 (idsL_mem e q1)
  | clo _ f cs vs hs hr => exact .clo _ f cs vs hs fun i av x q1 q2 => (hr i av x q1 q2).ids0 (idsL_mem e q1)
  | v => exact .v _ _
  | junk => exact .junk _ _
  | snil => exact .snil _ _ _
  | slice _ es b off sz cap val hc hl hcell hrep => exact .slice _ es b off sz cap val hc hl hcell hrep
  | tok _ r sz es x hs hl hu ht hn hx => exact .tok _ r sz es x ((Rep.slice_none hs).up _) hl (idIn_used e) ht hn hx
  | msl _ r n a cap hu ht hn ha hx => exact .msl _ r n a cap (idIn_used e) ht hn ha hx
  | cptr _ cs b off val hcell hrep => exact .cptr _ cs b off val hcell hrep
  | ref _ r off b hu ht hx => exact .ref _ r off b (idIn_used e) ht hx
  | eref _ r n sz i off b cap hu ht hn hx => exact .eref _ r n sz i off b cap (idIn_used e) ht hn hx
  | mref _ r b hu ht hx => exact .mref _ r b (idIn_used e) ht hx
  | cmap _ sh kvs b es ck hS hb hm hv => exact .cmap _ sh kvs b es ck hS hb hm hv

theorem leT_spec {st : St} {h : Nat → HO} : ∀ {l : List (Nat × AV)}, leT st h l → ∀ i, envOf l i = .junk ∨ (st.t i = envOf l i ∧ idsB h (envOf l i) = true)
  | [], _, i => .inl rfl
  | (j, a) :: l, ⟨h1, h2⟩, i => by
    unfold envOf
    by_cases e : i = j
    · subst e; simp only [Nat.beq_refl, cond_true]; exact .inr h1
    · simp only [beq_ne e, cond_false]; exact leT_spec h2 i
theorem leH_spec {st : St} {h hb : Nat → HO} (hhb : ∀ j, hb j = .free ∨ (st.h j = hb j ∧ idsH h (hb j) = true)) : ∀ {l : List (Nat × HO)}, leH st h l → ∀ i, heapOf l hb i = .free ∨ (st.h i = heapOf l hb i ∧ idsH h (heapOf l hb i) = true)
  | [], _, i => hhb i
  | (j, a) :: l, ⟨h1, h2⟩, i => by
    unfold heapOf
    by_cases e : i = j
    · subst e; simp only [Nat.beq_refl, cond_true]; exact .inr h1
    · simp only [beq_ne e, cond_false]; exact leH_spec hhb h2 i

def ExtOk (cx : Cx) (h0 : Nat → HO) : Prop := match cx.ext with | false => ∀ i, h0 i = .free | true => ∀ i, h0 i ≠ .free → 1000 ≤ i ∧ i < 2000

section
variable {P : Program} {N : Nat} {w0 : World} {g0 : Gh} {h0 : Nat → HO} {st : St} {g : Gh} {a : Act} {w : World} {cx : Cx}

theorem SR.weaken (hE : ExtOk cx h0) (hS : SR N w0 g0 h0 st g a w) {s : LS} (hle : St.le cx st s) : SR N w0 g0 h0 s.st g a w := by
  obtain ⟨h1, h2, h3, h4⟩ := hle
  have hT := leT_spec h1
  have hH : ∀ i, s.st.h i = .free ∨ (st.h i = s.st.h i ∧ idsH s.st.h (s.st.h i) = true) := leH_spec h3 h2
  have hlive : ∀ r, (s.st.h r).live → (st.h r).live := fun r hl => by
    rcases hH r with e | ⟨e, _⟩
    · rw [e] at hl; exact hl.elim
    · rw [e]; exact hl
  have hI := hS.inv
  refine ⟨⟨hI.os, hI.tape, hI.output, hI.size, hI.frame, hI.slt, fun r => ?_, fun r r' b l l' => hI.inj r r' b (hlive r l) (hlive r' l'), fun r b l => hI.loc r b (hlive r l), hI.sg, hI.glob⟩, ⟨hS.le.gh, fun i hi => ?_, hS.le.keeps⟩, hS.dfs, hS.size, fun i => ?_⟩
  · rcases hH r with e | ⟨e, e2⟩
    · rw [e]; trivial
    · have ho := hI.objs r
      rw [e] at ho
      generalize s.st.h r = o at ho e2
      cases o with
      | cells cs =>
        obtain ⟨t, b, E, vs, a1, a2, a3, a4, a5⟩ := ho
        exact ⟨t, b, E, vs, a1, a2, a3, ⟨a4.1, a4.2.1, fun i av x q1 q2 => (a4.2.2 i av x q1 q2).ids0 (idsL_mem e2 q1)⟩, a5⟩
      | mapU sh kvs =>
        obtain ⟨t, b, es, ck, a1, a2, a3, a4, a5, a6⟩ := ho
        exact ⟨t, b, es, ck, a1, a2, a3, a4, fun i kv e q1 q2 => (a5 i kv e q1 q2).ids (idsKV_mem e2 q1), a6⟩
      | _ => exact ho
  · have hu := hS.le.us i hi
    unfold ExtOk at hE
    split at hE
    · exact absurd (hE i) hi
    · rename_i hx
      rw [hx] at h4
      exact h4 i (hE i hi).1 (hE i hi).2 hu
  · show Rep g w (used s.st.h) (envOf s.t i) _
    rcases hT i with e | ⟨e, e2⟩
    · rw [e]; exact .junk _ _
    · rw [← e] at e2 ⊢
      exact (hS.slots i).ids e2

def Ex.real : Ex → Exit
  | .normal => .normal
  | .exit id => .exit id
  | .ret => .ret
def dstB (N : Nat) (o : Oper) : Bool := match o.dst with | some d => Nat.blt d N | none => true
def codeOk (N : Nat) : Code → Bool
  | .region _ ops _ => ops.toList.all (dstB N)
  | .seq a b => codeOk N a && codeOk N b
  | .cond _ a b => codeOk N a && codeOk N b
  | .block _ c => codeOk N c
  | .loop c => codeOk N c
  | _ => true

theorem awp_ok (hP : cx.P = P) (hT : TabOk P cx.T) (hm : P.follows .mixedOrders = true) (hE : ExtOk cx h0) : ∀ (c : Code), codeOk N c = true → ∀ {Qa : Ex → St → Prop} {Q : Exit → Act → World → Prop},
    (∀ e st g a w, Qa e st → SR N w0 g0 h0 st g a w → Q e.real a w) → ∀ {st : St} {g : Gh} {a : Act} {w : World}, SR N w0 g0 h0 st g a w → awp cx c Qa st → c.wp P Q a w := by
  intro c
  induction c with
  | skip => intro _ Qa Q hQ st g a w hS hk; exact wp_skip (hQ .normal _ _ _ _ hk hS)
  | label l => intro _ Qa Q hQ st g a w hS hk; exact wp_label (hQ .normal _ _ _ _ hk hS)
  | exit id => intro _ Qa Q hQ st g a w hS hk; exact wp_exit (hQ (.exit id) _ _ _ _ hk hS)
  | ret => intro _ Qa Q hQ st g a w hS hk; exact wp_ret (hQ .ret _ _ _ _ hk hS)
  | region id ops dr =>
    intro hc Qa Q hQ st g a w hS hk
    have hd : ∀ o ∈ ops.toList, ∀ i, o.dst = some i → i < N := fun o ho i hi => by
      have := (List.all_eq_true.1 hc) o ho
      simpa [dstB, hi] using this
    have go : ∀ (st : St) (g : Gh) (hS : SR N w0 g0 h0 st g a w) (cx' : Cx), cx'.P = P → TabOk P cx'.T → aregion cx' ops dr st (Qa .normal) → (Code.region id ops dr).wp P Q a w := by
      intro st g hS cx' hP hT hk
      unfold aregion at hk
      split at hk
      · exact wp_region_list (aops_ok hP hT (fun st' g' a' w' q1 q2 => hQ .normal _ _ _ _ q1 q2) ops.toList hd hS hk)
      · obtain ⟨_, FT, hk⟩ := adraw_any hk
        obtain ⟨i1, i2⟩ := hS.inv.heapEq (w' := { w with drawn := w.drawn + 1 }) ⟨rfl, rfl, rfl⟩ rfl
        have hS' : SR N w0 g0 h0 st g a { w with drawn := w.drawn + 1 } := ⟨i1, hS.le.trans i2, hS.dfs, hS.size, fun i => (hS.slots i).le i2⟩
        exact wp_region_any hm (aAny_ok hP hT (fun st' g' a' w' q1 q2 => hQ .normal _ _ _ _ q1 q2) (fun j o ho => hd o (by simpa using Array.mem_of_getElem? ho)) _ _ hS' hk)
    have go2 : ∀ (st : St) (g : Gh) (hS : SR N w0 g0 h0 st g a w), (match cx.pl.dyn with | [] => aregion cx ops dr st (Qa .normal) | _ => ∃ n, aregion { cx with nid := n } ops dr st (Qa .normal)) → (Code.region id ops dr).wp P Q a w := by
      intro st g hS hk
      split at hk
      · exact go st g hS cx hP hT hk
      · obtain ⟨n, hk⟩ := hk
        exact go st g hS { cx with nid := n } hP hT hk
    unfold awp cutK at hk
    split at hk
    · split at hk
      · obtain ⟨s, h1, h2⟩ := hk
        exact go2 s.st _ (hS.weaken hE h1) h2
      · obtain ⟨h', g', hS', s, h1, h2⟩ := azK_ok hS hk
        exact go2 s.st _ (hS'.weaken hE h1) h2
    · exact go2 st _ hS hk
  | seq x y ihx ihy =>
    intro hc Qa Q hQ st g a w hS hk
    simp only [codeOk, Bool.and_eq_true] at hc
    refine wp_seq (ihx hc.1 (Qa := fun e st' => match e with | .normal => awp cx y Qa st' | e => Qa e st') (fun e st g a w q hS => ?_) hS hk)
    cases e with
    | normal => exact ihy hc.2 hQ hS q
    | exit id => exact hQ (.exit id) _ _ _ _ q hS
    | ret => exact hQ .ret _ _ _ _ q hS
  | cond c x y ihx ihy =>
    intro hc Qa Q hQ st g a w hS hk
    simp only [codeOk, Bool.and_eq_true] at hc
    have hr := hS.eval c
    unfold awp at hk
    generalize hx : ev st.t c = v at hk hr
    split at hk
    · exact wp_cond_true hr.v_eq (ihx hc.1 hQ hS hk)
    · exact wp_cond_false hr.v_eq (ihy hc.2 hQ hS hk)
    · exact hk.elim
  | block id c ih =>
    intro hc Qa Q hQ st g a w hS hk
    refine wp_block (ih hc (Qa := fun e st' => match e with | .exit j => (bif Nat.beq j id then Qa .normal st' else Qa (.exit j) st') | e => Qa e st') (fun e st g a w q hS => ?_) hS hk)
    cases e with
    | normal => exact hQ .normal _ _ _ _ q hS
    | ret => exact hQ .ret _ _ _ _ q hS
    | exit j =>
      show (if j = id then Q .normal a w else Q (.exit j) a w)
      dsimp only at q
      by_cases e : j = id
      · rw [if_pos e]
        rw [e, Nat.beq_refl, cond_true] at q
        exact hQ .normal _ _ _ _ q hS
      · rw [if_neg e]
        rw [beq_ne e, cond_false] at q
        exact hQ (.exit j) _ _ _ _ q hS
  | loop c ih =>
    intro hc Qa Q hQ st g a w hS hk
    obtain ⟨α, I, μ, ⟨x, hx⟩, hbody⟩ := hk
    refine wp_loop_ghost (fun n a w => ∃ x g, μ x = n ∧ SR N w0 g0 h0 (I x).st g a w) (μ x) ⟨x, g, rfl, hS.weaken hE hx⟩ ?_
    rintro n a w ⟨x, g, rfl, hS⟩
    refine ih hc (Qa := fun e st' => match e with | .normal => ∃ y, μ y < μ x ∧ St.le cx st' (I y) | e => Qa e st') (fun e st g a w q hS => ?_) hS (hbody x)
    cases e with
    | normal =>
      obtain ⟨y, q1, q2⟩ := q
      exact ⟨μ y, q1, y, g, rfl, hS.weaken hE q2⟩
    | exit id => exact hQ (.exit id) _ _ _ _ q hS
    | ret => exact hQ .ret _ _ _ _ q hS
  | _ => intro _ Qa Q hQ st g a w hS hk; exact hk.elim
end
end Go.Eng

namespace Go.Eng

section
variable {P : Program} {N : Nat} {w0 : World} {g0 : Gh} {h0 : Nat → HO} {st : St} {g : Gh} {a : Act} {w : World}

theorem load_var {T : Tab} (hT : TabOk P T) {h : Nat → HO} (ho : ∀ r, ObjRep g w (used h) r (h r)) {t : Nat} {p : AV} {vp : Value} {K : AV → Prop} (hp : Rep g w (used h) p vp) (hk : loadHK T h t p K) :
    ∃ ad, (asAddr vp).run P w = .ok ad w ∧ Gives P h g w (loadVar t ad) K := by
  obtain ⟨x, av, h1, h2, h3⟩ := loadHK_ok ho hT hp hk
  have fin : ∀ b off, vp = .pointer (some ⟨b, off, none⟩) → ∃ ad, (asAddr vp).run P w = .ok ad w ∧ Gives P h g w (loadVar t ad) K := by
    rintro b off rfl
    refine ⟨⟨b, off, none⟩, by simp [asAddr], x, av, ?_, h2, h3⟩
    simpa [Instr.loadAt, Instr.sureAddr] using h1
  unfold loadHK at hk
  split at hk
  · cases hp; exact fin _ _ rfl
  · cases hp; exact fin _ _ rfl
  · cases hp; exact fin _ _ rfl
  · exact hk.elim

def resF (tmps : Array Value) : ResultVar → Sem Value
  | .tmp t => pure (tmps.getD t undef)
  | .cell ad t => do loadVar t (← asAddr (tmps.getD ad undef))
theorem results_eq (fn : Func) (tmps : Array Value) : results fn tmps = (do
  let vs ← fn.results.mapM (resF tmps)
  pure (if h : vs.size = 1 then vs[0] else .tuple vs)) := rfl

theorem outL_ok {cx : Cx} (hT : TabOk P cx.T) (hS : SR N w0 g0 h0 st g a w) : ∀ (rs : List ResultVar) {K : List AV → Prop}, outL cx.T st rs K →
    ∃ l vs, K l ∧ (rs.mapM (resF a.tmps)).run P w = .ok vs w ∧ vs.length = l.length ∧ vs.length = rs.length ∧
      ∀ (i : Nat) (av : AV) (x : Value), l[i]? = some av → vs[i]? = some x → Rep g w NoU av x
  | [], K, hk => ⟨[], [], hk, by simp, rfl, rfl, fun i av x h => by simp at h⟩
  | .tmp t :: r, K, hk => by
    obtain ⟨l, vs, h1, h2, h3, h4, h5⟩ := outL_ok hT hS r hk
    refine ⟨_, a.tmps.getD t undef :: vs, h1, ?_, by simp [h3], by simp [h4], fun i av x q1 q2 => ?_⟩
    · rw [List.mapM_cons]
      simp only [resF, Sem.run_bind, Sem.run_pure, Result.andThen_ok, h2]
    · cases i with
      | zero =>
        simp only [List.getElem?_cons_zero, Option.some.injEq] at q1 q2
        subst q1; subst q2
        exact Rep.str hS.inv.objs (hS.slots t)
      | succ i => exact h5 i av x (by simpa using q1) (by simpa using q2)
  | .cell ad t :: r, K, hk => by
    obtain ⟨addr, e1, x0, av0, e2, hk', e4⟩ := load_var hT hS.inv.objs (hS.slots ad) hk
    obtain ⟨l, vs, h1, h2, h3, h4, h5⟩ := outL_ok hT hS r hk'
    refine ⟨_, x0 :: vs, h1, ?_, by simp [h3], by simp [h4], fun i av x q1 q2 => ?_⟩
    · rw [List.mapM_cons]
      simp only [resF, Sem.run_bind, Sem.run_pure, Result.andThen_ok, h2, e1, e2]
    · cases i with
      | zero =>
        simp only [List.getElem?_cons_zero, Option.some.injEq] at q1 q2
        subst q1; subst q2
        exact Rep.str hS.inv.objs e4
      | succ i => exact h5 i av x (by simpa using q1) (by simpa using q2)

theorem outK_ok {cx : Cx} (hT : TabOk P cx.T) (hS : SR N w0 g0 h0 st g a w) {fn : Func} {K : AV → Prop} (hk : outK cx st fn.results.toList K) :
    ∃ g' r v h', K r ∧ (results fn a.tmps).run P w = .ok v w ∧ Inv w0 g0 h0 h' g' w ∧ Le h0 g0 w0 h' g' w ∧ Rep g' w NoU r v := by
  obtain ⟨g', i1, i2⟩ := frzs_ok cx.pl.fin hS.inv
  have hS' : SR N w0 g0 h0 ⟨st.t, frzs st.h cx.pl.fin⟩ g' a w := ⟨i1, hS.le.trans i2, hS.dfs, hS.size, fun i => (hS.slots i).le i2⟩
  obtain ⟨l, vs, h1, h2, h3, h4, h5⟩ := outL_ok hT hS' _ hk
  have hrun : (results fn a.tmps).run P w = .ok (if h : vs.toArray.size = 1 then vs.toArray[0] else .tuple vs.toArray) w := by
    rw [results_eq, show fn.results = fn.results.toList.toArray by simp, List.mapM_toArray]
    simp only [Sem.run_bind, Sem.run_map, h2, Result.andThen_ok, Sem.run_pure]
  refine ⟨g', ?_⟩
  match l, vs, h1, h3, h5, hrun with
  | [v], [x], h1, h3, h5, hrun => exact ⟨v, x, _, h1, by simpa using hrun, i1, hS'.le, h5 0 v x rfl rfl⟩
  | [], vs, h1, h3, h5, hrun =>
    have : vs = [] := List.eq_nil_of_length_eq_zero h3
    subst this
    exact ⟨.tup [], .tuple #[], _, h1, by simpa using hrun, i1, hS'.le, .tup _ _ _ rfl fun i av x q => by simp at q⟩
  | v :: v' :: l, vs, h1, h3, h5, hrun =>
    refine ⟨.tup (v :: v' :: l), .tuple vs.toArray, _, h1, ?_, i1, hS'.le, .tup _ _ _ (by simpa using h3) fun i av x q1 q2 => h5 i av x q1 (by simpa using q2)⟩
    rw [hrun]
    have : vs.toArray.size ≠ 1 := by simp [h3]
    simp only [this, dif_neg, not_false_eq_true]

theorem Inv.toFree (hI : Inv w0 g0 hfree st.h g w) : Inv w0 g0 hfree hfree g w :=
  ⟨hI.os, hI.tape, hI.output, hI.size, hI.frame, hI.slt, fun _ => trivial, fun _ _ _ h => h.elim, fun _ _ h => h.elim, hI.sg, hI.glob⟩
theorem envA_rep {U : Nat → Prop} {n : Nat} : ∀ {args : List AV} {vals : List Value}, vals.length = args.length → (∀ (i : Nat) (av : AV) (x : Value), args[i]? = some av → vals[i]? = some x → Rep g w U av x) →
    ∀ i, Rep g w U (envA args i) ((vals ++ List.replicate n undef).getD i undef)
  | [], [], _, _, i => by
    have : (([] : List Value) ++ List.replicate n undef).getD i undef = undef := by
      rw [List.nil_append, List.getD_eq_getElem?_getD, List.getElem?_replicate]
      split <;> rfl
    rw [this]; exact .v _ _
  | [], _ :: _, h, _, _ => by simp at h
  | _ :: _, [], h, _, _ => by simp at h
  | x :: l, v :: vs, h, hr, i => by
    cases i with
    | zero => exact hr 0 x v rfl rfl
    | succ i =>
      have := envA_rep (n := n) (args := l) (vals := vs) (by simpa using h) (fun i av x q1 q2 => hr (i + 1) av x (by simpa using q1) (by simpa using q2)) i
      simpa [envA] using this

theorem acall_of {f : Nat} {fn : Func} {c : Code} {args : List AV} {Q : AV → Prop} (cx : Cx) (hP : cx.P = P) (hT : TabOk P cx.T) (hm : P.follows .mixedOrders = true) (hx : cx.ext = false) (hf : P.funcs[f]? = some fn) (hn : (fn.name == "runtime.NumGoroutine") = false)
    (hb : fn.body = some c) (hN : args.length ≤ fn.ntmps) (hc : codeOk fn.ntmps c = true) (hk : awp cx c (endK cx fn.results.toList Q) ⟨envA args, hfree⟩) : ACall P f args hfree fun r h' => h' = hfree ∧ Q r := by
  refine ⟨⟨fn, hf, hn, by simp [hb]⟩, fun g w vals hs hv hI => calls_of_wp hf hb ?_⟩
  have hU : used hfree = NoU := by funext i; unfold used NoU hfree; simp
  have hS : SR fn.ntmps w g hfree ⟨envA args, hfree⟩ g { tmps := vals ++ Array.replicate (fn.ntmps - vals.size) undef, defers := [] } w := by
    refine ⟨hI, .refl _ _ _, rfl, by simp [hs]; omega, fun i => ?_⟩
    have := envA_rep (n := fn.ntmps - vals.size) (args := args) (vals := vals.toList) (by simpa using hs) (fun i av x q1 q2 => hv i av x q1 (by simpa using q2)) i
    rw [Array.getD_eq_getD_getElem?, ← Array.getElem?_toList]
    rw [List.getD_eq_getElem?_getD] at this
    simpa using this
  refine awp_ok hP hT hm (by unfold ExtOk; rw [hx]; exact fun _ => rfl) c hc (fun e st g' a w' hk hS => ?_) hS hk
  have out : outK cx st fn.results.toList Q → a.defers = [] ∧ ∃ v, (results fn a.tmps).run P w' = .ok v w' ∧ ∃ v' r h' g', (Ending.returned v : Ending) = .returned v' ∧ (h' = hfree ∧ Q r) ∧ Rep g' w' (used h') r v' ∧ Inv w g hfree h' g' w' ∧ Le hfree g w h' g' w' := by
    intro hk
    obtain ⟨g2, r, v, h', q1, q2, q3, q4, q5⟩ := outK_ok hT hS hk
    exact ⟨hS.dfs, v, q2, v, r, hfree, g2, rfl, ⟨rfl, q1⟩, by rw [hU]; exact q5, Inv.toFree (st := ⟨st.t, h'⟩) q3, ⟨fun i hi => absurd rfl hi, fun i hi => absurd rfl hi, q4.keeps⟩⟩
  cases e with
  | normal => exact out hk
  | ret => exact out hk
  | exit id => exact hk.elim
theorem pcall_of {f : Nat} {fn : Func} {c : Code} {args : List AV} {res : AV} (cx : Cx) (hP : cx.P = P) (hT : TabOk P cx.T) (hm : P.follows .mixedOrders = true) (hx : cx.ext = false) (hf : P.funcs[f]? = some fn) (hn : (fn.name == "runtime.NumGoroutine") = false)
    (hb : fn.body = some c) (hN : args.length ≤ fn.ntmps) (hc : codeOk fn.ntmps c = true) (hk : awp cx c (endK cx fn.results.toList fun r => r = res) ⟨envA args, hfree⟩) : PCall P f args res := by
  obtain ⟨h1, h2⟩ := acall_of cx hP hT hm hx hf hn hb hN hc hk
  exact ⟨h1, fun g w vals q1 q2 q3 => (h2 g w vals q1 q2 q3).mono fun e w' ⟨v, r, h', g', e1, ⟨e2, e3⟩, rest⟩ => ⟨v, r, h', g', e1, ⟨e3, e2⟩, rest⟩⟩

theorem outR_ok {cx : Cx} (hT : TabOk P cx.T) (hS : SR N w0 g0 h0 st g a w) : ∀ (rs : List ResultVar) {K : List AV → Prop}, outR cx.T st rs K →
    ∃ l vs, K l ∧ (rs.mapM (resF a.tmps)).run P w = .ok vs w ∧ vs.length = l.length ∧ vs.length = rs.length ∧
      ∀ (i : Nat) (av : AV) (x : Value), l[i]? = some av → vs[i]? = some x → Rep g w (used st.h) av x
  | [], K, hk => ⟨[], [], hk, by simp, rfl, rfl, fun i av x h => by simp at h⟩
  | .tmp t :: r, K, hk => by
    obtain ⟨l, vs, h1, h2, h3, h4, h5⟩ := outR_ok hT hS r hk
    refine ⟨_, a.tmps.getD t undef :: vs, h1, ?_, by simp [h3], by simp [h4], fun i av x q1 q2 => ?_⟩
    · rw [List.mapM_cons]
      simp only [resF, Sem.run_bind, Sem.run_pure, Result.andThen_ok, h2]
    · cases i with
      | zero =>
        simp only [List.getElem?_cons_zero, Option.some.injEq] at q1 q2
        subst q1; subst q2
        exact hS.slots t
      | succ i => exact h5 i av x (by simpa using q1) (by simpa using q2)
  | .cell ad t :: r, K, hk => by
    obtain ⟨addr, e1, x0, av0, e2, hk', e4⟩ := load_var hT hS.inv.objs (hS.slots ad) hk
    obtain ⟨l, vs, h1, h2, h3, h4, h5⟩ := outR_ok hT hS r hk'
    refine ⟨_, x0 :: vs, h1, ?_, by simp [h3], by simp [h4], fun i av x q1 q2 => ?_⟩
    · rw [List.mapM_cons]
      simp only [resF, Sem.run_bind, Sem.run_pure, Result.andThen_ok, h2, e1, e2]
    · cases i with
      | zero =>
        simp only [List.getElem?_cons_zero, Option.some.injEq] at q1 q2
        subst q1; subst q2
        exact e4
      | succ i => exact h5 i av x (by simpa using q1) (by simpa using q2)

theorem ext_spec {σ : Ren} : ∀ {H0 : List (Nat × HO)}, extOk σ H0 = true → ∀ i, heapOf H0 hfree i ≠ .free → 1000 ≤ i ∧ i < 2000 ∧ rfwd σ i = some i
  | [], _, i, h => absurd rfl h
  | (a, o) :: r, hx, i, h => by
    simp only [extOk, Bool.and_eq_true, Nat.ble_eq, Nat.blt_eq] at hx
    obtain ⟨⟨⟨h1, h2⟩, h3⟩, h4⟩ := hx
    by_cases e : i = a
    · subst e
      refine ⟨h1, h2, ?_⟩
      split at h3
      · rename_i j e; rw [e, Nat.eq_of_beq_eq_true h3]
      · cases h3
    · unfold heapOf at h
      simp only [beq_ne e, cond_false] at h
      exact ext_spec h4 i h

theorem exit_ok {H0 : List (Nat × HO)} {σ : Ren} (hσ : renInj σ = true) (hx : extOk σ H0 = true) {h : Nat → HO} (hI : Inv w0 g0 (heapOf H0 hfree) h g w) (hL : Le (heapOf H0 hfree) g0 w0 h g w) :
    RenOk (rfwd σ) h (renH σ h) g (ghFwd σ g) w ∧ Inv w0 g0 (heapOf H0 hfree) (renH σ h) (ghFwd σ g) w ∧ Le (heapOf H0 hfree) g0 w0 (renH σ h) (ghFwd σ g) w := by
  have inv := inj_inv hσ
  have hget : ∀ j, renH σ h j = match rbwd σ j with | some i => (h i).ren (rfwd σ) h | none => .free := renL_get _ _ σ
  have hR : RenOk (rfwd σ) h (renH σ h) g (ghFwd σ g) w := by
    refine ⟨fun r r' hr hu => ?_, fun b o => Iff.rfl, hI.objs⟩
    have hb := (inv r r').1 hr
    refine ⟨by simp [ghFwd, hb], by simp [ghFwd, hb], by simp [ghFwd, hb], by simp [ghFwd, hb], ?_⟩
    unfold used
    rw [hget, hb]
    exact (ren_used _ _ _).2 hu
  have hlive : ∀ j, (renH σ h j).live → ∃ i, rbwd σ j = some i ∧ (h i).live := fun j hl => by
    rw [hget] at hl
    cases e : rbwd σ j with
    | none => rw [e] at hl; exact hl.elim
    | some i => rw [e] at hl; exact ⟨i, rfl, (ren_live _ _ _).1 hl⟩
  have hown : ∀ j i, rbwd σ j = some i → (ghFwd σ g).own j = g.own i := fun j i e => by simp [ghFwd, e]
  refine ⟨hR, ⟨hI.os, hI.tape, hI.output, hI.size, hI.frame, hI.slt, fun j => ?_, fun j j' b hl hl' e e' => ?_, fun j b hl e => ?_, hI.sg, hI.glob⟩, ⟨fun i hi => ?_, fun i hi => ?_, hL.keeps⟩⟩
  · rw [hget]
    cases e : rbwd σ j with
    | none => trivial
    | some i =>
      by_cases hu : used h i
      · exact (hI.objs i).ren hR ((inv i j).2 e) hu
      · have : h i = .free := Classical.not_not.1 hu
        dsimp only
        rw [this]; trivial
  · obtain ⟨i, e1, l1⟩ := hlive j hl
    obtain ⟨i', e2, l2⟩ := hlive j' hl'
    rw [hown j i e1] at e
    rw [hown j' i' e2] at e'
    obtain rfl := hI.inj i i' b l1 l2 e e'
    have := (inv i j).2 e1
    rw [(inv i j').2 e2] at this
    cases this; rfl
  · obtain ⟨i, e1, l1⟩ := hlive j hl
    rw [hown j i e1] at e
    exact hI.loc i b l1 e
  · obtain ⟨_, _, hf⟩ := ext_spec hx i hi
    have hb := (inv i i).1 hf
    have e1 : (ghFwd σ g).ρ i = g.ρ i ∧ (ghFwd σ g).ln i = g.ln i ∧ (ghFwd σ g).tk i = g.tk i := by simp [ghFwd, hb]
    obtain ⟨k1, k2, k3, k4⟩ := hL.gh i hi
    exact ⟨e1.2.2.trans k1, by omega, fun t => e1.1.trans (k3 t), fun l => e1.1.trans (k4 (by omega))⟩
  · obtain ⟨_, _, hf⟩ := ext_spec hx i hi
    have hb := (inv i i).1 hf
    unfold used
    rw [hget, hb]
    exact (ren_used _ _ _).2 (hL.us i hi)

theorem gcall_of {f : Nat} {fn : Func} {c : Code} {args : List AV} {H0 : List (Nat × HO)} {Q : AV → (Nat → HO) → Prop} (cx : Cx) (σ : Ren) (hP : cx.P = P) (hT : TabOk P cx.T) (hm : P.follows .mixedOrders = true) (hx : cx.ext = true) (hf : P.funcs[f]? = some fn)
    (hn : (fn.name == "runtime.NumGoroutine") = false) (hb : fn.body = some c) (hN : args.length ≤ fn.ntmps) (hc : codeOk fn.ntmps c = true) (hσ : (renInj σ && extOk σ H0) = true)
    (hk : awp cx c (endG cx fn.results.toList σ Q) ⟨envA args, heapOf H0 hfree⟩) : ACall P f args (heapOf H0 hfree) Q := by
  simp only [Bool.and_eq_true] at hσ
  obtain ⟨hσ, hxo⟩ := hσ
  refine ⟨⟨fn, hf, hn, by simp [hb]⟩, fun g w vals hs hv hI => calls_of_wp hf hb ?_⟩
  have hS : SR fn.ntmps w g (heapOf H0 hfree) ⟨envA args, heapOf H0 hfree⟩ g { tmps := vals ++ Array.replicate (fn.ntmps - vals.size) undef, defers := [] } w := by
    refine ⟨hI, .refl _ _ _, rfl, by simp [hs]; omega, fun i => ?_⟩
    have := envA_rep (n := fn.ntmps - vals.size) (args := args) (vals := vals.toList) (by simpa using hs) (fun i av x q1 q2 => hv i av x q1 (by simpa using q2)) i
    rw [Array.getD_eq_getD_getElem?, ← Array.getElem?_toList]
    rw [List.getD_eq_getElem?_getD] at this
    simpa using this
  refine awp_ok hP hT hm (by unfold ExtOk; rw [hx]; exact fun i hi => ⟨(ext_spec hxo i hi).1, (ext_spec hxo i hi).2.1⟩) c hc (fun e st g' a w' hk hS => ?_) hS hk
  have out : outG cx st fn.results.toList σ Q → a.defers = [] ∧ ∃ v, (results fn a.tmps).run P w' = .ok v w' ∧ ∃ v' r h' g', (Ending.returned v : Ending) = .returned v' ∧ Q r h' ∧ Rep g' w' (used h') r v' ∧ Inv w g (heapOf H0 hfree) h' g' w' ∧ Le (heapOf H0 hfree) g w h' g' w' := by
    intro hk
    obtain ⟨g2, i1, i2⟩ := frzs_ok cx.pl.fin hS.inv
    have hS' : SR fn.ntmps w g (heapOf H0 hfree) ⟨st.t, frzs st.h cx.pl.fin⟩ g2 a w' := ⟨i1, hS.le.trans i2, hS.dfs, hS.size, fun i => (hS.slots i).le i2⟩
    obtain ⟨l, vs, h1, h2, h3, h4, h5⟩ := outR_ok hT hS' _ hk
    obtain ⟨hR, j1, j2⟩ := exit_ok hσ hxo i1 hS'.le
    have hrun : (results fn a.tmps).run P w' = .ok (if h : vs.toArray.size = 1 then vs.toArray[0] else .tuple vs.toArray) w' := by
      rw [results_eq, show fn.results = fn.results.toList.toArray by simp, List.mapM_toArray]
      simp only [Sem.run_bind, Sem.run_map, h2, Result.andThen_ok, Sem.run_pure]
    refine ⟨hS.dfs, ?_⟩
    match l, vs, h1, h3, h5, hrun with
    | [v], [x], h1, h3, h5, hrun => exact ⟨x, by simpa using hrun, x, _, _, _, rfl, h1, (h5 0 v x rfl rfl).ren hR, j1, j2⟩
    | [], vs, h1, h3, h5, hrun =>
      have : vs = [] := List.eq_nil_of_length_eq_zero h3
      subst this
      exact ⟨.tuple #[], by simpa using hrun, .tuple #[], _, _, _, rfl, h1, Rep.ren hR (.tup _ [] _ rfl fun i av x q => by simp at q), j1, j2⟩
    | v :: v' :: l, vs, h1, h3, h5, hrun =>
      refine ⟨.tuple vs.toArray, ?_, .tuple vs.toArray, _, _, _, rfl, h1, Rep.ren hR (.tup _ _ _ (by simpa using h3) fun i av x q1 q2 => h5 i av x q1 (by simpa using q2)), j1, j2⟩
      rw [hrun]
      have : vs.toArray.size ≠ 1 := by simp [h3]
      simp only [this, dif_neg, not_false_eq_true]
  cases e with
  | normal => exact out hk
  | ret => exact out hk
  | exit id => exact hk.elim
end
end Go.Eng

namespace Go.Eng

def Sub (r r' : AV) : Prop := ∀ (g : Gh) (w : World) (U : Nat → Prop) (x : Value), Rep g w U r x → Rep g w U r' x
theorem Sub.refl (r : AV) : Sub r r := fun _ _ _ _ h => h
theorem Sub.of_eq {r r' : AV} (h : r = r') : Sub r r' := h ▸ .refl r
theorem Sub.trans {a b c : AV} (h : Sub a b) (k : Sub b c) : Sub a c := fun g w U x r => k g w U x (h g w U x r)
theorem Sub.nil : Sub (.v (.slice none 0 0)) (.slice .none []) := fun _ _ _ _ h => by cases h; exact .snil _ _ _
def SubL : List AV → List AV → Prop
  | [], [] => True
  | a :: r, b :: s => Sub a b ∧ SubL r s
  | _, _ => False
theorem SubL.refl : ∀ l : List AV, SubL l l
  | [] => trivial
  | a :: l => ⟨.refl a, SubL.refl l⟩
theorem SubL.len : ∀ {l l' : List AV}, SubL l l' → l'.length = l.length
  | [], [], _ => rfl
  | _ :: _, _ :: _, h => congrArg (· + 1) h.2.len
  | [], _ :: _, h => h.elim
  | _ :: _, [], h => h.elim
theorem SubL.get : ∀ {l l' : List AV}, SubL l l' → ∀ (i : Nat) (b : AV), l'[i]? = some b → ∃ a, l[i]? = some a ∧ Sub a b
  | [], [], _, i, b, h => by simp at h
  | a :: r, b :: s, hs, i, c, h => by
    cases i with
    | zero => simp only [List.getElem?_cons_zero, Option.some.injEq] at h; subst h; exact ⟨a, rfl, hs.1⟩
    | succ i => exact SubL.get hs.2 i c (by simpa using h)
  | [], _ :: _, h, _, _, _ => h.elim
  | _ :: _, [], h, _, _, _ => h.elim
theorem Sub.tup {l l' : List AV} (h : SubL l l') : Sub (.tup l) (.tup l') := fun g w U x r => by
  cases r with
  | tup _ _ vs hs hr =>
    refine .tup _ _ vs (by rw [hs, h.len]) fun i av x q1 q2 => ?_
    obtain ⟨a, e1, e2⟩ := h.get i av q1
    exact e2 _ _ _ _ (hr i a x e1 q2)
theorem Sub.agg {l l' : List AV} (h : SubL l l') : Sub (.agg l) (.agg l') := fun g w U x r => by
  cases r with
  | agg _ _ vs hs h1 hr =>
    refine .agg _ _ vs (by rw [hs, h.len]) h1 fun i av x q1 q2 => ?_
    obtain ⟨a, e1, e2⟩ := h.get i av q1
    exact e2 _ _ _ _ (hr i a x e1 q2)
def SubE : List (List AV) → List (List AV) → Prop
  | [], [] => True
  | a :: r, b :: s => SubL a b ∧ SubE r s
  | _, _ => False
theorem SubE.refl : ∀ l : List (List AV), SubE l l
  | [] => trivial
  | a :: l => ⟨.refl a, SubE.refl l⟩
theorem SubE.len : ∀ {l l' : List (List AV)}, SubE l l' → l'.length = l.length
  | [], [], _ => rfl
  | _ :: _, _ :: _, h => congrArg (· + 1) h.2.len
  | [], _ :: _, h => h.elim
  | _ :: _, [], h => h.elim
theorem SubE.get : ∀ {l l' : List (List AV)}, SubE l l' → ∀ (i : Nat) (b : List AV), l'[i]? = some b → ∃ a, l[i]? = some a ∧ SubL a b
  | [], [], _, i, b, h => by simp at h
  | a :: r, b :: s, hs, i, c, h => by
    cases i with
    | zero => simp only [List.getElem?_cons_zero, Option.some.injEq] at h; subst h; exact ⟨a, rfl, hs.1⟩
    | succ i => exact SubE.get hs.2 i c (by simpa using h)
  | [], _ :: _, h, _, _, _ => h.elim
  | _ :: _, [], h, _, _, _ => h.elim
theorem Sub.slice {l l' : List (List AV)} (h : SubE l l') : Sub (.slice .none l) (.slice .none l') := fun g w U x r => by
  have hlen := h.len
  cases r with
  | snil _ a cap =>
    have : l' = [] := List.eq_nil_of_length_eq_zero (by rw [hlen]; rfl)
    subst this
    exact .snil _ a cap
  | slice _ _ b off sz cap val hc hl hcell hrep =>
    rw [← hlen]
    refine .slice _ _ b off sz cap val (by rw [hlen]; exact hc) (fun i cs hi => ?_) (fun i cs j av hi hj => ?_) (fun i cs j av hi hj => ?_)
    · obtain ⟨a, e1, e2⟩ := h.get i cs hi
      rw [e2.len]; exact hl i a e1
    · obtain ⟨a, e1, e2⟩ := h.get i cs hi
      obtain ⟨c, f1, f2⟩ := e2.get j av hj
      exact hcell i a j c e1 f1
    · obtain ⟨a, e1, e2⟩ := h.get i cs hi
      obtain ⟨c, f1, f2⟩ := e2.get j av hj
      exact f2 _ _ _ _ (hrep i a j c e1 f1)
theorem Sub.cptr {l l' : List AV} (h : SubL l l') : Sub (.cptr l) (.cptr l') := fun g w U x r => by
  cases r with
  | cptr _ _ b off val hcell hrep =>
    refine .cptr _ _ b off val (fun j av hj => ?_) (fun j av hj => ?_)
    · obtain ⟨c, f1, f2⟩ := h.get j av hj
      exact hcell j c f1
    · obtain ⟨c, f1, f2⟩ := h.get j av hj
      exact f2 _ _ _ _ (hrep j c f1)

section
variable {P : Program}
theorem ACall.mono {f : Nat} {args : List AV} {h0 : Nat → HO} {Q Q' : AV → (Nat → HO) → Prop} (h : ACall P f args h0 Q) (hq : ∀ r h', Q r h' → ∃ r', Sub r r' ∧ Q' r' h') : ACall P f args h0 Q' :=
  ⟨h.1, fun g w vals q1 q2 q3 => (h.2 g w vals q1 q2 q3).mono fun _ _ ⟨v, r, h', g', e1, e2, e3, rest⟩ =>
    let ⟨r', s, k⟩ := hq r h' e2
    ⟨v, r', h', g', e1, k, s _ _ _ _ e3, rest⟩⟩
theorem ACall.args {f : Nat} {args args' : List AV} {h0 : Nat → HO} {Q : AV → (Nat → HO) → Prop} (h : ACall P f args h0 Q) (hs : SubL args' args) : ACall P f args' h0 Q :=
  ⟨h.1, fun g w vals q1 q2 q3 => h.2 g w vals (by rw [q1, hs.len]) (fun i av x e1 e2 => by
    obtain ⟨a, f1, f2⟩ := hs.get i av e1
    exact f2 _ _ _ _ (q2 i a x f1 e2)) q3⟩
theorem PCall.args {f : Nat} {args args' : List AV} {res : AV} (h : PCall P f args res) (hs : SubL args' args) : PCall P f args' res := ACall.args h hs
theorem pcall_sub {f : Nat} {fn : Func} {c : Code} {args : List AV} {res : AV} (cx : Cx) (hP : cx.P = P) (hT : TabOk P cx.T) (hm : P.follows .mixedOrders = true) (hx : cx.ext = false) (hf : P.funcs[f]? = some fn) (hn : (fn.name == "runtime.NumGoroutine") = false)
    (hb : fn.body = some c) (hN : args.length ≤ fn.ntmps) (hc : codeOk fn.ntmps c = true) (hk : awp cx c (endK cx fn.results.toList fun r => Sub r res) ⟨envA args, hfree⟩) : PCall P f args res :=
  (acall_of cx hP hT hm hx hf hn hb hN hc hk).mono fun _ _ ⟨e1, e2⟩ => ⟨res, e2, rfl, e1⟩
end
end Go.Eng

namespace Go.Eng

section
variable {P : Program}
theorem enters_fn {f : Nat} {fn : Func} {c : Code} (hf : P.funcs[f]? = some fn) (hn : (fn.name == "runtime.NumGoroutine") = false) (hb : fn.body = some c) : Enters P f := ⟨fn, hf, hn, by simp [hb]⟩
theorem pcall_same {f : Nat} {args : List AV} {res : AV} (vals : List Value) (v : Value) (hE : Enters P f) (ha : args = vals.map .v) (hres : ∀ g w, Rep g w NoU res v)
    (h : ∀ w, (∃ m, w.cell? ⟨gB, 0, none⟩ = some (.int .i64 m)) → Calls P f vals.toArray w fun e w' => e = .returned v ∧ w' = w) : PCall P f args res := by
  refine ⟨hE, fun g w us hs hv hI => ?_⟩
  have hu : us = vals.toArray := by
    subst ha
    rw [List.length_map] at hs
    refine Array.ext (by simpa using hs) fun i h1 h2 => ?_
    have := hv i (.v (vals[i]'(by simpa using h2))) us[i] (by rw [List.getElem?_map, List.getElem?_eq_getElem (by simpa using h2)]; rfl) (by rw [Array.getElem?_eq_getElem h1])
    rw [this.v_eq]; simp
  subst hu
  refine (h w hI.glob.2).mono ?_
  rintro e w' ⟨rfl, rfl⟩
  exact ⟨v, res, hfree, g, rfl, ⟨rfl, rfl⟩, (hres g _).up _, hI, .refl _ _ _⟩
theorem rep_vals {g : Gh} {w : World} : ∀ (vs : List Value), Rep g w NoU (.tup (vs.map .v)) (.tuple vs.toArray) := fun vs =>
  .tup _ _ _ (by simp) fun i av x h1 h2 => by
    rw [List.getElem?_map, Option.map_eq_some_iff] at h1
    obtain ⟨a, e1, rfl⟩ := h1
    have : vs[i]? = some x := by simpa using h2
    rw [e1] at this; cases this
    exact .v _ _
theorem pcall_new {f : Nat} {args : List AV} (vals : List Value) (es : List Value) (T : TypeId) (hE : Enters P f) (ha : args = vals.map .v) (h1 : ∀ x ∈ es, x.oneCell' = true)
    (h : ∀ w, (∃ m, w.cell? ⟨gB, 0, none⟩ = some (.int .i64 m)) → Calls P f vals.toArray w fun e w' => e = .returned (.slice (some ⟨w.heap.size, 0, none⟩) es.length es.length) ∧ w' = w.alloc (.cells es.toArray T)) :
    PCall P f args (.slice .none (es.map fun x => [.v x])) := by
  refine ⟨hE, fun g w us hs hv hI => ?_⟩
  have hu : us = vals.toArray := by
    subst ha
    rw [List.length_map] at hs
    refine Array.ext (by simpa using hs) fun i h1 h2 => ?_
    have := hv i (.v (vals[i]'(by simpa using h2))) us[i] (by rw [List.getElem?_map, List.getElem?_eq_getElem (by simpa using h2)]; rfl) (by rw [Array.getElem?_eq_getElem h1])
    rw [this.v_eq]; simp
  subst hu
  refine (h w hI.glob.2).mono ?_
  rintro e w' ⟨rfl, rfl⟩
  have hnew : (w.alloc (.cells es.toArray T)).heap[w.heap.size]? = some (.cells es.toArray T (0, 0)) := heap_new w _ rfl
  have hold : ∀ b, b < w.heap.size → (w.alloc (.cells es.toArray T)).heap[b]? = w.heap[b]? := fun b hb => heap_alloc_old _ _ hb
  have hK : Keeps g w ⟨g.ρ, g.ln, g.tk, g.own, g.more w.heap.size es.length⟩ (w.alloc (.cells es.toArray T)) := fun b o hb => by
    have hlt := hI.slt b o hb
    exact ⟨.inl hb, by simp only [World.cell?, hold b hlt], fun es ck he => (hold b hlt).trans he⟩
  refine ⟨_, _, hfree, ⟨g.ρ, g.ln, g.tk, g.own, g.more w.heap.size es.length⟩, rfl, ⟨rfl, rfl⟩, ?_, ⟨rfl, rfl, rfl, ?_, fun b hb _ => hold b hb, fun b o hs => ?_, fun _ => trivial, fun _ _ _ h => h.elim, fun _ _ h => h.elim, fun b o hs => ?_, hI.glob.keep hK⟩, ⟨.refl _ _, fun _ h => h, hK⟩⟩
  · have hr : RepL ⟨g.ρ, g.ln, g.tk, g.own, g.more w.heap.size es.length⟩ (w.alloc (.cells es.toArray T)) NoU (es.map fun x => [AV.v x]).flatten (es.toArray.toList.take ((es.map fun x => [AV.v x]).length * 1)) := by
      have hfl : ∀ l : List Value, (l.map fun x => [AV.v x]).flatten = l.map .v := fun l => by
        induction l with
        | nil => rfl
        | cons a l ih => rw [List.map_cons, List.flatten_cons, ih]; rfl
      rw [hfl]
      simp only [List.length_map, Nat.mul_one, List.take_length]
      refine ⟨by simp, fun x hx => h1 x (by simpa using hx), fun i av x q1 q2 => ?_⟩
      rw [List.getElem?_map, Option.map_eq_some_iff] at q1
      obtain ⟨a, e1, rfl⟩ := q1
      rw [e1] at q2; cases q2
      exact .v _ _
    have := Rep.slice_row (U := used hfree) (cap := es.length) (sz := 1) (es := es.map fun x => [AV.v x]) hnew (fun cs hcs => by
      obtain ⟨x, _, rfl⟩ := List.mem_map.1 hcs; rfl) (by simp) hr (fun o ho => .inr ⟨rfl, by simpa using ho⟩)
    simpa using this
  · rw [World.size_alloc]; omega
  · rw [World.size_alloc]
    rcases hs with hs | ⟨rfl, _⟩
    · have := hI.slt b o hs; omega
    · omega
  · rcases hs with hs | ⟨rfl, _⟩
    · exact .inl hs
    · exact .inr (.inl (Nat.le_refl _))
end
end Go.Eng

namespace Go.Eng
open Go.Sort

section
variable {P : Program}
theorem putCells_take (F c : Array Value) (h : F.size ≤ c.size) : (putCells id 0 F c).toList.take F.size = F.toList ∧ (putCells id 0 F c).size = c.size := by
  have hs : (putCells id 0 F c).size = c.size := by simp [putCells]
  refine ⟨?_, hs⟩
  apply List.ext_getElem?
  intro i
  rw [List.getElem?_take, Array.getElem?_toList, Array.getElem?_toList]
  by_cases hi : i < F.size
  · rw [if_pos hi]
    have hi2 : i < c.size := by omega
    simp only [putCells, Array.getElem?_mapIdx, Array.getElem?_eq_getElem hi2, Array.getElem?_eq_getElem hi, Option.map_some, Nat.zero_le, true_and, Nat.zero_add, hi, if_true, Nat.sub_zero, id_eq]
    rw [getElem!_pos F i hi]
  · rw [if_neg hi, Array.getElem?_eq_none (by omega)]
theorem oneS : (1000 : Nat) = 1000 := rfl
theorem heapOf_put (r : Nat) (o o' : HO) : hput (heapOf [(r, o)] hfree) r o' = heapOf [(r, o')] hfree := by
  funext i
  by_cases e : i = r
  · subst e; rw [hput_same]; simp [heapOf]
  · rw [hput_ne _ _ _ _ e]; simp [heapOf, beq_ne e]
theorem acall_row {f : Nat} {es : List (List AV)} {sz : Nat} {rest : List Value} {Q : List (List AV) → Prop} (hE : Enters P f)
    (h0 : es = [] → Q [] ∧ ∀ w, Calls P f (#[.slice none 0 0] ++ rest.toArray) w fun e w' => e = .returned (.tuple #[]) ∧ w' = w)
    (h1 : ∀ (g : Gh) (w : World) (b cap : Nat) (F : Array Value), RepL g w NoU es.flatten F.toList → F.size = es.length * sz → Holds id w b 0 F → b < w.heap.size → Calls P f (#[.slice (some ⟨b, 0, none⟩) es.length cap] ++ rest.toArray) w fun e w' =>
      e = .returned (.tuple #[]) ∧ ∃ (F' : Array Value) (es' : List (List AV)) (n : Nat) (os : Array Obj), F'.size = F.size ∧ Q es' ∧ es'.length = es.length ∧ (∀ cs ∈ es', cs.length = sz) ∧
        (∀ (g : Gh) (w : World), RepL g w NoU es.flatten F.toList → RepL g w NoU es'.flatten F'.toList) ∧ w' = grow (putRow id (Sort.ahead w n) b 0 F') os) :
    ACall P f (.msl 1000 es.length :: rest.map .v) (heapOf [(1000, .arr sz es)] hfree) fun r h' => r = .tup [] ∧ ∃ es', Q es' ∧ h' = heapOf [(1000, .arr sz es')] hfree := by
  refine ⟨hE, fun g w us hs hv hI => ?_⟩
  have ho := hI.objs 1000
  have he : heapOf [(1000, HO.arr sz es)] hfree 1000 = .arr sz es := rfl
  rw [he] at ho
  obtain ⟨t1, l1, al, a2⟩ := ho
  simp only [List.length_cons, List.length_map] at hs
  -- the arguments
  have hu0 : 0 < us.size := by omega
  have hr0 := hv 0 (.msl 1000 es.length) us[0] rfl (Array.getElem?_eq_getElem hu0)
  have hval : us[0] = g.ρ 1000 := by
    generalize us[0] = x at hr0
    cases hr0 with
    | msl _ r n a cap hu ht hn ha hx => exact hx l1.symm
  have hus : us = #[g.ρ 1000] ++ rest.toArray := by
    refine Array.ext (by simp; omega) fun i h1 h2 => ?_
    cases i with
    | zero => rw [hval]; simp
    | succ i =>
      have hi : i < rest.length := by omega
      have := hv (i + 1) (.v rest[i]) us[i + 1] (by simp [List.getElem?_eq_getElem hi]) (Array.getElem?_eq_getElem h1)
      rw [this.v_eq]; simp
  rw [hus]
  rcases a2 with ⟨b1, b2, b3⟩ | ⟨b, cap, E, vs, b1, b2, b3, b4, b5, b6, b7⟩
  · subst b1
    obtain ⟨q, h0⟩ := h0 rfl
    rw [b2]
    refine (h0 w).mono ?_
    rintro e w' ⟨rfl, rfl⟩
    exact ⟨_, .tup [], _, g, rfl, ⟨rfl, [], q, rfl⟩, .tup _ _ _ rfl (fun i av x h => by simp at h), hI, .refl _ _ _⟩
  · have hl : (heapOf [(1000, HO.arr sz es)] hfree 1000).live := trivial
    have hlt := (hI.loc 1000 b hl b2).1
    have hle : es.length * sz ≤ vs.size := by rw [b5]; exact Nat.mul_le_mul_right _ b3
    have hF : ((vs.toList.take (es.length * sz)).toArray).size = es.length * sz := by simp; omega
    have hH : Holds id w b 0 (vs.toList.take (es.length * sz)).toArray := fun j hj => by
      have hj : j < es.length * sz := by rw [hF] at hj; exact hj
      refine ⟨?_, ?_⟩
      · have hj2 : j < vs.size := by omega
        simp only [World.cell?, b4, Nat.zero_add, Option.isSome_none, Bool.false_eq_true, if_false]
        rw [Array.getElem?_eq_getElem hj2, getElem!_pos _ j (by rw [hF]; exact hj)]
        simp
      · simp [World.frozen?, b4]
    rw [b1]
    refine (h1 g w b cap _ (by simpa using b6) hF hH hlt).mono ?_
    rintro e w' ⟨rfl, F', es', n, os, f1, f2, f3, f4, f5, rfl⟩
    have hF' : F'.size = es.length * sz := f1.trans hF
    have hpt := putCells_take F' vs (by omega)
    have hb' : (grow (putRow id (Sort.ahead w n) b 0 F') os).heap[b]? = some (.cells (putCells id 0 F' vs) E (0, 0)) := by
      rw [heap_grow_old _ _ (by rw [size_putRow]; exact hlt)]
      show (w.heap.modify b (onCells (putCells id 0 F')))[b]? = _
      rw [Array.getElem?_modify, if_pos rfl, b4]; rfl
    have hob : ∀ k, k < w.heap.size → k ≠ b → (grow (putRow id (Sort.ahead w n) b 0 F') os).heap[k]? = w.heap[k]? := fun k hk hne => by
      rw [heap_grow_old _ _ (by rw [size_putRow]; exact hk)]
      simp [putRow, mapBlock, Array.getElem?_modify, Ne.symm hne]
    have hsz : w.heap.size ≤ (grow (putRow id (Sort.ahead w n) b 0 F') os).heap.size := by rw [size_grow, size_putRow]; show w.heap.size ≤ w.heap.size + _; omega
    obtain ⟨k1, k2⟩ := hI.upd 1000 (.arr sz es') (g.ρ 1000) (g.ln 1000) (g.tk 1000) (g.own 1000) g.S (grow (putRow id (Sort.ahead w n) b 0 F') os) (some b) ⟨rfl, rfl, rfl, hsz⟩
      (fun k hk hne => hob k hk (fun e => hne (by rw [e]))) (fun b' e => by cases e; exact ⟨hl, b2⟩) (fun _ _ h => h) (fun _ _ h => .inl h) (fun b' o e hs => by cases e; exact absurd hs (b7 o))
      (fun b' _ e => by rw [b2] at e; cases e; exact ⟨Nat.lt_of_lt_of_le hlt hsz, .inl ⟨hl, b2⟩⟩) (by simp) (fun _ => ⟨rfl, Nat.le_refl _, fun _ => rfl, fun _ => rfl⟩) (fun hg hk => by
        refine ⟨by simp [Gh.upd, t1], by simp [Gh.upd, l1, f3], f4, .inr ⟨b, cap, E, _, by simp [Gh.upd, b1, f3], by simp [Gh.upd, b2], by omega, hb', by rw [hpt.2, b5], ?_, b7⟩⟩
        have := f5 g w (by simpa using b6)
        rw [f3, ← hF', hpt.1]
        exact this.mono hk (fun _ h => h) (fun _ h => h.elim))
    rw [heapOf_put] at k1 k2
    exact ⟨_, .tup [], _, _, rfl, ⟨rfl, es', f2, rfl⟩, .tup _ _ _ rfl (fun i av x h => by simp at h), k1, k2⟩
end
end Go.Eng

namespace Go.Eng
open Go.Sort Go.Proofs

theorem repL_append {g : Gh} {w : World} {U : Nat → Prop} {cs cs' : List AV} {vs vs' : List Value} (h : vs.length = cs.length) : RepL g w U (cs ++ cs') (vs ++ vs') ↔ RepL g w U cs vs ∧ RepL g w U cs' vs' := by
  constructor
  · intro ⟨h1, h2, h3⟩
    refine ⟨⟨h, fun x hx => h2 x (List.mem_append_left _ hx), fun i av x q1 q2 => ?_⟩, ⟨by simp at h1; omega, fun x hx => h2 x (List.mem_append_right _ hx), fun i av x q1 q2 => ?_⟩⟩
    · have a1 := (List.getElem?_eq_some_iff.1 q1).1
      have a2 := (List.getElem?_eq_some_iff.1 q2).1
      exact h3 i av x (by rw [List.getElem?_append_left a1]; exact q1) (by rw [List.getElem?_append_left a2]; exact q2)
    · exact h3 (cs.length + i) av x (by rw [List.getElem?_append_right (by omega), Nat.add_sub_cancel_left]; exact q1) (by rw [List.getElem?_append_right (by omega), h, Nat.add_sub_cancel_left]; exact q2)
  · intro ⟨⟨h1, h2, h3⟩, k1, k2, k3⟩
    refine ⟨by simp [h1, k1], fun x hx => (List.mem_append.1 hx).elim (h2 x) (k2 x), fun i av x q1 q2 => ?_⟩
    by_cases hi : i < cs.length
    · rw [List.getElem?_append_left hi] at q1
      rw [List.getElem?_append_left (by omega)] at q2
      exact h3 i av x q1 q2
    · rw [List.getElem?_append_right (by omega)] at q1
      rw [List.getElem?_append_right (by omega)] at q2
      rw [h] at q2
      exact k3 _ av x q1 q2
theorem repL_flat {α β : Type} {g : Gh} {w : World} {U : Nat → Prop} {encB : β → List AV} {enc : α → List Value} (hl : ∀ x y, (enc x).length = (encB y).length) : ∀ ps : List (β × α),
    RepL g w U (ps.map fun p => encB p.1).flatten (ps.map fun p => enc p.2).flatten ↔ ∀ p ∈ ps, RepL g w U (encB p.1) (enc p.2)
  | [] => by simp [RepL]
  | p :: ps => by
    simp only [List.map_cons, List.flatten_cons]
    rw [repL_append (hl _ _), repL_flat hl ps]
    simp
theorem perm_map_ex {α β : Type} {f : α → β} : ∀ {m m' : List β}, m.Perm m' → ∀ ps : List α, ps.map f = m → ∃ ps' : List α, ps'.Perm ps ∧ ps'.map f = m' := by
  intro m m' h
  induction h with
  | nil => intro ps e; exact ⟨ps, .refl _, e⟩
  | cons x h ih =>
    intro ps e
    cases ps with
    | nil => cases e
    | cons p ps =>
      rw [List.map_cons] at e
      injection e with e1 e2
      obtain ⟨ps', h1, h2⟩ := ih ps e2
      exact ⟨p :: ps', h1.cons p, by rw [List.map_cons, e1, h2]⟩
  | swap x y l =>
    intro ps e
    match ps, e with
    | p :: q :: ps, e =>
      simp only [List.map_cons, List.cons.injEq] at e
      exact ⟨q :: p :: ps, List.Perm.swap _ _ _, by simp [e.1, e.2.1, e.2.2]⟩
  | trans h1 h2 ih1 ih2 =>
    intro ps e
    obtain ⟨ps1, p1, p2⟩ := ih1 ps e
    obtain ⟨ps2, q1, q2⟩ := ih2 ps1 p2
    exact ⟨ps2, q1.trans p1, q2⟩
theorem flatK_list {α : Type} [Inhabited α] {enc : α → List Value} {k : Nat} (hk : ∀ x, (enc x).length = k) (d : Array α) : (flatK enc k d).toList = (d.toList.map enc).flatten := by
  have hl : ∀ cs ∈ d.toList.map enc, cs.length = k := fun cs hcs => by
    obtain ⟨x, _, rfl⟩ := List.mem_map.1 hcs; exact hk x
  have hlen : (d.toList.map enc).flatten.length = d.size * k := by
    have : ∀ l : List α, (l.map enc).flatten.length = l.length * k := fun l => by
      induction l with
      | nil => simp
      | cons a l ih => simp [hk, Nat.succ_mul, ih]; omega
    rw [this]; simp
  apply List.ext_getElem?
  intro t
  by_cases ht : t < d.size * k
  · have k0 : 0 < k := by rcases Nat.eq_zero_or_pos k with h | h; · subst h; simp at ht
                          · exact h
    have h1 : t / k < d.size := by rw [Nat.div_lt_iff_lt_mul k0]; exact ht
    have h2 : t % k < k := Nat.mod_lt _ k0
    have e : t = t / k * k + t % k := by rw [Nat.mul_comm]; exact (Nat.div_add_mod t k).symm
    rw [Array.getElem?_toList, Array.getElem?_eq_getElem (by simpa using ht), ← getElem!_pos _ t (by simpa using ht), get_flatK _ _ _ _ ht]
    have hg : (d.toList.map enc)[t / k]? = some (enc d[t / k]!) := by
      rw [List.getElem?_map, Array.getElem?_toList, Array.getElem?_eq_getElem h1, getElem!_pos d _ h1]; rfl
    have := flatten_get hl hg h2
    rw [e, this, ← e]
    rw [List.getElem?_eq_getElem (by rw [hk]; exact h2), getElem!_pos _ _ (by rw [hk]; exact h2)]
  · rw [List.getElem?_eq_none (by simp; omega), List.getElem?_eq_none (by omega)]
theorem zip_fst {α β : Type} : ∀ {l : List α} {m : List β}, l.length = m.length → (l.zip m).map (·.1) = l ∧ (l.zip m).map (·.2) = m
  | [], [], _ => ⟨rfl, rfl⟩
  | a :: l, b :: m, h => by
    have := zip_fst (l := l) (m := m) (by simpa using h)
    simp [this.1, this.2]
section
variable {P : Program}
theorem acall_sortfunc {α β : Type} [Inhabited α] {f k : Nat} {rest : List Value} (hE : Enters P f) (encB : β → List AV) (enc : α → List Value) (hB : ∀ x, (encB x).length = k) (hk : ∀ x, (enc x).length = k) (lt : α → α → Bool) (R : β → α → Prop) (l : List β) (hl : l.length < 4611686018427387904)
    (hR : ∀ x ∈ l, ∀ (g : Gh) (w : World) (vs : List Value), RepL g w NoU (encB x) vs → ∃ a, enc a = vs ∧ R x a)
    (hcall : ∀ (w : World) (b cap : Nat) (d : Array α), HoldsK enc k w b 0 d → b < w.heap.size → d.size < 4611686018427387904 → d.size = l.length → Calls P f (#[.slice (some ⟨b, 0, none⟩) d.size cap] ++ rest.toArray) w fun e w' =>
      e = .returned (.tuple #[]) ∧ ∃ d' n os, PermIn 0 d.size d d' ∧ SortedIn lt 0 d.size d' ∧ w' = sortWorldK enc k w b 0 n d' os)
    (hnone : l = [] → ∀ w : World, Calls P f (#[.slice none 0 0] ++ rest.toArray) w fun e w' => e = .returned (.tuple #[]) ∧ w' = w) :
    ACall P f (.msl 1000 l.length :: rest.map .v) (heapOf [(1000, .arr k (l.map encB))] hfree) fun r h' =>
      r = .tup [] ∧ ∃ l' : List β, l'.Perm l ∧ (∃ al : List α, al.length = l'.length ∧ (∀ (i : Nat) (x : β) (a : α), l'[i]? = some x → al[i]? = some a → R x a) ∧ al.Pairwise (fun x y => lt y x = false)) ∧ h' = heapOf [(1000, .arr k (l'.map encB))] hfree := by
  have hmain := acall_row (P := P) (f := f) (es := l.map encB) (sz := k) (rest := rest)
    (Q := fun es' => ∃ l' : List β, l'.Perm l ∧ (∃ al : List α, al.length = l'.length ∧ (∀ (i : Nat) (x : β) (a : α), l'[i]? = some x → al[i]? = some a → R x a) ∧ al.Pairwise (fun x y => lt y x = false)) ∧ es' = l'.map encB) hE ?_ ?_
  · rw [List.length_map] at hmain
    refine ⟨hE, fun g w vals q1 q2 q3 => (hmain.2 g w vals q1 q2 q3).mono fun _ _ ⟨v, r, h', g', e1, ⟨e2, es', ⟨l', p1, p2, p3⟩, p4⟩, rest⟩ => ⟨v, r, h', g', e1, ⟨e2, l', p1, p2, by rw [p4, p3]⟩, rest⟩⟩
  · intro e
    have : l = [] := by simpa using e
    subst this
    exact ⟨⟨[], .refl _, ⟨[], rfl, fun i x a h => by simp at h, .nil⟩, rfl⟩, hnone rfl⟩
  · intro g w b cap F hr hF hH hb
    -- the elements in memory
    have hsplit : ∀ (m : List β) (vs : List Value), (∀ x ∈ m, x ∈ l) → RepL g w NoU (m.map encB).flatten vs → ∃ al : List α, al.length = m.length ∧ vs = (al.map enc).flatten ∧ ∀ (i : Nat) (x : β) (a : α), m[i]? = some x → al[i]? = some a → R x a := by
      intro m
      induction m with
      | nil =>
        intro vs _ h
        have : vs = [] := List.eq_nil_of_length_eq_zero (by simpa using h.1)
        subst this
        exact ⟨[], rfl, rfl, fun i x a h => by simp at h⟩
      | cons x m ih =>
        intro vs hm h
        rw [List.map_cons, List.flatten_cons] at h
        have hlen := h.1
        rw [List.length_append, hB] at hlen
        have e : vs = vs.take k ++ vs.drop k := (List.take_append_drop k vs).symm
        rw [e] at h
        rw [repL_append (by rw [List.length_take, hB]; omega)] at h
        obtain ⟨a, a1, a2⟩ := hR x (hm x (List.mem_cons_self ..)) g w _ h.1
        obtain ⟨al, b1, b2, b3⟩ := ih _ (fun y hy => hm y (List.mem_cons_of_mem _ hy)) h.2
        refine ⟨a :: al, by simp [b1], by rw [List.map_cons, List.flatten_cons, a1, ← b2, ← e], fun i y c q1 q2 => ?_⟩
        cases i with
        | zero => simp only [List.getElem?_cons_zero, Option.some.injEq] at q1 q2; subst q1; subst q2; exact a2
        | succ i => exact b3 i y c (by simpa using q1) (by simpa using q2)
    obtain ⟨al, s1, s2, s3⟩ := hsplit l F.toList (fun _ h => h) hr
    have hFd : F = flatK enc k al.toArray := Array.toList_inj.1 (by rw [flatK_list hk, s2])
    have hd : HoldsK enc k w b 0 al.toArray := by unfold HoldsK; rw [← hFd]; exact hH
    have hc := hcall w b cap al.toArray hd hb (by simpa [s1] using hl) (by simp [s1])
    have hsz : al.toArray.size = (l.map encB).length := by simp [s1]
    rw [hsz] at hc
    refine hc.mono ?_
    rintro e w' ⟨rfl, d', n, os, p1, p2, rfl⟩
    obtain ⟨z1, z2⟩ := zip_fst s1.symm
    obtain ⟨hsz', _, hperm⟩ := p1
    have hsz' : d'.size = al.length := by rw [hsz']; simp
    have e1 : d'.extract 0 (l.map encB).length = d' := by rw [show (l.map encB).length = d'.size by rw [hsz']; simp [s1]]; exact Array.extract_size
    have e2 : al.toArray.extract 0 (l.map encB).length = al.toArray := by rw [← hsz]; exact Array.extract_size
    rw [e1, e2] at hperm
    have hperm : al.Perm d'.toList := by
      first
      | exact hperm.symm
      | exact hperm
      | (have := hperm.symm; simpa using this)
    obtain ⟨ps', r1, r2⟩ := perm_map_ex hperm (l.zip al) z2
    have rel : ∀ p ∈ l.zip al, R p.1 p.2 := fun p hp => by
      obtain ⟨i, hi⟩ := List.mem_iff_getElem?.1 hp
      rw [List.getElem?_zip_eq_some] at hi
      exact s3 i _ _ hi.1 hi.2
    refine ⟨rfl, flatK enc k d', (ps'.map (·.1)).map encB, n, os, by rw [size_flatK, hsz', hF]; simp [s1], ⟨ps'.map (·.1), ?_, ⟨d'.toList, by rw [← r2]; simp, fun i x a q1 q2 => ?_, ?_⟩, rfl⟩, by have := r1.length_eq; simp [this, s1], fun cs hcs => ?_, fun g w hr => ?_, ?_⟩
    · have := r1.map (·.1); rw [z1] at this; exact this
    · rw [← r2] at q2
      rw [List.getElem?_map, Option.map_eq_some_iff] at q1 q2
      obtain ⟨p, q1, rfl⟩ := q1
      obtain ⟨p', q2, rfl⟩ := q2
      rw [q1] at q2; cases q2
      exact rel p (r1.mem_iff.1 (List.mem_of_getElem? q1))
    · rw [List.pairwise_iff_getElem]
      intro i j hi hj hij
      have hi' : i < d'.size := by simpa using hi
      have hj' : j < d'.size := by simpa using hj
      have := p2 i j (Nat.zero_le _) hij (by rw [hsz'] at hj'; simp [s1] at hj' ⊢; omega)
      rw [getElem!_pos d' j hj', getElem!_pos d' i hi'] at this
      simpa using this
    · obtain ⟨x, _, rfl⟩ := List.mem_map.1 hcs; exact hB x
    · have h1 : RepL g w NoU ((l.zip al).map fun p => encB p.1).flatten ((l.zip al).map fun p => enc p.2).flatten := by
        have a1 : (l.zip al).map (fun p => encB p.1) = l.map encB := by
          have : (l.zip al).map (fun p => encB p.1) = ((l.zip al).map (·.1)).map encB := by rw [List.map_map]; rfl
          rw [this, z1]
        have a2 : (l.zip al).map (fun p => enc p.2) = al.map enc := by
          have : (l.zip al).map (fun p => enc p.2) = ((l.zip al).map (·.2)).map enc := by rw [List.map_map]; rfl
          rw [this, z2]
        rw [a1, a2, ← s2]; exact hr
      have hlen : ∀ (x : α) (y : β), (enc x).length = (encB y).length := fun x y => by rw [hk, hB]
      rw [repL_flat hlen] at h1
      have h2 := (repL_flat (g := g) (w := w) (U := NoU) hlen ps').2 fun p hp => h1 p (r1.mem_iff.1 hp)
      have b1 : (ps'.map (·.1)).map encB = ps'.map fun p => encB p.1 := by rw [List.map_map]; rfl
      have b2 : (flatK enc k d').toList = (ps'.map fun p => enc p.2).flatten := by
        rw [flatK_list hk, ← r2, List.map_map]; rfl
      rw [b1, b2]; exact h2
    · rfl
end
end Go.Eng

namespace Go.Eng
section
variable {P : Program}
theorem acall_sub {f : Nat} {fn : Func} {c : Code} {args : List AV} {H0 : List (Nat × HO)} {Q : AV → (Nat → HO) → Prop} (cx : Cx) (σ : Ren) (hP : cx.P = P) (hT : TabOk P cx.T) (hm : P.follows .mixedOrders = true) (hx : cx.ext = true) (hf : P.funcs[f]? = some fn)
    (hn : (fn.name == "runtime.NumGoroutine") = false) (hb : fn.body = some c) (hN : args.length ≤ fn.ntmps) (hc : codeOk fn.ntmps c = true) (hσ : (renInj σ && extOk σ H0) = true)
    (hk : awp cx c (endG cx fn.results.toList σ fun r h' => ∃ r', Sub r r' ∧ Q r' h') ⟨envA args, heapOf H0 hfree⟩) : ACall P f args (heapOf H0 hfree) Q :=
  (gcall_of cx σ hP hT hm hx hf hn hb hN hc hσ hk).mono fun _ _ ⟨r', s, q⟩ => ⟨r', s, q⟩
end
end Go.Eng
