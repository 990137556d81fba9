/- Lemmas for the claims of this seat, without a condition: part 24 (J1, J2, R1, R2, R3, R4, R5, C60, C61, C62, C63). -/
import Derived.Test.YtodcmjcogdcmlaaGreatDoorA23
import Derived.Test.YtodcmjcogdcmlaaGreatDoorCards
import Derived.Test.YtodcmjcogdcmlaaGreatDoorTie
import Derived.ProofKit
import Derived.OpenShut
import Derived.Deep.DeepHandedRow
import Derived.Lib.LaidTab
namespace Go.Proofs.YtodcmjcogdcmlaaGreatDoor.joins
open Go Go.Eng Go.Proofs Go.ChangeShapes Go.WideShapes Go.ChangeAt Go.RowKit

section
variable {H : Type} {enc : TypeId × Value → H} {w : World}
theorem all_le {d : DataW H} {l : List (DataW H)} (h : d ∈ l) : Rows.uptoBulk d ≤ Rows.uptoBulkAll l := by
 induction l with
 | nil => cases h
 | cons x r ih =>
  simp only [Rows.uptoBulkAll]
  cases List.mem_cons.1 h with
  | inl e => subst e; omega
  | inr e => have := ih e; omega
theorem one_le (d : DataW H) : 1 ≤ Rows.uptoBulk d := by
 cases d with
 | lit l => cases l <;> simp [Rows.uptoBulk]
 | nil => simp [Rows.uptoBulk]
 | ptr d => simp [Rows.uptoBulk]
 | slice elems spare => simp [Rows.uptoBulk]
 | agg parts => simp [Rows.uptoBulk]
 | iface t d => simp [Rows.uptoBulk]
 | map entries => simp [Rows.uptoBulk]
 | held h => simp [Rows.uptoBulk]
theorem len_le (l : List (DataW H)) : l.length ≤ Rows.uptoBulkAll l := by
 induction l with
 | nil => simp [Rows.uptoBulkAll]
 | cons x r ih => have := one_le x; simp only [Rows.uptoBulkAll, List.length_cons]; omega
theorem bulk_ok : BulkOk (H := H) Rows.uptoBulk where
 slice es sp := by
  have h1 := len_le es
  refine ⟨by simp only [Rows.uptoBulk]; omega, fun d hd => ?_⟩
  have := all_le hd
  simp only [Rows.uptoBulk]; omega
 agg ps d hd := by
  have := all_le hd
  simp only [Rows.uptoBulk]; omega
 str b := by simp only [Rows.uptoBulk]; omega

abbrev NB : Nat := 1048576
abbrev Op (enc : TypeId × Value → H) (w : World) (t : TypeId) {α : Type} (e : α → List AV) (ok : α → Prop) : Prop := Opens enc Tryz.prog w Rows.uptoBulk NB t e ok
theorem oI : Op enc w 3 (fun n : Int => [vi n]) (fun _ => True) := (opens_int Tryz.underlying3).to id (fun _ _ => ⟨rfl, trivial⟩)
theorem oB : Op enc w 4 (fun b : Bool => [vb b]) (fun _ => True) := opens_bool Tryz.underlying4
theorem oS : Op enc w 9 (fun s : ByteArray => [vs s]) (fun s => s.size ≤ NB) := opens_string bulk_ok Tryz.underlying9
theorem oVer : Op enc w 57 encVer (fun _ => True) :=
 (opens_struct bulk_ok Tryz.underlying57 (L := 3) (by kernel_rfl) (opensF_cons rfl (n := 1) (by kernel_rfl) oI (opensF_cons rfl (n := 1) (by kernel_rfl) oI (opensF_cons rfl (n := 1) (by kernel_rfl) oI opensF_nil)))).to
  (fun p => (⟨p.1, p.2.1, p.2.2.1⟩ : Ver)) (fun _ _ => ⟨rfl, trivial⟩)
theorem oSpan : Op enc w 118 encSpan (fun _ => True) :=
 (opens_struct bulk_ok Tryz.underlying118 (L := 2) (by kernel_rfl) (opensF_cons rfl (n := 1) (by kernel_rfl) oI (opensF_cons rfl (n := 1) (by kernel_rfl) oI opensF_nil))).to
  (fun p => (p.1, p.2.1)) (fun _ _ => ⟨rfl, trivial⟩)
theorem oSet : Op enc w 105 (fun l : SpanL => [sl encSpan l]) (fun l => l.length ≤ NB) :=
 (opens_slice bulk_ok Tryz.underlying105 (m := 1) (by kernel_rfl) (fun _ => rfl) oSpan).to id (fun _ h => ⟨rfl, h.1⟩)
abbrev OkRq (q : Rq) : Prop := q.path.size ≤ NB ∧ q.set.length ≤ NB
theorem oRq : Op enc w 120 encRq OkRq :=
 (opens_struct bulk_ok Tryz.underlying120 (L := 2) (by kernel_rfl) (opensF_cons rfl (n := 1) (by kernel_rfl) oS (opensF_cons rfl (n := 1) (by kernel_rfl) oSet opensF_nil))).to
  (fun p => (⟨p.1, p.2.1⟩ : Rq)) (fun _ h => ⟨rfl, h.1, h.2.1⟩)
abbrev OkRqs (l : List Rq) : Prop := l.length ≤ NB ∧ ∀ q ∈ l, OkRq q
theorem oRqs : Op enc w 26 (fun l : List Rq => [sl encRq l]) OkRqs :=
 opens_slice bulk_ok Tryz.underlying26 (m := 1) (by kernel_rfl) (fun _ => rfl) oRq
abbrev OkRl (r : Rl) : Prop := r.path.size ≤ NB ∧ OkRqs r.reqs
theorem oRl : Op enc w 89 encRl OkRl :=
 (opens_struct bulk_ok Tryz.underlying89 (L := 9) (by kernel_rfl) (opensF_cons rfl (n := 1) (by kernel_rfl) oS (opensF_cons rfl (n := 3) (by kernel_rfl) oVer (opensF_cons rfl (n := 1) (by kernel_rfl) oRqs
  (opensF_cons rfl (n := 1) (by kernel_rfl) oS (opensF_cons rfl (n := 1) (by kernel_rfl) oS (opensF_cons rfl (n := 1) (by kernel_rfl) oS (opensF_cons rfl (n := 1) (by kernel_rfl) oB opensF_nil)))))))).to
  (fun p => (⟨p.1, p.2.1, p.2.2.1, p.2.2.2.1, p.2.2.2.2.1, p.2.2.2.2.2.1, p.2.2.2.2.2.2.1⟩ : Rl)) (fun _ h => ⟨rfl, h.1, h.2.2.1⟩)
theorem oRls : Op enc w 22 (fun l : List Rl => [sl encRl l]) (fun l => l.length ≤ NB ∧ ∀ r ∈ l, OkRl r) :=
 opens_slice bulk_ok Tryz.underlying22 (m := 8) (by kernel_rfl) (fun _ => rfl) oRl
theorem oIfc : Op enc w 302 (fun s : ByteArray => [vs s, .junk, .junk, .junk, .junk]) (fun _ => True) :=
 (opens_struct bulk_ok Tryz.underlying302 (L := 5) (by kernel_rfl) (opensF_cons rfl (n := 1) (by kernel_rfl) oS (opensF_cons rfl (n := 1) (by kernel_rfl) (opens_any Tryz.underlying297) (opensF_cons rfl (n := 1) (by kernel_rfl) (opens_any Tryz.underlying298)
  (opensF_cons rfl (n := 1) (by kernel_rfl) (opens_any Tryz.underlying299) (opensF_cons rfl (n := 1) (by kernel_rfl) (opens_any Tryz.underlying300) opensF_nil)))))).to (fun p => p.1) (fun _ _ => ⟨rfl, trivial⟩)
theorem oIfs : Op enc w 23 (fun l : List ByteArray => [sl (fun s => [vs s, .junk, .junk, .junk, .junk]) l]) (fun _ => True) :=
 (opens_slice bulk_ok Tryz.underlying23 (m := 4) (by kernel_rfl) (fun _ => rfl) oIfc).to id (fun _ _ => ⟨rfl, trivial⟩)
theorem oIx : Op enc w 25 (fun p : List Rl × List (List AV) => [sl encRl p.1, .slice .none p.2]) (fun p => p.1.length ≤ NB ∧ ∀ r ∈ p.1, OkRl r) :=
 (opens_struct bulk_ok Tryz.underlying25 (L := 2) (by kernel_rfl) (opensF_cons rfl (n := 1) (by kernel_rfl) oRls (opensF_cons rfl (n := 1) (by kernel_rfl) oIfs opensF_nil))).to
  (fun p => (p.1, p.2.1.map (fun s => [vs s, .junk, .junk, .junk, .junk]))) (fun _ h => ⟨rfl, h.1⟩)
theorem oNf : Op enc w 68 encNf (fun i => i.path.size ≤ NB) :=
 (opens_struct bulk_ok Tryz.underlying68 (L := 6) (by kernel_rfl) (opensF_cons rfl (n := 1) (by kernel_rfl) oI (opensF_cons rfl (n := 1) (by kernel_rfl) oS (opensF_cons rfl (n := 1) (by kernel_rfl) oI
  (opensF_cons rfl (n := 1) (by kernel_rfl) oI (opensF_cons rfl (n := 1) (by kernel_rfl) oI (opensF_cons rfl (n := 1) (by kernel_rfl) oI opensF_nil))))))).to
  (fun p => (⟨p.1, p.2.1, p.2.2.1, p.2.2.2.1, p.2.2.2.2.1, p.2.2.2.2.2.1⟩ : Nf)) (fun _ h => ⟨rfl, h.2.1⟩)
theorem oNfs : Op enc w 27 (fun l : List Nf => [sl encNf l]) (fun l => l.length ≤ NB ∧ ∀ i ∈ l, i.path.size ≤ NB) :=
 opens_slice bulk_ok Tryz.underlying27 (m := 5) (by kernel_rfl) (fun _ => rfl) oNf
theorem few_of {n : Nat} (h : n ≤ NB) : n ≤ 1073741824 := Nat.le_trans h (by decide)
theorem lim_of {x : List Rl} {roots : List Rq} (h : x.length ≤ NB ∧ ∀ r ∈ x, OkRl r) (k : OkRqs roots) : Lim x roots where
 ix := few_of h.1
 rs := few_of k.1
 rel r hr := ⟨few_of (h.2 r hr).2.1, few_of (h.2 r hr).1, fun q hq => ⟨few_of ((h.2 r hr).2.2 q hq).2, few_of ((h.2 r hr).2.2 q hq).1⟩⟩
 rq q hq := ⟨few_of (k.2 q hq).2, few_of (k.2 q hq).1⟩
end

theorem ok_agg {P : Program} {W : World} {base : Nat} {t : TypeId} {v : Value} {fs : Array Field} (hu : P.underlying t = some (.struct fs)) (h : Value.okWide P W .any base t v) : ∃ cs, v = .agg cs := by
 unfold Value.okWide at h
 rw [hu] at h
 obtain ⟨cs, e, _⟩ := h
 exact ⟨cs, e⟩
theorem ok_slice {P : Program} {W : World} {base : Nat} {t e : TypeId} {v : Value} (hu : P.underlying t = some (.slice e)) (h : Value.okWide P W .any base t v) : v.oneCell' = true := by
 unfold Value.okWide at h
 rw [hu] at h
 unfold Cell.okWide Cell.ok at h
 rw [hu] at h
 cases v <;> first | rfl | simp at h
theorem int_of_shape {P : Program} {w : World} {g : Nat} {t : TypeId} {k : IntKind} {zero : Array Value} (h : w.ShapedOpen P) (hg : g < P.globals.size)
  (h0 : ((begin P (fun _ _ => 0) default).world.heap[g]?).bind Obj.row? = some (zero, t)) (hz : zero.size = 1)
  (hb : P.buildable t = true) (hc : P.cellTypes P.depth t = some [t]) (hu : P.underlying t = some (.int k)) : ∃ p, w.cell? ⟨g, 0, none⟩ = some (.int k p) := by
 obtain ⟨cs, hh, hs, hr⟩ := h.1 g zero t hg h0
 obtain ⟨ts, hts, _, hall⟩ := hr hb
 rw [hc] at hts
 cases hts
 have h1 : 0 < cs.size := by omega
 obtain ⟨u, hu', hok⟩ := hall 0 cs[0] (by simp [h1])
 have : u = t := by simpa using hu'.symm
 subst this
 have hcell : w.cell? ⟨g, 0, none⟩ = some cs[0] := by simp [World.cell?, hh, h1]
 rw [hcell]
 unfold Cell.ok at hok
 rw [hu] at hok
 cases hv : cs[0] <;> rw [hv] at hok <;> simp at hok
 obtain ⟨rfl, _⟩ := hok
 exact ⟨_, rfl⟩
theorem maxLen_cell {W : World} (h : W.ShapedOpen Tryz.prog) : ∃ m, W.cell? ⟨0, 0, none⟩ = some (.int .i64 m) :=
 int_of_shape (t := 3) (zero := #[.int .i64 0]) h (of_decide_eq_true (by kernel_rfl)) (by kernel_rfl) rfl (by kernel_rfl) (by kernel_rfl) Tryz.underlying3

def Still (W W' : World) : Prop := W'.os = W.os ∧ W'.output = W.output ∧ W.heap.size ≤ W'.heap.size ∧ ∀ b, b < W.heap.size → W'.heap[b]? = W.heap[b]?
theorem run_true {f : Nat} {args : List AV} {vals : Array Value} {W : World} (hc : PC f args (vb true)) (hM : ∃ m, W.cell? ⟨0, 0, none⟩ = some (.int .i64 m)) (hs : vals.size = args.length)
  (hr : ∀ (i : Nat) (av : AV) (x : Value), args[i]? = some av → vals[i]? = some x → Rep (g00 W) W NoU av x) : Calls Tryz.prog f vals W fun e W' => e = .returned (.bool true) ∧ Still W W' := by
 refine (hc.2 (g00 W) W vals hs (fun i av x q1 q2 => (hr i av x q1 q2).up _) (inv00 hM)).mono fun e W' ⟨v, r, h', g', e1, e2, e3, e4, _⟩ => ?_
 subst e1
 obtain ⟨rfl, rfl⟩ := e2
 obtain rfl := e3.v_eq
 exact ⟨rfl, e4.os, e4.output, e4.size, fun b hb => e4.frame b hb (fun r h => h.elim)⟩
theorem Still.kept {W W' : World} (h : Still W W') (may : MemPlace → Prop) : W.keptBut W' may := by
 refine ⟨h.1, h.2.1, fun i hi => ?_⟩
 rw [h.2.2.2 i hi]
 cases hh : W.heap[i]? with
 | none => rfl
 | some o => cases o <;> simp
theorem Still.same {W W' : World} (h : Still W W') {p : MemPlace} (hp : p.block < W.heap.size) : W.sameAt W' p := by
 cases p with
 | cell b off =>
  show W'.cell? ⟨b, off, none⟩ = W.cell? ⟨b, off, none⟩
  unfold World.cell?
  rw [h.2.2.2 b hp]
 | map b => exact h.2.2.2 b hp
theorem kids : Kids Tryz.prog (· < Tryz.prog.types.size) := kids_rows (by kernel_rfl) (by kernel_rfl)
theorem full : ∀ t e, t < Tryz.prog.types.size → Tryz.prog.underlying t = some (.slice e) → 0 < Tryz.prog.cellsOf e := slices_full_of Tryz.prog (by kernel_rfl)
theorem carry {H : Type} {enc : TypeId × Value → H} {W W' : World} (h : Still W W') : ∀ {ts : List TypeId} {vs : List Value} {ds : List (DataW H)} {ps : List MemPlace}, DataW.TrodAll enc Tryz.prog W 0 (fun _ => true) true ts vs ds ps → DataW.TrodAll enc Tryz.prog W' 0 (fun _ => true) true ts vs ds ps
 | [], [], [], _, e => e
 | t :: ts, v :: vs, d :: ds, ps, k => by
  have hlt := k.lt
  obtain ⟨p, q, ⟨n, h1⟩, h2, rfl⟩ := k
  exact ⟨p, q, ⟨n, DataW.trod_carry n _ _ _ h1 (fun x hx => h.same (hlt x (List.mem_append_left _ hx)))⟩, carry h h2, rfl⟩
 | [], [], _ :: _, _, k => k.elim
 | [], _ :: _, _, _, k => k.elim
 | _ :: _, [], _, _, k => k.elim
 | _ :: _, _ :: _, [], _, k => k.elim
theorem post_true {H : Type} {enc : TypeId × Value → H} {W W' : World} {f : Func} {s : ChangeSpec} {args : Array Value} {ds : List (DataW H)} {before : List MemPlace} (hst : Still W W') (hv : s.vars = [])
  (hW : DataW.Whole enc Tryz.prog f.params.toList s.vars false W args.toList ds [] before) (hr : f.resultTypes = #[4]) (hT : ∀ t ∈ f.params.toList, t < Tryz.prog.types.size) (hs : s.fn H ds = { results := [.lit (.bool true)], args := ds }) :
  s.post enc Tryz.prog f false true false false W args (.bool true) W' := by
 have hW0 := hW
 obtain ⟨p, q, hA, hV, rfl, hz, _⟩ := hW
 rw [hv] at hV
 have hq : q = [] := hV
 subst hq
 have hlt := hW0.lt
 have hs2 : s.fn H (ds ++ []) = { results := [.lit (.bool true)], args := ds } := by rw [List.append_nil]; exact hs
 refine ⟨ds, [], p ++ [], [], p, [], hW0, ?_, ?_, ?_, hst.kept _, fun h => by cases h⟩
 ·rw [hs2, hr]
  exact ⟨[], [], ⟨1, by rw [show (Value.bool true).cells.toList = [.bool true] from rfl, DataW.trod_step]; unfold DataW.trodStep; rw [Tryz.underlying4]⟩, rfl, rfl⟩
 ·rw [hs2]
  exact (carry hst hA).respare kids full hT (fun x hx => by simpa using hlt x (List.mem_append_left _ hx))
 ·rw [hs2, hv]; rfl
end Go.Proofs.YtodcmjcogdcmlaaGreatDoor.joins

namespace Go.Proofs.YtodcmjcogdcmlaaGreatDoor.joins
open Go Go.Eng Go.Proofs Go.ChangeShapes Go.WideShapes Go.ChangeAt Go.RowKit
theorem own : ownKnob Tryz.prog.godebug = none := by kernel_rfl
def flatD : Nat → DataW Unit → List Value
 | 0, _ => []
 | n + 1, .agg l => l.flatMap (flatD n)
 | _ + 1, .lit (.int k i) => [.int k i]
 | _ + 1, _ => []
def layIn (d : DataW Unit) : Obj → Obj
 | .cells _ t frozen => .cells (flatD 4 d).toArray t frozen
 | o => o
noncomputable def laidWorld (os : Os) : World :=
 { World.holding Tryz.prog os ⟨#[], #[], []⟩ with heap := ((World.holding Tryz.prog os ⟨#[], #[], []⟩).heap.modify 1 (layIn Rows.laid_unicode_utf8_first)).modify 2 (layIn Rows.laid_unicode_utf8_acceptRanges) }
abbrev nilV : Value := .slice none 0 0
theorem arr3 {args : Array Value} {a b c : Value} (h : args.toList = [a, b, c]) : args = #[a, b, c] := by
 cases args; simp_all
theorem looksOff : false = Tryz.pinned.checked.prog.looks [] := by kernel_rfl
theorem noStand : ∀ t ∈ ([25, 26, 27, 37, 40, 63, 5, 57] : List Nat), Tryz.pinned.checked.prog.wantsStandIn t = false := by
 intro t ht
 simp only [List.mem_cons, List.mem_nil_iff, or_false] at ht
 rcases ht with rfl | rfl | rfl | rfl | rfl | rfl | rfl | rfl <;> exact (show Tryz.prog.wantsStandIn _ = false by kernel_rfl)
end Go.Proofs.YtodcmjcogdcmlaaGreatDoor.joins

namespace Go.Eng
open Go.Proofs
theorem c250 (c : UInt8) : PC 250 [vc c] (vb (smallC c)) := by
 refine pcall_sub (cxp pl0) rfl tab_ok hm rfl Tryz.func250 (by kernel_rfl) rfl (Nz rfl) (by kernel_rfl) ?_
 have e1 : decide ((97 : UInt8) ≤ c) = decide ((97 : Int) ≤ (c.toNat : Int)) := u8_le c 97 (by decide)
 have e2 : decide (c ≤ (122 : UInt8)) = decide ((c.toNat : Int) ≤ (122 : Int)) := u8_ge c 122 (by decide)
 have es : smallC c = (decide ((97 : Int) ≤ (c.toNat : Int)) && decide ((c.toNat : Int) ≤ (122 : Int))) := by unfold smallC; rw [e1, e2]
 refine Yi ?_ ?_
 ·intro h
  have h : (97 : Int) ≤ (c.toNat : Int) := h
  refine Yi ?_ ?_
  ·intro h2
   have h2 : (c.toNat : Int) ≤ 122 := h2
   exact .of_eq (congrArg vb (show true = smallC c by rw [es, decide_eq_true h, decide_eq_true h2]; rfl))
  ·intro h2
   have h2 : ¬ (c.toNat : Int) ≤ 122 := h2
   exact .of_eq (congrArg vb (show false = smallC c by rw [es, decide_eq_false h2, Bool.and_false]))
 ·intro h
  have h : ¬ (97 : Int) ≤ (c.toNat : Int) := h
  exact .of_eq (congrArg vb (show false = smallC c by rw [es, decide_eq_false h]; rfl))
theorem c251 (c : UInt8) : PC 251 [vc c] (vb (digitC c)) := by
 refine pcall_sub (cxp pl0) rfl tab_ok hm rfl Tryz.func251 (by kernel_rfl) rfl (Nz rfl) (by kernel_rfl) ?_
 have e1 : decide ((48 : UInt8) ≤ c) = decide ((48 : Int) ≤ (c.toNat : Int)) := u8_le c 48 (by decide)
 have e2 : decide (c ≤ (57 : UInt8)) = decide ((c.toNat : Int) ≤ (57 : Int)) := u8_ge c 57 (by decide)
 have es : digitC c = (decide ((48 : Int) ≤ (c.toNat : Int)) && decide ((c.toNat : Int) ≤ (57 : Int))) := by unfold digitC; rw [e1, e2]
 refine Yi ?_ ?_
 ·intro h
  have h : (48 : Int) ≤ (c.toNat : Int) := h
  refine Yi ?_ ?_
  ·intro h2
   have h2 : (c.toNat : Int) ≤ 57 := h2
   exact .of_eq (congrArg vb (show true = digitC c by rw [es, decide_eq_true h, decide_eq_true h2]; rfl))
  ·intro h2
   have h2 : ¬ (c.toNat : Int) ≤ 57 := h2
   exact .of_eq (congrArg vb (show false = digitC c by rw [es, decide_eq_false h2, Bool.and_false]))
 ·intro h
  have h : ¬ (48 : Int) ≤ (c.toNat : Int) := h
  exact .of_eq (congrArg vb (show false = digitC c by rw [es, decide_eq_false h]; rfl))
theorem c279 (c : UInt8) : PC 279 [vc c] (vb (capC c)) := by
 refine pcall_sub (cxp pl0) rfl tab_ok hm rfl Tryz.func279 (by kernel_rfl) rfl (Nz rfl) (by kernel_rfl) ?_
 have e1 : decide ((65 : UInt8) ≤ c) = decide ((65 : Int) ≤ (c.toNat : Int)) := u8_le c 65 (by decide)
 have e2 : decide (c ≤ (90 : UInt8)) = decide ((c.toNat : Int) ≤ (90 : Int)) := u8_ge c 90 (by decide)
 have es : capC c = (decide ((65 : Int) ≤ (c.toNat : Int)) && decide ((c.toNat : Int) ≤ (90 : Int))) := by unfold capC; rw [e1, e2]
 refine Yi ?_ ?_
 ·intro h
  have h : (65 : Int) ≤ (c.toNat : Int) := h
  refine Yi ?_ ?_
  ·intro h2
   have h2 : (c.toNat : Int) ≤ 90 := h2
   exact .of_eq (congrArg vb (show true = capC c by rw [es, decide_eq_true h, decide_eq_true h2]; rfl))
  ·intro h2
   have h2 : ¬ (c.toNat : Int) ≤ 90 := h2
   exact .of_eq (congrArg vb (show false = capC c by rw [es, decide_eq_false h2, Bool.and_false]))
 ·intro h
  have h : ¬ (65 : Int) ≤ (c.toNat : Int) := h
  exact .of_eq (congrArg vb (show false = capC c by rw [es, decide_eq_false h]; rfl))
theorem c273 (c : UInt8) : PC 273 [vc c] (vb (wordC c)) := by
 have h1 := c250 c
 have h2 := c279 c
 have h3 := c251 c
 have ew : wordC c = (smallC c || capC c || digitC c || decide (c = 95)) := rfl
 rcases Bool.eq_false_or_eq_true (smallC c) with e | e
 ·rw [e] at h1
  refine pcall_sub (cxp pl0) rfl tab_ok hm rfl Tryz.func273 (by kernel_rfl) rfl (Nz rfl) (by kernel_rfl) ?_
  refine Xi .pure (Xi _ (Yi (h1) ?_))
  exact .of_eq (congrArg vb (show true = wordC c by rw [ew, e]; rfl))
 rw [e] at h1
 rcases Bool.eq_false_or_eq_true (capC c) with e2 | e2
 ·rw [e2] at h2
  refine pcall_sub (cxp pl0) rfl tab_ok hm rfl Tryz.func273 (by kernel_rfl) rfl (Nz rfl) (by kernel_rfl) ?_
  refine Xi .pure (Xi _ (Yi (h1) ?_))
  refine Xi .pure (Xi _ (Yi (h2) ?_))
  exact .of_eq (congrArg vb (show true = wordC c by rw [ew, e, e2]; rfl))
 rw [e2] at h2
 rcases Bool.eq_false_or_eq_true (digitC c) with e3 | e3
 ·rw [e3] at h3
  refine pcall_sub (cxp pl0) rfl tab_ok hm rfl Tryz.func273 (by kernel_rfl) rfl (Nz rfl) (by kernel_rfl) ?_
  refine Xi .pure (Xi _ (Yi (h1) ?_))
  refine Xi .pure (Xi _ (Yi (h2) ?_))
  refine Xi .pure (Xi _ (Yi (h3) ?_))
  exact .of_eq (congrArg vb (show true = wordC c by rw [ew, e, e2, e3]; rfl))
 rw [e3] at h3
 refine pcall_sub (cxp pl0) rfl tab_ok hm rfl Tryz.func273 (by kernel_rfl) rfl (Nz rfl) (by kernel_rfl) ?_
 refine Xi .pure (Xi _ (Yi (h1) ?_))
 refine Xi .pure (Xi _ (Yi (h2) ?_))
 refine Xi .pure (Xi _ (Yi (h3) ?_))
 have eb : decide (c = 95) = decide ((c.toNat : Int) = 95) := by
  rw [Bool.eq_iff_iff, decide_eq_true_eq, decide_eq_true_eq]
  constructor
  ·intro h; subst h; rfl
  ·intro h; exact UInt8.toNat_inj.1 (by show c.toNat = 95; omega)
 refine Yi ?_ ?_
 ·intro h
  have h : (c.toNat : Int) = 95 := h
  exact .of_eq (congrArg vb (show true = wordC c by rw [ew, e, e2, e3, eb, decide_eq_true h]; rfl))
 ·intro h
  have h : ¬ (c.toNat : Int) = 95 := h
  exact .of_eq (congrArg vb (show false = wordC c by rw [ew, e, e2, e3, eb, decide_eq_false h]; rfl))
theorem c264 (s : ByteArray) (hs : s.data.toList.length < 4611686018427387904) : PC 264 [vs s] (vb (s.data.toList.all wordC)) := by
 have hsz : s.size = s.data.toList.length := by simp
 refine pcall_sub (cxp pl0) rfl tab_ok hm rfl Tryz.func264 (by kernel_rfl) rfl (Nz rfl) (by kernel_rfl) ?_
 refine Xi {i : Nat // i ≤ s.data.toList.length ∧ ∀ j (hj : j < s.data.toList.length), j < i → wordC s.data.toList[j] = true} (Xi (fun i => ⟨[(0, vs s), (3, vi i.1)], [], hfree⟩) (Xi (fun i => s.data.toList.length - i.1) (Yi (Xi ⟨0, Nat.zero_le _, fun j _ h => by omega⟩ ?_) ?_)))
 ·exact ⟨⟨Zr, Zr, Tv⟩, Tv, Fh, Tv⟩
 intro ⟨i, h1, h2⟩
 refine Yi ?_ ?_
 ·intro h
  have h : (i : Int) < (s.size : Nat) := h
  have h : i < s.data.toList.length := by omega
  refine Xi s.data.toList[i] (Yi ⟨by show (0 : Int) ≤ i; omega, by show s.data[((i : Nat) : Int).toNat]? = _; rw [Int.toNat_natCast]; exact at_data s i h⟩ ?_)
  have hc := c273 s.data.toList[i]
  refine Or.elim (Bool.eq_false_or_eq_true (wordC s.data.toList[i])) (fun e => ?_) (fun e => ?_)
  ·rw [e] at hc
   refine Xi .pure (Xi _ (Yi (hc) ?_))
   refine Yi (by show InI64 ((i : Int) + 1); unfold InI64; omega) ?_
   refine Xi ⟨i + 1, by omega, fun j hj hji => ?_⟩ ?_
   ·rcases Nat.lt_or_ge j i with z | z
    ·exact h2 j hj z
    ·have : j = i := by omega
     subst this; exact e
   ·exact ⟨by show s.data.toList.length - (i + 1) < s.data.toList.length - i; omega, ⟨Zr, Zr, Tv⟩, Tv, Fh, Tv⟩
  ·rw [e] at hc
   refine Xi .pure (Xi _ (Yi (hc) ?_))
   have er : s.data.toList.all wordC = false := by
    rw [Bool.eq_false_iff]
    intro ha
    have := List.all_eq_true.1 ha _ (List.getElem_mem h)
    rw [e] at this; cases this
   exact .of_eq (congrArg vb er.symm)
 ·intro h
  have h : ¬ (i : Int) < (s.size : Nat) := h
  have er : s.data.toList.all wordC = true := List.all_eq_true.2 fun c hc => by
   obtain ⟨j, hj, rfl⟩ := List.getElem_of_mem hc
   exact h2 j hj (by omega)
  exact .of_eq (congrArg vb er.symm)
end Go.Eng

namespace Go.Eng
open Go.Proofs
abbrev kwB : List ByteArray := kwW.map bs
theorem c266 : PC 266 [] (sl encStr kwB) := by
 refine pcall_sub (cxp pl0) rfl tab_ok hm rfl Tryz.func266 (by kernel_rfl) rfl (Nz rfl) (by kernel_rfl) ?_
 exact .refl _
theorem c265 (l : List ByteArray) (s : ByteArray) (hl : Few l) : PC 265 [sl encStr l, vs s] (vb (l.any fun q => decide (q = s))) := by
 unfold Few at hl
 refine pcall_sub (cxp pl0) rfl tab_ok hm rfl Tryz.func265 (by kernel_rfl) rfl (Nz rfl) (by kernel_rfl) ?_
 refine Xi {i : Nat // i ≤ l.length ∧ ∀ j (hj : j < l.length), j < i → l[j] ≠ s} (Xi (fun i => ⟨[(0, sl encStr l), (1, vs s), (5, vi i.1)], [], hfree⟩) (Xi (fun i => l.length - i.1) (Yi (Xi ⟨0, Nat.zero_le _, fun j _ h => by omega⟩ ?_) ?_)))
 ·exact ⟨⟨Zr, Zr, Zr, Tv⟩, Tv, Fh, Tv⟩
 intro ⟨i, h1, h2⟩
 refine Yi ?_ ?_
 ·intro h
  have h : (i : Int) < (l.map encStr).length := h
  have h : i < l.length := by simpa using h
  have hg : l[i]? = some l[i] := Ge h
  refine Xi (encStr l[i]) (Yi (Yi (by show (0 : Int) ≤ i; omega) (by simp [hg])) (Yi rfl ?_))
  refine Yi ?_ ?_
  ·intro he
   have he : l[i] = s := he
   exact .of_eq (congrArg vb (show true = _ from (List.any_eq_true.2 ⟨l[i], List.getElem_mem h, by simpa using he⟩).symm))
  ·intro he
   have he : ¬ l[i] = s := he
   refine Yi (by show InI64 ((i : Int) + 1); unfold InI64; omega) ?_
   refine Xi ⟨i + 1, by omega, fun j hj hji => ?_⟩ ?_
   ·rcases Nat.lt_or_ge j i with z | z
    ·exact h2 j hj z
    ·have : j = i := by omega
     subst this; exact he
   ·exact ⟨by show l.length - (i + 1) < l.length - i; omega, ⟨Zr, Zr, Zr, Tv⟩, Tv, Fh, Tv⟩
 ·intro h
  have h : ¬ (i : Int) < (l.map encStr).length := h
  have h : ¬ i < l.length := by simpa using h
  have er : (l.any fun q => decide (q = s)) = false := by
   rw [List.any_eq_false]
   intro q hq
   obtain ⟨j, hj, rfl⟩ := List.getElem_of_mem hq
   simpa using h2 j hj (by omega)
  exact .of_eq (congrArg vb er.symm)
theorem bs_eq {w : List UInt8} {s : ByteArray} : bs w = s ↔ w = s.data.toList := by
 constructor
 ·intro h; rw [← h]; rfl
 ·intro h; rw [h]; rfl
theorem kw_any (s : ByteArray) : (kwB.any fun q => decide (q = s)) = kwW.any (fun w => decide (w = s.data.toList)) := by
 unfold kwB
 rw [List.any_map]
 congr 1
 funext w
 simp only [Function.comp]
 rw [decide_eq_decide]
 exact bs_eq
theorem c252 (s : ByteArray) (hs : s.data.toList.length < 4611686018427387904) : PC 252 [vs s] (vb (isNameL s.data.toList)) := by
 have hsz : s.size = s.data.toList.length := by simp
 obtain ⟨N, hN⟩ : ∃ N, N = isNameL s.data.toList := ⟨_, rfl⟩
 rw [← hN]
 unfold isNameL at hN
 have h264 := c264 s hs
 have h265 := c265 kwB s (by decide)
 rw [kw_any] at h265
 refine pcall_sub (cxp pl0) rfl tab_ok hm rfl Tryz.func252 (by kernel_rfl) rfl (Nz rfl) (by kernel_rfl) ?_
 refine Yi (fun h => ?_) (fun h => ?_)
 rotate_left
 ·have h : ¬ (1 : Int) ≤ (s.size : Nat) := h
  have e : s.data.toList = [] := List.eq_nil_of_length_eq_zero (by omega)
  exact .of_eq (congrArg vb (show false = N by rw [hN, e]; rfl))
 have h : (1 : Int) ≤ (s.size : Nat) := h
 have he : s.data.toList.isEmpty = false := by
  cases e : s.data.toList with
  | nil => rw [e, List.length_nil] at hsz; omega
  | cons _ _ => rfl
 refine Yi (fun h2 => ?_) (fun h2 => ?_)
 rotate_left
 ·have h2 : ¬ ((s.size : Nat) : Int) ≤ 32 := h2
  exact .of_eq (congrArg vb (show false = N by rw [hN, he, decide_eq_false (by omega)]; rfl))
 have h2 : ((s.size : Nat) : Int) ≤ 32 := h2
 refine Exists.elim (show ∃ c l, s.data.toList = c :: l by cases e : s.data.toList with | nil => rw [e] at he; cases he | cons c l => exact ⟨c, l, rfl⟩) (fun c hc => ?_)
 refine Exists.elim hc (fun l hc => ?_)
 refine Xi c (Yi ⟨by decide, by show s.data[(0 : Int).toNat]? = _; rw [← Array.getElem?_toList, hc]; rfl⟩ ?_)
 have h250 := c250 c
 have hN : N = (smallC c && s.data.toList.all wordC && !keyB s.data.toList) := by
  rw [hN, he, decide_eq_true (by omega), hc]; rfl
 refine Or.elim (Bool.eq_false_or_eq_true (smallC c)).symm (fun e => ?_) (fun e => ?_)
 ·rw [e] at h250
  refine Xi .pure (Xi _ (Yi (h250) ?_))
  exact .of_eq (congrArg vb (show false = N by rw [hN, e]; rfl))
 rw [e] at h250
 refine Xi .pure (Xi _ (Yi (h250) ?_))
 refine Or.elim (Bool.eq_false_or_eq_true (s.data.toList.all wordC)).symm (fun e2 => ?_) (fun e2 => ?_)
 ·rw [e2] at h264
  refine Xi .pure (Xi _ (Yi (h264) ?_))
  exact .of_eq (congrArg vb (show false = N by rw [hN, e, e2]; rfl))
 rw [e2] at h264
 refine Xi .pure (Xi _ (Yi (h264) ?_))
 refine Xi .pure (Xi _ (Yi (c266) ?_))
 rw [keyB_words e2] at hN
 refine Or.elim (Bool.eq_false_or_eq_true (kwW.any (fun w => decide (w = s.data.toList)))) (fun e3 => ?_) (fun e3 => ?_)
 ·rw [e3] at h265
  refine Xi .pure (Xi _ (Yi (h265) ?_))
  exact .of_eq (congrArg vb (show false = N by rw [hN, e, e2, e3]; rfl))
 ·rw [e3] at h265
  refine Xi .pure (Xi _ (Yi (h265) ?_))
  exact .of_eq (congrArg vb (show true = N by rw [hN, e, e2, e3]; rfl))
end Go.Eng

namespace Go.Eng
open Go.Proofs
theorem segC_and {s : ByteArray} : segOk s.data.toList = (s.data.toList.all segC && isNameL s.data.toList) := by
 unfold segOk; rw [Bool.and_comm]
theorem c227 (s : ByteArray) (hs : s.data.toList.length < 4611686018427387904) : PC 227 [vs s] (vb (segOk s.data.toList)) := by
 have hsz : s.size = s.data.toList.length := by simp
 have h252 := c252 s hs
 rw [segC_and]
 refine pcall_sub (cxp pl0) rfl tab_ok hm rfl Tryz.func227 (by kernel_rfl) rfl (Nz rfl) (by kernel_rfl) ?_
 refine Xi {i : Nat // i ≤ s.data.toList.length ∧ ∀ j (hj : j < s.data.toList.length), j < i → segC s.data.toList[j] = true} (Xi (fun i => ⟨[(0, vs s), (3, vi i.1)], [], hfree⟩) (Xi (fun i => s.data.toList.length - i.1) (Yi (Xi ⟨0, Nat.zero_le _, fun j _ h => by omega⟩ ?_) ?_)))
 ·exact ⟨⟨Zr, Zr, Tv⟩, Tv, Fh, Tv⟩
 intro ⟨i, h1, h2⟩
 refine Yi ?_ ?_
 ·intro h
  have h : (i : Int) < (s.size : Nat) := h
  have h : i < s.data.toList.length := by omega
  have hat : (0 : Int) ≤ i ∧ s.data[((i : Nat) : Int).toNat]? = some s.data.toList[i] := ⟨by omega, by rw [Int.toNat_natCast]; exact at_data s i h⟩
  have nx : segC s.data.toList[i] = true → ∀ j (hj : j < s.data.toList.length), j < i + 1 → segC s.data.toList[j] = true := fun e j hj hji => by
   rcases Nat.lt_or_ge j i with z | z
   ·exact h2 j hj z
   ·have : j = i := by omega
    subst this; exact e
  refine Xi s.data.toList[i] (Yi hat ?_)
  have h3 := c250 s.data.toList[i]
  have h4 := c251 s.data.toList[i]
  refine Or.elim (Bool.eq_false_or_eq_true (smallC s.data.toList[i])) (fun e => ?_) (fun e => ?_)
  ·rw [e] at h3
   refine Xi .pure (Xi _ (Yi (h3) ?_))
   refine Yi (by show InI64 ((i : Int) + 1); unfold InI64; omega) ?_
   refine Xi ⟨i + 1, by omega, nx (by unfold segC; rw [e]; rfl)⟩ ?_
   exact ⟨by show s.data.toList.length - (i + 1) < s.data.toList.length - i; omega, ⟨Zr, Zr, Tv⟩, Tv, Fh, Tv⟩
  rw [e] at h3
  refine Xi .pure (Xi _ (Yi (h3) ?_))
  refine Xi s.data.toList[i] (Yi hat ?_)
  refine Or.elim (Bool.eq_false_or_eq_true (digitC s.data.toList[i])) (fun e2 => ?_) (fun e2 => ?_)
  ·rw [e2] at h4
   refine Xi .pure (Xi _ (Yi (h4) ?_))
   refine Yi (by show InI64 ((i : Int) + 1); unfold InI64; omega) ?_
   refine Xi ⟨i + 1, by omega, nx (by unfold segC; rw [e2, Bool.or_true])⟩ ?_
   exact ⟨by show s.data.toList.length - (i + 1) < s.data.toList.length - i; omega, ⟨Zr, Zr, Tv⟩, Tv, Fh, Tv⟩
  rw [e2] at h4
  refine Xi .pure (Xi _ (Yi (h4) ?_))
  have er : s.data.toList.all segC = false := by
   rw [Bool.eq_false_iff]
   intro ha
   have := List.all_eq_true.1 ha _ (List.getElem_mem h)
   unfold segC at this
   rw [e, e2] at this; cases this
  exact .of_eq (congrArg vb (by rw [er]; rfl))
 ·intro h
  have h : ¬ (i : Int) < (s.size : Nat) := h
  have er : s.data.toList.all segC = true := List.all_eq_true.2 fun c hc => by
   obtain ⟨j, hj, rfl⟩ := List.getElem_of_mem hc
   exact h2 j hj (by omega)
  refine Xi .pure (Xi _ (Yi (h252) ?_))
  exact .of_eq (congrArg vb (by rw [er]; rfl))
abbrev ver2 : Option Int → AV
 | some n => vi n
 | none => vi (-1)
theorem c228 (s : ByteArray) (hs : s.data.toList.length < 4611686018427387904) : PC 228 [vs s] (ver2 (verL s.data.toList)) := by
 have hsz : s.size = s.data.toList.length := by simp
 refine pcall_sub (cxp (plcut [3])) rfl tab_ok hm rfl Tryz.func228 (by kernel_rfl) rfl (Nz rfl) (by kernel_rfl) ?_
 refine Yi (fun h => ?_) (fun h => ?_)
 ·have h : ((s.size : Nat) : Int) < 2 := h
  exact .of_eq (congrArg ver2 (show (none : Option Int) = verL s.data.toList by
   cases hs : s.data.toList with
   | nil => rfl
   | cons c r =>
    cases r with
    | nil => unfold verL; simp
    | cons d r => rw [hs] at hsz; simp only [List.length_cons] at hsz; omega))
 have h : ¬ ((s.size : Nat) : Int) < 2 := h
 refine Exists.elim (show ∃ c r, s.data.toList = c :: r by
  cases e : s.data.toList with
  | nil => rw [e] at hsz; simp only [List.length_nil] at hsz; omega
  | cons c l => exact ⟨c, l, rfl⟩) (fun c hc => ?_)
 refine Exists.elim hc (fun r hr0 => ?_)
 have hrl : s.size = r.length + 1 := by rw [hsz, hr0]; rfl
 have hv0 : verL s.data.toList = if c = 118 then (if (r.isEmpty || decide (3 < r.length) || (decide (1 < r.length) && decide (r.headD 0 = 48)) || !r.all digitC) = true then none else some (numL r)) else none := by rw [hr0]; rfl
 refine Yi (fun h2 => ?_) (fun h2 => ?_)
 ·have h2 : (4 : Int) < ((s.size : Nat) : Int) := h2
  exact .of_eq (congrArg ver2 (show (none : Option Int) = verL s.data.toList by rw [hv0, decide_eq_true (by omega : 3 < r.length)]; simp))
 have h2 : ¬ (4 : Int) < ((s.size : Nat) : Int) := h2
 refine Xi c (Yi ⟨by decide, by show s.data[(0 : Int).toNat]? = _; rw [← Array.getElem?_toList, hr0]; rfl⟩ ?_)
 refine Yi (fun h3 => ?_) (fun h3 => ?_)
 ·have h3 : ¬ (c.toNat : Int) = 118 := h3
  have h3 : ¬ c = 118 := fun e => h3 (by rw [e]; rfl)
  exact .of_eq (congrArg ver2 (show (none : Option Int) = verL s.data.toList by rw [hv0, if_neg h3]))
 have h3 : ¬ ¬ (c.toNat : Int) = 118 := h3
 have h3 : (c.toNat : Int) = 118 := Classical.not_not.1 h3
 have h3 : c = 118 := UInt8.toNat_inj.1 (by show c.toNat = 118; omega)
 have hr : s.data.toList = 118 :: r := by rw [hr0, h3]
 have hv : verL s.data.toList = if (r.isEmpty || decide (3 < r.length) || (decide (1 < r.length) && decide (r.headD 0 = 48)) || !r.all digitC) = true then none else some (numL r) := by rw [hv0, if_pos h3]
 have hlen : 0 < r.length := by omega
 have hemp : r.isEmpty = false := by
  cases hl : r with
  | nil => rw [hl] at hlen; exact absurd hlen (by decide)
  | cons a l => rfl
 have hl3 : r.length ≤ 3 := by omega
 have d3 : decide (3 < r.length) = false := decide_eq_false (by omega)
 have z0 : numL (r.take 0) = 0 := rfl
 have hh := headD_zero r hlen
 refine Xi r[0] (Yi ⟨by decide, by show s.data[(1 : Int).toNat]? = _; rw [← Array.getElem?_toList, hr0]; show r[0]? = _; exact Ge hlen⟩ ?_)
 refine Yi (fun h4 => ?_) (fun h4 => ?_)
 ·have h4 : (r[0].toNat : Int) = 48 := h4
  have h4 : r[0] = 48 := UInt8.toNat_inj.1 (by show r[0].toNat = 48; omega)
  refine Yi (fun h5 => ?_) (fun h5 => ?_)
  ·have h5 : (2 : Int) < ((s.size : Nat) : Int) := h5
   exact .of_eq (congrArg ver2 (show (none : Option Int) = verL s.data.toList by rw [hv, hh, h4, decide_eq_true (by omega : 1 < r.length)]; simp))
  have h5 : ¬ (2 : Int) < ((s.size : Nat) : Int) := h5
  have eo : (decide (1 < r.length) && decide (r.headD 0 = 48)) = false := by rw [decide_eq_false (by omega : ¬ 1 < r.length)]; rfl
  refine Xi ⟨[(0, vs s)], [], hfree⟩ (Yi ?_ ?_)
  ·exact ⟨⟨Zr, Tv⟩, Tv, Fh, Tv⟩
  refine Xi {i : Nat // i ≤ r.length ∧ (∀ j (hj : j < r.length), j < i → digitC r[j] = true) ∧ 0 ≤ numL (r.take i) ∧ (i = 0 → numL (r.take i) ≤ 0) ∧ (i ≤ 1 → numL (r.take i) ≤ 9) ∧ (i ≤ 2 → numL (r.take i) ≤ 99) ∧ numL (r.take i) ≤ 999} (Xi (fun i => ⟨[(0, vs s), (3, vi (numL (r.take i.1))), (4, vi (1 + (i.1 : Int)))], [], hfree⟩) (Xi (fun i => r.length - i.1) (Yi (Xi ⟨0, Nat.zero_le _, fun j _ h => by omega, by omega, fun _ => by omega, fun _ => by omega, fun _ => by omega, by omega⟩ ?_) ?_)))
  ·exact ⟨⟨Zr, Zr, Zr, Tv⟩, Tv, Fh, Tv⟩
  intro ⟨i, i1, i0, i2, i3, i4, i5, i6⟩
  refine Yi ?_ ?_
  ·intro h
   have h : 1 + (i : Int) < (s.size : Nat) := h
   have h : i < r.length := by omega
   have hat : (0 : Int) ≤ 1 + (i : Int) ∧ s.data[(1 + (i : Int)).toNat]? = some r[i] := ⟨by omega, by rw [show (1 + (i : Int)).toNat = i + 1 by omega, ← Array.getElem?_toList, hr, List.getElem?_cons_succ]; exact Ge h⟩
   refine Xi r[i] (Yi hat ?_)
   have hc := c251 r[i]
   refine Or.elim (Bool.eq_false_or_eq_true (digitC r[i])).symm (fun e => ?_) (fun e => ?_)
   ·rw [e] at hc
    refine Xi .pure (Xi _ (Yi (hc) ?_))
    have hall : r.all digitC = false := by
     rw [Bool.eq_false_iff]
     intro ha
     have := List.all_eq_true.1 ha _ (List.getElem_mem h)
     rw [e] at this; cases this
    exact .of_eq (congrArg ver2 (show (none : Option Int) = verL s.data.toList by rw [hv, hall]; simp))
   rw [e] at hc
   refine Xi .pure (Xi _ (Yi (hc) ?_))
   have hdr := digit_rng e
   have hnx := numL_take r i h
   have hwr : IntKind.u8.wrap ((r[i].toNat : Int) - 48) = (r[i].toNat : Int) - 48 := wrap_u8 (by omega) (by omega)
   refine Yi (by show InI64 (10 * numL (r.take i)); unfold InI64; omega) ?_
   refine Xi r[i] (Yi hat ?_)
   refine Yi (by show InI64 (IntKind.u8.wrap ((r[i].toNat : Int) - 48)); rw [hwr]; unfold InI64; omega) ?_
   refine Yi (by show InI64 (10 * numL (r.take i) + IntKind.u8.wrap ((r[i].toNat : Int) - 48)); rw [hwr]; unfold InI64; omega) ?_
   refine Yi (by show InI64 (1 + (i : Int) + 1); unfold InI64; omega) ?_
   have e5 : vi (10 * numL (r.take i) + IntKind.u8.wrap ((r[i].toNat : Int) - 48)) = vi (numL (r.take (i + 1))) := by rw [hwr, hnx]
   have e6 : vi (1 + (i : Int) + 1) = vi (1 + ((i + 1 : Nat) : Int)) := congrArg vi (by omega)
   refine Xi ⟨i + 1, by omega, fun j hj hji => ?_, by omega, fun _ => by omega, fun _ => by omega, fun _ => by omega, by omega⟩ ?_
   ·rcases Nat.lt_or_ge j i with z | z
    ·exact i0 j hj z
    ·have : j = i := by omega
     subst this; exact e
   ·exact ⟨by show r.length - (i + 1) < r.length - i; omega, ⟨Zr, ⟨e5, rfl⟩, ⟨e6, rfl⟩, Tv⟩, Tv, Fh, Tv⟩
  ·intro h
   have h : ¬ 1 + (i : Int) < (s.size : Nat) := h
   have e3 : r.all digitC = true := List.all_eq_true.2 fun c hc => by
    obtain ⟨j, hj, rfl⟩ := List.getElem_of_mem hc
    exact i0 j hj (by omega)
   have e6 : vi (numL (r.take i)) = ver2 (verL s.data.toList) := by rw [hv, hemp, d3, eo, e3, List.take_of_length_le (by omega)]; rfl
   exact .of_eq e6
 have h4 : ¬ (r[0].toNat : Int) = 48 := h4
 have eo : (decide (1 < r.length) && decide (r.headD 0 = 48)) = false := by rw [hh, decide_eq_false (show ¬ r[0] = 48 from fun e => h4 (by rw [e]; rfl)), Bool.and_false]
 refine Xi ⟨[(0, vs s)], [], hfree⟩ (Yi ?_ ?_)
 ·exact ⟨⟨Zr, Tv⟩, Tv, Fh, Tv⟩
 refine Xi {i : Nat // i ≤ r.length ∧ (∀ j (hj : j < r.length), j < i → digitC r[j] = true) ∧ 0 ≤ numL (r.take i) ∧ (i = 0 → numL (r.take i) ≤ 0) ∧ (i ≤ 1 → numL (r.take i) ≤ 9) ∧ (i ≤ 2 → numL (r.take i) ≤ 99) ∧ numL (r.take i) ≤ 999} (Xi (fun i => ⟨[(0, vs s), (3, vi (numL (r.take i.1))), (4, vi (1 + (i.1 : Int)))], [], hfree⟩) (Xi (fun i => r.length - i.1) (Yi (Xi ⟨0, Nat.zero_le _, fun j _ h => by omega, by omega, fun _ => by omega, fun _ => by omega, fun _ => by omega, by omega⟩ ?_) ?_)))
 ·exact ⟨⟨Zr, Zr, Zr, Tv⟩, Tv, Fh, Tv⟩
 intro ⟨i, i1, i0, i2, i3, i4, i5, i6⟩
 refine Yi ?_ ?_
 ·intro h
  have h : 1 + (i : Int) < (s.size : Nat) := h
  have h : i < r.length := by omega
  have hat : (0 : Int) ≤ 1 + (i : Int) ∧ s.data[(1 + (i : Int)).toNat]? = some r[i] := ⟨by omega, by rw [show (1 + (i : Int)).toNat = i + 1 by omega, ← Array.getElem?_toList, hr, List.getElem?_cons_succ]; exact Ge h⟩
  refine Xi r[i] (Yi hat ?_)
  have hc := c251 r[i]
  refine Or.elim (Bool.eq_false_or_eq_true (digitC r[i])).symm (fun e => ?_) (fun e => ?_)
  ·rw [e] at hc
   refine Xi .pure (Xi _ (Yi (hc) ?_))
   have hall : r.all digitC = false := by
    rw [Bool.eq_false_iff]
    intro ha
    have := List.all_eq_true.1 ha _ (List.getElem_mem h)
    rw [e] at this; cases this
   exact .of_eq (congrArg ver2 (show (none : Option Int) = verL s.data.toList by rw [hv, hall]; simp))
  rw [e] at hc
  refine Xi .pure (Xi _ (Yi (hc) ?_))
  have hdr := digit_rng e
  have hnx := numL_take r i h
  have hwr : IntKind.u8.wrap ((r[i].toNat : Int) - 48) = (r[i].toNat : Int) - 48 := wrap_u8 (by omega) (by omega)
  refine Yi (by show InI64 (10 * numL (r.take i)); unfold InI64; omega) ?_
  refine Xi r[i] (Yi hat ?_)
  refine Yi (by show InI64 (IntKind.u8.wrap ((r[i].toNat : Int) - 48)); rw [hwr]; unfold InI64; omega) ?_
  refine Yi (by show InI64 (10 * numL (r.take i) + IntKind.u8.wrap ((r[i].toNat : Int) - 48)); rw [hwr]; unfold InI64; omega) ?_
  refine Yi (by show InI64 (1 + (i : Int) + 1); unfold InI64; omega) ?_
  have e5 : vi (10 * numL (r.take i) + IntKind.u8.wrap ((r[i].toNat : Int) - 48)) = vi (numL (r.take (i + 1))) := by rw [hwr, hnx]
  have e6 : vi (1 + (i : Int) + 1) = vi (1 + ((i + 1 : Nat) : Int)) := congrArg vi (by omega)
  refine Xi ⟨i + 1, by omega, fun j hj hji => ?_, by omega, fun _ => by omega, fun _ => by omega, fun _ => by omega, by omega⟩ ?_
  ·rcases Nat.lt_or_ge j i with z | z
   ·exact i0 j hj z
   ·have : j = i := by omega
    subst this; exact e
  ·exact ⟨by show r.length - (i + 1) < r.length - i; omega, ⟨Zr, ⟨e5, rfl⟩, ⟨e6, rfl⟩, Tv⟩, Tv, Fh, Tv⟩
 ·intro h
  have h : ¬ 1 + (i : Int) < (s.size : Nat) := h
  have e3 : r.all digitC = true := List.all_eq_true.2 fun c hc => by
   obtain ⟨j, hj, rfl⟩ := List.getElem_of_mem hc
   exact i0 j hj (by omega)
  have e6 : vi (numL (r.take i)) = ver2 (verL s.data.toList) := by rw [hv, hemp, d3, eo, e3, List.take_of_length_le (by omega)]; rfl
  exact .of_eq e6
end Go.Eng

namespace Go.Eng
open Go.Proofs
abbrev pSL (l : List UInt8) : List ByteArray := (splitL 47 l).map bs
def pushL : List (List UInt8) → UInt8 → List (List UInt8)
 | [], _ => []
 | [x], b => [x ++ [b]]
 | x :: l, b => x :: pushL l b
theorem splitL_ne (c : UInt8) (s : List UInt8) : splitL c s ≠ [] := by
 cases s with
 | nil => rw [splitL]; exact List.cons_ne_nil _ _
 | cons b r =>
  rw [splitL]
  split
  ·exact List.cons_ne_nil _ _
  ·split <;> exact List.cons_ne_nil _ _
theorem splitL_sep (c : UInt8) : ∀ s : List UInt8, splitL c (s ++ [c]) = splitL c s ++ [[]]
 | [] => by simp [splitL]
 | b :: r => by
  rw [List.cons_append, splitL, splitL_sep c r, splitL]
  by_cases e : b = c
  ·rw [if_pos e, if_pos e]; rfl
  ·rw [if_neg e, if_neg e]
   cases h : splitL c r with
   | nil => exact absurd h (splitL_ne c r)
   | cons x l => rfl
theorem pushL_cons (x : List UInt8) {l : List (List UInt8)} (b : UInt8) (h : l ≠ []) : pushL (x :: l) b = x :: pushL l b := by
 cases l with
 | nil => exact absurd rfl h
 | cons y l => rfl
theorem splitL_byte (c b : UInt8) (hb : b ≠ c) : ∀ s : List UInt8, splitL c (s ++ [b]) = pushL (splitL c s) b
 | [] => by simp [splitL, hb, pushL]
 | a :: r => by
  rw [List.cons_append, splitL, splitL_byte c b hb r, splitL]
  by_cases e : a = c
  ·rw [if_pos e, if_pos e, pushL_cons _ _ (splitL_ne c r)]
  ·rw [if_neg e, if_neg e]
   cases h : splitL c r with
   | nil => exact absurd h (splitL_ne c r)
   | cons x l =>
    cases l with
    | nil => rfl
    | cons y l => rfl
theorem pushL_set (b : UInt8) : ∀ (l : List (List UInt8)) (x : List UInt8), l[l.length - 1]? = some x → l.set (l.length - 1) (x ++ [b]) = pushL l b
 | [], _, h => by cases h
 | [y], x, h => by
  have h : some y = some x := h
  rw [Option.some.inj h]; rfl
 | y :: z :: l, x, h => by
  have h : (z :: l)[(z :: l).length - 1]? = some x := h
  rw [pushL_cons y b (List.cons_ne_nil _ _), ← pushL_set b (z :: l) x h]; rfl
theorem splitL_few (c : UInt8) (s : List UInt8) : (splitL c s).length ≤ s.length + 1 := by
 induction s with
 | nil => rw [splitL]; exact Nat.le_refl _
 | cons b r ih =>
  rw [splitL, List.length_cons]
  split
  ·rw [List.length_cons]; omega
  ·split
   ·simp
   ·rename_i x l e
    rw [e, List.length_cons] at ih
    rw [List.length_cons]; omega
abbrev pl226 : Pol := ⟨[], [], [(5, 1)], [], [], [], [], [], [], [(36, 3)], [4]⟩
theorem pSL_push {l : List UInt8} {c : UInt8} (hc : c ≠ 47) {x : ByteArray} (h : (pSL l)[(pSL l).length - 1]? = some x) : (pSL l).set ((pSL l).length - 1) (x ++ bs [c]) = pSL (l ++ [c]) := by
 have h2 := h
 rw [List.getElem?_map, Lm] at h
 obtain ⟨y, hy, e⟩ := Option.map_eq_some_iff.1 h
 subst e
 show _ = (splitL 47 (l ++ [c])).map bs
 rw [splitL_byte 47 c hc l, ← pushL_set c (splitL 47 l) y hy, List.map_set, Lm]
 congr 1
theorem c226 (s : ByteArray) (hs : FewS s) : PC 226 [vs s] (sl encS (pSL s.data.toList)) := by
 unfold FewS at hs
 have hsz : s.size = s.data.toList.length := by simp
 refine pcall_sub (cxp pl226) rfl tab_ok hm rfl Tryz.func226 (by kernel_rfl) rfl (Nz rfl) (by kernel_rfl) ?_
 refine Xi {p : Nat × List ByteArray // p.1 ≤ s.data.toList.length ∧ p.2 = pSL (s.data.toList.take p.1)} (Xi (fun p => ⟨[(0, vs s), (3, .msl 5 p.1.2.length), (4, vi p.1.1)], [(5, .arr 1 (p.1.2.map encS))], hfree⟩) (Xi (fun p => s.data.toList.length - p.1.1) (Yi (Xi ⟨(0, [bs []]), Nat.zero_le _, rfl⟩ ?_) ?_)))
 ·exact ⟨⟨Zr, Zr, Zr, Tv⟩, ⟨Zr, Tv⟩, Fh, Tv⟩
 intro ⟨⟨i, A⟩, h1, hA⟩
 have h1 : i ≤ s.data.toList.length := h1
 have hA : A = pSL (s.data.toList.take i) := hA
 have hpl : A.length ≤ i + 1 := by
  have := splitL_few 47 (s.data.toList.take i)
  rw [List.length_take] at this
  rw [hA, Lm]; omega
 have hpp : 0 < A.length := by
  rw [hA, Lm]; exact List.length_pos_iff.2 (splitL_ne 47 _)
 refine Yi (fun h => ?_) (fun h => ?_)
 ·have h : (i : Int) < (s.size : Nat) := h
  have h : i < s.data.toList.length := by omega
  have hat : (0 : Int) ≤ i ∧ s.data[((i : Nat) : Int).toNat]? = some s.data.toList[i] := ⟨by omega, by rw [Int.toNat_natCast]; exact at_data s i h⟩
  have htk : s.data.toList.take (i + 1) = s.data.toList.take i ++ [s.data.toList[i]] := by rw [List.take_add_one, Ge h]; rfl
  refine Xi s.data.toList[i] (Yi hat ?_)
  refine Yi (fun h2 => ?_) (fun h2 => ?_)
  ·have h2 : (s.data.toList[i].toNat : Int) = 47 := h2
   have h2 : s.data.toList[i] = 47 := UInt8.toNat_inj.1 (by show s.data.toList[i].toNat = 47; omega)
   have bulk : AllLen 1 [[vs (bs [])]] ∧ (A.map encS).length = A.length ∧ ((A.map encS).length + [[vs (bs [])]].length) * 16 ≤ 140737488355328 ∧ (A.map encS).length + [[vs (bs [])]].length ≤ 9223372036854775807 :=
    ⟨⟨rfl, trivial⟩, by rw [Lm], by rw [Lm, List.length_singleton]; omega, by rw [Lm, List.length_singleton]; omega⟩
   refine Yi bulk ?_
   refine Xi ⟨[(0, vs s), (3, .msl 5 (A ++ [bs []]).length), (4, vi i)], [(5, .arr 1 ((A ++ [bs []]).map encS))], hfree⟩ (Yi ?_ ?_)
   ·have e1 : AV.msl 5 ((A.map encS).length + [[vs (bs [])]].length) = .msl 5 (A ++ [bs []]).length := by simp
    have e2 : HO.arr 1 (A.map encS ++ [[vs (bs [])]]) = .arr 1 ((A ++ [bs []]).map encS) := by rw [List.map_append]; rfl
    exact ⟨⟨Zr, ⟨e1, rfl⟩, Zr, Tv⟩, ⟨⟨e2, rfl⟩, Tv⟩, Fh, Tv⟩
   refine Yi (by show InI64 ((i : Int) + 1); unfold InI64; omega) ?_
   have eA : A ++ [bs []] = pSL (s.data.toList.take (i + 1)) := by
    rw [hA, htk, h2]; show _ = (splitL 47 _).map bs; rw [splitL_sep, List.map_append]; rfl
   refine Xi ⟨(i + 1, A ++ [bs []]), by omega, eA⟩ ?_
   exact ⟨by show s.data.toList.length - (i + 1) < s.data.toList.length - i; omega, ⟨Zr, Zr, Zr, Tv⟩, ⟨Zr, Tv⟩, Fh, Tv⟩
  have h2 : ¬ (s.data.toList[i].toNat : Int) = 47 := h2
  have h2 : s.data.toList[i] ≠ 47 := fun e => h2 (by rw [e]; rfl)
  have hi1 : InI64 ((A.length : Int) - 1) := by unfold InI64; omega
  have hlt : A.length - 1 < A.length := by omega
  have hn : ((A.length : Int) - 1).toNat = A.length - 1 := by omega
  have hg : A[A.length - 1]? = some A[A.length - 1] := Ge hlt
  have hfew : FewS A[A.length - 1] := by
   have hmm : ∀ x ∈ A, x ∈ pSL (s.data.toList.take i) := fun x hx => hA ▸ hx
   obtain ⟨y, hy, e⟩ := List.mem_map.1 (hmm _ (List.getElem_mem hlt))
   have h5 := splitL_len 47 _ y hy
   rw [List.length_take] at h5
   unfold FewS
   rw [← e, show (bs y).size = y.length from rfl]
   omega
  have hsum : ((A[A.length - 1].size + (⟨[s.data.toList[i]].toArray⟩ : ByteArray).size : Nat) : Int) ≤ 9223372036854775807 := by
   unfold FewS at hfew
   have : (⟨[s.data.toList[i]].toArray⟩ : ByteArray).size = 1 := rfl
   omega
  refine Yi hi1 (Yi hi1 ?_)
  refine Yi (show (0 : Int) ≤ (A.length : Int) - 1 ∧ (A.length : Int) - 1 < (A.length : Int) by omega) ?_
  refine Yi (by rw [Lm]) ?_
  have hgm : (A.map encS)[((A.length : Int) - 1).toNat]? = some (encS A[A.length - 1]) := by rw [hn]; exact map_at hg
  refine Xi (encS A[A.length - 1]) (Yi hgm ?_)
  refine Xi s.data.toList[i] (Yi hat ?_)
  refine Xi [s.data.toList[i]] (Yi rfl ?_)
  refine Yi hsum ?_
  refine Yi (show (0 : Int) ≤ (A.length : Int) - 1 ∧ (A.length : Int) - 1 < (A.length : Int) by omega) ?_
  refine Yi (by rw [Lm]) ?_
  refine Xi (encS A[A.length - 1]) (Yi hgm (Yi (Nz rfl) ?_))
  refine Yi (by kernel_rfl) ?_
  refine Exists.elim (show ∃ B, B = A.set (A.length - 1) (A[A.length - 1] ++ bs [s.data.toList[i]]) from ⟨_, rfl⟩) (fun B hB => ?_)
  have hBl : B.length = A.length := by rw [hB, List.length_set]
  have e2 : HO.arr 1 ((A.map encS).set ((A.length : Int) - 1).toNat [vs (A[A.length - 1] ++ ⟨[s.data.toList[i]].toArray⟩)]) = .arr 1 (B.map encS) := by rw [hn, hB, List.map_set]; rfl
  refine Xi ⟨[(0, vs s), (3, .msl 5 B.length), (4, vi i)], [(5, .arr 1 (B.map encS))], hfree⟩ (Yi ?_ ?_)
  ·exact ⟨⟨Zr, ⟨congrArg (AV.msl 5) hBl.symm, rfl⟩, Zr, Tv⟩, ⟨⟨e2, rfl⟩, Tv⟩, Fh, Tv⟩
  refine Yi (by show InI64 ((i : Int) + 1); unfold InI64; omega) ?_
  have eB : B = pSL (s.data.toList.take (i + 1)) := by
   rw [htk, hB]
   subst hA
   exact pSL_push h2 hg
  refine Xi ⟨(i + 1, B), by omega, eB⟩ ?_
  exact ⟨by show s.data.toList.length - (i + 1) < s.data.toList.length - i; omega, ⟨Zr, Zr, Zr, Tv⟩, ⟨Zr, Tv⟩, Fh, Tv⟩
 ·have h : ¬ (i : Int) < (s.size : Nat) := h
  refine Yi (by rw [Lm]) ?_
  exact .of_eq (congrArg (sl encS) (show A = pSL s.data.toList by rw [hA, List.take_of_length_le (by omega)]))
end Go.Eng

namespace Go.Eng
open Go.Proofs
theorem verL_nonneg {s : List UInt8} {n : Int} (h : verL s = some n) : 0 ≤ n := by
 cases s with
 | nil => unfold verL at h; cases h
 | cons c r =>
  have h : (if c = 118 then (if (r.isEmpty || decide (3 < r.length) || (decide (1 < r.length) && decide (r.headD 0 = 48)) || !r.all digitC) = true then none else some (numL r)) else none) = some n := h
  by_cases hc : c = 118
  ·rw [if_pos hc] at h
   by_cases hb : (r.isEmpty || decide (3 < r.length) || (decide (1 < r.length) && decide (r.headD 0 = 48)) || !r.all digitC) = true
   ·rw [if_pos hb] at h; cases h
   ·rw [if_neg hb] at h
    have ha : r.all digitC = true := by
     cases hr : r.all digitC
     ·rw [hr] at hb; simp at hb
     ·rfl
    rw [← Option.some.inj h]
    suffices hh : ∀ i, i ≤ r.length → 0 ≤ numL (r.take i) by
     have := hh r.length (Nat.le_refl _)
     rwa [List.take_length] at this
    intro i
    induction i with
    | zero => intro _; exact Int.le_refl _
    | succ i ih =>
     intro hi
     have hd := digit_rng (List.all_eq_true.1 ha _ (List.getElem_mem (show i < r.length by omega)))
     have := ih (by omega)
     rw [numL_take r i (by omega)]; omega
  ·rw [if_neg hc] at h; cases h
theorem pSL_last {l : List UInt8} {x : ByteArray} (h : (pSL l)[(pSL l).length - 1]? = some x) : (splitL 47 l).getLastD [] = x.data.toList := by
 rw [Lm, List.getElem?_map, ← List.getLast?_eq_getElem?] at h
 obtain ⟨y, hy, e⟩ := Option.map_eq_some_iff.1 h
 rw [List.getLastD_eq_getLast?, hy, ← e]; rfl
theorem c199 (p : ByteArray) (hp : FewS p) : PC 199 [vs p] (majV (pathMajor p)) := by
 have hsz : p.size = p.data.toList.length := by simp
 have hc := c226 p hp
 unfold FewS at hp
 obtain ⟨A, hA⟩ : ∃ A, A = pSL p.data.toList := ⟨_, rfl⟩
 rw [← hA] at hc
 have hAl : A.length = (splitL 47 p.data.toList).length := by rw [hA, Lm]
 have hpl := splitL_few 47 p.data.toList
 have hpp : 0 < A.length := by rw [hAl]; exact List.length_pos_iff.2 (splitL_ne 47 _)
 have hmem : ∀ x ∈ A, x.data.toList.length < 4611686018427387904 := fun x hx => by
  obtain ⟨y, hy, e⟩ := List.mem_map.1 (hA ▸ hx : x ∈ pSL p.data.toList)
  have h5 := splitL_len 47 _ y hy
  rw [← e]; show y.length < _; omega
 have hall : (splitL 47 p.data.toList).all segOk = A.all fun x => segOk x.data.toList := by rw [hA, List.all_map]; rfl
 have hlt : A.length - 1 < A.length := by omega
 have hg : A[A.length - 1]? = some A[A.length - 1] := Ge hlt
 have hlast : (splitL 47 p.data.toList).getLastD [] = A[A.length - 1].data.toList := by
  subst hA; exact pSL_last hg
 have em : pathMajor p = match verL A[A.length - 1].data.toList with
  | none => none
  | some n => if (decide (64 < p.data.toList.length) || decide (A.length < 2)) = true then none else if (A.all fun x => segOk x.data.toList) = true then some n else none := by
  unfold pathMajor majorL
  rw [hlast, hall, ← hAl]
  cases verL A[A.length - 1].data.toList with
  | none => rfl
  | some n => rfl
 clear hall hlast
 have hv := c228 A[A.length - 1] (hmem _ (List.getElem_mem hlt))
 obtain ⟨o, ho⟩ : ∃ o, o = verL A[A.length - 1].data.toList := ⟨_, rfl⟩
 rw [← ho] at hv em
 have hz : ∀ n, o = some n → 0 ≤ n := fun n e => by
  rw [e] at ho
  exact verL_nonneg ho.symm
 refine pcall_sub (cxp (plcut [4, 9, 10])) rfl tab_ok hm rfl Tryz.func199 (by kernel_rfl) rfl (Nz rfl) (by kernel_rfl) ?_
 refine Yi (fun h => ?_) (fun h => ?_)
 ·have h : (64 : Int) < ((p.size : Nat) : Int) := h
  exact .of_eq (congrArg majV (show (none : Option Int) = pathMajor p by rw [em, decide_eq_true (by omega : 64 < p.data.toList.length)]; cases o <;> rfl))
 have h : ¬ (64 : Int) < ((p.size : Nat) : Int) := h
 have d1 : decide (64 < p.data.toList.length) = false := decide_eq_false (by omega)
 refine Xi .pure (Xi _ (Yi (hc) ?_))
 refine Xi ⟨[(4, sl encS A)], [], hfree⟩ (Yi ?_ ?_)
 ·exact ⟨⟨Zr, Tv⟩, Tv, Fh, Tv⟩
 refine Xi {i : Nat // i ≤ A.length ∧ ∀ j (hj : j < A.length), j < i → segOk (A[j]).data.toList = true} (Xi (fun i => ⟨[(4, sl encS A), (5, vi i.1)], [], hfree⟩) (Xi (fun i => A.length - i.1) (Yi (Xi ⟨0, Nat.zero_le _, fun j _ h => by omega⟩ ?_) ?_)))
 ·exact ⟨⟨Zr, Zr, Tv⟩, Tv, Fh, Tv⟩
 intro ⟨i, i1, i2⟩
 refine Yi (fun h2 => ?_) (fun h2 => ?_)
 ·have h2 : (i : Int) < ((A.map encS).length : Int) := h2
  have h2 : i < A.length := by simpa using h2
  have hg : A[i]? = some A[i] := Ge h2
  refine Xi (encS A[i]) (Yi (Yi (by show (0 : Int) ≤ i; omega) (by simp [hg])) (Yi rfl ?_))
  have hn := c227 A[i] (hmem _ (List.getElem_mem h2))
  refine Or.elim (Bool.eq_false_or_eq_true (segOk A[i].data.toList)).symm (fun e1 => ?_) (fun e1 => ?_)
  ·rw [e1] at hn
   refine Xi .pure (Xi _ (Yi (hn) ?_))
   have e2 : (A.all fun x => segOk x.data.toList) = false := by
    rw [Bool.eq_false_iff]
    intro hh
    have := List.all_eq_true.1 hh _ (List.getElem_mem h2)
    rw [e1] at this; cases this
   exact .of_eq (congrArg majV (show (none : Option Int) = pathMajor p by
    rw [em, e2]
    cases o with
    | none => rfl
    | some n => cases (decide (64 < p.data.toList.length) || decide (A.length < 2)) <;> rfl))
  rw [e1] at hn
  refine Xi .pure (Xi _ (Yi (hn) ?_))
  refine Yi (by show InI64 ((i : Int) + 1); unfold InI64; omega) ?_
  refine Xi ⟨i + 1, by omega, fun j hj hji => ?_⟩ ?_
  ·rcases Nat.lt_or_ge j i with z | z
   ·exact i2 j hj z
   ·have : j = i := by omega
    subst this; exact e1
  ·exact ⟨by show A.length - (i + 1) < A.length - i; omega, ⟨Zr, Zr, Tv⟩, Tv, Fh, Tv⟩
 have h2 : ¬ (i : Int) < ((A.map encS).length : Int) := h2
 have h2 : ¬ i < A.length := by simpa using h2
 have e2 : (A.all fun x => segOk x.data.toList) = true := List.all_eq_true.2 fun x hx => by
  obtain ⟨j, hj, rfl⟩ := List.getElem_of_mem hx
  exact i2 j hj (by omega)
 have em : pathMajor p = match (generalizing := false) o with
  | none => none
  | some n => if decide (A.length < 2) = true then none else some n := by
  rw [em, e2, d1]
  cases o <;> rfl
 refine Xi ⟨[(4, sl encS A)], [], hfree⟩ (Yi ?_ ?_)
 ·exact ⟨⟨Zr, Tv⟩, Tv, Fh, Tv⟩
 have hin : (((A.map encS).length : Int) - 1).toNat = A.length - 1 := by rw [Lm]; omega
 refine Yi (by show InI64 (((A.map encS).length : Int) - 1); rw [Lm]; unfold InI64; omega) ?_
 refine Xi (encS A[A.length - 1]) (Yi (Yi (by show (0 : Int) ≤ ((A.map encS).length : Int) - 1; rw [Lm]; omega) (by rw [hin]; exact map_at hg)) (Yi rfl ?_))
 refine Xi .pure (Xi _ (Yi (hv) ?_))
 refine Exists.elim (show ∃ z : Int, ver2 o = vi z ∧ (z < 0 ↔ o = none) ∧ ∀ n, o = some n → z = n by
  cases o with
  | none => exact ⟨-1, rfl, ⟨fun _ => rfl, fun _ => by decide⟩, fun n h => by cases h⟩
  | some n => exact ⟨n, rfl, ⟨fun h => absurd (hz n rfl) (by omega), fun h => by cases h⟩, fun m h => by cases h; rfl⟩) (fun z hz2 => ?_)
 refine Xi ⟨[(4, sl encS A), (6, vi z)], [], hfree⟩ (Yi ?_ ?_)
 ·exact ⟨⟨Zr, ⟨hz2.1, rfl⟩, Tv⟩, Tv, Fh, Tv⟩
 refine Yi (fun h3 => ?_) (fun h3 => ?_)
 ·have h3 : ((A.map encS).length : Int) < 2 := h3
  rw [Lm] at h3
  exact .of_eq (congrArg majV (show (none : Option Int) = pathMajor p by rw [em, decide_eq_true (by omega : A.length < 2)]; cases o <;> rfl))
 have h3 : ¬ ((A.map encS).length : Int) < 2 := h3
 rw [Lm] at h3
 refine Yi (fun h4 => ?_) (fun h4 => ?_)
 ·have h4 : z < 0 := h4
  exact .of_eq (congrArg majV (show (none : Option Int) = pathMajor p by rw [em, hz2.2.1.1 h4]))
 have h4 : ¬ z < 0 := h4
 refine Exists.elim (show ∃ n, o = some n by
  cases o with
  | none => exact absurd (hz2.2.1.2 rfl) h4
  | some n => exact ⟨n, rfl⟩) (fun n hn => ?_)
 exact .of_eq (show AV.tup [vi z, vi 0] = majV (pathMajor p) by rw [em, hn, hz2.2.2 n hn, decide_eq_false (by omega : ¬ A.length < 2)]; rfl)
theorem c198 (p : ByteArray) (hp : FewS p) : PC 198 [vs p] (vb (pathMajor p).isSome) := by
 have hc := c199 p hp
 cases h : pathMajor p with
 | none =>
  rw [h] at hc
  refine pcall_sub (cxp pl0) rfl tab_ok hm rfl Tryz.func198 (by kernel_rfl) rfl (Nz rfl) (by kernel_rfl) ?_
  refine Xi .pure (Xi _ (Yi (hc) ?_))
  refine Yi ?_ ?_
  ·intro h; exact absurd (show (4 : Int) = 0 from h) (by decide)
  ·intro _; exact .refl _
 | some n =>
  rw [h] at hc
  refine pcall_sub (cxp pl0) rfl tab_ok hm rfl Tryz.func198 (by kernel_rfl) rfl (Nz rfl) (by kernel_rfl) ?_
  refine Xi .pure (Xi _ (Yi (hc) ?_))
  refine Yi ?_ ?_
  ·intro _; exact .refl _
  ·intro h; exact absurd rfl h
end Go.Eng

namespace Go.Eng
open Go.Proofs
end Go.Eng

namespace Go.Eng
open Go.Proofs
theorem c70 (x : List Rl) (ifs : List (List AV)) (p : ByteArray) (pl : Int) (hx : Few x) (hv : ∀ r ∈ x, validB r.ver = true) : PC 70 [ixV x ifs, vs p, vi pl] (optRl (releaseP x p pl)) := by
 unfold Few at hx
 refine pcall_sub (cxp (plcut [5])) rfl tab_ok hm rfl Tryz.func70 (by kernel_rfl) rfl (Nz rfl) (by kernel_rfl) ?_
 refine Xi {i : Nat // i ≤ x.length ∧ ∀ j (hj : j < x.length), j < i → (decide (x[j].path = p) && decide (plc x[j].ver = pl)) = false} (Xi (fun i => ⟨[(1, vs p), (2, vi pl), (3, .ref 3 0), (6, .ref 6 0), (8, vi i.1)], [(3, .cells [sl encRl x, .slice .none ifs]), (6, .cells zRl)], hfree⟩) (Xi (fun i => x.length - i.1) (Yi (Xi ⟨0, Nat.zero_le _, fun j _ h => by omega⟩ ?_) ?_)))
 ·exact ⟨⟨Zr, Zr, Zr, Zr, Zr, Tv⟩, ⟨Zr, Zr, Tv⟩, Fh, Tv⟩
 intro ⟨i, h1, h2⟩
 refine Yi ?_ ?_
 ·intro h
  have h : (i : Int) < (x.map encRl).length := h
  have h : i < x.length := by simpa using h
  have hg : x[i]? = some x[i] := Ge h
  refine Xi (encRl x[i]) (Yi (Yi (by show (0 : Int) ≤ i; omega) (by simp [hg])) (Yi rfl ?_))
  have hpl : place x[i].ver = plc x[i].ver := by unfold plc; rw [if_pos (hv _ (List.getElem_mem h))]
  refine Yi (Nz rfl) (Yi (Nz rfl) ?_)
  refine Xi ⟨[(1, vs p), (2, vi pl), (3, .ref 3 0), (6, .ref 6 0), (8, vi i), (9, .ref 9 0)], [(3, .cells [sl encRl x, .slice .none ifs]), (6, .cells zRl), (9, .cells (encRl x[i]))], hfree⟩ (Yi ?_ ?_)
  ·exact ⟨⟨Zr, Zr, Zr, Zr, Zr, Zr, Tv⟩, ⟨Zr, Zr, Zr, Tv⟩, Fh, Tv⟩
  have next : (decide (x[i].path = p) && decide (plc x[i].ver = pl)) = false → ∀ j (hj : j < x.length), j < i + 1 → (decide (x[j].path = p) && decide (plc x[j].ver = pl)) = false := fun hf j hj hji => by
   rcases Nat.lt_or_ge j i with q | q
   ·exact h2 j hj q
   ·have : j = i := by omega
    subst this; exact hf
  refine Yi ?_ ?_
  ·intro hp
   have hp : x[i].path = p := hp
   refine Yi (Nz rfl) ?_
   refine Xi .pure (Xi _ (Yi (c95 x[i].ver (hv _ (List.getElem_mem h))) ?_))
   refine Yi ?_ ?_
   ·intro hq
    have hq : place x[i].ver = pl := hq
    have hr : releaseP x p pl = some x[i] := find_hit h (fun j hj hji => h2 j hj hji) (by rw [decide_eq_true hp, ← hpl, decide_eq_true hq]; rfl)
    refine Yi (Nz rfl) (Yi (Nz rfl) (Yi (Nz rfl) ?_))
    exact .of_eq (show AV.tup [.agg (encRl x[i]), vb true] = optRl (releaseP x p pl) by rw [hr])
   ·intro hq
    have hq : ¬ place x[i].ver = pl := hq
    refine Yi (by show InI64 ((i : Int) + 1); unfold InI64; omega) ?_
    refine Xi ⟨i + 1, by omega, next (by rw [← hpl, decide_eq_false hq, Bool.and_false])⟩ ?_
    exact ⟨by show x.length - (i + 1) < x.length - i; omega, ⟨Zr, Zr, Zr, Zr, Zr, Tv⟩, ⟨Zr, Zr, Tv⟩, Fh, Tv⟩
  ·intro hp
   have hp : ¬ x[i].path = p := hp
   refine Yi (by show InI64 ((i : Int) + 1); unfold InI64; omega) ?_
   refine Xi ⟨i + 1, by omega, next (by rw [decide_eq_false hp, Bool.false_and])⟩ ?_
   exact ⟨by show x.length - (i + 1) < x.length - i; omega, ⟨Zr, Zr, Zr, Zr, Zr, Tv⟩, ⟨Zr, Zr, Tv⟩, Fh, Tv⟩
 ·intro h
  have h : ¬ (i : Int) < (x.map encRl).length := h
  have h : ¬ i < x.length := by simpa using h
  have hr : releaseP x p pl = none := find_miss fun j hj => h2 j hj (by omega)
  refine Yi (Nz rfl) (Yi (Nz rfl) ?_)
  exact .of_eq (show AV.tup [.agg zRl, vb false] = optRl (releaseP x p pl) by rw [hr])
end Go.Eng

namespace Go.Eng
open Go.Proofs
end Go.Eng

namespace Go.Eng
open Go.Proofs
end Go.Eng
