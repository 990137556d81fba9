/- Lemmas for the claims of this seat, without a condition: part 15 (Dat, LaySort, CSort, C1, C2, CS, C4, C5, C6, C7, C8, C9, C10, C11, C12, C13, C14). -/
import Derived.Test.YtpgfieopnnkpfaaGreatDoorNA13
import Derived.Test.YtpgfieopnnkpfaaGreatDoorNA01
import Derived.Shelf.SlSortCmp.WholeK
import Derived.Shelf.Sort.Plain
import Derived.Shelf.Small.Strs
import Derived.Shelf.Small.Bits
import Derived.Ground.SlsfProg
import Derived.Ground.NamesProg
namespace Go.Eng
open Go.Proofs
abbrev vi (n : Int) : AV := .v (.int .i64 n)
abbrev vb (b : Bool) : AV := .v (.bool b)
abbrev vs (s : ByteArray) : AV := .v (.string s)
abbrev sl {α : Type} (enc : α → List AV) (l : List α) : AV := .slice .none (l.map enc)
abbrev encVer (v : Ver) : List AV := [vi v.a, vi v.b, vi v.c]
abbrev encSpan (s : Int × Int) : List AV := [vi s.1, vi s.2]
abbrev encRq (q : Rq) : List AV := [vs q.path, sl encSpan q.set]
abbrev encRl (r : Rl) : List AV := [vs r.path, vi r.ver.a, vi r.ver.b, vi r.ver.c, sl encRq r.reqs, vs r.arch, vs r.ifc, vs r.cert, vb r.yanked]
abbrev encSl (s : Sl) : List AV := [vs s.path, vi s.ver.a, vi s.ver.b, vi s.ver.c]
abbrev encTm (t : Tm) : List AV := [vs t.path, vb t.absent, sl encSpan t.set]
abbrev encNf (i : Nf) : List AV := [vi i.kind, vs i.path, vi i.place, vi i.number, vi i.left, vi i.right]
abbrev encSk (s : Sk) : List AV := [vs s.path, vi s.place, vi s.inf]
noncomputable abbrev cxp (pl : Pol) : Cx := ⟨Tryz.prog, tab, pl, false, 0, fun _ _ _ _ => True⟩
noncomputable abbrev cxe (pl : Pol) : Cx := ⟨Tryz.prog, tab, pl, true, 0, fun _ _ _ _ => True⟩
abbrev pl0 : Pol := ⟨[], [], [], [], [], [], [], [], [], [], []⟩
abbrev PC (f : Nat) (args : List AV) (res : AV) : Prop := PCall Tryz.prog f args res
theorem hm : Tryz.prog.follows .mixedOrders = true := by rfl
end Go.Eng
namespace Go.Eng
open Go.Proofs
theorem Zr {α : Sort _} {β : Sort _} {a : α} {b : β} : a = a ∧ b = b := ⟨rfl, rfl⟩
theorem Nz {a b : Nat} (h : Nat.ble a b = true) : a ≤ b := Nat.le_of_ble_eq_true h
theorem Xi {α : Sort _} {p : α → Prop} (w : α) (h : p w) : Exists p := Exists.intro w h
theorem Yi {a b : Prop} (h : a) (k : b) : a ∧ b := And.intro h k
theorem Fh {st : St} {h : Nat → HO} : ∀ j, hfree j = .free ∨ (st.h j = hfree j ∧ idsH h (hfree j) = true) := fun _ => .inl rfl
theorem Tv : True := trivial
theorem Ii (i : Nat) (h : i ≤ 9223372036854775806) : InI64 ((i : Int) + 1) := by unfold InI64; omega
theorem Dl (n i : Nat) (h : i < n) : n - (i + 1) < n - i := by omega
theorem Bt (b : Bool) : b = true ∨ b = false := Bool.eq_false_or_eq_true b
theorem Z1 {α : Type} {a0 : α} {b0 : Bool} : (a0 = a0 ∧ b0 = b0) ∧ True := ⟨⟨rfl, rfl⟩, trivial⟩
theorem Z2 {α : Type} {a0 a1 : α} {b0 b1 : Bool} : (a0 = a0 ∧ b0 = b0) ∧ (a1 = a1 ∧ b1 = b1) ∧ True := ⟨⟨rfl, rfl⟩, ⟨rfl, rfl⟩, trivial⟩
theorem Z3 {α : Type} {a0 a1 a2 : α} {b0 b1 b2 : Bool} : (a0 = a0 ∧ b0 = b0) ∧ (a1 = a1 ∧ b1 = b1) ∧ (a2 = a2 ∧ b2 = b2) ∧ True := ⟨⟨rfl, rfl⟩, ⟨rfl, rfl⟩, ⟨rfl, rfl⟩, trivial⟩
theorem Z4 {α : Type} {a0 a1 a2 a3 : α} {b0 b1 b2 b3 : Bool} : (a0 = a0 ∧ b0 = b0) ∧ (a1 = a1 ∧ b1 = b1) ∧ (a2 = a2 ∧ b2 = b2) ∧ (a3 = a3 ∧ b3 = b3) ∧ True := ⟨⟨rfl, rfl⟩, ⟨rfl, rfl⟩, ⟨rfl, rfl⟩, ⟨rfl, rfl⟩, trivial⟩
theorem Z5 {α : Type} {a0 a1 a2 a3 a4 : α} {b0 b1 b2 b3 b4 : Bool} : (a0 = a0 ∧ b0 = b0) ∧ (a1 = a1 ∧ b1 = b1) ∧ (a2 = a2 ∧ b2 = b2) ∧ (a3 = a3 ∧ b3 = b3) ∧ (a4 = a4 ∧ b4 = b4) ∧ True := ⟨⟨rfl, rfl⟩, ⟨rfl, rfl⟩, ⟨rfl, rfl⟩, ⟨rfl, rfl⟩, ⟨rfl, rfl⟩, trivial⟩
theorem Z6 {α : Type} {a0 a1 a2 a3 a4 a5 : α} {b0 b1 b2 b3 b4 b5 : Bool} : (a0 = a0 ∧ b0 = b0) ∧ (a1 = a1 ∧ b1 = b1) ∧ (a2 = a2 ∧ b2 = b2) ∧ (a3 = a3 ∧ b3 = b3) ∧ (a4 = a4 ∧ b4 = b4) ∧ (a5 = a5 ∧ b5 = b5) ∧ True := ⟨⟨rfl, rfl⟩, ⟨rfl, rfl⟩, ⟨rfl, rfl⟩, ⟨rfl, rfl⟩, ⟨rfl, rfl⟩, ⟨rfl, rfl⟩, trivial⟩
theorem Z7 {α : Type} {a0 a1 a2 a3 a4 a5 a6 : α} {b0 b1 b2 b3 b4 b5 b6 : Bool} : (a0 = a0 ∧ b0 = b0) ∧ (a1 = a1 ∧ b1 = b1) ∧ (a2 = a2 ∧ b2 = b2) ∧ (a3 = a3 ∧ b3 = b3) ∧ (a4 = a4 ∧ b4 = b4) ∧ (a5 = a5 ∧ b5 = b5) ∧ (a6 = a6 ∧ b6 = b6) ∧ True := ⟨⟨rfl, rfl⟩, ⟨rfl, rfl⟩, ⟨rfl, rfl⟩, ⟨rfl, rfl⟩, ⟨rfl, rfl⟩, ⟨rfl, rfl⟩, ⟨rfl, rfl⟩, trivial⟩
theorem Z8 {α : Type} {a0 a1 a2 a3 a4 a5 a6 a7 : α} {b0 b1 b2 b3 b4 b5 b6 b7 : Bool} : (a0 = a0 ∧ b0 = b0) ∧ (a1 = a1 ∧ b1 = b1) ∧ (a2 = a2 ∧ b2 = b2) ∧ (a3 = a3 ∧ b3 = b3) ∧ (a4 = a4 ∧ b4 = b4) ∧ (a5 = a5 ∧ b5 = b5) ∧ (a6 = a6 ∧ b6 = b6) ∧ (a7 = a7 ∧ b7 = b7) ∧ True := ⟨⟨rfl, rfl⟩, ⟨rfl, rfl⟩, ⟨rfl, rfl⟩, ⟨rfl, rfl⟩, ⟨rfl, rfl⟩, ⟨rfl, rfl⟩, ⟨rfl, rfl⟩, ⟨rfl, rfl⟩, trivial⟩
theorem Z9 {α : Type} {a0 a1 a2 a3 a4 a5 a6 a7 a8 : α} {b0 b1 b2 b3 b4 b5 b6 b7 b8 : Bool} : (a0 = a0 ∧ b0 = b0) ∧ (a1 = a1 ∧ b1 = b1) ∧ (a2 = a2 ∧ b2 = b2) ∧ (a3 = a3 ∧ b3 = b3) ∧ (a4 = a4 ∧ b4 = b4) ∧ (a5 = a5 ∧ b5 = b5) ∧ (a6 = a6 ∧ b6 = b6) ∧ (a7 = a7 ∧ b7 = b7) ∧ (a8 = a8 ∧ b8 = b8) ∧ True := ⟨⟨rfl, rfl⟩, ⟨rfl, rfl⟩, ⟨rfl, rfl⟩, ⟨rfl, rfl⟩, ⟨rfl, rfl⟩, ⟨rfl, rfl⟩, ⟨rfl, rfl⟩, ⟨rfl, rfl⟩, ⟨rfl, rfl⟩, trivial⟩
theorem Z10 {α : Type} {a0 a1 a2 a3 a4 a5 a6 a7 a8 a9 : α} {b0 b1 b2 b3 b4 b5 b6 b7 b8 b9 : Bool} : (a0 = a0 ∧ b0 = b0) ∧ (a1 = a1 ∧ b1 = b1) ∧ (a2 = a2 ∧ b2 = b2) ∧ (a3 = a3 ∧ b3 = b3) ∧ (a4 = a4 ∧ b4 = b4) ∧ (a5 = a5 ∧ b5 = b5) ∧ (a6 = a6 ∧ b6 = b6) ∧ (a7 = a7 ∧ b7 = b7) ∧ (a8 = a8 ∧ b8 = b8) ∧ (a9 = a9 ∧ b9 = b9) ∧ True := ⟨⟨rfl, rfl⟩, ⟨rfl, rfl⟩, ⟨rfl, rfl⟩, ⟨rfl, rfl⟩, ⟨rfl, rfl⟩, ⟨rfl, rfl⟩, ⟨rfl, rfl⟩, ⟨rfl, rfl⟩, ⟨rfl, rfl⟩, ⟨rfl, rfl⟩, trivial⟩
theorem Z11 {α : Type} {a0 a1 a2 a3 a4 a5 a6 a7 a8 a9 a10 : α} {b0 b1 b2 b3 b4 b5 b6 b7 b8 b9 b10 : Bool} : (a0 = a0 ∧ b0 = b0) ∧ (a1 = a1 ∧ b1 = b1) ∧ (a2 = a2 ∧ b2 = b2) ∧ (a3 = a3 ∧ b3 = b3) ∧ (a4 = a4 ∧ b4 = b4) ∧ (a5 = a5 ∧ b5 = b5) ∧ (a6 = a6 ∧ b6 = b6) ∧ (a7 = a7 ∧ b7 = b7) ∧ (a8 = a8 ∧ b8 = b8) ∧ (a9 = a9 ∧ b9 = b9) ∧ (a10 = a10 ∧ b10 = b10) ∧ True := ⟨⟨rfl, rfl⟩, ⟨rfl, rfl⟩, ⟨rfl, rfl⟩, ⟨rfl, rfl⟩, ⟨rfl, rfl⟩, ⟨rfl, rfl⟩, ⟨rfl, rfl⟩, ⟨rfl, rfl⟩, ⟨rfl, rfl⟩, ⟨rfl, rfl⟩, ⟨rfl, rfl⟩, trivial⟩
theorem Z12 {α : Type} {a0 a1 a2 a3 a4 a5 a6 a7 a8 a9 a10 a11 : α} {b0 b1 b2 b3 b4 b5 b6 b7 b8 b9 b10 b11 : Bool} : (a0 = a0 ∧ b0 = b0) ∧ (a1 = a1 ∧ b1 = b1) ∧ (a2 = a2 ∧ b2 = b2) ∧ (a3 = a3 ∧ b3 = b3) ∧ (a4 = a4 ∧ b4 = b4) ∧ (a5 = a5 ∧ b5 = b5) ∧ (a6 = a6 ∧ b6 = b6) ∧ (a7 = a7 ∧ b7 = b7) ∧ (a8 = a8 ∧ b8 = b8) ∧ (a9 = a9 ∧ b9 = b9) ∧ (a10 = a10 ∧ b10 = b10) ∧ (a11 = a11 ∧ b11 = b11) ∧ True := ⟨⟨rfl, rfl⟩, ⟨rfl, rfl⟩, ⟨rfl, rfl⟩, ⟨rfl, rfl⟩, ⟨rfl, rfl⟩, ⟨rfl, rfl⟩, ⟨rfl, rfl⟩, ⟨rfl, rfl⟩, ⟨rfl, rfl⟩, ⟨rfl, rfl⟩, ⟨rfl, rfl⟩, ⟨rfl, rfl⟩, trivial⟩
theorem Z13 {α : Type} {a0 a1 a2 a3 a4 a5 a6 a7 a8 a9 a10 a11 a12 : α} {b0 b1 b2 b3 b4 b5 b6 b7 b8 b9 b10 b11 b12 : Bool} : (a0 = a0 ∧ b0 = b0) ∧ (a1 = a1 ∧ b1 = b1) ∧ (a2 = a2 ∧ b2 = b2) ∧ (a3 = a3 ∧ b3 = b3) ∧ (a4 = a4 ∧ b4 = b4) ∧ (a5 = a5 ∧ b5 = b5) ∧ (a6 = a6 ∧ b6 = b6) ∧ (a7 = a7 ∧ b7 = b7) ∧ (a8 = a8 ∧ b8 = b8) ∧ (a9 = a9 ∧ b9 = b9) ∧ (a10 = a10 ∧ b10 = b10) ∧ (a11 = a11 ∧ b11 = b11) ∧ (a12 = a12 ∧ b12 = b12) ∧ True := ⟨⟨rfl, rfl⟩, ⟨rfl, rfl⟩, ⟨rfl, rfl⟩, ⟨rfl, rfl⟩, ⟨rfl, rfl⟩, ⟨rfl, rfl⟩, ⟨rfl, rfl⟩, ⟨rfl, rfl⟩, ⟨rfl, rfl⟩, ⟨rfl, rfl⟩, ⟨rfl, rfl⟩, ⟨rfl, rfl⟩, ⟨rfl, rfl⟩, trivial⟩
theorem Nn (i : Nat) : (0 : Int) ≤ (i : Int) := Int.natCast_nonneg i
abbrev Ic (x : List Rl) (ifs : List (List AV)) : List AV := [sl encRl x, .slice .none ifs]
theorem Ps {f : Nat} {fn : Func} {c : Code} {args : List AV} {res : AV} (pl : Pol) (hf : Tryz.prog.funcs[f]? = some fn) (hb : fn.body = some c) (hN : args.length ≤ fn.ntmps) (hk : awp (cxp pl) c (endK (cxp pl) fn.results.toList fun r => Sub r res) ⟨envA args, hfree⟩)
    (hn : (fn.name == "runtime.NumGoroutine") = false := by kernel_rfl) (hc : codeOk fn.ntmps c = true := by kernel_rfl) : PCall Tryz.prog f args res := pcall_sub (cxp pl) rfl tab_ok hm rfl hf hn hb hN hc hk
theorem Lm {α β : Type} (f : α → β) {l : List α} : (l.map f).length = l.length := List.length_map f
theorem Ge {α : Type} {l : List α} {i : Nat} (h : i < l.length) : l[i]? = some l[i] := List.getElem?_eq_getElem h
end Go.Eng

namespace Go.Proofs
open Go.Shelf
def Tryz.layPdqSpan_ren:Go.Shelf.Ren:=⟨fun | 14=>257 | 20=>309 | 21=>310 | 22=>311 | 23=>312 | 24=>313 | 25=>314 | 26=>315 | 27=>316 | 46=>339 | 47=>259 | 48=>260 | 49=>340 | 50=>341 | 15=>121 | 57=>350 | 28=>194 | 29=>195 | n=>n,fun | 24=>85 | 22=>26 | 3=>3 | 25=>229 | 4=>4 | 0=>0 | 46=>232 | 45=>231 | 50=>161 | 66=>281 | 39=>159 | 55=>239 | 70=>285 | 76=>315 | 77=>316 | 53=>196 | 5=>5 | 9=>9 | n=>n,fun | n=>n⟩
theorem Tryz.layPdqSpan:Go.Proofs.SlLaysF0.n14 Tryz.prog Tryz.layPdqSpan_ren:={
 mixed:=by kernel_rfl
 f14:=⟨Tryz.f257.name,by decide,Tryz.func257.trans (congrArg some (by kernel_rfl))⟩
 f15:=Tryz.func121.trans (congrArg some (by kernel_rfl))
 f20:=⟨Tryz.f309.name,by decide,Tryz.func309.trans (congrArg some (by kernel_rfl))⟩
 f21:=⟨Tryz.f310.name,by decide,Tryz.func310.trans (congrArg some (by kernel_rfl))⟩
 f22:=⟨Tryz.f311.name,by decide,Tryz.func311.trans (congrArg some (by kernel_rfl))⟩
 f23:=⟨Tryz.f312.name,by decide,Tryz.func312.trans (congrArg some (by kernel_rfl))⟩
 f24:=⟨Tryz.f313.name,by decide,Tryz.func313.trans (congrArg some (by kernel_rfl))⟩
 f25:=⟨Tryz.f314.name,by decide,Tryz.func314.trans (congrArg some (by kernel_rfl))⟩
 f26:=⟨Tryz.f315.name,by decide,Tryz.func315.trans (congrArg some (by kernel_rfl))⟩
 f27:=⟨Tryz.f316.name,by decide,Tryz.func316.trans (congrArg some (by kernel_rfl))⟩
 f28:=Tryz.func194.trans (congrArg some (by kernel_rfl))
 f29:=Tryz.func195.trans (congrArg some (by kernel_rfl))
 f46:=⟨Tryz.f339.name,by decide,Tryz.func339.trans (congrArg some (by kernel_rfl))⟩
 f47:=Tryz.func259.trans (congrArg some (by kernel_rfl))
 f48:=Tryz.func260.trans (congrArg some (by kernel_rfl))
 f49:=⟨Tryz.f340.name,by decide,Tryz.func340.trans (congrArg some (by kernel_rfl))⟩
 f50:=⟨Tryz.f341.name,by decide,Tryz.func341.trans (congrArg some (by kernel_rfl))⟩
 f57:=⟨Tryz.f350.name,by decide,Tryz.func350.trans (congrArg some (by kernel_rfl))⟩
 t0:=Tryz.underlying0
 a0:=Tryz.isAgg0
 z0:=Tryz.sizeOf0
 v0:=Tryz.zeroValue0
 t3:=Tryz.underlying3
 a3:=Tryz.isAgg3
 z3:=Tryz.sizeOf3
 v3:=Tryz.zeroValue3
 t4:=Tryz.underlying4
 a4:=Tryz.isAgg4
 z4:=Tryz.sizeOf4
 v4:=Tryz.zeroValue4
 t5:=Tryz.underlying5
 a5:=Tryz.isAgg5
 z5:=Tryz.sizeOf5
 v5:=Tryz.zeroValue5
 t9:=Tryz.underlying9
 a9:=Tryz.isAgg9
 z9:=Tryz.sizeOf9
 v9:=Tryz.zeroValue9
 t22:=Tryz.underlying26
 a22:=Tryz.isAgg26
 z22:=Tryz.sizeOf26
 v22:=Tryz.zeroValue26
 t25:=Tryz.underlying229
 a25:=Tryz.isAgg229
 z25:=Tryz.sizeOf229
 v25:=Tryz.zeroValue229
 t39:=Tryz.underlying159
 a39:=Tryz.isAgg159
 z39:=Tryz.sizeOf159
 v39:=Tryz.zeroValue159
 t45:=Tryz.underlying231
 a45:=Tryz.isAgg231
 z45:=Tryz.sizeOf231
 v45:=Tryz.zeroValue231
 t46:=Tryz.underlying232
 a46:=Tryz.isAgg232
 z46:=Tryz.sizeOf232
 v46:=Tryz.zeroValue232
 t50:=Tryz.underlying161
 a50:=Tryz.isAgg161
 z50:=Tryz.sizeOf161
 v50:=Tryz.zeroValue161
 t53:=Tryz.underlying196
 a53:=Tryz.isAgg196
 z53:=Tryz.sizeOf196
 v53:=Tryz.zeroValue196
 t55:=Tryz.underlying239
 a55:=Tryz.isAgg239
 z55:=Tryz.sizeOf239
 v55:=Tryz.zeroValue239
 t66:=Tryz.underlying281
 a66:=Tryz.isAgg281
 z66:=Tryz.sizeOf281
 v66:=Tryz.zeroValue281
 t70:=Tryz.underlying285
 a70:=Tryz.isAgg285
 z70:=Tryz.sizeOf285
 v70:=Tryz.zeroValue285
 t76:=Tryz.underlying315
 a76:=Tryz.isAgg315
 z76:=Tryz.sizeOf315
 v76:=Tryz.zeroValue315
 t77:=Tryz.underlying316
 a77:=Tryz.isAgg316
 z77:=Tryz.sizeOf316
 v77:=Tryz.zeroValue316 }
def Tryz.layPdqTerm_ren:Go.Shelf.Ren:=⟨fun | 14=>120 | 20=>186 | 21=>187 | 22=>188 | 23=>189 | 24=>190 | 25=>191 | 26=>192 | 27=>193 | 46=>258 | 47=>259 | 48=>260 | 49=>261 | 50=>262 | 15=>121 | 57=>317 | 28=>194 | 29=>195 | n=>n,fun | 24=>29 | 22=>22 | 3=>3 | 25=>116 | 4=>4 | 0=>0 | 46=>232 | 45=>231 | 50=>161 | 66=>281 | 39=>159 | 55=>239 | 70=>285 | 76=>315 | 77=>316 | 53=>196 | 5=>5 | 9=>9 | n=>n,fun | n=>n⟩
theorem Tryz.layPdqTerm:Go.Proofs.SlLaysF0.n14 Tryz.prog Tryz.layPdqTerm_ren:={
 mixed:=by kernel_rfl
 f14:=⟨Tryz.f120.name,by decide,Tryz.func120.trans (congrArg some (by kernel_rfl))⟩
 f15:=Tryz.func121.trans (congrArg some (by kernel_rfl))
 f20:=⟨Tryz.f186.name,by decide,Tryz.func186.trans (congrArg some (by kernel_rfl))⟩
 f21:=⟨Tryz.f187.name,by decide,Tryz.func187.trans (congrArg some (by kernel_rfl))⟩
 f22:=⟨Tryz.f188.name,by decide,Tryz.func188.trans (congrArg some (by kernel_rfl))⟩
 f23:=⟨Tryz.f189.name,by decide,Tryz.func189.trans (congrArg some (by kernel_rfl))⟩
 f24:=⟨Tryz.f190.name,by decide,Tryz.func190.trans (congrArg some (by kernel_rfl))⟩
 f25:=⟨Tryz.f191.name,by decide,Tryz.func191.trans (congrArg some (by kernel_rfl))⟩
 f26:=⟨Tryz.f192.name,by decide,Tryz.func192.trans (congrArg some (by kernel_rfl))⟩
 f27:=⟨Tryz.f193.name,by decide,Tryz.func193.trans (congrArg some (by kernel_rfl))⟩
 f28:=Tryz.func194.trans (congrArg some (by kernel_rfl))
 f29:=Tryz.func195.trans (congrArg some (by kernel_rfl))
 f46:=⟨Tryz.f258.name,by decide,Tryz.func258.trans (congrArg some (by kernel_rfl))⟩
 f47:=Tryz.func259.trans (congrArg some (by kernel_rfl))
 f48:=Tryz.func260.trans (congrArg some (by kernel_rfl))
 f49:=⟨Tryz.f261.name,by decide,Tryz.func261.trans (congrArg some (by kernel_rfl))⟩
 f50:=⟨Tryz.f262.name,by decide,Tryz.func262.trans (congrArg some (by kernel_rfl))⟩
 f57:=⟨Tryz.f317.name,by decide,Tryz.func317.trans (congrArg some (by kernel_rfl))⟩
 t0:=Tryz.underlying0
 a0:=Tryz.isAgg0
 z0:=Tryz.sizeOf0
 v0:=Tryz.zeroValue0
 t3:=Tryz.underlying3
 a3:=Tryz.isAgg3
 z3:=Tryz.sizeOf3
 v3:=Tryz.zeroValue3
 t4:=Tryz.underlying4
 a4:=Tryz.isAgg4
 z4:=Tryz.sizeOf4
 v4:=Tryz.zeroValue4
 t5:=Tryz.underlying5
 a5:=Tryz.isAgg5
 z5:=Tryz.sizeOf5
 v5:=Tryz.zeroValue5
 t9:=Tryz.underlying9
 a9:=Tryz.isAgg9
 z9:=Tryz.sizeOf9
 v9:=Tryz.zeroValue9
 t22:=Tryz.underlying22
 a22:=Tryz.isAgg22
 z22:=Tryz.sizeOf22
 v22:=Tryz.zeroValue22
 t25:=Tryz.underlying116
 a25:=Tryz.isAgg116
 z25:=Tryz.sizeOf116
 v25:=Tryz.zeroValue116
 t39:=Tryz.underlying159
 a39:=Tryz.isAgg159
 z39:=Tryz.sizeOf159
 v39:=Tryz.zeroValue159
 t45:=Tryz.underlying231
 a45:=Tryz.isAgg231
 z45:=Tryz.sizeOf231
 v45:=Tryz.zeroValue231
 t46:=Tryz.underlying232
 a46:=Tryz.isAgg232
 z46:=Tryz.sizeOf232
 v46:=Tryz.zeroValue232
 t50:=Tryz.underlying161
 a50:=Tryz.isAgg161
 z50:=Tryz.sizeOf161
 v50:=Tryz.zeroValue161
 t53:=Tryz.underlying196
 a53:=Tryz.isAgg196
 z53:=Tryz.sizeOf196
 v53:=Tryz.zeroValue196
 t55:=Tryz.underlying239
 a55:=Tryz.isAgg239
 z55:=Tryz.sizeOf239
 v55:=Tryz.zeroValue239
 t66:=Tryz.underlying281
 a66:=Tryz.isAgg281
 z66:=Tryz.sizeOf281
 v66:=Tryz.zeroValue281
 t70:=Tryz.underlying285
 a70:=Tryz.isAgg285
 z70:=Tryz.sizeOf285
 v70:=Tryz.zeroValue285
 t76:=Tryz.underlying315
 a76:=Tryz.isAgg315
 z76:=Tryz.sizeOf315
 v76:=Tryz.zeroValue315
 t77:=Tryz.underlying316
 a77:=Tryz.isAgg316
 z77:=Tryz.sizeOf316
 v77:=Tryz.zeroValue316 }
def Tryz.layCompare_ren:Go.Shelf.Ren:=⟨fun | 106=>71 | 213=>122 | 265=>196 | n=>n,fun | 9=>9 | 3=>3 | n=>n,fun | n=>n⟩
theorem Tryz.layCompare:Go.Proofs.Lays.n106 Tryz.prog Tryz.layCompare_ren:={
 mixed:=by kernel_rfl
 f106:=Tryz.func71.trans (congrArg some (by kernel_rfl))
 f213:=Tryz.func122.trans (congrArg some (by kernel_rfl))
 f265:=Tryz.func196.trans (congrArg some (by kernel_rfl))
 t3:=Tryz.underlying3
 a3:=Tryz.isAgg3
 z3:=Tryz.sizeOf3
 v3:=Tryz.zeroValue3
 t9:=Tryz.underlying9
 a9:=Tryz.isAgg9
 z9:=Tryz.sizeOf9
 v9:=Tryz.zeroValue9 }
def Tryz.layBits_ren:Go.Shelf.Ren:=⟨fun | 125=>121 | 128=>194 | 129=>195 | n=>n,fun | 46=>159 | 3=>3 | 51=>196 | 53=>239 | 4=>4 | 5=>5 | 9=>9 | n=>n,fun | n=>n⟩
theorem Tryz.layBits:Go.Proofs.Lays.n125 Tryz.prog Tryz.layBits_ren:={
 mixed:=by kernel_rfl
 f125:=Tryz.func121.trans (congrArg some (by kernel_rfl))
 f128:=Tryz.func194.trans (congrArg some (by kernel_rfl))
 f129:=Tryz.func195.trans (congrArg some (by kernel_rfl))
 t3:=Tryz.underlying3
 a3:=Tryz.isAgg3
 z3:=Tryz.sizeOf3
 v3:=Tryz.zeroValue3
 t4:=Tryz.underlying4
 a4:=Tryz.isAgg4
 z4:=Tryz.sizeOf4
 v4:=Tryz.zeroValue4
 t5:=Tryz.underlying5
 a5:=Tryz.isAgg5
 z5:=Tryz.sizeOf5
 v5:=Tryz.zeroValue5
 t9:=Tryz.underlying9
 a9:=Tryz.isAgg9
 z9:=Tryz.sizeOf9
 v9:=Tryz.zeroValue9
 t46:=Tryz.underlying159
 a46:=Tryz.isAgg159
 z46:=Tryz.sizeOf159
 v46:=Tryz.zeroValue159
 t51:=Tryz.underlying196
 a51:=Tryz.isAgg196
 z51:=Tryz.sizeOf196
 v51:=Tryz.zeroValue196
 t53:=Tryz.underlying239
 a53:=Tryz.isAgg239
 z53:=Tryz.sizeOf239
 v53:=Tryz.zeroValue239 }
def Tryz.laySortInts_ren:Go.Shelf.Ren:=⟨fun | 189=>162 | 125=>121 | 257=>229 | 128=>194 | 129=>195 | 294=>285 | 295=>286 | 296=>287 | 297=>288 | 298=>289 | 299=>290 | 216=>291 | 300=>292 | 301=>293 | 328=>326 | 329=>259 | 330=>260 | 331=>327 | 332=>328 | 215=>329 | 343=>344 | n=>n,fun | 28=>34 | 3=>3 | 46=>159 | 0=>0 | 51=>196 | 53=>239 | 4=>4 | 183=>232 | 182=>231 | 131=>161 | 5=>5 | 9=>9 | 218=>281 | 222=>285 | 228=>315 | 229=>316 | n=>n,fun | n=>n⟩
theorem Tryz.laySortInts:Go.Proofs.Lays.n189 Tryz.prog Tryz.laySortInts_ren:={
 mixed:=by kernel_rfl
 f125:=Tryz.func121.trans (congrArg some (by kernel_rfl))
 f128:=Tryz.func194.trans (congrArg some (by kernel_rfl))
 f129:=Tryz.func195.trans (congrArg some (by kernel_rfl))
 f189:=Tryz.func162.trans (congrArg some (by kernel_rfl))
 f215:=Tryz.func329.trans (congrArg some (by kernel_rfl))
 f216:=Tryz.func291.trans (congrArg some (by kernel_rfl))
 f257:=Tryz.func229.trans (congrArg some (by kernel_rfl))
 f294:=Tryz.func285.trans (congrArg some (by kernel_rfl))
 f295:=Tryz.func286.trans (congrArg some (by kernel_rfl))
 f296:=Tryz.func287.trans (congrArg some (by kernel_rfl))
 f297:=Tryz.func288.trans (congrArg some (by kernel_rfl))
 f298:=Tryz.func289.trans (congrArg some (by kernel_rfl))
 f299:=Tryz.func290.trans (congrArg some (by kernel_rfl))
 f300:=Tryz.func292.trans (congrArg some (by kernel_rfl))
 f301:=Tryz.func293.trans (congrArg some (by kernel_rfl))
 f328:=Tryz.func326.trans (congrArg some (by kernel_rfl))
 f329:=Tryz.func259.trans (congrArg some (by kernel_rfl))
 f330:=Tryz.func260.trans (congrArg some (by kernel_rfl))
 f331:=Tryz.func327.trans (congrArg some (by kernel_rfl))
 f332:=Tryz.func328.trans (congrArg some (by kernel_rfl))
 f343:=Tryz.func344.trans (congrArg some (by kernel_rfl))
 t0:=Tryz.underlying0
 a0:=Tryz.isAgg0
 z0:=Tryz.sizeOf0
 v0:=Tryz.zeroValue0
 t3:=Tryz.underlying3
 a3:=Tryz.isAgg3
 z3:=Tryz.sizeOf3
 v3:=Tryz.zeroValue3
 t4:=Tryz.underlying4
 a4:=Tryz.isAgg4
 z4:=Tryz.sizeOf4
 v4:=Tryz.zeroValue4
 t5:=Tryz.underlying5
 a5:=Tryz.isAgg5
 z5:=Tryz.sizeOf5
 v5:=Tryz.zeroValue5
 t9:=Tryz.underlying9
 a9:=Tryz.isAgg9
 z9:=Tryz.sizeOf9
 v9:=Tryz.zeroValue9
 t28:=Tryz.underlying34
 a28:=Tryz.isAgg34
 z28:=Tryz.sizeOf34
 v28:=Tryz.zeroValue34
 t46:=Tryz.underlying159
 a46:=Tryz.isAgg159
 z46:=Tryz.sizeOf159
 v46:=Tryz.zeroValue159
 t51:=Tryz.underlying196
 a51:=Tryz.isAgg196
 z51:=Tryz.sizeOf196
 v51:=Tryz.zeroValue196
 t53:=Tryz.underlying239
 a53:=Tryz.isAgg239
 z53:=Tryz.sizeOf239
 v53:=Tryz.zeroValue239
 t131:=Tryz.underlying161
 a131:=Tryz.isAgg161
 z131:=Tryz.sizeOf161
 v131:=Tryz.zeroValue161
 t182:=Tryz.underlying231
 a182:=Tryz.isAgg231
 z182:=Tryz.sizeOf231
 v182:=Tryz.zeroValue231
 t183:=Tryz.underlying232
 a183:=Tryz.isAgg232
 z183:=Tryz.sizeOf232
 v183:=Tryz.zeroValue232
 t218:=Tryz.underlying281
 a218:=Tryz.isAgg281
 z218:=Tryz.sizeOf281
 v218:=Tryz.zeroValue281
 t222:=Tryz.underlying285
 a222:=Tryz.isAgg285
 z222:=Tryz.sizeOf285
 v222:=Tryz.zeroValue285
 t228:=Tryz.underlying315
 a228:=Tryz.isAgg315
 z228:=Tryz.sizeOf315
 v228:=Tryz.zeroValue315
 t229:=Tryz.underlying316
 a229:=Tryz.isAgg316
 z229:=Tryz.sizeOf316
 v229:=Tryz.zeroValue316 }
end Go.Proofs

namespace Go.Proofs
open Go.Shelf Go.RowKit Go.Lib Go.Sort
def SpA:Type:={x:Int × Int // 0≤x.1∧x.1≤1000000}
instance:Inhabited SpA:=⟨⟨(0,0),by decide⟩⟩
def encSpA (x:SpA):List Value:=[.int .i64 x.1.1,.int .i64 x.1.2]
def cfSpA (x y:SpA):Int:=x.1.1 - y.1.1
set_option maxHeartbeats 1000000 in
theorem Tryz.closure185 (x y:SpA) (W:World):Calls Tryz.prog 185 #[.agg #[.int .i64 x.1.1,.int .i64 x.1.2],.agg #[.int .i64 y.1.1,.int .i64 y.1.2]] W fun e w'=>e=.returned (.int .i64 (cfSpA x y))∧∃ q os',w'=grow (W.drewN q) os':=by
 obtain ⟨⟨a,b⟩,h1,h2⟩:=x;obtain ⟨⟨c,d⟩,h3,h4⟩:=y;dsimp only at h1 h2 h3 h4;have hw:IntKind.i64.wrap (a - c)=a - c:=by simp [IntKind.wrap,IntKind.bits,IntKind.signed]; omega
 show Calls Tryz.prog 185 #[.agg #[.int .i64 a,.int .i64 b],.agg #[.int .i64 c,.int .i64 d]] W fun e w'=>e=.returned (.int .i64 (a - c))∧∃ q os',w'=grow (W.drewN q) os'
 go_enter Tryz.func185,Tryz.ntmps185
 go_wp2
 go_ret
 exact ⟨rfl,0,_,by rw [alloc_eq_grow,alloc_eq_grow,grow_grow]; rfl⟩
def TmA:Type:=ByteArray × {v:Value // v.oneCell'=true} × {v:Value // v.oneCell'=true}
instance:Inhabited TmA:=⟨⟨ByteArray.empty,⟨.bool false,rfl⟩,⟨.bool false,rfl⟩⟩⟩
def encTmA (x:TmA):List Value:=[.string x.1,x.2.1.1,x.2.2.1]
def cfTmA (x y:TmA):Int:=Lib.compareBytes x.1.data.toList y.1.data.toList
set_option maxHeartbeats 1000000 in
theorem Tryz.closure70 (x y:TmA) (W:World):Calls Tryz.prog 70 #[.agg #[.string x.1,x.2.1.1,x.2.2.1],.agg #[.string y.1,y.2.1.1,y.2.2.1]] W fun e w'=>e=.returned (.int .i64 (cfTmA x y))∧∃ q os',w'=grow (W.drewN q) os':=by
 have hcon:=fun W'=>Any.strings_Compare Tryz.layCompare x.1 y.1 W';obtain ⟨a,⟨b,hb⟩,⟨c,hc⟩⟩:=x;obtain ⟨a',⟨b',hb'⟩,⟨c',hc'⟩⟩:=y;dsimp only at hcon
 change ∀ W',Calls Tryz.prog 71 _ _ _ at hcon
 unfold cfTmA;dsimp only;generalize Lib.compareBytes a.data.toList a'.data.toList=r at hcon ⊢
 go_enter Tryz.func70,Tryz.ntmps70
 go_wp2_with (go_at_call 71; refine (hcon _).mono ?_; rintro e w' ⟨rfl,rfl⟩)
 go_ret
 exact ⟨rfl,0,_,by rw [alloc_eq_grow,alloc_eq_grow,grow_grow]; rfl⟩
end Go.Proofs

namespace Go.Eng
open Go.Proofs
theorem c138 (v:Ver):PC 132 [.agg (encVer v)] (.agg [vi v.a,vi v.b,vi v.c]):=by
 refine Ps pl0 Tryz.func132 rfl (Nz rfl) ?_;exact Yi (Nz rfl) (Yi (Nz rfl) (.refl _))
def part (v:Ver):Nat→Int
 | 0=>v.a
 | 1=>v.b
 | _=>v.c
theorem validB_no {v:Ver} {i:Nat} (h:¬ okPart (part v i)):validB v=false:=by
 unfold validB
 match i,h with
 | 0,h=>have h:¬ okPart v.a:=h; simp [h]
 | 1,h=>have h:¬ okPart v.b:=h; simp [h]
 | _+2,h=>have h:¬ okPart v.c:=h; simp [h]
theorem c100 (v:Ver):PC 131 [.agg (encVer v)] (vb (validB v)):=by
 refine Ps pl0 Tryz.func131 rfl (Nz rfl) ?_;refine Yi (Nz rfl) (Xi .pure (Xi _ (Yi (c138 v) ?_)));refine Xi {i:Nat // i≤3∧∀ j,j<i→okPart (part v j)} (Xi (fun i=>⟨[(6,.agg [vi v.a,vi v.b,vi v.c]),(7,vi i.1)],[],hfree⟩) (Xi (fun i=>3 - i.1) (Yi (Xi ⟨0,by simp⟩ ?_) ?_)))
 ·exact ⟨Z2,Tv,Fh,Tv⟩
 ·intro ⟨i,h1,h2⟩;refine Yi ?_ ?_
  ·intro h;have h:(i:Int)<3:=h;refine Yi ⟨by show (0:Int)≤i; omega,by show (i:Int)<3; omega⟩ ?_;have hp:headK (([vi v.a,vi v.b,vi v.c]).drop ((i:Int).toNat*1))=fun K=>K (vi (part v i)):=by
    match i,h with
    | 0,_=>rfl
    | 1,_=>rfl
    | 2,_=>rfl
    | _+3,h=>omega
   show headK (([vi v.a,vi v.b,vi v.c]).drop ((i:Int).toNat*1)) _;rw [hp];refine Yi ?_ ?_
   ·intro h3;have h3:part v i<0:=h3;rw [validB_no (i:=i) (by unfold okPart; omega)];exact .refl _
   ·intro h3;have h3:¬ part v i<0:=h3;refine Yi ?_ ?_
    ·intro h4;have h4:(999:Int)<part v i:=h4;rw [validB_no (i:=i) (by unfold okPart; omega)];exact .refl _
    ·intro h4;have h4:¬ (999:Int)<part v i:=h4;refine Yi (Ii i (by omega)) ?_;refine Xi ⟨i+1,by omega,fun j hj=>?_⟩ ?_
     ·by_cases e:j=i
      ·subst e; exact ⟨by omega,by omega⟩
      ·exact h2 j (by omega)
     ·exact ⟨Dl 3 i (by omega),Z2,Tv,Fh,Tv⟩
  ·intro h;have h:¬ (i:Int)<3:=h;have e:i=3:=by omega
   have q:validB v=true:=by
    unfold validB;have a:=h2 0 (by omega);have b:=h2 1 (by omega);have c:=h2 2 (by omega);simp only [part] at a b c;simp [a,b,c]
   rw [q];exact .refl _
theorem c56 (v:Ver):PC 149 [.agg (encVer v)] (.tup [vi (if validB v then place v else 0),vi (if validB v then 0 else 2)]):=by
 refine Ps pl0 Tryz.func149 rfl (Nz rfl) ?_;refine Yi (Nz rfl) (Xi .pure (Xi _ (Yi (c100 v) ?_)));cases h:validB v with
 | false=>exact .refl _
 | true =>
  have hv:=valid_place h;refine Yi (by show InI64 (1000*v.b); unfold InI64; omega) ?_;exact Yi (by show InI64 (1000*v.b+v.c); unfold InI64; omega) (.refl _)
end Go.Eng

namespace Go.Eng
open Go.Proofs
def Stable (caps:List AV):Prop:=∀ c ∈ caps,∀ h,str0 h c=c
theorem Stable.map {caps:List AV} (hs:Stable caps) (h:Nat→HO):caps.map (str0 h)=caps:=by
 conv=>rhs; rw [← List.map_id caps]
 exact List.map_congr_left fun c hc=>hs c hc h
theorem Stable.ids {caps:List AV} (hs:Stable caps) (h:Nat→HO):idsL h caps=true:=by
 induction caps with
 | nil=>rfl
 | cons c r ih =>
  have hc:=hs c (List.mem_cons_self ..) hfree;have h0:ids0 h c=true:=by
   cases c with
   | slice tk es=>cases tk with | none=>rfl | full sz=>simp [str0] at hc | id r sz=>simp [str0] at hc
   | _=>first | rfl | (simp [str0,hfree] at hc)
  unfold idsL;rw [h0];exact ih fun c hc=>hs c (List.mem_cons_of_mem _ hc)
def idx {α:Type} (p:α→Bool):List α→Int→Int
 | [],_=>-1
 | x :: r,i=>if p x then i else idx p r (i+1)
theorem idx_at {α:Type} {p:α→Bool} : ∀ {l:List α} {i:Nat} {k:Int} (hi:i<l.length),(∀ j (hj:j<l.length),j<i→p l[j]=false)→p l[i]=true→idx p l k=k+i
 | x :: r,0,k,_,_,h=>by
  have h:p x=true:=h;simp [idx,h]
 | x :: r,i+1,k,hi,hb,h=>by
  have h0:p x=false:=hb 0 (by simp) (by omega)
  have:=idx_at (l:=r) (i:=i) (k:=k+1) (by simpa using hi) (fun j hj hji=>hb (j+1) (by simpa using hj) (by omega)) (by simpa using h)
  simp only [idx,h0,Bool.false_eq_true,if_false,this];omega
theorem idx_none {α:Type} {p:α→Bool} : ∀ {l:List α} {k:Int},(∀ j (hj:j<l.length),p l[j]=false)→idx p l k=-1
 | [],_,_=>rfl
 | x :: r,k,h=>by
  have h0:p x=false:=h 0 (by simp);simp only [idx,h0,Bool.false_eq_true,if_false];exact idx_none fun j hj=>h (j+1) (by simpa using hj)
theorem idx_any {α:Type} {p:α→Bool} : ∀ (l:List α) (k:Int),0≤k→decide (0≤idx p l k)=l.any p
 | [],k,_=>by simp [idx]
 | x :: r,k,hk=>by
  unfold idx;cases h:p x with
  | true=>simp [h,hk]
  | false=>simp [h,idx_any r (k+1) (by omega)]
-- one for each type of elements
theorem c175 {fF:Nat} {caps:List AV} (hs:Stable caps) (l:List (Int × Int)) (p:Int × Int→Bool) (hF:∀ x ∈ l,PC fF ([.agg (encSpan x)]++caps) (vb (p x))) (hl:l.length<9223372036854775807) :
  PC 273 [sl encSpan l,.clo fF caps] (vi (idx p l 0)):=by
 refine Ps pl0 Tryz.func273 rfl (Nz rfl) ?_;refine Xi {i:Nat // i≤l.length∧∀ j (hj:j<l.length),j<i→p l[j]=false} (Xi (fun i=>⟨[(0,sl encSpan l),(1,.clo fF caps),(7,vi (l.map encSpan).length),(8,vi i.1)],[],hfree⟩) (Xi (fun i=>l.length - i.1) (Yi (Xi ⟨0,by simp⟩ ?_) ?_)))
 ·exact ⟨⟨Zr,⟨rfl,hs.ids _⟩,Zr,Zr,Tv⟩,Tv,Fh,Tv⟩
 ·intro ⟨i,h1,h2⟩;refine Yi ?_ ?_
  ·intro h;have h:(i:Int)<(l.map encSpan).length:=h;have h:i<l.length:=by simpa using h
   have hg:l[i]?=some l[i]:=Ge h;refine Xi (encSpan l[i]) (Yi (Yi (Nn i) (by simp [hg])) (Yi rfl (Yi (Nz rfl) ?_)));have hcall:∀ h,PC fF ([.agg (encSpan l[i])]++caps.map (str0 h)) (vb (p l[i])):=fun h=>by rw [hs.map]; exact hF l[i] (List.getElem_mem _)
   cases hp:p l[i] with
   | true =>
    rw [hp] at hcall;refine Xi .pure (Xi (vb true) (Yi (hcall _) ?_));rw [idx_at h (fun j hj hji=>h2 j hj hji) hp,Int.zero_add];exact .refl _
   | false =>
    rw [hp] at hcall;refine Xi .pure (Xi (vb false) (Yi (hcall _) ?_));refine Yi (Ii i (by omega)) ?_;refine Xi ⟨i+1,by omega,fun j hj hji=>?_⟩ ?_
    ·by_cases e:j=i
     ·subst e; exact hp
     ·exact h2 j hj (by omega)
    ·exact ⟨Dl l.length i (by omega),⟨Zr,⟨rfl,hs.ids _⟩,Zr,Zr,Tv⟩,Tv,Fh,Tv⟩
  ·intro h;have h:¬ (i:Int)<(l.map encSpan).length:=h;have h:¬ i<l.length:=by simpa using h
   rw [idx_none fun j hj=>h2 j hj (by omega)];exact .refl _
end Go.Eng

namespace Go.Eng
open Go.Proofs
abbrev Few {α:Type} (l:List α):Prop:=l.length≤1073741824
theorem allLen_map {α:Type} {enc:α→List AV} {n:Nat} (h:∀ x,(enc x).length=n):∀ l:List α,AllLen n (l.map enc)
 | []=>trivial
 | x :: l=>⟨h x,allLen_map h l⟩
theorem eq_span {x y:Int × Int} : eqL (encSpan x) (encSpan y)↔x=y:=by
 constructor
 ·intro h;have h:x.1=y.1∧x.2=y.2∧True:=h;exact Prod.ext h.1 h.2.1
 ·rintro rfl; exact ⟨rfl,rfl,trivial⟩
abbrev encInc (l:List Tm):List AV:=[sl encTm l]
abbrev encStr (s:ByteArray):List AV:=[vs s]
theorem c78 {fF:Nat} {caps:List AV} (hs:Stable caps) (l:List (Sl)) (p:Sl→Bool) (hF:∀ x ∈ l,PC fF ([.agg (encSl x)]++caps) (vb (p x))) (hl:l.length<9223372036854775807) :
  PC 76 [sl encSl l,.clo fF caps] (vi (idx p l 0)):=by
 refine pcall_sub (cxp pl0) rfl tab_ok hm rfl Tryz.func76 (by kernel_rfl) rfl (Nz rfl) (by kernel_rfl) ?_;refine Xi {i:Nat // i≤l.length∧∀ j (hj:j<l.length),j<i→p l[j]=false} (Xi (fun i=>⟨[(0,sl encSl l),(1,.clo fF caps),(7,vi (l.map encSl).length),(8,vi i.1)],[],hfree⟩) (Xi (fun i=>l.length - i.1) (Yi (Xi ⟨0,by simp⟩ ?_) ?_)))
 ·exact ⟨⟨Zr,⟨rfl,hs.ids _⟩,Zr,Zr,Tv⟩,Tv,Fh,Tv⟩
 ·intro ⟨i,h1,h2⟩;refine Yi ?_ ?_
  ·intro h;have h:(i:Int)<(l.map encSl).length:=h;have h:i<l.length:=by simpa using h
   have hg:l[i]?=some l[i]:=Ge h;refine Xi (encSl l[i]) (Yi (Yi (by show (0:Int)≤i; omega) (by simp [hg])) (Yi rfl (Yi (Nz rfl) ?_)));have hcall:∀ h,PC fF ([.agg (encSl l[i])]++caps.map (str0 h)) (vb (p l[i])):=fun h=>by rw [hs.map]; exact hF l[i] (List.getElem_mem _)
   cases hp:p l[i] with
   | true =>
    rw [hp] at hcall;refine Xi .pure (Xi (vb true) (Yi (hcall _) ?_));rw [idx_at h (fun j hj hji=>h2 j hj hji) hp,Int.zero_add];exact .refl _
   | false =>
    rw [hp] at hcall;refine Xi .pure (Xi (vb false) (Yi (hcall _) ?_));refine Yi (Ii i (by omega)) ?_;refine Xi ⟨i+1,by omega,fun j hj hji=>?_⟩ ?_
    ·by_cases e:j=i
     ·subst e; exact hp
     ·exact h2 j hj (by omega)
    ·exact ⟨Dl l.length i (by omega),⟨Zr,⟨rfl,hs.ids _⟩,Zr,Zr,Tv⟩,Tv,Fh,Tv⟩
  ·intro h;have h:¬ (i:Int)<(l.map encSl).length:=h;have h:¬ i<l.length:=by simpa using h
   rw [idx_none fun j hj=>h2 j hj (by omega)];exact .refl _
theorem c128 {fF:Nat} {caps:List AV} (hs:Stable caps) (l:List (Rq)) (p:Rq→Bool) (hF:∀ x ∈ l,PC fF ([.agg (encRq x)]++caps) (vb (p x))) (hl:l.length<9223372036854775807) :
  PC 212 [sl encRq l,.clo fF caps] (vi (idx p l 0)):=by
 refine pcall_sub (cxp pl0) rfl tab_ok hm rfl Tryz.func212 (by kernel_rfl) rfl (Nz rfl) (by kernel_rfl) ?_;refine Xi {i:Nat // i≤l.length∧∀ j (hj:j<l.length),j<i→p l[j]=false} (Xi (fun i=>⟨[(0,sl encRq l),(1,.clo fF caps),(7,vi (l.map encRq).length),(8,vi i.1)],[],hfree⟩) (Xi (fun i=>l.length - i.1) (Yi (Xi ⟨0,by simp⟩ ?_) ?_)))
 ·exact ⟨⟨Zr,⟨rfl,hs.ids _⟩,Zr,Zr,Tv⟩,Tv,Fh,Tv⟩
 ·intro ⟨i,h1,h2⟩;refine Yi ?_ ?_
  ·intro h;have h:(i:Int)<(l.map encRq).length:=h;have h:i<l.length:=by simpa using h
   have hg:l[i]?=some l[i]:=Ge h;refine Xi (encRq l[i]) (Yi (Yi (by show (0:Int)≤i; omega) (by simp [hg])) (Yi rfl (Yi (Nz rfl) ?_)));have hcall:∀ h,PC fF ([.agg (encRq l[i])]++caps.map (str0 h)) (vb (p l[i])):=fun h=>by rw [hs.map]; exact hF l[i] (List.getElem_mem _)
   cases hp:p l[i] with
   | true =>
    rw [hp] at hcall;refine Xi .pure (Xi (vb true) (Yi (hcall _) ?_));rw [idx_at h (fun j hj hji=>h2 j hj hji) hp,Int.zero_add];exact .refl _
   | false =>
    rw [hp] at hcall;refine Xi .pure (Xi (vb false) (Yi (hcall _) ?_));refine Yi (Ii i (by omega)) ?_;refine Xi ⟨i+1,by omega,fun j hj hji=>?_⟩ ?_
    ·by_cases e:j=i
     ·subst e; exact hp
     ·exact h2 j hj (by omega)
    ·exact ⟨Dl l.length i (by omega),⟨Zr,⟨rfl,hs.ids _⟩,Zr,Zr,Tv⟩,Tv,Fh,Tv⟩
  ·intro h;have h:¬ (i:Int)<(l.map encRq).length:=h;have h:¬ i<l.length:=by simpa using h
   rw [idx_none fun j hj=>h2 j hj (by omega)];exact .refl _
theorem c176 {fF:Nat} {caps:List AV} (hs:Stable caps) (l:List (Tm)) (p:Tm→Bool) (hF:∀ x ∈ l,PC fF ([.agg (encTm x)]++caps) (vb (p x))) (hl:l.length<9223372036854775807) :
  PC 276 [sl encTm l,.clo fF caps] (vi (idx p l 0)):=by
 refine pcall_sub (cxp pl0) rfl tab_ok hm rfl Tryz.func276 (by kernel_rfl) rfl (Nz rfl) (by kernel_rfl) ?_;refine Xi {i:Nat // i≤l.length∧∀ j (hj:j<l.length),j<i→p l[j]=false} (Xi (fun i=>⟨[(0,sl encTm l),(1,.clo fF caps),(7,vi (l.map encTm).length),(8,vi i.1)],[],hfree⟩) (Xi (fun i=>l.length - i.1) (Yi (Xi ⟨0,by simp⟩ ?_) ?_)))
 ·exact ⟨⟨Zr,⟨rfl,hs.ids _⟩,Zr,Zr,Tv⟩,Tv,Fh,Tv⟩
 ·intro ⟨i,h1,h2⟩;refine Yi ?_ ?_
  ·intro h;have h:(i:Int)<(l.map encTm).length:=h;have h:i<l.length:=by simpa using h
   have hg:l[i]?=some l[i]:=Ge h;refine Xi (encTm l[i]) (Yi (Yi (by show (0:Int)≤i; omega) (by simp [hg])) (Yi rfl (Yi (Nz rfl) ?_)));have hcall:∀ h,PC fF ([.agg (encTm l[i])]++caps.map (str0 h)) (vb (p l[i])):=fun h=>by rw [hs.map]; exact hF l[i] (List.getElem_mem _)
   cases hp:p l[i] with
   | true =>
    rw [hp] at hcall;refine Xi .pure (Xi (vb true) (Yi (hcall _) ?_));rw [idx_at h (fun j hj hji=>h2 j hj hji) hp,Int.zero_add];exact .refl _
   | false =>
    rw [hp] at hcall;refine Xi .pure (Xi (vb false) (Yi (hcall _) ?_));refine Yi (Ii i (by omega)) ?_;refine Xi ⟨i+1,by omega,fun j hj hji=>?_⟩ ?_
    ·by_cases e:j=i
     ·subst e; exact hp
     ·exact h2 j hj (by omega)
    ·exact ⟨Dl l.length i (by omega),⟨Zr,⟨rfl,hs.ids _⟩,Zr,Zr,Tv⟩,Tv,Fh,Tv⟩
  ·intro h;have h:¬ (i:Int)<(l.map encTm).length:=h;have h:¬ i<l.length:=by simpa using h
   rw [idx_none fun j hj=>h2 j hj (by omega)];exact .refl _
theorem c126 {fF:Nat} {caps:List AV} (hs:Stable caps) (l:List (Int × Int)) (p:Int × Int→Bool) (hF:∀ x ∈ l,PC fF ([.agg (encSpan x)]++caps) (vb (p x))) (hl:Few l) :
  PC 210 [sl encSpan l,.clo fF caps] (vb (l.any p)):=by
 refine pcall_sub (cxp pl0) rfl tab_ok hm rfl Tryz.func210 (by kernel_rfl) rfl (Nz rfl) (by kernel_rfl) ?_;have hi:=c175 hs l p hF (by unfold Few at hl; omega);have hcall:∀ h,PC 273 [sl encSpan l,.clo fF (caps.map (str0 h))] (vi (idx p l 0)):=fun h=>by rw [hs.map]; exact hi
 refine Xi .pure (Xi _ (Yi (hcall _) ?_));have ha:=idx_any (p:=p) l 0 (Int.le_refl 0);refine Yi ?_ ?_
 ·intro h;have h:(0:Int)≤idx p l 0:=h;rw [← ha,decide_eq_true h];exact .refl _
 ·intro h;have h:¬ (0:Int)≤idx p l 0:=h;rw [← ha,decide_eq_false h];exact .refl _
theorem c51 {fF:Nat} {caps:List AV} (hs:Stable caps) (l:List (Sl)) (p:Sl→Bool) (hF:∀ x ∈ l,PC fF ([.agg (encSl x)]++caps) (vb (p x))) (hl:Few l) :
  PC 145 [sl encSl l,.clo fF caps] (vb (l.any p)):=by
 refine pcall_sub (cxp pl0) rfl tab_ok hm rfl Tryz.func145 (by kernel_rfl) rfl (Nz rfl) (by kernel_rfl) ?_;have hi:=c78 hs l p hF (by unfold Few at hl; omega);have hcall:∀ h,PC 76 [sl encSl l,.clo fF (caps.map (str0 h))] (vi (idx p l 0)):=fun h=>by rw [hs.map]; exact hi
 refine Xi .pure (Xi _ (Yi (hcall _) ?_));have ha:=idx_any (p:=p) l 0 (Int.le_refl 0);refine Yi ?_ ?_
 ·intro h;have h:(0:Int)≤idx p l 0:=h;rw [← ha,decide_eq_true h];exact .refl _
 ·intro h;have h:¬ (0:Int)≤idx p l 0:=h;rw [← ha,decide_eq_false h];exact .refl _
theorem c89 {fF:Nat} {caps:List AV} (hs:Stable caps) (l:List (Rq)) (p:Rq→Bool) (hF:∀ x ∈ l,PC fF ([.agg (encRq x)]++caps) (vb (p x))) (hl:Few l) :
  PC 143 [sl encRq l,.clo fF caps] (vb (l.any p)):=by
 refine pcall_sub (cxp pl0) rfl tab_ok hm rfl Tryz.func143 (by kernel_rfl) rfl (Nz rfl) (by kernel_rfl) ?_;have hi:=c128 hs l p hF (by unfold Few at hl; omega);have hcall:∀ h,PC 212 [sl encRq l,.clo fF (caps.map (str0 h))] (vi (idx p l 0)):=fun h=>by rw [hs.map]; exact hi
 refine Xi .pure (Xi _ (Yi (hcall _) ?_));have ha:=idx_any (p:=p) l 0 (Int.le_refl 0);refine Yi ?_ ?_
 ·intro h;have h:(0:Int)≤idx p l 0:=h;rw [← ha,decide_eq_true h];exact .refl _
 ·intro h;have h:¬ (0:Int)≤idx p l 0:=h;rw [← ha,decide_eq_false h];exact .refl _
theorem c129 {fF:Nat} {caps:List AV} (hs:Stable caps) (l:List (Tm)) (p:Tm→Bool) (hF:∀ x ∈ l,PC fF ([.agg (encTm x)]++caps) (vb (p x))) (hl:Few l) :
  PC 215 [sl encTm l,.clo fF caps] (vb (l.any p)):=by
 refine pcall_sub (cxp pl0) rfl tab_ok hm rfl Tryz.func215 (by kernel_rfl) rfl (Nz rfl) (by kernel_rfl) ?_;have hi:=c176 hs l p hF (by unfold Few at hl; omega);have hcall:∀ h,PC 276 [sl encTm l,.clo fF (caps.map (str0 h))] (vi (idx p l 0)):=fun h=>by rw [hs.map]; exact hi
 refine Xi .pure (Xi _ (Yi (hcall _) ?_));have ha:=idx_any (p:=p) l 0 (Int.le_refl 0);refine Yi ?_ ?_
 ·intro h;have h:(0:Int)≤idx p l 0:=h;rw [← ha,decide_eq_true h];exact .refl _
 ·intro h;have h:¬ (0:Int)≤idx p l 0:=h;rw [← ha,decide_eq_false h];exact .refl _
theorem c137 (l:List (Int × Int)) (hl:Few l):PC 274 [sl encSpan l] (sl encSpan l):=by
 refine pcall_sub (cxp pl0) rfl tab_ok hm rfl Tryz.func274 (by kernel_rfl) rfl (Nz rfl) (by kernel_rfl) ?_;have bulk:AllLen 2 (l.map encSpan)∧([]:List (List AV)).length=0∧(([]:List (List AV)).length+(l.map encSpan).length)*16≤140737488355328∧([]:List (List AV)).length+(l.map encSpan).length≤9223372036854775807:=by
  refine ⟨allLen_map (enc:=encSpan) (n:=2) (fun _=>rfl) l,rfl,?_,?_⟩ <;> simp only [List.length_nil,Lm] <;> unfold Few at hl <;> omega
 refine Yi ?_ ?_
 ·intro _;exact Yi bulk (.refl _)
 ·intro h;have h:l.map encSpan=[]:=h;refine Yi ?_ ?_
  ·show Sub (.v (.slice none 0 0)) (.slice .none (l.map encSpan));rw [h];exact .nil
  ·exact Yi bulk (.refl _)
theorem c76 (l:List (Rq)) (hl:Few l):PC 144 [sl encRq l] (sl encRq l):=by
 refine pcall_sub (cxp pl0) rfl tab_ok hm rfl Tryz.func144 (by kernel_rfl) rfl (Nz rfl) (by kernel_rfl) ?_;have bulk:AllLen 2 (l.map encRq)∧([]:List (List AV)).length=0∧(([]:List (List AV)).length+(l.map encRq).length)*40≤140737488355328∧([]:List (List AV)).length+(l.map encRq).length≤9223372036854775807:=by
  refine ⟨allLen_map (enc:=encRq) (n:=2) (fun _=>rfl) l,rfl,?_,?_⟩ <;> simp only [List.length_nil,Lm] <;> unfold Few at hl <;> omega
 refine Yi ?_ ?_
 ·intro _;exact Yi bulk (.refl _)
 ·intro h;have h:l.map encRq=[]:=h;refine Yi ?_ ?_
  ·show Sub (.v (.slice none 0 0)) (.slice .none (l.map encRq));rw [h];exact .nil
  ·exact Yi bulk (.refl _)
theorem c159 (l m:List (Int × Int)) (hl:Few l):PC 248 [sl encSpan l,sl encSpan m] (vb (decide (l=m))):=by
 refine pcall_sub (cxp pl0) rfl tab_ok hm rfl Tryz.func248 (by kernel_rfl) rfl (Nz rfl) (by kernel_rfl) ?_;refine Yi ?_ ?_
 ·intro h;have h:¬ ((l.map encSpan).length:Int)=(m.map encSpan).length:=h
  have:l≠m:=fun e=>h (by rw [e])
  rw [decide_eq_false this];exact .refl _
 ·intro h;have h:¬ ((l.map encSpan).length:Int)≠(m.map encSpan).length:=h;have hlen:l.length=m.length:=by simp at h; omega
  refine Xi {i:Nat // i≤l.length∧l.take i=m.take i} (Xi (fun i=>⟨[(0,sl encSpan l),(1,sl encSpan m),(12,vi (l.map encSpan).length),(13,vi i.1)],[],hfree⟩) (Xi (fun i=>l.length - i.1) (Yi (Xi ⟨0,by simp⟩ ?_) ?_)))
  ·exact ⟨⟨Zr,Zr,Zr,Zr,Tv⟩,Tv,Fh,Tv⟩
  ·intro ⟨i,h1,h2⟩;refine Yi ?_ ?_
   ·intro h;have h:(i:Int)<(l.map encSpan).length:=h;have h:i<l.length:=by simpa using h
    have h' : i<m.length:=by omega
    have hg:l[i]?=some l[i]:=Ge h;have hg' : m[i]?=some m[i]:=Ge h';refine Xi (encSpan l[i]) (Yi (Yi (by show (0:Int)≤i; omega) (by simp [hg])) (Yi rfl (Yi (Nz rfl) ?_)));refine Xi (encSpan m[i]) (Yi (Yi (by show (0:Int)≤i; omega) (by simp [hg'])) (Yi rfl (Yi (Nz rfl) ?_)));refine Yi ?_ ?_
    ·intro h5;have e:l[i]=m[i]:=eq_span.1 h5;refine Yi (by kernel_rfl) ?_;refine Yi (by show InI64 ((i:Int)+1); unfold Few at hl; unfold InI64; omega) ?_;refine Xi ⟨i+1,by omega,?_⟩ ?_
     ·rw [List.take_add_one,List.take_add_one,h2,hg,hg',e]
     ·exact ⟨Dl l.length i (by omega),⟨Zr,Zr,Zr,Zr,Tv⟩,Tv,Fh,Tv⟩
    ·intro h5;refine Yi (by kernel_rfl) ?_
     have:l≠m:=fun e=>h5 (eq_span.2 (by subst e; rfl))
     rw [decide_eq_false this];exact .refl _
   ·intro h;have h:¬ (i:Int)<(l.map encSpan).length:=h;have h:¬ i<l.length:=by simpa using h
    have e:l=m:=by
     rw [← List.take_of_length_le (l:=l) (i:=i) (by omega),h2,List.take_of_length_le (by omega)]
    rw [decide_eq_true e];exact .refl _
theorem c20 (l m:List (ByteArray)) (hl:Few l):PC 26 [sl encStr l,sl encStr m] (vb (decide (l=m))):=by
 refine pcall_sub (cxp pl0) rfl tab_ok hm rfl Tryz.func26 (by kernel_rfl) rfl (Nz rfl) (by kernel_rfl) ?_;refine Yi ?_ ?_
 ·intro h;have h:¬ ((l.map encStr).length:Int)=(m.map encStr).length:=h
  have:l≠m:=fun e=>h (by rw [e])
  rw [decide_eq_false this];exact .refl _
 ·intro h;have h:¬ ((l.map encStr).length:Int)≠(m.map encStr).length:=h;have hlen:l.length=m.length:=by simp at h; omega
  refine Xi {i:Nat // i≤l.length∧l.take i=m.take i} (Xi (fun i=>⟨[(0,sl encStr l),(1,sl encStr m),(12,vi (l.map encStr).length),(13,vi i.1)],[],hfree⟩) (Xi (fun i=>l.length - i.1) (Yi (Xi ⟨0,by simp⟩ ?_) ?_)))
  ·exact ⟨⟨Zr,Zr,Zr,Zr,Tv⟩,Tv,Fh,Tv⟩
  ·intro ⟨i,h1,h2⟩;refine Yi ?_ ?_
   ·intro h;have h:(i:Int)<(l.map encStr).length:=h;have h:i<l.length:=by simpa using h
    have h' : i<m.length:=by omega
    have hg:l[i]?=some l[i]:=Ge h;have hg' : m[i]?=some m[i]:=Ge h';refine Xi (encStr l[i]) (Yi (Yi (by show (0:Int)≤i; omega) (by simp [hg])) (Yi rfl ?_));refine Xi (encStr m[i]) (Yi (Yi (by show (0:Int)≤i; omega) (by simp [hg'])) (Yi rfl ?_));refine Yi ?_ ?_
    ·intro h5;refine Yi (by kernel_rfl) ?_
     have:l≠m:=fun e=>h5 (by subst e; rfl)
     rw [decide_eq_false this];exact .refl _
    ·intro h5;have e:l[i]=m[i]:=Classical.not_not.1 h5;refine Yi (by kernel_rfl) ?_;refine Yi (by show InI64 ((i:Int)+1); unfold Few at hl; unfold InI64; omega) ?_;refine Xi ⟨i+1,by omega,?_⟩ ?_
     ·rw [List.take_add_one,List.take_add_one,h2,hg,hg',e]
     ·exact ⟨Dl l.length i (by omega),⟨Zr,Zr,Zr,Zr,Tv⟩,Tv,Fh,Tv⟩
   ·intro h;have h:¬ (i:Int)<(l.map encStr).length:=h;have h:¬ i<l.length:=by simpa using h
    have e:l=m:=by
     rw [← List.take_of_length_le (l:=l) (i:=i) (by omega),h2,List.take_of_length_le (by omega)]
    rw [decide_eq_true e];exact .refl _
end Go.Eng

namespace Go.Eng
open Go.Proofs
abbrev plz (l:List Nat):Pol:=⟨l,[],[],[],[],[],[],[],[],[],[]⟩
theorem Stable.ptr (cs:List AV):Stable [.cptr cs]:=fun c hc h=>by
 rw [List.mem_singleton.1 hc]; rfl
theorem c127 (s:Int × Int) (p:Int):PC 211 [.agg (encSpan s),.cptr [vi p]] (vb (inSpan p s)):=by
 refine Ps pl0 Tryz.func211 rfl (Nz rfl) ?_;refine Yi ?_ ?_
 ·intro h;have h:s.1≤p:=h;refine Yi ?_ ?_
  ·intro h2;have h2:p<s.2:=h2;rw [show inSpan p s=true by simp [inSpan,h,h2]];exact .refl _
  ·intro h2;have h2:¬ p<s.2:=h2;rw [show inSpan p s=false by simp [inSpan,h2]];exact .refl _
 ·intro h;have h:¬ s.1≤p:=h;rw [show inSpan p s=false by simp [inSpan,h]];exact .refl _
theorem c87 (s:List (Int × Int)) (p:Int) (hl:Few s):PC 141 [sl encSpan s,vi p] (vb (has s p)):=by
 refine Ps (plz [3]) Tryz.func141 rfl (Nz rfl) ?_;refine Yi ?_ ?_
 ·intro h;have h:0≤p:=h;refine Yi ?_ ?_
  ·intro h2;have h2:p<1000000:=h2;refine Xi .pure (Xi _ (Yi (c126 (Stable.ptr [vi p]) s (inSpan p) (fun x _=>c127 x p) hl) ?_));rw [show has s p=s.any (inSpan p) by simp [has,h,h2]];cases s.any (inSpan p) <;> exact .refl _
  ·intro h2;have h2:¬ p<1000000:=h2;rw [show has s p=false by simp [has,h2]];exact .refl _
 ·intro h;have h:¬ 0≤p:=h;rw [show has s p=false by simp [has,h]];exact .refl _

theorem c88 (r:Rl):PC 142 [.agg (encRl r)] (vi (plc r.ver)):=by
 refine Ps pl0 Tryz.func142 rfl (Nz rfl) ?_;exact Yi (Nz rfl) (Xi .pure (Xi _ (Yi (c56 r.ver) (.refl _))))
theorem c99 (x:Sl) (t:Tm):PC 323 [.agg (encSl x),.cptr (encTm t)] (vb (decide (x.path=t.path))):=by
 refine Ps pl0 Tryz.func323 rfl (Nz rfl) ?_;refine Yi ?_ ?_
 ·intro h;have h:x.path=t.path:=h;rw [decide_eq_true h];exact .refl _
 ·intro h;have h:¬ x.path=t.path:=h;rw [decide_eq_false h];exact .refl _
theorem idx_find {α:Type} {p:α→Bool} : ∀ (l:List α) (k:Int),(idx p l k=-1∧l.find? p=none)∨∃ i x,idx p l k=k+(i:Nat)∧l[i]?=some x∧l.find? p=some x
 | [],k=>.inl Zr
 | x :: r,k=>by
  cases h:p x with
  | true=>exact .inr ⟨0,x,by simp [idx,h],rfl,by simp [h]⟩
  | false =>
   rcases idx_find (p:=p) r (k+1) with ⟨h1,h2⟩ | ⟨i,y,h1,h2,h3⟩
   ·exact .inl ⟨by simp [idx,h,h1],by simp [h,h2]⟩
   ·exact .inr ⟨i+1,y,by simp only [idx,h,Bool.false_eq_true,if_false,h1]; omega,by simpa using h2,by simp [h,h3]⟩
theorem c55 (t:Tm) (s:List Sl) (hl:Few s) (ht:Few t.set):PC 275 [.agg (encTm t),sl encSl s] (vb (holds t s)):=by
 have hc:=c78 (Stable.ptr (encTm t)) s (fun x=>decide (x.path=t.path)) (fun x _=>c99 x t) (by unfold Few at hl; omega);unfold holds;rcases idx_find (p:=fun x:Sl=>decide (x.path=t.path)) s 0 with ⟨h1,h2⟩ | ⟨i,x,h1,h2,h3⟩
 ·rw [h1] at hc;rw [h2];refine Ps (plz [2]) Tryz.func275 rfl (Nz rfl) ?_;refine Xi .pure (Xi _ (Yi hc ?_));refine Yi ?_ ?_
  ·intro _;refine Yi ?_ ?_
   ·intro h;have h:t.absent=true:=h;rw [h]; exact .refl _
   ·intro h;have h:t.absent=false:=h;rw [h]; exact .refl _
  ·intro h; exact absurd (show (-1:Int)<0 by decide) h
 ·rw [h1,Int.zero_add] at hc;rw [h3];have hg:(s.map encSl)[((i:Nat):Int).toNat]?=some (encSl x):=by rw [Int.toNat_natCast,List.getElem?_map,h2]; rfl
  have hp:=c56 x.ver;dsimp only;rcases Bt (validB x.ver) with hv | hv
  ·rw [hv,if_pos rfl,if_pos rfl] at hp;rw [hv];refine Ps (plz [2]) Tryz.func275 rfl (Nz rfl) ?_;refine Xi .pure (Xi _ (Yi hc ?_));refine Yi ?_ ?_
   ·intro h;have h:(i:Int)<0:=h;omega
   ·intro _;refine Xi (encSl x) (Yi (Yi (Nn i) hg) (Yi rfl (Yi (Nz rfl) ?_)));refine Xi .pure (Xi _ (Yi hp ?_));refine Yi ?_ ?_
    ·intro _;refine Xi .pure (Xi _ (Yi (c87 t.set (place x.ver) ht) ?_));exact .refl _
    ·intro h;exact absurd rfl h
  ·rw [hv,if_neg (by decide),if_neg (by decide)] at hp;rw [hv];refine Ps (plz [2]) Tryz.func275 rfl (Nz rfl) ?_;refine Xi .pure (Xi _ (Yi hc ?_));refine Yi ?_ ?_
   ·intro h;have h:(i:Int)<0:=h;omega
   ·intro _;refine Xi (encSl x) (Yi (Yi (Nn i) hg) (Yi rfl (Yi (Nz rfl) ?_)));refine Xi .pure (Xi _ (Yi hp ?_));refine Yi ?_ ?_
    ·intro h;have h:(2:Int)=0:=h;omega
    ·intro _;exact .refl _
end Go.Eng

namespace Go.Eng
open Go.Proofs
theorem all_yes {α:Type} {p:α→Bool} {l:List α} {i:Nat} (h:∀ j (hj:j<l.length),j<i→p l[j]=true) (hi:¬ i<l.length):l.all p=true:=by
 rw [List.all_eq_true];intro x hx;obtain ⟨j,hj,rfl⟩:=List.mem_iff_getElem.1 hx;exact h j hj (by omega)
theorem all_no {α:Type} {p:α→Bool} {l:List α} {i:Nat} (hi:i<l.length) (h:p l[i]=false):l.all p=false:=by
 rw [List.all_eq_false];exact ⟨l[i],List.getElem_mem hi,by simp [h]⟩
abbrev FewT (l:List Tm):Prop:=Few l∧∀ t ∈ l,Few t.set
theorem c26 (l:List Tm) (s:List Sl) (hl:FewT l) (hs:Few s):PC 214 [sl encTm l,sl encSl s] (vb (l.all fun t=>holds t s)):=by
 have hc:∀ i (h:i<l.length),PC 275 [.agg (encTm l[i]),sl encSl s] (vb (holds l[i] s)):=fun i h=>c55 l[i] s hs (hl.2 _ (List.getElem_mem h));obtain ⟨hl,_⟩:=hl;unfold Few at hl;refine Ps pl0 Tryz.func214 rfl (Nz rfl) ?_;refine Xi {i:Nat // i≤l.length∧∀ j (hj:j<l.length),j<i→holds l[j] s=true} (Xi (fun i=>⟨[(0,sl encTm l),(1,sl encSl s),(7,vi (l.map encTm).length),(8,vi i.1)],[],hfree⟩) (Xi (fun i=>l.length - i.1) (Yi (Xi ⟨0,by simp⟩ ?_) ?_)))
 ·exact ⟨Z4,Tv,Fh,Tv⟩
 ·intro ⟨i,h1,h2⟩;refine Yi ?_ ?_
  ·intro h;have h:(i:Int)<(l.map encTm).length:=h;have h:i<l.length:=by simpa using h
   have hg:l[i]?=some l[i]:=Ge h;have hci:=hc i h;refine Xi (encTm l[i]) (Yi (Yi (Nn i) (by simp [hg])) (Yi rfl (Yi (Nz rfl) ?_)));cases hp:holds l[i] s with
   | false =>
    rw [hp] at hci;refine Xi .pure (Xi _ (Yi hci ?_));rw [all_no (p:=fun t=>holds t s) h hp];exact .refl _
   | true =>
    rw [hp] at hci;refine Xi .pure (Xi _ (Yi hci ?_));refine Yi (Ii i (by omega)) ?_;refine Xi ⟨i+1,by omega,fun j hj hji=>?_⟩ ?_
    ·by_cases e:j=i
     ·subst e; exact hp
     ·exact h2 j hj (by omega)
    ·exact ⟨Dl l.length i (by omega),Z4,Tv,Fh,Tv⟩
  ·intro h;have h:¬ (i:Int)<(l.map encTm).length:=h;have h:¬ i<l.length:=by simpa using h
   rw [all_yes (p:=fun t=>holds t s) h2 h];exact .refl _
theorem c131 (x:Sl) (t:Tm):PC 217 [.agg (encSl x),.cptr (encTm t)] (vb (decide (x.path=t.path))):=by
 refine Ps pl0 Tryz.func217 rfl (Nz rfl) ?_;refine Yi ?_ ?_
 ·intro h;have h:x.path=t.path:=h;rw [decide_eq_true h];exact .refl _
 ·intro h;have h:¬ x.path=t.path:=h;rw [decide_eq_false h];exact .refl _
theorem c130 (t:Tm) (s:List Sl) (hs:Few s):PC 216 [.agg (encTm t),.cptr [sl encSl s]] (vb (!hasPath s t.path)):=by
 have hc:=c51 (Stable.ptr (encTm t)) s (fun x=>decide (x.path=t.path)) (fun x _=>c131 x t) hs;unfold hasPath;cases hp:s.any fun x=>decide (x.path=t.path) with
 | true =>
  rw [hp] at hc;refine Ps (plz [2]) Tryz.func216 rfl (Nz rfl) ?_;exact Xi .pure (Xi _ (Yi hc (.refl _)))
 | false =>
  rw [hp] at hc;refine Ps (plz [2]) Tryz.func216 rfl (Nz rfl) ?_;exact Xi .pure (Xi _ (Yi hc (.refl _)))
theorem c91 (l:List Tm) (s:List Sl) (hl:FewT l) (hs:Few s):PC 152 [sl encTm l,sl encSl s] (vb (entailed l s)):=by
 have hv:=c26 l s hl hs;have hc:=c129 (Stable.ptr [sl encSl s]) l (fun t=>!hasPath s t.path) (fun t _=>c130 t s hs) hl.1;unfold entailed violated;cases h1:l.all fun t=>holds t s with
 | false =>
  rw [h1] at hv;refine Ps (plz [3]) Tryz.func152 rfl (Nz rfl) ?_;exact Xi .pure (Xi _ (Yi hv (.refl _)))
 | true =>
  rw [h1] at hv;cases h2:l.any fun t=>!hasPath s t.path with
  | true =>
   rw [h2] at hc;refine Ps (plz [3]) Tryz.func152 rfl (Nz rfl) ?_;exact Xi .pure (Xi _ (Yi hv (Xi .pure (Xi _ (Yi hc (.refl _))))))
  | false =>
   rw [h2] at hc;refine Ps (plz [3]) Tryz.func152 rfl (Nz rfl) ?_;exact Xi .pure (Xi _ (Yi hv (Xi .pure (Xi _ (Yi hc (.refl _))))))
end Go.Eng

namespace Go.Eng
open Go.Proofs
end Go.Eng

namespace Go.Eng
open Go.Proofs
theorem c197 (n:Int):PC 334 [vi n] (vb (decide (okPart n))):=by
 refine Ps pl0 Tryz.func334 rfl (Nz rfl) ?_;refine Yi ?_ ?_
 ·intro h;have h:0≤n:=h;refine Yi ?_ ?_
  ·intro h2;have h2:n≤999:=h2;show Sub (vb true) (vb (decide (okPart n)));rw [decide_eq_true ⟨h,h2⟩];exact .refl _
  ·intro h2;have h2:¬ n≤999:=h2;show Sub (vb false) (vb (decide (okPart n)));rw [decide_eq_false fun q=>h2 q.2];exact .refl _
 ·intro h;have h:¬ 0≤n:=h;show Sub (vb false) (vb (decide (okPart n)));rw [decide_eq_false fun q=>h q.1];exact .refl _
theorem c168 (v:Ver):PC 298 [.agg (encVer v)] (vb (validB v)):=by
 have ha:=c197 v.a;have hb:=c197 v.b;have hc:=c197 v.c;unfold validB;cases h1:decide (okPart v.a) with
 | false =>
  rw [h1] at ha;refine Ps pl0 Tryz.func298 rfl (Nz rfl) ?_;exact Xi .pure (Xi _ (Yi ha (.refl _)))
 | true =>
  rw [h1] at ha;cases h2:decide (okPart v.b) with
  | false =>
   rw [h2] at hb;refine Ps pl0 Tryz.func298 rfl (Nz rfl) ?_;exact Xi .pure (Xi _ (Yi ha (Xi .pure (Xi _ (Yi hb (.refl _))))))
  | true =>
   rw [h2] at hb;refine Ps pl0 Tryz.func298 rfl (Nz rfl) ?_;exact Xi .pure (Xi _ (Yi ha (Xi .pure (Xi _ (Yi hb (Xi .pure (Xi _ (Yi hc (.refl _)))))))))
end Go.Eng

namespace Go.Eng
open Go.Proofs
end Go.Eng

namespace Go.Eng
open Go.Proofs
end Go.Eng

namespace Go.Eng
open Go.Proofs
abbrev encAn (a:An):List AV:=[vb a.found,sl encSl a.sel,sl encNf a.infs,sl encSk a.skips]
theorem c108 (r:Rl):PC 179 [.agg (encRl r)] (.agg (encSl ⟨r.path,r.ver⟩)):=by
 refine Ps pl0 Tryz.func179 rfl (Nz rfl) ?_;exact Yi (Nz rfl) (Yi (Nz rfl) (Yi (Nz rfl) (.refl _)))
end Go.Eng

namespace Go.Eng
open Go.Proofs
end Go.Eng

namespace Go.Eng
open Go.Proofs
theorem c75 (l m:List (Int × Int)) (hl:Few l):PC 63 [sl encSpan l,sl encSpan m] (vb (decide (l=m))):=by
 refine Ps pl0 Tryz.func63 rfl (Nz rfl) ?_;refine Yi ?_ ?_
 ·intro h;have h:¬ ((l.map encSpan).length:Int)=(m.map encSpan).length:=h
  have:l≠m:=fun e=>h (by rw [e])
  rw [decide_eq_false this];exact .refl _
 ·intro h;have h:¬ ((l.map encSpan).length:Int)≠(m.map encSpan).length:=h;have hlen:l.length=m.length:=by simp at h; omega
  refine Xi {i:Nat // i≤l.length∧l.take i=m.take i} (Xi (fun i=>⟨[(0,sl encSpan l),(1,sl encSpan m),(5,vi i.1)],[],hfree⟩) (Xi (fun i=>l.length - i.1) (Yi (Xi ⟨0,by simp⟩ ?_) ?_)))
  ·exact ⟨Z3,Tv,Fh,Tv⟩
  ·intro ⟨i,h1,h2⟩;refine Yi ?_ ?_
   ·intro h;have h:(i:Int)<(l.map encSpan).length:=h;have h:i<l.length:=by simpa using h
    have h' : i<m.length:=by omega
    have hg:l[i]?=some l[i]:=Ge h;have hg' : m[i]?=some m[i]:=Ge h';refine Xi (encSpan l[i]) (Yi (Yi (Nn i) (by simp [hg])) (Yi rfl (Yi (Nz rfl) ?_)));refine Xi (encSpan m[i]) (Yi (Yi (Nn i) (by simp [hg'])) (Yi rfl (Yi (Nz rfl) ?_)));refine Yi ?_ ?_
    ·intro h5;have e:l[i]=m[i]:=eq_span.1 h5;refine Yi (by kernel_rfl) ?_;refine Yi (by show InI64 ((i:Int)+1); unfold Few at hl; unfold InI64; omega) ?_;refine Xi ⟨i+1,by omega,?_⟩ ?_
     ·rw [List.take_add_one,List.take_add_one,h2,hg,hg',e]
     ·exact ⟨Dl l.length i (by omega),Z3,Tv,Fh,Tv⟩
    ·intro h5;refine Yi (by kernel_rfl) ?_
     have:l≠m:=fun e=>h5 (eq_span.2 (by subst e; rfl))
     rw [decide_eq_false this];exact .refl _
   ·intro h;have h:¬ (i:Int)<(l.map encSpan).length:=h;have h:¬ i<l.length:=by simpa using h
    have e:l=m:=by
     rw [← List.take_of_length_le (l:=l) (i:=i) (by omega),h2,List.take_of_length_le (by omega)]
    rw [decide_eq_true e];exact .refl _
end Go.Eng

namespace Go.Eng
open Go.Proofs
end Go.Eng

namespace Go.Eng
open Go.Proofs
end Go.Eng
