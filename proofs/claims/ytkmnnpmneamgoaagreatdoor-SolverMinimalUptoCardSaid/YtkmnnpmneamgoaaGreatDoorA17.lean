/- Lemmas for the claims of this seat, without a condition: part 17 (Dat, LaySort, CSort, C1, C2, CS, C4, C5, C6, C7, C8, C9, C10, C11, C12, C13, C14, CSort2, C15, C16). -/
import Derived.Test.YtkmnnpmneamgoaaGreatDoorA15
import Derived.Test.YtkmnnpmneamgoaaGreatDoorA02
import Derived.Shelf.SlSortCmp.WholeK
import Derived.Shelf.Sort.Plain
import Derived.Shelf.Small.Strs
import Derived.Shelf.Small.Bits
import Derived.Ground.SlsfProg
import Derived.Ground.NamesProg
import Derived.Shelf.SlSortCmp.NoneTotal
namespace Go.Eng
open Go.Proofs
abbrev vi (n : Int) : AV := .v (.int .i64 n)
abbrev vb (b : Bool) : AV := .v (.bool b)
abbrev vs (s : ByteArray) : AV := .v (.string s)
abbrev sl {α : Type} (enc : α → List AV) (l : List α) : AV := .slice .none (l.map enc)
abbrev encVer (v : Ver) : List AV := [vi v.a, vi v.b, vi v.c]
abbrev encSpan (s : Int × Int) : List AV := [vi s.1, vi s.2]
abbrev encRq (q : Rq) : List AV := [vs q.path, sl encSpan q.set]
abbrev encRl (r : Rl) : List AV := [vs r.path, vi r.ver.a, vi r.ver.b, vi r.ver.c, sl encRq r.reqs, vs r.arch, vs r.ifc, vs r.cert, vb r.yanked]
abbrev encSl (s : Sl) : List AV := [vs s.path, vi s.ver.a, vi s.ver.b, vi s.ver.c]
abbrev encTm (t : Tm) : List AV := [vs t.path, vb t.absent, sl encSpan t.set]
abbrev encNf (i : Nf) : List AV := [vi i.kind, vs i.path, vi i.place, vi i.number, vi i.left, vi i.right]
abbrev encSk (s : Sk) : List AV := [vs s.path, vi s.place, vi s.inf]
noncomputable abbrev cxp (pl : Pol) : Cx := ⟨Tryz.prog, tab, pl, false, 0, fun _ _ _ _ => True⟩
noncomputable abbrev cxe (pl : Pol) : Cx := ⟨Tryz.prog, tab, pl, true, 0, fun _ _ _ _ => True⟩
abbrev pl0 : Pol := ⟨[], [], [], [], [], [], [], [], [], [], []⟩
abbrev PC (f : Nat) (args : List AV) (res : AV) : Prop := PCall Tryz.prog f args res
theorem hm : Tryz.prog.follows .mixedOrders = true := by rfl
end Go.Eng
namespace Go.Eng
open Go.Proofs
theorem Zr {α : Sort _} {β : Sort _} {a : α} {b : β} : a = a ∧ b = b := ⟨rfl, rfl⟩
theorem Nz {a b : Nat} (h : Nat.ble a b = true) : a ≤ b := Nat.le_of_ble_eq_true h
theorem Xi {α : Sort _} {p : α → Prop} (w : α) (h : p w) : Exists p := Exists.intro w h
theorem Yi {a b : Prop} (h : a) (k : b) : a ∧ b := And.intro h k
theorem Fh {st : St} {h : Nat → HO} : ∀ j, hfree j = .free ∨ (st.h j = hfree j ∧ idsH h (hfree j) = true) := fun _ => .inl rfl
theorem Tv : True := trivial
theorem Ii (i : Nat) (h : i ≤ 9223372036854775806) : InI64 ((i : Int) + 1) := by unfold InI64; omega
theorem Dl (n i : Nat) (h : i < n) : n - (i + 1) < n - i := by omega
theorem Bt (b : Bool) : b = true ∨ b = false := Bool.eq_false_or_eq_true b
theorem Z1 {α : Type} {a0 : α} {b0 : Bool} : (a0 = a0 ∧ b0 = b0) ∧ True := ⟨⟨rfl, rfl⟩, trivial⟩
theorem Z2 {α : Type} {a0 a1 : α} {b0 b1 : Bool} : (a0 = a0 ∧ b0 = b0) ∧ (a1 = a1 ∧ b1 = b1) ∧ True := ⟨⟨rfl, rfl⟩, ⟨rfl, rfl⟩, trivial⟩
theorem Z3 {α : Type} {a0 a1 a2 : α} {b0 b1 b2 : Bool} : (a0 = a0 ∧ b0 = b0) ∧ (a1 = a1 ∧ b1 = b1) ∧ (a2 = a2 ∧ b2 = b2) ∧ True := ⟨⟨rfl, rfl⟩, ⟨rfl, rfl⟩, ⟨rfl, rfl⟩, trivial⟩
theorem Z4 {α : Type} {a0 a1 a2 a3 : α} {b0 b1 b2 b3 : Bool} : (a0 = a0 ∧ b0 = b0) ∧ (a1 = a1 ∧ b1 = b1) ∧ (a2 = a2 ∧ b2 = b2) ∧ (a3 = a3 ∧ b3 = b3) ∧ True := ⟨⟨rfl, rfl⟩, ⟨rfl, rfl⟩, ⟨rfl, rfl⟩, ⟨rfl, rfl⟩, trivial⟩
theorem Z5 {α : Type} {a0 a1 a2 a3 a4 : α} {b0 b1 b2 b3 b4 : Bool} : (a0 = a0 ∧ b0 = b0) ∧ (a1 = a1 ∧ b1 = b1) ∧ (a2 = a2 ∧ b2 = b2) ∧ (a3 = a3 ∧ b3 = b3) ∧ (a4 = a4 ∧ b4 = b4) ∧ True := ⟨⟨rfl, rfl⟩, ⟨rfl, rfl⟩, ⟨rfl, rfl⟩, ⟨rfl, rfl⟩, ⟨rfl, rfl⟩, trivial⟩
theorem Z6 {α : Type} {a0 a1 a2 a3 a4 a5 : α} {b0 b1 b2 b3 b4 b5 : Bool} : (a0 = a0 ∧ b0 = b0) ∧ (a1 = a1 ∧ b1 = b1) ∧ (a2 = a2 ∧ b2 = b2) ∧ (a3 = a3 ∧ b3 = b3) ∧ (a4 = a4 ∧ b4 = b4) ∧ (a5 = a5 ∧ b5 = b5) ∧ True := ⟨⟨rfl, rfl⟩, ⟨rfl, rfl⟩, ⟨rfl, rfl⟩, ⟨rfl, rfl⟩, ⟨rfl, rfl⟩, ⟨rfl, rfl⟩, trivial⟩
theorem Z7 {α : Type} {a0 a1 a2 a3 a4 a5 a6 : α} {b0 b1 b2 b3 b4 b5 b6 : Bool} : (a0 = a0 ∧ b0 = b0) ∧ (a1 = a1 ∧ b1 = b1) ∧ (a2 = a2 ∧ b2 = b2) ∧ (a3 = a3 ∧ b3 = b3) ∧ (a4 = a4 ∧ b4 = b4) ∧ (a5 = a5 ∧ b5 = b5) ∧ (a6 = a6 ∧ b6 = b6) ∧ True := ⟨⟨rfl, rfl⟩, ⟨rfl, rfl⟩, ⟨rfl, rfl⟩, ⟨rfl, rfl⟩, ⟨rfl, rfl⟩, ⟨rfl, rfl⟩, ⟨rfl, rfl⟩, trivial⟩
theorem Z8 {α : Type} {a0 a1 a2 a3 a4 a5 a6 a7 : α} {b0 b1 b2 b3 b4 b5 b6 b7 : Bool} : (a0 = a0 ∧ b0 = b0) ∧ (a1 = a1 ∧ b1 = b1) ∧ (a2 = a2 ∧ b2 = b2) ∧ (a3 = a3 ∧ b3 = b3) ∧ (a4 = a4 ∧ b4 = b4) ∧ (a5 = a5 ∧ b5 = b5) ∧ (a6 = a6 ∧ b6 = b6) ∧ (a7 = a7 ∧ b7 = b7) ∧ True := ⟨⟨rfl, rfl⟩, ⟨rfl, rfl⟩, ⟨rfl, rfl⟩, ⟨rfl, rfl⟩, ⟨rfl, rfl⟩, ⟨rfl, rfl⟩, ⟨rfl, rfl⟩, ⟨rfl, rfl⟩, trivial⟩
theorem Z9 {α : Type} {a0 a1 a2 a3 a4 a5 a6 a7 a8 : α} {b0 b1 b2 b3 b4 b5 b6 b7 b8 : Bool} : (a0 = a0 ∧ b0 = b0) ∧ (a1 = a1 ∧ b1 = b1) ∧ (a2 = a2 ∧ b2 = b2) ∧ (a3 = a3 ∧ b3 = b3) ∧ (a4 = a4 ∧ b4 = b4) ∧ (a5 = a5 ∧ b5 = b5) ∧ (a6 = a6 ∧ b6 = b6) ∧ (a7 = a7 ∧ b7 = b7) ∧ (a8 = a8 ∧ b8 = b8) ∧ True := ⟨⟨rfl, rfl⟩, ⟨rfl, rfl⟩, ⟨rfl, rfl⟩, ⟨rfl, rfl⟩, ⟨rfl, rfl⟩, ⟨rfl, rfl⟩, ⟨rfl, rfl⟩, ⟨rfl, rfl⟩, ⟨rfl, rfl⟩, trivial⟩
theorem Z10 {α : Type} {a0 a1 a2 a3 a4 a5 a6 a7 a8 a9 : α} {b0 b1 b2 b3 b4 b5 b6 b7 b8 b9 : Bool} : (a0 = a0 ∧ b0 = b0) ∧ (a1 = a1 ∧ b1 = b1) ∧ (a2 = a2 ∧ b2 = b2) ∧ (a3 = a3 ∧ b3 = b3) ∧ (a4 = a4 ∧ b4 = b4) ∧ (a5 = a5 ∧ b5 = b5) ∧ (a6 = a6 ∧ b6 = b6) ∧ (a7 = a7 ∧ b7 = b7) ∧ (a8 = a8 ∧ b8 = b8) ∧ (a9 = a9 ∧ b9 = b9) ∧ True := ⟨⟨rfl, rfl⟩, ⟨rfl, rfl⟩, ⟨rfl, rfl⟩, ⟨rfl, rfl⟩, ⟨rfl, rfl⟩, ⟨rfl, rfl⟩, ⟨rfl, rfl⟩, ⟨rfl, rfl⟩, ⟨rfl, rfl⟩, ⟨rfl, rfl⟩, trivial⟩
theorem Z11 {α : Type} {a0 a1 a2 a3 a4 a5 a6 a7 a8 a9 a10 : α} {b0 b1 b2 b3 b4 b5 b6 b7 b8 b9 b10 : Bool} : (a0 = a0 ∧ b0 = b0) ∧ (a1 = a1 ∧ b1 = b1) ∧ (a2 = a2 ∧ b2 = b2) ∧ (a3 = a3 ∧ b3 = b3) ∧ (a4 = a4 ∧ b4 = b4) ∧ (a5 = a5 ∧ b5 = b5) ∧ (a6 = a6 ∧ b6 = b6) ∧ (a7 = a7 ∧ b7 = b7) ∧ (a8 = a8 ∧ b8 = b8) ∧ (a9 = a9 ∧ b9 = b9) ∧ (a10 = a10 ∧ b10 = b10) ∧ True := ⟨⟨rfl, rfl⟩, ⟨rfl, rfl⟩, ⟨rfl, rfl⟩, ⟨rfl, rfl⟩, ⟨rfl, rfl⟩, ⟨rfl, rfl⟩, ⟨rfl, rfl⟩, ⟨rfl, rfl⟩, ⟨rfl, rfl⟩, ⟨rfl, rfl⟩, ⟨rfl, rfl⟩, trivial⟩
theorem Z12 {α : Type} {a0 a1 a2 a3 a4 a5 a6 a7 a8 a9 a10 a11 : α} {b0 b1 b2 b3 b4 b5 b6 b7 b8 b9 b10 b11 : Bool} : (a0 = a0 ∧ b0 = b0) ∧ (a1 = a1 ∧ b1 = b1) ∧ (a2 = a2 ∧ b2 = b2) ∧ (a3 = a3 ∧ b3 = b3) ∧ (a4 = a4 ∧ b4 = b4) ∧ (a5 = a5 ∧ b5 = b5) ∧ (a6 = a6 ∧ b6 = b6) ∧ (a7 = a7 ∧ b7 = b7) ∧ (a8 = a8 ∧ b8 = b8) ∧ (a9 = a9 ∧ b9 = b9) ∧ (a10 = a10 ∧ b10 = b10) ∧ (a11 = a11 ∧ b11 = b11) ∧ True := ⟨⟨rfl, rfl⟩, ⟨rfl, rfl⟩, ⟨rfl, rfl⟩, ⟨rfl, rfl⟩, ⟨rfl, rfl⟩, ⟨rfl, rfl⟩, ⟨rfl, rfl⟩, ⟨rfl, rfl⟩, ⟨rfl, rfl⟩, ⟨rfl, rfl⟩, ⟨rfl, rfl⟩, ⟨rfl, rfl⟩, trivial⟩
theorem Z13 {α : Type} {a0 a1 a2 a3 a4 a5 a6 a7 a8 a9 a10 a11 a12 : α} {b0 b1 b2 b3 b4 b5 b6 b7 b8 b9 b10 b11 b12 : Bool} : (a0 = a0 ∧ b0 = b0) ∧ (a1 = a1 ∧ b1 = b1) ∧ (a2 = a2 ∧ b2 = b2) ∧ (a3 = a3 ∧ b3 = b3) ∧ (a4 = a4 ∧ b4 = b4) ∧ (a5 = a5 ∧ b5 = b5) ∧ (a6 = a6 ∧ b6 = b6) ∧ (a7 = a7 ∧ b7 = b7) ∧ (a8 = a8 ∧ b8 = b8) ∧ (a9 = a9 ∧ b9 = b9) ∧ (a10 = a10 ∧ b10 = b10) ∧ (a11 = a11 ∧ b11 = b11) ∧ (a12 = a12 ∧ b12 = b12) ∧ True := ⟨⟨rfl, rfl⟩, ⟨rfl, rfl⟩, ⟨rfl, rfl⟩, ⟨rfl, rfl⟩, ⟨rfl, rfl⟩, ⟨rfl, rfl⟩, ⟨rfl, rfl⟩, ⟨rfl, rfl⟩, ⟨rfl, rfl⟩, ⟨rfl, rfl⟩, ⟨rfl, rfl⟩, ⟨rfl, rfl⟩, ⟨rfl, rfl⟩, trivial⟩
theorem Nn (i : Nat) : (0 : Int) ≤ (i : Int) := Int.natCast_nonneg i
abbrev Ic (x : List Rl) (ifs : List (List AV)) : List AV := [sl encRl x, .slice .none ifs]
theorem Ps {f : Nat} {fn : Func} {c : Code} {args : List AV} {res : AV} (pl : Pol) (hf : Tryz.prog.funcs[f]? = some fn) (hb : fn.body = some c) (hN : args.length ≤ fn.ntmps) (hk : awp (cxp pl) c (endK (cxp pl) fn.results.toList fun r => Sub r res) ⟨envA args, hfree⟩)
    (hn : (fn.name == "runtime.NumGoroutine") = false := by kernel_rfl) (hc : codeOk fn.ntmps c = true := by kernel_rfl) : PCall Tryz.prog f args res := pcall_sub (cxp pl) rfl tab_ok hm rfl hf hn hb hN hc hk
theorem Lm {α β : Type} (f : α → β) {l : List α} : (l.map f).length = l.length := List.length_map f
theorem Ge {α : Type} {l : List α} {i : Nat} (h : i < l.length) : l[i]? = some l[i] := List.getElem?_eq_getElem h
end Go.Eng

namespace Go.Proofs
open Go.Shelf
def Tryz.layPdqSpan_ren:Go.Shelf.Ren:=⟨fun | 14=>216 | 20=>250 | 21=>251 | 22=>252 | 23=>253 | 24=>254 | 25=>255 | 26=>256 | 27=>257 | 46=>271 | 47=>195 | 48=>196 | 49=>272 | 50=>273 | 15=>93 | 57=>293 | 28=>147 | 29=>148 | n=>n,fun | 24=>65 | 22=>42 | 3=>3 | 25=>234 | 4=>4 | 0=>0 | 46=>215 | 45=>214 | 50=>90 | 66=>246 | 39=>155 | 55=>223 | 70=>250 | 76=>274 | 77=>275 | 53=>221 | 5=>5 | 9=>9 | n=>n,fun | n=>n⟩
theorem Tryz.layPdqSpan:Go.Proofs.SlLaysF0.n14 Tryz.prog Tryz.layPdqSpan_ren:={
 mixed:=by kernel_rfl
 f14:=⟨Tryz.f216.name,by decide,Tryz.func216.trans (congrArg some (by kernel_rfl))⟩
 f15:=Tryz.func93.trans (congrArg some (by kernel_rfl))
 f20:=⟨Tryz.f250.name,by decide,Tryz.func250.trans (congrArg some (by kernel_rfl))⟩
 f21:=⟨Tryz.f251.name,by decide,Tryz.func251.trans (congrArg some (by kernel_rfl))⟩
 f22:=⟨Tryz.f252.name,by decide,Tryz.func252.trans (congrArg some (by kernel_rfl))⟩
 f23:=⟨Tryz.f253.name,by decide,Tryz.func253.trans (congrArg some (by kernel_rfl))⟩
 f24:=⟨Tryz.f254.name,by decide,Tryz.func254.trans (congrArg some (by kernel_rfl))⟩
 f25:=⟨Tryz.f255.name,by decide,Tryz.func255.trans (congrArg some (by kernel_rfl))⟩
 f26:=⟨Tryz.f256.name,by decide,Tryz.func256.trans (congrArg some (by kernel_rfl))⟩
 f27:=⟨Tryz.f257.name,by decide,Tryz.func257.trans (congrArg some (by kernel_rfl))⟩
 f28:=Tryz.func147.trans (congrArg some (by kernel_rfl))
 f29:=Tryz.func148.trans (congrArg some (by kernel_rfl))
 f46:=⟨Tryz.f271.name,by decide,Tryz.func271.trans (congrArg some (by kernel_rfl))⟩
 f47:=Tryz.func195.trans (congrArg some (by kernel_rfl))
 f48:=Tryz.func196.trans (congrArg some (by kernel_rfl))
 f49:=⟨Tryz.f272.name,by decide,Tryz.func272.trans (congrArg some (by kernel_rfl))⟩
 f50:=⟨Tryz.f273.name,by decide,Tryz.func273.trans (congrArg some (by kernel_rfl))⟩
 f57:=⟨Tryz.f293.name,by decide,Tryz.func293.trans (congrArg some (by kernel_rfl))⟩
 t0:=Tryz.underlying0
 a0:=Tryz.isAgg0
 z0:=Tryz.sizeOf0
 v0:=Tryz.zeroValue0
 t3:=Tryz.underlying3
 a3:=Tryz.isAgg3
 z3:=Tryz.sizeOf3
 v3:=Tryz.zeroValue3
 t4:=Tryz.underlying4
 a4:=Tryz.isAgg4
 z4:=Tryz.sizeOf4
 v4:=Tryz.zeroValue4
 t5:=Tryz.underlying5
 a5:=Tryz.isAgg5
 z5:=Tryz.sizeOf5
 v5:=Tryz.zeroValue5
 t9:=Tryz.underlying9
 a9:=Tryz.isAgg9
 z9:=Tryz.sizeOf9
 v9:=Tryz.zeroValue9
 t22:=Tryz.underlying42
 a22:=Tryz.isAgg42
 z22:=Tryz.sizeOf42
 v22:=Tryz.zeroValue42
 t25:=Tryz.underlying234
 a25:=Tryz.isAgg234
 z25:=Tryz.sizeOf234
 v25:=Tryz.zeroValue234
 t39:=Tryz.underlying155
 a39:=Tryz.isAgg155
 z39:=Tryz.sizeOf155
 v39:=Tryz.zeroValue155
 t45:=Tryz.underlying214
 a45:=Tryz.isAgg214
 z45:=Tryz.sizeOf214
 v45:=Tryz.zeroValue214
 t46:=Tryz.underlying215
 a46:=Tryz.isAgg215
 z46:=Tryz.sizeOf215
 v46:=Tryz.zeroValue215
 t50:=Tryz.underlying90
 a50:=Tryz.isAgg90
 z50:=Tryz.sizeOf90
 v50:=Tryz.zeroValue90
 t53:=Tryz.underlying221
 a53:=Tryz.isAgg221
 z53:=Tryz.sizeOf221
 v53:=Tryz.zeroValue221
 t55:=Tryz.underlying223
 a55:=Tryz.isAgg223
 z55:=Tryz.sizeOf223
 v55:=Tryz.zeroValue223
 t66:=Tryz.underlying246
 a66:=Tryz.isAgg246
 z66:=Tryz.sizeOf246
 v66:=Tryz.zeroValue246
 t70:=Tryz.underlying250
 a70:=Tryz.isAgg250
 z70:=Tryz.sizeOf250
 v70:=Tryz.zeroValue250
 t76:=Tryz.underlying274
 a76:=Tryz.isAgg274
 z76:=Tryz.sizeOf274
 v76:=Tryz.zeroValue274
 t77:=Tryz.underlying275
 a77:=Tryz.isAgg275
 z77:=Tryz.sizeOf275
 v77:=Tryz.zeroValue275 }
def Tryz.layPdqTerm_ren:Go.Shelf.Ren:=⟨fun | 14=>263 | 20=>279 | 21=>280 | 22=>281 | 23=>282 | 24=>283 | 25=>284 | 26=>285 | 27=>286 | 46=>306 | 47=>195 | 48=>196 | 49=>307 | 50=>308 | 15=>93 | 57=>318 | 28=>147 | 29=>148 | n=>n,fun | 24=>208 | 22=>148 | 3=>3 | 25=>272 | 4=>4 | 0=>0 | 46=>215 | 45=>214 | 50=>90 | 66=>246 | 39=>155 | 55=>223 | 70=>250 | 76=>274 | 77=>275 | 53=>221 | 5=>5 | 9=>9 | n=>n,fun | n=>n⟩
theorem Tryz.layPdqTerm:Go.Proofs.SlLaysF0.n14 Tryz.prog Tryz.layPdqTerm_ren:={
 mixed:=by kernel_rfl
 f14:=⟨Tryz.f263.name,by decide,Tryz.func263.trans (congrArg some (by kernel_rfl))⟩
 f15:=Tryz.func93.trans (congrArg some (by kernel_rfl))
 f20:=⟨Tryz.f279.name,by decide,Tryz.func279.trans (congrArg some (by kernel_rfl))⟩
 f21:=⟨Tryz.f280.name,by decide,Tryz.func280.trans (congrArg some (by kernel_rfl))⟩
 f22:=⟨Tryz.f281.name,by decide,Tryz.func281.trans (congrArg some (by kernel_rfl))⟩
 f23:=⟨Tryz.f282.name,by decide,Tryz.func282.trans (congrArg some (by kernel_rfl))⟩
 f24:=⟨Tryz.f283.name,by decide,Tryz.func283.trans (congrArg some (by kernel_rfl))⟩
 f25:=⟨Tryz.f284.name,by decide,Tryz.func284.trans (congrArg some (by kernel_rfl))⟩
 f26:=⟨Tryz.f285.name,by decide,Tryz.func285.trans (congrArg some (by kernel_rfl))⟩
 f27:=⟨Tryz.f286.name,by decide,Tryz.func286.trans (congrArg some (by kernel_rfl))⟩
 f28:=Tryz.func147.trans (congrArg some (by kernel_rfl))
 f29:=Tryz.func148.trans (congrArg some (by kernel_rfl))
 f46:=⟨Tryz.f306.name,by decide,Tryz.func306.trans (congrArg some (by kernel_rfl))⟩
 f47:=Tryz.func195.trans (congrArg some (by kernel_rfl))
 f48:=Tryz.func196.trans (congrArg some (by kernel_rfl))
 f49:=⟨Tryz.f307.name,by decide,Tryz.func307.trans (congrArg some (by kernel_rfl))⟩
 f50:=⟨Tryz.f308.name,by decide,Tryz.func308.trans (congrArg some (by kernel_rfl))⟩
 f57:=⟨Tryz.f318.name,by decide,Tryz.func318.trans (congrArg some (by kernel_rfl))⟩
 t0:=Tryz.underlying0
 a0:=Tryz.isAgg0
 z0:=Tryz.sizeOf0
 v0:=Tryz.zeroValue0
 t3:=Tryz.underlying3
 a3:=Tryz.isAgg3
 z3:=Tryz.sizeOf3
 v3:=Tryz.zeroValue3
 t4:=Tryz.underlying4
 a4:=Tryz.isAgg4
 z4:=Tryz.sizeOf4
 v4:=Tryz.zeroValue4
 t5:=Tryz.underlying5
 a5:=Tryz.isAgg5
 z5:=Tryz.sizeOf5
 v5:=Tryz.zeroValue5
 t9:=Tryz.underlying9
 a9:=Tryz.isAgg9
 z9:=Tryz.sizeOf9
 v9:=Tryz.zeroValue9
 t22:=Tryz.underlying148
 a22:=Tryz.isAgg148
 z22:=Tryz.sizeOf148
 v22:=Tryz.zeroValue148
 t25:=Tryz.underlying272
 a25:=Tryz.isAgg272
 z25:=Tryz.sizeOf272
 v25:=Tryz.zeroValue272
 t39:=Tryz.underlying155
 a39:=Tryz.isAgg155
 z39:=Tryz.sizeOf155
 v39:=Tryz.zeroValue155
 t45:=Tryz.underlying214
 a45:=Tryz.isAgg214
 z45:=Tryz.sizeOf214
 v45:=Tryz.zeroValue214
 t46:=Tryz.underlying215
 a46:=Tryz.isAgg215
 z46:=Tryz.sizeOf215
 v46:=Tryz.zeroValue215
 t50:=Tryz.underlying90
 a50:=Tryz.isAgg90
 z50:=Tryz.sizeOf90
 v50:=Tryz.zeroValue90
 t53:=Tryz.underlying221
 a53:=Tryz.isAgg221
 z53:=Tryz.sizeOf221
 v53:=Tryz.zeroValue221
 t55:=Tryz.underlying223
 a55:=Tryz.isAgg223
 z55:=Tryz.sizeOf223
 v55:=Tryz.zeroValue223
 t66:=Tryz.underlying246
 a66:=Tryz.isAgg246
 z66:=Tryz.sizeOf246
 v66:=Tryz.zeroValue246
 t70:=Tryz.underlying250
 a70:=Tryz.isAgg250
 z70:=Tryz.sizeOf250
 v70:=Tryz.zeroValue250
 t76:=Tryz.underlying274
 a76:=Tryz.isAgg274
 z76:=Tryz.sizeOf274
 v76:=Tryz.zeroValue274
 t77:=Tryz.underlying275
 a77:=Tryz.isAgg275
 z77:=Tryz.sizeOf275
 v77:=Tryz.zeroValue275 }
def Tryz.layPdqSel_ren:Go.Shelf.Ren:=⟨fun | 14=>92 | 20=>139 | 21=>140 | 22=>141 | 23=>142 | 24=>143 | 25=>144 | 26=>145 | 27=>146 | 46=>194 | 47=>195 | 48=>196 | 49=>197 | 50=>198 | 15=>93 | 57=>234 | 28=>147 | 29=>148 | n=>n,fun | 24=>51 | 22=>39 | 3=>3 | 25=>103 | 4=>4 | 0=>0 | 46=>215 | 45=>214 | 50=>90 | 66=>246 | 39=>155 | 55=>223 | 70=>250 | 76=>274 | 77=>275 | 53=>221 | 5=>5 | 9=>9 | n=>n,fun | n=>n⟩
theorem Tryz.layPdqSel:Go.Proofs.SlLaysF0.n14 Tryz.prog Tryz.layPdqSel_ren:={
 mixed:=by kernel_rfl
 f14:=⟨Tryz.f92.name,by decide,Tryz.func92.trans (congrArg some (by kernel_rfl))⟩
 f15:=Tryz.func93.trans (congrArg some (by kernel_rfl))
 f20:=⟨Tryz.f139.name,by decide,Tryz.func139.trans (congrArg some (by kernel_rfl))⟩
 f21:=⟨Tryz.f140.name,by decide,Tryz.func140.trans (congrArg some (by kernel_rfl))⟩
 f22:=⟨Tryz.f141.name,by decide,Tryz.func141.trans (congrArg some (by kernel_rfl))⟩
 f23:=⟨Tryz.f142.name,by decide,Tryz.func142.trans (congrArg some (by kernel_rfl))⟩
 f24:=⟨Tryz.f143.name,by decide,Tryz.func143.trans (congrArg some (by kernel_rfl))⟩
 f25:=⟨Tryz.f144.name,by decide,Tryz.func144.trans (congrArg some (by kernel_rfl))⟩
 f26:=⟨Tryz.f145.name,by decide,Tryz.func145.trans (congrArg some (by kernel_rfl))⟩
 f27:=⟨Tryz.f146.name,by decide,Tryz.func146.trans (congrArg some (by kernel_rfl))⟩
 f28:=Tryz.func147.trans (congrArg some (by kernel_rfl))
 f29:=Tryz.func148.trans (congrArg some (by kernel_rfl))
 f46:=⟨Tryz.f194.name,by decide,Tryz.func194.trans (congrArg some (by kernel_rfl))⟩
 f47:=Tryz.func195.trans (congrArg some (by kernel_rfl))
 f48:=Tryz.func196.trans (congrArg some (by kernel_rfl))
 f49:=⟨Tryz.f197.name,by decide,Tryz.func197.trans (congrArg some (by kernel_rfl))⟩
 f50:=⟨Tryz.f198.name,by decide,Tryz.func198.trans (congrArg some (by kernel_rfl))⟩
 f57:=⟨Tryz.f234.name,by decide,Tryz.func234.trans (congrArg some (by kernel_rfl))⟩
 t0:=Tryz.underlying0
 a0:=Tryz.isAgg0
 z0:=Tryz.sizeOf0
 v0:=Tryz.zeroValue0
 t3:=Tryz.underlying3
 a3:=Tryz.isAgg3
 z3:=Tryz.sizeOf3
 v3:=Tryz.zeroValue3
 t4:=Tryz.underlying4
 a4:=Tryz.isAgg4
 z4:=Tryz.sizeOf4
 v4:=Tryz.zeroValue4
 t5:=Tryz.underlying5
 a5:=Tryz.isAgg5
 z5:=Tryz.sizeOf5
 v5:=Tryz.zeroValue5
 t9:=Tryz.underlying9
 a9:=Tryz.isAgg9
 z9:=Tryz.sizeOf9
 v9:=Tryz.zeroValue9
 t22:=Tryz.underlying39
 a22:=Tryz.isAgg39
 z22:=Tryz.sizeOf39
 v22:=Tryz.zeroValue39
 t25:=Tryz.underlying103
 a25:=Tryz.isAgg103
 z25:=Tryz.sizeOf103
 v25:=Tryz.zeroValue103
 t39:=Tryz.underlying155
 a39:=Tryz.isAgg155
 z39:=Tryz.sizeOf155
 v39:=Tryz.zeroValue155
 t45:=Tryz.underlying214
 a45:=Tryz.isAgg214
 z45:=Tryz.sizeOf214
 v45:=Tryz.zeroValue214
 t46:=Tryz.underlying215
 a46:=Tryz.isAgg215
 z46:=Tryz.sizeOf215
 v46:=Tryz.zeroValue215
 t50:=Tryz.underlying90
 a50:=Tryz.isAgg90
 z50:=Tryz.sizeOf90
 v50:=Tryz.zeroValue90
 t53:=Tryz.underlying221
 a53:=Tryz.isAgg221
 z53:=Tryz.sizeOf221
 v53:=Tryz.zeroValue221
 t55:=Tryz.underlying223
 a55:=Tryz.isAgg223
 z55:=Tryz.sizeOf223
 v55:=Tryz.zeroValue223
 t66:=Tryz.underlying246
 a66:=Tryz.isAgg246
 z66:=Tryz.sizeOf246
 v66:=Tryz.zeroValue246
 t70:=Tryz.underlying250
 a70:=Tryz.isAgg250
 z70:=Tryz.sizeOf250
 v70:=Tryz.zeroValue250
 t76:=Tryz.underlying274
 a76:=Tryz.isAgg274
 z76:=Tryz.sizeOf274
 v76:=Tryz.zeroValue274
 t77:=Tryz.underlying275
 a77:=Tryz.isAgg275
 z77:=Tryz.sizeOf275
 v77:=Tryz.zeroValue275 }
def Tryz.layCompare_ren:Go.Shelf.Ren:=⟨fun | 106=>49 | 213=>94 | 265=>149 | n=>n,fun | 9=>9 | 3=>3 | n=>n,fun | n=>n⟩
theorem Tryz.layCompare:Go.Proofs.Lays.n106 Tryz.prog Tryz.layCompare_ren:={
 mixed:=by kernel_rfl
 f106:=Tryz.func49.trans (congrArg some (by kernel_rfl))
 f213:=Tryz.func94.trans (congrArg some (by kernel_rfl))
 f265:=Tryz.func149.trans (congrArg some (by kernel_rfl))
 t3:=Tryz.underlying3
 a3:=Tryz.isAgg3
 z3:=Tryz.sizeOf3
 v3:=Tryz.zeroValue3
 t9:=Tryz.underlying9
 a9:=Tryz.isAgg9
 z9:=Tryz.sizeOf9
 v9:=Tryz.zeroValue9 }
def Tryz.layBits_ren:Go.Shelf.Ren:=⟨fun | 125=>93 | 128=>147 | 129=>148 | n=>n,fun | 46=>155 | 3=>3 | 51=>221 | 53=>223 | 4=>4 | 5=>5 | 9=>9 | n=>n,fun | n=>n⟩
theorem Tryz.layBits:Go.Proofs.Lays.n125 Tryz.prog Tryz.layBits_ren:={
 mixed:=by kernel_rfl
 f125:=Tryz.func93.trans (congrArg some (by kernel_rfl))
 f128:=Tryz.func147.trans (congrArg some (by kernel_rfl))
 f129:=Tryz.func148.trans (congrArg some (by kernel_rfl))
 t3:=Tryz.underlying3
 a3:=Tryz.isAgg3
 z3:=Tryz.sizeOf3
 v3:=Tryz.zeroValue3
 t4:=Tryz.underlying4
 a4:=Tryz.isAgg4
 z4:=Tryz.sizeOf4
 v4:=Tryz.zeroValue4
 t5:=Tryz.underlying5
 a5:=Tryz.isAgg5
 z5:=Tryz.sizeOf5
 v5:=Tryz.zeroValue5
 t9:=Tryz.underlying9
 a9:=Tryz.isAgg9
 z9:=Tryz.sizeOf9
 v9:=Tryz.zeroValue9
 t46:=Tryz.underlying155
 a46:=Tryz.isAgg155
 z46:=Tryz.sizeOf155
 v46:=Tryz.zeroValue155
 t51:=Tryz.underlying221
 a51:=Tryz.isAgg221
 z51:=Tryz.sizeOf221
 v51:=Tryz.zeroValue221
 t53:=Tryz.underlying223
 a53:=Tryz.isAgg223
 z53:=Tryz.sizeOf223
 v53:=Tryz.zeroValue223 }
def Tryz.laySortInts_ren:Go.Shelf.Ren:=⟨fun | 189=>261 | 125=>93 | 257=>277 | 128=>147 | 129=>148 | 294=>297 | 295=>298 | 296=>299 | 297=>300 | 298=>301 | 299=>302 | 216=>303 | 300=>304 | 301=>305 | 328=>315 | 329=>195 | 330=>196 | 331=>316 | 332=>317 | 215=>249 | 343=>325 | n=>n,fun | 28=>35 | 3=>3 | 46=>155 | 0=>0 | 51=>221 | 53=>223 | 4=>4 | 183=>215 | 182=>214 | 131=>90 | 5=>5 | 9=>9 | 218=>246 | 222=>250 | 228=>274 | 229=>275 | n=>n,fun | n=>n⟩
theorem Tryz.laySortInts:Go.Proofs.Lays.n189 Tryz.prog Tryz.laySortInts_ren:={
 mixed:=by kernel_rfl
 f125:=Tryz.func93.trans (congrArg some (by kernel_rfl))
 f128:=Tryz.func147.trans (congrArg some (by kernel_rfl))
 f129:=Tryz.func148.trans (congrArg some (by kernel_rfl))
 f189:=Tryz.func261.trans (congrArg some (by kernel_rfl))
 f215:=Tryz.func249.trans (congrArg some (by kernel_rfl))
 f216:=Tryz.func303.trans (congrArg some (by kernel_rfl))
 f257:=Tryz.func277.trans (congrArg some (by kernel_rfl))
 f294:=Tryz.func297.trans (congrArg some (by kernel_rfl))
 f295:=Tryz.func298.trans (congrArg some (by kernel_rfl))
 f296:=Tryz.func299.trans (congrArg some (by kernel_rfl))
 f297:=Tryz.func300.trans (congrArg some (by kernel_rfl))
 f298:=Tryz.func301.trans (congrArg some (by kernel_rfl))
 f299:=Tryz.func302.trans (congrArg some (by kernel_rfl))
 f300:=Tryz.func304.trans (congrArg some (by kernel_rfl))
 f301:=Tryz.func305.trans (congrArg some (by kernel_rfl))
 f328:=Tryz.func315.trans (congrArg some (by kernel_rfl))
 f329:=Tryz.func195.trans (congrArg some (by kernel_rfl))
 f330:=Tryz.func196.trans (congrArg some (by kernel_rfl))
 f331:=Tryz.func316.trans (congrArg some (by kernel_rfl))
 f332:=Tryz.func317.trans (congrArg some (by kernel_rfl))
 f343:=Tryz.func325.trans (congrArg some (by kernel_rfl))
 t0:=Tryz.underlying0
 a0:=Tryz.isAgg0
 z0:=Tryz.sizeOf0
 v0:=Tryz.zeroValue0
 t3:=Tryz.underlying3
 a3:=Tryz.isAgg3
 z3:=Tryz.sizeOf3
 v3:=Tryz.zeroValue3
 t4:=Tryz.underlying4
 a4:=Tryz.isAgg4
 z4:=Tryz.sizeOf4
 v4:=Tryz.zeroValue4
 t5:=Tryz.underlying5
 a5:=Tryz.isAgg5
 z5:=Tryz.sizeOf5
 v5:=Tryz.zeroValue5
 t9:=Tryz.underlying9
 a9:=Tryz.isAgg9
 z9:=Tryz.sizeOf9
 v9:=Tryz.zeroValue9
 t28:=Tryz.underlying35
 a28:=Tryz.isAgg35
 z28:=Tryz.sizeOf35
 v28:=Tryz.zeroValue35
 t46:=Tryz.underlying155
 a46:=Tryz.isAgg155
 z46:=Tryz.sizeOf155
 v46:=Tryz.zeroValue155
 t51:=Tryz.underlying221
 a51:=Tryz.isAgg221
 z51:=Tryz.sizeOf221
 v51:=Tryz.zeroValue221
 t53:=Tryz.underlying223
 a53:=Tryz.isAgg223
 z53:=Tryz.sizeOf223
 v53:=Tryz.zeroValue223
 t131:=Tryz.underlying90
 a131:=Tryz.isAgg90
 z131:=Tryz.sizeOf90
 v131:=Tryz.zeroValue90
 t182:=Tryz.underlying214
 a182:=Tryz.isAgg214
 z182:=Tryz.sizeOf214
 v182:=Tryz.zeroValue214
 t183:=Tryz.underlying215
 a183:=Tryz.isAgg215
 z183:=Tryz.sizeOf215
 v183:=Tryz.zeroValue215
 t218:=Tryz.underlying246
 a218:=Tryz.isAgg246
 z218:=Tryz.sizeOf246
 v218:=Tryz.zeroValue246
 t222:=Tryz.underlying250
 a222:=Tryz.isAgg250
 z222:=Tryz.sizeOf250
 v222:=Tryz.zeroValue250
 t228:=Tryz.underlying274
 a228:=Tryz.isAgg274
 z228:=Tryz.sizeOf274
 v228:=Tryz.zeroValue274
 t229:=Tryz.underlying275
 a229:=Tryz.isAgg275
 z229:=Tryz.sizeOf275
 v229:=Tryz.zeroValue275 }
end Go.Proofs

namespace Go.Proofs
open Go.Shelf Go.RowKit Go.Lib Go.Sort
def SpA:Type:={x:Int × Int // 0≤x.1∧x.1≤1000000}
instance:Inhabited SpA:=⟨⟨(0,0),by decide⟩⟩
def encSpA (x:SpA):List Value:=[.int .i64 x.1.1,.int .i64 x.1.2]
def cfSpA (x y:SpA):Int:=x.1.1 - y.1.1
set_option maxHeartbeats 1000000 in
theorem Tryz.closure169 (x y:SpA) (W:World):Calls Tryz.prog 169 #[.agg #[.int .i64 x.1.1,.int .i64 x.1.2],.agg #[.int .i64 y.1.1,.int .i64 y.1.2]] W fun e w'=>e=.returned (.int .i64 (cfSpA x y))∧∃ q os',w'=grow (W.drewN q) os':=by
 obtain ⟨⟨a,b⟩,h1,h2⟩:=x;obtain ⟨⟨c,d⟩,h3,h4⟩:=y;dsimp only at h1 h2 h3 h4;have hw:IntKind.i64.wrap (a - c)=a - c:=by simp [IntKind.wrap,IntKind.bits,IntKind.signed]; omega
 show Calls Tryz.prog 169 #[.agg #[.int .i64 a,.int .i64 b],.agg #[.int .i64 c,.int .i64 d]] W fun e w'=>e=.returned (.int .i64 (a - c))∧∃ q os',w'=grow (W.drewN q) os'
 go_enter Tryz.func169,Tryz.ntmps169
 go_wp2
 go_ret
 exact ⟨rfl,0,_,by rw [alloc_eq_grow,alloc_eq_grow,grow_grow]; rfl⟩
def TmA:Type:=ByteArray × {v:Value // v.oneCell'=true} × {v:Value // v.oneCell'=true}
instance:Inhabited TmA:=⟨⟨ByteArray.empty,⟨.bool false,rfl⟩,⟨.bool false,rfl⟩⟩⟩
def encTmA (x:TmA):List Value:=[.string x.1,x.2.1.1,x.2.2.1]
def cfTmA (x y:TmA):Int:=Lib.compareBytes x.1.data.toList y.1.data.toList
set_option maxHeartbeats 1000000 in
theorem Tryz.closure232 (x y:TmA) (W:World):Calls Tryz.prog 232 #[.agg #[.string x.1,x.2.1.1,x.2.2.1],.agg #[.string y.1,y.2.1.1,y.2.2.1]] W fun e w'=>e=.returned (.int .i64 (cfTmA x y))∧∃ q os',w'=grow (W.drewN q) os':=by
 have hcon:=fun W'=>Any.strings_Compare Tryz.layCompare x.1 y.1 W';obtain ⟨a,⟨b,hb⟩,⟨c,hc⟩⟩:=x;obtain ⟨a',⟨b',hb'⟩,⟨c',hc'⟩⟩:=y;dsimp only at hcon
 change ∀ W',Calls Tryz.prog 49 _ _ _ at hcon
 unfold cfTmA;dsimp only;generalize Lib.compareBytes a.data.toList a'.data.toList=r at hcon ⊢
 go_enter Tryz.func232,Tryz.ntmps232
 go_wp2_with (go_at_call 49; refine (hcon _).mono ?_; rintro e w' ⟨rfl,rfl⟩)
 go_ret
 exact ⟨rfl,0,_,by rw [alloc_eq_grow,alloc_eq_grow,grow_grow]; rfl⟩
end Go.Proofs

namespace Go.Eng
open Go.Proofs
theorem c138 (v:Ver):PC 131 [.agg (encVer v)] (.agg [vi v.a,vi v.b,vi v.c]):=by
 refine Ps pl0 Tryz.func131 rfl (Nz rfl) ?_;exact Yi (Nz rfl) (Yi (Nz rfl) (.refl _))
def part (v:Ver):Nat→Int
 | 0=>v.a
 | 1=>v.b
 | _=>v.c
theorem validB_no {v:Ver} {i:Nat} (h:¬ okPart (part v i)):validB v=false:=by
 unfold validB
 match i,h with
 | 0,h=>have h:¬ okPart v.a:=h; simp [h]
 | 1,h=>have h:¬ okPart v.b:=h; simp [h]
 | _+2,h=>have h:¬ okPart v.c:=h; simp [h]
theorem c100 (v:Ver):PC 85 [.agg (encVer v)] (vb (validB v)):=by
 refine Ps pl0 Tryz.func85 rfl (Nz rfl) ?_;refine Yi (Nz rfl) (Xi .pure (Xi _ (Yi (c138 v) ?_)));refine Xi {i:Nat // i≤3∧∀ j,j<i→okPart (part v j)} (Xi (fun i=>⟨[(6,.agg [vi v.a,vi v.b,vi v.c]),(7,vi i.1)],[],hfree⟩) (Xi (fun i=>3 - i.1) (Yi (Xi ⟨0,by simp⟩ ?_) ?_)))
 ·exact ⟨Z2,Tv,Fh,Tv⟩
 ·intro ⟨i,h1,h2⟩;refine Yi ?_ ?_
  ·intro h;have h:(i:Int)<3:=h;refine Yi ⟨by show (0:Int)≤i; omega,by show (i:Int)<3; omega⟩ ?_;have hp:headK (([vi v.a,vi v.b,vi v.c]).drop ((i:Int).toNat*1))=fun K=>K (vi (part v i)):=by
    match i,h with
    | 0,_=>rfl
    | 1,_=>rfl
    | 2,_=>rfl
    | _+3,h=>omega
   show headK (([vi v.a,vi v.b,vi v.c]).drop ((i:Int).toNat*1)) _;rw [hp];refine Yi ?_ ?_
   ·intro h3;have h3:part v i<0:=h3;rw [validB_no (i:=i) (by unfold okPart; omega)];exact .refl _
   ·intro h3;have h3:¬ part v i<0:=h3;refine Yi ?_ ?_
    ·intro h4;have h4:(999:Int)<part v i:=h4;rw [validB_no (i:=i) (by unfold okPart; omega)];exact .refl _
    ·intro h4;have h4:¬ (999:Int)<part v i:=h4;refine Yi (Ii i (by omega)) ?_;refine Xi ⟨i+1,by omega,fun j hj=>?_⟩ ?_
     ·by_cases e:j=i
      ·subst e; exact ⟨by omega,by omega⟩
      ·exact h2 j (by omega)
     ·exact ⟨Dl 3 i (by omega),Z2,Tv,Fh,Tv⟩
  ·intro h;have h:¬ (i:Int)<3:=h;have e:i=3:=by omega
   have q:validB v=true:=by
    unfold validB;have a:=h2 0 (by omega);have b:=h2 1 (by omega);have c:=h2 2 (by omega);simp only [part] at a b c;simp [a,b,c]
   rw [q];exact .refl _
theorem c56 (v:Ver):PC 44 [.agg (encVer v)] (.tup [vi (if validB v then place v else 0),vi (if validB v then 0 else 2)]):=by
 refine Ps pl0 Tryz.func44 rfl (Nz rfl) ?_;refine Yi (Nz rfl) (Xi .pure (Xi _ (Yi (c100 v) ?_)));cases h:validB v with
 | false=>exact .refl _
 | true =>
  have hv:=valid_place h;refine Yi (by show InI64 (1000*v.b); unfold InI64; omega) ?_;exact Yi (by show InI64 (1000*v.b+v.c); unfold InI64; omega) (.refl _)
end Go.Eng

namespace Go.Eng
open Go.Proofs
def Stable (caps:List AV):Prop:=∀ c ∈ caps,∀ h,str0 h c=c
theorem Stable.map {caps:List AV} (hs:Stable caps) (h:Nat→HO):caps.map (str0 h)=caps:=by
 conv=>rhs; rw [← List.map_id caps]
 exact List.map_congr_left fun c hc=>hs c hc h
theorem Stable.ids {caps:List AV} (hs:Stable caps) (h:Nat→HO):idsL h caps=true:=by
 induction caps with
 | nil=>rfl
 | cons c r ih =>
  have hc:=hs c (List.mem_cons_self ..) hfree;have h0:ids0 h c=true:=by
   cases c with
   | slice tk es=>cases tk with | none=>rfl | full sz=>simp [str0] at hc | id r sz=>simp [str0] at hc | ver r sz v=>simp [str0] at hc
   | _=>first | rfl | (simp [str0,hfree] at hc)
  unfold idsL;rw [h0];exact ih fun c hc=>hs c (List.mem_cons_of_mem _ hc)
def idx {α:Type} (p:α→Bool):List α→Int→Int
 | [],_=>-1
 | x :: r,i=>if p x then i else idx p r (i+1)
theorem idx_at {α:Type} {p:α→Bool} : ∀ {l:List α} {i:Nat} {k:Int} (hi:i<l.length),(∀ j (hj:j<l.length),j<i→p l[j]=false)→p l[i]=true→idx p l k=k+i
 | x :: r,0,k,_,_,h=>by
  have h:p x=true:=h;simp [idx,h]
 | x :: r,i+1,k,hi,hb,h=>by
  have h0:p x=false:=hb 0 (by simp) (by omega)
  have:=idx_at (l:=r) (i:=i) (k:=k+1) (by simpa using hi) (fun j hj hji=>hb (j+1) (by simpa using hj) (by omega)) (by simpa using h)
  simp only [idx,h0,Bool.false_eq_true,if_false,this];omega
theorem idx_none {α:Type} {p:α→Bool} : ∀ {l:List α} {k:Int},(∀ j (hj:j<l.length),p l[j]=false)→idx p l k=-1
 | [],_,_=>rfl
 | x :: r,k,h=>by
  have h0:p x=false:=h 0 (by simp);simp only [idx,h0,Bool.false_eq_true,if_false];exact idx_none fun j hj=>h (j+1) (by simpa using hj)
theorem idx_any {α:Type} {p:α→Bool} : ∀ (l:List α) (k:Int),0≤k→decide (0≤idx p l k)=l.any p
 | [],k,_=>by simp [idx]
 | x :: r,k,hk=>by
  unfold idx;cases h:p x with
  | true=>simp [h,hk]
  | false=>simp [h,idx_any r (k+1) (by omega)]
-- one for each type of elements
theorem c175 {fF:Nat} {caps:List AV} (hs:Stable caps) (l:List (Int × Int)) (p:Int × Int→Bool) (hF:∀ x ∈ l,PC fF ([.agg (encSpan x)]++caps) (vb (p x))) (hl:l.length<9223372036854775807) :
  PC 173 [sl encSpan l,.clo fF caps] (vi (idx p l 0)):=by
 refine Ps pl0 Tryz.func173 rfl (Nz rfl) ?_;refine Xi {i:Nat // i≤l.length∧∀ j (hj:j<l.length),j<i→p l[j]=false} (Xi (fun i=>⟨[(0,sl encSpan l),(1,.clo fF caps),(7,vi (l.map encSpan).length),(8,vi i.1)],[],hfree⟩) (Xi (fun i=>l.length - i.1) (Yi (Xi ⟨0,by simp⟩ ?_) ?_)))
 ·exact ⟨⟨Zr,⟨rfl,hs.ids _⟩,Zr,Zr,Tv⟩,Tv,Fh,Tv⟩
 ·intro ⟨i,h1,h2⟩;refine Yi ?_ ?_
  ·intro h;have h:(i:Int)<(l.map encSpan).length:=h;have h:i<l.length:=by simpa using h
   have hg:l[i]?=some l[i]:=Ge h;refine Xi (encSpan l[i]) (Yi (Yi (Nn i) (by simp [hg])) (Yi rfl (Yi (Nz rfl) ?_)));have hcall:∀ h,PC fF ([.agg (encSpan l[i])]++caps.map (str0 h)) (vb (p l[i])):=fun h=>by rw [hs.map]; exact hF l[i] (List.getElem_mem _)
   cases hp:p l[i] with
   | true =>
    rw [hp] at hcall;refine Xi .pure (Xi (vb true) (Yi (hcall _) ?_));rw [idx_at h (fun j hj hji=>h2 j hj hji) hp,Int.zero_add];exact .refl _
   | false =>
    rw [hp] at hcall;refine Xi .pure (Xi (vb false) (Yi (hcall _) ?_));refine Yi (Ii i (by omega)) ?_;refine Xi ⟨i+1,by omega,fun j hj hji=>?_⟩ ?_
    ·by_cases e:j=i
     ·subst e; exact hp
     ·exact h2 j hj (by omega)
    ·exact ⟨Dl l.length i (by omega),⟨Zr,⟨rfl,hs.ids _⟩,Zr,Zr,Tv⟩,Tv,Fh,Tv⟩
  ·intro h;have h:¬ (i:Int)<(l.map encSpan).length:=h;have h:¬ i<l.length:=by simpa using h
   rw [idx_none fun j hj=>h2 j hj (by omega)];exact .refl _
end Go.Eng

namespace Go.Eng
open Go.Proofs
abbrev Few {α:Type} (l:List α):Prop:=l.length≤1073741824
theorem allLen_map {α:Type} {enc:α→List AV} {n:Nat} (h:∀ x,(enc x).length=n):∀ l:List α,AllLen n (l.map enc)
 | []=>trivial
 | x :: l=>⟨h x,allLen_map h l⟩
theorem eq_span {x y:Int × Int} : eqL (encSpan x) (encSpan y)↔x=y:=by
 constructor
 ·intro h;have h:x.1=y.1∧x.2=y.2∧True:=h;exact Prod.ext h.1 h.2.1
 ·rintro rfl; exact ⟨rfl,rfl,trivial⟩
theorem eq_sl {x y:Sl} : eqL (encSl x) (encSl y)↔x=y:=by
 obtain ⟨p,a,b,c⟩:=x;obtain ⟨q,d,e,f⟩:=y;constructor
 ·intro h;have h:p=q∧a=d∧b=e∧c=f∧True:=h;obtain ⟨rfl,rfl,rfl,rfl,_⟩:=h
  rfl
 ·intro h; cases h; exact ⟨rfl,rfl,rfl,rfl,trivial⟩
abbrev encInc (l:List Tm):List AV:=[sl encTm l]
theorem c78 {fF:Nat} {caps:List AV} (hs:Stable caps) (l:List (Sl)) (p:Sl→Bool) (hF:∀ x ∈ l,PC fF ([.agg (encSl x)]++caps) (vb (p x))) (hl:l.length<9223372036854775807) :
  PC 82 [sl encSl l,.clo fF caps] (vi (idx p l 0)):=by
 refine pcall_sub (cxp pl0) rfl tab_ok hm rfl Tryz.func82 (by kernel_rfl) rfl (Nz rfl) (by kernel_rfl) ?_;refine Xi {i:Nat // i≤l.length∧∀ j (hj:j<l.length),j<i→p l[j]=false} (Xi (fun i=>⟨[(0,sl encSl l),(1,.clo fF caps),(7,vi (l.map encSl).length),(8,vi i.1)],[],hfree⟩) (Xi (fun i=>l.length - i.1) (Yi (Xi ⟨0,by simp⟩ ?_) ?_)))
 ·exact ⟨⟨Zr,⟨rfl,hs.ids _⟩,Zr,Zr,Tv⟩,Tv,Fh,Tv⟩
 ·intro ⟨i,h1,h2⟩;refine Yi ?_ ?_
  ·intro h;have h:(i:Int)<(l.map encSl).length:=h;have h:i<l.length:=by simpa using h
   have hg:l[i]?=some l[i]:=Ge h;refine Xi (encSl l[i]) (Yi (Yi (by show (0:Int)≤i; omega) (by simp [hg])) (Yi rfl (Yi (Nz rfl) ?_)));have hcall:∀ h,PC fF ([.agg (encSl l[i])]++caps.map (str0 h)) (vb (p l[i])):=fun h=>by rw [hs.map]; exact hF l[i] (List.getElem_mem _)
   cases hp:p l[i] with
   | true =>
    rw [hp] at hcall;refine Xi .pure (Xi (vb true) (Yi (hcall _) ?_));rw [idx_at h (fun j hj hji=>h2 j hj hji) hp,Int.zero_add];exact .refl _
   | false =>
    rw [hp] at hcall;refine Xi .pure (Xi (vb false) (Yi (hcall _) ?_));refine Yi (Ii i (by omega)) ?_;refine Xi ⟨i+1,by omega,fun j hj hji=>?_⟩ ?_
    ·by_cases e:j=i
     ·subst e; exact hp
     ·exact h2 j hj (by omega)
    ·exact ⟨Dl l.length i (by omega),⟨Zr,⟨rfl,hs.ids _⟩,Zr,Zr,Tv⟩,Tv,Fh,Tv⟩
  ·intro h;have h:¬ (i:Int)<(l.map encSl).length:=h;have h:¬ i<l.length:=by simpa using h
   rw [idx_none fun j hj=>h2 j hj (by omega)];exact .refl _
theorem c176 {fF:Nat} {caps:List AV} (hs:Stable caps) (l:List (Tm)) (p:Tm→Bool) (hF:∀ x ∈ l,PC fF ([.agg (encTm x)]++caps) (vb (p x))) (hl:l.length<9223372036854775807) :
  PC 189 [sl encTm l,.clo fF caps] (vi (idx p l 0)):=by
 refine pcall_sub (cxp pl0) rfl tab_ok hm rfl Tryz.func189 (by kernel_rfl) rfl (Nz rfl) (by kernel_rfl) ?_;refine Xi {i:Nat // i≤l.length∧∀ j (hj:j<l.length),j<i→p l[j]=false} (Xi (fun i=>⟨[(0,sl encTm l),(1,.clo fF caps),(7,vi (l.map encTm).length),(8,vi i.1)],[],hfree⟩) (Xi (fun i=>l.length - i.1) (Yi (Xi ⟨0,by simp⟩ ?_) ?_)))
 ·exact ⟨⟨Zr,⟨rfl,hs.ids _⟩,Zr,Zr,Tv⟩,Tv,Fh,Tv⟩
 ·intro ⟨i,h1,h2⟩;refine Yi ?_ ?_
  ·intro h;have h:(i:Int)<(l.map encTm).length:=h;have h:i<l.length:=by simpa using h
   have hg:l[i]?=some l[i]:=Ge h;refine Xi (encTm l[i]) (Yi (Yi (by show (0:Int)≤i; omega) (by simp [hg])) (Yi rfl (Yi (Nz rfl) ?_)));have hcall:∀ h,PC fF ([.agg (encTm l[i])]++caps.map (str0 h)) (vb (p l[i])):=fun h=>by rw [hs.map]; exact hF l[i] (List.getElem_mem _)
   cases hp:p l[i] with
   | true =>
    rw [hp] at hcall;refine Xi .pure (Xi (vb true) (Yi (hcall _) ?_));rw [idx_at h (fun j hj hji=>h2 j hj hji) hp,Int.zero_add];exact .refl _
   | false =>
    rw [hp] at hcall;refine Xi .pure (Xi (vb false) (Yi (hcall _) ?_));refine Yi (Ii i (by omega)) ?_;refine Xi ⟨i+1,by omega,fun j hj hji=>?_⟩ ?_
    ·by_cases e:j=i
     ·subst e; exact hp
     ·exact h2 j hj (by omega)
    ·exact ⟨Dl l.length i (by omega),⟨Zr,⟨rfl,hs.ids _⟩,Zr,Zr,Tv⟩,Tv,Fh,Tv⟩
  ·intro h;have h:¬ (i:Int)<(l.map encTm).length:=h;have h:¬ i<l.length:=by simpa using h
   rw [idx_none fun j hj=>h2 j hj (by omega)];exact .refl _
theorem c126 {fF:Nat} {caps:List AV} (hs:Stable caps) (l:List (Int × Int)) (p:Int × Int→Bool) (hF:∀ x ∈ l,PC fF ([.agg (encSpan x)]++caps) (vb (p x))) (hl:Few l) :
  PC 119 [sl encSpan l,.clo fF caps] (vb (l.any p)):=by
 refine pcall_sub (cxp pl0) rfl tab_ok hm rfl Tryz.func119 (by kernel_rfl) rfl (Nz rfl) (by kernel_rfl) ?_;have hi:=c175 hs l p hF (by unfold Few at hl; omega);have hcall:∀ h,PC 173 [sl encSpan l,.clo fF (caps.map (str0 h))] (vi (idx p l 0)):=fun h=>by rw [hs.map]; exact hi
 refine Xi .pure (Xi _ (Yi (hcall _) ?_));have ha:=idx_any (p:=p) l 0 (Int.le_refl 0);refine Yi ?_ ?_
 ·intro h;have h:(0:Int)≤idx p l 0:=h;rw [← ha,decide_eq_true h];exact .refl _
 ·intro h;have h:¬ (0:Int)≤idx p l 0:=h;rw [← ha,decide_eq_false h];exact .refl _
theorem c51 {fF:Nat} {caps:List AV} (hs:Stable caps) (l:List (Sl)) (p:Sl→Bool) (hF:∀ x ∈ l,PC fF ([.agg (encSl x)]++caps) (vb (p x))) (hl:Few l) :
  PC 80 [sl encSl l,.clo fF caps] (vb (l.any p)):=by
 refine pcall_sub (cxp pl0) rfl tab_ok hm rfl Tryz.func80 (by kernel_rfl) rfl (Nz rfl) (by kernel_rfl) ?_;have hi:=c78 hs l p hF (by unfold Few at hl; omega);have hcall:∀ h,PC 82 [sl encSl l,.clo fF (caps.map (str0 h))] (vi (idx p l 0)):=fun h=>by rw [hs.map]; exact hi
 refine Xi .pure (Xi _ (Yi (hcall _) ?_));have ha:=idx_any (p:=p) l 0 (Int.le_refl 0);refine Yi ?_ ?_
 ·intro h;have h:(0:Int)≤idx p l 0:=h;rw [← ha,decide_eq_true h];exact .refl _
 ·intro h;have h:¬ (0:Int)≤idx p l 0:=h;rw [← ha,decide_eq_false h];exact .refl _
theorem c129 {fF:Nat} {caps:List AV} (hs:Stable caps) (l:List (Tm)) (p:Tm→Bool) (hF:∀ x ∈ l,PC fF ([.agg (encTm x)]++caps) (vb (p x))) (hl:Few l) :
  PC 135 [sl encTm l,.clo fF caps] (vb (l.any p)):=by
 refine pcall_sub (cxp pl0) rfl tab_ok hm rfl Tryz.func135 (by kernel_rfl) rfl (Nz rfl) (by kernel_rfl) ?_;have hi:=c176 hs l p hF (by unfold Few at hl; omega);have hcall:∀ h,PC 189 [sl encTm l,.clo fF (caps.map (str0 h))] (vi (idx p l 0)):=fun h=>by rw [hs.map]; exact hi
 refine Xi .pure (Xi _ (Yi (hcall _) ?_));have ha:=idx_any (p:=p) l 0 (Int.le_refl 0);refine Yi ?_ ?_
 ·intro h;have h:(0:Int)≤idx p l 0:=h;rw [← ha,decide_eq_true h];exact .refl _
 ·intro h;have h:¬ (0:Int)≤idx p l 0:=h;rw [← ha,decide_eq_false h];exact .refl _
theorem c159 (l m:List (Int × Int)) (hl:Few l):PC 167 [sl encSpan l,sl encSpan m] (vb (decide (l=m))):=by
 refine pcall_sub (cxp pl0) rfl tab_ok hm rfl Tryz.func167 (by kernel_rfl) rfl (Nz rfl) (by kernel_rfl) ?_;refine Yi ?_ ?_
 ·intro h;have h:¬ ((l.map encSpan).length:Int)=(m.map encSpan).length:=h
  have:l≠m:=fun e=>h (by rw [e])
  rw [decide_eq_false this];exact .refl _
 ·intro h;have h:¬ ((l.map encSpan).length:Int)≠(m.map encSpan).length:=h;have hlen:l.length=m.length:=by simp at h; omega
  refine Xi {i:Nat // i≤l.length∧l.take i=m.take i} (Xi (fun i=>⟨[(0,sl encSpan l),(1,sl encSpan m),(12,vi (l.map encSpan).length),(13,vi i.1)],[],hfree⟩) (Xi (fun i=>l.length - i.1) (Yi (Xi ⟨0,by simp⟩ ?_) ?_)))
  ·exact ⟨⟨Zr,Zr,Zr,Zr,Tv⟩,Tv,Fh,Tv⟩
  ·intro ⟨i,h1,h2⟩;refine Yi ?_ ?_
   ·intro h;have h:(i:Int)<(l.map encSpan).length:=h;have h:i<l.length:=by simpa using h
    have h' : i<m.length:=by omega
    have hg:l[i]?=some l[i]:=Ge h;have hg' : m[i]?=some m[i]:=Ge h';refine Xi (encSpan l[i]) (Yi (Yi (by show (0:Int)≤i; omega) (by simp [hg])) (Yi rfl (Yi (Nz rfl) ?_)));refine Xi (encSpan m[i]) (Yi (Yi (by show (0:Int)≤i; omega) (by simp [hg'])) (Yi rfl (Yi (Nz rfl) ?_)));refine Yi ?_ ?_
    ·intro h5;have e:l[i]=m[i]:=eq_span.1 h5;refine Yi (by kernel_rfl) ?_;refine Yi (by show InI64 ((i:Int)+1); unfold Few at hl; unfold InI64; omega) ?_;refine Xi ⟨i+1,by omega,?_⟩ ?_
     ·rw [List.take_add_one,List.take_add_one,h2,hg,hg',e]
     ·exact ⟨Dl l.length i (by omega),⟨Zr,Zr,Zr,Zr,Tv⟩,Tv,Fh,Tv⟩
    ·intro h5;refine Yi (by kernel_rfl) ?_
     have:l≠m:=fun e=>h5 (eq_span.2 (by subst e; rfl))
     rw [decide_eq_false this];exact .refl _
   ·intro h;have h:¬ (i:Int)<(l.map encSpan).length:=h;have h:¬ i<l.length:=by simpa using h
    have e:l=m:=by
     rw [← List.take_of_length_le (l:=l) (i:=i) (by omega),h2,List.take_of_length_le (by omega)]
    rw [decide_eq_true e];exact .refl _
theorem c27 (l m:List (Sl)) (hl:Few l):PC 18 [sl encSl l,sl encSl m] (vb (decide (l=m))):=by
 refine pcall_sub (cxp pl0) rfl tab_ok hm rfl Tryz.func18 (by kernel_rfl) rfl (Nz rfl) (by kernel_rfl) ?_;refine Yi ?_ ?_
 ·intro h;have h:¬ ((l.map encSl).length:Int)=(m.map encSl).length:=h
  have:l≠m:=fun e=>h (by rw [e])
  rw [decide_eq_false this];exact .refl _
 ·intro h;have h:¬ ((l.map encSl).length:Int)≠(m.map encSl).length:=h;have hlen:l.length=m.length:=by simp at h; omega
  refine Xi {i:Nat // i≤l.length∧l.take i=m.take i} (Xi (fun i=>⟨[(0,sl encSl l),(1,sl encSl m),(12,vi (l.map encSl).length),(13,vi i.1)],[],hfree⟩) (Xi (fun i=>l.length - i.1) (Yi (Xi ⟨0,by simp⟩ ?_) ?_)))
  ·exact ⟨⟨Zr,Zr,Zr,Zr,Tv⟩,Tv,Fh,Tv⟩
  ·intro ⟨i,h1,h2⟩;refine Yi ?_ ?_
   ·intro h;have h:(i:Int)<(l.map encSl).length:=h;have h:i<l.length:=by simpa using h
    have h' : i<m.length:=by omega
    have hg:l[i]?=some l[i]:=Ge h;have hg' : m[i]?=some m[i]:=Ge h';refine Xi (encSl l[i]) (Yi (Yi (by show (0:Int)≤i; omega) (by simp [hg])) (Yi rfl (Yi (Nz rfl) ?_)));refine Xi (encSl m[i]) (Yi (Yi (by show (0:Int)≤i; omega) (by simp [hg'])) (Yi rfl (Yi (Nz rfl) ?_)));refine Yi ?_ ?_
    ·intro h5;have e:l[i]=m[i]:=eq_sl.1 h5;refine Yi (by kernel_rfl) ?_;refine Yi (by show InI64 ((i:Int)+1); unfold Few at hl; unfold InI64; omega) ?_;refine Xi ⟨i+1,by omega,?_⟩ ?_
     ·rw [List.take_add_one,List.take_add_one,h2,hg,hg',e]
     ·exact ⟨Dl l.length i (by omega),⟨Zr,Zr,Zr,Zr,Tv⟩,Tv,Fh,Tv⟩
    ·intro h5;refine Yi (by kernel_rfl) ?_
     have:l≠m:=fun e=>h5 (eq_sl.2 (by subst e; rfl))
     rw [decide_eq_false this];exact .refl _
   ·intro h;have h:¬ (i:Int)<(l.map encSl).length:=h;have h:¬ i<l.length:=by simpa using h
    have e:l=m:=by
     rw [← List.take_of_length_le (l:=l) (i:=i) (by omega),h2,List.take_of_length_le (by omega)]
    rw [decide_eq_true e];exact .refl _
end Go.Eng

namespace Go.Eng
open Go.Proofs
abbrev plz (l:List Nat):Pol:=⟨l,[],[],[],[],[],[],[],[],[],[]⟩
theorem Stable.ptr (cs:List AV):Stable [.cptr cs]:=fun c hc h=>by
 rw [List.mem_singleton.1 hc]; rfl
theorem c127 (s:Int × Int) (p:Int):PC 120 [.agg (encSpan s),.cptr [vi p]] (vb (inSpan p s)):=by
 refine Ps pl0 Tryz.func120 rfl (Nz rfl) ?_;refine Yi ?_ ?_
 ·intro h;have h:s.1≤p:=h;refine Yi ?_ ?_
  ·intro h2;have h2:p<s.2:=h2;rw [show inSpan p s=true by simp [inSpan,h,h2]];exact .refl _
  ·intro h2;have h2:¬ p<s.2:=h2;rw [show inSpan p s=false by simp [inSpan,h2]];exact .refl _
 ·intro h;have h:¬ s.1≤p:=h;rw [show inSpan p s=false by simp [inSpan,h]];exact .refl _
theorem c87 (s:List (Int × Int)) (p:Int) (hl:Few s):PC 68 [sl encSpan s,vi p] (vb (has s p)):=by
 refine Ps (plz [3]) Tryz.func68 rfl (Nz rfl) ?_;refine Yi ?_ ?_
 ·intro h;have h:0≤p:=h;refine Yi ?_ ?_
  ·intro h2;have h2:p<1000000:=h2;refine Xi .pure (Xi _ (Yi (c126 (Stable.ptr [vi p]) s (inSpan p) (fun x _=>c127 x p) hl) ?_));rw [show has s p=s.any (inSpan p) by simp [has,h,h2]];cases s.any (inSpan p) <;> exact .refl _
  ·intro h2;have h2:¬ p<1000000:=h2;rw [show has s p=false by simp [has,h2]];exact .refl _
 ·intro h;have h:¬ 0≤p:=h;rw [show has s p=false by simp [has,h]];exact .refl _

theorem c88 (r:Rl):PC 98 [.agg (encRl r)] (vi (plc r.ver)):=by
 refine Ps pl0 Tryz.func98 rfl (Nz rfl) ?_;exact Yi (Nz rfl) (Xi .pure (Xi _ (Yi (c56 r.ver) (.refl _))))
theorem c99 (x:Sl) (t:Tm):PC 235 [.agg (encSl x),.cptr (encTm t)] (vb (decide (x.path=t.path))):=by
 refine Ps pl0 Tryz.func235 rfl (Nz rfl) ?_;refine Yi ?_ ?_
 ·intro h;have h:x.path=t.path:=h;rw [decide_eq_true h];exact .refl _
 ·intro h;have h:¬ x.path=t.path:=h;rw [decide_eq_false h];exact .refl _
theorem idx_find {α:Type} {p:α→Bool} : ∀ (l:List α) (k:Int),(idx p l k=-1∧l.find? p=none)∨∃ i x,idx p l k=k+(i:Nat)∧l[i]?=some x∧l.find? p=some x
 | [],k=>.inl Zr
 | x :: r,k=>by
  cases h:p x with
  | true=>exact .inr ⟨0,x,by simp [idx,h],rfl,by simp [h]⟩
  | false =>
   rcases idx_find (p:=p) r (k+1) with ⟨h1,h2⟩ | ⟨i,y,h1,h2,h3⟩
   ·exact .inl ⟨by simp [idx,h,h1],by simp [h,h2]⟩
   ·exact .inr ⟨i+1,y,by simp only [idx,h,Bool.false_eq_true,if_false,h1]; omega,by simpa using h2,by simp [h,h3]⟩
theorem c55 (t:Tm) (s:List Sl) (hl:Few s) (ht:Few t.set):PC 199 [.agg (encTm t),sl encSl s] (vb (holds t s)):=by
 have hc:=c78 (Stable.ptr (encTm t)) s (fun x=>decide (x.path=t.path)) (fun x _=>c99 x t) (by unfold Few at hl; omega);unfold holds;rcases idx_find (p:=fun x:Sl=>decide (x.path=t.path)) s 0 with ⟨h1,h2⟩ | ⟨i,x,h1,h2,h3⟩
 ·rw [h1] at hc;rw [h2];refine Ps (plz [2]) Tryz.func199 rfl (Nz rfl) ?_;refine Xi .pure (Xi _ (Yi hc ?_));refine Yi ?_ ?_
  ·intro _;refine Yi ?_ ?_
   ·intro h;have h:t.absent=true:=h;rw [h]; exact .refl _
   ·intro h;have h:t.absent=false:=h;rw [h]; exact .refl _
  ·intro h; exact absurd (show (-1:Int)<0 by decide) h
 ·rw [h1,Int.zero_add] at hc;rw [h3];have hg:(s.map encSl)[((i:Nat):Int).toNat]?=some (encSl x):=by rw [Int.toNat_natCast,List.getElem?_map,h2]; rfl
  have hp:=c56 x.ver;dsimp only;rcases Bt (validB x.ver) with hv | hv
  ·rw [hv,if_pos rfl,if_pos rfl] at hp;rw [hv];refine Ps (plz [2]) Tryz.func199 rfl (Nz rfl) ?_;refine Xi .pure (Xi _ (Yi hc ?_));refine Yi ?_ ?_
   ·intro h;have h:(i:Int)<0:=h;omega
   ·intro _;refine Xi (encSl x) (Yi (Yi (Nn i) hg) (Yi rfl (Yi (Nz rfl) ?_)));refine Xi .pure (Xi _ (Yi hp ?_));refine Yi ?_ ?_
    ·intro _;refine Xi .pure (Xi _ (Yi (c87 t.set (place x.ver) ht) ?_));exact .refl _
    ·intro h;exact absurd rfl h
  ·rw [hv,if_neg (by decide),if_neg (by decide)] at hp;rw [hv];refine Ps (plz [2]) Tryz.func199 rfl (Nz rfl) ?_;refine Xi .pure (Xi _ (Yi hc ?_));refine Yi ?_ ?_
   ·intro h;have h:(i:Int)<0:=h;omega
   ·intro _;refine Xi (encSl x) (Yi (Yi (Nn i) hg) (Yi rfl (Yi (Nz rfl) ?_)));refine Xi .pure (Xi _ (Yi hp ?_));refine Yi ?_ ?_
    ·intro h;have h:(2:Int)=0:=h;omega
    ·intro _;exact .refl _
end Go.Eng

namespace Go.Eng
open Go.Proofs
theorem all_yes {α:Type} {p:α→Bool} {l:List α} {i:Nat} (h:∀ j (hj:j<l.length),j<i→p l[j]=true) (hi:¬ i<l.length):l.all p=true:=by
 rw [List.all_eq_true];intro x hx;obtain ⟨j,hj,rfl⟩:=List.mem_iff_getElem.1 hx;exact h j hj (by omega)
theorem all_no {α:Type} {p:α→Bool} {l:List α} {i:Nat} (hi:i<l.length) (h:p l[i]=false):l.all p=false:=by
 rw [List.all_eq_false];exact ⟨l[i],List.getElem_mem hi,by simp [h]⟩
abbrev FewT (l:List Tm):Prop:=Few l∧∀ t ∈ l,Few t.set
theorem c26 (l:List Tm) (s:List Sl) (hl:FewT l) (hs:Few s):PC 151 [sl encTm l,sl encSl s] (vb (l.all fun t=>holds t s)):=by
 have hc:∀ i (h:i<l.length),PC 199 [.agg (encTm l[i]),sl encSl s] (vb (holds l[i] s)):=fun i h=>c55 l[i] s hs (hl.2 _ (List.getElem_mem h));obtain ⟨hl,_⟩:=hl;unfold Few at hl;refine Ps pl0 Tryz.func151 rfl (Nz rfl) ?_;refine Xi {i:Nat // i≤l.length∧∀ j (hj:j<l.length),j<i→holds l[j] s=true} (Xi (fun i=>⟨[(0,sl encTm l),(1,sl encSl s),(7,vi (l.map encTm).length),(8,vi i.1)],[],hfree⟩) (Xi (fun i=>l.length - i.1) (Yi (Xi ⟨0,by simp⟩ ?_) ?_)))
 ·exact ⟨Z4,Tv,Fh,Tv⟩
 ·intro ⟨i,h1,h2⟩;refine Yi ?_ ?_
  ·intro h;have h:(i:Int)<(l.map encTm).length:=h;have h:i<l.length:=by simpa using h
   have hg:l[i]?=some l[i]:=Ge h;have hci:=hc i h;refine Xi (encTm l[i]) (Yi (Yi (Nn i) (by simp [hg])) (Yi rfl (Yi (Nz rfl) ?_)));cases hp:holds l[i] s with
   | false =>
    rw [hp] at hci;refine Xi .pure (Xi _ (Yi hci ?_));rw [all_no (p:=fun t=>holds t s) h hp];exact .refl _
   | true =>
    rw [hp] at hci;refine Xi .pure (Xi _ (Yi hci ?_));refine Yi (Ii i (by omega)) ?_;refine Xi ⟨i+1,by omega,fun j hj hji=>?_⟩ ?_
    ·by_cases e:j=i
     ·subst e; exact hp
     ·exact h2 j hj (by omega)
    ·exact ⟨Dl l.length i (by omega),Z4,Tv,Fh,Tv⟩
  ·intro h;have h:¬ (i:Int)<(l.map encTm).length:=h;have h:¬ i<l.length:=by simpa using h
   rw [all_yes (p:=fun t=>holds t s) h2 h];exact .refl _
theorem c131 (x:Sl) (t:Tm):PC 153 [.agg (encSl x),.cptr (encTm t)] (vb (decide (x.path=t.path))):=by
 refine Ps pl0 Tryz.func153 rfl (Nz rfl) ?_;refine Yi ?_ ?_
 ·intro h;have h:x.path=t.path:=h;rw [decide_eq_true h];exact .refl _
 ·intro h;have h:¬ x.path=t.path:=h;rw [decide_eq_false h];exact .refl _
theorem c130 (t:Tm) (s:List Sl) (hs:Few s):PC 152 [.agg (encTm t),.cptr [sl encSl s]] (vb (!hasPath s t.path)):=by
 have hc:=c51 (Stable.ptr (encTm t)) s (fun x=>decide (x.path=t.path)) (fun x _=>c131 x t) hs;unfold hasPath;cases hp:s.any fun x=>decide (x.path=t.path) with
 | true =>
  rw [hp] at hc;refine Ps (plz [2]) Tryz.func152 rfl (Nz rfl) ?_;exact Xi .pure (Xi _ (Yi hc (.refl _)))
 | false =>
  rw [hp] at hc;refine Ps (plz [2]) Tryz.func152 rfl (Nz rfl) ?_;exact Xi .pure (Xi _ (Yi hc (.refl _)))
theorem c91 (l:List Tm) (s:List Sl) (hl:FewT l) (hs:Few s):PC 101 [sl encTm l,sl encSl s] (vb (entailed l s)):=by
 have hv:=c26 l s hl hs;have hc:=c129 (Stable.ptr [sl encSl s]) l (fun t=>!hasPath s t.path) (fun t _=>c130 t s hs) hl.1;unfold entailed violated;cases h1:l.all fun t=>holds t s with
 | false =>
  rw [h1] at hv;refine Ps (plz [3]) Tryz.func101 rfl (Nz rfl) ?_;exact Xi .pure (Xi _ (Yi hv (.refl _)))
 | true =>
  rw [h1] at hv;cases h2:l.any fun t=>!hasPath s t.path with
  | true =>
   rw [h2] at hc;refine Ps (plz [3]) Tryz.func101 rfl (Nz rfl) ?_;exact Xi .pure (Xi _ (Yi hv (Xi .pure (Xi _ (Yi hc (.refl _))))))
  | false =>
   rw [h2] at hc;refine Ps (plz [3]) Tryz.func101 rfl (Nz rfl) ?_;exact Xi .pure (Xi _ (Yi hv (Xi .pure (Xi _ (Yi hc (.refl _))))))
end Go.Eng

namespace Go.Eng
open Go.Proofs
end Go.Eng

namespace Go.Eng
open Go.Proofs
end Go.Eng

namespace Go.Eng
open Go.Proofs
end Go.Eng

namespace Go.Eng
open Go.Proofs
end Go.Eng

namespace Go.Eng
open Go.Proofs
abbrev encAn (a:An):List AV:=[vb a.found,sl encSl a.sel,sl encNf a.infs,sl encSk a.skips]
theorem c108 (r:Rl):PC 113 [.agg (encRl r)] (.agg (encSl ⟨r.path,r.ver⟩)):=by
 refine Ps pl0 Tryz.func113 rfl (Nz rfl) ?_;exact Yi (Nz rfl) (Yi (Nz rfl) (Yi (Nz rfl) (.refl _)))
end Go.Eng

namespace Go.Eng
open Go.Proofs
end Go.Eng

namespace Go.Eng
open Go.Proofs
end Go.Eng

namespace Go.Eng
open Go.Proofs
end Go.Eng

namespace Go.Eng
open Go.Proofs
end Go.Eng

namespace Go.Eng
open Go.Proofs Go.Shelf Go.RowKit Go.Lib Go.Sort
theorem ltSpA (x y:SpA):ltOf cfSpA x y=decide (x.1.1<y.1.1):=by
 unfold ltOf cfSpA;rw [Bool.eq_iff_iff]; simp only [decide_eq_true_eq]; omega
theorem swoSpA:SWO (ltOf cfSpA) where
 irrefl x:=by rw [ltSpA]; simp
 trans x y z h1 h2:=by rw [ltSpA] at *; simp at *; omega
 ntrans x y z h1 h2:=by rw [ltSpA] at *; simp at *; omega
theorem lexB_cmp:∀ x y:List UInt8,decide (Lib.compareBytes x y<0)=lexB x y
 | [],[]=>rfl
 | [],_ :: _=>rfl
 | _ :: _,[]=>rfl
 | a :: x,b :: y=>by
  unfold Lib.compareBytes lexB
  by_cases h:a<b
  ·simp [h]
  ·by_cases h2:b<a
   ·have:¬ a=b:=fun e=>by subst e; exact absurd h2 (UInt8.lt_irrefl a)
    simp [h,h2,this]
   ·have e:a=b:=UInt8.le_antisymm (UInt8.not_lt.1 h2) (UInt8.not_lt.1 h);subst e;simp [UInt8.lt_irrefl,lexB_cmp x y]
theorem ltTmA (x y:TmA):ltOf cfTmA x y=blt x.1 y.1:=lexB_cmp _ _
theorem swoTmA:SWO (ltOf cfTmA) where
 irrefl x:=by rw [ltTmA]; exact blt_irrefl _
 trans x y z h1 h2:=by rw [ltTmA] at *; exact blt_trans h1 h2
 ntrans x y z h1 h2:=by
  rw [ltTmA] at *
  rw [Bool.eq_false_iff];intro h;cases hyx:blt y.1 x.1 with
  | true=>have:=blt_trans hyx h; rw [h2] at this; cases this
  | false =>
   have e:=blt_tri h1 hyx;rw [e] at h;rw [h2] at h; cases h
abbrev fnV (k:Nat):Value:=.func (.func k) #[] #[]
theorem ent (k : Nat) {fn : Func} {c : Code} (hf : Tryz.prog.funcs[k]? = some fn) (hn : (fn.name == "runtime.NumGoroutine") = false) (hb : fn.body = some c) : Enters Tryz.prog k := enters_fn hf hn hb
theorem c180 (l:List (Int × Int)) (hl:Few l) (h:∀ x ∈ l,0≤x.1∧x.1≤1000000) (lim:Nat) (hlim:lim<100) :
  ACall Tryz.prog 216 [.msl 1000 l.length,vi 0,vi l.length,vi lim,.v (fnV 169)] (heapOf [(1000,.arr 2 (l.map encSpan))] hfree) fun r h' =>
   r=.tup []∧∃ l' : List (Int × Int),l'.Perm l∧l'.Pairwise (fun x y=>x.1≤y.1)∧h'=heapOf [(1000,.arr 2 (l'.map encSpan))] hfree:=by
 have hl:l.length≤1073741824:=hl;have hE:Enters Tryz.prog 216:=ent 216 Tryz.func216 (by kernel_rfl) rfl;have eg:∀ args w,(callFunc 169 args).run Tryz.prog w=.ok (.enter 169 args) w:=enters_of Tryz.func169 (by kernel_rfl) rfl;have hmain:=acall_sortfunc (P:=Tryz.prog) (f:=216) (α:=SpA) (rest:=[.int .i64 0,.int .i64 l.length,.int .i64 lim,fnV 169]) hE encSpan encSpA (k:=2) (fun _=>rfl) (fun _=>rfl) (ltOf cfSpA) (fun x a=>a.1=x) l (by omega) ?_ ?_ ?_
 ·refine ⟨hE,fun g w vals q1 q2 q3=>(hmain.2 g w vals q1 q2 q3).mono fun _ _ ⟨v,r,h',g',e1,⟨e2,l',p1,⟨al,a1,a2,a3⟩,p2⟩,rest⟩=>⟨v,r,h',g',e1,⟨e2,l',p1,?_,p2⟩,rest⟩⟩;rw [List.pairwise_iff_getElem] at a3 ⊢;intro i j hi hj hij
  have:=a3 i j (by omega) (by omega) hij
  rw [ltSpA] at this;have e1:=a2 i _ _ (List.getElem?_eq_getElem hi) (List.getElem?_eq_getElem (by omega));have e2:=a2 j _ _ (List.getElem?_eq_getElem hj) (List.getElem?_eq_getElem (by omega));rw [← e1,← e2]
  have:=of_decide_eq_false this
  omega
 ·intro x hx g w vs hr
  match vs,hr with
  | [a,b],hr =>
   have h1:=(hr.2.2 0 (vi x.1) a rfl rfl).v_eq;have h2:=(hr.2.2 1 (vi x.2) b rfl rfl).v_eq;subst h1; subst h2;exact ⟨⟨x,h x hx⟩,rfl,rfl⟩
  | [],hr=>have:=hr.1; simp at this
  | [_],hr=>have:=hr.1; simp at this
  | _ :: _ :: _ :: _,hr=>have:=hr.1; simp at this
 ·intro w b cap d hH hb hsz hdl;have hcmp:CmpLays Tryz.prog 169 #[] encSpA 2 cfSpA b 0 d.size w:=fun _ _ _ _ x y=>Tryz.closure169 x y _;have hp:=AnyQ.pdqsortCmpFunc_all Tryz.layPdqSpan 2 Tryz.isAgg65 Tryz.sizeOf65 encSpA cfSpA 169 #[] swoSpA b 0 cap d w eg hcmp ⟨fun _=>rfl,fun x v hv=>by simp [encSpA] at hv; rcases hv with rfl | rfl <;> rfl,hH,hb⟩ (d.size+1) 0 d.size lim d w (by omega) rfl (SWK.start hH) (Nat.zero_le _) (Nat.le_refl _) hsz (by omega) (Or.inl rfl)
  rw [hdl] at hp ⊢;refine hp.mono ?_
  rintro e w' ⟨rfl,n,os,rfl⟩
  have h:=pdq_sorts (ltOf cfSpA) swoSpA d 0 d.size lim true true (Nat.zero_le _) (Nat.le_refl _) (Or.inl rfl);rw [hdl] at h;exact ⟨rfl,_,n,os,h.1,h.2,rfl⟩
 ·intro e w;subst e;exact AnyF.pdqsortCmpFunc_none Tryz.layPdqSpan none 0 lim (fnV 169) w
theorem c104 (l:List Tm) (hl:Few l) (lim:Nat) (hlim:lim<100) :
  ACall Tryz.prog 263 [.msl 1000 l.length,vi 0,vi l.length,vi lim,.v (fnV 232)] (heapOf [(1000,.arr 3 (l.map encTm))] hfree) fun r h' =>
   r=.tup []∧∃ l' : List Tm,l'.Perm l∧l'.Pairwise (fun x y=>blt y.path x.path=false)∧h'=heapOf [(1000,.arr 3 (l'.map encTm))] hfree:=by
 have hl:l.length≤1073741824:=hl;have hE:Enters Tryz.prog 263:=ent 263 Tryz.func263 (by kernel_rfl) rfl;have eg:∀ args w,(callFunc 232 args).run Tryz.prog w=.ok (.enter 232 args) w:=enters_of Tryz.func232 (by kernel_rfl) rfl;have hmain:=acall_sortfunc (P:=Tryz.prog) (f:=263) (α:=TmA) (rest:=[.int .i64 0,.int .i64 l.length,.int .i64 lim,fnV 232]) hE encTm encTmA (k:=3) (fun _=>rfl) (fun _=>rfl) (ltOf cfTmA) (fun x a=>a.1=x.path) l (by omega) ?_ ?_ ?_
 ·refine ⟨hE,fun g w vals q1 q2 q3=>(hmain.2 g w vals q1 q2 q3).mono fun _ _ ⟨v,r,h',g',e1,⟨e2,l',p1,⟨al,a1,a2,a3⟩,p2⟩,rest⟩=>⟨v,r,h',g',e1,⟨e2,l',p1,?_,p2⟩,rest⟩⟩;rw [List.pairwise_iff_getElem] at a3 ⊢;intro i j hi hj hij
  have:=a3 i j (by omega) (by omega) hij
  rw [ltTmA] at this;have e1:=a2 i _ _ (List.getElem?_eq_getElem hi) (List.getElem?_eq_getElem (by omega));have e2:=a2 j _ _ (List.getElem?_eq_getElem hj) (List.getElem?_eq_getElem (by omega));rw [← e1,← e2];exact this
 ·intro x hx g w vs hr
  match vs,hr with
  | [a,b,c],hr =>
   have h1:=(hr.2.2 0 (Go.Eng.vs x.path) a rfl rfl).v_eq;subst h1;exact ⟨⟨x.path,⟨b,hr.2.1 b (by simp)⟩,⟨c,hr.2.1 c (by simp)⟩⟩,rfl,rfl⟩
  | [],hr=>have:=hr.1; simp at this
  | [_],hr=>have:=hr.1; simp at this
  | [_,_],hr=>have:=hr.1; simp at this
  | _ :: _ :: _ :: _ :: _,hr=>have:=hr.1; simp at this
 ·intro w b cap d hH hb hsz hdl;have hcmp:CmpLays Tryz.prog 232 #[] encTmA 3 cfTmA b 0 d.size w:=fun _ _ _ _ x y=>Tryz.closure232 x y _;have hp:=AnyQ.pdqsortCmpFunc_all Tryz.layPdqTerm 3 Tryz.isAgg208 Tryz.sizeOf208 encTmA cfTmA 232 #[] swoTmA b 0 cap d w eg hcmp ⟨fun _=>rfl,fun x v hv=>by
    simp only [encTmA,List.mem_cons,List.mem_nil_iff,or_false] at hv;rcases hv with rfl | rfl | rfl
    ·rfl
    ·exact x.2.1.2
    ·exact x.2.2.2,hH,hb⟩ (d.size+1) 0 d.size lim d w (by omega) rfl (SWK.start hH) (Nat.zero_le _) (Nat.le_refl _) hsz (by omega) (Or.inl rfl)
  rw [hdl] at hp ⊢;refine hp.mono ?_
  rintro e w' ⟨rfl,n,os,rfl⟩
  have h:=pdq_sorts (ltOf cfTmA) swoTmA d 0 d.size lim true true (Nat.zero_le _) (Nat.le_refl _) (Or.inl rfl);rw [hdl] at h;exact ⟨rfl,_,n,os,h.1,h.2,rfl⟩
 ·intro e w;subst e;exact AnyF.pdqsortCmpFunc_none Tryz.layPdqTerm none 0 lim (fnV 232) w
end Go.Eng

namespace Go.Eng
open Go.Proofs
-- the checker,and what reads it
theorem blt_eq (a b:ByteArray):blt a b=Op.bytesLess a.toList b.toList:=by
 have:∀ x y:List UInt8,lexB x y=Op.bytesLess x y:=by
  intro x
  induction x with
  | nil=>intro y; cases y <;> rfl
  | cons a x ih =>
   intro y;cases y with
   | nil=>rfl
   | cons b y =>
    unfold lexB Op.bytesLess;rw [ih];rw [Bool.eq_iff_iff];simp
 unfold blt;rw [this,ByteArray.toList_eq,ByteArray.toList_eq]
end Go.Eng

namespace Go.Eng
open Go.Proofs
theorem ACall.imp {P:Program} {f:Nat} {args:List AV} {h0:Nat→HO} {Q Q' : AV→(Nat→HO)→Prop} (h:ACall P f args h0 Q) (hq:∀ r h',Q r h'→Q' r h'):ACall P f args h0 Q':=h.mono fun r h' q=>⟨r,.refl _,hq r h' q⟩
theorem ACall.to {P:Program} {f:Nat} {args:List AV} {h0:Nat→HO} {α:Type} {r0:AV} {p:α→Prop} {H:α→Nat→HO} {Q' : AV→(Nat→HO)→Prop} (h:ACall P f args h0 fun r h'=>r=r0∧∃ x,p x∧h'=H x) (k:∀ x,p x→Q' r0 (H x)):ACall P f args h0 Q' :=
 h.imp fun r h' ⟨e1,x,e2,e3⟩=>by subst e1; subst e3; exact k x e2
theorem c105 (n:Nat) (h:n≤1073741824):∃ lim:Nat,lim<100∧PC 93 [.v (.int .u64 (IntKind.u64.wrap (n:Int)))] (vi lim):=by
 refine ⟨Lib.bitLen n,Nat.lt_of_le_of_lt (Lib.bitLen_le n 62 (by omega) (by omega)) (by omega),?_⟩;have wr:IntKind.u64.wrap (n:Int)=n:=by simp [IntKind.wrap,IntKind.bits,IntKind.signed]; omega
 rw [wr];refine pcall_same [.int .u64 n] (.int .i64 (Lib.bitLen n:Nat)) (ent 93 Tryz.func93 (by kernel_rfl) rfl) rfl (fun _ _=>.v _ _) fun w _=>?_
 have:=Any.bits_Len Tryz.layBits (n:Int) w (by omega) (by omega)
 rw [Int.toNat_natCast] at this;exact this
theorem c141 (l:List (Int × Int)) (hl:Few l) (h:∀ x ∈ l,0≤x.1∧x.1≤1000000) :
  ACall Tryz.prog 168 [.msl 1000 l.length,.v (fnV 169)] (heapOf [(1000,.arr 2 (l.map encSpan))] hfree) fun r h' =>
   r=.tup []∧∃ l' : List (Int × Int),(l'.Perm l∧l'.Pairwise (fun x y=>x.1≤y.1))∧h'=heapOf [(1000,.arr 2 (l'.map encSpan))] hfree:=by
 obtain ⟨lim,hlim,hb⟩:=c105 l.length hl;refine acall_sub (cxe pl0) [(1000,1000)] rfl tab_ok hm rfl Tryz.func168 (by kernel_rfl) rfl (Nz rfl) (by kernel_rfl) rfl ?_;refine Xi .pure (Xi _ (Yi (hb) ?_));refine Xi (.gen [(1000,1000)] 0) (Yi rfl ((c180 l hl h lim hlim).imp ?_));intro r h' hq;refine Exists.elim hq.2 (fun l' hl'=>?_);refine Xi (.tup []) (Yi ?_ (Yi rfl (Xi l' (Yi ⟨hl'.1,hl'.2.1⟩ ?_))))
 ·exact .refl _
 ·rw [hl'.2.2]; rfl
theorem c61 (l:List Tm) (hl:Few l) :
  ACall Tryz.prog 231 [.msl 1000 l.length,.v (fnV 232)] (heapOf [(1000,.arr 3 (l.map encTm))] hfree) fun r h' =>
   r=.tup []∧∃ l' : List Tm,(l'.Perm l∧l'.Pairwise (fun x y=>blt y.path x.path=false))∧h'=heapOf [(1000,.arr 3 (l'.map encTm))] hfree:=by
 obtain ⟨lim,hlim,hb⟩:=c105 l.length hl;refine acall_sub (cxe pl0) [(1000,1000)] rfl tab_ok hm rfl Tryz.func231 (by kernel_rfl) rfl (Nz rfl) (by kernel_rfl) rfl ?_;refine Xi .pure (Xi _ (Yi (hb) ?_));refine Xi (.gen [(1000,1000)] 0) (Yi rfl ((c104 l hl lim hlim).imp ?_));intro r h' hq;refine Exists.elim hq.2 (fun l' hl'=>?_);refine Xi (.tup []) (Yi ?_ (Yi rfl (Xi l' (Yi ⟨hl'.1,hl'.2.1⟩ ?_))))
 ·exact .refl _
 ·rw [hl'.2.2]; rfl
end Go.Eng
