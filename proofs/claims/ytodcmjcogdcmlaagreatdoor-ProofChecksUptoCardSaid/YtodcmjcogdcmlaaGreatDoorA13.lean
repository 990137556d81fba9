/- Lemmas for the claims of this seat, without a condition: part 13 (Dat, LaySort, CSort, C1, C2, CS, C4, C5, C6, C7, C8). -/
import Derived.Test.YtodcmjcogdcmlaaGreatDoorA01
import Derived.Test.YtodcmjcogdcmlaaGreatDoorA12
import Derived.Shelf.SlSortCmp.WholeK
import Derived.Shelf.Sort.Plain
import Derived.Shelf.Small.Strs
import Derived.Shelf.Small.Bits
import Derived.Ground.SlsfProg
import Derived.Ground.NamesProg
namespace Go.Eng
open Go.Proofs
abbrev vi (n : Int) : AV := .v (.int .i64 n)
abbrev vb (b : Bool) : AV := .v (.bool b)
abbrev vs (s : ByteArray) : AV := .v (.string s)
abbrev sl {α : Type} (enc : α → List AV) (l : List α) : AV := .slice .none (l.map enc)
abbrev encVer (v : Ver) : List AV := [vi v.a, vi v.b, vi v.c]
abbrev encSpan (s : Int × Int) : List AV := [vi s.1, vi s.2]
abbrev encRq (q : Rq) : List AV := [vs q.path, sl encSpan q.set]
abbrev encRl (r : Rl) : List AV := [vs r.path, vi r.ver.a, vi r.ver.b, vi r.ver.c, sl encRq r.reqs, vs r.arch, vs r.ifc, vs r.cert, vb r.yanked]
abbrev encSl (s : Sl) : List AV := [vs s.path, vi s.ver.a, vi s.ver.b, vi s.ver.c]
abbrev encTm (t : Tm) : List AV := [vs t.path, vb t.absent, sl encSpan t.set]
abbrev encNf (i : Nf) : List AV := [vi i.kind, vs i.path, vi i.place, vi i.number, vi i.left, vi i.right]
abbrev encSk (s : Sk) : List AV := [vs s.path, vi s.place, vi s.inf]
noncomputable abbrev cxp (pl : Pol) : Cx := ⟨Tryz.prog, tab, pl, false, 0⟩
noncomputable abbrev cxe (pl : Pol) : Cx := ⟨Tryz.prog, tab, pl, true, 0⟩
abbrev pl0 : Pol := ⟨[], [], [], [], [], [], [], [], [], [], []⟩
abbrev PC (f : Nat) (args : List AV) (res : AV) : Prop := PCall Tryz.prog f args res
theorem hm : Tryz.prog.follows .mixedOrders = true := by rfl
end Go.Eng
namespace Go.Eng
open Go.Proofs
theorem Zr {α : Sort _} {β : Sort _} {a : α} {b : β} : a = a ∧ b = b := ⟨rfl, rfl⟩
theorem Nz {a b : Nat} (h : Nat.ble a b = true) : a ≤ b := Nat.le_of_ble_eq_true h
theorem Xi {α : Sort _} {p : α → Prop} (w : α) (h : p w) : Exists p := Exists.intro w h
theorem Yi {a b : Prop} (h : a) (k : b) : a ∧ b := And.intro h k
theorem Fh {st : St} {h : Nat → HO} : ∀ j, hfree j = .free ∨ (st.h j = hfree j ∧ idsH h (hfree j) = true) := fun _ => .inl rfl
theorem Tv : True := trivial
theorem Ii (i : Nat) (h : i ≤ 9223372036854775806) : InI64 ((i : Int) + 1) := by unfold InI64; omega
theorem Dl (n i : Nat) (h : i < n) : n - (i + 1) < n - i := by omega
theorem Bt (b : Bool) : b = true ∨ b = false := Bool.eq_false_or_eq_true b
theorem Z1 {α : Type} {a0 : α} {b0 : Bool} : (a0 = a0 ∧ b0 = b0) ∧ True := ⟨⟨rfl, rfl⟩, trivial⟩
theorem Z2 {α : Type} {a0 a1 : α} {b0 b1 : Bool} : (a0 = a0 ∧ b0 = b0) ∧ (a1 = a1 ∧ b1 = b1) ∧ True := ⟨⟨rfl, rfl⟩, ⟨rfl, rfl⟩, trivial⟩
theorem Z3 {α : Type} {a0 a1 a2 : α} {b0 b1 b2 : Bool} : (a0 = a0 ∧ b0 = b0) ∧ (a1 = a1 ∧ b1 = b1) ∧ (a2 = a2 ∧ b2 = b2) ∧ True := ⟨⟨rfl, rfl⟩, ⟨rfl, rfl⟩, ⟨rfl, rfl⟩, trivial⟩
theorem Z4 {α : Type} {a0 a1 a2 a3 : α} {b0 b1 b2 b3 : Bool} : (a0 = a0 ∧ b0 = b0) ∧ (a1 = a1 ∧ b1 = b1) ∧ (a2 = a2 ∧ b2 = b2) ∧ (a3 = a3 ∧ b3 = b3) ∧ True := ⟨⟨rfl, rfl⟩, ⟨rfl, rfl⟩, ⟨rfl, rfl⟩, ⟨rfl, rfl⟩, trivial⟩
theorem Z5 {α : Type} {a0 a1 a2 a3 a4 : α} {b0 b1 b2 b3 b4 : Bool} : (a0 = a0 ∧ b0 = b0) ∧ (a1 = a1 ∧ b1 = b1) ∧ (a2 = a2 ∧ b2 = b2) ∧ (a3 = a3 ∧ b3 = b3) ∧ (a4 = a4 ∧ b4 = b4) ∧ True := ⟨⟨rfl, rfl⟩, ⟨rfl, rfl⟩, ⟨rfl, rfl⟩, ⟨rfl, rfl⟩, ⟨rfl, rfl⟩, trivial⟩
theorem Z6 {α : Type} {a0 a1 a2 a3 a4 a5 : α} {b0 b1 b2 b3 b4 b5 : Bool} : (a0 = a0 ∧ b0 = b0) ∧ (a1 = a1 ∧ b1 = b1) ∧ (a2 = a2 ∧ b2 = b2) ∧ (a3 = a3 ∧ b3 = b3) ∧ (a4 = a4 ∧ b4 = b4) ∧ (a5 = a5 ∧ b5 = b5) ∧ True := ⟨⟨rfl, rfl⟩, ⟨rfl, rfl⟩, ⟨rfl, rfl⟩, ⟨rfl, rfl⟩, ⟨rfl, rfl⟩, ⟨rfl, rfl⟩, trivial⟩
theorem Z7 {α : Type} {a0 a1 a2 a3 a4 a5 a6 : α} {b0 b1 b2 b3 b4 b5 b6 : Bool} : (a0 = a0 ∧ b0 = b0) ∧ (a1 = a1 ∧ b1 = b1) ∧ (a2 = a2 ∧ b2 = b2) ∧ (a3 = a3 ∧ b3 = b3) ∧ (a4 = a4 ∧ b4 = b4) ∧ (a5 = a5 ∧ b5 = b5) ∧ (a6 = a6 ∧ b6 = b6) ∧ True := ⟨⟨rfl, rfl⟩, ⟨rfl, rfl⟩, ⟨rfl, rfl⟩, ⟨rfl, rfl⟩, ⟨rfl, rfl⟩, ⟨rfl, rfl⟩, ⟨rfl, rfl⟩, trivial⟩
theorem Z8 {α : Type} {a0 a1 a2 a3 a4 a5 a6 a7 : α} {b0 b1 b2 b3 b4 b5 b6 b7 : Bool} : (a0 = a0 ∧ b0 = b0) ∧ (a1 = a1 ∧ b1 = b1) ∧ (a2 = a2 ∧ b2 = b2) ∧ (a3 = a3 ∧ b3 = b3) ∧ (a4 = a4 ∧ b4 = b4) ∧ (a5 = a5 ∧ b5 = b5) ∧ (a6 = a6 ∧ b6 = b6) ∧ (a7 = a7 ∧ b7 = b7) ∧ True := ⟨⟨rfl, rfl⟩, ⟨rfl, rfl⟩, ⟨rfl, rfl⟩, ⟨rfl, rfl⟩, ⟨rfl, rfl⟩, ⟨rfl, rfl⟩, ⟨rfl, rfl⟩, ⟨rfl, rfl⟩, trivial⟩
theorem Z9 {α : Type} {a0 a1 a2 a3 a4 a5 a6 a7 a8 : α} {b0 b1 b2 b3 b4 b5 b6 b7 b8 : Bool} : (a0 = a0 ∧ b0 = b0) ∧ (a1 = a1 ∧ b1 = b1) ∧ (a2 = a2 ∧ b2 = b2) ∧ (a3 = a3 ∧ b3 = b3) ∧ (a4 = a4 ∧ b4 = b4) ∧ (a5 = a5 ∧ b5 = b5) ∧ (a6 = a6 ∧ b6 = b6) ∧ (a7 = a7 ∧ b7 = b7) ∧ (a8 = a8 ∧ b8 = b8) ∧ True := ⟨⟨rfl, rfl⟩, ⟨rfl, rfl⟩, ⟨rfl, rfl⟩, ⟨rfl, rfl⟩, ⟨rfl, rfl⟩, ⟨rfl, rfl⟩, ⟨rfl, rfl⟩, ⟨rfl, rfl⟩, ⟨rfl, rfl⟩, trivial⟩
theorem Z10 {α : Type} {a0 a1 a2 a3 a4 a5 a6 a7 a8 a9 : α} {b0 b1 b2 b3 b4 b5 b6 b7 b8 b9 : Bool} : (a0 = a0 ∧ b0 = b0) ∧ (a1 = a1 ∧ b1 = b1) ∧ (a2 = a2 ∧ b2 = b2) ∧ (a3 = a3 ∧ b3 = b3) ∧ (a4 = a4 ∧ b4 = b4) ∧ (a5 = a5 ∧ b5 = b5) ∧ (a6 = a6 ∧ b6 = b6) ∧ (a7 = a7 ∧ b7 = b7) ∧ (a8 = a8 ∧ b8 = b8) ∧ (a9 = a9 ∧ b9 = b9) ∧ True := ⟨⟨rfl, rfl⟩, ⟨rfl, rfl⟩, ⟨rfl, rfl⟩, ⟨rfl, rfl⟩, ⟨rfl, rfl⟩, ⟨rfl, rfl⟩, ⟨rfl, rfl⟩, ⟨rfl, rfl⟩, ⟨rfl, rfl⟩, ⟨rfl, rfl⟩, trivial⟩
theorem Z11 {α : Type} {a0 a1 a2 a3 a4 a5 a6 a7 a8 a9 a10 : α} {b0 b1 b2 b3 b4 b5 b6 b7 b8 b9 b10 : Bool} : (a0 = a0 ∧ b0 = b0) ∧ (a1 = a1 ∧ b1 = b1) ∧ (a2 = a2 ∧ b2 = b2) ∧ (a3 = a3 ∧ b3 = b3) ∧ (a4 = a4 ∧ b4 = b4) ∧ (a5 = a5 ∧ b5 = b5) ∧ (a6 = a6 ∧ b6 = b6) ∧ (a7 = a7 ∧ b7 = b7) ∧ (a8 = a8 ∧ b8 = b8) ∧ (a9 = a9 ∧ b9 = b9) ∧ (a10 = a10 ∧ b10 = b10) ∧ True := ⟨⟨rfl, rfl⟩, ⟨rfl, rfl⟩, ⟨rfl, rfl⟩, ⟨rfl, rfl⟩, ⟨rfl, rfl⟩, ⟨rfl, rfl⟩, ⟨rfl, rfl⟩, ⟨rfl, rfl⟩, ⟨rfl, rfl⟩, ⟨rfl, rfl⟩, ⟨rfl, rfl⟩, trivial⟩
theorem Z12 {α : Type} {a0 a1 a2 a3 a4 a5 a6 a7 a8 a9 a10 a11 : α} {b0 b1 b2 b3 b4 b5 b6 b7 b8 b9 b10 b11 : Bool} : (a0 = a0 ∧ b0 = b0) ∧ (a1 = a1 ∧ b1 = b1) ∧ (a2 = a2 ∧ b2 = b2) ∧ (a3 = a3 ∧ b3 = b3) ∧ (a4 = a4 ∧ b4 = b4) ∧ (a5 = a5 ∧ b5 = b5) ∧ (a6 = a6 ∧ b6 = b6) ∧ (a7 = a7 ∧ b7 = b7) ∧ (a8 = a8 ∧ b8 = b8) ∧ (a9 = a9 ∧ b9 = b9) ∧ (a10 = a10 ∧ b10 = b10) ∧ (a11 = a11 ∧ b11 = b11) ∧ True := ⟨⟨rfl, rfl⟩, ⟨rfl, rfl⟩, ⟨rfl, rfl⟩, ⟨rfl, rfl⟩, ⟨rfl, rfl⟩, ⟨rfl, rfl⟩, ⟨rfl, rfl⟩, ⟨rfl, rfl⟩, ⟨rfl, rfl⟩, ⟨rfl, rfl⟩, ⟨rfl, rfl⟩, ⟨rfl, rfl⟩, trivial⟩
theorem Z13 {α : Type} {a0 a1 a2 a3 a4 a5 a6 a7 a8 a9 a10 a11 a12 : α} {b0 b1 b2 b3 b4 b5 b6 b7 b8 b9 b10 b11 b12 : Bool} : (a0 = a0 ∧ b0 = b0) ∧ (a1 = a1 ∧ b1 = b1) ∧ (a2 = a2 ∧ b2 = b2) ∧ (a3 = a3 ∧ b3 = b3) ∧ (a4 = a4 ∧ b4 = b4) ∧ (a5 = a5 ∧ b5 = b5) ∧ (a6 = a6 ∧ b6 = b6) ∧ (a7 = a7 ∧ b7 = b7) ∧ (a8 = a8 ∧ b8 = b8) ∧ (a9 = a9 ∧ b9 = b9) ∧ (a10 = a10 ∧ b10 = b10) ∧ (a11 = a11 ∧ b11 = b11) ∧ (a12 = a12 ∧ b12 = b12) ∧ True := ⟨⟨rfl, rfl⟩, ⟨rfl, rfl⟩, ⟨rfl, rfl⟩, ⟨rfl, rfl⟩, ⟨rfl, rfl⟩, ⟨rfl, rfl⟩, ⟨rfl, rfl⟩, ⟨rfl, rfl⟩, ⟨rfl, rfl⟩, ⟨rfl, rfl⟩, ⟨rfl, rfl⟩, ⟨rfl, rfl⟩, ⟨rfl, rfl⟩, trivial⟩
theorem Nn (i : Nat) : (0 : Int) ≤ (i : Int) := Int.natCast_nonneg i
abbrev Ic (x : List Rl) (ifs : List (List AV)) : List AV := [sl encRl x, .slice .none ifs]
theorem Ps {f : Nat} {fn : Func} {c : Code} {args : List AV} {res : AV} (pl : Pol) (hf : Tryz.prog.funcs[f]? = some fn) (hb : fn.body = some c) (hN : args.length ≤ fn.ntmps) (hk : awp (cxp pl) c (endK (cxp pl) fn.results.toList fun r => Sub r res) ⟨envA args, hfree⟩)
    (hn : (fn.name == "runtime.NumGoroutine") = false := by kernel_rfl) (hc : codeOk fn.ntmps c = true := by kernel_rfl) : PCall Tryz.prog f args res := pcall_sub (cxp pl) rfl tab_ok hm rfl hf hn hb hN hc hk
theorem Lm {α β : Type} (f : α → β) {l : List α} : (l.map f).length = l.length := List.length_map f
theorem Ge {α : Type} {l : List α} {i : Nat} (h : i < l.length) : l[i]? = some l[i] := List.getElem?_eq_getElem h
end Go.Eng

namespace Go.Proofs
open Go.Shelf Go.RowKit Go.Lib Go.Sort
def Tryz.layPdqSpan_ren:Go.Shelf.Ren:=⟨fun | 14=>180 | 20=>203 | 21=>204 | 22=>205 | 23=>206 | 24=>207 | 25=>208 | 26=>209 | 27=>210 | 46=>238 | 47=>182 | 48=>183 | 49=>239 | 50=>240 | 15=>105 | 57=>256 | 28=>152 | 29=>153 | n=>n,fun | 24=>118 | 22=>104 | 3=>3 | 25=>200 | 4=>4 | 0=>0 | 46=>203 | 45=>202 | 50=>207 | 66=>225 | 39=>165 | 55=>212 | 70=>229 | 76=>241 | 77=>242 | 53=>210 | 5=>5 | 9=>9 | n=>n,fun | n=>n⟩
theorem Tryz.layPdqSpan:Go.Proofs.SlLaysF0.n14 Tryz.prog Tryz.layPdqSpan_ren:={
 mixed:=by kernel_rfl
 f14:=⟨Tryz.f180.name,by decide,Tryz.func180.trans (congrArg some (by kernel_rfl))⟩
 f15:=Tryz.func105.trans (congrArg some (by kernel_rfl))
 f20:=⟨Tryz.f203.name,by decide,Tryz.func203.trans (congrArg some (by kernel_rfl))⟩
 f21:=⟨Tryz.f204.name,by decide,Tryz.func204.trans (congrArg some (by kernel_rfl))⟩
 f22:=⟨Tryz.f205.name,by decide,Tryz.func205.trans (congrArg some (by kernel_rfl))⟩
 f23:=⟨Tryz.f206.name,by decide,Tryz.func206.trans (congrArg some (by kernel_rfl))⟩
 f24:=⟨Tryz.f207.name,by decide,Tryz.func207.trans (congrArg some (by kernel_rfl))⟩
 f25:=⟨Tryz.f208.name,by decide,Tryz.func208.trans (congrArg some (by kernel_rfl))⟩
 f26:=⟨Tryz.f209.name,by decide,Tryz.func209.trans (congrArg some (by kernel_rfl))⟩
 f27:=⟨Tryz.f210.name,by decide,Tryz.func210.trans (congrArg some (by kernel_rfl))⟩
 f28:=Tryz.func152.trans (congrArg some (by kernel_rfl))
 f29:=Tryz.func153.trans (congrArg some (by kernel_rfl))
 f46:=⟨Tryz.f238.name,by decide,Tryz.func238.trans (congrArg some (by kernel_rfl))⟩
 f47:=Tryz.func182.trans (congrArg some (by kernel_rfl))
 f48:=Tryz.func183.trans (congrArg some (by kernel_rfl))
 f49:=⟨Tryz.f239.name,by decide,Tryz.func239.trans (congrArg some (by kernel_rfl))⟩
 f50:=⟨Tryz.f240.name,by decide,Tryz.func240.trans (congrArg some (by kernel_rfl))⟩
 f57:=⟨Tryz.f256.name,by decide,Tryz.func256.trans (congrArg some (by kernel_rfl))⟩
 t0:=Tryz.underlying0
 a0:=Tryz.isAgg0
 z0:=Tryz.sizeOf0
 v0:=Tryz.zeroValue0
 t3:=Tryz.underlying3
 a3:=Tryz.isAgg3
 z3:=Tryz.sizeOf3
 v3:=Tryz.zeroValue3
 t4:=Tryz.underlying4
 a4:=Tryz.isAgg4
 z4:=Tryz.sizeOf4
 v4:=Tryz.zeroValue4
 t5:=Tryz.underlying5
 a5:=Tryz.isAgg5
 z5:=Tryz.sizeOf5
 v5:=Tryz.zeroValue5
 t9:=Tryz.underlying9
 a9:=Tryz.isAgg9
 z9:=Tryz.sizeOf9
 v9:=Tryz.zeroValue9
 t22:=Tryz.underlying104
 a22:=Tryz.isAgg104
 z22:=Tryz.sizeOf104
 v22:=Tryz.zeroValue104
 t25:=Tryz.underlying200
 a25:=Tryz.isAgg200
 z25:=Tryz.sizeOf200
 v25:=Tryz.zeroValue200
 t39:=Tryz.underlying165
 a39:=Tryz.isAgg165
 z39:=Tryz.sizeOf165
 v39:=Tryz.zeroValue165
 t45:=Tryz.underlying202
 a45:=Tryz.isAgg202
 z45:=Tryz.sizeOf202
 v45:=Tryz.zeroValue202
 t46:=Tryz.underlying203
 a46:=Tryz.isAgg203
 z46:=Tryz.sizeOf203
 v46:=Tryz.zeroValue203
 t50:=Tryz.underlying207
 a50:=Tryz.isAgg207
 z50:=Tryz.sizeOf207
 v50:=Tryz.zeroValue207
 t53:=Tryz.underlying210
 a53:=Tryz.isAgg210
 z53:=Tryz.sizeOf210
 v53:=Tryz.zeroValue210
 t55:=Tryz.underlying212
 a55:=Tryz.isAgg212
 z55:=Tryz.sizeOf212
 v55:=Tryz.zeroValue212
 t66:=Tryz.underlying225
 a66:=Tryz.isAgg225
 z66:=Tryz.sizeOf225
 v66:=Tryz.zeroValue225
 t70:=Tryz.underlying229
 a70:=Tryz.isAgg229
 z70:=Tryz.sizeOf229
 v70:=Tryz.zeroValue229
 t76:=Tryz.underlying241
 a76:=Tryz.isAgg241
 z76:=Tryz.sizeOf241
 v76:=Tryz.zeroValue241
 t77:=Tryz.underlying242
 a77:=Tryz.isAgg242
 z77:=Tryz.sizeOf242
 v77:=Tryz.zeroValue242 }
def Tryz.layPdqTerm_ren:Go.Shelf.Ren:=⟨fun | 14=>104 | 20=>144 | 21=>145 | 22=>146 | 23=>147 | 24=>148 | 25=>149 | 26=>150 | 27=>151 | 46=>181 | 47=>182 | 48=>183 | 49=>184 | 50=>185 | 15=>105 | 57=>211 | 28=>152 | 29=>153 | n=>n,fun | 24=>107 | 22=>50 | 3=>3 | 25=>116 | 4=>4 | 0=>0 | 46=>203 | 45=>202 | 50=>207 | 66=>225 | 39=>165 | 55=>212 | 70=>229 | 76=>241 | 77=>242 | 53=>210 | 5=>5 | 9=>9 | n=>n,fun | n=>n⟩
theorem Tryz.layPdqTerm:Go.Proofs.SlLaysF0.n14 Tryz.prog Tryz.layPdqTerm_ren:={
 mixed:=by kernel_rfl
 f14:=⟨Tryz.f104.name,by decide,Tryz.func104.trans (congrArg some (by kernel_rfl))⟩
 f15:=Tryz.func105.trans (congrArg some (by kernel_rfl))
 f20:=⟨Tryz.f144.name,by decide,Tryz.func144.trans (congrArg some (by kernel_rfl))⟩
 f21:=⟨Tryz.f145.name,by decide,Tryz.func145.trans (congrArg some (by kernel_rfl))⟩
 f22:=⟨Tryz.f146.name,by decide,Tryz.func146.trans (congrArg some (by kernel_rfl))⟩
 f23:=⟨Tryz.f147.name,by decide,Tryz.func147.trans (congrArg some (by kernel_rfl))⟩
 f24:=⟨Tryz.f148.name,by decide,Tryz.func148.trans (congrArg some (by kernel_rfl))⟩
 f25:=⟨Tryz.f149.name,by decide,Tryz.func149.trans (congrArg some (by kernel_rfl))⟩
 f26:=⟨Tryz.f150.name,by decide,Tryz.func150.trans (congrArg some (by kernel_rfl))⟩
 f27:=⟨Tryz.f151.name,by decide,Tryz.func151.trans (congrArg some (by kernel_rfl))⟩
 f28:=Tryz.func152.trans (congrArg some (by kernel_rfl))
 f29:=Tryz.func153.trans (congrArg some (by kernel_rfl))
 f46:=⟨Tryz.f181.name,by decide,Tryz.func181.trans (congrArg some (by kernel_rfl))⟩
 f47:=Tryz.func182.trans (congrArg some (by kernel_rfl))
 f48:=Tryz.func183.trans (congrArg some (by kernel_rfl))
 f49:=⟨Tryz.f184.name,by decide,Tryz.func184.trans (congrArg some (by kernel_rfl))⟩
 f50:=⟨Tryz.f185.name,by decide,Tryz.func185.trans (congrArg some (by kernel_rfl))⟩
 f57:=⟨Tryz.f211.name,by decide,Tryz.func211.trans (congrArg some (by kernel_rfl))⟩
 t0:=Tryz.underlying0
 a0:=Tryz.isAgg0
 z0:=Tryz.sizeOf0
 v0:=Tryz.zeroValue0
 t3:=Tryz.underlying3
 a3:=Tryz.isAgg3
 z3:=Tryz.sizeOf3
 v3:=Tryz.zeroValue3
 t4:=Tryz.underlying4
 a4:=Tryz.isAgg4
 z4:=Tryz.sizeOf4
 v4:=Tryz.zeroValue4
 t5:=Tryz.underlying5
 a5:=Tryz.isAgg5
 z5:=Tryz.sizeOf5
 v5:=Tryz.zeroValue5
 t9:=Tryz.underlying9
 a9:=Tryz.isAgg9
 z9:=Tryz.sizeOf9
 v9:=Tryz.zeroValue9
 t22:=Tryz.underlying50
 a22:=Tryz.isAgg50
 z22:=Tryz.sizeOf50
 v22:=Tryz.zeroValue50
 t25:=Tryz.underlying116
 a25:=Tryz.isAgg116
 z25:=Tryz.sizeOf116
 v25:=Tryz.zeroValue116
 t39:=Tryz.underlying165
 a39:=Tryz.isAgg165
 z39:=Tryz.sizeOf165
 v39:=Tryz.zeroValue165
 t45:=Tryz.underlying202
 a45:=Tryz.isAgg202
 z45:=Tryz.sizeOf202
 v45:=Tryz.zeroValue202
 t46:=Tryz.underlying203
 a46:=Tryz.isAgg203
 z46:=Tryz.sizeOf203
 v46:=Tryz.zeroValue203
 t50:=Tryz.underlying207
 a50:=Tryz.isAgg207
 z50:=Tryz.sizeOf207
 v50:=Tryz.zeroValue207
 t53:=Tryz.underlying210
 a53:=Tryz.isAgg210
 z53:=Tryz.sizeOf210
 v53:=Tryz.zeroValue210
 t55:=Tryz.underlying212
 a55:=Tryz.isAgg212
 z55:=Tryz.sizeOf212
 v55:=Tryz.zeroValue212
 t66:=Tryz.underlying225
 a66:=Tryz.isAgg225
 z66:=Tryz.sizeOf225
 v66:=Tryz.zeroValue225
 t70:=Tryz.underlying229
 a70:=Tryz.isAgg229
 z70:=Tryz.sizeOf229
 v70:=Tryz.zeroValue229
 t76:=Tryz.underlying241
 a76:=Tryz.isAgg241
 z76:=Tryz.sizeOf241
 v76:=Tryz.zeroValue241
 t77:=Tryz.underlying242
 a77:=Tryz.isAgg242
 z77:=Tryz.sizeOf242
 v77:=Tryz.zeroValue242 }
def Tryz.layCompare_ren:Go.Shelf.Ren:=⟨fun | 106=>63 | 213=>106 | 265=>154 | n=>n,fun | 9=>9 | 3=>3 | n=>n,fun | n=>n⟩
theorem Tryz.layCompare:Go.Proofs.Lays.n106 Tryz.prog Tryz.layCompare_ren:={
 mixed:=by kernel_rfl
 f106:=Tryz.func63.trans (congrArg some (by kernel_rfl))
 f213:=Tryz.func106.trans (congrArg some (by kernel_rfl))
 f265:=Tryz.func154.trans (congrArg some (by kernel_rfl))
 t3:=Tryz.underlying3
 a3:=Tryz.isAgg3
 z3:=Tryz.sizeOf3
 v3:=Tryz.zeroValue3
 t9:=Tryz.underlying9
 a9:=Tryz.isAgg9
 z9:=Tryz.sizeOf9
 v9:=Tryz.zeroValue9 }
def Tryz.layBits_ren:Go.Shelf.Ren:=⟨fun | 125=>105 | 128=>152 | 129=>153 | n=>n,fun | 46=>165 | 3=>3 | 51=>210 | 53=>212 | 4=>4 | 5=>5 | 9=>9 | n=>n,fun | n=>n⟩
theorem Tryz.layBits:Go.Proofs.Lays.n125 Tryz.prog Tryz.layBits_ren:={
 mixed:=by kernel_rfl
 f125:=Tryz.func105.trans (congrArg some (by kernel_rfl))
 f128:=Tryz.func152.trans (congrArg some (by kernel_rfl))
 f129:=Tryz.func153.trans (congrArg some (by kernel_rfl))
 t3:=Tryz.underlying3
 a3:=Tryz.isAgg3
 z3:=Tryz.sizeOf3
 v3:=Tryz.zeroValue3
 t4:=Tryz.underlying4
 a4:=Tryz.isAgg4
 z4:=Tryz.sizeOf4
 v4:=Tryz.zeroValue4
 t5:=Tryz.underlying5
 a5:=Tryz.isAgg5
 z5:=Tryz.sizeOf5
 v5:=Tryz.zeroValue5
 t9:=Tryz.underlying9
 a9:=Tryz.isAgg9
 z9:=Tryz.sizeOf9
 v9:=Tryz.zeroValue9
 t46:=Tryz.underlying165
 a46:=Tryz.isAgg165
 z46:=Tryz.sizeOf165
 v46:=Tryz.zeroValue165
 t51:=Tryz.underlying210
 a51:=Tryz.isAgg210
 z51:=Tryz.sizeOf210
 v51:=Tryz.zeroValue210
 t53:=Tryz.underlying212
 a53:=Tryz.isAgg212
 z53:=Tryz.sizeOf212
 v53:=Tryz.zeroValue212 }
def Tryz.laySortInts_ren:Go.Shelf.Ren:=⟨fun | 189=>179 | 125=>105 | 257=>202 | 128=>152 | 129=>153 | 294=>229 | 295=>230 | 296=>231 | 297=>232 | 298=>233 | 299=>234 | 216=>235 | 300=>236 | 301=>237 | 328=>253 | 329=>182 | 330=>183 | 331=>254 | 332=>255 | 215=>221 | 343=>267 | n=>n,fun | 28=>154 | 3=>3 | 46=>165 | 0=>0 | 51=>210 | 53=>212 | 4=>4 | 183=>203 | 182=>202 | 131=>207 | 5=>5 | 9=>9 | 218=>225 | 222=>229 | 228=>241 | 229=>242 | n=>n,fun | n=>n⟩
theorem Tryz.laySortInts:Go.Proofs.Lays.n189 Tryz.prog Tryz.laySortInts_ren:={
 mixed:=by kernel_rfl
 f125:=Tryz.func105.trans (congrArg some (by kernel_rfl))
 f128:=Tryz.func152.trans (congrArg some (by kernel_rfl))
 f129:=Tryz.func153.trans (congrArg some (by kernel_rfl))
 f189:=Tryz.func179.trans (congrArg some (by kernel_rfl))
 f215:=Tryz.func221.trans (congrArg some (by kernel_rfl))
 f216:=Tryz.func235.trans (congrArg some (by kernel_rfl))
 f257:=Tryz.func202.trans (congrArg some (by kernel_rfl))
 f294:=Tryz.func229.trans (congrArg some (by kernel_rfl))
 f295:=Tryz.func230.trans (congrArg some (by kernel_rfl))
 f296:=Tryz.func231.trans (congrArg some (by kernel_rfl))
 f297:=Tryz.func232.trans (congrArg some (by kernel_rfl))
 f298:=Tryz.func233.trans (congrArg some (by kernel_rfl))
 f299:=Tryz.func234.trans (congrArg some (by kernel_rfl))
 f300:=Tryz.func236.trans (congrArg some (by kernel_rfl))
 f301:=Tryz.func237.trans (congrArg some (by kernel_rfl))
 f328:=Tryz.func253.trans (congrArg some (by kernel_rfl))
 f329:=Tryz.func182.trans (congrArg some (by kernel_rfl))
 f330:=Tryz.func183.trans (congrArg some (by kernel_rfl))
 f331:=Tryz.func254.trans (congrArg some (by kernel_rfl))
 f332:=Tryz.func255.trans (congrArg some (by kernel_rfl))
 f343:=Tryz.func267.trans (congrArg some (by kernel_rfl))
 t0:=Tryz.underlying0
 a0:=Tryz.isAgg0
 z0:=Tryz.sizeOf0
 v0:=Tryz.zeroValue0
 t3:=Tryz.underlying3
 a3:=Tryz.isAgg3
 z3:=Tryz.sizeOf3
 v3:=Tryz.zeroValue3
 t4:=Tryz.underlying4
 a4:=Tryz.isAgg4
 z4:=Tryz.sizeOf4
 v4:=Tryz.zeroValue4
 t5:=Tryz.underlying5
 a5:=Tryz.isAgg5
 z5:=Tryz.sizeOf5
 v5:=Tryz.zeroValue5
 t9:=Tryz.underlying9
 a9:=Tryz.isAgg9
 z9:=Tryz.sizeOf9
 v9:=Tryz.zeroValue9
 t28:=Tryz.underlying154
 a28:=Tryz.isAgg154
 z28:=Tryz.sizeOf154
 v28:=Tryz.zeroValue154
 t46:=Tryz.underlying165
 a46:=Tryz.isAgg165
 z46:=Tryz.sizeOf165
 v46:=Tryz.zeroValue165
 t51:=Tryz.underlying210
 a51:=Tryz.isAgg210
 z51:=Tryz.sizeOf210
 v51:=Tryz.zeroValue210
 t53:=Tryz.underlying212
 a53:=Tryz.isAgg212
 z53:=Tryz.sizeOf212
 v53:=Tryz.zeroValue212
 t131:=Tryz.underlying207
 a131:=Tryz.isAgg207
 z131:=Tryz.sizeOf207
 v131:=Tryz.zeroValue207
 t182:=Tryz.underlying202
 a182:=Tryz.isAgg202
 z182:=Tryz.sizeOf202
 v182:=Tryz.zeroValue202
 t183:=Tryz.underlying203
 a183:=Tryz.isAgg203
 z183:=Tryz.sizeOf203
 v183:=Tryz.zeroValue203
 t218:=Tryz.underlying225
 a218:=Tryz.isAgg225
 z218:=Tryz.sizeOf225
 v218:=Tryz.zeroValue225
 t222:=Tryz.underlying229
 a222:=Tryz.isAgg229
 z222:=Tryz.sizeOf229
 v222:=Tryz.zeroValue229
 t228:=Tryz.underlying241
 a228:=Tryz.isAgg241
 z228:=Tryz.sizeOf241
 v228:=Tryz.zeroValue241
 t229:=Tryz.underlying242
 a229:=Tryz.isAgg242
 z229:=Tryz.sizeOf242
 v229:=Tryz.zeroValue242 }
end Go.Proofs

namespace Go.Proofs
open Go.Shelf Go.RowKit Go.Lib Go.Sort
def SpA:Type:={x:Int × Int // 0≤x.1∧x.1≤1000000}
instance:Inhabited SpA:=⟨⟨(0,0),by decide⟩⟩
def encSpA (x:SpA):List Value:=[.int .i64 x.1.1,.int .i64 x.1.2]
def cfSpA (x y:SpA):Int:=x.1.1 - y.1.1
set_option maxHeartbeats 1000000 in
theorem Tryz.closure142 (x y:SpA) (W:World):Calls Tryz.prog 142 #[.agg #[.int .i64 x.1.1,.int .i64 x.1.2],.agg #[.int .i64 y.1.1,.int .i64 y.1.2]] W fun e w'=>e=.returned (.int .i64 (cfSpA x y))∧∃ q os',w'=grow (W.drewN q) os':=by
 obtain ⟨⟨a,b⟩,h1,h2⟩:=x;obtain ⟨⟨c,d⟩,h3,h4⟩:=y;dsimp only at h1 h2 h3 h4;have hw:IntKind.i64.wrap (a - c)=a - c:=by simp [IntKind.wrap,IntKind.bits,IntKind.signed]; omega
 show Calls Tryz.prog 142 #[.agg #[.int .i64 a,.int .i64 b],.agg #[.int .i64 c,.int .i64 d]] W fun e w'=>e=.returned (.int .i64 (a - c))∧∃ q os',w'=grow (W.drewN q) os'
 go_enter Tryz.func142,Tryz.ntmps142
 go_wp2
 go_ret
 exact ⟨rfl,0,_,by rw [alloc_eq_grow,alloc_eq_grow,grow_grow]; rfl⟩
def TmA:Type:=ByteArray × {v:Value // v.oneCell'=true} × {v:Value // v.oneCell'=true}
instance:Inhabited TmA:=⟨⟨ByteArray.empty,⟨.bool false,rfl⟩,⟨.bool false,rfl⟩⟩⟩
def encTmA (x:TmA):List Value:=[.string x.1,x.2.1.1,x.2.2.1]
def cfTmA (x y:TmA):Int:=Lib.compareBytes x.1.data.toList y.1.data.toList
set_option maxHeartbeats 1000000 in
theorem Tryz.closure62 (x y:TmA) (W:World):Calls Tryz.prog 62 #[.agg #[.string x.1,x.2.1.1,x.2.2.1],.agg #[.string y.1,y.2.1.1,y.2.2.1]] W fun e w'=>e=.returned (.int .i64 (cfTmA x y))∧∃ q os',w'=grow (W.drewN q) os':=by
 have hcon:=fun W'=>Any.strings_Compare Tryz.layCompare x.1 y.1 W';obtain ⟨a,⟨b,hb⟩,⟨c,hc⟩⟩:=x;obtain ⟨a',⟨b',hb'⟩,⟨c',hc'⟩⟩:=y;dsimp only at hcon
 change ∀ W',Calls Tryz.prog 63 _ _ _ at hcon
 unfold cfTmA;dsimp only;generalize Lib.compareBytes a.data.toList a'.data.toList=r at hcon ⊢
 go_enter Tryz.func62,Tryz.ntmps62
 go_wp2_with (go_at_call 63; refine (hcon _).mono ?_; rintro e w' ⟨rfl,rfl⟩)
 go_ret
 exact ⟨rfl,0,_,by rw [alloc_eq_grow,alloc_eq_grow,grow_grow]; rfl⟩
end Go.Proofs

namespace Go.Eng
open Go.Proofs
theorem c138 (v:Ver):PC 138 [.agg (encVer v)] (.agg [vi v.a,vi v.b,vi v.c]):=by
 refine Ps pl0 Tryz.func138 rfl (Nz rfl) ?_;exact Yi (Nz rfl) (Yi (Nz rfl) (.refl _))
def part (v:Ver):Nat→Int
 | 0=>v.a
 | 1=>v.b
 | _=>v.c
theorem validB_no {v:Ver} {i:Nat} (h:¬ okPart (part v i)):validB v=false:=by
 unfold validB
 match i,h with
 | 0,h=>have h:¬ okPart v.a:=h; simp [h]
 | 1,h=>have h:¬ okPart v.b:=h; simp [h]
 | _+2,h=>have h:¬ okPart v.c:=h; simp [h]
theorem c100 (v:Ver):PC 100 [.agg (encVer v)] (vb (validB v)):=by
 refine Ps pl0 Tryz.func100 rfl (Nz rfl) ?_;refine Yi (Nz rfl) (Xi .pure (Xi _ (Yi (c138 v) ?_)));refine Xi {i:Nat // i≤3∧∀ j,j<i→okPart (part v j)} (Xi (fun i=>⟨[(6,.agg [vi v.a,vi v.b,vi v.c]),(7,vi i.1)],[],hfree⟩) (Xi (fun i=>3 - i.1) (Yi (Xi ⟨0,by simp⟩ ?_) ?_)))
 ·exact ⟨Z2,Tv,Fh,Tv⟩
 ·intro ⟨i,h1,h2⟩;refine Yi ?_ ?_
  ·intro h;have h:(i:Int)<3:=h;refine Yi ⟨by show (0:Int)≤i; omega,by show (i:Int)<3; omega⟩ ?_;have hp:headK (([vi v.a,vi v.b,vi v.c]).drop ((i:Int).toNat*1))=fun K=>K (vi (part v i)):=by
    match i,h with
    | 0,_=>rfl
    | 1,_=>rfl
    | 2,_=>rfl
    | _+3,h=>omega
   show headK (([vi v.a,vi v.b,vi v.c]).drop ((i:Int).toNat*1)) _;rw [hp];refine Yi ?_ ?_
   ·intro h3;have h3:part v i<0:=h3;rw [validB_no (i:=i) (by unfold okPart; omega)];exact .refl _
   ·intro h3;have h3:¬ part v i<0:=h3;refine Yi ?_ ?_
    ·intro h4;have h4:(999:Int)<part v i:=h4;rw [validB_no (i:=i) (by unfold okPart; omega)];exact .refl _
    ·intro h4;have h4:¬ (999:Int)<part v i:=h4;refine Yi (Ii i (by omega)) ?_;refine Xi ⟨i+1,by omega,fun j hj=>?_⟩ ?_
     ·by_cases e:j=i
      ·subst e; exact ⟨by omega,by omega⟩
      ·exact h2 j (by omega)
     ·exact ⟨Dl 3 i (by omega),Z2,Tv,Fh,Tv⟩
  ·intro h;have h:¬ (i:Int)<3:=h;have e:i=3:=by omega
   have q:validB v=true:=by
    unfold validB;have a:=h2 0 (by omega);have b:=h2 1 (by omega);have c:=h2 2 (by omega);simp only [part] at a b c;simp [a,b,c]
   rw [q];exact .refl _
theorem c56 (v:Ver):PC 56 [.agg (encVer v)] (.tup [vi (if validB v then place v else 0),vi (if validB v then 0 else 2)]):=by
 refine Ps pl0 Tryz.func56 rfl (Nz rfl) ?_;refine Yi (Nz rfl) (Xi .pure (Xi _ (Yi (c100 v) ?_)));cases h:validB v with
 | false=>exact .refl _
 | true =>
  have hv:=valid_place h;refine Yi (by show InI64 (1000*v.b); unfold InI64; omega) ?_;exact Yi (by show InI64 (1000*v.b+v.c); unfold InI64; omega) (.refl _)
theorem c95 (v:Ver) (h:validB v=true):PC 95 [.agg (encVer v)] (vi (place v)):=by
 refine Ps pl0 Tryz.func95 rfl (Nz rfl) ?_;have hv:=valid_place h;refine Yi (by show InI64 (1000*v.b); unfold InI64; omega) ?_;exact Yi (by show InI64 (1000*v.b+v.c); unfold InI64; omega) (.refl _)
end Go.Eng

namespace Go.Eng
open Go.Proofs
def Stable (caps:List AV):Prop:=∀ c ∈ caps,∀ h,str0 h c=c
theorem Stable.map {caps:List AV} (hs:Stable caps) (h:Nat→HO):caps.map (str0 h)=caps:=by
 conv=>rhs; rw [← List.map_id caps]
 exact List.map_congr_left fun c hc=>hs c hc h
theorem Stable.ids {caps:List AV} (hs:Stable caps) (h:Nat→HO):idsL h caps=true:=by
 induction caps with
 | nil=>rfl
 | cons c r ih =>
  have hc:=hs c (List.mem_cons_self ..) hfree;have h0:ids0 h c=true:=by
   cases c with
   | slice tk es=>cases tk with | none=>rfl | full sz=>simp [str0] at hc | id r sz=>simp [str0] at hc
   | _=>first | rfl | (simp [str0,hfree] at hc)
  unfold idsL;rw [h0];exact ih fun c hc=>hs c (List.mem_cons_of_mem _ hc)
def idx {α:Type} (p:α→Bool):List α→Int→Int
 | [],_=>-1
 | x :: r,i=>if p x then i else idx p r (i+1)
theorem idx_at {α:Type} {p:α→Bool} : ∀ {l:List α} {i:Nat} {k:Int} (hi:i<l.length),(∀ j (hj:j<l.length),j<i→p l[j]=false)→p l[i]=true→idx p l k=k+i
 | x :: r,0,k,_,_,h=>by
  have h:p x=true:=h;simp [idx,h]
 | x :: r,i+1,k,hi,hb,h=>by
  have h0:p x=false:=hb 0 (by simp) (by omega)
  have:=idx_at (l:=r) (i:=i) (k:=k+1) (by simpa using hi) (fun j hj hji=>hb (j+1) (by simpa using hj) (by omega)) (by simpa using h)
  simp only [idx,h0,Bool.false_eq_true,if_false,this];omega
theorem idx_none {α:Type} {p:α→Bool} : ∀ {l:List α} {k:Int},(∀ j (hj:j<l.length),p l[j]=false)→idx p l k=-1
 | [],_,_=>rfl
 | x :: r,k,h=>by
  have h0:p x=false:=h 0 (by simp);simp only [idx,h0,Bool.false_eq_true,if_false];exact idx_none fun j hj=>h (j+1) (by simpa using hj)
theorem idx_any {α:Type} {p:α→Bool} : ∀ (l:List α) (k:Int),0≤k→decide (0≤idx p l k)=l.any p
 | [],k,_=>by simp [idx]
 | x :: r,k,hk=>by
  unfold idx;cases h:p x with
  | true=>simp [h,hk]
  | false=>simp [h,idx_any r (k+1) (by omega)]
-- one for each type of elements
theorem c175 {fF:Nat} {caps:List AV} (hs:Stable caps) (l:List (Int × Int)) (p:Int × Int→Bool) (hF:∀ x ∈ l,PC fF ([.agg (encSpan x)]++caps) (vb (p x))) (hl:l.length<9223372036854775807) :
  PC 175 [sl encSpan l,.clo fF caps] (vi (idx p l 0)):=by
 refine Ps pl0 Tryz.func175 rfl (Nz rfl) ?_;refine Xi {i:Nat // i≤l.length∧∀ j (hj:j<l.length),j<i→p l[j]=false} (Xi (fun i=>⟨[(0,sl encSpan l),(1,.clo fF caps),(7,vi (l.map encSpan).length),(8,vi i.1)],[],hfree⟩) (Xi (fun i=>l.length - i.1) (Yi (Xi ⟨0,by simp⟩ ?_) ?_)))
 ·exact ⟨⟨Zr,⟨rfl,hs.ids _⟩,Zr,Zr,Tv⟩,Tv,Fh,Tv⟩
 ·intro ⟨i,h1,h2⟩;refine Yi ?_ ?_
  ·intro h;have h:(i:Int)<(l.map encSpan).length:=h;have h:i<l.length:=by simpa using h
   have hg:l[i]?=some l[i]:=Ge h;refine Xi (encSpan l[i]) (Yi (Yi (Nn i) (by simp [hg])) (Yi rfl (Yi (Nz rfl) ?_)));have hcall:∀ h,PC fF ([.agg (encSpan l[i])]++caps.map (str0 h)) (vb (p l[i])):=fun h=>by rw [hs.map]; exact hF l[i] (List.getElem_mem _)
   cases hp:p l[i] with
   | true =>
    rw [hp] at hcall;refine Xi .pure (Xi (vb true) (Yi (hcall _) ?_));rw [idx_at h (fun j hj hji=>h2 j hj hji) hp,Int.zero_add];exact .refl _
   | false =>
    rw [hp] at hcall;refine Xi .pure (Xi (vb false) (Yi (hcall _) ?_));refine Yi (Ii i (by omega)) ?_;refine Xi ⟨i+1,by omega,fun j hj hji=>?_⟩ ?_
    ·by_cases e:j=i
     ·subst e; exact hp
     ·exact h2 j hj (by omega)
    ·exact ⟨Dl l.length i (by omega),⟨Zr,⟨rfl,hs.ids _⟩,Zr,Zr,Tv⟩,Tv,Fh,Tv⟩
  ·intro h;have h:¬ (i:Int)<(l.map encSpan).length:=h;have h:¬ i<l.length:=by simpa using h
   rw [idx_none fun j hj=>h2 j hj (by omega)];exact .refl _
end Go.Eng

namespace Go.Eng
open Go.Proofs
abbrev Few {α:Type} (l:List α):Prop:=l.length≤1073741824
theorem allLen_map {α:Type} {enc:α→List AV} {n:Nat} (h:∀ x,(enc x).length=n):∀ l:List α,AllLen n (l.map enc)
 | []=>trivial
 | x :: l=>⟨h x,allLen_map h l⟩
theorem eq_span {x y:Int × Int} : eqL (encSpan x) (encSpan y)↔x=y:=by
 constructor
 ·intro h;have h:x.1=y.1∧x.2=y.2∧True:=h;exact Prod.ext h.1 h.2.1
 ·rintro rfl; exact ⟨rfl,rfl,trivial⟩
abbrev encInc (l:List Tm):List AV:=[sl encTm l]
abbrev encStr (s:ByteArray):List AV:=[vs s]
theorem c78 {fF:Nat} {caps:List AV} (hs:Stable caps) (l:List (Sl)) (p:Sl→Bool) (hF:∀ x ∈ l,PC fF ([.agg (encSl x)]++caps) (vb (p x))) (hl:l.length<9223372036854775807) :
  PC 78 [sl encSl l,.clo fF caps] (vi (idx p l 0)):=by
 refine pcall_sub (cxp pl0) rfl tab_ok hm rfl Tryz.func78 (by kernel_rfl) rfl (Nz rfl) (by kernel_rfl) ?_;refine Xi {i:Nat // i≤l.length∧∀ j (hj:j<l.length),j<i→p l[j]=false} (Xi (fun i=>⟨[(0,sl encSl l),(1,.clo fF caps),(7,vi (l.map encSl).length),(8,vi i.1)],[],hfree⟩) (Xi (fun i=>l.length - i.1) (Yi (Xi ⟨0,by simp⟩ ?_) ?_)))
 ·exact ⟨⟨Zr,⟨rfl,hs.ids _⟩,Zr,Zr,Tv⟩,Tv,Fh,Tv⟩
 ·intro ⟨i,h1,h2⟩;refine Yi ?_ ?_
  ·intro h;have h:(i:Int)<(l.map encSl).length:=h;have h:i<l.length:=by simpa using h
   have hg:l[i]?=some l[i]:=Ge h;refine Xi (encSl l[i]) (Yi (Yi (by show (0:Int)≤i; omega) (by simp [hg])) (Yi rfl (Yi (Nz rfl) ?_)));have hcall:∀ h,PC fF ([.agg (encSl l[i])]++caps.map (str0 h)) (vb (p l[i])):=fun h=>by rw [hs.map]; exact hF l[i] (List.getElem_mem _)
   cases hp:p l[i] with
   | true =>
    rw [hp] at hcall;refine Xi .pure (Xi (vb true) (Yi (hcall _) ?_));rw [idx_at h (fun j hj hji=>h2 j hj hji) hp,Int.zero_add];exact .refl _
   | false =>
    rw [hp] at hcall;refine Xi .pure (Xi (vb false) (Yi (hcall _) ?_));refine Yi (Ii i (by omega)) ?_;refine Xi ⟨i+1,by omega,fun j hj hji=>?_⟩ ?_
    ·by_cases e:j=i
     ·subst e; exact hp
     ·exact h2 j hj (by omega)
    ·exact ⟨Dl l.length i (by omega),⟨Zr,⟨rfl,hs.ids _⟩,Zr,Zr,Tv⟩,Tv,Fh,Tv⟩
  ·intro h;have h:¬ (i:Int)<(l.map encSl).length:=h;have h:¬ i<l.length:=by simpa using h
   rw [idx_none fun j hj=>h2 j hj (by omega)];exact .refl _
theorem c128 {fF:Nat} {caps:List AV} (hs:Stable caps) (l:List (Rq)) (p:Rq→Bool) (hF:∀ x ∈ l,PC fF ([.agg (encRq x)]++caps) (vb (p x))) (hl:l.length<9223372036854775807) :
  PC 128 [sl encRq l,.clo fF caps] (vi (idx p l 0)):=by
 refine pcall_sub (cxp pl0) rfl tab_ok hm rfl Tryz.func128 (by kernel_rfl) rfl (Nz rfl) (by kernel_rfl) ?_;refine Xi {i:Nat // i≤l.length∧∀ j (hj:j<l.length),j<i→p l[j]=false} (Xi (fun i=>⟨[(0,sl encRq l),(1,.clo fF caps),(7,vi (l.map encRq).length),(8,vi i.1)],[],hfree⟩) (Xi (fun i=>l.length - i.1) (Yi (Xi ⟨0,by simp⟩ ?_) ?_)))
 ·exact ⟨⟨Zr,⟨rfl,hs.ids _⟩,Zr,Zr,Tv⟩,Tv,Fh,Tv⟩
 ·intro ⟨i,h1,h2⟩;refine Yi ?_ ?_
  ·intro h;have h:(i:Int)<(l.map encRq).length:=h;have h:i<l.length:=by simpa using h
   have hg:l[i]?=some l[i]:=Ge h;refine Xi (encRq l[i]) (Yi (Yi (by show (0:Int)≤i; omega) (by simp [hg])) (Yi rfl (Yi (Nz rfl) ?_)));have hcall:∀ h,PC fF ([.agg (encRq l[i])]++caps.map (str0 h)) (vb (p l[i])):=fun h=>by rw [hs.map]; exact hF l[i] (List.getElem_mem _)
   cases hp:p l[i] with
   | true =>
    rw [hp] at hcall;refine Xi .pure (Xi (vb true) (Yi (hcall _) ?_));rw [idx_at h (fun j hj hji=>h2 j hj hji) hp,Int.zero_add];exact .refl _
   | false =>
    rw [hp] at hcall;refine Xi .pure (Xi (vb false) (Yi (hcall _) ?_));refine Yi (Ii i (by omega)) ?_;refine Xi ⟨i+1,by omega,fun j hj hji=>?_⟩ ?_
    ·by_cases e:j=i
     ·subst e; exact hp
     ·exact h2 j hj (by omega)
    ·exact ⟨Dl l.length i (by omega),⟨Zr,⟨rfl,hs.ids _⟩,Zr,Zr,Tv⟩,Tv,Fh,Tv⟩
  ·intro h;have h:¬ (i:Int)<(l.map encRq).length:=h;have h:¬ i<l.length:=by simpa using h
   rw [idx_none fun j hj=>h2 j hj (by omega)];exact .refl _
theorem c176 {fF:Nat} {caps:List AV} (hs:Stable caps) (l:List (Tm)) (p:Tm→Bool) (hF:∀ x ∈ l,PC fF ([.agg (encTm x)]++caps) (vb (p x))) (hl:l.length<9223372036854775807) :
  PC 176 [sl encTm l,.clo fF caps] (vi (idx p l 0)):=by
 refine pcall_sub (cxp pl0) rfl tab_ok hm rfl Tryz.func176 (by kernel_rfl) rfl (Nz rfl) (by kernel_rfl) ?_;refine Xi {i:Nat // i≤l.length∧∀ j (hj:j<l.length),j<i→p l[j]=false} (Xi (fun i=>⟨[(0,sl encTm l),(1,.clo fF caps),(7,vi (l.map encTm).length),(8,vi i.1)],[],hfree⟩) (Xi (fun i=>l.length - i.1) (Yi (Xi ⟨0,by simp⟩ ?_) ?_)))
 ·exact ⟨⟨Zr,⟨rfl,hs.ids _⟩,Zr,Zr,Tv⟩,Tv,Fh,Tv⟩
 ·intro ⟨i,h1,h2⟩;refine Yi ?_ ?_
  ·intro h;have h:(i:Int)<(l.map encTm).length:=h;have h:i<l.length:=by simpa using h
   have hg:l[i]?=some l[i]:=Ge h;refine Xi (encTm l[i]) (Yi (Yi (by show (0:Int)≤i; omega) (by simp [hg])) (Yi rfl (Yi (Nz rfl) ?_)));have hcall:∀ h,PC fF ([.agg (encTm l[i])]++caps.map (str0 h)) (vb (p l[i])):=fun h=>by rw [hs.map]; exact hF l[i] (List.getElem_mem _)
   cases hp:p l[i] with
   | true =>
    rw [hp] at hcall;refine Xi .pure (Xi (vb true) (Yi (hcall _) ?_));rw [idx_at h (fun j hj hji=>h2 j hj hji) hp,Int.zero_add];exact .refl _
   | false =>
    rw [hp] at hcall;refine Xi .pure (Xi (vb false) (Yi (hcall _) ?_));refine Yi (Ii i (by omega)) ?_;refine Xi ⟨i+1,by omega,fun j hj hji=>?_⟩ ?_
    ·by_cases e:j=i
     ·subst e; exact hp
     ·exact h2 j hj (by omega)
    ·exact ⟨Dl l.length i (by omega),⟨Zr,⟨rfl,hs.ids _⟩,Zr,Zr,Tv⟩,Tv,Fh,Tv⟩
  ·intro h;have h:¬ (i:Int)<(l.map encTm).length:=h;have h:¬ i<l.length:=by simpa using h
   rw [idx_none fun j hj=>h2 j hj (by omega)];exact .refl _
theorem c126 {fF:Nat} {caps:List AV} (hs:Stable caps) (l:List (Int × Int)) (p:Int × Int→Bool) (hF:∀ x ∈ l,PC fF ([.agg (encSpan x)]++caps) (vb (p x))) (hl:Few l) :
  PC 126 [sl encSpan l,.clo fF caps] (vb (l.any p)):=by
 refine pcall_sub (cxp pl0) rfl tab_ok hm rfl Tryz.func126 (by kernel_rfl) rfl (Nz rfl) (by kernel_rfl) ?_;have hi:=c175 hs l p hF (by unfold Few at hl; omega);have hcall:∀ h,PC 175 [sl encSpan l,.clo fF (caps.map (str0 h))] (vi (idx p l 0)):=fun h=>by rw [hs.map]; exact hi
 refine Xi .pure (Xi _ (Yi (hcall _) ?_));have ha:=idx_any (p:=p) l 0 (Int.le_refl 0);refine Yi ?_ ?_
 ·intro h;have h:(0:Int)≤idx p l 0:=h;rw [← ha,decide_eq_true h];exact .refl _
 ·intro h;have h:¬ (0:Int)≤idx p l 0:=h;rw [← ha,decide_eq_false h];exact .refl _
theorem c51 {fF:Nat} {caps:List AV} (hs:Stable caps) (l:List (Sl)) (p:Sl→Bool) (hF:∀ x ∈ l,PC fF ([.agg (encSl x)]++caps) (vb (p x))) (hl:Few l) :
  PC 51 [sl encSl l,.clo fF caps] (vb (l.any p)):=by
 refine pcall_sub (cxp pl0) rfl tab_ok hm rfl Tryz.func51 (by kernel_rfl) rfl (Nz rfl) (by kernel_rfl) ?_;have hi:=c78 hs l p hF (by unfold Few at hl; omega);have hcall:∀ h,PC 78 [sl encSl l,.clo fF (caps.map (str0 h))] (vi (idx p l 0)):=fun h=>by rw [hs.map]; exact hi
 refine Xi .pure (Xi _ (Yi (hcall _) ?_));have ha:=idx_any (p:=p) l 0 (Int.le_refl 0);refine Yi ?_ ?_
 ·intro h;have h:(0:Int)≤idx p l 0:=h;rw [← ha,decide_eq_true h];exact .refl _
 ·intro h;have h:¬ (0:Int)≤idx p l 0:=h;rw [← ha,decide_eq_false h];exact .refl _
theorem c89 {fF:Nat} {caps:List AV} (hs:Stable caps) (l:List (Rq)) (p:Rq→Bool) (hF:∀ x ∈ l,PC fF ([.agg (encRq x)]++caps) (vb (p x))) (hl:Few l) :
  PC 89 [sl encRq l,.clo fF caps] (vb (l.any p)):=by
 refine pcall_sub (cxp pl0) rfl tab_ok hm rfl Tryz.func89 (by kernel_rfl) rfl (Nz rfl) (by kernel_rfl) ?_;have hi:=c128 hs l p hF (by unfold Few at hl; omega);have hcall:∀ h,PC 128 [sl encRq l,.clo fF (caps.map (str0 h))] (vi (idx p l 0)):=fun h=>by rw [hs.map]; exact hi
 refine Xi .pure (Xi _ (Yi (hcall _) ?_));have ha:=idx_any (p:=p) l 0 (Int.le_refl 0);refine Yi ?_ ?_
 ·intro h;have h:(0:Int)≤idx p l 0:=h;rw [← ha,decide_eq_true h];exact .refl _
 ·intro h;have h:¬ (0:Int)≤idx p l 0:=h;rw [← ha,decide_eq_false h];exact .refl _
theorem c129 {fF:Nat} {caps:List AV} (hs:Stable caps) (l:List (Tm)) (p:Tm→Bool) (hF:∀ x ∈ l,PC fF ([.agg (encTm x)]++caps) (vb (p x))) (hl:Few l) :
  PC 129 [sl encTm l,.clo fF caps] (vb (l.any p)):=by
 refine pcall_sub (cxp pl0) rfl tab_ok hm rfl Tryz.func129 (by kernel_rfl) rfl (Nz rfl) (by kernel_rfl) ?_;have hi:=c176 hs l p hF (by unfold Few at hl; omega);have hcall:∀ h,PC 176 [sl encTm l,.clo fF (caps.map (str0 h))] (vi (idx p l 0)):=fun h=>by rw [hs.map]; exact hi
 refine Xi .pure (Xi _ (Yi (hcall _) ?_));have ha:=idx_any (p:=p) l 0 (Int.le_refl 0);refine Yi ?_ ?_
 ·intro h;have h:(0:Int)≤idx p l 0:=h;rw [← ha,decide_eq_true h];exact .refl _
 ·intro h;have h:¬ (0:Int)≤idx p l 0:=h;rw [← ha,decide_eq_false h];exact .refl _
theorem c137 (l:List (Int × Int)) (hl:Few l):PC 137 [sl encSpan l] (sl encSpan l):=by
 refine pcall_sub (cxp pl0) rfl tab_ok hm rfl Tryz.func137 (by kernel_rfl) rfl (Nz rfl) (by kernel_rfl) ?_;have bulk:AllLen 2 (l.map encSpan)∧([]:List (List AV)).length=0∧(([]:List (List AV)).length+(l.map encSpan).length)*16≤140737488355328∧([]:List (List AV)).length+(l.map encSpan).length≤9223372036854775807:=by
  refine ⟨allLen_map (enc:=encSpan) (n:=2) (fun _=>rfl) l,rfl,?_,?_⟩ <;> simp only [List.length_nil,Lm] <;> unfold Few at hl <;> omega
 refine Yi ?_ ?_
 ·intro _;exact Yi bulk (.refl _)
 ·intro h;have h:l.map encSpan=[]:=h;refine Yi ?_ ?_
  ·show Sub (.v (.slice none 0 0)) (.slice .none (l.map encSpan));rw [h];exact .nil
  ·exact Yi bulk (.refl _)
theorem c159 (l m:List (Int × Int)) (hl:Few l):PC 159 [sl encSpan l,sl encSpan m] (vb (decide (l=m))):=by
 refine pcall_sub (cxp pl0) rfl tab_ok hm rfl Tryz.func159 (by kernel_rfl) rfl (Nz rfl) (by kernel_rfl) ?_;refine Yi ?_ ?_
 ·intro h;have h:¬ ((l.map encSpan).length:Int)=(m.map encSpan).length:=h
  have:l≠m:=fun e=>h (by rw [e])
  rw [decide_eq_false this];exact .refl _
 ·intro h;have h:¬ ((l.map encSpan).length:Int)≠(m.map encSpan).length:=h;have hlen:l.length=m.length:=by simp at h; omega
  refine Xi {i:Nat // i≤l.length∧l.take i=m.take i} (Xi (fun i=>⟨[(0,sl encSpan l),(1,sl encSpan m),(12,vi (l.map encSpan).length),(13,vi i.1)],[],hfree⟩) (Xi (fun i=>l.length - i.1) (Yi (Xi ⟨0,by simp⟩ ?_) ?_)))
  ·exact ⟨⟨Zr,Zr,Zr,Zr,Tv⟩,Tv,Fh,Tv⟩
  ·intro ⟨i,h1,h2⟩;refine Yi ?_ ?_
   ·intro h;have h:(i:Int)<(l.map encSpan).length:=h;have h:i<l.length:=by simpa using h
    have h' : i<m.length:=by omega
    have hg:l[i]?=some l[i]:=Ge h;have hg' : m[i]?=some m[i]:=Ge h';refine Xi (encSpan l[i]) (Yi (Yi (by show (0:Int)≤i; omega) (by simp [hg])) (Yi rfl (Yi (Nz rfl) ?_)));refine Xi (encSpan m[i]) (Yi (Yi (by show (0:Int)≤i; omega) (by simp [hg'])) (Yi rfl (Yi (Nz rfl) ?_)));refine Yi ?_ ?_
    ·intro h5;have e:l[i]=m[i]:=eq_span.1 h5;refine Yi (by kernel_rfl) ?_;refine Yi (by show InI64 ((i:Int)+1); unfold Few at hl; unfold InI64; omega) ?_;refine Xi ⟨i+1,by omega,?_⟩ ?_
     ·rw [List.take_add_one,List.take_add_one,h2,hg,hg',e]
     ·exact ⟨Dl l.length i (by omega),⟨Zr,Zr,Zr,Zr,Tv⟩,Tv,Fh,Tv⟩
    ·intro h5;refine Yi (by kernel_rfl) ?_
     have:l≠m:=fun e=>h5 (eq_span.2 (by subst e; rfl))
     rw [decide_eq_false this];exact .refl _
   ·intro h;have h:¬ (i:Int)<(l.map encSpan).length:=h;have h:¬ i<l.length:=by simpa using h
    have e:l=m:=by
     rw [← List.take_of_length_le (l:=l) (i:=i) (by omega),h2,List.take_of_length_le (by omega)]
    rw [decide_eq_true e];exact .refl _
theorem c20 (l m:List (ByteArray)) (hl:Few l):PC 20 [sl encStr l,sl encStr m] (vb (decide (l=m))):=by
 refine pcall_sub (cxp pl0) rfl tab_ok hm rfl Tryz.func20 (by kernel_rfl) rfl (Nz rfl) (by kernel_rfl) ?_;refine Yi ?_ ?_
 ·intro h;have h:¬ ((l.map encStr).length:Int)=(m.map encStr).length:=h
  have:l≠m:=fun e=>h (by rw [e])
  rw [decide_eq_false this];exact .refl _
 ·intro h;have h:¬ ((l.map encStr).length:Int)≠(m.map encStr).length:=h;have hlen:l.length=m.length:=by simp at h; omega
  refine Xi {i:Nat // i≤l.length∧l.take i=m.take i} (Xi (fun i=>⟨[(0,sl encStr l),(1,sl encStr m),(12,vi (l.map encStr).length),(13,vi i.1)],[],hfree⟩) (Xi (fun i=>l.length - i.1) (Yi (Xi ⟨0,by simp⟩ ?_) ?_)))
  ·exact ⟨⟨Zr,Zr,Zr,Zr,Tv⟩,Tv,Fh,Tv⟩
  ·intro ⟨i,h1,h2⟩;refine Yi ?_ ?_
   ·intro h;have h:(i:Int)<(l.map encStr).length:=h;have h:i<l.length:=by simpa using h
    have h' : i<m.length:=by omega
    have hg:l[i]?=some l[i]:=Ge h;have hg' : m[i]?=some m[i]:=Ge h';refine Xi (encStr l[i]) (Yi (Yi (by show (0:Int)≤i; omega) (by simp [hg])) (Yi rfl ?_));refine Xi (encStr m[i]) (Yi (Yi (by show (0:Int)≤i; omega) (by simp [hg'])) (Yi rfl ?_));refine Yi ?_ ?_
    ·intro h5;refine Yi (by kernel_rfl) ?_
     have:l≠m:=fun e=>h5 (by subst e; rfl)
     rw [decide_eq_false this];exact .refl _
    ·intro h5;have e:l[i]=m[i]:=Classical.not_not.1 h5;refine Yi (by kernel_rfl) ?_;refine Yi (by show InI64 ((i:Int)+1); unfold Few at hl; unfold InI64; omega) ?_;refine Xi ⟨i+1,by omega,?_⟩ ?_
     ·rw [List.take_add_one,List.take_add_one,h2,hg,hg',e]
     ·exact ⟨Dl l.length i (by omega),⟨Zr,Zr,Zr,Zr,Tv⟩,Tv,Fh,Tv⟩
   ·intro h;have h:¬ (i:Int)<(l.map encStr).length:=h;have h:¬ i<l.length:=by simpa using h
    have e:l=m:=by
     rw [← List.take_of_length_le (l:=l) (i:=i) (by omega),h2,List.take_of_length_le (by omega)]
    rw [decide_eq_true e];exact .refl _
end Go.Eng

namespace Go.Eng
open Go.Proofs
abbrev plz (l:List Nat):Pol:=⟨l,[],[],[],[],[],[],[],[],[],[]⟩
theorem Stable.ptr (cs:List AV):Stable [.cptr cs]:=fun c hc h=>by
 rw [List.mem_singleton.1 hc]; rfl
theorem c127 (s:Int × Int) (p:Int):PC 127 [.agg (encSpan s),.cptr [vi p]] (vb (inSpan p s)):=by
 refine Ps pl0 Tryz.func127 rfl (Nz rfl) ?_;refine Yi ?_ ?_
 ·intro h;have h:s.1≤p:=h;refine Yi ?_ ?_
  ·intro h2;have h2:p<s.2:=h2;rw [show inSpan p s=true by simp [inSpan,h,h2]];exact .refl _
  ·intro h2;have h2:¬ p<s.2:=h2;rw [show inSpan p s=false by simp [inSpan,h2]];exact .refl _
 ·intro h;have h:¬ s.1≤p:=h;rw [show inSpan p s=false by simp [inSpan,h]];exact .refl _
theorem c87 (s:List (Int × Int)) (p:Int) (hl:Few s):PC 87 [sl encSpan s,vi p] (vb (has s p)):=by
 refine Ps (plz [3]) Tryz.func87 rfl (Nz rfl) ?_;refine Yi ?_ ?_
 ·intro h;have h:0≤p:=h;refine Yi ?_ ?_
  ·intro h2;have h2:p<1000000:=h2;refine Xi .pure (Xi _ (Yi (c126 (Stable.ptr [vi p]) s (inSpan p) (fun x _=>c127 x p) hl) ?_));rw [show has s p=s.any (inSpan p) by simp [has,h,h2]];cases s.any (inSpan p) <;> exact .refl _
  ·intro h2;have h2:¬ p<1000000:=h2;rw [show has s p=false by simp [has,h2]];exact .refl _
 ·intro h;have h:¬ 0≤p:=h;rw [show has s p=false by simp [has,h]];exact .refl _

theorem c88 (r:Rl):PC 88 [.agg (encRl r)] (vi (plc r.ver)):=by
 refine Ps pl0 Tryz.func88 rfl (Nz rfl) ?_;exact Yi (Nz rfl) (Xi .pure (Xi _ (Yi (c56 r.ver) (.refl _))))
theorem c99 (x:Sl) (t:Tm):PC 99 [.agg (encSl x),.cptr (encTm t)] (vb (decide (x.path=t.path))):=by
 refine Ps pl0 Tryz.func99 rfl (Nz rfl) ?_;refine Yi ?_ ?_
 ·intro h;have h:x.path=t.path:=h;rw [decide_eq_true h];exact .refl _
 ·intro h;have h:¬ x.path=t.path:=h;rw [decide_eq_false h];exact .refl _
theorem idx_find {α:Type} {p:α→Bool} : ∀ (l:List α) (k:Int),(idx p l k=-1∧l.find? p=none)∨∃ i x,idx p l k=k+(i:Nat)∧l[i]?=some x∧l.find? p=some x
 | [],k=>.inl Zr
 | x :: r,k=>by
  cases h:p x with
  | true=>exact .inr ⟨0,x,by simp [idx,h],rfl,by simp [h]⟩
  | false =>
   rcases idx_find (p:=p) r (k+1) with ⟨h1,h2⟩ | ⟨i,y,h1,h2,h3⟩
   ·exact .inl ⟨by simp [idx,h,h1],by simp [h,h2]⟩
   ·exact .inr ⟨i+1,y,by simp only [idx,h,Bool.false_eq_true,if_false,h1]; omega,by simpa using h2,by simp [h,h3]⟩
theorem c55 (t:Tm) (s:List Sl) (hl:Few s) (ht:Few t.set):PC 55 [.agg (encTm t),sl encSl s] (vb (holds t s)):=by
 have hc:=c78 (Stable.ptr (encTm t)) s (fun x=>decide (x.path=t.path)) (fun x _=>c99 x t) (by unfold Few at hl; omega);unfold holds;rcases idx_find (p:=fun x:Sl=>decide (x.path=t.path)) s 0 with ⟨h1,h2⟩ | ⟨i,x,h1,h2,h3⟩
 ·rw [h1] at hc;rw [h2];refine Ps (plz [2]) Tryz.func55 rfl (Nz rfl) ?_;refine Xi .pure (Xi _ (Yi hc ?_));refine Yi ?_ ?_
  ·intro _;refine Yi ?_ ?_
   ·intro h;have h:t.absent=true:=h;rw [h]; exact .refl _
   ·intro h;have h:t.absent=false:=h;rw [h]; exact .refl _
  ·intro h; exact absurd (show (-1:Int)<0 by decide) h
 ·rw [h1,Int.zero_add] at hc;rw [h3];have hg:(s.map encSl)[((i:Nat):Int).toNat]?=some (encSl x):=by rw [Int.toNat_natCast,List.getElem?_map,h2]; rfl
  have hp:=c56 x.ver;dsimp only;rcases Bt (validB x.ver) with hv | hv
  ·rw [hv,if_pos rfl,if_pos rfl] at hp;rw [hv];refine Ps (plz [2]) Tryz.func55 rfl (Nz rfl) ?_;refine Xi .pure (Xi _ (Yi hc ?_));refine Yi ?_ ?_
   ·intro h;have h:(i:Int)<0:=h;omega
   ·intro _;refine Xi (encSl x) (Yi (Yi (Nn i) hg) (Yi rfl (Yi (Nz rfl) ?_)));refine Xi .pure (Xi _ (Yi hp ?_));refine Yi ?_ ?_
    ·intro _;refine Xi .pure (Xi _ (Yi (c87 t.set (place x.ver) ht) ?_));exact .refl _
    ·intro h;exact absurd rfl h
  ·rw [hv,if_neg (by decide),if_neg (by decide)] at hp;rw [hv];refine Ps (plz [2]) Tryz.func55 rfl (Nz rfl) ?_;refine Xi .pure (Xi _ (Yi hc ?_));refine Yi ?_ ?_
   ·intro h;have h:(i:Int)<0:=h;omega
   ·intro _;refine Xi (encSl x) (Yi (Yi (Nn i) hg) (Yi rfl (Yi (Nz rfl) ?_)));refine Xi .pure (Xi _ (Yi hp ?_));refine Yi ?_ ?_
    ·intro h;have h:(2:Int)=0:=h;omega
    ·intro _;exact .refl _
end Go.Eng

namespace Go.Eng
open Go.Proofs
theorem all_yes {α:Type} {p:α→Bool} {l:List α} {i:Nat} (h:∀ j (hj:j<l.length),j<i→p l[j]=true) (hi:¬ i<l.length):l.all p=true:=by
 rw [List.all_eq_true];intro x hx;obtain ⟨j,hj,rfl⟩:=List.mem_iff_getElem.1 hx;exact h j hj (by omega)
theorem all_no {α:Type} {p:α→Bool} {l:List α} {i:Nat} (hi:i<l.length) (h:p l[i]=false):l.all p=false:=by
 rw [List.all_eq_false];exact ⟨l[i],List.getElem_mem hi,by simp [h]⟩
theorem any_yes {α:Type} {p:α→Bool} {l:List α} {i:Nat} (hi:i<l.length) (h:p l[i]=true):l.any p=true:=by
 rw [List.any_eq_true];exact ⟨l[i],List.getElem_mem hi,h⟩
theorem any_no {α:Type} {p:α→Bool} {l:List α} {i:Nat} (h:∀ j (hj:j<l.length),j<i→p l[j]=false) (hi:¬ i<l.length):l.any p=false:=by
 rw [List.any_eq_false];intro x hx;obtain ⟨j,hj,rfl⟩:=List.mem_iff_getElem.1 hx;simp [h j hj (by omega)]
abbrev FewT (l:List Tm):Prop:=Few l∧∀ t ∈ l,Few t.set
theorem c26 (l:List Tm) (s:List Sl) (hl:FewT l) (hs:Few s):PC 26 [sl encTm l,sl encSl s] (vb (l.all fun t=>holds t s)):=by
 have hc:∀ i (h:i<l.length),PC 55 [.agg (encTm l[i]),sl encSl s] (vb (holds l[i] s)):=fun i h=>c55 l[i] s hs (hl.2 _ (List.getElem_mem h));obtain ⟨hl,_⟩:=hl;unfold Few at hl;refine Ps pl0 Tryz.func26 rfl (Nz rfl) ?_;refine Xi {i:Nat // i≤l.length∧∀ j (hj:j<l.length),j<i→holds l[j] s=true} (Xi (fun i=>⟨[(0,sl encTm l),(1,sl encSl s),(7,vi (l.map encTm).length),(8,vi i.1)],[],hfree⟩) (Xi (fun i=>l.length - i.1) (Yi (Xi ⟨0,by simp⟩ ?_) ?_)))
 ·exact ⟨Z4,Tv,Fh,Tv⟩
 ·intro ⟨i,h1,h2⟩;refine Yi ?_ ?_
  ·intro h;have h:(i:Int)<(l.map encTm).length:=h;have h:i<l.length:=by simpa using h
   have hg:l[i]?=some l[i]:=Ge h;have hci:=hc i h;refine Xi (encTm l[i]) (Yi (Yi (Nn i) (by simp [hg])) (Yi rfl (Yi (Nz rfl) ?_)));cases hp:holds l[i] s with
   | false =>
    rw [hp] at hci;refine Xi .pure (Xi _ (Yi hci ?_));rw [all_no (p:=fun t=>holds t s) h hp];exact .refl _
   | true =>
    rw [hp] at hci;refine Xi .pure (Xi _ (Yi hci ?_));refine Yi (Ii i (by omega)) ?_;refine Xi ⟨i+1,by omega,fun j hj hji=>?_⟩ ?_
    ·by_cases e:j=i
     ·subst e; exact hp
     ·exact h2 j hj (by omega)
    ·exact ⟨Dl l.length i (by omega),Z4,Tv,Fh,Tv⟩
  ·intro h;have h:¬ (i:Int)<(l.map encTm).length:=h;have h:¬ i<l.length:=by simpa using h
   rw [all_yes (p:=fun t=>holds t s) h2 h];exact .refl _
theorem c131 (x:Sl) (t:Tm):PC 131 [.agg (encSl x),.cptr (encTm t)] (vb (decide (x.path=t.path))):=by
 refine Ps pl0 Tryz.func131 rfl (Nz rfl) ?_;refine Yi ?_ ?_
 ·intro h;have h:x.path=t.path:=h;rw [decide_eq_true h];exact .refl _
 ·intro h;have h:¬ x.path=t.path:=h;rw [decide_eq_false h];exact .refl _
theorem c130 (t:Tm) (s:List Sl) (hs:Few s):PC 130 [.agg (encTm t),.cptr [sl encSl s]] (vb (!hasPath s t.path)):=by
 have hc:=c51 (Stable.ptr (encTm t)) s (fun x=>decide (x.path=t.path)) (fun x _=>c131 x t) hs;unfold hasPath;cases hp:s.any fun x=>decide (x.path=t.path) with
 | true =>
  rw [hp] at hc;refine Ps (plz [2]) Tryz.func130 rfl (Nz rfl) ?_;exact Xi .pure (Xi _ (Yi hc (.refl _)))
 | false =>
  rw [hp] at hc;refine Ps (plz [2]) Tryz.func130 rfl (Nz rfl) ?_;exact Xi .pure (Xi _ (Yi hc (.refl _)))
theorem c91 (l:List Tm) (s:List Sl) (hl:FewT l) (hs:Few s):PC 91 [sl encTm l,sl encSl s] (vb (entailed l s)):=by
 have hv:=c26 l s hl hs;have hc:=c129 (Stable.ptr [sl encSl s]) l (fun t=>!hasPath s t.path) (fun t _=>c130 t s hs) hl.1;unfold entailed violated;cases h1:l.all fun t=>holds t s with
 | false =>
  rw [h1] at hv;refine Ps (plz [3]) Tryz.func91 rfl (Nz rfl) ?_;exact Xi .pure (Xi _ (Yi hv (.refl _)))
 | true =>
  rw [h1] at hv;cases h2:l.any fun t=>!hasPath s t.path with
  | true =>
   rw [h2] at hc;refine Ps (plz [3]) Tryz.func91 rfl (Nz rfl) ?_;exact Xi .pure (Xi _ (Yi hv (Xi .pure (Xi _ (Yi hc (.refl _))))))
  | false =>
   rw [h2] at hc;refine Ps (plz [3]) Tryz.func91 rfl (Nz rfl) ?_;exact Xi .pure (Xi _ (Yi hv (Xi .pure (Xi _ (Yi hc (.refl _))))))
end Go.Eng

namespace Go.Eng
open Go.Proofs
def inR (p:Int) (s:Int × Int):Bool:=decide (max 0 s.1≤p)&&decide (p<min 1000000 s.2)
theorem inR_has (s:List (Int × Int)) (p:Int):s.any (inR p)=has s p:=by
 unfold has
 by_cases h:0≤p∧p<1000000
 ·rw [decide_eq_true h.1,decide_eq_true h.2];simp only [Bool.true_and]
  congr 1
  funext x
  unfold inR inSpan
  congr 1
  ·exact decide_eq_decide.2 (by omega)
  ·exact decide_eq_decide.2 (by omega)
 ·have e:(decide (0≤p)&&decide (p<1000000))=false:=by
   rcases Decidable.not_and_iff_or_not.1 h with h | h <;> simp [h]
  rw [e,Bool.false_and];rw [List.any_eq_false];intro x _;unfold inR;simp only [Bool.and_eq_true,not_and];intro h1 h2;have h1:=of_decide_eq_true h1;have h2:=of_decide_eq_true h2;exact h ⟨by omega,by omega⟩
theorem c132 (s:List (Int × Int)) (p:Int) (hl:Few s):PC 132 [sl encSpan s,vi p] (vb (has s p)):=by
 rw [← inR_has];unfold Few at hl;refine Ps pl0 Tryz.func132 rfl (Nz rfl) ?_;refine Xi {i:Nat // i≤s.length∧∀ j (hj:j<s.length),j<i→inR p s[j]=false} (Xi (fun i=>⟨[(0,sl encSpan s),(1,vi p),(5,vi i.1)],[],hfree⟩) (Xi (fun i=>s.length - i.1) (Yi (Xi ⟨0,by simp⟩ ?_) ?_)))
 ·exact ⟨Z3,Tv,Fh,Tv⟩
 ·intro ⟨i,h1,h2⟩;refine Yi ?_ ?_
  ·intro h;have h:(i:Int)<(s.map encSpan).length:=h;have h:i<s.length:=by simpa using h
   have hg:s[i]?=some s[i]:=Ge h;refine Xi (encSpan s[i]) (Yi (Yi (Nn i) (by simp [hg])) (Yi rfl ?_));refine Yi ?_ ?_
   ·intro h3;have h3:max 0 s[i].1≤p:=h3;refine Xi (encSpan s[i]) (Yi (Yi (Nn i) (by simp [hg])) (Yi rfl ?_));refine Yi ?_ ?_
    ·intro h4;have h4:p<min 1000000 s[i].2:=h4;have h5:inR p s[i]=true:=by unfold inR; rw [decide_eq_true h3,decide_eq_true h4]; rfl
     show Sub (vb true) (vb (s.any (inR p)));rw [any_yes (p:=inR p) h h5];exact .refl _
    ·intro h4;have h4:¬ p<min 1000000 s[i].2:=h4;refine Yi (Ii i (by omega)) ?_;refine Xi ⟨i+1,by omega,fun j hj hji=>?_⟩ ?_
     ·by_cases e:j=i
      ·subst e; unfold inR; rw [decide_eq_false h4,Bool.and_false]
      ·exact h2 j hj (by omega)
     ·exact ⟨Dl s.length i (by omega),Z3,Tv,Fh,Tv⟩
   ·intro h3;have h3:¬ max 0 s[i].1≤p:=h3;refine Yi (Ii i (by omega)) ?_;refine Xi ⟨i+1,by omega,fun j hj hji=>?_⟩ ?_
    ·by_cases e:j=i
     ·subst e; unfold inR; rw [decide_eq_false h3,Bool.false_and]
     ·exact h2 j hj (by omega)
    ·exact ⟨Dl s.length i (by omega),Z3,Tv,Fh,Tv⟩
  ·intro h;have h:¬ (i:Int)<(s.map encSpan).length:=h;have h:¬ i<s.length:=by simpa using h
   show Sub (vb false) (vb (s.any (inR p)));rw [any_no (p:=inR p) h2 h];exact .refl _
theorem c135 (s:List Sl) (p:ByteArray) (hl:Few s):PC 135 [sl encSl s,vs p] (vb (hasPath s p)):=by
 unfold Few at hl;unfold hasPath;refine Ps pl0 Tryz.func135 rfl (Nz rfl) ?_;refine Xi {i:Nat // i≤s.length∧∀ j (hj:j<s.length),j<i→decide (s[j].path=p)=false} (Xi (fun i=>⟨[(0,sl encSl s),(1,vs p),(5,vi i.1)],[],hfree⟩) (Xi (fun i=>s.length - i.1) (Yi (Xi ⟨0,by simp⟩ ?_) ?_)))
 ·exact ⟨Z3,Tv,Fh,Tv⟩
 ·intro ⟨i,h1,h2⟩;refine Yi ?_ ?_
  ·intro h;have h:(i:Int)<(s.map encSl).length:=h;have h:i<s.length:=by simpa using h
   have hg:s[i]?=some s[i]:=Ge h;refine Xi (encSl s[i]) (Yi (Yi (Nn i) (by simp [hg])) (Yi rfl ?_));refine Yi ?_ ?_
   ·intro h3;have h3:s[i].path=p:=h3;rw [any_yes (p:=fun x:Sl=>decide (x.path=p)) h (decide_eq_true h3)];exact .refl _
   ·intro h3;have h3:¬ s[i].path=p:=h3;refine Yi (Ii i (by omega)) ?_;refine Xi ⟨i+1,by omega,fun j hj hji=>?_⟩ ?_
    ·by_cases e:j=i
     ·subst e; exact decide_eq_false h3
     ·exact h2 j hj (by omega)
    ·exact ⟨Dl s.length i (by omega),Z3,Tv,Fh,Tv⟩
  ·intro h;have h:¬ (i:Int)<(s.map encSl).length:=h;have h:¬ i<s.length:=by simpa using h
   rw [any_no (p:=fun x:Sl=>decide (x.path=p)) h2 h];exact .refl _
end Go.Eng

namespace Go.Eng
open Go.Proofs
theorem c197 (n:Int):PC 197 [vi n] (vb (decide (okPart n))):=by
 refine Ps pl0 Tryz.func197 rfl (Nz rfl) ?_;refine Yi ?_ ?_
 ·intro h;have h:0≤n:=h;refine Yi ?_ ?_
  ·intro h2;have h2:n≤999:=h2;show Sub (vb true) (vb (decide (okPart n)));rw [decide_eq_true ⟨h,h2⟩];exact .refl _
  ·intro h2;have h2:¬ n≤999:=h2;show Sub (vb false) (vb (decide (okPart n)));rw [decide_eq_false fun q=>h2 q.2];exact .refl _
 ·intro h;have h:¬ 0≤n:=h;show Sub (vb false) (vb (decide (okPart n)));rw [decide_eq_false fun q=>h q.1];exact .refl _
theorem c168 (v:Ver):PC 168 [.agg (encVer v)] (vb (validB v)):=by
 have ha:=c197 v.a;have hb:=c197 v.b;have hc:=c197 v.c;unfold validB;cases h1:decide (okPart v.a) with
 | false =>
  rw [h1] at ha;refine Ps pl0 Tryz.func168 rfl (Nz rfl) ?_;exact Xi .pure (Xi _ (Yi ha (.refl _)))
 | true =>
  rw [h1] at ha;cases h2:decide (okPart v.b) with
  | false =>
   rw [h2] at hb;refine Ps pl0 Tryz.func168 rfl (Nz rfl) ?_;exact Xi .pure (Xi _ (Yi ha (Xi .pure (Xi _ (Yi hb (.refl _))))))
  | true =>
   rw [h2] at hb;refine Ps pl0 Tryz.func168 rfl (Nz rfl) ?_;exact Xi .pure (Xi _ (Yi ha (Xi .pure (Xi _ (Yi hb (Xi .pure (Xi _ (Yi hc (.refl _)))))))))
theorem c201 (v:Ver):PC 201 [.agg (encVer v)] (.tup [vi (if validB v then place v else 0),vi (if validB v then 0 else 2)]):=by
 have hc:=c168 v;cases h:validB v with
 | false =>
  rw [h] at hc;refine Ps pl0 Tryz.func201 rfl (Nz rfl) ?_;exact Yi (Nz rfl) (Xi .pure (Xi _ (Yi hc (.refl _))))
 | true =>
  rw [h] at hc;have hv:=valid_place h;refine Ps pl0 Tryz.func201 rfl (Nz rfl) ?_;refine Yi (Nz rfl) (Xi .pure (Xi _ (Yi hc ?_)));refine Yi (by show InI64 (1000*v.b); unfold InI64; omega) ?_;exact Yi (by show InI64 (1000*v.b+v.c); unfold InI64; omega) (.refl _)
end Go.Eng

namespace Go.Eng
open Go.Proofs
theorem find_at {α:Type} {p:α→Bool} : ∀ {l:List α} {i:Nat} (hi:i<l.length),(∀ j (hj:j<l.length),j<i→p l[j]=false)→p l[i]=true→l.find? p=some l[i]
 | x :: r,0,_,_,h=>by
  have h:p x=true:=h;simp [h]
 | x :: r,i+1,hi,hb,h=>by
  have h0:p x=false:=hb 0 (by simp) (by omega);rw [List.find?_cons,h0];exact find_at (l:=r) (i:=i) (by simpa using hi) (fun j hj hji=>hb (j+1) (by simpa using hj) (by omega)) h
theorem find_none {α:Type} {p:α→Bool} {l:List α} {i:Nat} (h:∀ j (hj:j<l.length),j<i→p l[j]=false) (hi:¬ i<l.length):l.find? p=none:=by
 rw [List.find?_eq_none];intro x hx;obtain ⟨j,hj,rfl⟩:=List.mem_iff_getElem.1 hx;simp [h j hj (by omega)]
theorem holds_at {t:Tm} {s:List Sl} {i:Nat} (hi:i<s.length) (h2:∀ j (hj:j<s.length),j<i→decide (s[j].path=t.path)=false) (h:s[i].path=t.path):holds t s=(validB s[i].ver&&has t.set (place s[i].ver)):=by
 unfold holds;rw [find_at (p:=fun x:Sl=>decide (x.path=t.path)) hi h2 (decide_eq_true h)]
theorem holds_none {t:Tm} {s:List Sl} {i:Nat} (h2:∀ j (hj:j<s.length),j<i→decide (s[j].path=t.path)=false) (hi:¬ i<s.length):holds t s=t.absent:=by
 unfold holds;rw [find_none (p:=fun x:Sl=>decide (x.path=t.path)) h2 hi]
theorem c178 (t:Tm) (s:List Sl) (hl:Few s) (ht:Few t.set):PC 178 [.agg (encTm t),sl encSl s] (vb (holds t s)):=by
 unfold Few at hl;refine Ps (plz [2]) Tryz.func178 rfl (Nz rfl) ?_;refine Xi {i:Nat // i≤s.length∧∀ j (hj:j<s.length),j<i→decide (s[j].path=t.path)=false} (Xi (fun i=>⟨[(1,sl encSl s),(2,.ref 2 0),(5,vi i.1)],[(2,.ro (encTm t))],hfree⟩) (Xi (fun i=>s.length - i.1) (Yi (Xi ⟨0,by simp⟩ ?_) ?_)))
 ·exact ⟨Z3,Z1,Fh,Tv⟩
 ·intro ⟨i,h1,h2⟩;refine Yi ?_ ?_
  ·intro h;have h:(i:Int)<(s.map encSl).length:=h;have h:i<s.length:=by simpa using h
   have hg:s[i]?=some s[i]:=Ge h;refine Xi (encSl s[i]) (Yi (Yi (Nn i) (by simp [hg])) (Yi rfl ?_));refine Yi ?_ ?_
   ·intro h3;have h3:s[i].path=t.path:=h3;refine Yi (by kernel_rfl) ?_;refine Xi (encSl s[i]) (Yi (Yi (Nn i) (by simp [hg])) (Yi rfl (Yi (Nz rfl) ?_)));have hp:=c201 s[i].ver;have hq:=holds_at h h2 h3;refine Or.elim (Bt (validB s[i].ver)) (fun hv=>?_) (fun hv=>?_)
    ·rw [hv,if_pos rfl,if_pos rfl] at hp;rw [hv,Bool.true_and] at hq;refine Xi .pure (Xi _ (Yi hp ?_));refine Yi ?_ ?_
     ·intro _;refine Xi .pure (Xi _ (Yi (c132 t.set (place s[i].ver) ht) ?_));show Sub (vb (has t.set (place s[i].ver))) (vb (holds t s));rw [hq];exact .refl _
     ·intro h;exact absurd rfl h
    ·rw [hv,if_neg (by decide),if_neg (by decide)] at hp;rw [hv,Bool.false_and] at hq;refine Xi .pure (Xi _ (Yi hp ?_));refine Yi ?_ ?_
     ·intro h;have h:(2:Int)=0:=h;omega
     ·intro _;show Sub (vb false) (vb (holds t s));rw [hq];exact .refl _
   ·intro h3;have h3:¬ s[i].path=t.path:=h3;refine Yi (by kernel_rfl) ?_;refine Yi (Ii i (by omega)) ?_;refine Xi ⟨i+1,by omega,fun j hj hji=>?_⟩ ?_
    ·by_cases e:j=i
     ·subst e; exact decide_eq_false h3
     ·exact h2 j hj (by omega)
    ·exact ⟨Dl s.length i (by omega),Z3,Z1,Fh,Tv⟩
  ·intro h;have h:¬ (i:Int)<(s.map encSl).length:=h;have h:¬ i<s.length:=by simpa using h
   have hq:=holds_none h2 h;refine Yi ?_ ?_
   ·intro h5;have h5:t.absent=true:=h5;show Sub (vb true) (vb (holds t s));rw [hq,h5];exact .refl _
   ·intro h5;have h5:t.absent=false:=h5;show Sub (vb false) (vb (holds t s));rw [hq,h5];exact .refl _
end Go.Eng
