/- Lemmas for the claims of this seat, without a condition: part 18 (Dat, LaySort, CSort, C1, C2, CS, C4, C5, C6, C7, C8, C9, C10, C11, C12, C13, C14, CSort2, C15, C16). -/
import Derived.Test.YtddfphmpfnmknaaGreatDoorFA16
import Derived.Test.YtddfphmpfnmknaaGreatDoorFA02
import Derived.Shelf.SlSortCmp.WholeK
import Derived.Shelf.Sort.Plain
import Derived.Shelf.Small.Strs
import Derived.Shelf.Small.Bits
import Derived.Ground.SlsfProg
import Derived.Ground.NamesProg
import Derived.Shelf.SlSortCmp.NoneTotal
set_option maxHeartbeats 1000000
namespace Go.Eng
open Go.Proofs
abbrev vi(n:Int):AV := .v (.int .i64 n)
abbrev vb(b:Bool):AV := .v (.bool b)
abbrev vs(s:ByteArray):AV := .v (.string s)
abbrev sl{α:Type}(enc:α → List AV)(l:List α):AV := .slice .none (l.map enc)
abbrev GE(v:Ver):List AV := [vi v.a,vi v.b,vi v.c]
abbrev Aq(s:Int×Int):List AV := [vi s.1,vi s.2]
abbrev AK(q:Rq):List AV := [vs q.path,sl Aq q.set]
abbrev Aj(r:Rl):List AV := [vs r.path,vi r.ver.a,vi r.ver.b,vi r.ver.c,sl AK r.reqs,vs r.arch,vs r.ifc,vs r.cert,vb r.yanked]
abbrev Ae(s:Sl):List AV := [vs s.path,vi s.ver.a,vi s.ver.b,vi s.ver.c]
abbrev AD(t:Tm):List AV := [vs t.path,vb t.absent,sl Aq t.set]
abbrev BU(i:Nf):List AV := [vi i.kind,vs i.path,vi i.place,vi i.number,vi i.left,vi i.right]
abbrev BL(s:Sk):List AV := [vs s.path,vi s.place,vi s.inf]
noncomputable abbrev dI(pl:RO):Cx := ⟨Tryz.prog,ml,pl,false,0,fun _ _ _ _ => True⟩
noncomputable abbrev KV(pl:RO):Cx := ⟨Tryz.prog,ml,pl,true,0,fun _ _ _ _ => True⟩
abbrev Gn:RO := ⟨[],[],[],[],[],[],[],[],[],[],[]⟩
abbrev PC(f:Nat)(args:List AV)(res:AV):Prop := Jc Tryz.prog f args res
theorem hm:Tryz.prog.follows .mixedOrders = true := by rfl
theorem Zr{α:Sort _}{β:Sort _}{a:α}{b:β}:a = a ∧ b = b := ⟨rfl,rfl⟩
theorem Nz{a b:Nat}(h:Nat.ble a b = true):a ≤ b := HX h
theorem Xi{α:Sort _}{p:α → Prop}(w:α)(h:p w):Exists p := Exists.intro w h
theorem Yi{a b:Prop}(h:a)(k:b):a ∧ b := And.intro h k
theorem Fh{st:St}{h:Nat → HO}:∀j,Ab j = .free ∨ (st.h j = Ab j ∧ XP h (Ab j) = true) := fun _ => .inl rfl
theorem Tv:True := trivial
theorem Ii(i:Nat)(h:i ≤ 9223372036854775806):BR ((i:Int) + 1) := by unfold BR;omega
theorem Dl(n i:Nat)(h:i<n):n-(i + 1)<n-i := by omega
theorem Bt(b:Bool):b = true ∨ b = false := Bool.eq_false_or_eq_true b
theorem Z1{α:Type}{a0:α}{b0:Bool}:(a0 = a0 ∧ b0 = b0) ∧ True := ⟨⟨rfl,rfl⟩,trivial⟩
theorem Z2{α:Type}{a0 a1:α}{b0 b1:Bool}:(a0 = a0 ∧ b0 = b0) ∧ (a1 = a1 ∧ b1 = b1) ∧ True := ⟨⟨rfl,rfl⟩,⟨rfl,rfl⟩,trivial⟩
theorem Z3{α:Type}{a0 a1 a2:α}{b0 b1 b2:Bool}:(a0 = a0 ∧ b0 = b0) ∧ (a1 = a1 ∧ b1 = b1) ∧ (a2 = a2 ∧ b2 = b2) ∧ True := ⟨⟨rfl,rfl⟩,⟨rfl,rfl⟩,⟨rfl,rfl⟩,trivial⟩
theorem Z4{α:Type}{a0 a1 a2 a3:α}{b0 b1 b2 b3:Bool}:(a0 = a0 ∧ b0 = b0) ∧ (a1 = a1 ∧ b1 = b1) ∧ (a2 = a2 ∧ b2 = b2) ∧ (a3 = a3 ∧ b3 = b3) ∧ True := ⟨⟨rfl,rfl⟩,⟨rfl,rfl⟩,⟨rfl,rfl⟩,⟨rfl,rfl⟩,trivial⟩
theorem Z5{α:Type}{a0 a1 a2 a3 a4:α}{b0 b1 b2 b3 b4:Bool}:(a0 = a0 ∧ b0 = b0) ∧ (a1 = a1 ∧ b1 = b1) ∧ (a2 = a2 ∧ b2 = b2) ∧ (a3 = a3 ∧ b3 = b3) ∧ (a4 = a4 ∧ b4 = b4) ∧ True := ⟨⟨rfl,rfl⟩,⟨rfl,rfl⟩,⟨rfl,rfl⟩,⟨rfl,rfl⟩,⟨rfl,rfl⟩,trivial⟩
theorem Z6{α:Type}{a0 a1 a2 a3 a4 a5:α}{b0 b1 b2 b3 b4 b5:Bool}:(a0 = a0 ∧ b0 = b0) ∧ (a1 = a1 ∧ b1 = b1) ∧ (a2 = a2 ∧ b2 = b2) ∧ (a3 = a3 ∧ b3 = b3) ∧ (a4 = a4 ∧ b4 = b4) ∧ (a5 = a5 ∧ b5 = b5) ∧ True := ⟨⟨rfl,rfl⟩,⟨rfl,rfl⟩,⟨rfl,rfl⟩,⟨rfl,rfl⟩,⟨rfl,rfl⟩,⟨rfl,rfl⟩,trivial⟩
theorem Z7{α:Type}{a0 a1 a2 a3 a4 a5 a6:α}{b0 b1 b2 b3 b4 b5 b6:Bool}:(a0 = a0 ∧ b0 = b0) ∧ (a1 = a1 ∧ b1 = b1) ∧ (a2 = a2 ∧ b2 = b2) ∧ (a3 = a3 ∧ b3 = b3) ∧ (a4 = a4 ∧ b4 = b4) ∧ (a5 = a5 ∧ b5 = b5) ∧ (a6 = a6 ∧ b6 = b6) ∧ True := ⟨⟨rfl,rfl⟩,⟨rfl,rfl⟩,⟨rfl,rfl⟩,⟨rfl,rfl⟩,⟨rfl,rfl⟩,⟨rfl,rfl⟩,⟨rfl,rfl⟩,trivial⟩
theorem Z8{α:Type}{a0 a1 a2 a3 a4 a5 a6 a7:α}{b0 b1 b2 b3 b4 b5 b6 b7:Bool}:(a0 = a0 ∧ b0 = b0) ∧ (a1 = a1 ∧ b1 = b1) ∧ (a2 = a2 ∧ b2 = b2) ∧ (a3 = a3 ∧ b3 = b3) ∧ (a4 = a4 ∧ b4 = b4) ∧ (a5 = a5 ∧ b5 = b5) ∧ (a6 = a6 ∧ b6 = b6) ∧ (a7 = a7 ∧ b7 = b7) ∧ True := ⟨⟨rfl,rfl⟩,⟨rfl,rfl⟩,⟨rfl,rfl⟩,⟨rfl,rfl⟩,⟨rfl,rfl⟩,⟨rfl,rfl⟩,⟨rfl,rfl⟩,⟨rfl,rfl⟩,trivial⟩
theorem Z9{α:Type}{a0 a1 a2 a3 a4 a5 a6 a7 a8:α}{b0 b1 b2 b3 b4 b5 b6 b7 b8:Bool}:(a0 = a0 ∧ b0 = b0) ∧ (a1 = a1 ∧ b1 = b1) ∧ (a2 = a2 ∧ b2 = b2) ∧ (a3 = a3 ∧ b3 = b3) ∧ (a4 = a4 ∧ b4 = b4) ∧ (a5 = a5 ∧ b5 = b5) ∧ (a6 = a6 ∧ b6 = b6) ∧ (a7 = a7 ∧ b7 = b7) ∧ (a8 = a8 ∧ b8 = b8) ∧ True := ⟨⟨rfl,rfl⟩,⟨rfl,rfl⟩,⟨rfl,rfl⟩,⟨rfl,rfl⟩,⟨rfl,rfl⟩,⟨rfl,rfl⟩,⟨rfl,rfl⟩,⟨rfl,rfl⟩,⟨rfl,rfl⟩,trivial⟩
theorem Z10{α:Type}{a0 a1 a2 a3 a4 a5 a6 a7 a8 a9:α}{b0 b1 b2 b3 b4 b5 b6 b7 b8 b9:Bool}:(a0 = a0 ∧ b0 = b0) ∧ (a1 = a1 ∧ b1 = b1) ∧ (a2 = a2 ∧ b2 = b2) ∧ (a3 = a3 ∧ b3 = b3) ∧ (a4 = a4 ∧ b4 = b4) ∧ (a5 = a5 ∧ b5 = b5) ∧ (a6 = a6 ∧ b6 = b6) ∧ (a7 = a7 ∧ b7 = b7) ∧ (a8 = a8 ∧ b8 = b8) ∧ (a9 = a9 ∧ b9 = b9) ∧ True := ⟨⟨rfl,rfl⟩,⟨rfl,rfl⟩,⟨rfl,rfl⟩,⟨rfl,rfl⟩,⟨rfl,rfl⟩,⟨rfl,rfl⟩,⟨rfl,rfl⟩,⟨rfl,rfl⟩,⟨rfl,rfl⟩,⟨rfl,rfl⟩,trivial⟩
theorem Z11{α:Type}{a0 a1 a2 a3 a4 a5 a6 a7 a8 a9 WV:α}{b0 b1 b2 b3 b4 b5 b6 b7 b8 b9 YE:Bool}:(a0 = a0 ∧ b0 = b0) ∧ (a1 = a1 ∧ b1 = b1) ∧ (a2 = a2 ∧ b2 = b2) ∧ (a3 = a3 ∧ b3 = b3) ∧ (a4 = a4 ∧ b4 = b4) ∧ (a5 = a5 ∧ b5 = b5) ∧ (a6 = a6 ∧ b6 = b6) ∧ (a7 = a7 ∧ b7 = b7) ∧ (a8 = a8 ∧ b8 = b8) ∧ (a9 = a9 ∧ b9 = b9) ∧ (WV = WV ∧ YE = YE) ∧ True := ⟨⟨rfl,rfl⟩,⟨rfl,rfl⟩,⟨rfl,rfl⟩,⟨rfl,rfl⟩,⟨rfl,rfl⟩,⟨rfl,rfl⟩,⟨rfl,rfl⟩,⟨rfl,rfl⟩,⟨rfl,rfl⟩,⟨rfl,rfl⟩,⟨rfl,rfl⟩,trivial⟩
theorem Z12{α:Type}{a0 a1 a2 a3 a4 a5 a6 a7 a8 a9 WV ZV:α}{b0 b1 b2 b3 b4 b5 b6 b7 b8 b9 YE mO:Bool}:(a0 = a0 ∧ b0 = b0) ∧ (a1 = a1 ∧ b1 = b1) ∧ (a2 = a2 ∧ b2 = b2) ∧ (a3 = a3 ∧ b3 = b3) ∧ (a4 = a4 ∧ b4 = b4) ∧ (a5 = a5 ∧ b5 = b5) ∧ (a6 = a6 ∧ b6 = b6) ∧ (a7 = a7 ∧ b7 = b7) ∧ (a8 = a8 ∧ b8 = b8) ∧ (a9 = a9 ∧ b9 = b9) ∧ (WV = WV ∧ YE = YE) ∧ (ZV = ZV ∧ mO = mO) ∧ True := ⟨⟨rfl,rfl⟩,⟨rfl,rfl⟩,⟨rfl,rfl⟩,⟨rfl,rfl⟩,⟨rfl,rfl⟩,⟨rfl,rfl⟩,⟨rfl,rfl⟩,⟨rfl,rfl⟩,⟨rfl,rfl⟩,⟨rfl,rfl⟩,⟨rfl,rfl⟩,⟨rfl,rfl⟩,trivial⟩
theorem Z13{α:Type}{a0 a1 a2 a3 a4 a5 a6 a7 a8 a9 WV ZV a12:α}{b0 b1 b2 b3 b4 b5 b6 b7 b8 b9 YE mO sx:Bool}:(a0 = a0 ∧ b0 = b0) ∧ (a1 = a1 ∧ b1 = b1) ∧ (a2 = a2 ∧ b2 = b2) ∧ (a3 = a3 ∧ b3 = b3) ∧ (a4 = a4 ∧ b4 = b4) ∧ (a5 = a5 ∧ b5 = b5) ∧ (a6 = a6 ∧ b6 = b6) ∧ (a7 = a7 ∧ b7 = b7) ∧ (a8 = a8 ∧ b8 = b8) ∧ (a9 = a9 ∧ b9 = b9) ∧ (WV = WV ∧ YE = YE) ∧ (ZV = ZV ∧ mO = mO) ∧ (a12 = a12 ∧ sx = sx) ∧ True := ⟨⟨rfl,rfl⟩,⟨rfl,rfl⟩,⟨rfl,rfl⟩,⟨rfl,rfl⟩,⟨rfl,rfl⟩,⟨rfl,rfl⟩,⟨rfl,rfl⟩,⟨rfl,rfl⟩,⟨rfl,rfl⟩,⟨rfl,rfl⟩,⟨rfl,rfl⟩,⟨rfl,rfl⟩,⟨rfl,rfl⟩,trivial⟩
theorem Nn(i:Nat):(0:Int) ≤ (i:Int) := Int.natCast_nonneg i
abbrev Ic(x:List Rl)(ifs:List (List AV)):List AV := [sl Aj x,.slice .none ifs]
theorem Ps{f:Nat}{fn:Func}{c:Code}{args:List AV}{res:AV}(pl:RO)(hf:Tryz.prog.funcs[f]? = some fn)(hb:fn.body = some c)(hN:args.length ≤ fn.ntmps)(hk:Rc (dI pl) c (nf (dI pl) fn.results.toList fun r => Hk r res) ⟨On args,Ab⟩)
    (hn : (fn.name == "runtime.NumGoroutine") = false := by kernel_rfl) (hc : En fn.ntmps c = true := by kernel_rfl) : Jc Tryz.prog f args res := FZ (dI pl) rfl Ck hm rfl hf hn hb hN hc hk
theorem Lm{α β:Type}(f:α → β){l:List α}:(l.map f).length = l.length := A6 f
theorem Ge{α:Type}{l:List α}{i:Nat}(h:i<l.length):l[i]? = some l[i] := At h
end Go.Eng
namespace Go.Proofs
open Go.Shelf
def Tryz.layPdqSpan_ren:Go.Shelf.Ren:=⟨fun | 14=>205 | 20=>233 | 21=>234 | 22=>235 | 23=>236 | 24=>237 | 25=>238 | 26=>239 | 27=>240 | 46=>255 | 47=>186 | 48=>187 | 49=>256 | 50=>257 | 15=>98 | 57=>276 | 28=>137 | 29=>138 | n=>n,fun | 24=>67 | 22=>68 | 3=>3 | 25=>231 | 4=>4 | 0=>0 | 46=>205 | 45=>204 | 50=>110 | 66=>245 | 39=>174 | 55=>213 | 70=>249 | 76=>274 | 77=>275 | 53=>211 | 5=>5 | 9=>9 | n=>n,fun | n=>n⟩
theorem Tryz.layPdqSpan:Go.Proofs.SlLaysF0.n14 Tryz.prog Tryz.layPdqSpan_ren:={
 mixed:=by kernel_rfl
 f14:=⟨Tryz.f205.name,by decide,Tryz.func205.trans (congrArg some (by kernel_rfl))⟩
 f15:=Tryz.func98.trans (congrArg some (by kernel_rfl))
 f20:=⟨Tryz.f233.name,by decide,Tryz.func233.trans (congrArg some (by kernel_rfl))⟩
 f21:=⟨Tryz.f234.name,by decide,Tryz.func234.trans (congrArg some (by kernel_rfl))⟩
 f22:=⟨Tryz.f235.name,by decide,Tryz.func235.trans (congrArg some (by kernel_rfl))⟩
 f23:=⟨Tryz.f236.name,by decide,Tryz.func236.trans (congrArg some (by kernel_rfl))⟩
 f24:=⟨Tryz.f237.name,by decide,Tryz.func237.trans (congrArg some (by kernel_rfl))⟩
 f25:=⟨Tryz.f238.name,by decide,Tryz.func238.trans (congrArg some (by kernel_rfl))⟩
 f26:=⟨Tryz.f239.name,by decide,Tryz.func239.trans (congrArg some (by kernel_rfl))⟩
 f27:=⟨Tryz.f240.name,by decide,Tryz.func240.trans (congrArg some (by kernel_rfl))⟩
 f28:=Tryz.func137.trans (congrArg some (by kernel_rfl))
 f29:=Tryz.func138.trans (congrArg some (by kernel_rfl))
 f46:=⟨Tryz.f255.name,by decide,Tryz.func255.trans (congrArg some (by kernel_rfl))⟩
 f47:=Tryz.func186.trans (congrArg some (by kernel_rfl))
 f48:=Tryz.func187.trans (congrArg some (by kernel_rfl))
 f49:=⟨Tryz.f256.name,by decide,Tryz.func256.trans (congrArg some (by kernel_rfl))⟩
 f50:=⟨Tryz.f257.name,by decide,Tryz.func257.trans (congrArg some (by kernel_rfl))⟩
 f57:=⟨Tryz.f276.name,by decide,Tryz.func276.trans (congrArg some (by kernel_rfl))⟩
 t0:=Tryz.underlying0
 a0:=Tryz.isAgg0
 z0:=Tryz.sizeOf0
 v0:=Tryz.zeroValue0
 t3:=Tryz.underlying3
 a3:=Tryz.isAgg3
 z3:=Tryz.sizeOf3
 v3:=Tryz.zeroValue3
 t4:=Tryz.underlying4
 a4:=Tryz.isAgg4
 z4:=Tryz.sizeOf4
 v4:=Tryz.zeroValue4
 t5:=Tryz.underlying5
 a5:=Tryz.isAgg5
 z5:=Tryz.sizeOf5
 v5:=Tryz.zeroValue5
 t9:=Tryz.underlying9
 a9:=Tryz.isAgg9
 z9:=Tryz.sizeOf9
 v9:=Tryz.zeroValue9
 t22:=Tryz.underlying68
 a22:=Tryz.isAgg68
 z22:=Tryz.sizeOf68
 v22:=Tryz.zeroValue68
 t25:=Tryz.underlying231
 a25:=Tryz.isAgg231
 z25:=Tryz.sizeOf231
 v25:=Tryz.zeroValue231
 t39:=Tryz.underlying174
 a39:=Tryz.isAgg174
 z39:=Tryz.sizeOf174
 v39:=Tryz.zeroValue174
 t45:=Tryz.underlying204
 a45:=Tryz.isAgg204
 z45:=Tryz.sizeOf204
 v45:=Tryz.zeroValue204
 t46:=Tryz.underlying205
 a46:=Tryz.isAgg205
 z46:=Tryz.sizeOf205
 v46:=Tryz.zeroValue205
 t50:=Tryz.underlying110
 a50:=Tryz.isAgg110
 z50:=Tryz.sizeOf110
 v50:=Tryz.zeroValue110
 t53:=Tryz.underlying211
 a53:=Tryz.isAgg211
 z53:=Tryz.sizeOf211
 v53:=Tryz.zeroValue211
 t55:=Tryz.underlying213
 a55:=Tryz.isAgg213
 z55:=Tryz.sizeOf213
 v55:=Tryz.zeroValue213
 t66:=Tryz.underlying245
 a66:=Tryz.isAgg245
 z66:=Tryz.sizeOf245
 v66:=Tryz.zeroValue245
 t70:=Tryz.underlying249
 a70:=Tryz.isAgg249
 z70:=Tryz.sizeOf249
 v70:=Tryz.zeroValue249
 t76:=Tryz.underlying274
 a76:=Tryz.isAgg274
 z76:=Tryz.sizeOf274
 v76:=Tryz.zeroValue274
 t77:=Tryz.underlying275
 a77:=Tryz.isAgg275
 z77:=Tryz.sizeOf275
 v77:=Tryz.zeroValue275 }
def Tryz.layPdqTerm_ren:Go.Shelf.Ren:=⟨fun | 14=>244 | 20=>260 | 21=>261 | 22=>262 | 23=>263 | 24=>264 | 25=>265 | 26=>266 | 27=>267 | 46=>286 | 47=>186 | 48=>187 | 49=>287 | 50=>288 | 15=>98 | 57=>295 | 28=>137 | 29=>138 | n=>n,fun | 24=>198 | 22=>167 | 3=>3 | 25=>272 | 4=>4 | 0=>0 | 46=>205 | 45=>204 | 50=>110 | 66=>245 | 39=>174 | 55=>213 | 70=>249 | 76=>274 | 77=>275 | 53=>211 | 5=>5 | 9=>9 | n=>n,fun | n=>n⟩
theorem Tryz.layPdqTerm:Go.Proofs.SlLaysF0.n14 Tryz.prog Tryz.layPdqTerm_ren:={
 mixed:=by kernel_rfl
 f14:=⟨Tryz.f244.name,by decide,Tryz.func244.trans (congrArg some (by kernel_rfl))⟩
 f15:=Tryz.func98.trans (congrArg some (by kernel_rfl))
 f20:=⟨Tryz.f260.name,by decide,Tryz.func260.trans (congrArg some (by kernel_rfl))⟩
 f21:=⟨Tryz.f261.name,by decide,Tryz.func261.trans (congrArg some (by kernel_rfl))⟩
 f22:=⟨Tryz.f262.name,by decide,Tryz.func262.trans (congrArg some (by kernel_rfl))⟩
 f23:=⟨Tryz.f263.name,by decide,Tryz.func263.trans (congrArg some (by kernel_rfl))⟩
 f24:=⟨Tryz.f264.name,by decide,Tryz.func264.trans (congrArg some (by kernel_rfl))⟩
 f25:=⟨Tryz.f265.name,by decide,Tryz.func265.trans (congrArg some (by kernel_rfl))⟩
 f26:=⟨Tryz.f266.name,by decide,Tryz.func266.trans (congrArg some (by kernel_rfl))⟩
 f27:=⟨Tryz.f267.name,by decide,Tryz.func267.trans (congrArg some (by kernel_rfl))⟩
 f28:=Tryz.func137.trans (congrArg some (by kernel_rfl))
 f29:=Tryz.func138.trans (congrArg some (by kernel_rfl))
 f46:=⟨Tryz.f286.name,by decide,Tryz.func286.trans (congrArg some (by kernel_rfl))⟩
 f47:=Tryz.func186.trans (congrArg some (by kernel_rfl))
 f48:=Tryz.func187.trans (congrArg some (by kernel_rfl))
 f49:=⟨Tryz.f287.name,by decide,Tryz.func287.trans (congrArg some (by kernel_rfl))⟩
 f50:=⟨Tryz.f288.name,by decide,Tryz.func288.trans (congrArg some (by kernel_rfl))⟩
 f57:=⟨Tryz.f295.name,by decide,Tryz.func295.trans (congrArg some (by kernel_rfl))⟩
 t0:=Tryz.underlying0
 a0:=Tryz.isAgg0
 z0:=Tryz.sizeOf0
 v0:=Tryz.zeroValue0
 t3:=Tryz.underlying3
 a3:=Tryz.isAgg3
 z3:=Tryz.sizeOf3
 v3:=Tryz.zeroValue3
 t4:=Tryz.underlying4
 a4:=Tryz.isAgg4
 z4:=Tryz.sizeOf4
 v4:=Tryz.zeroValue4
 t5:=Tryz.underlying5
 a5:=Tryz.isAgg5
 z5:=Tryz.sizeOf5
 v5:=Tryz.zeroValue5
 t9:=Tryz.underlying9
 a9:=Tryz.isAgg9
 z9:=Tryz.sizeOf9
 v9:=Tryz.zeroValue9
 t22:=Tryz.underlying167
 a22:=Tryz.isAgg167
 z22:=Tryz.sizeOf167
 v22:=Tryz.zeroValue167
 t25:=Tryz.underlying272
 a25:=Tryz.isAgg272
 z25:=Tryz.sizeOf272
 v25:=Tryz.zeroValue272
 t39:=Tryz.underlying174
 a39:=Tryz.isAgg174
 z39:=Tryz.sizeOf174
 v39:=Tryz.zeroValue174
 t45:=Tryz.underlying204
 a45:=Tryz.isAgg204
 z45:=Tryz.sizeOf204
 v45:=Tryz.zeroValue204
 t46:=Tryz.underlying205
 a46:=Tryz.isAgg205
 z46:=Tryz.sizeOf205
 v46:=Tryz.zeroValue205
 t50:=Tryz.underlying110
 a50:=Tryz.isAgg110
 z50:=Tryz.sizeOf110
 v50:=Tryz.zeroValue110
 t53:=Tryz.underlying211
 a53:=Tryz.isAgg211
 z53:=Tryz.sizeOf211
 v53:=Tryz.zeroValue211
 t55:=Tryz.underlying213
 a55:=Tryz.isAgg213
 z55:=Tryz.sizeOf213
 v55:=Tryz.zeroValue213
 t66:=Tryz.underlying245
 a66:=Tryz.isAgg245
 z66:=Tryz.sizeOf245
 v66:=Tryz.zeroValue245
 t70:=Tryz.underlying249
 a70:=Tryz.isAgg249
 z70:=Tryz.sizeOf249
 v70:=Tryz.zeroValue249
 t76:=Tryz.underlying274
 a76:=Tryz.isAgg274
 z76:=Tryz.sizeOf274
 v76:=Tryz.zeroValue274
 t77:=Tryz.underlying275
 a77:=Tryz.isAgg275
 z77:=Tryz.sizeOf275
 v77:=Tryz.zeroValue275 }
def Tryz.layPdqSel_ren:Go.Shelf.Ren:=⟨fun | 14=>97 | 20=>129 | 21=>130 | 22=>131 | 23=>132 | 24=>133 | 25=>134 | 26=>135 | 27=>136 | 46=>185 | 47=>186 | 48=>187 | 49=>188 | 50=>189 | 15=>98 | 57=>221 | 28=>137 | 29=>138 | n=>n,fun | 24=>29 | 22=>45 | 3=>3 | 25=>123 | 4=>4 | 0=>0 | 46=>205 | 45=>204 | 50=>110 | 66=>245 | 39=>174 | 55=>213 | 70=>249 | 76=>274 | 77=>275 | 53=>211 | 5=>5 | 9=>9 | n=>n,fun | n=>n⟩
theorem Tryz.layPdqSel:Go.Proofs.SlLaysF0.n14 Tryz.prog Tryz.layPdqSel_ren:={
 mixed:=by kernel_rfl
 f14:=⟨Tryz.f97.name,by decide,Tryz.func97.trans (congrArg some (by kernel_rfl))⟩
 f15:=Tryz.func98.trans (congrArg some (by kernel_rfl))
 f20:=⟨Tryz.f129.name,by decide,Tryz.func129.trans (congrArg some (by kernel_rfl))⟩
 f21:=⟨Tryz.f130.name,by decide,Tryz.func130.trans (congrArg some (by kernel_rfl))⟩
 f22:=⟨Tryz.f131.name,by decide,Tryz.func131.trans (congrArg some (by kernel_rfl))⟩
 f23:=⟨Tryz.f132.name,by decide,Tryz.func132.trans (congrArg some (by kernel_rfl))⟩
 f24:=⟨Tryz.f133.name,by decide,Tryz.func133.trans (congrArg some (by kernel_rfl))⟩
 f25:=⟨Tryz.f134.name,by decide,Tryz.func134.trans (congrArg some (by kernel_rfl))⟩
 f26:=⟨Tryz.f135.name,by decide,Tryz.func135.trans (congrArg some (by kernel_rfl))⟩
 f27:=⟨Tryz.f136.name,by decide,Tryz.func136.trans (congrArg some (by kernel_rfl))⟩
 f28:=Tryz.func137.trans (congrArg some (by kernel_rfl))
 f29:=Tryz.func138.trans (congrArg some (by kernel_rfl))
 f46:=⟨Tryz.f185.name,by decide,Tryz.func185.trans (congrArg some (by kernel_rfl))⟩
 f47:=Tryz.func186.trans (congrArg some (by kernel_rfl))
 f48:=Tryz.func187.trans (congrArg some (by kernel_rfl))
 f49:=⟨Tryz.f188.name,by decide,Tryz.func188.trans (congrArg some (by kernel_rfl))⟩
 f50:=⟨Tryz.f189.name,by decide,Tryz.func189.trans (congrArg some (by kernel_rfl))⟩
 f57:=⟨Tryz.f221.name,by decide,Tryz.func221.trans (congrArg some (by kernel_rfl))⟩
 t0:=Tryz.underlying0
 a0:=Tryz.isAgg0
 z0:=Tryz.sizeOf0
 v0:=Tryz.zeroValue0
 t3:=Tryz.underlying3
 a3:=Tryz.isAgg3
 z3:=Tryz.sizeOf3
 v3:=Tryz.zeroValue3
 t4:=Tryz.underlying4
 a4:=Tryz.isAgg4
 z4:=Tryz.sizeOf4
 v4:=Tryz.zeroValue4
 t5:=Tryz.underlying5
 a5:=Tryz.isAgg5
 z5:=Tryz.sizeOf5
 v5:=Tryz.zeroValue5
 t9:=Tryz.underlying9
 a9:=Tryz.isAgg9
 z9:=Tryz.sizeOf9
 v9:=Tryz.zeroValue9
 t22:=Tryz.underlying45
 a22:=Tryz.isAgg45
 z22:=Tryz.sizeOf45
 v22:=Tryz.zeroValue45
 t25:=Tryz.underlying123
 a25:=Tryz.isAgg123
 z25:=Tryz.sizeOf123
 v25:=Tryz.zeroValue123
 t39:=Tryz.underlying174
 a39:=Tryz.isAgg174
 z39:=Tryz.sizeOf174
 v39:=Tryz.zeroValue174
 t45:=Tryz.underlying204
 a45:=Tryz.isAgg204
 z45:=Tryz.sizeOf204
 v45:=Tryz.zeroValue204
 t46:=Tryz.underlying205
 a46:=Tryz.isAgg205
 z46:=Tryz.sizeOf205
 v46:=Tryz.zeroValue205
 t50:=Tryz.underlying110
 a50:=Tryz.isAgg110
 z50:=Tryz.sizeOf110
 v50:=Tryz.zeroValue110
 t53:=Tryz.underlying211
 a53:=Tryz.isAgg211
 z53:=Tryz.sizeOf211
 v53:=Tryz.zeroValue211
 t55:=Tryz.underlying213
 a55:=Tryz.isAgg213
 z55:=Tryz.sizeOf213
 v55:=Tryz.zeroValue213
 t66:=Tryz.underlying245
 a66:=Tryz.isAgg245
 z66:=Tryz.sizeOf245
 v66:=Tryz.zeroValue245
 t70:=Tryz.underlying249
 a70:=Tryz.isAgg249
 z70:=Tryz.sizeOf249
 v70:=Tryz.zeroValue249
 t76:=Tryz.underlying274
 a76:=Tryz.isAgg274
 z76:=Tryz.sizeOf274
 v76:=Tryz.zeroValue274
 t77:=Tryz.underlying275
 a77:=Tryz.isAgg275
 z77:=Tryz.sizeOf275
 v77:=Tryz.zeroValue275 }
def Tryz.layCompare_ren:Go.Shelf.Ren:=⟨fun | 106=>69 | 213=>99 | 265=>139 | n=>n,fun | 9=>9 | 3=>3 | n=>n,fun | n=>n⟩
theorem Tryz.layCompare:Go.Proofs.Lays.n106 Tryz.prog Tryz.layCompare_ren:={
 mixed:=by kernel_rfl
 f106:=Tryz.func69.trans (congrArg some (by kernel_rfl))
 f213:=Tryz.func99.trans (congrArg some (by kernel_rfl))
 f265:=Tryz.func139.trans (congrArg some (by kernel_rfl))
 t3:=Tryz.underlying3
 a3:=Tryz.isAgg3
 z3:=Tryz.sizeOf3
 v3:=Tryz.zeroValue3
 t9:=Tryz.underlying9
 a9:=Tryz.isAgg9
 z9:=Tryz.sizeOf9
 v9:=Tryz.zeroValue9 }
def Tryz.layBits_ren:Go.Shelf.Ren:=⟨fun | 125=>98 | 128=>137 | 129=>138 | n=>n,fun | 46=>174 | 3=>3 | 51=>211 | 53=>213 | 4=>4 | 5=>5 | 9=>9 | n=>n,fun | n=>n⟩
theorem Tryz.layBits:Go.Proofs.Lays.n125 Tryz.prog Tryz.layBits_ren:={
 mixed:=by kernel_rfl
 f125:=Tryz.func98.trans (congrArg some (by kernel_rfl))
 f128:=Tryz.func137.trans (congrArg some (by kernel_rfl))
 f129:=Tryz.func138.trans (congrArg some (by kernel_rfl))
 t3:=Tryz.underlying3
 a3:=Tryz.isAgg3
 z3:=Tryz.sizeOf3
 v3:=Tryz.zeroValue3
 t4:=Tryz.underlying4
 a4:=Tryz.isAgg4
 z4:=Tryz.sizeOf4
 v4:=Tryz.zeroValue4
 t5:=Tryz.underlying5
 a5:=Tryz.isAgg5
 z5:=Tryz.sizeOf5
 v5:=Tryz.zeroValue5
 t9:=Tryz.underlying9
 a9:=Tryz.isAgg9
 z9:=Tryz.sizeOf9
 v9:=Tryz.zeroValue9
 t46:=Tryz.underlying174
 a46:=Tryz.isAgg174
 z46:=Tryz.sizeOf174
 v46:=Tryz.zeroValue174
 t51:=Tryz.underlying211
 a51:=Tryz.isAgg211
 z51:=Tryz.sizeOf211
 v51:=Tryz.zeroValue211
 t53:=Tryz.underlying213
 a53:=Tryz.isAgg213
 z53:=Tryz.sizeOf213
 v53:=Tryz.zeroValue213 }
def Tryz.laySortInts_ren:Go.Shelf.Ren:=⟨fun | 189=>242 | 125=>98 | 257=>258 | 128=>137 | 129=>138 | 294=>277 | 295=>278 | 296=>279 | 297=>280 | 298=>281 | 299=>282 | 216=>283 | 300=>284 | 301=>285 | 328=>292 | 329=>186 | 330=>187 | 331=>293 | 332=>294 | 215=>167 | 343=>297 | n=>n,fun | 28=>155 | 3=>3 | 46=>174 | 0=>0 | 51=>211 | 53=>213 | 4=>4 | 183=>205 | 182=>204 | 131=>110 | 5=>5 | 9=>9 | 218=>245 | 222=>249 | 228=>274 | 229=>275 | n=>n,fun | n=>n⟩
theorem Tryz.laySortInts:Go.Proofs.Lays.n189 Tryz.prog Tryz.laySortInts_ren:={
 mixed:=by kernel_rfl
 f125:=Tryz.func98.trans (congrArg some (by kernel_rfl))
 f128:=Tryz.func137.trans (congrArg some (by kernel_rfl))
 f129:=Tryz.func138.trans (congrArg some (by kernel_rfl))
 f189:=Tryz.func242.trans (congrArg some (by kernel_rfl))
 f215:=Tryz.func167.trans (congrArg some (by kernel_rfl))
 f216:=Tryz.func283.trans (congrArg some (by kernel_rfl))
 f257:=Tryz.func258.trans (congrArg some (by kernel_rfl))
 f294:=Tryz.func277.trans (congrArg some (by kernel_rfl))
 f295:=Tryz.func278.trans (congrArg some (by kernel_rfl))
 f296:=Tryz.func279.trans (congrArg some (by kernel_rfl))
 f297:=Tryz.func280.trans (congrArg some (by kernel_rfl))
 f298:=Tryz.func281.trans (congrArg some (by kernel_rfl))
 f299:=Tryz.func282.trans (congrArg some (by kernel_rfl))
 f300:=Tryz.func284.trans (congrArg some (by kernel_rfl))
 f301:=Tryz.func285.trans (congrArg some (by kernel_rfl))
 f328:=Tryz.func292.trans (congrArg some (by kernel_rfl))
 f329:=Tryz.func186.trans (congrArg some (by kernel_rfl))
 f330:=Tryz.func187.trans (congrArg some (by kernel_rfl))
 f331:=Tryz.func293.trans (congrArg some (by kernel_rfl))
 f332:=Tryz.func294.trans (congrArg some (by kernel_rfl))
 f343:=Tryz.func297.trans (congrArg some (by kernel_rfl))
 t0:=Tryz.underlying0
 a0:=Tryz.isAgg0
 z0:=Tryz.sizeOf0
 v0:=Tryz.zeroValue0
 t3:=Tryz.underlying3
 a3:=Tryz.isAgg3
 z3:=Tryz.sizeOf3
 v3:=Tryz.zeroValue3
 t4:=Tryz.underlying4
 a4:=Tryz.isAgg4
 z4:=Tryz.sizeOf4
 v4:=Tryz.zeroValue4
 t5:=Tryz.underlying5
 a5:=Tryz.isAgg5
 z5:=Tryz.sizeOf5
 v5:=Tryz.zeroValue5
 t9:=Tryz.underlying9
 a9:=Tryz.isAgg9
 z9:=Tryz.sizeOf9
 v9:=Tryz.zeroValue9
 t28:=Tryz.underlying155
 a28:=Tryz.isAgg155
 z28:=Tryz.sizeOf155
 v28:=Tryz.zeroValue155
 t46:=Tryz.underlying174
 a46:=Tryz.isAgg174
 z46:=Tryz.sizeOf174
 v46:=Tryz.zeroValue174
 t51:=Tryz.underlying211
 a51:=Tryz.isAgg211
 z51:=Tryz.sizeOf211
 v51:=Tryz.zeroValue211
 t53:=Tryz.underlying213
 a53:=Tryz.isAgg213
 z53:=Tryz.sizeOf213
 v53:=Tryz.zeroValue213
 t131:=Tryz.underlying110
 a131:=Tryz.isAgg110
 z131:=Tryz.sizeOf110
 v131:=Tryz.zeroValue110
 t182:=Tryz.underlying204
 a182:=Tryz.isAgg204
 z182:=Tryz.sizeOf204
 v182:=Tryz.zeroValue204
 t183:=Tryz.underlying205
 a183:=Tryz.isAgg205
 z183:=Tryz.sizeOf205
 v183:=Tryz.zeroValue205
 t218:=Tryz.underlying245
 a218:=Tryz.isAgg245
 z218:=Tryz.sizeOf245
 v218:=Tryz.zeroValue245
 t222:=Tryz.underlying249
 a222:=Tryz.isAgg249
 z222:=Tryz.sizeOf249
 v222:=Tryz.zeroValue249
 t228:=Tryz.underlying274
 a228:=Tryz.isAgg274
 z228:=Tryz.sizeOf274
 v228:=Tryz.zeroValue274
 t229:=Tryz.underlying275
 a229:=Tryz.isAgg275
 z229:=Tryz.sizeOf275
 v229:=Tryz.zeroValue275 }
end Go.Proofs
namespace Go.Proofs
open Go.Shelf Go.RowKit Go.Lib Go.Sort
def SpA:Type:={x:Int×Int // 0≤x.1∧x.1≤1000000}
instance:Inhabited SpA:=⟨⟨(0,0),by decide⟩⟩
def encSpA(x:SpA):List Value:=[.int .i64 x.1.1,.int .i64 x.1.2]
def cfSpA(x y:SpA):Int:=x.1.1-y.1.1
theorem Tryz.closure169(x y:SpA)(W:World):Calls Tryz.prog 169 #[.agg #[.int .i64 x.1.1,.int .i64 x.1.2],.agg #[.int .i64 y.1.1,.int .i64 y.1.2]] W fun e w'=>e=.returned (.int .i64 (cfSpA x y))∧∃q os',w'=grow (W.drewN q) os':=by
 obtain⟨⟨a,b⟩,h1,h2⟩:=x;obtain⟨⟨c,d⟩,h3,h4⟩:=y;dsimp only at h1 h2 h3 h4;have hw:IntKind.i64.wrap (a-c)=a-c:=by simp[IntKind.wrap,IntKind.bits,IntKind.signed];omega
 show Calls Tryz.prog 169 #[.agg #[.int .i64 a,.int .i64 b],.agg #[.int .i64 c,.int .i64 d]] W fun e w'=>e=.returned (.int .i64 (a-c))∧∃q os',w'=grow (W.drewN q) os'
 go_enter Tryz.func169,Tryz.ntmps169
 go_wp2
 go_ret
 exact⟨rfl,0,_,by rw[alloc_eq_grow,alloc_eq_grow,grow_grow];rfl⟩
def TmA:Type:=ByteArray×{v:Value // v.oneCell'=true}×{v:Value // v.oneCell'=true}
instance:Inhabited TmA:=⟨⟨ByteArray.empty,⟨.bool false,rfl⟩,⟨.bool false,rfl⟩⟩⟩
def encTmA(x:TmA):List Value:=[.string x.1,x.2.1.1,x.2.2.1]
def cfTmA(x y:TmA):Int:=Lib.compareBytes x.1.data.toList y.1.data.toList
theorem Tryz.closure219(x y:TmA)(W:World):Calls Tryz.prog 219 #[.agg #[.string x.1,x.2.1.1,x.2.2.1],.agg #[.string y.1,y.2.1.1,y.2.2.1]] W fun e w'=>e=.returned (.int .i64 (cfTmA x y))∧∃q os',w'=grow (W.drewN q) os':=by
 have hcon:=fun W'=>Any.strings_Compare Tryz.layCompare x.1 y.1 W';obtain⟨a,⟨b,hb⟩,⟨c,hc⟩⟩:=x;obtain⟨a',⟨b',nw⟩,⟨c',o6⟩⟩:=y;dsimp only at hcon
 change ∀W',Calls Tryz.prog 69 _ _ _ at hcon
 unfold cfTmA;dsimp only;generalize Lib.compareBytes a.data.toList a'.data.toList=r at hcon⊢
 go_enter Tryz.func219,Tryz.ntmps219
 go_wp2_with (go_at_call 69;refine(hcon _).mono ?_;rintro e w' ⟨rfl,rfl⟩)
 go_ret
 exact⟨rfl,0,_,by rw[alloc_eq_grow,alloc_eq_grow,grow_grow];rfl⟩
end Go.Proofs
namespace Go.Eng
open Go.Proofs
theorem mU(v:Ver):PC 61 [.agg (GE v)] (.agg [vi v.a,vi v.b,vi v.c]):=by
 refine Ps Gn Tryz.func61 rfl (Nz rfl) ?_;exact Yi (Nz rfl) (Yi (Nz rfl) (.refl _))
def part(v:Ver):Nat→Int
 |0=>v.a
 |1=>v.b
 |_=>v.c
theorem Vu{v:Ver}{i:Nat}(h:¬okPart (part v i)):Cs v=false:=by
 unfold Cs
 match i,h with
 |0,h=>have h:¬okPart v.a:=h;simp[h]
 |1,h=>have h:¬okPart v.b:=h;simp[h]
 |_+2,h=>have h:¬okPart v.c:=h;simp[h]
theorem mP(v:Ver):PC 38 [.agg (GE v)] (vb (Cs v)):=by
 refine Ps Gn Tryz.func38 rfl (Nz rfl) ?_;refine Yi (Nz rfl) (Xi .pure (Xi _ (Yi (mU v) ?_)));refine Xi {i:Nat // i≤3∧∀j,j<i→okPart (part v j)} (Xi (fun i=>⟨[(6,.agg [vi v.a,vi v.b,vi v.c]),(7,vi i.1)],[],Ab⟩) (Xi (fun i=>3-i.1) (Yi (Xi ⟨0,by simp⟩ ?_) ?_)))
 ·exact⟨Z2,Tv,Fh,Tv⟩
 ·intro⟨i,h1,h2⟩;refine Yi ?_ ?_
  ·intro h;have h:(i:Int)<3:=h;refine Yi ⟨by show(0:Int)≤i;omega,by show(i:Int)<3;omega⟩ ?_;have hp:LY (([vi v.a,vi v.b,vi v.c]).drop ((i:Int).toNat*1))=fun K=>K (vi (part v i)):=by
    match i,h with
    |0,_=>rfl
    |1,_=>rfl
    |2,_=>rfl
    |_+3,h=>omega
   show LY (([vi v.a,vi v.b,vi v.c]).drop ((i:Int).toNat*1)) _;rw[hp];refine Yi ?_ ?_
   ·intro h3;have h3:part v i<0:=h3;rw[Vu (i:=i) (by unfold okPart;omega)];exact .refl _
   ·intro h3;have h3:¬part v i<0:=h3;refine Yi ?_ ?_
    ·intro h4;have h4:(999:Int)<part v i:=h4;rw[Vu (i:=i) (by unfold okPart;omega)];exact .refl _
    ·intro h4;have h4:¬(999:Int)<part v i:=h4;refine Yi (Ii i (by omega)) ?_;refine Xi ⟨i+1,by omega,fun j hj=>?_⟩ ?_
     ·by_cases e:j=i
      ·subst e;exact⟨by omega,by omega⟩
      ·exact h2 j (by omega)
     ·exact⟨Dl 3 i (by omega),Z2,Tv,Fh,Tv⟩
  ·intro h;have h:¬(i:Int)<3:=h;have e:i=3:=by omega
   have q:Cs v=true:=by
    unfold Cs;have a:=h2 0 (by omega);have b:=h2 1 (by omega);have c:=h2 2 (by omega);simp only[part]at a b c;simp[a,b,c]
   rw[q];exact .refl _
theorem pR(v:Ver):PC 39 [.agg (GE v)] (.tup [vi (if Cs v then place v else 0),vi (if Cs v then 0 else 2)]):=by
 refine Ps Gn Tryz.func39 rfl (Nz rfl) ?_;refine Yi (Nz rfl) (Xi .pure (Xi _ (Yi (mP v) ?_)));cases h:Cs v with
 |false=>exact .refl _
 |true =>
  have hv:=JV h;refine Yi (by show BR (1000*v.b);unfold BR;omega) ?_;exact Yi (by show BR (1000*v.b+v.c);unfold BR;omega) (.refl _)
def E2(caps:List AV):Prop:=∀c∈caps,∀h,str0 h c=c
theorem E2.map{caps:List AV}(hs:E2 caps)(h:Nat→HO):caps.map (str0 h)=caps:=by
 conv=>rhs;rw[←G6 caps]
 exact A5 fun c hc=>hs c hc h
theorem E2.ids{caps:List AV}(hs:E2 caps)(h:Nat→HO):XQ h caps=true:=by
 induction caps with
 |nil=>rfl
 |cons c r ih =>
  have hc:=hs c (Aa ..) Ab;have h0:ids0 h c=true:=by
   cases c with
   |slice tk es=>cases tk with |none=>rfl |full sz=>simp[str0]at hc |id r sz=>simp[str0]at hc |ver r sz v=>simp[str0]at hc
   |_=>first |rfl |(simp[str0,Ab]at hc)
  unfold XQ;rw[h0];exact ih fun c hc=>hs c (Ag _ hc)
def Ke{α:Type}(p:α→Bool):List α→Int→Int
 | [],_=>-1
 |x::r,i=>if p x then i else Ke p r (i+1)
theorem ND{α:Type}{p:α→Bool}:∀{l:List α} {i:Nat} {k:Int} (hi:i<l.length),(∀j (hj:j<l.length),j<i→p l[j]=false)→p l[i]=true→Ke p l k=k+i
 |x::r,0,k,_,_,h=>by
  have h:p x=true:=h;simp[Ke,h]
 |x::r,i+1,k,hi,hb,h=>by
  have h0:p x=false:=hb 0 (by simp) (by omega)
  have:=ND (l:=r) (i:=i) (k:=k+1) (by simpa using hi) (fun j hj LZ=>hb (j+1) (by simpa using hj) (by omega)) (by simpa using h)
  simp only[Ke,h0,Dd,Gk,this];omega
theorem Jm{α:Type}{p:α→Bool}:∀{l:List α} {k:Int},(∀j (hj:j<l.length),p l[j]=false)→Ke p l k=-1
 | [],_,_=>rfl
 |x::r,k,h=>by
  have h0:p x=false:=h 0 (by simp);simp only[Ke,h0,Dd,Gk];exact Jm fun j hj=>h (j+1) (by simpa using hj)
theorem Mw{α:Type}{p:α→Bool}:∀(l:List α) (k:Int),0≤k→decide (0≤Ke p l k)=l.any p
 | [],k,_=>by simp[Ke]
 |x::r,k,hk=>by
  unfold Ke;cases h:p x with
  |true=>simp[h,hk]
  |false=>simp[h,Mw r (k+1) (by omega)]
-- one for each type of elements
theorem tT{fF:Nat}{caps:List AV}(hs:E2 caps)(l:List (Int×Int))(p:Int×Int→Bool)(hF:∀x∈l,PC fF ([.agg (Aq x)]++caps) (vb (p x)))(hl:l.length<9223372036854775807) :
  PC 173 [sl Aq l,.clo fF caps] (vi (Ke p l 0)):=by
 refine Ps Gn Tryz.func173 rfl (Nz rfl) ?_;refine Xi {i:Nat // i≤l.length∧∀j (hj:j<l.length),j<i→p l[j]=false} (Xi (fun i=>⟨[(0,sl Aq l),(1,.clo fF caps),(7,vi (l.map Aq).length),(8,vi i.1)],[],Ab⟩) (Xi (fun i=>l.length-i.1) (Yi (Xi ⟨0,by simp⟩ ?_) ?_)))
 ·exact⟨⟨Zr,⟨rfl,hs.ids _⟩,Zr,Zr,Tv⟩,Tv,Fh,Tv⟩
 ·intro⟨i,h1,h2⟩;refine Yi ?_ ?_
  ·intro h;have h:(i:Int)<(l.map Aq).length:=h;have h:i<l.length:=by simpa using h
   have hg:l[i]?=some l[i]:=Ge h;refine Xi (Aq l[i]) (Yi (Yi (Nn i) (by simp[hg])) (Yi rfl (Yi (Nz rfl) ?_)));have D1:∀h,PC fF ([.agg (Aq l[i])]++caps.map (str0 h)) (vb (p l[i])):=fun h=>by rw[hs.map];exact hF l[i] (AC _)
   cases hp:p l[i]with
   |true =>
    rw[hp]at D1;refine Xi .pure (Xi (vb true) (Yi (D1 _) ?_));rw[ND h (fun j hj LZ=>h2 j hj LZ) hp,IC];exact .refl _
   |false =>
    rw[hp]at D1;refine Xi .pure (Xi (vb false) (Yi (D1 _) ?_));refine Yi (Ii i (by omega)) ?_;refine Xi ⟨i+1,by omega,fun j hj LZ=>?_⟩ ?_
    ·by_cases e:j=i
     ·subst e;exact hp
     ·exact h2 j hj (by omega)
    ·exact⟨Dl l.length i (by omega),⟨Zr,⟨rfl,hs.ids _⟩,Zr,Zr,Tv⟩,Tv,Fh,Tv⟩
  ·intro h;have h:¬(i:Int)<(l.map Aq).length:=h;have h:¬i<l.length:=by simpa using h
   rw[Jm fun j hj=>h2 j hj (by omega)];exact .refl _
abbrev CM{α:Type}(l:List α):Prop:=l.length≤1073741824
theorem Fj{α:Type}{enc:α→List AV}{n:Nat}(h:∀x,(enc x).length=n):∀l:List α,Df n (l.map enc)
 | []=>trivial
 |x::l=>⟨h x,Fj h l⟩
theorem ae{x y:Int×Int}:lI (Aq x) (Aq y)↔x=y:=by
 constructor
 ·intro h;have h:x.1=y.1∧x.2=y.2∧True:=h;exact Prod.ext h.1 h.2.1
 ·rintro rfl;exact⟨rfl,rfl,trivial⟩
abbrev B5(l:List Tm):List AV:=[sl AD l]
abbrev DD(s:ByteArray):List AV:=[vs s]
theorem xx{fF:Nat}{caps:List AV}(hs:E2 caps)(l:List (Sl))(p:Sl→Bool)(hF:∀x∈l,PC fF ([.agg (Ae x)]++caps) (vb (p x)))(hl:l.length<9223372036854775807) :
  PC 208 [sl Ae l,.clo fF caps] (vi (Ke p l 0)):=by
 refine FZ (dI Gn) rfl Ck hm rfl Tryz.func208 (by kernel_rfl) rfl (Nz rfl) (by kernel_rfl) ?_;refine Xi {i:Nat // i≤l.length∧∀j (hj:j<l.length),j<i→p l[j]=false} (Xi (fun i=>⟨[(0,sl Ae l),(1,.clo fF caps),(7,vi (l.map Ae).length),(8,vi i.1)],[],Ab⟩) (Xi (fun i=>l.length-i.1) (Yi (Xi ⟨0,by simp⟩ ?_) ?_)))
 ·exact⟨⟨Zr,⟨rfl,hs.ids _⟩,Zr,Zr,Tv⟩,Tv,Fh,Tv⟩
 ·intro⟨i,h1,h2⟩;refine Yi ?_ ?_
  ·intro h;have h:(i:Int)<(l.map Ae).length:=h;have h:i<l.length:=by simpa using h
   have hg:l[i]?=some l[i]:=Ge h;refine Xi (Ae l[i]) (Yi (Yi (by show(0:Int)≤i;omega) (by simp[hg])) (Yi rfl (Yi (Nz rfl) ?_)));have D1:∀h,PC fF ([.agg (Ae l[i])]++caps.map (str0 h)) (vb (p l[i])):=fun h=>by rw[hs.map];exact hF l[i] (AC _)
   cases hp:p l[i]with
   |true =>
    rw[hp]at D1;refine Xi .pure (Xi (vb true) (Yi (D1 _) ?_));rw[ND h (fun j hj LZ=>h2 j hj LZ) hp,IC];exact .refl _
   |false =>
    rw[hp]at D1;refine Xi .pure (Xi (vb false) (Yi (D1 _) ?_));refine Yi (Ii i (by omega)) ?_;refine Xi ⟨i+1,by omega,fun j hj LZ=>?_⟩ ?_
    ·by_cases e:j=i
     ·subst e;exact hp
     ·exact h2 j hj (by omega)
    ·exact⟨Dl l.length i (by omega),⟨Zr,⟨rfl,hs.ids _⟩,Zr,Zr,Tv⟩,Tv,Fh,Tv⟩
  ·intro h;have h:¬(i:Int)<(l.map Ae).length:=h;have h:¬i<l.length:=by simpa using h
   rw[Jm fun j hj=>h2 j hj (by omega)];exact .refl _
theorem jB{fF:Nat}{caps:List AV}(hs:E2 caps)(l:List (Tm))(p:Tm→Bool)(hF:∀x∈l,PC fF ([.agg (AD x)]++caps) (vb (p x)))(hl:l.length<9223372036854775807) :
  PC 180 [sl AD l,.clo fF caps] (vi (Ke p l 0)):=by
 refine FZ (dI Gn) rfl Ck hm rfl Tryz.func180 (by kernel_rfl) rfl (Nz rfl) (by kernel_rfl) ?_;refine Xi {i:Nat // i≤l.length∧∀j (hj:j<l.length),j<i→p l[j]=false} (Xi (fun i=>⟨[(0,sl AD l),(1,.clo fF caps),(7,vi (l.map AD).length),(8,vi i.1)],[],Ab⟩) (Xi (fun i=>l.length-i.1) (Yi (Xi ⟨0,by simp⟩ ?_) ?_)))
 ·exact⟨⟨Zr,⟨rfl,hs.ids _⟩,Zr,Zr,Tv⟩,Tv,Fh,Tv⟩
 ·intro⟨i,h1,h2⟩;refine Yi ?_ ?_
  ·intro h;have h:(i:Int)<(l.map AD).length:=h;have h:i<l.length:=by simpa using h
   have hg:l[i]?=some l[i]:=Ge h;refine Xi (AD l[i]) (Yi (Yi (by show(0:Int)≤i;omega) (by simp[hg])) (Yi rfl (Yi (Nz rfl) ?_)));have D1:∀h,PC fF ([.agg (AD l[i])]++caps.map (str0 h)) (vb (p l[i])):=fun h=>by rw[hs.map];exact hF l[i] (AC _)
   cases hp:p l[i]with
   |true =>
    rw[hp]at D1;refine Xi .pure (Xi (vb true) (Yi (D1 _) ?_));rw[ND h (fun j hj LZ=>h2 j hj LZ) hp,IC];exact .refl _
   |false =>
    rw[hp]at D1;refine Xi .pure (Xi (vb false) (Yi (D1 _) ?_));refine Yi (Ii i (by omega)) ?_;refine Xi ⟨i+1,by omega,fun j hj LZ=>?_⟩ ?_
    ·by_cases e:j=i
     ·subst e;exact hp
     ·exact h2 j hj (by omega)
    ·exact⟨Dl l.length i (by omega),⟨Zr,⟨rfl,hs.ids _⟩,Zr,Zr,Tv⟩,Tv,Fh,Tv⟩
  ·intro h;have h:¬(i:Int)<(l.map AD).length:=h;have h:¬i<l.length:=by simpa using h
   rw[Jm fun j hj=>h2 j hj (by omega)];exact .refl _
theorem tE{fF:Nat}{caps:List AV}(hs:E2 caps)(l:List (Int×Int))(p:Int×Int→Bool)(hF:∀x∈l,PC fF ([.agg (Aq x)]++caps) (vb (p x)))(hl:CM l) :
  PC 119 [sl Aq l,.clo fF caps] (vb (l.any p)):=by
 refine FZ (dI Gn) rfl Ck hm rfl Tryz.func119 (by kernel_rfl) rfl (Nz rfl) (by kernel_rfl) ?_;have hi:=tT hs l p hF (by unfold CM at hl;omega);have D1:∀h,PC 173 [sl Aq l,.clo fF (caps.map (str0 h))] (vi (Ke p l 0)):=fun h=>by rw[hs.map];exact hi
 refine Xi .pure (Xi _ (Yi (D1 _) ?_));have ha:=Mw (p:=p) l 0 (BM 0);refine Yi ?_ ?_
 ·intro h;have h:(0:Int)≤Ke p l 0:=h;rw[←ha,Ax h];exact .refl _
 ·intro h;have h:¬(0:Int)≤Ke p l 0:=h;rw[←ha,Az h];exact .refl _
theorem zh{fF:Nat}{caps:List AV}(hs:E2 caps)(l:List (Sl))(p:Sl→Bool)(hF:∀x∈l,PC fF ([.agg (Ae x)]++caps) (vb (p x)))(hl:CM l) :
  PC 178 [sl Ae l,.clo fF caps] (vb (l.any p)):=by
 refine FZ (dI Gn) rfl Ck hm rfl Tryz.func178 (by kernel_rfl) rfl (Nz rfl) (by kernel_rfl) ?_;have hi:=xx hs l p hF (by unfold CM at hl;omega);have D1:∀h,PC 208 [sl Ae l,.clo fF (caps.map (str0 h))] (vi (Ke p l 0)):=fun h=>by rw[hs.map];exact hi
 refine Xi .pure (Xi _ (Yi (D1 _) ?_));have ha:=Mw (p:=p) l 0 (BM 0);refine Yi ?_ ?_
 ·intro h;have h:(0:Int)≤Ke p l 0:=h;rw[←ha,Ax h];exact .refl _
 ·intro h;have h:¬(0:Int)≤Ke p l 0:=h;rw[←ha,Az h];exact .refl _
theorem mT{fF:Nat}{caps:List AV}(hs:E2 caps)(l:List (Tm))(p:Tm→Bool)(hF:∀x∈l,PC fF ([.agg (AD x)]++caps) (vb (p x)))(hl:CM l) :
  PC 125 [sl AD l,.clo fF caps] (vb (l.any p)):=by
 refine FZ (dI Gn) rfl Ck hm rfl Tryz.func125 (by kernel_rfl) rfl (Nz rfl) (by kernel_rfl) ?_;have hi:=jB hs l p hF (by unfold CM at hl;omega);have D1:∀h,PC 180 [sl AD l,.clo fF (caps.map (str0 h))] (vi (Ke p l 0)):=fun h=>by rw[hs.map];exact hi
 refine Xi .pure (Xi _ (Yi (D1 _) ?_));have ha:=Mw (p:=p) l 0 (BM 0);refine Yi ?_ ?_
 ·intro h;have h:(0:Int)≤Ke p l 0:=h;rw[←ha,Ax h];exact .refl _
 ·intro h;have h:¬(0:Int)≤Ke p l 0:=h;rw[←ha,Az h];exact .refl _
theorem tK(l:List (Int×Int))(hl:CM l):PC 62 [sl Aq l] (sl Aq l):=by
 refine FZ (dI Gn) rfl Ck hm rfl Tryz.func62 (by kernel_rfl) rfl (Nz rfl) (by kernel_rfl) ?_;have Hl:Df 2 (l.map Aq)∧([]:List (List AV)).length=0∧(([]:List (List AV)).length+(l.map Aq).length)*16≤140737488355328∧([]:List (List AV)).length+(l.map Aq).length≤9223372036854775807:=by
  refine⟨Fj (enc:=Aq) (n:=2) (fun _=>rfl) l,rfl,?_,?_⟩<;>simp only[AF,Lm]<;>unfold CM at hl<;>omega
 refine Yi ?_ ?_
 ·intro _;exact Yi Hl (.refl _)
 ·intro h;have h:l.map Aq=[]:=h;refine Yi ?_ ?_
  ·show Hk (.v (.slice none 0 0)) (.slice .none (l.map Aq));rw[h];exact .nil
  ·exact Yi Hl (.refl _)
theorem pI(l m:List (Int×Int))(hl:CM l):PC 166 [sl Aq l,sl Aq m] (vb (decide (l=m))):=by
 refine FZ (dI Gn) rfl Ck hm rfl Tryz.func166 (by kernel_rfl) rfl (Nz rfl) (by kernel_rfl) ?_;refine Yi ?_ ?_
 ·intro h;have h:¬((l.map Aq).length:Int)=(m.map Aq).length:=h
  have:l≠m:=fun e=>h (by rw[e])
  rw[Az this];exact .refl _
 ·intro h;have h:¬((l.map Aq).length:Int)≠(m.map Aq).length:=h;have Cq:l.length=m.length:=by simp at h;omega
  refine Xi {i:Nat // i≤l.length∧l.take i=m.take i} (Xi (fun i=>⟨[(0,sl Aq l),(1,sl Aq m),(12,vi (l.map Aq).length),(13,vi i.1)],[],Ab⟩) (Xi (fun i=>l.length-i.1) (Yi (Xi ⟨0,by simp⟩ ?_) ?_)))
  ·exact⟨⟨Zr,Zr,Zr,Zr,Tv⟩,Tv,Fh,Tv⟩
  ·intro⟨i,h1,h2⟩;refine Yi ?_ ?_
   ·intro h;have h:(i:Int)<(l.map Aq).length:=h;have h:i<l.length:=by simpa using h
    have h' : i<m.length:=by omega
    have hg:l[i]?=some l[i]:=Ge h;have kc : m[i]?=some m[i]:=Ge h';refine Xi (Aq l[i]) (Yi (Yi (by show(0:Int)≤i;omega) (by simp[hg])) (Yi rfl (Yi (Nz rfl) ?_)));refine Xi (Aq m[i]) (Yi (Yi (by show(0:Int)≤i;omega) (by simp[kc])) (Yi rfl (Yi (Nz rfl) ?_)));refine Yi ?_ ?_
    ·intro h5;have e:l[i]=m[i]:=ae.1 h5;refine Yi (by kernel_rfl) ?_;refine Yi (by show BR ((i:Int)+1);unfold CM at hl;unfold BR;omega) ?_;refine Xi ⟨i+1,by omega,?_⟩ ?_
     ·rw[Bq,Bq,h2,hg,kc,e]
     ·exact⟨Dl l.length i (by omega),⟨Zr,Zr,Zr,Zr,Tv⟩,Tv,Fh,Tv⟩
    ·intro h5;refine Yi (by kernel_rfl) ?_
     have:l≠m:=fun e=>h5 (ae.2 (by subst e;rfl))
     rw[Az this];exact .refl _
   ·intro h;have h:¬(i:Int)<(l.map Aq).length:=h;have h:¬i<l.length:=by simpa using h
    have e:l=m:=by
     rw[←AE (l:=l) (i:=i) (by omega),h2,AE (by omega)]
    rw[Ax e];exact .refl _
abbrev jk(l:List Nat):RO:=⟨l,[],[],[],[],[],[],[],[],[],[]⟩
theorem E2.ptr(cs:List AV):E2 [.cptr cs]:=fun c hc h=>by
 rw[Am.1 hc];rfl
theorem tG(s:Int×Int)(p:Int):PC 120 [.agg (Aq s),.cptr [vi p]] (vb (BG p s)):=by
 refine Ps Gn Tryz.func120 rfl (Nz rfl) ?_;refine Yi ?_ ?_
 ·intro h;have h:s.1≤p:=h;refine Yi ?_ ?_
  ·intro h2;have h2:p<s.2:=h2;rw[show BG p s=true by simp[BG,h,h2]];exact .refl _
  ·intro h2;have h2:¬p<s.2:=h2;rw[show BG p s=false by simp[BG,h2]];exact .refl _
 ·intro h;have h:¬s.1≤p:=h;rw[show BG p s=false by simp[BG,h]];exact .refl _
theorem pS(s:List (Int×Int))(p:Int)(hl:CM s):PC 90 [sl Aq s,vi p] (vb (has s p)):=by
 refine Ps (jk [3]) Tryz.func90 rfl (Nz rfl) ?_;refine Yi ?_ ?_
 ·intro h;have h:0≤p:=h;refine Yi ?_ ?_
  ·intro h2;have h2:p<1000000:=h2;refine Xi .pure (Xi _ (Yi (tE (E2.ptr [vi p]) s (BG p) (fun x _=>tG x p) hl) ?_));rw[show has s p=s.any (BG p) by simp[has,h,h2]];cases s.any (BG p)<;>exact .refl _
  ·intro h2;have h2:¬p<1000000:=h2;rw[show has s p=false by simp[has,h2]];exact .refl _
 ·intro h;have h:¬0≤p:=h;rw[show has s p=false by simp[has,h]];exact .refl _
theorem xy(r:Rl):PC 115 [.agg (Aj r)] (vi (plc r.ver)):=by
 refine Ps Gn Tryz.func115 rfl (Nz rfl) ?_;exact Yi (Nz rfl) (Xi .pure (Xi _ (Yi (pR r.ver) (.refl _))))
theorem zo(x:Sl)(t:Tm):PC 241 [.agg (Ae x),.cptr (AD t)] (vb (decide (x.path=t.path))):=by
 refine Ps Gn Tryz.func241 rfl (Nz rfl) ?_;refine Yi ?_ ?_
 ·intro h;have h:x.path=t.path:=h;rw[Ax h];exact .refl _
 ·intro h;have h:¬x.path=t.path:=h;rw[Az h];exact .refl _
theorem OJ{α:Type}{p:α→Bool}:∀(l:List α) (k:Int),(Ke p l k=-1∧l.find? p=none)∨∃i x,Ke p l k=k+(i:Nat)∧l[i]?=some x∧l.find? p=some x
 | [],k=>.inl Zr
 |x::r,k=>by
  cases h:p x with
  |true=>exact .inr ⟨0,x,by simp[Ke,h],rfl,by simp[h]⟩
  |false =>
   rcases OJ (p:=p) r (k+1)with ⟨h1,h2⟩ | ⟨i,y,h1,h2,h3⟩
   ·exact .inl ⟨by simp[Ke,h,h1],by simp[h,h2]⟩
   ·exact .inr ⟨i+1,y,by simp only[Ke,h,Dd,Gk,h1];omega,by simpa using h2,by simp[h,h3]⟩
theorem zj(t:Tm)(s:List Sl)(hl:CM s)(ht:CM t.set):PC 207 [.agg (AD t),sl Ae s] (vb (GC t s)):=by
 have hc:=xx (E2.ptr (AD t)) s (fun x=>decide (x.path=t.path)) (fun x _=>zo x t) (by unfold CM at hl;omega);unfold GC;rcases OJ (p:=fun x:Sl=>decide (x.path=t.path)) s 0 with ⟨h1,h2⟩ | ⟨i,x,h1,h2,h3⟩
 ·rw[h1]at hc;rw[h2];refine Ps (jk [2]) Tryz.func207 rfl (Nz rfl) ?_;refine Xi .pure (Xi _ (Yi hc ?_));refine Yi ?_ ?_
  ·intro _;refine Yi ?_ ?_
   ·intro h;have h:t.absent=true:=h;rw[h];exact .refl _
   ·intro h;have h:t.absent=false:=h;rw[h];exact .refl _
  ·intro h;exact absurd (show(-1:Int)<0 by decide) h
 ·rw[h1,IC]at hc;rw[h3];have hg:(s.map Ae)[((i:Nat):Int).toNat]?=some (Ae x):=by rw[Ch,AG,h2];rfl
  have hp:=pR x.ver;dsimp only;rcases Bt (Cs x.ver)with hv | hv
  ·rw[hv,Ao rfl,Ao rfl]at hp;rw[hv];refine Ps (jk [2]) Tryz.func207 rfl (Nz rfl) ?_;refine Xi .pure (Xi _ (Yi hc ?_));refine Yi ?_ ?_
   ·intro h;have h:(i:Int)<0:=h;omega
   ·intro _;refine Xi (Ae x) (Yi (Yi (Nn i) hg) (Yi rfl (Yi (Nz rfl) ?_)));refine Xi .pure (Xi _ (Yi hp ?_));refine Yi ?_ ?_
    ·intro _;refine Xi .pure (Xi _ (Yi (pS t.set (place x.ver) ht) ?_));exact .refl _
    ·intro h;exact absurd rfl h
  ·rw[hv,Ah (by decide),Ah (by decide)]at hp;rw[hv];refine Ps (jk [2]) Tryz.func207 rfl (Nz rfl) ?_;refine Xi .pure (Xi _ (Yi hc ?_));refine Yi ?_ ?_
   ·intro h;have h:(i:Int)<0:=h;omega
   ·intro _;refine Xi (Ae x) (Yi (Yi (Nn i) hg) (Yi rfl (Yi (Nz rfl) ?_)));refine Xi .pure (Xi _ (Yi hp ?_));refine Yi ?_ ?_
    ·intro h;have h:(2:Int)=0:=h;omega
    ·intro _;exact .refl _
theorem jq{α:Type}{p:α→Bool}{l:List α}{i:Nat}(h:∀j (hj:j<l.length),j<i→p l[j]=true)(hi:¬i<l.length):l.all p=true:=by
 rw[Bp];intro x hx;obtain⟨j,hj,rfl⟩:=Ca.1 hx;exact h j hj (by omega)
theorem mI{α:Type}{p:α→Bool}{l:List α}{i:Nat}(hi:i<l.length)(h:p l[i]=false):l.all p=false:=by
 rw[List.all_eq_false];exact⟨l[i],AC hi,by simp[h]⟩
abbrev dT(l:List Tm):Prop:=CM l∧∀t∈l,CM t.set
theorem ze(l:List Tm)(s:List Sl)(hl:dT l)(hs:CM s):PC 176 [sl AD l,sl Ae s] (vb (l.all fun t=>GC t s)):=by
 have hc:∀i (h:i<l.length),PC 207 [.agg (AD l[i]),sl Ae s] (vb (GC l[i] s)):=fun i h=>zj l[i] s hs (hl.2 _ (AC h));obtain⟨hl,_⟩:=hl;unfold CM at hl;refine Ps Gn Tryz.func176 rfl (Nz rfl) ?_;refine Xi {i:Nat // i≤l.length∧∀j (hj:j<l.length),j<i→GC l[j] s=true} (Xi (fun i=>⟨[(0,sl AD l),(1,sl Ae s),(7,vi (l.map AD).length),(8,vi i.1)],[],Ab⟩) (Xi (fun i=>l.length-i.1) (Yi (Xi ⟨0,by simp⟩ ?_) ?_)))
 ·exact⟨Z4,Tv,Fh,Tv⟩
 ·intro⟨i,h1,h2⟩;refine Yi ?_ ?_
  ·intro h;have h:(i:Int)<(l.map AD).length:=h;have h:i<l.length:=by simpa using h
   have hg:l[i]?=some l[i]:=Ge h;have sK:=hc i h;refine Xi (AD l[i]) (Yi (Yi (Nn i) (by simp[hg])) (Yi rfl (Yi (Nz rfl) ?_)));cases hp:GC l[i] s with
   |false =>
    rw[hp]at sK;refine Xi .pure (Xi _ (Yi sK ?_));rw[mI (p:=fun t=>GC t s) h hp];exact .refl _
   |true =>
    rw[hp]at sK;refine Xi .pure (Xi _ (Yi sK ?_));refine Yi (Ii i (by omega)) ?_;refine Xi ⟨i+1,by omega,fun j hj LZ=>?_⟩ ?_
    ·by_cases e:j=i
     ·subst e;exact hp
     ·exact h2 j hj (by omega)
    ·exact⟨Dl l.length i (by omega),Z4,Tv,Fh,Tv⟩
  ·intro h;have h:¬(i:Int)<(l.map AD).length:=h;have h:¬i<l.length:=by simpa using h
   rw[jq (p:=fun t=>GC t s) h2 h];exact .refl _
theorem tJ(x:Sl)(t:Tm):PC 179 [.agg (Ae x),.cptr (AD t)] (vb (decide (x.path=t.path))):=by
 refine Ps Gn Tryz.func179 rfl (Nz rfl) ?_;refine Yi ?_ ?_
 ·intro h;have h:x.path=t.path:=h;rw[Ax h];exact .refl _
 ·intro h;have h:¬x.path=t.path:=h;rw[Az h];exact .refl _
theorem tH(t:Tm)(s:List Sl)(hs:CM s):PC 177 [.agg (AD t),.cptr [sl Ae s]] (vb (!Cv s t.path)):=by
 have hc:=zh (E2.ptr (AD t)) s (fun x=>decide (x.path=t.path)) (fun x _=>tJ x t) hs;unfold Cv;cases hp:s.any fun x=>decide (x.path=t.path)with
 |true =>
  rw[hp]at hc;refine Ps (jk [2]) Tryz.func177 rfl (Nz rfl) ?_;exact Xi .pure (Xi _ (Yi hc (.refl _)))
 |false =>
  rw[hp]at hc;refine Ps (jk [2]) Tryz.func177 rfl (Nz rfl) ?_;exact Xi .pure (Xi _ (Yi hc (.refl _)))
theorem xz(l:List Tm)(s:List Sl)(hl:dT l)(hs:CM s):PC 124 [sl AD l,sl Ae s] (vb (Cr l s)):=by
 have hv:=ze l s hl hs;have hc:=mT (E2.ptr [sl Ae s]) l (fun t=>!Cv s t.path) (fun t _=>tH t s hs) hl.1;unfold Cr Bc;cases h1:l.all fun t=>GC t s with
 |false =>
  rw[h1]at hv;refine Ps (jk [3]) Tryz.func124 rfl (Nz rfl) ?_;exact Xi .pure (Xi _ (Yi hv (.refl _)))
 |true =>
  rw[h1]at hv;cases h2:l.any fun t=>!Cv s t.path with
  |true =>
   rw[h2]at hc;refine Ps (jk [3]) Tryz.func124 rfl (Nz rfl) ?_;exact Xi .pure (Xi _ (Yi hv (Xi .pure (Xi _ (Yi hc (.refl _))))))
  |false =>
   rw[h2]at hc;refine Ps (jk [3]) Tryz.func124 rfl (Nz rfl) ?_;exact Xi .pure (Xi _ (Yi hv (Xi .pure (Xi _ (Yi hc (.refl _))))))
abbrev Sn(a:An):List AV:=[vb a.found,sl Ae a.sel,sl BU a.infs,sl BL a.skips]
theorem mS(r:Rl):PC 59 [.agg (Aj r)] (.agg (Ae ⟨r.path,r.ver⟩)):=by
 refine Ps Gn Tryz.func59 rfl (Nz rfl) ?_;exact Yi (Nz rfl) (Yi (Nz rfl) (Yi (Nz rfl) (.refl _)))
end Go.Eng
namespace Go.Eng
open Go.Proofs Go.Shelf Go.RowKit Go.Lib Go.Sort
theorem aF(x y:SpA):ltOf cfSpA x y=decide (x.1.1<y.1.1):=by
 unfold ltOf cfSpA;rw[BO];simp only[As];omega
theorem iF:SWO (ltOf cfSpA) where
 irrefl x:=by rw[aF];simp
 trans x y z h1 h2:=by rw[aF]at *;simp at *;omega
 ntrans x y z h1 h2:=by rw[aF]at *;simp at *;omega
theorem Td:∀x y:List UInt8,decide (Lib.compareBytes x y<0)=H8 x y
 | [],[]=>rfl
 | [],_::_=>rfl
 |_::_,[]=>rfl
 |a::x,b::y=>by
  unfold Lib.compareBytes H8
  by_cases h:a<b
  ·simp[h]
  ·by_cases h2:b<a
   ·have:¬a=b:=fun e=>by subst e;exact absurd h2 (UInt8.lt_irrefl a)
    simp[h,h2,this]
   ·have e:a=b:=UInt8.le_antisymm (UInt8.not_lt.1 h2) (UInt8.not_lt.1 h);subst e;simp[UInt8.lt_irrefl,Td x y]
theorem aG(x y:TmA):ltOf cfTmA x y=Er x.1 y.1:=Td _ _
theorem iG:SWO (ltOf cfTmA) where
 irrefl x:=by rw[aG];exact CT _
 trans x y z h1 h2:=by rw[aG]at *;exact DR h1 h2
 ntrans x y z h1 h2:=by
  rw[aG]at *
  rw[AM];intro h;cases pm:Er y.1 x.1 with
  |true=>have:=DR pm h;rw[h2]at this;cases this
  |false =>
   have e:=Ht h1 pm;rw[e]at h;rw[h2]at h;cases h
abbrev Uc(k:Nat):Value:=.func (.func k) #[] #[]
theorem dJ (k : Nat) {fn : Func} {c : Code} (hf : Tryz.prog.funcs[k]? = some fn) (hn : (fn.name == "runtime.NumGoroutine") = false) (hb : fn.body = some c) : F1 Tryz.prog k := bT hf hn hb
theorem tV(l:List (Int×Int))(hl:CM l)(h:∀x∈l,0≤x.1∧x.1≤1000000)(lim:Nat)(XK:lim<100) :
  A3 Tryz.prog 205 [.msl 1000 l.length,vi 0,vi l.length,vi lim,.v (Uc 169)] (Ai [(1000,.arr 2 (l.map Aq))] Ab) fun r h' =>
   r=.tup []∧∃l' : List (Int×Int),l'.Perm l∧l'.Pairwise (fun x y=>x.1≤y.1)∧h'=Ai [(1000,.arr 2 (l'.map Aq))] Ab:=by
 have hl:l.length≤1073741824:=hl;have hE:F1 Tryz.prog 205:=dJ 205 Tryz.func205 (by kernel_rfl) rfl;have eg:∀args w,(callFunc 169 args).run Tryz.prog w=.ok (.enter 169 args) w:=enters_of Tryz.func169 (by kernel_rfl) rfl;have Hd:=Jd (P:=Tryz.prog) (f:=205) (α:=SpA) (rest:=[.int .i64 0,.int .i64 l.length,.int .i64 lim,Uc 169]) hE Aq encSpA (k:=2) (fun _=>rfl) (fun _=>rfl) (ltOf cfSpA) (fun x a=>a.1=x) l (by omega) ?_ ?_ ?_
 ·refine⟨hE,fun g w vals q1 q2 q3=>(Hd.2 g w vals q1 q2 q3).mono fun _ _ ⟨v,r,h',g',e1,⟨e2,l',p1,⟨al,a1,a2,a3⟩,p2⟩,rest⟩=>⟨v,r,h',g',e1,⟨e2,l',p1,?_,p2⟩,rest⟩⟩;rw[AS]at a3⊢;intro i j hi hj Pn
  have:=a3 i j (by omega) (by omega) Pn
  rw[aF]at this;have e1:=a2 i _ _ (At hi) (At (by omega));have e2:=a2 j _ _ (At hj) (At (by omega));rw[←e1,←e2]
  have:=of_decide_eq_false this
  omega
 ·intro x hx g w vs hr
  match vs,hr with
  | [a,b],hr =>
   have h1:=(hr.2.2 0 (vi x.1) a rfl rfl).v_eq;have h2:=(hr.2.2 1 (vi x.2) b rfl rfl).v_eq;subst h1;subst h2;exact⟨⟨x,h x hx⟩,rfl,rfl⟩
  | [],hr=>have:=hr.1;simp at this
  | [_],hr=>have:=hr.1;simp at this
  |_::_::_::_,hr=>have:=hr.1;simp at this
 ·intro w b cap d hH hb Ew hdl;have fL:CmpLays Tryz.prog 169 #[] encSpA 2 cfSpA b 0 d.size w:=fun _ _ _ _ x y=>Tryz.closure169 x y _;have hp:=AnyQ.pdqsortCmpFunc_all Tryz.layPdqSpan 2 Tryz.isAgg67 Tryz.sizeOf67 encSpA cfSpA 169 #[] iF b 0 cap d w eg fL ⟨fun _=>rfl,fun x v hv=>by simp[encSpA]at hv;rcases hv with rfl | rfl<;>rfl,hH,hb⟩ (d.size+1) 0 d.size lim d w (by omega) rfl (SWK.start hH) (AJ _) (Al _) Ew (by omega) (Or.inl rfl)
  rw[hdl]at hp⊢;refine hp.mono ?_
  rintro e w' ⟨rfl,n,os,rfl⟩
  have h:=pdq_sorts (ltOf cfSpA) iF d 0 d.size lim true true (AJ _) (Al _) (Or.inl rfl);rw[hdl]at h;exact⟨rfl,_,n,os,h.1,h.2,rfl⟩
 ·intro e w;subst e;exact AnyF.pdqsortCmpFunc_none Tryz.layPdqSpan none 0 lim (Uc 169) w
theorem tC(l:List Tm)(hl:CM l)(lim:Nat)(XK:lim<100) :
  A3 Tryz.prog 244 [.msl 1000 l.length,vi 0,vi l.length,vi lim,.v (Uc 219)] (Ai [(1000,.arr 3 (l.map AD))] Ab) fun r h' =>
   r=.tup []∧∃l' : List Tm,l'.Perm l∧l'.Pairwise (fun x y=>Er y.path x.path=false)∧h'=Ai [(1000,.arr 3 (l'.map AD))] Ab:=by
 have hl:l.length≤1073741824:=hl;have hE:F1 Tryz.prog 244:=dJ 244 Tryz.func244 (by kernel_rfl) rfl;have eg:∀args w,(callFunc 219 args).run Tryz.prog w=.ok (.enter 219 args) w:=enters_of Tryz.func219 (by kernel_rfl) rfl;have Hd:=Jd (P:=Tryz.prog) (f:=244) (α:=TmA) (rest:=[.int .i64 0,.int .i64 l.length,.int .i64 lim,Uc 219]) hE AD encTmA (k:=3) (fun _=>rfl) (fun _=>rfl) (ltOf cfTmA) (fun x a=>a.1=x.path) l (by omega) ?_ ?_ ?_
 ·refine⟨hE,fun g w vals q1 q2 q3=>(Hd.2 g w vals q1 q2 q3).mono fun _ _ ⟨v,r,h',g',e1,⟨e2,l',p1,⟨al,a1,a2,a3⟩,p2⟩,rest⟩=>⟨v,r,h',g',e1,⟨e2,l',p1,?_,p2⟩,rest⟩⟩;rw[AS]at a3⊢;intro i j hi hj Pn
  have:=a3 i j (by omega) (by omega) Pn
  rw[aG]at this;have e1:=a2 i _ _ (At hi) (At (by omega));have e2:=a2 j _ _ (At hj) (At (by omega));rw[←e1,←e2];exact this
 ·intro x hx g w vs hr
  match vs,hr with
  | [a,b,c],hr =>
   have h1:=(hr.2.2 0 (Go.Eng.vs x.path) a rfl rfl).v_eq;subst h1;exact⟨⟨x.path,⟨b,hr.2.1 b (by simp)⟩,⟨c,hr.2.1 c (by simp)⟩⟩,rfl,rfl⟩
  | [],hr=>have:=hr.1;simp at this
  | [_],hr=>have:=hr.1;simp at this
  | [_,_],hr=>have:=hr.1;simp at this
  |_::_::_::_::_,hr=>have:=hr.1;simp at this
 ·intro w b cap d hH hb Ew hdl;have fL:CmpLays Tryz.prog 219 #[] encTmA 3 cfTmA b 0 d.size w:=fun _ _ _ _ x y=>Tryz.closure219 x y _;have hp:=AnyQ.pdqsortCmpFunc_all Tryz.layPdqTerm 3 Tryz.isAgg198 Tryz.sizeOf198 encTmA cfTmA 219 #[] iG b 0 cap d w eg fL ⟨fun _=>rfl,fun x v hv=>by
    simp only[encTmA,Au,Lw,or_false]at hv;rcases hv with rfl | rfl | rfl
    ·rfl
    ·exact x.2.1.2
    ·exact x.2.2.2,hH,hb⟩ (d.size+1) 0 d.size lim d w (by omega) rfl (SWK.start hH) (AJ _) (Al _) Ew (by omega) (Or.inl rfl)
  rw[hdl]at hp⊢;refine hp.mono ?_
  rintro e w' ⟨rfl,n,os,rfl⟩
  have h:=pdq_sorts (ltOf cfTmA) iG d 0 d.size lim true true (AJ _) (Al _) (Or.inl rfl);rw[hdl]at h;exact⟨rfl,_,n,os,h.1,h.2,rfl⟩
 ·intro e w;subst e;exact AnyF.pdqsortCmpFunc_none Tryz.layPdqTerm none 0 lim (Uc 219) w
end Go.Eng
namespace Go.Eng
open Go.Proofs
-- the checker,and what reads it
theorem GW(a b:ByteArray):Er a b=Op.bytesLess a.toList b.toList:=by
 have:∀x y:List UInt8,H8 x y=Op.bytesLess x y:=by
  intro x
  induction x with
  |nil=>intro y;cases y<;>rfl
  |cons a x ih =>
   intro y;cases y with
   |nil=>rfl
   |cons b y =>
    unfold H8 Op.bytesLess;rw[ih];rw[BO];simp
 unfold Er;rw[this,ByteArray.toList_eq,ByteArray.toList_eq]
theorem A3.imp{P:Program}{f:Nat}{args:List AV}{h0:Nat→HO}{Q Q' : AV→(Nat→HO)→Prop}(h:A3 P f args h0 Q)(hq:∀r h',Q r h'→Q' r h'):A3 P f args h0 Q':=h.mono fun r h' q=>⟨r,.refl _,hq r h' q⟩
theorem A3.to{P:Program}{f:Nat}{args:List AV}{h0:Nat→HO}{α:Type}{r0:AV}{p:α→Prop}{H:α→Nat→HO}{Q' : AV→(Nat→HO)→Prop}(h:A3 P f args h0 fun r h'=>r=r0∧∃x,p x∧h'=H x)(k:∀x,p x→Q' r0 (H x)):A3 P f args h0 Q' :=
 h.imp fun r h' ⟨e1,x,e2,e3⟩=>by subst e1;subst e3;exact k x e2
theorem mR(n:Nat)(h:n≤1073741824):∃lim:Nat,lim<100∧PC 98 [.v (.int .u64 (IntKind.u64.wrap (n:Int)))] (vi lim):=by
 refine⟨Lib.bitLen n,Nat.lt_of_le_of_lt (Lib.bitLen_le n 62 (by omega) (by omega)) (by omega),?_⟩;have wr:IntKind.u64.wrap (n:Int)=n:=by simp[IntKind.wrap,IntKind.bits,IntKind.signed];omega
 rw[wr];refine K8 [.int .u64 n] (.int .i64 (Lib.bitLen n:Nat)) (dJ 98 Tryz.func98 (by kernel_rfl) rfl) rfl (fun _ _=>.v _ _) fun w _=>?_
 have:=Any.bits_Len Tryz.layBits (n:Int) w (by omega) (by omega)
 rw[Ch]at this;exact this
theorem tM(l:List (Int×Int))(hl:CM l)(h:∀x∈l,0≤x.1∧x.1≤1000000) :
  A3 Tryz.prog 168 [.msl 1000 l.length,.v (Uc 169)] (Ai [(1000,.arr 2 (l.map Aq))] Ab) fun r h' =>
   r=.tup []∧∃l' : List (Int×Int),(l'.Perm l∧l'.Pairwise (fun x y=>x.1≤y.1))∧h'=Ai [(1000,.arr 2 (l'.map Aq))] Ab:=by
 obtain⟨lim,XK,hb⟩:=mR l.length hl;refine BS (KV Gn) [(1000,1000)] rfl Ck hm rfl Tryz.func168 (by kernel_rfl) rfl (Nz rfl) (by kernel_rfl) rfl ?_;refine Xi .pure (Xi _ (Yi (hb) ?_));refine Xi (.gen [(1000,1000)] 0) (Yi rfl ((tV l hl h lim XK).imp ?_));intro r h' hq;refine CF hq.2 (fun l' PG=>?_);refine Xi (.tup []) (Yi ?_ (Yi rfl (Xi l' (Yi ⟨PG.1,PG.2.1⟩ ?_))))
 ·exact .refl _
 ·rw[PG.2.2];rfl
theorem zn(l:List Tm)(hl:CM l) :
  A3 Tryz.prog 218 [.msl 1000 l.length,.v (Uc 219)] (Ai [(1000,.arr 3 (l.map AD))] Ab) fun r h' =>
   r=.tup []∧∃l' : List Tm,(l'.Perm l∧l'.Pairwise (fun x y=>Er y.path x.path=false))∧h'=Ai [(1000,.arr 3 (l'.map AD))] Ab:=by
 obtain⟨lim,XK,hb⟩:=mR l.length hl;refine BS (KV Gn) [(1000,1000)] rfl Ck hm rfl Tryz.func218 (by kernel_rfl) rfl (Nz rfl) (by kernel_rfl) rfl ?_;refine Xi .pure (Xi _ (Yi (hb) ?_));refine Xi (.gen [(1000,1000)] 0) (Yi rfl ((tC l hl lim XK).imp ?_));intro r h' hq;refine CF hq.2 (fun l' PG=>?_);refine Xi (.tup []) (Yi ?_ (Yi rfl (Xi l' (Yi ⟨PG.1,PG.2.1⟩ ?_))))
 ·exact .refl _
 ·rw[PG.2.2];rfl
end Go.Eng
