/- Lemmas for the claims of this seat, without a condition: part 18 (Dat, LaySort, CSort, C1, C2, CS, C4, C5, C6, C7, C8, C9, C10, C11, C12, C13, C14, CSort2, C15). -/
import Derived.Test.YtddfphmpfnmknaaGreatDoorA16
import Derived.Test.YtddfphmpfnmknaaGreatDoorA01
import Derived.Shelf.SlSortCmp.WholeK
import Derived.Shelf.Sort.Plain
import Derived.Shelf.Small.Strs
import Derived.Shelf.Small.Bits
import Derived.Ground.SlsfProg
import Derived.Ground.NamesProg
import Derived.Shelf.SlSortCmp.NoneTotal
set_option maxHeartbeats 1000000
namespace Go.Eng
open Go.Proofs
abbrev vi(n:Int):AV := .v (.int .i64 n)
abbrev vb(b:Bool):AV := .v (.bool b)
abbrev vs(s:ByteArray):AV := .v (.string s)
abbrev sl{α:Type}(enc:α → List AV)(l:List α):AV := .slice .none (l.map enc)
abbrev Gu(v:Ver):List AV := [vi v.a,vi v.b,vi v.c]
abbrev Ao(s:Int×Int):List AV := [vi s.1,vi s.2]
abbrev AI(q:Rq):List AV := [vs q.path,sl Ao q.set]
abbrev Ag(r:Rl):List AV := [vs r.path,vi r.ver.a,vi r.ver.b,vi r.ver.c,sl AI r.reqs,vs r.arch,vs r.ifc,vs r.cert,vb r.yanked]
abbrev Af(s:Sl):List AV := [vs s.path,vi s.ver.a,vi s.ver.b,vi s.ver.c]
abbrev AC(t:Tm):List AV := [vs t.path,vb t.absent,sl Ao t.set]
abbrev BQ(i:Nf):List AV := [vi i.kind,vs i.path,vi i.place,vi i.number,vi i.left,vi i.right]
abbrev BM(s:Sk):List AV := [vs s.path,vi s.place,vi s.inf]
noncomputable abbrev cJ(pl:Ro):Cx := ⟨Tryz.prog,lh,pl,false,0,fun _ _ _ _ => True⟩
noncomputable abbrev Ll(pl:Ro):Cx := ⟨Tryz.prog,lh,pl,true,0,fun _ _ _ _ => True⟩
abbrev F1:Ro := ⟨[],[],[],[],[],[],[],[],[],[],[]⟩
abbrev PC(f:Nat)(args:List AV)(res:AV):Prop := I2 Tryz.prog f args res
theorem hm:Tryz.prog.follows .mixedOrders = true := by rfl
theorem Zr{α:Sort _}{β:Sort _}{a:α}{b:β}:a = a ∧ b = b := ⟨rfl,rfl⟩
theorem Nz{a b:Nat}(h:Nat.ble a b = true):a ≤ b := HG h
theorem Xi{α:Sort _}{p:α → Prop}(w:α)(h:p w):Exists p := Exists.intro w h
theorem Yi{a b:Prop}(h:a)(k:b):a ∧ b := And.intro h k
theorem Fh{st:St}{h:Nat → HO}:∀j,Aa j = .free ∨ (st.h j = Aa j ∧ W8 h (Aa j) = true) := fun _ => .inl rfl
theorem Tv:True := trivial
theorem Ii(i:Nat)(h:i ≤ 9223372036854775806):BK ((i:Int) + 1) := by unfold BK;omega
theorem Dl(n i:Nat)(h:i<n):n-(i + 1)<n-i := by omega
theorem Bt(b:Bool):b = true ∨ b = false := Bool.eq_false_or_eq_true b
theorem Z1{α:Type}{a0:α}{b0:Bool}:(a0 = a0 ∧ b0 = b0) ∧ True := ⟨⟨rfl,rfl⟩,trivial⟩
theorem Z2{α:Type}{a0 a1:α}{b0 b1:Bool}:(a0 = a0 ∧ b0 = b0) ∧ (a1 = a1 ∧ b1 = b1) ∧ True := ⟨⟨rfl,rfl⟩,⟨rfl,rfl⟩,trivial⟩
theorem Z3{α:Type}{a0 a1 a2:α}{b0 b1 b2:Bool}:(a0 = a0 ∧ b0 = b0) ∧ (a1 = a1 ∧ b1 = b1) ∧ (a2 = a2 ∧ b2 = b2) ∧ True := ⟨⟨rfl,rfl⟩,⟨rfl,rfl⟩,⟨rfl,rfl⟩,trivial⟩
theorem Z4{α:Type}{a0 a1 a2 a3:α}{b0 b1 b2 b3:Bool}:(a0 = a0 ∧ b0 = b0) ∧ (a1 = a1 ∧ b1 = b1) ∧ (a2 = a2 ∧ b2 = b2) ∧ (a3 = a3 ∧ b3 = b3) ∧ True := ⟨⟨rfl,rfl⟩,⟨rfl,rfl⟩,⟨rfl,rfl⟩,⟨rfl,rfl⟩,trivial⟩
theorem Z5{α:Type}{a0 a1 a2 a3 a4:α}{b0 b1 b2 b3 b4:Bool}:(a0 = a0 ∧ b0 = b0) ∧ (a1 = a1 ∧ b1 = b1) ∧ (a2 = a2 ∧ b2 = b2) ∧ (a3 = a3 ∧ b3 = b3) ∧ (a4 = a4 ∧ b4 = b4) ∧ True := ⟨⟨rfl,rfl⟩,⟨rfl,rfl⟩,⟨rfl,rfl⟩,⟨rfl,rfl⟩,⟨rfl,rfl⟩,trivial⟩
theorem Z6{α:Type}{a0 a1 a2 a3 a4 a5:α}{b0 b1 b2 b3 b4 b5:Bool}:(a0 = a0 ∧ b0 = b0) ∧ (a1 = a1 ∧ b1 = b1) ∧ (a2 = a2 ∧ b2 = b2) ∧ (a3 = a3 ∧ b3 = b3) ∧ (a4 = a4 ∧ b4 = b4) ∧ (a5 = a5 ∧ b5 = b5) ∧ True := ⟨⟨rfl,rfl⟩,⟨rfl,rfl⟩,⟨rfl,rfl⟩,⟨rfl,rfl⟩,⟨rfl,rfl⟩,⟨rfl,rfl⟩,trivial⟩
theorem Z7{α:Type}{a0 a1 a2 a3 a4 a5 a6:α}{b0 b1 b2 b3 b4 b5 b6:Bool}:(a0 = a0 ∧ b0 = b0) ∧ (a1 = a1 ∧ b1 = b1) ∧ (a2 = a2 ∧ b2 = b2) ∧ (a3 = a3 ∧ b3 = b3) ∧ (a4 = a4 ∧ b4 = b4) ∧ (a5 = a5 ∧ b5 = b5) ∧ (a6 = a6 ∧ b6 = b6) ∧ True := ⟨⟨rfl,rfl⟩,⟨rfl,rfl⟩,⟨rfl,rfl⟩,⟨rfl,rfl⟩,⟨rfl,rfl⟩,⟨rfl,rfl⟩,⟨rfl,rfl⟩,trivial⟩
theorem Z8{α:Type}{a0 a1 a2 a3 a4 a5 a6 a7:α}{b0 b1 b2 b3 b4 b5 b6 b7:Bool}:(a0 = a0 ∧ b0 = b0) ∧ (a1 = a1 ∧ b1 = b1) ∧ (a2 = a2 ∧ b2 = b2) ∧ (a3 = a3 ∧ b3 = b3) ∧ (a4 = a4 ∧ b4 = b4) ∧ (a5 = a5 ∧ b5 = b5) ∧ (a6 = a6 ∧ b6 = b6) ∧ (a7 = a7 ∧ b7 = b7) ∧ True := ⟨⟨rfl,rfl⟩,⟨rfl,rfl⟩,⟨rfl,rfl⟩,⟨rfl,rfl⟩,⟨rfl,rfl⟩,⟨rfl,rfl⟩,⟨rfl,rfl⟩,⟨rfl,rfl⟩,trivial⟩
theorem Z9{α:Type}{a0 a1 a2 a3 a4 a5 a6 a7 a8:α}{b0 b1 b2 b3 b4 b5 b6 b7 b8:Bool}:(a0 = a0 ∧ b0 = b0) ∧ (a1 = a1 ∧ b1 = b1) ∧ (a2 = a2 ∧ b2 = b2) ∧ (a3 = a3 ∧ b3 = b3) ∧ (a4 = a4 ∧ b4 = b4) ∧ (a5 = a5 ∧ b5 = b5) ∧ (a6 = a6 ∧ b6 = b6) ∧ (a7 = a7 ∧ b7 = b7) ∧ (a8 = a8 ∧ b8 = b8) ∧ True := ⟨⟨rfl,rfl⟩,⟨rfl,rfl⟩,⟨rfl,rfl⟩,⟨rfl,rfl⟩,⟨rfl,rfl⟩,⟨rfl,rfl⟩,⟨rfl,rfl⟩,⟨rfl,rfl⟩,⟨rfl,rfl⟩,trivial⟩
theorem Z10{α:Type}{a0 a1 a2 a3 a4 a5 a6 a7 a8 a9:α}{b0 b1 b2 b3 b4 b5 b6 b7 b8 b9:Bool}:(a0 = a0 ∧ b0 = b0) ∧ (a1 = a1 ∧ b1 = b1) ∧ (a2 = a2 ∧ b2 = b2) ∧ (a3 = a3 ∧ b3 = b3) ∧ (a4 = a4 ∧ b4 = b4) ∧ (a5 = a5 ∧ b5 = b5) ∧ (a6 = a6 ∧ b6 = b6) ∧ (a7 = a7 ∧ b7 = b7) ∧ (a8 = a8 ∧ b8 = b8) ∧ (a9 = a9 ∧ b9 = b9) ∧ True := ⟨⟨rfl,rfl⟩,⟨rfl,rfl⟩,⟨rfl,rfl⟩,⟨rfl,rfl⟩,⟨rfl,rfl⟩,⟨rfl,rfl⟩,⟨rfl,rfl⟩,⟨rfl,rfl⟩,⟨rfl,rfl⟩,⟨rfl,rfl⟩,trivial⟩
theorem Z11{α:Type}{a0 a1 a2 a3 a4 a5 a6 a7 a8 a9 Wn:α}{b0 b1 b2 b3 b4 b5 b6 b7 b8 b9 XW:Bool}:(a0 = a0 ∧ b0 = b0) ∧ (a1 = a1 ∧ b1 = b1) ∧ (a2 = a2 ∧ b2 = b2) ∧ (a3 = a3 ∧ b3 = b3) ∧ (a4 = a4 ∧ b4 = b4) ∧ (a5 = a5 ∧ b5 = b5) ∧ (a6 = a6 ∧ b6 = b6) ∧ (a7 = a7 ∧ b7 = b7) ∧ (a8 = a8 ∧ b8 = b8) ∧ (a9 = a9 ∧ b9 = b9) ∧ (Wn = Wn ∧ XW = XW) ∧ True := ⟨⟨rfl,rfl⟩,⟨rfl,rfl⟩,⟨rfl,rfl⟩,⟨rfl,rfl⟩,⟨rfl,rfl⟩,⟨rfl,rfl⟩,⟨rfl,rfl⟩,⟨rfl,rfl⟩,⟨rfl,rfl⟩,⟨rfl,rfl⟩,⟨rfl,rfl⟩,trivial⟩
theorem Z12{α:Type}{a0 a1 a2 a3 a4 a5 a6 a7 a8 a9 Wn Y9:α}{b0 b1 b2 b3 b4 b5 b6 b7 b8 b9 XW lL:Bool}:(a0 = a0 ∧ b0 = b0) ∧ (a1 = a1 ∧ b1 = b1) ∧ (a2 = a2 ∧ b2 = b2) ∧ (a3 = a3 ∧ b3 = b3) ∧ (a4 = a4 ∧ b4 = b4) ∧ (a5 = a5 ∧ b5 = b5) ∧ (a6 = a6 ∧ b6 = b6) ∧ (a7 = a7 ∧ b7 = b7) ∧ (a8 = a8 ∧ b8 = b8) ∧ (a9 = a9 ∧ b9 = b9) ∧ (Wn = Wn ∧ XW = XW) ∧ (Y9 = Y9 ∧ lL = lL) ∧ True := ⟨⟨rfl,rfl⟩,⟨rfl,rfl⟩,⟨rfl,rfl⟩,⟨rfl,rfl⟩,⟨rfl,rfl⟩,⟨rfl,rfl⟩,⟨rfl,rfl⟩,⟨rfl,rfl⟩,⟨rfl,rfl⟩,⟨rfl,rfl⟩,⟨rfl,rfl⟩,⟨rfl,rfl⟩,trivial⟩
theorem Z13{α:Type}{a0 a1 a2 a3 a4 a5 a6 a7 a8 a9 Wn Y9 a12:α}{b0 b1 b2 b3 b4 b5 b6 b7 b8 b9 XW lL rn:Bool}:(a0 = a0 ∧ b0 = b0) ∧ (a1 = a1 ∧ b1 = b1) ∧ (a2 = a2 ∧ b2 = b2) ∧ (a3 = a3 ∧ b3 = b3) ∧ (a4 = a4 ∧ b4 = b4) ∧ (a5 = a5 ∧ b5 = b5) ∧ (a6 = a6 ∧ b6 = b6) ∧ (a7 = a7 ∧ b7 = b7) ∧ (a8 = a8 ∧ b8 = b8) ∧ (a9 = a9 ∧ b9 = b9) ∧ (Wn = Wn ∧ XW = XW) ∧ (Y9 = Y9 ∧ lL = lL) ∧ (a12 = a12 ∧ rn = rn) ∧ True := ⟨⟨rfl,rfl⟩,⟨rfl,rfl⟩,⟨rfl,rfl⟩,⟨rfl,rfl⟩,⟨rfl,rfl⟩,⟨rfl,rfl⟩,⟨rfl,rfl⟩,⟨rfl,rfl⟩,⟨rfl,rfl⟩,⟨rfl,rfl⟩,⟨rfl,rfl⟩,⟨rfl,rfl⟩,⟨rfl,rfl⟩,trivial⟩
theorem Nn(i:Nat):(0:Int) ≤ (i:Int) := Int.natCast_nonneg i
abbrev Ic(x:List Rl)(ifs:List (List AV)):List AV := [sl Ag x,.slice .none ifs]
theorem Ps{f:Nat}{fn:Func}{c:Code}{args:List AV}{res:AV}(pl:Ro)(hf:Tryz.prog.funcs[f]? = some fn)(hb:fn.body = some c)(hN:args.length ≤ fn.ntmps)(hk:QA (cJ pl) c (mc (cJ pl) fn.results.toList fun r => Hg r res) ⟨N2 args,Aa⟩)
    (hn : (fn.name == "runtime.NumGoroutine") = false := by kernel_rfl) (hc : Em fn.ntmps c = true := by kernel_rfl) : I2 Tryz.prog f args res := FR (cJ pl) rfl Cn hm rfl hf hn hb hN hc hk
theorem Lm{α β:Type}(f:α → β){l:List α}:(l.map f).length = l.length := A7 f
theorem Ge{α:Type}{l:List α}{i:Nat}(h:i<l.length):l[i]? = some l[i] := As h
end Go.Eng
namespace Go.Proofs
open Go.Shelf
def Tryz.layPdqSpan_ren:Go.Shelf.Ren:=⟨fun | 14=>205 | 20=>233 | 21=>234 | 22=>235 | 23=>236 | 24=>237 | 25=>238 | 26=>239 | 27=>240 | 46=>255 | 47=>186 | 48=>187 | 49=>256 | 50=>257 | 15=>98 | 57=>276 | 28=>137 | 29=>138 | n=>n,fun | 24=>67 | 22=>68 | 3=>3 | 25=>231 | 4=>4 | 0=>0 | 46=>205 | 45=>204 | 50=>110 | 66=>245 | 39=>174 | 55=>213 | 70=>249 | 76=>274 | 77=>275 | 53=>211 | 5=>5 | 9=>9 | n=>n,fun | n=>n⟩
theorem Tryz.layPdqSpan:Go.Proofs.SlLaysF0.n14 Tryz.prog Tryz.layPdqSpan_ren:={
 mixed:=by kernel_rfl
 f14:=⟨Tryz.f205.name,by decide,Tryz.func205.trans (congrArg some (by kernel_rfl))⟩
 f15:=Tryz.func98.trans (congrArg some (by kernel_rfl))
 f20:=⟨Tryz.f233.name,by decide,Tryz.func233.trans (congrArg some (by kernel_rfl))⟩
 f21:=⟨Tryz.f234.name,by decide,Tryz.func234.trans (congrArg some (by kernel_rfl))⟩
 f22:=⟨Tryz.f235.name,by decide,Tryz.func235.trans (congrArg some (by kernel_rfl))⟩
 f23:=⟨Tryz.f236.name,by decide,Tryz.func236.trans (congrArg some (by kernel_rfl))⟩
 f24:=⟨Tryz.f237.name,by decide,Tryz.func237.trans (congrArg some (by kernel_rfl))⟩
 f25:=⟨Tryz.f238.name,by decide,Tryz.func238.trans (congrArg some (by kernel_rfl))⟩
 f26:=⟨Tryz.f239.name,by decide,Tryz.func239.trans (congrArg some (by kernel_rfl))⟩
 f27:=⟨Tryz.f240.name,by decide,Tryz.func240.trans (congrArg some (by kernel_rfl))⟩
 f28:=Tryz.func137.trans (congrArg some (by kernel_rfl))
 f29:=Tryz.func138.trans (congrArg some (by kernel_rfl))
 f46:=⟨Tryz.f255.name,by decide,Tryz.func255.trans (congrArg some (by kernel_rfl))⟩
 f47:=Tryz.func186.trans (congrArg some (by kernel_rfl))
 f48:=Tryz.func187.trans (congrArg some (by kernel_rfl))
 f49:=⟨Tryz.f256.name,by decide,Tryz.func256.trans (congrArg some (by kernel_rfl))⟩
 f50:=⟨Tryz.f257.name,by decide,Tryz.func257.trans (congrArg some (by kernel_rfl))⟩
 f57:=⟨Tryz.f276.name,by decide,Tryz.func276.trans (congrArg some (by kernel_rfl))⟩
 t0:=Tryz.underlying0
 a0:=Tryz.isAgg0
 z0:=Tryz.sizeOf0
 v0:=Tryz.zeroValue0
 t3:=Tryz.underlying3
 a3:=Tryz.isAgg3
 z3:=Tryz.sizeOf3
 v3:=Tryz.zeroValue3
 t4:=Tryz.underlying4
 a4:=Tryz.isAgg4
 z4:=Tryz.sizeOf4
 v4:=Tryz.zeroValue4
 t5:=Tryz.underlying5
 a5:=Tryz.isAgg5
 z5:=Tryz.sizeOf5
 v5:=Tryz.zeroValue5
 t9:=Tryz.underlying9
 a9:=Tryz.isAgg9
 z9:=Tryz.sizeOf9
 v9:=Tryz.zeroValue9
 t22:=Tryz.underlying68
 a22:=Tryz.isAgg68
 z22:=Tryz.sizeOf68
 v22:=Tryz.zeroValue68
 t25:=Tryz.underlying231
 a25:=Tryz.isAgg231
 z25:=Tryz.sizeOf231
 v25:=Tryz.zeroValue231
 t39:=Tryz.underlying174
 a39:=Tryz.isAgg174
 z39:=Tryz.sizeOf174
 v39:=Tryz.zeroValue174
 t45:=Tryz.underlying204
 a45:=Tryz.isAgg204
 z45:=Tryz.sizeOf204
 v45:=Tryz.zeroValue204
 t46:=Tryz.underlying205
 a46:=Tryz.isAgg205
 z46:=Tryz.sizeOf205
 v46:=Tryz.zeroValue205
 t50:=Tryz.underlying110
 a50:=Tryz.isAgg110
 z50:=Tryz.sizeOf110
 v50:=Tryz.zeroValue110
 t53:=Tryz.underlying211
 a53:=Tryz.isAgg211
 z53:=Tryz.sizeOf211
 v53:=Tryz.zeroValue211
 t55:=Tryz.underlying213
 a55:=Tryz.isAgg213
 z55:=Tryz.sizeOf213
 v55:=Tryz.zeroValue213
 t66:=Tryz.underlying245
 a66:=Tryz.isAgg245
 z66:=Tryz.sizeOf245
 v66:=Tryz.zeroValue245
 t70:=Tryz.underlying249
 a70:=Tryz.isAgg249
 z70:=Tryz.sizeOf249
 v70:=Tryz.zeroValue249
 t76:=Tryz.underlying274
 a76:=Tryz.isAgg274
 z76:=Tryz.sizeOf274
 v76:=Tryz.zeroValue274
 t77:=Tryz.underlying275
 a77:=Tryz.isAgg275
 z77:=Tryz.sizeOf275
 v77:=Tryz.zeroValue275 }
def Tryz.layPdqTerm_ren:Go.Shelf.Ren:=⟨fun | 14=>244 | 20=>260 | 21=>261 | 22=>262 | 23=>263 | 24=>264 | 25=>265 | 26=>266 | 27=>267 | 46=>286 | 47=>186 | 48=>187 | 49=>287 | 50=>288 | 15=>98 | 57=>295 | 28=>137 | 29=>138 | n=>n,fun | 24=>198 | 22=>167 | 3=>3 | 25=>272 | 4=>4 | 0=>0 | 46=>205 | 45=>204 | 50=>110 | 66=>245 | 39=>174 | 55=>213 | 70=>249 | 76=>274 | 77=>275 | 53=>211 | 5=>5 | 9=>9 | n=>n,fun | n=>n⟩
theorem Tryz.layPdqTerm:Go.Proofs.SlLaysF0.n14 Tryz.prog Tryz.layPdqTerm_ren:={
 mixed:=by kernel_rfl
 f14:=⟨Tryz.f244.name,by decide,Tryz.func244.trans (congrArg some (by kernel_rfl))⟩
 f15:=Tryz.func98.trans (congrArg some (by kernel_rfl))
 f20:=⟨Tryz.f260.name,by decide,Tryz.func260.trans (congrArg some (by kernel_rfl))⟩
 f21:=⟨Tryz.f261.name,by decide,Tryz.func261.trans (congrArg some (by kernel_rfl))⟩
 f22:=⟨Tryz.f262.name,by decide,Tryz.func262.trans (congrArg some (by kernel_rfl))⟩
 f23:=⟨Tryz.f263.name,by decide,Tryz.func263.trans (congrArg some (by kernel_rfl))⟩
 f24:=⟨Tryz.f264.name,by decide,Tryz.func264.trans (congrArg some (by kernel_rfl))⟩
 f25:=⟨Tryz.f265.name,by decide,Tryz.func265.trans (congrArg some (by kernel_rfl))⟩
 f26:=⟨Tryz.f266.name,by decide,Tryz.func266.trans (congrArg some (by kernel_rfl))⟩
 f27:=⟨Tryz.f267.name,by decide,Tryz.func267.trans (congrArg some (by kernel_rfl))⟩
 f28:=Tryz.func137.trans (congrArg some (by kernel_rfl))
 f29:=Tryz.func138.trans (congrArg some (by kernel_rfl))
 f46:=⟨Tryz.f286.name,by decide,Tryz.func286.trans (congrArg some (by kernel_rfl))⟩
 f47:=Tryz.func186.trans (congrArg some (by kernel_rfl))
 f48:=Tryz.func187.trans (congrArg some (by kernel_rfl))
 f49:=⟨Tryz.f287.name,by decide,Tryz.func287.trans (congrArg some (by kernel_rfl))⟩
 f50:=⟨Tryz.f288.name,by decide,Tryz.func288.trans (congrArg some (by kernel_rfl))⟩
 f57:=⟨Tryz.f295.name,by decide,Tryz.func295.trans (congrArg some (by kernel_rfl))⟩
 t0:=Tryz.underlying0
 a0:=Tryz.isAgg0
 z0:=Tryz.sizeOf0
 v0:=Tryz.zeroValue0
 t3:=Tryz.underlying3
 a3:=Tryz.isAgg3
 z3:=Tryz.sizeOf3
 v3:=Tryz.zeroValue3
 t4:=Tryz.underlying4
 a4:=Tryz.isAgg4
 z4:=Tryz.sizeOf4
 v4:=Tryz.zeroValue4
 t5:=Tryz.underlying5
 a5:=Tryz.isAgg5
 z5:=Tryz.sizeOf5
 v5:=Tryz.zeroValue5
 t9:=Tryz.underlying9
 a9:=Tryz.isAgg9
 z9:=Tryz.sizeOf9
 v9:=Tryz.zeroValue9
 t22:=Tryz.underlying167
 a22:=Tryz.isAgg167
 z22:=Tryz.sizeOf167
 v22:=Tryz.zeroValue167
 t25:=Tryz.underlying272
 a25:=Tryz.isAgg272
 z25:=Tryz.sizeOf272
 v25:=Tryz.zeroValue272
 t39:=Tryz.underlying174
 a39:=Tryz.isAgg174
 z39:=Tryz.sizeOf174
 v39:=Tryz.zeroValue174
 t45:=Tryz.underlying204
 a45:=Tryz.isAgg204
 z45:=Tryz.sizeOf204
 v45:=Tryz.zeroValue204
 t46:=Tryz.underlying205
 a46:=Tryz.isAgg205
 z46:=Tryz.sizeOf205
 v46:=Tryz.zeroValue205
 t50:=Tryz.underlying110
 a50:=Tryz.isAgg110
 z50:=Tryz.sizeOf110
 v50:=Tryz.zeroValue110
 t53:=Tryz.underlying211
 a53:=Tryz.isAgg211
 z53:=Tryz.sizeOf211
 v53:=Tryz.zeroValue211
 t55:=Tryz.underlying213
 a55:=Tryz.isAgg213
 z55:=Tryz.sizeOf213
 v55:=Tryz.zeroValue213
 t66:=Tryz.underlying245
 a66:=Tryz.isAgg245
 z66:=Tryz.sizeOf245
 v66:=Tryz.zeroValue245
 t70:=Tryz.underlying249
 a70:=Tryz.isAgg249
 z70:=Tryz.sizeOf249
 v70:=Tryz.zeroValue249
 t76:=Tryz.underlying274
 a76:=Tryz.isAgg274
 z76:=Tryz.sizeOf274
 v76:=Tryz.zeroValue274
 t77:=Tryz.underlying275
 a77:=Tryz.isAgg275
 z77:=Tryz.sizeOf275
 v77:=Tryz.zeroValue275 }
def Tryz.layPdqSel_ren:Go.Shelf.Ren:=⟨fun | 14=>97 | 20=>129 | 21=>130 | 22=>131 | 23=>132 | 24=>133 | 25=>134 | 26=>135 | 27=>136 | 46=>185 | 47=>186 | 48=>187 | 49=>188 | 50=>189 | 15=>98 | 57=>221 | 28=>137 | 29=>138 | n=>n,fun | 24=>29 | 22=>45 | 3=>3 | 25=>123 | 4=>4 | 0=>0 | 46=>205 | 45=>204 | 50=>110 | 66=>245 | 39=>174 | 55=>213 | 70=>249 | 76=>274 | 77=>275 | 53=>211 | 5=>5 | 9=>9 | n=>n,fun | n=>n⟩
theorem Tryz.layPdqSel:Go.Proofs.SlLaysF0.n14 Tryz.prog Tryz.layPdqSel_ren:={
 mixed:=by kernel_rfl
 f14:=⟨Tryz.f97.name,by decide,Tryz.func97.trans (congrArg some (by kernel_rfl))⟩
 f15:=Tryz.func98.trans (congrArg some (by kernel_rfl))
 f20:=⟨Tryz.f129.name,by decide,Tryz.func129.trans (congrArg some (by kernel_rfl))⟩
 f21:=⟨Tryz.f130.name,by decide,Tryz.func130.trans (congrArg some (by kernel_rfl))⟩
 f22:=⟨Tryz.f131.name,by decide,Tryz.func131.trans (congrArg some (by kernel_rfl))⟩
 f23:=⟨Tryz.f132.name,by decide,Tryz.func132.trans (congrArg some (by kernel_rfl))⟩
 f24:=⟨Tryz.f133.name,by decide,Tryz.func133.trans (congrArg some (by kernel_rfl))⟩
 f25:=⟨Tryz.f134.name,by decide,Tryz.func134.trans (congrArg some (by kernel_rfl))⟩
 f26:=⟨Tryz.f135.name,by decide,Tryz.func135.trans (congrArg some (by kernel_rfl))⟩
 f27:=⟨Tryz.f136.name,by decide,Tryz.func136.trans (congrArg some (by kernel_rfl))⟩
 f28:=Tryz.func137.trans (congrArg some (by kernel_rfl))
 f29:=Tryz.func138.trans (congrArg some (by kernel_rfl))
 f46:=⟨Tryz.f185.name,by decide,Tryz.func185.trans (congrArg some (by kernel_rfl))⟩
 f47:=Tryz.func186.trans (congrArg some (by kernel_rfl))
 f48:=Tryz.func187.trans (congrArg some (by kernel_rfl))
 f49:=⟨Tryz.f188.name,by decide,Tryz.func188.trans (congrArg some (by kernel_rfl))⟩
 f50:=⟨Tryz.f189.name,by decide,Tryz.func189.trans (congrArg some (by kernel_rfl))⟩
 f57:=⟨Tryz.f221.name,by decide,Tryz.func221.trans (congrArg some (by kernel_rfl))⟩
 t0:=Tryz.underlying0
 a0:=Tryz.isAgg0
 z0:=Tryz.sizeOf0
 v0:=Tryz.zeroValue0
 t3:=Tryz.underlying3
 a3:=Tryz.isAgg3
 z3:=Tryz.sizeOf3
 v3:=Tryz.zeroValue3
 t4:=Tryz.underlying4
 a4:=Tryz.isAgg4
 z4:=Tryz.sizeOf4
 v4:=Tryz.zeroValue4
 t5:=Tryz.underlying5
 a5:=Tryz.isAgg5
 z5:=Tryz.sizeOf5
 v5:=Tryz.zeroValue5
 t9:=Tryz.underlying9
 a9:=Tryz.isAgg9
 z9:=Tryz.sizeOf9
 v9:=Tryz.zeroValue9
 t22:=Tryz.underlying45
 a22:=Tryz.isAgg45
 z22:=Tryz.sizeOf45
 v22:=Tryz.zeroValue45
 t25:=Tryz.underlying123
 a25:=Tryz.isAgg123
 z25:=Tryz.sizeOf123
 v25:=Tryz.zeroValue123
 t39:=Tryz.underlying174
 a39:=Tryz.isAgg174
 z39:=Tryz.sizeOf174
 v39:=Tryz.zeroValue174
 t45:=Tryz.underlying204
 a45:=Tryz.isAgg204
 z45:=Tryz.sizeOf204
 v45:=Tryz.zeroValue204
 t46:=Tryz.underlying205
 a46:=Tryz.isAgg205
 z46:=Tryz.sizeOf205
 v46:=Tryz.zeroValue205
 t50:=Tryz.underlying110
 a50:=Tryz.isAgg110
 z50:=Tryz.sizeOf110
 v50:=Tryz.zeroValue110
 t53:=Tryz.underlying211
 a53:=Tryz.isAgg211
 z53:=Tryz.sizeOf211
 v53:=Tryz.zeroValue211
 t55:=Tryz.underlying213
 a55:=Tryz.isAgg213
 z55:=Tryz.sizeOf213
 v55:=Tryz.zeroValue213
 t66:=Tryz.underlying245
 a66:=Tryz.isAgg245
 z66:=Tryz.sizeOf245
 v66:=Tryz.zeroValue245
 t70:=Tryz.underlying249
 a70:=Tryz.isAgg249
 z70:=Tryz.sizeOf249
 v70:=Tryz.zeroValue249
 t76:=Tryz.underlying274
 a76:=Tryz.isAgg274
 z76:=Tryz.sizeOf274
 v76:=Tryz.zeroValue274
 t77:=Tryz.underlying275
 a77:=Tryz.isAgg275
 z77:=Tryz.sizeOf275
 v77:=Tryz.zeroValue275 }
def Tryz.layCompare_ren:Go.Shelf.Ren:=⟨fun | 106=>69 | 213=>99 | 265=>139 | n=>n,fun | 9=>9 | 3=>3 | n=>n,fun | n=>n⟩
theorem Tryz.layCompare:Go.Proofs.Lays.n106 Tryz.prog Tryz.layCompare_ren:={
 mixed:=by kernel_rfl
 f106:=Tryz.func69.trans (congrArg some (by kernel_rfl))
 f213:=Tryz.func99.trans (congrArg some (by kernel_rfl))
 f265:=Tryz.func139.trans (congrArg some (by kernel_rfl))
 t3:=Tryz.underlying3
 a3:=Tryz.isAgg3
 z3:=Tryz.sizeOf3
 v3:=Tryz.zeroValue3
 t9:=Tryz.underlying9
 a9:=Tryz.isAgg9
 z9:=Tryz.sizeOf9
 v9:=Tryz.zeroValue9 }
def Tryz.layBits_ren:Go.Shelf.Ren:=⟨fun | 125=>98 | 128=>137 | 129=>138 | n=>n,fun | 46=>174 | 3=>3 | 51=>211 | 53=>213 | 4=>4 | 5=>5 | 9=>9 | n=>n,fun | n=>n⟩
theorem Tryz.layBits:Go.Proofs.Lays.n125 Tryz.prog Tryz.layBits_ren:={
 mixed:=by kernel_rfl
 f125:=Tryz.func98.trans (congrArg some (by kernel_rfl))
 f128:=Tryz.func137.trans (congrArg some (by kernel_rfl))
 f129:=Tryz.func138.trans (congrArg some (by kernel_rfl))
 t3:=Tryz.underlying3
 a3:=Tryz.isAgg3
 z3:=Tryz.sizeOf3
 v3:=Tryz.zeroValue3
 t4:=Tryz.underlying4
 a4:=Tryz.isAgg4
 z4:=Tryz.sizeOf4
 v4:=Tryz.zeroValue4
 t5:=Tryz.underlying5
 a5:=Tryz.isAgg5
 z5:=Tryz.sizeOf5
 v5:=Tryz.zeroValue5
 t9:=Tryz.underlying9
 a9:=Tryz.isAgg9
 z9:=Tryz.sizeOf9
 v9:=Tryz.zeroValue9
 t46:=Tryz.underlying174
 a46:=Tryz.isAgg174
 z46:=Tryz.sizeOf174
 v46:=Tryz.zeroValue174
 t51:=Tryz.underlying211
 a51:=Tryz.isAgg211
 z51:=Tryz.sizeOf211
 v51:=Tryz.zeroValue211
 t53:=Tryz.underlying213
 a53:=Tryz.isAgg213
 z53:=Tryz.sizeOf213
 v53:=Tryz.zeroValue213 }
def Tryz.laySortInts_ren:Go.Shelf.Ren:=⟨fun | 189=>242 | 125=>98 | 257=>258 | 128=>137 | 129=>138 | 294=>277 | 295=>278 | 296=>279 | 297=>280 | 298=>281 | 299=>282 | 216=>283 | 300=>284 | 301=>285 | 328=>292 | 329=>186 | 330=>187 | 331=>293 | 332=>294 | 215=>167 | 343=>297 | n=>n,fun | 28=>155 | 3=>3 | 46=>174 | 0=>0 | 51=>211 | 53=>213 | 4=>4 | 183=>205 | 182=>204 | 131=>110 | 5=>5 | 9=>9 | 218=>245 | 222=>249 | 228=>274 | 229=>275 | n=>n,fun | n=>n⟩
theorem Tryz.laySortInts:Go.Proofs.Lays.n189 Tryz.prog Tryz.laySortInts_ren:={
 mixed:=by kernel_rfl
 f125:=Tryz.func98.trans (congrArg some (by kernel_rfl))
 f128:=Tryz.func137.trans (congrArg some (by kernel_rfl))
 f129:=Tryz.func138.trans (congrArg some (by kernel_rfl))
 f189:=Tryz.func242.trans (congrArg some (by kernel_rfl))
 f215:=Tryz.func167.trans (congrArg some (by kernel_rfl))
 f216:=Tryz.func283.trans (congrArg some (by kernel_rfl))
 f257:=Tryz.func258.trans (congrArg some (by kernel_rfl))
 f294:=Tryz.func277.trans (congrArg some (by kernel_rfl))
 f295:=Tryz.func278.trans (congrArg some (by kernel_rfl))
 f296:=Tryz.func279.trans (congrArg some (by kernel_rfl))
 f297:=Tryz.func280.trans (congrArg some (by kernel_rfl))
 f298:=Tryz.func281.trans (congrArg some (by kernel_rfl))
 f299:=Tryz.func282.trans (congrArg some (by kernel_rfl))
 f300:=Tryz.func284.trans (congrArg some (by kernel_rfl))
 f301:=Tryz.func285.trans (congrArg some (by kernel_rfl))
 f328:=Tryz.func292.trans (congrArg some (by kernel_rfl))
 f329:=Tryz.func186.trans (congrArg some (by kernel_rfl))
 f330:=Tryz.func187.trans (congrArg some (by kernel_rfl))
 f331:=Tryz.func293.trans (congrArg some (by kernel_rfl))
 f332:=Tryz.func294.trans (congrArg some (by kernel_rfl))
 f343:=Tryz.func297.trans (congrArg some (by kernel_rfl))
 t0:=Tryz.underlying0
 a0:=Tryz.isAgg0
 z0:=Tryz.sizeOf0
 v0:=Tryz.zeroValue0
 t3:=Tryz.underlying3
 a3:=Tryz.isAgg3
 z3:=Tryz.sizeOf3
 v3:=Tryz.zeroValue3
 t4:=Tryz.underlying4
 a4:=Tryz.isAgg4
 z4:=Tryz.sizeOf4
 v4:=Tryz.zeroValue4
 t5:=Tryz.underlying5
 a5:=Tryz.isAgg5
 z5:=Tryz.sizeOf5
 v5:=Tryz.zeroValue5
 t9:=Tryz.underlying9
 a9:=Tryz.isAgg9
 z9:=Tryz.sizeOf9
 v9:=Tryz.zeroValue9
 t28:=Tryz.underlying155
 a28:=Tryz.isAgg155
 z28:=Tryz.sizeOf155
 v28:=Tryz.zeroValue155
 t46:=Tryz.underlying174
 a46:=Tryz.isAgg174
 z46:=Tryz.sizeOf174
 v46:=Tryz.zeroValue174
 t51:=Tryz.underlying211
 a51:=Tryz.isAgg211
 z51:=Tryz.sizeOf211
 v51:=Tryz.zeroValue211
 t53:=Tryz.underlying213
 a53:=Tryz.isAgg213
 z53:=Tryz.sizeOf213
 v53:=Tryz.zeroValue213
 t131:=Tryz.underlying110
 a131:=Tryz.isAgg110
 z131:=Tryz.sizeOf110
 v131:=Tryz.zeroValue110
 t182:=Tryz.underlying204
 a182:=Tryz.isAgg204
 z182:=Tryz.sizeOf204
 v182:=Tryz.zeroValue204
 t183:=Tryz.underlying205
 a183:=Tryz.isAgg205
 z183:=Tryz.sizeOf205
 v183:=Tryz.zeroValue205
 t218:=Tryz.underlying245
 a218:=Tryz.isAgg245
 z218:=Tryz.sizeOf245
 v218:=Tryz.zeroValue245
 t222:=Tryz.underlying249
 a222:=Tryz.isAgg249
 z222:=Tryz.sizeOf249
 v222:=Tryz.zeroValue249
 t228:=Tryz.underlying274
 a228:=Tryz.isAgg274
 z228:=Tryz.sizeOf274
 v228:=Tryz.zeroValue274
 t229:=Tryz.underlying275
 a229:=Tryz.isAgg275
 z229:=Tryz.sizeOf275
 v229:=Tryz.zeroValue275 }
end Go.Proofs
namespace Go.Proofs
open Go.Shelf Go.RowKit Go.Lib Go.Sort
def SpA:Type:={x:Int×Int // 0≤x.1∧x.1≤1000000}
instance:Inhabited SpA:=⟨⟨(0,0),by decide⟩⟩
def encSpA(x:SpA):List Value:=[.int .i64 x.1.1,.int .i64 x.1.2]
def cfSpA(x y:SpA):Int:=x.1.1-y.1.1
theorem Tryz.closure169(x y:SpA)(W:World):Calls Tryz.prog 169 #[.agg #[.int .i64 x.1.1,.int .i64 x.1.2],.agg #[.int .i64 y.1.1,.int .i64 y.1.2]] W fun e w'=>e=.returned (.int .i64 (cfSpA x y))∧∃q os',w'=grow (W.drewN q) os':=by
 obtain⟨⟨a,b⟩,h1,h2⟩:=x;obtain⟨⟨c,d⟩,h3,h4⟩:=y;dsimp only at h1 h2 h3 h4;have hw:IntKind.i64.wrap (a-c)=a-c:=by simp[IntKind.wrap,IntKind.bits,IntKind.signed];omega
 show Calls Tryz.prog 169 #[.agg #[.int .i64 a,.int .i64 b],.agg #[.int .i64 c,.int .i64 d]] W fun e w'=>e=.returned (.int .i64 (a-c))∧∃q os',w'=grow (W.drewN q) os'
 go_enter Tryz.func169,Tryz.ntmps169
 go_wp2
 go_ret
 exact⟨rfl,0,_,by rw[alloc_eq_grow,alloc_eq_grow,grow_grow];rfl⟩
def TmA:Type:=ByteArray×{v:Value // v.oneCell'=true}×{v:Value // v.oneCell'=true}
instance:Inhabited TmA:=⟨⟨ByteArray.empty,⟨.bool false,rfl⟩,⟨.bool false,rfl⟩⟩⟩
def encTmA(x:TmA):List Value:=[.string x.1,x.2.1.1,x.2.2.1]
def cfTmA(x y:TmA):Int:=Lib.compareBytes x.1.data.toList y.1.data.toList
theorem Tryz.closure219(x y:TmA)(W:World):Calls Tryz.prog 219 #[.agg #[.string x.1,x.2.1.1,x.2.2.1],.agg #[.string y.1,y.2.1.1,y.2.2.1]] W fun e w'=>e=.returned (.int .i64 (cfTmA x y))∧∃q os',w'=grow (W.drewN q) os':=by
 have hcon:=fun W'=>Any.strings_Compare Tryz.layCompare x.1 y.1 W';obtain⟨a,⟨b,hb⟩,⟨c,hc⟩⟩:=x;obtain⟨a',⟨b',mq⟩,⟨c',nV⟩⟩:=y;dsimp only at hcon
 change ∀W',Calls Tryz.prog 69 _ _ _ at hcon
 unfold cfTmA;dsimp only;generalize Lib.compareBytes a.data.toList a'.data.toList=r at hcon⊢
 go_enter Tryz.func219,Tryz.ntmps219
 go_wp2_with (go_at_call 69;refine(hcon _).mono ?_;rintro e w' ⟨rfl,rfl⟩)
 go_ret
 exact⟨rfl,0,_,by rw[alloc_eq_grow,alloc_eq_grow,grow_grow];rfl⟩
end Go.Proofs
namespace Go.Eng
open Go.Proofs
theorem lR(v:Ver):PC 61 [.agg (Gu v)] (.agg [vi v.a,vi v.b,vi v.c]):=by
 refine Ps F1 Tryz.func61 rfl (Nz rfl) ?_;exact Yi (Nz rfl) (Yi (Nz rfl) (.refl _))
def part(v:Ver):Nat→Int
 |0=>v.a
 |1=>v.b
 |_=>v.c
theorem UX{v:Ver}{i:Nat}(h:¬okPart (part v i)):Cq v=false:=by
 unfold Cq
 match i,h with
 |0,h=>have h:¬okPart v.a:=h;simp[h]
 |1,h=>have h:¬okPart v.b:=h;simp[h]
 |_+2,h=>have h:¬okPart v.c:=h;simp[h]
theorem lM(v:Ver):PC 38 [.agg (Gu v)] (vb (Cq v)):=by
 refine Ps F1 Tryz.func38 rfl (Nz rfl) ?_;refine Yi (Nz rfl) (Xi .pure (Xi _ (Yi (lR v) ?_)));refine Xi {i:Nat // i≤3∧∀j,j<i→okPart (part v j)} (Xi (fun i=>⟨[(6,.agg [vi v.a,vi v.b,vi v.c]),(7,vi i.1)],[],Aa⟩) (Xi (fun i=>3-i.1) (Yi (Xi ⟨0,by simp⟩ ?_) ?_)))
 ·exact⟨Z2,Tv,Fh,Tv⟩
 ·intro⟨i,h1,h2⟩;refine Yi ?_ ?_
  ·intro h;have h:(i:Int)<3:=h;refine Yi ⟨by show(0:Int)≤i;omega,by show(i:Int)<3;omega⟩ ?_;have hp:LJ (([vi v.a,vi v.b,vi v.c]).drop ((i:Int).toNat*1))=fun K=>K (vi (part v i)):=by
    match i,h with
    |0,_=>rfl
    |1,_=>rfl
    |2,_=>rfl
    |_+3,h=>omega
   show LJ (([vi v.a,vi v.b,vi v.c]).drop ((i:Int).toNat*1)) _;rw[hp];refine Yi ?_ ?_
   ·intro h3;have h3:part v i<0:=h3;rw[UX (i:=i) (by unfold okPart;omega)];exact .refl _
   ·intro h3;have h3:¬part v i<0:=h3;refine Yi ?_ ?_
    ·intro h4;have h4:(999:Int)<part v i:=h4;rw[UX (i:=i) (by unfold okPart;omega)];exact .refl _
    ·intro h4;have h4:¬(999:Int)<part v i:=h4;refine Yi (Ii i (by omega)) ?_;refine Xi ⟨i+1,by omega,fun j hj=>?_⟩ ?_
     ·by_cases e:j=i
      ·subst e;exact⟨by omega,by omega⟩
      ·exact h2 j (by omega)
     ·exact⟨Dl 3 i (by omega),Z2,Tv,Fh,Tv⟩
  ·intro h;have h:¬(i:Int)<3:=h;have e:i=3:=by omega
   have q:Cq v=true:=by
    unfold Cq;have a:=h2 0 (by omega);have b:=h2 1 (by omega);have c:=h2 2 (by omega);simp only[part]at a b c;simp[a,b,c]
   rw[q];exact .refl _
theorem oV(v:Ver):PC 39 [.agg (Gu v)] (.tup [vi (if Cq v then place v else 0),vi (if Cq v then 0 else 2)]):=by
 refine Ps F1 Tryz.func39 rfl (Nz rfl) ?_;refine Yi (Nz rfl) (Xi .pure (Xi _ (Yi (lM v) ?_)));cases h:Cq v with
 |false=>exact .refl _
 |true =>
  have hv:=JK h;refine Yi (by show BK (1000*v.b);unfold BK;omega) ?_;exact Yi (by show BK (1000*v.b+v.c);unfold BK;omega) (.refl _)
def EV(caps:List AV):Prop:=∀c∈caps,∀h,str0 h c=c
theorem EV.map{caps:List AV}(hs:EV caps)(h:Nat→HO):caps.map (str0 h)=caps:=by
 conv=>rhs;rw[←Ie caps]
 exact A8 fun c hc=>hs c hc h
theorem EV.ids{caps:List AV}(hs:EV caps)(h:Nat→HO):W9 h caps=true:=by
 induction caps with
 |nil=>rfl
 |cons c r ih =>
  have hc:=hs c (Ab ..) Aa;have h0:ids0 h c=true:=by
   cases c with
   |slice tk es=>cases tk with |none=>rfl |full sz=>simp[str0]at hc |id r sz=>simp[str0]at hc |ver r sz v=>simp[str0]at hc
   |_=>first |rfl |(simp[str0,Aa]at hc)
  unfold W9;rw[h0];exact ih fun c hc=>hs c (Ah _ hc)
def KF{α:Type}(p:α→Bool):List α→Int→Int
 | [],_=>-1
 |x::r,i=>if p x then i else KF p r (i+1)
theorem Pj{α:Type}{p:α→Bool}:∀{l:List α} {i:Nat} {k:Int} (hi:i<l.length),(∀j (hj:j<l.length),j<i→p l[j]=false)→p l[i]=true→KF p l k=k+i
 |x::r,0,k,_,_,h=>by
  have h:p x=true:=h;simp[KF,h]
 |x::r,i+1,k,hi,hb,h=>by
  have h0:p x=false:=hb 0 (by simp) (by omega)
  have:=Pj (l:=r) (i:=i) (k:=k+1) (by simpa using hi) (fun j hj MF=>hb (j+1) (by simpa using hj) (by omega)) (by simpa using h)
  simp only[KF,h0,Dd,F9,this];omega
theorem Kn{α:Type}{p:α→Bool}:∀{l:List α} {k:Int},(∀j (hj:j<l.length),p l[j]=false)→KF p l k=-1
 | [],_,_=>rfl
 |x::r,k,h=>by
  have h0:p x=false:=h 0 (by simp);simp only[KF,h0,Dd,F9];exact Kn fun j hj=>h (j+1) (by simpa using hj)
theorem Oj{α:Type}{p:α→Bool}:∀(l:List α) (k:Int),0≤k→decide (0≤KF p l k)=l.any p
 | [],k,_=>by simp[KF]
 |x::r,k,hk=>by
  unfold KF;cases h:p x with
  |true=>simp[h,hk]
  |false=>simp[h,Oj r (k+1) (by omega)]
-- one for each type of elements
theorem sK{fF:Nat}{caps:List AV}(hs:EV caps)(l:List (Int×Int))(p:Int×Int→Bool)(hF:∀x∈l,PC fF ([.agg (Ao x)]++caps) (vb (p x)))(hl:l.length<9223372036854775807) :
  PC 173 [sl Ao l,.clo fF caps] (vi (KF p l 0)):=by
 refine Ps F1 Tryz.func173 rfl (Nz rfl) ?_;refine Xi {i:Nat // i≤l.length∧∀j (hj:j<l.length),j<i→p l[j]=false} (Xi (fun i=>⟨[(0,sl Ao l),(1,.clo fF caps),(7,vi (l.map Ao).length),(8,vi i.1)],[],Aa⟩) (Xi (fun i=>l.length-i.1) (Yi (Xi ⟨0,by simp⟩ ?_) ?_)))
 ·exact⟨⟨Zr,⟨rfl,hs.ids _⟩,Zr,Zr,Tv⟩,Tv,Fh,Tv⟩
 ·intro⟨i,h1,h2⟩;refine Yi ?_ ?_
  ·intro h;have h:(i:Int)<(l.map Ao).length:=h;have h:i<l.length:=by simpa using h
   have hg:l[i]?=some l[i]:=Ge h;refine Xi (Ao l[i]) (Yi (Yi (Nn i) (by simp[hg])) (Yi rfl (Yi (Nz rfl) ?_)));have DY:∀h,PC fF ([.agg (Ao l[i])]++caps.map (str0 h)) (vb (p l[i])):=fun h=>by rw[hs.map];exact hF l[i] (Ax _)
   cases hp:p l[i]with
   |true =>
    rw[hp]at DY;refine Xi .pure (Xi (vb true) (Yi (DY _) ?_));rw[Pj h (fun j hj MF=>h2 j hj MF) hp,J7];exact .refl _
   |false =>
    rw[hp]at DY;refine Xi .pure (Xi (vb false) (Yi (DY _) ?_));refine Yi (Ii i (by omega)) ?_;refine Xi ⟨i+1,by omega,fun j hj MF=>?_⟩ ?_
    ·by_cases e:j=i
     ·subst e;exact hp
     ·exact h2 j hj (by omega)
    ·exact⟨Dl l.length i (by omega),⟨Zr,⟨rfl,hs.ids _⟩,Zr,Zr,Tv⟩,Tv,Fh,Tv⟩
  ·intro h;have h:¬(i:Int)<(l.map Ao).length:=h;have h:¬i<l.length:=by simpa using h
   rw[Kn fun j hj=>h2 j hj (by omega)];exact .refl _
abbrev CJ{α:Type}(l:List α):Prop:=l.length≤1073741824
theorem Fa{α:Type}{enc:α→List AV}{n:Nat}(h:∀x,(enc x).length=n):∀l:List α,Df n (l.map enc)
 | []=>trivial
 |x::l=>⟨h x,Fa h l⟩
theorem QR{x y:Int×Int}:ky (Ao x) (Ao y)↔x=y:=by
 constructor
 ·intro h;have h:x.1=y.1∧x.2=y.2∧True:=h;exact Prod.ext h.1 h.2.1
 ·rintro rfl;exact⟨rfl,rfl,trivial⟩
abbrev B2(l:List Tm):List AV:=[sl AC l]
abbrev DB(s:ByteArray):List AV:=[vs s]
theorem wA{fF:Nat}{caps:List AV}(hs:EV caps)(l:List (Sl))(p:Sl→Bool)(hF:∀x∈l,PC fF ([.agg (Af x)]++caps) (vb (p x)))(hl:l.length<9223372036854775807) :
  PC 208 [sl Af l,.clo fF caps] (vi (KF p l 0)):=by
 refine FR (cJ F1) rfl Cn hm rfl Tryz.func208 (by kernel_rfl) rfl (Nz rfl) (by kernel_rfl) ?_;refine Xi {i:Nat // i≤l.length∧∀j (hj:j<l.length),j<i→p l[j]=false} (Xi (fun i=>⟨[(0,sl Af l),(1,.clo fF caps),(7,vi (l.map Af).length),(8,vi i.1)],[],Aa⟩) (Xi (fun i=>l.length-i.1) (Yi (Xi ⟨0,by simp⟩ ?_) ?_)))
 ·exact⟨⟨Zr,⟨rfl,hs.ids _⟩,Zr,Zr,Tv⟩,Tv,Fh,Tv⟩
 ·intro⟨i,h1,h2⟩;refine Yi ?_ ?_
  ·intro h;have h:(i:Int)<(l.map Af).length:=h;have h:i<l.length:=by simpa using h
   have hg:l[i]?=some l[i]:=Ge h;refine Xi (Af l[i]) (Yi (Yi (by show(0:Int)≤i;omega) (by simp[hg])) (Yi rfl (Yi (Nz rfl) ?_)));have DY:∀h,PC fF ([.agg (Af l[i])]++caps.map (str0 h)) (vb (p l[i])):=fun h=>by rw[hs.map];exact hF l[i] (Ax _)
   cases hp:p l[i]with
   |true =>
    rw[hp]at DY;refine Xi .pure (Xi (vb true) (Yi (DY _) ?_));rw[Pj h (fun j hj MF=>h2 j hj MF) hp,J7];exact .refl _
   |false =>
    rw[hp]at DY;refine Xi .pure (Xi (vb false) (Yi (DY _) ?_));refine Yi (Ii i (by omega)) ?_;refine Xi ⟨i+1,by omega,fun j hj MF=>?_⟩ ?_
    ·by_cases e:j=i
     ·subst e;exact hp
     ·exact h2 j hj (by omega)
    ·exact⟨Dl l.length i (by omega),⟨Zr,⟨rfl,hs.ids _⟩,Zr,Zr,Tv⟩,Tv,Fh,Tv⟩
  ·intro h;have h:¬(i:Int)<(l.map Af).length:=h;have h:¬i<l.length:=by simpa using h
   rw[Kn fun j hj=>h2 j hj (by omega)];exact .refl _
theorem iL{fF:Nat}{caps:List AV}(hs:EV caps)(l:List (Tm))(p:Tm→Bool)(hF:∀x∈l,PC fF ([.agg (AC x)]++caps) (vb (p x)))(hl:l.length<9223372036854775807) :
  PC 180 [sl AC l,.clo fF caps] (vi (KF p l 0)):=by
 refine FR (cJ F1) rfl Cn hm rfl Tryz.func180 (by kernel_rfl) rfl (Nz rfl) (by kernel_rfl) ?_;refine Xi {i:Nat // i≤l.length∧∀j (hj:j<l.length),j<i→p l[j]=false} (Xi (fun i=>⟨[(0,sl AC l),(1,.clo fF caps),(7,vi (l.map AC).length),(8,vi i.1)],[],Aa⟩) (Xi (fun i=>l.length-i.1) (Yi (Xi ⟨0,by simp⟩ ?_) ?_)))
 ·exact⟨⟨Zr,⟨rfl,hs.ids _⟩,Zr,Zr,Tv⟩,Tv,Fh,Tv⟩
 ·intro⟨i,h1,h2⟩;refine Yi ?_ ?_
  ·intro h;have h:(i:Int)<(l.map AC).length:=h;have h:i<l.length:=by simpa using h
   have hg:l[i]?=some l[i]:=Ge h;refine Xi (AC l[i]) (Yi (Yi (by show(0:Int)≤i;omega) (by simp[hg])) (Yi rfl (Yi (Nz rfl) ?_)));have DY:∀h,PC fF ([.agg (AC l[i])]++caps.map (str0 h)) (vb (p l[i])):=fun h=>by rw[hs.map];exact hF l[i] (Ax _)
   cases hp:p l[i]with
   |true =>
    rw[hp]at DY;refine Xi .pure (Xi (vb true) (Yi (DY _) ?_));rw[Pj h (fun j hj MF=>h2 j hj MF) hp,J7];exact .refl _
   |false =>
    rw[hp]at DY;refine Xi .pure (Xi (vb false) (Yi (DY _) ?_));refine Yi (Ii i (by omega)) ?_;refine Xi ⟨i+1,by omega,fun j hj MF=>?_⟩ ?_
    ·by_cases e:j=i
     ·subst e;exact hp
     ·exact h2 j hj (by omega)
    ·exact⟨Dl l.length i (by omega),⟨Zr,⟨rfl,hs.ids _⟩,Zr,Zr,Tv⟩,Tv,Fh,Tv⟩
  ·intro h;have h:¬(i:Int)<(l.map AC).length:=h;have h:¬i<l.length:=by simpa using h
   rw[Kn fun j hj=>h2 j hj (by omega)];exact .refl _
theorem sw{fF:Nat}{caps:List AV}(hs:EV caps)(l:List (Int×Int))(p:Int×Int→Bool)(hF:∀x∈l,PC fF ([.agg (Ao x)]++caps) (vb (p x)))(hl:CJ l) :
  PC 119 [sl Ao l,.clo fF caps] (vb (l.any p)):=by
 refine FR (cJ F1) rfl Cn hm rfl Tryz.func119 (by kernel_rfl) rfl (Nz rfl) (by kernel_rfl) ?_;have hi:=sK hs l p hF (by unfold CJ at hl;omega);have DY:∀h,PC 173 [sl Ao l,.clo fF (caps.map (str0 h))] (vi (KF p l 0)):=fun h=>by rw[hs.map];exact hi
 refine Xi .pure (Xi _ (Yi (DY _) ?_));have ha:=Oj (p:=p) l 0 (BO 0);refine Yi ?_ ?_
 ·intro h;have h:(0:Int)≤KF p l 0:=h;rw[←ha,AA h];exact .refl _
 ·intro h;have h:¬(0:Int)≤KF p l 0:=h;rw[←ha,At h];exact .refl _
theorem yf{fF:Nat}{caps:List AV}(hs:EV caps)(l:List (Sl))(p:Sl→Bool)(hF:∀x∈l,PC fF ([.agg (Af x)]++caps) (vb (p x)))(hl:CJ l) :
  PC 178 [sl Af l,.clo fF caps] (vb (l.any p)):=by
 refine FR (cJ F1) rfl Cn hm rfl Tryz.func178 (by kernel_rfl) rfl (Nz rfl) (by kernel_rfl) ?_;have hi:=wA hs l p hF (by unfold CJ at hl;omega);have DY:∀h,PC 208 [sl Af l,.clo fF (caps.map (str0 h))] (vi (KF p l 0)):=fun h=>by rw[hs.map];exact hi
 refine Xi .pure (Xi _ (Yi (DY _) ?_));have ha:=Oj (p:=p) l 0 (BO 0);refine Yi ?_ ?_
 ·intro h;have h:(0:Int)≤KF p l 0:=h;rw[←ha,AA h];exact .refl _
 ·intro h;have h:¬(0:Int)≤KF p l 0:=h;rw[←ha,At h];exact .refl _
theorem lQ{fF:Nat}{caps:List AV}(hs:EV caps)(l:List (Tm))(p:Tm→Bool)(hF:∀x∈l,PC fF ([.agg (AC x)]++caps) (vb (p x)))(hl:CJ l) :
  PC 125 [sl AC l,.clo fF caps] (vb (l.any p)):=by
 refine FR (cJ F1) rfl Cn hm rfl Tryz.func125 (by kernel_rfl) rfl (Nz rfl) (by kernel_rfl) ?_;have hi:=iL hs l p hF (by unfold CJ at hl;omega);have DY:∀h,PC 180 [sl AC l,.clo fF (caps.map (str0 h))] (vi (KF p l 0)):=fun h=>by rw[hs.map];exact hi
 refine Xi .pure (Xi _ (Yi (DY _) ?_));have ha:=Oj (p:=p) l 0 (BO 0);refine Yi ?_ ?_
 ·intro h;have h:(0:Int)≤KF p l 0:=h;rw[←ha,AA h];exact .refl _
 ·intro h;have h:¬(0:Int)≤KF p l 0:=h;rw[←ha,At h];exact .refl _
theorem sD(l:List (Int×Int))(hl:CJ l):PC 62 [sl Ao l] (sl Ao l):=by
 refine FR (cJ F1) rfl Cn hm rfl Tryz.func62 (by kernel_rfl) rfl (Nz rfl) (by kernel_rfl) ?_;have G9:Df 2 (l.map Ao)∧([]:List (List AV)).length=0∧(([]:List (List AV)).length+(l.map Ao).length)*16≤140737488355328∧([]:List (List AV)).length+(l.map Ao).length≤9223372036854775807:=by
  refine⟨Fa (enc:=Ao) (n:=2) (fun _=>rfl) l,rfl,?_,?_⟩<;>simp only[AG,Lm]<;>unfold CJ at hl<;>omega
 refine Yi ?_ ?_
 ·intro _;exact Yi G9 (.refl _)
 ·intro h;have h:l.map Ao=[]:=h;refine Yi ?_ ?_
  ·show Hg (.v (.slice none 0 0)) (.slice .none (l.map Ao));rw[h];exact .nil
  ·exact Yi G9 (.refl _)
theorem oL(l m:List (Int×Int))(hl:CJ l):PC 166 [sl Ao l,sl Ao m] (vb (decide (l=m))):=by
 refine FR (cJ F1) rfl Cn hm rfl Tryz.func166 (by kernel_rfl) rfl (Nz rfl) (by kernel_rfl) ?_;refine Yi ?_ ?_
 ·intro h;have h:¬((l.map Ao).length:Int)=(m.map Ao).length:=h
  have:l≠m:=fun e=>h (by rw[e])
  rw[At this];exact .refl _
 ·intro h;have h:¬((l.map Ao).length:Int)≠(m.map Ao).length:=h;have Cu:l.length=m.length:=by simp at h;omega
  refine Xi {i:Nat // i≤l.length∧l.take i=m.take i} (Xi (fun i=>⟨[(0,sl Ao l),(1,sl Ao m),(12,vi (l.map Ao).length),(13,vi i.1)],[],Aa⟩) (Xi (fun i=>l.length-i.1) (Yi (Xi ⟨0,by simp⟩ ?_) ?_)))
  ·exact⟨⟨Zr,Zr,Zr,Zr,Tv⟩,Tv,Fh,Tv⟩
  ·intro⟨i,h1,h2⟩;refine Yi ?_ ?_
   ·intro h;have h:(i:Int)<(l.map Ao).length:=h;have h:i<l.length:=by simpa using h
    have h' : i<m.length:=by omega
    have hg:l[i]?=some l[i]:=Ge h;have cU : m[i]?=some m[i]:=Ge h';refine Xi (Ao l[i]) (Yi (Yi (by show(0:Int)≤i;omega) (by simp[hg])) (Yi rfl (Yi (Nz rfl) ?_)));refine Xi (Ao m[i]) (Yi (Yi (by show(0:Int)≤i;omega) (by simp[cU])) (Yi rfl (Yi (Nz rfl) ?_)));refine Yi ?_ ?_
    ·intro h5;have e:l[i]=m[i]:=QR.1 h5;refine Yi (by kernel_rfl) ?_;refine Yi (by show BK ((i:Int)+1);unfold CJ at hl;unfold BK;omega) ?_;refine Xi ⟨i+1,by omega,?_⟩ ?_
     ·rw[Bi,Bi,h2,hg,cU,e]
     ·exact⟨Dl l.length i (by omega),⟨Zr,Zr,Zr,Zr,Tv⟩,Tv,Fh,Tv⟩
    ·intro h5;refine Yi (by kernel_rfl) ?_
     have:l≠m:=fun e=>h5 (QR.2 (by subst e;rfl))
     rw[At this];exact .refl _
   ·intro h;have h:¬(i:Int)<(l.map Ao).length:=h;have h:¬i<l.length:=by simpa using h
    have e:l=m:=by
     rw[←AD (l:=l) (i:=i) (by omega),h2,AD (by omega)]
    rw[AA e];exact .refl _
abbrev ir(l:List Nat):Ro:=⟨l,[],[],[],[],[],[],[],[],[],[]⟩
theorem EV.ptr(cs:List AV):EV [.cptr cs]:=fun c hc h=>by
 rw[Am.1 hc];rfl
theorem sx(s:Int×Int)(p:Int):PC 120 [.agg (Ao s),.cptr [vi p]] (vb (BE p s)):=by
 refine Ps F1 Tryz.func120 rfl (Nz rfl) ?_;refine Yi ?_ ?_
 ·intro h;have h:s.1≤p:=h;refine Yi ?_ ?_
  ·intro h2;have h2:p<s.2:=h2;rw[show BE p s=true by simp[BE,h,h2]];exact .refl _
  ·intro h2;have h2:¬p<s.2:=h2;rw[show BE p s=false by simp[BE,h2]];exact .refl _
 ·intro h;have h:¬s.1≤p:=h;rw[show BE p s=false by simp[BE,h]];exact .refl _
theorem oW(s:List (Int×Int))(p:Int)(hl:CJ s):PC 90 [sl Ao s,vi p] (vb (has s p)):=by
 refine Ps (ir [3]) Tryz.func90 rfl (Nz rfl) ?_;refine Yi ?_ ?_
 ·intro h;have h:0≤p:=h;refine Yi ?_ ?_
  ·intro h2;have h2:p<1000000:=h2;refine Xi .pure (Xi _ (Yi (sw (EV.ptr [vi p]) s (BE p) (fun x _=>sx x p) hl) ?_));rw[show has s p=s.any (BE p) by simp[has,h,h2]];cases s.any (BE p)<;>exact .refl _
  ·intro h2;have h2:¬p<1000000:=h2;rw[show has s p=false by simp[has,h2]];exact .refl _
 ·intro h;have h:¬0≤p:=h;rw[show has s p=false by simp[has,h]];exact .refl _
theorem wB(r:Rl):PC 115 [.agg (Ag r)] (vi (plc r.ver)):=by
 refine Ps F1 Tryz.func115 rfl (Nz rfl) ?_;exact Yi (Nz rfl) (Xi .pure (Xi _ (Yi (oV r.ver) (.refl _))))
theorem yo(x:Sl)(t:Tm):PC 241 [.agg (Af x),.cptr (AC t)] (vb (decide (x.path=t.path))):=by
 refine Ps F1 Tryz.func241 rfl (Nz rfl) ?_;refine Yi ?_ ?_
 ·intro h;have h:x.path=t.path:=h;rw[AA h];exact .refl _
 ·intro h;have h:¬x.path=t.path:=h;rw[At h];exact .refl _
theorem Ok{α:Type}{p:α→Bool}:∀(l:List α) (k:Int),(KF p l k=-1∧l.find? p=none)∨∃i x,KF p l k=k+(i:Nat)∧l[i]?=some x∧l.find? p=some x
 | [],k=>.inl Zr
 |x::r,k=>by
  cases h:p x with
  |true=>exact .inr ⟨0,x,by simp[KF,h],rfl,by simp[h]⟩
  |false =>
   rcases Ok (p:=p) r (k+1)with ⟨h1,h2⟩ | ⟨i,y,h1,h2,h3⟩
   ·exact .inl ⟨by simp[KF,h,h1],by simp[h,h2]⟩
   ·exact .inr ⟨i+1,y,by simp only[KF,h,Dd,F9,h1];omega,by simpa using h2,by simp[h,h3]⟩
theorem yh(t:Tm)(s:List Sl)(hl:CJ s)(ht:CJ t.set):PC 207 [.agg (AC t),sl Af s] (vb (Gr t s)):=by
 have hc:=wA (EV.ptr (AC t)) s (fun x=>decide (x.path=t.path)) (fun x _=>yo x t) (by unfold CJ at hl;omega);unfold Gr;rcases Ok (p:=fun x:Sl=>decide (x.path=t.path)) s 0 with ⟨h1,h2⟩ | ⟨i,x,h1,h2,h3⟩
 ·rw[h1]at hc;rw[h2];refine Ps (ir [2]) Tryz.func207 rfl (Nz rfl) ?_;refine Xi .pure (Xi _ (Yi hc ?_));refine Yi ?_ ?_
  ·intro _;refine Yi ?_ ?_
   ·intro h;have h:t.absent=true:=h;rw[h];exact .refl _
   ·intro h;have h:t.absent=false:=h;rw[h];exact .refl _
  ·intro h;exact absurd (show(-1:Int)<0 by decide) h
 ·rw[h1,J7]at hc;rw[h3];have hg:(s.map Af)[((i:Nat):Int).toNat]?=some (Af x):=by rw[Cg,AF,h2];rfl
  have hp:=oV x.ver;dsimp only;rcases Bt (Cq x.ver)with hv | hv
  ·rw[hv,Aq rfl,Aq rfl]at hp;rw[hv];refine Ps (ir [2]) Tryz.func207 rfl (Nz rfl) ?_;refine Xi .pure (Xi _ (Yi hc ?_));refine Yi ?_ ?_
   ·intro h;have h:(i:Int)<0:=h;omega
   ·intro _;refine Xi (Af x) (Yi (Yi (Nn i) hg) (Yi rfl (Yi (Nz rfl) ?_)));refine Xi .pure (Xi _ (Yi hp ?_));refine Yi ?_ ?_
    ·intro _;refine Xi .pure (Xi _ (Yi (oW t.set (place x.ver) ht) ?_));exact .refl _
    ·intro h;exact absurd rfl h
  ·rw[hv,Ai (by decide),Ai (by decide)]at hp;rw[hv];refine Ps (ir [2]) Tryz.func207 rfl (Nz rfl) ?_;refine Xi .pure (Xi _ (Yi hc ?_));refine Yi ?_ ?_
   ·intro h;have h:(i:Int)<0:=h;omega
   ·intro _;refine Xi (Af x) (Yi (Yi (Nn i) hg) (Yi rfl (Yi (Nz rfl) ?_)));refine Xi .pure (Xi _ (Yi hp ?_));refine Yi ?_ ?_
    ·intro h;have h:(2:Int)=0:=h;omega
    ·intro _;exact .refl _
theorem iz{α:Type}{p:α→Bool}{l:List α}{i:Nat}(h:∀j (hj:j<l.length),j<i→p l[j]=true)(hi:¬i<l.length):l.all p=true:=by
 rw[Bp];intro x hx;obtain⟨j,hj,rfl⟩:=CW.1 hx;exact h j hj (by omega)
theorem lE{α:Type}{p:α→Bool}{l:List α}{i:Nat}(hi:i<l.length)(h:p l[i]=false):l.all p=false:=by
 rw[List.all_eq_false];exact⟨l[i],Ax hi,by simp[h]⟩
abbrev c9(l:List Tm):Prop:=CJ l∧∀t∈l,CJ t.set
theorem yc(l:List Tm)(s:List Sl)(hl:c9 l)(hs:CJ s):PC 176 [sl AC l,sl Af s] (vb (l.all fun t=>Gr t s)):=by
 have hc:∀i (h:i<l.length),PC 207 [.agg (AC l[i]),sl Af s] (vb (Gr l[i] s)):=fun i h=>yh l[i] s hs (hl.2 _ (Ax h));obtain⟨hl,_⟩:=hl;unfold CJ at hl;refine Ps F1 Tryz.func176 rfl (Nz rfl) ?_;refine Xi {i:Nat // i≤l.length∧∀j (hj:j<l.length),j<i→Gr l[j] s=true} (Xi (fun i=>⟨[(0,sl AC l),(1,sl Af s),(7,vi (l.map AC).length),(8,vi i.1)],[],Aa⟩) (Xi (fun i=>l.length-i.1) (Yi (Xi ⟨0,by simp⟩ ?_) ?_)))
 ·exact⟨Z4,Tv,Fh,Tv⟩
 ·intro⟨i,h1,h2⟩;refine Yi ?_ ?_
  ·intro h;have h:(i:Int)<(l.map AC).length:=h;have h:i<l.length:=by simpa using h
   have hg:l[i]?=some l[i]:=Ge h;have rF:=hc i h;refine Xi (AC l[i]) (Yi (Yi (Nn i) (by simp[hg])) (Yi rfl (Yi (Nz rfl) ?_)));cases hp:Gr l[i] s with
   |false =>
    rw[hp]at rF;refine Xi .pure (Xi _ (Yi rF ?_));rw[lE (p:=fun t=>Gr t s) h hp];exact .refl _
   |true =>
    rw[hp]at rF;refine Xi .pure (Xi _ (Yi rF ?_));refine Yi (Ii i (by omega)) ?_;refine Xi ⟨i+1,by omega,fun j hj MF=>?_⟩ ?_
    ·by_cases e:j=i
     ·subst e;exact hp
     ·exact h2 j hj (by omega)
    ·exact⟨Dl l.length i (by omega),Z4,Tv,Fh,Tv⟩
  ·intro h;have h:¬(i:Int)<(l.map AC).length:=h;have h:¬i<l.length:=by simpa using h
   rw[iz (p:=fun t=>Gr t s) h2 h];exact .refl _
theorem sC(x:Sl)(t:Tm):PC 179 [.agg (Af x),.cptr (AC t)] (vb (decide (x.path=t.path))):=by
 refine Ps F1 Tryz.func179 rfl (Nz rfl) ?_;refine Yi ?_ ?_
 ·intro h;have h:x.path=t.path:=h;rw[AA h];exact .refl _
 ·intro h;have h:¬x.path=t.path:=h;rw[At h];exact .refl _
theorem sA(t:Tm)(s:List Sl)(hs:CJ s):PC 177 [.agg (AC t),.cptr [sl Af s]] (vb (!Ct s t.path)):=by
 have hc:=yf (EV.ptr (AC t)) s (fun x=>decide (x.path=t.path)) (fun x _=>sC x t) hs;unfold Ct;cases hp:s.any fun x=>decide (x.path=t.path)with
 |true =>
  rw[hp]at hc;refine Ps (ir [2]) Tryz.func177 rfl (Nz rfl) ?_;exact Xi .pure (Xi _ (Yi hc (.refl _)))
 |false =>
  rw[hp]at hc;refine Ps (ir [2]) Tryz.func177 rfl (Nz rfl) ?_;exact Xi .pure (Xi _ (Yi hc (.refl _)))
theorem wC(l:List Tm)(s:List Sl)(hl:c9 l)(hs:CJ s):PC 124 [sl AC l,sl Af s] (vb (Cp l s)):=by
 have hv:=yc l s hl hs;have hc:=lQ (EV.ptr [sl Af s]) l (fun t=>!Ct s t.path) (fun t _=>sA t s hs) hl.1;unfold Cp Bb;cases h1:l.all fun t=>Gr t s with
 |false =>
  rw[h1]at hv;refine Ps (ir [3]) Tryz.func124 rfl (Nz rfl) ?_;exact Xi .pure (Xi _ (Yi hv (.refl _)))
 |true =>
  rw[h1]at hv;cases h2:l.any fun t=>!Ct s t.path with
  |true =>
   rw[h2]at hc;refine Ps (ir [3]) Tryz.func124 rfl (Nz rfl) ?_;exact Xi .pure (Xi _ (Yi hv (Xi .pure (Xi _ (Yi hc (.refl _))))))
  |false =>
   rw[h2]at hc;refine Ps (ir [3]) Tryz.func124 rfl (Nz rfl) ?_;exact Xi .pure (Xi _ (Yi hv (Xi .pure (Xi _ (Yi hc (.refl _))))))
abbrev RL(a:An):List AV:=[vb a.found,sl Af a.sel,sl BQ a.infs,sl BM a.skips]
theorem lP(r:Rl):PC 59 [.agg (Ag r)] (.agg (Af ⟨r.path,r.ver⟩)):=by
 refine Ps F1 Tryz.func59 rfl (Nz rfl) ?_;exact Yi (Nz rfl) (Yi (Nz rfl) (Yi (Nz rfl) (.refl _)))
theorem wz(l m:List (Int×Int))(hl:CJ l):PC 80 [sl Ao l,sl Ao m] (vb (decide (l=m))):=by
 refine Ps F1 Tryz.func80 rfl (Nz rfl) ?_;refine Yi ?_ ?_
 ·intro h;have h:¬((l.map Ao).length:Int)=(m.map Ao).length:=h
  have:l≠m:=fun e=>h (by rw[e])
  rw[At this];exact .refl _
 ·intro h;have h:¬((l.map Ao).length:Int)≠(m.map Ao).length:=h;have Cu:l.length=m.length:=by simp at h;omega
  refine Xi {i:Nat // i≤l.length∧l.take i=m.take i} (Xi (fun i=>⟨[(0,sl Ao l),(1,sl Ao m),(5,vi i.1)],[],Aa⟩) (Xi (fun i=>l.length-i.1) (Yi (Xi ⟨0,by simp⟩ ?_) ?_)))
  ·exact⟨Z3,Tv,Fh,Tv⟩
  ·intro⟨i,h1,h2⟩;refine Yi ?_ ?_
   ·intro h;have h:(i:Int)<(l.map Ao).length:=h;have h:i<l.length:=by simpa using h
    have h' : i<m.length:=by omega
    have hg:l[i]?=some l[i]:=Ge h;have cU : m[i]?=some m[i]:=Ge h';refine Xi (Ao l[i]) (Yi (Yi (Nn i) (by simp[hg])) (Yi rfl (Yi (Nz rfl) ?_)));refine Xi (Ao m[i]) (Yi (Yi (Nn i) (by simp[cU])) (Yi rfl (Yi (Nz rfl) ?_)));refine Yi ?_ ?_
    ·intro h5;have e:l[i]=m[i]:=QR.1 h5;refine Yi (by kernel_rfl) ?_;refine Yi (by show BK ((i:Int)+1);unfold CJ at hl;unfold BK;omega) ?_;refine Xi ⟨i+1,by omega,?_⟩ ?_
     ·rw[Bi,Bi,h2,hg,cU,e]
     ·exact⟨Dl l.length i (by omega),Z3,Tv,Fh,Tv⟩
    ·intro h5;refine Yi (by kernel_rfl) ?_
     have:l≠m:=fun e=>h5 (QR.2 (by subst e;rfl))
     rw[At this];exact .refl _
   ·intro h;have h:¬(i:Int)<(l.map Ao).length:=h;have h:¬i<l.length:=by simpa using h
    have e:l=m:=by
     rw[←AD (l:=l) (i:=i) (by omega),h2,AD (by omega)]
    rw[AA e];exact .refl _
end Go.Eng
namespace Go.Eng
open Go.Proofs Go.Shelf Go.RowKit Go.Lib Go.Sort
theorem ZB(x y:SpA):ltOf cfSpA x y=decide (x.1.1<y.1.1):=by
 unfold ltOf cfSpA;rw[BN];simp only[Au];omega
theorem gK:SWO (ltOf cfSpA) where
 irrefl x:=by rw[ZB];simp
 trans x y z h1 h2:=by rw[ZB]at *;simp at *;omega
 ntrans x y z h1 h2:=by rw[ZB]at *;simp at *;omega
theorem SE:∀x y:List UInt8,decide (Lib.compareBytes x y<0)=HX x y
 | [],[]=>rfl
 | [],_::_=>rfl
 |_::_,[]=>rfl
 |a::x,b::y=>by
  unfold Lib.compareBytes HX
  by_cases h:a<b
  ·simp[h]
  ·by_cases h2:b<a
   ·have:¬a=b:=fun e=>by subst e;exact absurd h2 (UInt8.lt_irrefl a)
    simp[h,h2,this]
   ·have e:a=b:=UInt8.le_antisymm (UInt8.not_lt.1 h2) (UInt8.not_lt.1 h);subst e;simp[UInt8.lt_irrefl,SE x y]
theorem ZC(x y:TmA):ltOf cfTmA x y=Ep x.1 y.1:=SE _ _
theorem gL:SWO (ltOf cfTmA) where
 irrefl x:=by rw[ZC];exact C3 _
 trans x y z h1 h2:=by rw[ZC]at *;exact DP h1 h2
 ntrans x y z h1 h2:=by
  rw[ZC]at *
  rw[AM];intro h;cases oh:Ep y.1 x.1 with
  |true=>have:=DP oh h;rw[h2]at this;cases this
  |false =>
   have e:=Hi h1 oh;rw[e]at h;rw[h2]at h;cases h
abbrev TH(k:Nat):Value:=.func (.func k) #[] #[]
theorem cK (k : Nat) {fn : Func} {c : Code} (hf : Tryz.prog.funcs[k]? = some fn) (hn : (fn.name == "runtime.NumGoroutine") = false) (hb : fn.body = some c) : FU Tryz.prog k := aP hf hn hb
theorem sM(l:List (Int×Int))(hl:CJ l)(h:∀x∈l,0≤x.1∧x.1≤1000000)(lim:Nat)(W3:lim<100) :
  A3 Tryz.prog 205 [.msl 1000 l.length,vi 0,vi l.length,vi lim,.v (TH 169)] (Aj [(1000,.arr 2 (l.map Ao))] Aa) fun r h' =>
   r=.tup []∧∃l' : List (Int×Int),l'.Perm l∧l'.Pairwise (fun x y=>x.1≤y.1)∧h'=Aj [(1000,.arr 2 (l'.map Ao))] Aa:=by
 have hl:l.length≤1073741824:=hl;have hE:FU Tryz.prog 205:=cK 205 Tryz.func205 (by kernel_rfl) rfl;have eg:∀args w,(callFunc 169 args).run Tryz.prog w=.ok (.enter 169 args) w:=enters_of Tryz.func169 (by kernel_rfl) rfl;have G1:=I3 (P:=Tryz.prog) (f:=205) (α:=SpA) (rest:=[.int .i64 0,.int .i64 l.length,.int .i64 lim,TH 169]) hE Ao encSpA (k:=2) (fun _=>rfl) (fun _=>rfl) (ltOf cfSpA) (fun x a=>a.1=x) l (by omega) ?_ ?_ ?_
 ·refine⟨hE,fun g w vals q1 q2 q3=>(G1.2 g w vals q1 q2 q3).mono fun _ _ ⟨v,r,h',g',e1,⟨e2,l',p1,⟨al,a1,a2,a3⟩,p2⟩,rest⟩=>⟨v,r,h',g',e1,⟨e2,l',p1,?_,p2⟩,rest⟩⟩;rw[AY]at a3⊢;intro i j hi hj OS
  have:=a3 i j (by omega) (by omega) OS
  rw[ZB]at this;have e1:=a2 i _ _ (As hi) (As (by omega));have e2:=a2 j _ _ (As hj) (As (by omega));rw[←e1,←e2]
  have:=Hc this
  omega
 ·intro x hx g w vs hr
  match vs,hr with
  | [a,b],hr =>
   have h1:=(hr.2.2 0 (vi x.1) a rfl rfl).v_eq;have h2:=(hr.2.2 1 (vi x.2) b rfl rfl).v_eq;subst h1;subst h2;exact⟨⟨x,h x hx⟩,rfl,rfl⟩
  | [],hr=>have:=hr.1;simp at this
  | [_],hr=>have:=hr.1;simp at this
  |_::_::_::_,hr=>have:=hr.1;simp at this
 ·intro w b cap d hH hb Eu hdl;have ee:CmpLays Tryz.prog 169 #[] encSpA 2 cfSpA b 0 d.size w:=fun _ _ _ _ x y=>Tryz.closure169 x y _;have hp:=AnyQ.pdqsortCmpFunc_all Tryz.layPdqSpan 2 Tryz.isAgg67 Tryz.sizeOf67 encSpA cfSpA 169 #[] gK b 0 cap d w eg ee ⟨fun _=>rfl,fun x v hv=>by simp[encSpA]at hv;rcases hv with rfl | rfl<;>rfl,hH,hb⟩ (d.size+1) 0 d.size lim d w (by omega) rfl (SWK.start hH) (AL _) (Al _) Eu (by omega) (Or.inl rfl)
  rw[hdl]at hp⊢;refine hp.mono ?_
  rintro e w' ⟨rfl,n,os,rfl⟩
  have h:=pdq_sorts (ltOf cfSpA) gK d 0 d.size lim true true (AL _) (Al _) (Or.inl rfl);rw[hdl]at h;exact⟨rfl,_,n,os,h.1,h.2,rfl⟩
 ·intro e w;subst e;exact AnyF.pdqsortCmpFunc_none Tryz.layPdqSpan none 0 lim (TH 169) w
theorem su(l:List Tm)(hl:CJ l)(lim:Nat)(W3:lim<100) :
  A3 Tryz.prog 244 [.msl 1000 l.length,vi 0,vi l.length,vi lim,.v (TH 219)] (Aj [(1000,.arr 3 (l.map AC))] Aa) fun r h' =>
   r=.tup []∧∃l' : List Tm,l'.Perm l∧l'.Pairwise (fun x y=>Ep y.path x.path=false)∧h'=Aj [(1000,.arr 3 (l'.map AC))] Aa:=by
 have hl:l.length≤1073741824:=hl;have hE:FU Tryz.prog 244:=cK 244 Tryz.func244 (by kernel_rfl) rfl;have eg:∀args w,(callFunc 219 args).run Tryz.prog w=.ok (.enter 219 args) w:=enters_of Tryz.func219 (by kernel_rfl) rfl;have G1:=I3 (P:=Tryz.prog) (f:=244) (α:=TmA) (rest:=[.int .i64 0,.int .i64 l.length,.int .i64 lim,TH 219]) hE AC encTmA (k:=3) (fun _=>rfl) (fun _=>rfl) (ltOf cfTmA) (fun x a=>a.1=x.path) l (by omega) ?_ ?_ ?_
 ·refine⟨hE,fun g w vals q1 q2 q3=>(G1.2 g w vals q1 q2 q3).mono fun _ _ ⟨v,r,h',g',e1,⟨e2,l',p1,⟨al,a1,a2,a3⟩,p2⟩,rest⟩=>⟨v,r,h',g',e1,⟨e2,l',p1,?_,p2⟩,rest⟩⟩;rw[AY]at a3⊢;intro i j hi hj OS
  have:=a3 i j (by omega) (by omega) OS
  rw[ZC]at this;have e1:=a2 i _ _ (As hi) (As (by omega));have e2:=a2 j _ _ (As hj) (As (by omega));rw[←e1,←e2];exact this
 ·intro x hx g w vs hr
  match vs,hr with
  | [a,b,c],hr =>
   have h1:=(hr.2.2 0 (Go.Eng.vs x.path) a rfl rfl).v_eq;subst h1;exact⟨⟨x.path,⟨b,hr.2.1 b (by simp)⟩,⟨c,hr.2.1 c (by simp)⟩⟩,rfl,rfl⟩
  | [],hr=>have:=hr.1;simp at this
  | [_],hr=>have:=hr.1;simp at this
  | [_,_],hr=>have:=hr.1;simp at this
  |_::_::_::_::_,hr=>have:=hr.1;simp at this
 ·intro w b cap d hH hb Eu hdl;have ee:CmpLays Tryz.prog 219 #[] encTmA 3 cfTmA b 0 d.size w:=fun _ _ _ _ x y=>Tryz.closure219 x y _;have hp:=AnyQ.pdqsortCmpFunc_all Tryz.layPdqTerm 3 Tryz.isAgg198 Tryz.sizeOf198 encTmA cfTmA 219 #[] gL b 0 cap d w eg ee ⟨fun _=>rfl,fun x v hv=>by
    simp only[encTmA,Av,Lj,or_false]at hv;rcases hv with rfl | rfl | rfl
    ·rfl
    ·exact x.2.1.2
    ·exact x.2.2.2,hH,hb⟩ (d.size+1) 0 d.size lim d w (by omega) rfl (SWK.start hH) (AL _) (Al _) Eu (by omega) (Or.inl rfl)
  rw[hdl]at hp⊢;refine hp.mono ?_
  rintro e w' ⟨rfl,n,os,rfl⟩
  have h:=pdq_sorts (ltOf cfTmA) gL d 0 d.size lim true true (AL _) (Al _) (Or.inl rfl);rw[hdl]at h;exact⟨rfl,_,n,os,h.1,h.2,rfl⟩
 ·intro e w;subst e;exact AnyF.pdqsortCmpFunc_none Tryz.layPdqTerm none 0 lim (TH 219) w
end Go.Eng
namespace Go.Eng
open Go.Proofs
-- the checker,and what reads it
theorem GM(a b:ByteArray):Ep a b=Op.bytesLess a.toList b.toList:=by
 have:∀x y:List UInt8,HX x y=Op.bytesLess x y:=by
  intro x
  induction x with
  |nil=>intro y;cases y<;>rfl
  |cons a x ih =>
   intro y;cases y with
   |nil=>rfl
   |cons b y =>
    unfold HX Op.bytesLess;rw[ih];rw[BN];simp
 unfold Ep;rw[this,ByteArray.toList_eq,ByteArray.toList_eq]
end Go.Eng
