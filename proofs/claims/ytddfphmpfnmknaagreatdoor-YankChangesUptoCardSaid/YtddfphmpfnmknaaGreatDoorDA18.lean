/- Lemmas for the claims of this seat, without a condition: part 18 (Dat, LaySort, CSort, C1, C2, CS, C4, C5, C6, C7, C8, C9, C10, C11, C12, C13, C14, CSort2, C15). -/
import Derived.Test.YtddfphmpfnmknaaGreatDoorDA16
import Derived.Test.YtddfphmpfnmknaaGreatDoorDA01
import Derived.Shelf.SlSortCmp.WholeK
import Derived.Shelf.Sort.Plain
import Derived.Shelf.Small.Strs
import Derived.Shelf.Small.Bits
import Derived.Ground.SlsfProg
import Derived.Ground.NamesProg
import Derived.Shelf.SlSortCmp.NoneTotal
set_option maxHeartbeats 1000000
namespace Go.Eng
open Go.Proofs
abbrev vi(n:Int):AV := .v (.int .i64 n)
abbrev vb(b:Bool):AV := .v (.bool b)
abbrev vs(s:ByteArray):AV := .v (.string s)
abbrev sl{α:Type}(enc:α → List AV)(l:List α):AV := .slice .none (l.map enc)
abbrev Ea(v:Ver):List AV := [vi v.a,vi v.b,vi v.c]
abbrev Af(s:Int×Int):List AV := [vi s.1,vi s.2]
abbrev AF(q:Rq):List AV := [vs q.path,sl Af q.set]
abbrev Ag(r:Rl):List AV := [vs r.path,vi r.ver.a,vi r.ver.b,vi r.ver.c,sl AF r.reqs,vs r.arch,vs r.ifc,vs r.cert,vb r.yanked]
abbrev Ad(s:Sl):List AV := [vs s.path,vi s.ver.a,vi s.ver.b,vi s.ver.c]
abbrev AH(t:Tm):List AV := [vs t.path,vb t.absent,sl Af t.set]
abbrev BY(i:Nf):List AV := [vi i.kind,vs i.path,vi i.place,vi i.number,vi i.left,vi i.right]
abbrev BS(s:Sk):List AV := [vs s.path,vi s.place,vi s.inf]
noncomputable abbrev dY(pl:RE):Cx := ⟨Tryz.prog,mT,pl,false,0,fun _ _ _ _ => True⟩
noncomputable abbrev Lg(pl:RE):Cx := ⟨Tryz.prog,mT,pl,true,0,fun _ _ _ _ => True⟩
abbrev E4:RE := ⟨[],[],[],[],[],[],[],[],[],[],[]⟩
abbrev PC(f:Nat)(args:List AV)(res:AV):Prop := Jq Tryz.prog f args res
theorem hm:Tryz.prog.follows .mixedOrders = true := by rfl
theorem Zr{α:Sort _}{β:Sort _}{a:α}{b:β}:a = a ∧ b = b := ⟨rfl,rfl⟩
theorem Nz{a b:Nat}(h:Nat.ble a b = true):a ≤ b := H9 h
theorem Xi{α:Sort _}{p:α → Prop}(w:α)(h:p w):Exists p := Exists.intro w h
theorem Yi{a b:Prop}(h:a)(k:b):a ∧ b := And.intro h k
theorem Fh{st:St}{h:Nat → HO}:∀j,Aa j = .free ∨ (st.h j = Aa j ∧ Yd h (Aa j) = true) := fun _ => .inl rfl
theorem Tv:True := trivial
theorem Ii(i:Nat)(h:i ≤ 9223372036854775806):Bi ((i:Int) + 1) := by unfold Bi;omega
theorem Dl(n i:Nat)(h:i<n):n-(i + 1)<n-i := by omega
theorem Bt(b:Bool):b = true ∨ b = false := Bool.eq_false_or_eq_true b
theorem Z1{α:Type}{a0:α}{b0:Bool}:(a0 = a0 ∧ b0 = b0) ∧ True := ⟨⟨rfl,rfl⟩,trivial⟩
theorem Z2{α:Type}{a0 a1:α}{b0 b1:Bool}:(a0 = a0 ∧ b0 = b0) ∧ (a1 = a1 ∧ b1 = b1) ∧ True := ⟨⟨rfl,rfl⟩,⟨rfl,rfl⟩,trivial⟩
theorem Z3{α:Type}{a0 a1 a2:α}{b0 b1 b2:Bool}:(a0 = a0 ∧ b0 = b0) ∧ (a1 = a1 ∧ b1 = b1) ∧ (a2 = a2 ∧ b2 = b2) ∧ True := ⟨⟨rfl,rfl⟩,⟨rfl,rfl⟩,⟨rfl,rfl⟩,trivial⟩
theorem Z4{α:Type}{a0 a1 a2 a3:α}{b0 b1 b2 b3:Bool}:(a0 = a0 ∧ b0 = b0) ∧ (a1 = a1 ∧ b1 = b1) ∧ (a2 = a2 ∧ b2 = b2) ∧ (a3 = a3 ∧ b3 = b3) ∧ True := ⟨⟨rfl,rfl⟩,⟨rfl,rfl⟩,⟨rfl,rfl⟩,⟨rfl,rfl⟩,trivial⟩
theorem Z5{α:Type}{a0 a1 a2 a3 a4:α}{b0 b1 b2 b3 b4:Bool}:(a0 = a0 ∧ b0 = b0) ∧ (a1 = a1 ∧ b1 = b1) ∧ (a2 = a2 ∧ b2 = b2) ∧ (a3 = a3 ∧ b3 = b3) ∧ (a4 = a4 ∧ b4 = b4) ∧ True := ⟨⟨rfl,rfl⟩,⟨rfl,rfl⟩,⟨rfl,rfl⟩,⟨rfl,rfl⟩,⟨rfl,rfl⟩,trivial⟩
theorem Z6{α:Type}{a0 a1 a2 a3 a4 a5:α}{b0 b1 b2 b3 b4 b5:Bool}:(a0 = a0 ∧ b0 = b0) ∧ (a1 = a1 ∧ b1 = b1) ∧ (a2 = a2 ∧ b2 = b2) ∧ (a3 = a3 ∧ b3 = b3) ∧ (a4 = a4 ∧ b4 = b4) ∧ (a5 = a5 ∧ b5 = b5) ∧ True := ⟨⟨rfl,rfl⟩,⟨rfl,rfl⟩,⟨rfl,rfl⟩,⟨rfl,rfl⟩,⟨rfl,rfl⟩,⟨rfl,rfl⟩,trivial⟩
theorem Z7{α:Type}{a0 a1 a2 a3 a4 a5 a6:α}{b0 b1 b2 b3 b4 b5 b6:Bool}:(a0 = a0 ∧ b0 = b0) ∧ (a1 = a1 ∧ b1 = b1) ∧ (a2 = a2 ∧ b2 = b2) ∧ (a3 = a3 ∧ b3 = b3) ∧ (a4 = a4 ∧ b4 = b4) ∧ (a5 = a5 ∧ b5 = b5) ∧ (a6 = a6 ∧ b6 = b6) ∧ True := ⟨⟨rfl,rfl⟩,⟨rfl,rfl⟩,⟨rfl,rfl⟩,⟨rfl,rfl⟩,⟨rfl,rfl⟩,⟨rfl,rfl⟩,⟨rfl,rfl⟩,trivial⟩
theorem Z8{α:Type}{a0 a1 a2 a3 a4 a5 a6 a7:α}{b0 b1 b2 b3 b4 b5 b6 b7:Bool}:(a0 = a0 ∧ b0 = b0) ∧ (a1 = a1 ∧ b1 = b1) ∧ (a2 = a2 ∧ b2 = b2) ∧ (a3 = a3 ∧ b3 = b3) ∧ (a4 = a4 ∧ b4 = b4) ∧ (a5 = a5 ∧ b5 = b5) ∧ (a6 = a6 ∧ b6 = b6) ∧ (a7 = a7 ∧ b7 = b7) ∧ True := ⟨⟨rfl,rfl⟩,⟨rfl,rfl⟩,⟨rfl,rfl⟩,⟨rfl,rfl⟩,⟨rfl,rfl⟩,⟨rfl,rfl⟩,⟨rfl,rfl⟩,⟨rfl,rfl⟩,trivial⟩
theorem Z9{α:Type}{a0 a1 a2 a3 a4 a5 a6 a7 a8:α}{b0 b1 b2 b3 b4 b5 b6 b7 b8:Bool}:(a0 = a0 ∧ b0 = b0) ∧ (a1 = a1 ∧ b1 = b1) ∧ (a2 = a2 ∧ b2 = b2) ∧ (a3 = a3 ∧ b3 = b3) ∧ (a4 = a4 ∧ b4 = b4) ∧ (a5 = a5 ∧ b5 = b5) ∧ (a6 = a6 ∧ b6 = b6) ∧ (a7 = a7 ∧ b7 = b7) ∧ (a8 = a8 ∧ b8 = b8) ∧ True := ⟨⟨rfl,rfl⟩,⟨rfl,rfl⟩,⟨rfl,rfl⟩,⟨rfl,rfl⟩,⟨rfl,rfl⟩,⟨rfl,rfl⟩,⟨rfl,rfl⟩,⟨rfl,rfl⟩,⟨rfl,rfl⟩,trivial⟩
theorem Z10{α:Type}{a0 a1 a2 a3 a4 a5 a6 a7 a8 a9:α}{b0 b1 b2 b3 b4 b5 b6 b7 b8 b9:Bool}:(a0 = a0 ∧ b0 = b0) ∧ (a1 = a1 ∧ b1 = b1) ∧ (a2 = a2 ∧ b2 = b2) ∧ (a3 = a3 ∧ b3 = b3) ∧ (a4 = a4 ∧ b4 = b4) ∧ (a5 = a5 ∧ b5 = b5) ∧ (a6 = a6 ∧ b6 = b6) ∧ (a7 = a7 ∧ b7 = b7) ∧ (a8 = a8 ∧ b8 = b8) ∧ (a9 = a9 ∧ b9 = b9) ∧ True := ⟨⟨rfl,rfl⟩,⟨rfl,rfl⟩,⟨rfl,rfl⟩,⟨rfl,rfl⟩,⟨rfl,rfl⟩,⟨rfl,rfl⟩,⟨rfl,rfl⟩,⟨rfl,rfl⟩,⟨rfl,rfl⟩,⟨rfl,rfl⟩,trivial⟩
theorem Z11{α:Type}{a0 a1 a2 a3 a4 a5 a6 a7 a8 a9 Xq:α}{b0 b1 b2 b3 b4 b5 b6 b7 b8 b9 Y2:Bool}:(a0 = a0 ∧ b0 = b0) ∧ (a1 = a1 ∧ b1 = b1) ∧ (a2 = a2 ∧ b2 = b2) ∧ (a3 = a3 ∧ b3 = b3) ∧ (a4 = a4 ∧ b4 = b4) ∧ (a5 = a5 ∧ b5 = b5) ∧ (a6 = a6 ∧ b6 = b6) ∧ (a7 = a7 ∧ b7 = b7) ∧ (a8 = a8 ∧ b8 = b8) ∧ (a9 = a9 ∧ b9 = b9) ∧ (Xq = Xq ∧ Y2 = Y2) ∧ True := ⟨⟨rfl,rfl⟩,⟨rfl,rfl⟩,⟨rfl,rfl⟩,⟨rfl,rfl⟩,⟨rfl,rfl⟩,⟨rfl,rfl⟩,⟨rfl,rfl⟩,⟨rfl,rfl⟩,⟨rfl,rfl⟩,⟨rfl,rfl⟩,⟨rfl,rfl⟩,trivial⟩
theorem Z12{α:Type}{a0 a1 a2 a3 a4 a5 a6 a7 a8 a9 Xq az:α}{b0 b1 b2 b3 b4 b5 b6 b7 b8 b9 Y2 nt:Bool}:(a0 = a0 ∧ b0 = b0) ∧ (a1 = a1 ∧ b1 = b1) ∧ (a2 = a2 ∧ b2 = b2) ∧ (a3 = a3 ∧ b3 = b3) ∧ (a4 = a4 ∧ b4 = b4) ∧ (a5 = a5 ∧ b5 = b5) ∧ (a6 = a6 ∧ b6 = b6) ∧ (a7 = a7 ∧ b7 = b7) ∧ (a8 = a8 ∧ b8 = b8) ∧ (a9 = a9 ∧ b9 = b9) ∧ (Xq = Xq ∧ Y2 = Y2) ∧ (az = az ∧ nt = nt) ∧ True := ⟨⟨rfl,rfl⟩,⟨rfl,rfl⟩,⟨rfl,rfl⟩,⟨rfl,rfl⟩,⟨rfl,rfl⟩,⟨rfl,rfl⟩,⟨rfl,rfl⟩,⟨rfl,rfl⟩,⟨rfl,rfl⟩,⟨rfl,rfl⟩,⟨rfl,rfl⟩,⟨rfl,rfl⟩,trivial⟩
theorem Z13{α:Type}{a0 a1 a2 a3 a4 a5 a6 a7 a8 a9 Xq az a12:α}{b0 b1 b2 b3 b4 b5 b6 b7 b8 b9 Y2 nt tV:Bool}:(a0 = a0 ∧ b0 = b0) ∧ (a1 = a1 ∧ b1 = b1) ∧ (a2 = a2 ∧ b2 = b2) ∧ (a3 = a3 ∧ b3 = b3) ∧ (a4 = a4 ∧ b4 = b4) ∧ (a5 = a5 ∧ b5 = b5) ∧ (a6 = a6 ∧ b6 = b6) ∧ (a7 = a7 ∧ b7 = b7) ∧ (a8 = a8 ∧ b8 = b8) ∧ (a9 = a9 ∧ b9 = b9) ∧ (Xq = Xq ∧ Y2 = Y2) ∧ (az = az ∧ nt = nt) ∧ (a12 = a12 ∧ tV = tV) ∧ True := ⟨⟨rfl,rfl⟩,⟨rfl,rfl⟩,⟨rfl,rfl⟩,⟨rfl,rfl⟩,⟨rfl,rfl⟩,⟨rfl,rfl⟩,⟨rfl,rfl⟩,⟨rfl,rfl⟩,⟨rfl,rfl⟩,⟨rfl,rfl⟩,⟨rfl,rfl⟩,⟨rfl,rfl⟩,⟨rfl,rfl⟩,trivial⟩
theorem Nn(i:Nat):(0:Int) ≤ (i:Int) := Int.natCast_nonneg i
abbrev Ic(x:List Rl)(ifs:List (List AV)):List AV := [sl Ag x,.slice .none ifs]
theorem Ps{f:Nat}{fn:Func}{c:Code}{args:List AV}{res:AV}(pl:RE)(hf:Tryz.prog.funcs[f]? = some fn)(hb:fn.body = some c)(hN:args.length ≤ fn.ntmps)(hk:RF (dY pl) c (nS (dY pl) fn.results.toList fun r => G1 r res) ⟨OK args,Aa⟩)
    (hn : (fn.name == "runtime.NumGoroutine") = false := by kernel_rfl) (hc : ED fn.ntmps c = true := by kernel_rfl) : Jq Tryz.prog f args res := Gi (dY pl) rfl Cw hm rfl hf hn hb hN hc hk
theorem Lm{α β:Type}(f:α → β){l:List α}:(l.map f).length = l.length := Bb f
theorem Ge{α:Type}{l:List α}{i:Nat}(h:i<l.length):l[i]? = some l[i] := Ax h
end Go.Eng
namespace Go.Proofs
open Go.Shelf
def Tryz.layPdqSpan_ren:Go.Shelf.Ren:=⟨fun | 14=>205 | 20=>233 | 21=>234 | 22=>235 | 23=>236 | 24=>237 | 25=>238 | 26=>239 | 27=>240 | 46=>255 | 47=>186 | 48=>187 | 49=>256 | 50=>257 | 15=>98 | 57=>276 | 28=>137 | 29=>138 | n=>n,fun | 24=>67 | 22=>68 | 3=>3 | 25=>231 | 4=>4 | 0=>0 | 46=>205 | 45=>204 | 50=>110 | 66=>245 | 39=>174 | 55=>213 | 70=>249 | 76=>274 | 77=>275 | 53=>211 | 5=>5 | 9=>9 | n=>n,fun | n=>n⟩
theorem Tryz.layPdqSpan:Go.Proofs.SlLaysF0.n14 Tryz.prog Tryz.layPdqSpan_ren:={
 mixed:=by kernel_rfl
 f14:=⟨Tryz.f205.name,by decide,Tryz.func205.trans (congrArg some (by kernel_rfl))⟩
 f15:=Tryz.func98.trans (congrArg some (by kernel_rfl))
 f20:=⟨Tryz.f233.name,by decide,Tryz.func233.trans (congrArg some (by kernel_rfl))⟩
 f21:=⟨Tryz.f234.name,by decide,Tryz.func234.trans (congrArg some (by kernel_rfl))⟩
 f22:=⟨Tryz.f235.name,by decide,Tryz.func235.trans (congrArg some (by kernel_rfl))⟩
 f23:=⟨Tryz.f236.name,by decide,Tryz.func236.trans (congrArg some (by kernel_rfl))⟩
 f24:=⟨Tryz.f237.name,by decide,Tryz.func237.trans (congrArg some (by kernel_rfl))⟩
 f25:=⟨Tryz.f238.name,by decide,Tryz.func238.trans (congrArg some (by kernel_rfl))⟩
 f26:=⟨Tryz.f239.name,by decide,Tryz.func239.trans (congrArg some (by kernel_rfl))⟩
 f27:=⟨Tryz.f240.name,by decide,Tryz.func240.trans (congrArg some (by kernel_rfl))⟩
 f28:=Tryz.func137.trans (congrArg some (by kernel_rfl))
 f29:=Tryz.func138.trans (congrArg some (by kernel_rfl))
 f46:=⟨Tryz.f255.name,by decide,Tryz.func255.trans (congrArg some (by kernel_rfl))⟩
 f47:=Tryz.func186.trans (congrArg some (by kernel_rfl))
 f48:=Tryz.func187.trans (congrArg some (by kernel_rfl))
 f49:=⟨Tryz.f256.name,by decide,Tryz.func256.trans (congrArg some (by kernel_rfl))⟩
 f50:=⟨Tryz.f257.name,by decide,Tryz.func257.trans (congrArg some (by kernel_rfl))⟩
 f57:=⟨Tryz.f276.name,by decide,Tryz.func276.trans (congrArg some (by kernel_rfl))⟩
 t0:=Tryz.underlying0
 a0:=Tryz.isAgg0
 z0:=Tryz.sizeOf0
 v0:=Tryz.zeroValue0
 t3:=Tryz.underlying3
 a3:=Tryz.isAgg3
 z3:=Tryz.sizeOf3
 v3:=Tryz.zeroValue3
 t4:=Tryz.underlying4
 a4:=Tryz.isAgg4
 z4:=Tryz.sizeOf4
 v4:=Tryz.zeroValue4
 t5:=Tryz.underlying5
 a5:=Tryz.isAgg5
 z5:=Tryz.sizeOf5
 v5:=Tryz.zeroValue5
 t9:=Tryz.underlying9
 a9:=Tryz.isAgg9
 z9:=Tryz.sizeOf9
 v9:=Tryz.zeroValue9
 t22:=Tryz.underlying68
 a22:=Tryz.isAgg68
 z22:=Tryz.sizeOf68
 v22:=Tryz.zeroValue68
 t25:=Tryz.underlying231
 a25:=Tryz.isAgg231
 z25:=Tryz.sizeOf231
 v25:=Tryz.zeroValue231
 t39:=Tryz.underlying174
 a39:=Tryz.isAgg174
 z39:=Tryz.sizeOf174
 v39:=Tryz.zeroValue174
 t45:=Tryz.underlying204
 a45:=Tryz.isAgg204
 z45:=Tryz.sizeOf204
 v45:=Tryz.zeroValue204
 t46:=Tryz.underlying205
 a46:=Tryz.isAgg205
 z46:=Tryz.sizeOf205
 v46:=Tryz.zeroValue205
 t50:=Tryz.underlying110
 a50:=Tryz.isAgg110
 z50:=Tryz.sizeOf110
 v50:=Tryz.zeroValue110
 t53:=Tryz.underlying211
 a53:=Tryz.isAgg211
 z53:=Tryz.sizeOf211
 v53:=Tryz.zeroValue211
 t55:=Tryz.underlying213
 a55:=Tryz.isAgg213
 z55:=Tryz.sizeOf213
 v55:=Tryz.zeroValue213
 t66:=Tryz.underlying245
 a66:=Tryz.isAgg245
 z66:=Tryz.sizeOf245
 v66:=Tryz.zeroValue245
 t70:=Tryz.underlying249
 a70:=Tryz.isAgg249
 z70:=Tryz.sizeOf249
 v70:=Tryz.zeroValue249
 t76:=Tryz.underlying274
 a76:=Tryz.isAgg274
 z76:=Tryz.sizeOf274
 v76:=Tryz.zeroValue274
 t77:=Tryz.underlying275
 a77:=Tryz.isAgg275
 z77:=Tryz.sizeOf275
 v77:=Tryz.zeroValue275 }
def Tryz.layPdqTerm_ren:Go.Shelf.Ren:=⟨fun | 14=>244 | 20=>260 | 21=>261 | 22=>262 | 23=>263 | 24=>264 | 25=>265 | 26=>266 | 27=>267 | 46=>286 | 47=>186 | 48=>187 | 49=>287 | 50=>288 | 15=>98 | 57=>295 | 28=>137 | 29=>138 | n=>n,fun | 24=>198 | 22=>167 | 3=>3 | 25=>272 | 4=>4 | 0=>0 | 46=>205 | 45=>204 | 50=>110 | 66=>245 | 39=>174 | 55=>213 | 70=>249 | 76=>274 | 77=>275 | 53=>211 | 5=>5 | 9=>9 | n=>n,fun | n=>n⟩
theorem Tryz.layPdqTerm:Go.Proofs.SlLaysF0.n14 Tryz.prog Tryz.layPdqTerm_ren:={
 mixed:=by kernel_rfl
 f14:=⟨Tryz.f244.name,by decide,Tryz.func244.trans (congrArg some (by kernel_rfl))⟩
 f15:=Tryz.func98.trans (congrArg some (by kernel_rfl))
 f20:=⟨Tryz.f260.name,by decide,Tryz.func260.trans (congrArg some (by kernel_rfl))⟩
 f21:=⟨Tryz.f261.name,by decide,Tryz.func261.trans (congrArg some (by kernel_rfl))⟩
 f22:=⟨Tryz.f262.name,by decide,Tryz.func262.trans (congrArg some (by kernel_rfl))⟩
 f23:=⟨Tryz.f263.name,by decide,Tryz.func263.trans (congrArg some (by kernel_rfl))⟩
 f24:=⟨Tryz.f264.name,by decide,Tryz.func264.trans (congrArg some (by kernel_rfl))⟩
 f25:=⟨Tryz.f265.name,by decide,Tryz.func265.trans (congrArg some (by kernel_rfl))⟩
 f26:=⟨Tryz.f266.name,by decide,Tryz.func266.trans (congrArg some (by kernel_rfl))⟩
 f27:=⟨Tryz.f267.name,by decide,Tryz.func267.trans (congrArg some (by kernel_rfl))⟩
 f28:=Tryz.func137.trans (congrArg some (by kernel_rfl))
 f29:=Tryz.func138.trans (congrArg some (by kernel_rfl))
 f46:=⟨Tryz.f286.name,by decide,Tryz.func286.trans (congrArg some (by kernel_rfl))⟩
 f47:=Tryz.func186.trans (congrArg some (by kernel_rfl))
 f48:=Tryz.func187.trans (congrArg some (by kernel_rfl))
 f49:=⟨Tryz.f287.name,by decide,Tryz.func287.trans (congrArg some (by kernel_rfl))⟩
 f50:=⟨Tryz.f288.name,by decide,Tryz.func288.trans (congrArg some (by kernel_rfl))⟩
 f57:=⟨Tryz.f295.name,by decide,Tryz.func295.trans (congrArg some (by kernel_rfl))⟩
 t0:=Tryz.underlying0
 a0:=Tryz.isAgg0
 z0:=Tryz.sizeOf0
 v0:=Tryz.zeroValue0
 t3:=Tryz.underlying3
 a3:=Tryz.isAgg3
 z3:=Tryz.sizeOf3
 v3:=Tryz.zeroValue3
 t4:=Tryz.underlying4
 a4:=Tryz.isAgg4
 z4:=Tryz.sizeOf4
 v4:=Tryz.zeroValue4
 t5:=Tryz.underlying5
 a5:=Tryz.isAgg5
 z5:=Tryz.sizeOf5
 v5:=Tryz.zeroValue5
 t9:=Tryz.underlying9
 a9:=Tryz.isAgg9
 z9:=Tryz.sizeOf9
 v9:=Tryz.zeroValue9
 t22:=Tryz.underlying167
 a22:=Tryz.isAgg167
 z22:=Tryz.sizeOf167
 v22:=Tryz.zeroValue167
 t25:=Tryz.underlying272
 a25:=Tryz.isAgg272
 z25:=Tryz.sizeOf272
 v25:=Tryz.zeroValue272
 t39:=Tryz.underlying174
 a39:=Tryz.isAgg174
 z39:=Tryz.sizeOf174
 v39:=Tryz.zeroValue174
 t45:=Tryz.underlying204
 a45:=Tryz.isAgg204
 z45:=Tryz.sizeOf204
 v45:=Tryz.zeroValue204
 t46:=Tryz.underlying205
 a46:=Tryz.isAgg205
 z46:=Tryz.sizeOf205
 v46:=Tryz.zeroValue205
 t50:=Tryz.underlying110
 a50:=Tryz.isAgg110
 z50:=Tryz.sizeOf110
 v50:=Tryz.zeroValue110
 t53:=Tryz.underlying211
 a53:=Tryz.isAgg211
 z53:=Tryz.sizeOf211
 v53:=Tryz.zeroValue211
 t55:=Tryz.underlying213
 a55:=Tryz.isAgg213
 z55:=Tryz.sizeOf213
 v55:=Tryz.zeroValue213
 t66:=Tryz.underlying245
 a66:=Tryz.isAgg245
 z66:=Tryz.sizeOf245
 v66:=Tryz.zeroValue245
 t70:=Tryz.underlying249
 a70:=Tryz.isAgg249
 z70:=Tryz.sizeOf249
 v70:=Tryz.zeroValue249
 t76:=Tryz.underlying274
 a76:=Tryz.isAgg274
 z76:=Tryz.sizeOf274
 v76:=Tryz.zeroValue274
 t77:=Tryz.underlying275
 a77:=Tryz.isAgg275
 z77:=Tryz.sizeOf275
 v77:=Tryz.zeroValue275 }
def Tryz.layPdqSel_ren:Go.Shelf.Ren:=⟨fun | 14=>97 | 20=>129 | 21=>130 | 22=>131 | 23=>132 | 24=>133 | 25=>134 | 26=>135 | 27=>136 | 46=>185 | 47=>186 | 48=>187 | 49=>188 | 50=>189 | 15=>98 | 57=>221 | 28=>137 | 29=>138 | n=>n,fun | 24=>29 | 22=>45 | 3=>3 | 25=>123 | 4=>4 | 0=>0 | 46=>205 | 45=>204 | 50=>110 | 66=>245 | 39=>174 | 55=>213 | 70=>249 | 76=>274 | 77=>275 | 53=>211 | 5=>5 | 9=>9 | n=>n,fun | n=>n⟩
theorem Tryz.layPdqSel:Go.Proofs.SlLaysF0.n14 Tryz.prog Tryz.layPdqSel_ren:={
 mixed:=by kernel_rfl
 f14:=⟨Tryz.f97.name,by decide,Tryz.func97.trans (congrArg some (by kernel_rfl))⟩
 f15:=Tryz.func98.trans (congrArg some (by kernel_rfl))
 f20:=⟨Tryz.f129.name,by decide,Tryz.func129.trans (congrArg some (by kernel_rfl))⟩
 f21:=⟨Tryz.f130.name,by decide,Tryz.func130.trans (congrArg some (by kernel_rfl))⟩
 f22:=⟨Tryz.f131.name,by decide,Tryz.func131.trans (congrArg some (by kernel_rfl))⟩
 f23:=⟨Tryz.f132.name,by decide,Tryz.func132.trans (congrArg some (by kernel_rfl))⟩
 f24:=⟨Tryz.f133.name,by decide,Tryz.func133.trans (congrArg some (by kernel_rfl))⟩
 f25:=⟨Tryz.f134.name,by decide,Tryz.func134.trans (congrArg some (by kernel_rfl))⟩
 f26:=⟨Tryz.f135.name,by decide,Tryz.func135.trans (congrArg some (by kernel_rfl))⟩
 f27:=⟨Tryz.f136.name,by decide,Tryz.func136.trans (congrArg some (by kernel_rfl))⟩
 f28:=Tryz.func137.trans (congrArg some (by kernel_rfl))
 f29:=Tryz.func138.trans (congrArg some (by kernel_rfl))
 f46:=⟨Tryz.f185.name,by decide,Tryz.func185.trans (congrArg some (by kernel_rfl))⟩
 f47:=Tryz.func186.trans (congrArg some (by kernel_rfl))
 f48:=Tryz.func187.trans (congrArg some (by kernel_rfl))
 f49:=⟨Tryz.f188.name,by decide,Tryz.func188.trans (congrArg some (by kernel_rfl))⟩
 f50:=⟨Tryz.f189.name,by decide,Tryz.func189.trans (congrArg some (by kernel_rfl))⟩
 f57:=⟨Tryz.f221.name,by decide,Tryz.func221.trans (congrArg some (by kernel_rfl))⟩
 t0:=Tryz.underlying0
 a0:=Tryz.isAgg0
 z0:=Tryz.sizeOf0
 v0:=Tryz.zeroValue0
 t3:=Tryz.underlying3
 a3:=Tryz.isAgg3
 z3:=Tryz.sizeOf3
 v3:=Tryz.zeroValue3
 t4:=Tryz.underlying4
 a4:=Tryz.isAgg4
 z4:=Tryz.sizeOf4
 v4:=Tryz.zeroValue4
 t5:=Tryz.underlying5
 a5:=Tryz.isAgg5
 z5:=Tryz.sizeOf5
 v5:=Tryz.zeroValue5
 t9:=Tryz.underlying9
 a9:=Tryz.isAgg9
 z9:=Tryz.sizeOf9
 v9:=Tryz.zeroValue9
 t22:=Tryz.underlying45
 a22:=Tryz.isAgg45
 z22:=Tryz.sizeOf45
 v22:=Tryz.zeroValue45
 t25:=Tryz.underlying123
 a25:=Tryz.isAgg123
 z25:=Tryz.sizeOf123
 v25:=Tryz.zeroValue123
 t39:=Tryz.underlying174
 a39:=Tryz.isAgg174
 z39:=Tryz.sizeOf174
 v39:=Tryz.zeroValue174
 t45:=Tryz.underlying204
 a45:=Tryz.isAgg204
 z45:=Tryz.sizeOf204
 v45:=Tryz.zeroValue204
 t46:=Tryz.underlying205
 a46:=Tryz.isAgg205
 z46:=Tryz.sizeOf205
 v46:=Tryz.zeroValue205
 t50:=Tryz.underlying110
 a50:=Tryz.isAgg110
 z50:=Tryz.sizeOf110
 v50:=Tryz.zeroValue110
 t53:=Tryz.underlying211
 a53:=Tryz.isAgg211
 z53:=Tryz.sizeOf211
 v53:=Tryz.zeroValue211
 t55:=Tryz.underlying213
 a55:=Tryz.isAgg213
 z55:=Tryz.sizeOf213
 v55:=Tryz.zeroValue213
 t66:=Tryz.underlying245
 a66:=Tryz.isAgg245
 z66:=Tryz.sizeOf245
 v66:=Tryz.zeroValue245
 t70:=Tryz.underlying249
 a70:=Tryz.isAgg249
 z70:=Tryz.sizeOf249
 v70:=Tryz.zeroValue249
 t76:=Tryz.underlying274
 a76:=Tryz.isAgg274
 z76:=Tryz.sizeOf274
 v76:=Tryz.zeroValue274
 t77:=Tryz.underlying275
 a77:=Tryz.isAgg275
 z77:=Tryz.sizeOf275
 v77:=Tryz.zeroValue275 }
def Tryz.layCompare_ren:Go.Shelf.Ren:=⟨fun | 106=>69 | 213=>99 | 265=>139 | n=>n,fun | 9=>9 | 3=>3 | n=>n,fun | n=>n⟩
theorem Tryz.layCompare:Go.Proofs.Lays.n106 Tryz.prog Tryz.layCompare_ren:={
 mixed:=by kernel_rfl
 f106:=Tryz.func69.trans (congrArg some (by kernel_rfl))
 f213:=Tryz.func99.trans (congrArg some (by kernel_rfl))
 f265:=Tryz.func139.trans (congrArg some (by kernel_rfl))
 t3:=Tryz.underlying3
 a3:=Tryz.isAgg3
 z3:=Tryz.sizeOf3
 v3:=Tryz.zeroValue3
 t9:=Tryz.underlying9
 a9:=Tryz.isAgg9
 z9:=Tryz.sizeOf9
 v9:=Tryz.zeroValue9 }
def Tryz.layBits_ren:Go.Shelf.Ren:=⟨fun | 125=>98 | 128=>137 | 129=>138 | n=>n,fun | 46=>174 | 3=>3 | 51=>211 | 53=>213 | 4=>4 | 5=>5 | 9=>9 | n=>n,fun | n=>n⟩
theorem Tryz.layBits:Go.Proofs.Lays.n125 Tryz.prog Tryz.layBits_ren:={
 mixed:=by kernel_rfl
 f125:=Tryz.func98.trans (congrArg some (by kernel_rfl))
 f128:=Tryz.func137.trans (congrArg some (by kernel_rfl))
 f129:=Tryz.func138.trans (congrArg some (by kernel_rfl))
 t3:=Tryz.underlying3
 a3:=Tryz.isAgg3
 z3:=Tryz.sizeOf3
 v3:=Tryz.zeroValue3
 t4:=Tryz.underlying4
 a4:=Tryz.isAgg4
 z4:=Tryz.sizeOf4
 v4:=Tryz.zeroValue4
 t5:=Tryz.underlying5
 a5:=Tryz.isAgg5
 z5:=Tryz.sizeOf5
 v5:=Tryz.zeroValue5
 t9:=Tryz.underlying9
 a9:=Tryz.isAgg9
 z9:=Tryz.sizeOf9
 v9:=Tryz.zeroValue9
 t46:=Tryz.underlying174
 a46:=Tryz.isAgg174
 z46:=Tryz.sizeOf174
 v46:=Tryz.zeroValue174
 t51:=Tryz.underlying211
 a51:=Tryz.isAgg211
 z51:=Tryz.sizeOf211
 v51:=Tryz.zeroValue211
 t53:=Tryz.underlying213
 a53:=Tryz.isAgg213
 z53:=Tryz.sizeOf213
 v53:=Tryz.zeroValue213 }
def Tryz.laySortInts_ren:Go.Shelf.Ren:=⟨fun | 189=>242 | 125=>98 | 257=>258 | 128=>137 | 129=>138 | 294=>277 | 295=>278 | 296=>279 | 297=>280 | 298=>281 | 299=>282 | 216=>283 | 300=>284 | 301=>285 | 328=>292 | 329=>186 | 330=>187 | 331=>293 | 332=>294 | 215=>167 | 343=>297 | n=>n,fun | 28=>155 | 3=>3 | 46=>174 | 0=>0 | 51=>211 | 53=>213 | 4=>4 | 183=>205 | 182=>204 | 131=>110 | 5=>5 | 9=>9 | 218=>245 | 222=>249 | 228=>274 | 229=>275 | n=>n,fun | n=>n⟩
theorem Tryz.laySortInts:Go.Proofs.Lays.n189 Tryz.prog Tryz.laySortInts_ren:={
 mixed:=by kernel_rfl
 f125:=Tryz.func98.trans (congrArg some (by kernel_rfl))
 f128:=Tryz.func137.trans (congrArg some (by kernel_rfl))
 f129:=Tryz.func138.trans (congrArg some (by kernel_rfl))
 f189:=Tryz.func242.trans (congrArg some (by kernel_rfl))
 f215:=Tryz.func167.trans (congrArg some (by kernel_rfl))
 f216:=Tryz.func283.trans (congrArg some (by kernel_rfl))
 f257:=Tryz.func258.trans (congrArg some (by kernel_rfl))
 f294:=Tryz.func277.trans (congrArg some (by kernel_rfl))
 f295:=Tryz.func278.trans (congrArg some (by kernel_rfl))
 f296:=Tryz.func279.trans (congrArg some (by kernel_rfl))
 f297:=Tryz.func280.trans (congrArg some (by kernel_rfl))
 f298:=Tryz.func281.trans (congrArg some (by kernel_rfl))
 f299:=Tryz.func282.trans (congrArg some (by kernel_rfl))
 f300:=Tryz.func284.trans (congrArg some (by kernel_rfl))
 f301:=Tryz.func285.trans (congrArg some (by kernel_rfl))
 f328:=Tryz.func292.trans (congrArg some (by kernel_rfl))
 f329:=Tryz.func186.trans (congrArg some (by kernel_rfl))
 f330:=Tryz.func187.trans (congrArg some (by kernel_rfl))
 f331:=Tryz.func293.trans (congrArg some (by kernel_rfl))
 f332:=Tryz.func294.trans (congrArg some (by kernel_rfl))
 f343:=Tryz.func297.trans (congrArg some (by kernel_rfl))
 t0:=Tryz.underlying0
 a0:=Tryz.isAgg0
 z0:=Tryz.sizeOf0
 v0:=Tryz.zeroValue0
 t3:=Tryz.underlying3
 a3:=Tryz.isAgg3
 z3:=Tryz.sizeOf3
 v3:=Tryz.zeroValue3
 t4:=Tryz.underlying4
 a4:=Tryz.isAgg4
 z4:=Tryz.sizeOf4
 v4:=Tryz.zeroValue4
 t5:=Tryz.underlying5
 a5:=Tryz.isAgg5
 z5:=Tryz.sizeOf5
 v5:=Tryz.zeroValue5
 t9:=Tryz.underlying9
 a9:=Tryz.isAgg9
 z9:=Tryz.sizeOf9
 v9:=Tryz.zeroValue9
 t28:=Tryz.underlying155
 a28:=Tryz.isAgg155
 z28:=Tryz.sizeOf155
 v28:=Tryz.zeroValue155
 t46:=Tryz.underlying174
 a46:=Tryz.isAgg174
 z46:=Tryz.sizeOf174
 v46:=Tryz.zeroValue174
 t51:=Tryz.underlying211
 a51:=Tryz.isAgg211
 z51:=Tryz.sizeOf211
 v51:=Tryz.zeroValue211
 t53:=Tryz.underlying213
 a53:=Tryz.isAgg213
 z53:=Tryz.sizeOf213
 v53:=Tryz.zeroValue213
 t131:=Tryz.underlying110
 a131:=Tryz.isAgg110
 z131:=Tryz.sizeOf110
 v131:=Tryz.zeroValue110
 t182:=Tryz.underlying204
 a182:=Tryz.isAgg204
 z182:=Tryz.sizeOf204
 v182:=Tryz.zeroValue204
 t183:=Tryz.underlying205
 a183:=Tryz.isAgg205
 z183:=Tryz.sizeOf205
 v183:=Tryz.zeroValue205
 t218:=Tryz.underlying245
 a218:=Tryz.isAgg245
 z218:=Tryz.sizeOf245
 v218:=Tryz.zeroValue245
 t222:=Tryz.underlying249
 a222:=Tryz.isAgg249
 z222:=Tryz.sizeOf249
 v222:=Tryz.zeroValue249
 t228:=Tryz.underlying274
 a228:=Tryz.isAgg274
 z228:=Tryz.sizeOf274
 v228:=Tryz.zeroValue274
 t229:=Tryz.underlying275
 a229:=Tryz.isAgg275
 z229:=Tryz.sizeOf275
 v229:=Tryz.zeroValue275 }
end Go.Proofs
namespace Go.Proofs
open Go.Shelf Go.RowKit Go.Lib Go.Sort
def SpA:Type:={x:Int×Int // 0≤x.1∧x.1≤1000000}
instance:Inhabited SpA:=⟨⟨(0,0),by decide⟩⟩
def encSpA(x:SpA):List Value:=[.int .i64 x.1.1,.int .i64 x.1.2]
def cfSpA(x y:SpA):Int:=x.1.1-y.1.1
theorem Tryz.closure169(x y:SpA)(W:World):Calls Tryz.prog 169 #[.agg #[.int .i64 x.1.1,.int .i64 x.1.2],.agg #[.int .i64 y.1.1,.int .i64 y.1.2]] W fun e w'=>e=.returned (.int .i64 (cfSpA x y))∧∃q os',w'=grow (W.drewN q) os':=by
 obtain⟨⟨a,b⟩,h1,h2⟩:=x;obtain⟨⟨c,d⟩,h3,h4⟩:=y;dsimp only at h1 h2 h3 h4;have hw:IntKind.i64.wrap (a-c)=a-c:=by simp[IntKind.wrap,IntKind.bits,IntKind.signed];omega
 show Calls Tryz.prog 169 #[.agg #[.int .i64 a,.int .i64 b],.agg #[.int .i64 c,.int .i64 d]] W fun e w'=>e=.returned (.int .i64 (a-c))∧∃q os',w'=grow (W.drewN q) os'
 go_enter Tryz.func169,Tryz.ntmps169
 go_wp2
 go_ret
 exact⟨rfl,0,_,by rw[alloc_eq_grow,alloc_eq_grow,grow_grow];rfl⟩
def TmA:Type:=ByteArray×{v:Value // v.oneCell'=true}×{v:Value // v.oneCell'=true}
instance:Inhabited TmA:=⟨⟨ByteArray.empty,⟨.bool false,rfl⟩,⟨.bool false,rfl⟩⟩⟩
def encTmA(x:TmA):List Value:=[.string x.1,x.2.1.1,x.2.2.1]
def cfTmA(x y:TmA):Int:=Lib.compareBytes x.1.data.toList y.1.data.toList
theorem Tryz.closure219(x y:TmA)(W:World):Calls Tryz.prog 219 #[.agg #[.string x.1,x.2.1.1,x.2.2.1],.agg #[.string y.1,y.2.1.1,y.2.2.1]] W fun e w'=>e=.returned (.int .i64 (cfTmA x y))∧∃q os',w'=grow (W.drewN q) os':=by
 have hcon:=fun W'=>Any.strings_Compare Tryz.layCompare x.1 y.1 W';obtain⟨a,⟨b,hb⟩,⟨c,hc⟩⟩:=x;obtain⟨a',⟨b',od⟩,⟨c',pT⟩⟩:=y;dsimp only at hcon
 change ∀W',Calls Tryz.prog 69 _ _ _ at hcon
 unfold cfTmA;dsimp only;generalize Lib.compareBytes a.data.toList a'.data.toList=r at hcon⊢
 go_enter Tryz.func219,Tryz.ntmps219
 go_wp2_with (go_at_call 69;refine(hcon _).mono ?_;rintro e w' ⟨rfl,rfl⟩)
 go_ret
 exact⟨rfl,0,_,by rw[alloc_eq_grow,alloc_eq_grow,grow_grow];rfl⟩
end Go.Proofs
namespace Go.Eng
open Go.Proofs
theorem nC(v:Ver):PC 61 [.agg (Ea v)] (.agg [vi v.a,vi v.b,vi v.c]):=by
 refine Ps E4 Tryz.func61 rfl (Nz rfl) ?_;exact Yi (Nz rfl) (Yi (Nz rfl) (.refl _))
def part(v:Ver):Nat→Int
 |0=>v.a
 |1=>v.b
 |_=>v.c
theorem VX{v:Ver}{i:Nat}(h:¬okPart (part v i)):Cr v=false:=by
 unfold Cr
 match i,h with
 |0,h=>have h:¬okPart v.a:=h;simp[h]
 |1,h=>have h:¬okPart v.b:=h;simp[h]
 |_+2,h=>have h:¬okPart v.c:=h;simp[h]
theorem nu(v:Ver):PC 38 [.agg (Ea v)] (vb (Cr v)):=by
 refine Ps E4 Tryz.func38 rfl (Nz rfl) ?_;refine Yi (Nz rfl) (Xi .pure (Xi _ (Yi (nC v) ?_)));refine Xi {i:Nat // i≤3∧∀j,j<i→okPart (part v j)} (Xi (fun i=>⟨[(6,.agg [vi v.a,vi v.b,vi v.c]),(7,vi i.1)],[],Aa⟩) (Xi (fun i=>3-i.1) (Yi (Xi ⟨0,by simp⟩ ?_) ?_)))
 ·exact⟨Z2,Tv,Fh,Tv⟩
 ·intro⟨i,h1,h2⟩;refine Yi ?_ ?_
  ·intro h;have h:(i:Int)<3:=h;refine Yi ⟨by show(0:Int)≤i;omega,by show(i:Int)<3;omega⟩ ?_;have hp:Mc (([vi v.a,vi v.b,vi v.c]).drop ((i:Int).toNat*1))=fun K=>K (vi (part v i)):=by
    match i,h with
    |0,_=>rfl
    |1,_=>rfl
    |2,_=>rfl
    |_+3,h=>omega
   show Mc (([vi v.a,vi v.b,vi v.c]).drop ((i:Int).toNat*1)) _;rw[hp];refine Yi ?_ ?_
   ·intro h3;have h3:part v i<0:=h3;rw[VX (i:=i) (by unfold okPart;omega)];exact .refl _
   ·intro h3;have h3:¬part v i<0:=h3;refine Yi ?_ ?_
    ·intro h4;have h4:(999:Int)<part v i:=h4;rw[VX (i:=i) (by unfold okPart;omega)];exact .refl _
    ·intro h4;have h4:¬(999:Int)<part v i:=h4;refine Yi (Ii i (by omega)) ?_;refine Xi ⟨i+1,by omega,fun j hj=>?_⟩ ?_
     ·by_cases e:j=i
      ·subst e;exact⟨by omega,by omega⟩
      ·exact h2 j (by omega)
     ·exact⟨Dl 3 i (by omega),Z2,Tv,Fh,Tv⟩
  ·intro h;have h:¬(i:Int)<3:=h;have e:i=3:=by omega
   have q:Cr v=true:=by
    unfold Cr;have a:=h2 0 (by omega);have b:=h2 1 (by omega);have c:=h2 2 (by omega);simp only[part]at a b c;simp[a,b,c]
   rw[q];exact .refl _
theorem qM(v:Ver):PC 39 [.agg (Ea v)] (.tup [vi (if Cr v then place v else 0),vi (if Cr v then 0 else 2)]):=by
 refine Ps E4 Tryz.func39 rfl (Nz rfl) ?_;refine Yi (Nz rfl) (Xi .pure (Xi _ (Yi (nu v) ?_)));cases h:Cr v with
 |false=>exact .refl _
 |true =>
  have hv:=Kd h;refine Yi (by show Bi (1000*v.b);unfold Bi;omega) ?_;exact Yi (by show Bi (1000*v.b+v.c);unfold Bi;omega) (.refl _)
def Fi(caps:List AV):Prop:=∀c∈caps,∀h,str0 h c=c
theorem Fi.map{caps:List AV}(hs:Fi caps)(h:Nat→HO):caps.map (str0 h)=caps:=by
 conv=>rhs;rw[←JU caps]
 exact Be fun c hc=>hs c hc h
theorem Fi.ids{caps:List AV}(hs:Fi caps)(h:Nat→HO):Ye h caps=true:=by
 induction caps with
 |nil=>rfl
 |cons c r ih =>
  have hc:=hs c (Ab ..) Aa;have h0:ids0 h c=true:=by
   cases c with
   |slice tk es=>cases tk with |none=>rfl |full sz=>simp[str0]at hc |id r sz=>simp[str0]at hc |ver r sz v=>simp[str0]at hc
   |_=>first |rfl |(simp[str0,Aa]at hc)
  unfold Ye;rw[h0];exact ih fun c hc=>hs c (Ai _ hc)
def Ks{α:Type}(p:α→Bool):List α→Int→Int
 | [],_=>-1
 |x::r,i=>if p x then i else Ks p r (i+1)
theorem NV{α:Type}{p:α→Bool}:∀{l:List α} {i:Nat} {k:Int} (hi:i<l.length),(∀j (hj:j<l.length),j<i→p l[j]=false)→p l[i]=true→Ks p l k=k+i
 |x::r,0,k,_,_,h=>by
  have h:p x=true:=h;simp[Ks,h]
 |x::r,i+1,k,hi,hb,h=>by
  have h0:p x=false:=hb 0 (by simp) (by omega)
  have:=NV (l:=r) (i:=i) (k:=k+1) (by simpa using hi) (fun j hj Je=>hb (j+1) (by simpa using hj) (by omega)) (by simpa using h)
  simp only[Ks,h0,Du,GF,this];omega
theorem Jz{α:Type}{p:α→Bool}:∀{l:List α} {k:Int},(∀j (hj:j<l.length),p l[j]=false)→Ks p l k=-1
 | [],_,_=>rfl
 |x::r,k,h=>by
  have h0:p x=false:=h 0 (by simp);simp only[Ks,h0,Du,GF];exact Jz fun j hj=>h (j+1) (by simpa using hj)
theorem MN{α:Type}{p:α→Bool}:∀(l:List α) (k:Int),0≤k→decide (0≤Ks p l k)=l.any p
 | [],k,_=>by simp[Ks]
 |x::r,k,hk=>by
  unfold Ks;cases h:p x with
  |true=>simp[h,hk]
  |false=>simp[h,MN r (k+1) (by omega)]
-- one for each type of elements
theorem vq{fF:Nat}{caps:List AV}(hs:Fi caps)(l:List (Int×Int))(p:Int×Int→Bool)(hF:∀x∈l,PC fF ([.agg (Af x)]++caps) (vb (p x)))(hl:l.length<9223372036854775807) :
  PC 173 [sl Af l,.clo fF caps] (vi (Ks p l 0)):=by
 refine Ps E4 Tryz.func173 rfl (Nz rfl) ?_;refine Xi {i:Nat // i≤l.length∧∀j (hj:j<l.length),j<i→p l[j]=false} (Xi (fun i=>⟨[(0,sl Af l),(1,.clo fF caps),(7,vi (l.map Af).length),(8,vi i.1)],[],Aa⟩) (Xi (fun i=>l.length-i.1) (Yi (Xi ⟨0,by simp⟩ ?_) ?_)))
 ·exact⟨⟨Zr,⟨rfl,hs.ids _⟩,Zr,Zr,Tv⟩,Tv,Fh,Tv⟩
 ·intro⟨i,h1,h2⟩;refine Yi ?_ ?_
  ·intro h;have h:(i:Int)<(l.map Af).length:=h;have h:i<l.length:=by simpa using h
   have hg:l[i]?=some l[i]:=Ge h;refine Xi (Af l[i]) (Yi (Yi (Nn i) (by simp[hg])) (Yi rfl (Yi (Nz rfl) ?_)));have Eb:∀h,PC fF ([.agg (Af l[i])]++caps.map (str0 h)) (vb (p l[i])):=fun h=>by rw[hs.map];exact hF l[i] (At _)
   cases hp:p l[i]with
   |true =>
    rw[hp]at Eb;refine Xi .pure (Xi (vb true) (Yi (Eb _) ?_));rw[NV h (fun j hj Je=>h2 j hj Je) hp,IQ];exact .refl _
   |false =>
    rw[hp]at Eb;refine Xi .pure (Xi (vb false) (Yi (Eb _) ?_));refine Yi (Ii i (by omega)) ?_;refine Xi ⟨i+1,by omega,fun j hj Je=>?_⟩ ?_
    ·by_cases e:j=i
     ·subst e;exact hp
     ·exact h2 j hj (by omega)
    ·exact⟨Dl l.length i (by omega),⟨Zr,⟨rfl,hs.ids _⟩,Zr,Zr,Tv⟩,Tv,Fh,Tv⟩
  ·intro h;have h:¬(i:Int)<(l.map Af).length:=h;have h:¬i<l.length:=by simpa using h
   rw[Jz fun j hj=>h2 j hj (by omega)];exact .refl _
abbrev Cp{α:Type}(l:List α):Prop:=l.length≤1073741824
theorem Fz{α:Type}{enc:α→List AV}{n:Nat}(h:∀x,(enc x).length=n):∀l:List α,CQ n (l.map enc)
 | []=>trivial
 |x::l=>⟨h x,Fz h l⟩
theorem RU{x y:Int×Int}:mn (Af x) (Af y)↔x=y:=by
 constructor
 ·intro h;have h:x.1=y.1∧x.2=y.2∧True:=h;exact Prod.ext h.1 h.2.1
 ·rintro rfl;exact⟨rfl,rfl,trivial⟩
abbrev Cb(l:List Tm):List AV:=[sl AH l]
abbrev Dr(s:ByteArray):List AV:=[vs s]
theorem ze{fF:Nat}{caps:List AV}(hs:Fi caps)(l:List (Sl))(p:Sl→Bool)(hF:∀x∈l,PC fF ([.agg (Ad x)]++caps) (vb (p x)))(hl:l.length<9223372036854775807) :
  PC 208 [sl Ad l,.clo fF caps] (vi (Ks p l 0)):=by
 refine Gi (dY E4) rfl Cw hm rfl Tryz.func208 (by kernel_rfl) rfl (Nz rfl) (by kernel_rfl) ?_;refine Xi {i:Nat // i≤l.length∧∀j (hj:j<l.length),j<i→p l[j]=false} (Xi (fun i=>⟨[(0,sl Ad l),(1,.clo fF caps),(7,vi (l.map Ad).length),(8,vi i.1)],[],Aa⟩) (Xi (fun i=>l.length-i.1) (Yi (Xi ⟨0,by simp⟩ ?_) ?_)))
 ·exact⟨⟨Zr,⟨rfl,hs.ids _⟩,Zr,Zr,Tv⟩,Tv,Fh,Tv⟩
 ·intro⟨i,h1,h2⟩;refine Yi ?_ ?_
  ·intro h;have h:(i:Int)<(l.map Ad).length:=h;have h:i<l.length:=by simpa using h
   have hg:l[i]?=some l[i]:=Ge h;refine Xi (Ad l[i]) (Yi (Yi (by show(0:Int)≤i;omega) (by simp[hg])) (Yi rfl (Yi (Nz rfl) ?_)));have Eb:∀h,PC fF ([.agg (Ad l[i])]++caps.map (str0 h)) (vb (p l[i])):=fun h=>by rw[hs.map];exact hF l[i] (At _)
   cases hp:p l[i]with
   |true =>
    rw[hp]at Eb;refine Xi .pure (Xi (vb true) (Yi (Eb _) ?_));rw[NV h (fun j hj Je=>h2 j hj Je) hp,IQ];exact .refl _
   |false =>
    rw[hp]at Eb;refine Xi .pure (Xi (vb false) (Yi (Eb _) ?_));refine Yi (Ii i (by omega)) ?_;refine Xi ⟨i+1,by omega,fun j hj Je=>?_⟩ ?_
    ·by_cases e:j=i
     ·subst e;exact hp
     ·exact h2 j hj (by omega)
    ·exact⟨Dl l.length i (by omega),⟨Zr,⟨rfl,hs.ids _⟩,Zr,Zr,Tv⟩,Tv,Fh,Tv⟩
  ·intro h;have h:¬(i:Int)<(l.map Ad).length:=h;have h:¬i<l.length:=by simpa using h
   rw[Jz fun j hj=>h2 j hj (by omega)];exact .refl _
theorem kb{fF:Nat}{caps:List AV}(hs:Fi caps)(l:List (Tm))(p:Tm→Bool)(hF:∀x∈l,PC fF ([.agg (AH x)]++caps) (vb (p x)))(hl:l.length<9223372036854775807) :
  PC 180 [sl AH l,.clo fF caps] (vi (Ks p l 0)):=by
 refine Gi (dY E4) rfl Cw hm rfl Tryz.func180 (by kernel_rfl) rfl (Nz rfl) (by kernel_rfl) ?_;refine Xi {i:Nat // i≤l.length∧∀j (hj:j<l.length),j<i→p l[j]=false} (Xi (fun i=>⟨[(0,sl AH l),(1,.clo fF caps),(7,vi (l.map AH).length),(8,vi i.1)],[],Aa⟩) (Xi (fun i=>l.length-i.1) (Yi (Xi ⟨0,by simp⟩ ?_) ?_)))
 ·exact⟨⟨Zr,⟨rfl,hs.ids _⟩,Zr,Zr,Tv⟩,Tv,Fh,Tv⟩
 ·intro⟨i,h1,h2⟩;refine Yi ?_ ?_
  ·intro h;have h:(i:Int)<(l.map AH).length:=h;have h:i<l.length:=by simpa using h
   have hg:l[i]?=some l[i]:=Ge h;refine Xi (AH l[i]) (Yi (Yi (by show(0:Int)≤i;omega) (by simp[hg])) (Yi rfl (Yi (Nz rfl) ?_)));have Eb:∀h,PC fF ([.agg (AH l[i])]++caps.map (str0 h)) (vb (p l[i])):=fun h=>by rw[hs.map];exact hF l[i] (At _)
   cases hp:p l[i]with
   |true =>
    rw[hp]at Eb;refine Xi .pure (Xi (vb true) (Yi (Eb _) ?_));rw[NV h (fun j hj Je=>h2 j hj Je) hp,IQ];exact .refl _
   |false =>
    rw[hp]at Eb;refine Xi .pure (Xi (vb false) (Yi (Eb _) ?_));refine Yi (Ii i (by omega)) ?_;refine Xi ⟨i+1,by omega,fun j hj Je=>?_⟩ ?_
    ·by_cases e:j=i
     ·subst e;exact hp
     ·exact h2 j hj (by omega)
    ·exact⟨Dl l.length i (by omega),⟨Zr,⟨rfl,hs.ids _⟩,Zr,Zr,Tv⟩,Tv,Fh,Tv⟩
  ·intro h;have h:¬(i:Int)<(l.map AH).length:=h;have h:¬i<l.length:=by simpa using h
   rw[Jz fun j hj=>h2 j hj (by omega)];exact .refl _
theorem uX{fF:Nat}{caps:List AV}(hs:Fi caps)(l:List (Int×Int))(p:Int×Int→Bool)(hF:∀x∈l,PC fF ([.agg (Af x)]++caps) (vb (p x)))(hl:Cp l) :
  PC 119 [sl Af l,.clo fF caps] (vb (l.any p)):=by
 refine Gi (dY E4) rfl Cw hm rfl Tryz.func119 (by kernel_rfl) rfl (Nz rfl) (by kernel_rfl) ?_;have hi:=vq hs l p hF (by unfold Cp at hl;omega);have Eb:∀h,PC 173 [sl Af l,.clo fF (caps.map (str0 h))] (vi (Ks p l 0)):=fun h=>by rw[hs.map];exact hi
 refine Xi .pure (Xi _ (Yi (Eb _) ?_));have ha:=MN (p:=p) l 0 (BJ 0);refine Yi ?_ ?_
 ·intro h;have h:(0:Int)≤Ks p l 0:=h;rw[←ha,Ar h];exact .refl _
 ·intro h;have h:¬(0:Int)≤Ks p l 0:=h;rw[←ha,Ao h];exact .refl _
theorem c51{fF:Nat}{caps:List AV}(hs:Fi caps)(l:List (Sl))(p:Sl→Bool)(hF:∀x∈l,PC fF ([.agg (Ad x)]++caps) (vb (p x)))(hl:Cp l) :
  PC 178 [sl Ad l,.clo fF caps] (vb (l.any p)):=by
 refine Gi (dY E4) rfl Cw hm rfl Tryz.func178 (by kernel_rfl) rfl (Nz rfl) (by kernel_rfl) ?_;have hi:=ze hs l p hF (by unfold Cp at hl;omega);have Eb:∀h,PC 208 [sl Ad l,.clo fF (caps.map (str0 h))] (vi (Ks p l 0)):=fun h=>by rw[hs.map];exact hi
 refine Xi .pure (Xi _ (Yi (Eb _) ?_));have ha:=MN (p:=p) l 0 (BJ 0);refine Yi ?_ ?_
 ·intro h;have h:(0:Int)≤Ks p l 0:=h;rw[←ha,Ar h];exact .refl _
 ·intro h;have h:¬(0:Int)≤Ks p l 0:=h;rw[←ha,Ao h];exact .refl _
theorem nB{fF:Nat}{caps:List AV}(hs:Fi caps)(l:List (Tm))(p:Tm→Bool)(hF:∀x∈l,PC fF ([.agg (AH x)]++caps) (vb (p x)))(hl:Cp l) :
  PC 125 [sl AH l,.clo fF caps] (vb (l.any p)):=by
 refine Gi (dY E4) rfl Cw hm rfl Tryz.func125 (by kernel_rfl) rfl (Nz rfl) (by kernel_rfl) ?_;have hi:=kb hs l p hF (by unfold Cp at hl;omega);have Eb:∀h,PC 180 [sl AH l,.clo fF (caps.map (str0 h))] (vi (Ks p l 0)):=fun h=>by rw[hs.map];exact hi
 refine Xi .pure (Xi _ (Yi (Eb _) ?_));have ha:=MN (p:=p) l 0 (BJ 0);refine Yi ?_ ?_
 ·intro h;have h:(0:Int)≤Ks p l 0:=h;rw[←ha,Ar h];exact .refl _
 ·intro h;have h:¬(0:Int)≤Ks p l 0:=h;rw[←ha,Ao h];exact .refl _
theorem u6(l:List (Int×Int))(hl:Cp l):PC 62 [sl Af l] (sl Af l):=by
 refine Gi (dY E4) rfl Cw hm rfl Tryz.func62 (by kernel_rfl) rfl (Nz rfl) (by kernel_rfl) ?_;have Gv:CQ 2 (l.map Af)∧([]:List (List AV)).length=0∧(([]:List (List AV)).length+(l.map Af).length)*16≤140737488355328∧([]:List (List AV)).length+(l.map Af).length≤9223372036854775807:=by
  refine⟨Fz (enc:=Af) (n:=2) (fun _=>rfl) l,rfl,?_,?_⟩<;>simp only[AJ,Lm]<;>unfold Cp at hl<;>omega
 refine Yi ?_ ?_
 ·intro _;exact Yi Gv (.refl _)
 ·intro h;have h:l.map Af=[]:=h;refine Yi ?_ ?_
  ·show G1 (.v (.slice none 0 0)) (.slice .none (l.map Af));rw[h];exact .nil
  ·exact Yi Gv (.refl _)
theorem qC(l m:List (Int×Int))(hl:Cp l):PC 166 [sl Af l,sl Af m] (vb (decide (l=m))):=by
 refine Gi (dY E4) rfl Cw hm rfl Tryz.func166 (by kernel_rfl) rfl (Nz rfl) (by kernel_rfl) ?_;refine Yi ?_ ?_
 ·intro h;have h:¬((l.map Af).length:Int)=(m.map Af).length:=h
  have:l≠m:=fun e=>h (by rw[e])
  rw[Ao this];exact .refl _
 ·intro h;have h:¬((l.map Af).length:Int)≠(m.map Af).length:=h;have CB:l.length=m.length:=by simp at h;omega
  refine Xi {i:Nat // i≤l.length∧l.take i=m.take i} (Xi (fun i=>⟨[(0,sl Af l),(1,sl Af m),(12,vi (l.map Af).length),(13,vi i.1)],[],Aa⟩) (Xi (fun i=>l.length-i.1) (Yi (Xi ⟨0,by simp⟩ ?_) ?_)))
  ·exact⟨⟨Zr,Zr,Zr,Zr,Tv⟩,Tv,Fh,Tv⟩
  ·intro⟨i,h1,h2⟩;refine Yi ?_ ?_
   ·intro h;have h:(i:Int)<(l.map Af).length:=h;have h:i<l.length:=by simpa using h
    have h' : i<m.length:=by omega
    have hg:l[i]?=some l[i]:=Ge h;have ZF : m[i]?=some m[i]:=Ge h';refine Xi (Af l[i]) (Yi (Yi (by show(0:Int)≤i;omega) (by simp[hg])) (Yi rfl (Yi (Nz rfl) ?_)));refine Xi (Af m[i]) (Yi (Yi (by show(0:Int)≤i;omega) (by simp[ZF])) (Yi rfl (Yi (Nz rfl) ?_)));refine Yi ?_ ?_
    ·intro h5;have e:l[i]=m[i]:=RU.1 h5;refine Yi (by kernel_rfl) ?_;refine Yi (by show Bi ((i:Int)+1);unfold Cp at hl;unfold Bi;omega) ?_;refine Xi ⟨i+1,by omega,?_⟩ ?_
     ·rw[Bk,Bk,h2,hg,ZF,e]
     ·exact⟨Dl l.length i (by omega),⟨Zr,Zr,Zr,Zr,Tv⟩,Tv,Fh,Tv⟩
    ·intro h5;refine Yi (by kernel_rfl) ?_
     have:l≠m:=fun e=>h5 (RU.2 (by subst e;rfl))
     rw[Ao this];exact .refl _
   ·intro h;have h:¬(i:Int)<(l.map Af).length:=h;have h:¬i<l.length:=by simpa using h
    have e:l=m:=by
     rw[←Aw (l:=l) (i:=i) (by omega),h2,Aw (by omega)]
    rw[Ar e];exact .refl _
abbrev jP(l:List Nat):RE:=⟨l,[],[],[],[],[],[],[],[],[],[]⟩
theorem Fi.ptr(cs:List AV):Fi [.cptr cs]:=fun c hc h=>by
 rw[Aq.1 hc];rfl
theorem uY(s:Int×Int)(p:Int):PC 120 [.agg (Af s),.cptr [vi p]] (vb (BL p s)):=by
 refine Ps E4 Tryz.func120 rfl (Nz rfl) ?_;refine Yi ?_ ?_
 ·intro h;have h:s.1≤p:=h;refine Yi ?_ ?_
  ·intro h2;have h2:p<s.2:=h2;rw[show BL p s=true by simp[BL,h,h2]];exact .refl _
  ·intro h2;have h2:¬p<s.2:=h2;rw[show BL p s=false by simp[BL,h2]];exact .refl _
 ·intro h;have h:¬s.1≤p:=h;rw[show BL p s=false by simp[BL,h]];exact .refl _
theorem qN(s:List (Int×Int))(p:Int)(hl:Cp s):PC 90 [sl Af s,vi p] (vb (has s p)):=by
 refine Ps (jP [3]) Tryz.func90 rfl (Nz rfl) ?_;refine Yi ?_ ?_
 ·intro h;have h:0≤p:=h;refine Yi ?_ ?_
  ·intro h2;have h2:p<1000000:=h2;refine Xi .pure (Xi _ (Yi (uX (Fi.ptr [vi p]) s (BL p) (fun x _=>uY x p) hl) ?_));rw[show has s p=s.any (BL p) by simp[has,h,h2]];cases s.any (BL p)<;>exact .refl _
  ·intro h2;have h2:¬p<1000000:=h2;rw[show has s p=false by simp[has,h2]];exact .refl _
 ·intro h;have h:¬0≤p:=h;rw[show has s p=false by simp[has,h]];exact .refl _
theorem zg(r:Rl):PC 115 [.agg (Ag r)] (vi (plc r.ver)):=by
 refine Ps E4 Tryz.func115 rfl (Nz rfl) ?_;exact Yi (Nz rfl) (Xi .pure (Xi _ (Yi (qM r.ver) (.refl _))))
theorem c99(x:Sl)(t:Tm):PC 241 [.agg (Ad x),.cptr (AH t)] (vb (decide (x.path=t.path))):=by
 refine Ps E4 Tryz.func241 rfl (Nz rfl) ?_;refine Yi ?_ ?_
 ·intro h;have h:x.path=t.path:=h;rw[Ar h];exact .refl _
 ·intro h;have h:¬x.path=t.path:=h;rw[Ao h];exact .refl _
theorem Pa{α:Type}{p:α→Bool}:∀(l:List α) (k:Int),(Ks p l k=-1∧l.find? p=none)∨∃i x,Ks p l k=k+(i:Nat)∧l[i]?=some x∧l.find? p=some x
 | [],k=>.inl Zr
 |x::r,k=>by
  cases h:p x with
  |true=>exact .inr ⟨0,x,by simp[Ks,h],rfl,by simp[h]⟩
  |false =>
   rcases Pa (p:=p) r (k+1)with ⟨h1,h2⟩ | ⟨i,y,h1,h2,h3⟩
   ·exact .inl ⟨by simp[Ks,h,h1],by simp[h,h2]⟩
   ·exact .inr ⟨i+1,y,by simp only[Ks,h,Du,GF,h1];omega,by simpa using h2,by simp[h,h3]⟩
theorem c55(t:Tm)(s:List Sl)(hl:Cp s)(ht:Cp t.set):PC 207 [.agg (AH t),sl Ad s] (vb (GS t s)):=by
 have hc:=ze (Fi.ptr (AH t)) s (fun x=>decide (x.path=t.path)) (fun x _=>c99 x t) (by unfold Cp at hl;omega);unfold GS;rcases Pa (p:=fun x:Sl=>decide (x.path=t.path)) s 0 with ⟨h1,h2⟩ | ⟨i,x,h1,h2,h3⟩
 ·rw[h1]at hc;rw[h2];refine Ps (jP [2]) Tryz.func207 rfl (Nz rfl) ?_;refine Xi .pure (Xi _ (Yi hc ?_));refine Yi ?_ ?_
  ·intro _;refine Yi ?_ ?_
   ·intro h;have h:t.absent=true:=h;rw[h];exact .refl _
   ·intro h;have h:t.absent=false:=h;rw[h];exact .refl _
  ·intro h;exact absurd (show(-1:Int)<0 by decide) h
 ·rw[h1,IQ]at hc;rw[h3];have hg:(s.map Ad)[((i:Nat):Int).toNat]?=some (Ad x):=by rw[Bj,AI,h2];rfl
  have hp:=qM x.ver;dsimp only;rcases Bt (Cr x.ver)with hv | hv
  ·rw[hv,Ap rfl,Ap rfl]at hp;rw[hv];refine Ps (jP [2]) Tryz.func207 rfl (Nz rfl) ?_;refine Xi .pure (Xi _ (Yi hc ?_));refine Yi ?_ ?_
   ·intro h;have h:(i:Int)<0:=h;omega
   ·intro _;refine Xi (Ad x) (Yi (Yi (Nn i) hg) (Yi rfl (Yi (Nz rfl) ?_)));refine Xi .pure (Xi _ (Yi hp ?_));refine Yi ?_ ?_
    ·intro _;refine Xi .pure (Xi _ (Yi (qN t.set (place x.ver) ht) ?_));exact .refl _
    ·intro h;exact absurd rfl h
  ·rw[hv,Aj (by decide),Aj (by decide)]at hp;rw[hv];refine Ps (jP [2]) Tryz.func207 rfl (Nz rfl) ?_;refine Xi .pure (Xi _ (Yi hc ?_));refine Yi ?_ ?_
   ·intro h;have h:(i:Int)<0:=h;omega
   ·intro _;refine Xi (Ad x) (Yi (Yi (Nn i) hg) (Yi rfl (Yi (Nz rfl) ?_)));refine Xi .pure (Xi _ (Yi hp ?_));refine Yi ?_ ?_
    ·intro h;have h:(2:Int)=0:=h;omega
    ·intro _;exact .refl _
theorem jU{α:Type}{p:α→Bool}{l:List α}{i:Nat}(h:∀j (hj:j<l.length),j<i→p l[j]=true)(hi:¬i<l.length):l.all p=true:=by
 rw[AY];intro x hx;obtain⟨j,hj,rfl⟩:=Dm.1 hx;exact h j hj (by omega)
theorem nh{α:Type}{p:α→Bool}{l:List α}{i:Nat}(hi:i<l.length)(h:p l[i]=false):l.all p=false:=by
 rw[List.all_eq_false];exact⟨l[i],At hi,by simp[h]⟩
abbrev eI(l:List Tm):Prop:=Cp l∧∀t∈l,Cp t.set
theorem c26(l:List Tm)(s:List Sl)(hl:eI l)(hs:Cp s):PC 176 [sl AH l,sl Ad s] (vb (l.all fun t=>GS t s)):=by
 have hc:∀i (h:i<l.length),PC 207 [.agg (AH l[i]),sl Ad s] (vb (GS l[i] s)):=fun i h=>c55 l[i] s hs (hl.2 _ (At h));obtain⟨hl,_⟩:=hl;unfold Cp at hl;refine Ps E4 Tryz.func176 rfl (Nz rfl) ?_;refine Xi {i:Nat // i≤l.length∧∀j (hj:j<l.length),j<i→GS l[j] s=true} (Xi (fun i=>⟨[(0,sl AH l),(1,sl Ad s),(7,vi (l.map AH).length),(8,vi i.1)],[],Aa⟩) (Xi (fun i=>l.length-i.1) (Yi (Xi ⟨0,by simp⟩ ?_) ?_)))
 ·exact⟨Z4,Tv,Fh,Tv⟩
 ·intro⟨i,h1,h2⟩;refine Yi ?_ ?_
  ·intro h;have h:(i:Int)<(l.map AH).length:=h;have h:i<l.length:=by simpa using h
   have hg:l[i]?=some l[i]:=Ge h;have ud:=hc i h;refine Xi (AH l[i]) (Yi (Yi (Nn i) (by simp[hg])) (Yi rfl (Yi (Nz rfl) ?_)));cases hp:GS l[i] s with
   |false =>
    rw[hp]at ud;refine Xi .pure (Xi _ (Yi ud ?_));rw[nh (p:=fun t=>GS t s) h hp];exact .refl _
   |true =>
    rw[hp]at ud;refine Xi .pure (Xi _ (Yi ud ?_));refine Yi (Ii i (by omega)) ?_;refine Xi ⟨i+1,by omega,fun j hj Je=>?_⟩ ?_
    ·by_cases e:j=i
     ·subst e;exact hp
     ·exact h2 j hj (by omega)
    ·exact⟨Dl l.length i (by omega),Z4,Tv,Fh,Tv⟩
  ·intro h;have h:¬(i:Int)<(l.map AH).length:=h;have h:¬i<l.length:=by simpa using h
   rw[jU (p:=fun t=>GS t s) h2 h];exact .refl _
theorem u5(x:Sl)(t:Tm):PC 179 [.agg (Ad x),.cptr (AH t)] (vb (decide (x.path=t.path))):=by
 refine Ps E4 Tryz.func179 rfl (Nz rfl) ?_;refine Yi ?_ ?_
 ·intro h;have h:x.path=t.path:=h;rw[Ar h];exact .refl _
 ·intro h;have h:¬x.path=t.path:=h;rw[Ao h];exact .refl _
theorem uZ(t:Tm)(s:List Sl)(hs:Cp s):PC 177 [.agg (AH t),.cptr [sl Ad s]] (vb (!CJ s t.path)):=by
 have hc:=c51 (Fi.ptr (AH t)) s (fun x=>decide (x.path=t.path)) (fun x _=>u5 x t) hs;unfold CJ;cases hp:s.any fun x=>decide (x.path=t.path)with
 |true =>
  rw[hp]at hc;refine Ps (jP [2]) Tryz.func177 rfl (Nz rfl) ?_;exact Xi .pure (Xi _ (Yi hc (.refl _)))
 |false =>
  rw[hp]at hc;refine Ps (jP [2]) Tryz.func177 rfl (Nz rfl) ?_;exact Xi .pure (Xi _ (Yi hc (.refl _)))
theorem zh(l:List Tm)(s:List Sl)(hl:eI l)(hs:Cp s):PC 124 [sl AH l,sl Ad s] (vb (CG l s)):=by
 have hv:=c26 l s hl hs;have hc:=nB (Fi.ptr [sl Ad s]) l (fun t=>!CJ s t.path) (fun t _=>uZ t s hs) hl.1;unfold CG Bf;cases h1:l.all fun t=>GS t s with
 |false =>
  rw[h1]at hv;refine Ps (jP [3]) Tryz.func124 rfl (Nz rfl) ?_;exact Xi .pure (Xi _ (Yi hv (.refl _)))
 |true =>
  rw[h1]at hv;cases h2:l.any fun t=>!CJ s t.path with
  |true =>
   rw[h2]at hc;refine Ps (jP [3]) Tryz.func124 rfl (Nz rfl) ?_;exact Xi .pure (Xi _ (Yi hv (Xi .pure (Xi _ (Yi hc (.refl _))))))
  |false =>
   rw[h2]at hc;refine Ps (jP [3]) Tryz.func124 rfl (Nz rfl) ?_;exact Xi .pure (Xi _ (Yi hv (Xi .pure (Xi _ (Yi hc (.refl _))))))
theorem nG(n:Int):PC 141 [vi n] (vb (decide (okPart n))):=by
 refine Ps E4 Tryz.func141 rfl (Nz rfl) ?_;refine Yi ?_ ?_
 ·intro h;have h:0≤n:=h;refine Yi ?_ ?_
  ·intro h2;have h2:n≤999:=h2;show G1 (vb true) (vb (decide (okPart n)));rw[Ar ⟨h,h2⟩];exact .refl _
  ·intro h2;have h2:¬n≤999:=h2;show G1 (vb false) (vb (decide (okPart n)));rw[Ao fun q=>h2 q.2];exact .refl _
 ·intro h;have h:¬0≤n:=h;show G1 (vb false) (vb (decide (okPart n)));rw[Ao fun q=>h q.1];exact .refl _
theorem vh(v:Ver):PC 101 [.agg (Ea v)] (vb (Cr v)):=by
 have ha:=nG v.a;have hb:=nG v.b;have hc:=nG v.c;unfold Cr;cases h1:decide (okPart v.a)with
 |false =>
  rw[h1]at ha;refine Ps E4 Tryz.func101 rfl (Nz rfl) ?_;exact Xi .pure (Xi _ (Yi ha (.refl _)))
 |true =>
  rw[h1]at ha;cases h2:decide (okPart v.b)with
  |false =>
   rw[h2]at hb;refine Ps E4 Tryz.func101 rfl (Nz rfl) ?_;exact Xi .pure (Xi _ (Yi ha (Xi .pure (Xi _ (Yi hb (.refl _))))))
  |true =>
   rw[h2]at hb;refine Ps E4 Tryz.func101 rfl (Nz rfl) ?_;exact Xi .pure (Xi _ (Yi ha (Xi .pure (Xi _ (Yi hb (Xi .pure (Xi _ (Yi hc (.refl _)))))))))
abbrev SY(a:An):List AV:=[vb a.found,sl Ad a.sel,sl BY a.infs,sl BS a.skips]
theorem nA(r:Rl):PC 59 [.agg (Ag r)] (.agg (Ad ⟨r.path,r.ver⟩)):=by
 refine Ps E4 Tryz.func59 rfl (Nz rfl) ?_;exact Yi (Nz rfl) (Yi (Nz rfl) (Yi (Nz rfl) (.refl _)))
theorem vY(l m:List (Int×Int))(hl:Cp l):PC 80 [sl Af l,sl Af m] (vb (decide (l=m))):=by
 refine Ps E4 Tryz.func80 rfl (Nz rfl) ?_;refine Yi ?_ ?_
 ·intro h;have h:¬((l.map Af).length:Int)=(m.map Af).length:=h
  have:l≠m:=fun e=>h (by rw[e])
  rw[Ao this];exact .refl _
 ·intro h;have h:¬((l.map Af).length:Int)≠(m.map Af).length:=h;have CB:l.length=m.length:=by simp at h;omega
  refine Xi {i:Nat // i≤l.length∧l.take i=m.take i} (Xi (fun i=>⟨[(0,sl Af l),(1,sl Af m),(5,vi i.1)],[],Aa⟩) (Xi (fun i=>l.length-i.1) (Yi (Xi ⟨0,by simp⟩ ?_) ?_)))
  ·exact⟨Z3,Tv,Fh,Tv⟩
  ·intro⟨i,h1,h2⟩;refine Yi ?_ ?_
   ·intro h;have h:(i:Int)<(l.map Af).length:=h;have h:i<l.length:=by simpa using h
    have h' : i<m.length:=by omega
    have hg:l[i]?=some l[i]:=Ge h;have ZF : m[i]?=some m[i]:=Ge h';refine Xi (Af l[i]) (Yi (Yi (Nn i) (by simp[hg])) (Yi rfl (Yi (Nz rfl) ?_)));refine Xi (Af m[i]) (Yi (Yi (Nn i) (by simp[ZF])) (Yi rfl (Yi (Nz rfl) ?_)));refine Yi ?_ ?_
    ·intro h5;have e:l[i]=m[i]:=RU.1 h5;refine Yi (by kernel_rfl) ?_;refine Yi (by show Bi ((i:Int)+1);unfold Cp at hl;unfold Bi;omega) ?_;refine Xi ⟨i+1,by omega,?_⟩ ?_
     ·rw[Bk,Bk,h2,hg,ZF,e]
     ·exact⟨Dl l.length i (by omega),Z3,Tv,Fh,Tv⟩
    ·intro h5;refine Yi (by kernel_rfl) ?_
     have:l≠m:=fun e=>h5 (RU.2 (by subst e;rfl))
     rw[Ao this];exact .refl _
   ·intro h;have h:¬(i:Int)<(l.map Af).length:=h;have h:¬i<l.length:=by simpa using h
    have e:l=m:=by
     rw[←Aw (l:=l) (i:=i) (by omega),h2,Aw (by omega)]
    rw[Ar e];exact .refl _
end Go.Eng
namespace Go.Eng
open Go.Proofs Go.Shelf Go.RowKit Go.Lib Go.Sort
theorem aZ(x y:SpA):ltOf cfSpA x y=decide (x.1.1<y.1.1):=by
 unfold ltOf cfSpA;rw[BR];simp only[Au];omega
theorem jn:SWO (ltOf cfSpA) where
 irrefl x:=by rw[aZ];simp
 trans x y z h1 h2:=by rw[aZ]at *;simp at *;omega
 ntrans x y z h1 h2:=by rw[aZ]at *;simp at *;omega
theorem TN:∀x y:List UInt8,decide (Lib.compareBytes x y<0)=Ip x y
 | [],[]=>rfl
 | [],_::_=>rfl
 |_::_,[]=>rfl
 |a::x,b::y=>by
  unfold Lib.compareBytes Ip
  by_cases h:a<b
  ·simp[h]
  ·by_cases h2:b<a
   ·have:¬a=b:=fun e=>by subst e;exact absurd h2 (UInt8.lt_irrefl a)
    simp[h,h2,this]
   ·have e:a=b:=UInt8.le_antisymm (UInt8.not_lt.1 h2) (UInt8.not_lt.1 h);subst e;simp[UInt8.lt_irrefl,TN x y]
theorem bc(x y:TmA):ltOf cfTmA x y=Eg x.1 y.1:=TN _ _
theorem jo:SWO (ltOf cfTmA) where
 irrefl x:=by rw[bc];exact Dd _
 trans x y z h1 h2:=by rw[bc]at *;exact DX h1 h2
 ntrans x y z h1 h2:=by
  rw[bc]at *
  rw[AK];intro h;cases qe:Eg y.1 x.1 with
  |true=>have:=DX qe h;rw[h2]at this;cases this
  |false =>
   have e:=HH h1 qe;rw[e]at h;rw[h2]at h;cases h
abbrev UC(k:Nat):Value:=.func (.func k) #[] #[]
theorem dZ (k : Nat) {fn : Func} {c : Code} (hf : Tryz.prog.funcs[k]? = some fn) (hn : (fn.name == "runtime.NumGoroutine") = false) (hb : fn.body = some c) : Gk Tryz.prog k := cj hf hn hb
theorem vt(l:List (Int×Int))(hl:Cp l)(h:∀x∈l,0≤x.1∧x.1≤1000000)(lim:Nat)(X7:lim<100) :
  A6 Tryz.prog 205 [.msl 1000 l.length,vi 0,vi l.length,vi lim,.v (UC 169)] (Ak [(1000,.arr 2 (l.map Af))] Aa) fun r h' =>
   r=.tup []∧∃l' : List (Int×Int),l'.Perm l∧l'.Pairwise (fun x y=>x.1≤y.1)∧h'=Ak [(1000,.arr 2 (l'.map Af))] Aa:=by
 have hl:l.length≤1073741824:=hl;have hE:Gk Tryz.prog 205:=dZ 205 Tryz.func205 (by kernel_rfl) rfl;have eg:∀args w,(callFunc 169 args).run Tryz.prog w=.ok (.enter 169 args) w:=enters_of Tryz.func169 (by kernel_rfl) rfl;have Hq:=Jr (P:=Tryz.prog) (f:=205) (α:=SpA) (rest:=[.int .i64 0,.int .i64 l.length,.int .i64 lim,UC 169]) hE Af encSpA (k:=2) (fun _=>rfl) (fun _=>rfl) (ltOf cfSpA) (fun x a=>a.1=x) l (by omega) ?_ ?_ ?_
 ·refine⟨hE,fun g w vals q1 q2 q3=>(Hq.2 g w vals q1 q2 q3).mono fun _ _ ⟨v,r,h',g',e1,⟨e2,l',p1,⟨al,a1,a2,a3⟩,p2⟩,rest⟩=>⟨v,r,h',g',e1,⟨e2,l',p1,?_,p2⟩,rest⟩⟩;rw[AZ]at a3⊢;intro i j hi hj PK
  have:=a3 i j (by omega) (by omega) PK
  rw[aZ]at this;have e1:=a2 i _ _ (Ax hi) (Ax (by omega));have e2:=a2 j _ _ (Ax hj) (Ax (by omega));rw[←e1,←e2]
  have:=Gb this
  omega
 ·intro x hx g w vs hr
  match vs,hr with
  | [a,b],hr =>
   have h1:=(hr.2.2 0 (vi x.1) a rfl rfl).v_eq;have h2:=(hr.2.2 1 (vi x.2) b rfl rfl).v_eq;subst h1;subst h2;exact⟨⟨x,h x hx⟩,rfl,rfl⟩
  | [],hr=>have:=hr.1;simp at this
  | [_],hr=>have:=hr.1;simp at this
  |_::_::_::_,hr=>have:=hr.1;simp at this
 ·intro w b cap d hH hb Eh hdl;have gy:CmpLays Tryz.prog 169 #[] encSpA 2 cfSpA b 0 d.size w:=fun _ _ _ _ x y=>Tryz.closure169 x y _;have hp:=AnyQ.pdqsortCmpFunc_all Tryz.layPdqSpan 2 Tryz.isAgg67 Tryz.sizeOf67 encSpA cfSpA 169 #[] jn b 0 cap d w eg gy ⟨fun _=>rfl,fun x v hv=>by simp[encSpA]at hv;rcases hv with rfl | rfl<;>rfl,hH,hb⟩ (d.size+1) 0 d.size lim d w (by omega) rfl (SWK.start hH) (AD _) (Al _) Eh (by omega) (Or.inl rfl)
  rw[hdl]at hp⊢;refine hp.mono ?_
  rintro e w' ⟨rfl,n,os,rfl⟩
  have h:=pdq_sorts (ltOf cfSpA) jn d 0 d.size lim true true (AD _) (Al _) (Or.inl rfl);rw[hdl]at h;exact⟨rfl,_,n,os,h.1,h.2,rfl⟩
 ·intro e w;subst e;exact AnyF.pdqsortCmpFunc_none Tryz.layPdqSpan none 0 lim (UC 169) w
theorem uR(l:List Tm)(hl:Cp l)(lim:Nat)(X7:lim<100) :
  A6 Tryz.prog 244 [.msl 1000 l.length,vi 0,vi l.length,vi lim,.v (UC 219)] (Ak [(1000,.arr 3 (l.map AH))] Aa) fun r h' =>
   r=.tup []∧∃l' : List Tm,l'.Perm l∧l'.Pairwise (fun x y=>Eg y.path x.path=false)∧h'=Ak [(1000,.arr 3 (l'.map AH))] Aa:=by
 have hl:l.length≤1073741824:=hl;have hE:Gk Tryz.prog 244:=dZ 244 Tryz.func244 (by kernel_rfl) rfl;have eg:∀args w,(callFunc 219 args).run Tryz.prog w=.ok (.enter 219 args) w:=enters_of Tryz.func219 (by kernel_rfl) rfl;have Hq:=Jr (P:=Tryz.prog) (f:=244) (α:=TmA) (rest:=[.int .i64 0,.int .i64 l.length,.int .i64 lim,UC 219]) hE AH encTmA (k:=3) (fun _=>rfl) (fun _=>rfl) (ltOf cfTmA) (fun x a=>a.1=x.path) l (by omega) ?_ ?_ ?_
 ·refine⟨hE,fun g w vals q1 q2 q3=>(Hq.2 g w vals q1 q2 q3).mono fun _ _ ⟨v,r,h',g',e1,⟨e2,l',p1,⟨al,a1,a2,a3⟩,p2⟩,rest⟩=>⟨v,r,h',g',e1,⟨e2,l',p1,?_,p2⟩,rest⟩⟩;rw[AZ]at a3⊢;intro i j hi hj PK
  have:=a3 i j (by omega) (by omega) PK
  rw[bc]at this;have e1:=a2 i _ _ (Ax hi) (Ax (by omega));have e2:=a2 j _ _ (Ax hj) (Ax (by omega));rw[←e1,←e2];exact this
 ·intro x hx g w vs hr
  match vs,hr with
  | [a,b,c],hr =>
   have h1:=(hr.2.2 0 (Go.Eng.vs x.path) a rfl rfl).v_eq;subst h1;exact⟨⟨x.path,⟨b,hr.2.1 b (by simp)⟩,⟨c,hr.2.1 c (by simp)⟩⟩,rfl,rfl⟩
  | [],hr=>have:=hr.1;simp at this
  | [_],hr=>have:=hr.1;simp at this
  | [_,_],hr=>have:=hr.1;simp at this
  |_::_::_::_::_,hr=>have:=hr.1;simp at this
 ·intro w b cap d hH hb Eh hdl;have gy:CmpLays Tryz.prog 219 #[] encTmA 3 cfTmA b 0 d.size w:=fun _ _ _ _ x y=>Tryz.closure219 x y _;have hp:=AnyQ.pdqsortCmpFunc_all Tryz.layPdqTerm 3 Tryz.isAgg198 Tryz.sizeOf198 encTmA cfTmA 219 #[] jo b 0 cap d w eg gy ⟨fun _=>rfl,fun x v hv=>by
    simp only[encTmA,AA,LK,or_false]at hv;rcases hv with rfl | rfl | rfl
    ·rfl
    ·exact x.2.1.2
    ·exact x.2.2.2,hH,hb⟩ (d.size+1) 0 d.size lim d w (by omega) rfl (SWK.start hH) (AD _) (Al _) Eh (by omega) (Or.inl rfl)
  rw[hdl]at hp⊢;refine hp.mono ?_
  rintro e w' ⟨rfl,n,os,rfl⟩
  have h:=pdq_sorts (ltOf cfTmA) jo d 0 d.size lim true true (AD _) (Al _) (Or.inl rfl);rw[hdl]at h;exact⟨rfl,_,n,os,h.1,h.2,rfl⟩
 ·intro e w;subst e;exact AnyF.pdqsortCmpFunc_none Tryz.layPdqTerm none 0 lim (UC 219) w
end Go.Eng
namespace Go.Eng
open Go.Proofs
-- the checker,and what reads it
theorem gW:∀(s:List Sl) (i:Nat) (h:i+1<s.length),Me (some s[i].path) (s.drop (i+1))=(Eg s[i].path s[i+1].path&&Me (some s[i+1].path) (s.drop (i+2))):=fun s i h=>by
 rw[A7 h];rfl
theorem EX(a b:ByteArray):Eg a b=Op.bytesLess a.toList b.toList:=by
 have:∀x y:List UInt8,Ip x y=Op.bytesLess x y:=by
  intro x
  induction x with
  |nil=>intro y;cases y<;>rfl
  |cons a x ih =>
   intro y;cases y with
   |nil=>rfl
   |cons b y =>
    unfold Ip Op.bytesLess;rw[ih];rw[BR];simp
 unfold Eg;rw[this,ByteArray.toList_eq,ByteArray.toList_eq]
end Go.Eng
