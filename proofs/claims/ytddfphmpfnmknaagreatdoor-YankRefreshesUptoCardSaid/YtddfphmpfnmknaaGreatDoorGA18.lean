/- Lemmas for the claims of this seat, without a condition: part 18 (Dat, LaySort, CSort, C1, C2, CS, C4, C5, C6, C7, C8, C9, C10, C11, C12, C13, C14). -/
import Derived.Test.YtddfphmpfnmknaaGreatDoorGA16
import Derived.Test.YtddfphmpfnmknaaGreatDoorGA01
import Derived.Shelf.SlSortCmp.WholeK
import Derived.Shelf.Sort.Plain
import Derived.Shelf.Small.Strs
import Derived.Shelf.Small.Bits
import Derived.Ground.SlsfProg
import Derived.Ground.NamesProg
set_option maxHeartbeats 1000000
namespace Go.Eng
open Go.Proofs
variable {α:Type}{b0 b1 b2 b3:Bool}{a0:α}{b4:Bool}{a1:α}{b5:Bool}{a2 a3:α}{b6:Bool}{a4:α}{b7:Bool}{a5 a6:α}{b8:Bool}{a7:α}{b9:Bool}{a8:α}{YO:Bool}{a9:α}{l:List α}{YW:α}(i:Nat)(pl:Q0)(b:Bool)
abbrev vi(n:Int):AV := .v (.int .i64 n)
abbrev vb:AV := .v (.bool b)
abbrev vs(s:ByteArray):AV := .v (.string s)
abbrev sl(enc:α → List AV)(l:List α):AV := .slice .none (l.map enc)
abbrev Fu(v:Ver):List AV := [vi v.a,vi v.b,vi v.c]
abbrev Ag(s:Int×Int):List AV := [vi s.1,vi s.2]
abbrev AH(q:Rq):List AV := [vs q.path,sl Ag q.set]
abbrev At(r:Rl):List AV := [vs r.path,vi r.ver.a,vi r.ver.b,vi r.ver.c,sl AH r.reqs,vs r.arch,vs r.ifc,vs r.cert,vb r.yanked]
abbrev Ac(s:Sl):List AV := [vs s.path,vi s.ver.a,vi s.ver.b,vi s.ver.c]
abbrev AO(t:Tm):List AV := [vs t.path,vb t.absent,sl Ag t.set]
abbrev Dn(i:Nf):List AV := [vi i.kind,vs i.path,vi i.place,vi i.number,vi i.left,vi i.right]
abbrev Cv(s:Sk):List AV := [vs s.path,vi s.place,vi s.inf]
noncomputable abbrev iW:Cx := ⟨Tryz.prog,pU,pl,false,0,fun _ _ _ _ => True⟩
noncomputable abbrev KV:Cx := ⟨Tryz.prog,pU,pl,true,0,fun _ _ _ _ => True⟩
abbrev D3:Q0 := ⟨[],[],[],[],[],[],[],[],[],[],[]⟩
abbrev PC(f:Nat)(args:List AV)(res:AV):Prop := J9 Tryz.prog f args res
theorem hm:Tryz.prog.follows .mixedOrders = true := by rfl
theorem Zr{α:Sort _}{β:Sort _}{a:α}{b:β}:a = a ∧ b = b := ⟨rfl,rfl⟩
theorem Nz{a b:Nat}(h:Nat.ble a b = true):a ≤ b := GA h
theorem Xi{α:Sort _}{p:α → Prop}(w:α)(h:p w):Exists p := Exists.intro w h
theorem Yi{a b:Prop}(h:a)(k:b):a ∧ b := And.intro h k
theorem Fh{st:St}{h:Nat → HO}:∀j,Af j = .free ∨ (st.h j = Af j ∧ ZU h (Af j) = true) := fun _ => .inl rfl
theorem Tv:True := trivial
theorem Ii(h:i ≤ 9223372036854775806):Bc ((i:Int) + 1) := by unfold Bc;omega
theorem Dl(n i:Nat)(h:i<n):n-(i + 1)<n-i := by omega
theorem Bt:b = true ∨ b = false := Bool.eq_false_or_eq_true b
theorem Z1:(a0 = a0 ∧ b0 = b0) ∧ True := ⟨⟨rfl,rfl⟩,trivial⟩
theorem Z2:(a0 = a0 ∧ b0 = b0) ∧ (a1 = a1 ∧ b1 = b1) ∧ True := ⟨⟨rfl,rfl⟩,⟨rfl,rfl⟩,trivial⟩
theorem Z3:(a0 = a0 ∧ b0 = b0) ∧ (a1 = a1 ∧ b1 = b1) ∧ (a2 = a2 ∧ b2 = b2) ∧ True := ⟨⟨rfl,rfl⟩,⟨rfl,rfl⟩,⟨rfl,rfl⟩,trivial⟩
theorem Z4:(a0 = a0 ∧ b0 = b0) ∧ (a1 = a1 ∧ b1 = b1) ∧ (a2 = a2 ∧ b2 = b2) ∧ (a3 = a3 ∧ b3 = b3) ∧ True := ⟨⟨rfl,rfl⟩,⟨rfl,rfl⟩,⟨rfl,rfl⟩,⟨rfl,rfl⟩,trivial⟩
theorem Z5:(a0 = a0 ∧ b0 = b0) ∧ (a1 = a1 ∧ b1 = b1) ∧ (a2 = a2 ∧ b2 = b2) ∧ (a3 = a3 ∧ b3 = b3) ∧ (a4 = a4 ∧ b4 = b4) ∧ True := ⟨⟨rfl,rfl⟩,⟨rfl,rfl⟩,⟨rfl,rfl⟩,⟨rfl,rfl⟩,⟨rfl,rfl⟩,trivial⟩
theorem Z6:(a0 = a0 ∧ b0 = b0) ∧ (a1 = a1 ∧ b1 = b1) ∧ (a2 = a2 ∧ b2 = b2) ∧ (a3 = a3 ∧ b3 = b3) ∧ (a4 = a4 ∧ b4 = b4) ∧ (a5 = a5 ∧ b5 = b5) ∧ True := ⟨⟨rfl,rfl⟩,⟨rfl,rfl⟩,⟨rfl,rfl⟩,⟨rfl,rfl⟩,⟨rfl,rfl⟩,⟨rfl,rfl⟩,trivial⟩
theorem Z7:(a0 = a0 ∧ b0 = b0) ∧ (a1 = a1 ∧ b1 = b1) ∧ (a2 = a2 ∧ b2 = b2) ∧ (a3 = a3 ∧ b3 = b3) ∧ (a4 = a4 ∧ b4 = b4) ∧ (a5 = a5 ∧ b5 = b5) ∧ (a6 = a6 ∧ b6 = b6) ∧ True := ⟨⟨rfl,rfl⟩,⟨rfl,rfl⟩,⟨rfl,rfl⟩,⟨rfl,rfl⟩,⟨rfl,rfl⟩,⟨rfl,rfl⟩,⟨rfl,rfl⟩,trivial⟩
theorem Z8:(a0 = a0 ∧ b0 = b0) ∧ (a1 = a1 ∧ b1 = b1) ∧ (a2 = a2 ∧ b2 = b2) ∧ (a3 = a3 ∧ b3 = b3) ∧ (a4 = a4 ∧ b4 = b4) ∧ (a5 = a5 ∧ b5 = b5) ∧ (a6 = a6 ∧ b6 = b6) ∧ (a7 = a7 ∧ b7 = b7) ∧ True := ⟨⟨rfl,rfl⟩,⟨rfl,rfl⟩,⟨rfl,rfl⟩,⟨rfl,rfl⟩,⟨rfl,rfl⟩,⟨rfl,rfl⟩,⟨rfl,rfl⟩,⟨rfl,rfl⟩,trivial⟩
theorem Z9:(a0 = a0 ∧ b0 = b0) ∧ (a1 = a1 ∧ b1 = b1) ∧ (a2 = a2 ∧ b2 = b2) ∧ (a3 = a3 ∧ b3 = b3) ∧ (a4 = a4 ∧ b4 = b4) ∧ (a5 = a5 ∧ b5 = b5) ∧ (a6 = a6 ∧ b6 = b6) ∧ (a7 = a7 ∧ b7 = b7) ∧ (a8 = a8 ∧ b8 = b8) ∧ True := ⟨⟨rfl,rfl⟩,⟨rfl,rfl⟩,⟨rfl,rfl⟩,⟨rfl,rfl⟩,⟨rfl,rfl⟩,⟨rfl,rfl⟩,⟨rfl,rfl⟩,⟨rfl,rfl⟩,⟨rfl,rfl⟩,trivial⟩
theorem Z10:(a0 = a0 ∧ b0 = b0) ∧ (a1 = a1 ∧ b1 = b1) ∧ (a2 = a2 ∧ b2 = b2) ∧ (a3 = a3 ∧ b3 = b3) ∧ (a4 = a4 ∧ b4 = b4) ∧ (a5 = a5 ∧ b5 = b5) ∧ (a6 = a6 ∧ b6 = b6) ∧ (a7 = a7 ∧ b7 = b7) ∧ (a8 = a8 ∧ b8 = b8) ∧ (a9 = a9 ∧ b9 = b9) ∧ True := ⟨⟨rfl,rfl⟩,⟨rfl,rfl⟩,⟨rfl,rfl⟩,⟨rfl,rfl⟩,⟨rfl,rfl⟩,⟨rfl,rfl⟩,⟨rfl,rfl⟩,⟨rfl,rfl⟩,⟨rfl,rfl⟩,⟨rfl,rfl⟩,trivial⟩
theorem Z11:(a0 = a0 ∧ b0 = b0) ∧ (a1 = a1 ∧ b1 = b1) ∧ (a2 = a2 ∧ b2 = b2) ∧ (a3 = a3 ∧ b3 = b3) ∧ (a4 = a4 ∧ b4 = b4) ∧ (a5 = a5 ∧ b5 = b5) ∧ (a6 = a6 ∧ b6 = b6) ∧ (a7 = a7 ∧ b7 = b7) ∧ (a8 = a8 ∧ b8 = b8) ∧ (a9 = a9 ∧ b9 = b9) ∧ (YW = YW ∧ YO = YO) ∧ True := ⟨⟨rfl,rfl⟩,⟨rfl,rfl⟩,⟨rfl,rfl⟩,⟨rfl,rfl⟩,⟨rfl,rfl⟩,⟨rfl,rfl⟩,⟨rfl,rfl⟩,⟨rfl,rfl⟩,⟨rfl,rfl⟩,⟨rfl,rfl⟩,⟨rfl,rfl⟩,trivial⟩
theorem Z12{du:α}{jw:Bool}:(a0 = a0 ∧ b0 = b0) ∧ (a1 = a1 ∧ b1 = b1) ∧ (a2 = a2 ∧ b2 = b2) ∧ (a3 = a3 ∧ b3 = b3) ∧ (a4 = a4 ∧ b4 = b4) ∧ (a5 = a5 ∧ b5 = b5) ∧ (a6 = a6 ∧ b6 = b6) ∧ (a7 = a7 ∧ b7 = b7) ∧ (a8 = a8 ∧ b8 = b8) ∧ (a9 = a9 ∧ b9 = b9) ∧ (YW = YW ∧ YO = YO) ∧ (du = du ∧ jw = jw) ∧ True := ⟨⟨rfl,rfl⟩,⟨rfl,rfl⟩,⟨rfl,rfl⟩,⟨rfl,rfl⟩,⟨rfl,rfl⟩,⟨rfl,rfl⟩,⟨rfl,rfl⟩,⟨rfl,rfl⟩,⟨rfl,rfl⟩,⟨rfl,rfl⟩,⟨rfl,rfl⟩,⟨rfl,rfl⟩,trivial⟩
theorem Z13{du a12:α}{jw tD:Bool}:(a0 = a0 ∧ b0 = b0) ∧ (a1 = a1 ∧ b1 = b1) ∧ (a2 = a2 ∧ b2 = b2) ∧ (a3 = a3 ∧ b3 = b3) ∧ (a4 = a4 ∧ b4 = b4) ∧ (a5 = a5 ∧ b5 = b5) ∧ (a6 = a6 ∧ b6 = b6) ∧ (a7 = a7 ∧ b7 = b7) ∧ (a8 = a8 ∧ b8 = b8) ∧ (a9 = a9 ∧ b9 = b9) ∧ (YW = YW ∧ YO = YO) ∧ (du = du ∧ jw = jw) ∧ (a12 = a12 ∧ tD = tD) ∧ True := ⟨⟨rfl,rfl⟩,⟨rfl,rfl⟩,⟨rfl,rfl⟩,⟨rfl,rfl⟩,⟨rfl,rfl⟩,⟨rfl,rfl⟩,⟨rfl,rfl⟩,⟨rfl,rfl⟩,⟨rfl,rfl⟩,⟨rfl,rfl⟩,⟨rfl,rfl⟩,⟨rfl,rfl⟩,⟨rfl,rfl⟩,trivial⟩
theorem Nn:(0:Int) ≤ (i:Int) := Int.natCast_nonneg i
abbrev Ic(x:List Rl)(ifs:List (List AV)):List AV := [sl At x,.slice .none ifs]
theorem Ps{f:Nat}{fn:Func}{c:Code}{args:List AV}{res:AV}(hf:Tryz.prog.funcs[f]? = some fn)(hb:fn.body = some c)(hN:args.length ≤ fn.ntmps)(hk:Re (iW pl) c (rH (iW pl) fn.results.toList fun r => GF r res) ⟨PN args,Af⟩)(hn : (fn.name == "runtime.NumGoroutine") = false := by kernel_rfl)(hc : ES fn.ntmps c = true := by kernel_rfl) : J9 Tryz.prog f args res := GB (iW pl) rfl Co hm rfl hf hn hb hN hc hk
theorem Lm{β:Type}(f:α → β):(l.map f).length = l.length := A8 f
theorem Ge{i:Nat}(h:i<l.length):l[i]? = some l[i] := AE h
end Go.Eng
namespace Go.Proofs
open Go.Shelf
def Tryz.layPdqSpan_ren:Go.Shelf.Ren:=⟨fun | 14=>205 | 20=>233 | 21=>234 | 22=>235 | 23=>236 | 24=>237 | 25=>238 | 26=>239 | 27=>240 | 46=>255 | 47=>186 | 48=>187 | 49=>256 | 50=>257 | 15=>98 | 57=>276 | 28=>137 | 29=>138 | n=>n,fun | 24=>67 | 22=>68 | 3=>3 | 25=>231 | 4=>4 | 0=>0 | 46=>205 | 45=>204 | 50=>110 | 66=>245 | 39=>174 | 55=>213 | 70=>249 | 76=>274 | 77=>275 | 53=>211 | 5=>5 | 9=>9 | n=>n,fun | n=>n⟩
theorem Tryz.layPdqSpan:Go.Proofs.SlLaysF0.n14 Tryz.prog Tryz.layPdqSpan_ren:={
 mixed:=by kernel_rfl
 f14:=⟨Tryz.f205.name,by decide,Tryz.func205.trans (congrArg some Go.Eng.Wk)⟩
 f15:=Tryz.func98.trans (congrArg some Go.Eng.Wk)
 f20:=⟨Tryz.f233.name,by decide,Tryz.func233.trans (congrArg some Go.Eng.Wk)⟩
 f21:=⟨Tryz.f234.name,by decide,Tryz.func234.trans (congrArg some Go.Eng.Wk)⟩
 f22:=⟨Tryz.f235.name,by decide,Tryz.func235.trans (congrArg some Go.Eng.Wk)⟩
 f23:=⟨Tryz.f236.name,by decide,Tryz.func236.trans (congrArg some Go.Eng.Wk)⟩
 f24:=⟨Tryz.f237.name,by decide,Tryz.func237.trans (congrArg some Go.Eng.Wk)⟩
 f25:=⟨Tryz.f238.name,by decide,Tryz.func238.trans (congrArg some Go.Eng.Wk)⟩
 f26:=⟨Tryz.f239.name,by decide,Tryz.func239.trans (congrArg some Go.Eng.Wk)⟩
 f27:=⟨Tryz.f240.name,by decide,Tryz.func240.trans (congrArg some Go.Eng.Wk)⟩
 f28:=Tryz.func137.trans (congrArg some Go.Eng.Wk)
 f29:=Tryz.func138.trans (congrArg some Go.Eng.Wk)
 f46:=⟨Tryz.f255.name,by decide,Tryz.func255.trans (congrArg some Go.Eng.Wk)⟩
 f47:=Tryz.func186.trans (congrArg some Go.Eng.Wk)
 f48:=Tryz.func187.trans (congrArg some Go.Eng.Wk)
 f49:=⟨Tryz.f256.name,by decide,Tryz.func256.trans (congrArg some Go.Eng.Wk)⟩
 f50:=⟨Tryz.f257.name,by decide,Tryz.func257.trans (congrArg some Go.Eng.Wk)⟩
 f57:=⟨Tryz.f276.name,by decide,Tryz.func276.trans (congrArg some Go.Eng.Wk)⟩
 t0:=Tryz.underlying0
 a0:=Tryz.isAgg0
 z0:=Tryz.sizeOf0
 v0:=Tryz.zeroValue0
 t3:=Tryz.underlying3
 a3:=Tryz.isAgg3
 z3:=Tryz.sizeOf3
 v3:=Tryz.zeroValue3
 t4:=Tryz.underlying4
 a4:=Tryz.isAgg4
 z4:=Tryz.sizeOf4
 v4:=Tryz.zeroValue4
 t5:=Tryz.underlying5
 a5:=Tryz.isAgg5
 z5:=Tryz.sizeOf5
 v5:=Tryz.zeroValue5
 t9:=Tryz.underlying9
 a9:=Tryz.isAgg9
 z9:=Tryz.sizeOf9
 v9:=Tryz.zeroValue9
 t22:=Tryz.underlying68
 a22:=Tryz.isAgg68
 z22:=Tryz.sizeOf68
 v22:=Tryz.zeroValue68
 t25:=Tryz.underlying231
 a25:=Tryz.isAgg231
 z25:=Tryz.sizeOf231
 v25:=Tryz.zeroValue231
 t39:=Tryz.underlying174
 a39:=Tryz.isAgg174
 z39:=Tryz.sizeOf174
 v39:=Tryz.zeroValue174
 t45:=Tryz.underlying204
 a45:=Tryz.isAgg204
 z45:=Tryz.sizeOf204
 v45:=Tryz.zeroValue204
 t46:=Tryz.underlying205
 a46:=Tryz.isAgg205
 z46:=Tryz.sizeOf205
 v46:=Tryz.zeroValue205
 t50:=Tryz.underlying110
 a50:=Tryz.isAgg110
 z50:=Tryz.sizeOf110
 v50:=Tryz.zeroValue110
 t53:=Tryz.underlying211
 a53:=Tryz.isAgg211
 z53:=Tryz.sizeOf211
 v53:=Tryz.zeroValue211
 t55:=Tryz.underlying213
 a55:=Tryz.isAgg213
 z55:=Tryz.sizeOf213
 v55:=Tryz.zeroValue213
 t66:=Tryz.underlying245
 a66:=Tryz.isAgg245
 z66:=Tryz.sizeOf245
 v66:=Tryz.zeroValue245
 t70:=Tryz.underlying249
 a70:=Tryz.isAgg249
 z70:=Tryz.sizeOf249
 v70:=Tryz.zeroValue249
 t76:=Tryz.underlying274
 a76:=Tryz.isAgg274
 z76:=Tryz.sizeOf274
 v76:=Tryz.zeroValue274
 t77:=Tryz.underlying275
 a77:=Tryz.isAgg275
 z77:=Tryz.sizeOf275
 v77:=Tryz.zeroValue275 }
def Tryz.layPdqTerm_ren:Go.Shelf.Ren:=⟨fun | 14=>244 | 20=>260 | 21=>261 | 22=>262 | 23=>263 | 24=>264 | 25=>265 | 26=>266 | 27=>267 | 46=>286 | 47=>186 | 48=>187 | 49=>287 | 50=>288 | 15=>98 | 57=>295 | 28=>137 | 29=>138 | n=>n,fun | 24=>198 | 22=>167 | 3=>3 | 25=>272 | 4=>4 | 0=>0 | 46=>205 | 45=>204 | 50=>110 | 66=>245 | 39=>174 | 55=>213 | 70=>249 | 76=>274 | 77=>275 | 53=>211 | 5=>5 | 9=>9 | n=>n,fun | n=>n⟩
theorem Tryz.layPdqTerm:Go.Proofs.SlLaysF0.n14 Tryz.prog Tryz.layPdqTerm_ren:={
 mixed:=by kernel_rfl
 f14:=⟨Tryz.f244.name,by decide,Tryz.func244.trans (congrArg some Go.Eng.Wk)⟩
 f15:=Tryz.func98.trans (congrArg some Go.Eng.Wk)
 f20:=⟨Tryz.f260.name,by decide,Tryz.func260.trans (congrArg some Go.Eng.Wk)⟩
 f21:=⟨Tryz.f261.name,by decide,Tryz.func261.trans (congrArg some Go.Eng.Wk)⟩
 f22:=⟨Tryz.f262.name,by decide,Tryz.func262.trans (congrArg some Go.Eng.Wk)⟩
 f23:=⟨Tryz.f263.name,by decide,Tryz.func263.trans (congrArg some Go.Eng.Wk)⟩
 f24:=⟨Tryz.f264.name,by decide,Tryz.func264.trans (congrArg some Go.Eng.Wk)⟩
 f25:=⟨Tryz.f265.name,by decide,Tryz.func265.trans (congrArg some Go.Eng.Wk)⟩
 f26:=⟨Tryz.f266.name,by decide,Tryz.func266.trans (congrArg some Go.Eng.Wk)⟩
 f27:=⟨Tryz.f267.name,by decide,Tryz.func267.trans (congrArg some Go.Eng.Wk)⟩
 f28:=Tryz.func137.trans (congrArg some Go.Eng.Wk)
 f29:=Tryz.func138.trans (congrArg some Go.Eng.Wk)
 f46:=⟨Tryz.f286.name,by decide,Tryz.func286.trans (congrArg some Go.Eng.Wk)⟩
 f47:=Tryz.func186.trans (congrArg some Go.Eng.Wk)
 f48:=Tryz.func187.trans (congrArg some Go.Eng.Wk)
 f49:=⟨Tryz.f287.name,by decide,Tryz.func287.trans (congrArg some Go.Eng.Wk)⟩
 f50:=⟨Tryz.f288.name,by decide,Tryz.func288.trans (congrArg some Go.Eng.Wk)⟩
 f57:=⟨Tryz.f295.name,by decide,Tryz.func295.trans (congrArg some Go.Eng.Wk)⟩
 t0:=Tryz.underlying0
 a0:=Tryz.isAgg0
 z0:=Tryz.sizeOf0
 v0:=Tryz.zeroValue0
 t3:=Tryz.underlying3
 a3:=Tryz.isAgg3
 z3:=Tryz.sizeOf3
 v3:=Tryz.zeroValue3
 t4:=Tryz.underlying4
 a4:=Tryz.isAgg4
 z4:=Tryz.sizeOf4
 v4:=Tryz.zeroValue4
 t5:=Tryz.underlying5
 a5:=Tryz.isAgg5
 z5:=Tryz.sizeOf5
 v5:=Tryz.zeroValue5
 t9:=Tryz.underlying9
 a9:=Tryz.isAgg9
 z9:=Tryz.sizeOf9
 v9:=Tryz.zeroValue9
 t22:=Tryz.underlying167
 a22:=Tryz.isAgg167
 z22:=Tryz.sizeOf167
 v22:=Tryz.zeroValue167
 t25:=Tryz.underlying272
 a25:=Tryz.isAgg272
 z25:=Tryz.sizeOf272
 v25:=Tryz.zeroValue272
 t39:=Tryz.underlying174
 a39:=Tryz.isAgg174
 z39:=Tryz.sizeOf174
 v39:=Tryz.zeroValue174
 t45:=Tryz.underlying204
 a45:=Tryz.isAgg204
 z45:=Tryz.sizeOf204
 v45:=Tryz.zeroValue204
 t46:=Tryz.underlying205
 a46:=Tryz.isAgg205
 z46:=Tryz.sizeOf205
 v46:=Tryz.zeroValue205
 t50:=Tryz.underlying110
 a50:=Tryz.isAgg110
 z50:=Tryz.sizeOf110
 v50:=Tryz.zeroValue110
 t53:=Tryz.underlying211
 a53:=Tryz.isAgg211
 z53:=Tryz.sizeOf211
 v53:=Tryz.zeroValue211
 t55:=Tryz.underlying213
 a55:=Tryz.isAgg213
 z55:=Tryz.sizeOf213
 v55:=Tryz.zeroValue213
 t66:=Tryz.underlying245
 a66:=Tryz.isAgg245
 z66:=Tryz.sizeOf245
 v66:=Tryz.zeroValue245
 t70:=Tryz.underlying249
 a70:=Tryz.isAgg249
 z70:=Tryz.sizeOf249
 v70:=Tryz.zeroValue249
 t76:=Tryz.underlying274
 a76:=Tryz.isAgg274
 z76:=Tryz.sizeOf274
 v76:=Tryz.zeroValue274
 t77:=Tryz.underlying275
 a77:=Tryz.isAgg275
 z77:=Tryz.sizeOf275
 v77:=Tryz.zeroValue275 }
def Tryz.layPdqSel_ren:Go.Shelf.Ren:=⟨fun | 14=>97 | 20=>129 | 21=>130 | 22=>131 | 23=>132 | 24=>133 | 25=>134 | 26=>135 | 27=>136 | 46=>185 | 47=>186 | 48=>187 | 49=>188 | 50=>189 | 15=>98 | 57=>221 | 28=>137 | 29=>138 | n=>n,fun | 24=>29 | 22=>45 | 3=>3 | 25=>123 | 4=>4 | 0=>0 | 46=>205 | 45=>204 | 50=>110 | 66=>245 | 39=>174 | 55=>213 | 70=>249 | 76=>274 | 77=>275 | 53=>211 | 5=>5 | 9=>9 | n=>n,fun | n=>n⟩
theorem Tryz.layPdqSel:Go.Proofs.SlLaysF0.n14 Tryz.prog Tryz.layPdqSel_ren:={
 mixed:=by kernel_rfl
 f14:=⟨Tryz.f97.name,by decide,Tryz.func97.trans (congrArg some Go.Eng.Wk)⟩
 f15:=Tryz.func98.trans (congrArg some Go.Eng.Wk)
 f20:=⟨Tryz.f129.name,by decide,Tryz.func129.trans (congrArg some Go.Eng.Wk)⟩
 f21:=⟨Tryz.f130.name,by decide,Tryz.func130.trans (congrArg some Go.Eng.Wk)⟩
 f22:=⟨Tryz.f131.name,by decide,Tryz.func131.trans (congrArg some Go.Eng.Wk)⟩
 f23:=⟨Tryz.f132.name,by decide,Tryz.func132.trans (congrArg some Go.Eng.Wk)⟩
 f24:=⟨Tryz.f133.name,by decide,Tryz.func133.trans (congrArg some Go.Eng.Wk)⟩
 f25:=⟨Tryz.f134.name,by decide,Tryz.func134.trans (congrArg some Go.Eng.Wk)⟩
 f26:=⟨Tryz.f135.name,by decide,Tryz.func135.trans (congrArg some Go.Eng.Wk)⟩
 f27:=⟨Tryz.f136.name,by decide,Tryz.func136.trans (congrArg some Go.Eng.Wk)⟩
 f28:=Tryz.func137.trans (congrArg some Go.Eng.Wk)
 f29:=Tryz.func138.trans (congrArg some Go.Eng.Wk)
 f46:=⟨Tryz.f185.name,by decide,Tryz.func185.trans (congrArg some Go.Eng.Wk)⟩
 f47:=Tryz.func186.trans (congrArg some Go.Eng.Wk)
 f48:=Tryz.func187.trans (congrArg some Go.Eng.Wk)
 f49:=⟨Tryz.f188.name,by decide,Tryz.func188.trans (congrArg some Go.Eng.Wk)⟩
 f50:=⟨Tryz.f189.name,by decide,Tryz.func189.trans (congrArg some Go.Eng.Wk)⟩
 f57:=⟨Tryz.f221.name,by decide,Tryz.func221.trans (congrArg some Go.Eng.Wk)⟩
 t0:=Tryz.underlying0
 a0:=Tryz.isAgg0
 z0:=Tryz.sizeOf0
 v0:=Tryz.zeroValue0
 t3:=Tryz.underlying3
 a3:=Tryz.isAgg3
 z3:=Tryz.sizeOf3
 v3:=Tryz.zeroValue3
 t4:=Tryz.underlying4
 a4:=Tryz.isAgg4
 z4:=Tryz.sizeOf4
 v4:=Tryz.zeroValue4
 t5:=Tryz.underlying5
 a5:=Tryz.isAgg5
 z5:=Tryz.sizeOf5
 v5:=Tryz.zeroValue5
 t9:=Tryz.underlying9
 a9:=Tryz.isAgg9
 z9:=Tryz.sizeOf9
 v9:=Tryz.zeroValue9
 t22:=Tryz.underlying45
 a22:=Tryz.isAgg45
 z22:=Tryz.sizeOf45
 v22:=Tryz.zeroValue45
 t25:=Tryz.underlying123
 a25:=Tryz.isAgg123
 z25:=Tryz.sizeOf123
 v25:=Tryz.zeroValue123
 t39:=Tryz.underlying174
 a39:=Tryz.isAgg174
 z39:=Tryz.sizeOf174
 v39:=Tryz.zeroValue174
 t45:=Tryz.underlying204
 a45:=Tryz.isAgg204
 z45:=Tryz.sizeOf204
 v45:=Tryz.zeroValue204
 t46:=Tryz.underlying205
 a46:=Tryz.isAgg205
 z46:=Tryz.sizeOf205
 v46:=Tryz.zeroValue205
 t50:=Tryz.underlying110
 a50:=Tryz.isAgg110
 z50:=Tryz.sizeOf110
 v50:=Tryz.zeroValue110
 t53:=Tryz.underlying211
 a53:=Tryz.isAgg211
 z53:=Tryz.sizeOf211
 v53:=Tryz.zeroValue211
 t55:=Tryz.underlying213
 a55:=Tryz.isAgg213
 z55:=Tryz.sizeOf213
 v55:=Tryz.zeroValue213
 t66:=Tryz.underlying245
 a66:=Tryz.isAgg245
 z66:=Tryz.sizeOf245
 v66:=Tryz.zeroValue245
 t70:=Tryz.underlying249
 a70:=Tryz.isAgg249
 z70:=Tryz.sizeOf249
 v70:=Tryz.zeroValue249
 t76:=Tryz.underlying274
 a76:=Tryz.isAgg274
 z76:=Tryz.sizeOf274
 v76:=Tryz.zeroValue274
 t77:=Tryz.underlying275
 a77:=Tryz.isAgg275
 z77:=Tryz.sizeOf275
 v77:=Tryz.zeroValue275 }
def Tryz.layCompare_ren:Go.Shelf.Ren:=⟨fun | 106=>69 | 213=>99 | 265=>139 | n=>n,fun | 9=>9 | 3=>3 | n=>n,fun | n=>n⟩
theorem Tryz.layCompare:Go.Proofs.Lays.n106 Tryz.prog Tryz.layCompare_ren:={
 mixed:=by kernel_rfl
 f106:=Tryz.func69.trans (congrArg some Go.Eng.Wk)
 f213:=Tryz.func99.trans (congrArg some Go.Eng.Wk)
 f265:=Tryz.func139.trans (congrArg some Go.Eng.Wk)
 t3:=Tryz.underlying3
 a3:=Tryz.isAgg3
 z3:=Tryz.sizeOf3
 v3:=Tryz.zeroValue3
 t9:=Tryz.underlying9
 a9:=Tryz.isAgg9
 z9:=Tryz.sizeOf9
 v9:=Tryz.zeroValue9 }
def Tryz.layBits_ren:Go.Shelf.Ren:=⟨fun | 125=>98 | 128=>137 | 129=>138 | n=>n,fun | 46=>174 | 3=>3 | 51=>211 | 53=>213 | 4=>4 | 5=>5 | 9=>9 | n=>n,fun | n=>n⟩
theorem Tryz.layBits:Go.Proofs.Lays.n125 Tryz.prog Tryz.layBits_ren:={
 mixed:=by kernel_rfl
 f125:=Tryz.func98.trans (congrArg some Go.Eng.Wk)
 f128:=Tryz.func137.trans (congrArg some Go.Eng.Wk)
 f129:=Tryz.func138.trans (congrArg some Go.Eng.Wk)
 t3:=Tryz.underlying3
 a3:=Tryz.isAgg3
 z3:=Tryz.sizeOf3
 v3:=Tryz.zeroValue3
 t4:=Tryz.underlying4
 a4:=Tryz.isAgg4
 z4:=Tryz.sizeOf4
 v4:=Tryz.zeroValue4
 t5:=Tryz.underlying5
 a5:=Tryz.isAgg5
 z5:=Tryz.sizeOf5
 v5:=Tryz.zeroValue5
 t9:=Tryz.underlying9
 a9:=Tryz.isAgg9
 z9:=Tryz.sizeOf9
 v9:=Tryz.zeroValue9
 t46:=Tryz.underlying174
 a46:=Tryz.isAgg174
 z46:=Tryz.sizeOf174
 v46:=Tryz.zeroValue174
 t51:=Tryz.underlying211
 a51:=Tryz.isAgg211
 z51:=Tryz.sizeOf211
 v51:=Tryz.zeroValue211
 t53:=Tryz.underlying213
 a53:=Tryz.isAgg213
 z53:=Tryz.sizeOf213
 v53:=Tryz.zeroValue213 }
def Tryz.laySortInts_ren:Go.Shelf.Ren:=⟨fun | 189=>242 | 125=>98 | 257=>258 | 128=>137 | 129=>138 | 294=>277 | 295=>278 | 296=>279 | 297=>280 | 298=>281 | 299=>282 | 216=>283 | 300=>284 | 301=>285 | 328=>292 | 329=>186 | 330=>187 | 331=>293 | 332=>294 | 215=>167 | 343=>297 | n=>n,fun | 28=>155 | 3=>3 | 46=>174 | 0=>0 | 51=>211 | 53=>213 | 4=>4 | 183=>205 | 182=>204 | 131=>110 | 5=>5 | 9=>9 | 218=>245 | 222=>249 | 228=>274 | 229=>275 | n=>n,fun | n=>n⟩
theorem Tryz.laySortInts:Go.Proofs.Lays.n189 Tryz.prog Tryz.laySortInts_ren:={
 mixed:=by kernel_rfl
 f125:=Tryz.func98.trans (congrArg some Go.Eng.Wk)
 f128:=Tryz.func137.trans (congrArg some Go.Eng.Wk)
 f129:=Tryz.func138.trans (congrArg some Go.Eng.Wk)
 f189:=Tryz.func242.trans (congrArg some Go.Eng.Wk)
 f215:=Tryz.func167.trans (congrArg some Go.Eng.Wk)
 f216:=Tryz.func283.trans (congrArg some Go.Eng.Wk)
 f257:=Tryz.func258.trans (congrArg some Go.Eng.Wk)
 f294:=Tryz.func277.trans (congrArg some Go.Eng.Wk)
 f295:=Tryz.func278.trans (congrArg some Go.Eng.Wk)
 f296:=Tryz.func279.trans (congrArg some Go.Eng.Wk)
 f297:=Tryz.func280.trans (congrArg some Go.Eng.Wk)
 f298:=Tryz.func281.trans (congrArg some Go.Eng.Wk)
 f299:=Tryz.func282.trans (congrArg some Go.Eng.Wk)
 f300:=Tryz.func284.trans (congrArg some Go.Eng.Wk)
 f301:=Tryz.func285.trans (congrArg some Go.Eng.Wk)
 f328:=Tryz.func292.trans (congrArg some Go.Eng.Wk)
 f329:=Tryz.func186.trans (congrArg some Go.Eng.Wk)
 f330:=Tryz.func187.trans (congrArg some Go.Eng.Wk)
 f331:=Tryz.func293.trans (congrArg some Go.Eng.Wk)
 f332:=Tryz.func294.trans (congrArg some Go.Eng.Wk)
 f343:=Tryz.func297.trans (congrArg some Go.Eng.Wk)
 t0:=Tryz.underlying0
 a0:=Tryz.isAgg0
 z0:=Tryz.sizeOf0
 v0:=Tryz.zeroValue0
 t3:=Tryz.underlying3
 a3:=Tryz.isAgg3
 z3:=Tryz.sizeOf3
 v3:=Tryz.zeroValue3
 t4:=Tryz.underlying4
 a4:=Tryz.isAgg4
 z4:=Tryz.sizeOf4
 v4:=Tryz.zeroValue4
 t5:=Tryz.underlying5
 a5:=Tryz.isAgg5
 z5:=Tryz.sizeOf5
 v5:=Tryz.zeroValue5
 t9:=Tryz.underlying9
 a9:=Tryz.isAgg9
 z9:=Tryz.sizeOf9
 v9:=Tryz.zeroValue9
 t28:=Tryz.underlying155
 a28:=Tryz.isAgg155
 z28:=Tryz.sizeOf155
 v28:=Tryz.zeroValue155
 t46:=Tryz.underlying174
 a46:=Tryz.isAgg174
 z46:=Tryz.sizeOf174
 v46:=Tryz.zeroValue174
 t51:=Tryz.underlying211
 a51:=Tryz.isAgg211
 z51:=Tryz.sizeOf211
 v51:=Tryz.zeroValue211
 t53:=Tryz.underlying213
 a53:=Tryz.isAgg213
 z53:=Tryz.sizeOf213
 v53:=Tryz.zeroValue213
 t131:=Tryz.underlying110
 a131:=Tryz.isAgg110
 z131:=Tryz.sizeOf110
 v131:=Tryz.zeroValue110
 t182:=Tryz.underlying204
 a182:=Tryz.isAgg204
 z182:=Tryz.sizeOf204
 v182:=Tryz.zeroValue204
 t183:=Tryz.underlying205
 a183:=Tryz.isAgg205
 z183:=Tryz.sizeOf205
 v183:=Tryz.zeroValue205
 t218:=Tryz.underlying245
 a218:=Tryz.isAgg245
 z218:=Tryz.sizeOf245
 v218:=Tryz.zeroValue245
 t222:=Tryz.underlying249
 a222:=Tryz.isAgg249
 z222:=Tryz.sizeOf249
 v222:=Tryz.zeroValue249
 t228:=Tryz.underlying274
 a228:=Tryz.isAgg274
 z228:=Tryz.sizeOf274
 v228:=Tryz.zeroValue274
 t229:=Tryz.underlying275
 a229:=Tryz.isAgg275
 z229:=Tryz.sizeOf275
 v229:=Tryz.zeroValue275 }
end Go.Proofs
namespace Go.Proofs
open Go.Shelf Go.RowKit Go.Lib Go.Sort
def SpA:Type:={x:Int×Int // 0≤x.1∧x.1≤1000000}
instance:Inhabited SpA:=⟨⟨(0,0),by decide⟩⟩
def encSpA(x:SpA):List Value:=[.int .i64 x.1.1,.int .i64 x.1.2]
def cfSpA(x y:SpA):Int:=x.1.1-y.1.1
theorem Tryz.closure169(x y:SpA)(W:World):Calls Tryz.prog 169 #[.agg #[.int .i64 x.1.1,.int .i64 x.1.2],.agg #[.int .i64 y.1.1,.int .i64 y.1.2]] W fun e w'=>e=.returned (.int .i64 (cfSpA x y))∧∃q os',w'=grow (W.drewN q) os':=by
 obtain⟨⟨a,b⟩,h1,h2⟩:=x;obtain⟨⟨c,d⟩,h3,h4⟩:=y;dsimp only at h1 h2 h3 h4;have hw:IntKind.i64.wrap (a-c)=a-c:=by simp[IntKind.wrap,IntKind.bits,IntKind.signed];omega
 show Calls Tryz.prog 169 #[.agg #[.int .i64 a,.int .i64 b],.agg #[.int .i64 c,.int .i64 d]] W fun e w'=>e=.returned (.int .i64 (a-c))∧∃q os',w'=grow (W.drewN q) os'
 go_enter Tryz.func169,Tryz.ntmps169
 go_wp2
 go_ret
 exact⟨rfl,0,_,by rw[alloc_eq_grow,alloc_eq_grow,grow_grow];rfl⟩
def TmA:Type:=ByteArray×{v:Value // v.oneCell'=true}×{v:Value // v.oneCell'=true}
instance:Inhabited TmA:=⟨⟨ByteArray.empty,⟨.bool false,rfl⟩,⟨.bool false,rfl⟩⟩⟩
def encTmA(x:TmA):List Value:=[.string x.1,x.2.1.1,x.2.2.1]
def cfTmA(x y:TmA):Int:=Lib.compareBytes x.1.data.toList y.1.data.toList
theorem Tryz.closure219(x y:TmA)(W:World):Calls Tryz.prog 219 #[.agg #[.string x.1,x.2.1.1,x.2.2.1],.agg #[.string y.1,y.2.1.1,y.2.2.1]] W fun e w'=>e=.returned (.int .i64 (cfTmA x y))∧∃q os',w'=grow (W.drewN q) os':=by
 have hcon:=fun W'=>Any.strings_Compare Tryz.layCompare x.1 y.1 W';obtain⟨a,⟨b,hb⟩,⟨c,hc⟩⟩:=x;obtain⟨a',⟨b',rT⟩,⟨c',tN⟩⟩:=y;dsimp only at hcon
 change ∀W',Calls Tryz.prog 69 _ _ _ at hcon
 unfold cfTmA;dsimp only;generalize Lib.compareBytes a.data.toList a'.data.toList=r at hcon⊢
 go_enter Tryz.func219,Tryz.ntmps219
 go_wp2_with (go_at_call 69;refine(hcon _).mono ?_;rintro e w' ⟨rfl,rfl⟩)
 go_ret
 exact⟨rfl,0,_,by rw[alloc_eq_grow,alloc_eq_grow,grow_grow];rfl⟩
end Go.Proofs
namespace Go.Eng
open Go.Proofs
variable {caps:List AV}{α:Type}{p:α→Bool}{i fF:Nat}(l:List (Int×Int))(x:Sl)(v:Ver)(t:Tm)(r:Rl)(m s:List (Int×Int))
theorem ri:PC 61 [.agg (Fu v)] (.agg [vi v.a,vi v.b,vi v.c]):=by
 refine Ps D3 Tryz.func61 rfl (Nz rfl) ?_;exact Yi (Nz rfl) (Yi (Nz rfl) (.refl _))
def part:Nat→Int
 |0=>v.a
 |1=>v.b
 |_=>v.c
theorem XB{v:Ver}(h:¬okPart (part v i)):Cj v=false:=by
 unfold Cj
 match i,h with
 |0,h=>have h:¬okPart v.a:=h;simp[h]
 |1,h=>have h:¬okPart v.b:=h;simp[h]
 |_+2,h=>have h:¬okPart v.c:=h;simp[h]
theorem re:PC 38 [.agg (Fu v)] (vb (Cj v)):=by
 refine Ps D3 Tryz.func38 rfl (Nz rfl) (Yi (Nz rfl) (Xi .pure (Xi _ (Yi (ri v) (Xi {i:Nat // i≤3∧∀j,j<i→okPart (part v j)} (Xi (fun i=>⟨[(6,.agg [vi v.a,vi v.b,vi v.c]),(7,vi i.1)],[],Af⟩) (Xi (fun i=>3-i.1) (Yi (Xi ⟨0,by simp⟩ ?_) ?_))))))))
 ·exact⟨Z2,Tv,Fh,Tv⟩
 ·intro⟨i,h1,h2⟩;refine Yi ?_ ?_
  ·intro h;have h:(i:Int)<3:=h;refine Yi ⟨by show(0:Int)≤i;omega,by show(i:Int)<3;omega⟩ ?_;have hp:M3 (([vi v.a,vi v.b,vi v.c]).drop ((i:Int).toNat*1))=fun K=>K (vi (part v i)):=by
    match i,h with
    |0,_=>rfl
    |1,_=>rfl
    |2,_=>rfl
    |_+3,h=>omega
   show M3 (([vi v.a,vi v.b,vi v.c]).drop ((i:Int).toNat*1)) _;rw[hp];refine Yi ?_ ?_
   ·intro h3;have h3:part v i<0:=h3;rw[XB (i:=i) (by unfold okPart;omega)];exact .refl _
   ·intro h3;have h3:¬part v i<0:=h3;refine Yi ?_ ?_
    ·intro h4;have h4:(999:Int)<part v i:=h4;rw[XB (i:=i) (by unfold okPart;omega)];exact .refl _
    ·intro h4;have h4:¬(999:Int)<part v i:=h4;refine Yi (Ii i ch) (Xi ⟨i+1,by omega,fun j hj=>?_⟩ ?_)
     ·by_cases e:j=i
      ·subst e;exact⟨by omega,by omega⟩
      ·exact h2 j ch
     ·exact⟨Dl 3 i ch,Z2,Tv,Fh,Tv⟩
  ·intro h;have h:¬(i:Int)<3:=h;have e:i=3:=by omega
   have q:Cj v=true:=by
    unfold Cj;have a:=h2 0 ch;have b:=h2 1 ch;have c:=h2 2 ch;simp only[part]at a b c;simp[a,b,c]
   rw[q];exact .refl _
theorem uK:PC 39 [.agg (Fu v)] (.tup [vi (if Cj v then place v else 0),vi (if Cj v then 0 else 2)]):=by
 refine Ps D3 Tryz.func39 rfl (Nz rfl) (Yi (Nz rfl) (Xi .pure (Xi _ (Yi (re v) ?_))));cases h:Cj v with
 |false=>exact .refl _
 |true =>
  have hv:=Js h;refine Yi (by show Bc (1000*v.b);unfold Bc;omega) ?_;exact Yi (by show Bc (1000*v.b+v.c);unfold Bc;omega) (.refl _)
theorem mX(h:Cj v=true):PC 16 [.agg (Fu v)] (vi (place v)):=by
 refine Ps D3 Tryz.func16 rfl (Nz rfl) ?_;have hv:=Js h;refine Yi (by show Bc (1000*v.b);unfold Bc;omega) ?_;exact Yi (by show Bc (1000*v.b+v.c);unfold Bc;omega) (.refl _)
def FB(caps:List AV):Prop:=∀c∈caps,∀h,str0 h c=c
theorem FB.map{caps:List AV}(hs:FB caps)(h:Nat→HO):caps.map (str0 h)=caps:=by
 conv=>rhs;rw[←HL caps]
 exact Bd fun c hc=>hs c hc h
theorem FB.ids(hs:FB caps)(h:Nat→HO):ZV h caps=true:=by
 induction caps with
 |nil=>rfl
 |cons c r ih =>
  have hc:=hs c (Aa ..) Af;have h0:ids0 h c=true:=by
   cases c with
   |slice tk es=>cases tk with |none=>rfl |full sz=>simp[str0]at hc |id r sz=>simp[str0]at hc |ver r sz v=>simp[str0]at hc
   |_=>first |rfl |(simp[str0,Af]at hc)
  unfold ZV;rw[h0];exact ih fun c hc=>hs c (Ah _ hc)
def Lc{α:Type}(p:α→Bool):List α→Int→Int
 | [],_=>-1
 |x::r,i=>if p x then i else Lc p r (i+1)
theorem OQ{α:Type}{p:α→Bool}:∀{l:List α} {i:Nat} {k:Int} (hi:i<l.length),(∀j (hj:j<l.length),j<i→p l[j]=false)→p l[i]=true→Lc p l k=k+i
 |x::r,0,k,_,_,h=>by
  have h:p x=true:=h;simp[Lc,h]
 |x::r,i+1,k,hi,hb,h=>by
  have h0:p x=false:=hb 0 B0 ch
  have:=OQ (l:=r) (i:=i) (k:=k+1) (by simpa using hi) (fun j hj Iq=>hb (j+1) (by simpa using hj) ch) (by simpa using h)
  simp only[Lc,h0,DA,GZ,this];omega
theorem Kh{α:Type}{p:α→Bool}:∀{l:List α} {k:Int},(∀j (hj:j<l.length),p l[j]=false)→Lc p l k=-1
 | [],_,_=>rfl
 |x::r,k,h=>by
  have h0:p x=false:=h 0 B0;simp only[Lc,h0,DA,GZ];exact Kh fun j hj=>h (j+1) (by simpa using hj)
theorem NF{α:Type}{p:α→Bool}:∀(l:List α) (k:Int),0≤k→decide (0≤Lc p l k)=l.any p
 | [],k,_=>by simp[Lc]
 |x::r,k,hk=>by
  unfold Lc;cases h:p x with
  |true=>simp[h,hk]
  |false=>simp[h,NF r (k+1) ch]
-- one for each type of elements
theorem zj(hs:FB caps)(l:List (Int×Int))(p:Int×Int→Bool)(hF:∀x∈l,PC fF ([.agg (Ag x)]++caps) (vb (p x)))(hl:l.length<9223372036854775807) :
  PC 173 [sl Ag l,.clo fF caps] (vi (Lc p l 0)):=by
 refine Ps D3 Tryz.func173 rfl (Nz rfl) (Xi {i:Nat // i≤l.length∧∀j (hj:j<l.length),j<i→p l[j]=false} (Xi (fun i=>⟨[(0,sl Ag l),(1,.clo fF caps),(7,vi (l.map Ag).length),(8,vi i.1)],[],Af⟩) (Xi (fun i=>l.length-i.1) (Yi (Xi ⟨0,by simp⟩ ?_) ?_))))
 ·exact⟨⟨Zr,⟨rfl,hs.ids _⟩,Zr,Zr,Tv⟩,Tv,Fh,Tv⟩
 ·intro⟨i,h1,h2⟩;refine Yi ?_ ?_
  ·intro h;have h:(i:Int)<(l.map Ag).length:=h;have h:i<l.length:=by simpa using h
   have hg:l[i]?=some l[i]:=Ge h;refine Xi (Ag l[i]) (Yi (Yi (Nn i) (by simp[hg])) (Yi rfl (yN ?_)));have El:∀h,PC fF ([.agg (Ag l[i])]++caps.map (str0 h)) (vb (p l[i])):=fun h=>by rw[hs.map];exact hF l[i] (Aj _)
   cases hp:p l[i]with
   |true =>
    rw[hp]at El;refine Xi .pure (Xi (vb true) (Yi (El _) ?_));rw[OQ h (fun j hj Iq=>h2 j hj Iq) hp,Jv];exact .refl _
   |false =>
    rw[hp]at El;refine Xi .pure (Xi (vb false) (Yi (El _) (Yi (Ii i ch) (Xi ⟨i+1,by omega,fun j hj Iq=>?_⟩ ?_))))
    ·by_cases e:j=i
     ·subst e;exact hp
     ·exact h2 j hj ch
    ·exact⟨Dl l.length i ch,⟨Zr,⟨rfl,hs.ids _⟩,Zr,Zr,Tv⟩,Tv,Fh,Tv⟩
  ·intro h;have h:¬(i:Int)<(l.map Ag).length:=h;have h:¬i<l.length:=by simpa using h
   rw[Kh fun j hj=>h2 j hj ch];exact .refl _
abbrev Cy(l:List α):Prop:=l.length≤1073741824
theorem DW{α:Type}{enc:α→List AV}{n:Nat}(h:∀x,(enc x).length=n):∀l:List α,Cf n (l.map enc)
 | []=>trivial
 |x::l=>⟨h x,DW h l⟩
theorem To{x y:Int×Int}:qi (Ag x) (Ag y)↔x=y:=by
 constructor
 ·intro h;have h:x.1=y.1∧x.2=y.2∧True:=h;exact Prod.ext h.1 h.2.1
 ·rintro rfl;exact⟨rfl,rfl,trivial⟩
abbrev Dg(l:List Tm):List AV:=[sl AO l]
abbrev Dx(s:ByteArray):List AV:=[vs s]
theorem c78(hs:FB caps)(l:List (Sl))(p:Sl→Bool)(hF:∀x∈l,PC fF ([.agg (Ac x)]++caps) (vb (p x)))(hl:l.length<9223372036854775807) :
  PC 208 [sl Ac l,.clo fF caps] (vi (Lc p l 0)):=by
 refine GB (iW D3) rfl Co hm rfl Tryz.func208 Wk rfl (Nz rfl) Wk (Xi {i:Nat // i≤l.length∧∀j (hj:j<l.length),j<i→p l[j]=false} (Xi (fun i=>⟨[(0,sl Ac l),(1,.clo fF caps),(7,vi (l.map Ac).length),(8,vi i.1)],[],Af⟩) (Xi (fun i=>l.length-i.1) (Yi (Xi ⟨0,by simp⟩ ?_) ?_))))
 ·exact⟨⟨Zr,⟨rfl,hs.ids _⟩,Zr,Zr,Tv⟩,Tv,Fh,Tv⟩
 ·intro⟨i,h1,h2⟩;refine Yi ?_ ?_
  ·intro h;have h:(i:Int)<(l.map Ac).length:=h;have h:i<l.length:=by simpa using h
   have hg:l[i]?=some l[i]:=Ge h;refine Xi (Ac l[i]) (Yi (Yi (by show(0:Int)≤i;omega) (by simp[hg])) (Yi rfl (yN ?_)));have El:∀h,PC fF ([.agg (Ac l[i])]++caps.map (str0 h)) (vb (p l[i])):=fun h=>by rw[hs.map];exact hF l[i] (Aj _)
   cases hp:p l[i]with
   |true =>
    rw[hp]at El;refine Xi .pure (Xi (vb true) (Yi (El _) ?_));rw[OQ h (fun j hj Iq=>h2 j hj Iq) hp,Jv];exact .refl _
   |false =>
    rw[hp]at El;refine Xi .pure (Xi (vb false) (Yi (El _) (Yi (Ii i ch) (Xi ⟨i+1,by omega,fun j hj Iq=>?_⟩ ?_))))
    ·by_cases e:j=i
     ·subst e;exact hp
     ·exact h2 j hj ch
    ·exact⟨Dl l.length i ch,⟨Zr,⟨rfl,hs.ids _⟩,Zr,Zr,Tv⟩,Tv,Fh,Tv⟩
  ·intro h;have h:¬(i:Int)<(l.map Ac).length:=h;have h:¬i<l.length:=by simpa using h
   rw[Kh fun j hj=>h2 j hj ch];exact .refl _
theorem nL(hs:FB caps)(l:List (Tm))(p:Tm→Bool)(hF:∀x∈l,PC fF ([.agg (AO x)]++caps) (vb (p x)))(hl:l.length<9223372036854775807) :
  PC 180 [sl AO l,.clo fF caps] (vi (Lc p l 0)):=by
 refine GB (iW D3) rfl Co hm rfl Tryz.func180 Wk rfl (Nz rfl) Wk (Xi {i:Nat // i≤l.length∧∀j (hj:j<l.length),j<i→p l[j]=false} (Xi (fun i=>⟨[(0,sl AO l),(1,.clo fF caps),(7,vi (l.map AO).length),(8,vi i.1)],[],Af⟩) (Xi (fun i=>l.length-i.1) (Yi (Xi ⟨0,by simp⟩ ?_) ?_))))
 ·exact⟨⟨Zr,⟨rfl,hs.ids _⟩,Zr,Zr,Tv⟩,Tv,Fh,Tv⟩
 ·intro⟨i,h1,h2⟩;refine Yi ?_ ?_
  ·intro h;have h:(i:Int)<(l.map AO).length:=h;have h:i<l.length:=by simpa using h
   have hg:l[i]?=some l[i]:=Ge h;refine Xi (AO l[i]) (Yi (Yi (by show(0:Int)≤i;omega) (by simp[hg])) (Yi rfl (yN ?_)));have El:∀h,PC fF ([.agg (AO l[i])]++caps.map (str0 h)) (vb (p l[i])):=fun h=>by rw[hs.map];exact hF l[i] (Aj _)
   cases hp:p l[i]with
   |true =>
    rw[hp]at El;refine Xi .pure (Xi (vb true) (Yi (El _) ?_));rw[OQ h (fun j hj Iq=>h2 j hj Iq) hp,Jv];exact .refl _
   |false =>
    rw[hp]at El;refine Xi .pure (Xi (vb false) (Yi (El _) (Yi (Ii i ch) (Xi ⟨i+1,by omega,fun j hj Iq=>?_⟩ ?_))))
    ·by_cases e:j=i
     ·subst e;exact hp
     ·exact h2 j hj ch
    ·exact⟨Dl l.length i ch,⟨Zr,⟨rfl,hs.ids _⟩,Zr,Zr,Tv⟩,Tv,Fh,Tv⟩
  ·intro h;have h:¬(i:Int)<(l.map AO).length:=h;have h:¬i<l.length:=by simpa using h
   rw[Kh fun j hj=>h2 j hj ch];exact .refl _
theorem y0(hs:FB caps)(l:List (Int×Int))(p:Int×Int→Bool)(hF:∀x∈l,PC fF ([.agg (Ag x)]++caps) (vb (p x)))(hl:Cy l) :
  PC 119 [sl Ag l,.clo fF caps] (vb (l.any p)):=by
 refine GB (iW D3) rfl Co hm rfl Tryz.func119 Wk rfl (Nz rfl) Wk ?_;have hi:=zj hs l p hF (by unfold Cy at hl;omega);have El:∀h,PC 173 [sl Ag l,.clo fF (caps.map (str0 h))] (vi (Lc p l 0)):=fun h=>by rw[hs.map];exact hi
 refine Xi .pure (Xi _ (Yi (El _) ?_));have ha:=NF (p:=p) l 0 (BK 0);refine Yi ?_ ?_
 ·intro h;have h:(0:Int)≤Lc p l 0:=h;rw[←ha,Aq h];exact .refl _
 ·intro h;have h:¬(0:Int)≤Lc p l 0:=h;rw[←ha,Ap h];exact .refl _
theorem c51(hs:FB caps)(l:List (Sl))(p:Sl→Bool)(hF:∀x∈l,PC fF ([.agg (Ac x)]++caps) (vb (p x)))(hl:Cy l) :
  PC 178 [sl Ac l,.clo fF caps] (vb (l.any p)):=by
 refine GB (iW D3) rfl Co hm rfl Tryz.func178 Wk rfl (Nz rfl) Wk ?_;have hi:=c78 hs l p hF (by unfold Cy at hl;omega);have El:∀h,PC 208 [sl Ac l,.clo fF (caps.map (str0 h))] (vi (Lc p l 0)):=fun h=>by rw[hs.map];exact hi
 refine Xi .pure (Xi _ (Yi (El _) ?_));have ha:=NF (p:=p) l 0 (BK 0);refine Yi ?_ ?_
 ·intro h;have h:(0:Int)≤Lc p l 0:=h;rw[←ha,Aq h];exact .refl _
 ·intro h;have h:¬(0:Int)≤Lc p l 0:=h;rw[←ha,Ap h];exact .refl _
theorem rh(hs:FB caps)(l:List (Tm))(p:Tm→Bool)(hF:∀x∈l,PC fF ([.agg (AO x)]++caps) (vb (p x)))(hl:Cy l) :
  PC 125 [sl AO l,.clo fF caps] (vb (l.any p)):=by
 refine GB (iW D3) rfl Co hm rfl Tryz.func125 Wk rfl (Nz rfl) Wk ?_;have hi:=nL hs l p hF (by unfold Cy at hl;omega);have El:∀h,PC 180 [sl AO l,.clo fF (caps.map (str0 h))] (vi (Lc p l 0)):=fun h=>by rw[hs.map];exact hi
 refine Xi .pure (Xi _ (Yi (El _) ?_));have ha:=NF (p:=p) l 0 (BK 0);refine Yi ?_ ?_
 ·intro h;have h:(0:Int)≤Lc p l 0:=h;rw[←ha,Aq h];exact .refl _
 ·intro h;have h:¬(0:Int)≤Lc p l 0:=h;rw[←ha,Ap h];exact .refl _
theorem y9(hl:Cy l):PC 62 [sl Ag l] (sl Ag l):=by
 refine GB (iW D3) rfl Co hm rfl Tryz.func62 Wk rfl (Nz rfl) Wk ?_;have GQ:Cf 2 (l.map Ag)∧([]:List (List AV)).length=0∧(([]:List (List AV)).length+(l.map Ag).length)*16≤140737488355328∧([]:List (List AV)).length+(l.map Ag).length≤9223372036854775807:=by
  refine⟨DW (enc:=Ag) (n:=2) (fun _=>rfl) l,rfl,?_,?_⟩<;>simp only[Ax,Lm]<;>unfold Cy at hl<;>omega
 refine Yi ?_ ?_
 ·intro _;exact Yi GQ (.refl _)
 ·intro h;have h:l.map Ag=[]:=h;refine Yi ?_ ?_
  ·show GF Ce (.slice .none (l.map Ag));rw[h];exact .nil
  ·exact Yi GQ (.refl _)
theorem uA(hl:Cy l):PC 166 [sl Ag l,sl Ag m] (vb (decide (l=m))):=by
 refine GB (iW D3) rfl Co hm rfl Tryz.func166 Wk rfl (Nz rfl) Wk (Yi ?_ ?_)
 ·intro h;have h:¬((l.map Ag).length:Int)=(m.map Ag).length:=h
  have:l≠m:=fun e=>h (by rw[e])
  rw[Ap this];exact .refl _
 ·intro h;have h:¬((l.map Ag).length:Int)≠(m.map Ag).length:=h;have CB:l.length=m.length:=by simp at h;omega
  refine Xi {i:Nat // i≤l.length∧l.take i=m.take i} (Xi (fun i=>⟨[(0,sl Ag l),(1,sl Ag m),(12,vi (l.map Ag).length),(13,vi i.1)],[],Af⟩) (Xi (fun i=>l.length-i.1) (Yi (Xi ⟨0,by simp⟩ ?_) ?_)))
  ·exact⟨⟨Zr,Zr,Zr,Zr,Tv⟩,Tv,Fh,Tv⟩
  ·intro⟨i,h1,h2⟩;refine Yi ?_ ?_
   ·intro h;have h:(i:Int)<(l.map Ag).length:=h;have h:i<l.length:=by simpa using h
    have h' : i<m.length:=by omega
    have hg:l[i]?=some l[i]:=Ge h;have ci : m[i]?=some m[i]:=Ge h';refine Xi (Ag l[i]) (Yi (Yi (by show(0:Int)≤i;omega) (by simp[hg])) (Yi rfl (yN ?_)));refine Xi (Ag m[i]) (Yi (Yi (by show(0:Int)≤i;omega) (by simp[ci])) (Yi rfl (yN ?_)));refine Yi ?_ ?_
    ·intro h5;have e:l[i]=m[i]:=To.1 h5;refine Yi Wk (Yi (by show Bc ((i:Int)+1);unfold Cy at hl;unfold Bc;omega) (Xi ⟨i+1,by omega,?_⟩ ?_))
     ·rw[Be,Be,h2,hg,ci,e]
     ·exact⟨Dl l.length i ch,⟨Zr,Zr,Zr,Zr,Tv⟩,Tv,Fh,Tv⟩
    ·intro h5;refine Yi Wk ?_
     have:l≠m:=fun e=>h5 (To.2 (by subst e;rfl))
     rw[Ap this];exact .refl _
   ·intro h;have h:¬(i:Int)<(l.map Ag).length:=h;have h:¬i<l.length:=by simpa using h
    have e:l=m:=by
     rw[←Au (l:=l) (i:=i) ch,h2,Au ch]
    rw[Aq e];exact .refl _
abbrev ne(l:List Nat):Q0:=⟨l,[],[],[],[],[],[],[],[],[],[]⟩
theorem FB.ptr(cs:List AV):FB [.cptr cs]:=fun c hc h=>by
 rw[Ar.1 hc];rfl
theorem y6(s:Int×Int)(p:Int):PC 120 [.agg (Ag s),.cptr [vi p]] (vb (BS p s)):=by
 refine Ps D3 Tryz.func120 rfl (Nz rfl) (Yi ?_ ?_)
 ·intro h;have h:s.1≤p:=h;refine Yi ?_ ?_
  ·intro h2;have h2:p<s.2:=h2;rw[show BS p s=true by simp[BS,h,h2]];exact .refl _
  ·intro h2;have h2:¬p<s.2:=h2;rw[show BS p s=false by simp[BS,h2]];exact .refl _
 ·intro h;have h:¬s.1≤p:=h;rw[show BS p s=false by simp[BS,h]];exact .refl _
theorem uM(p:Int)(hl:Cy s):PC 90 [sl Ag s,vi p] (vb (has s p)):=by
 refine Ps (ne [3]) Tryz.func90 rfl (Nz rfl) (Yi ?_ ?_)
 ·intro h;have h:0≤p:=h;refine Yi ?_ ?_
  ·intro h2;have h2:p<1000000:=h2;refine Xi .pure (Xi _ (Yi (y0 (FB.ptr [vi p]) s (BS p) (fun x _=>y6 x p) hl) ?_));rw[show has s p=s.any (BS p) by simp[has,h,h2]];cases s.any (BS p)<;>exact .refl _
  ·intro h2;have h2:¬p<1000000:=h2;rw[show has s p=false by simp[has,h2]];exact .refl _
 ·intro h;have h:¬0≤p:=h;rw[show has s p=false by simp[has,h]];exact .refl _
theorem c88:PC 115 [.agg (At r)] (vi (plc r.ver)):=by
 refine Ps D3 Tryz.func115 rfl (Nz rfl) ?_;exact Yi (Nz rfl) (Xi .pure (Xi _ (Yi (uK r.ver) (.refl _))))
theorem c99:PC 241 [.agg (Ac x),.cptr (AO t)] (vb (decide (x.path=t.path))):=by
 refine Ps D3 Tryz.func241 rfl (Nz rfl) (Yi ?_ ?_)
 ·intro h;have h:x.path=t.path:=h;rw[Aq h];exact .refl _
 ·intro h;have h:¬x.path=t.path:=h;rw[Ap h];exact .refl _
theorem Qh{α:Type}{p:α→Bool}:∀(l:List α) (k:Int),(Lc p l k=-1∧l.find? p=none)∨∃i x,Lc p l k=k+(i:Nat)∧l[i]?=some x∧l.find? p=some x
 | [],k=>.inl Zr
 |x::r,k=>by
  cases h:p x with
  |true=>exact .inr ⟨0,x,by simp[Lc,h],rfl,by simp[h]⟩
  |false =>
   rcases Qh (p:=p) r (k+1)with ⟨h1,h2⟩ | ⟨i,y,h1,h2,h3⟩
   ·exact .inl ⟨by simp[Lc,h,h1],by simp[h,h2]⟩
   ·exact .inr ⟨i+1,y,by simp only[Lc,h,DA,GZ,h1];omega,by simpa using h2,by simp[h,h3]⟩
theorem c55(s:List Sl)(hl:Cy s)(ht:Cy t.set):PC 207 [.agg (AO t),sl Ac s] (vb (Hi t s)):=by
 have hc:=c78 (FB.ptr (AO t)) s (fun x=>decide (x.path=t.path)) (fun x _=>c99 x t) (by unfold Cy at hl;omega);unfold Hi;rcases Qh (p:=fun x:Sl=>decide (x.path=t.path)) s 0 with ⟨h1,h2⟩ | ⟨i,x,h1,h2,h3⟩
 ·rw[h1]at hc;rw[h2];refine Ps (ne [2]) Tryz.func207 rfl (Nz rfl) (Xi .pure (Xi _ (Yi hc (Yi ?_ ?_))))
  ·intro _;refine Yi ?_ ?_
   ·intro h;have h:t.absent=true:=h;rw[h];exact .refl _
   ·intro h;have h:t.absent=false:=h;rw[h];exact .refl _
  ·intro h;exact absurd (show(-1:Int)<0 by decide) h
 ·rw[h1,Jv]at hc;rw[h3];have hg:(s.map Ac)[((i:Nat):Int).toNat]?=some (Ac x):=by rw[A7,AL,h2];rfl
  have hp:=uK x.ver;dsimp only;rcases Bt (Cj x.ver)with hv | hv
  ·rw[hv,Al rfl,Al rfl]at hp;rw[hv];refine Ps (ne [2]) Tryz.func207 rfl (Nz rfl) (Xi .pure (Xi _ (Yi hc (Yi ?_ ?_))))
   ·intro h;have h:(i:Int)<0:=h;omega
   ·intro _;refine Xi (Ac x) (Yi (Yi (Nn i) hg) (Yi rfl (yN (Xi .pure (Xi _ (Yi hp (Yi ?_ ?_)))))))
    ·intro _;refine Xi .pure (Xi _ (Yi (uM t.set (place x.ver) ht) ?_));exact .refl _
    ·intro h;exact absurd rfl h
  ·rw[hv,Ae Cl,Ae Cl]at hp;rw[hv];refine Ps (ne [2]) Tryz.func207 rfl (Nz rfl) (Xi .pure (Xi _ (Yi hc (Yi ?_ ?_))))
   ·intro h;have h:(i:Int)<0:=h;omega
   ·intro _;refine Xi (Ac x) (Yi (Yi (Nn i) hg) (Yi rfl (yN (Xi .pure (Xi _ (Yi hp (Yi ?_ ?_)))))))
    ·intro h;have h:(2:Int)=0:=h;omega
    ·intro _;exact .refl _
theorem nu{l:List α}(h:∀j (hj:j<l.length),j<i→p l[j]=true)(hi:¬i<l.length):l.all p=true:=by
 rw[AZ];intro x hx;obtain⟨j,hj,rfl⟩:=BR.1 hx;exact h j hj ch
theorem qY{l:List α}(hi:i<l.length)(h:p l[i]=false):l.all p=false:=by
 rw[List.all_eq_false];exact⟨l[i],Aj hi,by simp[h]⟩
theorem nw{l:List α}(hi:i<l.length)(h:p l[i]=true):l.any p=true:=by
 rw[A5];exact⟨l[i],Aj hi,h⟩
theorem q8{l:List α}(h:∀j (hj:j<l.length),j<i→p l[j]=false)(hi:¬i<l.length):l.any p=false:=by
 rw[De];intro x hx;obtain⟨j,hj,rfl⟩:=BR.1 hx;simp[h j hj ch]
abbrev jk(l:List Tm):Prop:=Cy l∧∀t∈l,Cy t.set
theorem c26(l:List Tm)(s:List Sl)(hl:jk l)(hs:Cy s):PC 176 [sl AO l,sl Ac s] (vb (l.all fun t=>Hi t s)):=by
 have hc:∀i (h:i<l.length),PC 207 [.agg (AO l[i]),sl Ac s] (vb (Hi l[i] s)):=fun i h=>c55 l[i] s hs (hl.2 _ (Aj h));obtain⟨hl,_⟩:=hl;unfold Cy at hl;refine Ps D3 Tryz.func176 rfl (Nz rfl) (Xi {i:Nat // i≤l.length∧∀j (hj:j<l.length),j<i→Hi l[j] s=true} (Xi (fun i=>⟨[(0,sl AO l),(1,sl Ac s),(7,vi (l.map AO).length),(8,vi i.1)],[],Af⟩) (Xi (fun i=>l.length-i.1) (Yi (Xi ⟨0,by simp⟩ ?_) ?_))))
 ·exact⟨Z4,Tv,Fh,Tv⟩
 ·intro⟨i,h1,h2⟩;refine Yi ?_ ?_
  ·intro h;have h:(i:Int)<(l.map AO).length:=h;have h:i<l.length:=by simpa using h
   have hg:l[i]?=some l[i]:=Ge h;have xZ:=hc i h;refine Xi (AO l[i]) (Yi (Yi (Nn i) (by simp[hg])) (Yi rfl (yN ?_)));cases hp:Hi l[i] s with
   |false =>
    rw[hp]at xZ;refine Xi .pure (Xi _ (Yi xZ ?_));rw[qY (p:=fun t=>Hi t s) h hp];exact .refl _
   |true =>
    rw[hp]at xZ;refine Xi .pure (Xi _ (Yi xZ (Yi (Ii i ch) (Xi ⟨i+1,by omega,fun j hj Iq=>?_⟩ ?_))))
    ·by_cases e:j=i
     ·subst e;exact hp
     ·exact h2 j hj ch
    ·exact⟨Dl l.length i ch,Z4,Tv,Fh,Tv⟩
  ·intro h;have h:¬(i:Int)<(l.map AO).length:=h;have h:¬i<l.length:=by simpa using h
   rw[nu (p:=fun t=>Hi t s) h2 h];exact .refl _
theorem y8:PC 179 [.agg (Ac x),.cptr (AO t)] (vb (decide (x.path=t.path))):=by
 refine Ps D3 Tryz.func179 rfl (Nz rfl) (Yi ?_ ?_)
 ·intro h;have h:x.path=t.path:=h;rw[Aq h];exact .refl _
 ·intro h;have h:¬x.path=t.path:=h;rw[Ap h];exact .refl _
theorem y7(s:List Sl)(hs:Cy s):PC 177 [.agg (AO t),.cptr [sl Ac s]] (vb (!CA s t.path)):=by
 have hc:=c51 (FB.ptr (AO t)) s (fun x=>decide (x.path=t.path)) (fun x _=>y8 x t) hs;unfold CA;cases hp:s.any fun x=>decide (x.path=t.path)with
 |true =>
  rw[hp]at hc;refine Ps (ne [2]) Tryz.func177 rfl (Nz rfl) ?_;exact Xi .pure (Xi _ (Yi hc (.refl _)))
 |false =>
  rw[hp]at hc;refine Ps (ne [2]) Tryz.func177 rfl (Nz rfl) ?_;exact Xi .pure (Xi _ (Yi hc (.refl _)))
theorem c91(l:List Tm)(s:List Sl)(hl:jk l)(hs:Cy s):PC 124 [sl AO l,sl Ac s] (vb (CQ l s)):=by
 have hv:=c26 l s hl hs;have hc:=rh (FB.ptr [sl Ac s]) l (fun t=>!CA s t.path) (fun t _=>y7 t s hs) hl.1;unfold CQ Bh;cases h1:l.all fun t=>Hi t s with
 |false =>
  rw[h1]at hv;refine Ps (ne [3]) Tryz.func124 rfl (Nz rfl) ?_;exact Xi .pure (Xi _ (Yi hv (.refl _)))
 |true =>
  rw[h1]at hv;cases h2:l.any fun t=>!CA s t.path with
  |true =>
   rw[h2]at hc;refine Ps (ne [3]) Tryz.func124 rfl (Nz rfl) ?_;exact Xi .pure (Xi _ (Yi hv (Xi .pure (Xi _ (Yi hc (.refl _))))))
  |false =>
   rw[h2]at hc;refine Ps (ne [3]) Tryz.func124 rfl (Nz rfl) ?_;exact Xi .pure (Xi _ (Yi hv (Xi .pure (Xi _ (Yi hc (.refl _))))))
def jg(p:Int)(s:Int×Int):Bool:=decide (max 0 s.1≤p)&&decide (p<min 1000000 s.2)
theorem oM(p:Int):s.any (jg p)=has s p:=by
 unfold has
 by_cases h:0≤p∧p<1000000
 ·rw[Aq h.1,Aq h.2];simp only[EB]
  congr 1
  funext x
  unfold jg BS
  congr 1
  ·exact Jz.2 ch
  ·exact Jz.2 ch
 ·have e:(decide (0≤p)&&decide (p<1000000))=false:=by
   rcases Decidable.not_and_iff_or_not.1 h with h | h<;>simp[h]
  rw[e,Bool.false_and];rw[De];intro x _;unfold jg;simp only[Ai,not_and];intro h1 h2;have h1:=A4 h1;have h2:=A4 h2;exact h ⟨by omega,by omega⟩
theorem nK(p:Int)(hl:Cy s):PC 196 [sl Ag s,vi p] (vb (has s p)):=by
 rw[←oM];unfold Cy at hl;refine Ps D3 Tryz.func196 rfl (Nz rfl) (Xi {i:Nat // i≤s.length∧∀j (hj:j<s.length),j<i→jg p s[j]=false} (Xi (fun i=>⟨[(0,sl Ag s),(1,vi p),(5,vi i.1)],[],Af⟩) (Xi (fun i=>s.length-i.1) (Yi (Xi ⟨0,by simp⟩ ?_) ?_))))
 ·exact⟨Z3,Tv,Fh,Tv⟩
 ·intro⟨i,h1,h2⟩;refine Yi ?_ ?_
  ·intro h;have h:(i:Int)<(s.map Ag).length:=h;have h:i<s.length:=by simpa using h
   have hg:s[i]?=some s[i]:=Ge h;refine Xi (Ag s[i]) (Yi (Yi (Nn i) (by simp[hg])) (Yi rfl ?_));refine Yi ?_ ?_
   ·intro h3;have h3:max 0 s[i].1≤p:=h3;refine Xi (Ag s[i]) (Yi (Yi (Nn i) (by simp[hg])) (Yi rfl ?_));refine Yi ?_ ?_
    ·intro h4;have h4:p<min 1000000 s[i].2:=h4;have h5:jg p s[i]=true:=by unfold jg;rw[Aq h3,Aq h4];rfl
     show GF (vb true) (vb (s.any (jg p)));rw[nw (p:=jg p) h h5];exact .refl _
    ·intro h4;have h4:¬p<min 1000000 s[i].2:=h4;refine Yi (Ii i ch) (Xi ⟨i+1,by omega,fun j hj Iq=>?_⟩ ?_)
     ·by_cases e:j=i
      ·subst e;unfold jg;rw[Ap h4,Cz]
      ·exact h2 j hj ch
     ·exact⟨Dl s.length i ch,Z3,Tv,Fh,Tv⟩
   ·intro h3;have h3:¬max 0 s[i].1≤p:=h3;refine Yi (Ii i ch) (Xi ⟨i+1,by omega,fun j hj Iq=>?_⟩ ?_)
    ·by_cases e:j=i
     ·subst e;unfold jg;rw[Ap h3,Bool.false_and]
     ·exact h2 j hj ch
    ·exact⟨Dl s.length i ch,Z3,Tv,Fh,Tv⟩
  ·intro h;have h:¬(i:Int)<(s.map Ag).length:=h;have h:¬i<s.length:=by simpa using h
   show GF (vb false) (vb (s.any (jg p)));rw[q8 (p:=jg p) h2 h];exact .refl _
theorem rn(n:Int):PC 141 [vi n] (vb (decide (okPart n))):=by
 refine Ps D3 Tryz.func141 rfl (Nz rfl) (Yi ?_ ?_)
 ·intro h;have h:0≤n:=h;refine Yi ?_ ?_
  ·intro h2;have h2:n≤999:=h2;show GF (vb true) (vb (decide (okPart n)));rw[Aq ⟨h,h2⟩];exact .refl _
  ·intro h2;have h2:¬n≤999:=h2;show GF (vb false) (vb (decide (okPart n)));rw[Ap fun q=>h2 q.2];exact .refl _
 ·intro h;have h:¬0≤n:=h;show GF (vb false) (vb (decide (okPart n)));rw[Ap fun q=>h q.1];exact .refl _
theorem uB:PC 101 [.agg (Fu v)] (vb (Cj v)):=by
 have ha:=rn v.a;have hb:=rn v.b;have hc:=rn v.c;unfold Cj;cases h1:decide (okPart v.a)with
 |false =>
  rw[h1]at ha;refine Ps D3 Tryz.func101 rfl (Nz rfl) ?_;exact Xi .pure (Xi _ (Yi ha (.refl _)))
 |true =>
  rw[h1]at ha;cases h2:decide (okPart v.b)with
  |false =>
   rw[h2]at hb;refine Ps D3 Tryz.func101 rfl (Nz rfl) ?_;exact Xi .pure (Xi _ (Yi ha (Xi .pure (Xi _ (Yi hb (.refl _))))))
  |true =>
   rw[h2]at hb;refine Ps D3 Tryz.func101 rfl (Nz rfl) ?_;exact Xi .pure (Xi _ (Yi ha (Xi .pure (Xi _ (Yi hb (Xi .pure (Xi _ (Yi hc (.refl _)))))))))
theorem dD{α:Type}{p:α→Bool}:∀{l:List α} {i:Nat} (hi:i<l.length),(∀j (hj:j<l.length),j<i→p l[j]=false)→p l[i]=true→l.find? p=some l[i]
 |x::r,0,_,_,h=>by
  have h:p x=true:=h;simp[h]
 |x::r,i+1,hi,hb,h=>by
  have h0:p x=false:=hb 0 B0 ch;rw[ED,h0];exact dD (l:=r) (i:=i) (by simpa using hi) (fun j hj Iq=>hb (j+1) (by simpa using hj) ch) h
theorem gj{l:List α}(h:∀j (hj:j<l.length),j<i→p l[j]=false)(hi:¬i<l.length):l.find? p=none:=by
 rw[DC];intro x hx;obtain⟨j,hj,rfl⟩:=BR.1 hx;simp[h j hj ch]
abbrev Ug(a:An):List AV:=[vb a.found,sl Ac a.sel,sl Dn a.infs,sl Cv a.skips]
theorem rg:PC 59 [.agg (At r)] (.agg (Ac ⟨r.path,r.ver⟩)):=by
 refine Ps D3 Tryz.func59 rfl (Nz rfl) ?_;exact Yi (Nz rfl) (Yi (Nz rfl) (Yi (Nz rfl) (.refl _)))
theorem xQ(s:List Sl)(p:ByteArray)(hl:Cy s):PC 195 [sl Ac s,vs p] (.tup [.agg (Ac ((Bv s p).getD te)),vb (Bv s p).isSome]):=by
 unfold Cy at hl;refine Ps D3 Tryz.func195 rfl (Nz rfl) (Xi {i:Nat // i≤s.length∧∀j (hj:j<s.length),j<i→decide (s[j].path=p)=false} (Xi (fun i=>⟨[(0,sl Ac s),(1,vs p),(4,.ref 4 0),(6,vi i.1)],[(4,.cells (Ac te))],Af⟩) (Xi (fun i=>s.length-i.1) (Yi (Xi ⟨0,by simp⟩ ?_) ?_))))
 ·exact⟨Z4,Z1,Fh,Tv⟩
 ·intro⟨i,h1,h2⟩;refine Yi ?_ ?_
  ·intro h;have h:(i:Int)<(s.map Ac).length:=h;have h:i<s.length:=by simpa using h
   have hg:s[i]?=some s[i]:=Ge h;refine Xi (Ac s[i]) (Yi (Yi (Nn i) (by simp[hg])) (Yi rfl ?_));refine Yi ?_ ?_
   ·intro h3;have h3:s[i].path=p:=h3;have hf:Bv s p=some s[i]:=dD (p:=fun x:Sl=>decide (x.path=p)) h h2 (Aq h3);refine Xi (Ac s[i]) (Yi (Yi (Nn i) (by simp[hg])) (Yi rfl (Yi (Nz rfl) (Yi (Nz rfl) (yN ?_)))));show GF (.tup [.agg (Ac s[i]),vb true]) _;rw[hf];exact .refl _
   ·intro h3;have h3:¬s[i].path=p:=h3;refine Yi (Ii i ch) (Xi ⟨i+1,by omega,fun j hj Iq=>?_⟩ ?_)
    ·by_cases e:j=i
     ·subst e;exact Ap h3
     ·exact h2 j hj ch
    ·exact⟨Dl s.length i ch,Z4,Z1,Fh,Tv⟩
  ·intro h;have h:¬(i:Int)<(s.map Ac).length:=h;have h:¬i<s.length:=by simpa using h
   have hf:Bv s p=none:=gj (p:=fun x:Sl=>decide (x.path=p)) h2 h;refine Yi (Nz rfl) (yN ?_);show GF (.tup [.agg (Ac te),vb false]) _;rw[hf];exact .refl _
theorem c75(hl:Cy l):PC 80 [sl Ag l,sl Ag m] (vb (decide (l=m))):=by
 refine Ps D3 Tryz.func80 rfl (Nz rfl) (Yi ?_ ?_)
 ·intro h;have h:¬((l.map Ag).length:Int)=(m.map Ag).length:=h
  have:l≠m:=fun e=>h (by rw[e])
  rw[Ap this];exact .refl _
 ·intro h;have h:¬((l.map Ag).length:Int)≠(m.map Ag).length:=h;have CB:l.length=m.length:=by simp at h;omega
  refine Xi {i:Nat // i≤l.length∧l.take i=m.take i} (Xi (fun i=>⟨[(0,sl Ag l),(1,sl Ag m),(5,vi i.1)],[],Af⟩) (Xi (fun i=>l.length-i.1) (Yi (Xi ⟨0,by simp⟩ ?_) ?_)))
  ·exact⟨Z3,Tv,Fh,Tv⟩
  ·intro⟨i,h1,h2⟩;refine Yi ?_ ?_
   ·intro h;have h:(i:Int)<(l.map Ag).length:=h;have h:i<l.length:=by simpa using h
    have h' : i<m.length:=by omega
    have hg:l[i]?=some l[i]:=Ge h;have ci : m[i]?=some m[i]:=Ge h';refine Xi (Ag l[i]) (Yi (Yi (Nn i) (by simp[hg])) (Yi rfl (yN ?_)));refine Xi (Ag m[i]) (Yi (Yi (Nn i) (by simp[ci])) (Yi rfl (yN ?_)));refine Yi ?_ ?_
    ·intro h5;have e:l[i]=m[i]:=To.1 h5;refine Yi Wk (Yi (by show Bc ((i:Int)+1);unfold Cy at hl;unfold Bc;omega) (Xi ⟨i+1,by omega,?_⟩ ?_))
     ·rw[Be,Be,h2,hg,ci,e]
     ·exact⟨Dl l.length i ch,Z3,Tv,Fh,Tv⟩
    ·intro h5;refine Yi Wk ?_
     have:l≠m:=fun e=>h5 (To.2 (by subst e;rfl))
     rw[Ap this];exact .refl _
   ·intro h;have h:¬(i:Int)<(l.map Ag).length:=h;have h:¬i<l.length:=by simpa using h
    have e:l=m:=by
     rw[←Au (l:=l) (i:=i) ch,h2,Au ch]
    rw[Aq e];exact .refl _
end Go.Eng
