/- Lemmas for the claims of this seat, without a condition: part 17 (Dat, LaySort, CSort, C1, C2, CS, C4, C5, C6, C7, C8, C9, C10, C11, C12, C13, C14, CSort2, C15). -/
import Derived.Test.YtmcbkdbfaneofaaGreatDoorDA15
import Derived.Test.YtmcbkdbfaneofaaGreatDoorDA01
import Derived.Shelf.SlSortCmp.WholeK
import Derived.Shelf.Sort.Plain
import Derived.Shelf.Small.Strs
import Derived.Shelf.Small.Bits
import Derived.Ground.SlsfProg
import Derived.Ground.NamesProg
import Derived.Shelf.SlSortCmp.NoneTotal
set_option maxHeartbeats 1000000
namespace Go.Eng
open Go.Proofs
abbrev vi(n:Int):AV := .v (.int .i64 n)
abbrev vb(b:Bool):AV := .v (.bool b)
abbrev vs(s:ByteArray):AV := .v (.string s)
abbrev sl{α:Type}(enc:α → List AV)(l:List α):AV := .slice .none (l.map enc)
abbrev LL(v:Ver):List AV := [vi v.a,vi v.b,vi v.c]
abbrev Aq(s:Int×Int):List AV := [vi s.1,vi s.2]
abbrev AN(q:Rq):List AV := [vs q.path,sl Aq q.set]
abbrev Ah(r:Rl):List AV := [vs r.path,vi r.ver.a,vi r.ver.b,vi r.ver.c,sl AN r.reqs,vs r.arch,vs r.ifc,vs r.cert,vb r.yanked]
abbrev Ae(s:Sl):List AV := [vs s.path,vi s.ver.a,vi s.ver.b,vi s.ver.c]
abbrev AF(t:Tm):List AV := [vs t.path,vb t.absent,sl Aq t.set]
abbrev BZ(i:Nf):List AV := [vi i.kind,vs i.path,vi i.place,vi i.number,vi i.left,vi i.right]
abbrev BT(s:Sk):List AV := [vs s.path,vi s.place,vi s.inf]
noncomputable abbrev dn(pl:TM):Cx := ⟨Tryz.prog,lY,pl,false,0,fun _ _ _ _ => True⟩
noncomputable abbrev Mo(pl:TM):Cx := ⟨Tryz.prog,lY,pl,true,0,fun _ _ _ _ => True⟩
abbrev F7:TM := ⟨[],[],[],[],[],[],[],[],[],[],[]⟩
abbrev PC(f:Nat)(args:List AV)(res:AV):Prop := LD Tryz.prog f args res
theorem hm:Tryz.prog.follows .mixedOrders = true := by rfl
theorem Zr{α:Sort _}{β:Sort _}{a:α}{b:β}:a = a ∧ b = b := ⟨rfl,rfl⟩
theorem Nz{a b:Nat}(h:Nat.ble a b = true):a ≤ b := HN h
theorem Xi{α:Sort _}{p:α → Prop}(w:α)(h:p w):Exists p := Exists.intro w h
theorem Yi{a b:Prop}(h:a)(k:b):a ∧ b := And.intro h k
theorem Fh{st:St}{h:Nat → HO}:∀j,Ab j = .free ∨ (st.h j = Ab j ∧ Xw h (Ab j) = true) := fun _ => .inl rfl
theorem Tv:True := trivial
theorem Ii(i:Nat)(h:i ≤ 9223372036854775806):BY ((i:Int) + 1) := by unfold BY;omega
theorem Dl(n i:Nat)(h:i<n):n-(i + 1)<n-i := by omega
theorem Bt(b:Bool):b = true ∨ b = false := Bool.eq_false_or_eq_true b
theorem Z1{α:Type}{a0:α}{b0:Bool}:(a0 = a0 ∧ b0 = b0) ∧ True := ⟨⟨rfl,rfl⟩,trivial⟩
theorem Z2{α:Type}{a0 a1:α}{b0 b1:Bool}:(a0 = a0 ∧ b0 = b0) ∧ (a1 = a1 ∧ b1 = b1) ∧ True := ⟨⟨rfl,rfl⟩,⟨rfl,rfl⟩,trivial⟩
theorem Z3{α:Type}{a0 a1 a2:α}{b0 b1 b2:Bool}:(a0 = a0 ∧ b0 = b0) ∧ (a1 = a1 ∧ b1 = b1) ∧ (a2 = a2 ∧ b2 = b2) ∧ True := ⟨⟨rfl,rfl⟩,⟨rfl,rfl⟩,⟨rfl,rfl⟩,trivial⟩
theorem Z4{α:Type}{a0 a1 a2 a3:α}{b0 b1 b2 b3:Bool}:(a0 = a0 ∧ b0 = b0) ∧ (a1 = a1 ∧ b1 = b1) ∧ (a2 = a2 ∧ b2 = b2) ∧ (a3 = a3 ∧ b3 = b3) ∧ True := ⟨⟨rfl,rfl⟩,⟨rfl,rfl⟩,⟨rfl,rfl⟩,⟨rfl,rfl⟩,trivial⟩
theorem Z5{α:Type}{a0 a1 a2 a3 a4:α}{b0 b1 b2 b3 b4:Bool}:(a0 = a0 ∧ b0 = b0) ∧ (a1 = a1 ∧ b1 = b1) ∧ (a2 = a2 ∧ b2 = b2) ∧ (a3 = a3 ∧ b3 = b3) ∧ (a4 = a4 ∧ b4 = b4) ∧ True := ⟨⟨rfl,rfl⟩,⟨rfl,rfl⟩,⟨rfl,rfl⟩,⟨rfl,rfl⟩,⟨rfl,rfl⟩,trivial⟩
theorem Z6{α:Type}{a0 a1 a2 a3 a4 a5:α}{b0 b1 b2 b3 b4 b5:Bool}:(a0 = a0 ∧ b0 = b0) ∧ (a1 = a1 ∧ b1 = b1) ∧ (a2 = a2 ∧ b2 = b2) ∧ (a3 = a3 ∧ b3 = b3) ∧ (a4 = a4 ∧ b4 = b4) ∧ (a5 = a5 ∧ b5 = b5) ∧ True := ⟨⟨rfl,rfl⟩,⟨rfl,rfl⟩,⟨rfl,rfl⟩,⟨rfl,rfl⟩,⟨rfl,rfl⟩,⟨rfl,rfl⟩,trivial⟩
theorem Z7{α:Type}{a0 a1 a2 a3 a4 a5 a6:α}{b0 b1 b2 b3 b4 b5 b6:Bool}:(a0 = a0 ∧ b0 = b0) ∧ (a1 = a1 ∧ b1 = b1) ∧ (a2 = a2 ∧ b2 = b2) ∧ (a3 = a3 ∧ b3 = b3) ∧ (a4 = a4 ∧ b4 = b4) ∧ (a5 = a5 ∧ b5 = b5) ∧ (a6 = a6 ∧ b6 = b6) ∧ True := ⟨⟨rfl,rfl⟩,⟨rfl,rfl⟩,⟨rfl,rfl⟩,⟨rfl,rfl⟩,⟨rfl,rfl⟩,⟨rfl,rfl⟩,⟨rfl,rfl⟩,trivial⟩
theorem Z8{α:Type}{a0 a1 a2 a3 a4 a5 a6 a7:α}{b0 b1 b2 b3 b4 b5 b6 b7:Bool}:(a0 = a0 ∧ b0 = b0) ∧ (a1 = a1 ∧ b1 = b1) ∧ (a2 = a2 ∧ b2 = b2) ∧ (a3 = a3 ∧ b3 = b3) ∧ (a4 = a4 ∧ b4 = b4) ∧ (a5 = a5 ∧ b5 = b5) ∧ (a6 = a6 ∧ b6 = b6) ∧ (a7 = a7 ∧ b7 = b7) ∧ True := ⟨⟨rfl,rfl⟩,⟨rfl,rfl⟩,⟨rfl,rfl⟩,⟨rfl,rfl⟩,⟨rfl,rfl⟩,⟨rfl,rfl⟩,⟨rfl,rfl⟩,⟨rfl,rfl⟩,trivial⟩
theorem Z9{α:Type}{a0 a1 a2 a3 a4 a5 a6 a7 a8:α}{b0 b1 b2 b3 b4 b5 b6 b7 b8:Bool}:(a0 = a0 ∧ b0 = b0) ∧ (a1 = a1 ∧ b1 = b1) ∧ (a2 = a2 ∧ b2 = b2) ∧ (a3 = a3 ∧ b3 = b3) ∧ (a4 = a4 ∧ b4 = b4) ∧ (a5 = a5 ∧ b5 = b5) ∧ (a6 = a6 ∧ b6 = b6) ∧ (a7 = a7 ∧ b7 = b7) ∧ (a8 = a8 ∧ b8 = b8) ∧ True := ⟨⟨rfl,rfl⟩,⟨rfl,rfl⟩,⟨rfl,rfl⟩,⟨rfl,rfl⟩,⟨rfl,rfl⟩,⟨rfl,rfl⟩,⟨rfl,rfl⟩,⟨rfl,rfl⟩,⟨rfl,rfl⟩,trivial⟩
theorem Z10{α:Type}{a0 a1 a2 a3 a4 a5 a6 a7 a8 a9:α}{b0 b1 b2 b3 b4 b5 b6 b7 b8 b9:Bool}:(a0 = a0 ∧ b0 = b0) ∧ (a1 = a1 ∧ b1 = b1) ∧ (a2 = a2 ∧ b2 = b2) ∧ (a3 = a3 ∧ b3 = b3) ∧ (a4 = a4 ∧ b4 = b4) ∧ (a5 = a5 ∧ b5 = b5) ∧ (a6 = a6 ∧ b6 = b6) ∧ (a7 = a7 ∧ b7 = b7) ∧ (a8 = a8 ∧ b8 = b8) ∧ (a9 = a9 ∧ b9 = b9) ∧ True := ⟨⟨rfl,rfl⟩,⟨rfl,rfl⟩,⟨rfl,rfl⟩,⟨rfl,rfl⟩,⟨rfl,rfl⟩,⟨rfl,rfl⟩,⟨rfl,rfl⟩,⟨rfl,rfl⟩,⟨rfl,rfl⟩,⟨rfl,rfl⟩,trivial⟩
theorem Z11{α:Type}{a0 a1 a2 a3 a4 a5 a6 a7 a8 a9 WH:α}{b0 b1 b2 b3 b4 b5 b6 b7 b8 b9 Yh:Bool}:(a0 = a0 ∧ b0 = b0) ∧ (a1 = a1 ∧ b1 = b1) ∧ (a2 = a2 ∧ b2 = b2) ∧ (a3 = a3 ∧ b3 = b3) ∧ (a4 = a4 ∧ b4 = b4) ∧ (a5 = a5 ∧ b5 = b5) ∧ (a6 = a6 ∧ b6 = b6) ∧ (a7 = a7 ∧ b7 = b7) ∧ (a8 = a8 ∧ b8 = b8) ∧ (a9 = a9 ∧ b9 = b9) ∧ (WH = WH ∧ Yh = Yh) ∧ True := ⟨⟨rfl,rfl⟩,⟨rfl,rfl⟩,⟨rfl,rfl⟩,⟨rfl,rfl⟩,⟨rfl,rfl⟩,⟨rfl,rfl⟩,⟨rfl,rfl⟩,⟨rfl,rfl⟩,⟨rfl,rfl⟩,⟨rfl,rfl⟩,⟨rfl,rfl⟩,trivial⟩
theorem Z12{α:Type}{a0 a1 a2 a3 a4 a5 a6 a7 a8 a9 WH ZH:α}{b0 b1 b2 b3 b4 b5 b6 b7 b8 b9 Yh mo:Bool}:(a0 = a0 ∧ b0 = b0) ∧ (a1 = a1 ∧ b1 = b1) ∧ (a2 = a2 ∧ b2 = b2) ∧ (a3 = a3 ∧ b3 = b3) ∧ (a4 = a4 ∧ b4 = b4) ∧ (a5 = a5 ∧ b5 = b5) ∧ (a6 = a6 ∧ b6 = b6) ∧ (a7 = a7 ∧ b7 = b7) ∧ (a8 = a8 ∧ b8 = b8) ∧ (a9 = a9 ∧ b9 = b9) ∧ (WH = WH ∧ Yh = Yh) ∧ (ZH = ZH ∧ mo = mo) ∧ True := ⟨⟨rfl,rfl⟩,⟨rfl,rfl⟩,⟨rfl,rfl⟩,⟨rfl,rfl⟩,⟨rfl,rfl⟩,⟨rfl,rfl⟩,⟨rfl,rfl⟩,⟨rfl,rfl⟩,⟨rfl,rfl⟩,⟨rfl,rfl⟩,⟨rfl,rfl⟩,⟨rfl,rfl⟩,trivial⟩
theorem Z13{α:Type}{a0 a1 a2 a3 a4 a5 a6 a7 a8 a9 WH ZH a12:α}{b0 b1 b2 b3 b4 b5 b6 b7 b8 b9 Yh mo rJ:Bool}:(a0 = a0 ∧ b0 = b0) ∧ (a1 = a1 ∧ b1 = b1) ∧ (a2 = a2 ∧ b2 = b2) ∧ (a3 = a3 ∧ b3 = b3) ∧ (a4 = a4 ∧ b4 = b4) ∧ (a5 = a5 ∧ b5 = b5) ∧ (a6 = a6 ∧ b6 = b6) ∧ (a7 = a7 ∧ b7 = b7) ∧ (a8 = a8 ∧ b8 = b8) ∧ (a9 = a9 ∧ b9 = b9) ∧ (WH = WH ∧ Yh = Yh) ∧ (ZH = ZH ∧ mo = mo) ∧ (a12 = a12 ∧ rJ = rJ) ∧ True := ⟨⟨rfl,rfl⟩,⟨rfl,rfl⟩,⟨rfl,rfl⟩,⟨rfl,rfl⟩,⟨rfl,rfl⟩,⟨rfl,rfl⟩,⟨rfl,rfl⟩,⟨rfl,rfl⟩,⟨rfl,rfl⟩,⟨rfl,rfl⟩,⟨rfl,rfl⟩,⟨rfl,rfl⟩,⟨rfl,rfl⟩,trivial⟩
theorem Nn(i:Nat):(0:Int) ≤ (i:Int) := NU i
abbrev Ic(x:List Rl)(ifs:List (List AV)):List AV := [sl Ah x,.slice .none ifs]
theorem Ps{f:Nat}{fn:Func}{c:Code}{args:List AV}{res:AV}(pl:TM)(hf:Tryz.prog.funcs[f]? = some fn)(hb:fn.body = some c)(hN:args.length ≤ fn.ntmps)(hk:QT (dn pl) c (mK (dn pl) fn.results.toList fun r => Hm r res) ⟨Od args,Ab⟩)
    (hn : (fn.name == "runtime.NumGoroutine") = false := by kernel_rfl) (hc : Et fn.ntmps c = true := by kernel_rfl) : LD Tryz.prog f args res := FZ (dn pl) rfl CL hm rfl hf hn hb hN hc hk
theorem Lm{α β:Type}(f:α → β){l:List α}:(l.map f).length = l.length := Bb f
theorem Ge{α:Type}{l:List α}{i:Nat}(h:i<l.length):l[i]? = some l[i] := Ay h
end Go.Eng
namespace Go.Proofs
open Go.Shelf
def Tryz.layPdqSpan_ren:Go.Shelf.Ren:=⟨fun | 14=>223 | 20=>246 | 21=>247 | 22=>248 | 23=>249 | 24=>250 | 25=>251 | 26=>252 | 27=>253 | 46=>265 | 47=>207 | 48=>208 | 49=>266 | 50=>267 | 15=>130 | 57=>280 | 28=>170 | 29=>171 | n=>n,fun | 24=>62 | 22=>63 | 3=>3 | 25=>236 | 4=>4 | 0=>0 | 46=>214 | 45=>213 | 50=>133 | 66=>248 | 39=>185 | 55=>222 | 70=>252 | 76=>270 | 77=>271 | 53=>220 | 5=>5 | 9=>9 | n=>n,fun | n=>n⟩
theorem Tryz.layPdqSpan:Go.Proofs.SlLaysF0.n14 Tryz.prog Tryz.layPdqSpan_ren:={
 mixed:=by kernel_rfl
 f14:=⟨Tryz.f223.name,by decide,Tryz.func223.trans (congrArg some (by kernel_rfl))⟩
 f15:=Tryz.func130.trans (congrArg some (by kernel_rfl))
 f20:=⟨Tryz.f246.name,by decide,Tryz.func246.trans (congrArg some (by kernel_rfl))⟩
 f21:=⟨Tryz.f247.name,by decide,Tryz.func247.trans (congrArg some (by kernel_rfl))⟩
 f22:=⟨Tryz.f248.name,by decide,Tryz.func248.trans (congrArg some (by kernel_rfl))⟩
 f23:=⟨Tryz.f249.name,by decide,Tryz.func249.trans (congrArg some (by kernel_rfl))⟩
 f24:=⟨Tryz.f250.name,by decide,Tryz.func250.trans (congrArg some (by kernel_rfl))⟩
 f25:=⟨Tryz.f251.name,by decide,Tryz.func251.trans (congrArg some (by kernel_rfl))⟩
 f26:=⟨Tryz.f252.name,by decide,Tryz.func252.trans (congrArg some (by kernel_rfl))⟩
 f27:=⟨Tryz.f253.name,by decide,Tryz.func253.trans (congrArg some (by kernel_rfl))⟩
 f28:=Tryz.func170.trans (congrArg some (by kernel_rfl))
 f29:=Tryz.func171.trans (congrArg some (by kernel_rfl))
 f46:=⟨Tryz.f265.name,by decide,Tryz.func265.trans (congrArg some (by kernel_rfl))⟩
 f47:=Tryz.func207.trans (congrArg some (by kernel_rfl))
 f48:=Tryz.func208.trans (congrArg some (by kernel_rfl))
 f49:=⟨Tryz.f266.name,by decide,Tryz.func266.trans (congrArg some (by kernel_rfl))⟩
 f50:=⟨Tryz.f267.name,by decide,Tryz.func267.trans (congrArg some (by kernel_rfl))⟩
 f57:=⟨Tryz.f280.name,by decide,Tryz.func280.trans (congrArg some (by kernel_rfl))⟩
 t0:=Tryz.underlying0
 a0:=Tryz.isAgg0
 z0:=Tryz.sizeOf0
 v0:=Tryz.zeroValue0
 t3:=Tryz.underlying3
 a3:=Tryz.isAgg3
 z3:=Tryz.sizeOf3
 v3:=Tryz.zeroValue3
 t4:=Tryz.underlying4
 a4:=Tryz.isAgg4
 z4:=Tryz.sizeOf4
 v4:=Tryz.zeroValue4
 t5:=Tryz.underlying5
 a5:=Tryz.isAgg5
 z5:=Tryz.sizeOf5
 v5:=Tryz.zeroValue5
 t9:=Tryz.underlying9
 a9:=Tryz.isAgg9
 z9:=Tryz.sizeOf9
 v9:=Tryz.zeroValue9
 t22:=Tryz.underlying63
 a22:=Tryz.isAgg63
 z22:=Tryz.sizeOf63
 v22:=Tryz.zeroValue63
 t25:=Tryz.underlying236
 a25:=Tryz.isAgg236
 z25:=Tryz.sizeOf236
 v25:=Tryz.zeroValue236
 t39:=Tryz.underlying185
 a39:=Tryz.isAgg185
 z39:=Tryz.sizeOf185
 v39:=Tryz.zeroValue185
 t45:=Tryz.underlying213
 a45:=Tryz.isAgg213
 z45:=Tryz.sizeOf213
 v45:=Tryz.zeroValue213
 t46:=Tryz.underlying214
 a46:=Tryz.isAgg214
 z46:=Tryz.sizeOf214
 v46:=Tryz.zeroValue214
 t50:=Tryz.underlying133
 a50:=Tryz.isAgg133
 z50:=Tryz.sizeOf133
 v50:=Tryz.zeroValue133
 t53:=Tryz.underlying220
 a53:=Tryz.isAgg220
 z53:=Tryz.sizeOf220
 v53:=Tryz.zeroValue220
 t55:=Tryz.underlying222
 a55:=Tryz.isAgg222
 z55:=Tryz.sizeOf222
 v55:=Tryz.zeroValue222
 t66:=Tryz.underlying248
 a66:=Tryz.isAgg248
 z66:=Tryz.sizeOf248
 v66:=Tryz.zeroValue248
 t70:=Tryz.underlying252
 a70:=Tryz.isAgg252
 z70:=Tryz.sizeOf252
 v70:=Tryz.zeroValue252
 t76:=Tryz.underlying270
 a76:=Tryz.isAgg270
 z76:=Tryz.sizeOf270
 v76:=Tryz.zeroValue270
 t77:=Tryz.underlying271
 a77:=Tryz.isAgg271
 z77:=Tryz.sizeOf271
 v77:=Tryz.zeroValue271 }
def Tryz.layPdqTerm_ren:Go.Shelf.Ren:=⟨fun | 14=>257 | 20=>270 | 21=>271 | 22=>272 | 23=>273 | 24=>274 | 25=>275 | 26=>276 | 27=>277 | 46=>290 | 47=>207 | 48=>208 | 49=>291 | 50=>292 | 15=>130 | 57=>296 | 28=>170 | 29=>171 | n=>n,fun | 24=>207 | 22=>178 | 3=>3 | 25=>268 | 4=>4 | 0=>0 | 46=>214 | 45=>213 | 50=>133 | 66=>248 | 39=>185 | 55=>222 | 70=>252 | 76=>270 | 77=>271 | 53=>220 | 5=>5 | 9=>9 | n=>n,fun | n=>n⟩
theorem Tryz.layPdqTerm:Go.Proofs.SlLaysF0.n14 Tryz.prog Tryz.layPdqTerm_ren:={
 mixed:=by kernel_rfl
 f14:=⟨Tryz.f257.name,by decide,Tryz.func257.trans (congrArg some (by kernel_rfl))⟩
 f15:=Tryz.func130.trans (congrArg some (by kernel_rfl))
 f20:=⟨Tryz.f270.name,by decide,Tryz.func270.trans (congrArg some (by kernel_rfl))⟩
 f21:=⟨Tryz.f271.name,by decide,Tryz.func271.trans (congrArg some (by kernel_rfl))⟩
 f22:=⟨Tryz.f272.name,by decide,Tryz.func272.trans (congrArg some (by kernel_rfl))⟩
 f23:=⟨Tryz.f273.name,by decide,Tryz.func273.trans (congrArg some (by kernel_rfl))⟩
 f24:=⟨Tryz.f274.name,by decide,Tryz.func274.trans (congrArg some (by kernel_rfl))⟩
 f25:=⟨Tryz.f275.name,by decide,Tryz.func275.trans (congrArg some (by kernel_rfl))⟩
 f26:=⟨Tryz.f276.name,by decide,Tryz.func276.trans (congrArg some (by kernel_rfl))⟩
 f27:=⟨Tryz.f277.name,by decide,Tryz.func277.trans (congrArg some (by kernel_rfl))⟩
 f28:=Tryz.func170.trans (congrArg some (by kernel_rfl))
 f29:=Tryz.func171.trans (congrArg some (by kernel_rfl))
 f46:=⟨Tryz.f290.name,by decide,Tryz.func290.trans (congrArg some (by kernel_rfl))⟩
 f47:=Tryz.func207.trans (congrArg some (by kernel_rfl))
 f48:=Tryz.func208.trans (congrArg some (by kernel_rfl))
 f49:=⟨Tryz.f291.name,by decide,Tryz.func291.trans (congrArg some (by kernel_rfl))⟩
 f50:=⟨Tryz.f292.name,by decide,Tryz.func292.trans (congrArg some (by kernel_rfl))⟩
 f57:=⟨Tryz.f296.name,by decide,Tryz.func296.trans (congrArg some (by kernel_rfl))⟩
 t0:=Tryz.underlying0
 a0:=Tryz.isAgg0
 z0:=Tryz.sizeOf0
 v0:=Tryz.zeroValue0
 t3:=Tryz.underlying3
 a3:=Tryz.isAgg3
 z3:=Tryz.sizeOf3
 v3:=Tryz.zeroValue3
 t4:=Tryz.underlying4
 a4:=Tryz.isAgg4
 z4:=Tryz.sizeOf4
 v4:=Tryz.zeroValue4
 t5:=Tryz.underlying5
 a5:=Tryz.isAgg5
 z5:=Tryz.sizeOf5
 v5:=Tryz.zeroValue5
 t9:=Tryz.underlying9
 a9:=Tryz.isAgg9
 z9:=Tryz.sizeOf9
 v9:=Tryz.zeroValue9
 t22:=Tryz.underlying178
 a22:=Tryz.isAgg178
 z22:=Tryz.sizeOf178
 v22:=Tryz.zeroValue178
 t25:=Tryz.underlying268
 a25:=Tryz.isAgg268
 z25:=Tryz.sizeOf268
 v25:=Tryz.zeroValue268
 t39:=Tryz.underlying185
 a39:=Tryz.isAgg185
 z39:=Tryz.sizeOf185
 v39:=Tryz.zeroValue185
 t45:=Tryz.underlying213
 a45:=Tryz.isAgg213
 z45:=Tryz.sizeOf213
 v45:=Tryz.zeroValue213
 t46:=Tryz.underlying214
 a46:=Tryz.isAgg214
 z46:=Tryz.sizeOf214
 v46:=Tryz.zeroValue214
 t50:=Tryz.underlying133
 a50:=Tryz.isAgg133
 z50:=Tryz.sizeOf133
 v50:=Tryz.zeroValue133
 t53:=Tryz.underlying220
 a53:=Tryz.isAgg220
 z53:=Tryz.sizeOf220
 v53:=Tryz.zeroValue220
 t55:=Tryz.underlying222
 a55:=Tryz.isAgg222
 z55:=Tryz.sizeOf222
 v55:=Tryz.zeroValue222
 t66:=Tryz.underlying248
 a66:=Tryz.isAgg248
 z66:=Tryz.sizeOf248
 v66:=Tryz.zeroValue248
 t70:=Tryz.underlying252
 a70:=Tryz.isAgg252
 z70:=Tryz.sizeOf252
 v70:=Tryz.zeroValue252
 t76:=Tryz.underlying270
 a76:=Tryz.isAgg270
 z76:=Tryz.sizeOf270
 v76:=Tryz.zeroValue270
 t77:=Tryz.underlying271
 a77:=Tryz.isAgg271
 z77:=Tryz.sizeOf271
 v77:=Tryz.zeroValue271 }
def Tryz.layPdqSel_ren:Go.Shelf.Ren:=⟨fun | 14=>129 | 20=>162 | 21=>163 | 22=>164 | 23=>165 | 24=>166 | 25=>167 | 26=>168 | 27=>169 | 46=>206 | 47=>207 | 48=>208 | 49=>209 | 50=>210 | 15=>130 | 57=>238 | 28=>170 | 29=>171 | n=>n,fun | 24=>51 | 22=>26 | 3=>3 | 25=>91 | 4=>4 | 0=>0 | 46=>214 | 45=>213 | 50=>133 | 66=>248 | 39=>185 | 55=>222 | 70=>252 | 76=>270 | 77=>271 | 53=>220 | 5=>5 | 9=>9 | n=>n,fun | n=>n⟩
theorem Tryz.layPdqSel:Go.Proofs.SlLaysF0.n14 Tryz.prog Tryz.layPdqSel_ren:={
 mixed:=by kernel_rfl
 f14:=⟨Tryz.f129.name,by decide,Tryz.func129.trans (congrArg some (by kernel_rfl))⟩
 f15:=Tryz.func130.trans (congrArg some (by kernel_rfl))
 f20:=⟨Tryz.f162.name,by decide,Tryz.func162.trans (congrArg some (by kernel_rfl))⟩
 f21:=⟨Tryz.f163.name,by decide,Tryz.func163.trans (congrArg some (by kernel_rfl))⟩
 f22:=⟨Tryz.f164.name,by decide,Tryz.func164.trans (congrArg some (by kernel_rfl))⟩
 f23:=⟨Tryz.f165.name,by decide,Tryz.func165.trans (congrArg some (by kernel_rfl))⟩
 f24:=⟨Tryz.f166.name,by decide,Tryz.func166.trans (congrArg some (by kernel_rfl))⟩
 f25:=⟨Tryz.f167.name,by decide,Tryz.func167.trans (congrArg some (by kernel_rfl))⟩
 f26:=⟨Tryz.f168.name,by decide,Tryz.func168.trans (congrArg some (by kernel_rfl))⟩
 f27:=⟨Tryz.f169.name,by decide,Tryz.func169.trans (congrArg some (by kernel_rfl))⟩
 f28:=Tryz.func170.trans (congrArg some (by kernel_rfl))
 f29:=Tryz.func171.trans (congrArg some (by kernel_rfl))
 f46:=⟨Tryz.f206.name,by decide,Tryz.func206.trans (congrArg some (by kernel_rfl))⟩
 f47:=Tryz.func207.trans (congrArg some (by kernel_rfl))
 f48:=Tryz.func208.trans (congrArg some (by kernel_rfl))
 f49:=⟨Tryz.f209.name,by decide,Tryz.func209.trans (congrArg some (by kernel_rfl))⟩
 f50:=⟨Tryz.f210.name,by decide,Tryz.func210.trans (congrArg some (by kernel_rfl))⟩
 f57:=⟨Tryz.f238.name,by decide,Tryz.func238.trans (congrArg some (by kernel_rfl))⟩
 t0:=Tryz.underlying0
 a0:=Tryz.isAgg0
 z0:=Tryz.sizeOf0
 v0:=Tryz.zeroValue0
 t3:=Tryz.underlying3
 a3:=Tryz.isAgg3
 z3:=Tryz.sizeOf3
 v3:=Tryz.zeroValue3
 t4:=Tryz.underlying4
 a4:=Tryz.isAgg4
 z4:=Tryz.sizeOf4
 v4:=Tryz.zeroValue4
 t5:=Tryz.underlying5
 a5:=Tryz.isAgg5
 z5:=Tryz.sizeOf5
 v5:=Tryz.zeroValue5
 t9:=Tryz.underlying9
 a9:=Tryz.isAgg9
 z9:=Tryz.sizeOf9
 v9:=Tryz.zeroValue9
 t22:=Tryz.underlying26
 a22:=Tryz.isAgg26
 z22:=Tryz.sizeOf26
 v22:=Tryz.zeroValue26
 t25:=Tryz.underlying91
 a25:=Tryz.isAgg91
 z25:=Tryz.sizeOf91
 v25:=Tryz.zeroValue91
 t39:=Tryz.underlying185
 a39:=Tryz.isAgg185
 z39:=Tryz.sizeOf185
 v39:=Tryz.zeroValue185
 t45:=Tryz.underlying213
 a45:=Tryz.isAgg213
 z45:=Tryz.sizeOf213
 v45:=Tryz.zeroValue213
 t46:=Tryz.underlying214
 a46:=Tryz.isAgg214
 z46:=Tryz.sizeOf214
 v46:=Tryz.zeroValue214
 t50:=Tryz.underlying133
 a50:=Tryz.isAgg133
 z50:=Tryz.sizeOf133
 v50:=Tryz.zeroValue133
 t53:=Tryz.underlying220
 a53:=Tryz.isAgg220
 z53:=Tryz.sizeOf220
 v53:=Tryz.zeroValue220
 t55:=Tryz.underlying222
 a55:=Tryz.isAgg222
 z55:=Tryz.sizeOf222
 v55:=Tryz.zeroValue222
 t66:=Tryz.underlying248
 a66:=Tryz.isAgg248
 z66:=Tryz.sizeOf248
 v66:=Tryz.zeroValue248
 t70:=Tryz.underlying252
 a70:=Tryz.isAgg252
 z70:=Tryz.sizeOf252
 v70:=Tryz.zeroValue252
 t76:=Tryz.underlying270
 a76:=Tryz.isAgg270
 z76:=Tryz.sizeOf270
 v76:=Tryz.zeroValue270
 t77:=Tryz.underlying271
 a77:=Tryz.isAgg271
 z77:=Tryz.sizeOf271
 v77:=Tryz.zeroValue271 }
def Tryz.layCompare_ren:Go.Shelf.Ren:=⟨fun | 106=>100 | 213=>131 | 265=>172 | n=>n,fun | 9=>9 | 3=>3 | n=>n,fun | n=>n⟩
theorem Tryz.layCompare:Go.Proofs.Lays.n106 Tryz.prog Tryz.layCompare_ren:={
 mixed:=by kernel_rfl
 f106:=Tryz.func100.trans (congrArg some (by kernel_rfl))
 f213:=Tryz.func131.trans (congrArg some (by kernel_rfl))
 f265:=Tryz.func172.trans (congrArg some (by kernel_rfl))
 t3:=Tryz.underlying3
 a3:=Tryz.isAgg3
 z3:=Tryz.sizeOf3
 v3:=Tryz.zeroValue3
 t9:=Tryz.underlying9
 a9:=Tryz.isAgg9
 z9:=Tryz.sizeOf9
 v9:=Tryz.zeroValue9 }
def Tryz.layBits_ren:Go.Shelf.Ren:=⟨fun | 125=>130 | 128=>170 | 129=>171 | n=>n,fun | 46=>185 | 3=>3 | 51=>220 | 53=>222 | 4=>4 | 5=>5 | 9=>9 | n=>n,fun | n=>n⟩
theorem Tryz.layBits:Go.Proofs.Lays.n125 Tryz.prog Tryz.layBits_ren:={
 mixed:=by kernel_rfl
 f125:=Tryz.func130.trans (congrArg some (by kernel_rfl))
 f128:=Tryz.func170.trans (congrArg some (by kernel_rfl))
 f129:=Tryz.func171.trans (congrArg some (by kernel_rfl))
 t3:=Tryz.underlying3
 a3:=Tryz.isAgg3
 z3:=Tryz.sizeOf3
 v3:=Tryz.zeroValue3
 t4:=Tryz.underlying4
 a4:=Tryz.isAgg4
 z4:=Tryz.sizeOf4
 v4:=Tryz.zeroValue4
 t5:=Tryz.underlying5
 a5:=Tryz.isAgg5
 z5:=Tryz.sizeOf5
 v5:=Tryz.zeroValue5
 t9:=Tryz.underlying9
 a9:=Tryz.isAgg9
 z9:=Tryz.sizeOf9
 v9:=Tryz.zeroValue9
 t46:=Tryz.underlying185
 a46:=Tryz.isAgg185
 z46:=Tryz.sizeOf185
 v46:=Tryz.zeroValue185
 t51:=Tryz.underlying220
 a51:=Tryz.isAgg220
 z51:=Tryz.sizeOf220
 v51:=Tryz.zeroValue220
 t53:=Tryz.underlying222
 a53:=Tryz.isAgg222
 z53:=Tryz.sizeOf222
 v53:=Tryz.zeroValue222 }
def Tryz.laySortInts_ren:Go.Shelf.Ren:=⟨fun | 189=>255 | 125=>130 | 257=>268 | 128=>170 | 129=>171 | 294=>281 | 295=>282 | 296=>283 | 297=>284 | 298=>285 | 299=>286 | 216=>287 | 300=>288 | 301=>289 | 328=>293 | 329=>207 | 330=>208 | 331=>294 | 332=>295 | 215=>134 | 343=>297 | n=>n,fun | 28=>151 | 3=>3 | 46=>185 | 0=>0 | 51=>220 | 53=>222 | 4=>4 | 183=>214 | 182=>213 | 131=>133 | 5=>5 | 9=>9 | 218=>248 | 222=>252 | 228=>270 | 229=>271 | n=>n,fun | n=>n⟩
theorem Tryz.laySortInts:Go.Proofs.Lays.n189 Tryz.prog Tryz.laySortInts_ren:={
 mixed:=by kernel_rfl
 f125:=Tryz.func130.trans (congrArg some (by kernel_rfl))
 f128:=Tryz.func170.trans (congrArg some (by kernel_rfl))
 f129:=Tryz.func171.trans (congrArg some (by kernel_rfl))
 f189:=Tryz.func255.trans (congrArg some (by kernel_rfl))
 f215:=Tryz.func134.trans (congrArg some (by kernel_rfl))
 f216:=Tryz.func287.trans (congrArg some (by kernel_rfl))
 f257:=Tryz.func268.trans (congrArg some (by kernel_rfl))
 f294:=Tryz.func281.trans (congrArg some (by kernel_rfl))
 f295:=Tryz.func282.trans (congrArg some (by kernel_rfl))
 f296:=Tryz.func283.trans (congrArg some (by kernel_rfl))
 f297:=Tryz.func284.trans (congrArg some (by kernel_rfl))
 f298:=Tryz.func285.trans (congrArg some (by kernel_rfl))
 f299:=Tryz.func286.trans (congrArg some (by kernel_rfl))
 f300:=Tryz.func288.trans (congrArg some (by kernel_rfl))
 f301:=Tryz.func289.trans (congrArg some (by kernel_rfl))
 f328:=Tryz.func293.trans (congrArg some (by kernel_rfl))
 f329:=Tryz.func207.trans (congrArg some (by kernel_rfl))
 f330:=Tryz.func208.trans (congrArg some (by kernel_rfl))
 f331:=Tryz.func294.trans (congrArg some (by kernel_rfl))
 f332:=Tryz.func295.trans (congrArg some (by kernel_rfl))
 f343:=Tryz.func297.trans (congrArg some (by kernel_rfl))
 t0:=Tryz.underlying0
 a0:=Tryz.isAgg0
 z0:=Tryz.sizeOf0
 v0:=Tryz.zeroValue0
 t3:=Tryz.underlying3
 a3:=Tryz.isAgg3
 z3:=Tryz.sizeOf3
 v3:=Tryz.zeroValue3
 t4:=Tryz.underlying4
 a4:=Tryz.isAgg4
 z4:=Tryz.sizeOf4
 v4:=Tryz.zeroValue4
 t5:=Tryz.underlying5
 a5:=Tryz.isAgg5
 z5:=Tryz.sizeOf5
 v5:=Tryz.zeroValue5
 t9:=Tryz.underlying9
 a9:=Tryz.isAgg9
 z9:=Tryz.sizeOf9
 v9:=Tryz.zeroValue9
 t28:=Tryz.underlying151
 a28:=Tryz.isAgg151
 z28:=Tryz.sizeOf151
 v28:=Tryz.zeroValue151
 t46:=Tryz.underlying185
 a46:=Tryz.isAgg185
 z46:=Tryz.sizeOf185
 v46:=Tryz.zeroValue185
 t51:=Tryz.underlying220
 a51:=Tryz.isAgg220
 z51:=Tryz.sizeOf220
 v51:=Tryz.zeroValue220
 t53:=Tryz.underlying222
 a53:=Tryz.isAgg222
 z53:=Tryz.sizeOf222
 v53:=Tryz.zeroValue222
 t131:=Tryz.underlying133
 a131:=Tryz.isAgg133
 z131:=Tryz.sizeOf133
 v131:=Tryz.zeroValue133
 t182:=Tryz.underlying213
 a182:=Tryz.isAgg213
 z182:=Tryz.sizeOf213
 v182:=Tryz.zeroValue213
 t183:=Tryz.underlying214
 a183:=Tryz.isAgg214
 z183:=Tryz.sizeOf214
 v183:=Tryz.zeroValue214
 t218:=Tryz.underlying248
 a218:=Tryz.isAgg248
 z218:=Tryz.sizeOf248
 v218:=Tryz.zeroValue248
 t222:=Tryz.underlying252
 a222:=Tryz.isAgg252
 z222:=Tryz.sizeOf252
 v222:=Tryz.zeroValue252
 t228:=Tryz.underlying270
 a228:=Tryz.isAgg270
 z228:=Tryz.sizeOf270
 v228:=Tryz.zeroValue270
 t229:=Tryz.underlying271
 a229:=Tryz.isAgg271
 z229:=Tryz.sizeOf271
 v229:=Tryz.zeroValue271 }
end Go.Proofs
namespace Go.Proofs
open Go.Shelf Go.RowKit Go.Lib Go.Sort
def SpA:Type:={x:Int×Int // 0≤x.1∧x.1≤1000000}
instance:Inhabited SpA:=⟨⟨(0,0),by decide⟩⟩
def encSpA(x:SpA):List Value:=[.int .i64 x.1.1,.int .i64 x.1.2]
def cfSpA(x y:SpA):Int:=x.1.1-y.1.1
theorem Tryz.closure191(x y:SpA)(W:World):Calls Tryz.prog 191 #[.agg #[.int .i64 x.1.1,.int .i64 x.1.2],.agg #[.int .i64 y.1.1,.int .i64 y.1.2]] W fun e w'=>e=.returned (.int .i64 (cfSpA x y))∧∃q os',w'=grow (W.drewN q) os':=by
 obtain⟨⟨a,b⟩,h1,h2⟩:=x;obtain⟨⟨c,d⟩,h3,h4⟩:=y;dsimp only at h1 h2 h3 h4;have hw:IntKind.i64.wrap (a-c)=a-c:=by simp[IntKind.wrap,IntKind.bits,IntKind.signed];omega
 show Calls Tryz.prog 191 #[.agg #[.int .i64 a,.int .i64 b],.agg #[.int .i64 c,.int .i64 d]] W fun e w'=>e=.returned (.int .i64 (a-c))∧∃q os',w'=grow (W.drewN q) os'
 go_enter Tryz.func191,Tryz.ntmps191
 go_wp2
 go_ret
 exact⟨rfl,0,_,by rw[alloc_eq_grow,alloc_eq_grow,grow_grow];rfl⟩
def TmA:Type:=ByteArray×{v:Value // v.oneCell'=true}×{v:Value // v.oneCell'=true}
instance:Inhabited TmA:=⟨⟨ByteArray.empty,⟨.bool false,rfl⟩,⟨.bool false,rfl⟩⟩⟩
def encTmA(x:TmA):List Value:=[.string x.1,x.2.1.1,x.2.2.1]
def cfTmA(x y:TmA):Int:=Lib.compareBytes x.1.data.toList y.1.data.toList
theorem Tryz.closure236(x y:TmA)(W:World):Calls Tryz.prog 236 #[.agg #[.string x.1,x.2.1.1,x.2.2.1],.agg #[.string y.1,y.2.1.1,y.2.2.1]] W fun e w'=>e=.returned (.int .i64 (cfTmA x y))∧∃q os',w'=grow (W.drewN q) os':=by
 have hcon:=fun W'=>Any.strings_Compare Tryz.layCompare x.1 y.1 W';obtain⟨a,⟨b,hb⟩,⟨c,hc⟩⟩:=x;obtain⟨a',⟨b',mU⟩,⟨c',ov⟩⟩:=y;dsimp only at hcon
 change ∀W',Calls Tryz.prog 100 _ _ _ at hcon
 unfold cfTmA;dsimp only;generalize Lib.compareBytes a.data.toList a'.data.toList=r at hcon⊢
 go_enter Tryz.func236,Tryz.ntmps236
 go_wp2_with (go_at_call 100;refine(hcon _).mono ?_;rintro e w' ⟨rfl,rfl⟩)
 go_ret
 exact⟨rfl,0,_,by rw[alloc_eq_grow,alloc_eq_grow,grow_grow];rfl⟩
end Go.Proofs
namespace Go.Eng
open Go.Proofs
theorem mv(v:Ver):PC 108 [.agg (LL v)] (.agg [vi v.a,vi v.b,vi v.c]):=by
 refine Ps F7 Tryz.func108 rfl (Nz rfl) ?_;exact Yi (Nz rfl) (Yi (Nz rfl) (.refl _))
def part(v:Ver):Nat→Int
 |0=>v.a
 |1=>v.b
 |_=>v.c
theorem Vk{v:Ver}{i:Nat}(h:¬okPart (part v i)):CM v=false:=by
 unfold CM
 match i,h with
 |0,h=>have h:¬okPart v.a:=h;simp[h]
 |1,h=>have h:¬okPart v.b:=h;simp[h]
 |_+2,h=>have h:¬okPart v.c:=h;simp[h]
theorem jk(v:Ver):PC 92 [.agg (LL v)] (vb (CM v)):=by
 refine Ps F7 Tryz.func92 rfl (Nz rfl) ?_;refine Yi (Nz rfl) (Xi .pure (Xi _ (Yi (mv v) ?_)));refine Xi {i:Nat // i≤3∧∀j,j<i→okPart (part v j)} (Xi (fun i=>⟨[(6,.agg [vi v.a,vi v.b,vi v.c]),(7,vi i.1)],[],Ab⟩) (Xi (fun i=>3-i.1) (Yi (Xi ⟨0,by simp⟩ ?_) ?_)))
 ·exact⟨Z2,Tv,Fh,Tv⟩
 ·intro⟨i,h1,h2⟩;refine Yi ?_ ?_
  ·intro h;have h:(i:Int)<3:=h;refine Yi ⟨by show(0:Int)≤i;omega,by show(i:Int)<3;omega⟩ ?_;have hp:LW (([vi v.a,vi v.b,vi v.c]).drop ((i:Int).toNat*1))=fun K=>K (vi (part v i)):=by
    match i,h with
    |0,_=>rfl
    |1,_=>rfl
    |2,_=>rfl
    |_+3,h=>omega
   show LW (([vi v.a,vi v.b,vi v.c]).drop ((i:Int).toNat*1)) _;rw[hp];refine Yi ?_ ?_
   ·intro h3;have h3:part v i<0:=h3;rw[Vk (i:=i) (by unfold okPart;omega)];exact .refl _
   ·intro h3;have h3:¬part v i<0:=h3;refine Yi ?_ ?_
    ·intro h4;have h4:(999:Int)<part v i:=h4;rw[Vk (i:=i) (by unfold okPart;omega)];exact .refl _
    ·intro h4;have h4:¬(999:Int)<part v i:=h4;refine Yi (Ii i (by omega)) ?_;refine Xi ⟨i+1,by omega,fun j hj=>?_⟩ ?_
     ·by_cases e:j=i
      ·subst e;exact⟨by omega,by omega⟩
      ·exact h2 j (by omega)
     ·exact⟨Dl 3 i (by omega),Z2,Tv,Fh,Tv⟩
  ·intro h;have h:¬(i:Int)<3:=h;have e:i=3:=by omega
   have q:CM v=true:=by
    unfold CM;have a:=h2 0 (by omega);have b:=h2 1 (by omega);have c:=h2 2 (by omega);simp only[part]at a b c;simp[a,b,c]
   rw[q];exact .refl _
theorem rM(v:Ver):PC 117 [.agg (LL v)] (.tup [vi (if CM v then place v else 0),vi (if CM v then 0 else 2)]):=by
 refine Ps F7 Tryz.func117 rfl (Nz rfl) ?_;refine Yi (Nz rfl) (Xi .pure (Xi _ (Yi (jk v) ?_)));cases h:CM v with
 |false=>exact .refl _
 |true =>
  have hv:=JR h;refine Yi (by show BY (1000*v.b);unfold BY;omega) ?_;exact Yi (by show BY (1000*v.b+v.c);unfold BY;omega) (.refl _)
def Es(caps:List AV):Prop:=∀c∈caps,∀h,str0 h c=c
theorem Es.map{caps:List AV}(hs:Es caps)(h:Nat→HO):caps.map (str0 h)=caps:=by
 conv=>rhs;rw[←JA caps]
 exact Bf fun c hc=>hs c hc h
theorem Es.ids{caps:List AV}(hs:Es caps)(h:Nat→HO):Xx h caps=true:=by
 induction caps with
 |nil=>rfl
 |cons c r ih =>
  have hc:=hs c (Aa ..) Ab;have h0:ids0 h c=true:=by
   cases c with
   |slice tk es=>cases tk with |none=>rfl |full sz=>simp[str0]at hc |id r sz=>simp[str0]at hc |ver r sz v=>simp[str0]at hc
   |_=>first |rfl |(simp[str0,Ab]at hc)
  unfold Xx;rw[h0];exact ih fun c hc=>hs c (Af _ hc)
def Hy{α:Type}(p:α→Bool):List α→Int→Int
 | [],_=>-1
 |x::r,i=>if p x then i else Hy p r (i+1)
theorem IB{α:Type}{p:α→Bool}:∀{l:List α} {i:Nat} {k:Int} (hi:i<l.length),(∀j (hj:j<l.length),j<i→p l[j]=false)→p l[i]=true→Hy p l k=k+i
 |x::r,0,k,_,_,h=>by
  have h:p x=true:=h;simp[Hy,h]
 |x::r,i+1,k,hi,hb,h=>by
  have h0:p x=false:=hb 0 (by simp) (by omega)
  have:=IB (l:=r) (i:=i) (k:=k+1) (by simpa using hi) (fun j hj HL=>hb (j+1) (by simpa using hj) (by omega)) (by simpa using h)
  simp only[Hy,h0,Dk,Gg,this];omega
theorem FU{α:Type}{p:α→Bool}:∀{l:List α} {k:Int},(∀j (hj:j<l.length),p l[j]=false)→Hy p l k=-1
 | [],_,_=>rfl
 |x::r,k,h=>by
  have h0:p x=false:=h 0 (by simp);simp only[Hy,h0,Dk,Gg];exact FU fun j hj=>h (j+1) (by simpa using hj)
theorem JJ{α:Type}{p:α→Bool}:∀(l:List α) (k:Int),0≤k→decide (0≤Hy p l k)=l.any p
 | [],k,_=>by simp[Hy]
 |x::r,k,hk=>by
  unfold Hy;cases h:p x with
  |true=>simp[h,hk]
  |false=>simp[h,JJ r (k+1) (by omega)]
-- one for each type of elements
theorem ta{fF:Nat}{caps:List AV}(hs:Es caps)(l:List (Int×Int))(p:Int×Int→Bool)(hF:∀x∈l,PC fF ([.agg (Aq x)]++caps) (vb (p x)))(hl:l.length<9223372036854775807) :
  PC 195 [sl Aq l,.clo fF caps] (vi (Hy p l 0)):=by
 refine Ps F7 Tryz.func195 rfl (Nz rfl) ?_;refine Xi {i:Nat // i≤l.length∧∀j (hj:j<l.length),j<i→p l[j]=false} (Xi (fun i=>⟨[(0,sl Aq l),(1,.clo fF caps),(7,vi (l.map Aq).length),(8,vi i.1)],[],Ab⟩) (Xi (fun i=>l.length-i.1) (Yi (Xi ⟨0,by simp⟩ ?_) ?_)))
 ·exact⟨⟨Zr,⟨rfl,hs.ids _⟩,Zr,Zr,Tv⟩,Tv,Fh,Tv⟩
 ·intro⟨i,h1,h2⟩;refine Yi ?_ ?_
  ·intro h;have h:(i:Int)<(l.map Aq).length:=h;have h:i<l.length:=by simpa using h
   have hg:l[i]?=some l[i]:=Ge h;refine Xi (Aq l[i]) (Yi (Yi (Nn i) (by simp[hg])) (Yi rfl (Yi (Nz rfl) ?_)));have Dg:∀h,PC fF ([.agg (Aq l[i])]++caps.map (str0 h)) (vb (p l[i])):=fun h=>by rw[hs.map];exact hF l[i] (Ao _)
   cases hp:p l[i]with
   |true =>
    rw[hp]at Dg;refine Xi .pure (Xi (vb true) (Yi (Dg _) ?_));rw[IB h (fun j hj HL=>h2 j hj HL) hp,EE];exact .refl _
   |false =>
    rw[hp]at Dg;refine Xi .pure (Xi (vb false) (Yi (Dg _) ?_));refine Yi (Ii i (by omega)) ?_;refine Xi ⟨i+1,by omega,fun j hj HL=>?_⟩ ?_
    ·by_cases e:j=i
     ·subst e;exact hp
     ·exact h2 j hj (by omega)
    ·exact⟨Dl l.length i (by omega),⟨Zr,⟨rfl,hs.ids _⟩,Zr,Zr,Tv⟩,Tv,Fh,Tv⟩
  ·intro h;have h:¬(i:Int)<(l.map Aq).length:=h;have h:¬i<l.length:=by simpa using h
   rw[FU fun j hj=>h2 j hj (by omega)];exact .refl _
abbrev Cn{α:Type}(l:List α):Prop:=l.length≤1073741824
theorem Ez{α:Type}{enc:α→List AV}{n:Nat}(h:∀x,(enc x).length=n):∀l:List α,Dp n (l.map enc)
 | []=>trivial
 |x::l=>⟨h x,Ez h l⟩
theorem Rg{x y:Int×Int}:li (Aq x) (Aq y)↔x=y:=by
 constructor
 ·intro h;have h:x.1=y.1∧x.2=y.2∧True:=h;exact Prod.ext h.1 h.2.1
 ·rintro rfl;exact⟨rfl,rfl,trivial⟩
abbrev Ca(l:List Tm):List AV:=[sl AF l]
abbrev DL(s:ByteArray):List AV:=[vs s]
theorem wM{fF:Nat}{caps:List AV}(hs:Es caps)(l:List (Sl))(p:Sl→Bool)(hF:∀x∈l,PC fF ([.agg (Ae x)]++caps) (vb (p x)))(hl:l.length<9223372036854775807) :
  PC 70 [sl Ae l,.clo fF caps] (vi (Hy p l 0)):=by
 refine FZ (dn F7) rfl CL hm rfl Tryz.func70 (by kernel_rfl) rfl (Nz rfl) (by kernel_rfl) ?_;refine Xi {i:Nat // i≤l.length∧∀j (hj:j<l.length),j<i→p l[j]=false} (Xi (fun i=>⟨[(0,sl Ae l),(1,.clo fF caps),(7,vi (l.map Ae).length),(8,vi i.1)],[],Ab⟩) (Xi (fun i=>l.length-i.1) (Yi (Xi ⟨0,by simp⟩ ?_) ?_)))
 ·exact⟨⟨Zr,⟨rfl,hs.ids _⟩,Zr,Zr,Tv⟩,Tv,Fh,Tv⟩
 ·intro⟨i,h1,h2⟩;refine Yi ?_ ?_
  ·intro h;have h:(i:Int)<(l.map Ae).length:=h;have h:i<l.length:=by simpa using h
   have hg:l[i]?=some l[i]:=Ge h;refine Xi (Ae l[i]) (Yi (Yi (by show(0:Int)≤i;omega) (by simp[hg])) (Yi rfl (Yi (Nz rfl) ?_)));have Dg:∀h,PC fF ([.agg (Ae l[i])]++caps.map (str0 h)) (vb (p l[i])):=fun h=>by rw[hs.map];exact hF l[i] (Ao _)
   cases hp:p l[i]with
   |true =>
    rw[hp]at Dg;refine Xi .pure (Xi (vb true) (Yi (Dg _) ?_));rw[IB h (fun j hj HL=>h2 j hj HL) hp,EE];exact .refl _
   |false =>
    rw[hp]at Dg;refine Xi .pure (Xi (vb false) (Yi (Dg _) ?_));refine Yi (Ii i (by omega)) ?_;refine Xi ⟨i+1,by omega,fun j hj HL=>?_⟩ ?_
    ·by_cases e:j=i
     ·subst e;exact hp
     ·exact h2 j hj (by omega)
    ·exact⟨Dl l.length i (by omega),⟨Zr,⟨rfl,hs.ids _⟩,Zr,Zr,Tv⟩,Tv,Fh,Tv⟩
  ·intro h;have h:¬(i:Int)<(l.map Ae).length:=h;have h:¬i<l.length:=by simpa using h
   rw[FU fun j hj=>h2 j hj (by omega)];exact .refl _
theorem jm{fF:Nat}{caps:List AV}(hs:Es caps)(l:List (Tm))(p:Tm→Bool)(hF:∀x∈l,PC fF ([.agg (AF x)]++caps) (vb (p x)))(hl:l.length<9223372036854775807) :
  PC 201 [sl AF l,.clo fF caps] (vi (Hy p l 0)):=by
 refine FZ (dn F7) rfl CL hm rfl Tryz.func201 (by kernel_rfl) rfl (Nz rfl) (by kernel_rfl) ?_;refine Xi {i:Nat // i≤l.length∧∀j (hj:j<l.length),j<i→p l[j]=false} (Xi (fun i=>⟨[(0,sl AF l),(1,.clo fF caps),(7,vi (l.map AF).length),(8,vi i.1)],[],Ab⟩) (Xi (fun i=>l.length-i.1) (Yi (Xi ⟨0,by simp⟩ ?_) ?_)))
 ·exact⟨⟨Zr,⟨rfl,hs.ids _⟩,Zr,Zr,Tv⟩,Tv,Fh,Tv⟩
 ·intro⟨i,h1,h2⟩;refine Yi ?_ ?_
  ·intro h;have h:(i:Int)<(l.map AF).length:=h;have h:i<l.length:=by simpa using h
   have hg:l[i]?=some l[i]:=Ge h;refine Xi (AF l[i]) (Yi (Yi (by show(0:Int)≤i;omega) (by simp[hg])) (Yi rfl (Yi (Nz rfl) ?_)));have Dg:∀h,PC fF ([.agg (AF l[i])]++caps.map (str0 h)) (vb (p l[i])):=fun h=>by rw[hs.map];exact hF l[i] (Ao _)
   cases hp:p l[i]with
   |true =>
    rw[hp]at Dg;refine Xi .pure (Xi (vb true) (Yi (Dg _) ?_));rw[IB h (fun j hj HL=>h2 j hj HL) hp,EE];exact .refl _
   |false =>
    rw[hp]at Dg;refine Xi .pure (Xi (vb false) (Yi (Dg _) ?_));refine Yi (Ii i (by omega)) ?_;refine Xi ⟨i+1,by omega,fun j hj HL=>?_⟩ ?_
    ·by_cases e:j=i
     ·subst e;exact hp
     ·exact h2 j hj (by omega)
    ·exact⟨Dl l.length i (by omega),⟨Zr,⟨rfl,hs.ids _⟩,Zr,Zr,Tv⟩,Tv,Fh,Tv⟩
  ·intro h;have h:¬(i:Int)<(l.map AF).length:=h;have h:¬i<l.length:=by simpa using h
   rw[FU fun j hj=>h2 j hj (by omega)];exact .refl _
theorem sW{fF:Nat}{caps:List AV}(hs:Es caps)(l:List (Int×Int))(p:Int×Int→Bool)(hF:∀x∈l,PC fF ([.agg (Aq x)]++caps) (vb (p x)))(hl:Cn l) :
  PC 152 [sl Aq l,.clo fF caps] (vb (l.any p)):=by
 refine FZ (dn F7) rfl CL hm rfl Tryz.func152 (by kernel_rfl) rfl (Nz rfl) (by kernel_rfl) ?_;have hi:=ta hs l p hF (by unfold Cn at hl;omega);have Dg:∀h,PC 195 [sl Aq l,.clo fF (caps.map (str0 h))] (vi (Hy p l 0)):=fun h=>by rw[hs.map];exact hi
 refine Xi .pure (Xi _ (Yi (Dg _) ?_));have ha:=JJ (p:=p) l 0 (AX 0);refine Yi ?_ ?_
 ·intro h;have h:(0:Int)≤Hy p l 0:=h;rw[←ha,Aw h];exact .refl _
 ·intro h;have h:¬(0:Int)≤Hy p l 0:=h;rw[←ha,Ap h];exact .refl _
theorem yC{fF:Nat}{caps:List AV}(hs:Es caps)(l:List (Sl))(p:Sl→Bool)(hF:∀x∈l,PC fF ([.agg (Ae x)]++caps) (vb (p x)))(hl:Cn l) :
  PC 25 [sl Ae l,.clo fF caps] (vb (l.any p)):=by
 refine FZ (dn F7) rfl CL hm rfl Tryz.func25 (by kernel_rfl) rfl (Nz rfl) (by kernel_rfl) ?_;have hi:=wM hs l p hF (by unfold Cn at hl;omega);have Dg:∀h,PC 70 [sl Ae l,.clo fF (caps.map (str0 h))] (vi (Hy p l 0)):=fun h=>by rw[hs.map];exact hi
 refine Xi .pure (Xi _ (Yi (Dg _) ?_));have ha:=JJ (p:=p) l 0 (AX 0);refine Yi ?_ ?_
 ·intro h;have h:(0:Int)≤Hy p l 0:=h;rw[←ha,Aw h];exact .refl _
 ·intro h;have h:¬(0:Int)≤Hy p l 0:=h;rw[←ha,Ap h];exact .refl _
theorem mu{fF:Nat}{caps:List AV}(hs:Es caps)(l:List (Tm))(p:Tm→Bool)(hF:∀x∈l,PC fF ([.agg (AF x)]++caps) (vb (p x)))(hl:Cn l) :
  PC 158 [sl AF l,.clo fF caps] (vb (l.any p)):=by
 refine FZ (dn F7) rfl CL hm rfl Tryz.func158 (by kernel_rfl) rfl (Nz rfl) (by kernel_rfl) ?_;have hi:=jm hs l p hF (by unfold Cn at hl;omega);have Dg:∀h,PC 201 [sl AF l,.clo fF (caps.map (str0 h))] (vi (Hy p l 0)):=fun h=>by rw[hs.map];exact hi
 refine Xi .pure (Xi _ (Yi (Dg _) ?_));have ha:=JJ (p:=p) l 0 (AX 0);refine Yi ?_ ?_
 ·intro h;have h:(0:Int)≤Hy p l 0:=h;rw[←ha,Aw h];exact .refl _
 ·intro h;have h:¬(0:Int)≤Hy p l 0:=h;rw[←ha,Ap h];exact .refl _
theorem s5(l:List (Int×Int))(hl:Cn l):PC 78 [sl Aq l] (sl Aq l):=by
 refine FZ (dn F7) rfl CL hm rfl Tryz.func78 (by kernel_rfl) rfl (Nz rfl) (by kernel_rfl) ?_;have Gs:Dp 2 (l.map Aq)∧([]:List (List AV)).length=0∧(([]:List (List AV)).length+(l.map Aq).length)*16≤140737488355328∧([]:List (List AV)).length+(l.map Aq).length≤9223372036854775807:=by
  refine⟨Ez (enc:=Aq) (n:=2) (fun _=>rfl) l,rfl,?_,?_⟩<;>simp only[AC,Lm]<;>unfold Cn at hl<;>omega
 refine Yi ?_ ?_
 ·intro _;exact Yi Gs (.refl _)
 ·intro h;have h:l.map Aq=[]:=h;refine Yi ?_ ?_
  ·show Hm (.v (.slice none 0 0)) (.slice .none (l.map Aq));rw[h];exact .nil
  ·exact Yi Gs (.refl _)
theorem ph(l m:List (Int×Int))(hl:Cn l):PC 147 [sl Aq l,sl Aq m] (vb (decide (l=m))):=by
 refine FZ (dn F7) rfl CL hm rfl Tryz.func147 (by kernel_rfl) rfl (Nz rfl) (by kernel_rfl) ?_;refine Yi ?_ ?_
 ·intro h;have h:¬((l.map Aq).length:Int)=(m.map Aq).length:=h
  have:l≠m:=fun e=>h (by rw[e])
  rw[Ap this];exact .refl _
 ·intro h;have h:¬((l.map Aq).length:Int)≠(m.map Aq).length:=h;have CB:l.length=m.length:=by simp at h;omega
  refine Xi {i:Nat // i≤l.length∧l.take i=m.take i} (Xi (fun i=>⟨[(0,sl Aq l),(1,sl Aq m),(12,vi (l.map Aq).length),(13,vi i.1)],[],Ab⟩) (Xi (fun i=>l.length-i.1) (Yi (Xi ⟨0,by simp⟩ ?_) ?_)))
  ·exact⟨⟨Zr,Zr,Zr,Zr,Tv⟩,Tv,Fh,Tv⟩
  ·intro⟨i,h1,h2⟩;refine Yi ?_ ?_
   ·intro h;have h:(i:Int)<(l.map Aq).length:=h;have h:i<l.length:=by simpa using h
    have h' : i<m.length:=by omega
    have hg:l[i]?=some l[i]:=Ge h;have ly : m[i]?=some m[i]:=Ge h';refine Xi (Aq l[i]) (Yi (Yi (by show(0:Int)≤i;omega) (by simp[hg])) (Yi rfl (Yi (Nz rfl) ?_)));refine Xi (Aq m[i]) (Yi (Yi (by show(0:Int)≤i;omega) (by simp[ly])) (Yi rfl (Yi (Nz rfl) ?_)));refine Yi ?_ ?_
    ·intro h5;have e:l[i]=m[i]:=Rg.1 h5;refine Yi (by kernel_rfl) ?_;refine Yi (by show BY ((i:Int)+1);unfold Cn at hl;unfold BY;omega) ?_;refine Xi ⟨i+1,by omega,?_⟩ ?_
     ·rw[Bu,Bu,h2,hg,ly,e]
     ·exact⟨Dl l.length i (by omega),⟨Zr,Zr,Zr,Zr,Tv⟩,Tv,Fh,Tv⟩
    ·intro h5;refine Yi (by kernel_rfl) ?_
     have:l≠m:=fun e=>h5 (Rg.2 (by subst e;rfl))
     rw[Ap this];exact .refl _
   ·intro h;have h:¬(i:Int)<(l.map Aq).length:=h;have h:¬i<l.length:=by simpa using h
    have e:l=m:=by
     rw[←AT (l:=l) (i:=i) (by omega),h2,AT (by omega)]
    rw[Aw e];exact .refl _
abbrev iR(l:List Nat):TM:=⟨l,[],[],[],[],[],[],[],[],[],[]⟩
theorem Es.ptr(cs:List AV):Es [.cptr cs]:=fun c hc h=>by
 rw[Ai.1 hc];rfl
theorem sX(s:Int×Int)(p:Int):PC 153 [.agg (Aq s),.cptr [vi p]] (vb (BK p s)):=by
 refine Ps F7 Tryz.func153 rfl (Nz rfl) ?_;refine Yi ?_ ?_
 ·intro h;have h:s.1≤p:=h;refine Yi ?_ ?_
  ·intro h2;have h2:p<s.2:=h2;rw[show BK p s=true by simp[BK,h,h2]];exact .refl _
  ·intro h2;have h2:¬p<s.2:=h2;rw[show BK p s=false by simp[BK,h2]];exact .refl _
 ·intro h;have h:¬s.1≤p:=h;rw[show BK p s=false by simp[BK,h]];exact .refl _
theorem pv(s:List (Int×Int))(p:Int)(hl:Cn s):PC 122 [sl Aq s,vi p] (vb (has s p)):=by
 refine Ps (iR [3]) Tryz.func122 rfl (Nz rfl) ?_;refine Yi ?_ ?_
 ·intro h;have h:0≤p:=h;refine Yi ?_ ?_
  ·intro h2;have h2:p<1000000:=h2;refine Xi .pure (Xi _ (Yi (sW (Es.ptr [vi p]) s (BK p) (fun x _=>sX x p) hl) ?_));rw[show has s p=s.any (BK p) by simp[has,h,h2]];cases s.any (BK p)<;>exact .refl _
  ·intro h2;have h2:¬p<1000000:=h2;rw[show has s p=false by simp[has,h2]];exact .refl _
 ·intro h;have h:¬0≤p:=h;rw[show has s p=false by simp[has,h]];exact .refl _
theorem wN(r:Rl):PC 149 [.agg (Ah r)] (vi (plc r.ver)):=by
 refine Ps F7 Tryz.func149 rfl (Nz rfl) ?_;exact Yi (Nz rfl) (Xi .pure (Xi _ (Yi (rM r.ver) (.refl _))))
theorem yI(x:Sl)(t:Tm):PC 254 [.agg (Ae x),.cptr (AF t)] (vb (decide (x.path=t.path))):=by
 refine Ps F7 Tryz.func254 rfl (Nz rfl) ?_;refine Yi ?_ ?_
 ·intro h;have h:x.path=t.path:=h;rw[Aw h];exact .refl _
 ·intro h;have h:¬x.path=t.path:=h;rw[Ap h];exact .refl _
theorem Oz{α:Type}{p:α→Bool}:∀(l:List α) (k:Int),(Hy p l k=-1∧l.find? p=none)∨∃i x,Hy p l k=k+(i:Nat)∧l[i]?=some x∧l.find? p=some x
 | [],k=>.inl Zr
 |x::r,k=>by
  cases h:p x with
  |true=>exact .inr ⟨0,x,by simp[Hy,h],rfl,by simp[h]⟩
  |false =>
   rcases Oz (p:=p) r (k+1)with ⟨h1,h2⟩ | ⟨i,y,h1,h2,h3⟩
   ·exact .inl ⟨by simp[Hy,h,h1],by simp[h,h2]⟩
   ·exact .inr ⟨i+1,y,by simp only[Hy,h,Dk,Gg,h1];omega,by simpa using h2,by simp[h,h3]⟩
theorem yD(t:Tm)(s:List Sl)(hl:Cn s)(ht:Cn t.set):PC 225 [.agg (AF t),sl Ae s] (vb (GB t s)):=by
 have hc:=wM (Es.ptr (AF t)) s (fun x=>decide (x.path=t.path)) (fun x _=>yI x t) (by unfold Cn at hl;omega);unfold GB;rcases Oz (p:=fun x:Sl=>decide (x.path=t.path)) s 0 with ⟨h1,h2⟩ | ⟨i,x,h1,h2,h3⟩
 ·rw[h1]at hc;rw[h2];refine Ps (iR [2]) Tryz.func225 rfl (Nz rfl) ?_;refine Xi .pure (Xi _ (Yi hc ?_));refine Yi ?_ ?_
  ·intro _;refine Yi ?_ ?_
   ·intro h;have h:t.absent=true:=h;rw[h];exact .refl _
   ·intro h;have h:t.absent=false:=h;rw[h];exact .refl _
  ·intro h;exact absurd (show(-1:Int)<0 by decide) h
 ·rw[h1,EE]at hc;rw[h3];have hg:(s.map Ae)[((i:Nat):Int).toNat]?=some (Ae x):=by rw[Ch,AG,h2];rfl
  have hp:=rM x.ver;dsimp only;rcases Bt (CM x.ver)with hv | hv
  ·rw[hv,Az rfl,Az rfl]at hp;rw[hv];refine Ps (iR [2]) Tryz.func225 rfl (Nz rfl) ?_;refine Xi .pure (Xi _ (Yi hc ?_));refine Yi ?_ ?_
   ·intro h;have h:(i:Int)<0:=h;omega
   ·intro _;refine Xi (Ae x) (Yi (Yi (Nn i) hg) (Yi rfl (Yi (Nz rfl) ?_)));refine Xi .pure (Xi _ (Yi hp ?_));refine Yi ?_ ?_
    ·intro _;refine Xi .pure (Xi _ (Yi (pv t.set (place x.ver) ht) ?_));exact .refl _
    ·intro h;exact absurd rfl h
  ·rw[hv,Al (by decide),Al (by decide)]at hp;rw[hv];refine Ps (iR [2]) Tryz.func225 rfl (Nz rfl) ?_;refine Xi .pure (Xi _ (Yi hc ?_));refine Yi ?_ ?_
   ·intro h;have h:(i:Int)<0:=h;omega
   ·intro _;refine Xi (Ae x) (Yi (Yi (Nn i) hg) (Yi rfl (Yi (Nz rfl) ?_)));refine Xi .pure (Xi _ (Yi hp ?_));refine Yi ?_ ?_
    ·intro h;have h:(2:Int)=0:=h;omega
    ·intro _;exact .refl _
theorem iY{α:Type}{p:α→Bool}{l:List α}{i:Nat}(h:∀j (hj:j<l.length),j<i→p l[j]=true)(hi:¬i<l.length):l.all p=true:=by
 rw[Bq];intro x hx;obtain⟨j,hj,rfl⟩:=Dz.1 hx;exact h j hj (by omega)
theorem mg{α:Type}{p:α→Bool}{l:List α}{i:Nat}(hi:i<l.length)(h:p l[i]=false):l.all p=false:=by
 rw[List.all_eq_false];exact⟨l[i],Ao hi,by simp[h]⟩
abbrev dB(l:List Tm):Prop:=Cn l∧∀t∈l,Cn t.set
theorem yz(l:List Tm)(s:List Sl)(hl:dB l)(hs:Cn s):PC 198 [sl AF l,sl Ae s] (vb (l.all fun t=>GB t s)):=by
 have hc:∀i (h:i<l.length),PC 225 [.agg (AF l[i]),sl Ae s] (vb (GB l[i] s)):=fun i h=>yD l[i] s hs (hl.2 _ (Ao h));obtain⟨hl,_⟩:=hl;unfold Cn at hl;refine Ps F7 Tryz.func198 rfl (Nz rfl) ?_;refine Xi {i:Nat // i≤l.length∧∀j (hj:j<l.length),j<i→GB l[j] s=true} (Xi (fun i=>⟨[(0,sl AF l),(1,sl Ae s),(7,vi (l.map AF).length),(8,vi i.1)],[],Ab⟩) (Xi (fun i=>l.length-i.1) (Yi (Xi ⟨0,by simp⟩ ?_) ?_)))
 ·exact⟨Z4,Tv,Fh,Tv⟩
 ·intro⟨i,h1,h2⟩;refine Yi ?_ ?_
  ·intro h;have h:(i:Int)<(l.map AF).length:=h;have h:i<l.length:=by simpa using h
   have hg:l[i]?=some l[i]:=Ge h;have rW:=hc i h;refine Xi (AF l[i]) (Yi (Yi (Nn i) (by simp[hg])) (Yi rfl (Yi (Nz rfl) ?_)));cases hp:GB l[i] s with
   |false =>
    rw[hp]at rW;refine Xi .pure (Xi _ (Yi rW ?_));rw[mg (p:=fun t=>GB t s) h hp];exact .refl _
   |true =>
    rw[hp]at rW;refine Xi .pure (Xi _ (Yi rW ?_));refine Yi (Ii i (by omega)) ?_;refine Xi ⟨i+1,by omega,fun j hj HL=>?_⟩ ?_
    ·by_cases e:j=i
     ·subst e;exact hp
     ·exact h2 j hj (by omega)
    ·exact⟨Dl l.length i (by omega),Z4,Tv,Fh,Tv⟩
  ·intro h;have h:¬(i:Int)<(l.map AF).length:=h;have h:¬i<l.length:=by simpa using h
   rw[iY (p:=fun t=>GB t s) h2 h];exact .refl _
theorem sZ(x:Sl)(t:Tm):PC 200 [.agg (Ae x),.cptr (AF t)] (vb (decide (x.path=t.path))):=by
 refine Ps F7 Tryz.func200 rfl (Nz rfl) ?_;refine Yi ?_ ?_
 ·intro h;have h:x.path=t.path:=h;rw[Aw h];exact .refl _
 ·intro h;have h:¬x.path=t.path:=h;rw[Ap h];exact .refl _
theorem sY(t:Tm)(s:List Sl)(hs:Cn s):PC 199 [.agg (AF t),.cptr [sl Ae s]] (vb (!CG s t.path)):=by
 have hc:=yC (Es.ptr (AF t)) s (fun x=>decide (x.path=t.path)) (fun x _=>sZ x t) hs;unfold CG;cases hp:s.any fun x=>decide (x.path=t.path)with
 |true =>
  rw[hp]at hc;refine Ps (iR [2]) Tryz.func199 rfl (Nz rfl) ?_;exact Xi .pure (Xi _ (Yi hc (.refl _)))
 |false =>
  rw[hp]at hc;refine Ps (iR [2]) Tryz.func199 rfl (Nz rfl) ?_;exact Xi .pure (Xi _ (Yi hc (.refl _)))
theorem wO(l:List Tm)(s:List Sl)(hl:dB l)(hs:Cn s):PC 157 [sl AF l,sl Ae s] (vb (CD l s)):=by
 have hv:=yz l s hl hs;have hc:=mu (Es.ptr [sl Ae s]) l (fun t=>!CG s t.path) (fun t _=>sY t s hs) hl.1;unfold CD Bh;cases h1:l.all fun t=>GB t s with
 |false =>
  rw[h1]at hv;refine Ps (iR [3]) Tryz.func157 rfl (Nz rfl) ?_;exact Xi .pure (Xi _ (Yi hv (.refl _)))
 |true =>
  rw[h1]at hv;cases h2:l.any fun t=>!CG s t.path with
  |true =>
   rw[h2]at hc;refine Ps (iR [3]) Tryz.func157 rfl (Nz rfl) ?_;exact Xi .pure (Xi _ (Yi hv (Xi .pure (Xi _ (Yi hc (.refl _))))))
  |false =>
   rw[h2]at hc;refine Ps (iR [3]) Tryz.func157 rfl (Nz rfl) ?_;exact Xi .pure (Xi _ (Yi hv (Xi .pure (Xi _ (Yi hc (.refl _))))))
abbrev Sa(a:An):List AV:=[vb a.found,sl Ae a.sel,sl BZ a.infs,sl BT a.skips]
theorem mr(r:Rl):PC 67 [.agg (Ah r)] (.agg (Ae ⟨r.path,r.ver⟩)):=by
 refine Ps F7 Tryz.func67 rfl (Nz rfl) ?_;exact Yi (Nz rfl) (Yi (Nz rfl) (Yi (Nz rfl) (.refl _)))
theorem wL(l m:List (Int×Int))(hl:Cn l):PC 94 [sl Aq l,sl Aq m] (vb (decide (l=m))):=by
 refine Ps F7 Tryz.func94 rfl (Nz rfl) ?_;refine Yi ?_ ?_
 ·intro h;have h:¬((l.map Aq).length:Int)=(m.map Aq).length:=h
  have:l≠m:=fun e=>h (by rw[e])
  rw[Ap this];exact .refl _
 ·intro h;have h:¬((l.map Aq).length:Int)≠(m.map Aq).length:=h;have CB:l.length=m.length:=by simp at h;omega
  refine Xi {i:Nat // i≤l.length∧l.take i=m.take i} (Xi (fun i=>⟨[(0,sl Aq l),(1,sl Aq m),(5,vi i.1)],[],Ab⟩) (Xi (fun i=>l.length-i.1) (Yi (Xi ⟨0,by simp⟩ ?_) ?_)))
  ·exact⟨Z3,Tv,Fh,Tv⟩
  ·intro⟨i,h1,h2⟩;refine Yi ?_ ?_
   ·intro h;have h:(i:Int)<(l.map Aq).length:=h;have h:i<l.length:=by simpa using h
    have h' : i<m.length:=by omega
    have hg:l[i]?=some l[i]:=Ge h;have ly : m[i]?=some m[i]:=Ge h';refine Xi (Aq l[i]) (Yi (Yi (Nn i) (by simp[hg])) (Yi rfl (Yi (Nz rfl) ?_)));refine Xi (Aq m[i]) (Yi (Yi (Nn i) (by simp[ly])) (Yi rfl (Yi (Nz rfl) ?_)));refine Yi ?_ ?_
    ·intro h5;have e:l[i]=m[i]:=Rg.1 h5;refine Yi (by kernel_rfl) ?_;refine Yi (by show BY ((i:Int)+1);unfold Cn at hl;unfold BY;omega) ?_;refine Xi ⟨i+1,by omega,?_⟩ ?_
     ·rw[Bu,Bu,h2,hg,ly,e]
     ·exact⟨Dl l.length i (by omega),Z3,Tv,Fh,Tv⟩
    ·intro h5;refine Yi (by kernel_rfl) ?_
     have:l≠m:=fun e=>h5 (Rg.2 (by subst e;rfl))
     rw[Ap this];exact .refl _
   ·intro h;have h:¬(i:Int)<(l.map Aq).length:=h;have h:¬i<l.length:=by simpa using h
    have e:l=m:=by
     rw[←AT (l:=l) (i:=i) (by omega),h2,AT (by omega)]
    rw[Aw e];exact .refl _
end Go.Eng
namespace Go.Eng
open Go.Proofs Go.Shelf Go.RowKit Go.Lib Go.Sort
theorem aj(x y:SpA):ltOf cfSpA x y=decide (x.1.1<y.1.1):=by
 unfold ltOf cfSpA;rw[BV];simp only[AA];omega
theorem iq:SWO (ltOf cfSpA) where
 irrefl x:=by rw[aj];simp
 trans x y z h1 h2:=by rw[aj]at *;simp at *;omega
 ntrans x y z h1 h2:=by rw[aj]at *;simp at *;omega
theorem SW:∀x y:List UInt8,decide (Lib.compareBytes x y<0)=J3 x y
 | [],[]=>rfl
 | [],_::_=>rfl
 |_::_,[]=>rfl
 |a::x,b::y=>by
  unfold Lib.compareBytes J3
  by_cases h:a<b
  ·simp[h]
  ·by_cases h2:b<a
   ·have:¬a=b:=fun e=>by subst e;exact absurd h2 (UInt8.lt_irrefl a)
    simp[h,h2,this]
   ·have e:a=b:=UInt8.le_antisymm (UInt8.not_lt.1 h2) (UInt8.not_lt.1 h);subst e;simp[UInt8.lt_irrefl,SW x y]
theorem am(x y:TmA):ltOf cfTmA x y=Ff x.1 y.1:=SW _ _
theorem ir:SWO (ltOf cfTmA) where
 irrefl x:=by rw[am];exact CY _
 trans x y z h1 h2:=by rw[am]at *;exact Eb h1 h2
 ntrans x y z h1 h2:=by
  rw[am]at *
  rw[AI];intro h;cases oL:Ff y.1 x.1 with
  |true=>have:=Eb oL h;rw[h2]at this;cases this
  |false =>
   have e:=Hp h1 oL;rw[e]at h;rw[h2]at h;cases h
abbrev TZ(k:Nat):Value:=.func (.func k) #[] #[]
theorem dp (k : Nat) {fn : Func} {c : Code} (hf : Tryz.prog.funcs[k]? = some fn) (hn : (fn.name == "runtime.NumGoroutine") = false) (hb : fn.body = some c) : F1 Tryz.prog k := bA hf hn hb
theorem tc(l:List (Int×Int))(hl:Cn l)(h:∀x∈l,0≤x.1∧x.1≤1000000)(lim:Nat)(Xr:lim<100) :
  Be Tryz.prog 223 [.msl 1000 l.length,vi 0,vi l.length,vi lim,.v (TZ 191)] (Aj [(1000,.arr 2 (l.map Aq))] Ab) fun r h' =>
   r=.tup []∧∃l' : List (Int×Int),l'.Perm l∧l'.Pairwise (fun x y=>x.1≤y.1)∧h'=Aj [(1000,.arr 2 (l'.map Aq))] Ab:=by
 have hl:l.length≤1073741824:=hl;have hE:F1 Tryz.prog 223:=dp 223 Tryz.func223 (by kernel_rfl) rfl;have eg:∀args w,(callFunc 191 args).run Tryz.prog w=.ok (.enter 191 args) w:=enters_of Tryz.func191 (by kernel_rfl) rfl;have G9:=I6 (P:=Tryz.prog) (f:=223) (α:=SpA) (rest:=[.int .i64 0,.int .i64 l.length,.int .i64 lim,TZ 191]) hE Aq encSpA (k:=2) (fun _=>rfl) (fun _=>rfl) (ltOf cfSpA) (fun x a=>a.1=x) l (by omega) ?_ ?_ ?_
 ·refine⟨hE,fun g w vals q1 q2 q3=>(G9.2 g w vals q1 q2 q3).mono fun _ _ ⟨v,r,h',g',e1,⟨e2,l',p1,⟨al,a1,a2,a3⟩,p2⟩,rest⟩=>⟨v,r,h',g',e1,⟨e2,l',p1,?_,p2⟩,rest⟩⟩;rw[Bc]at a3⊢;intro i j hi hj UN
  have:=a3 i j (by omega) (by omega) UN
  rw[aj]at this;have e1:=a2 i _ _ (Ay hi) (Ay (by omega));have e2:=a2 j _ _ (Ay hj) (Ay (by omega));rw[←e1,←e2]
  have:=Jz this
  omega
 ·intro x hx g w vs hr
  match vs,hr with
  | [a,b],hr =>
   have h1:=(hr.2.2 0 (vi x.1) a rfl rfl).v_eq;have h2:=(hr.2.2 1 (vi x.2) b rfl rfl).v_eq;subst h1;subst h2;exact⟨⟨x,h x hx⟩,rfl,rfl⟩
  | [],hr=>have:=hr.1;simp at this
  | [_],hr=>have:=hr.1;simp at this
  |_::_::_::_,hr=>have:=hr.1;simp at this
 ·intro w b cap d hH hb EH hdl;have ff:CmpLays Tryz.prog 191 #[] encSpA 2 cfSpA b 0 d.size w:=fun _ _ _ _ x y=>Tryz.closure191 x y _;have hp:=AnyQ.pdqsortCmpFunc_all Tryz.layPdqSpan 2 Tryz.isAgg62 Tryz.sizeOf62 encSpA cfSpA 191 #[] iq b 0 cap d w eg ff ⟨fun _=>rfl,fun x v hv=>by simp[encSpA]at hv;rcases hv with rfl | rfl<;>rfl,hH,hb⟩ (d.size+1) 0 d.size lim d w (by omega) rfl (SWK.start hH) (AM _) (Ak _) EH (by omega) (Or.inl rfl)
  rw[hdl]at hp⊢;refine hp.mono ?_
  rintro e w' ⟨rfl,n,os,rfl⟩
  have h:=pdq_sorts (ltOf cfSpA) iq d 0 d.size lim true true (AM _) (Ak _) (Or.inl rfl);rw[hdl]at h;exact⟨rfl,_,n,os,h.1,h.2,rfl⟩
 ·intro e w;subst e;exact AnyF.pdqsortCmpFunc_none Tryz.layPdqSpan none 0 lim (TZ 191) w
theorem sT(l:List Tm)(hl:Cn l)(lim:Nat)(Xr:lim<100) :
  Be Tryz.prog 257 [.msl 1000 l.length,vi 0,vi l.length,vi lim,.v (TZ 236)] (Aj [(1000,.arr 3 (l.map AF))] Ab) fun r h' =>
   r=.tup []∧∃l' : List Tm,l'.Perm l∧l'.Pairwise (fun x y=>Ff y.path x.path=false)∧h'=Aj [(1000,.arr 3 (l'.map AF))] Ab:=by
 have hl:l.length≤1073741824:=hl;have hE:F1 Tryz.prog 257:=dp 257 Tryz.func257 (by kernel_rfl) rfl;have eg:∀args w,(callFunc 236 args).run Tryz.prog w=.ok (.enter 236 args) w:=enters_of Tryz.func236 (by kernel_rfl) rfl;have G9:=I6 (P:=Tryz.prog) (f:=257) (α:=TmA) (rest:=[.int .i64 0,.int .i64 l.length,.int .i64 lim,TZ 236]) hE AF encTmA (k:=3) (fun _=>rfl) (fun _=>rfl) (ltOf cfTmA) (fun x a=>a.1=x.path) l (by omega) ?_ ?_ ?_
 ·refine⟨hE,fun g w vals q1 q2 q3=>(G9.2 g w vals q1 q2 q3).mono fun _ _ ⟨v,r,h',g',e1,⟨e2,l',p1,⟨al,a1,a2,a3⟩,p2⟩,rest⟩=>⟨v,r,h',g',e1,⟨e2,l',p1,?_,p2⟩,rest⟩⟩;rw[Bc]at a3⊢;intro i j hi hj UN
  have:=a3 i j (by omega) (by omega) UN
  rw[am]at this;have e1:=a2 i _ _ (Ay hi) (Ay (by omega));have e2:=a2 j _ _ (Ay hj) (Ay (by omega));rw[←e1,←e2];exact this
 ·intro x hx g w vs hr
  match vs,hr with
  | [a,b,c],hr =>
   have h1:=(hr.2.2 0 (Go.Eng.vs x.path) a rfl rfl).v_eq;subst h1;exact⟨⟨x.path,⟨b,hr.2.1 b (by simp)⟩,⟨c,hr.2.1 c (by simp)⟩⟩,rfl,rfl⟩
  | [],hr=>have:=hr.1;simp at this
  | [_],hr=>have:=hr.1;simp at this
  | [_,_],hr=>have:=hr.1;simp at this
  |_::_::_::_::_,hr=>have:=hr.1;simp at this
 ·intro w b cap d hH hb EH hdl;have ff:CmpLays Tryz.prog 236 #[] encTmA 3 cfTmA b 0 d.size w:=fun _ _ _ _ x y=>Tryz.closure236 x y _;have hp:=AnyQ.pdqsortCmpFunc_all Tryz.layPdqTerm 3 Tryz.isAgg207 Tryz.sizeOf207 encTmA cfTmA 236 #[] ir b 0 cap d w eg ff ⟨fun _=>rfl,fun x v hv=>by
    simp only[encTmA,Au,Lt,or_false]at hv;rcases hv with rfl | rfl | rfl
    ·rfl
    ·exact x.2.1.2
    ·exact x.2.2.2,hH,hb⟩ (d.size+1) 0 d.size lim d w (by omega) rfl (SWK.start hH) (AM _) (Ak _) EH (by omega) (Or.inl rfl)
  rw[hdl]at hp⊢;refine hp.mono ?_
  rintro e w' ⟨rfl,n,os,rfl⟩
  have h:=pdq_sorts (ltOf cfTmA) ir d 0 d.size lim true true (AM _) (Ak _) (Or.inl rfl);rw[hdl]at h;exact⟨rfl,_,n,os,h.1,h.2,rfl⟩
 ·intro e w;subst e;exact AnyF.pdqsortCmpFunc_none Tryz.layPdqTerm none 0 lim (TZ 236) w
end Go.Eng
namespace Go.Eng
open Go.Proofs
-- the checker,and what reads it
theorem HW(a b:ByteArray):Ff a b=Op.bytesLess a.toList b.toList:=by
 have:∀x y:List UInt8,J3 x y=Op.bytesLess x y:=by
  intro x
  induction x with
  |nil=>intro y;cases y<;>rfl
  |cons a x ih =>
   intro y;cases y with
   |nil=>rfl
   |cons b y =>
    unfold J3 Op.bytesLess;rw[ih];rw[BV];simp
 unfold Ff;rw[this,ByteArray.toList_eq,ByteArray.toList_eq]
end Go.Eng
