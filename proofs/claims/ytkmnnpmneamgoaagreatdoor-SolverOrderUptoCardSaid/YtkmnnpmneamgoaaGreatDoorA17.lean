/- Lemmas for the claims of this seat, without a condition: part 17 (Dat, LaySort, CSort, C1, C2, CS, C4, C5, C6, C7, C8, C9, C10, C11, C12, C13, C14, CSort2). -/
import Derived.Test.YtkmnnpmneamgoaaGreatDoorA15
import Derived.Test.YtkmnnpmneamgoaaGreatDoorA01
import Derived.Shelf.SlSortCmp.WholeK
import Derived.Shelf.Sort.Plain
import Derived.Shelf.Small.Strs
import Derived.Shelf.Small.Bits
import Derived.Ground.SlsfProg
import Derived.Ground.NamesProg
import Derived.Shelf.SlSortCmp.NoneTotal
namespace Go.Eng
open Go.Proofs
abbrev vi(n:Int):AV := .v (.int .i64 n)
abbrev vb(b:Bool):AV := .v (.bool b)
abbrev vs(s:ByteArray):AV := .v (.string s)
abbrev sl{α:Type}(enc:α → List AV)(l:List α):AV := .slice .none (l.map enc)
abbrev Ix(v:Ver):List AV := [vi v.a,vi v.b,vi v.c]
abbrev Ap(s:Int×Int):List AV := [vi s.1,vi s.2]
abbrev Ah(q:Rq):List AV := [vs q.path,sl Ap q.set]
abbrev A5(r:Rl):List AV := [vs r.path,vi r.ver.a,vi r.ver.b,vi r.ver.c,sl Ah r.reqs,vs r.arch,vs r.ifc,vs r.cert,vb r.yanked]
abbrev Aq(s:Sl):List AV := [vs s.path,vi s.ver.a,vi s.ver.b,vi s.ver.c]
abbrev AA(t:Tm):List AV := [vs t.path,vb t.absent,sl Ap t.set]
abbrev AU(i:Nf):List AV := [vi i.kind,vs i.path,vi i.place,vi i.number,vi i.left,vi i.right]
abbrev Bw(s:Sk):List AV := [vs s.path,vi s.place,vi s.inf]
noncomputable abbrev bq(pl:O3):Cx := ⟨Tryz.prog,i7,pl,false,0,fun _ _ _ _ => True⟩
noncomputable abbrev Iv(pl:O3):Cx := ⟨Tryz.prog,i7,pl,true,0,fun _ _ _ _ => True⟩
abbrev FC:O3 := ⟨[],[],[],[],[],[],[],[],[],[],[]⟩
abbrev PC(f:Nat)(args:List AV)(res:AV):Prop := Ln Tryz.prog f args res
theorem hm:Tryz.prog.follows .mixedOrders = true := by rfl
end Go.Eng
namespace Go.Eng
open Go.Proofs
theorem Zr{α:Sort _}{β:Sort _}{a:α}{b:β}:a = a ∧ b = b := ⟨rfl,rfl⟩
theorem Nz{a b:Nat}(h:Nat.ble a b = true):a ≤ b := HJ h
theorem Xi{α:Sort _}{p:α → Prop}(w:α)(h:p w):Exists p := Exists.intro w h
theorem Yi{a b:Prop}(h:a)(k:b):a ∧ b := And.intro h k
theorem Fh{st:St}{h:Nat → HO}:∀j,Aa j = .free ∨ (st.h j = Aa j ∧ Xp h (Aa j) = true) := fun _ => .inl rfl
theorem Tv:True := trivial
theorem Ii(i:Nat)(h:i ≤ 9223372036854775806):BQ ((i:Int) + 1) := by unfold BQ;omega
theorem Dl(n i:Nat)(h:i<n):n-(i + 1)<n-i := by omega
theorem Bt(b:Bool):b = true ∨ b = false := Bool.eq_false_or_eq_true b
theorem Z1{α:Type}{a0:α}{b0:Bool}:(a0 = a0 ∧ b0 = b0) ∧ True := ⟨⟨rfl,rfl⟩,trivial⟩
theorem Z2{α:Type}{a0 a1:α}{b0 b1:Bool}:(a0 = a0 ∧ b0 = b0) ∧ (a1 = a1 ∧ b1 = b1) ∧ True := ⟨⟨rfl,rfl⟩,⟨rfl,rfl⟩,trivial⟩
theorem Z3{α:Type}{a0 a1 a2:α}{b0 b1 b2:Bool}:(a0 = a0 ∧ b0 = b0) ∧ (a1 = a1 ∧ b1 = b1) ∧ (a2 = a2 ∧ b2 = b2) ∧ True := ⟨⟨rfl,rfl⟩,⟨rfl,rfl⟩,⟨rfl,rfl⟩,trivial⟩
theorem Z4{α:Type}{a0 a1 a2 a3:α}{b0 b1 b2 b3:Bool}:(a0 = a0 ∧ b0 = b0) ∧ (a1 = a1 ∧ b1 = b1) ∧ (a2 = a2 ∧ b2 = b2) ∧ (a3 = a3 ∧ b3 = b3) ∧ True := ⟨⟨rfl,rfl⟩,⟨rfl,rfl⟩,⟨rfl,rfl⟩,⟨rfl,rfl⟩,trivial⟩
theorem Z5{α:Type}{a0 a1 a2 a3 a4:α}{b0 b1 b2 b3 b4:Bool}:(a0 = a0 ∧ b0 = b0) ∧ (a1 = a1 ∧ b1 = b1) ∧ (a2 = a2 ∧ b2 = b2) ∧ (a3 = a3 ∧ b3 = b3) ∧ (a4 = a4 ∧ b4 = b4) ∧ True := ⟨⟨rfl,rfl⟩,⟨rfl,rfl⟩,⟨rfl,rfl⟩,⟨rfl,rfl⟩,⟨rfl,rfl⟩,trivial⟩
theorem Z6{α:Type}{a0 a1 a2 a3 a4 a5:α}{b0 b1 b2 b3 b4 b5:Bool}:(a0 = a0 ∧ b0 = b0) ∧ (a1 = a1 ∧ b1 = b1) ∧ (a2 = a2 ∧ b2 = b2) ∧ (a3 = a3 ∧ b3 = b3) ∧ (a4 = a4 ∧ b4 = b4) ∧ (a5 = a5 ∧ b5 = b5) ∧ True := ⟨⟨rfl,rfl⟩,⟨rfl,rfl⟩,⟨rfl,rfl⟩,⟨rfl,rfl⟩,⟨rfl,rfl⟩,⟨rfl,rfl⟩,trivial⟩
theorem Z7{α:Type}{a0 a1 a2 a3 a4 a5 a6:α}{b0 b1 b2 b3 b4 b5 b6:Bool}:(a0 = a0 ∧ b0 = b0) ∧ (a1 = a1 ∧ b1 = b1) ∧ (a2 = a2 ∧ b2 = b2) ∧ (a3 = a3 ∧ b3 = b3) ∧ (a4 = a4 ∧ b4 = b4) ∧ (a5 = a5 ∧ b5 = b5) ∧ (a6 = a6 ∧ b6 = b6) ∧ True := ⟨⟨rfl,rfl⟩,⟨rfl,rfl⟩,⟨rfl,rfl⟩,⟨rfl,rfl⟩,⟨rfl,rfl⟩,⟨rfl,rfl⟩,⟨rfl,rfl⟩,trivial⟩
theorem Z8{α:Type}{a0 a1 a2 a3 a4 a5 a6 a7:α}{b0 b1 b2 b3 b4 b5 b6 b7:Bool}:(a0 = a0 ∧ b0 = b0) ∧ (a1 = a1 ∧ b1 = b1) ∧ (a2 = a2 ∧ b2 = b2) ∧ (a3 = a3 ∧ b3 = b3) ∧ (a4 = a4 ∧ b4 = b4) ∧ (a5 = a5 ∧ b5 = b5) ∧ (a6 = a6 ∧ b6 = b6) ∧ (a7 = a7 ∧ b7 = b7) ∧ True := ⟨⟨rfl,rfl⟩,⟨rfl,rfl⟩,⟨rfl,rfl⟩,⟨rfl,rfl⟩,⟨rfl,rfl⟩,⟨rfl,rfl⟩,⟨rfl,rfl⟩,⟨rfl,rfl⟩,trivial⟩
theorem Z9{α:Type}{a0 a1 a2 a3 a4 a5 a6 a7 a8:α}{b0 b1 b2 b3 b4 b5 b6 b7 b8:Bool}:(a0 = a0 ∧ b0 = b0) ∧ (a1 = a1 ∧ b1 = b1) ∧ (a2 = a2 ∧ b2 = b2) ∧ (a3 = a3 ∧ b3 = b3) ∧ (a4 = a4 ∧ b4 = b4) ∧ (a5 = a5 ∧ b5 = b5) ∧ (a6 = a6 ∧ b6 = b6) ∧ (a7 = a7 ∧ b7 = b7) ∧ (a8 = a8 ∧ b8 = b8) ∧ True := ⟨⟨rfl,rfl⟩,⟨rfl,rfl⟩,⟨rfl,rfl⟩,⟨rfl,rfl⟩,⟨rfl,rfl⟩,⟨rfl,rfl⟩,⟨rfl,rfl⟩,⟨rfl,rfl⟩,⟨rfl,rfl⟩,trivial⟩
theorem Z10{α:Type}{a0 a1 a2 a3 a4 a5 a6 a7 a8 a9:α}{b0 b1 b2 b3 b4 b5 b6 b7 b8 b9:Bool}:(a0 = a0 ∧ b0 = b0) ∧ (a1 = a1 ∧ b1 = b1) ∧ (a2 = a2 ∧ b2 = b2) ∧ (a3 = a3 ∧ b3 = b3) ∧ (a4 = a4 ∧ b4 = b4) ∧ (a5 = a5 ∧ b5 = b5) ∧ (a6 = a6 ∧ b6 = b6) ∧ (a7 = a7 ∧ b7 = b7) ∧ (a8 = a8 ∧ b8 = b8) ∧ (a9 = a9 ∧ b9 = b9) ∧ True := ⟨⟨rfl,rfl⟩,⟨rfl,rfl⟩,⟨rfl,rfl⟩,⟨rfl,rfl⟩,⟨rfl,rfl⟩,⟨rfl,rfl⟩,⟨rfl,rfl⟩,⟨rfl,rfl⟩,⟨rfl,rfl⟩,⟨rfl,rfl⟩,trivial⟩
theorem Z11{α:Type}{a0 a1 a2 a3 a4 a5 a6 a7 a8 a9 Ws:α}{b0 b1 b2 b3 b4 b5 b6 b7 b8 b9 ZE:Bool}:(a0 = a0 ∧ b0 = b0) ∧ (a1 = a1 ∧ b1 = b1) ∧ (a2 = a2 ∧ b2 = b2) ∧ (a3 = a3 ∧ b3 = b3) ∧ (a4 = a4 ∧ b4 = b4) ∧ (a5 = a5 ∧ b5 = b5) ∧ (a6 = a6 ∧ b6 = b6) ∧ (a7 = a7 ∧ b7 = b7) ∧ (a8 = a8 ∧ b8 = b8) ∧ (a9 = a9 ∧ b9 = b9) ∧ (Ws = Ws ∧ ZE = ZE) ∧ True := ⟨⟨rfl,rfl⟩,⟨rfl,rfl⟩,⟨rfl,rfl⟩,⟨rfl,rfl⟩,⟨rfl,rfl⟩,⟨rfl,rfl⟩,⟨rfl,rfl⟩,⟨rfl,rfl⟩,⟨rfl,rfl⟩,⟨rfl,rfl⟩,⟨rfl,rfl⟩,trivial⟩
theorem Z12{α:Type}{a0 a1 a2 a3 a4 a5 a6 a7 a8 a9 Ws Zy:α}{b0 b1 b2 b3 b4 b5 b6 b7 b8 b9 ZE dQ:Bool}:(a0 = a0 ∧ b0 = b0) ∧ (a1 = a1 ∧ b1 = b1) ∧ (a2 = a2 ∧ b2 = b2) ∧ (a3 = a3 ∧ b3 = b3) ∧ (a4 = a4 ∧ b4 = b4) ∧ (a5 = a5 ∧ b5 = b5) ∧ (a6 = a6 ∧ b6 = b6) ∧ (a7 = a7 ∧ b7 = b7) ∧ (a8 = a8 ∧ b8 = b8) ∧ (a9 = a9 ∧ b9 = b9) ∧ (Ws = Ws ∧ ZE = ZE) ∧ (Zy = Zy ∧ dQ = dQ) ∧ True := ⟨⟨rfl,rfl⟩,⟨rfl,rfl⟩,⟨rfl,rfl⟩,⟨rfl,rfl⟩,⟨rfl,rfl⟩,⟨rfl,rfl⟩,⟨rfl,rfl⟩,⟨rfl,rfl⟩,⟨rfl,rfl⟩,⟨rfl,rfl⟩,⟨rfl,rfl⟩,⟨rfl,rfl⟩,trivial⟩
theorem Z13{α:Type}{a0 a1 a2 a3 a4 a5 a6 a7 a8 a9 Ws Zy a12:α}{b0 b1 b2 b3 b4 b5 b6 b7 b8 b9 ZE dQ rR:Bool}:(a0 = a0 ∧ b0 = b0) ∧ (a1 = a1 ∧ b1 = b1) ∧ (a2 = a2 ∧ b2 = b2) ∧ (a3 = a3 ∧ b3 = b3) ∧ (a4 = a4 ∧ b4 = b4) ∧ (a5 = a5 ∧ b5 = b5) ∧ (a6 = a6 ∧ b6 = b6) ∧ (a7 = a7 ∧ b7 = b7) ∧ (a8 = a8 ∧ b8 = b8) ∧ (a9 = a9 ∧ b9 = b9) ∧ (Ws = Ws ∧ ZE = ZE) ∧ (Zy = Zy ∧ dQ = dQ) ∧ (a12 = a12 ∧ rR = rR) ∧ True := ⟨⟨rfl,rfl⟩,⟨rfl,rfl⟩,⟨rfl,rfl⟩,⟨rfl,rfl⟩,⟨rfl,rfl⟩,⟨rfl,rfl⟩,⟨rfl,rfl⟩,⟨rfl,rfl⟩,⟨rfl,rfl⟩,⟨rfl,rfl⟩,⟨rfl,rfl⟩,⟨rfl,rfl⟩,⟨rfl,rfl⟩,trivial⟩
theorem Nn(i:Nat):(0:Int) ≤ (i:Int) := Int.natCast_nonneg i
abbrev Ic(x:List Rl)(ifs:List (List AV)):List AV := [sl A5 x,.slice .none ifs]
theorem Ps{f:Nat}{fn:Func}{c:Code}{args:List AV}{res:AV}(pl:O3)(hf:Tryz.prog.funcs[f]? = some fn)(hb:fn.body = some c)(hN:args.length ≤ fn.ntmps)(hk:MX (bq pl) c (YD (bq pl) fn.results.toList fun r => GO r res) ⟨LA args,Aa⟩)
    (hn : (fn.name == "runtime.NumGoroutine") = false := by kernel_rfl) (hc : Dx fn.ntmps c = true := by kernel_rfl) : Ln Tryz.prog f args res := F9 (bq pl) rfl BS hm rfl hf hn hb hN hc hk
theorem Lm{α β:Type}(f:α → β){l:List α}:(l.map f).length = l.length := Bp f
theorem Ge{α:Type}{l:List α}{i:Nat}(h:i<l.length):l[i]? = some l[i] := Ay h
end Go.Eng

namespace Go.Proofs
open Go.Shelf
def Tryz.layPdqSpan_ren:Go.Shelf.Ren:=⟨fun | 14=>216 | 20=>250 | 21=>251 | 22=>252 | 23=>253 | 24=>254 | 25=>255 | 26=>256 | 27=>257 | 46=>271 | 47=>195 | 48=>196 | 49=>272 | 50=>273 | 15=>93 | 57=>293 | 28=>147 | 29=>148 | n=>n,fun | 24=>65 | 22=>42 | 3=>3 | 25=>234 | 4=>4 | 0=>0 | 46=>215 | 45=>214 | 50=>90 | 66=>246 | 39=>155 | 55=>223 | 70=>250 | 76=>274 | 77=>275 | 53=>221 | 5=>5 | 9=>9 | n=>n,fun | n=>n⟩
theorem Tryz.layPdqSpan:Go.Proofs.SlLaysF0.n14 Tryz.prog Tryz.layPdqSpan_ren:={
 mixed:=by kernel_rfl
 f14:=⟨Tryz.f216.name,by decide,Tryz.func216.trans (congrArg some (by kernel_rfl))⟩
 f15:=Tryz.func93.trans (congrArg some (by kernel_rfl))
 f20:=⟨Tryz.f250.name,by decide,Tryz.func250.trans (congrArg some (by kernel_rfl))⟩
 f21:=⟨Tryz.f251.name,by decide,Tryz.func251.trans (congrArg some (by kernel_rfl))⟩
 f22:=⟨Tryz.f252.name,by decide,Tryz.func252.trans (congrArg some (by kernel_rfl))⟩
 f23:=⟨Tryz.f253.name,by decide,Tryz.func253.trans (congrArg some (by kernel_rfl))⟩
 f24:=⟨Tryz.f254.name,by decide,Tryz.func254.trans (congrArg some (by kernel_rfl))⟩
 f25:=⟨Tryz.f255.name,by decide,Tryz.func255.trans (congrArg some (by kernel_rfl))⟩
 f26:=⟨Tryz.f256.name,by decide,Tryz.func256.trans (congrArg some (by kernel_rfl))⟩
 f27:=⟨Tryz.f257.name,by decide,Tryz.func257.trans (congrArg some (by kernel_rfl))⟩
 f28:=Tryz.func147.trans (congrArg some (by kernel_rfl))
 f29:=Tryz.func148.trans (congrArg some (by kernel_rfl))
 f46:=⟨Tryz.f271.name,by decide,Tryz.func271.trans (congrArg some (by kernel_rfl))⟩
 f47:=Tryz.func195.trans (congrArg some (by kernel_rfl))
 f48:=Tryz.func196.trans (congrArg some (by kernel_rfl))
 f49:=⟨Tryz.f272.name,by decide,Tryz.func272.trans (congrArg some (by kernel_rfl))⟩
 f50:=⟨Tryz.f273.name,by decide,Tryz.func273.trans (congrArg some (by kernel_rfl))⟩
 f57:=⟨Tryz.f293.name,by decide,Tryz.func293.trans (congrArg some (by kernel_rfl))⟩
 t0:=Tryz.underlying0
 a0:=Tryz.isAgg0
 z0:=Tryz.sizeOf0
 v0:=Tryz.zeroValue0
 t3:=Tryz.underlying3
 a3:=Tryz.isAgg3
 z3:=Tryz.sizeOf3
 v3:=Tryz.zeroValue3
 t4:=Tryz.underlying4
 a4:=Tryz.isAgg4
 z4:=Tryz.sizeOf4
 v4:=Tryz.zeroValue4
 t5:=Tryz.underlying5
 a5:=Tryz.isAgg5
 z5:=Tryz.sizeOf5
 v5:=Tryz.zeroValue5
 t9:=Tryz.underlying9
 a9:=Tryz.isAgg9
 z9:=Tryz.sizeOf9
 v9:=Tryz.zeroValue9
 t22:=Tryz.underlying42
 a22:=Tryz.isAgg42
 z22:=Tryz.sizeOf42
 v22:=Tryz.zeroValue42
 t25:=Tryz.underlying234
 a25:=Tryz.isAgg234
 z25:=Tryz.sizeOf234
 v25:=Tryz.zeroValue234
 t39:=Tryz.underlying155
 a39:=Tryz.isAgg155
 z39:=Tryz.sizeOf155
 v39:=Tryz.zeroValue155
 t45:=Tryz.underlying214
 a45:=Tryz.isAgg214
 z45:=Tryz.sizeOf214
 v45:=Tryz.zeroValue214
 t46:=Tryz.underlying215
 a46:=Tryz.isAgg215
 z46:=Tryz.sizeOf215
 v46:=Tryz.zeroValue215
 t50:=Tryz.underlying90
 a50:=Tryz.isAgg90
 z50:=Tryz.sizeOf90
 v50:=Tryz.zeroValue90
 t53:=Tryz.underlying221
 a53:=Tryz.isAgg221
 z53:=Tryz.sizeOf221
 v53:=Tryz.zeroValue221
 t55:=Tryz.underlying223
 a55:=Tryz.isAgg223
 z55:=Tryz.sizeOf223
 v55:=Tryz.zeroValue223
 t66:=Tryz.underlying246
 a66:=Tryz.isAgg246
 z66:=Tryz.sizeOf246
 v66:=Tryz.zeroValue246
 t70:=Tryz.underlying250
 a70:=Tryz.isAgg250
 z70:=Tryz.sizeOf250
 v70:=Tryz.zeroValue250
 t76:=Tryz.underlying274
 a76:=Tryz.isAgg274
 z76:=Tryz.sizeOf274
 v76:=Tryz.zeroValue274
 t77:=Tryz.underlying275
 a77:=Tryz.isAgg275
 z77:=Tryz.sizeOf275
 v77:=Tryz.zeroValue275 }
def Tryz.layPdqTerm_ren:Go.Shelf.Ren:=⟨fun | 14=>263 | 20=>279 | 21=>280 | 22=>281 | 23=>282 | 24=>283 | 25=>284 | 26=>285 | 27=>286 | 46=>306 | 47=>195 | 48=>196 | 49=>307 | 50=>308 | 15=>93 | 57=>318 | 28=>147 | 29=>148 | n=>n,fun | 24=>208 | 22=>148 | 3=>3 | 25=>272 | 4=>4 | 0=>0 | 46=>215 | 45=>214 | 50=>90 | 66=>246 | 39=>155 | 55=>223 | 70=>250 | 76=>274 | 77=>275 | 53=>221 | 5=>5 | 9=>9 | n=>n,fun | n=>n⟩
theorem Tryz.layPdqTerm:Go.Proofs.SlLaysF0.n14 Tryz.prog Tryz.layPdqTerm_ren:={
 mixed:=by kernel_rfl
 f14:=⟨Tryz.f263.name,by decide,Tryz.func263.trans (congrArg some (by kernel_rfl))⟩
 f15:=Tryz.func93.trans (congrArg some (by kernel_rfl))
 f20:=⟨Tryz.f279.name,by decide,Tryz.func279.trans (congrArg some (by kernel_rfl))⟩
 f21:=⟨Tryz.f280.name,by decide,Tryz.func280.trans (congrArg some (by kernel_rfl))⟩
 f22:=⟨Tryz.f281.name,by decide,Tryz.func281.trans (congrArg some (by kernel_rfl))⟩
 f23:=⟨Tryz.f282.name,by decide,Tryz.func282.trans (congrArg some (by kernel_rfl))⟩
 f24:=⟨Tryz.f283.name,by decide,Tryz.func283.trans (congrArg some (by kernel_rfl))⟩
 f25:=⟨Tryz.f284.name,by decide,Tryz.func284.trans (congrArg some (by kernel_rfl))⟩
 f26:=⟨Tryz.f285.name,by decide,Tryz.func285.trans (congrArg some (by kernel_rfl))⟩
 f27:=⟨Tryz.f286.name,by decide,Tryz.func286.trans (congrArg some (by kernel_rfl))⟩
 f28:=Tryz.func147.trans (congrArg some (by kernel_rfl))
 f29:=Tryz.func148.trans (congrArg some (by kernel_rfl))
 f46:=⟨Tryz.f306.name,by decide,Tryz.func306.trans (congrArg some (by kernel_rfl))⟩
 f47:=Tryz.func195.trans (congrArg some (by kernel_rfl))
 f48:=Tryz.func196.trans (congrArg some (by kernel_rfl))
 f49:=⟨Tryz.f307.name,by decide,Tryz.func307.trans (congrArg some (by kernel_rfl))⟩
 f50:=⟨Tryz.f308.name,by decide,Tryz.func308.trans (congrArg some (by kernel_rfl))⟩
 f57:=⟨Tryz.f318.name,by decide,Tryz.func318.trans (congrArg some (by kernel_rfl))⟩
 t0:=Tryz.underlying0
 a0:=Tryz.isAgg0
 z0:=Tryz.sizeOf0
 v0:=Tryz.zeroValue0
 t3:=Tryz.underlying3
 a3:=Tryz.isAgg3
 z3:=Tryz.sizeOf3
 v3:=Tryz.zeroValue3
 t4:=Tryz.underlying4
 a4:=Tryz.isAgg4
 z4:=Tryz.sizeOf4
 v4:=Tryz.zeroValue4
 t5:=Tryz.underlying5
 a5:=Tryz.isAgg5
 z5:=Tryz.sizeOf5
 v5:=Tryz.zeroValue5
 t9:=Tryz.underlying9
 a9:=Tryz.isAgg9
 z9:=Tryz.sizeOf9
 v9:=Tryz.zeroValue9
 t22:=Tryz.underlying148
 a22:=Tryz.isAgg148
 z22:=Tryz.sizeOf148
 v22:=Tryz.zeroValue148
 t25:=Tryz.underlying272
 a25:=Tryz.isAgg272
 z25:=Tryz.sizeOf272
 v25:=Tryz.zeroValue272
 t39:=Tryz.underlying155
 a39:=Tryz.isAgg155
 z39:=Tryz.sizeOf155
 v39:=Tryz.zeroValue155
 t45:=Tryz.underlying214
 a45:=Tryz.isAgg214
 z45:=Tryz.sizeOf214
 v45:=Tryz.zeroValue214
 t46:=Tryz.underlying215
 a46:=Tryz.isAgg215
 z46:=Tryz.sizeOf215
 v46:=Tryz.zeroValue215
 t50:=Tryz.underlying90
 a50:=Tryz.isAgg90
 z50:=Tryz.sizeOf90
 v50:=Tryz.zeroValue90
 t53:=Tryz.underlying221
 a53:=Tryz.isAgg221
 z53:=Tryz.sizeOf221
 v53:=Tryz.zeroValue221
 t55:=Tryz.underlying223
 a55:=Tryz.isAgg223
 z55:=Tryz.sizeOf223
 v55:=Tryz.zeroValue223
 t66:=Tryz.underlying246
 a66:=Tryz.isAgg246
 z66:=Tryz.sizeOf246
 v66:=Tryz.zeroValue246
 t70:=Tryz.underlying250
 a70:=Tryz.isAgg250
 z70:=Tryz.sizeOf250
 v70:=Tryz.zeroValue250
 t76:=Tryz.underlying274
 a76:=Tryz.isAgg274
 z76:=Tryz.sizeOf274
 v76:=Tryz.zeroValue274
 t77:=Tryz.underlying275
 a77:=Tryz.isAgg275
 z77:=Tryz.sizeOf275
 v77:=Tryz.zeroValue275 }
def Tryz.layPdqSel_ren:Go.Shelf.Ren:=⟨fun | 14=>92 | 20=>139 | 21=>140 | 22=>141 | 23=>142 | 24=>143 | 25=>144 | 26=>145 | 27=>146 | 46=>194 | 47=>195 | 48=>196 | 49=>197 | 50=>198 | 15=>93 | 57=>234 | 28=>147 | 29=>148 | n=>n,fun | 24=>51 | 22=>39 | 3=>3 | 25=>103 | 4=>4 | 0=>0 | 46=>215 | 45=>214 | 50=>90 | 66=>246 | 39=>155 | 55=>223 | 70=>250 | 76=>274 | 77=>275 | 53=>221 | 5=>5 | 9=>9 | n=>n,fun | n=>n⟩
theorem Tryz.layPdqSel:Go.Proofs.SlLaysF0.n14 Tryz.prog Tryz.layPdqSel_ren:={
 mixed:=by kernel_rfl
 f14:=⟨Tryz.f92.name,by decide,Tryz.func92.trans (congrArg some (by kernel_rfl))⟩
 f15:=Tryz.func93.trans (congrArg some (by kernel_rfl))
 f20:=⟨Tryz.f139.name,by decide,Tryz.func139.trans (congrArg some (by kernel_rfl))⟩
 f21:=⟨Tryz.f140.name,by decide,Tryz.func140.trans (congrArg some (by kernel_rfl))⟩
 f22:=⟨Tryz.f141.name,by decide,Tryz.func141.trans (congrArg some (by kernel_rfl))⟩
 f23:=⟨Tryz.f142.name,by decide,Tryz.func142.trans (congrArg some (by kernel_rfl))⟩
 f24:=⟨Tryz.f143.name,by decide,Tryz.func143.trans (congrArg some (by kernel_rfl))⟩
 f25:=⟨Tryz.f144.name,by decide,Tryz.func144.trans (congrArg some (by kernel_rfl))⟩
 f26:=⟨Tryz.f145.name,by decide,Tryz.func145.trans (congrArg some (by kernel_rfl))⟩
 f27:=⟨Tryz.f146.name,by decide,Tryz.func146.trans (congrArg some (by kernel_rfl))⟩
 f28:=Tryz.func147.trans (congrArg some (by kernel_rfl))
 f29:=Tryz.func148.trans (congrArg some (by kernel_rfl))
 f46:=⟨Tryz.f194.name,by decide,Tryz.func194.trans (congrArg some (by kernel_rfl))⟩
 f47:=Tryz.func195.trans (congrArg some (by kernel_rfl))
 f48:=Tryz.func196.trans (congrArg some (by kernel_rfl))
 f49:=⟨Tryz.f197.name,by decide,Tryz.func197.trans (congrArg some (by kernel_rfl))⟩
 f50:=⟨Tryz.f198.name,by decide,Tryz.func198.trans (congrArg some (by kernel_rfl))⟩
 f57:=⟨Tryz.f234.name,by decide,Tryz.func234.trans (congrArg some (by kernel_rfl))⟩
 t0:=Tryz.underlying0
 a0:=Tryz.isAgg0
 z0:=Tryz.sizeOf0
 v0:=Tryz.zeroValue0
 t3:=Tryz.underlying3
 a3:=Tryz.isAgg3
 z3:=Tryz.sizeOf3
 v3:=Tryz.zeroValue3
 t4:=Tryz.underlying4
 a4:=Tryz.isAgg4
 z4:=Tryz.sizeOf4
 v4:=Tryz.zeroValue4
 t5:=Tryz.underlying5
 a5:=Tryz.isAgg5
 z5:=Tryz.sizeOf5
 v5:=Tryz.zeroValue5
 t9:=Tryz.underlying9
 a9:=Tryz.isAgg9
 z9:=Tryz.sizeOf9
 v9:=Tryz.zeroValue9
 t22:=Tryz.underlying39
 a22:=Tryz.isAgg39
 z22:=Tryz.sizeOf39
 v22:=Tryz.zeroValue39
 t25:=Tryz.underlying103
 a25:=Tryz.isAgg103
 z25:=Tryz.sizeOf103
 v25:=Tryz.zeroValue103
 t39:=Tryz.underlying155
 a39:=Tryz.isAgg155
 z39:=Tryz.sizeOf155
 v39:=Tryz.zeroValue155
 t45:=Tryz.underlying214
 a45:=Tryz.isAgg214
 z45:=Tryz.sizeOf214
 v45:=Tryz.zeroValue214
 t46:=Tryz.underlying215
 a46:=Tryz.isAgg215
 z46:=Tryz.sizeOf215
 v46:=Tryz.zeroValue215
 t50:=Tryz.underlying90
 a50:=Tryz.isAgg90
 z50:=Tryz.sizeOf90
 v50:=Tryz.zeroValue90
 t53:=Tryz.underlying221
 a53:=Tryz.isAgg221
 z53:=Tryz.sizeOf221
 v53:=Tryz.zeroValue221
 t55:=Tryz.underlying223
 a55:=Tryz.isAgg223
 z55:=Tryz.sizeOf223
 v55:=Tryz.zeroValue223
 t66:=Tryz.underlying246
 a66:=Tryz.isAgg246
 z66:=Tryz.sizeOf246
 v66:=Tryz.zeroValue246
 t70:=Tryz.underlying250
 a70:=Tryz.isAgg250
 z70:=Tryz.sizeOf250
 v70:=Tryz.zeroValue250
 t76:=Tryz.underlying274
 a76:=Tryz.isAgg274
 z76:=Tryz.sizeOf274
 v76:=Tryz.zeroValue274
 t77:=Tryz.underlying275
 a77:=Tryz.isAgg275
 z77:=Tryz.sizeOf275
 v77:=Tryz.zeroValue275 }
def Tryz.layCompare_ren:Go.Shelf.Ren:=⟨fun | 106=>49 | 213=>94 | 265=>149 | n=>n,fun | 9=>9 | 3=>3 | n=>n,fun | n=>n⟩
theorem Tryz.layCompare:Go.Proofs.Lays.n106 Tryz.prog Tryz.layCompare_ren:={
 mixed:=by kernel_rfl
 f106:=Tryz.func49.trans (congrArg some (by kernel_rfl))
 f213:=Tryz.func94.trans (congrArg some (by kernel_rfl))
 f265:=Tryz.func149.trans (congrArg some (by kernel_rfl))
 t3:=Tryz.underlying3
 a3:=Tryz.isAgg3
 z3:=Tryz.sizeOf3
 v3:=Tryz.zeroValue3
 t9:=Tryz.underlying9
 a9:=Tryz.isAgg9
 z9:=Tryz.sizeOf9
 v9:=Tryz.zeroValue9 }
def Tryz.layBits_ren:Go.Shelf.Ren:=⟨fun | 125=>93 | 128=>147 | 129=>148 | n=>n,fun | 46=>155 | 3=>3 | 51=>221 | 53=>223 | 4=>4 | 5=>5 | 9=>9 | n=>n,fun | n=>n⟩
theorem Tryz.layBits:Go.Proofs.Lays.n125 Tryz.prog Tryz.layBits_ren:={
 mixed:=by kernel_rfl
 f125:=Tryz.func93.trans (congrArg some (by kernel_rfl))
 f128:=Tryz.func147.trans (congrArg some (by kernel_rfl))
 f129:=Tryz.func148.trans (congrArg some (by kernel_rfl))
 t3:=Tryz.underlying3
 a3:=Tryz.isAgg3
 z3:=Tryz.sizeOf3
 v3:=Tryz.zeroValue3
 t4:=Tryz.underlying4
 a4:=Tryz.isAgg4
 z4:=Tryz.sizeOf4
 v4:=Tryz.zeroValue4
 t5:=Tryz.underlying5
 a5:=Tryz.isAgg5
 z5:=Tryz.sizeOf5
 v5:=Tryz.zeroValue5
 t9:=Tryz.underlying9
 a9:=Tryz.isAgg9
 z9:=Tryz.sizeOf9
 v9:=Tryz.zeroValue9
 t46:=Tryz.underlying155
 a46:=Tryz.isAgg155
 z46:=Tryz.sizeOf155
 v46:=Tryz.zeroValue155
 t51:=Tryz.underlying221
 a51:=Tryz.isAgg221
 z51:=Tryz.sizeOf221
 v51:=Tryz.zeroValue221
 t53:=Tryz.underlying223
 a53:=Tryz.isAgg223
 z53:=Tryz.sizeOf223
 v53:=Tryz.zeroValue223 }
def Tryz.laySortInts_ren:Go.Shelf.Ren:=⟨fun | 189=>261 | 125=>93 | 257=>277 | 128=>147 | 129=>148 | 294=>297 | 295=>298 | 296=>299 | 297=>300 | 298=>301 | 299=>302 | 216=>303 | 300=>304 | 301=>305 | 328=>315 | 329=>195 | 330=>196 | 331=>316 | 332=>317 | 215=>249 | 343=>325 | n=>n,fun | 28=>35 | 3=>3 | 46=>155 | 0=>0 | 51=>221 | 53=>223 | 4=>4 | 183=>215 | 182=>214 | 131=>90 | 5=>5 | 9=>9 | 218=>246 | 222=>250 | 228=>274 | 229=>275 | n=>n,fun | n=>n⟩
theorem Tryz.laySortInts:Go.Proofs.Lays.n189 Tryz.prog Tryz.laySortInts_ren:={
 mixed:=by kernel_rfl
 f125:=Tryz.func93.trans (congrArg some (by kernel_rfl))
 f128:=Tryz.func147.trans (congrArg some (by kernel_rfl))
 f129:=Tryz.func148.trans (congrArg some (by kernel_rfl))
 f189:=Tryz.func261.trans (congrArg some (by kernel_rfl))
 f215:=Tryz.func249.trans (congrArg some (by kernel_rfl))
 f216:=Tryz.func303.trans (congrArg some (by kernel_rfl))
 f257:=Tryz.func277.trans (congrArg some (by kernel_rfl))
 f294:=Tryz.func297.trans (congrArg some (by kernel_rfl))
 f295:=Tryz.func298.trans (congrArg some (by kernel_rfl))
 f296:=Tryz.func299.trans (congrArg some (by kernel_rfl))
 f297:=Tryz.func300.trans (congrArg some (by kernel_rfl))
 f298:=Tryz.func301.trans (congrArg some (by kernel_rfl))
 f299:=Tryz.func302.trans (congrArg some (by kernel_rfl))
 f300:=Tryz.func304.trans (congrArg some (by kernel_rfl))
 f301:=Tryz.func305.trans (congrArg some (by kernel_rfl))
 f328:=Tryz.func315.trans (congrArg some (by kernel_rfl))
 f329:=Tryz.func195.trans (congrArg some (by kernel_rfl))
 f330:=Tryz.func196.trans (congrArg some (by kernel_rfl))
 f331:=Tryz.func316.trans (congrArg some (by kernel_rfl))
 f332:=Tryz.func317.trans (congrArg some (by kernel_rfl))
 f343:=Tryz.func325.trans (congrArg some (by kernel_rfl))
 t0:=Tryz.underlying0
 a0:=Tryz.isAgg0
 z0:=Tryz.sizeOf0
 v0:=Tryz.zeroValue0
 t3:=Tryz.underlying3
 a3:=Tryz.isAgg3
 z3:=Tryz.sizeOf3
 v3:=Tryz.zeroValue3
 t4:=Tryz.underlying4
 a4:=Tryz.isAgg4
 z4:=Tryz.sizeOf4
 v4:=Tryz.zeroValue4
 t5:=Tryz.underlying5
 a5:=Tryz.isAgg5
 z5:=Tryz.sizeOf5
 v5:=Tryz.zeroValue5
 t9:=Tryz.underlying9
 a9:=Tryz.isAgg9
 z9:=Tryz.sizeOf9
 v9:=Tryz.zeroValue9
 t28:=Tryz.underlying35
 a28:=Tryz.isAgg35
 z28:=Tryz.sizeOf35
 v28:=Tryz.zeroValue35
 t46:=Tryz.underlying155
 a46:=Tryz.isAgg155
 z46:=Tryz.sizeOf155
 v46:=Tryz.zeroValue155
 t51:=Tryz.underlying221
 a51:=Tryz.isAgg221
 z51:=Tryz.sizeOf221
 v51:=Tryz.zeroValue221
 t53:=Tryz.underlying223
 a53:=Tryz.isAgg223
 z53:=Tryz.sizeOf223
 v53:=Tryz.zeroValue223
 t131:=Tryz.underlying90
 a131:=Tryz.isAgg90
 z131:=Tryz.sizeOf90
 v131:=Tryz.zeroValue90
 t182:=Tryz.underlying214
 a182:=Tryz.isAgg214
 z182:=Tryz.sizeOf214
 v182:=Tryz.zeroValue214
 t183:=Tryz.underlying215
 a183:=Tryz.isAgg215
 z183:=Tryz.sizeOf215
 v183:=Tryz.zeroValue215
 t218:=Tryz.underlying246
 a218:=Tryz.isAgg246
 z218:=Tryz.sizeOf246
 v218:=Tryz.zeroValue246
 t222:=Tryz.underlying250
 a222:=Tryz.isAgg250
 z222:=Tryz.sizeOf250
 v222:=Tryz.zeroValue250
 t228:=Tryz.underlying274
 a228:=Tryz.isAgg274
 z228:=Tryz.sizeOf274
 v228:=Tryz.zeroValue274
 t229:=Tryz.underlying275
 a229:=Tryz.isAgg275
 z229:=Tryz.sizeOf275
 v229:=Tryz.zeroValue275 }
end Go.Proofs

namespace Go.Proofs
open Go.Shelf Go.RowKit Go.Lib Go.Sort
def SpA:Type:={x:Int×Int // 0≤x.1∧x.1≤1000000}
instance:Inhabited SpA:=⟨⟨(0,0),by decide⟩⟩
def encSpA(x:SpA):List Value:=[.int .i64 x.1.1,.int .i64 x.1.2]
def cfSpA(x y:SpA):Int:=x.1.1-y.1.1
set_option maxHeartbeats 1000000 in
theorem Tryz.closure169(x y:SpA)(W:World):Calls Tryz.prog 169 #[.agg #[.int .i64 x.1.1,.int .i64 x.1.2],.agg #[.int .i64 y.1.1,.int .i64 y.1.2]] W fun e w'=>e=.returned (.int .i64 (cfSpA x y))∧∃q os',w'=grow (W.drewN q) os':=by
 obtain⟨⟨a,b⟩,h1,h2⟩:=x;obtain⟨⟨c,d⟩,h3,h4⟩:=y;dsimp only at h1 h2 h3 h4;have hw:IntKind.i64.wrap (a-c)=a-c:=by simp[IntKind.wrap,IntKind.bits,IntKind.signed];omega
 show Calls Tryz.prog 169 #[.agg #[.int .i64 a,.int .i64 b],.agg #[.int .i64 c,.int .i64 d]] W fun e w'=>e=.returned (.int .i64 (a-c))∧∃q os',w'=grow (W.drewN q) os'
 go_enter Tryz.func169,Tryz.ntmps169
 go_wp2
 go_ret
 exact⟨rfl,0,_,by rw[alloc_eq_grow,alloc_eq_grow,grow_grow];rfl⟩
def TmA:Type:=ByteArray×{v:Value // v.oneCell'=true}×{v:Value // v.oneCell'=true}
instance:Inhabited TmA:=⟨⟨ByteArray.empty,⟨.bool false,rfl⟩,⟨.bool false,rfl⟩⟩⟩
def encTmA(x:TmA):List Value:=[.string x.1,x.2.1.1,x.2.2.1]
def cfTmA(x y:TmA):Int:=Lib.compareBytes x.1.data.toList y.1.data.toList
set_option maxHeartbeats 1000000 in
theorem Tryz.closure232(x y:TmA)(W:World):Calls Tryz.prog 232 #[.agg #[.string x.1,x.2.1.1,x.2.2.1],.agg #[.string y.1,y.2.1.1,y.2.2.1]] W fun e w'=>e=.returned (.int .i64 (cfTmA x y))∧∃q os',w'=grow (W.drewN q) os':=by
 have hcon:=fun W'=>Any.strings_Compare Tryz.layCompare x.1 y.1 W';obtain⟨a,⟨b,hb⟩,⟨c,hc⟩⟩:=x;obtain⟨a',⟨b',iO⟩,⟨c',jK⟩⟩:=y;dsimp only at hcon
 change ∀W',Calls Tryz.prog 49 _ _ _ at hcon
 unfold cfTmA;dsimp only;generalize Lib.compareBytes a.data.toList a'.data.toList=r at hcon⊢
 go_enter Tryz.func232,Tryz.ntmps232
 go_wp2_with (go_at_call 49;refine(hcon _).mono ?_;rintro e w' ⟨rfl,rfl⟩)
 go_ret
 exact⟨rfl,0,_,by rw[alloc_eq_grow,alloc_eq_grow,grow_grow];rfl⟩
end Go.Proofs

namespace Go.Eng
open Go.Proofs
theorem mn(v:Ver):PC 131 [.agg (Ix v)] (.agg [vi v.a,vi v.b,vi v.c]):=by
 refine Ps FC Tryz.func131 rfl (Nz rfl) ?_;exact Yi (Nz rfl) (Yi (Nz rfl) (.refl _))
def part(v:Ver):Nat→Int
 |0=>v.a
 |1=>v.b
 |_=>v.c
theorem Vf{v:Ver}{i:Nat}(h:¬okPart (part v i)):CL v=false:=by
 unfold CL
 match i,h with
 |0,h=>have h:¬okPart v.a:=h;simp[h]
 |1,h=>have h:¬okPart v.b:=h;simp[h]
 |_+2,h=>have h:¬okPart v.c:=h;simp[h]
theorem pf(v:Ver):PC 85 [.agg (Ix v)] (vb (CL v)):=by
 refine Ps FC Tryz.func85 rfl (Nz rfl) ?_;refine Yi (Nz rfl) (Xi .pure (Xi _ (Yi (mn v) ?_)));refine Xi {i:Nat // i≤3∧∀j,j<i→okPart (part v j)} (Xi (fun i=>⟨[(6,.agg [vi v.a,vi v.b,vi v.c]),(7,vi i.1)],[],Aa⟩) (Xi (fun i=>3-i.1) (Yi (Xi ⟨0,by simp⟩ ?_) ?_)))
 ·exact⟨Z2,Tv,Fh,Tv⟩
 ·intro⟨i,h1,h2⟩;refine Yi ?_ ?_
  ·intro h;have h:(i:Int)<3:=h;refine Yi ⟨by show(0:Int)≤i;omega,by show(i:Int)<3;omega⟩ ?_;have hp:L4 (([vi v.a,vi v.b,vi v.c]).drop ((i:Int).toNat*1))=fun K=>K (vi (part v i)):=by
    match i,h with
    |0,_=>rfl
    |1,_=>rfl
    |2,_=>rfl
    |_+3,h=>omega
   show L4 (([vi v.a,vi v.b,vi v.c]).drop ((i:Int).toNat*1)) _;rw[hp];refine Yi ?_ ?_
   ·intro h3;have h3:part v i<0:=h3;rw[Vf (i:=i) (by unfold okPart;omega)];exact .refl _
   ·intro h3;have h3:¬part v i<0:=h3;refine Yi ?_ ?_
    ·intro h4;have h4:(999:Int)<part v i:=h4;rw[Vf (i:=i) (by unfold okPart;omega)];exact .refl _
    ·intro h4;have h4:¬(999:Int)<part v i:=h4;refine Yi (Ii i (by omega)) ?_;refine Xi ⟨i+1,by omega,fun j hj=>?_⟩ ?_
     ·by_cases e:j=i
      ·subst e;exact⟨by omega,by omega⟩
      ·exact h2 j (by omega)
     ·exact⟨Dl 3 i (by omega),Z2,Tv,Fh,Tv⟩
  ·intro h;have h:¬(i:Int)<3:=h;have e:i=3:=by omega
   have q:CL v=true:=by
    unfold CL;have a:=h2 0 (by omega);have b:=h2 1 (by omega);have c:=h2 2 (by omega);simp only[part]at a b c;simp[a,b,c]
   rw[q];exact .refl _
theorem pz(v:Ver):PC 44 [.agg (Ix v)] (.tup [vi (if CL v then place v else 0),vi (if CL v then 0 else 2)]):=by
 refine Ps FC Tryz.func44 rfl (Nz rfl) ?_;refine Yi (Nz rfl) (Xi .pure (Xi _ (Yi (pf v) ?_)));cases h:CL v with
 |false=>exact .refl _
 |true =>
  have hv:=He h;refine Yi (by show BQ (1000*v.b);unfold BQ;omega) ?_;exact Yi (by show BQ (1000*v.b+v.c);unfold BQ;omega) (.refl _)
end Go.Eng

namespace Go.Eng
open Go.Proofs
def ER(caps:List AV):Prop:=∀c∈caps,∀h,str0 h c=c
theorem ER.map{caps:List AV}(hs:ER caps)(h:Nat→HO):caps.map (str0 h)=caps:=by
 conv=>rhs;rw[←LL caps]
 exact Be fun c hc=>hs c hc h
theorem ER.ids{caps:List AV}(hs:ER caps)(h:Nat→HO):Xq h caps=true:=by
 induction caps with
 |nil=>rfl
 |cons c r ih =>
  have hc:=hs c (Ab ..) Aa;have h0:ids0 h c=true:=by
   cases c with
   |slice tk es=>cases tk with |none=>rfl |full sz=>simp[str0]at hc |id r sz=>simp[str0]at hc |ver r sz v=>simp[str0]at hc
   |_=>first |rfl |(simp[str0,Aa]at hc)
  unfold Xq;rw[h0];exact ih fun c hc=>hs c (Ag _ hc)
def Jz{α:Type}(p:α→Bool):List α→Int→Int
 | [],_=>-1
 |x::r,i=>if p x then i else Jz p r (i+1)
theorem Pv{α:Type}{p:α→Bool}:∀{l:List α} {i:Nat} {k:Int} (hi:i<l.length),(∀j (hj:j<l.length),j<i→p l[j]=false)→p l[i]=true→Jz p l k=k+i
 |x::r,0,k,_,_,h=>by
  have h:p x=true:=h;simp[Jz,h]
 |x::r,i+1,k,hi,hb,h=>by
  have h0:p x=false:=hb 0 (by simp) (by omega)
  have:=Pv (l:=r) (i:=i) (k:=k+1) (by simpa using hi) (fun j hj MO=>hb (j+1) (by simpa using hj) (by omega)) (by simpa using h)
  simp only[Jz,h0,CT,FL,this];omega
theorem Kx{α:Type}{p:α→Bool}:∀{l:List α} {k:Int},(∀j (hj:j<l.length),p l[j]=false)→Jz p l k=-1
 | [],_,_=>rfl
 |x::r,k,h=>by
  have h0:p x=false:=h 0 (by simp);simp only[Jz,h0,CT,FL];exact Kx fun j hj=>h (j+1) (by simpa using hj)
theorem Mu{α:Type}{p:α→Bool}:∀(l:List α) (k:Int),0≤k→decide (0≤Jz p l k)=l.any p
 | [],k,_=>by simp[Jz]
 |x::r,k,hk=>by
  unfold Jz;cases h:p x with
  |true=>simp[h,hk]
  |false=>simp[h,Mu r (k+1) (by omega)]
-- one for each type of elements
theorem ta{fF:Nat}{caps:List AV}(hs:ER caps)(l:List (Int×Int))(p:Int×Int→Bool)(hF:∀x∈l,PC fF ([.agg (Ap x)]++caps) (vb (p x)))(hl:l.length<9223372036854775807) :
  PC 173 [sl Ap l,.clo fF caps] (vi (Jz p l 0)):=by
 refine Ps FC Tryz.func173 rfl (Nz rfl) ?_;refine Xi {i:Nat // i≤l.length∧∀j (hj:j<l.length),j<i→p l[j]=false} (Xi (fun i=>⟨[(0,sl Ap l),(1,.clo fF caps),(7,vi (l.map Ap).length),(8,vi i.1)],[],Aa⟩) (Xi (fun i=>l.length-i.1) (Yi (Xi ⟨0,by simp⟩ ?_) ?_)))
 ·exact⟨⟨Zr,⟨rfl,hs.ids _⟩,Zr,Zr,Tv⟩,Tv,Fh,Tv⟩
 ·intro⟨i,h1,h2⟩;refine Yi ?_ ?_
  ·intro h;have h:(i:Int)<(l.map Ap).length:=h;have h:i<l.length:=by simpa using h
   have hg:l[i]?=some l[i]:=Ge h;refine Xi (Ap l[i]) (Yi (Yi (Nn i) (by simp[hg])) (Yi rfl (Yi (Nz rfl) ?_)));have DE:∀h,PC fF ([.agg (Ap l[i])]++caps.map (str0 h)) (vb (p l[i])):=fun h=>by rw[hs.map];exact hF l[i] (AC _)
   cases hp:p l[i]with
   |true =>
    rw[hp]at DE;refine Xi .pure (Xi (vb true) (Yi (DE _) ?_));rw[Pv h (fun j hj MO=>h2 j hj MO) hp,Kb];exact .refl _
   |false =>
    rw[hp]at DE;refine Xi .pure (Xi (vb false) (Yi (DE _) ?_));refine Yi (Ii i (by omega)) ?_;refine Xi ⟨i+1,by omega,fun j hj MO=>?_⟩ ?_
    ·by_cases e:j=i
     ·subst e;exact hp
     ·exact h2 j hj (by omega)
    ·exact⟨Dl l.length i (by omega),⟨Zr,⟨rfl,hs.ids _⟩,Zr,Zr,Tv⟩,Tv,Fh,Tv⟩
  ·intro h;have h:¬(i:Int)<(l.map Ap).length:=h;have h:¬i<l.length:=by simpa using h
   rw[Kx fun j hj=>h2 j hj (by omega)];exact .refl _
end Go.Eng

namespace Go.Eng
open Go.Proofs
abbrev Cv{α:Type}(l:List α):Prop:=l.length≤1073741824
theorem Es{α:Type}{enc:α→List AV}{n:Nat}(h:∀x,(enc x).length=n):∀l:List α,BY n (l.map enc)
 | []=>trivial
 |x::l=>⟨h x,Es h l⟩
theorem ZJ{x y:Int×Int}:WR (Ap x) (Ap y)↔x=y:=by
 constructor
 ·intro h;have h:x.1=y.1∧x.2=y.2∧True:=h;exact Prod.ext h.1 h.2.1
 ·rintro rfl;exact⟨rfl,rfl,trivial⟩
theorem ll{x y:Sl}:WR (Aq x) (Aq y)↔x=y:=by
 obtain⟨p,a,b,c⟩:=x;obtain⟨q,d,e,f⟩:=y;constructor
 ·intro h;have h:p=q∧a=d∧b=e∧c=f∧True:=h;obtain⟨rfl,rfl,rfl,rfl,_⟩:=h
  rfl
 ·intro h;cases h;exact⟨rfl,rfl,rfl,rfl,trivial⟩
abbrev AG(l:List Tm):List AV:=[sl AA l]
theorem tH{fF:Nat}{caps:List AV}(hs:ER caps)(l:List (Sl))(p:Sl→Bool)(hF:∀x∈l,PC fF ([.agg (Aq x)]++caps) (vb (p x)))(hl:l.length<9223372036854775807) :
  PC 82 [sl Aq l,.clo fF caps] (vi (Jz p l 0)):=by
 refine F9 (bq FC) rfl BS hm rfl Tryz.func82 (by kernel_rfl) rfl (Nz rfl) (by kernel_rfl) ?_;refine Xi {i:Nat // i≤l.length∧∀j (hj:j<l.length),j<i→p l[j]=false} (Xi (fun i=>⟨[(0,sl Aq l),(1,.clo fF caps),(7,vi (l.map Aq).length),(8,vi i.1)],[],Aa⟩) (Xi (fun i=>l.length-i.1) (Yi (Xi ⟨0,by simp⟩ ?_) ?_)))
 ·exact⟨⟨Zr,⟨rfl,hs.ids _⟩,Zr,Zr,Tv⟩,Tv,Fh,Tv⟩
 ·intro⟨i,h1,h2⟩;refine Yi ?_ ?_
  ·intro h;have h:(i:Int)<(l.map Aq).length:=h;have h:i<l.length:=by simpa using h
   have hg:l[i]?=some l[i]:=Ge h;refine Xi (Aq l[i]) (Yi (Yi (by show(0:Int)≤i;omega) (by simp[hg])) (Yi rfl (Yi (Nz rfl) ?_)));have DE:∀h,PC fF ([.agg (Aq l[i])]++caps.map (str0 h)) (vb (p l[i])):=fun h=>by rw[hs.map];exact hF l[i] (AC _)
   cases hp:p l[i]with
   |true =>
    rw[hp]at DE;refine Xi .pure (Xi (vb true) (Yi (DE _) ?_));rw[Pv h (fun j hj MO=>h2 j hj MO) hp,Kb];exact .refl _
   |false =>
    rw[hp]at DE;refine Xi .pure (Xi (vb false) (Yi (DE _) ?_));refine Yi (Ii i (by omega)) ?_;refine Xi ⟨i+1,by omega,fun j hj MO=>?_⟩ ?_
    ·by_cases e:j=i
     ·subst e;exact hp
     ·exact h2 j hj (by omega)
    ·exact⟨Dl l.length i (by omega),⟨Zr,⟨rfl,hs.ids _⟩,Zr,Zr,Tv⟩,Tv,Fh,Tv⟩
  ·intro h;have h:¬(i:Int)<(l.map Aq).length:=h;have h:¬i<l.length:=by simpa using h
   rw[Kx fun j hj=>h2 j hj (by omega)];exact .refl _
theorem jo{fF:Nat}{caps:List AV}(hs:ER caps)(l:List (Tm))(p:Tm→Bool)(hF:∀x∈l,PC fF ([.agg (AA x)]++caps) (vb (p x)))(hl:l.length<9223372036854775807) :
  PC 189 [sl AA l,.clo fF caps] (vi (Jz p l 0)):=by
 refine F9 (bq FC) rfl BS hm rfl Tryz.func189 (by kernel_rfl) rfl (Nz rfl) (by kernel_rfl) ?_;refine Xi {i:Nat // i≤l.length∧∀j (hj:j<l.length),j<i→p l[j]=false} (Xi (fun i=>⟨[(0,sl AA l),(1,.clo fF caps),(7,vi (l.map AA).length),(8,vi i.1)],[],Aa⟩) (Xi (fun i=>l.length-i.1) (Yi (Xi ⟨0,by simp⟩ ?_) ?_)))
 ·exact⟨⟨Zr,⟨rfl,hs.ids _⟩,Zr,Zr,Tv⟩,Tv,Fh,Tv⟩
 ·intro⟨i,h1,h2⟩;refine Yi ?_ ?_
  ·intro h;have h:(i:Int)<(l.map AA).length:=h;have h:i<l.length:=by simpa using h
   have hg:l[i]?=some l[i]:=Ge h;refine Xi (AA l[i]) (Yi (Yi (by show(0:Int)≤i;omega) (by simp[hg])) (Yi rfl (Yi (Nz rfl) ?_)));have DE:∀h,PC fF ([.agg (AA l[i])]++caps.map (str0 h)) (vb (p l[i])):=fun h=>by rw[hs.map];exact hF l[i] (AC _)
   cases hp:p l[i]with
   |true =>
    rw[hp]at DE;refine Xi .pure (Xi (vb true) (Yi (DE _) ?_));rw[Pv h (fun j hj MO=>h2 j hj MO) hp,Kb];exact .refl _
   |false =>
    rw[hp]at DE;refine Xi .pure (Xi (vb false) (Yi (DE _) ?_));refine Yi (Ii i (by omega)) ?_;refine Xi ⟨i+1,by omega,fun j hj MO=>?_⟩ ?_
    ·by_cases e:j=i
     ·subst e;exact hp
     ·exact h2 j hj (by omega)
    ·exact⟨Dl l.length i (by omega),⟨Zr,⟨rfl,hs.ids _⟩,Zr,Zr,Tv⟩,Tv,Fh,Tv⟩
  ·intro h;have h:¬(i:Int)<(l.map AA).length:=h;have h:¬i<l.length:=by simpa using h
   rw[Kx fun j hj=>h2 j hj (by omega)];exact .refl _
theorem sN{fF:Nat}{caps:List AV}(hs:ER caps)(l:List (Int×Int))(p:Int×Int→Bool)(hF:∀x∈l,PC fF ([.agg (Ap x)]++caps) (vb (p x)))(hl:Cv l) :
  PC 119 [sl Ap l,.clo fF caps] (vb (l.any p)):=by
 refine F9 (bq FC) rfl BS hm rfl Tryz.func119 (by kernel_rfl) rfl (Nz rfl) (by kernel_rfl) ?_;have hi:=ta hs l p hF (by unfold Cv at hl;omega);have DE:∀h,PC 173 [sl Ap l,.clo fF (caps.map (str0 h))] (vi (Jz p l 0)):=fun h=>by rw[hs.map];exact hi
 refine Xi .pure (Xi _ (Yi (DE _) ?_));have ha:=Mu (p:=p) l 0 (BP 0);refine Yi ?_ ?_
 ·intro h;have h:(0:Int)≤Jz p l 0:=h;rw[←ha,AE h];exact .refl _
 ·intro h;have h:¬(0:Int)≤Jz p l 0:=h;rw[←ha,AD h];exact .refl _
theorem xa{fF:Nat}{caps:List AV}(hs:ER caps)(l:List (Sl))(p:Sl→Bool)(hF:∀x∈l,PC fF ([.agg (Aq x)]++caps) (vb (p x)))(hl:Cv l) :
  PC 80 [sl Aq l,.clo fF caps] (vb (l.any p)):=by
 refine F9 (bq FC) rfl BS hm rfl Tryz.func80 (by kernel_rfl) rfl (Nz rfl) (by kernel_rfl) ?_;have hi:=tH hs l p hF (by unfold Cv at hl;omega);have DE:∀h,PC 82 [sl Aq l,.clo fF (caps.map (str0 h))] (vi (Jz p l 0)):=fun h=>by rw[hs.map];exact hi
 refine Xi .pure (Xi _ (Yi (DE _) ?_));have ha:=Mu (p:=p) l 0 (BP 0);refine Yi ?_ ?_
 ·intro h;have h:(0:Int)≤Jz p l 0:=h;rw[←ha,AE h];exact .refl _
 ·intro h;have h:¬(0:Int)≤Jz p l 0:=h;rw[←ha,AD h];exact .refl _
theorem ml{fF:Nat}{caps:List AV}(hs:ER caps)(l:List (Tm))(p:Tm→Bool)(hF:∀x∈l,PC fF ([.agg (AA x)]++caps) (vb (p x)))(hl:Cv l) :
  PC 135 [sl AA l,.clo fF caps] (vb (l.any p)):=by
 refine F9 (bq FC) rfl BS hm rfl Tryz.func135 (by kernel_rfl) rfl (Nz rfl) (by kernel_rfl) ?_;have hi:=jo hs l p hF (by unfold Cv at hl;omega);have DE:∀h,PC 189 [sl AA l,.clo fF (caps.map (str0 h))] (vi (Jz p l 0)):=fun h=>by rw[hs.map];exact hi
 refine Xi .pure (Xi _ (Yi (DE _) ?_));have ha:=Mu (p:=p) l 0 (BP 0);refine Yi ?_ ?_
 ·intro h;have h:(0:Int)≤Jz p l 0:=h;rw[←ha,AE h];exact .refl _
 ·intro h;have h:¬(0:Int)≤Jz p l 0:=h;rw[←ha,AD h];exact .refl _
theorem sR(l:List (Int×Int))(hl:Cv l):PC 186 [sl Ap l] (sl Ap l):=by
 refine F9 (bq FC) rfl BS hm rfl Tryz.func186 (by kernel_rfl) rfl (Nz rfl) (by kernel_rfl) ?_;have Ei:BY 2 (l.map Ap)∧([]:List (List AV)).length=0∧(([]:List (List AV)).length+(l.map Ap).length)*16≤140737488355328∧([]:List (List AV)).length+(l.map Ap).length≤9223372036854775807:=by
  refine⟨Es (enc:=Ap) (n:=2) (fun _=>rfl) l,rfl,?_,?_⟩<;>simp only[Ar,Lm]<;>unfold Cv at hl<;>omega
 refine Yi ?_ ?_
 ·intro _;exact Yi Ei (.refl _)
 ·intro h;have h:l.map Ap=[]:=h;refine Yi ?_ ?_
  ·show GO (.v (.slice none 0 0)) (.slice .none (l.map Ap));rw[h];exact .nil
  ·exact Yi Ei (.refl _)
theorem pi(l m:List (Int×Int))(hl:Cv l):PC 167 [sl Ap l,sl Ap m] (vb (decide (l=m))):=by
 refine F9 (bq FC) rfl BS hm rfl Tryz.func167 (by kernel_rfl) rfl (Nz rfl) (by kernel_rfl) ?_;refine Yi ?_ ?_
 ·intro h;have h:¬((l.map Ap).length:Int)=(m.map Ap).length:=h
  have:l≠m:=fun e=>h (by rw[e])
  rw[AD this];exact .refl _
 ·intro h;have h:¬((l.map Ap).length:Int)≠(m.map Ap).length:=h;have CM:l.length=m.length:=by simp at h;omega
  refine Xi {i:Nat // i≤l.length∧l.take i=m.take i} (Xi (fun i=>⟨[(0,sl Ap l),(1,sl Ap m),(12,vi (l.map Ap).length),(13,vi i.1)],[],Aa⟩) (Xi (fun i=>l.length-i.1) (Yi (Xi ⟨0,by simp⟩ ?_) ?_)))
  ·exact⟨⟨Zr,Zr,Zr,Zr,Tv⟩,Tv,Fh,Tv⟩
  ·intro⟨i,h1,h2⟩;refine Yi ?_ ?_
   ·intro h;have h:(i:Int)<(l.map Ap).length:=h;have h:i<l.length:=by simpa using h
    have h' : i<m.length:=by omega
    have hg:l[i]?=some l[i]:=Ge h;have Xf : m[i]?=some m[i]:=Ge h';refine Xi (Ap l[i]) (Yi (Yi (by show(0:Int)≤i;omega) (by simp[hg])) (Yi rfl (Yi (Nz rfl) ?_)));refine Xi (Ap m[i]) (Yi (Yi (by show(0:Int)≤i;omega) (by simp[Xf])) (Yi rfl (Yi (Nz rfl) ?_)));refine Yi ?_ ?_
    ·intro h5;have e:l[i]=m[i]:=ZJ.1 h5;refine Yi (by kernel_rfl) ?_;refine Yi (by show BQ ((i:Int)+1);unfold Cv at hl;unfold BQ;omega) ?_;refine Xi ⟨i+1,by omega,?_⟩ ?_
     ·rw[Bk,Bk,h2,hg,Xf,e]
     ·exact⟨Dl l.length i (by omega),⟨Zr,Zr,Zr,Zr,Tv⟩,Tv,Fh,Tv⟩
    ·intro h5;refine Yi (by kernel_rfl) ?_
     have:l≠m:=fun e=>h5 (ZJ.2 (by subst e;rfl))
     rw[AD this];exact .refl _
   ·intro h;have h:¬(i:Int)<(l.map Ap).length:=h;have h:¬i<l.length:=by simpa using h
    have e:l=m:=by
     rw[←AI (l:=l) (i:=i) (by omega),h2,AI (by omega)]
    rw[AE e];exact .refl _
theorem w7(l m:List (Sl))(hl:Cv l):PC 18 [sl Aq l,sl Aq m] (vb (decide (l=m))):=by
 refine F9 (bq FC) rfl BS hm rfl Tryz.func18 (by kernel_rfl) rfl (Nz rfl) (by kernel_rfl) ?_;refine Yi ?_ ?_
 ·intro h;have h:¬((l.map Aq).length:Int)=(m.map Aq).length:=h
  have:l≠m:=fun e=>h (by rw[e])
  rw[AD this];exact .refl _
 ·intro h;have h:¬((l.map Aq).length:Int)≠(m.map Aq).length:=h;have CM:l.length=m.length:=by simp at h;omega
  refine Xi {i:Nat // i≤l.length∧l.take i=m.take i} (Xi (fun i=>⟨[(0,sl Aq l),(1,sl Aq m),(12,vi (l.map Aq).length),(13,vi i.1)],[],Aa⟩) (Xi (fun i=>l.length-i.1) (Yi (Xi ⟨0,by simp⟩ ?_) ?_)))
  ·exact⟨⟨Zr,Zr,Zr,Zr,Tv⟩,Tv,Fh,Tv⟩
  ·intro⟨i,h1,h2⟩;refine Yi ?_ ?_
   ·intro h;have h:(i:Int)<(l.map Aq).length:=h;have h:i<l.length:=by simpa using h
    have h' : i<m.length:=by omega
    have hg:l[i]?=some l[i]:=Ge h;have Xf : m[i]?=some m[i]:=Ge h';refine Xi (Aq l[i]) (Yi (Yi (by show(0:Int)≤i;omega) (by simp[hg])) (Yi rfl (Yi (Nz rfl) ?_)));refine Xi (Aq m[i]) (Yi (Yi (by show(0:Int)≤i;omega) (by simp[Xf])) (Yi rfl (Yi (Nz rfl) ?_)));refine Yi ?_ ?_
    ·intro h5;have e:l[i]=m[i]:=ll.1 h5;refine Yi (by kernel_rfl) ?_;refine Yi (by show BQ ((i:Int)+1);unfold Cv at hl;unfold BQ;omega) ?_;refine Xi ⟨i+1,by omega,?_⟩ ?_
     ·rw[Bk,Bk,h2,hg,Xf,e]
     ·exact⟨Dl l.length i (by omega),⟨Zr,Zr,Zr,Zr,Tv⟩,Tv,Fh,Tv⟩
    ·intro h5;refine Yi (by kernel_rfl) ?_
     have:l≠m:=fun e=>h5 (ll.2 (by subst e;rfl))
     rw[AD this];exact .refl _
   ·intro h;have h:¬(i:Int)<(l.map Aq).length:=h;have h:¬i<l.length:=by simpa using h
    have e:l=m:=by
     rw[←AI (l:=l) (i:=i) (by omega),h2,AI (by omega)]
    rw[AE e];exact .refl _
end Go.Eng

namespace Go.Eng
open Go.Proofs
abbrev iX(l:List Nat):O3:=⟨l,[],[],[],[],[],[],[],[],[],[]⟩
theorem ER.ptr(cs:List AV):ER [.cptr cs]:=fun c hc h=>by
 rw[Ai.1 hc];rfl
theorem sO(s:Int×Int)(p:Int):PC 120 [.agg (Ap s),.cptr [vi p]] (vb (BN p s)):=by
 refine Ps FC Tryz.func120 rfl (Nz rfl) ?_;refine Yi ?_ ?_
 ·intro h;have h:s.1≤p:=h;refine Yi ?_ ?_
  ·intro h2;have h2:p<s.2:=h2;rw[show BN p s=true by simp[BN,h,h2]];exact .refl _
  ·intro h2;have h2:¬p<s.2:=h2;rw[show BN p s=false by simp[BN,h2]];exact .refl _
 ·intro h;have h:¬s.1≤p:=h;rw[show BN p s=false by simp[BN,h]];exact .refl _
theorem mF(s:List (Int×Int))(p:Int)(hl:Cv s):PC 68 [sl Ap s,vi p] (vb (has s p)):=by
 refine Ps (iX [3]) Tryz.func68 rfl (Nz rfl) ?_;refine Yi ?_ ?_
 ·intro h;have h:0≤p:=h;refine Yi ?_ ?_
  ·intro h2;have h2:p<1000000:=h2;refine Xi .pure (Xi _ (Yi (sN (ER.ptr [vi p]) s (BN p) (fun x _=>sO x p) hl) ?_));rw[show has s p=s.any (BN p) by simp[has,h,h2]];cases s.any (BN p)<;>exact .refl _
  ·intro h2;have h2:¬p<1000000:=h2;rw[show has s p=false by simp[has,h2]];exact .refl _
 ·intro h;have h:¬0≤p:=h;rw[show has s p=false by simp[has,h]];exact .refl _

theorem xc(r:Rl):PC 98 [.agg (A5 r)] (vi (plc r.ver)):=by
 refine Ps FC Tryz.func98 rfl (Nz rfl) ?_;exact Yi (Nz rfl) (Xi .pure (Xi _ (Yi (pz r.ver) (.refl _))))
theorem zi(x:Sl)(t:Tm):PC 235 [.agg (Aq x),.cptr (AA t)] (vb (decide (x.path=t.path))):=by
 refine Ps FC Tryz.func235 rfl (Nz rfl) ?_;refine Yi ?_ ?_
 ·intro h;have h:x.path=t.path:=h;rw[AE h];exact .refl _
 ·intro h;have h:¬x.path=t.path:=h;rw[AD h];exact .refl _
theorem L7{α:Type}{p:α→Bool}:∀(l:List α) (k:Int),(Jz p l k=-1∧l.find? p=none)∨∃i x,Jz p l k=k+(i:Nat)∧l[i]?=some x∧l.find? p=some x
 | [],k=>.inl Zr
 |x::r,k=>by
  cases h:p x with
  |true=>exact .inr ⟨0,x,by simp[Jz,h],rfl,by simp[h]⟩
  |false =>
   rcases L7 (p:=p) r (k+1)with ⟨h1,h2⟩ | ⟨i,y,h1,h2,h3⟩
   ·exact .inl ⟨by simp[Jz,h,h1],by simp[h,h2]⟩
   ·exact .inr ⟨i+1,y,by simp only[Jz,h,CT,FL,h1];omega,by simpa using h2,by simp[h,h3]⟩
theorem y8(t:Tm)(s:List Sl)(hl:Cv s)(ht:Cv t.set):PC 199 [.agg (AA t),sl Aq s] (vb (GI t s)):=by
 have hc:=tH (ER.ptr (AA t)) s (fun x=>decide (x.path=t.path)) (fun x _=>zi x t) (by unfold Cv at hl;omega);unfold GI;rcases L7 (p:=fun x:Sl=>decide (x.path=t.path)) s 0 with ⟨h1,h2⟩ | ⟨i,x,h1,h2,h3⟩
 ·rw[h1]at hc;rw[h2];refine Ps (iX [2]) Tryz.func199 rfl (Nz rfl) ?_;refine Xi .pure (Xi _ (Yi hc ?_));refine Yi ?_ ?_
  ·intro _;refine Yi ?_ ?_
   ·intro h;have h:t.absent=true:=h;rw[h];exact .refl _
   ·intro h;have h:t.absent=false:=h;rw[h];exact .refl _
  ·intro h;exact absurd (show(-1:Int)<0 by decide) h
 ·rw[h1,Kb]at hc;rw[h3];have hg:(s.map Aq)[((i:Nat):Int).toNat]?=some (Aq x):=by rw[BT,AH,h2];rfl
  have hp:=pz x.ver;dsimp only;rcases Bt (CL x.ver)with hv | hv
  ·rw[hv,Aw rfl,Aw rfl]at hp;rw[hv];refine Ps (iX [2]) Tryz.func199 rfl (Nz rfl) ?_;refine Xi .pure (Xi _ (Yi hc ?_));refine Yi ?_ ?_
   ·intro h;have h:(i:Int)<0:=h;omega
   ·intro _;refine Xi (Aq x) (Yi (Yi (Nn i) hg) (Yi rfl (Yi (Nz rfl) ?_)));refine Xi .pure (Xi _ (Yi hp ?_));refine Yi ?_ ?_
    ·intro _;refine Xi .pure (Xi _ (Yi (mF t.set (place x.ver) ht) ?_));exact .refl _
    ·intro h;exact absurd rfl h
  ·rw[hv,Am (by decide),Am (by decide)]at hp;rw[hv];refine Ps (iX [2]) Tryz.func199 rfl (Nz rfl) ?_;refine Xi .pure (Xi _ (Yi hc ?_));refine Yi ?_ ?_
   ·intro h;have h:(i:Int)<0:=h;omega
   ·intro _;refine Xi (Aq x) (Yi (Yi (Nn i) hg) (Yi rfl (Yi (Nz rfl) ?_)));refine Xi .pure (Xi _ (Yi hp ?_));refine Yi ?_ ?_
    ·intro h;have h:(2:Int)=0:=h;omega
    ·intro _;exact .refl _
end Go.Eng

namespace Go.Eng
open Go.Proofs
theorem jg{α:Type}{p:α→Bool}{l:List α}{i:Nat}(h:∀j (hj:j<l.length),j<i→p l[j]=true)(hi:¬i<l.length):l.all p=true:=by
 rw[BB];intro x hx;obtain⟨j,hj,rfl⟩:=DP.1 hx;exact h j hj (by omega)
theorem l7{α:Type}{p:α→Bool}{l:List α}{i:Nat}(hi:i<l.length)(h:p l[i]=false):l.all p=false:=by
 rw[List.all_eq_false];exact⟨l[i],AC hi,by simp[h]⟩
abbrev dD(l:List Tm):Prop:=Cv l∧∀t∈l,Cv t.set
theorem yW(l:List Tm)(s:List Sl)(hl:dD l)(hs:Cv s):PC 151 [sl AA l,sl Aq s] (vb (l.all fun t=>GI t s)):=by
 have hc:∀i (h:i<l.length),PC 199 [.agg (AA l[i]),sl Aq s] (vb (GI l[i] s)):=fun i h=>y8 l[i] s hs (hl.2 _ (AC h));obtain⟨hl,_⟩:=hl;unfold Cv at hl;refine Ps FC Tryz.func151 rfl (Nz rfl) ?_;refine Xi {i:Nat // i≤l.length∧∀j (hj:j<l.length),j<i→GI l[j] s=true} (Xi (fun i=>⟨[(0,sl AA l),(1,sl Aq s),(7,vi (l.map AA).length),(8,vi i.1)],[],Aa⟩) (Xi (fun i=>l.length-i.1) (Yi (Xi ⟨0,by simp⟩ ?_) ?_)))
 ·exact⟨Z4,Tv,Fh,Tv⟩
 ·intro⟨i,h1,h2⟩;refine Yi ?_ ?_
  ·intro h;have h:(i:Int)<(l.map AA).length:=h;have h:i<l.length:=by simpa using h
   have hg:l[i]?=some l[i]:=Ge h;have rY:=hc i h;refine Xi (AA l[i]) (Yi (Yi (Nn i) (by simp[hg])) (Yi rfl (Yi (Nz rfl) ?_)));cases hp:GI l[i] s with
   |false =>
    rw[hp]at rY;refine Xi .pure (Xi _ (Yi rY ?_));rw[l7 (p:=fun t=>GI t s) h hp];exact .refl _
   |true =>
    rw[hp]at rY;refine Xi .pure (Xi _ (Yi rY ?_));refine Yi (Ii i (by omega)) ?_;refine Xi ⟨i+1,by omega,fun j hj MO=>?_⟩ ?_
    ·by_cases e:j=i
     ·subst e;exact hp
     ·exact h2 j hj (by omega)
    ·exact⟨Dl l.length i (by omega),Z4,Tv,Fh,Tv⟩
  ·intro h;have h:¬(i:Int)<(l.map AA).length:=h;have h:¬i<l.length:=by simpa using h
   rw[jg (p:=fun t=>GI t s) h2 h];exact .refl _
theorem sQ(x:Sl)(t:Tm):PC 153 [.agg (Aq x),.cptr (AA t)] (vb (decide (x.path=t.path))):=by
 refine Ps FC Tryz.func153 rfl (Nz rfl) ?_;refine Yi ?_ ?_
 ·intro h;have h:x.path=t.path:=h;rw[AE h];exact .refl _
 ·intro h;have h:¬x.path=t.path:=h;rw[AD h];exact .refl _
theorem sP(t:Tm)(s:List Sl)(hs:Cv s):PC 152 [.agg (AA t),.cptr [sl Aq s]] (vb (!Co s t.path)):=by
 have hc:=xa (ER.ptr (AA t)) s (fun x=>decide (x.path=t.path)) (fun x _=>sQ x t) hs;unfold Co;cases hp:s.any fun x=>decide (x.path=t.path)with
 |true =>
  rw[hp]at hc;refine Ps (iX [2]) Tryz.func152 rfl (Nz rfl) ?_;exact Xi .pure (Xi _ (Yi hc (.refl _)))
 |false =>
  rw[hp]at hc;refine Ps (iX [2]) Tryz.func152 rfl (Nz rfl) ?_;exact Xi .pure (Xi _ (Yi hc (.refl _)))
theorem xd(l:List Tm)(s:List Sl)(hl:dD l)(hs:Cv s):PC 101 [sl AA l,sl Aq s] (vb (Cr l s)):=by
 have hv:=yW l s hl hs;have hc:=ml (ER.ptr [sl Aq s]) l (fun t=>!Co s t.path) (fun t _=>sP t s hs) hl.1;unfold Cr Bg;cases h1:l.all fun t=>GI t s with
 |false =>
  rw[h1]at hv;refine Ps (iX [3]) Tryz.func101 rfl (Nz rfl) ?_;exact Xi .pure (Xi _ (Yi hv (.refl _)))
 |true =>
  rw[h1]at hv;cases h2:l.any fun t=>!Co s t.path with
  |true =>
   rw[h2]at hc;refine Ps (iX [3]) Tryz.func101 rfl (Nz rfl) ?_;exact Xi .pure (Xi _ (Yi hv (Xi .pure (Xi _ (Yi hc (.refl _))))))
  |false =>
   rw[h2]at hc;refine Ps (iX [3]) Tryz.func101 rfl (Nz rfl) ?_;exact Xi .pure (Xi _ (Yi hv (Xi .pure (Xi _ (Yi hc (.refl _))))))
end Go.Eng

namespace Go.Eng
open Go.Proofs
end Go.Eng

namespace Go.Eng
open Go.Proofs
end Go.Eng

namespace Go.Eng
open Go.Proofs
end Go.Eng

namespace Go.Eng
open Go.Proofs
end Go.Eng

namespace Go.Eng
open Go.Proofs
abbrev Jb(a:An):List AV:=[vb a.found,sl Aq a.sel,sl AU a.infs,sl Bw a.skips]
theorem mj(r:Rl):PC 113 [.agg (A5 r)] (.agg (Aq ⟨r.path,r.ver⟩)):=by
 refine Ps FC Tryz.func113 rfl (Nz rfl) ?_;exact Yi (Nz rfl) (Yi (Nz rfl) (Yi (Nz rfl) (.refl _)))
end Go.Eng

namespace Go.Eng
open Go.Proofs
end Go.Eng

namespace Go.Eng
open Go.Proofs
end Go.Eng

namespace Go.Eng
open Go.Proofs
end Go.Eng

namespace Go.Eng
open Go.Proofs
end Go.Eng

namespace Go.Eng
open Go.Proofs Go.Shelf Go.RowKit Go.Lib Go.Sort
theorem ac(x y:SpA):ltOf cfSpA x y=decide (x.1.1<y.1.1):=by
 unfold ltOf cfSpA;rw[BX];simp only[Az];omega
theorem iy:SWO (ltOf cfSpA) where
 irrefl x:=by rw[ac];simp
 trans x y z h1 h2:=by rw[ac]at *;simp at *;omega
 ntrans x y z h1 h2:=by rw[ac]at *;simp at *;omega
theorem SQ:∀x y:List UInt8,decide (Lib.compareBytes x y<0)=J4 x y
 | [],[]=>rfl
 | [],_::_=>rfl
 |_::_,[]=>rfl
 |a::x,b::y=>by
  unfold Lib.compareBytes J4
  by_cases h:a<b
  ·simp[h]
  ·by_cases h2:b<a
   ·have:¬a=b:=fun e=>by subst e;exact absurd h2 (UInt8.lt_irrefl a)
    simp[h,h2,this]
   ·have e:a=b:=UInt8.le_antisymm (UInt8.not_lt.1 h2) (UInt8.not_lt.1 h);subst e;simp[UInt8.lt_irrefl,SQ x y]
theorem af(x y:TmA):ltOf cfTmA x y=FV x.1 y.1:=SQ _ _
theorem iz:SWO (ltOf cfTmA) where
 irrefl x:=by rw[af];exact DM _
 trans x y z h1 h2:=by rw[af]at *;exact EN h1 h2
 ntrans x y z h1 h2:=by
  rw[af]at *
  rw[AL];intro h;cases oK:FV y.1 x.1 with
  |true=>have:=EN oK h;rw[h2]at this;cases this
  |false =>
   have e:=JC h1 oK;rw[e]at h;rw[h2]at h;cases h
abbrev GC(k:Nat):Value:=.func (.func k) #[] #[]
theorem eB (k : Nat) {fn : Func} {c : Code} (hf : Tryz.prog.funcs[k]? = some fn) (hn : (fn.name == "runtime.NumGoroutine") = false) (hb : fn.body = some c) : Gb Tryz.prog k := bv hf hn hb
theorem tc(l:List (Int×Int))(hl:Cv l)(h:∀x∈l,0≤x.1∧x.1≤1000000)(lim:Nat)(Xh:lim<100) :
  Bn Tryz.prog 216 [.msl 1000 l.length,vi 0,vi l.length,vi lim,.v (GC 169)] (Ad [(1000,.arr 2 (l.map Ap))] Aa) fun r h' =>
   r=.tup []∧∃l' : List (Int×Int),l'.Perm l∧l'.Pairwise (fun x y=>x.1≤y.1)∧h'=Ad [(1000,.arr 2 (l'.map Ap))] Aa:=by
 have hl:l.length≤1073741824:=hl;have hE:Gb Tryz.prog 216:=eB 216 Tryz.func216 (by kernel_rfl) rfl;have eg:∀args w,(callFunc 169 args).run Tryz.prog w=.ok (.enter 169 args) w:=enters_of Tryz.func169 (by kernel_rfl) rfl;have Ik:=I8 (P:=Tryz.prog) (f:=216) (α:=SpA) (rest:=[.int .i64 0,.int .i64 l.length,.int .i64 lim,GC 169]) hE Ap encSpA (k:=2) (fun _=>rfl) (fun _=>rfl) (ltOf cfSpA) (fun x a=>a.1=x) l (by omega) ?_ ?_ ?_
 ·refine⟨hE,fun g w vals q1 q2 q3=>(Ik.2 g w vals q1 q2 q3).mono fun _ _ ⟨v,r,h',g',e1,⟨e2,l',p1,⟨al,a1,a2,a3⟩,p2⟩,rest⟩=>⟨v,r,h',g',e1,⟨e2,l',p1,?_,p2⟩,rest⟩⟩;rw[Bb]at a3⊢;intro i j hi hj Qs
  have:=a3 i j (by omega) (by omega) Qs
  rw[ac]at this;have e1:=a2 i _ _ (Ay hi) (Ay (by omega));have e2:=a2 j _ _ (Ay hj) (Ay (by omega));rw[←e1,←e2]
  have:=of_decide_eq_false this
  omega
 ·intro x hx g w vs hr
  match vs,hr with
  | [a,b],hr =>
   have h1:=(hr.2.2 0 (vi x.1) a rfl rfl).v_eq;have h2:=(hr.2.2 1 (vi x.2) b rfl rfl).v_eq;subst h1;subst h2;exact⟨⟨x,h x hx⟩,rfl,rfl⟩
  | [],hr=>have:=hr.1;simp at this
  | [_],hr=>have:=hr.1;simp at this
  |_::_::_::_,hr=>have:=hr.1;simp at this
 ·intro w b cap d hH hb Ew hdl;have fp:CmpLays Tryz.prog 169 #[] encSpA 2 cfSpA b 0 d.size w:=fun _ _ _ _ x y=>Tryz.closure169 x y _;have hp:=AnyQ.pdqsortCmpFunc_all Tryz.layPdqSpan 2 Tryz.isAgg65 Tryz.sizeOf65 encSpA cfSpA 169 #[] iy b 0 cap d w eg fp ⟨fun _=>rfl,fun x v hv=>by simp[encSpA]at hv;rcases hv with rfl | rfl<;>rfl,hH,hb⟩ (d.size+1) 0 d.size lim d w (by omega) rfl (SWK.start hH) (AS _) (Ak _) Ew (by omega) (Or.inl rfl)
  rw[hdl]at hp⊢;refine hp.mono ?_
  rintro e w' ⟨rfl,n,os,rfl⟩
  have h:=pdq_sorts (ltOf cfSpA) iy d 0 d.size lim true true (AS _) (Ak _) (Or.inl rfl);rw[hdl]at h;exact⟨rfl,_,n,os,h.1,h.2,rfl⟩
 ·intro e w;subst e;exact AnyF.pdqsortCmpFunc_none Tryz.layPdqSpan none 0 lim (GC 169) w
theorem sK(l:List Tm)(hl:Cv l)(lim:Nat)(Xh:lim<100) :
  Bn Tryz.prog 263 [.msl 1000 l.length,vi 0,vi l.length,vi lim,.v (GC 232)] (Ad [(1000,.arr 3 (l.map AA))] Aa) fun r h' =>
   r=.tup []∧∃l' : List Tm,l'.Perm l∧l'.Pairwise (fun x y=>FV y.path x.path=false)∧h'=Ad [(1000,.arr 3 (l'.map AA))] Aa:=by
 have hl:l.length≤1073741824:=hl;have hE:Gb Tryz.prog 263:=eB 263 Tryz.func263 (by kernel_rfl) rfl;have eg:∀args w,(callFunc 232 args).run Tryz.prog w=.ok (.enter 232 args) w:=enters_of Tryz.func232 (by kernel_rfl) rfl;have Ik:=I8 (P:=Tryz.prog) (f:=263) (α:=TmA) (rest:=[.int .i64 0,.int .i64 l.length,.int .i64 lim,GC 232]) hE AA encTmA (k:=3) (fun _=>rfl) (fun _=>rfl) (ltOf cfTmA) (fun x a=>a.1=x.path) l (by omega) ?_ ?_ ?_
 ·refine⟨hE,fun g w vals q1 q2 q3=>(Ik.2 g w vals q1 q2 q3).mono fun _ _ ⟨v,r,h',g',e1,⟨e2,l',p1,⟨al,a1,a2,a3⟩,p2⟩,rest⟩=>⟨v,r,h',g',e1,⟨e2,l',p1,?_,p2⟩,rest⟩⟩;rw[Bb]at a3⊢;intro i j hi hj Qs
  have:=a3 i j (by omega) (by omega) Qs
  rw[af]at this;have e1:=a2 i _ _ (Ay hi) (Ay (by omega));have e2:=a2 j _ _ (Ay hj) (Ay (by omega));rw[←e1,←e2];exact this
 ·intro x hx g w vs hr
  match vs,hr with
  | [a,b,c],hr =>
   have h1:=(hr.2.2 0 (Go.Eng.vs x.path) a rfl rfl).v_eq;subst h1;exact⟨⟨x.path,⟨b,hr.2.1 b (by simp)⟩,⟨c,hr.2.1 c (by simp)⟩⟩,rfl,rfl⟩
  | [],hr=>have:=hr.1;simp at this
  | [_],hr=>have:=hr.1;simp at this
  | [_,_],hr=>have:=hr.1;simp at this
  |_::_::_::_::_,hr=>have:=hr.1;simp at this
 ·intro w b cap d hH hb Ew hdl;have fp:CmpLays Tryz.prog 232 #[] encTmA 3 cfTmA b 0 d.size w:=fun _ _ _ _ x y=>Tryz.closure232 x y _;have hp:=AnyQ.pdqsortCmpFunc_all Tryz.layPdqTerm 3 Tryz.isAgg208 Tryz.sizeOf208 encTmA cfTmA 232 #[] iz b 0 cap d w eg fp ⟨fun _=>rfl,fun x v hv=>by
    simp only[encTmA,AF,Lx,or_false]at hv;rcases hv with rfl | rfl | rfl
    ·rfl
    ·exact x.2.1.2
    ·exact x.2.2.2,hH,hb⟩ (d.size+1) 0 d.size lim d w (by omega) rfl (SWK.start hH) (AS _) (Ak _) Ew (by omega) (Or.inl rfl)
  rw[hdl]at hp⊢;refine hp.mono ?_
  rintro e w' ⟨rfl,n,os,rfl⟩
  have h:=pdq_sorts (ltOf cfTmA) iz d 0 d.size lim true true (AS _) (Ak _) (Or.inl rfl);rw[hdl]at h;exact⟨rfl,_,n,os,h.1,h.2,rfl⟩
 ·intro e w;subst e;exact AnyF.pdqsortCmpFunc_none Tryz.layPdqTerm none 0 lim (GC 232) w
end Go.Eng
