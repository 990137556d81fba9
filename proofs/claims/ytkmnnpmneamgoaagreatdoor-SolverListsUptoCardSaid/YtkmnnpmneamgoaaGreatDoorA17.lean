/- Lemmas for the claims of this seat, without a condition: part 17 (Dat, LaySort, CSort, C1, C2, CS, C4, C5, C6, C7, C8, C9, C10, C11, C12, C13, C14). -/
import Derived.Test.YtkmnnpmneamgoaaGreatDoorA15
import Derived.Test.YtkmnnpmneamgoaaGreatDoorA01
import Derived.Shelf.SlSortCmp.WholeK
import Derived.Shelf.Sort.Plain
import Derived.Shelf.Small.Strs
import Derived.Shelf.Small.Bits
import Derived.Ground.SlsfProg
import Derived.Ground.NamesProg
namespace Go.Eng
open Go.Proofs
abbrev vi(n:Int):AV := .v (.int .i64 n)
abbrev vb(b:Bool):AV := .v (.bool b)
abbrev vs(s:ByteArray):AV := .v (.string s)
abbrev sl{α:Type}(enc:α → List AV)(l:List α):AV := .slice .none (l.map enc)
abbrev Gi(v:Ver):List AV := [vi v.a,vi v.b,vi v.c]
abbrev Ae(s:Int×Int):List AV := [vi s.1,vi s.2]
abbrev Ap(q:Rq):List AV := [vs q.path,sl Ae q.set]
abbrev AY(r:Rl):List AV := [vs r.path,vi r.ver.a,vi r.ver.b,vi r.ver.c,sl Ap r.reqs,vs r.arch,vs r.ifc,vs r.cert,vb r.yanked]
abbrev Ah(s:Sl):List AV := [vs s.path,vi s.ver.a,vi s.ver.b,vi s.ver.c]
abbrev AG(t:Tm):List AV := [vs t.path,vb t.absent,sl Ae t.set]
abbrev BO(i:Nf):List AV := [vi i.kind,vs i.path,vi i.place,vi i.number,vi i.left,vi i.right]
abbrev BD(s:Sk):List AV := [vs s.path,vi s.place,vi s.inf]
noncomputable abbrev dW(pl:QA):Cx := ⟨Tryz.prog,jI,pl,false,0,fun _ _ _ _ => True⟩
noncomputable abbrev MG(pl:QA):Cx := ⟨Tryz.prog,jI,pl,true,0,fun _ _ _ _ => True⟩
abbrev EI:QA := ⟨[],[],[],[],[],[],[],[],[],[],[]⟩
abbrev PC(f:Nat)(args:List AV)(res:AV):Prop := LA Tryz.prog f args res
theorem hm:Tryz.prog.follows .mixedOrders = true := by rfl
end Go.Eng
namespace Go.Eng
open Go.Proofs
theorem Zr{α:Sort _}{β:Sort _}{a:α}{b:β}:a = a ∧ b = b := ⟨rfl,rfl⟩
theorem Nz{a b:Nat}(h:Nat.ble a b = true):a ≤ b := HU h
theorem Xi{α:Sort _}{p:α → Prop}(w:α)(h:p w):Exists p := Exists.intro w h
theorem Yi{a b:Prop}(h:a)(k:b):a ∧ b := And.intro h k
theorem Fh{st:St}{h:Nat → HO}:∀j,Aa j = .free ∨ (st.h j = Aa j ∧ XO h (Aa j) = true) := fun _ => .inl rfl
theorem Tv:True := trivial
theorem Ii(i:Nat)(h:i ≤ 9223372036854775806):Bf ((i:Int) + 1) := by unfold Bf;omega
theorem Dl(n i:Nat)(h:i<n):n-(i + 1)<n-i := by omega
theorem Bt(b:Bool):b = true ∨ b = false := Bool.eq_false_or_eq_true b
theorem Z1{α:Type}{a0:α}{b0:Bool}:(a0 = a0 ∧ b0 = b0) ∧ True := ⟨⟨rfl,rfl⟩,trivial⟩
theorem Z2{α:Type}{a0 a1:α}{b0 b1:Bool}:(a0 = a0 ∧ b0 = b0) ∧ (a1 = a1 ∧ b1 = b1) ∧ True := ⟨⟨rfl,rfl⟩,⟨rfl,rfl⟩,trivial⟩
theorem Z3{α:Type}{a0 a1 a2:α}{b0 b1 b2:Bool}:(a0 = a0 ∧ b0 = b0) ∧ (a1 = a1 ∧ b1 = b1) ∧ (a2 = a2 ∧ b2 = b2) ∧ True := ⟨⟨rfl,rfl⟩,⟨rfl,rfl⟩,⟨rfl,rfl⟩,trivial⟩
theorem Z4{α:Type}{a0 a1 a2 a3:α}{b0 b1 b2 b3:Bool}:(a0 = a0 ∧ b0 = b0) ∧ (a1 = a1 ∧ b1 = b1) ∧ (a2 = a2 ∧ b2 = b2) ∧ (a3 = a3 ∧ b3 = b3) ∧ True := ⟨⟨rfl,rfl⟩,⟨rfl,rfl⟩,⟨rfl,rfl⟩,⟨rfl,rfl⟩,trivial⟩
theorem Z5{α:Type}{a0 a1 a2 a3 a4:α}{b0 b1 b2 b3 b4:Bool}:(a0 = a0 ∧ b0 = b0) ∧ (a1 = a1 ∧ b1 = b1) ∧ (a2 = a2 ∧ b2 = b2) ∧ (a3 = a3 ∧ b3 = b3) ∧ (a4 = a4 ∧ b4 = b4) ∧ True := ⟨⟨rfl,rfl⟩,⟨rfl,rfl⟩,⟨rfl,rfl⟩,⟨rfl,rfl⟩,⟨rfl,rfl⟩,trivial⟩
theorem Z6{α:Type}{a0 a1 a2 a3 a4 a5:α}{b0 b1 b2 b3 b4 b5:Bool}:(a0 = a0 ∧ b0 = b0) ∧ (a1 = a1 ∧ b1 = b1) ∧ (a2 = a2 ∧ b2 = b2) ∧ (a3 = a3 ∧ b3 = b3) ∧ (a4 = a4 ∧ b4 = b4) ∧ (a5 = a5 ∧ b5 = b5) ∧ True := ⟨⟨rfl,rfl⟩,⟨rfl,rfl⟩,⟨rfl,rfl⟩,⟨rfl,rfl⟩,⟨rfl,rfl⟩,⟨rfl,rfl⟩,trivial⟩
theorem Z7{α:Type}{a0 a1 a2 a3 a4 a5 a6:α}{b0 b1 b2 b3 b4 b5 b6:Bool}:(a0 = a0 ∧ b0 = b0) ∧ (a1 = a1 ∧ b1 = b1) ∧ (a2 = a2 ∧ b2 = b2) ∧ (a3 = a3 ∧ b3 = b3) ∧ (a4 = a4 ∧ b4 = b4) ∧ (a5 = a5 ∧ b5 = b5) ∧ (a6 = a6 ∧ b6 = b6) ∧ True := ⟨⟨rfl,rfl⟩,⟨rfl,rfl⟩,⟨rfl,rfl⟩,⟨rfl,rfl⟩,⟨rfl,rfl⟩,⟨rfl,rfl⟩,⟨rfl,rfl⟩,trivial⟩
theorem Z8{α:Type}{a0 a1 a2 a3 a4 a5 a6 a7:α}{b0 b1 b2 b3 b4 b5 b6 b7:Bool}:(a0 = a0 ∧ b0 = b0) ∧ (a1 = a1 ∧ b1 = b1) ∧ (a2 = a2 ∧ b2 = b2) ∧ (a3 = a3 ∧ b3 = b3) ∧ (a4 = a4 ∧ b4 = b4) ∧ (a5 = a5 ∧ b5 = b5) ∧ (a6 = a6 ∧ b6 = b6) ∧ (a7 = a7 ∧ b7 = b7) ∧ True := ⟨⟨rfl,rfl⟩,⟨rfl,rfl⟩,⟨rfl,rfl⟩,⟨rfl,rfl⟩,⟨rfl,rfl⟩,⟨rfl,rfl⟩,⟨rfl,rfl⟩,⟨rfl,rfl⟩,trivial⟩
theorem Z9{α:Type}{a0 a1 a2 a3 a4 a5 a6 a7 a8:α}{b0 b1 b2 b3 b4 b5 b6 b7 b8:Bool}:(a0 = a0 ∧ b0 = b0) ∧ (a1 = a1 ∧ b1 = b1) ∧ (a2 = a2 ∧ b2 = b2) ∧ (a3 = a3 ∧ b3 = b3) ∧ (a4 = a4 ∧ b4 = b4) ∧ (a5 = a5 ∧ b5 = b5) ∧ (a6 = a6 ∧ b6 = b6) ∧ (a7 = a7 ∧ b7 = b7) ∧ (a8 = a8 ∧ b8 = b8) ∧ True := ⟨⟨rfl,rfl⟩,⟨rfl,rfl⟩,⟨rfl,rfl⟩,⟨rfl,rfl⟩,⟨rfl,rfl⟩,⟨rfl,rfl⟩,⟨rfl,rfl⟩,⟨rfl,rfl⟩,⟨rfl,rfl⟩,trivial⟩
theorem Z10{α:Type}{a0 a1 a2 a3 a4 a5 a6 a7 a8 a9:α}{b0 b1 b2 b3 b4 b5 b6 b7 b8 b9:Bool}:(a0 = a0 ∧ b0 = b0) ∧ (a1 = a1 ∧ b1 = b1) ∧ (a2 = a2 ∧ b2 = b2) ∧ (a3 = a3 ∧ b3 = b3) ∧ (a4 = a4 ∧ b4 = b4) ∧ (a5 = a5 ∧ b5 = b5) ∧ (a6 = a6 ∧ b6 = b6) ∧ (a7 = a7 ∧ b7 = b7) ∧ (a8 = a8 ∧ b8 = b8) ∧ (a9 = a9 ∧ b9 = b9) ∧ True := ⟨⟨rfl,rfl⟩,⟨rfl,rfl⟩,⟨rfl,rfl⟩,⟨rfl,rfl⟩,⟨rfl,rfl⟩,⟨rfl,rfl⟩,⟨rfl,rfl⟩,⟨rfl,rfl⟩,⟨rfl,rfl⟩,⟨rfl,rfl⟩,trivial⟩
theorem Z11{α:Type}{a0 a1 a2 a3 a4 a5 a6 a7 a8 a9 WV:α}{b0 b1 b2 b3 b4 b5 b6 b7 b8 b9 ar:Bool}:(a0 = a0 ∧ b0 = b0) ∧ (a1 = a1 ∧ b1 = b1) ∧ (a2 = a2 ∧ b2 = b2) ∧ (a3 = a3 ∧ b3 = b3) ∧ (a4 = a4 ∧ b4 = b4) ∧ (a5 = a5 ∧ b5 = b5) ∧ (a6 = a6 ∧ b6 = b6) ∧ (a7 = a7 ∧ b7 = b7) ∧ (a8 = a8 ∧ b8 = b8) ∧ (a9 = a9 ∧ b9 = b9) ∧ (WV = WV ∧ ar = ar) ∧ True := ⟨⟨rfl,rfl⟩,⟨rfl,rfl⟩,⟨rfl,rfl⟩,⟨rfl,rfl⟩,⟨rfl,rfl⟩,⟨rfl,rfl⟩,⟨rfl,rfl⟩,⟨rfl,rfl⟩,⟨rfl,rfl⟩,⟨rfl,rfl⟩,⟨rfl,rfl⟩,trivial⟩
theorem Z12{α:Type}{a0 a1 a2 a3 a4 a5 a6 a7 a8 a9 WV am:α}{b0 b1 b2 b3 b4 b5 b6 b7 b8 b9 ar eP:Bool}:(a0 = a0 ∧ b0 = b0) ∧ (a1 = a1 ∧ b1 = b1) ∧ (a2 = a2 ∧ b2 = b2) ∧ (a3 = a3 ∧ b3 = b3) ∧ (a4 = a4 ∧ b4 = b4) ∧ (a5 = a5 ∧ b5 = b5) ∧ (a6 = a6 ∧ b6 = b6) ∧ (a7 = a7 ∧ b7 = b7) ∧ (a8 = a8 ∧ b8 = b8) ∧ (a9 = a9 ∧ b9 = b9) ∧ (WV = WV ∧ ar = ar) ∧ (am = am ∧ eP = eP) ∧ True := ⟨⟨rfl,rfl⟩,⟨rfl,rfl⟩,⟨rfl,rfl⟩,⟨rfl,rfl⟩,⟨rfl,rfl⟩,⟨rfl,rfl⟩,⟨rfl,rfl⟩,⟨rfl,rfl⟩,⟨rfl,rfl⟩,⟨rfl,rfl⟩,⟨rfl,rfl⟩,⟨rfl,rfl⟩,trivial⟩
theorem Z13{α:Type}{a0 a1 a2 a3 a4 a5 a6 a7 a8 a9 WV am a12:α}{b0 b1 b2 b3 b4 b5 b6 b7 b8 b9 ar eP pj:Bool}:(a0 = a0 ∧ b0 = b0) ∧ (a1 = a1 ∧ b1 = b1) ∧ (a2 = a2 ∧ b2 = b2) ∧ (a3 = a3 ∧ b3 = b3) ∧ (a4 = a4 ∧ b4 = b4) ∧ (a5 = a5 ∧ b5 = b5) ∧ (a6 = a6 ∧ b6 = b6) ∧ (a7 = a7 ∧ b7 = b7) ∧ (a8 = a8 ∧ b8 = b8) ∧ (a9 = a9 ∧ b9 = b9) ∧ (WV = WV ∧ ar = ar) ∧ (am = am ∧ eP = eP) ∧ (a12 = a12 ∧ pj = pj) ∧ True := ⟨⟨rfl,rfl⟩,⟨rfl,rfl⟩,⟨rfl,rfl⟩,⟨rfl,rfl⟩,⟨rfl,rfl⟩,⟨rfl,rfl⟩,⟨rfl,rfl⟩,⟨rfl,rfl⟩,⟨rfl,rfl⟩,⟨rfl,rfl⟩,⟨rfl,rfl⟩,⟨rfl,rfl⟩,⟨rfl,rfl⟩,trivial⟩
theorem Nn(i:Nat):(0:Int) ≤ (i:Int) := Int.natCast_nonneg i
abbrev Ic(x:List Rl)(ifs:List (List AV)):List AV := [sl AY x,.slice .none ifs]
theorem Ps{f:Nat}{fn:Func}{c:Code}{args:List AV}{res:AV}(pl:QA)(hf:Tryz.prog.funcs[f]? = some fn)(hb:fn.body = some c)(hN:args.length ≤ fn.ntmps)(hk:MD (dW pl) c (Y7 (dW pl) fn.results.toList fun r => GU r res) ⟨LR args,Aa⟩)
    (hn : (fn.name == "runtime.NumGoroutine") = false := by kernel_rfl) (hc : DF fn.ntmps c = true := by kernel_rfl) : LA Tryz.prog f args res := GM (dW pl) rfl CG hm rfl hf hn hb hN hc hk
theorem Lm{α β:Type}(f:α → β){l:List α}:(l.map f).length = l.length := Bx f
theorem Ge{α:Type}{l:List α}{i:Nat}(h:i<l.length):l[i]? = some l[i] := AD h
end Go.Eng

namespace Go.Proofs
open Go.Shelf
def Tryz.layPdqSpan_ren:Go.Shelf.Ren:=⟨fun | 14=>216 | 20=>250 | 21=>251 | 22=>252 | 23=>253 | 24=>254 | 25=>255 | 26=>256 | 27=>257 | 46=>271 | 47=>195 | 48=>196 | 49=>272 | 50=>273 | 15=>93 | 57=>293 | 28=>147 | 29=>148 | n=>n,fun | 24=>65 | 22=>42 | 3=>3 | 25=>234 | 4=>4 | 0=>0 | 46=>215 | 45=>214 | 50=>90 | 66=>246 | 39=>155 | 55=>223 | 70=>250 | 76=>274 | 77=>275 | 53=>221 | 5=>5 | 9=>9 | n=>n,fun | n=>n⟩
theorem Tryz.layPdqSpan:Go.Proofs.SlLaysF0.n14 Tryz.prog Tryz.layPdqSpan_ren:={
 mixed:=by kernel_rfl
 f14:=⟨Tryz.f216.name,by decide,Tryz.func216.trans (congrArg some (by kernel_rfl))⟩
 f15:=Tryz.func93.trans (congrArg some (by kernel_rfl))
 f20:=⟨Tryz.f250.name,by decide,Tryz.func250.trans (congrArg some (by kernel_rfl))⟩
 f21:=⟨Tryz.f251.name,by decide,Tryz.func251.trans (congrArg some (by kernel_rfl))⟩
 f22:=⟨Tryz.f252.name,by decide,Tryz.func252.trans (congrArg some (by kernel_rfl))⟩
 f23:=⟨Tryz.f253.name,by decide,Tryz.func253.trans (congrArg some (by kernel_rfl))⟩
 f24:=⟨Tryz.f254.name,by decide,Tryz.func254.trans (congrArg some (by kernel_rfl))⟩
 f25:=⟨Tryz.f255.name,by decide,Tryz.func255.trans (congrArg some (by kernel_rfl))⟩
 f26:=⟨Tryz.f256.name,by decide,Tryz.func256.trans (congrArg some (by kernel_rfl))⟩
 f27:=⟨Tryz.f257.name,by decide,Tryz.func257.trans (congrArg some (by kernel_rfl))⟩
 f28:=Tryz.func147.trans (congrArg some (by kernel_rfl))
 f29:=Tryz.func148.trans (congrArg some (by kernel_rfl))
 f46:=⟨Tryz.f271.name,by decide,Tryz.func271.trans (congrArg some (by kernel_rfl))⟩
 f47:=Tryz.func195.trans (congrArg some (by kernel_rfl))
 f48:=Tryz.func196.trans (congrArg some (by kernel_rfl))
 f49:=⟨Tryz.f272.name,by decide,Tryz.func272.trans (congrArg some (by kernel_rfl))⟩
 f50:=⟨Tryz.f273.name,by decide,Tryz.func273.trans (congrArg some (by kernel_rfl))⟩
 f57:=⟨Tryz.f293.name,by decide,Tryz.func293.trans (congrArg some (by kernel_rfl))⟩
 t0:=Tryz.underlying0
 a0:=Tryz.isAgg0
 z0:=Tryz.sizeOf0
 v0:=Tryz.zeroValue0
 t3:=Tryz.underlying3
 a3:=Tryz.isAgg3
 z3:=Tryz.sizeOf3
 v3:=Tryz.zeroValue3
 t4:=Tryz.underlying4
 a4:=Tryz.isAgg4
 z4:=Tryz.sizeOf4
 v4:=Tryz.zeroValue4
 t5:=Tryz.underlying5
 a5:=Tryz.isAgg5
 z5:=Tryz.sizeOf5
 v5:=Tryz.zeroValue5
 t9:=Tryz.underlying9
 a9:=Tryz.isAgg9
 z9:=Tryz.sizeOf9
 v9:=Tryz.zeroValue9
 t22:=Tryz.underlying42
 a22:=Tryz.isAgg42
 z22:=Tryz.sizeOf42
 v22:=Tryz.zeroValue42
 t25:=Tryz.underlying234
 a25:=Tryz.isAgg234
 z25:=Tryz.sizeOf234
 v25:=Tryz.zeroValue234
 t39:=Tryz.underlying155
 a39:=Tryz.isAgg155
 z39:=Tryz.sizeOf155
 v39:=Tryz.zeroValue155
 t45:=Tryz.underlying214
 a45:=Tryz.isAgg214
 z45:=Tryz.sizeOf214
 v45:=Tryz.zeroValue214
 t46:=Tryz.underlying215
 a46:=Tryz.isAgg215
 z46:=Tryz.sizeOf215
 v46:=Tryz.zeroValue215
 t50:=Tryz.underlying90
 a50:=Tryz.isAgg90
 z50:=Tryz.sizeOf90
 v50:=Tryz.zeroValue90
 t53:=Tryz.underlying221
 a53:=Tryz.isAgg221
 z53:=Tryz.sizeOf221
 v53:=Tryz.zeroValue221
 t55:=Tryz.underlying223
 a55:=Tryz.isAgg223
 z55:=Tryz.sizeOf223
 v55:=Tryz.zeroValue223
 t66:=Tryz.underlying246
 a66:=Tryz.isAgg246
 z66:=Tryz.sizeOf246
 v66:=Tryz.zeroValue246
 t70:=Tryz.underlying250
 a70:=Tryz.isAgg250
 z70:=Tryz.sizeOf250
 v70:=Tryz.zeroValue250
 t76:=Tryz.underlying274
 a76:=Tryz.isAgg274
 z76:=Tryz.sizeOf274
 v76:=Tryz.zeroValue274
 t77:=Tryz.underlying275
 a77:=Tryz.isAgg275
 z77:=Tryz.sizeOf275
 v77:=Tryz.zeroValue275 }
def Tryz.layPdqTerm_ren:Go.Shelf.Ren:=⟨fun | 14=>263 | 20=>279 | 21=>280 | 22=>281 | 23=>282 | 24=>283 | 25=>284 | 26=>285 | 27=>286 | 46=>306 | 47=>195 | 48=>196 | 49=>307 | 50=>308 | 15=>93 | 57=>318 | 28=>147 | 29=>148 | n=>n,fun | 24=>208 | 22=>148 | 3=>3 | 25=>272 | 4=>4 | 0=>0 | 46=>215 | 45=>214 | 50=>90 | 66=>246 | 39=>155 | 55=>223 | 70=>250 | 76=>274 | 77=>275 | 53=>221 | 5=>5 | 9=>9 | n=>n,fun | n=>n⟩
theorem Tryz.layPdqTerm:Go.Proofs.SlLaysF0.n14 Tryz.prog Tryz.layPdqTerm_ren:={
 mixed:=by kernel_rfl
 f14:=⟨Tryz.f263.name,by decide,Tryz.func263.trans (congrArg some (by kernel_rfl))⟩
 f15:=Tryz.func93.trans (congrArg some (by kernel_rfl))
 f20:=⟨Tryz.f279.name,by decide,Tryz.func279.trans (congrArg some (by kernel_rfl))⟩
 f21:=⟨Tryz.f280.name,by decide,Tryz.func280.trans (congrArg some (by kernel_rfl))⟩
 f22:=⟨Tryz.f281.name,by decide,Tryz.func281.trans (congrArg some (by kernel_rfl))⟩
 f23:=⟨Tryz.f282.name,by decide,Tryz.func282.trans (congrArg some (by kernel_rfl))⟩
 f24:=⟨Tryz.f283.name,by decide,Tryz.func283.trans (congrArg some (by kernel_rfl))⟩
 f25:=⟨Tryz.f284.name,by decide,Tryz.func284.trans (congrArg some (by kernel_rfl))⟩
 f26:=⟨Tryz.f285.name,by decide,Tryz.func285.trans (congrArg some (by kernel_rfl))⟩
 f27:=⟨Tryz.f286.name,by decide,Tryz.func286.trans (congrArg some (by kernel_rfl))⟩
 f28:=Tryz.func147.trans (congrArg some (by kernel_rfl))
 f29:=Tryz.func148.trans (congrArg some (by kernel_rfl))
 f46:=⟨Tryz.f306.name,by decide,Tryz.func306.trans (congrArg some (by kernel_rfl))⟩
 f47:=Tryz.func195.trans (congrArg some (by kernel_rfl))
 f48:=Tryz.func196.trans (congrArg some (by kernel_rfl))
 f49:=⟨Tryz.f307.name,by decide,Tryz.func307.trans (congrArg some (by kernel_rfl))⟩
 f50:=⟨Tryz.f308.name,by decide,Tryz.func308.trans (congrArg some (by kernel_rfl))⟩
 f57:=⟨Tryz.f318.name,by decide,Tryz.func318.trans (congrArg some (by kernel_rfl))⟩
 t0:=Tryz.underlying0
 a0:=Tryz.isAgg0
 z0:=Tryz.sizeOf0
 v0:=Tryz.zeroValue0
 t3:=Tryz.underlying3
 a3:=Tryz.isAgg3
 z3:=Tryz.sizeOf3
 v3:=Tryz.zeroValue3
 t4:=Tryz.underlying4
 a4:=Tryz.isAgg4
 z4:=Tryz.sizeOf4
 v4:=Tryz.zeroValue4
 t5:=Tryz.underlying5
 a5:=Tryz.isAgg5
 z5:=Tryz.sizeOf5
 v5:=Tryz.zeroValue5
 t9:=Tryz.underlying9
 a9:=Tryz.isAgg9
 z9:=Tryz.sizeOf9
 v9:=Tryz.zeroValue9
 t22:=Tryz.underlying148
 a22:=Tryz.isAgg148
 z22:=Tryz.sizeOf148
 v22:=Tryz.zeroValue148
 t25:=Tryz.underlying272
 a25:=Tryz.isAgg272
 z25:=Tryz.sizeOf272
 v25:=Tryz.zeroValue272
 t39:=Tryz.underlying155
 a39:=Tryz.isAgg155
 z39:=Tryz.sizeOf155
 v39:=Tryz.zeroValue155
 t45:=Tryz.underlying214
 a45:=Tryz.isAgg214
 z45:=Tryz.sizeOf214
 v45:=Tryz.zeroValue214
 t46:=Tryz.underlying215
 a46:=Tryz.isAgg215
 z46:=Tryz.sizeOf215
 v46:=Tryz.zeroValue215
 t50:=Tryz.underlying90
 a50:=Tryz.isAgg90
 z50:=Tryz.sizeOf90
 v50:=Tryz.zeroValue90
 t53:=Tryz.underlying221
 a53:=Tryz.isAgg221
 z53:=Tryz.sizeOf221
 v53:=Tryz.zeroValue221
 t55:=Tryz.underlying223
 a55:=Tryz.isAgg223
 z55:=Tryz.sizeOf223
 v55:=Tryz.zeroValue223
 t66:=Tryz.underlying246
 a66:=Tryz.isAgg246
 z66:=Tryz.sizeOf246
 v66:=Tryz.zeroValue246
 t70:=Tryz.underlying250
 a70:=Tryz.isAgg250
 z70:=Tryz.sizeOf250
 v70:=Tryz.zeroValue250
 t76:=Tryz.underlying274
 a76:=Tryz.isAgg274
 z76:=Tryz.sizeOf274
 v76:=Tryz.zeroValue274
 t77:=Tryz.underlying275
 a77:=Tryz.isAgg275
 z77:=Tryz.sizeOf275
 v77:=Tryz.zeroValue275 }
def Tryz.layPdqSel_ren:Go.Shelf.Ren:=⟨fun | 14=>92 | 20=>139 | 21=>140 | 22=>141 | 23=>142 | 24=>143 | 25=>144 | 26=>145 | 27=>146 | 46=>194 | 47=>195 | 48=>196 | 49=>197 | 50=>198 | 15=>93 | 57=>234 | 28=>147 | 29=>148 | n=>n,fun | 24=>51 | 22=>39 | 3=>3 | 25=>103 | 4=>4 | 0=>0 | 46=>215 | 45=>214 | 50=>90 | 66=>246 | 39=>155 | 55=>223 | 70=>250 | 76=>274 | 77=>275 | 53=>221 | 5=>5 | 9=>9 | n=>n,fun | n=>n⟩
theorem Tryz.layPdqSel:Go.Proofs.SlLaysF0.n14 Tryz.prog Tryz.layPdqSel_ren:={
 mixed:=by kernel_rfl
 f14:=⟨Tryz.f92.name,by decide,Tryz.func92.trans (congrArg some (by kernel_rfl))⟩
 f15:=Tryz.func93.trans (congrArg some (by kernel_rfl))
 f20:=⟨Tryz.f139.name,by decide,Tryz.func139.trans (congrArg some (by kernel_rfl))⟩
 f21:=⟨Tryz.f140.name,by decide,Tryz.func140.trans (congrArg some (by kernel_rfl))⟩
 f22:=⟨Tryz.f141.name,by decide,Tryz.func141.trans (congrArg some (by kernel_rfl))⟩
 f23:=⟨Tryz.f142.name,by decide,Tryz.func142.trans (congrArg some (by kernel_rfl))⟩
 f24:=⟨Tryz.f143.name,by decide,Tryz.func143.trans (congrArg some (by kernel_rfl))⟩
 f25:=⟨Tryz.f144.name,by decide,Tryz.func144.trans (congrArg some (by kernel_rfl))⟩
 f26:=⟨Tryz.f145.name,by decide,Tryz.func145.trans (congrArg some (by kernel_rfl))⟩
 f27:=⟨Tryz.f146.name,by decide,Tryz.func146.trans (congrArg some (by kernel_rfl))⟩
 f28:=Tryz.func147.trans (congrArg some (by kernel_rfl))
 f29:=Tryz.func148.trans (congrArg some (by kernel_rfl))
 f46:=⟨Tryz.f194.name,by decide,Tryz.func194.trans (congrArg some (by kernel_rfl))⟩
 f47:=Tryz.func195.trans (congrArg some (by kernel_rfl))
 f48:=Tryz.func196.trans (congrArg some (by kernel_rfl))
 f49:=⟨Tryz.f197.name,by decide,Tryz.func197.trans (congrArg some (by kernel_rfl))⟩
 f50:=⟨Tryz.f198.name,by decide,Tryz.func198.trans (congrArg some (by kernel_rfl))⟩
 f57:=⟨Tryz.f234.name,by decide,Tryz.func234.trans (congrArg some (by kernel_rfl))⟩
 t0:=Tryz.underlying0
 a0:=Tryz.isAgg0
 z0:=Tryz.sizeOf0
 v0:=Tryz.zeroValue0
 t3:=Tryz.underlying3
 a3:=Tryz.isAgg3
 z3:=Tryz.sizeOf3
 v3:=Tryz.zeroValue3
 t4:=Tryz.underlying4
 a4:=Tryz.isAgg4
 z4:=Tryz.sizeOf4
 v4:=Tryz.zeroValue4
 t5:=Tryz.underlying5
 a5:=Tryz.isAgg5
 z5:=Tryz.sizeOf5
 v5:=Tryz.zeroValue5
 t9:=Tryz.underlying9
 a9:=Tryz.isAgg9
 z9:=Tryz.sizeOf9
 v9:=Tryz.zeroValue9
 t22:=Tryz.underlying39
 a22:=Tryz.isAgg39
 z22:=Tryz.sizeOf39
 v22:=Tryz.zeroValue39
 t25:=Tryz.underlying103
 a25:=Tryz.isAgg103
 z25:=Tryz.sizeOf103
 v25:=Tryz.zeroValue103
 t39:=Tryz.underlying155
 a39:=Tryz.isAgg155
 z39:=Tryz.sizeOf155
 v39:=Tryz.zeroValue155
 t45:=Tryz.underlying214
 a45:=Tryz.isAgg214
 z45:=Tryz.sizeOf214
 v45:=Tryz.zeroValue214
 t46:=Tryz.underlying215
 a46:=Tryz.isAgg215
 z46:=Tryz.sizeOf215
 v46:=Tryz.zeroValue215
 t50:=Tryz.underlying90
 a50:=Tryz.isAgg90
 z50:=Tryz.sizeOf90
 v50:=Tryz.zeroValue90
 t53:=Tryz.underlying221
 a53:=Tryz.isAgg221
 z53:=Tryz.sizeOf221
 v53:=Tryz.zeroValue221
 t55:=Tryz.underlying223
 a55:=Tryz.isAgg223
 z55:=Tryz.sizeOf223
 v55:=Tryz.zeroValue223
 t66:=Tryz.underlying246
 a66:=Tryz.isAgg246
 z66:=Tryz.sizeOf246
 v66:=Tryz.zeroValue246
 t70:=Tryz.underlying250
 a70:=Tryz.isAgg250
 z70:=Tryz.sizeOf250
 v70:=Tryz.zeroValue250
 t76:=Tryz.underlying274
 a76:=Tryz.isAgg274
 z76:=Tryz.sizeOf274
 v76:=Tryz.zeroValue274
 t77:=Tryz.underlying275
 a77:=Tryz.isAgg275
 z77:=Tryz.sizeOf275
 v77:=Tryz.zeroValue275 }
def Tryz.layCompare_ren:Go.Shelf.Ren:=⟨fun | 106=>49 | 213=>94 | 265=>149 | n=>n,fun | 9=>9 | 3=>3 | n=>n,fun | n=>n⟩
theorem Tryz.layCompare:Go.Proofs.Lays.n106 Tryz.prog Tryz.layCompare_ren:={
 mixed:=by kernel_rfl
 f106:=Tryz.func49.trans (congrArg some (by kernel_rfl))
 f213:=Tryz.func94.trans (congrArg some (by kernel_rfl))
 f265:=Tryz.func149.trans (congrArg some (by kernel_rfl))
 t3:=Tryz.underlying3
 a3:=Tryz.isAgg3
 z3:=Tryz.sizeOf3
 v3:=Tryz.zeroValue3
 t9:=Tryz.underlying9
 a9:=Tryz.isAgg9
 z9:=Tryz.sizeOf9
 v9:=Tryz.zeroValue9 }
def Tryz.layBits_ren:Go.Shelf.Ren:=⟨fun | 125=>93 | 128=>147 | 129=>148 | n=>n,fun | 46=>155 | 3=>3 | 51=>221 | 53=>223 | 4=>4 | 5=>5 | 9=>9 | n=>n,fun | n=>n⟩
theorem Tryz.layBits:Go.Proofs.Lays.n125 Tryz.prog Tryz.layBits_ren:={
 mixed:=by kernel_rfl
 f125:=Tryz.func93.trans (congrArg some (by kernel_rfl))
 f128:=Tryz.func147.trans (congrArg some (by kernel_rfl))
 f129:=Tryz.func148.trans (congrArg some (by kernel_rfl))
 t3:=Tryz.underlying3
 a3:=Tryz.isAgg3
 z3:=Tryz.sizeOf3
 v3:=Tryz.zeroValue3
 t4:=Tryz.underlying4
 a4:=Tryz.isAgg4
 z4:=Tryz.sizeOf4
 v4:=Tryz.zeroValue4
 t5:=Tryz.underlying5
 a5:=Tryz.isAgg5
 z5:=Tryz.sizeOf5
 v5:=Tryz.zeroValue5
 t9:=Tryz.underlying9
 a9:=Tryz.isAgg9
 z9:=Tryz.sizeOf9
 v9:=Tryz.zeroValue9
 t46:=Tryz.underlying155
 a46:=Tryz.isAgg155
 z46:=Tryz.sizeOf155
 v46:=Tryz.zeroValue155
 t51:=Tryz.underlying221
 a51:=Tryz.isAgg221
 z51:=Tryz.sizeOf221
 v51:=Tryz.zeroValue221
 t53:=Tryz.underlying223
 a53:=Tryz.isAgg223
 z53:=Tryz.sizeOf223
 v53:=Tryz.zeroValue223 }
def Tryz.laySortInts_ren:Go.Shelf.Ren:=⟨fun | 189=>261 | 125=>93 | 257=>277 | 128=>147 | 129=>148 | 294=>297 | 295=>298 | 296=>299 | 297=>300 | 298=>301 | 299=>302 | 216=>303 | 300=>304 | 301=>305 | 328=>315 | 329=>195 | 330=>196 | 331=>316 | 332=>317 | 215=>249 | 343=>325 | n=>n,fun | 28=>35 | 3=>3 | 46=>155 | 0=>0 | 51=>221 | 53=>223 | 4=>4 | 183=>215 | 182=>214 | 131=>90 | 5=>5 | 9=>9 | 218=>246 | 222=>250 | 228=>274 | 229=>275 | n=>n,fun | n=>n⟩
theorem Tryz.laySortInts:Go.Proofs.Lays.n189 Tryz.prog Tryz.laySortInts_ren:={
 mixed:=by kernel_rfl
 f125:=Tryz.func93.trans (congrArg some (by kernel_rfl))
 f128:=Tryz.func147.trans (congrArg some (by kernel_rfl))
 f129:=Tryz.func148.trans (congrArg some (by kernel_rfl))
 f189:=Tryz.func261.trans (congrArg some (by kernel_rfl))
 f215:=Tryz.func249.trans (congrArg some (by kernel_rfl))
 f216:=Tryz.func303.trans (congrArg some (by kernel_rfl))
 f257:=Tryz.func277.trans (congrArg some (by kernel_rfl))
 f294:=Tryz.func297.trans (congrArg some (by kernel_rfl))
 f295:=Tryz.func298.trans (congrArg some (by kernel_rfl))
 f296:=Tryz.func299.trans (congrArg some (by kernel_rfl))
 f297:=Tryz.func300.trans (congrArg some (by kernel_rfl))
 f298:=Tryz.func301.trans (congrArg some (by kernel_rfl))
 f299:=Tryz.func302.trans (congrArg some (by kernel_rfl))
 f300:=Tryz.func304.trans (congrArg some (by kernel_rfl))
 f301:=Tryz.func305.trans (congrArg some (by kernel_rfl))
 f328:=Tryz.func315.trans (congrArg some (by kernel_rfl))
 f329:=Tryz.func195.trans (congrArg some (by kernel_rfl))
 f330:=Tryz.func196.trans (congrArg some (by kernel_rfl))
 f331:=Tryz.func316.trans (congrArg some (by kernel_rfl))
 f332:=Tryz.func317.trans (congrArg some (by kernel_rfl))
 f343:=Tryz.func325.trans (congrArg some (by kernel_rfl))
 t0:=Tryz.underlying0
 a0:=Tryz.isAgg0
 z0:=Tryz.sizeOf0
 v0:=Tryz.zeroValue0
 t3:=Tryz.underlying3
 a3:=Tryz.isAgg3
 z3:=Tryz.sizeOf3
 v3:=Tryz.zeroValue3
 t4:=Tryz.underlying4
 a4:=Tryz.isAgg4
 z4:=Tryz.sizeOf4
 v4:=Tryz.zeroValue4
 t5:=Tryz.underlying5
 a5:=Tryz.isAgg5
 z5:=Tryz.sizeOf5
 v5:=Tryz.zeroValue5
 t9:=Tryz.underlying9
 a9:=Tryz.isAgg9
 z9:=Tryz.sizeOf9
 v9:=Tryz.zeroValue9
 t28:=Tryz.underlying35
 a28:=Tryz.isAgg35
 z28:=Tryz.sizeOf35
 v28:=Tryz.zeroValue35
 t46:=Tryz.underlying155
 a46:=Tryz.isAgg155
 z46:=Tryz.sizeOf155
 v46:=Tryz.zeroValue155
 t51:=Tryz.underlying221
 a51:=Tryz.isAgg221
 z51:=Tryz.sizeOf221
 v51:=Tryz.zeroValue221
 t53:=Tryz.underlying223
 a53:=Tryz.isAgg223
 z53:=Tryz.sizeOf223
 v53:=Tryz.zeroValue223
 t131:=Tryz.underlying90
 a131:=Tryz.isAgg90
 z131:=Tryz.sizeOf90
 v131:=Tryz.zeroValue90
 t182:=Tryz.underlying214
 a182:=Tryz.isAgg214
 z182:=Tryz.sizeOf214
 v182:=Tryz.zeroValue214
 t183:=Tryz.underlying215
 a183:=Tryz.isAgg215
 z183:=Tryz.sizeOf215
 v183:=Tryz.zeroValue215
 t218:=Tryz.underlying246
 a218:=Tryz.isAgg246
 z218:=Tryz.sizeOf246
 v218:=Tryz.zeroValue246
 t222:=Tryz.underlying250
 a222:=Tryz.isAgg250
 z222:=Tryz.sizeOf250
 v222:=Tryz.zeroValue250
 t228:=Tryz.underlying274
 a228:=Tryz.isAgg274
 z228:=Tryz.sizeOf274
 v228:=Tryz.zeroValue274
 t229:=Tryz.underlying275
 a229:=Tryz.isAgg275
 z229:=Tryz.sizeOf275
 v229:=Tryz.zeroValue275 }
end Go.Proofs

namespace Go.Proofs
open Go.Shelf Go.RowKit Go.Lib Go.Sort
def SpA:Type:={x:Int×Int // 0≤x.1∧x.1≤1000000}
instance:Inhabited SpA:=⟨⟨(0,0),by decide⟩⟩
def encSpA(x:SpA):List Value:=[.int .i64 x.1.1,.int .i64 x.1.2]
def cfSpA(x y:SpA):Int:=x.1.1-y.1.1
set_option maxHeartbeats 1000000 in
theorem Tryz.closure169(x y:SpA)(W:World):Calls Tryz.prog 169 #[.agg #[.int .i64 x.1.1,.int .i64 x.1.2],.agg #[.int .i64 y.1.1,.int .i64 y.1.2]] W fun e w'=>e=.returned (.int .i64 (cfSpA x y))∧∃q os',w'=grow (W.drewN q) os':=by
 obtain⟨⟨a,b⟩,h1,h2⟩:=x;obtain⟨⟨c,d⟩,h3,h4⟩:=y;dsimp only at h1 h2 h3 h4;have hw:IntKind.i64.wrap (a-c)=a-c:=by simp[IntKind.wrap,IntKind.bits,IntKind.signed];omega
 show Calls Tryz.prog 169 #[.agg #[.int .i64 a,.int .i64 b],.agg #[.int .i64 c,.int .i64 d]] W fun e w'=>e=.returned (.int .i64 (a-c))∧∃q os',w'=grow (W.drewN q) os'
 go_enter Tryz.func169,Tryz.ntmps169
 go_wp2
 go_ret
 exact⟨rfl,0,_,by rw[alloc_eq_grow,alloc_eq_grow,grow_grow];rfl⟩
def TmA:Type:=ByteArray×{v:Value // v.oneCell'=true}×{v:Value // v.oneCell'=true}
instance:Inhabited TmA:=⟨⟨ByteArray.empty,⟨.bool false,rfl⟩,⟨.bool false,rfl⟩⟩⟩
def encTmA(x:TmA):List Value:=[.string x.1,x.2.1.1,x.2.2.1]
def cfTmA(x y:TmA):Int:=Lib.compareBytes x.1.data.toList y.1.data.toList
set_option maxHeartbeats 1000000 in
theorem Tryz.closure232(x y:TmA)(W:World):Calls Tryz.prog 232 #[.agg #[.string x.1,x.2.1.1,x.2.2.1],.agg #[.string y.1,y.2.1.1,y.2.2.1]] W fun e w'=>e=.returned (.int .i64 (cfTmA x y))∧∃q os',w'=grow (W.drewN q) os':=by
 have hcon:=fun W'=>Any.strings_Compare Tryz.layCompare x.1 y.1 W';obtain⟨a,⟨b,hb⟩,⟨c,hc⟩⟩:=x;obtain⟨a',⟨b',jv⟩,⟨c',nM⟩⟩:=y;dsimp only at hcon
 change ∀W',Calls Tryz.prog 49 _ _ _ at hcon
 unfold cfTmA;dsimp only;generalize Lib.compareBytes a.data.toList a'.data.toList=r at hcon⊢
 go_enter Tryz.func232,Tryz.ntmps232
 go_wp2_with (go_at_call 49;refine(hcon _).mono ?_;rintro e w' ⟨rfl,rfl⟩)
 go_ret
 exact⟨rfl,0,_,by rw[alloc_eq_grow,alloc_eq_grow,grow_grow];rfl⟩
end Go.Proofs

namespace Go.Eng
open Go.Proofs
theorem m9(v:Ver):PC 131 [.agg (Gi v)] (.agg [vi v.a,vi v.b,vi v.c]):=by
 refine Ps EI Tryz.func131 rfl (Nz rfl) ?_;exact Yi (Nz rfl) (Yi (Nz rfl) (.refl _))
def part(v:Ver):Nat→Int
 |0=>v.a
 |1=>v.b
 |_=>v.c
theorem VG{v:Ver}{i:Nat}(h:¬okPart (part v i)):CH v=false:=by
 unfold CH
 match i,h with
 |0,h=>have h:¬okPart v.a:=h;simp[h]
 |1,h=>have h:¬okPart v.b:=h;simp[h]
 |_+2,h=>have h:¬okPart v.c:=h;simp[h]
theorem qg(v:Ver):PC 85 [.agg (Gi v)] (vb (CH v)):=by
 refine Ps EI Tryz.func85 rfl (Nz rfl) ?_;refine Yi (Nz rfl) (Xi .pure (Xi _ (Yi (m9 v) ?_)));refine Xi {i:Nat // i≤3∧∀j,j<i→okPart (part v j)} (Xi (fun i=>⟨[(6,.agg [vi v.a,vi v.b,vi v.c]),(7,vi i.1)],[],Aa⟩) (Xi (fun i=>3-i.1) (Yi (Xi ⟨0,by simp⟩ ?_) ?_)))
 ·exact⟨Z2,Tv,Fh,Tv⟩
 ·intro⟨i,h1,h2⟩;refine Yi ?_ ?_
  ·intro h;have h:(i:Int)<3:=h;refine Yi ⟨by show(0:Int)≤i;omega,by show(i:Int)<3;omega⟩ ?_;have hp:Mi (([vi v.a,vi v.b,vi v.c]).drop ((i:Int).toNat*1))=fun K=>K (vi (part v i)):=by
    match i,h with
    |0,_=>rfl
    |1,_=>rfl
    |2,_=>rfl
    |_+3,h=>omega
   show Mi (([vi v.a,vi v.b,vi v.c]).drop ((i:Int).toNat*1)) _;rw[hp];refine Yi ?_ ?_
   ·intro h3;have h3:part v i<0:=h3;rw[VG (i:=i) (by unfold okPart;omega)];exact .refl _
   ·intro h3;have h3:¬part v i<0:=h3;refine Yi ?_ ?_
    ·intro h4;have h4:(999:Int)<part v i:=h4;rw[VG (i:=i) (by unfold okPart;omega)];exact .refl _
    ·intro h4;have h4:¬(999:Int)<part v i:=h4;refine Yi (Ii i (by omega)) ?_;refine Xi ⟨i+1,by omega,fun j hj=>?_⟩ ?_
     ·by_cases e:j=i
      ·subst e;exact⟨by omega,by omega⟩
      ·exact h2 j (by omega)
     ·exact⟨Dl 3 i (by omega),Z2,Tv,Fh,Tv⟩
  ·intro h;have h:¬(i:Int)<3:=h;have e:i=3:=by omega
   have q:CH v=true:=by
    unfold CH;have a:=h2 0 (by omega);have b:=h2 1 (by omega);have c:=h2 2 (by omega);simp only[part]at a b c;simp[a,b,c]
   rw[q];exact .refl _
theorem vg(v:Ver):PC 44 [.agg (Gi v)] (.tup [vi (if CH v then place v else 0),vi (if CH v then 0 else 2)]):=by
 refine Ps EI Tryz.func44 rfl (Nz rfl) ?_;refine Yi (Nz rfl) (Xi .pure (Xi _ (Yi (qg v) ?_)));cases h:CH v with
 |false=>exact .refl _
 |true =>
  have hv:=Iz h;refine Yi (by show Bf (1000*v.b);unfold Bf;omega) ?_;exact Yi (by show Bf (1000*v.b+v.c);unfold Bf;omega) (.refl _)
theorem td(v:Ver)(h:CH v=true):PC 76 [.agg (Gi v)] (vi (place v)):=by
 refine Ps EI Tryz.func76 rfl (Nz rfl) ?_;have hv:=Iz h;refine Yi (by show Bf (1000*v.b);unfold Bf;omega) ?_;exact Yi (by show Bf (1000*v.b+v.c);unfold Bf;omega) (.refl _)
end Go.Eng

namespace Go.Eng
open Go.Proofs
def E1(caps:List AV):Prop:=∀c∈caps,∀h,str0 h c=c
theorem E1.map{caps:List AV}(hs:E1 caps)(h:Nat→HO):caps.map (str0 h)=caps:=by
 conv=>rhs;rw[←LZ caps]
 exact Ba fun c hc=>hs c hc h
theorem E1.ids{caps:List AV}(hs:E1 caps)(h:Nat→HO):XP h caps=true:=by
 induction caps with
 |nil=>rfl
 |cons c r ih =>
  have hc:=hs c (Ab ..) Aa;have h0:ids0 h c=true:=by
   cases c with
   |slice tk es=>cases tk with |none=>rfl |full sz=>simp[str0]at hc |id r sz=>simp[str0]at hc |ver r sz v=>simp[str0]at hc
   |_=>first |rfl |(simp[str0,Aa]at hc)
  unfold XP;rw[h0];exact ih fun c hc=>hs c (Ai _ hc)
def Kb{α:Type}(p:α→Bool):List α→Int→Int
 | [],_=>-1
 |x::r,i=>if p x then i else Kb p r (i+1)
theorem PN{α:Type}{p:α→Bool}:∀{l:List α} {i:Nat} {k:Int} (hi:i<l.length),(∀j (hj:j<l.length),j<i→p l[j]=false)→p l[i]=true→Kb p l k=k+i
 |x::r,0,k,_,_,h=>by
  have h:p x=true:=h;simp[Kb,h]
 |x::r,i+1,k,hi,hb,h=>by
  have h0:p x=false:=hb 0 (by simp) (by omega)
  have:=PN (l:=r) (i:=i) (k:=k+1) (by simpa using hi) (fun j hj IA=>hb (j+1) (by simpa using hj) (by omega)) (by simpa using h)
  simp only[Kb,h0,Da,Ga,this];omega
theorem KI{α:Type}{p:α→Bool}:∀{l:List α} {k:Int},(∀j (hj:j<l.length),p l[j]=false)→Kb p l k=-1
 | [],_,_=>rfl
 |x::r,k,h=>by
  have h0:p x=false:=h 0 (by simp);simp only[Kb,h0,Da,Ga];exact KI fun j hj=>h (j+1) (by simpa using hj)
theorem MK{α:Type}{p:α→Bool}:∀(l:List α) (k:Int),0≤k→decide (0≤Kb p l k)=l.any p
 | [],k,_=>by simp[Kb]
 |x::r,k,hk=>by
  unfold Kb;cases h:p x with
  |true=>simp[h,hk]
  |false=>simp[h,MK r (k+1) (by omega)]
-- one for each type of elements
theorem uy{fF:Nat}{caps:List AV}(hs:E1 caps)(l:List (Int×Int))(p:Int×Int→Bool)(hF:∀x∈l,PC fF ([.agg (Ae x)]++caps) (vb (p x)))(hl:l.length<9223372036854775807) :
  PC 173 [sl Ae l,.clo fF caps] (vi (Kb p l 0)):=by
 refine Ps EI Tryz.func173 rfl (Nz rfl) ?_;refine Xi {i:Nat // i≤l.length∧∀j (hj:j<l.length),j<i→p l[j]=false} (Xi (fun i=>⟨[(0,sl Ae l),(1,.clo fF caps),(7,vi (l.map Ae).length),(8,vi i.1)],[],Aa⟩) (Xi (fun i=>l.length-i.1) (Yi (Xi ⟨0,by simp⟩ ?_) ?_)))
 ·exact⟨⟨Zr,⟨rfl,hs.ids _⟩,Zr,Zr,Tv⟩,Tv,Fh,Tv⟩
 ·intro⟨i,h1,h2⟩;refine Yi ?_ ?_
  ·intro h;have h:(i:Int)<(l.map Ae).length:=h;have h:i<l.length:=by simpa using h
   have hg:l[i]?=some l[i]:=Ge h;refine Xi (Ae l[i]) (Yi (Yi (Nn i) (by simp[hg])) (Yi rfl (Yi (Nz rfl) ?_)));have DU:∀h,PC fF ([.agg (Ae l[i])]++caps.map (str0 h)) (vb (p l[i])):=fun h=>by rw[hs.map];exact hF l[i] (Aj _)
   cases hp:p l[i]with
   |true =>
    rw[hp]at DU;refine Xi .pure (Xi (vb true) (Yi (DU _) ?_));rw[PN h (fun j hj IA=>h2 j hj IA) hp,Kn];exact .refl _
   |false =>
    rw[hp]at DU;refine Xi .pure (Xi (vb false) (Yi (DU _) ?_));refine Yi (Ii i (by omega)) ?_;refine Xi ⟨i+1,by omega,fun j hj IA=>?_⟩ ?_
    ·by_cases e:j=i
     ·subst e;exact hp
     ·exact h2 j hj (by omega)
    ·exact⟨Dl l.length i (by omega),⟨Zr,⟨rfl,hs.ids _⟩,Zr,Zr,Tv⟩,Tv,Fh,Tv⟩
  ·intro h;have h:¬(i:Int)<(l.map Ae).length:=h;have h:¬i<l.length:=by simpa using h
   rw[KI fun j hj=>h2 j hj (by omega)];exact .refl _
end Go.Eng

namespace Go.Eng
open Go.Proofs
abbrev CK{α:Type}(l:List α):Prop:=l.length≤1073741824
theorem DQ{α:Type}{enc:α→List AV}{n:Nat}(h:∀x,(enc x).length=n):∀l:List α,B1 n (l.map enc)
 | []=>trivial
 |x::l=>⟨h x,DQ h l⟩
theorem Rv{x y:Int×Int}:ki (Ae x) (Ae y)↔x=y:=by
 constructor
 ·intro h;have h:x.1=y.1∧x.2=y.2∧True:=h;exact Prod.ext h.1 h.2.1
 ·rintro rfl;exact⟨rfl,rfl,trivial⟩
theorem mc{x y:Sl}:ki (Ah x) (Ah y)↔x=y:=by
 obtain⟨p,a,b,c⟩:=x;obtain⟨q,d,e,f⟩:=y;constructor
 ·intro h;have h:p=q∧a=d∧b=e∧c=f∧True:=h;obtain⟨rfl,rfl,rfl,rfl,_⟩:=h
  rfl
 ·intro h;cases h;exact⟨rfl,rfl,rfl,rfl,trivial⟩
abbrev B4(l:List Tm):List AV:=[sl AG l]
abbrev PF(s:ByteArray):List AV:=[vs s]
theorem yD{fF:Nat}{caps:List AV}(hs:E1 caps)(l:List (Sl))(p:Sl→Bool)(hF:∀x∈l,PC fF ([.agg (Ah x)]++caps) (vb (p x)))(hl:l.length<9223372036854775807) :
  PC 82 [sl Ah l,.clo fF caps] (vi (Kb p l 0)):=by
 refine GM (dW EI) rfl CG hm rfl Tryz.func82 (by kernel_rfl) rfl (Nz rfl) (by kernel_rfl) ?_;refine Xi {i:Nat // i≤l.length∧∀j (hj:j<l.length),j<i→p l[j]=false} (Xi (fun i=>⟨[(0,sl Ah l),(1,.clo fF caps),(7,vi (l.map Ah).length),(8,vi i.1)],[],Aa⟩) (Xi (fun i=>l.length-i.1) (Yi (Xi ⟨0,by simp⟩ ?_) ?_)))
 ·exact⟨⟨Zr,⟨rfl,hs.ids _⟩,Zr,Zr,Tv⟩,Tv,Fh,Tv⟩
 ·intro⟨i,h1,h2⟩;refine Yi ?_ ?_
  ·intro h;have h:(i:Int)<(l.map Ah).length:=h;have h:i<l.length:=by simpa using h
   have hg:l[i]?=some l[i]:=Ge h;refine Xi (Ah l[i]) (Yi (Yi (by show(0:Int)≤i;omega) (by simp[hg])) (Yi rfl (Yi (Nz rfl) ?_)));have DU:∀h,PC fF ([.agg (Ah l[i])]++caps.map (str0 h)) (vb (p l[i])):=fun h=>by rw[hs.map];exact hF l[i] (Aj _)
   cases hp:p l[i]with
   |true =>
    rw[hp]at DU;refine Xi .pure (Xi (vb true) (Yi (DU _) ?_));rw[PN h (fun j hj IA=>h2 j hj IA) hp,Kn];exact .refl _
   |false =>
    rw[hp]at DU;refine Xi .pure (Xi (vb false) (Yi (DU _) ?_));refine Yi (Ii i (by omega)) ?_;refine Xi ⟨i+1,by omega,fun j hj IA=>?_⟩ ?_
    ·by_cases e:j=i
     ·subst e;exact hp
     ·exact h2 j hj (by omega)
    ·exact⟨Dl l.length i (by omega),⟨Zr,⟨rfl,hs.ids _⟩,Zr,Zr,Tv⟩,Tv,Fh,Tv⟩
  ·intro h;have h:¬(i:Int)<(l.map Ah).length:=h;have h:¬i<l.length:=by simpa using h
   rw[KI fun j hj=>h2 j hj (by omega)];exact .refl _
theorem jZ{fF:Nat}{caps:List AV}(hs:E1 caps)(l:List (Tm))(p:Tm→Bool)(hF:∀x∈l,PC fF ([.agg (AG x)]++caps) (vb (p x)))(hl:l.length<9223372036854775807) :
  PC 189 [sl AG l,.clo fF caps] (vi (Kb p l 0)):=by
 refine GM (dW EI) rfl CG hm rfl Tryz.func189 (by kernel_rfl) rfl (Nz rfl) (by kernel_rfl) ?_;refine Xi {i:Nat // i≤l.length∧∀j (hj:j<l.length),j<i→p l[j]=false} (Xi (fun i=>⟨[(0,sl AG l),(1,.clo fF caps),(7,vi (l.map AG).length),(8,vi i.1)],[],Aa⟩) (Xi (fun i=>l.length-i.1) (Yi (Xi ⟨0,by simp⟩ ?_) ?_)))
 ·exact⟨⟨Zr,⟨rfl,hs.ids _⟩,Zr,Zr,Tv⟩,Tv,Fh,Tv⟩
 ·intro⟨i,h1,h2⟩;refine Yi ?_ ?_
  ·intro h;have h:(i:Int)<(l.map AG).length:=h;have h:i<l.length:=by simpa using h
   have hg:l[i]?=some l[i]:=Ge h;refine Xi (AG l[i]) (Yi (Yi (by show(0:Int)≤i;omega) (by simp[hg])) (Yi rfl (Yi (Nz rfl) ?_)));have DU:∀h,PC fF ([.agg (AG l[i])]++caps.map (str0 h)) (vb (p l[i])):=fun h=>by rw[hs.map];exact hF l[i] (Aj _)
   cases hp:p l[i]with
   |true =>
    rw[hp]at DU;refine Xi .pure (Xi (vb true) (Yi (DU _) ?_));rw[PN h (fun j hj IA=>h2 j hj IA) hp,Kn];exact .refl _
   |false =>
    rw[hp]at DU;refine Xi .pure (Xi (vb false) (Yi (DU _) ?_));refine Yi (Ii i (by omega)) ?_;refine Xi ⟨i+1,by omega,fun j hj IA=>?_⟩ ?_
    ·by_cases e:j=i
     ·subst e;exact hp
     ·exact h2 j hj (by omega)
    ·exact⟨Dl l.length i (by omega),⟨Zr,⟨rfl,hs.ids _⟩,Zr,Zr,Tv⟩,Tv,Fh,Tv⟩
  ·intro h;have h:¬(i:Int)<(l.map AG).length:=h;have h:¬i<l.length:=by simpa using h
   rw[KI fun j hj=>h2 j hj (by omega)];exact .refl _
theorem uj{fF:Nat}{caps:List AV}(hs:E1 caps)(l:List (Int×Int))(p:Int×Int→Bool)(hF:∀x∈l,PC fF ([.agg (Ae x)]++caps) (vb (p x)))(hl:CK l) :
  PC 119 [sl Ae l,.clo fF caps] (vb (l.any p)):=by
 refine GM (dW EI) rfl CG hm rfl Tryz.func119 (by kernel_rfl) rfl (Nz rfl) (by kernel_rfl) ?_;have hi:=uy hs l p hF (by unfold CK at hl;omega);have DU:∀h,PC 173 [sl Ae l,.clo fF (caps.map (str0 h))] (vi (Kb p l 0)):=fun h=>by rw[hs.map];exact hi
 refine Xi .pure (Xi _ (Yi (DU _) ?_));have ha:=MK (p:=p) l 0 (BQ 0);refine Yi ?_ ?_
 ·intro h;have h:(0:Int)≤Kb p l 0:=h;rw[←ha,Av h];exact .refl _
 ·intro h;have h:¬(0:Int)≤Kb p l 0:=h;rw[←ha,At h];exact .refl _
theorem c51{fF:Nat}{caps:List AV}(hs:E1 caps)(l:List (Sl))(p:Sl→Bool)(hF:∀x∈l,PC fF ([.agg (Ah x)]++caps) (vb (p x)))(hl:CK l) :
  PC 80 [sl Ah l,.clo fF caps] (vb (l.any p)):=by
 refine GM (dW EI) rfl CG hm rfl Tryz.func80 (by kernel_rfl) rfl (Nz rfl) (by kernel_rfl) ?_;have hi:=yD hs l p hF (by unfold CK at hl;omega);have DU:∀h,PC 82 [sl Ah l,.clo fF (caps.map (str0 h))] (vi (Kb p l 0)):=fun h=>by rw[hs.map];exact hi
 refine Xi .pure (Xi _ (Yi (DU _) ?_));have ha:=MK (p:=p) l 0 (BQ 0);refine Yi ?_ ?_
 ·intro h;have h:(0:Int)≤Kb p l 0:=h;rw[←ha,Av h];exact .refl _
 ·intro h;have h:¬(0:Int)≤Kb p l 0:=h;rw[←ha,At h];exact .refl _
theorem m8{fF:Nat}{caps:List AV}(hs:E1 caps)(l:List (Tm))(p:Tm→Bool)(hF:∀x∈l,PC fF ([.agg (AG x)]++caps) (vb (p x)))(hl:CK l) :
  PC 135 [sl AG l,.clo fF caps] (vb (l.any p)):=by
 refine GM (dW EI) rfl CG hm rfl Tryz.func135 (by kernel_rfl) rfl (Nz rfl) (by kernel_rfl) ?_;have hi:=jZ hs l p hF (by unfold CK at hl;omega);have DU:∀h,PC 189 [sl AG l,.clo fF (caps.map (str0 h))] (vi (Kb p l 0)):=fun h=>by rw[hs.map];exact hi
 refine Xi .pure (Xi _ (Yi (DU _) ?_));have ha:=MK (p:=p) l 0 (BQ 0);refine Yi ?_ ?_
 ·intro h;have h:(0:Int)≤Kb p l 0:=h;rw[←ha,Av h];exact .refl _
 ·intro h;have h:¬(0:Int)≤Kb p l 0:=h;rw[←ha,At h];exact .refl _
theorem ql(l m:List (Int×Int))(hl:CK l):PC 167 [sl Ae l,sl Ae m] (vb (decide (l=m))):=by
 refine GM (dW EI) rfl CG hm rfl Tryz.func167 (by kernel_rfl) rfl (Nz rfl) (by kernel_rfl) ?_;refine Yi ?_ ?_
 ·intro h;have h:¬((l.map Ae).length:Int)=(m.map Ae).length:=h
  have:l≠m:=fun e=>h (by rw[e])
  rw[At this];exact .refl _
 ·intro h;have h:¬((l.map Ae).length:Int)≠(m.map Ae).length:=h;have CW:l.length=m.length:=by simp at h;omega
  refine Xi {i:Nat // i≤l.length∧l.take i=m.take i} (Xi (fun i=>⟨[(0,sl Ae l),(1,sl Ae m),(12,vi (l.map Ae).length),(13,vi i.1)],[],Aa⟩) (Xi (fun i=>l.length-i.1) (Yi (Xi ⟨0,by simp⟩ ?_) ?_)))
  ·exact⟨⟨Zr,Zr,Zr,Zr,Tv⟩,Tv,Fh,Tv⟩
  ·intro⟨i,h1,h2⟩;refine Yi ?_ ?_
   ·intro h;have h:(i:Int)<(l.map Ae).length:=h;have h:i<l.length:=by simpa using h
    have h' : i<m.length:=by omega
    have hg:l[i]?=some l[i]:=Ge h;have XC : m[i]?=some m[i]:=Ge h';refine Xi (Ae l[i]) (Yi (Yi (by show(0:Int)≤i;omega) (by simp[hg])) (Yi rfl (Yi (Nz rfl) ?_)));refine Xi (Ae m[i]) (Yi (Yi (by show(0:Int)≤i;omega) (by simp[XC])) (Yi rfl (Yi (Nz rfl) ?_)));refine Yi ?_ ?_
    ·intro h5;have e:l[i]=m[i]:=Rv.1 h5;refine Yi (by kernel_rfl) ?_;refine Yi (by show Bf ((i:Int)+1);unfold CK at hl;unfold Bf;omega) ?_;refine Xi ⟨i+1,by omega,?_⟩ ?_
     ·rw[Bb,Bb,h2,hg,XC,e]
     ·exact⟨Dl l.length i (by omega),⟨Zr,Zr,Zr,Zr,Tv⟩,Tv,Fh,Tv⟩
    ·intro h5;refine Yi (by kernel_rfl) ?_
     have:l≠m:=fun e=>h5 (Rv.2 (by subst e;rfl))
     rw[At this];exact .refl _
   ·intro h;have h:¬(i:Int)<(l.map Ae).length:=h;have h:¬i<l.length:=by simpa using h
    have e:l=m:=by
     rw[←Az (l:=l) (i:=i) (by omega),h2,Az (by omega)]
    rw[Av e];exact .refl _
theorem c27(l m:List (Sl))(hl:CK l):PC 18 [sl Ah l,sl Ah m] (vb (decide (l=m))):=by
 refine GM (dW EI) rfl CG hm rfl Tryz.func18 (by kernel_rfl) rfl (Nz rfl) (by kernel_rfl) ?_;refine Yi ?_ ?_
 ·intro h;have h:¬((l.map Ah).length:Int)=(m.map Ah).length:=h
  have:l≠m:=fun e=>h (by rw[e])
  rw[At this];exact .refl _
 ·intro h;have h:¬((l.map Ah).length:Int)≠(m.map Ah).length:=h;have CW:l.length=m.length:=by simp at h;omega
  refine Xi {i:Nat // i≤l.length∧l.take i=m.take i} (Xi (fun i=>⟨[(0,sl Ah l),(1,sl Ah m),(12,vi (l.map Ah).length),(13,vi i.1)],[],Aa⟩) (Xi (fun i=>l.length-i.1) (Yi (Xi ⟨0,by simp⟩ ?_) ?_)))
  ·exact⟨⟨Zr,Zr,Zr,Zr,Tv⟩,Tv,Fh,Tv⟩
  ·intro⟨i,h1,h2⟩;refine Yi ?_ ?_
   ·intro h;have h:(i:Int)<(l.map Ah).length:=h;have h:i<l.length:=by simpa using h
    have h' : i<m.length:=by omega
    have hg:l[i]?=some l[i]:=Ge h;have XC : m[i]?=some m[i]:=Ge h';refine Xi (Ah l[i]) (Yi (Yi (by show(0:Int)≤i;omega) (by simp[hg])) (Yi rfl (Yi (Nz rfl) ?_)));refine Xi (Ah m[i]) (Yi (Yi (by show(0:Int)≤i;omega) (by simp[XC])) (Yi rfl (Yi (Nz rfl) ?_)));refine Yi ?_ ?_
    ·intro h5;have e:l[i]=m[i]:=mc.1 h5;refine Yi (by kernel_rfl) ?_;refine Yi (by show Bf ((i:Int)+1);unfold CK at hl;unfold Bf;omega) ?_;refine Xi ⟨i+1,by omega,?_⟩ ?_
     ·rw[Bb,Bb,h2,hg,XC,e]
     ·exact⟨Dl l.length i (by omega),⟨Zr,Zr,Zr,Zr,Tv⟩,Tv,Fh,Tv⟩
    ·intro h5;refine Yi (by kernel_rfl) ?_
     have:l≠m:=fun e=>h5 (mc.2 (by subst e;rfl))
     rw[At this];exact .refl _
   ·intro h;have h:¬(i:Int)<(l.map Ah).length:=h;have h:¬i<l.length:=by simpa using h
    have e:l=m:=by
     rw[←Az (l:=l) (i:=i) (by omega),h2,Az (by omega)]
    rw[Av e];exact .refl _
end Go.Eng

namespace Go.Eng
open Go.Proofs
abbrev jF(l:List Nat):QA:=⟨l,[],[],[],[],[],[],[],[],[],[]⟩
theorem E1.ptr(cs:List AV):E1 [.cptr cs]:=fun c hc h=>by
 rw[Au.1 hc];rfl
theorem uk(s:Int×Int)(p:Int):PC 120 [.agg (Ae s),.cptr [vi p]] (vb (BR p s)):=by
 refine Ps EI Tryz.func120 rfl (Nz rfl) ?_;refine Yi ?_ ?_
 ·intro h;have h:s.1≤p:=h;refine Yi ?_ ?_
  ·intro h2;have h2:p<s.2:=h2;rw[show BR p s=true by simp[BR,h,h2]];exact .refl _
  ·intro h2;have h2:¬p<s.2:=h2;rw[show BR p s=false by simp[BR,h2]];exact .refl _
 ·intro h;have h:¬s.1≤p:=h;rw[show BR p s=false by simp[BR,h]];exact .refl _
theorem nt(s:List (Int×Int))(p:Int)(hl:CK s):PC 68 [sl Ae s,vi p] (vb (has s p)):=by
 refine Ps (jF [3]) Tryz.func68 rfl (Nz rfl) ?_;refine Yi ?_ ?_
 ·intro h;have h:0≤p:=h;refine Yi ?_ ?_
  ·intro h2;have h2:p<1000000:=h2;refine Xi .pure (Xi _ (Yi (uj (E1.ptr [vi p]) s (BR p) (fun x _=>uk x p) hl) ?_));rw[show has s p=s.any (BR p) by simp[has,h,h2]];cases s.any (BR p)<;>exact .refl _
  ·intro h2;have h2:¬p<1000000:=h2;rw[show has s p=false by simp[has,h2]];exact .refl _
 ·intro h;have h:¬0≤p:=h;rw[show has s p=false by simp[has,h]];exact .refl _

theorem yF(r:Rl):PC 98 [.agg (AY r)] (vi (plc r.ver)):=by
 refine Ps EI Tryz.func98 rfl (Nz rfl) ?_;exact Yi (Nz rfl) (Xi .pure (Xi _ (Yi (vg r.ver) (.refl _))))
theorem c99(x:Sl)(t:Tm):PC 235 [.agg (Ah x),.cptr (AG t)] (vb (decide (x.path=t.path))):=by
 refine Ps EI Tryz.func235 rfl (Nz rfl) ?_;refine Yi ?_ ?_
 ·intro h;have h:x.path=t.path:=h;rw[Av h];exact .refl _
 ·intro h;have h:¬x.path=t.path:=h;rw[At h];exact .refl _
theorem OO{α:Type}{p:α→Bool}:∀(l:List α) (k:Int),(Kb p l k=-1∧l.find? p=none)∨∃i x,Kb p l k=k+(i:Nat)∧l[i]?=some x∧l.find? p=some x
 | [],k=>.inl Zr
 |x::r,k=>by
  cases h:p x with
  |true=>exact .inr ⟨0,x,by simp[Kb,h],rfl,by simp[h]⟩
  |false =>
   rcases OO (p:=p) r (k+1)with ⟨h1,h2⟩ | ⟨i,y,h1,h2,h3⟩
   ·exact .inl ⟨by simp[Kb,h,h1],by simp[h,h2]⟩
   ·exact .inr ⟨i+1,y,by simp only[Kb,h,Da,Ga,h1];omega,by simpa using h2,by simp[h,h3]⟩
theorem c55(t:Tm)(s:List Sl)(hl:CK s)(ht:CK t.set):PC 199 [.agg (AG t),sl Ah s] (vb (GP t s)):=by
 have hc:=yD (E1.ptr (AG t)) s (fun x=>decide (x.path=t.path)) (fun x _=>c99 x t) (by unfold CK at hl;omega);unfold GP;rcases OO (p:=fun x:Sl=>decide (x.path=t.path)) s 0 with ⟨h1,h2⟩ | ⟨i,x,h1,h2,h3⟩
 ·rw[h1]at hc;rw[h2];refine Ps (jF [2]) Tryz.func199 rfl (Nz rfl) ?_;refine Xi .pure (Xi _ (Yi hc ?_));refine Yi ?_ ?_
  ·intro _;refine Yi ?_ ?_
   ·intro h;have h:t.absent=true:=h;rw[h];exact .refl _
   ·intro h;have h:t.absent=false:=h;rw[h];exact .refl _
  ·intro h;exact absurd (show(-1:Int)<0 by decide) h
 ·rw[h1,Kn]at hc;rw[h3];have hg:(s.map Ah)[((i:Nat):Int).toNat]?=some (Ah x):=by rw[A6,AI,h2];rfl
  have hp:=vg x.ver;dsimp only;rcases Bt (CH x.ver)with hv | hv
  ·rw[hv,AB rfl,AB rfl]at hp;rw[hv];refine Ps (jF [2]) Tryz.func199 rfl (Nz rfl) ?_;refine Xi .pure (Xi _ (Yi hc ?_));refine Yi ?_ ?_
   ·intro h;have h:(i:Int)<0:=h;omega
   ·intro _;refine Xi (Ah x) (Yi (Yi (Nn i) hg) (Yi rfl (Yi (Nz rfl) ?_)));refine Xi .pure (Xi _ (Yi hp ?_));refine Yi ?_ ?_
    ·intro _;refine Xi .pure (Xi _ (Yi (nt t.set (place x.ver) ht) ?_));exact .refl _
    ·intro h;exact absurd rfl h
  ·rw[hv,Ar (by decide),Ar (by decide)]at hp;rw[hv];refine Ps (jF [2]) Tryz.func199 rfl (Nz rfl) ?_;refine Xi .pure (Xi _ (Yi hc ?_));refine Yi ?_ ?_
   ·intro h;have h:(i:Int)<0:=h;omega
   ·intro _;refine Xi (Ah x) (Yi (Yi (Nn i) hg) (Yi rfl (Yi (Nz rfl) ?_)));refine Xi .pure (Xi _ (Yi hp ?_));refine Yi ?_ ?_
    ·intro h;have h:(2:Int)=0:=h;omega
    ·intro _;exact .refl _
end Go.Eng

namespace Go.Eng
open Go.Proofs
theorem jO{α:Type}{p:α→Bool}{l:List α}{i:Nat}(h:∀j (hj:j<l.length),j<i→p l[j]=true)(hi:¬i<l.length):l.all p=true:=by
 rw[AX];intro x hx;obtain⟨j,hj,rfl⟩:=CE.1 hx;exact h j hj (by omega)
theorem mS{α:Type}{p:α→Bool}{l:List α}{i:Nat}(hi:i<l.length)(h:p l[i]=false):l.all p=false:=by
 rw[List.all_eq_false];exact⟨l[i],Aj hi,by simp[h]⟩
theorem jQ{α:Type}{p:α→Bool}{l:List α}{i:Nat}(hi:i<l.length)(h:p l[i]=true):l.any p=true:=by
 rw[A3];exact⟨l[i],Aj hi,h⟩
theorem mU{α:Type}{p:α→Bool}{l:List α}{i:Nat}(h:∀j (hj:j<l.length),j<i→p l[j]=false)(hi:¬i<l.length):l.any p=false:=by
 rw[CL];intro x hx;obtain⟨j,hj,rfl⟩:=CE.1 hx;simp[h j hj (by omega)]
abbrev ee(l:List Tm):Prop:=CK l∧∀t∈l,CK t.set
theorem c26(l:List Tm)(s:List Sl)(hl:ee l)(hs:CK s):PC 151 [sl AG l,sl Ah s] (vb (l.all fun t=>GP t s)):=by
 have hc:∀i (h:i<l.length),PC 199 [.agg (AG l[i]),sl Ah s] (vb (GP l[i] s)):=fun i h=>c55 l[i] s hs (hl.2 _ (Aj h));obtain⟨hl,_⟩:=hl;unfold CK at hl;refine Ps EI Tryz.func151 rfl (Nz rfl) ?_;refine Xi {i:Nat // i≤l.length∧∀j (hj:j<l.length),j<i→GP l[j] s=true} (Xi (fun i=>⟨[(0,sl AG l),(1,sl Ah s),(7,vi (l.map AG).length),(8,vi i.1)],[],Aa⟩) (Xi (fun i=>l.length-i.1) (Yi (Xi ⟨0,by simp⟩ ?_) ?_)))
 ·exact⟨Z4,Tv,Fh,Tv⟩
 ·intro⟨i,h1,h2⟩;refine Yi ?_ ?_
  ·intro h;have h:(i:Int)<(l.map AG).length:=h;have h:i<l.length:=by simpa using h
   have hg:l[i]?=some l[i]:=Ge h;have ti:=hc i h;refine Xi (AG l[i]) (Yi (Yi (Nn i) (by simp[hg])) (Yi rfl (Yi (Nz rfl) ?_)));cases hp:GP l[i] s with
   |false =>
    rw[hp]at ti;refine Xi .pure (Xi _ (Yi ti ?_));rw[mS (p:=fun t=>GP t s) h hp];exact .refl _
   |true =>
    rw[hp]at ti;refine Xi .pure (Xi _ (Yi ti ?_));refine Yi (Ii i (by omega)) ?_;refine Xi ⟨i+1,by omega,fun j hj IA=>?_⟩ ?_
    ·by_cases e:j=i
     ·subst e;exact hp
     ·exact h2 j hj (by omega)
    ·exact⟨Dl l.length i (by omega),Z4,Tv,Fh,Tv⟩
  ·intro h;have h:¬(i:Int)<(l.map AG).length:=h;have h:¬i<l.length:=by simpa using h
   rw[jO (p:=fun t=>GP t s) h2 h];exact .refl _
theorem um(x:Sl)(t:Tm):PC 153 [.agg (Ah x),.cptr (AG t)] (vb (decide (x.path=t.path))):=by
 refine Ps EI Tryz.func153 rfl (Nz rfl) ?_;refine Yi ?_ ?_
 ·intro h;have h:x.path=t.path:=h;rw[Av h];exact .refl _
 ·intro h;have h:¬x.path=t.path:=h;rw[At h];exact .refl _
theorem ul(t:Tm)(s:List Sl)(hs:CK s):PC 152 [.agg (AG t),.cptr [sl Ah s]] (vb (!Cv s t.path)):=by
 have hc:=c51 (E1.ptr (AG t)) s (fun x=>decide (x.path=t.path)) (fun x _=>um x t) hs;unfold Cv;cases hp:s.any fun x=>decide (x.path=t.path)with
 |true =>
  rw[hp]at hc;refine Ps (jF [2]) Tryz.func152 rfl (Nz rfl) ?_;exact Xi .pure (Xi _ (Yi hc (.refl _)))
 |false =>
  rw[hp]at hc;refine Ps (jF [2]) Tryz.func152 rfl (Nz rfl) ?_;exact Xi .pure (Xi _ (Yi hc (.refl _)))
theorem yG(l:List Tm)(s:List Sl)(hl:ee l)(hs:CK s):PC 101 [sl AG l,sl Ah s] (vb (Cz l s)):=by
 have hv:=c26 l s hl hs;have hc:=m8 (E1.ptr [sl Ah s]) l (fun t=>!Cv s t.path) (fun t _=>ul t s hs) hl.1;unfold Cz Bi;cases h1:l.all fun t=>GP t s with
 |false =>
  rw[h1]at hv;refine Ps (jF [3]) Tryz.func101 rfl (Nz rfl) ?_;exact Xi .pure (Xi _ (Yi hv (.refl _)))
 |true =>
  rw[h1]at hv;cases h2:l.any fun t=>!Cv s t.path with
  |true =>
   rw[h2]at hc;refine Ps (jF [3]) Tryz.func101 rfl (Nz rfl) ?_;exact Xi .pure (Xi _ (Yi hv (Xi .pure (Xi _ (Yi hc (.refl _))))))
  |false =>
   rw[h2]at hc;refine Ps (jF [3]) Tryz.func101 rfl (Nz rfl) ?_;exact Xi .pure (Xi _ (Yi hv (Xi .pure (Xi _ (Yi hc (.refl _))))))
end Go.Eng

namespace Go.Eng
open Go.Proofs
def d8(p:Int)(s:Int×Int):Bool:=decide (max 0 s.1≤p)&&decide (p<min 1000000 s.2)
theorem kS(s:List (Int×Int))(p:Int):s.any (d8 p)=has s p:=by
 unfold has
 by_cases h:0≤p∧p<1000000
 ·rw[Av h.1,Av h.2];simp only[Ef]
  congr 1
  funext x
  unfold d8 BR
  congr 1
  ·exact IE.2 (by omega)
  ·exact IE.2 (by omega)
 ·have e:(decide (0≤p)&&decide (p<1000000))=false:=by
   rcases Decidable.not_and_iff_or_not.1 h with h | h<;>simp[h]
  rw[e,Bool.false_and];rw[CL];intro x _;unfold d8;simp only[Ag,not_and];intro h1 h2;have h1:=Cm h1;have h2:=Cm h2;exact h ⟨by omega,by omega⟩
theorem jX(s:List (Int×Int))(p:Int)(hl:CK s):PC 128 [sl Ae s,vi p] (vb (has s p)):=by
 rw[←kS];unfold CK at hl;refine Ps EI Tryz.func128 rfl (Nz rfl) ?_;refine Xi {i:Nat // i≤s.length∧∀j (hj:j<s.length),j<i→d8 p s[j]=false} (Xi (fun i=>⟨[(0,sl Ae s),(1,vi p),(5,vi i.1)],[],Aa⟩) (Xi (fun i=>s.length-i.1) (Yi (Xi ⟨0,by simp⟩ ?_) ?_)))
 ·exact⟨Z3,Tv,Fh,Tv⟩
 ·intro⟨i,h1,h2⟩;refine Yi ?_ ?_
  ·intro h;have h:(i:Int)<(s.map Ae).length:=h;have h:i<s.length:=by simpa using h
   have hg:s[i]?=some s[i]:=Ge h;refine Xi (Ae s[i]) (Yi (Yi (Nn i) (by simp[hg])) (Yi rfl ?_));refine Yi ?_ ?_
   ·intro h3;have h3:max 0 s[i].1≤p:=h3;refine Xi (Ae s[i]) (Yi (Yi (Nn i) (by simp[hg])) (Yi rfl ?_));refine Yi ?_ ?_
    ·intro h4;have h4:p<min 1000000 s[i].2:=h4;have h5:d8 p s[i]=true:=by unfold d8;rw[Av h3,Av h4];rfl
     show GU (vb true) (vb (s.any (d8 p)));rw[jQ (p:=d8 p) h h5];exact .refl _
    ·intro h4;have h4:¬p<min 1000000 s[i].2:=h4;refine Yi (Ii i (by omega)) ?_;refine Xi ⟨i+1,by omega,fun j hj IA=>?_⟩ ?_
     ·by_cases e:j=i
      ·subst e;unfold d8;rw[At h4,Ct]
      ·exact h2 j hj (by omega)
     ·exact⟨Dl s.length i (by omega),Z3,Tv,Fh,Tv⟩
   ·intro h3;have h3:¬max 0 s[i].1≤p:=h3;refine Yi (Ii i (by omega)) ?_;refine Xi ⟨i+1,by omega,fun j hj IA=>?_⟩ ?_
    ·by_cases e:j=i
     ·subst e;unfold d8;rw[At h3,Bool.false_and]
     ·exact h2 j hj (by omega)
    ·exact⟨Dl s.length i (by omega),Z3,Tv,Fh,Tv⟩
  ·intro h;have h:¬(i:Int)<(s.map Ae).length:=h;have h:¬i<s.length:=by simpa using h
   show GU (vb false) (vb (s.any (d8 p)));rw[mU (p:=d8 p) h2 h];exact .refl _
end Go.Eng

namespace Go.Eng
open Go.Proofs
theorem ng(n:Int):PC 218 [vi n] (vb (decide (okPart n))):=by
 refine Ps EI Tryz.func218 rfl (Nz rfl) ?_;refine Yi ?_ ?_
 ·intro h;have h:0≤n:=h;refine Yi ?_ ?_
  ·intro h2;have h2:n≤999:=h2;show GU (vb true) (vb (decide (okPart n)));rw[Av ⟨h,h2⟩];exact .refl _
  ·intro h2;have h2:¬n≤999:=h2;show GU (vb false) (vb (decide (okPart n)));rw[At fun q=>h2 q.2];exact .refl _
 ·intro h;have h:¬0≤n:=h;show GU (vb false) (vb (decide (okPart n)));rw[At fun q=>h q.1];exact .refl _
theorem uv(v:Ver):PC 174 [.agg (Gi v)] (vb (CH v)):=by
 have ha:=ng v.a;have hb:=ng v.b;have hc:=ng v.c;unfold CH;cases h1:decide (okPart v.a)with
 |false =>
  rw[h1]at ha;refine Ps EI Tryz.func174 rfl (Nz rfl) ?_;exact Xi .pure (Xi _ (Yi ha (.refl _)))
 |true =>
  rw[h1]at ha;cases h2:decide (okPart v.b)with
  |false =>
   rw[h2]at hb;refine Ps EI Tryz.func174 rfl (Nz rfl) ?_;exact Xi .pure (Xi _ (Yi ha (Xi .pure (Xi _ (Yi hb (.refl _))))))
  |true =>
   rw[h2]at hb;refine Ps EI Tryz.func174 rfl (Nz rfl) ?_;exact Xi .pure (Xi _ (Yi ha (Xi .pure (Xi _ (Yi hb (Xi .pure (Xi _ (Yi hc (.refl _)))))))))
end Go.Eng

namespace Go.Eng
open Go.Proofs
theorem aB{α:Type}{p:α→Bool}:∀{l:List α} {i:Nat} (hi:i<l.length),(∀j (hj:j<l.length),j<i→p l[j]=false)→p l[i]=true→l.find? p=some l[i]
 |x::r,0,_,_,h=>by
  have h:p x=true:=h;simp[h]
 |x::r,i+1,hi,hb,h=>by
  have h0:p x=false:=hb 0 (by simp) (by omega);rw[ET,h0];exact aB (l:=r) (i:=i) (by simpa using hi) (fun j hj IA=>hb (j+1) (by simpa using hj) (by omega)) h
theorem ca{α:Type}{p:α→Bool}{l:List α}{i:Nat}(h:∀j (hj:j<l.length),j<i→p l[j]=false)(hi:¬i<l.length):l.find? p=none:=by
 rw[Ep];intro x hx;obtain⟨j,hj,rfl⟩:=CE.1 hx;simp[h j hj (by omega)]
end Go.Eng

namespace Go.Eng
open Go.Proofs
end Go.Eng

namespace Go.Eng
open Go.Proofs
abbrev Jo(a:An):List AV:=[vb a.found,sl Ah a.sel,sl BO a.infs,sl BD a.skips]
theorem m7(r:Rl):PC 113 [.agg (AY r)] (.agg (Ah ⟨r.path,r.ver⟩)):=by
 refine Ps EI Tryz.func113 rfl (Nz rfl) ?_;exact Yi (Nz rfl) (Yi (Nz rfl) (Yi (Nz rfl) (.refl _)))
end Go.Eng

namespace Go.Eng
open Go.Proofs
theorem tc(s:List Sl)(p:ByteArray)(hl:CK s):PC 127 [sl Ah s,vs p] (.tup [.agg (Ah ((BC s p).getD o6)),vb (BC s p).isSome]):=by
 unfold CK at hl;refine Ps EI Tryz.func127 rfl (Nz rfl) ?_;refine Xi {i:Nat // i≤s.length∧∀j (hj:j<s.length),j<i→decide (s[j].path=p)=false} (Xi (fun i=>⟨[(0,sl Ah s),(1,vs p),(4,.ref 4 0),(6,vi i.1)],[(4,.cells (Ah o6))],Aa⟩) (Xi (fun i=>s.length-i.1) (Yi (Xi ⟨0,by simp⟩ ?_) ?_)))
 ·exact⟨Z4,Z1,Fh,Tv⟩
 ·intro⟨i,h1,h2⟩;refine Yi ?_ ?_
  ·intro h;have h:(i:Int)<(s.map Ah).length:=h;have h:i<s.length:=by simpa using h
   have hg:s[i]?=some s[i]:=Ge h;refine Xi (Ah s[i]) (Yi (Yi (Nn i) (by simp[hg])) (Yi rfl ?_));refine Yi ?_ ?_
   ·intro h3;have h3:s[i].path=p:=h3;have hf:BC s p=some s[i]:=aB (p:=fun x:Sl=>decide (x.path=p)) h h2 (Av h3);refine Xi (Ah s[i]) (Yi (Yi (Nn i) (by simp[hg])) (Yi rfl (Yi (Nz rfl) (Yi (Nz rfl) (Yi (Nz rfl) ?_)))));show GU (.tup [.agg (Ah s[i]),vb true]) _;rw[hf];exact .refl _
   ·intro h3;have h3:¬s[i].path=p:=h3;refine Yi (Ii i (by omega)) ?_;refine Xi ⟨i+1,by omega,fun j hj IA=>?_⟩ ?_
    ·by_cases e:j=i
     ·subst e;exact At h3
     ·exact h2 j hj (by omega)
    ·exact⟨Dl s.length i (by omega),Z4,Z1,Fh,Tv⟩
  ·intro h;have h:¬(i:Int)<(s.map Ah).length:=h;have h:¬i<s.length:=by simpa using h
   have hf:BC s p=none:=ca (p:=fun x:Sl=>decide (x.path=p)) h2 h;refine Yi (Nz rfl) (Yi (Nz rfl) ?_);show GU (.tup [.agg (Ah o6),vb false]) _;rw[hf];exact .refl _
end Go.Eng

namespace Go.Eng
open Go.Proofs
theorem c75(l m:List (Int×Int))(hl:CK l):PC 124 [sl Ae l,sl Ae m] (vb (decide (l=m))):=by
 refine Ps EI Tryz.func124 rfl (Nz rfl) ?_;refine Yi ?_ ?_
 ·intro h;have h:¬((l.map Ae).length:Int)=(m.map Ae).length:=h
  have:l≠m:=fun e=>h (by rw[e])
  rw[At this];exact .refl _
 ·intro h;have h:¬((l.map Ae).length:Int)≠(m.map Ae).length:=h;have CW:l.length=m.length:=by simp at h;omega
  refine Xi {i:Nat // i≤l.length∧l.take i=m.take i} (Xi (fun i=>⟨[(0,sl Ae l),(1,sl Ae m),(5,vi i.1)],[],Aa⟩) (Xi (fun i=>l.length-i.1) (Yi (Xi ⟨0,by simp⟩ ?_) ?_)))
  ·exact⟨Z3,Tv,Fh,Tv⟩
  ·intro⟨i,h1,h2⟩;refine Yi ?_ ?_
   ·intro h;have h:(i:Int)<(l.map Ae).length:=h;have h:i<l.length:=by simpa using h
    have h' : i<m.length:=by omega
    have hg:l[i]?=some l[i]:=Ge h;have XC : m[i]?=some m[i]:=Ge h';refine Xi (Ae l[i]) (Yi (Yi (Nn i) (by simp[hg])) (Yi rfl (Yi (Nz rfl) ?_)));refine Xi (Ae m[i]) (Yi (Yi (Nn i) (by simp[XC])) (Yi rfl (Yi (Nz rfl) ?_)));refine Yi ?_ ?_
    ·intro h5;have e:l[i]=m[i]:=Rv.1 h5;refine Yi (by kernel_rfl) ?_;refine Yi (by show Bf ((i:Int)+1);unfold CK at hl;unfold Bf;omega) ?_;refine Xi ⟨i+1,by omega,?_⟩ ?_
     ·rw[Bb,Bb,h2,hg,XC,e]
     ·exact⟨Dl l.length i (by omega),Z3,Tv,Fh,Tv⟩
    ·intro h5;refine Yi (by kernel_rfl) ?_
     have:l≠m:=fun e=>h5 (Rv.2 (by subst e;rfl))
     rw[At this];exact .refl _
   ·intro h;have h:¬(i:Int)<(l.map Ae).length:=h;have h:¬i<l.length:=by simpa using h
    have e:l=m:=by
     rw[←Az (l:=l) (i:=i) (by omega),h2,Az (by omega)]
    rw[Av e];exact .refl _
end Go.Eng

namespace Go.Eng
open Go.Proofs
end Go.Eng

namespace Go.Eng
open Go.Proofs
end Go.Eng
