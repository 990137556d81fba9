/- Lemmas 14. -/
import Derived.Test.YtjhkbdgingfbaaaGreatDoorGA01
import Derived.Test.YtjhkbdgingfbaaaGreatDoorGA13
import Derived.Shelf.SlSortCmp.WholeK
import Derived.Shelf.Sort.Plain
import Derived.Shelf.Small.Strs
import Derived.Shelf.Small.Bits
import Derived.Ground.SlsfProg
import Derived.Ground.NamesProg
import Derived.Shelf.SlSortCmp.NoneTotal
import Derived.Shelf.Slices.Delete
namespace Go.Eng
open Go.Proofs
variable {α:Type}{b0 b1 b2 b3:Bool}{a0:α}{b4:Bool}{a1:α}{b5:Bool}{a2 a3:α}{b6:Bool}{a4:α}{b7:Bool}{a5 a6:α}{b8:Bool}{a7:α}{b9:Bool}{a8:α}{IH:Bool}{a9:α}{l:List α}{RQ:α}(i:Nat)(pl:VN)(b:Bool)
abbrev vi(n:Int):AV := .v (.int .i64 n)
abbrev vb:AV := .v (.bool b)
abbrev vs(s:ByteArray):AV := .v (.string s)
abbrev sl(enc:α -> List AV)(l:List α):AV := .slice .none (l.map enc)
abbrev Dy(v:Ver):List AV := [vi v.a,vi v.b,vi v.c]
abbrev An(s:Int×Int):List AV := [vi s.1,vi s.2]
abbrev BU(q:Rq):List AV := [vs q.path,sl An q.set]
abbrev Bb(r:Rl):List AV := [vs r.path,vi r.ver.a,vi r.ver.b,vi r.ver.c,sl BU r.reqs,vs r.arch,vs r.ifc,vs r.cert,vb r.yanked]
abbrev Ag(s:Sl):List AV := [vs s.path,vi s.ver.a,vi s.ver.b,vi s.ver.c]
noncomputable abbrev aU:Cx := ⟨Tryz.prog,ey,pl,false,0,fun _ _ _ _ => True⟩
noncomputable abbrev Wd:Cx := ⟨Tryz.prog,ey,pl,true,0,fun _ _ _ _ => True⟩
abbrev Dj:VN := ⟨[],[],[],[],[],[],[],[],[],[],[]⟩
abbrev PC(f:Nat)(args:List AV)(res:AV):Prop := IR Tryz.prog f args res
theorem hm:Tryz.prog.follows .mixedOrders = true := by rfl
theorem Zr{α:Sort _}{β:Sort _}{a:α}{b:β}:a = a /\ b = b := ⟨rfl,rfl⟩
theorem Nz{a b:Nat}(h:Nat.ble a b = true):a <= b := DQ h
theorem Xi{α:Sort _}{p:α -> Prop}(w:α)(h:p w):Exists p := Exists.intro w h
theorem Yi{a b:Prop}(h:a)(k:b):a /\ b := And.intro h k
theorem Fh{st:St}{h:Nat -> HO}:∀j,Ao j = .free \/ (st.h j = Ao j /\ N4 h (Ao j) = true) := fun _ => .inl rfl
theorem Tv:True := trivial
theorem Ii(h:i <= 9223372036854775806):AE ((i:Int) + 1) := by unfold AE;omega
theorem Dl(n i:Nat)(h:i<n):n-(i + 1)<n-i := by omega
theorem Bt:b = true \/ b = false := Bool.eq_false_or_eq_true b
theorem Z1:(a0 = a0 /\ b0 = b0) /\ True := ⟨⟨rfl,rfl⟩,trivial⟩
theorem Z2:(a0 = a0 /\ b0 = b0) /\ (a1 = a1 /\ b1 = b1) /\ True := ⟨⟨rfl,rfl⟩,⟨rfl,rfl⟩,trivial⟩
theorem Z3:(a0 = a0 /\ b0 = b0) /\ (a1 = a1 /\ b1 = b1) /\ (a2 = a2 /\ b2 = b2) /\ True := ⟨⟨rfl,rfl⟩,⟨rfl,rfl⟩,⟨rfl,rfl⟩,trivial⟩
theorem Z4:(a0 = a0 /\ b0 = b0) /\ (a1 = a1 /\ b1 = b1) /\ (a2 = a2 /\ b2 = b2) /\ (a3 = a3 /\ b3 = b3) /\ True := ⟨⟨rfl,rfl⟩,⟨rfl,rfl⟩,⟨rfl,rfl⟩,⟨rfl,rfl⟩,trivial⟩
theorem Z5:(a0 = a0 /\ b0 = b0) /\ (a1 = a1 /\ b1 = b1) /\ (a2 = a2 /\ b2 = b2) /\ (a3 = a3 /\ b3 = b3) /\ (a4 = a4 /\ b4 = b4) /\ True := ⟨⟨rfl,rfl⟩,⟨rfl,rfl⟩,⟨rfl,rfl⟩,⟨rfl,rfl⟩,⟨rfl,rfl⟩,trivial⟩
theorem Z6:(a0 = a0 /\ b0 = b0) /\ (a1 = a1 /\ b1 = b1) /\ (a2 = a2 /\ b2 = b2) /\ (a3 = a3 /\ b3 = b3) /\ (a4 = a4 /\ b4 = b4) /\ (a5 = a5 /\ b5 = b5) /\ True := ⟨⟨rfl,rfl⟩,⟨rfl,rfl⟩,⟨rfl,rfl⟩,⟨rfl,rfl⟩,⟨rfl,rfl⟩,⟨rfl,rfl⟩,trivial⟩
theorem Z7:(a0 = a0 /\ b0 = b0) /\ (a1 = a1 /\ b1 = b1) /\ (a2 = a2 /\ b2 = b2) /\ (a3 = a3 /\ b3 = b3) /\ (a4 = a4 /\ b4 = b4) /\ (a5 = a5 /\ b5 = b5) /\ (a6 = a6 /\ b6 = b6) /\ True := ⟨⟨rfl,rfl⟩,⟨rfl,rfl⟩,⟨rfl,rfl⟩,⟨rfl,rfl⟩,⟨rfl,rfl⟩,⟨rfl,rfl⟩,⟨rfl,rfl⟩,trivial⟩
theorem Z8:(a0 = a0 /\ b0 = b0) /\ (a1 = a1 /\ b1 = b1) /\ (a2 = a2 /\ b2 = b2) /\ (a3 = a3 /\ b3 = b3) /\ (a4 = a4 /\ b4 = b4) /\ (a5 = a5 /\ b5 = b5) /\ (a6 = a6 /\ b6 = b6) /\ (a7 = a7 /\ b7 = b7) /\ True := ⟨⟨rfl,rfl⟩,⟨rfl,rfl⟩,⟨rfl,rfl⟩,⟨rfl,rfl⟩,⟨rfl,rfl⟩,⟨rfl,rfl⟩,⟨rfl,rfl⟩,⟨rfl,rfl⟩,trivial⟩
theorem Z9:(a0 = a0 /\ b0 = b0) /\ (a1 = a1 /\ b1 = b1) /\ (a2 = a2 /\ b2 = b2) /\ (a3 = a3 /\ b3 = b3) /\ (a4 = a4 /\ b4 = b4) /\ (a5 = a5 /\ b5 = b5) /\ (a6 = a6 /\ b6 = b6) /\ (a7 = a7 /\ b7 = b7) /\ (a8 = a8 /\ b8 = b8) /\ True := ⟨⟨rfl,rfl⟩,⟨rfl,rfl⟩,⟨rfl,rfl⟩,⟨rfl,rfl⟩,⟨rfl,rfl⟩,⟨rfl,rfl⟩,⟨rfl,rfl⟩,⟨rfl,rfl⟩,⟨rfl,rfl⟩,trivial⟩
theorem Z10:(a0 = a0 /\ b0 = b0) /\ (a1 = a1 /\ b1 = b1) /\ (a2 = a2 /\ b2 = b2) /\ (a3 = a3 /\ b3 = b3) /\ (a4 = a4 /\ b4 = b4) /\ (a5 = a5 /\ b5 = b5) /\ (a6 = a6 /\ b6 = b6) /\ (a7 = a7 /\ b7 = b7) /\ (a8 = a8 /\ b8 = b8) /\ (a9 = a9 /\ b9 = b9) /\ True := ⟨⟨rfl,rfl⟩,⟨rfl,rfl⟩,⟨rfl,rfl⟩,⟨rfl,rfl⟩,⟨rfl,rfl⟩,⟨rfl,rfl⟩,⟨rfl,rfl⟩,⟨rfl,rfl⟩,⟨rfl,rfl⟩,⟨rfl,rfl⟩,trivial⟩
theorem Z11:(a0 = a0 /\ b0 = b0) /\ (a1 = a1 /\ b1 = b1) /\ (a2 = a2 /\ b2 = b2) /\ (a3 = a3 /\ b3 = b3) /\ (a4 = a4 /\ b4 = b4) /\ (a5 = a5 /\ b5 = b5) /\ (a6 = a6 /\ b6 = b6) /\ (a7 = a7 /\ b7 = b7) /\ (a8 = a8 /\ b8 = b8) /\ (a9 = a9 /\ b9 = b9) /\ (RQ = RQ /\ IH = IH) /\ True := ⟨⟨rfl,rfl⟩,⟨rfl,rfl⟩,⟨rfl,rfl⟩,⟨rfl,rfl⟩,⟨rfl,rfl⟩,⟨rfl,rfl⟩,⟨rfl,rfl⟩,⟨rfl,rfl⟩,⟨rfl,rfl⟩,⟨rfl,rfl⟩,⟨rfl,rfl⟩,trivial⟩
theorem Z12{UR:α}{jf:Bool}:(a0 = a0 /\ b0 = b0) /\ (a1 = a1 /\ b1 = b1) /\ (a2 = a2 /\ b2 = b2) /\ (a3 = a3 /\ b3 = b3) /\ (a4 = a4 /\ b4 = b4) /\ (a5 = a5 /\ b5 = b5) /\ (a6 = a6 /\ b6 = b6) /\ (a7 = a7 /\ b7 = b7) /\ (a8 = a8 /\ b8 = b8) /\ (a9 = a9 /\ b9 = b9) /\ (RQ = RQ /\ IH = IH) /\ (UR = UR /\ jf = jf) /\ True := ⟨⟨rfl,rfl⟩,⟨rfl,rfl⟩,⟨rfl,rfl⟩,⟨rfl,rfl⟩,⟨rfl,rfl⟩,⟨rfl,rfl⟩,⟨rfl,rfl⟩,⟨rfl,rfl⟩,⟨rfl,rfl⟩,⟨rfl,rfl⟩,⟨rfl,rfl⟩,⟨rfl,rfl⟩,trivial⟩
theorem Z13{UR a12:α}{jf pt:Bool}:(a0 = a0 /\ b0 = b0) /\ (a1 = a1 /\ b1 = b1) /\ (a2 = a2 /\ b2 = b2) /\ (a3 = a3 /\ b3 = b3) /\ (a4 = a4 /\ b4 = b4) /\ (a5 = a5 /\ b5 = b5) /\ (a6 = a6 /\ b6 = b6) /\ (a7 = a7 /\ b7 = b7) /\ (a8 = a8 /\ b8 = b8) /\ (a9 = a9 /\ b9 = b9) /\ (RQ = RQ /\ IH = IH) /\ (UR = UR /\ jf = jf) /\ (a12 = a12 /\ pt = pt) /\ True := ⟨⟨rfl,rfl⟩,⟨rfl,rfl⟩,⟨rfl,rfl⟩,⟨rfl,rfl⟩,⟨rfl,rfl⟩,⟨rfl,rfl⟩,⟨rfl,rfl⟩,⟨rfl,rfl⟩,⟨rfl,rfl⟩,⟨rfl,rfl⟩,⟨rfl,rfl⟩,⟨rfl,rfl⟩,⟨rfl,rfl⟩,trivial⟩
theorem Nn:(0:Int) <= (i:Int) := KG i
abbrev Ic(x:List Rl)(ifs:List (List AV)):List AV := [sl Bb x,.slice .none ifs]
theorem Ps{f:Nat}{fn:Func}{c:Code}{args:List AV}{res:AV}(hf:Tryz.prog.funcs[f]? = some fn)(hb:fn.body = some c)(hN:args.length <= fn.ntmps)(hk:RH (aU pl) c (fE (aU pl) fn.results.toList fun r => D7 r res) ⟨NH args,Ao⟩)(hn : (fn.name == "runtime.NumGoroutine") = false := by kernel_rfl)(hc : Ff fn.ntmps c = true := by kernel_rfl) : IR Tryz.prog f args res := Fr (aU pl) rfl DZ hm rfl hf hn hb hN hc hk
theorem Lm{β:Type}(f:α -> β):(l.map f).length = l.length := AO f
theorem Ge{i:Nat}(h:i<l.length):l[i]? = some l[i] := At h
end Go.Eng
namespace Go.Proofs
open Go.Shelf
def Tryz.layPdqSpan_ren:Go.Shelf.Ren:=⟨fun | 14=>287 | 20=>316 | 21=>317 | 22=>318 | 23=>319 | 24=>320 | 25=>321 | 26=>322 | 27=>323 | 46=>334 | 47=>177 | 48=>178 | 49=>335 | 50=>336 | 15=>72 | 57=>348 | 28=>120 | 29=>121 | n=>n,fun | 24=>226 | 22=>140 | 3=>3 | 25=>311 | 4=>4 | 0=>0 | 46=>184 | 45=>183 | 50=>188 | 66=>250 | 39=>127 | 55=>177 | 70=>254 | 76=>289 | 77=>290 | 53=>155 | 5=>5 | 9=>9 | n=>n,fun | n=>n⟩
theorem Tryz.layPdqSpan:Go.Proofs.SlLaysF0.n14 Tryz.prog Tryz.layPdqSpan_ren:={
 mixed:=by kernel_rfl
 f14:=⟨Tryz.f287.name,by decide,Tryz.func287.trans (congrArg some Go.Eng.sT)⟩
 f15:=Tryz.func72.trans (congrArg some Go.Eng.sT)
 f20:=⟨Tryz.f316.name,by decide,Tryz.func316.trans (congrArg some Go.Eng.sT)⟩
 f21:=⟨Tryz.f317.name,by decide,Tryz.func317.trans (congrArg some Go.Eng.sT)⟩
 f22:=⟨Tryz.f318.name,by decide,Tryz.func318.trans (congrArg some Go.Eng.sT)⟩
 f23:=⟨Tryz.f319.name,by decide,Tryz.func319.trans (congrArg some Go.Eng.sT)⟩
 f24:=⟨Tryz.f320.name,by decide,Tryz.func320.trans (congrArg some Go.Eng.sT)⟩
 f25:=⟨Tryz.f321.name,by decide,Tryz.func321.trans (congrArg some Go.Eng.sT)⟩
 f26:=⟨Tryz.f322.name,by decide,Tryz.func322.trans (congrArg some Go.Eng.sT)⟩
 f27:=⟨Tryz.f323.name,by decide,Tryz.func323.trans (congrArg some Go.Eng.sT)⟩
 f28:=Tryz.func120.trans (congrArg some Go.Eng.sT)
 f29:=Tryz.func121.trans (congrArg some Go.Eng.sT)
 f46:=⟨Tryz.f334.name,by decide,Tryz.func334.trans (congrArg some Go.Eng.sT)⟩
 f47:=Tryz.func177.trans (congrArg some Go.Eng.sT)
 f48:=Tryz.func178.trans (congrArg some Go.Eng.sT)
 f49:=⟨Tryz.f335.name,by decide,Tryz.func335.trans (congrArg some Go.Eng.sT)⟩
 f50:=⟨Tryz.f336.name,by decide,Tryz.func336.trans (congrArg some Go.Eng.sT)⟩
 f57:=⟨Tryz.f348.name,by decide,Tryz.func348.trans (congrArg some Go.Eng.sT)⟩
 t0:=Tryz.underlying0
 a0:=Tryz.isAgg0
 z0:=Tryz.sizeOf0
 v0:=Tryz.zeroValue0
 t3:=Tryz.underlying3
 a3:=Tryz.isAgg3
 z3:=Tryz.sizeOf3
 v3:=Tryz.zeroValue3
 t4:=Tryz.underlying4
 a4:=Tryz.isAgg4
 z4:=Tryz.sizeOf4
 v4:=Tryz.zeroValue4
 t5:=Tryz.underlying5
 a5:=Tryz.isAgg5
 z5:=Tryz.sizeOf5
 v5:=Tryz.zeroValue5
 t9:=Tryz.underlying9
 a9:=Tryz.isAgg9
 z9:=Tryz.sizeOf9
 v9:=Tryz.zeroValue9
 t22:=Tryz.underlying140
 a22:=Tryz.isAgg140
 z22:=Tryz.sizeOf140
 v22:=Tryz.zeroValue140
 t25:=Tryz.underlying311
 a25:=Tryz.isAgg311
 z25:=Tryz.sizeOf311
 v25:=Tryz.zeroValue311
 t39:=Tryz.underlying127
 a39:=Tryz.isAgg127
 z39:=Tryz.sizeOf127
 v39:=Tryz.zeroValue127
 t45:=Tryz.underlying183
 a45:=Tryz.isAgg183
 z45:=Tryz.sizeOf183
 v45:=Tryz.zeroValue183
 t46:=Tryz.underlying184
 a46:=Tryz.isAgg184
 z46:=Tryz.sizeOf184
 v46:=Tryz.zeroValue184
 t50:=Tryz.underlying188
 a50:=Tryz.isAgg188
 z50:=Tryz.sizeOf188
 v50:=Tryz.zeroValue188
 t53:=Tryz.underlying155
 a53:=Tryz.isAgg155
 z53:=Tryz.sizeOf155
 v53:=Tryz.zeroValue155
 t55:=Tryz.underlying177
 a55:=Tryz.isAgg177
 z55:=Tryz.sizeOf177
 v55:=Tryz.zeroValue177
 t66:=Tryz.underlying250
 a66:=Tryz.isAgg250
 z66:=Tryz.sizeOf250
 v66:=Tryz.zeroValue250
 t70:=Tryz.underlying254
 a70:=Tryz.isAgg254
 z70:=Tryz.sizeOf254
 v70:=Tryz.zeroValue254
 t76:=Tryz.underlying289
 a76:=Tryz.isAgg289
 z76:=Tryz.sizeOf289
 v76:=Tryz.zeroValue289
 t77:=Tryz.underlying290
 a77:=Tryz.isAgg290
 z77:=Tryz.sizeOf290
 v77:=Tryz.zeroValue290 }
def Tryz.layBits_ren:Go.Shelf.Ren:=⟨fun | 125=>72 | 128=>120 | 129=>121 | n=>n,fun | 46=>127 | 3=>3 | 51=>155 | 53=>177 | 4=>4 | 5=>5 | 9=>9 | n=>n,fun | n=>n⟩
theorem Tryz.layBits:Go.Proofs.Lays.n125 Tryz.prog Tryz.layBits_ren:={
 mixed:=by kernel_rfl
 f125:=Tryz.func72.trans (congrArg some Go.Eng.sT)
 f128:=Tryz.func120.trans (congrArg some Go.Eng.sT)
 f129:=Tryz.func121.trans (congrArg some Go.Eng.sT)
 t3:=Tryz.underlying3
 a3:=Tryz.isAgg3
 z3:=Tryz.sizeOf3
 v3:=Tryz.zeroValue3
 t4:=Tryz.underlying4
 a4:=Tryz.isAgg4
 z4:=Tryz.sizeOf4
 v4:=Tryz.zeroValue4
 t5:=Tryz.underlying5
 a5:=Tryz.isAgg5
 z5:=Tryz.sizeOf5
 v5:=Tryz.zeroValue5
 t9:=Tryz.underlying9
 a9:=Tryz.isAgg9
 z9:=Tryz.sizeOf9
 v9:=Tryz.zeroValue9
 t46:=Tryz.underlying127
 a46:=Tryz.isAgg127
 z46:=Tryz.sizeOf127
 v46:=Tryz.zeroValue127
 t51:=Tryz.underlying155
 a51:=Tryz.isAgg155
 z51:=Tryz.sizeOf155
 v51:=Tryz.zeroValue155
 t53:=Tryz.underlying177
 a53:=Tryz.isAgg177
 z53:=Tryz.sizeOf177
 v53:=Tryz.zeroValue177 }
def Tryz.layPdqCp_ren:Go.Shelf.Ren:=⟨fun | 14=>71 | 20=>112 | 21=>113 | 22=>114 | 23=>115 | 24=>116 | 25=>117 | 26=>118 | 27=>119 | 46=>176 | 47=>177 | 48=>178 | 49=>179 | 50=>180 | 15=>72 | 57=>226 | 28=>120 | 29=>121 | n=>n,fun | 24=>60 | 22=>31 | 3=>3 | 25=>69 | 4=>4 | 0=>0 | 46=>184 | 45=>183 | 50=>188 | 66=>250 | 39=>127 | 55=>177 | 70=>254 | 76=>289 | 77=>290 | 53=>155 | 5=>5 | 9=>9 | n=>n,fun | n=>n⟩
theorem Tryz.layPdqCp:Go.Proofs.SlLaysF0.n14 Tryz.prog Tryz.layPdqCp_ren:={
 mixed:=by kernel_rfl
 f14:=⟨Tryz.f71.name,by decide,Tryz.func71.trans (congrArg some Go.Eng.sT)⟩
 f15:=Tryz.func72.trans (congrArg some Go.Eng.sT)
 f20:=⟨Tryz.f112.name,by decide,Tryz.func112.trans (congrArg some Go.Eng.sT)⟩
 f21:=⟨Tryz.f113.name,by decide,Tryz.func113.trans (congrArg some Go.Eng.sT)⟩
 f22:=⟨Tryz.f114.name,by decide,Tryz.func114.trans (congrArg some Go.Eng.sT)⟩
 f23:=⟨Tryz.f115.name,by decide,Tryz.func115.trans (congrArg some Go.Eng.sT)⟩
 f24:=⟨Tryz.f116.name,by decide,Tryz.func116.trans (congrArg some Go.Eng.sT)⟩
 f25:=⟨Tryz.f117.name,by decide,Tryz.func117.trans (congrArg some Go.Eng.sT)⟩
 f26:=⟨Tryz.f118.name,by decide,Tryz.func118.trans (congrArg some Go.Eng.sT)⟩
 f27:=⟨Tryz.f119.name,by decide,Tryz.func119.trans (congrArg some Go.Eng.sT)⟩
 f28:=Tryz.func120.trans (congrArg some Go.Eng.sT)
 f29:=Tryz.func121.trans (congrArg some Go.Eng.sT)
 f46:=⟨Tryz.f176.name,by decide,Tryz.func176.trans (congrArg some Go.Eng.sT)⟩
 f47:=Tryz.func177.trans (congrArg some Go.Eng.sT)
 f48:=Tryz.func178.trans (congrArg some Go.Eng.sT)
 f49:=⟨Tryz.f179.name,by decide,Tryz.func179.trans (congrArg some Go.Eng.sT)⟩
 f50:=⟨Tryz.f180.name,by decide,Tryz.func180.trans (congrArg some Go.Eng.sT)⟩
 f57:=⟨Tryz.f226.name,by decide,Tryz.func226.trans (congrArg some Go.Eng.sT)⟩
 t0:=Tryz.underlying0
 a0:=Tryz.isAgg0
 z0:=Tryz.sizeOf0
 v0:=Tryz.zeroValue0
 t3:=Tryz.underlying3
 a3:=Tryz.isAgg3
 z3:=Tryz.sizeOf3
 v3:=Tryz.zeroValue3
 t4:=Tryz.underlying4
 a4:=Tryz.isAgg4
 z4:=Tryz.sizeOf4
 v4:=Tryz.zeroValue4
 t5:=Tryz.underlying5
 a5:=Tryz.isAgg5
 z5:=Tryz.sizeOf5
 v5:=Tryz.zeroValue5
 t9:=Tryz.underlying9
 a9:=Tryz.isAgg9
 z9:=Tryz.sizeOf9
 v9:=Tryz.zeroValue9
 t22:=Tryz.underlying31
 a22:=Tryz.isAgg31
 z22:=Tryz.sizeOf31
 v22:=Tryz.zeroValue31
 t25:=Tryz.underlying69
 a25:=Tryz.isAgg69
 z25:=Tryz.sizeOf69
 v25:=Tryz.zeroValue69
 t39:=Tryz.underlying127
 a39:=Tryz.isAgg127
 z39:=Tryz.sizeOf127
 v39:=Tryz.zeroValue127
 t45:=Tryz.underlying183
 a45:=Tryz.isAgg183
 z45:=Tryz.sizeOf183
 v45:=Tryz.zeroValue183
 t46:=Tryz.underlying184
 a46:=Tryz.isAgg184
 z46:=Tryz.sizeOf184
 v46:=Tryz.zeroValue184
 t50:=Tryz.underlying188
 a50:=Tryz.isAgg188
 z50:=Tryz.sizeOf188
 v50:=Tryz.zeroValue188
 t53:=Tryz.underlying155
 a53:=Tryz.isAgg155
 z53:=Tryz.sizeOf155
 v53:=Tryz.zeroValue155
 t55:=Tryz.underlying177
 a55:=Tryz.isAgg177
 z55:=Tryz.sizeOf177
 v55:=Tryz.zeroValue177
 t66:=Tryz.underlying250
 a66:=Tryz.isAgg250
 z66:=Tryz.sizeOf250
 v66:=Tryz.zeroValue250
 t70:=Tryz.underlying254
 a70:=Tryz.isAgg254
 z70:=Tryz.sizeOf254
 v70:=Tryz.zeroValue254
 t76:=Tryz.underlying289
 a76:=Tryz.isAgg289
 z76:=Tryz.sizeOf289
 v76:=Tryz.zeroValue289
 t77:=Tryz.underlying290
 a77:=Tryz.isAgg290
 z77:=Tryz.sizeOf290
 v77:=Tryz.zeroValue290 }
end Go.Proofs
namespace Go.Proofs
open Go.Shelf Go.RowKit Go.Lib Go.Sort
def SpA:Type:={x:Int×Int // 0<=x.1/\x.1<=1000000}
instance:Inhabited SpA:=⟨⟨(0,0),by decide⟩⟩
def encSpA(x:SpA):List Value:=[.int .i64 x.1.1,.int .i64 x.1.2]
def cfSpA(x y:SpA):Int:=x.1.1-y.1.1
set_option maxHeartbeats 1000000 in
theorem Tryz.closure246(x y:SpA)(W:World):Calls Tryz.prog 246 #[.agg #[.int .i64 x.1.1,.int .i64 x.1.2],.agg #[.int .i64 y.1.1,.int .i64 y.1.2]] W fun e w'=>e=.returned (.int .i64 (cfSpA x y))/\∃q cQ,w'=grow (W.drewN q) cQ:=by
 obtain⟨⟨a,b⟩,h1,h2⟩:=x;obtain⟨⟨c,d⟩,h3,h4⟩:=y;dsimp only at h1 h2 h3 h4;have hw:IntKind.i64.wrap (a-c)=a-c:=by simp[IntKind.wrap,IntKind.bits,IntKind.signed];omega
 show Calls Tryz.prog 246 #[.agg #[.int .i64 a,.int .i64 b],.agg #[.int .i64 c,.int .i64 d]] W fun e w'=>e=.returned (.int .i64 (a-c))/\∃q cQ,w'=grow (W.drewN q) cQ
 go_enter Tryz.func246,Tryz.ntmps246
 go_wp2
 go_ret
 exact⟨rfl,0,_,by rw[alloc_eq_grow,alloc_eq_grow,grow_grow];rfl⟩
end Go.Proofs
namespace Go.Eng
open Go.Proofs
variable {Cs:List AV}{fF:Nat}(l:List (Int×Int))(v:Ver)(m:List (Int×Int))
abbrev Bj(b:UInt8):List AV:=[.v (.int .u8 b.toNat)]
theorem Q0 (k : Nat) {fn : Func} {c : Code} (hf : Tryz.prog.funcs[k]? = some fn) (hn : (fn.name == "runtime.NumGoroutine") = false) (hb : fn.body = some c) : Enters Tryz.prog k := Wi hf hn hb
theorem bE:PC 100 [.agg (Dy v)] (.agg [vi v.a,vi v.b,vi v.c]):=by
 refine Ps Dj Tryz.func100 rfl (Nz rfl) ?_;exact Yi (Nz rfl) (Yi (Nz rfl) (.refl _))
def part:Nat->Int
 |0=>v.a
 |1=>v.b
 |_=>v.c
theorem Qy{v:Ver}{i:Nat}(h:¬okPart (part v i)):Cy v=false:=by
 unfold Cy
 match i,h with
 |0,h=>have h:¬okPart v.a:=h;simp[h]
 |1,h=>have h:¬okPart v.b:=h;simp[h]
 |_+2,h=>have h:¬okPart v.c:=h;simp[h]
theorem Yq:PC 94 [.agg (Dy v)] (vb (Cy v)):=by
 refine Ps Dj Tryz.func94 rfl (Nz rfl) (Yi (Nz rfl) (Xi .pure (Xi _ (Yi (bE v) (Xi {i:Nat // i<=3/\∀j,j<i->okPart (part v j)} (Xi (fun i=>⟨[(6,.agg [vi v.a,vi v.b,vi v.c]),(7,vi i.1)],[],Ao⟩) (Xi (fun i=>3-i.1) (Yi (Xi ⟨0,by simp⟩ ?_) ?_))))))))
 .exact⟨Z2,Tv,Fh,Tv⟩
 .intro⟨i,h1,h2⟩;refine Yi ?_ ?_
  .intro h;have h:(i:Int)<3:=h;refine Yi ⟨by show(0:Int)<=i;omega,by show(i:Int)<3;omega⟩ ?_;have hp:HQ (([vi v.a,vi v.b,vi v.c]).drop ((i:Int).toNat*1))=fun K=>K (vi (part v i)):=by
    match i,h with
    |0,_=>rfl
    |1,_=>rfl
    |2,_=>rfl
    |_+3,h=>omega
   show HQ (([vi v.a,vi v.b,vi v.c]).drop ((i:Int).toNat*1)) _;rw[hp];refine Yi ?_ ?_
   .intro h3;rw[Qy (i:=i) (by unfold okPart;omega)];exact .refl _
   .intro h3;refine Yi ?_ ?_
    .intro h4;rw[Qy (i:=i) (by unfold okPart;omega)];exact .refl _
    .intro h4;refine Yi (Ii i sP) (Xi ⟨i+1,by omega,fun j hj=>?_⟩ ?_)
     .by_cases e:j=i
      .subst e;exact⟨by omega,by omega⟩
      .exact h2 j sP
     .exact⟨Dl 3 i sP,Z2,Tv,Fh,Tv⟩
  .intro h;have h:¬(i:Int)<3:=h;have e:i=3:=by omega
   have q:Cy v=true:=by
    unfold Cy;have a:=h2 0 sP;have b:=h2 1 sP;have c:=h2 2 sP;simp only[part]at a b c;simp[a,b,c]
   rw[q];exact .refl _
def DY(Cs:List AV):Prop:=∀c∈Cs,∀h,str0 h c=c
theorem DY.map{Cs:List AV}(hs:DY Cs)(h:Nat->HO):Cs.map (str0 h)=Cs:=by
 conv=>rhs;rw[<-List.map_id Cs]
 exact BH fun c hc=>hs c hc h
theorem DY.ids(hs:DY Cs)(h:Nat->HO):SI h Cs=true:=by
 induction Cs with
 |nil=>rfl
 |cons c r ih=>
  have hc:=hs c (Ab ..) Ao;have h0:ids0 h c=true:=by
   cases c with
   |slice tk es=>cases tk with |none=>rfl |full sz=>simp[str0]at hc |id r sz=>simp[str0]at hc |ver r sz v=>simp[str0]at hc
   |_=>first |rfl |(simp[str0,Ao]at hc)
  unfold SI;rw[h0];exact ih fun c hc=>hs c (Ai _ hc)
def Hw{α:Type}(p:α->Bool):List α->Int->Int
 | [],_=>-1
 |x::r,i=>if p x then i else Hw p r (i+1)
theorem Ip{α:Type}{p:α->Bool}:∀{l:List α} {i:Nat} {k:Int} (hi:i<l.length),(∀j (hj:j<l.length),j<i->p l[j]=false)->p l[i]=true->Hw p l k=k+i
 |x::r,0,k,_,_,h=>by
  have h:p x=true:=h;simp[Hw,h]
 |x::r,i+1,k,hi,hb,h=>by
  have h0:p x=false:=hb 0 sS sP
  have:=Ip (l:=r) (i:=i) (k:=k+1) (by simpa using hi) (fun j hj Gn=>hb (j+1) (by simpa using hj) sP) (by simpa using h)
  simp only[Hw,h0,Cg,FK,this];omega
theorem FJ{α:Type}{p:α->Bool}:∀{l:List α} {k:Int},(∀j (hj:j<l.length),p l[j]=false)->Hw p l k=-1
 | [],_,_=>rfl
 |x::r,k,h=>by
  have h0:p x=false:=h 0 sS;simp only[Hw,h0,Cg,FK];exact FJ fun j hj=>h (j+1) (by simpa using hj)
theorem Jt{α:Type}{p:α->Bool}:∀(l:List α) (k:Int),0<=k->decide (0<=Hw p l k)=l.any p
 | [],k,_=>by simp[Hw]
 |x::r,k,hk=>by
  unfold Hw;cases h:p x with
  |true=>simp[h,hk]
  |false=>simp[h,Jt r (k+1) sP]
-- one for each type of elements
theorem c175(hs:DY Cs)(l:List (Int×Int))(p:Int×Int->Bool)(hF:∀x∈l,PC fF ([.agg (An x)]++Cs) (vb (p x)))(hl:l.length<9223372036854775807) :
  PC 250 [sl An l,.clo fF Cs] (vi (Hw p l 0)):=by
 refine Ps Dj Tryz.func250 rfl (Nz rfl) (Xi {i:Nat // i<=l.length/\∀j (hj:j<l.length),j<i->p l[j]=false} (Xi (fun i=>⟨[(0,sl An l),(1,.clo fF Cs),(7,vi (l.map An).length),(8,vi i.1)],[],Ao⟩) (Xi (fun i=>l.length-i.1) (Yi (Xi ⟨0,by simp⟩ ?_) ?_))))
 .exact⟨⟨Zr,⟨rfl,hs.ids _⟩,Zr,Zr,Tv⟩,Tv,Fh,Tv⟩
 .intro⟨i,h1,h2⟩;refine Yi ?_ ?_
  .intro h;have h:i<l.length:=by simpa using h
   have hg:l[i]?=some l[i]:=Ge h;refine Xi (An l[i]) (Yi (Yi (Nn i) (by simp[hg])) (Yi rfl (yN ?_)));have Du:∀h,PC fF ([.agg (An l[i])]++Cs.map (str0 h)) (vb (p l[i])):=fun h=>by rw[hs.map];exact hF l[i] (Af _)
   cases hp:p l[i]with
   |true=>
    rw[hp]at Du;refine Xi .pure (Xi (vb true) (Yi (Du _) ?_));rw[Ip h (fun j hj Gn=>h2 j hj Gn) hp,Gr];exact .refl _
   |false=>
    rw[hp]at Du;refine Xi .pure (Xi (vb false) (Yi (Du _) (Yi (Ii i sP) (Xi ⟨i+1,by omega,fun j hj Gn=>?_⟩ ?_))))
    .by_cases e:j=i
     .subst e;exact hp
     .exact h2 j hj sP
    .exact⟨Dl l.length i sP,⟨Zr,⟨rfl,hs.ids _⟩,Zr,Zr,Tv⟩,Tv,Fh,Tv⟩
  .intro h;have h:¬i<l.length:=by simpa using h
   rw[FJ fun j hj=>h2 j hj sP];exact .refl _
abbrev CC{α:Type}(l:List α):Prop:=l.length<=1073741824
theorem GW{α:Type}{enc:α->List AV}{n:Nat}(h:∀x,(enc x).length=n):∀l:List α,Cn n (l.map enc)
 | []=>trivial
 |x::l=>⟨h x,GW h l⟩
theorem M3{x y:Int×Int}:bT (An x) (An y)↔x=y:=by
 constructor
 .intro h;exact Prod.ext h.1 h.2.1
 .rintro rfl;exact⟨rfl,rfl,trivial⟩
theorem dM{x y:Sl}:bT (Ag x) (Ag y)↔x=y:=by
 obtain⟨p,a,b,c⟩:=x;obtain⟨q,d,e,f⟩:=y;constructor
 .intro h;obtain⟨rfl,rfl,rfl,rfl,_⟩:=h
  rfl
 .intro h;cases h;exact⟨rfl,rfl,rfl,rfl,trivial⟩
abbrev encStr(s:ByteArray):List AV:=[vs s]
theorem qL(hs:DY Cs)(l:List (Sl))(p:Sl->Bool)(hF:∀x∈l,PC fF ([.agg (Ag x)]++Cs) (vb (p x)))(hl:l.length<9223372036854775807) :
  PC 151 [sl Ag l,.clo fF Cs] (vi (Hw p l 0)):=by
 refine Fr (aU Dj) rfl DZ hm rfl Tryz.func151 sT rfl (Nz rfl) sT (Xi {i:Nat // i<=l.length/\∀j (hj:j<l.length),j<i->p l[j]=false} (Xi (fun i=>⟨[(0,sl Ag l),(1,.clo fF Cs),(7,vi (l.map Ag).length),(8,vi i.1)],[],Ao⟩) (Xi (fun i=>l.length-i.1) (Yi (Xi ⟨0,by simp⟩ ?_) ?_))))
 .exact⟨⟨Zr,⟨rfl,hs.ids _⟩,Zr,Zr,Tv⟩,Tv,Fh,Tv⟩
 .intro⟨i,h1,h2⟩;refine Yi ?_ ?_
  .intro h;have h:i<l.length:=by simpa using h
   have hg:l[i]?=some l[i]:=Ge h;refine Xi (Ag l[i]) (Yi (Yi (by show(0:Int)<=i;omega) (by simp[hg])) (Yi rfl (yN ?_)));have Du:∀h,PC fF ([.agg (Ag l[i])]++Cs.map (str0 h)) (vb (p l[i])):=fun h=>by rw[hs.map];exact hF l[i] (Af _)
   cases hp:p l[i]with
   |true=>
    rw[hp]at Du;refine Xi .pure (Xi (vb true) (Yi (Du _) ?_));rw[Ip h (fun j hj Gn=>h2 j hj Gn) hp,Gr];exact .refl _
   |false=>
    rw[hp]at Du;refine Xi .pure (Xi (vb false) (Yi (Du _) (Yi (Ii i sP) (Xi ⟨i+1,by omega,fun j hj Gn=>?_⟩ ?_))))
    .by_cases e:j=i
     .subst e;exact hp
     .exact h2 j hj sP
    .exact⟨Dl l.length i sP,⟨Zr,⟨rfl,hs.ids _⟩,Zr,Zr,Tv⟩,Tv,Fh,Tv⟩
  .intro h;have h:¬i<l.length:=by simpa using h
   rw[FJ fun j hj=>h2 j hj sP];exact .refl _
theorem c51(hs:DY Cs)(l:List (Sl))(p:Sl->Bool)(hF:∀x∈l,PC fF ([.agg (Ag x)]++Cs) (vb (p x)))(hl:CC l) :
  PC 91 [sl Ag l,.clo fF Cs] (vb (l.any p)):=by
 refine Fr (aU Dj) rfl DZ hm rfl Tryz.func91 sT rfl (Nz rfl) sT ?_;have hi:=qL hs l p hF (by unfold CC at hl;omega);have Du:∀h,PC 151 [sl Ag l,.clo fF (Cs.map (str0 h))] (vi (Hw p l 0)):=fun h=>by rw[hs.map];exact hi
 refine Xi .pure (Xi _ (Yi (Du _) ?_));have ha:=Jt (p:=p) l 0 (CR 0);refine Yi ?_ ?_
 .intro h;rw[<-ha,Ah h];exact .refl _
 .intro h;rw[<-ha,Ae h];exact .refl _
theorem mL(hl:CC l):PC 142 [sl An l] (sl An l):=by
 refine Fr (aU Dj) rfl DZ hm rfl Tryz.func142 sT rfl (Nz rfl) sT ?_;have Hd:Cn 2 (l.map An)/\([]:List (List AV)).length=0/\(([]:List (List AV)).length+(l.map An).length)*16<=140737488355328/\([]:List (List AV)).length+(l.map An).length<=9223372036854775807:=by
  refine⟨GW (enc:=An) (n:=2) (fun _=>rfl) l,rfl,?_,?_⟩<;>simp only[Aw,Lm]<;>unfold CC at hl<;>omega
 refine Yi ?_ ?_
 .intro _;exact Yi Hd (.refl _)
 .intro h;refine Yi ?_ ?_
  .show D7 nzA (.slice .none (l.map An));rw[h];exact .nil
  .exact Yi Hd (.refl _)
theorem qG(l:List (Sl))(hl:CC l):PC 89 [sl Ag l] (sl Ag l):=by
 refine Fr (aU Dj) rfl DZ hm rfl Tryz.func89 sT rfl (Nz rfl) sT ?_;have Hd:Cn 4 (l.map Ag)/\([]:List (List AV)).length=0/\(([]:List (List AV)).length+(l.map Ag).length)*40<=140737488355328/\([]:List (List AV)).length+(l.map Ag).length<=9223372036854775807:=by
  refine⟨GW (enc:=Ag) (n:=4) (fun _=>rfl) l,rfl,?_,?_⟩<;>simp only[Aw,Lm]<;>unfold CC at hl<;>omega
 refine Yi ?_ ?_
 .intro _;exact Yi Hd (.refl _)
 .intro h;refine Yi ?_ ?_
  .show D7 nzA (.slice .none (l.map Ag));rw[h];exact .nil
  .exact Yi Hd (.refl _)
theorem jx(hl:CC l):PC 244 [sl An l,sl An m] (vb (decide (l=m))):=by
 refine Fr (aU Dj) rfl DZ hm rfl Tryz.func244 sT rfl (Nz rfl) sT (Yi ?_ ?_)
 .intro h
  have:l≠m:=fun e=>h (by rw[e])
  rw[Ae this];exact .refl _
 .intro h;have BQ:l.length=m.length:=by simp at h;omega
  refine Xi {i:Nat // i<=l.length/\l.take i=m.take i} (Xi (fun i=>⟨[(0,sl An l),(1,sl An m),(12,vi (l.map An).length),(13,vi i.1)],[],Ao⟩) (Xi (fun i=>l.length-i.1) (Yi (Xi ⟨0,by simp⟩ ?_) ?_)))
  .exact⟨⟨Zr,Zr,Zr,Zr,Tv⟩,Tv,Fh,Tv⟩
  .intro⟨i,h1,h2⟩;refine Yi ?_ ?_
   .intro h;have h:i<l.length:=by simpa using h
    have h' : i<m.length:=by omega
    have hg:l[i]?=some l[i]:=Ge h;have Pe : m[i]?=some m[i]:=Ge h';refine Xi (An l[i]) (Yi (Yi (by show(0:Int)<=i;omega) (by simp[hg])) (Yi rfl (yN ?_)));refine Xi (An m[i]) (Yi (Yi (by show(0:Int)<=i;omega) (by simp[Pe])) (Yi rfl (yN ?_)));refine Yi ?_ ?_
    .intro h5;have e:l[i]=m[i]:=M3.1 h5;refine Yi sT (Yi (by show AE ((i:Int)+1);unfold CC at hl;unfold AE;omega) (Xi ⟨i+1,by omega,?_⟩ ?_))
     .rw[A2,A2,h2,hg,Pe,e]
     .exact⟨Dl l.length i sP,⟨Zr,Zr,Zr,Zr,Tv⟩,Tv,Fh,Tv⟩
    .intro h5;refine Yi sT ?_
     have:l≠m:=fun e=>h5 (M3.2 (by subst e;rfl))
     rw[Ae this];exact .refl _
   .intro h;have h:¬i<l.length:=by simpa using h
    have e:l=m:=by
     rw[<-As (l:=l) (i:=i) sP,h2,As sP]
    rw[Ah e];exact .refl _
theorem pu(l m:List (Sl))(hl:CC l):PC 23 [sl Ag l,sl Ag m] (vb (decide (l=m))):=by
 refine Fr (aU Dj) rfl DZ hm rfl Tryz.func23 sT rfl (Nz rfl) sT (Yi ?_ ?_)
 .intro h
  have:l≠m:=fun e=>h (by rw[e])
  rw[Ae this];exact .refl _
 .intro h;have BQ:l.length=m.length:=by simp at h;omega
  refine Xi {i:Nat // i<=l.length/\l.take i=m.take i} (Xi (fun i=>⟨[(0,sl Ag l),(1,sl Ag m),(12,vi (l.map Ag).length),(13,vi i.1)],[],Ao⟩) (Xi (fun i=>l.length-i.1) (Yi (Xi ⟨0,by simp⟩ ?_) ?_)))
  .exact⟨⟨Zr,Zr,Zr,Zr,Tv⟩,Tv,Fh,Tv⟩
  .intro⟨i,h1,h2⟩;refine Yi ?_ ?_
   .intro h;have h:i<l.length:=by simpa using h
    have h' : i<m.length:=by omega
    have hg:l[i]?=some l[i]:=Ge h;have Pe : m[i]?=some m[i]:=Ge h';refine Xi (Ag l[i]) (Yi (Yi (by show(0:Int)<=i;omega) (by simp[hg])) (Yi rfl (yN ?_)));refine Xi (Ag m[i]) (Yi (Yi (by show(0:Int)<=i;omega) (by simp[Pe])) (Yi rfl (yN ?_)));refine Yi ?_ ?_
    .intro h5;have e:l[i]=m[i]:=dM.1 h5;refine Yi sT (Yi (by show AE ((i:Int)+1);unfold CC at hl;unfold AE;omega) (Xi ⟨i+1,by omega,?_⟩ ?_))
     .rw[A2,A2,h2,hg,Pe,e]
     .exact⟨Dl l.length i sP,⟨Zr,Zr,Zr,Zr,Tv⟩,Tv,Fh,Tv⟩
    .intro h5;refine Yi sT ?_
     have:l≠m:=fun e=>h5 (dM.2 (by subst e;rfl))
     rw[Ae this];exact .refl _
   .intro h;have h:¬i<l.length:=by simpa using h
    have e:l=m:=by
     rw[<-As (l:=l) (i:=i) sP,h2,As sP]
    rw[Ah e];exact .refl _
theorem DY.ptr(cs:List AV):DY [.cptr cs]:=fun c hc h=>by
 rw[Bh.1 hc];rfl
theorem c127(s:Int×Int)(p:Int):PC 195 [.agg (An s),.cptr [vi p]] (vb (Cb p s)):=by
 refine Ps Dj Tryz.func195 rfl (Nz rfl) (Yi ?_ ?_)
 .intro h;refine Yi ?_ ?_
  .intro h2;rw[show Cb p s=true by simp[Cb,h,h2]];exact .refl _
  .intro h2;rw[show Cb p s=false by simp[Cb,h2]];exact .refl _
 .intro h;rw[show Cb p s=false by simp[Cb,h]];exact .refl _
theorem SJ{α:Type}{p:α->Bool}:∀(l:List α) (k:Int),(Hw p l k=-1/\l.find? p=none)\/∃i x,Hw p l k=k+(i:Nat)/\l[i]?=some x/\l.find? p=some x
 | [],k=>.inl Zr
 |x::r,k=>by
  cases h:p x with
  |true=>exact .inr ⟨0,x,by simp[Hw,h],rfl,by simp[h]⟩
  |false=>
   rcases SJ (p:=p) r (k+1)with ⟨h1,h2⟩ | ⟨i,y,h1,h2,h3⟩
   .exact .inl ⟨by simp[Hw,h,h1],by simp[h,h2]⟩
   .exact .inr ⟨i+1,y,by simp only[Hw,h,Cg,FK,h1];omega,by simpa using h2,by simp[h,h3]⟩
theorem fg(n:Int):PC 157 [vi n] (vb (decide (okPart n))):=by
 refine Ps Dj Tryz.func157 rfl (Nz rfl) (Yi ?_ ?_)
 .intro h;refine Yi ?_ ?_
  .intro h2;show D7 (vb true) (vb (decide (okPart n)));rw[Ah ⟨h,h2⟩];exact .refl _
  .intro h2;show D7 (vb false) (vb (decide (okPart n)));rw[Ae fun q=>h2 q.2];exact .refl _
 .intro h;show D7 (vb false) (vb (decide (okPart n)));rw[Ae fun q=>h q.1];exact .refl _
theorem c168:PC 96 [.agg (Dy v)] (vb (Cy v)):=by
 have ha:=fg v.a;have hb:=fg v.b;have hc:=fg v.c;unfold Cy;cases h1:decide (okPart v.a)with
 |false=>
  rw[h1]at ha;refine Ps Dj Tryz.func96 rfl (Nz rfl) ?_;exact Xi .pure (Xi _ (Yi ha (.refl _)))
 |true=>
  rw[h1]at ha;cases h2:decide (okPart v.b)with
  |false=>
   rw[h2]at hb;refine Ps Dj Tryz.func96 rfl (Nz rfl) ?_;exact Xi .pure (Xi _ (Yi ha (Xi .pure (Xi _ (Yi hb (.refl _))))))
  |true=>
   rw[h2]at hb;refine Ps Dj Tryz.func96 rfl (Nz rfl) ?_;exact Xi .pure (Xi _ (Yi ha (Xi .pure (Xi _ (Yi hb (Xi .pure (Xi _ (Yi hc (.refl _)))))))))
theorem fc(r:Rl):PC 80 [.agg (Bb r)] (.agg (Ag ⟨r.path,r.ver⟩)):=by
 refine Ps Dj Tryz.func80 rfl (Nz rfl) ?_;exact Yi (Nz rfl) (Yi (Nz rfl) (Yi (Nz rfl) (.refl _)))
theorem c75(hl:CC l):PC 158 [sl An l,sl An m] (vb (decide (l=m))):=by
 refine Ps Dj Tryz.func158 rfl (Nz rfl) (Yi ?_ ?_)
 .intro h
  have:l≠m:=fun e=>h (by rw[e])
  rw[Ae this];exact .refl _
 .intro h;have BQ:l.length=m.length:=by simp at h;omega
  refine Xi {i:Nat // i<=l.length/\l.take i=m.take i} (Xi (fun i=>⟨[(0,sl An l),(1,sl An m),(5,vi i.1)],[],Ao⟩) (Xi (fun i=>l.length-i.1) (Yi (Xi ⟨0,by simp⟩ ?_) ?_)))
  .exact⟨Z3,Tv,Fh,Tv⟩
  .intro⟨i,h1,h2⟩;refine Yi ?_ ?_
   .intro h;have h:i<l.length:=by simpa using h
    have h' : i<m.length:=by omega
    have hg:l[i]?=some l[i]:=Ge h;have Pe : m[i]?=some m[i]:=Ge h';refine Xi (An l[i]) (Yi (Yi (Nn i) (by simp[hg])) (Yi rfl (yN ?_)));refine Xi (An m[i]) (Yi (Yi (Nn i) (by simp[Pe])) (Yi rfl (yN ?_)));refine Yi ?_ ?_
    .intro h5;have e:l[i]=m[i]:=M3.1 h5;refine Yi sT (Yi (by show AE ((i:Int)+1);unfold CC at hl;unfold AE;omega) (Xi ⟨i+1,by omega,?_⟩ ?_))
     .rw[A2,A2,h2,hg,Pe,e]
     .exact⟨Dl l.length i sP,Z3,Tv,Fh,Tv⟩
    .intro h5;refine Yi sT ?_
     have:l≠m:=fun e=>h5 (M3.2 (by subst e;rfl))
     rw[Ae this];exact .refl _
   .intro h;have h:¬i<l.length:=by simpa using h
    have e:l=m:=by
     rw[<-As (l:=l) (i:=i) sP,h2,As sP]
    rw[Ah e];exact .refl _
end Go.Eng
namespace Go.Eng
open Go.Proofs Go.Shelf Go.RowKit Go.Lib Go.Sort
theorem Vp(x y:SpA):ltOf cfSpA x y=decide (x.1.1<y.1.1):=by
 unfold ltOf cfSpA;rw[Dp];simp only[A3];omega
theorem aE:SWO (ltOf cfSpA) where
 irrefl x:=by rw[Vp];simp
 trans x y z h1 h2:=by rw[Vp]at *;simp at *;omega
 ntrans x y z h1 h2:=by rw[Vp]at *;simp at *;omega
theorem SY:∀x y:List UInt8,decide (Lib.compareBytes x y<0)=Ht x y
 | [],[]=>rfl
 | [],_::_=>rfl
 |_::_,[]=>rfl
 |a::x,b::y=>by
  unfold Lib.compareBytes Ht
  by_cases h:a<b
  .simp[h]
  .by_cases h2:b<a
   .have:¬a=b:=fun e=>by subst e;exact absurd h2 (UInt8.lt_irrefl a)
    simp[h,h2,this]
   .have e:a=b:=UInt8.le_antisymm (UInt8.not_lt.1 h2) (UInt8.not_lt.1 h);subst e;simp[UInt8.lt_irrefl,SY x y]
abbrev aW(k:Nat):Value:=.func (.func k) #[] #[]
theorem mR(l:List (Int×Int))(hl:CC l)(h:∀x∈l,0<=x.1/\x.1<=1000000)(lim:Nat)(Y7:lim<100) :
  BL Tryz.prog 287 [.msl 1000 l.length,vi 0,vi l.length,vi lim,.v (aW 246)] (AC [(1000,.arr 2 (l.map An))] Ao) fun r h'=>
   r=.tup []/\∃l' : List (Int×Int),l'.Perm l/\l'.Pairwise (fun x y=>x.1<=y.1)/\h'=AC [(1000,.arr 2 (l'.map An))] Ao:=by
 have hl:l.length<=1073741824:=hl;have hE:Enters Tryz.prog 287:=Q0 287 Tryz.func287 sT rfl;have eg:∀args w,(callFunc 246 args).run Tryz.prog w=.ok (.enter 246 args) w:=enters_of Tryz.func246 sT rfl;have K6:=IS (P:=Tryz.prog) (f:=287) (α:=SpA) (rest:=[.int .i64 0,.int .i64 l.length,.int .i64 lim,aW 246]) hE An encSpA (k:=2) (fun _=>rfl) (fun _=>rfl) (ltOf cfSpA) (fun x a=>a.1=x) l sP ?_ ?_ ?_
 .refine⟨hE,fun g w vals q1 q2 q3=>(K6.2 g w vals q1 q2 q3).mono fun _ _ ⟨v,r,h',g',e1,⟨e2,l',p1,⟨al,a1,a2,a3⟩,p2⟩,rest⟩=>⟨v,r,h',g',e1,⟨e2,l',p1,?_,p2⟩,rest⟩⟩;rw[A5]at a3⊢;intro i j hi hj TN
  have:=a3 i j sP sP TN
  rw[Vp]at this;have e1:=a2 i _ _ (At hi) (At sP);have e2:=a2 j _ _ (At hj) (At sP);rw[<-e1,<-e2]
  have:=FA this
  omega
 .intro x hx g w vs hr
  match vs,hr with
  | [a,b],hr=>
   have h1:=(hr.2.2 0 (vi x.1) a rfl rfl).v_eq;have h2:=(hr.2.2 1 (vi x.2) b rfl rfl).v_eq;subst h1;subst h2;exact⟨⟨x,h x hx⟩,rfl,rfl⟩
  | [],hr=>have:=hr.1;simp at this
  | [_],hr=>have:=hr.1;simp at this
  |_::_::_::_,hr=>have:=hr.1;simp at this
 .intro w b cap d hH hb Dm Y4;have fN:CmpLays Tryz.prog 246 #[] encSpA 2 cfSpA b 0 d.size w:=fun _ _ _ _ x y=>Tryz.closure246 x y _;have hp:=AnyQ.pdqsortCmpFunc_all Tryz.layPdqSpan 2 Tryz.isAgg226 Tryz.sizeOf226 encSpA cfSpA 246 #[] aE b 0 cap d w eg fN ⟨fun _=>rfl,fun x v hv=>by simp[encSpA]at hv;rcases hv with rfl | rfl<;>rfl,hH,hb⟩ (d.size+1) 0 d.size lim d w sP rfl (SWK.start hH) (Ar _) (Ad _) Dm sP (Or.inl rfl)
  rw[Y4]at hp⊢;refine hp.mono ?_
  rintro e w' ⟨rfl,n,os,rfl⟩
  have h:=pdq_sorts (ltOf cfSpA) aE d 0 d.size lim true true (Ar _) (Ad _) (Or.inl rfl);rw[Y4]at h;exact⟨rfl,_,n,os,h.1,h.2,rfl⟩
 .intro e w;subst e;exact AnyF.pdqsortCmpFunc_none Tryz.layPdqSpan none 0 lim (aW 246) w
end Go.Eng
namespace Go.Eng
open Go.Proofs
variable {h0:Nat->HO}{y:Int×Int}{α:Type}{P:Program}{args:List AV}{f:Nat}{t:Bz}(s:Bz)(l:List (Int×Int))(j:Bz)(i:Nat)
-- the checker,and what reads it
theorem SL:∀(s:List Sl) (i:Nat) (h:i+1<s.length),HR (some s[i].path) (s.drop (i+1))=(FC s[i].path s[i+1].path&&HR (some s[i+1].path) (s.drop (i+2))):=fun s i h=>by
 rw[AG h];rfl
theorem Ed(a b:ByteArray):FC a b=Op.bytesLess a.toList b.toList:=by
 have:∀x y:List UInt8,Ht x y=Op.bytesLess x y:=by
  intro x
  induction x with
  |nil=>intro y;cases y<;>rfl
  |cons a x ih=>
   intro y;cases y with
   |nil=>rfl
   |cons b y=>
    unfold Ht Op.bytesLess;rw[ih];rw[Dp];simp
 unfold FC;rw[this,ByteArray.toList_eq,ByteArray.toList_eq]
theorem BL.imp{Q Q' : AV->(Nat->HO)->Prop}(h:BL P f args h0 Q)(hq:∀r h',Q r h'->Q' r h'):BL P f args h0 Q':=h.mono fun r h' q=>⟨r,.refl _,hq r h' q⟩
theorem BL.to{r0:AV}{p:α->Prop}{H:α->Nat->HO}{Q' : AV->(Nat->HO)->Prop}(h:BL P f args h0 fun r h'=>r=r0/\∃x,p x/\h'=H x)(k:∀x,p x->Q' r0 (H x)):BL P f args h0 Q':=
 h.imp fun r h' ⟨e1,x,e2,e3⟩=>by subst e1;subst e3;exact k x e2
theorem ju(n:Nat)(h:n<=1073741824):∃lim:Nat,lim<100/\PC 72 [.v (.int .u64 (IntKind.u64.wrap (n:Int)))] (vi lim):=by
 refine⟨Lib.bitLen n,Nat.lt_of_le_of_lt (Lib.bitLen_le n 62 sP sP) sP,?_⟩;have wr:IntKind.u64.wrap (n:Int)=n:=by simp[IntKind.wrap,IntKind.bits,IntKind.signed];omega
 rw[wr];refine G4 [.int .u64 n] (.int .i64 (Lib.bitLen n:Nat)) (Q0 72 Tryz.func72 sT rfl) rfl (fun _ _=>.v _ _) fun w _=>?_
 have:=Any.bits_Len Tryz.layBits (n:Int) w sP sP
 rw[A1]at this;exact this
theorem mM(hl:CC l)(h:∀x∈l,0<=x.1/\x.1<=1000000) :
  BL Tryz.prog 245 [.msl 1000 l.length,.v (aW 246)] (AC [(1000,.arr 2 (l.map An))] Ao) fun r h'=>
   r=.tup []/\∃l' : List (Int×Int),(l'.Perm l/\l'.Pairwise (fun x y=>x.1<=y.1))/\h'=AC [(1000,.arr 2 (l'.map An))] Ao:=by
 obtain⟨lim,Y7,hb⟩:=ju l.length hl;refine DK (Wd Dj) [(1000,1000)] rfl DZ hm rfl Tryz.func245 sT rfl (Nz rfl) sT rfl (Xi .pure (Xi _ (Yi (hb) (Xi (.gen [(1000,1000)] 0) (Yi rfl ((mR l hl h lim Y7).imp ?_))))));intro r h' hq;refine BF hq.2 (fun l' NZ=>?_);refine Xi (.tup []) (Yi ?_ (Yi rfl (Xi l' (Yi ⟨NZ.1,NZ.2.1⟩ ?_))))
 .exact .refl _
 .rw[NZ.2.2];rfl
abbrev rZ(l:List (Nat×Nat))(cut:List Nat):VN:=⟨[],[],l,[],[],[],[],[],[],[],cut⟩
abbrev EX:HO:=.arr 2 (l.map An)
theorem NC(l:Bz)(i:Nat):(CA (l.take i)).length<=i:=by
 unfold CA
 have:=DP (fun x:Int×Int=>decide (x.1<x.2)) ((l.take i).map DL)
 rw[Lm,Al]at this;omega
theorem LG{l:Bz}{i:Nat}(h:i<l.length)(h3:(DL l[i]).1<(DL l[i]).2):CA (l.take (i+1))=CA (l.take i)++[DL l[i]]:=by
 rw[A2,Ge h,KR];unfold CA;simp[h3]
theorem NA{l:Bz}{i:Nat}(h:i<l.length)(h3:¬(DL l[i]).1<(DL l[i]).2):CA (l.take (i+1))=CA (l.take i):=by
 rw[A2,Ge h,KR];unfold CA;simp[h3]
abbrev arr2:Bz:=(Bc (s.take i)).reverse++(j++s.drop i)
theorem bw(h:i<s.length)(hj:(Bc (s.take i)).length+j.length=i):(arr2 s j i)[i]?=some s[i]:=by
 unfold arr2;rw[AL (by rw[Ck];omega),AL (by rw[Ck];omega),Ck,BW];rw[show i+(i-(Bc (List.take i s)).length-j.length)=i by omega,Ge h]
theorem VV(e:Bc (s.take i)=y::t):(arr2 s j i)[t.length]?=some y:=by
 unfold arr2;rw[e,DA,B2,AL (by rw[Ck];omega),Ck,DB];rfl
theorem XR(h:i<=s.length)(hj:(Bc (s.take i)).length+j.length=i):(arr2 s j i).length=s.length:=by
 unfold arr2;simp only[Ac,Ck,BX];omega
theorem drop_at(s:List α)(i:Nat)(h:i<s.length):s.drop i=s[i]::s.drop (i+1):=AG h
theorem PA(h:i<s.length)(e:G6 (Bc (s.take i)) s[i]=s[i]::Bc (s.take i)) :
  (arr2 s j i).set (Bc (s.take i)).length s[i]=arr2 s (j++[s[i]]).tail (i+1):=by
 unfold arr2;rw[D4 s i h,e,DA,List.set_append_right _ _ (by rw[Ck];exact Ad _),Ck,DB,B2,drop_at s i h]
 congr 1
 cases j with
 |nil=>rfl
 |cons a b=>simp
theorem VU(h:i<s.length)(e:Bc (s.take i)=y::t)(Fc:s[i].1<=y.2) :
  (arr2 s j i).set t.length (y.1,max y.2 s[i].2)=arr2 s (j++[s[i]]) (i+1):=by
 unfold arr2;have e2:G6 (y::t) s[i]=(y.1,max y.2 s[i].2)::t:=by show(if s[i].1<=y.2 then _ else _)=_;rw[Av Fc]
 rw[D4 s i h,e,e2,DA,DA,B2,List.set_append_right _ _ (by rw[Ck];exact Ad _),Ck,DB,drop_at s i h];simp
theorem CQ{enc:α->List AV}{l:List α}{i:Nat}{x:α}(h:l[i]?=some x):(l.map enc)[i]?=some (enc x):=by rw[Ap,h];rfl
theorem jt(hl:CC l):PC 191 [sl An l] (sl An (canon l)):=by
 refine Fr (aU (rZ [(3,2)] [])) rfl DZ hm rfl Tryz.func191 sT rfl (Nz rfl) sT (Xi {i:Nat // i<=l.length} (Xi (fun i=>⟨[(0,sl An l),(3,.msl 3 (CA (l.take i.1)).length),(9,sl An l),(10,vi (l.map An).length),(11,vi i.1)],[(3,EX (CA (l.take i.1)))],Ao⟩) (Xi (fun i=>l.length-i.1) (Yi (Xi ⟨0,by simp⟩ ?_) ?_))))
 .exact⟨Z5,Z1,Fh,Tv⟩
 .intro⟨i,h1⟩;have hn:=NC l i;refine Yi ?_ ?_
  .intro h;have h:i<l.length:=by simpa using h
   have hg:l[i]?=some l[i]:=Ge h;refine Xi (An l[i]) (Yi (Yi (Nn i) (by simp[hg])) (Yi rfl ?_));refine Yi (Nz rfl) (yN (yN (Yi ?_ ?_)))
   .intro h3;refine yN ?_;have Hd:Cn 2 [[vi (max l[i].1 0),vi (min l[i].2 1000000)]]/\((CA (l.take i)).map An).length=(CA (l.take i)).length/\(((CA (l.take i)).map An).length+[[vi (max l[i].1 0),vi (min l[i].2 1000000)]].length)*16<=140737488355328/\((CA (l.take i)).map An).length+[[vi (max l[i].1 0),vi (min l[i].2 1000000)]].length<=9223372036854775807:=
     ⟨⟨rfl,trivial⟩,by rw[Lm],by rw[Lm,AI];omega,by rw[Lm,AI];omega⟩
    refine Yi Hd (Yi (Ii i sP) (Xi ⟨i+1,by omega⟩ ?_));have e1:AV.msl 3 (((CA (l.take i)).map An).length+[[vi (max l[i].1 0),vi (min l[i].2 1000000)]].length)=.msl 3 (CA (l.take (i+1))).length:=by rw[LG h h3];simp
    have e2:HO.arr 2 ((CA (l.take i)).map An++[[vi (max l[i].1 0),vi (min l[i].2 1000000)]])=EX (CA (l.take (i+1))):=by rw[LG h h3];simp[DL]
    exact⟨Dl l.length i sP,⟨Zr,⟨e1,rfl⟩,Zr,Zr,Zr,Tv⟩,⟨⟨e2,rfl⟩,Tv⟩,Fh,Tv⟩
   .intro h3;refine Yi (Ii i sP) (Xi ⟨i+1,by omega⟩ ?_);have e1:AV.msl 3 (CA (l.take i)).length=.msl 3 (CA (l.take (i+1))).length:=by rw[NA h h3]
    have e2:EX (CA (l.take i))=EX (CA (l.take (i+1))):=by rw[NA h h3]
    exact⟨Dl l.length i sP,⟨Zr,⟨e1,rfl⟩,Zr,Zr,Zr,Tv⟩,⟨⟨e2,rfl⟩,Tv⟩,Fh,Tv⟩
  .intro h;have h:¬i<l.length:=by simpa using h
   have ei:CA (l.take i)=CA l:=by rw[As sP]
   have hN:(CA (l.take i)).length=(CA l).length:=by rw[ei]
   refine Xi (.gen [(3,1000)] 0) (Yi rfl ((mM (CA (l.take i)) (by unfold CC;omega) (fun x hx=>by have:=PH hx;omega)).to ?_));intro s hs;have XJ:s.length=(CA (l.take i)).length:=hs.1.length_eq;have sK:s.length<=1073741824:=by omega
   have fin:(Bc s).reverse=canon l:=IA (by rw[<-ei];exact hs.1) hs.2;refine Xi {p:Nat×Bz // p.1<=s.length/\(Bc (s.take p.1)).length+p.2.length=p.1} (Xi (fun p=>⟨[(3,.msl 3 (CA (l.take i)).length),(6,vi (Bc (s.take p.1.1)).length),(34,.msl 3 (CA (l.take i)).length),(35,vi (CA (l.take i)).length),(36,vi p.1.1)],[(3,EX (arr2 s p.1.2 p.1.1))],Ao⟩) (Xi (fun p=>s.length-p.1.1) (Yi (Xi ⟨(0,[]),Ar _,rfl⟩ ?_) ?_)))
   .exact⟨Z5,Z1,Fh,Tv⟩
   intro⟨⟨k,j⟩,k1,k2⟩;have k2:(Bc (s.take k)).length+j.length=k:=k2;have BQ:=XR s j k k1 k2;have N0:(CA (l.take i)).length=((arr2 s j k).map An).length:=by rw[Lm,BQ,XJ]
   refine Yi ?_ ?_
   .intro h2;have h2:(k:Int)<(CA (l.take i)).length:=h2;have hk:k<s.length:=by omega
    have MP:=CQ (enc:=An) (bw s j k hk k2);refine Yi ⟨by show(0:Int)<=k;omega,by show(k:Int)<_;omega⟩ ?_;refine Yi N0 (Xi (An s[k]) (Yi MP (Yi (Nz rfl) (yN ?_))));have hr:=Ks s k k1;refine Bn (Nat.eq_zero_or_pos k) (fun k0=>?_) (fun k0=>?_)
    .refine Yi ?_ ?_
     .intro h4;have h4:(0:Int)<k:=h4;omega
     .intro _;refine Yi sT ?_;have JM:G6 (Bc (s.take k)) s[k]=s[k]::Bc (s.take k):=by subst k0;rfl
      have ou:(Bc (s.take k)).length<(arr2 s j k).length:=by omega
      have hz:=CQ (enc:=An) (Ge ou);refine Yi (Nz rfl) (Yi ⟨by show(0:Int)<=((Bc (s.take k)).length:Int);omega,by show((Bc (s.take k)).length:Int)<_;omega⟩ ?_);refine Yi N0 (Xi (An (arr2 s j k)[(Bc (s.take k)).length]) (Yi hz (yN (Yi (by show AE (((Bc (s.take k)).length:Int)+1);unfold AE;omega) ?_))));refine Yi (Ii k sP) ?_;have hm:=D4 s k hk;have e1:vi (((Bc (s.take k)).length:Int)+1)=vi (Bc (s.take (k+1))).length:=by rw[hm,JM];simp
      have e2:HO.arr 2 (((arr2 s j k).map An).set (Bc (s.take k)).length [vi s[k].1,vi s[k].2])=EX (arr2 s (j++[s[k]]).tail (k+1)):=by rw[<-PA s j k hk JM];simp only[EX,DX]
      refine Xi ⟨(k+1,(j++[s[k]]).tail),by show k+1<=s.length;omega,by show(Bc (s.take (k+1))).length+((j++[s[k]]).tail).length=k+1;rw[hm,JM];simp;omega⟩ ?_;exact⟨Dl s.length k sP,⟨Zr,⟨e1,rfl⟩,Zr,Zr,Zr,Tv⟩,⟨⟨e2,rfl⟩,Tv⟩,Fh,Tv⟩
    .refine Yi ?_ ?_
     .intro _;obtain⟨y,t,e⟩:∃y t,Bc (s.take k)=y::t:=by
       cases hc:Bc (s.take k)with
       |nil=>have:=hr.2 k0;rw[hc]at this;simp at this
       |cons y t=>exact⟨y,t,rfl⟩
      have ht:(((Bc (s.take k)).length:Int)-1).toNat=t.length:=by rw[e];simp
      have hy:((arr2 s j k).map An)[(((Bc (s.take k)).length:Int)-1).toNat]?=some (An y):=by rw[ht];exact CQ (VV s j k e)
      refine Yi (by show AE (((Bc (s.take k)).length:Int)-1);unfold AE;omega) ?_;have MS:=hr.2 k0;refine Yi ⟨by show(0:Int)<=((Bc (s.take k)).length:Int)-1;omega,by show((Bc (s.take k)).length:Int)-1<_;omega⟩ ?_;refine Yi N0 (Xi (An y) (Yi hy (Yi ?_ ?_)))
      .intro h5;refine Yi sT (Yi (by show AE (((Bc (s.take k)).length:Int)-1);unfold AE;omega) (Yi (by show AE (((Bc (s.take k)).length:Int)-1);unfold AE;omega) ?_));refine Yi ⟨by show(0:Int)<=((Bc (s.take k)).length:Int)-1;omega,by show((Bc (s.take k)).length:Int)-1<_;omega⟩ ?_;refine Yi N0 (Xi (An y) (Yi hy (Yi ⟨by show(0:Int)<=((Bc (s.take k)).length:Int)-1;omega,by show((Bc (s.take k)).length:Int)-1<_;omega⟩ ?_)));refine Yi N0 (Xi (An y) (Yi hy (yN (Yi sT (Yi (Ii k sP) ?_)))));have hm:=D4 s k hk;have JM:G6 (Bc (s.take k)) s[k]=(y.1,max y.2 s[k].2)::t:=by rw[e];show(if s[k].1<=y.2 then _ else _)=_;rw[Av h5]
       have e1:vi (Bc (s.take k)).length=vi (Bc (s.take (k+1))).length:=by rw[hm,JM,e];simp
       have e2:HO.arr 2 (((arr2 s j k).map An).set (((Bc (s.take k)).length:Int)-1).toNat [vi y.1,vi (max y.2 s[k].2)])=EX (arr2 s (j++[s[k]]) (k+1)):=by rw[<-VU s j k hk e h5,ht];simp only[EX,DX]
       refine Xi ⟨(k+1,j++[s[k]]),by show k+1<=s.length;omega,by show(Bc (s.take (k+1))).length+(j++[s[k]]).length=k+1;rw[hm,JM,Ac,AI];rw[e]at k2;simp only[Am]at k2⊢;omega⟩ ?_;exact⟨Dl s.length k sP,⟨Zr,⟨e1,rfl⟩,Zr,Zr,Zr,Tv⟩,⟨⟨e2,rfl⟩,Tv⟩,Fh,Tv⟩
      .intro h5;refine Yi sT ?_;have JM:G6 (Bc (s.take k)) s[k]=s[k]::Bc (s.take k):=by rw[e];show(if s[k].1<=y.2 then _ else _)=_;rw[Aj h5]
       have ou:(Bc (s.take k)).length<(arr2 s j k).length:=by omega
       have hz:=CQ (enc:=An) (Ge ou);refine Yi (Nz rfl) (Yi ⟨by show(0:Int)<=((Bc (s.take k)).length:Int);omega,by show((Bc (s.take k)).length:Int)<_;omega⟩ ?_);refine Yi N0 (Xi (An (arr2 s j k)[(Bc (s.take k)).length]) (Yi hz (yN (Yi (by show AE (((Bc (s.take k)).length:Int)+1);unfold AE;omega) ?_))));refine Yi (Ii k sP) ?_;have hm:=D4 s k hk;have e1:vi (((Bc (s.take k)).length:Int)+1)=vi (Bc (s.take (k+1))).length:=by rw[hm,JM];simp
       have e2:HO.arr 2 (((arr2 s j k).map An).set (Bc (s.take k)).length [vi s[k].1,vi s[k].2])=EX (arr2 s (j++[s[k]]).tail (k+1)):=by rw[<-PA s j k hk JM];simp only[EX,DX]
       refine Xi ⟨(k+1,(j++[s[k]]).tail),by show k+1<=s.length;omega,by show(Bc (s.take (k+1))).length+((j++[s[k]]).tail).length=k+1;rw[hm,JM];simp;omega⟩ ?_;exact⟨Dl s.length k sP,⟨Zr,⟨e1,rfl⟩,Zr,Zr,Zr,Tv⟩,⟨⟨e2,rfl⟩,Tv⟩,Fh,Tv⟩
     .intro h4;have h4:¬(0:Int)<k:=h4;omega
   .intro h2;have h2:¬(k:Int)<(CA (l.take i)).length:=h2;have hk:k=s.length:=by omega
    have hr:=Ks s k k1;have Zd:((((arr2 s j k).map An).take ((Bc (s.take k)).length:Int).toNat).drop 0)=(canon l).map An:=by
     rw[KH,A1,<-MH,<-fin];unfold arr2
     have:(Bc (s.take k)).length=(Bc (s.take k)).reverse.length:=by rw[Ck]
     rw[this,List.take_left,hk,DS]
    refine Yi ⟨N0,by show(0:Int)<=0;omega,by show(0:Int)<=((Bc (s.take k)).length:Int);omega,by show((Bc (s.take k)).length:Int)<=(((arr2 s j k).map An).length:Int);omega,.inr ⟨rfl,by simp⟩⟩ ?_;exact .of_eq (Aa (AV.slice .none) Zd)
end Go.Eng
namespace Go.Eng
open Go.Proofs Go.Sort
theorem Xl(g:Gh)(w:World)(U:Nat->Prop)(vs:List Value)(h:∀x∈vs,x.oneCell'=true):B3 g w U (vs.map .v) vs:=
 ⟨by simp,h,fun i av x q1 q2=>by
  rw[Ap,q2]at q1;cases q1;exact .v _ _⟩
-- maps from numbers to numbers
end Go.Eng
namespace Go.Eng
open Go.Proofs
theorem c143(n:Int):PC 304 [vi n] (vb (decide (n=0))):=by
 refine Ps Dj Tryz.func304 rfl (Nz rfl) (Yi ?_ ?_)
 .intro h;rw[Ah h];exact .refl _
 .intro h;rw[Ae h];exact .refl _
-- terms
abbrev F0(l:List Nat):VN:=⟨[],[],[],[],[],[],[],[],[],[],l⟩
abbrev UK:DG:=⟨false,[.str]⟩
end Go.Eng
namespace Go.Eng
open Go.Proofs Go.Shelf Go.RowKit Go.Lib Go.Sort
end Go.Eng
namespace Go.Eng
open Go.Proofs
variable {α:Type}{p:α->Bool}{l:List α}
def U4(h s:Nat->HO):Nat->Bool
 |0=>true
 |n+1=>(match h (1000+n)with |.free=>true |_=>(match s (1000+n)with |.free=>false |_=>true))&&U4 h s n
theorem NK{h s:Nat->HO}:∀{n:Nat},U4 h s n=true->∀j,j<n->h (1000+j)≠.free->s (1000+j)≠.free
 |n+1,hd,j,hj,hn=>by
  simp only[U4,Ak]at hd;rcases Be j n with h1 | h1
  .exact NK hd.2 j h1 hn
  .have:j=n:=by omega
   subst this
   have:=hd.1
   intro e;split at this
   .rename_i q;exact hn q
   .rw[e]at this;cases this
theorem ED{h s:Nat->HO}(hd:U4 h s 1000=true):∀j,1000<=j->j<2000->h j≠.free->s j≠.free:=fun j h1 h2=>by
 have:=NK hd (j-1000) sP
 rw[show 1000+(j-1000)=j by omega]at this;exact this
abbrev bo:List AV:=[vs ⟨#[]⟩,vi 0,vi 0,vi 0,nzA,vs ⟨#[]⟩,vs ⟨#[]⟩,vs ⟨#[]⟩,vb false]
abbrev MA:Option Rl->AV
 |some r=>.tup [.agg (Bb r),vb true]
 |none=>.tup [.agg bo,vb false]
theorem YK{i:Nat}(hi:i<l.length)(hb:∀j (hj:j<l.length),j<i->p l[j]=false)(h:p l[i]=true):l.find? p=some l[i]:=by
 rw[List.find?_eq_some_iff_getElem];exact⟨h,i,hi,rfl,fun j hj=>by rw[hb j sP hj];rfl⟩
theorem Wl(hb:∀j (hj:j<l.length),p l[j]=false):l.find? p=none:=by
 rw[List.find?_eq_none];intro x hx;obtain⟨j,hj,rfl⟩:=BB hx;rw[hb j hj];decide
theorem cU{cx:Cx}{st:St}{K:LS -> Prop}(t:List (Nat×AV))(h:List (Nat×HO))(h1:mg st (LS.st ⟨t,h,Ao⟩).h t)(h2:mf st (LS.st ⟨t,h,Ao⟩).h h)(k:K ⟨t,h,Ao⟩)
    (h3:match cx.ext with | false => True | true => ∀j,1000 <= j -> j<2000 -> st.h j ≠ .free -> (LS.st ⟨t,h,Ao⟩).h j ≠ .free := by first | exact trivial | exact ED sT):∃s,St.le cx st s /\ K s := ⟨_,⟨h1,h2,fun _ => .inl rfl,h3⟩,k⟩
end Go.Eng
