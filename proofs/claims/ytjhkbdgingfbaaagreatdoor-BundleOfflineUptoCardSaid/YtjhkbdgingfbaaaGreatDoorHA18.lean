/- Lemmas 18. -/
import Derived.Test.YtjhkbdgingfbaaaGreatDoorHA01
import Derived.Test.YtjhkbdgingfbaaaGreatDoorHA16
import Derived.Shelf.SlSortCmp.WholeK
import Derived.Shelf.Sort.Plain
import Derived.Shelf.Small.Strs
import Derived.Shelf.Small.Bits
import Derived.Ground.SlsfProg
import Derived.Ground.NamesProg
import Derived.Shelf.SlSortCmp.NoneTotal
set_option maxHeartbeats 1000000
namespace Go.Eng
open Go.Proofs
variable {α:Type}{b0 b1 b2 b3:Bool}{a0:α}{b4:Bool}{a1:α}{b5:Bool}{a2 a3:α}{b6:Bool}{a4:α}{b7:Bool}{a5 a6:α}{b8:Bool}{a7:α}{b9:Bool}{a8:α}{KK:Bool}{a9:α}{l:List α}{Y9:α}(i:Nat)(pl:Qn)(b:Bool)
abbrev vi(n:Int):AV := .v (.int .i64 n)
abbrev vb:AV := .v (.bool b)
abbrev vs(s:ByteArray):AV := .v (.string s)
abbrev sl(enc:α -> List AV)(l:List α):AV := .slice .none (l.map enc)
abbrev Jh(v:Ver):List AV := [vi v.a,vi v.b,vi v.c]
abbrev AC(s:Int×Int):List AV := [vi s.1,vi s.2]
abbrev A2(q:Rq):List AV := [vs q.path,sl AC q.set]
abbrev BS(r:Rl):List AV := [vs r.path,vi r.ver.a,vi r.ver.b,vi r.ver.c,sl A2 r.reqs,vs r.arch,vs r.ifc,vs r.cert,vb r.yanked]
abbrev Ao(s:Sl):List AV := [vs s.path,vi s.ver.a,vi s.ver.b,vi s.ver.c]
abbrev AO(t:Tm):List AV := [vs t.path,vb t.absent,sl AC t.set]
abbrev CX(i:Nf):List AV := [vi i.kind,vs i.path,vi i.place,vi i.number,vi i.left,vi i.right]
abbrev Cy(s:Sk):List AV := [vs s.path,vi s.place,vi s.inf]
noncomputable abbrev dY:Cx := ⟨Tryz.prog,og,pl,false,0,fun _ _ _ _ => True⟩
noncomputable abbrev MC:Cx := ⟨Tryz.prog,og,pl,true,0,fun _ _ _ _ => True⟩
abbrev DU:Qn := ⟨[],[],[],[],[],[],[],[],[],[],[]⟩
abbrev PC(f:Nat)(args:List AV)(res:AV):Prop := Lc Tryz.prog f args res
theorem hm:Tryz.prog.follows .mixedOrders = true := by rfl
theorem Zr{α:Sort _}{β:Sort _}{a:α}{b:β}:a = a /\ b = b := ⟨rfl,rfl⟩
theorem Nz{a b:Nat}(h:Nat.ble a b = true):a <= b := Gv h
theorem Xi{α:Sort _}{p:α -> Prop}(w:α)(h:p w):Exists p := Exists.intro w h
theorem Yi{a b:Prop}(h:a)(k:b):a /\ b := And.intro h k
theorem Fh{st:St}{h:Nat -> HO}:∀j,Ad j = .free \/ (st.h j = Ad j /\ SK h (Ad j) = true) := fun _ => .inl rfl
theorem Tv:True := trivial
theorem Ii(h:i <= 9223372036854775806):A5 ((i:Int) + 1) := by unfold A5;omega
theorem Dl(n i:Nat)(h:i<n):n-(i + 1)<n-i := by omega
theorem Bt:b = true \/ b = false := Bool.eq_false_or_eq_true b
theorem Z1:(a0 = a0 /\ b0 = b0) /\ True := ⟨⟨rfl,rfl⟩,trivial⟩
theorem Z2:(a0 = a0 /\ b0 = b0) /\ (a1 = a1 /\ b1 = b1) /\ True := ⟨⟨rfl,rfl⟩,⟨rfl,rfl⟩,trivial⟩
theorem Z3:(a0 = a0 /\ b0 = b0) /\ (a1 = a1 /\ b1 = b1) /\ (a2 = a2 /\ b2 = b2) /\ True := ⟨⟨rfl,rfl⟩,⟨rfl,rfl⟩,⟨rfl,rfl⟩,trivial⟩
theorem Z4:(a0 = a0 /\ b0 = b0) /\ (a1 = a1 /\ b1 = b1) /\ (a2 = a2 /\ b2 = b2) /\ (a3 = a3 /\ b3 = b3) /\ True := ⟨⟨rfl,rfl⟩,⟨rfl,rfl⟩,⟨rfl,rfl⟩,⟨rfl,rfl⟩,trivial⟩
theorem Z5:(a0 = a0 /\ b0 = b0) /\ (a1 = a1 /\ b1 = b1) /\ (a2 = a2 /\ b2 = b2) /\ (a3 = a3 /\ b3 = b3) /\ (a4 = a4 /\ b4 = b4) /\ True := ⟨⟨rfl,rfl⟩,⟨rfl,rfl⟩,⟨rfl,rfl⟩,⟨rfl,rfl⟩,⟨rfl,rfl⟩,trivial⟩
theorem Z6:(a0 = a0 /\ b0 = b0) /\ (a1 = a1 /\ b1 = b1) /\ (a2 = a2 /\ b2 = b2) /\ (a3 = a3 /\ b3 = b3) /\ (a4 = a4 /\ b4 = b4) /\ (a5 = a5 /\ b5 = b5) /\ True := ⟨⟨rfl,rfl⟩,⟨rfl,rfl⟩,⟨rfl,rfl⟩,⟨rfl,rfl⟩,⟨rfl,rfl⟩,⟨rfl,rfl⟩,trivial⟩
theorem Z7:(a0 = a0 /\ b0 = b0) /\ (a1 = a1 /\ b1 = b1) /\ (a2 = a2 /\ b2 = b2) /\ (a3 = a3 /\ b3 = b3) /\ (a4 = a4 /\ b4 = b4) /\ (a5 = a5 /\ b5 = b5) /\ (a6 = a6 /\ b6 = b6) /\ True := ⟨⟨rfl,rfl⟩,⟨rfl,rfl⟩,⟨rfl,rfl⟩,⟨rfl,rfl⟩,⟨rfl,rfl⟩,⟨rfl,rfl⟩,⟨rfl,rfl⟩,trivial⟩
theorem Z8:(a0 = a0 /\ b0 = b0) /\ (a1 = a1 /\ b1 = b1) /\ (a2 = a2 /\ b2 = b2) /\ (a3 = a3 /\ b3 = b3) /\ (a4 = a4 /\ b4 = b4) /\ (a5 = a5 /\ b5 = b5) /\ (a6 = a6 /\ b6 = b6) /\ (a7 = a7 /\ b7 = b7) /\ True := ⟨⟨rfl,rfl⟩,⟨rfl,rfl⟩,⟨rfl,rfl⟩,⟨rfl,rfl⟩,⟨rfl,rfl⟩,⟨rfl,rfl⟩,⟨rfl,rfl⟩,⟨rfl,rfl⟩,trivial⟩
theorem Z9:(a0 = a0 /\ b0 = b0) /\ (a1 = a1 /\ b1 = b1) /\ (a2 = a2 /\ b2 = b2) /\ (a3 = a3 /\ b3 = b3) /\ (a4 = a4 /\ b4 = b4) /\ (a5 = a5 /\ b5 = b5) /\ (a6 = a6 /\ b6 = b6) /\ (a7 = a7 /\ b7 = b7) /\ (a8 = a8 /\ b8 = b8) /\ True := ⟨⟨rfl,rfl⟩,⟨rfl,rfl⟩,⟨rfl,rfl⟩,⟨rfl,rfl⟩,⟨rfl,rfl⟩,⟨rfl,rfl⟩,⟨rfl,rfl⟩,⟨rfl,rfl⟩,⟨rfl,rfl⟩,trivial⟩
theorem Z10:(a0 = a0 /\ b0 = b0) /\ (a1 = a1 /\ b1 = b1) /\ (a2 = a2 /\ b2 = b2) /\ (a3 = a3 /\ b3 = b3) /\ (a4 = a4 /\ b4 = b4) /\ (a5 = a5 /\ b5 = b5) /\ (a6 = a6 /\ b6 = b6) /\ (a7 = a7 /\ b7 = b7) /\ (a8 = a8 /\ b8 = b8) /\ (a9 = a9 /\ b9 = b9) /\ True := ⟨⟨rfl,rfl⟩,⟨rfl,rfl⟩,⟨rfl,rfl⟩,⟨rfl,rfl⟩,⟨rfl,rfl⟩,⟨rfl,rfl⟩,⟨rfl,rfl⟩,⟨rfl,rfl⟩,⟨rfl,rfl⟩,⟨rfl,rfl⟩,trivial⟩
theorem Z11:(a0 = a0 /\ b0 = b0) /\ (a1 = a1 /\ b1 = b1) /\ (a2 = a2 /\ b2 = b2) /\ (a3 = a3 /\ b3 = b3) /\ (a4 = a4 /\ b4 = b4) /\ (a5 = a5 /\ b5 = b5) /\ (a6 = a6 /\ b6 = b6) /\ (a7 = a7 /\ b7 = b7) /\ (a8 = a8 /\ b8 = b8) /\ (a9 = a9 /\ b9 = b9) /\ (Y9 = Y9 /\ KK = KK) /\ True := ⟨⟨rfl,rfl⟩,⟨rfl,rfl⟩,⟨rfl,rfl⟩,⟨rfl,rfl⟩,⟨rfl,rfl⟩,⟨rfl,rfl⟩,⟨rfl,rfl⟩,⟨rfl,rfl⟩,⟨rfl,rfl⟩,⟨rfl,rfl⟩,⟨rfl,rfl⟩,trivial⟩
theorem Z12{dR:α}{pg:Bool}:(a0 = a0 /\ b0 = b0) /\ (a1 = a1 /\ b1 = b1) /\ (a2 = a2 /\ b2 = b2) /\ (a3 = a3 /\ b3 = b3) /\ (a4 = a4 /\ b4 = b4) /\ (a5 = a5 /\ b5 = b5) /\ (a6 = a6 /\ b6 = b6) /\ (a7 = a7 /\ b7 = b7) /\ (a8 = a8 /\ b8 = b8) /\ (a9 = a9 /\ b9 = b9) /\ (Y9 = Y9 /\ KK = KK) /\ (dR = dR /\ pg = pg) /\ True := ⟨⟨rfl,rfl⟩,⟨rfl,rfl⟩,⟨rfl,rfl⟩,⟨rfl,rfl⟩,⟨rfl,rfl⟩,⟨rfl,rfl⟩,⟨rfl,rfl⟩,⟨rfl,rfl⟩,⟨rfl,rfl⟩,⟨rfl,rfl⟩,⟨rfl,rfl⟩,⟨rfl,rfl⟩,trivial⟩
theorem Z13{dR a12:α}{pg zu:Bool}:(a0 = a0 /\ b0 = b0) /\ (a1 = a1 /\ b1 = b1) /\ (a2 = a2 /\ b2 = b2) /\ (a3 = a3 /\ b3 = b3) /\ (a4 = a4 /\ b4 = b4) /\ (a5 = a5 /\ b5 = b5) /\ (a6 = a6 /\ b6 = b6) /\ (a7 = a7 /\ b7 = b7) /\ (a8 = a8 /\ b8 = b8) /\ (a9 = a9 /\ b9 = b9) /\ (Y9 = Y9 /\ KK = KK) /\ (dR = dR /\ pg = pg) /\ (a12 = a12 /\ zu = zu) /\ True := ⟨⟨rfl,rfl⟩,⟨rfl,rfl⟩,⟨rfl,rfl⟩,⟨rfl,rfl⟩,⟨rfl,rfl⟩,⟨rfl,rfl⟩,⟨rfl,rfl⟩,⟨rfl,rfl⟩,⟨rfl,rfl⟩,⟨rfl,rfl⟩,⟨rfl,rfl⟩,⟨rfl,rfl⟩,⟨rfl,rfl⟩,trivial⟩
theorem Nn:(0:Int) <= (i:Int) := Int.natCast_nonneg i
abbrev Ic(x:List Rl)(ifs:List (List AV)):List AV := [sl BS x,.slice .none ifs]
theorem Ps{f:Nat}{fn:Func}{c:Code}{args:List AV}{res:AV}(hf:Tryz.prog.funcs[f]? = some fn)(hb:fn.body = some c)(hN:args.length <= fn.ntmps)(hk:NZ (dY pl) c (ct (dY pl) fn.results.toList fun r => EY r res) ⟨MD args,Ad⟩)(hn : (fn.name == "runtime.NumGoroutine") = false := by kernel_rfl)(hc : DJ fn.ntmps c = true := by kernel_rfl) : Lc Tryz.prog f args res := F2 (dY pl) rfl Cu hm rfl hf hn hb hN hc hk
theorem Lm{β:Type}(f:α -> β):(l.map f).length = l.length := AS f
theorem Ge{i:Nat}(h:i<l.length):l[i]? = some l[i] := At h
end Go.Eng
namespace Go.Proofs
open Go.Shelf
def Tryz.layPdqSpan_ren:Go.Shelf.Ren:=⟨fun | 14=>287 | 20=>316 | 21=>317 | 22=>318 | 23=>319 | 24=>320 | 25=>321 | 26=>322 | 27=>323 | 46=>334 | 47=>177 | 48=>178 | 49=>335 | 50=>336 | 15=>72 | 57=>348 | 28=>120 | 29=>121 | n=>n,fun | 24=>226 | 22=>140 | 3=>3 | 25=>311 | 4=>4 | 0=>0 | 46=>184 | 45=>183 | 50=>188 | 66=>250 | 39=>127 | 55=>177 | 70=>254 | 76=>289 | 77=>290 | 53=>155 | 5=>5 | 9=>9 | n=>n,fun | n=>n⟩
theorem Tryz.layPdqSpan:Go.Proofs.SlLaysF0.n14 Tryz.prog Tryz.layPdqSpan_ren:={
 mixed:=by kernel_rfl
 f14:=⟨Tryz.f287.name,by decide,Tryz.func287.trans (congrArg some Go.Eng.aa0)⟩
 f15:=Tryz.func72.trans (congrArg some Go.Eng.aa0)
 f20:=⟨Tryz.f316.name,by decide,Tryz.func316.trans (congrArg some Go.Eng.aa0)⟩
 f21:=⟨Tryz.f317.name,by decide,Tryz.func317.trans (congrArg some Go.Eng.aa0)⟩
 f22:=⟨Tryz.f318.name,by decide,Tryz.func318.trans (congrArg some Go.Eng.aa0)⟩
 f23:=⟨Tryz.f319.name,by decide,Tryz.func319.trans (congrArg some Go.Eng.aa0)⟩
 f24:=⟨Tryz.f320.name,by decide,Tryz.func320.trans (congrArg some Go.Eng.aa0)⟩
 f25:=⟨Tryz.f321.name,by decide,Tryz.func321.trans (congrArg some Go.Eng.aa0)⟩
 f26:=⟨Tryz.f322.name,by decide,Tryz.func322.trans (congrArg some Go.Eng.aa0)⟩
 f27:=⟨Tryz.f323.name,by decide,Tryz.func323.trans (congrArg some Go.Eng.aa0)⟩
 f28:=Tryz.func120.trans (congrArg some Go.Eng.aa0)
 f29:=Tryz.func121.trans (congrArg some Go.Eng.aa0)
 f46:=⟨Tryz.f334.name,by decide,Tryz.func334.trans (congrArg some Go.Eng.aa0)⟩
 f47:=Tryz.func177.trans (congrArg some Go.Eng.aa0)
 f48:=Tryz.func178.trans (congrArg some Go.Eng.aa0)
 f49:=⟨Tryz.f335.name,by decide,Tryz.func335.trans (congrArg some Go.Eng.aa0)⟩
 f50:=⟨Tryz.f336.name,by decide,Tryz.func336.trans (congrArg some Go.Eng.aa0)⟩
 f57:=⟨Tryz.f348.name,by decide,Tryz.func348.trans (congrArg some Go.Eng.aa0)⟩
 t0:=Tryz.underlying0
 a0:=Tryz.isAgg0
 z0:=Tryz.sizeOf0
 v0:=Tryz.zeroValue0
 t3:=Tryz.underlying3
 a3:=Tryz.isAgg3
 z3:=Tryz.sizeOf3
 v3:=Tryz.zeroValue3
 t4:=Tryz.underlying4
 a4:=Tryz.isAgg4
 z4:=Tryz.sizeOf4
 v4:=Tryz.zeroValue4
 t5:=Tryz.underlying5
 a5:=Tryz.isAgg5
 z5:=Tryz.sizeOf5
 v5:=Tryz.zeroValue5
 t9:=Tryz.underlying9
 a9:=Tryz.isAgg9
 z9:=Tryz.sizeOf9
 v9:=Tryz.zeroValue9
 t22:=Tryz.underlying140
 a22:=Tryz.isAgg140
 z22:=Tryz.sizeOf140
 v22:=Tryz.zeroValue140
 t25:=Tryz.underlying311
 a25:=Tryz.isAgg311
 z25:=Tryz.sizeOf311
 v25:=Tryz.zeroValue311
 t39:=Tryz.underlying127
 a39:=Tryz.isAgg127
 z39:=Tryz.sizeOf127
 v39:=Tryz.zeroValue127
 t45:=Tryz.underlying183
 a45:=Tryz.isAgg183
 z45:=Tryz.sizeOf183
 v45:=Tryz.zeroValue183
 t46:=Tryz.underlying184
 a46:=Tryz.isAgg184
 z46:=Tryz.sizeOf184
 v46:=Tryz.zeroValue184
 t50:=Tryz.underlying188
 a50:=Tryz.isAgg188
 z50:=Tryz.sizeOf188
 v50:=Tryz.zeroValue188
 t53:=Tryz.underlying155
 a53:=Tryz.isAgg155
 z53:=Tryz.sizeOf155
 v53:=Tryz.zeroValue155
 t55:=Tryz.underlying177
 a55:=Tryz.isAgg177
 z55:=Tryz.sizeOf177
 v55:=Tryz.zeroValue177
 t66:=Tryz.underlying250
 a66:=Tryz.isAgg250
 z66:=Tryz.sizeOf250
 v66:=Tryz.zeroValue250
 t70:=Tryz.underlying254
 a70:=Tryz.isAgg254
 z70:=Tryz.sizeOf254
 v70:=Tryz.zeroValue254
 t76:=Tryz.underlying289
 a76:=Tryz.isAgg289
 z76:=Tryz.sizeOf289
 v76:=Tryz.zeroValue289
 t77:=Tryz.underlying290
 a77:=Tryz.isAgg290
 z77:=Tryz.sizeOf290
 v77:=Tryz.zeroValue290 }
def Tryz.layPdqTerm_ren:Go.Shelf.Ren:=⟨fun | 14=>332 | 20=>340 | 21=>341 | 22=>342 | 23=>343 | 24=>344 | 25=>345 | 26=>346 | 27=>347 | 46=>358 | 47=>177 | 48=>178 | 49=>359 | 50=>360 | 15=>72 | 57=>364 | 28=>120 | 29=>121 | n=>n,fun | 24=>300 | 22=>261 | 3=>3 | 25=>359 | 4=>4 | 0=>0 | 46=>184 | 45=>183 | 50=>188 | 66=>250 | 39=>127 | 55=>177 | 70=>254 | 76=>289 | 77=>290 | 53=>155 | 5=>5 | 9=>9 | n=>n,fun | n=>n⟩
theorem Tryz.layPdqTerm:Go.Proofs.SlLaysF0.n14 Tryz.prog Tryz.layPdqTerm_ren:={
 mixed:=by kernel_rfl
 f14:=⟨Tryz.f332.name,by decide,Tryz.func332.trans (congrArg some Go.Eng.aa0)⟩
 f15:=Tryz.func72.trans (congrArg some Go.Eng.aa0)
 f20:=⟨Tryz.f340.name,by decide,Tryz.func340.trans (congrArg some Go.Eng.aa0)⟩
 f21:=⟨Tryz.f341.name,by decide,Tryz.func341.trans (congrArg some Go.Eng.aa0)⟩
 f22:=⟨Tryz.f342.name,by decide,Tryz.func342.trans (congrArg some Go.Eng.aa0)⟩
 f23:=⟨Tryz.f343.name,by decide,Tryz.func343.trans (congrArg some Go.Eng.aa0)⟩
 f24:=⟨Tryz.f344.name,by decide,Tryz.func344.trans (congrArg some Go.Eng.aa0)⟩
 f25:=⟨Tryz.f345.name,by decide,Tryz.func345.trans (congrArg some Go.Eng.aa0)⟩
 f26:=⟨Tryz.f346.name,by decide,Tryz.func346.trans (congrArg some Go.Eng.aa0)⟩
 f27:=⟨Tryz.f347.name,by decide,Tryz.func347.trans (congrArg some Go.Eng.aa0)⟩
 f28:=Tryz.func120.trans (congrArg some Go.Eng.aa0)
 f29:=Tryz.func121.trans (congrArg some Go.Eng.aa0)
 f46:=⟨Tryz.f358.name,by decide,Tryz.func358.trans (congrArg some Go.Eng.aa0)⟩
 f47:=Tryz.func177.trans (congrArg some Go.Eng.aa0)
 f48:=Tryz.func178.trans (congrArg some Go.Eng.aa0)
 f49:=⟨Tryz.f359.name,by decide,Tryz.func359.trans (congrArg some Go.Eng.aa0)⟩
 f50:=⟨Tryz.f360.name,by decide,Tryz.func360.trans (congrArg some Go.Eng.aa0)⟩
 f57:=⟨Tryz.f364.name,by decide,Tryz.func364.trans (congrArg some Go.Eng.aa0)⟩
 t0:=Tryz.underlying0
 a0:=Tryz.isAgg0
 z0:=Tryz.sizeOf0
 v0:=Tryz.zeroValue0
 t3:=Tryz.underlying3
 a3:=Tryz.isAgg3
 z3:=Tryz.sizeOf3
 v3:=Tryz.zeroValue3
 t4:=Tryz.underlying4
 a4:=Tryz.isAgg4
 z4:=Tryz.sizeOf4
 v4:=Tryz.zeroValue4
 t5:=Tryz.underlying5
 a5:=Tryz.isAgg5
 z5:=Tryz.sizeOf5
 v5:=Tryz.zeroValue5
 t9:=Tryz.underlying9
 a9:=Tryz.isAgg9
 z9:=Tryz.sizeOf9
 v9:=Tryz.zeroValue9
 t22:=Tryz.underlying261
 a22:=Tryz.isAgg261
 z22:=Tryz.sizeOf261
 v22:=Tryz.zeroValue261
 t25:=Tryz.underlying359
 a25:=Tryz.isAgg359
 z25:=Tryz.sizeOf359
 v25:=Tryz.zeroValue359
 t39:=Tryz.underlying127
 a39:=Tryz.isAgg127
 z39:=Tryz.sizeOf127
 v39:=Tryz.zeroValue127
 t45:=Tryz.underlying183
 a45:=Tryz.isAgg183
 z45:=Tryz.sizeOf183
 v45:=Tryz.zeroValue183
 t46:=Tryz.underlying184
 a46:=Tryz.isAgg184
 z46:=Tryz.sizeOf184
 v46:=Tryz.zeroValue184
 t50:=Tryz.underlying188
 a50:=Tryz.isAgg188
 z50:=Tryz.sizeOf188
 v50:=Tryz.zeroValue188
 t53:=Tryz.underlying155
 a53:=Tryz.isAgg155
 z53:=Tryz.sizeOf155
 v53:=Tryz.zeroValue155
 t55:=Tryz.underlying177
 a55:=Tryz.isAgg177
 z55:=Tryz.sizeOf177
 v55:=Tryz.zeroValue177
 t66:=Tryz.underlying250
 a66:=Tryz.isAgg250
 z66:=Tryz.sizeOf250
 v66:=Tryz.zeroValue250
 t70:=Tryz.underlying254
 a70:=Tryz.isAgg254
 z70:=Tryz.sizeOf254
 v70:=Tryz.zeroValue254
 t76:=Tryz.underlying289
 a76:=Tryz.isAgg289
 z76:=Tryz.sizeOf289
 v76:=Tryz.zeroValue289
 t77:=Tryz.underlying290
 a77:=Tryz.isAgg290
 z77:=Tryz.sizeOf290
 v77:=Tryz.zeroValue290 }
def Tryz.layPdqSel_ren:Go.Shelf.Ren:=⟨fun | 14=>187 | 20=>235 | 21=>236 | 22=>237 | 23=>238 | 24=>239 | 25=>240 | 26=>241 | 27=>242 | 46=>284 | 47=>177 | 48=>178 | 49=>285 | 50=>286 | 15=>72 | 57=>315 | 28=>120 | 29=>121 | n=>n,fun | 24=>49 | 22=>26 | 3=>3 | 25=>204 | 4=>4 | 0=>0 | 46=>184 | 45=>183 | 50=>188 | 66=>250 | 39=>127 | 55=>177 | 70=>254 | 76=>289 | 77=>290 | 53=>155 | 5=>5 | 9=>9 | n=>n,fun | n=>n⟩
theorem Tryz.layPdqSel:Go.Proofs.SlLaysF0.n14 Tryz.prog Tryz.layPdqSel_ren:={
 mixed:=by kernel_rfl
 f14:=⟨Tryz.f187.name,by decide,Tryz.func187.trans (congrArg some Go.Eng.aa0)⟩
 f15:=Tryz.func72.trans (congrArg some Go.Eng.aa0)
 f20:=⟨Tryz.f235.name,by decide,Tryz.func235.trans (congrArg some Go.Eng.aa0)⟩
 f21:=⟨Tryz.f236.name,by decide,Tryz.func236.trans (congrArg some Go.Eng.aa0)⟩
 f22:=⟨Tryz.f237.name,by decide,Tryz.func237.trans (congrArg some Go.Eng.aa0)⟩
 f23:=⟨Tryz.f238.name,by decide,Tryz.func238.trans (congrArg some Go.Eng.aa0)⟩
 f24:=⟨Tryz.f239.name,by decide,Tryz.func239.trans (congrArg some Go.Eng.aa0)⟩
 f25:=⟨Tryz.f240.name,by decide,Tryz.func240.trans (congrArg some Go.Eng.aa0)⟩
 f26:=⟨Tryz.f241.name,by decide,Tryz.func241.trans (congrArg some Go.Eng.aa0)⟩
 f27:=⟨Tryz.f242.name,by decide,Tryz.func242.trans (congrArg some Go.Eng.aa0)⟩
 f28:=Tryz.func120.trans (congrArg some Go.Eng.aa0)
 f29:=Tryz.func121.trans (congrArg some Go.Eng.aa0)
 f46:=⟨Tryz.f284.name,by decide,Tryz.func284.trans (congrArg some Go.Eng.aa0)⟩
 f47:=Tryz.func177.trans (congrArg some Go.Eng.aa0)
 f48:=Tryz.func178.trans (congrArg some Go.Eng.aa0)
 f49:=⟨Tryz.f285.name,by decide,Tryz.func285.trans (congrArg some Go.Eng.aa0)⟩
 f50:=⟨Tryz.f286.name,by decide,Tryz.func286.trans (congrArg some Go.Eng.aa0)⟩
 f57:=⟨Tryz.f315.name,by decide,Tryz.func315.trans (congrArg some Go.Eng.aa0)⟩
 t0:=Tryz.underlying0
 a0:=Tryz.isAgg0
 z0:=Tryz.sizeOf0
 v0:=Tryz.zeroValue0
 t3:=Tryz.underlying3
 a3:=Tryz.isAgg3
 z3:=Tryz.sizeOf3
 v3:=Tryz.zeroValue3
 t4:=Tryz.underlying4
 a4:=Tryz.isAgg4
 z4:=Tryz.sizeOf4
 v4:=Tryz.zeroValue4
 t5:=Tryz.underlying5
 a5:=Tryz.isAgg5
 z5:=Tryz.sizeOf5
 v5:=Tryz.zeroValue5
 t9:=Tryz.underlying9
 a9:=Tryz.isAgg9
 z9:=Tryz.sizeOf9
 v9:=Tryz.zeroValue9
 t22:=Tryz.underlying26
 a22:=Tryz.isAgg26
 z22:=Tryz.sizeOf26
 v22:=Tryz.zeroValue26
 t25:=Tryz.underlying204
 a25:=Tryz.isAgg204
 z25:=Tryz.sizeOf204
 v25:=Tryz.zeroValue204
 t39:=Tryz.underlying127
 a39:=Tryz.isAgg127
 z39:=Tryz.sizeOf127
 v39:=Tryz.zeroValue127
 t45:=Tryz.underlying183
 a45:=Tryz.isAgg183
 z45:=Tryz.sizeOf183
 v45:=Tryz.zeroValue183
 t46:=Tryz.underlying184
 a46:=Tryz.isAgg184
 z46:=Tryz.sizeOf184
 v46:=Tryz.zeroValue184
 t50:=Tryz.underlying188
 a50:=Tryz.isAgg188
 z50:=Tryz.sizeOf188
 v50:=Tryz.zeroValue188
 t53:=Tryz.underlying155
 a53:=Tryz.isAgg155
 z53:=Tryz.sizeOf155
 v53:=Tryz.zeroValue155
 t55:=Tryz.underlying177
 a55:=Tryz.isAgg177
 z55:=Tryz.sizeOf177
 v55:=Tryz.zeroValue177
 t66:=Tryz.underlying250
 a66:=Tryz.isAgg250
 z66:=Tryz.sizeOf250
 v66:=Tryz.zeroValue250
 t70:=Tryz.underlying254
 a70:=Tryz.isAgg254
 z70:=Tryz.sizeOf254
 v70:=Tryz.zeroValue254
 t76:=Tryz.underlying289
 a76:=Tryz.isAgg289
 z76:=Tryz.sizeOf289
 v76:=Tryz.zeroValue289
 t77:=Tryz.underlying290
 a77:=Tryz.isAgg290
 z77:=Tryz.sizeOf290
 v77:=Tryz.zeroValue290 }
def Tryz.layCompare_ren:Go.Shelf.Ren:=⟨fun | 106=>126 | 213=>188 | 265=>243 | n=>n,fun | 9=>9 | 3=>3 | n=>n,fun | n=>n⟩
theorem Tryz.layCompare:Go.Proofs.Lays.n106 Tryz.prog Tryz.layCompare_ren:={
 mixed:=by kernel_rfl
 f106:=Tryz.func126.trans (congrArg some Go.Eng.aa0)
 f213:=Tryz.func188.trans (congrArg some Go.Eng.aa0)
 f265:=Tryz.func243.trans (congrArg some Go.Eng.aa0)
 t3:=Tryz.underlying3
 a3:=Tryz.isAgg3
 z3:=Tryz.sizeOf3
 v3:=Tryz.zeroValue3
 t9:=Tryz.underlying9
 a9:=Tryz.isAgg9
 z9:=Tryz.sizeOf9
 v9:=Tryz.zeroValue9 }
def Tryz.layBits_ren:Go.Shelf.Ren:=⟨fun | 125=>72 | 128=>120 | 129=>121 | n=>n,fun | 46=>127 | 3=>3 | 51=>155 | 53=>177 | 4=>4 | 5=>5 | 9=>9 | n=>n,fun | n=>n⟩
theorem Tryz.layBits:Go.Proofs.Lays.n125 Tryz.prog Tryz.layBits_ren:={
 mixed:=by kernel_rfl
 f125:=Tryz.func72.trans (congrArg some Go.Eng.aa0)
 f128:=Tryz.func120.trans (congrArg some Go.Eng.aa0)
 f129:=Tryz.func121.trans (congrArg some Go.Eng.aa0)
 t3:=Tryz.underlying3
 a3:=Tryz.isAgg3
 z3:=Tryz.sizeOf3
 v3:=Tryz.zeroValue3
 t4:=Tryz.underlying4
 a4:=Tryz.isAgg4
 z4:=Tryz.sizeOf4
 v4:=Tryz.zeroValue4
 t5:=Tryz.underlying5
 a5:=Tryz.isAgg5
 z5:=Tryz.sizeOf5
 v5:=Tryz.zeroValue5
 t9:=Tryz.underlying9
 a9:=Tryz.isAgg9
 z9:=Tryz.sizeOf9
 v9:=Tryz.zeroValue9
 t46:=Tryz.underlying127
 a46:=Tryz.isAgg127
 z46:=Tryz.sizeOf127
 v46:=Tryz.zeroValue127
 t51:=Tryz.underlying155
 a51:=Tryz.isAgg155
 z51:=Tryz.sizeOf155
 v51:=Tryz.zeroValue155
 t53:=Tryz.underlying177
 a53:=Tryz.isAgg177
 z53:=Tryz.sizeOf177
 v53:=Tryz.zeroValue177 }
def Tryz.laySortInts_ren:Go.Shelf.Ren:=⟨fun | 189=>330 | 125=>72 | 257=>338 | 128=>120 | 129=>121 | 294=>349 | 295=>350 | 296=>351 | 297=>352 | 298=>353 | 299=>354 | 216=>355 | 300=>356 | 301=>357 | 328=>361 | 329=>177 | 330=>178 | 331=>362 | 332=>363 | 215=>251 | 343=>365 | n=>n,fun | 28=>256 | 3=>3 | 46=>127 | 0=>0 | 51=>155 | 53=>177 | 4=>4 | 183=>184 | 182=>183 | 131=>188 | 5=>5 | 9=>9 | 218=>250 | 222=>254 | 228=>289 | 229=>290 | n=>n,fun | n=>n⟩
theorem Tryz.laySortInts:Go.Proofs.Lays.n189 Tryz.prog Tryz.laySortInts_ren:={
 mixed:=by kernel_rfl
 f125:=Tryz.func72.trans (congrArg some Go.Eng.aa0)
 f128:=Tryz.func120.trans (congrArg some Go.Eng.aa0)
 f129:=Tryz.func121.trans (congrArg some Go.Eng.aa0)
 f189:=Tryz.func330.trans (congrArg some Go.Eng.aa0)
 f215:=Tryz.func251.trans (congrArg some Go.Eng.aa0)
 f216:=Tryz.func355.trans (congrArg some Go.Eng.aa0)
 f257:=Tryz.func338.trans (congrArg some Go.Eng.aa0)
 f294:=Tryz.func349.trans (congrArg some Go.Eng.aa0)
 f295:=Tryz.func350.trans (congrArg some Go.Eng.aa0)
 f296:=Tryz.func351.trans (congrArg some Go.Eng.aa0)
 f297:=Tryz.func352.trans (congrArg some Go.Eng.aa0)
 f298:=Tryz.func353.trans (congrArg some Go.Eng.aa0)
 f299:=Tryz.func354.trans (congrArg some Go.Eng.aa0)
 f300:=Tryz.func356.trans (congrArg some Go.Eng.aa0)
 f301:=Tryz.func357.trans (congrArg some Go.Eng.aa0)
 f328:=Tryz.func361.trans (congrArg some Go.Eng.aa0)
 f329:=Tryz.func177.trans (congrArg some Go.Eng.aa0)
 f330:=Tryz.func178.trans (congrArg some Go.Eng.aa0)
 f331:=Tryz.func362.trans (congrArg some Go.Eng.aa0)
 f332:=Tryz.func363.trans (congrArg some Go.Eng.aa0)
 f343:=Tryz.func365.trans (congrArg some Go.Eng.aa0)
 t0:=Tryz.underlying0
 a0:=Tryz.isAgg0
 z0:=Tryz.sizeOf0
 v0:=Tryz.zeroValue0
 t3:=Tryz.underlying3
 a3:=Tryz.isAgg3
 z3:=Tryz.sizeOf3
 v3:=Tryz.zeroValue3
 t4:=Tryz.underlying4
 a4:=Tryz.isAgg4
 z4:=Tryz.sizeOf4
 v4:=Tryz.zeroValue4
 t5:=Tryz.underlying5
 a5:=Tryz.isAgg5
 z5:=Tryz.sizeOf5
 v5:=Tryz.zeroValue5
 t9:=Tryz.underlying9
 a9:=Tryz.isAgg9
 z9:=Tryz.sizeOf9
 v9:=Tryz.zeroValue9
 t28:=Tryz.underlying256
 a28:=Tryz.isAgg256
 z28:=Tryz.sizeOf256
 v28:=Tryz.zeroValue256
 t46:=Tryz.underlying127
 a46:=Tryz.isAgg127
 z46:=Tryz.sizeOf127
 v46:=Tryz.zeroValue127
 t51:=Tryz.underlying155
 a51:=Tryz.isAgg155
 z51:=Tryz.sizeOf155
 v51:=Tryz.zeroValue155
 t53:=Tryz.underlying177
 a53:=Tryz.isAgg177
 z53:=Tryz.sizeOf177
 v53:=Tryz.zeroValue177
 t131:=Tryz.underlying188
 a131:=Tryz.isAgg188
 z131:=Tryz.sizeOf188
 v131:=Tryz.zeroValue188
 t182:=Tryz.underlying183
 a182:=Tryz.isAgg183
 z182:=Tryz.sizeOf183
 v182:=Tryz.zeroValue183
 t183:=Tryz.underlying184
 a183:=Tryz.isAgg184
 z183:=Tryz.sizeOf184
 v183:=Tryz.zeroValue184
 t218:=Tryz.underlying250
 a218:=Tryz.isAgg250
 z218:=Tryz.sizeOf250
 v218:=Tryz.zeroValue250
 t222:=Tryz.underlying254
 a222:=Tryz.isAgg254
 z222:=Tryz.sizeOf254
 v222:=Tryz.zeroValue254
 t228:=Tryz.underlying289
 a228:=Tryz.isAgg289
 z228:=Tryz.sizeOf289
 v228:=Tryz.zeroValue289
 t229:=Tryz.underlying290
 a229:=Tryz.isAgg290
 z229:=Tryz.sizeOf290
 v229:=Tryz.zeroValue290 }
end Go.Proofs
namespace Go.Proofs
open Go.Shelf Go.RowKit Go.Lib Go.Sort
def SpA:Type:={x:Int×Int // 0<=x.1/\x.1<=1000000}
instance:Inhabited SpA:=⟨⟨(0,0),by decide⟩⟩
def encSpA(x:SpA):List Value:=[.int .i64 x.1.1,.int .i64 x.1.2]
def cfSpA(x y:SpA):Int:=x.1.1-y.1.1
theorem Tryz.closure246(x y:SpA)(W:World):Calls Tryz.prog 246 #[.agg #[.int .i64 x.1.1,.int .i64 x.1.2],.agg #[.int .i64 y.1.1,.int .i64 y.1.2]] W fun e w'=>e=.returned (.int .i64 (cfSpA x y))/\∃q os',w'=grow (W.drewN q) os':=by
 obtain⟨⟨a,b⟩,h1,h2⟩:=x;obtain⟨⟨c,d⟩,h3,h4⟩:=y;dsimp only at h1 h2 h3 h4;have hw:IntKind.i64.wrap (a-c)=a-c:=by simp[IntKind.wrap,IntKind.bits,IntKind.signed];omega
 show Calls Tryz.prog 246 #[.agg #[.int .i64 a,.int .i64 b],.agg #[.int .i64 c,.int .i64 d]] W fun e w'=>e=.returned (.int .i64 (a-c))/\∃q os',w'=grow (W.drewN q) os'
 go_enter Tryz.func246,Tryz.ntmps246
 go_wp2
 go_ret
 exact⟨rfl,0,_,by rw[alloc_eq_grow,alloc_eq_grow,grow_grow];rfl⟩
def TmA:Type:=ByteArray×{v:Value // v.oneCell'=true}×{v:Value // v.oneCell'=true}
instance:Inhabited TmA:=⟨⟨ByteArray.empty,⟨.bool false,rfl⟩,⟨.bool false,rfl⟩⟩⟩
def encTmA(x:TmA):List Value:=[.string x.1,x.2.1.1,x.2.2.1]
def cfTmA(x y:TmA):Int:=Lib.compareBytes x.1.data.toList y.1.data.toList
theorem Tryz.closure313(x y:TmA)(W:World):Calls Tryz.prog 313 #[.agg #[.string x.1,x.2.1.1,x.2.2.1],.agg #[.string y.1,y.2.1.1,y.2.2.1]] W fun e w'=>e=.returned (.int .i64 (cfTmA x y))/\∃q os',w'=grow (W.drewN q) os':=by
 have hcon:=fun W'=>Any.strings_Compare Tryz.layCompare x.1 y.1 W';obtain⟨a,⟨b,hb⟩,⟨c,hc⟩⟩:=x;obtain⟨a',⟨b',oP⟩,⟨c',tD⟩⟩:=y;dsimp only at hcon
 change ∀W',Calls Tryz.prog 126 _ _ _ at hcon
 unfold cfTmA;dsimp only;generalize Lib.compareBytes a.data.toList a'.data.toList=r at hcon⊢
 go_enter Tryz.func313,Tryz.ntmps313
 go_wp2_with (go_at_call 126;refine(hcon _).mono ?_;rintro e w' ⟨rfl,rfl⟩)
 go_ret
 exact⟨rfl,0,_,by rw[alloc_eq_grow,alloc_eq_grow,grow_grow];rfl⟩
end Go.Proofs
namespace Go.Eng
open Go.Proofs
variable {caps:List AV}{fF:Nat}{α:Type}{i:Nat}(l:List (Int×Int))(x:Sl)(v:Ver)(t:Tm)(r:Rl)(m:List (Int×Int))(s:List Sl)
abbrev Dk(b:UInt8):List AV:=[.v (.int .u8 b.toNat)]
theorem VI (k : Nat) {fn : Func} {c : Code} (hf : Tryz.prog.funcs[k]? = some fn) (hn : (fn.name == "runtime.NumGoroutine") = false) (hb : fn.body = some c) : GI Tryz.prog k := gT hf hn hb
theorem pt:PC 100 [.agg (Jh v)] (.agg [vi v.a,vi v.b,vi v.c]):=by
 refine Ps DU Tryz.func100 rfl (Nz rfl) ?_;exact Yi (Nz rfl) (Yi (Nz rfl) (.refl _))
def part:Nat->Int
 |0=>v.a
 |1=>v.b
 |_=>v.c
theorem Xq{v:Ver}(h:¬okPart (part v i)):B3 v=false:=by
 unfold B3
 match i,h with
 |0,h=>have h:¬okPart v.a:=h;simp[h]
 |1,h=>have h:¬okPart v.b:=h;simp[h]
 |_+2,h=>have h:¬okPart v.c:=h;simp[h]
theorem gH:PC 94 [.agg (Jh v)] (vb (B3 v)):=by
 refine Ps DU Tryz.func94 rfl (Nz rfl) (Yi (Nz rfl) (Xi .pure (Xi _ (Yi (pt v) (Xi {i:Nat // i<=3/\∀j,j<i->okPart (part v j)} (Xi (fun i=>⟨[(6,.agg [vi v.a,vi v.b,vi v.c]),(7,vi i.1)],[],Ad⟩) (Xi (fun i=>3-i.1) (Yi (Xi ⟨0,by simp⟩ ?_) ?_))))))))
 .exact⟨Z2,Tv,Fh,Tv⟩
 .intro⟨i,h1,h2⟩;refine Yi ?_ ?_
  .intro h;have h:(i:Int)<3:=h;refine Yi ⟨by show(0:Int)<=i;omega,by show(i:Int)<3;omega⟩ ?_;have hp:Ls (([vi v.a,vi v.b,vi v.c]).drop ((i:Int).toNat*1))=fun K=>K (vi (part v i)):=by
    match i,h with
    |0,_=>rfl
    |1,_=>rfl
    |2,_=>rfl
    |_+3,h=>omega
   show Ls (([vi v.a,vi v.b,vi v.c]).drop ((i:Int).toNat*1)) _;rw[hp];refine Yi ?_ ?_
   .intro h3;rw[Xq (i:=i) (by unfold okPart;omega)];exact .refl _
   .intro h3;refine Yi ?_ ?_
    .intro h4;rw[Xq (i:=i) (by unfold okPart;omega)];exact .refl _
    .intro h4;refine Yi (Ii i ch) (Xi ⟨i+1,by omega,fun j hj=>?_⟩ ?_)
     .by_cases e:j=i
      .subst e;exact⟨by omega,by omega⟩
      .exact h2 j ch
     .exact⟨Dl 3 i ch,Z2,Tv,Fh,Tv⟩
  .intro h;have h:¬(i:Int)<3:=h;have e:i=3:=by omega
   have q:B3 v=true:=by
    unfold B3;have a:=h2 0 ch;have b:=h2 1 ch;have c:=h2 2 ch;simp only[part]at a b c;simp[a,b,c]
   rw[q];exact .refl _
theorem c56:PC 128 [.agg (Jh v)] (.tup [vi (if B3 v then place v else 0),vi (if B3 v then 0 else 2)]):=by
 refine Ps DU Tryz.func128 rfl (Nz rfl) (Yi (Nz rfl) (Xi .pure (Xi _ (Yi (gH v) ?_))));cases h:B3 v with
 |false=>exact .refl _
 |true=>
  have hv:=Fc h;refine Yi (by show A5 (1000*v.b);unfold A5;omega) ?_;exact Yi (by show A5 (1000*v.b+v.c);unfold A5;omega) (.refl _)
def DD(caps:List AV):Prop:=∀c∈caps,∀h,str0 h c=c
theorem DD.map{caps:List AV}(hs:DD caps)(h:Nat->HO):caps.map (str0 h)=caps:=by
 conv=>rhs;rw[<-MM caps]
 exact Ba fun c hc=>hs c hc h
theorem DD.ids(hs:DD caps)(h:Nat->HO):ar h caps=true:=by
 induction caps with
 |nil=>rfl
 |cons c r ih=>
  have hc:=hs c (Ab ..) Ad;have h0:ids0 h c=true:=by
   cases c with
   |slice tk es=>cases tk with |none=>rfl |full sz=>simp[str0]at hc |id r sz=>simp[str0]at hc |ver r sz v=>simp[str0]at hc
   |_=>first |rfl |(simp[str0,Ad]at hc)
  unfold ar;rw[h0];exact ih fun c hc=>hs c (Ae _ hc)
def IL{α:Type}(p:α->Bool):List α->Int->Int
 | [],_=>-1
 |x::r,i=>if p x then i else IL p r (i+1)
theorem Jk{α:Type}{p:α->Bool}:∀{l:List α} {i:Nat} {k:Int} (hi:i<l.length),(∀j (hj:j<l.length),j<i->p l[j]=false)->p l[i]=true->IL p l k=k+i
 |x::r,0,k,_,_,h=>by
  have h:p x=true:=h;simp[IL,h]
 |x::r,i+1,k,hi,hb,h=>by
  have h0:p x=false:=hb 0 B0 ch
  have:=Jk (l:=r) (i:=i) (k:=k+1) (by simpa using hi) (fun j hj Iu=>hb (j+1) (by simpa using hj) ch) (by simpa using h)
  simp only[IL,h0,CM,FZ,this];omega
theorem Gq{α:Type}{p:α->Bool}:∀{l:List α} {k:Int},(∀j (hj:j<l.length),p l[j]=false)->IL p l k=-1
 | [],_,_=>rfl
 |x::r,k,h=>by
  have h0:p x=false:=h 0 B0;simp only[IL,h0,CM,FZ];exact Gq fun j hj=>h (j+1) (by simpa using hj)
theorem IM{α:Type}{p:α->Bool}:∀(l:List α) (k:Int),0<=k->decide (0<=IL p l k)=l.any p
 | [],k,_=>by simp[IL]
 |x::r,k,hk=>by
  unfold IL;cases h:p x with
  |true=>simp[h,hk]
  |false=>simp[h,IM r (k+1) ch]
-- one for each type of elements
theorem c175(hs:DD caps)(l:List (Int×Int))(p:Int×Int->Bool)(hF:∀x∈l,PC fF ([.agg (AC x)]++caps) (vb (p x)))(hl:l.length<9223372036854775807) :
  PC 250 [sl AC l,.clo fF caps] (vi (IL p l 0)):=by
 refine Ps DU Tryz.func250 rfl (Nz rfl) (Xi {i:Nat // i<=l.length/\∀j (hj:j<l.length),j<i->p l[j]=false} (Xi (fun i=>⟨[(0,sl AC l),(1,.clo fF caps),(7,vi (l.map AC).length),(8,vi i.1)],[],Ad⟩) (Xi (fun i=>l.length-i.1) (Yi (Xi ⟨0,by simp⟩ ?_) ?_))))
 .exact⟨⟨Zr,⟨rfl,hs.ids _⟩,Zr,Zr,Tv⟩,Tv,Fh,Tv⟩
 .intro⟨i,h1,h2⟩;refine Yi ?_ ?_
  .intro h;have h:i<l.length:=by simpa using h
   have hg:l[i]?=some l[i]:=Ge h;refine Xi (AC l[i]) (Yi (Yi (Nn i) (by simp[hg])) (Yi rfl (yN ?_)));have CQ:∀h,PC fF ([.agg (AC l[i])]++caps.map (str0 h)) (vb (p l[i])):=fun h=>by rw[hs.map];exact hF l[i] (Aq _)
   cases hp:p l[i]with
   |true=>
    rw[hp]at CQ;refine Xi .pure (Xi (vb true) (Yi (CQ _) ?_));rw[Jk h (fun j hj Iu=>h2 j hj Iu) hp,EU];exact .refl _
   |false=>
    rw[hp]at CQ;refine Xi .pure (Xi (vb false) (Yi (CQ _) (Yi (Ii i ch) (Xi ⟨i+1,by omega,fun j hj Iu=>?_⟩ ?_))))
    .by_cases e:j=i
     .subst e;exact hp
     .exact h2 j hj ch
    .exact⟨Dl l.length i ch,⟨Zr,⟨rfl,hs.ids _⟩,Zr,Zr,Tv⟩,Tv,Fh,Tv⟩
  .intro h;have h:¬i<l.length:=by simpa using h
   rw[Gq fun j hj=>h2 j hj ch];exact .refl _
abbrev Cw(l:List α):Prop:=l.length<=1073741824
theorem Fj{α:Type}{enc:α->List AV}{n:Nat}(h:∀x,(enc x).length=n):∀l:List α,CR n (l.map enc)
 | []=>trivial
 |x::l=>⟨h x,Fj h l⟩
theorem SX{x y:Int×Int}:pO (AC x) (AC y)↔x=y:=by
 constructor
 .intro h;exact Prod.ext h.1 h.2.1
 .rintro rfl;exact⟨rfl,rfl,trivial⟩
theorem rK{x y:Sl}:pO (Ao x) (Ao y)↔x=y:=by
 obtain⟨p,a,b,c⟩:=x;obtain⟨q,d,e,f⟩:=y;constructor
 .intro h;obtain⟨rfl,rfl,rfl,rfl,_⟩:=h
  rfl
 .intro h;cases h;exact⟨rfl,rfl,rfl,rfl,trivial⟩
abbrev CG(l:List Tm):List AV:=[sl AO l]
abbrev BJ(s:ByteArray):List AV:=[vs s]
theorem c78(hs:DD caps)(l:List (Sl))(p:Sl->Bool)(hF:∀x∈l,PC fF ([.agg (Ao x)]++caps) (vb (p x)))(hl:l.length<9223372036854775807) :
  PC 151 [sl Ao l,.clo fF caps] (vi (IL p l 0)):=by
 refine F2 (dY DU) rfl Cu hm rfl Tryz.func151 aa0 rfl (Nz rfl) aa0 (Xi {i:Nat // i<=l.length/\∀j (hj:j<l.length),j<i->p l[j]=false} (Xi (fun i=>⟨[(0,sl Ao l),(1,.clo fF caps),(7,vi (l.map Ao).length),(8,vi i.1)],[],Ad⟩) (Xi (fun i=>l.length-i.1) (Yi (Xi ⟨0,by simp⟩ ?_) ?_))))
 .exact⟨⟨Zr,⟨rfl,hs.ids _⟩,Zr,Zr,Tv⟩,Tv,Fh,Tv⟩
 .intro⟨i,h1,h2⟩;refine Yi ?_ ?_
  .intro h;have h:i<l.length:=by simpa using h
   have hg:l[i]?=some l[i]:=Ge h;refine Xi (Ao l[i]) (Yi (Yi (by show(0:Int)<=i;omega) (by simp[hg])) (Yi rfl (yN ?_)));have CQ:∀h,PC fF ([.agg (Ao l[i])]++caps.map (str0 h)) (vb (p l[i])):=fun h=>by rw[hs.map];exact hF l[i] (Aq _)
   cases hp:p l[i]with
   |true=>
    rw[hp]at CQ;refine Xi .pure (Xi (vb true) (Yi (CQ _) ?_));rw[Jk h (fun j hj Iu=>h2 j hj Iu) hp,EU];exact .refl _
   |false=>
    rw[hp]at CQ;refine Xi .pure (Xi (vb false) (Yi (CQ _) (Yi (Ii i ch) (Xi ⟨i+1,by omega,fun j hj Iu=>?_⟩ ?_))))
    .by_cases e:j=i
     .subst e;exact hp
     .exact h2 j hj ch
    .exact⟨Dl l.length i ch,⟨Zr,⟨rfl,hs.ids _⟩,Zr,Zr,Tv⟩,Tv,Fh,Tv⟩
  .intro h;have h:¬i<l.length:=by simpa using h
   rw[Gq fun j hj=>h2 j hj ch];exact .refl _
theorem pv(hs:DD caps)(l:List (Tm))(p:Tm->Bool)(hF:∀x∈l,PC fF ([.agg (AO x)]++caps) (vb (p x)))(hl:l.length<9223372036854775807) :
  PC 279 [sl AO l,.clo fF caps] (vi (IL p l 0)):=by
 refine F2 (dY DU) rfl Cu hm rfl Tryz.func279 aa0 rfl (Nz rfl) aa0 (Xi {i:Nat // i<=l.length/\∀j (hj:j<l.length),j<i->p l[j]=false} (Xi (fun i=>⟨[(0,sl AO l),(1,.clo fF caps),(7,vi (l.map AO).length),(8,vi i.1)],[],Ad⟩) (Xi (fun i=>l.length-i.1) (Yi (Xi ⟨0,by simp⟩ ?_) ?_))))
 .exact⟨⟨Zr,⟨rfl,hs.ids _⟩,Zr,Zr,Tv⟩,Tv,Fh,Tv⟩
 .intro⟨i,h1,h2⟩;refine Yi ?_ ?_
  .intro h;have h:i<l.length:=by simpa using h
   have hg:l[i]?=some l[i]:=Ge h;refine Xi (AO l[i]) (Yi (Yi (by show(0:Int)<=i;omega) (by simp[hg])) (Yi rfl (yN ?_)));have CQ:∀h,PC fF ([.agg (AO l[i])]++caps.map (str0 h)) (vb (p l[i])):=fun h=>by rw[hs.map];exact hF l[i] (Aq _)
   cases hp:p l[i]with
   |true=>
    rw[hp]at CQ;refine Xi .pure (Xi (vb true) (Yi (CQ _) ?_));rw[Jk h (fun j hj Iu=>h2 j hj Iu) hp,EU];exact .refl _
   |false=>
    rw[hp]at CQ;refine Xi .pure (Xi (vb false) (Yi (CQ _) (Yi (Ii i ch) (Xi ⟨i+1,by omega,fun j hj Iu=>?_⟩ ?_))))
    .by_cases e:j=i
     .subst e;exact hp
     .exact h2 j hj ch
    .exact⟨Dl l.length i ch,⟨Zr,⟨rfl,hs.ids _⟩,Zr,Zr,Tv⟩,Tv,Fh,Tv⟩
  .intro h;have h:¬i<l.length:=by simpa using h
   rw[Gq fun j hj=>h2 j hj ch];exact .refl _
theorem Aan(hs:DD caps)(l:List (Int×Int))(p:Int×Int->Bool)(hF:∀x∈l,PC fF ([.agg (AC x)]++caps) (vb (p x)))(hl:Cw l) :
  PC 194 [sl AC l,.clo fF caps] (vb (l.any p)):=by
 refine F2 (dY DU) rfl Cu hm rfl Tryz.func194 aa0 rfl (Nz rfl) aa0 ?_;have hi:=c175 hs l p hF (by unfold Cw at hl;omega);have CQ:∀h,PC 250 [sl AC l,.clo fF (caps.map (str0 h))] (vi (IL p l 0)):=fun h=>by rw[hs.map];exact hi
 refine Xi .pure (Xi _ (Yi (CQ _) ?_));have ha:=IM (p:=p) l 0 (By 0);refine Yi ?_ ?_
 .intro h;rw[<-ha,Ap h];exact .refl _
 .intro h;rw[<-ha,Am h];exact .refl _
theorem c51(hs:DD caps)(l:List (Sl))(p:Sl->Bool)(hF:∀x∈l,PC fF ([.agg (Ao x)]++caps) (vb (p x)))(hl:Cw l) :
  PC 91 [sl Ao l,.clo fF caps] (vb (l.any p)):=by
 refine F2 (dY DU) rfl Cu hm rfl Tryz.func91 aa0 rfl (Nz rfl) aa0 ?_;have hi:=c78 hs l p hF (by unfold Cw at hl;omega);have CQ:∀h,PC 151 [sl Ao l,.clo fF (caps.map (str0 h))] (vi (IL p l 0)):=fun h=>by rw[hs.map];exact hi
 refine Xi .pure (Xi _ (Yi (CQ _) ?_));have ha:=IM (p:=p) l 0 (By 0);refine Yi ?_ ?_
 .intro h;rw[<-ha,Ap h];exact .refl _
 .intro h;rw[<-ha,Am h];exact .refl _
theorem sW(hs:DD caps)(l:List (Tm))(p:Tm->Bool)(hF:∀x∈l,PC fF ([.agg (AO x)]++caps) (vb (p x)))(hl:Cw l) :
  PC 231 [sl AO l,.clo fF caps] (vb (l.any p)):=by
 refine F2 (dY DU) rfl Cu hm rfl Tryz.func231 aa0 rfl (Nz rfl) aa0 ?_;have hi:=pv hs l p hF (by unfold Cw at hl;omega);have CQ:∀h,PC 279 [sl AO l,.clo fF (caps.map (str0 h))] (vi (IL p l 0)):=fun h=>by rw[hs.map];exact hi
 refine Xi .pure (Xi _ (Yi (CQ _) ?_));have ha:=IM (p:=p) l 0 (By 0);refine Yi ?_ ?_
 .intro h;rw[<-ha,Ap h];exact .refl _
 .intro h;rw[<-ha,Am h];exact .refl _
theorem Aaq(hl:Cw l):PC 142 [sl AC l] (sl AC l):=by
 refine F2 (dY DU) rfl Cu hm rfl Tryz.func142 aa0 rfl (Nz rfl) aa0 ?_;have GA:CR 2 (l.map AC)/\([]:List (List AV)).length=0/\(([]:List (List AV)).length+(l.map AC).length)*16<=140737488355328/\([]:List (List AV)).length+(l.map AC).length<=9223372036854775807:=by
  refine⟨Fj (enc:=AC) (n:=2) (fun _=>rfl) l,rfl,?_,?_⟩<;>simp only[Ax,Lm]<;>unfold Cw at hl<;>omega
 refine Yi ?_ ?_
 .intro _;exact Yi GA (.refl _)
 .intro h;refine Yi ?_ ?_
  .show EY nzA (.slice .none (l.map AC));rw[h];exact .nil
  .exact Yi GA (.refl _)
theorem c32(l:List (Sl))(hl:Cw l):PC 89 [sl Ao l] (sl Ao l):=by
 refine F2 (dY DU) rfl Cu hm rfl Tryz.func89 aa0 rfl (Nz rfl) aa0 ?_;have GA:CR 4 (l.map Ao)/\([]:List (List AV)).length=0/\(([]:List (List AV)).length+(l.map Ao).length)*40<=140737488355328/\([]:List (List AV)).length+(l.map Ao).length<=9223372036854775807:=by
  refine⟨Fj (enc:=Ao) (n:=4) (fun _=>rfl) l,rfl,?_,?_⟩<;>simp only[Ax,Lm]<;>unfold Cw at hl<;>omega
 refine Yi ?_ ?_
 .intro _;exact Yi GA (.refl _)
 .intro h;refine Yi ?_ ?_
  .show EY nzA (.slice .none (l.map Ao));rw[h];exact .nil
  .exact Yi GA (.refl _)
theorem wM(hl:Cw l):PC 244 [sl AC l,sl AC m] (vb (decide (l=m))):=by
 refine F2 (dY DU) rfl Cu hm rfl Tryz.func244 aa0 rfl (Nz rfl) aa0 (Yi ?_ ?_)
 .intro h
  have:l≠m:=fun e=>h (by rw[e])
  rw[Am this];exact .refl _
 .intro h;have Ca:l.length=m.length:=by simp at h;omega
  refine Xi {i:Nat // i<=l.length/\l.take i=m.take i} (Xi (fun i=>⟨[(0,sl AC l),(1,sl AC m),(12,vi (l.map AC).length),(13,vi i.1)],[],Ad⟩) (Xi (fun i=>l.length-i.1) (Yi (Xi ⟨0,by simp⟩ ?_) ?_)))
  .exact⟨⟨Zr,Zr,Zr,Zr,Tv⟩,Tv,Fh,Tv⟩
  .intro⟨i,h1,h2⟩;refine Yi ?_ ?_
   .intro h;have h:i<l.length:=by simpa using h
    have h' : i<m.length:=by omega
    have hg:l[i]?=some l[i]:=Ge h;have VK : m[i]?=some m[i]:=Ge h';refine Xi (AC l[i]) (Yi (Yi (by show(0:Int)<=i;omega) (by simp[hg])) (Yi rfl (yN ?_)));refine Xi (AC m[i]) (Yi (Yi (by show(0:Int)<=i;omega) (by simp[VK])) (Yi rfl (yN ?_)));refine Yi ?_ ?_
    .intro h5;have e:l[i]=m[i]:=SX.1 h5;refine Yi aa0 (Yi (by show A5 ((i:Int)+1);unfold Cw at hl;unfold A5;omega) (Xi ⟨i+1,by omega,?_⟩ ?_))
     .rw[AZ,AZ,h2,hg,VK,e]
     .exact⟨Dl l.length i ch,⟨Zr,Zr,Zr,Zr,Tv⟩,Tv,Fh,Tv⟩
    .intro h5;refine Yi aa0 ?_
     have:l≠m:=fun e=>h5 (SX.2 (by subst e;rfl))
     rw[Am this];exact .refl _
   .intro h;have h:¬i<l.length:=by simpa using h
    have e:l=m:=by
     rw[<-AB (l:=l) (i:=i) ch,h2,AB ch]
    rw[Ap e];exact .refl _
theorem c27(l m:List (Sl))(hl:Cw l):PC 23 [sl Ao l,sl Ao m] (vb (decide (l=m))):=by
 refine F2 (dY DU) rfl Cu hm rfl Tryz.func23 aa0 rfl (Nz rfl) aa0 (Yi ?_ ?_)
 .intro h
  have:l≠m:=fun e=>h (by rw[e])
  rw[Am this];exact .refl _
 .intro h;have Ca:l.length=m.length:=by simp at h;omega
  refine Xi {i:Nat // i<=l.length/\l.take i=m.take i} (Xi (fun i=>⟨[(0,sl Ao l),(1,sl Ao m),(12,vi (l.map Ao).length),(13,vi i.1)],[],Ad⟩) (Xi (fun i=>l.length-i.1) (Yi (Xi ⟨0,by simp⟩ ?_) ?_)))
  .exact⟨⟨Zr,Zr,Zr,Zr,Tv⟩,Tv,Fh,Tv⟩
  .intro⟨i,h1,h2⟩;refine Yi ?_ ?_
   .intro h;have h:i<l.length:=by simpa using h
    have h' : i<m.length:=by omega
    have hg:l[i]?=some l[i]:=Ge h;have VK : m[i]?=some m[i]:=Ge h';refine Xi (Ao l[i]) (Yi (Yi (by show(0:Int)<=i;omega) (by simp[hg])) (Yi rfl (yN ?_)));refine Xi (Ao m[i]) (Yi (Yi (by show(0:Int)<=i;omega) (by simp[VK])) (Yi rfl (yN ?_)));refine Yi ?_ ?_
    .intro h5;have e:l[i]=m[i]:=rK.1 h5;refine Yi aa0 (Yi (by show A5 ((i:Int)+1);unfold Cw at hl;unfold A5;omega) (Xi ⟨i+1,by omega,?_⟩ ?_))
     .rw[AZ,AZ,h2,hg,VK,e]
     .exact⟨Dl l.length i ch,⟨Zr,Zr,Zr,Zr,Tv⟩,Tv,Fh,Tv⟩
    .intro h5;refine Yi aa0 ?_
     have:l≠m:=fun e=>h5 (rK.2 (by subst e;rfl))
     rw[Am this];exact .refl _
   .intro h;have h:¬i<l.length:=by simpa using h
    have e:l=m:=by
     rw[<-AB (l:=l) (i:=i) ch,h2,AB ch]
    rw[Ap e];exact .refl _
abbrev o0(l:List Nat):Qn:=⟨l,[],[],[],[],[],[],[],[],[],[]⟩
theorem DD.ptr(cs:List AV):DD [.cptr cs]:=fun c hc h=>by
 rw[Aj.1 hc];rfl
theorem c127(s:Int×Int)(p:Int):PC 195 [.agg (AC s),.cptr [vi p]] (vb (BN p s)):=by
 refine Ps DU Tryz.func195 rfl (Nz rfl) (Yi ?_ ?_)
 .intro h;refine Yi ?_ ?_
  .intro h2;rw[show BN p s=true by simp[BN,h,h2]];exact .refl _
  .intro h2;rw[show BN p s=false by simp[BN,h2]];exact .refl _
 .intro h;rw[show BN p s=false by simp[BN,h]];exact .refl _
theorem td(s:List (Int×Int))(p:Int)(hl:Cw s):PC 136 [sl AC s,vi p] (vb (has s p)):=by
 refine Ps (o0 [3]) Tryz.func136 rfl (Nz rfl) (Yi ?_ ?_)
 .intro h;refine Yi ?_ ?_
  .intro h2;refine Xi .pure (Xi _ (Yi (Aan (DD.ptr [vi p]) s (BN p) (fun x _=>c127 x p) hl) ?_));rw[show has s p=s.any (BN p) by simp[has,h,h2]];cases s.any (BN p)<;>exact .refl _
  .intro h2;rw[show has s p=false by simp[has,h2]];exact .refl _
 .intro h;rw[show has s p=false by simp[has,h]];exact .refl _
theorem c88:PC 190 [.agg (BS r)] (vi (plc r.ver)):=by
 refine Ps DU Tryz.func190 rfl (Nz rfl) ?_;exact Yi (Nz rfl) (Xi .pure (Xi _ (Yi (c56 r.ver) (.refl _))))
theorem c99:PC 329 [.agg (Ao x),.cptr (AO t)] (vb (decide (x.path=t.path))):=by
 refine Ps DU Tryz.func329 rfl (Nz rfl) (Yi ?_ ?_)
 .intro h;rw[Ap h];exact .refl _
 .intro h;rw[Am h];exact .refl _
theorem PK{α:Type}{p:α->Bool}:∀(l:List α) (k:Int),(IL p l k=-1/\l.find? p=none)\/∃i x,IL p l k=k+(i:Nat)/\l[i]?=some x/\l.find? p=some x
 | [],k=>.inl Zr
 |x::r,k=>by
  cases h:p x with
  |true=>exact .inr ⟨0,x,by simp[IL,h],rfl,by simp[h]⟩
  |false=>
   rcases PK (p:=p) r (k+1)with ⟨h1,h2⟩ | ⟨i,y,h1,h2,h3⟩
   .exact .inl ⟨by simp[IL,h,h1],by simp[h,h2]⟩
   .exact .inr ⟨i+1,y,by simp only[IL,h,CM,FZ,h1];omega,by simpa using h2,by simp[h,h3]⟩
theorem c55(hl:Cw s)(ht:Cw t.set):PC 302 [.agg (AO t),sl Ao s] (vb (GB t s)):=by
 have hc:=c78 (DD.ptr (AO t)) s (fun x=>decide (x.path=t.path)) (fun x _=>c99 x t) (by unfold Cw at hl;omega);unfold GB;rcases PK (p:=fun x:Sl=>decide (x.path=t.path)) s 0 with ⟨h1,h2⟩ | ⟨i,x,h1,h2,h3⟩
 .rw[h1]at hc;rw[h2];refine Ps (o0 [2]) Tryz.func302 rfl (Nz rfl) (Xi .pure (Xi _ (Yi hc (Yi ?_ ?_))))
  .intro _;refine Yi ?_ ?_
   .intro h;rw[h];exact .refl _
   .intro h;rw[h];exact .refl _
  .intro h;exact absurd (show(-1:Int)<0 by decide) h
 .rw[h1,EU]at hc;rw[h3];have hg:(s.map Ao)[((i:Nat):Int).toNat]?=some (Ao x):=by rw[BE,Aw,h2];rfl
  have hp:=c56 x.ver;dsimp only;rcases Bt (B3 x.ver)with hv | hv
  .rw[hv,As rfl,As rfl]at hp;rw[hv];refine Ps (o0 [2]) Tryz.func302 rfl (Nz rfl) (Xi .pure (Xi _ (Yi hc (Yi ?_ ?_))))
   .intro h;omega
   .intro _;refine Xi (Ao x) (Yi (Yi (Nn i) hg) (Yi rfl (yN (Xi .pure (Xi _ (Yi hp (Yi ?_ ?_)))))))
    .intro _;refine Xi .pure (Xi _ (Yi (td t.set (place x.ver) ht) ?_));exact .refl _
    .intro h;exact absurd rfl h
  .rw[hv,Ah Cl,Ah Cl]at hp;rw[hv];refine Ps (o0 [2]) Tryz.func302 rfl (Nz rfl) (Xi .pure (Xi _ (Yi hc (Yi ?_ ?_))))
   .intro h;omega
   .intro _;refine Xi (Ao x) (Yi (Yi (Nn i) hg) (Yi rfl (yN (Xi .pure (Xi _ (Yi hp (Yi ?_ ?_)))))))
    .intro h;omega
    .intro _;exact .refl _
theorem pd{p:α->Bool}{l:List α}(h:∀j (hj:j<l.length),j<i->p l[j]=true)(hi:¬i<l.length):l.all p=true:=by
 rw[AP];intro x hx;obtain⟨j,hj,rfl⟩:=B1.1 hx;exact h j hj ch
theorem sD{p:α->Bool}{l:List α}(hi:i<l.length)(h:p l[i]=false):l.all p=false:=by
 rw[List.all_eq_false];exact⟨l[i],Aq hi,by simp[h]⟩
abbrev kw(l:List Tm):Prop:=Cw l/\∀t∈l,Cw t.set
theorem c26(l:List Tm)(s:List Sl)(hl:kw l)(hs:Cw s):PC 276 [sl AO l,sl Ao s] (vb (l.all fun t=>GB t s)):=by
 have hc:∀i (h:i<l.length),PC 302 [.agg (AO l[i]),sl Ao s] (vb (GB l[i] s)):=fun i h=>c55 l[i] s hs (hl.2 _ (Aq h));obtain⟨hl,_⟩:=hl;unfold Cw at hl;refine Ps DU Tryz.func276 rfl (Nz rfl) (Xi {i:Nat // i<=l.length/\∀j (hj:j<l.length),j<i->GB l[j] s=true} (Xi (fun i=>⟨[(0,sl AO l),(1,sl Ao s),(7,vi (l.map AO).length),(8,vi i.1)],[],Ad⟩) (Xi (fun i=>l.length-i.1) (Yi (Xi ⟨0,by simp⟩ ?_) ?_))))
 .exact⟨Z4,Tv,Fh,Tv⟩
 .intro⟨i,h1,h2⟩;refine Yi ?_ ?_
  .intro h;have h:i<l.length:=by simpa using h
   have hg:l[i]?=some l[i]:=Ge h;have p8:=hc i h;refine Xi (AO l[i]) (Yi (Yi (Nn i) (by simp[hg])) (Yi rfl (yN ?_)));cases hp:GB l[i] s with
   |false=>
    rw[hp]at p8;refine Xi .pure (Xi _ (Yi p8 ?_));rw[sD (p:=fun t=>GB t s) h hp];exact .refl _
   |true=>
    rw[hp]at p8;refine Xi .pure (Xi _ (Yi p8 (Yi (Ii i ch) (Xi ⟨i+1,by omega,fun j hj Iu=>?_⟩ ?_))))
    .by_cases e:j=i
     .subst e;exact hp
     .exact h2 j hj ch
    .exact⟨Dl l.length i ch,Z4,Tv,Fh,Tv⟩
  .intro h;have h:¬i<l.length:=by simpa using h
   rw[pd (p:=fun t=>GB t s) h2 h];exact .refl _
theorem Aap:PC 278 [.agg (Ao x),.cptr (AO t)] (vb (decide (x.path=t.path))):=by
 refine Ps DU Tryz.func278 rfl (Nz rfl) (Yi ?_ ?_)
 .intro h;rw[Ap h];exact .refl _
 .intro h;rw[Am h];exact .refl _
theorem Aao(hs:Cw s):PC 277 [.agg (AO t),.cptr [sl Ao s]] (vb (!CO s t.path)):=by
 have hc:=c51 (DD.ptr (AO t)) s (fun x=>decide (x.path=t.path)) (fun x _=>Aap x t) hs;unfold CO;cases hp:s.any fun x=>decide (x.path=t.path)with
 |true=>
  rw[hp]at hc;refine Ps (o0 [2]) Tryz.func277 rfl (Nz rfl) ?_;exact Xi .pure (Xi _ (Yi hc (.refl _)))
 |false=>
  rw[hp]at hc;refine Ps (o0 [2]) Tryz.func277 rfl (Nz rfl) ?_;exact Xi .pure (Xi _ (Yi hc (.refl _)))
theorem c91(l:List Tm)(s:List Sl)(hl:kw l)(hs:Cw s):PC 230 [sl AO l,sl Ao s] (vb (CY l s)):=by
 have hv:=c26 l s hl hs;have hc:=sW (DD.ptr [sl Ao s]) l (fun t=>!CO s t.path) (fun t _=>Aao t s hs) hl.1;unfold CY Bf;cases h1:l.all fun t=>GB t s with
 |false=>
  rw[h1]at hv;refine Ps (o0 [3]) Tryz.func230 rfl (Nz rfl) ?_;exact Xi .pure (Xi _ (Yi hv (.refl _)))
 |true=>
  rw[h1]at hv;cases h2:l.any fun t=>!CO s t.path with
  |true=>
   rw[h2]at hc;refine Ps (o0 [3]) Tryz.func230 rfl (Nz rfl) ?_;exact Xi .pure (Xi _ (Yi hv (Xi .pure (Xi _ (Yi hc (.refl _))))))
  |false=>
   rw[h2]at hc;refine Ps (o0 [3]) Tryz.func230 rfl (Nz rfl) ?_;exact Xi .pure (Xi _ (Yi hv (Xi .pure (Xi _ (Yi hc (.refl _))))))
theorem sZ(n:Int):PC 157 [vi n] (vb (decide (okPart n))):=by
 refine Ps DU Tryz.func157 rfl (Nz rfl) (Yi ?_ ?_)
 .intro h;refine Yi ?_ ?_
  .intro h2;show EY (vb true) (vb (decide (okPart n)));rw[Ap ⟨h,h2⟩];exact .refl _
  .intro h2;show EY (vb false) (vb (decide (okPart n)));rw[Am fun q=>h2 q.2];exact .refl _
 .intro h;show EY (vb false) (vb (decide (okPart n)));rw[Am fun q=>h q.1];exact .refl _
theorem c168:PC 96 [.agg (Jh v)] (vb (B3 v)):=by
 have ha:=sZ v.a;have hb:=sZ v.b;have hc:=sZ v.c;unfold B3;cases h1:decide (okPart v.a)with
 |false=>
  rw[h1]at ha;refine Ps DU Tryz.func96 rfl (Nz rfl) ?_;exact Xi .pure (Xi _ (Yi ha (.refl _)))
 |true=>
  rw[h1]at ha;cases h2:decide (okPart v.b)with
  |false=>
   rw[h2]at hb;refine Ps DU Tryz.func96 rfl (Nz rfl) ?_;exact Xi .pure (Xi _ (Yi ha (Xi .pure (Xi _ (Yi hb (.refl _))))))
  |true=>
   rw[h2]at hb;refine Ps DU Tryz.func96 rfl (Nz rfl) ?_;exact Xi .pure (Xi _ (Yi ha (Xi .pure (Xi _ (Yi hb (Xi .pure (Xi _ (Yi hc (.refl _)))))))))
abbrev TV(a:An):List AV:=[vb a.found,sl Ao a.sel,sl CX a.infs,sl Cy a.skips]
theorem sV:PC 80 [.agg (BS r)] (.agg (Ao ⟨r.path,r.ver⟩)):=by
 refine Ps DU Tryz.func80 rfl (Nz rfl) ?_;exact Yi (Nz rfl) (Yi (Nz rfl) (Yi (Nz rfl) (.refl _)))
theorem c75(hl:Cw l):PC 158 [sl AC l,sl AC m] (vb (decide (l=m))):=by
 refine Ps DU Tryz.func158 rfl (Nz rfl) (Yi ?_ ?_)
 .intro h
  have:l≠m:=fun e=>h (by rw[e])
  rw[Am this];exact .refl _
 .intro h;have Ca:l.length=m.length:=by simp at h;omega
  refine Xi {i:Nat // i<=l.length/\l.take i=m.take i} (Xi (fun i=>⟨[(0,sl AC l),(1,sl AC m),(5,vi i.1)],[],Ad⟩) (Xi (fun i=>l.length-i.1) (Yi (Xi ⟨0,by simp⟩ ?_) ?_)))
  .exact⟨Z3,Tv,Fh,Tv⟩
  .intro⟨i,h1,h2⟩;refine Yi ?_ ?_
   .intro h;have h:i<l.length:=by simpa using h
    have h' : i<m.length:=by omega
    have hg:l[i]?=some l[i]:=Ge h;have VK : m[i]?=some m[i]:=Ge h';refine Xi (AC l[i]) (Yi (Yi (Nn i) (by simp[hg])) (Yi rfl (yN ?_)));refine Xi (AC m[i]) (Yi (Yi (Nn i) (by simp[VK])) (Yi rfl (yN ?_)));refine Yi ?_ ?_
    .intro h5;have e:l[i]=m[i]:=SX.1 h5;refine Yi aa0 (Yi (by show A5 ((i:Int)+1);unfold Cw at hl;unfold A5;omega) (Xi ⟨i+1,by omega,?_⟩ ?_))
     .rw[AZ,AZ,h2,hg,VK,e]
     .exact⟨Dl l.length i ch,Z3,Tv,Fh,Tv⟩
    .intro h5;refine Yi aa0 ?_
     have:l≠m:=fun e=>h5 (SX.2 (by subst e;rfl))
     rw[Am this];exact .refl _
   .intro h;have h:¬i<l.length:=by simpa using h
    have e:l=m:=by
     rw[<-AB (l:=l) (i:=i) ch,h2,AB ch]
    rw[Ap e];exact .refl _
end Go.Eng
namespace Go.Eng
open Go.Proofs Go.Shelf Go.RowKit Go.Lib Go.Sort
theorem eY(x y:SpA):ltOf cfSpA x y=decide (x.1.1<y.1.1):=by
 unfold ltOf cfSpA;rw[BV];simp only[Au];omega
theorem od:SWO (ltOf cfSpA) where
 irrefl x:=by rw[eY];simp
 trans x y z h1 h2:=by rw[eY]at *;simp at *;omega
 ntrans x y z h1 h2:=by rw[eY]at *;simp at *;omega
theorem UB:∀x y:List UInt8,decide (Lib.compareBytes x y<0)=KU x y
 | [],[]=>rfl
 | [],_::_=>rfl
 |_::_,[]=>rfl
 |a::x,b::y=>by
  unfold Lib.compareBytes KU
  by_cases h:a<b
  .simp[h]
  .by_cases h2:b<a
   .have:¬a=b:=fun e=>by subst e;exact absurd h2 (UInt8.lt_irrefl a)
    simp[h,h2,this]
   .have e:a=b:=UInt8.le_antisymm (UInt8.not_lt.1 h2) (UInt8.not_lt.1 h);subst e;simp[UInt8.lt_irrefl,UB x y]
theorem eZ(x y:TmA):ltOf cfTmA x y=FQ x.1 y.1:=UB _ _
theorem oe:SWO (ltOf cfTmA) where
 irrefl x:=by rw[eZ];exact Dn _
 trans x y z h1 h2:=by rw[eZ]at *;exact Fe h1 h2
 ntrans x y z h1 h2:=by
  rw[eZ]at *
  rw[AH];intro h;cases vS:FQ y.1 x.1 with
  |true=>have:=Fe vS h;rw[h2]at this;cases this
  |false=>
   have e:=Kp h1 vS;rw[e]at h;rw[h2]at h;cases h
abbrev YY(k:Nat):Value:=.func (.func k) #[] #[]
theorem Aax(l:List (Int×Int))(hl:Cw l)(h:∀x∈l,0<=x.1/\x.1<=1000000)(lim:Nat)(ab:lim<100) :
  Bb Tryz.prog 287 [.msl 1000 l.length,vi 0,vi l.length,vi lim,.v (YY 246)] (Ag [(1000,.arr 2 (l.map AC))] Ad) fun r h'=>
   r=.tup []/\∃l' : List (Int×Int),l'.Perm l/\l'.Pairwise (fun x y=>x.1<=y.1)/\h'=Ag [(1000,.arr 2 (l'.map AC))] Ad:=by
 have hl:l.length<=1073741824:=hl;have hE:GI Tryz.prog 287:=VI 287 Tryz.func287 aa0 rfl;have eg:∀args w,(callFunc 246 args).run Tryz.prog w=.ok (.enter 246 args) w:=enters_of Tryz.func246 aa0 rfl;have Kw:=JQ (P:=Tryz.prog) (f:=287) (α:=SpA) (rest:=[.int .i64 0,.int .i64 l.length,.int .i64 lim,YY 246]) hE AC encSpA (k:=2) (fun _=>rfl) (fun _=>rfl) (ltOf cfSpA) (fun x a=>a.1=x) l ch ?_ ?_ ?_
 .refine⟨hE,fun g w vals q1 q2 q3=>(Kw.2 g w vals q1 q2 q3).mono fun _ _ ⟨v,r,h',g',e1,⟨e2,l',p1,⟨al,a1,a2,a3⟩,p2⟩,rest⟩=>⟨v,r,h',g',e1,⟨e2,l',p1,?_,p2⟩,rest⟩⟩;rw[A8]at a3⊢;intro i j hi hj QM
  have:=a3 i j ch ch QM
  rw[eY]at this;have e1:=a2 i _ _ (At hi) (At ch);have e2:=a2 j _ _ (At hj) (At ch);rw[<-e1,<-e2]
  have:=of_decide_eq_false this
  omega
 .intro x hx g w vs hr
  match vs,hr with
  | [a,b],hr=>
   have h1:=(hr.2.2 0 (vi x.1) a rfl rfl).v_eq;have h2:=(hr.2.2 1 (vi x.2) b rfl rfl).v_eq;subst h1;subst h2;exact⟨⟨x,h x hx⟩,rfl,rfl⟩
  | [],hr=>have:=hr.1;simp at this
  | [_],hr=>have:=hr.1;simp at this
  |_::_::_::_,hr=>have:=hr.1;simp at this
 .intro w b cap d hH hb D5 hdl;have me:CmpLays Tryz.prog 246 #[] encSpA 2 cfSpA b 0 d.size w:=fun _ _ _ _ x y=>Tryz.closure246 x y _;have hp:=AnyQ.pdqsortCmpFunc_all Tryz.layPdqSpan 2 Tryz.isAgg226 Tryz.sizeOf226 encSpA cfSpA 246 #[] od b 0 cap d w eg me ⟨fun _=>rfl,fun x v hv=>by simp[encSpA]at hv;rcases hv with rfl | rfl<;>rfl,hH,hb⟩ (d.size+1) 0 d.size lim d w ch rfl (SWK.start hH) (AE _) (Ai _) D5 ch (Or.inl rfl)
  rw[hdl]at hp⊢;refine hp.mono ?_
  rintro e w' ⟨rfl,n,os,rfl⟩
  have h:=pdq_sorts (ltOf cfSpA) od d 0 d.size lim true true (AE _) (Ai _) (Or.inl rfl);rw[hdl]at h;exact⟨rfl,_,n,os,h.1,h.2,rfl⟩
 .intro e w;subst e;exact AnyF.pdqsortCmpFunc_none Tryz.layPdqSpan none 0 lim (YY 246) w
theorem Aak(l:List Tm)(hl:Cw l)(lim:Nat)(ab:lim<100) :
  Bb Tryz.prog 332 [.msl 1000 l.length,vi 0,vi l.length,vi lim,.v (YY 313)] (Ag [(1000,.arr 3 (l.map AO))] Ad) fun r h'=>
   r=.tup []/\∃l' : List Tm,l'.Perm l/\l'.Pairwise (fun x y=>FQ y.path x.path=false)/\h'=Ag [(1000,.arr 3 (l'.map AO))] Ad:=by
 have hl:l.length<=1073741824:=hl;have hE:GI Tryz.prog 332:=VI 332 Tryz.func332 aa0 rfl;have eg:∀args w,(callFunc 313 args).run Tryz.prog w=.ok (.enter 313 args) w:=enters_of Tryz.func313 aa0 rfl;have Kw:=JQ (P:=Tryz.prog) (f:=332) (α:=TmA) (rest:=[.int .i64 0,.int .i64 l.length,.int .i64 lim,YY 313]) hE AO encTmA (k:=3) (fun _=>rfl) (fun _=>rfl) (ltOf cfTmA) (fun x a=>a.1=x.path) l ch ?_ ?_ ?_
 .refine⟨hE,fun g w vals q1 q2 q3=>(Kw.2 g w vals q1 q2 q3).mono fun _ _ ⟨v,r,h',g',e1,⟨e2,l',p1,⟨al,a1,a2,a3⟩,p2⟩,rest⟩=>⟨v,r,h',g',e1,⟨e2,l',p1,?_,p2⟩,rest⟩⟩;rw[A8]at a3⊢;intro i j hi hj QM
  have:=a3 i j ch ch QM
  rw[eZ]at this;have e1:=a2 i _ _ (At hi) (At ch);have e2:=a2 j _ _ (At hj) (At ch);rw[<-e1,<-e2];exact this
 .intro x hx g w vs hr
  match vs,hr with
  | [a,b,c],hr=>
   have h1:=(hr.2.2 0 (Go.Eng.vs x.path) a rfl rfl).v_eq;subst h1;exact⟨⟨x.path,⟨b,hr.2.1 b B0⟩,⟨c,hr.2.1 c B0⟩⟩,rfl,rfl⟩
  | [],hr=>have:=hr.1;simp at this
  | [_],hr=>have:=hr.1;simp at this
  | [_,_],hr=>have:=hr.1;simp at this
  |_::_::_::_::_,hr=>have:=hr.1;simp at this
 .intro w b cap d hH hb D5 hdl;have me:CmpLays Tryz.prog 313 #[] encTmA 3 cfTmA b 0 d.size w:=fun _ _ _ _ x y=>Tryz.closure313 x y _;have hp:=AnyQ.pdqsortCmpFunc_all Tryz.layPdqTerm 3 Tryz.isAgg300 Tryz.sizeOf300 encTmA cfTmA 313 #[] oe b 0 cap d w eg me ⟨fun _=>rfl,fun x v hv=>by
    simp only[encTmA,Ay,MA,or_false]at hv;rcases hv with rfl | rfl | rfl
    .rfl
    .exact x.2.1.2
    .exact x.2.2.2,hH,hb⟩ (d.size+1) 0 d.size lim d w ch rfl (SWK.start hH) (AE _) (Ai _) D5 ch (Or.inl rfl)
  rw[hdl]at hp⊢;refine hp.mono ?_
  rintro e w' ⟨rfl,n,os,rfl⟩
  have h:=pdq_sorts (ltOf cfTmA) oe d 0 d.size lim true true (AE _) (Ai _) (Or.inl rfl);rw[hdl]at h;exact⟨rfl,_,n,os,h.1,h.2,rfl⟩
 .intro e w;subst e;exact AnyF.pdqsortCmpFunc_none Tryz.layPdqTerm none 0 lim (YY 313) w
end Go.Eng
