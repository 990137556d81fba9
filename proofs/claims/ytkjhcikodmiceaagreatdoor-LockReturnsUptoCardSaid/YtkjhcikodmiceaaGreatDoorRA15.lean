/- Lemmas 15. -/
import Derived.Test.YtkjhcikodmiceaaGreatDoorRA13
import Derived.Test.YtkjhcikodmiceaaGreatDoorRA02
import Derived.Shelf.SlSortCmp.WholeK
import Derived.Shelf.Sort.Plain
import Derived.Shelf.Small.Strs
import Derived.Shelf.Small.Bits
import Derived.Ground.SlsfProg
import Derived.Ground.NamesProg
import Derived.Lib.IndexMore
set_option maxHeartbeats 2000000
namespace Go.Eng
open Go.Proofs
variable {α:Type}{b0 b1 b2 b3:Bool}{a0:α}{b4:Bool}{a1:α}{b5:Bool}{a2 a3:α}{b6:Bool}{a4:α}{b7:Bool}{a5 a6:α}{b8:Bool}{a7:α}{b9:Bool}{a8:α}{Zl:Bool}{a9:α}{l:List α}{WY:α}(i:Nat)(pl:Nm)(b:Bool)
abbrev vi(n:Int):AV := .v (.int .i64 n)
abbrev vb:AV := .v (.bool b)
abbrev vs(s:ByteArray):AV := .v (.string s)
abbrev sl(enc:α -> List AV)(l:List α):AV := .slice .none (l.map enc)
abbrev Il(v:Ver):List AV := [vi v.a,vi v.b,vi v.c]
abbrev Ap(s:Int×Int):List AV := [vi s.1,vi s.2]
abbrev Af(q:Rq):List AV := [vs q.path,sl Ap q.set]
abbrev At(r:Rl):List AV := [vs r.path,vi r.ver.a,vi r.ver.b,vi r.ver.c,sl Af r.reqs,vs r.arch,vs r.ifc,vs r.cert,vb r.yanked]
abbrev Al(s:Sl):List AV := [vs s.path,vi s.ver.a,vi s.ver.b,vi s.ver.c]
abbrev Az(t:Tm):List AV := [vs t.path,vb t.absent,sl Ap t.set]
abbrev AR(i:Nf):List AV := [vi i.kind,vs i.path,vi i.place,vi i.number,vi i.left,vi i.right]
abbrev AJ(s:Sk):List AV := [vs s.path,vi s.place,vi s.inf]
noncomputable abbrev T4:Cx := ⟨Tryz.prog,nY,pl,false,0,fun _ _ _ _ => True⟩
noncomputable abbrev IF:Cx := ⟨Tryz.prog,nY,pl,true,0,fun _ _ _ _ => True⟩
abbrev Ea:Nm := ⟨[],[],[],[],[],[],[],[],[],[],[]⟩
abbrev PC(f:Nat)(args:List AV)(res:AV):Prop := Ls Tryz.prog f args res
theorem hm:Tryz.prog.follows .mixedOrders = true := by rfl
theorem Zr{α:Sort _}{β:Sort _}{a:α}{b:β}:a = a /\ b = b := ⟨rfl,rfl⟩
theorem Nz{a b:Nat}(h:Nat.ble a b = true):a <= b := Ak h
theorem Xi{α:Sort _}{p:α -> Prop}(w:α)(h:p w):Exists p := Exists.intro w h
theorem Yi{a b:Prop}(h:a)(k:b):a /\ b := And.intro h k
theorem Fh{st:St}{h:Nat -> HO}:∀j,Ad j = .free \/ (st.h j = Ad j /\ XW h (Ad j) = true) := fun _ => .inl rfl
theorem Tv:True := trivial
theorem Ii(h:i <= 9223372036854775806):A8 ((i:Int) + 1) := by unfold A8;omega
theorem Dl(n i:Nat)(h:i<n):n-(i + 1)<n-i := B0
theorem Bt:b = true \/ b = false := Bool.eq_false_or_eq_true b
theorem Z1:(a0 = a0 /\ b0 = b0) /\ True := ⟨⟨rfl,rfl⟩,trivial⟩
theorem Z2:(a0 = a0 /\ b0 = b0) /\ (a1 = a1 /\ b1 = b1) /\ True := ⟨⟨rfl,rfl⟩,⟨rfl,rfl⟩,trivial⟩
theorem Z3:(a0 = a0 /\ b0 = b0) /\ (a1 = a1 /\ b1 = b1) /\ (a2 = a2 /\ b2 = b2) /\ True := ⟨⟨rfl,rfl⟩,⟨rfl,rfl⟩,⟨rfl,rfl⟩,trivial⟩
theorem Z4:(a0 = a0 /\ b0 = b0) /\ (a1 = a1 /\ b1 = b1) /\ (a2 = a2 /\ b2 = b2) /\ (a3 = a3 /\ b3 = b3) /\ True := ⟨⟨rfl,rfl⟩,⟨rfl,rfl⟩,⟨rfl,rfl⟩,⟨rfl,rfl⟩,trivial⟩
theorem Z5:(a0 = a0 /\ b0 = b0) /\ (a1 = a1 /\ b1 = b1) /\ (a2 = a2 /\ b2 = b2) /\ (a3 = a3 /\ b3 = b3) /\ (a4 = a4 /\ b4 = b4) /\ True := ⟨⟨rfl,rfl⟩,⟨rfl,rfl⟩,⟨rfl,rfl⟩,⟨rfl,rfl⟩,⟨rfl,rfl⟩,trivial⟩
theorem Z6:(a0 = a0 /\ b0 = b0) /\ (a1 = a1 /\ b1 = b1) /\ (a2 = a2 /\ b2 = b2) /\ (a3 = a3 /\ b3 = b3) /\ (a4 = a4 /\ b4 = b4) /\ (a5 = a5 /\ b5 = b5) /\ True := ⟨⟨rfl,rfl⟩,⟨rfl,rfl⟩,⟨rfl,rfl⟩,⟨rfl,rfl⟩,⟨rfl,rfl⟩,⟨rfl,rfl⟩,trivial⟩
theorem Z7:(a0 = a0 /\ b0 = b0) /\ (a1 = a1 /\ b1 = b1) /\ (a2 = a2 /\ b2 = b2) /\ (a3 = a3 /\ b3 = b3) /\ (a4 = a4 /\ b4 = b4) /\ (a5 = a5 /\ b5 = b5) /\ (a6 = a6 /\ b6 = b6) /\ True := ⟨⟨rfl,rfl⟩,⟨rfl,rfl⟩,⟨rfl,rfl⟩,⟨rfl,rfl⟩,⟨rfl,rfl⟩,⟨rfl,rfl⟩,⟨rfl,rfl⟩,trivial⟩
theorem Z8:(a0 = a0 /\ b0 = b0) /\ (a1 = a1 /\ b1 = b1) /\ (a2 = a2 /\ b2 = b2) /\ (a3 = a3 /\ b3 = b3) /\ (a4 = a4 /\ b4 = b4) /\ (a5 = a5 /\ b5 = b5) /\ (a6 = a6 /\ b6 = b6) /\ (a7 = a7 /\ b7 = b7) /\ True := ⟨⟨rfl,rfl⟩,⟨rfl,rfl⟩,⟨rfl,rfl⟩,⟨rfl,rfl⟩,⟨rfl,rfl⟩,⟨rfl,rfl⟩,⟨rfl,rfl⟩,⟨rfl,rfl⟩,trivial⟩
theorem Z9:(a0 = a0 /\ b0 = b0) /\ (a1 = a1 /\ b1 = b1) /\ (a2 = a2 /\ b2 = b2) /\ (a3 = a3 /\ b3 = b3) /\ (a4 = a4 /\ b4 = b4) /\ (a5 = a5 /\ b5 = b5) /\ (a6 = a6 /\ b6 = b6) /\ (a7 = a7 /\ b7 = b7) /\ (a8 = a8 /\ b8 = b8) /\ True := ⟨⟨rfl,rfl⟩,⟨rfl,rfl⟩,⟨rfl,rfl⟩,⟨rfl,rfl⟩,⟨rfl,rfl⟩,⟨rfl,rfl⟩,⟨rfl,rfl⟩,⟨rfl,rfl⟩,⟨rfl,rfl⟩,trivial⟩
theorem Z10:(a0 = a0 /\ b0 = b0) /\ (a1 = a1 /\ b1 = b1) /\ (a2 = a2 /\ b2 = b2) /\ (a3 = a3 /\ b3 = b3) /\ (a4 = a4 /\ b4 = b4) /\ (a5 = a5 /\ b5 = b5) /\ (a6 = a6 /\ b6 = b6) /\ (a7 = a7 /\ b7 = b7) /\ (a8 = a8 /\ b8 = b8) /\ (a9 = a9 /\ b9 = b9) /\ True := ⟨⟨rfl,rfl⟩,⟨rfl,rfl⟩,⟨rfl,rfl⟩,⟨rfl,rfl⟩,⟨rfl,rfl⟩,⟨rfl,rfl⟩,⟨rfl,rfl⟩,⟨rfl,rfl⟩,⟨rfl,rfl⟩,⟨rfl,rfl⟩,trivial⟩
theorem Z11:(a0 = a0 /\ b0 = b0) /\ (a1 = a1 /\ b1 = b1) /\ (a2 = a2 /\ b2 = b2) /\ (a3 = a3 /\ b3 = b3) /\ (a4 = a4 /\ b4 = b4) /\ (a5 = a5 /\ b5 = b5) /\ (a6 = a6 /\ b6 = b6) /\ (a7 = a7 /\ b7 = b7) /\ (a8 = a8 /\ b8 = b8) /\ (a9 = a9 /\ b9 = b9) /\ (WY = WY /\ Zl = Zl) /\ True := ⟨⟨rfl,rfl⟩,⟨rfl,rfl⟩,⟨rfl,rfl⟩,⟨rfl,rfl⟩,⟨rfl,rfl⟩,⟨rfl,rfl⟩,⟨rfl,rfl⟩,⟨rfl,rfl⟩,⟨rfl,rfl⟩,⟨rfl,rfl⟩,⟨rfl,rfl⟩,trivial⟩
theorem Z12{bo:α}{pB:Bool}:(a0 = a0 /\ b0 = b0) /\ (a1 = a1 /\ b1 = b1) /\ (a2 = a2 /\ b2 = b2) /\ (a3 = a3 /\ b3 = b3) /\ (a4 = a4 /\ b4 = b4) /\ (a5 = a5 /\ b5 = b5) /\ (a6 = a6 /\ b6 = b6) /\ (a7 = a7 /\ b7 = b7) /\ (a8 = a8 /\ b8 = b8) /\ (a9 = a9 /\ b9 = b9) /\ (WY = WY /\ Zl = Zl) /\ (bo = bo /\ pB = pB) /\ True := ⟨⟨rfl,rfl⟩,⟨rfl,rfl⟩,⟨rfl,rfl⟩,⟨rfl,rfl⟩,⟨rfl,rfl⟩,⟨rfl,rfl⟩,⟨rfl,rfl⟩,⟨rfl,rfl⟩,⟨rfl,rfl⟩,⟨rfl,rfl⟩,⟨rfl,rfl⟩,⟨rfl,rfl⟩,trivial⟩
theorem Z13{bo a12:α}{pB vO:Bool}:(a0 = a0 /\ b0 = b0) /\ (a1 = a1 /\ b1 = b1) /\ (a2 = a2 /\ b2 = b2) /\ (a3 = a3 /\ b3 = b3) /\ (a4 = a4 /\ b4 = b4) /\ (a5 = a5 /\ b5 = b5) /\ (a6 = a6 /\ b6 = b6) /\ (a7 = a7 /\ b7 = b7) /\ (a8 = a8 /\ b8 = b8) /\ (a9 = a9 /\ b9 = b9) /\ (WY = WY /\ Zl = Zl) /\ (bo = bo /\ pB = pB) /\ (a12 = a12 /\ vO = vO) /\ True := ⟨⟨rfl,rfl⟩,⟨rfl,rfl⟩,⟨rfl,rfl⟩,⟨rfl,rfl⟩,⟨rfl,rfl⟩,⟨rfl,rfl⟩,⟨rfl,rfl⟩,⟨rfl,rfl⟩,⟨rfl,rfl⟩,⟨rfl,rfl⟩,⟨rfl,rfl⟩,⟨rfl,rfl⟩,⟨rfl,rfl⟩,trivial⟩
theorem Nn:(0:Int) <= (i:Int) := NX i
abbrev Ic(x:List Rl)(ifs:List (List AV)):List AV := [sl At x,.slice .none ifs]
theorem Ps{f:Nat}{fn:Func}{c:Code}{args:List AV}{res:AV}(hf:Tryz.prog.funcs[f]? = some fn)(hb:fn.body = some c)(hN:args.length <= fn.ntmps)(hk:Rj (T4 pl) c (qa (T4 pl) fn.results.toList fun r => DW r res) ⟨Ol args,Ad⟩)(hn : (fn.name == "runtime.NumGoroutine") = false := by kernel_rfl)(hc : Ed fn.ntmps c = true := by kernel_rfl) : Ls Tryz.prog f args res := CV (T4 pl) rfl BB hm rfl hf hn hb hN hc hk
theorem Lm{β:Type}(f:α -> β):(l.map f).length = l.length := AW f
theorem Ge{i:Nat}(h:i<l.length):l[i]? = some l[i] := Aw h
end Go.Eng
namespace Go.Proofs
open Go.Shelf
def Tryz.layPdqSpan_ren:Go.Shelf.Ren:=⟨fun | 14=>339 | 20=>367 | 21=>368 | 22=>369 | 23=>370 | 24=>371 | 25=>372 | 26=>373 | 27=>374 | 46=>386 | 47=>283 | 48=>284 | 49=>387 | 50=>388 | 15=>146 | 57=>401 | 28=>219 | 29=>220 | n=>n,fun | 24=>64 | 22=>65 | 3=>3 | 25=>378 | 4=>4 | 0=>0 | 46=>309 | 45=>308 | 50=>150 | 66=>372 | 39=>240 | 55=>229 | 70=>208 | 76=>408 | 77=>409 | 53=>299 | 5=>5 | 9=>9 | n=>n,fun | n=>n⟩
theorem Tryz.layPdqSpan:Go.Proofs.SlLaysF0.n14 Tryz.prog Tryz.layPdqSpan_ren:={
 mixed:=by kernel_rfl
 f14:=⟨Tryz.f339.name,by decide,Go.Eng.A0a Tryz.func339⟩
 f15:=Go.Eng.A0a Tryz.func146
 f20:=⟨Tryz.f367.name,by decide,Go.Eng.A0a Tryz.func367⟩
 f21:=⟨Tryz.f368.name,by decide,Go.Eng.A0a Tryz.func368⟩
 f22:=⟨Tryz.f369.name,by decide,Go.Eng.A0a Tryz.func369⟩
 f23:=⟨Tryz.f370.name,by decide,Go.Eng.A0a Tryz.func370⟩
 f24:=⟨Tryz.f371.name,by decide,Go.Eng.A0a Tryz.func371⟩
 f25:=⟨Tryz.f372.name,by decide,Go.Eng.A0a Tryz.func372⟩
 f26:=⟨Tryz.f373.name,by decide,Go.Eng.A0a Tryz.func373⟩
 f27:=⟨Tryz.f374.name,by decide,Go.Eng.A0a Tryz.func374⟩
 f28:=Go.Eng.A0a Tryz.func219
 f29:=Go.Eng.A0a Tryz.func220
 f46:=⟨Tryz.f386.name,by decide,Go.Eng.A0a Tryz.func386⟩
 f47:=Go.Eng.A0a Tryz.func283
 f48:=Go.Eng.A0a Tryz.func284
 f49:=⟨Tryz.f387.name,by decide,Go.Eng.A0a Tryz.func387⟩
 f50:=⟨Tryz.f388.name,by decide,Go.Eng.A0a Tryz.func388⟩
 f57:=⟨Tryz.f401.name,by decide,Go.Eng.A0a Tryz.func401⟩
 t0:=Tryz.underlying0
 a0:=Tryz.isAgg0
 z0:=Tryz.sizeOf0
 v0:=Tryz.zeroValue0
 t3:=Tryz.underlying3
 a3:=Tryz.isAgg3
 z3:=Tryz.sizeOf3
 v3:=Tryz.zeroValue3
 t4:=Tryz.underlying4
 a4:=Tryz.isAgg4
 z4:=Tryz.sizeOf4
 v4:=Tryz.zeroValue4
 t5:=Tryz.underlying5
 a5:=Tryz.isAgg5
 z5:=Tryz.sizeOf5
 v5:=Tryz.zeroValue5
 t9:=Tryz.underlying9
 a9:=Tryz.isAgg9
 z9:=Tryz.sizeOf9
 v9:=Tryz.zeroValue9
 t22:=Tryz.underlying65
 a22:=Tryz.isAgg65
 z22:=Tryz.sizeOf65
 v22:=Tryz.zeroValue65
 t25:=Tryz.underlying378
 a25:=Tryz.isAgg378
 z25:=Tryz.sizeOf378
 v25:=Tryz.zeroValue378
 t39:=Tryz.underlying240
 a39:=Tryz.isAgg240
 z39:=Tryz.sizeOf240
 v39:=Tryz.zeroValue240
 t45:=Tryz.underlying308
 a45:=Tryz.isAgg308
 z45:=Tryz.sizeOf308
 v45:=Tryz.zeroValue308
 t46:=Tryz.underlying309
 a46:=Tryz.isAgg309
 z46:=Tryz.sizeOf309
 v46:=Tryz.zeroValue309
 t50:=Tryz.underlying150
 a50:=Tryz.isAgg150
 z50:=Tryz.sizeOf150
 v50:=Tryz.zeroValue150
 t53:=Tryz.underlying299
 a53:=Tryz.isAgg299
 z53:=Tryz.sizeOf299
 v53:=Tryz.zeroValue299
 t55:=Tryz.underlying229
 a55:=Tryz.isAgg229
 z55:=Tryz.sizeOf229
 v55:=Tryz.zeroValue229
 t66:=Tryz.underlying372
 a66:=Tryz.isAgg372
 z66:=Tryz.sizeOf372
 v66:=Tryz.zeroValue372
 t70:=Tryz.underlying208
 a70:=Tryz.isAgg208
 z70:=Tryz.sizeOf208
 v70:=Tryz.zeroValue208
 t76:=Tryz.underlying408
 a76:=Tryz.isAgg408
 z76:=Tryz.sizeOf408
 v76:=Tryz.zeroValue408
 t77:=Tryz.underlying409
 a77:=Tryz.isAgg409
 z77:=Tryz.sizeOf409
 v77:=Tryz.zeroValue409 }
def Tryz.layPdqTerm_ren:Go.Shelf.Ren:=⟨fun | 14=>377 | 20=>391 | 21=>392 | 22=>393 | 23=>394 | 24=>395 | 25=>396 | 26=>397 | 27=>398 | 46=>411 | 47=>283 | 48=>284 | 49=>412 | 50=>413 | 15=>146 | 57=>417 | 28=>219 | 29=>220 | n=>n,fun | 24=>325 | 22=>257 | 3=>3 | 25=>418 | 4=>4 | 0=>0 | 46=>309 | 45=>308 | 50=>150 | 66=>372 | 39=>240 | 55=>229 | 70=>208 | 76=>408 | 77=>409 | 53=>299 | 5=>5 | 9=>9 | n=>n,fun | n=>n⟩
theorem Tryz.layPdqTerm:Go.Proofs.SlLaysF0.n14 Tryz.prog Tryz.layPdqTerm_ren:={
 mixed:=by kernel_rfl
 f14:=⟨Tryz.f377.name,by decide,Go.Eng.A0a Tryz.func377⟩
 f15:=Go.Eng.A0a Tryz.func146
 f20:=⟨Tryz.f391.name,by decide,Go.Eng.A0a Tryz.func391⟩
 f21:=⟨Tryz.f392.name,by decide,Go.Eng.A0a Tryz.func392⟩
 f22:=⟨Tryz.f393.name,by decide,Go.Eng.A0a Tryz.func393⟩
 f23:=⟨Tryz.f394.name,by decide,Go.Eng.A0a Tryz.func394⟩
 f24:=⟨Tryz.f395.name,by decide,Go.Eng.A0a Tryz.func395⟩
 f25:=⟨Tryz.f396.name,by decide,Go.Eng.A0a Tryz.func396⟩
 f26:=⟨Tryz.f397.name,by decide,Go.Eng.A0a Tryz.func397⟩
 f27:=⟨Tryz.f398.name,by decide,Go.Eng.A0a Tryz.func398⟩
 f28:=Go.Eng.A0a Tryz.func219
 f29:=Go.Eng.A0a Tryz.func220
 f46:=⟨Tryz.f411.name,by decide,Go.Eng.A0a Tryz.func411⟩
 f47:=Go.Eng.A0a Tryz.func283
 f48:=Go.Eng.A0a Tryz.func284
 f49:=⟨Tryz.f412.name,by decide,Go.Eng.A0a Tryz.func412⟩
 f50:=⟨Tryz.f413.name,by decide,Go.Eng.A0a Tryz.func413⟩
 f57:=⟨Tryz.f417.name,by decide,Go.Eng.A0a Tryz.func417⟩
 t0:=Tryz.underlying0
 a0:=Tryz.isAgg0
 z0:=Tryz.sizeOf0
 v0:=Tryz.zeroValue0
 t3:=Tryz.underlying3
 a3:=Tryz.isAgg3
 z3:=Tryz.sizeOf3
 v3:=Tryz.zeroValue3
 t4:=Tryz.underlying4
 a4:=Tryz.isAgg4
 z4:=Tryz.sizeOf4
 v4:=Tryz.zeroValue4
 t5:=Tryz.underlying5
 a5:=Tryz.isAgg5
 z5:=Tryz.sizeOf5
 v5:=Tryz.zeroValue5
 t9:=Tryz.underlying9
 a9:=Tryz.isAgg9
 z9:=Tryz.sizeOf9
 v9:=Tryz.zeroValue9
 t22:=Tryz.underlying257
 a22:=Tryz.isAgg257
 z22:=Tryz.sizeOf257
 v22:=Tryz.zeroValue257
 t25:=Tryz.underlying418
 a25:=Tryz.isAgg418
 z25:=Tryz.sizeOf418
 v25:=Tryz.zeroValue418
 t39:=Tryz.underlying240
 a39:=Tryz.isAgg240
 z39:=Tryz.sizeOf240
 v39:=Tryz.zeroValue240
 t45:=Tryz.underlying308
 a45:=Tryz.isAgg308
 z45:=Tryz.sizeOf308
 v45:=Tryz.zeroValue308
 t46:=Tryz.underlying309
 a46:=Tryz.isAgg309
 z46:=Tryz.sizeOf309
 v46:=Tryz.zeroValue309
 t50:=Tryz.underlying150
 a50:=Tryz.isAgg150
 z50:=Tryz.sizeOf150
 v50:=Tryz.zeroValue150
 t53:=Tryz.underlying299
 a53:=Tryz.isAgg299
 z53:=Tryz.sizeOf299
 v53:=Tryz.zeroValue299
 t55:=Tryz.underlying229
 a55:=Tryz.isAgg229
 z55:=Tryz.sizeOf229
 v55:=Tryz.zeroValue229
 t66:=Tryz.underlying372
 a66:=Tryz.isAgg372
 z66:=Tryz.sizeOf372
 v66:=Tryz.zeroValue372
 t70:=Tryz.underlying208
 a70:=Tryz.isAgg208
 z70:=Tryz.sizeOf208
 v70:=Tryz.zeroValue208
 t76:=Tryz.underlying408
 a76:=Tryz.isAgg408
 z76:=Tryz.sizeOf408
 v76:=Tryz.zeroValue408
 t77:=Tryz.underlying409
 a77:=Tryz.isAgg409
 z77:=Tryz.sizeOf409
 v77:=Tryz.zeroValue409 }
def Tryz.layPdqSel_ren:Go.Shelf.Ren:=⟨fun | 14=>157 | 20=>231 | 21=>232 | 22=>233 | 23=>234 | 24=>235 | 25=>236 | 26=>237 | 27=>238 | 46=>299 | 47=>283 | 48=>284 | 49=>300 | 50=>301 | 15=>146 | 57=>353 | 28=>219 | 29=>220 | n=>n,fun | 24=>45 | 22=>37 | 3=>3 | 25=>166 | 4=>4 | 0=>0 | 46=>309 | 45=>308 | 50=>150 | 66=>372 | 39=>240 | 55=>229 | 70=>208 | 76=>408 | 77=>409 | 53=>299 | 5=>5 | 9=>9 | n=>n,fun | n=>n⟩
theorem Tryz.layPdqSel:Go.Proofs.SlLaysF0.n14 Tryz.prog Tryz.layPdqSel_ren:={
 mixed:=by kernel_rfl
 f14:=⟨Tryz.f157.name,by decide,Go.Eng.A0a Tryz.func157⟩
 f15:=Go.Eng.A0a Tryz.func146
 f20:=⟨Tryz.f231.name,by decide,Go.Eng.A0a Tryz.func231⟩
 f21:=⟨Tryz.f232.name,by decide,Go.Eng.A0a Tryz.func232⟩
 f22:=⟨Tryz.f233.name,by decide,Go.Eng.A0a Tryz.func233⟩
 f23:=⟨Tryz.f234.name,by decide,Go.Eng.A0a Tryz.func234⟩
 f24:=⟨Tryz.f235.name,by decide,Go.Eng.A0a Tryz.func235⟩
 f25:=⟨Tryz.f236.name,by decide,Go.Eng.A0a Tryz.func236⟩
 f26:=⟨Tryz.f237.name,by decide,Go.Eng.A0a Tryz.func237⟩
 f27:=⟨Tryz.f238.name,by decide,Go.Eng.A0a Tryz.func238⟩
 f28:=Go.Eng.A0a Tryz.func219
 f29:=Go.Eng.A0a Tryz.func220
 f46:=⟨Tryz.f299.name,by decide,Go.Eng.A0a Tryz.func299⟩
 f47:=Go.Eng.A0a Tryz.func283
 f48:=Go.Eng.A0a Tryz.func284
 f49:=⟨Tryz.f300.name,by decide,Go.Eng.A0a Tryz.func300⟩
 f50:=⟨Tryz.f301.name,by decide,Go.Eng.A0a Tryz.func301⟩
 f57:=⟨Tryz.f353.name,by decide,Go.Eng.A0a Tryz.func353⟩
 t0:=Tryz.underlying0
 a0:=Tryz.isAgg0
 z0:=Tryz.sizeOf0
 v0:=Tryz.zeroValue0
 t3:=Tryz.underlying3
 a3:=Tryz.isAgg3
 z3:=Tryz.sizeOf3
 v3:=Tryz.zeroValue3
 t4:=Tryz.underlying4
 a4:=Tryz.isAgg4
 z4:=Tryz.sizeOf4
 v4:=Tryz.zeroValue4
 t5:=Tryz.underlying5
 a5:=Tryz.isAgg5
 z5:=Tryz.sizeOf5
 v5:=Tryz.zeroValue5
 t9:=Tryz.underlying9
 a9:=Tryz.isAgg9
 z9:=Tryz.sizeOf9
 v9:=Tryz.zeroValue9
 t22:=Tryz.underlying37
 a22:=Tryz.isAgg37
 z22:=Tryz.sizeOf37
 v22:=Tryz.zeroValue37
 t25:=Tryz.underlying166
 a25:=Tryz.isAgg166
 z25:=Tryz.sizeOf166
 v25:=Tryz.zeroValue166
 t39:=Tryz.underlying240
 a39:=Tryz.isAgg240
 z39:=Tryz.sizeOf240
 v39:=Tryz.zeroValue240
 t45:=Tryz.underlying308
 a45:=Tryz.isAgg308
 z45:=Tryz.sizeOf308
 v45:=Tryz.zeroValue308
 t46:=Tryz.underlying309
 a46:=Tryz.isAgg309
 z46:=Tryz.sizeOf309
 v46:=Tryz.zeroValue309
 t50:=Tryz.underlying150
 a50:=Tryz.isAgg150
 z50:=Tryz.sizeOf150
 v50:=Tryz.zeroValue150
 t53:=Tryz.underlying299
 a53:=Tryz.isAgg299
 z53:=Tryz.sizeOf299
 v53:=Tryz.zeroValue299
 t55:=Tryz.underlying229
 a55:=Tryz.isAgg229
 z55:=Tryz.sizeOf229
 v55:=Tryz.zeroValue229
 t66:=Tryz.underlying372
 a66:=Tryz.isAgg372
 z66:=Tryz.sizeOf372
 v66:=Tryz.zeroValue372
 t70:=Tryz.underlying208
 a70:=Tryz.isAgg208
 z70:=Tryz.sizeOf208
 v70:=Tryz.zeroValue208
 t76:=Tryz.underlying408
 a76:=Tryz.isAgg408
 z76:=Tryz.sizeOf408
 v76:=Tryz.zeroValue408
 t77:=Tryz.underlying409
 a77:=Tryz.isAgg409
 z77:=Tryz.sizeOf409
 v77:=Tryz.zeroValue409 }
def Tryz.layCompare_ren:Go.Shelf.Ren:=⟨fun | 106=>85 | 213=>158 | 265=>239 | n=>n,fun | 9=>9 | 3=>3 | n=>n,fun | n=>n⟩
theorem Tryz.layCompare:Go.Proofs.Lays.n106 Tryz.prog Tryz.layCompare_ren:={
 mixed:=by kernel_rfl
 f106:=Go.Eng.A0a Tryz.func85
 f213:=Go.Eng.A0a Tryz.func158
 f265:=Go.Eng.A0a Tryz.func239
 t3:=Tryz.underlying3
 a3:=Tryz.isAgg3
 z3:=Tryz.sizeOf3
 v3:=Tryz.zeroValue3
 t9:=Tryz.underlying9
 a9:=Tryz.isAgg9
 z9:=Tryz.sizeOf9
 v9:=Tryz.zeroValue9 }
def Tryz.layBits_ren:Go.Shelf.Ren:=⟨fun | 125=>146 | 128=>219 | 129=>220 | n=>n,fun | 46=>240 | 3=>3 | 51=>299 | 53=>229 | 4=>4 | 5=>5 | 9=>9 | n=>n,fun | n=>n⟩
theorem Tryz.layBits:Go.Proofs.Lays.n125 Tryz.prog Tryz.layBits_ren:={
 mixed:=by kernel_rfl
 f125:=Go.Eng.A0a Tryz.func146
 f128:=Go.Eng.A0a Tryz.func219
 f129:=Go.Eng.A0a Tryz.func220
 t3:=Tryz.underlying3
 a3:=Tryz.isAgg3
 z3:=Tryz.sizeOf3
 v3:=Tryz.zeroValue3
 t4:=Tryz.underlying4
 a4:=Tryz.isAgg4
 z4:=Tryz.sizeOf4
 v4:=Tryz.zeroValue4
 t5:=Tryz.underlying5
 a5:=Tryz.isAgg5
 z5:=Tryz.sizeOf5
 v5:=Tryz.zeroValue5
 t9:=Tryz.underlying9
 a9:=Tryz.isAgg9
 z9:=Tryz.sizeOf9
 v9:=Tryz.zeroValue9
 t46:=Tryz.underlying240
 a46:=Tryz.isAgg240
 z46:=Tryz.sizeOf240
 v46:=Tryz.zeroValue240
 t51:=Tryz.underlying299
 a51:=Tryz.isAgg299
 z51:=Tryz.sizeOf299
 v51:=Tryz.zeroValue299
 t53:=Tryz.underlying229
 a53:=Tryz.isAgg229
 z53:=Tryz.sizeOf229
 v53:=Tryz.zeroValue229 }
def Tryz.laySortInts_ren:Go.Shelf.Ren:=⟨fun | 189=>375 | 125=>146 | 257=>389 | 128=>219 | 129=>220 | 294=>402 | 295=>403 | 296=>404 | 297=>405 | 298=>406 | 299=>407 | 216=>408 | 300=>409 | 301=>410 | 328=>414 | 329=>283 | 330=>284 | 331=>415 | 332=>416 | 215=>313 | 343=>418 | n=>n,fun | 28=>132 | 3=>3 | 46=>240 | 0=>0 | 51=>299 | 53=>229 | 4=>4 | 183=>309 | 182=>308 | 131=>150 | 5=>5 | 9=>9 | 218=>372 | 222=>208 | 228=>408 | 229=>409 | n=>n,fun | n=>n⟩
theorem Tryz.laySortInts:Go.Proofs.Lays.n189 Tryz.prog Tryz.laySortInts_ren:={
 mixed:=by kernel_rfl
 f125:=Go.Eng.A0a Tryz.func146
 f128:=Go.Eng.A0a Tryz.func219
 f129:=Go.Eng.A0a Tryz.func220
 f189:=Go.Eng.A0a Tryz.func375
 f215:=Go.Eng.A0a Tryz.func313
 f216:=Go.Eng.A0a Tryz.func408
 f257:=Go.Eng.A0a Tryz.func389
 f294:=Go.Eng.A0a Tryz.func402
 f295:=Go.Eng.A0a Tryz.func403
 f296:=Go.Eng.A0a Tryz.func404
 f297:=Go.Eng.A0a Tryz.func405
 f298:=Go.Eng.A0a Tryz.func406
 f299:=Go.Eng.A0a Tryz.func407
 f300:=Go.Eng.A0a Tryz.func409
 f301:=Go.Eng.A0a Tryz.func410
 f328:=Go.Eng.A0a Tryz.func414
 f329:=Go.Eng.A0a Tryz.func283
 f330:=Go.Eng.A0a Tryz.func284
 f331:=Go.Eng.A0a Tryz.func415
 f332:=Go.Eng.A0a Tryz.func416
 f343:=Go.Eng.A0a Tryz.func418
 t0:=Tryz.underlying0
 a0:=Tryz.isAgg0
 z0:=Tryz.sizeOf0
 v0:=Tryz.zeroValue0
 t3:=Tryz.underlying3
 a3:=Tryz.isAgg3
 z3:=Tryz.sizeOf3
 v3:=Tryz.zeroValue3
 t4:=Tryz.underlying4
 a4:=Tryz.isAgg4
 z4:=Tryz.sizeOf4
 v4:=Tryz.zeroValue4
 t5:=Tryz.underlying5
 a5:=Tryz.isAgg5
 z5:=Tryz.sizeOf5
 v5:=Tryz.zeroValue5
 t9:=Tryz.underlying9
 a9:=Tryz.isAgg9
 z9:=Tryz.sizeOf9
 v9:=Tryz.zeroValue9
 t28:=Tryz.underlying132
 a28:=Tryz.isAgg132
 z28:=Tryz.sizeOf132
 v28:=Tryz.zeroValue132
 t46:=Tryz.underlying240
 a46:=Tryz.isAgg240
 z46:=Tryz.sizeOf240
 v46:=Tryz.zeroValue240
 t51:=Tryz.underlying299
 a51:=Tryz.isAgg299
 z51:=Tryz.sizeOf299
 v51:=Tryz.zeroValue299
 t53:=Tryz.underlying229
 a53:=Tryz.isAgg229
 z53:=Tryz.sizeOf229
 v53:=Tryz.zeroValue229
 t131:=Tryz.underlying150
 a131:=Tryz.isAgg150
 z131:=Tryz.sizeOf150
 v131:=Tryz.zeroValue150
 t182:=Tryz.underlying308
 a182:=Tryz.isAgg308
 z182:=Tryz.sizeOf308
 v182:=Tryz.zeroValue308
 t183:=Tryz.underlying309
 a183:=Tryz.isAgg309
 z183:=Tryz.sizeOf309
 v183:=Tryz.zeroValue309
 t218:=Tryz.underlying372
 a218:=Tryz.isAgg372
 z218:=Tryz.sizeOf372
 v218:=Tryz.zeroValue372
 t222:=Tryz.underlying208
 a222:=Tryz.isAgg208
 z222:=Tryz.sizeOf208
 v222:=Tryz.zeroValue208
 t228:=Tryz.underlying408
 a228:=Tryz.isAgg408
 z228:=Tryz.sizeOf408
 v228:=Tryz.zeroValue408
 t229:=Tryz.underlying409
 a229:=Tryz.isAgg409
 z229:=Tryz.sizeOf409
 v229:=Tryz.zeroValue409 }
end Go.Proofs
namespace Go.Proofs
open Go.Shelf Go.RowKit Go.Lib Go.Sort Go.Eng
theorem new_heap(W:World)(o:Obj):(W.alloc o).heap[W.heap.size]? = some o := by
 show(W.heap.push o)[W.heap.size]? = _
 simp
set_option maxRecDepth 100000 in
theorem ye_unsigned(W:World):Calls Tryz.prog 439 #[.int .u64 0] W fun e w' => e = .returned (.string ⟨#[0]⟩) /\ Below W.heap.size W w' := by
 have hcv := fun c w hc => run_convert_bytes_back (P := Tryz.prog) w 296 9 5 ⟨W.heap.size + 1,0,none⟩ c [0] Tryz.underlying296 Tryz.underlying5 Tryz.underlying9 hc
 go_enter Tryz.func439,Tryz.ntmps439
 go_wp2
 go_loop [0,3] (fun i s => i = Value.int .u64 0 /\ s = Value.slice none 0 0) (fun _ _ => 0)
 case atStart => exact⟨rfl,rfl⟩
 case round=>
  obtain⟨rfl,rfl⟩ := hrel
  go_wp2
  generalize (Question.appendCap 1 0 5).cut (W.tape W.drawn (Question.appendCap 1 0 5)) = c
  have q := hcv c ((W.alloc (.cells #[.int .u8 0] 5)).alloc (.cells (#[.int .u8 0] ++ Builtin.zeroCells #[.int .u8 0] (c-1)) 5)).drew (fun j hj => by
   have hj:j<1 := hj
   obtain rfl:j = 0 := B0
   rw[show(⟨W.heap.size + 1,0,none⟩:Addr).add 0 = ⟨W.heap.size + 1,0,none⟩from rfl,Lib.cell_of_heap (cs := #[.int .u8 0] ++ Builtin.zeroCells #[.int .u8 0] (c-1)) (T := 5) (fr := (0,0)) (show((W.heap.push _).push _)[W.heap.size + 1]? = _ by rw[Array.getElem?_push,if_pos aa0])]
   rw[Array.getElem?_append_left aa2];rfl)
  rw[show([0]:List UInt8).length = 1 from rfl]at q
  rw[q]
  go_wp2
  go_ret
  refine⟨rfl,?_⟩
  exact(((Below.refl _ W).alloc (Nat.le_refl _) _).alloc aa0 _).drew
theorem ye_uint(W:World):Calls Tryz.prog 437 #[.int .i64 0] W fun e w' => e = .returned (.tuple #[.string ⟨#[0]⟩,.int .i64 0]) /\ Below W.heap.size W w' := by
 go_enter Tryz.func437,Tryz.ntmps437
 go_wp2_with (go_at_call 439;refine(ye_unsigned _).mono ?_;rintro e w' ⟨rfl,hb⟩)
 go_ret2
 exact⟨rfl,hb⟩
structure WrB(B:Nat)(A:Nat)(w w' : World):Prop where
 os:w'.os = w.os
 tape:w'.tape = w.tape
 output:w'.output = w.output
 size:w.heap.size <= w'.heap.size
 block:∀k,k<B -> k ≠ A -> w'.heap[k]? = w.heap[k]?
theorem WrB.alloc{A:Nat}{w w' : World}{o:Obj}(h:WrB (w.alloc o).heap.size A (w.alloc o) w'):WrB w.heap.size A w w':=
 have e:(w.alloc o).heap.size = w.heap.size + 1 := aa0
 ⟨h.os,h.tape,h.output,by have := h.size;omega,fun k hk hn => (h.block k B0 hn).trans (Below.heap_alloc _ _ _ hk)⟩
abbrev wrO(s:ByteArray):Obj := .cells #[.string s] 121 (0,0)
theorem ye_number(A:Nat)(p:Addr)(s:ByteArray)(hs:s.size <= 1000)(W:World)(hA:W.heap[A]? = some (wrO s))(hp:W.cell? p = some (.int .i64 0)) :
  Calls Tryz.prog 435 #[.pointer (some ⟨A,0,none⟩),.pointer (some p)] W fun e w' => e = .returned (.tuple #[]) /\ w'.heap[A]? = some (wrO (s ++ ⟨#[0]⟩)) /\ WrB W.heap.size A W w' := by
 have BW:A<W.heap.size := (Array.getElem?_eq_some_iff.1 hA).1
 have hk:((s.size + (⟨#[0]⟩:ByteArray).size:Nat):Int) <= 9223372036854775807 := by
  have:(⟨#[0]⟩:ByteArray).size = 1 := rfl
  omega
 go_enter Tryz.func435,Tryz.ntmps435
 go_wp2_with (go_at_call 437;refine(ye_uint _).mono ?_;rintro e w' ⟨rfl,hb⟩;have IJ : w'.heap[A]? = some (wrO s) := (hb.block A BW).trans hA;have c1:w'.cell? ⟨A,0,none⟩ = some (.string s) := Lib.cell_of_heap IJ 0;have c2 := Lib.frozen_of_heap IJ 0)
 refine bodyPost_end (results_none rfl _ _ _) rfl ⟨rfl,?_,?_⟩
 .show(w'.heap.modify A _)[A]? = _
  rw[Array.getElem?_modify,if_pos rfl,IJ];rfl
 .exact⟨hb.os,hb.tape,hb.output,by simp[World.setCell];exact hb.size,fun k hk CU => (Below.heap_setCell _ _ _ _ CU).trans (hb.block k hk)⟩
theorem ye_count(A:Nat)(s:ByteArray)(hs:s.size <= 1000)(W:World)(hA:W.heap[A]? = some (wrO s)) :
  Calls Tryz.prog 434 #[.pointer (some ⟨A,0,none⟩),.int .i64 0] W fun e w' => e = .returned (.int .i64 0) /\ w'.heap[A]? = some (wrO (s ++ ⟨#[0]⟩)) /\ WrB W.heap.size A W w' := by
 have BW:A<W.heap.size := (Array.getElem?_eq_some_iff.1 hA).1
 go_enter Tryz.func434,Tryz.ntmps434
 go_wp2_with (go_at_call 435;refine(ye_number A ⟨W.heap.size,0,none⟩ s hs _ ((Below.heap_alloc _ _ _ BW).trans hA) (Lib.cell_of_heap (new_heap _ _) 0)).mono ?_;rintro e w' ⟨rfl,IJ,hb⟩;have c1:w'.cell? ⟨W.heap.size,0,none⟩ = some (.int .i64 0) := Lib.cell_of_heap ((hb.block _ aa0 B0).trans (new_heap _ _)) 0)
 go_ret
 exact⟨rfl,IJ,hb.alloc⟩
theorem ye_n (a : Addr) (w : World) : (nilAhead 601 119 (.pointer (some a)) "modcert/lock.count").run Tryz.prog w = .ok (some false) w := by kernel_rfl
theorem ye_m (a : Addr) (w : World) : (method 601 119 (.pointer (some a)) "modcert/lock.count").run Tryz.prog w = .ok (434, .pointer (some a)) w := by kernel_rfl
theorem ye_t(a:Addr)(w:World):(Instr.typeAssert (.iface 119 (.pointer (some a))) 197 124 true).run Tryz.prog w = .ok (.tuple #[.pointer none,.bool false]) w := by kernel_rfl
theorem WrB.cell{A B k:Nat}{w w' : World}(h:WrB w.heap.size A w w')(hB:B ≠ A){v:Value}(hv:w.cell? ⟨B,k,none⟩ = some v):w'.cell? ⟨B,k,none⟩ = some v := by
 have BW:B<w.heap.size := by
  rcases Nat.lt_or_ge B w.heap.size with q | q
  .exact q
  .simp[World.cell?,Array.getElem?_eq_none q]at hv
 rw[<-hv]
 simp only[World.cell?,h.block B BW hB]
set_option maxRecDepth 100000 in
theorem ye_list120(A B k:Nat)(F:Value)(s:ByteArray)(hs:s.size <= 1000)(hB:B ≠ A)(W:World)(hA:W.heap[A]? = some (wrO s))(hp:W.cell? ⟨B,k,none⟩ = some (.slice none 0 0)) :
  Calls Tryz.prog 120 #[.iface 119 (.pointer (some ⟨A,0,none⟩)),.pointer (some ⟨B,k,none⟩),F] W fun e w' => e = .returned (.tuple #[]) /\ w'.heap[A]? = some (wrO (s ++ ⟨#[0]⟩)) /\ WrB W.heap.size A W w' := by
 have n1 := ye_n ⟨A,0,none⟩
 have m1 := ye_m ⟨A,0,none⟩
 have t1 := ye_t ⟨A,0,none⟩
 go_enter Tryz.func120,Tryz.ntmps120
 go_wp2
 go_region_with (go_at_call 434;refine(ye_count A s hs W.drew hA).mono ?_;rintro e w2 ⟨rfl,Ki,hb⟩;have zn := hb.cell hB hp)
 go_wp2
 all_goals
  go_loop [56] (fun i => i = Value.int .i64 0) (fun _ => 0)
  case atStart => rfl
  case round=>
   subst hrel
   go_wp2
   exact bodyPost_end (results_none rfl _ _ _) rfl ⟨rfl,Ki,hb.os,hb.tape,hb.output,hb.size,hb.block⟩
set_option maxRecDepth 100000 in
theorem ye_list125(A B k:Nat)(F:Value)(s:ByteArray)(hs:s.size <= 1000)(hB:B ≠ A)(W:World)(hA:W.heap[A]? = some (wrO s))(hp:W.cell? ⟨B,k,none⟩ = some (.slice none 0 0)) :
  Calls Tryz.prog 125 #[.iface 119 (.pointer (some ⟨A,0,none⟩)),.pointer (some ⟨B,k,none⟩),F] W fun e w' => e = .returned (.tuple #[]) /\ w'.heap[A]? = some (wrO (s ++ ⟨#[0]⟩)) /\ WrB W.heap.size A W w' := by
 have n1 := ye_n ⟨A,0,none⟩
 have m1 := ye_m ⟨A,0,none⟩
 have t1 := ye_t ⟨A,0,none⟩
 go_enter Tryz.func125,Tryz.ntmps125
 go_wp2
 go_region_with (go_at_call 434;refine(ye_count A s hs W.drew hA).mono ?_;rintro e w2 ⟨rfl,Ki,hb⟩;have zn := hb.cell hB hp)
 go_wp2
 all_goals
  go_loop [56] (fun i => i = Value.int .i64 0) (fun _ => 0)
  case atStart => rfl
  case round=>
   subst hrel
   go_wp2
   exact bodyPost_end (results_none rfl _ _ _) rfl ⟨rfl,Ki,hb.os,hb.tape,hb.output,hb.size,hb.block⟩
set_option maxRecDepth 100000 in
theorem ye_list127(A B k:Nat)(F:Value)(s:ByteArray)(hs:s.size <= 1000)(hB:B ≠ A)(W:World)(hA:W.heap[A]? = some (wrO s))(hp:W.cell? ⟨B,k,none⟩ = some (.slice none 0 0)) :
  Calls Tryz.prog 127 #[.iface 119 (.pointer (some ⟨A,0,none⟩)),.pointer (some ⟨B,k,none⟩),F] W fun e w' => e = .returned (.tuple #[]) /\ w'.heap[A]? = some (wrO (s ++ ⟨#[0]⟩)) /\ WrB W.heap.size A W w' := by
 have n1 := ye_n ⟨A,0,none⟩
 have m1 := ye_m ⟨A,0,none⟩
 have t1 := ye_t ⟨A,0,none⟩
 go_enter Tryz.func127,Tryz.ntmps127
 go_wp2
 go_region_with (go_at_call 434;refine(ye_count A s hs W.drew hA).mono ?_;rintro e w2 ⟨rfl,Ki,hb⟩;have zn := hb.cell hB hp)
 go_wp2
 all_goals
  go_loop [56] (fun i => i = Value.int .i64 0) (fun _ => 0)
  case atStart => rfl
  case round=>
   subst hrel
   go_wp2
   exact bodyPost_end (results_none rfl _ _ _) rfl ⟨rfl,Ki,hb.os,hb.tape,hb.output,hb.size,hb.block⟩
set_option maxRecDepth 100000 in
theorem ye_list129(A B k:Nat)(F:Value)(s:ByteArray)(hs:s.size <= 1000)(hB:B ≠ A)(W:World)(hA:W.heap[A]? = some (wrO s))(hp:W.cell? ⟨B,k,none⟩ = some (.slice none 0 0)) :
  Calls Tryz.prog 129 #[.iface 119 (.pointer (some ⟨A,0,none⟩)),.pointer (some ⟨B,k,none⟩),F] W fun e w' => e = .returned (.tuple #[]) /\ w'.heap[A]? = some (wrO (s ++ ⟨#[0]⟩)) /\ WrB W.heap.size A W w' := by
 have n1 := ye_n ⟨A,0,none⟩
 have m1 := ye_m ⟨A,0,none⟩
 have t1 := ye_t ⟨A,0,none⟩
 go_enter Tryz.func129,Tryz.ntmps129
 go_wp2
 go_region_with (go_at_call 434;refine(ye_count A s hs W.drew hA).mono ?_;rintro e w2 ⟨rfl,Ki,hb⟩;have zn := hb.cell hB hp)
 go_wp2
 all_goals
  go_loop [56] (fun i => i = Value.int .i64 0) (fun _ => 0)
  case atStart => rfl
  case round=>
   subst hrel
   go_wp2
   exact bodyPost_end (results_none rfl _ _ _) rfl ⟨rfl,Ki,hb.os,hb.tape,hb.output,hb.size,hb.block⟩
theorem WrB.trans{A:Nat}{a b c:World}(h:WrB a.heap.size A a b)(k:WrB b.heap.size A b c):WrB a.heap.size A a c:=
 ⟨k.os.trans h.os,k.tape.trans h.tape,k.output.trans h.output,Nat.le_trans h.size k.size,fun i hi hn => (k.block i (Nat.lt_of_lt_of_le hi h.size) hn).trans (h.block i hi hn)⟩
set_option maxRecDepth 100000 in
theorem ye_parts(A B:Nat)(hB:B ≠ A)(W:World)(hA:W.heap[A]? = some (wrO ⟨#[]⟩))(p0:W.cell? ⟨B,0,none⟩ = some (.slice none 0 0))(p1:W.cell? ⟨B,1,none⟩ = some (.slice none 0 0))(p2:W.cell? ⟨B,2,none⟩ = some (.slice none 0 0))(p3:W.cell? ⟨B,3,none⟩ = some (.slice none 0 0)) :
  Calls Tryz.prog 63 #[.iface 119 (.pointer (some ⟨A,0,none⟩)),.pointer (some ⟨B,0,none⟩)] W fun e w' => e = .returned (.tuple #[]) /\ w'.heap[A]? = some (wrO ⟨#[0,0,0,0]⟩) /\ WrB W.heap.size A W w' := by
 go_enter Tryz.func63,Tryz.ntmps63
 go_wp2_with (first | (go_at_call 120;refine(ye_list120 A B 0 _ ⟨#[]⟩ aa2 hB _ hA p0).mono ?_;rintro e w1 ⟨rfl,LG,b1⟩) | (go_at_call 125;refine(ye_list125 A B 1 _ _ aa2 hB _ LG (b1.cell hB p1)).mono ?_;rintro e w2 ⟨rfl,Ki,b2⟩;have c2 := b1.trans b2) | (go_at_call 127;refine(ye_list127 A B 2 _ _ aa2 hB _ Ki (c2.cell hB p2)).mono ?_;rintro e w3 ⟨rfl,hA3,b3⟩;have c3 := c2.trans b3) | (go_at_call 129;refine(ye_list129 A B 3 _ _ aa2 hB _ hA3 (c3.cell hB p3)).mono ?_;rintro e w4 ⟨rfl,hA4,b4⟩))
 exact bodyPost_end (results_none rfl _ _ _) rfl ⟨rfl,hA4,c3.trans b4⟩
end Go.Proofs
namespace Go.Proofs
open Go.Shelf Go.RowKit Go.Lib Go.Sort
def SpA:Type:={x:Int×Int // 0<=x.1/\x.1<=1000000}
instance:Inhabited SpA:=⟨⟨(0,0),by decide⟩⟩
def encSpA(x:SpA):List Value:=[.int .i64 x.1.1,.int .i64 x.1.2]
def cfSpA(x y:SpA):Int:=x.1.1-y.1.1
theorem Tryz.closure288(x y:SpA)(W:World):Calls Tryz.prog 288 #[.agg #[.int .i64 x.1.1,.int .i64 x.1.2],.agg #[.int .i64 y.1.1,.int .i64 y.1.2]] W fun e w'=>e=.returned (.int .i64 (cfSpA x y))/\∃q os',w'=grow (W.drewN q) os':=by
 obtain⟨⟨a,b⟩,h1,h2⟩:=x;obtain⟨⟨c,d⟩,h3,h4⟩:=y;dsimp only at h1 h2 h3 h4;have hw:IntKind.i64.wrap (a-c)=a-c:=by simp[IntKind.wrap,IntKind.bits,IntKind.signed];omega
 show Calls Tryz.prog 288 #[.agg #[.int .i64 a,.int .i64 b],.agg #[.int .i64 c,.int .i64 d]] W fun e w'=>e=.returned (.int .i64 (a-c))/\∃q os',w'=grow (W.drewN q) os'
 go_enter Tryz.func288,Tryz.ntmps288
 go_wp2
 go_ret
 exact⟨rfl,0,_,by rw[alloc_eq_grow,alloc_eq_grow,grow_grow];rfl⟩
def TmA:Type:=ByteArray×{v:Value // v.oneCell'=true}×{v:Value // v.oneCell'=true}
instance:Inhabited TmA:=⟨⟨ByteArray.empty,⟨.bool false,rfl⟩,⟨.bool false,rfl⟩⟩⟩
def encTmA(x:TmA):List Value:=[.string x.1,x.2.1.1,x.2.2.1]
def cfTmA(x y:TmA):Int:=Lib.compareBytes x.1.data.toList y.1.data.toList
theorem Tryz.closure351(x y:TmA)(W:World):Calls Tryz.prog 351 #[.agg #[.string x.1,x.2.1.1,x.2.2.1],.agg #[.string y.1,y.2.1.1,y.2.2.1]] W fun e w'=>e=.returned (.int .i64 (cfTmA x y))/\∃q os',w'=grow (W.drewN q) os':=by
 have hcon:=fun W'=>Any.strings_Compare Tryz.layCompare x.1 y.1 W';obtain⟨a,⟨b,hb⟩,⟨c,hc⟩⟩:=x;obtain⟨a',⟨b',bJ⟩,⟨c',yx⟩⟩:=y;dsimp only at hcon
 change ∀W',Calls Tryz.prog 85 _ _ _ at hcon
 unfold cfTmA;dsimp only;generalize Lib.compareBytes a.data.toList a'.data.toList=r at hcon⊢
 go_enter Tryz.func351,Tryz.ntmps351
 go_wp2_with (go_at_call 85;refine(hcon _).mono ?_;rintro e w' ⟨rfl,rfl⟩)
 go_ret
 exact⟨rfl,0,_,by rw[alloc_eq_grow,alloc_eq_grow,grow_grow];rfl⟩
end Go.Proofs
namespace Go.Eng
open Go.Proofs
variable {caps:List AV}{fF:Nat}{α:Type}{i:Nat}(l:List (Int×Int))(x:Sl)(v:Ver)(t:Tm)(r:Rl)(s:List Sl)
theorem pI:PC 178 [.agg (Il v)] (.agg [vi v.a,vi v.b,vi v.c]):=by
 refine Ps Ea Tryz.func178 rfl (Nz rfl) ?_;exact Yi (Nz rfl) (Yi (Nz rfl) (.refl _))
def part:Nat->Int
 |0=>v.a
 |1=>v.b
 |_=>v.c
theorem Vt{v:Ver}(h:¬okPart (part v i)):Ct v=false:=by
 unfold Ct
 match i,h with
 |0,h=>have h:¬okPart v.a:=h;simp[h]
 |1,h=>have h:¬okPart v.b:=h;simp[h]
 |_+2,h=>have h:¬okPart v.c:=h;simp[h]
theorem lJ:PC 101 [.agg (Il v)] (vb (Ct v)):=by
 refine Ps Ea Tryz.func101 rfl (Nz rfl) (Yi (Nz rfl) (Xi .pure (Xi _ (Yi (pI v) (Xi {i:Nat // i<=3/\∀j,j<i->okPart (part v j)} (Xi (fun i=>⟨[(6,.agg [vi v.a,vi v.b,vi v.c]),(7,vi i.1)],[],Ad⟩) (Xi (fun i=>3-i.1) (Yi (Xi ⟨0,by simp⟩ ?_) ?_))))))))
 .exact⟨Z2,Tv,Fh,Tv⟩
 .intro⟨i,h1,h2⟩;refine Yi ?_ ?_
  .intro h;have h:(i:Int)<3:=h;refine Yi ⟨by omega,by omega⟩ ?_;have hp:LJ (([vi v.a,vi v.b,vi v.c]).drop ((i:Int).toNat*1))=fun K=>K (vi (part v i)):=by
    match i,h with
    |0,_=>rfl
    |1,_=>rfl
    |2,_=>rfl
    |_+3,h=>omega
   show LJ (([vi v.a,vi v.b,vi v.c]).drop ((i:Int).toNat*1)) _;rw[hp];refine Yi ?_ ?_
   .intro h3;rw[Vt (i:=i) (by grind [okPart])];exact .refl _
   .intro h3;refine Yi ?_ ?_
    .intro h4;rw[Vt (i:=i) (by grind [okPart])];exact .refl _
    .intro h4;refine Yi (by grind [A8]) (Xi ⟨i+1,by omega,fun j hj=>?_⟩ ?_)
     .by_cases e:j=i
      .subst e;exact⟨by omega,by omega⟩
      grind
     .exact⟨by grind,Z2,Tv,Fh,Tv⟩
  .intro h;have h:¬(i:Int)<3:=h;have e:i=3:=B0
   have q:Ct v=true:=by
    unfold Ct;have a:=h2 0 B0;have b:=h2 1 B0
    grind [part]
   rw[q];exact .refl _
theorem pX:PC 113 [.agg (Il v)] (.tup [vi (if Ct v then place v else 0),vi (if Ct v then 0 else 2)]):=by
 refine Ps Ea Tryz.func113 rfl (Nz rfl) (Yi (Nz rfl) (Xi .pure (Xi _ (Yi (lJ v) ?_))));cases h:Ct v with
 |false=>exact .refl _
 |true=>
  have hv:=G3 h;refine Yi (by grind [A8]) ?_;exact Yi (by grind [A8]) (.refl _)
def CN(caps:List AV):Prop:=∀c∈caps,∀h,str0 h c=c
theorem CN.map{caps:List AV}(hs:CN caps)(h:Nat->HO):caps.map (str0 h)=caps:=by
 conv=>rhs;rw[<-Jk caps]
 exact Cf fun c hc=>hs c hc h
theorem CN.ids(hs:CN caps)(h:Nat->HO):XX h caps=true:=by
 induction caps with
 |nil=>rfl
 |cons c r ih=>
  have hc:=hs c (Ae ..) Ad;have h0:ids0 h c=true:=by
   cases c with
   |slice tk es=>cases tk with |none=>rfl |full sz=>grind [str0] |id r sz=>grind [str0] |ver r sz v=>grind [str0]
   |_=>first |rfl |grind [str0]
  unfold XX;rw[h0];exact ih fun c hc=>hs c (Ah _ hc)
def JI{α:Type}(p:α->Bool):List α->Int->Int
 | [],_=>-1
 |x::r,i=>if p x then i else JI p r (i+1)
theorem KC{α:Type}{p:α->Bool}:∀{l:List α} {i:Nat} {k:Int} (hi:i<l.length),(∀j (hj:j<l.length),j<i->p l[j]=false)->p l[i]=true->JI p l k=k+i
 |x::r,0,k,_,_,h=>by
  grind [JI]
 |x::r,i+1,k,hi,hb,h=>by
  have h0:p x=false:=hb 0 aa0 B0
  have:=KC (l:=r) (i:=i) (k:=k+1) aa1 (fun j hj JY=>hb (j+1) B0 B0) Wk
  grind [JI]
theorem Hs{α:Type}{p:α->Bool}:∀{l:List α} {k:Int},(∀j (hj:j<l.length),p l[j]=false)->JI p l k=-1
 | [],_,_=>rfl
 |x::r,k,h=>by
  have h0:p x=false:=h 0 aa0;simp only[JI,h0,Bool.false_eq_true,if_false];exact Hs fun j hj=>h (j+1) Wk
theorem Jr{α:Type}{p:α->Bool}:∀(l:List α) (k:Int),0<=k->decide (0<=JI p l k)=l.any p
 | [],k,_=>by simp[JI]
 |x::r,k,hk=>by
  unfold JI;cases h:p x with
  |true=>simp_all
  |false=>simp[h,Jr r (k+1) B0]
-- one for each type of elements
theorem xv(hs:CN caps)(l:List (Int×Int))(p:Int×Int->Bool)(hF:∀x∈l,PC fF ([.agg (Ap x)]++caps) (vb (p x)))(hl:l.length<9223372036854775807) :
  PC 189 [sl Ap l,.clo fF caps] (vi (JI p l 0)):=by
 refine Ps Ea Tryz.func189 rfl (Nz rfl) (Xi {i:Nat // i<=l.length/\∀j (hj:j<l.length),j<i->p l[j]=false} (Xi (fun i=>⟨[(0,sl Ap l),(1,.clo fF caps),(7,vi (l.map Ap).length),(8,vi i.1)],[],Ad⟩) (Xi (fun i=>l.length-i.1) (Yi (Xi ⟨0,by simp⟩ ?_) ?_))))
 .exact⟨⟨Zr,⟨rfl,hs.ids _⟩,Zr,Zr,Tv⟩,Tv,Fh,Tv⟩
 .intro⟨i,h1,h2⟩;refine Yi ?_ ?_
  .intro h;have h:i<l.length:=Wk
   have hg:l[i]?=some l[i]:=Ge h;refine Xi (Ap l[i]) (Yi (Yi B0 Wk) (Yi rfl (yN ?_)));have Cj:∀h,PC fF ([.agg (Ap l[i])]++caps.map (str0 h)) (vb (p l[i])):=fun h=>by rw[hs.map];grind
   cases hp:p l[i]with
   |true=>
    rw[hp]at Cj;refine Xi .pure (Xi (vb true) (Yi (Cj _) ?_));rw[KC h (fun j hj JY=>h2 j hj JY) hp,F0];exact .refl _
   |false=>
    rw[hp]at Cj;refine Xi .pure (Xi (vb false) (Yi (Cj _) (Yi (by grind [A8]) (Xi ⟨i+1,by omega,fun j hj JY=>?_⟩ ?_))))
    .grind
    .exact⟨by grind,⟨Zr,⟨rfl,hs.ids _⟩,Zr,Zr,Tv⟩,Tv,Fh,Tv⟩
  .intro h;have h:¬i<l.length:=Wk
   rw[Hs fun j hj=>h2 j hj B0];exact .refl _
abbrev Cz(l:List α):Prop:=l.length<=1073741824
theorem DK{α:Type}{enc:α->List AV}{n:Nat}(h:∀x,(enc x).length=n):∀l:List α,BX n (l.map enc)
 | []=>trivial
 |x::l=>⟨h x,DK h l⟩
theorem RA{x y:Int×Int}:Zn (Ap x) (Ap y)↔x=y:=by
 constructor
 .intro h;exact Prod.ext h.1 h.2.1
 .rintro rfl;exact⟨rfl,rfl,trivial⟩
abbrev AD(l:List Tm):List AV:=[sl Az l]
abbrev Di(s:ByteArray):List AV:=[vs s]
theorem xP(hs:CN caps)(l:List (Sl))(p:Sl->Bool)(hF:∀x∈l,PC fF ([.agg (Al x)]++caps) (vb (p x)))(hl:l.length<9223372036854775807) :
  PC 185 [sl Al l,.clo fF caps] (vi (JI p l 0)):=by
 refine CV (T4 Ea) rfl BB hm rfl Tryz.func185 aa3 rfl (Nz rfl) aa3 (Xi {i:Nat // i<=l.length/\∀j (hj:j<l.length),j<i->p l[j]=false} (Xi (fun i=>⟨[(0,sl Al l),(1,.clo fF caps),(7,vi (l.map Al).length),(8,vi i.1)],[],Ad⟩) (Xi (fun i=>l.length-i.1) (Yi (Xi ⟨0,by simp⟩ ?_) ?_))))
 .exact⟨⟨Zr,⟨rfl,hs.ids _⟩,Zr,Zr,Tv⟩,Tv,Fh,Tv⟩
 .intro⟨i,h1,h2⟩;refine Yi ?_ ?_
  .intro h;have h:i<l.length:=Wk
   have hg:l[i]?=some l[i]:=Ge h;refine Xi (Al l[i]) (Yi (Yi B0 Wk) (Yi rfl (yN ?_)));have Cj:∀h,PC fF ([.agg (Al l[i])]++caps.map (str0 h)) (vb (p l[i])):=fun h=>by rw[hs.map];simp_all
   cases hp:p l[i]with
   |true=>
    rw[hp]at Cj;refine Xi .pure (Xi (vb true) (Yi (Cj _) ?_));rw[KC h (fun j hj JY=>h2 j hj JY) hp,F0];exact .refl _
   |false=>
    rw[hp]at Cj;refine Xi .pure (Xi (vb false) (Yi (Cj _) (Yi (by grind [A8]) (Xi ⟨i+1,by omega,fun j hj JY=>?_⟩ ?_))))
    .grind
    .exact⟨by grind,⟨Zr,⟨rfl,hs.ids _⟩,Zr,Zr,Tv⟩,Tv,Fh,Tv⟩
  .intro h;have h:¬i<l.length:=Wk
   rw[Hs fun j hj=>h2 j hj B0];exact .refl _
theorem xh(hs:CN caps)(l:List (Rq))(p:Rq->Bool)(hF:∀x∈l,PC fF ([.agg (Af x)]++caps) (vb (p x)))(hl:l.length<9223372036854775807) :
  PC 114 [sl Af l,.clo fF caps] (vi (JI p l 0)):=by
 refine CV (T4 Ea) rfl BB hm rfl Tryz.func114 aa3 rfl (Nz rfl) aa3 (Xi {i:Nat // i<=l.length/\∀j (hj:j<l.length),j<i->p l[j]=false} (Xi (fun i=>⟨[(0,sl Af l),(1,.clo fF caps),(7,vi (l.map Af).length),(8,vi i.1)],[],Ad⟩) (Xi (fun i=>l.length-i.1) (Yi (Xi ⟨0,by simp⟩ ?_) ?_))))
 .exact⟨⟨Zr,⟨rfl,hs.ids _⟩,Zr,Zr,Tv⟩,Tv,Fh,Tv⟩
 .intro⟨i,h1,h2⟩;refine Yi ?_ ?_
  .intro h;have h:(i:Int)<(l.map Af).length:=h;have h:i<l.length:=Wk
   have hg:l[i]?=some l[i]:=Ge h;refine Xi (Af l[i]) (Yi (Yi B0 Wk) (Yi rfl (yN ?_)));have Cj:∀h,PC fF ([.agg (Af l[i])]++caps.map (str0 h)) (vb (p l[i])):=fun h=>by rw[hs.map];simp_all
   cases hp:p l[i]with
   |true=>
    rw[hp]at Cj;refine Xi .pure (Xi (vb true) (Yi (Cj _) ?_));rw[KC h (fun j hj JY=>h2 j hj JY) hp,F0];exact .refl _
   |false=>
    rw[hp]at Cj;refine Xi .pure (Xi (vb false) (Yi (Cj _) (Yi (by grind [A8]) (Xi ⟨i+1,by omega,fun j hj JY=>?_⟩ ?_))))
    .grind
    .exact⟨by grind,⟨Zr,⟨rfl,hs.ids _⟩,Zr,Zr,Tv⟩,Tv,Fh,Tv⟩
  .intro h;have h:¬(i:Int)<(l.map Af).length:=h;have h:¬i<l.length:=Wk
   rw[Hs fun j hj=>h2 j hj B0];exact .refl _
theorem lK(hs:CN caps)(l:List (Tm))(p:Tm->Bool)(hF:∀x∈l,PC fF ([.agg (Az x)]++caps) (vb (p x)))(hl:l.length<9223372036854775807) :
  PC 294 [sl Az l,.clo fF caps] (vi (JI p l 0)):=by
 refine CV (T4 Ea) rfl BB hm rfl Tryz.func294 aa3 rfl (Nz rfl) aa3 (Xi {i:Nat // i<=l.length/\∀j (hj:j<l.length),j<i->p l[j]=false} (Xi (fun i=>⟨[(0,sl Az l),(1,.clo fF caps),(7,vi (l.map Az).length),(8,vi i.1)],[],Ad⟩) (Xi (fun i=>l.length-i.1) (Yi (Xi ⟨0,by simp⟩ ?_) ?_))))
 .exact⟨⟨Zr,⟨rfl,hs.ids _⟩,Zr,Zr,Tv⟩,Tv,Fh,Tv⟩
 .intro⟨i,h1,h2⟩;refine Yi ?_ ?_
  .intro h;have h:i<l.length:=Wk
   have hg:l[i]?=some l[i]:=Ge h;refine Xi (Az l[i]) (Yi (Yi B0 Wk) (Yi rfl (yN ?_)));have Cj:∀h,PC fF ([.agg (Az l[i])]++caps.map (str0 h)) (vb (p l[i])):=fun h=>by rw[hs.map];simp_all
   cases hp:p l[i]with
   |true=>
    rw[hp]at Cj;refine Xi .pure (Xi (vb true) (Yi (Cj _) ?_));rw[KC h (fun j hj JY=>h2 j hj JY) hp,F0];exact .refl _
   |false=>
    rw[hp]at Cj;refine Xi .pure (Xi (vb false) (Yi (Cj _) (Yi (by grind [A8]) (Xi ⟨i+1,by omega,fun j hj JY=>?_⟩ ?_))))
    .grind
    .exact⟨by grind,⟨Zr,⟨rfl,hs.ids _⟩,Zr,Zr,Tv⟩,Tv,Fh,Tv⟩
  .intro h;have h:¬i<l.length:=Wk
   rw[Hs fun j hj=>h2 j hj B0];exact .refl _
theorem xf(hs:CN caps)(l:List (Int×Int))(p:Int×Int->Bool)(hF:∀x∈l,PC fF ([.agg (Ap x)]++caps) (vb (p x)))(hl:Cz l) :
  PC 111 [sl Ap l,.clo fF caps] (vb (l.any p)):=by
 refine CV (T4 Ea) rfl BB hm rfl Tryz.func111 aa3 rfl (Nz rfl) aa3 ?_;have hi:=xv hs l p hF B0;have Cj:∀h,PC 189 [sl Ap l,.clo fF (caps.map (str0 h))] (vi (JI p l 0)):=fun h=>by grind [CN.map]
 refine Xi .pure (Xi _ (Yi (Cj _) ?_));have ha:=Jr (p:=p) l 0 (Cp 0);refine Yi ?_ ?_
 .intro h;rw[<-ha,Ay h];exact .refl _
 .intro h;rw[<-ha,Au h];exact .refl _
theorem c51(hs:CN caps)(l:List (Sl))(p:Sl->Bool)(hF:∀x∈l,PC fF ([.agg (Al x)]++caps) (vb (p x)))(hl:Cz l) :
  PC 183 [sl Al l,.clo fF caps] (vb (l.any p)):=by
 refine CV (T4 Ea) rfl BB hm rfl Tryz.func183 aa3 rfl (Nz rfl) aa3 ?_;have hi:=xP hs l p hF B0;have Cj:∀h,PC 185 [sl Al l,.clo fF (caps.map (str0 h))] (vi (JI p l 0)):=fun h=>by grind [CN.map]
 refine Xi .pure (Xi _ (Yi (Cj _) ?_));have ha:=Jr (p:=p) l 0 (Cp 0);refine Yi ?_ ?_
 .intro h;rw[<-ha,Ay h];exact .refl _
 .intro h;rw[<-ha,Au h];exact .refl _
theorem xR(hs:CN caps)(l:List (Rq))(p:Rq->Bool)(hF:∀x∈l,PC fF ([.agg (Af x)]++caps) (vb (p x)))(hl:Cz l) :
  PC 56 [sl Af l,.clo fF caps] (vb (l.any p)):=by
 refine CV (T4 Ea) rfl BB hm rfl Tryz.func56 aa3 rfl (Nz rfl) aa3 ?_;have hi:=xh hs l p hF B0;have Cj:∀h,PC 114 [sl Af l,.clo fF (caps.map (str0 h))] (vi (JI p l 0)):=fun h=>by grind [CN.map]
 refine Xi .pure (Xi _ (Yi (Cj _) ?_));have ha:=Jr (p:=p) l 0 (Cp 0);refine Yi ?_ ?_
 .intro h;have h:(0:Int)<=JI p l 0:=h;rw[<-ha,Ay h];exact .refl _
 .intro h;have h:¬(0:Int)<=JI p l 0:=h;rw[<-ha,Au h];exact .refl _
theorem pH(hs:CN caps)(l:List (Tm))(p:Tm->Bool)(hF:∀x∈l,PC fF ([.agg (Az x)]++caps) (vb (p x)))(hl:Cz l) :
  PC 227 [sl Az l,.clo fF caps] (vb (l.any p)):=by
 refine CV (T4 Ea) rfl BB hm rfl Tryz.func227 aa3 rfl (Nz rfl) aa3 ?_;have hi:=lK hs l p hF B0;have Cj:∀h,PC 294 [sl Az l,.clo fF (caps.map (str0 h))] (vi (JI p l 0)):=fun h=>by grind [CN.map]
 refine Xi .pure (Xi _ (Yi (Cj _) ?_));have ha:=Jr (p:=p) l 0 (Cp 0);refine Yi ?_ ?_
 .intro h;rw[<-ha,Ay h];exact .refl _
 .intro h;rw[<-ha,Au h];exact .refl _
theorem sm(hl:Cz l):PC 39 [sl Ap l] (sl Ap l):=by
 refine CV (T4 Ea) rfl BB hm rfl Tryz.func39 aa3 rfl (Nz rfl) aa3 ?_;have DG:BX 2 (l.map Ap)/\([]:List (List AV)).length=0/\(([]:List (List AV)).length+(l.map Ap).length)*16<=140737488355328/\([]:List (List AV)).length+(l.map Ap).length<=9223372036854775807:=by
  grind [DK]
 refine Yi ?_ ?_
 .intro _;exact Yi DG (.refl _)
 .intro h;refine Yi ?_ ?_
  .show DW nzA (.slice .none (l.map Ap))
   grind [DW.nil]
  .exact Yi DG (.refl _)
theorem sn(m:List (Int×Int))(hl:Cz l):PC 254 [sl Ap l,sl Ap m] (vb (decide (l=m))):=by
 refine CV (T4 Ea) rfl BB hm rfl Tryz.func254 aa3 rfl (Nz rfl) aa3 (Yi ?_ ?_)
 .intro h
  have:l≠m:=fun e=>h (by rw[e])
  rw[Au this];exact .refl _
 .intro h;have CF:l.length=m.length:=aa1
  refine Xi {i:Nat // i<=l.length/\l.take i=m.take i} (Xi (fun i=>⟨[(0,sl Ap l),(1,sl Ap m),(12,vi (l.map Ap).length),(13,vi i.1)],[],Ad⟩) (Xi (fun i=>l.length-i.1) (Yi (Xi ⟨0,by simp⟩ ?_) ?_)))
  .exact⟨⟨Zr,Zr,Zr,Zr,Tv⟩,Tv,Fh,Tv⟩
  .intro⟨i,h1,h2⟩;refine Yi ?_ ?_
   .intro h;have h:i<l.length:=Wk
    have h' : i<m.length:=B0
    have hg:l[i]?=some l[i]:=Ge h;have yL : m[i]?=some m[i]:=Ge h';refine Xi (Ap l[i]) (Yi (Yi B0 Wk) (Yi rfl (yN ?_)));refine Xi (Ap m[i]) (Yi (Yi B0 Wk) (Yi rfl (yN ?_)));refine Yi ?_ ?_
    .intro h5;have e:l[i]=m[i]:=RA.1 h5;refine Yi aa3 (Yi (by grind [A8]) (Xi ⟨i+1,by omega,?_⟩ ?_))
     .grind [List.take_add_one]
     .exact⟨Dl l.length i B0,⟨Zr,Zr,Zr,Zr,Tv⟩,Tv,Fh,Tv⟩
    .intro h5;refine Yi aa3 ?_
     have:l≠m:=fun e=>h5 (RA.2 Wk)
     rw[Au this];exact .refl _
   .intro h;have h:¬i<l.length:=Wk
    have e:l=m:=by
     grind
    rw[Ay e];exact .refl _
abbrev li(l:List Nat):Nm:=⟨l,[],[],[],[],[],[],[],[],[],[]⟩
theorem CN.ptr(cs:List AV):CN [.cptr cs]:=fun c hc h=>by
 rw[AC.1 hc];rfl
theorem xg(s:Int×Int)(p:Int):PC 112 [.agg (Ap s),.cptr [vi p]] (vb (BS p s)):=by
 refine Ps Ea Tryz.func112 rfl (Nz rfl) (Yi ?_ ?_)
 .intro h;refine Yi ?_ ?_
  .intro h2;rw[show BS p s=true by grind [BS]];exact .refl _
  .intro h2;rw[show BS p s=false by grind [BS]];exact .refl _
 .intro h;rw[show BS p s=false by simp[BS,h]];exact .refl _
theorem pZ(s:List (Int×Int))(p:Int)(hl:Cz s):PC 54 [sl Ap s,vi p] (vb (has s p)):=by
 refine Ps (li [3]) Tryz.func54 rfl (Nz rfl) (Yi ?_ ?_)
 .intro h;refine Yi ?_ ?_
  .intro h2;refine Xi .pure (Xi _ (Yi (xf (CN.ptr [vi p]) s (BS p) (fun x _=>xg x p) hl) ?_));rw[show has s p=s.any (BS p) by grind [has]];cases s.any (BS p)<;>exact .refl _
  .intro h2;rw[show has s p=false by grind [has]];exact .refl _
 .intro h;rw[show has s p=false by simp[has,h]];exact .refl _
theorem xQ:PC 55 [.agg (At r)] (vi (plc r.ver)):=by
 refine Ps Ea Tryz.func55 rfl (Nz rfl) ?_;exact Yi (Nz rfl) (Xi .pure (Xi _ (Yi (pX r.ver) (.refl _))))
theorem c99:PC 359 [.agg (Al x),.cptr (Az t)] (vb (decide (x.path=t.path))):=by
 refine Ps Ea Tryz.func359 rfl (Nz rfl) (Yi ?_ ?_)
 .intro h;rw[Ay h];exact .refl _
 .intro h;rw[Au h];exact .refl _
theorem LR{α:Type}{p:α->Bool}:∀(l:List α) (k:Int),(JI p l k=-1/\l.find? p=none)\/∃i x,JI p l k=k+(i:Nat)/\l[i]?=some x/\l.find? p=some x
 | [],k=>.inl Zr
 |x::r,k=>by
  cases h:p x with
  |true=>exact .inr ⟨0,x,by simp[JI,h],rfl,by simp[h]⟩
  |false=>
   rcases LR (p:=p) r (k+1)with ⟨h1,h2⟩ | ⟨i,y,h1,h2,h3⟩
   .grind [JI]
   .exact .inr ⟨i+1,y,by grind [JI],by simp_all,by simp_all⟩
theorem c55(hl:Cz s)(ht:Cz t.set):PC 322 [.agg (Az t),sl Al s] (vb (GZ t s)):=by
 have hc:=xP (CN.ptr (Az t)) s (fun x=>decide (x.path=t.path)) (fun x _=>c99 x t) B0;unfold GZ;rcases LR (p:=fun x:Sl=>decide (x.path=t.path)) s 0 with ⟨h1,h2⟩ | ⟨i,x,h1,h2,h3⟩
 .rw[h1]at hc;rw[h2];refine Ps (li [2]) Tryz.func322 rfl (Nz rfl) (Xi .pure (Xi _ (Yi hc (Yi ?_ ?_))))
  .intro _;refine Yi ?_ ?_
   .intro h;rw[h];exact .refl _
   .intro h;rw[h];exact .refl _
  .intro h;exact absurd (show(-1:Int)<0 by decide) h
 .rw[h1,F0]at hc;rw[h3];have hg:(s.map Al)[((i:Nat):Int).toNat]?=some (Al x):=Wk
  have hp:=pX x.ver;dsimp only;rcases Bt (Ct x.ver)with hv | hv
  .rw[hv,As rfl,As rfl]at hp;rw[hv];refine Ps (li [2]) Tryz.func322 rfl (Nz rfl) (Xi .pure (Xi _ (Yi hc (Yi ?_ ?_))))
   .intro h;omega
   .intro _;refine Xi (Al x) (Yi (Yi B0 hg) (Yi rfl (yN (Xi .pure (Xi _ (Yi hp (Yi ?_ ?_)))))))
    .intro _;refine Xi .pure (Xi _ (Yi (pZ t.set (place x.ver) ht) ?_));exact .refl _
    .intro h;exact absurd rfl h
  .rw[hv,AB aa2,AB aa2]at hp;rw[hv];refine Ps (li [2]) Tryz.func322 rfl (Nz rfl) (Xi .pure (Xi _ (Yi hc (Yi ?_ ?_))))
   .intro h;omega
   .intro _;refine Xi (Al x) (Yi (Yi B0 hg) (Yi rfl (yN (Xi .pure (Xi _ (Yi hp (Yi ?_ ?_)))))))
    .intro h;omega
    .intro _;exact .refl _
theorem lr{p:α->Bool}{l:List α}(h:∀j (hj:j<l.length),j<i->p l[j]=true)(hi:¬i<l.length):l.all p=true:=by
 grind [List.mem_iff_getElem]
theorem pq{p:α->Bool}{l:List α}(hi:i<l.length)(h:p l[i]=false):l.all p=false:=by
 grind
abbrev Vz(l:List Tm):Prop:=Cz l/\∀t∈l,Cz t.set
theorem c26(l:List Tm)(s:List Sl)(hl:Vz l)(hs:Cz s):PC 257 [sl Az l,sl Al s] (vb (l.all fun t=>GZ t s)):=by
 have hc:∀i (h:i<l.length),PC 322 [.agg (Az l[i]),sl Al s] (vb (GZ l[i] s)):=fun i h=>c55 l[i] s hs (hl.2 _ (Am h));obtain⟨hl,_⟩:=hl;unfold Cz at hl;refine Ps Ea Tryz.func257 rfl (Nz rfl) (Xi {i:Nat // i<=l.length/\∀j (hj:j<l.length),j<i->GZ l[j] s=true} (Xi (fun i=>⟨[(0,sl Az l),(1,sl Al s),(7,vi (l.map Az).length),(8,vi i.1)],[],Ad⟩) (Xi (fun i=>l.length-i.1) (Yi (Xi ⟨0,by simp⟩ ?_) ?_))))
 .exact⟨Z4,Tv,Fh,Tv⟩
 .intro⟨i,h1,h2⟩;refine Yi ?_ ?_
  .intro h;have h:i<l.length:=Wk
   have hg:l[i]?=some l[i]:=Ge h;have v8:=hc i h;refine Xi (Az l[i]) (Yi (Yi B0 Wk) (Yi rfl (yN ?_)));cases hp:GZ l[i] s with
   |false=>
    rw[hp]at v8;refine Xi .pure (Xi _ (Yi v8 ?_));rw[pq (p:=fun t=>GZ t s) h hp];exact .refl _
   |true=>
    rw[hp]at v8;refine Xi .pure (Xi _ (Yi v8 (Yi (by grind [A8]) (Xi ⟨i+1,by omega,fun j hj JY=>?_⟩ ?_))))
    .grind
    .exact⟨by grind,Z4,Tv,Fh,Tv⟩
  .intro h;have h:¬i<l.length:=Wk
   rw[lr (p:=fun t=>GZ t s) h2 h];exact .refl _
theorem xj:PC 259 [.agg (Al x),.cptr (Az t)] (vb (decide (x.path=t.path))):=by
 refine Ps Ea Tryz.func259 rfl (Nz rfl) (Yi ?_ ?_)
 .intro h;rw[Ay h];exact .refl _
 .intro h;rw[Au h];exact .refl _
theorem xi(hs:Cz s):PC 258 [.agg (Az t),.cptr [sl Al s]] (vb (!Ch s t.path)):=by
 have hc:=c51 (CN.ptr (Az t)) s (fun x=>decide (x.path=t.path)) (fun x _=>xj x t) hs;unfold Ch;cases hp:s.any fun x=>decide (x.path=t.path)with
 |true=>
  rw[hp]at hc;refine Ps (li [2]) Tryz.func258 rfl (Nz rfl) ?_;exact Xi .pure (Xi _ (Yi hc (.refl _)))
 |false=>
  rw[hp]at hc;refine Ps (li [2]) Tryz.func258 rfl (Nz rfl) ?_;exact Xi .pure (Xi _ (Yi hc (.refl _)))
theorem xS(l:List Tm)(s:List Sl)(hl:Vz l)(hs:Cz s):PC 188 [sl Az l,sl Al s] (vb (B7 l s)):=by
 have hv:=c26 l s hl hs;have hc:=pH (CN.ptr [sl Al s]) l (fun t=>!Ch s t.path) (fun t _=>xi t s hs) hl.1;unfold B7 A4;cases h1:l.all fun t=>GZ t s with
 |false=>
  rw[h1]at hv;refine Ps (li [3]) Tryz.func188 rfl (Nz rfl) ?_;exact Xi .pure (Xi _ (Yi hv (.refl _)))
 |true=>
  rw[h1]at hv;cases h2:l.any fun t=>!Ch s t.path with
  |true=>
   rw[h2]at hc;refine Ps (li [3]) Tryz.func188 rfl (Nz rfl) ?_;exact Xi .pure (Xi _ (Yi hv (Xi .pure (Xi _ (Yi hc (.refl _))))))
  |false=>
   rw[h2]at hc;refine Ps (li [3]) Tryz.func188 rfl (Nz rfl) ?_;exact Xi .pure (Xi _ (Yi hv (Xi .pure (Xi _ (Yi hc (.refl _))))))
abbrev JT(a:An):List AV:=[vb a.found,sl Al a.sel,sl AR a.infs,sl AJ a.skips]
theorem pG:PC 98 [.agg (At r)] (.agg (Al ⟨r.path,r.ver⟩)):=by
 refine Ps Ea Tryz.func98 rfl (Nz rfl) ?_;exact Yi (Nz rfl) (Yi (Nz rfl) (Yi (Nz rfl) (.refl _)))
end Go.Eng
