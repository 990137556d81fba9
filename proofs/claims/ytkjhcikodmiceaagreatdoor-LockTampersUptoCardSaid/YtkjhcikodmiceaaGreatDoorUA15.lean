/- Lemmas 15. -/
import Derived.Test.YtkjhcikodmiceaaGreatDoorUA13
import Derived.Test.YtkjhcikodmiceaaGreatDoorUA02
import Derived.Shelf.SlSortCmp.WholeK
import Derived.Shelf.Sort.Plain
import Derived.Shelf.Small.Strs
import Derived.Shelf.Small.Bits
import Derived.Ground.SlsfProg
import Derived.Ground.NamesProg
import Derived.Shelf.SlSortCmp.NoneTotal
set_option maxHeartbeats 1000000
namespace Go.Eng
open Go.Proofs
variable {α:Type}{b0 b1 b2 b3:Bool}{a0:α}{b4:Bool}{a1:α}{b5:Bool}{a2 a3:α}{b6:Bool}{a4:α}{b7:Bool}{a5 a6:α}{b8:Bool}{a7:α}{b9:Bool}{a8:α}{X1:Bool}{a9:α}{l:List α}{V8:α}(i:Nat)(pl:MF)(b:Bool)
abbrev vi(n:Int):AV := .v (.int .i64 n)
abbrev vb:AV := .v (.bool b)
abbrev vs(s:ByteArray):AV := .v (.string s)
abbrev sl(enc:α -> List AV)(l:List α):AV := .slice .none (l.map enc)
abbrev Gi(v:Ver):List AV := [vi v.a,vi v.b,vi v.c]
abbrev Aj(s:Int×Int):List AV := [vi s.1,vi s.2]
abbrev Ac(q:Rq):List AV := [vs q.path,sl Aj q.set]
abbrev Al(r:Rl):List AV := [vs r.path,vi r.ver.a,vi r.ver.b,vi r.ver.c,sl Ac r.reqs,vs r.arch,vs r.ifc,vs r.cert,vb r.yanked]
abbrev Ah(s:Sl):List AV := [vs s.path,vi s.ver.a,vi s.ver.b,vi s.ver.c]
abbrev Am(t:Tm):List AV := [vs t.path,vb t.absent,sl Aj t.set]
abbrev AG(i:Nf):List AV := [vi i.kind,vs i.path,vi i.place,vi i.number,vi i.left,vi i.right]
abbrev Ay(s:Sk):List AV := [vs s.path,vi s.place,vi s.inf]
noncomputable abbrev Yy:Cx := ⟨Tryz.prog,jz,pl,false,0,fun _ _ _ _ => True⟩
noncomputable abbrev H5:Cx := ⟨Tryz.prog,jz,pl,true,0,fun _ _ _ _ => True⟩
abbrev D0:MF := ⟨[],[],[],[],[],[],[],[],[],[],[]⟩
abbrev PC(f:Nat)(args:List AV)(res:AV):Prop := KP Tryz.prog f args res
theorem hm:Tryz.prog.follows .mixedOrders = true := by rfl
theorem Zr{α:Sort _}{β:Sort _}{a:α}{b:β}:a = a /\ b = b := ⟨rfl,rfl⟩
theorem Nz{a b:Nat}(h:Nat.ble a b = true):a <= b := DB h
theorem Xi{α:Sort _}{p:α -> Prop}(w:α)(h:p w):Exists p := Exists.intro w h
theorem Yi{a b:Prop}(h:a)(k:b):a /\ b := And.intro h k
theorem Fh{st:St}{h:Nat -> HO}:∀j,Ab j = .free \/ (st.h j = Ab j /\ W7 h (Ab j) = true) := fun _ => .inl rfl
theorem Tv:True := trivial
theorem Ii(h:i <= 9223372036854775806):AQ ((i:Int) + 1) := by unfold AQ;omega
theorem Dl(n i:Nat)(h:i<n):n-(i + 1)<n-i := by omega
theorem Bt:b = true \/ b = false := Bool.eq_false_or_eq_true b
theorem Z1:(a0 = a0 /\ b0 = b0) /\ True := ⟨⟨rfl,rfl⟩,trivial⟩
theorem Z2:(a0 = a0 /\ b0 = b0) /\ (a1 = a1 /\ b1 = b1) /\ True := ⟨⟨rfl,rfl⟩,⟨rfl,rfl⟩,trivial⟩
theorem Z3:(a0 = a0 /\ b0 = b0) /\ (a1 = a1 /\ b1 = b1) /\ (a2 = a2 /\ b2 = b2) /\ True := ⟨⟨rfl,rfl⟩,⟨rfl,rfl⟩,⟨rfl,rfl⟩,trivial⟩
theorem Z4:(a0 = a0 /\ b0 = b0) /\ (a1 = a1 /\ b1 = b1) /\ (a2 = a2 /\ b2 = b2) /\ (a3 = a3 /\ b3 = b3) /\ True := ⟨⟨rfl,rfl⟩,⟨rfl,rfl⟩,⟨rfl,rfl⟩,⟨rfl,rfl⟩,trivial⟩
theorem Z5:(a0 = a0 /\ b0 = b0) /\ (a1 = a1 /\ b1 = b1) /\ (a2 = a2 /\ b2 = b2) /\ (a3 = a3 /\ b3 = b3) /\ (a4 = a4 /\ b4 = b4) /\ True := ⟨⟨rfl,rfl⟩,⟨rfl,rfl⟩,⟨rfl,rfl⟩,⟨rfl,rfl⟩,⟨rfl,rfl⟩,trivial⟩
theorem Z6:(a0 = a0 /\ b0 = b0) /\ (a1 = a1 /\ b1 = b1) /\ (a2 = a2 /\ b2 = b2) /\ (a3 = a3 /\ b3 = b3) /\ (a4 = a4 /\ b4 = b4) /\ (a5 = a5 /\ b5 = b5) /\ True := ⟨⟨rfl,rfl⟩,⟨rfl,rfl⟩,⟨rfl,rfl⟩,⟨rfl,rfl⟩,⟨rfl,rfl⟩,⟨rfl,rfl⟩,trivial⟩
theorem Z7:(a0 = a0 /\ b0 = b0) /\ (a1 = a1 /\ b1 = b1) /\ (a2 = a2 /\ b2 = b2) /\ (a3 = a3 /\ b3 = b3) /\ (a4 = a4 /\ b4 = b4) /\ (a5 = a5 /\ b5 = b5) /\ (a6 = a6 /\ b6 = b6) /\ True := ⟨⟨rfl,rfl⟩,⟨rfl,rfl⟩,⟨rfl,rfl⟩,⟨rfl,rfl⟩,⟨rfl,rfl⟩,⟨rfl,rfl⟩,⟨rfl,rfl⟩,trivial⟩
theorem Z8:(a0 = a0 /\ b0 = b0) /\ (a1 = a1 /\ b1 = b1) /\ (a2 = a2 /\ b2 = b2) /\ (a3 = a3 /\ b3 = b3) /\ (a4 = a4 /\ b4 = b4) /\ (a5 = a5 /\ b5 = b5) /\ (a6 = a6 /\ b6 = b6) /\ (a7 = a7 /\ b7 = b7) /\ True := ⟨⟨rfl,rfl⟩,⟨rfl,rfl⟩,⟨rfl,rfl⟩,⟨rfl,rfl⟩,⟨rfl,rfl⟩,⟨rfl,rfl⟩,⟨rfl,rfl⟩,⟨rfl,rfl⟩,trivial⟩
theorem Z9:(a0 = a0 /\ b0 = b0) /\ (a1 = a1 /\ b1 = b1) /\ (a2 = a2 /\ b2 = b2) /\ (a3 = a3 /\ b3 = b3) /\ (a4 = a4 /\ b4 = b4) /\ (a5 = a5 /\ b5 = b5) /\ (a6 = a6 /\ b6 = b6) /\ (a7 = a7 /\ b7 = b7) /\ (a8 = a8 /\ b8 = b8) /\ True := ⟨⟨rfl,rfl⟩,⟨rfl,rfl⟩,⟨rfl,rfl⟩,⟨rfl,rfl⟩,⟨rfl,rfl⟩,⟨rfl,rfl⟩,⟨rfl,rfl⟩,⟨rfl,rfl⟩,⟨rfl,rfl⟩,trivial⟩
theorem Z10:(a0 = a0 /\ b0 = b0) /\ (a1 = a1 /\ b1 = b1) /\ (a2 = a2 /\ b2 = b2) /\ (a3 = a3 /\ b3 = b3) /\ (a4 = a4 /\ b4 = b4) /\ (a5 = a5 /\ b5 = b5) /\ (a6 = a6 /\ b6 = b6) /\ (a7 = a7 /\ b7 = b7) /\ (a8 = a8 /\ b8 = b8) /\ (a9 = a9 /\ b9 = b9) /\ True := ⟨⟨rfl,rfl⟩,⟨rfl,rfl⟩,⟨rfl,rfl⟩,⟨rfl,rfl⟩,⟨rfl,rfl⟩,⟨rfl,rfl⟩,⟨rfl,rfl⟩,⟨rfl,rfl⟩,⟨rfl,rfl⟩,⟨rfl,rfl⟩,trivial⟩
theorem Z11:(a0 = a0 /\ b0 = b0) /\ (a1 = a1 /\ b1 = b1) /\ (a2 = a2 /\ b2 = b2) /\ (a3 = a3 /\ b3 = b3) /\ (a4 = a4 /\ b4 = b4) /\ (a5 = a5 /\ b5 = b5) /\ (a6 = a6 /\ b6 = b6) /\ (a7 = a7 /\ b7 = b7) /\ (a8 = a8 /\ b8 = b8) /\ (a9 = a9 /\ b9 = b9) /\ (V8 = V8 /\ X1 = X1) /\ True := ⟨⟨rfl,rfl⟩,⟨rfl,rfl⟩,⟨rfl,rfl⟩,⟨rfl,rfl⟩,⟨rfl,rfl⟩,⟨rfl,rfl⟩,⟨rfl,rfl⟩,⟨rfl,rfl⟩,⟨rfl,rfl⟩,⟨rfl,rfl⟩,⟨rfl,rfl⟩,trivial⟩
theorem Z12{ZM:α}{nw:Bool}:(a0 = a0 /\ b0 = b0) /\ (a1 = a1 /\ b1 = b1) /\ (a2 = a2 /\ b2 = b2) /\ (a3 = a3 /\ b3 = b3) /\ (a4 = a4 /\ b4 = b4) /\ (a5 = a5 /\ b5 = b5) /\ (a6 = a6 /\ b6 = b6) /\ (a7 = a7 /\ b7 = b7) /\ (a8 = a8 /\ b8 = b8) /\ (a9 = a9 /\ b9 = b9) /\ (V8 = V8 /\ X1 = X1) /\ (ZM = ZM /\ nw = nw) /\ True := ⟨⟨rfl,rfl⟩,⟨rfl,rfl⟩,⟨rfl,rfl⟩,⟨rfl,rfl⟩,⟨rfl,rfl⟩,⟨rfl,rfl⟩,⟨rfl,rfl⟩,⟨rfl,rfl⟩,⟨rfl,rfl⟩,⟨rfl,rfl⟩,⟨rfl,rfl⟩,⟨rfl,rfl⟩,trivial⟩
theorem Z13{ZM a12:α}{nw tu:Bool}:(a0 = a0 /\ b0 = b0) /\ (a1 = a1 /\ b1 = b1) /\ (a2 = a2 /\ b2 = b2) /\ (a3 = a3 /\ b3 = b3) /\ (a4 = a4 /\ b4 = b4) /\ (a5 = a5 /\ b5 = b5) /\ (a6 = a6 /\ b6 = b6) /\ (a7 = a7 /\ b7 = b7) /\ (a8 = a8 /\ b8 = b8) /\ (a9 = a9 /\ b9 = b9) /\ (V8 = V8 /\ X1 = X1) /\ (ZM = ZM /\ nw = nw) /\ (a12 = a12 /\ tu = tu) /\ True := ⟨⟨rfl,rfl⟩,⟨rfl,rfl⟩,⟨rfl,rfl⟩,⟨rfl,rfl⟩,⟨rfl,rfl⟩,⟨rfl,rfl⟩,⟨rfl,rfl⟩,⟨rfl,rfl⟩,⟨rfl,rfl⟩,⟨rfl,rfl⟩,⟨rfl,rfl⟩,⟨rfl,rfl⟩,⟨rfl,rfl⟩,trivial⟩
theorem Nn:(0:Int) <= (i:Int) := Int.natCast_nonneg i
abbrev Ic(x:List Rl)(ifs:List (List AV)):List AV := [sl Al x,.slice .none ifs]
theorem Ps{f:Nat}{fn:Func}{c:Code}{args:List AV}{res:AV}(hf:Tryz.prog.funcs[f]? = some fn)(hb:fn.body = some c)(hN:args.length <= fn.ntmps)(hk:Qj (Yy pl) c (nY (Yy pl) fn.results.toList fun r => DC r res) ⟨NH args,Ab⟩)(hn : (fn.name == "runtime.NumGoroutine") = false := by kernel_rfl)(hc : DS fn.ntmps c = true := by kernel_rfl) : KP Tryz.prog f args res := Em (Yy pl) rfl Bu hm rfl hf hn hb hN hc hk
theorem Lm{β:Type}(f:α -> β):(l.map f).length = l.length := A2 f
theorem Ge{i:Nat}(h:i<l.length):l[i]? = some l[i] := AK h
end Go.Eng
namespace Go.Proofs
open Go.Shelf
def Tryz.layPdqSpan_ren:Go.Shelf.Ren:=⟨fun | 14=>339 | 20=>367 | 21=>368 | 22=>369 | 23=>370 | 24=>371 | 25=>372 | 26=>373 | 27=>374 | 46=>386 | 47=>283 | 48=>284 | 49=>387 | 50=>388 | 15=>146 | 57=>401 | 28=>219 | 29=>220 | n=>n,fun | 24=>64 | 22=>65 | 3=>3 | 25=>378 | 4=>4 | 0=>0 | 46=>309 | 45=>308 | 50=>150 | 66=>372 | 39=>240 | 55=>229 | 70=>208 | 76=>408 | 77=>409 | 53=>299 | 5=>5 | 9=>9 | n=>n,fun | n=>n⟩
theorem Tryz.layPdqSpan:Go.Proofs.SlLaysF0.n14 Tryz.prog Tryz.layPdqSpan_ren:={
 mixed:=by kernel_rfl
 f14:=⟨Tryz.f339.name,by decide,Go.Eng.A0a Tryz.func339⟩
 f15:=Go.Eng.A0a Tryz.func146
 f20:=⟨Tryz.f367.name,by decide,Go.Eng.A0a Tryz.func367⟩
 f21:=⟨Tryz.f368.name,by decide,Go.Eng.A0a Tryz.func368⟩
 f22:=⟨Tryz.f369.name,by decide,Go.Eng.A0a Tryz.func369⟩
 f23:=⟨Tryz.f370.name,by decide,Go.Eng.A0a Tryz.func370⟩
 f24:=⟨Tryz.f371.name,by decide,Go.Eng.A0a Tryz.func371⟩
 f25:=⟨Tryz.f372.name,by decide,Go.Eng.A0a Tryz.func372⟩
 f26:=⟨Tryz.f373.name,by decide,Go.Eng.A0a Tryz.func373⟩
 f27:=⟨Tryz.f374.name,by decide,Go.Eng.A0a Tryz.func374⟩
 f28:=Go.Eng.A0a Tryz.func219
 f29:=Go.Eng.A0a Tryz.func220
 f46:=⟨Tryz.f386.name,by decide,Go.Eng.A0a Tryz.func386⟩
 f47:=Go.Eng.A0a Tryz.func283
 f48:=Go.Eng.A0a Tryz.func284
 f49:=⟨Tryz.f387.name,by decide,Go.Eng.A0a Tryz.func387⟩
 f50:=⟨Tryz.f388.name,by decide,Go.Eng.A0a Tryz.func388⟩
 f57:=⟨Tryz.f401.name,by decide,Go.Eng.A0a Tryz.func401⟩
 t0:=Tryz.underlying0
 a0:=Tryz.isAgg0
 z0:=Tryz.sizeOf0
 v0:=Tryz.zeroValue0
 t3:=Tryz.underlying3
 a3:=Tryz.isAgg3
 z3:=Tryz.sizeOf3
 v3:=Tryz.zeroValue3
 t4:=Tryz.underlying4
 a4:=Tryz.isAgg4
 z4:=Tryz.sizeOf4
 v4:=Tryz.zeroValue4
 t5:=Tryz.underlying5
 a5:=Tryz.isAgg5
 z5:=Tryz.sizeOf5
 v5:=Tryz.zeroValue5
 t9:=Tryz.underlying9
 a9:=Tryz.isAgg9
 z9:=Tryz.sizeOf9
 v9:=Tryz.zeroValue9
 t22:=Tryz.underlying65
 a22:=Tryz.isAgg65
 z22:=Tryz.sizeOf65
 v22:=Tryz.zeroValue65
 t25:=Tryz.underlying378
 a25:=Tryz.isAgg378
 z25:=Tryz.sizeOf378
 v25:=Tryz.zeroValue378
 t39:=Tryz.underlying240
 a39:=Tryz.isAgg240
 z39:=Tryz.sizeOf240
 v39:=Tryz.zeroValue240
 t45:=Tryz.underlying308
 a45:=Tryz.isAgg308
 z45:=Tryz.sizeOf308
 v45:=Tryz.zeroValue308
 t46:=Tryz.underlying309
 a46:=Tryz.isAgg309
 z46:=Tryz.sizeOf309
 v46:=Tryz.zeroValue309
 t50:=Tryz.underlying150
 a50:=Tryz.isAgg150
 z50:=Tryz.sizeOf150
 v50:=Tryz.zeroValue150
 t53:=Tryz.underlying299
 a53:=Tryz.isAgg299
 z53:=Tryz.sizeOf299
 v53:=Tryz.zeroValue299
 t55:=Tryz.underlying229
 a55:=Tryz.isAgg229
 z55:=Tryz.sizeOf229
 v55:=Tryz.zeroValue229
 t66:=Tryz.underlying372
 a66:=Tryz.isAgg372
 z66:=Tryz.sizeOf372
 v66:=Tryz.zeroValue372
 t70:=Tryz.underlying208
 a70:=Tryz.isAgg208
 z70:=Tryz.sizeOf208
 v70:=Tryz.zeroValue208
 t76:=Tryz.underlying408
 a76:=Tryz.isAgg408
 z76:=Tryz.sizeOf408
 v76:=Tryz.zeroValue408
 t77:=Tryz.underlying409
 a77:=Tryz.isAgg409
 z77:=Tryz.sizeOf409
 v77:=Tryz.zeroValue409 }
def Tryz.layPdqTerm_ren:Go.Shelf.Ren:=⟨fun | 14=>377 | 20=>391 | 21=>392 | 22=>393 | 23=>394 | 24=>395 | 25=>396 | 26=>397 | 27=>398 | 46=>411 | 47=>283 | 48=>284 | 49=>412 | 50=>413 | 15=>146 | 57=>417 | 28=>219 | 29=>220 | n=>n,fun | 24=>325 | 22=>257 | 3=>3 | 25=>418 | 4=>4 | 0=>0 | 46=>309 | 45=>308 | 50=>150 | 66=>372 | 39=>240 | 55=>229 | 70=>208 | 76=>408 | 77=>409 | 53=>299 | 5=>5 | 9=>9 | n=>n,fun | n=>n⟩
theorem Tryz.layPdqTerm:Go.Proofs.SlLaysF0.n14 Tryz.prog Tryz.layPdqTerm_ren:={
 mixed:=by kernel_rfl
 f14:=⟨Tryz.f377.name,by decide,Go.Eng.A0a Tryz.func377⟩
 f15:=Go.Eng.A0a Tryz.func146
 f20:=⟨Tryz.f391.name,by decide,Go.Eng.A0a Tryz.func391⟩
 f21:=⟨Tryz.f392.name,by decide,Go.Eng.A0a Tryz.func392⟩
 f22:=⟨Tryz.f393.name,by decide,Go.Eng.A0a Tryz.func393⟩
 f23:=⟨Tryz.f394.name,by decide,Go.Eng.A0a Tryz.func394⟩
 f24:=⟨Tryz.f395.name,by decide,Go.Eng.A0a Tryz.func395⟩
 f25:=⟨Tryz.f396.name,by decide,Go.Eng.A0a Tryz.func396⟩
 f26:=⟨Tryz.f397.name,by decide,Go.Eng.A0a Tryz.func397⟩
 f27:=⟨Tryz.f398.name,by decide,Go.Eng.A0a Tryz.func398⟩
 f28:=Go.Eng.A0a Tryz.func219
 f29:=Go.Eng.A0a Tryz.func220
 f46:=⟨Tryz.f411.name,by decide,Go.Eng.A0a Tryz.func411⟩
 f47:=Go.Eng.A0a Tryz.func283
 f48:=Go.Eng.A0a Tryz.func284
 f49:=⟨Tryz.f412.name,by decide,Go.Eng.A0a Tryz.func412⟩
 f50:=⟨Tryz.f413.name,by decide,Go.Eng.A0a Tryz.func413⟩
 f57:=⟨Tryz.f417.name,by decide,Go.Eng.A0a Tryz.func417⟩
 t0:=Tryz.underlying0
 a0:=Tryz.isAgg0
 z0:=Tryz.sizeOf0
 v0:=Tryz.zeroValue0
 t3:=Tryz.underlying3
 a3:=Tryz.isAgg3
 z3:=Tryz.sizeOf3
 v3:=Tryz.zeroValue3
 t4:=Tryz.underlying4
 a4:=Tryz.isAgg4
 z4:=Tryz.sizeOf4
 v4:=Tryz.zeroValue4
 t5:=Tryz.underlying5
 a5:=Tryz.isAgg5
 z5:=Tryz.sizeOf5
 v5:=Tryz.zeroValue5
 t9:=Tryz.underlying9
 a9:=Tryz.isAgg9
 z9:=Tryz.sizeOf9
 v9:=Tryz.zeroValue9
 t22:=Tryz.underlying257
 a22:=Tryz.isAgg257
 z22:=Tryz.sizeOf257
 v22:=Tryz.zeroValue257
 t25:=Tryz.underlying418
 a25:=Tryz.isAgg418
 z25:=Tryz.sizeOf418
 v25:=Tryz.zeroValue418
 t39:=Tryz.underlying240
 a39:=Tryz.isAgg240
 z39:=Tryz.sizeOf240
 v39:=Tryz.zeroValue240
 t45:=Tryz.underlying308
 a45:=Tryz.isAgg308
 z45:=Tryz.sizeOf308
 v45:=Tryz.zeroValue308
 t46:=Tryz.underlying309
 a46:=Tryz.isAgg309
 z46:=Tryz.sizeOf309
 v46:=Tryz.zeroValue309
 t50:=Tryz.underlying150
 a50:=Tryz.isAgg150
 z50:=Tryz.sizeOf150
 v50:=Tryz.zeroValue150
 t53:=Tryz.underlying299
 a53:=Tryz.isAgg299
 z53:=Tryz.sizeOf299
 v53:=Tryz.zeroValue299
 t55:=Tryz.underlying229
 a55:=Tryz.isAgg229
 z55:=Tryz.sizeOf229
 v55:=Tryz.zeroValue229
 t66:=Tryz.underlying372
 a66:=Tryz.isAgg372
 z66:=Tryz.sizeOf372
 v66:=Tryz.zeroValue372
 t70:=Tryz.underlying208
 a70:=Tryz.isAgg208
 z70:=Tryz.sizeOf208
 v70:=Tryz.zeroValue208
 t76:=Tryz.underlying408
 a76:=Tryz.isAgg408
 z76:=Tryz.sizeOf408
 v76:=Tryz.zeroValue408
 t77:=Tryz.underlying409
 a77:=Tryz.isAgg409
 z77:=Tryz.sizeOf409
 v77:=Tryz.zeroValue409 }
def Tryz.layPdqSel_ren:Go.Shelf.Ren:=⟨fun | 14=>157 | 20=>231 | 21=>232 | 22=>233 | 23=>234 | 24=>235 | 25=>236 | 26=>237 | 27=>238 | 46=>299 | 47=>283 | 48=>284 | 49=>300 | 50=>301 | 15=>146 | 57=>353 | 28=>219 | 29=>220 | n=>n,fun | 24=>45 | 22=>37 | 3=>3 | 25=>166 | 4=>4 | 0=>0 | 46=>309 | 45=>308 | 50=>150 | 66=>372 | 39=>240 | 55=>229 | 70=>208 | 76=>408 | 77=>409 | 53=>299 | 5=>5 | 9=>9 | n=>n,fun | n=>n⟩
theorem Tryz.layPdqSel:Go.Proofs.SlLaysF0.n14 Tryz.prog Tryz.layPdqSel_ren:={
 mixed:=by kernel_rfl
 f14:=⟨Tryz.f157.name,by decide,Go.Eng.A0a Tryz.func157⟩
 f15:=Go.Eng.A0a Tryz.func146
 f20:=⟨Tryz.f231.name,by decide,Go.Eng.A0a Tryz.func231⟩
 f21:=⟨Tryz.f232.name,by decide,Go.Eng.A0a Tryz.func232⟩
 f22:=⟨Tryz.f233.name,by decide,Go.Eng.A0a Tryz.func233⟩
 f23:=⟨Tryz.f234.name,by decide,Go.Eng.A0a Tryz.func234⟩
 f24:=⟨Tryz.f235.name,by decide,Go.Eng.A0a Tryz.func235⟩
 f25:=⟨Tryz.f236.name,by decide,Go.Eng.A0a Tryz.func236⟩
 f26:=⟨Tryz.f237.name,by decide,Go.Eng.A0a Tryz.func237⟩
 f27:=⟨Tryz.f238.name,by decide,Go.Eng.A0a Tryz.func238⟩
 f28:=Go.Eng.A0a Tryz.func219
 f29:=Go.Eng.A0a Tryz.func220
 f46:=⟨Tryz.f299.name,by decide,Go.Eng.A0a Tryz.func299⟩
 f47:=Go.Eng.A0a Tryz.func283
 f48:=Go.Eng.A0a Tryz.func284
 f49:=⟨Tryz.f300.name,by decide,Go.Eng.A0a Tryz.func300⟩
 f50:=⟨Tryz.f301.name,by decide,Go.Eng.A0a Tryz.func301⟩
 f57:=⟨Tryz.f353.name,by decide,Go.Eng.A0a Tryz.func353⟩
 t0:=Tryz.underlying0
 a0:=Tryz.isAgg0
 z0:=Tryz.sizeOf0
 v0:=Tryz.zeroValue0
 t3:=Tryz.underlying3
 a3:=Tryz.isAgg3
 z3:=Tryz.sizeOf3
 v3:=Tryz.zeroValue3
 t4:=Tryz.underlying4
 a4:=Tryz.isAgg4
 z4:=Tryz.sizeOf4
 v4:=Tryz.zeroValue4
 t5:=Tryz.underlying5
 a5:=Tryz.isAgg5
 z5:=Tryz.sizeOf5
 v5:=Tryz.zeroValue5
 t9:=Tryz.underlying9
 a9:=Tryz.isAgg9
 z9:=Tryz.sizeOf9
 v9:=Tryz.zeroValue9
 t22:=Tryz.underlying37
 a22:=Tryz.isAgg37
 z22:=Tryz.sizeOf37
 v22:=Tryz.zeroValue37
 t25:=Tryz.underlying166
 a25:=Tryz.isAgg166
 z25:=Tryz.sizeOf166
 v25:=Tryz.zeroValue166
 t39:=Tryz.underlying240
 a39:=Tryz.isAgg240
 z39:=Tryz.sizeOf240
 v39:=Tryz.zeroValue240
 t45:=Tryz.underlying308
 a45:=Tryz.isAgg308
 z45:=Tryz.sizeOf308
 v45:=Tryz.zeroValue308
 t46:=Tryz.underlying309
 a46:=Tryz.isAgg309
 z46:=Tryz.sizeOf309
 v46:=Tryz.zeroValue309
 t50:=Tryz.underlying150
 a50:=Tryz.isAgg150
 z50:=Tryz.sizeOf150
 v50:=Tryz.zeroValue150
 t53:=Tryz.underlying299
 a53:=Tryz.isAgg299
 z53:=Tryz.sizeOf299
 v53:=Tryz.zeroValue299
 t55:=Tryz.underlying229
 a55:=Tryz.isAgg229
 z55:=Tryz.sizeOf229
 v55:=Tryz.zeroValue229
 t66:=Tryz.underlying372
 a66:=Tryz.isAgg372
 z66:=Tryz.sizeOf372
 v66:=Tryz.zeroValue372
 t70:=Tryz.underlying208
 a70:=Tryz.isAgg208
 z70:=Tryz.sizeOf208
 v70:=Tryz.zeroValue208
 t76:=Tryz.underlying408
 a76:=Tryz.isAgg408
 z76:=Tryz.sizeOf408
 v76:=Tryz.zeroValue408
 t77:=Tryz.underlying409
 a77:=Tryz.isAgg409
 z77:=Tryz.sizeOf409
 v77:=Tryz.zeroValue409 }
def Tryz.layCompare_ren:Go.Shelf.Ren:=⟨fun | 106=>85 | 213=>158 | 265=>239 | n=>n,fun | 9=>9 | 3=>3 | n=>n,fun | n=>n⟩
theorem Tryz.layCompare:Go.Proofs.Lays.n106 Tryz.prog Tryz.layCompare_ren:={
 mixed:=by kernel_rfl
 f106:=Go.Eng.A0a Tryz.func85
 f213:=Go.Eng.A0a Tryz.func158
 f265:=Go.Eng.A0a Tryz.func239
 t3:=Tryz.underlying3
 a3:=Tryz.isAgg3
 z3:=Tryz.sizeOf3
 v3:=Tryz.zeroValue3
 t9:=Tryz.underlying9
 a9:=Tryz.isAgg9
 z9:=Tryz.sizeOf9
 v9:=Tryz.zeroValue9 }
def Tryz.layBits_ren:Go.Shelf.Ren:=⟨fun | 125=>146 | 128=>219 | 129=>220 | n=>n,fun | 46=>240 | 3=>3 | 51=>299 | 53=>229 | 4=>4 | 5=>5 | 9=>9 | n=>n,fun | n=>n⟩
theorem Tryz.layBits:Go.Proofs.Lays.n125 Tryz.prog Tryz.layBits_ren:={
 mixed:=by kernel_rfl
 f125:=Go.Eng.A0a Tryz.func146
 f128:=Go.Eng.A0a Tryz.func219
 f129:=Go.Eng.A0a Tryz.func220
 t3:=Tryz.underlying3
 a3:=Tryz.isAgg3
 z3:=Tryz.sizeOf3
 v3:=Tryz.zeroValue3
 t4:=Tryz.underlying4
 a4:=Tryz.isAgg4
 z4:=Tryz.sizeOf4
 v4:=Tryz.zeroValue4
 t5:=Tryz.underlying5
 a5:=Tryz.isAgg5
 z5:=Tryz.sizeOf5
 v5:=Tryz.zeroValue5
 t9:=Tryz.underlying9
 a9:=Tryz.isAgg9
 z9:=Tryz.sizeOf9
 v9:=Tryz.zeroValue9
 t46:=Tryz.underlying240
 a46:=Tryz.isAgg240
 z46:=Tryz.sizeOf240
 v46:=Tryz.zeroValue240
 t51:=Tryz.underlying299
 a51:=Tryz.isAgg299
 z51:=Tryz.sizeOf299
 v51:=Tryz.zeroValue299
 t53:=Tryz.underlying229
 a53:=Tryz.isAgg229
 z53:=Tryz.sizeOf229
 v53:=Tryz.zeroValue229 }
def Tryz.laySortInts_ren:Go.Shelf.Ren:=⟨fun | 189=>375 | 125=>146 | 257=>389 | 128=>219 | 129=>220 | 294=>402 | 295=>403 | 296=>404 | 297=>405 | 298=>406 | 299=>407 | 216=>408 | 300=>409 | 301=>410 | 328=>414 | 329=>283 | 330=>284 | 331=>415 | 332=>416 | 215=>313 | 343=>418 | n=>n,fun | 28=>132 | 3=>3 | 46=>240 | 0=>0 | 51=>299 | 53=>229 | 4=>4 | 183=>309 | 182=>308 | 131=>150 | 5=>5 | 9=>9 | 218=>372 | 222=>208 | 228=>408 | 229=>409 | n=>n,fun | n=>n⟩
theorem Tryz.laySortInts:Go.Proofs.Lays.n189 Tryz.prog Tryz.laySortInts_ren:={
 mixed:=by kernel_rfl
 f125:=Go.Eng.A0a Tryz.func146
 f128:=Go.Eng.A0a Tryz.func219
 f129:=Go.Eng.A0a Tryz.func220
 f189:=Go.Eng.A0a Tryz.func375
 f215:=Go.Eng.A0a Tryz.func313
 f216:=Go.Eng.A0a Tryz.func408
 f257:=Go.Eng.A0a Tryz.func389
 f294:=Go.Eng.A0a Tryz.func402
 f295:=Go.Eng.A0a Tryz.func403
 f296:=Go.Eng.A0a Tryz.func404
 f297:=Go.Eng.A0a Tryz.func405
 f298:=Go.Eng.A0a Tryz.func406
 f299:=Go.Eng.A0a Tryz.func407
 f300:=Go.Eng.A0a Tryz.func409
 f301:=Go.Eng.A0a Tryz.func410
 f328:=Go.Eng.A0a Tryz.func414
 f329:=Go.Eng.A0a Tryz.func283
 f330:=Go.Eng.A0a Tryz.func284
 f331:=Go.Eng.A0a Tryz.func415
 f332:=Go.Eng.A0a Tryz.func416
 f343:=Go.Eng.A0a Tryz.func418
 t0:=Tryz.underlying0
 a0:=Tryz.isAgg0
 z0:=Tryz.sizeOf0
 v0:=Tryz.zeroValue0
 t3:=Tryz.underlying3
 a3:=Tryz.isAgg3
 z3:=Tryz.sizeOf3
 v3:=Tryz.zeroValue3
 t4:=Tryz.underlying4
 a4:=Tryz.isAgg4
 z4:=Tryz.sizeOf4
 v4:=Tryz.zeroValue4
 t5:=Tryz.underlying5
 a5:=Tryz.isAgg5
 z5:=Tryz.sizeOf5
 v5:=Tryz.zeroValue5
 t9:=Tryz.underlying9
 a9:=Tryz.isAgg9
 z9:=Tryz.sizeOf9
 v9:=Tryz.zeroValue9
 t28:=Tryz.underlying132
 a28:=Tryz.isAgg132
 z28:=Tryz.sizeOf132
 v28:=Tryz.zeroValue132
 t46:=Tryz.underlying240
 a46:=Tryz.isAgg240
 z46:=Tryz.sizeOf240
 v46:=Tryz.zeroValue240
 t51:=Tryz.underlying299
 a51:=Tryz.isAgg299
 z51:=Tryz.sizeOf299
 v51:=Tryz.zeroValue299
 t53:=Tryz.underlying229
 a53:=Tryz.isAgg229
 z53:=Tryz.sizeOf229
 v53:=Tryz.zeroValue229
 t131:=Tryz.underlying150
 a131:=Tryz.isAgg150
 z131:=Tryz.sizeOf150
 v131:=Tryz.zeroValue150
 t182:=Tryz.underlying308
 a182:=Tryz.isAgg308
 z182:=Tryz.sizeOf308
 v182:=Tryz.zeroValue308
 t183:=Tryz.underlying309
 a183:=Tryz.isAgg309
 z183:=Tryz.sizeOf309
 v183:=Tryz.zeroValue309
 t218:=Tryz.underlying372
 a218:=Tryz.isAgg372
 z218:=Tryz.sizeOf372
 v218:=Tryz.zeroValue372
 t222:=Tryz.underlying208
 a222:=Tryz.isAgg208
 z222:=Tryz.sizeOf208
 v222:=Tryz.zeroValue208
 t228:=Tryz.underlying408
 a228:=Tryz.isAgg408
 z228:=Tryz.sizeOf408
 v228:=Tryz.zeroValue408
 t229:=Tryz.underlying409
 a229:=Tryz.isAgg409
 z229:=Tryz.sizeOf409
 v229:=Tryz.zeroValue409 }
end Go.Proofs
namespace Go.Proofs
open Go.Shelf Go.RowKit Go.Lib Go.Sort
def SpA:Type:={x:Int×Int // 0<=x.1/\x.1<=1000000}
instance:Inhabited SpA:=⟨⟨(0,0),by decide⟩⟩
def encSpA(x:SpA):List Value:=[.int .i64 x.1.1,.int .i64 x.1.2]
def cfSpA(x y:SpA):Int:=x.1.1-y.1.1
theorem Tryz.closure288(x y:SpA)(W:World):Calls Tryz.prog 288 #[.agg #[.int .i64 x.1.1,.int .i64 x.1.2],.agg #[.int .i64 y.1.1,.int .i64 y.1.2]] W fun e w'=>e=.returned (.int .i64 (cfSpA x y))/\∃q os',w'=grow (W.drewN q) os':=by
 obtain⟨⟨a,b⟩,h1,h2⟩:=x;obtain⟨⟨c,d⟩,h3,h4⟩:=y;dsimp only at h1 h2 h3 h4;have hw:IntKind.i64.wrap (a-c)=a-c:=by simp[IntKind.wrap,IntKind.bits,IntKind.signed];omega
 show Calls Tryz.prog 288 #[.agg #[.int .i64 a,.int .i64 b],.agg #[.int .i64 c,.int .i64 d]] W fun e w'=>e=.returned (.int .i64 (a-c))/\∃q os',w'=grow (W.drewN q) os'
 go_enter Tryz.func288,Tryz.ntmps288
 go_wp2
 go_ret
 exact⟨rfl,0,_,by rw[alloc_eq_grow,alloc_eq_grow,grow_grow];rfl⟩
def TmA:Type:=ByteArray×{v:Value // v.oneCell'=true}×{v:Value // v.oneCell'=true}
instance:Inhabited TmA:=⟨⟨ByteArray.empty,⟨.bool false,rfl⟩,⟨.bool false,rfl⟩⟩⟩
def encTmA(x:TmA):List Value:=[.string x.1,x.2.1.1,x.2.2.1]
def cfTmA(x y:TmA):Int:=Lib.compareBytes x.1.data.toList y.1.data.toList
theorem Tryz.closure351(x y:TmA)(W:World):Calls Tryz.prog 351 #[.agg #[.string x.1,x.2.1.1,x.2.2.1],.agg #[.string y.1,y.2.1.1,y.2.2.1]] W fun e w'=>e=.returned (.int .i64 (cfTmA x y))/\∃q os',w'=grow (W.drewN q) os':=by
 have hcon:=fun W'=>Any.strings_Compare Tryz.layCompare x.1 y.1 W';obtain⟨a,⟨b,hb⟩,⟨c,hc⟩⟩:=x;obtain⟨a',⟨b',oh⟩,⟨c',wj⟩⟩:=y;dsimp only at hcon
 change ∀W',Calls Tryz.prog 85 _ _ _ at hcon
 unfold cfTmA;dsimp only;generalize Lib.compareBytes a.data.toList a'.data.toList=r at hcon⊢
 go_enter Tryz.func351,Tryz.ntmps351
 go_wp2_with (go_at_call 85;refine(hcon _).mono ?_;rintro e w' ⟨rfl,rfl⟩)
 go_ret
 exact⟨rfl,0,_,by rw[alloc_eq_grow,alloc_eq_grow,grow_grow];rfl⟩
end Go.Proofs
namespace Go.Eng
open Go.Proofs
variable {caps:List AV}{fF:Nat}{α:Type}{i:Nat}(l:List (Int×Int))(x:Sl)(v:Ver)(t:Tm)(r:Rl)(s:List Sl)
theorem nD:PC 178 [.agg (Gi v)] (.agg [vi v.a,vi v.b,vi v.c]):=by
 refine Ps D0 Tryz.func178 rfl (Nz rfl) ?_;exact Yi (Nz rfl) (Yi (Nz rfl) (.refl _))
def part:Nat->Int
 |0=>v.a
 |1=>v.b
 |_=>v.c
theorem UI{v:Ver}(h:¬okPart (part v i)):Cf v=false:=by
 unfold Cf
 match i,h with
 |0,h=>have h:¬okPart v.a:=h;simp[h]
 |1,h=>have h:¬okPart v.b:=h;simp[h]
 |_+2,h=>have h:¬okPart v.c:=h;simp[h]
theorem jS:PC 101 [.agg (Gi v)] (vb (Cf v)):=by
 refine Ps D0 Tryz.func101 rfl (Nz rfl) (Yi (Nz rfl) (Xi .pure (Xi _ (Yi (nD v) (Xi {i:Nat // i<=3/\∀j,j<i->okPart (part v j)} (Xi (fun i=>⟨[(6,.agg [vi v.a,vi v.b,vi v.c]),(7,vi i.1)],[],Ab⟩) (Xi (fun i=>3-i.1) (Yi (Xi ⟨0,by simp⟩ ?_) ?_))))))))
 .exact⟨Z2,Tv,Fh,Tv⟩
 .intro⟨i,h1,h2⟩;refine Yi ?_ ?_
  .intro h;have h:(i:Int)<3:=h;refine Yi ⟨by omega,by omega⟩ ?_;have hp:K9 (([vi v.a,vi v.b,vi v.c]).drop ((i:Int).toNat*1))=fun K=>K (vi (part v i)):=by
    match i,h with
    |0,_=>rfl
    |1,_=>rfl
    |2,_=>rfl
    |_+3,h=>omega
   show K9 (([vi v.a,vi v.b,vi v.c]).drop ((i:Int).toNat*1)) _;rw[hp];refine Yi ?_ ?_
   .intro h3;rw[UI (i:=i) (by grind [okPart])];exact .refl _
   .intro h3;refine Yi ?_ ?_
    .intro h4;rw[UI (i:=i) (by grind [okPart])];exact .refl _
    .intro h4;refine Yi (by grind [AQ]) (Xi ⟨i+1,by omega,fun j hj=>?_⟩ ?_)
     .by_cases e:j=i
      .subst e;exact⟨by omega,by omega⟩
      grind
     .exact⟨by grind,Z2,Tv,Fh,Tv⟩
  .intro h;have h:¬(i:Int)<3:=h;have e:i=3:=by omega
   have q:Cf v=true:=by
    unfold Cf;have a:=h2 0 ch;have b:=h2 1 ch
    grind [part]
   rw[q];exact .refl _
theorem nR:PC 113 [.agg (Gi v)] (.tup [vi (if Cf v then place v else 0),vi (if Cf v then 0 else 2)]):=by
 refine Ps D0 Tryz.func113 rfl (Nz rfl) (Yi (Nz rfl) (Xi .pure (Xi _ (Yi (jS v) ?_))));cases h:Cf v with
 |false=>exact .refl _
 |true=>
  have hv:=GS h;refine Yi (by grind [AQ]) ?_;exact Yi (by grind [AQ]) (.refl _)
def Ct(caps:List AV):Prop:=∀c∈caps,∀h,str0 h c=c
theorem Ct.map{caps:List AV}(hs:Ct caps)(h:Nat->HO):caps.map (str0 h)=caps:=by
 conv=>rhs;rw[<-GI caps]
 exact BK fun c hc=>hs c hc h
theorem Ct.ids(hs:Ct caps)(h:Nat->HO):W8 h caps=true:=by
 induction caps with
 |nil=>rfl
 |cons c r ih=>
  have hc:=hs c (Ad ..) Ab;have h0:ids0 h c=true:=by
   cases c with
   |slice tk es=>cases tk with |none=>rfl |full sz=>grind [str0] |id r sz=>grind [str0] |ver r sz v=>grind [str0]
   |_=>first |rfl |grind [str0]
  unfold W8;rw[h0];exact ih fun c hc=>hs c (Af _ hc)
def IJ{α:Type}(p:α->Bool):List α->Int->Int
 | [],_=>-1
 |x::r,i=>if p x then i else IJ p r (i+1)
theorem J9{α:Type}{p:α->Bool}:∀{l:List α} {i:Nat} {k:Int} (hi:i<l.length),(∀j (hj:j<l.length),j<i->p l[j]=false)->p l[i]=true->IJ p l k=k+i
 |x::r,0,k,_,_,h=>by
  grind [IJ]
 |x::r,i+1,k,hi,hb,h=>by
  have h0:p x=false:=hb 0 B0 ch
  have:=J9 (l:=r) (i:=i) (k:=k+1) (by grind) (fun j hj Jy=>hb (j+1) ch ch) (by simp_all)
  grind [IJ]
theorem G8{α:Type}{p:α->Bool}:∀{l:List α} {k:Int},(∀j (hj:j<l.length),p l[j]=false)->IJ p l k=-1
 | [],_,_=>rfl
 |x::r,k,h=>by
  have h0:p x=false:=h 0 B0;simp only[IJ,h0,Ni,if_false];exact G8 fun j hj=>h (j+1) (by simp_all)
theorem IW{α:Type}{p:α->Bool}:∀(l:List α) (k:Int),0<=k->decide (0<=IJ p l k)=l.any p
 | [],k,_=>by simp[IJ]
 |x::r,k,hk=>by
  unfold IJ;cases h:p x with
  |true=>simp_all
  |false=>simp[h,IW r (k+1) ch]
-- one for each type of elements
theorem u9(hs:Ct caps)(l:List (Int×Int))(p:Int×Int->Bool)(hF:∀x∈l,PC fF ([.agg (Aj x)]++caps) (vb (p x)))(hl:l.length<9223372036854775807) :
  PC 189 [sl Aj l,.clo fF caps] (vi (IJ p l 0)):=by
 refine Ps D0 Tryz.func189 rfl (Nz rfl) (Xi {i:Nat // i<=l.length/\∀j (hj:j<l.length),j<i->p l[j]=false} (Xi (fun i=>⟨[(0,sl Aj l),(1,.clo fF caps),(7,vi (l.map Aj).length),(8,vi i.1)],[],Ab⟩) (Xi (fun i=>l.length-i.1) (Yi (Xi ⟨0,by simp⟩ ?_) ?_))))
 .exact⟨⟨Zr,⟨rfl,hs.ids _⟩,Zr,Zr,Tv⟩,Tv,Fh,Tv⟩
 .intro⟨i,h1,h2⟩;refine Yi ?_ ?_
  .intro h;have h:i<l.length:=by simp_all
   have hg:l[i]?=some l[i]:=Ge h;refine Xi (Aj l[i]) (Yi (Yi ch (by simp_all)) (Yi rfl (yN ?_)));have BX:∀h,PC fF ([.agg (Aj l[i])]++caps.map (str0 h)) (vb (p l[i])):=fun h=>by rw[hs.map];grind
   cases hp:p l[i]with
   |true=>
    rw[hp]at BX;refine Xi .pure (Xi (vb true) (Yi (BX _) ?_));rw[J9 h (fun j hj Jy=>h2 j hj Jy) hp,FJ];exact .refl _
   |false=>
    rw[hp]at BX;refine Xi .pure (Xi (vb false) (Yi (BX _) (Yi (by grind [AQ]) (Xi ⟨i+1,by omega,fun j hj Jy=>?_⟩ ?_))))
    .grind
    .exact⟨by grind,⟨Zr,⟨rfl,hs.ids _⟩,Zr,Zr,Tv⟩,Tv,Fh,Tv⟩
  .intro h;have h:¬i<l.length:=by simp_all
   rw[G8 fun j hj=>h2 j hj ch];exact .refl _
abbrev Cr(l:List α):Prop:=l.length<=1073741824
theorem Df{α:Type}{enc:α->List AV}{n:Nat}(h:∀x,(enc x).length=n):∀l:List α,BJ n (l.map enc)
 | []=>trivial
 |x::l=>⟨h x,Df h l⟩
theorem ZZ{x y:Int×Int}:WD (Aj x) (Aj y)↔x=y:=by
 constructor
 .intro h;exact Prod.ext h.1 h.2.1
 .rintro rfl;exact⟨rfl,rfl,trivial⟩
theorem mq{x y:Sl}:WD (Ah x) (Ah y)↔x=y:=by
 obtain⟨p,a,b,c⟩:=x;obtain⟨q,d,e,f⟩:=y;constructor
 .intro h;obtain⟨rfl,rfl,rfl,rfl,_⟩:=h
  rfl
 .intro h;cases h;exact⟨rfl,rfl,rfl,rfl,trivial⟩
abbrev Ap(l:List Tm):List AV:=[sl Am l]
abbrev CQ(s:ByteArray):List AV:=[vs s]
theorem vE(hs:Ct caps)(l:List (Sl))(p:Sl->Bool)(hF:∀x∈l,PC fF ([.agg (Ah x)]++caps) (vb (p x)))(hl:l.length<9223372036854775807) :
  PC 185 [sl Ah l,.clo fF caps] (vi (IJ p l 0)):=by
 refine Em (Yy D0) rfl Bu hm rfl Tryz.func185 aa0 rfl (Nz rfl) aa0 (Xi {i:Nat // i<=l.length/\∀j (hj:j<l.length),j<i->p l[j]=false} (Xi (fun i=>⟨[(0,sl Ah l),(1,.clo fF caps),(7,vi (l.map Ah).length),(8,vi i.1)],[],Ab⟩) (Xi (fun i=>l.length-i.1) (Yi (Xi ⟨0,by simp⟩ ?_) ?_))))
 .exact⟨⟨Zr,⟨rfl,hs.ids _⟩,Zr,Zr,Tv⟩,Tv,Fh,Tv⟩
 .intro⟨i,h1,h2⟩;refine Yi ?_ ?_
  .intro h;have h:i<l.length:=by simp_all
   have hg:l[i]?=some l[i]:=Ge h;refine Xi (Ah l[i]) (Yi (Yi ch (by simp_all)) (Yi rfl (yN ?_)));have BX:∀h,PC fF ([.agg (Ah l[i])]++caps.map (str0 h)) (vb (p l[i])):=fun h=>by rw[hs.map];simp_all
   cases hp:p l[i]with
   |true=>
    rw[hp]at BX;refine Xi .pure (Xi (vb true) (Yi (BX _) ?_));rw[J9 h (fun j hj Jy=>h2 j hj Jy) hp,FJ];exact .refl _
   |false=>
    rw[hp]at BX;refine Xi .pure (Xi (vb false) (Yi (BX _) (Yi (by grind [AQ]) (Xi ⟨i+1,by omega,fun j hj Jy=>?_⟩ ?_))))
    .grind
    .exact⟨by grind,⟨Zr,⟨rfl,hs.ids _⟩,Zr,Zr,Tv⟩,Tv,Fh,Tv⟩
  .intro h;have h:¬i<l.length:=by simp_all
   rw[G8 fun j hj=>h2 j hj ch];exact .refl _
theorem uN(hs:Ct caps)(l:List (Rq))(p:Rq->Bool)(hF:∀x∈l,PC fF ([.agg (Ac x)]++caps) (vb (p x)))(hl:l.length<9223372036854775807) :
  PC 114 [sl Ac l,.clo fF caps] (vi (IJ p l 0)):=by
 refine Em (Yy D0) rfl Bu hm rfl Tryz.func114 aa0 rfl (Nz rfl) aa0 (Xi {i:Nat // i<=l.length/\∀j (hj:j<l.length),j<i->p l[j]=false} (Xi (fun i=>⟨[(0,sl Ac l),(1,.clo fF caps),(7,vi (l.map Ac).length),(8,vi i.1)],[],Ab⟩) (Xi (fun i=>l.length-i.1) (Yi (Xi ⟨0,by simp⟩ ?_) ?_))))
 .exact⟨⟨Zr,⟨rfl,hs.ids _⟩,Zr,Zr,Tv⟩,Tv,Fh,Tv⟩
 .intro⟨i,h1,h2⟩;refine Yi ?_ ?_
  .intro h;have h:(i:Int)<(l.map Ac).length:=h;have h:i<l.length:=by simp_all
   have hg:l[i]?=some l[i]:=Ge h;refine Xi (Ac l[i]) (Yi (Yi ch (by simp_all)) (Yi rfl (yN ?_)));have BX:∀h,PC fF ([.agg (Ac l[i])]++caps.map (str0 h)) (vb (p l[i])):=fun h=>by rw[hs.map];simp_all
   cases hp:p l[i]with
   |true=>
    rw[hp]at BX;refine Xi .pure (Xi (vb true) (Yi (BX _) ?_));rw[J9 h (fun j hj Jy=>h2 j hj Jy) hp,FJ];exact .refl _
   |false=>
    rw[hp]at BX;refine Xi .pure (Xi (vb false) (Yi (BX _) (Yi (by grind [AQ]) (Xi ⟨i+1,by omega,fun j hj Jy=>?_⟩ ?_))))
    .grind
    .exact⟨by grind,⟨Zr,⟨rfl,hs.ids _⟩,Zr,Zr,Tv⟩,Tv,Fh,Tv⟩
  .intro h;have h:¬(i:Int)<(l.map Ac).length:=h;have h:¬i<l.length:=by simp_all
   rw[G8 fun j hj=>h2 j hj ch];exact .refl _
theorem jT(hs:Ct caps)(l:List (Tm))(p:Tm->Bool)(hF:∀x∈l,PC fF ([.agg (Am x)]++caps) (vb (p x)))(hl:l.length<9223372036854775807) :
  PC 294 [sl Am l,.clo fF caps] (vi (IJ p l 0)):=by
 refine Em (Yy D0) rfl Bu hm rfl Tryz.func294 aa0 rfl (Nz rfl) aa0 (Xi {i:Nat // i<=l.length/\∀j (hj:j<l.length),j<i->p l[j]=false} (Xi (fun i=>⟨[(0,sl Am l),(1,.clo fF caps),(7,vi (l.map Am).length),(8,vi i.1)],[],Ab⟩) (Xi (fun i=>l.length-i.1) (Yi (Xi ⟨0,by simp⟩ ?_) ?_))))
 .exact⟨⟨Zr,⟨rfl,hs.ids _⟩,Zr,Zr,Tv⟩,Tv,Fh,Tv⟩
 .intro⟨i,h1,h2⟩;refine Yi ?_ ?_
  .intro h;have h:i<l.length:=by simp_all
   have hg:l[i]?=some l[i]:=Ge h;refine Xi (Am l[i]) (Yi (Yi ch (by simp_all)) (Yi rfl (yN ?_)));have BX:∀h,PC fF ([.agg (Am l[i])]++caps.map (str0 h)) (vb (p l[i])):=fun h=>by rw[hs.map];simp_all
   cases hp:p l[i]with
   |true=>
    rw[hp]at BX;refine Xi .pure (Xi (vb true) (Yi (BX _) ?_));rw[J9 h (fun j hj Jy=>h2 j hj Jy) hp,FJ];exact .refl _
   |false=>
    rw[hp]at BX;refine Xi .pure (Xi (vb false) (Yi (BX _) (Yi (by grind [AQ]) (Xi ⟨i+1,by omega,fun j hj Jy=>?_⟩ ?_))))
    .grind
    .exact⟨by grind,⟨Zr,⟨rfl,hs.ids _⟩,Zr,Zr,Tv⟩,Tv,Fh,Tv⟩
  .intro h;have h:¬i<l.length:=by simp_all
   rw[G8 fun j hj=>h2 j hj ch];exact .refl _
theorem uL(hs:Ct caps)(l:List (Int×Int))(p:Int×Int->Bool)(hF:∀x∈l,PC fF ([.agg (Aj x)]++caps) (vb (p x)))(hl:Cr l) :
  PC 111 [sl Aj l,.clo fF caps] (vb (l.any p)):=by
 refine Em (Yy D0) rfl Bu hm rfl Tryz.func111 aa0 rfl (Nz rfl) aa0 ?_;have hi:=u9 hs l p hF ch;have BX:∀h,PC 189 [sl Aj l,.clo fF (caps.map (str0 h))] (vi (IJ p l 0)):=fun h=>by grind [Ct.map]
 refine Xi .pure (Xi _ (Yi (BX _) ?_));have ha:=IW (p:=p) l 0 (B6 0);refine Yi ?_ ?_
 .intro h;rw[<-ha,As h];exact .refl _
 .intro h;rw[<-ha,Av h];exact .refl _
theorem yS(hs:Ct caps)(l:List (Sl))(p:Sl->Bool)(hF:∀x∈l,PC fF ([.agg (Ah x)]++caps) (vb (p x)))(hl:Cr l) :
  PC 183 [sl Ah l,.clo fF caps] (vb (l.any p)):=by
 refine Em (Yy D0) rfl Bu hm rfl Tryz.func183 aa0 rfl (Nz rfl) aa0 ?_;have hi:=vE hs l p hF ch;have BX:∀h,PC 185 [sl Ah l,.clo fF (caps.map (str0 h))] (vi (IJ p l 0)):=fun h=>by grind [Ct.map]
 refine Xi .pure (Xi _ (Yi (BX _) ?_));have ha:=IW (p:=p) l 0 (B6 0);refine Yi ?_ ?_
 .intro h;rw[<-ha,As h];exact .refl _
 .intro h;rw[<-ha,Av h];exact .refl _
theorem vG(hs:Ct caps)(l:List (Rq))(p:Rq->Bool)(hF:∀x∈l,PC fF ([.agg (Ac x)]++caps) (vb (p x)))(hl:Cr l) :
  PC 56 [sl Ac l,.clo fF caps] (vb (l.any p)):=by
 refine Em (Yy D0) rfl Bu hm rfl Tryz.func56 aa0 rfl (Nz rfl) aa0 ?_;have hi:=uN hs l p hF ch;have BX:∀h,PC 114 [sl Ac l,.clo fF (caps.map (str0 h))] (vi (IJ p l 0)):=fun h=>by grind [Ct.map]
 refine Xi .pure (Xi _ (Yi (BX _) ?_));have ha:=IW (p:=p) l 0 (B6 0);refine Yi ?_ ?_
 .intro h;have h:(0:Int)<=IJ p l 0:=h;rw[<-ha,As h];exact .refl _
 .intro h;have h:¬(0:Int)<=IJ p l 0:=h;rw[<-ha,Av h];exact .refl _
theorem nC(hs:Ct caps)(l:List (Tm))(p:Tm->Bool)(hF:∀x∈l,PC fF ([.agg (Am x)]++caps) (vb (p x)))(hl:Cr l) :
  PC 227 [sl Am l,.clo fF caps] (vb (l.any p)):=by
 refine Em (Yy D0) rfl Bu hm rfl Tryz.func227 aa0 rfl (Nz rfl) aa0 ?_;have hi:=jT hs l p hF ch;have BX:∀h,PC 294 [sl Am l,.clo fF (caps.map (str0 h))] (vi (IJ p l 0)):=fun h=>by grind [Ct.map]
 refine Xi .pure (Xi _ (Yi (BX _) ?_));have ha:=IW (p:=p) l 0 (B6 0);refine Yi ?_ ?_
 .intro h;rw[<-ha,As h];exact .refl _
 .intro h;rw[<-ha,Av h];exact .refl _
theorem qm(hl:Cr l):PC 39 [sl Aj l] (sl Aj l):=by
 refine Em (Yy D0) rfl Bu hm rfl Tryz.func39 aa0 rfl (Nz rfl) aa0 ?_;have Di:BJ 2 (l.map Aj)/\([]:List (List AV)).length=0/\(([]:List (List AV)).length+(l.map Aj).length)*16<=140737488355328/\([]:List (List AV)).length+(l.map Aj).length<=9223372036854775807:=by
  grind [Df]
 refine Yi ?_ ?_
 .intro _;exact Yi Di (.refl _)
 .intro h;refine Yi ?_ ?_
  .show DC nzA (.slice .none (l.map Aj))
   grind [DC.nil]
  .exact Yi Di (.refl _)
theorem qn(m:List (Int×Int))(hl:Cr l):PC 254 [sl Aj l,sl Aj m] (vb (decide (l=m))):=by
 refine Em (Yy D0) rfl Bu hm rfl Tryz.func254 aa0 rfl (Nz rfl) aa0 (Yi ?_ ?_)
 .intro h
  have:l≠m:=fun e=>h (by rw[e])
  rw[Av this];exact .refl _
 .intro h;have B5:l.length=m.length:=by grind
  refine Xi {i:Nat // i<=l.length/\l.take i=m.take i} (Xi (fun i=>⟨[(0,sl Aj l),(1,sl Aj m),(12,vi (l.map Aj).length),(13,vi i.1)],[],Ab⟩) (Xi (fun i=>l.length-i.1) (Yi (Xi ⟨0,by simp⟩ ?_) ?_)))
  .exact⟨⟨Zr,Zr,Zr,Zr,Tv⟩,Tv,Fh,Tv⟩
  .intro⟨i,h1,h2⟩;refine Yi ?_ ?_
   .intro h;have h:i<l.length:=by simp_all
    have h' : i<m.length:=by omega
    have hg:l[i]?=some l[i]:=Ge h;have wC : m[i]?=some m[i]:=Ge h';refine Xi (Aj l[i]) (Yi (Yi ch (by simp_all)) (Yi rfl (yN ?_)));refine Xi (Aj m[i]) (Yi (Yi ch (by simp_all)) (Yi rfl (yN ?_)));refine Yi ?_ ?_
    .intro h5;have e:l[i]=m[i]:=ZZ.1 h5;refine Yi aa0 (Yi (by grind [AQ]) (Xi ⟨i+1,by omega,?_⟩ ?_))
     .grind [List.take_add_one]
     .exact⟨Dl l.length i ch,⟨Zr,Zr,Zr,Zr,Tv⟩,Tv,Fh,Tv⟩
    .intro h5;refine Yi aa0 ?_
     have:l≠m:=fun e=>h5 (ZZ.2 (by simp_all))
     rw[Av this];exact .refl _
   .intro h;have h:¬i<l.length:=by simp_all
    have e:l=m:=by
     grind
    rw[As e];exact .refl _
theorem c27(l m:List (Sl))(hl:Cr l):PC 14 [sl Ah l,sl Ah m] (vb (decide (l=m))):=by
 refine Em (Yy D0) rfl Bu hm rfl Tryz.func14 aa0 rfl (Nz rfl) aa0 (Yi ?_ ?_)
 .intro h
  have:l≠m:=fun e=>h (by rw[e])
  rw[Av this];exact .refl _
 .intro h;have B5:l.length=m.length:=by grind
  refine Xi {i:Nat // i<=l.length/\l.take i=m.take i} (Xi (fun i=>⟨[(0,sl Ah l),(1,sl Ah m),(12,vi (l.map Ah).length),(13,vi i.1)],[],Ab⟩) (Xi (fun i=>l.length-i.1) (Yi (Xi ⟨0,by simp⟩ ?_) ?_)))
  .exact⟨⟨Zr,Zr,Zr,Zr,Tv⟩,Tv,Fh,Tv⟩
  .intro⟨i,h1,h2⟩;refine Yi ?_ ?_
   .intro h;have h:i<l.length:=by simp_all
    have h' : i<m.length:=by omega
    have hg:l[i]?=some l[i]:=Ge h;have wC : m[i]?=some m[i]:=Ge h';refine Xi (Ah l[i]) (Yi (Yi ch (by simp_all)) (Yi rfl (yN ?_)));refine Xi (Ah m[i]) (Yi (Yi ch (by simp_all)) (Yi rfl (yN ?_)));refine Yi ?_ ?_
    .intro h5;have e:l[i]=m[i]:=mq.1 h5;refine Yi aa0 (Yi (by grind [AQ]) (Xi ⟨i+1,by omega,?_⟩ ?_))
     .grind [List.take_add_one]
     .exact⟨Dl l.length i ch,⟨Zr,Zr,Zr,Zr,Tv⟩,Tv,Fh,Tv⟩
    .intro h5;refine Yi aa0 ?_
     have:l≠m:=fun e=>h5 (mq.2 (by simp_all))
     rw[Av this];exact .refl _
   .intro h;have h:¬i<l.length:=by simp_all
    have e:l=m:=by
     grind
    rw[As e];exact .refl _
abbrev jx(l:List Nat):MF:=⟨l,[],[],[],[],[],[],[],[],[],[]⟩
theorem Ct.ptr(cs:List AV):Ct [.cptr cs]:=fun c hc h=>by
 rw[AB.1 hc];rfl
theorem uM(s:Int×Int)(p:Int):PC 112 [.agg (Aj s),.cptr [vi p]] (vb (BE p s)):=by
 refine Ps D0 Tryz.func112 rfl (Nz rfl) (Yi ?_ ?_)
 .intro h;refine Yi ?_ ?_
  .intro h2;rw[show BE p s=true by grind [BE]];exact .refl _
  .intro h2;rw[show BE p s=false by grind [BE]];exact .refl _
 .intro h;rw[show BE p s=false by simp[BE,h]];exact .refl _
theorem nT(s:List (Int×Int))(p:Int)(hl:Cr s):PC 54 [sl Aj s,vi p] (vb (has s p)):=by
 refine Ps (jx [3]) Tryz.func54 rfl (Nz rfl) (Yi ?_ ?_)
 .intro h;refine Yi ?_ ?_
  .intro h2;refine Xi .pure (Xi _ (Yi (uL (Ct.ptr [vi p]) s (BE p) (fun x _=>uM x p) hl) ?_));rw[show has s p=s.any (BE p) by grind [has]];cases s.any (BE p)<;>exact .refl _
  .intro h2;rw[show has s p=false by grind [has]];exact .refl _
 .intro h;rw[show has s p=false by simp[has,h]];exact .refl _
theorem vF:PC 55 [.agg (Al r)] (vi (plc r.ver)):=by
 refine Ps D0 Tryz.func55 rfl (Nz rfl) ?_;exact Yi (Nz rfl) (Xi .pure (Xi _ (Yi (nR r.ver) (.refl _))))
theorem c99:PC 359 [.agg (Ah x),.cptr (Am t)] (vb (decide (x.path=t.path))):=by
 refine Ps D0 Tryz.func359 rfl (Nz rfl) (Yi ?_ ?_)
 .intro h;rw[As h];exact .refl _
 .intro h;rw[Av h];exact .refl _
theorem Lc{α:Type}{p:α->Bool}:∀(l:List α) (k:Int),(IJ p l k=-1/\l.find? p=none)\/∃i x,IJ p l k=k+(i:Nat)/\l[i]?=some x/\l.find? p=some x
 | [],k=>.inl Zr
 |x::r,k=>by
  cases h:p x with
  |true=>exact .inr ⟨0,x,by simp[IJ,h],rfl,by simp[h]⟩
  |false=>
   rcases Lc (p:=p) r (k+1)with ⟨h1,h2⟩ | ⟨i,y,h1,h2,h3⟩
   .grind [IJ]
   .exact .inr ⟨i+1,y,by grind [IJ],by simp_all,by simp_all⟩
theorem c55(hl:Cr s)(ht:Cr t.set):PC 322 [.agg (Am t),sl Ah s] (vb (GO t s)):=by
 have hc:=vE (Ct.ptr (Am t)) s (fun x=>decide (x.path=t.path)) (fun x _=>c99 x t) ch;unfold GO;rcases Lc (p:=fun x:Sl=>decide (x.path=t.path)) s 0 with ⟨h1,h2⟩ | ⟨i,x,h1,h2,h3⟩
 .rw[h1]at hc;rw[h2];refine Ps (jx [2]) Tryz.func322 rfl (Nz rfl) (Xi .pure (Xi _ (Yi hc (Yi ?_ ?_))))
  .intro _;refine Yi ?_ ?_
   .intro h;rw[h];exact .refl _
   .intro h;rw[h];exact .refl _
  .intro h;exact absurd (show(-1:Int)<0 by decide) h
 .rw[h1,FJ]at hc;rw[h3];have hg:(s.map Ah)[((i:Nat):Int).toNat]?=some (Ah x):=by simp_all
  have hp:=nR x.ver;dsimp only;rcases Bt (Cf x.ver)with hv | hv
  .rw[hv,A1 rfl,A1 rfl]at hp;rw[hv];refine Ps (jx [2]) Tryz.func322 rfl (Nz rfl) (Xi .pure (Xi _ (Yi hc (Yi ?_ ?_))))
   .intro h;omega
   .intro _;refine Xi (Ah x) (Yi (Yi ch hg) (Yi rfl (yN (Xi .pure (Xi _ (Yi hp (Yi ?_ ?_)))))))
    .intro _;refine Xi .pure (Xi _ (Yi (nT t.set (place x.ver) ht) ?_));exact .refl _
    .intro h;exact absurd rfl h
  .rw[hv,AO Wk,AO Wk]at hp;rw[hv];refine Ps (jx [2]) Tryz.func322 rfl (Nz rfl) (Xi .pure (Xi _ (Yi hc (Yi ?_ ?_))))
   .intro h;omega
   .intro _;refine Xi (Ah x) (Yi (Yi ch hg) (Yi rfl (yN (Xi .pure (Xi _ (Yi hp (Yi ?_ ?_)))))))
    .intro h;omega
    .intro _;exact .refl _
theorem jF{p:α->Bool}{l:List α}(h:∀j (hj:j<l.length),j<i->p l[j]=true)(hi:¬i<l.length):l.all p=true:=by
 grind [List.mem_iff_getElem]
theorem np{p:α->Bool}{l:List α}(hi:i<l.length)(h:p l[i]=false):l.all p=false:=by
 grind
abbrev UO(l:List Tm):Prop:=Cr l/\∀t∈l,Cr t.set
theorem c26(l:List Tm)(s:List Sl)(hl:UO l)(hs:Cr s):PC 257 [sl Am l,sl Ah s] (vb (l.all fun t=>GO t s)):=by
 have hc:∀i (h:i<l.length),PC 322 [.agg (Am l[i]),sl Ah s] (vb (GO l[i] s)):=fun i h=>c55 l[i] s hs (hl.2 _ (Ao h));obtain⟨hl,_⟩:=hl;unfold Cr at hl;refine Ps D0 Tryz.func257 rfl (Nz rfl) (Xi {i:Nat // i<=l.length/\∀j (hj:j<l.length),j<i->GO l[j] s=true} (Xi (fun i=>⟨[(0,sl Am l),(1,sl Ah s),(7,vi (l.map Am).length),(8,vi i.1)],[],Ab⟩) (Xi (fun i=>l.length-i.1) (Yi (Xi ⟨0,by simp⟩ ?_) ?_))))
 .exact⟨Z4,Tv,Fh,Tv⟩
 .intro⟨i,h1,h2⟩;refine Yi ?_ ?_
  .intro h;have h:i<l.length:=by simp_all
   have hg:l[i]?=some l[i]:=Ge h;have tK:=hc i h;refine Xi (Am l[i]) (Yi (Yi ch (by simp_all)) (Yi rfl (yN ?_)));cases hp:GO l[i] s with
   |false=>
    rw[hp]at tK;refine Xi .pure (Xi _ (Yi tK ?_));rw[np (p:=fun t=>GO t s) h hp];exact .refl _
   |true=>
    rw[hp]at tK;refine Xi .pure (Xi _ (Yi tK (Yi (by grind [AQ]) (Xi ⟨i+1,by omega,fun j hj Jy=>?_⟩ ?_))))
    .grind
    .exact⟨by grind,Z4,Tv,Fh,Tv⟩
  .intro h;have h:¬i<l.length:=by simp_all
   rw[jF (p:=fun t=>GO t s) h2 h];exact .refl _
theorem uP:PC 259 [.agg (Ah x),.cptr (Am t)] (vb (decide (x.path=t.path))):=by
 refine Ps D0 Tryz.func259 rfl (Nz rfl) (Yi ?_ ?_)
 .intro h;rw[As h];exact .refl _
 .intro h;rw[Av h];exact .refl _
theorem uO(hs:Cr s):PC 258 [.agg (Am t),.cptr [sl Ah s]] (vb (!BU s t.path)):=by
 have hc:=yS (Ct.ptr (Am t)) s (fun x=>decide (x.path=t.path)) (fun x _=>uP x t) hs;unfold BU;cases hp:s.any fun x=>decide (x.path=t.path)with
 |true=>
  rw[hp]at hc;refine Ps (jx [2]) Tryz.func258 rfl (Nz rfl) ?_;exact Xi .pure (Xi _ (Yi hc (.refl _)))
 |false=>
  rw[hp]at hc;refine Ps (jx [2]) Tryz.func258 rfl (Nz rfl) ?_;exact Xi .pure (Xi _ (Yi hc (.refl _)))
theorem vH(l:List Tm)(s:List Sl)(hl:UO l)(hs:Cr s):PC 188 [sl Am l,sl Ah s] (vb (BG l s)):=by
 have hv:=c26 l s hl hs;have hc:=nC (Ct.ptr [sl Ah s]) l (fun t=>!BU s t.path) (fun t _=>uO t s hs) hl.1;unfold BG AN;cases h1:l.all fun t=>GO t s with
 |false=>
  rw[h1]at hv;refine Ps (jx [3]) Tryz.func188 rfl (Nz rfl) ?_;exact Xi .pure (Xi _ (Yi hv (.refl _)))
 |true=>
  rw[h1]at hv;cases h2:l.any fun t=>!BU s t.path with
  |true=>
   rw[h2]at hc;refine Ps (jx [3]) Tryz.func188 rfl (Nz rfl) ?_;exact Xi .pure (Xi _ (Yi hv (Xi .pure (Xi _ (Yi hc (.refl _))))))
  |false=>
   rw[h2]at hc;refine Ps (jx [3]) Tryz.func188 rfl (Nz rfl) ?_;exact Xi .pure (Xi _ (Yi hv (Xi .pure (Xi _ (Yi hc (.refl _))))))
abbrev IS(a:An):List AV:=[vb a.found,sl Ah a.sel,sl AG a.infs,sl Ay a.skips]
theorem nB:PC 98 [.agg (Al r)] (.agg (Ah ⟨r.path,r.ver⟩)):=by
 refine Ps D0 Tryz.func98 rfl (Nz rfl) ?_;exact Yi (Nz rfl) (Yi (Nz rfl) (Yi (Nz rfl) (.refl _)))
end Go.Eng
namespace Go.Eng
open Go.Proofs Go.Shelf Go.RowKit Go.Lib Go.Sort
variable (k:Nat)
theorem aE(x y:SpA):ltOf cfSpA x y=decide (x.1.1<y.1.1):=by
 unfold ltOf cfSpA;rw[CN];simp only[A5];omega
theorem i9:SWO (ltOf cfSpA) where
 irrefl x:=by rw[aE];simp
 trans x y z h1 h2:=by rw[aE]at *;simp at *;omega
 ntrans x y z h1 h2:=by rw[aE]at *;simp at *;omega
theorem Se:∀x y:List UInt8,decide (Lib.compareBytes x y<0)=JA x y
 | [],[]=>rfl
 | [],_::_=>rfl
 |_::_,[]=>rfl
 |a::x,b::y=>by
  unfold Lib.compareBytes JA
  by_cases h:a<b
  .simp[h]
  .by_cases h2:b<a
   .have:¬a=b:=fun e=>by subst e;exact absurd h2 (UInt8.lt_irrefl a)
    simp[h,h2,this]
   .have e:a=b:=UInt8.le_antisymm (UInt8.not_lt.1 h2) (UInt8.not_lt.1 h);subst e;simp[UInt8.lt_irrefl,Se x y]
theorem aF(x y:TmA):ltOf cfTmA x y=EL x.1 y.1:=Se _ _
theorem ja:SWO (ltOf cfTmA) where
 irrefl x:=by rw[aF];exact CG _
 trans x y z h1 h2:=by rw[aF]at *;exact DG h1 h2
 ntrans x y z h1 h2:=by
  rw[aF]at *
  rw[A0];intro h;cases xr:EL y.1 x.1 with
  |true=>have:=DG xr h;rw[h2]at this;cases this
  |false=>
   have e:=Ht h1 xr;rw[e]at h;rw[h2]at h;cases h
abbrev Gl:Value:=.func (.func k) #[] #[]
theorem ZX {fn : Func}{c : Code}(hf : Tryz.prog.funcs[k]? = some fn)(hn : (fn.name == "runtime.NumGoroutine") = false)(hb : fn.body = some c) : Fb Tryz.prog k := bW hf hn hb
theorem ve(l:List (Int×Int))(hl:Cr l)(h:∀x∈l,0<=x.1/\x.1<=1000000)(lim:Nat)(WZ:lim<100) :
  AW Tryz.prog 339 [.msl 1000 l.length,vi 0,vi l.length,vi lim,.v (Gl 288)] (Ae [(1000,.arr 2 (l.map Aj))] Ab) fun r h'=>
   r=.tup []/\∃l' : List (Int×Int),l'.Perm l/\l'.Pairwise (fun x y=>x.1<=y.1)/\h'=Ae [(1000,.arr 2 (l'.map Aj))] Ab:=by
 have hl:l.length<=1073741824:=hl;have hE:Fb Tryz.prog 339:=ZX 339 Tryz.func339 aa0 rfl;have eg:∀args w,(callFunc 288 args).run Tryz.prog w=.ok (.enter 288 args) w:=enters_of Tryz.func288 aa0 rfl;have G7:=It (P:=Tryz.prog) (f:=339) (α:=SpA) (rest:=[.int .i64 0,.int .i64 l.length,.int .i64 lim,Gl 288]) hE Aj encSpA (k:=2) (fun _=>rfl) (fun _=>rfl) (ltOf cfSpA) (fun x a=>a.1=x) l ch ?_ ?_ ?_
 .refine⟨hE,fun g w vals q1 q2 q3=>(G7.2 g w vals q1 q2 q3).mono fun _ _ ⟨v,r,h',g',e1,⟨e2,l',p1,⟨al,a1,a2,a3⟩,p2⟩,rest⟩=>⟨v,r,h',g',e1,⟨e2,l',p1,?_,p2⟩,rest⟩⟩;rw[B1]at a3⊢;intro i j hi hj X3
  have:=a3 i j ch ch X3
  rw[aE]at this;have e1:=a2 i _ _ (AK hi) (AK ch);have e2:=a2 j _ _ (AK hj) (AK ch);rw[<-e1,<-e2]
  have:=of_decide_eq_false this
  omega
 .intro x hx g w vs hr
  match vs,hr with
  | [a,b],hr=>
   have h1:=(hr.2.2 0 (vi x.1) a rfl rfl).v_eq;have h2:=(hr.2.2 1 (vi x.2) b rfl rfl).v_eq;subst h1;subst h2;exact⟨⟨x,h x hx⟩,rfl,rfl⟩
  | [],hr=>have:=hr.1;simp at this
  | [_],hr=>have:=hr.1;simp at this
  |_::_::_::_,hr=>have:=hr.1;simp at this
 .intro w b cap d hH hb Fi hdl;have gl:CmpLays Tryz.prog 288 #[] encSpA 2 cfSpA b 0 d.size w:=fun _ _ _ _ x y=>Tryz.closure288 x y _;have hp:=AnyQ.pdqsortCmpFunc_all Tryz.layPdqSpan 2 Tryz.isAgg64 Tryz.sizeOf64 encSpA cfSpA 288 #[] i9 b 0 cap d w eg gl ⟨fun _=>rfl,fun x v hv=>by simp[encSpA]at hv;rcases hv with rfl | rfl<;>rfl,hH,hb⟩ (d.size+1) 0 d.size lim d w ch rfl (SWK.start hH) (Ar _) (Ai _) Fi ch (Or.inl rfl)
  rw[hdl]at hp⊢;refine hp.mono ?_
  rintro e w' ⟨rfl,n,os,rfl⟩
  have h:=pdq_sorts (ltOf cfSpA) i9 d 0 d.size lim true true (Ar _) (Ai _) (Or.inl rfl);rw[hdl]at h;exact⟨rfl,_,n,os,h.1,h.2,rfl⟩
 .intro e w;subst e;exact AnyF.pdqsortCmpFunc_none Tryz.layPdqSpan none 0 lim (Gl 288) w
theorem uI(l:List Tm)(hl:Cr l)(lim:Nat)(WZ:lim<100) :
  AW Tryz.prog 377 [.msl 1000 l.length,vi 0,vi l.length,vi lim,.v (Gl 351)] (Ae [(1000,.arr 3 (l.map Am))] Ab) fun r h'=>
   r=.tup []/\∃l' : List Tm,l'.Perm l/\l'.Pairwise (fun x y=>EL y.path x.path=false)/\h'=Ae [(1000,.arr 3 (l'.map Am))] Ab:=by
 have hl:l.length<=1073741824:=hl;have hE:Fb Tryz.prog 377:=ZX 377 Tryz.func377 aa0 rfl;have eg:∀args w,(callFunc 351 args).run Tryz.prog w=.ok (.enter 351 args) w:=enters_of Tryz.func351 aa0 rfl;have G7:=It (P:=Tryz.prog) (f:=377) (α:=TmA) (rest:=[.int .i64 0,.int .i64 l.length,.int .i64 lim,Gl 351]) hE Am encTmA (k:=3) (fun _=>rfl) (fun _=>rfl) (ltOf cfTmA) (fun x a=>a.1=x.path) l ch ?_ ?_ ?_
 .refine⟨hE,fun g w vals q1 q2 q3=>(G7.2 g w vals q1 q2 q3).mono fun _ _ ⟨v,r,h',g',e1,⟨e2,l',p1,⟨al,a1,a2,a3⟩,p2⟩,rest⟩=>⟨v,r,h',g',e1,⟨e2,l',p1,?_,p2⟩,rest⟩⟩;rw[B1]at a3⊢;intro i j hi hj X3
  have:=a3 i j ch ch X3
  rw[aF]at this;have e1:=a2 i _ _ (AK hi) (AK ch);have e2:=a2 j _ _ (AK hj) (AK ch);rw[<-e1,<-e2];exact this
 .intro x hx g w vs hr
  match vs,hr with
  | [a,b,c],hr=>
   have h1:=(hr.2.2 0 (Go.Eng.vs x.path) a rfl rfl).v_eq;subst h1;exact⟨⟨x.path,⟨b,hr.2.1 b B0⟩,⟨c,hr.2.1 c B0⟩⟩,rfl,rfl⟩
  | [],hr=>have:=hr.1;simp at this
  | [_],hr=>have:=hr.1;simp at this
  | [_,_],hr=>have:=hr.1;simp at this
  |_::_::_::_::_,hr=>have:=hr.1;simp at this
 .intro w b cap d hH hb Fi hdl;have gl:CmpLays Tryz.prog 351 #[] encTmA 3 cfTmA b 0 d.size w:=fun _ _ _ _ x y=>Tryz.closure351 x y _;have hp:=AnyQ.pdqsortCmpFunc_all Tryz.layPdqTerm 3 Tryz.isAgg325 Tryz.sizeOf325 encTmA cfTmA 351 #[] ja b 0 cap d w eg gl ⟨fun _=>rfl,fun x v hv=>by
    simp only[encTmA,AA,Gm,or_false]at hv;rcases hv with rfl | rfl | rfl
    .rfl
    .exact x.2.1.2
    .exact x.2.2.2,hH,hb⟩ (d.size+1) 0 d.size lim d w ch rfl (SWK.start hH) (Ar _) (Ai _) Fi ch (Or.inl rfl)
  rw[hdl]at hp⊢;refine hp.mono ?_
  rintro e w' ⟨rfl,n,os,rfl⟩
  have h:=pdq_sorts (ltOf cfTmA) ja d 0 d.size lim true true (Ar _) (Ai _) (Or.inl rfl);rw[hdl]at h;exact⟨rfl,_,n,os,h.1,h.2,rfl⟩
 .intro e w;subst e;exact AnyF.pdqsortCmpFunc_none Tryz.layPdqTerm none 0 lim (Gl 351) w
end Go.Eng
namespace Go.Eng
open Go.Proofs
variable (x:List Rl)(ifs:AV)(roots:List Rq)(d:List (List Tm))
-- the checker,and what reads it
abbrev B2:List AV:=[sl Al x,ifs,sl Ac roots,sl Ap d]
theorem c40(hd:Cr d):PC 107 [.cptr (B2 x ifs roots d)] (vb (E1 d)):=by
 unfold Cr at hd;refine Ps D0 Tryz.func107 rfl (Nz rfl) (Yi ?_ ?_)
 .intro h;have h:(0:Int)<(d.map Ap).length:=h;have h:0<d.length:=by simp_all
  have hg:d[d.length-1]?=some d[d.length-1]:=Ge ch;have hl:d.getLast?=some d[d.length-1]:=by grind
  refine Yi (by grind [AQ]) (Xi (Ap d[d.length-1]) (Yi (Yi ch (by rw[show(((d.map Ap).length:Int)-1).toNat=d.length-1 by simp_all];grind)) (Yi rfl ?_)));refine Yi ?_ ?_
  .intro h2;have h2:((d[d.length-1].map Am).length:Int)=0:=h2;have h2:d[d.length-1]=[]:=by simp_all
   show DC (vb true) (vb (E1 d))
   grind [E1,DC.refl]
  .intro h2;have h2:¬((d[d.length-1].map Am).length:Int)=0:=h2;have h2:d[d.length-1]≠[]:=fun e=>h2 (by simp_all);show DC (vb false) (vb (E1 d))
   grind [E1,DC.refl]
 .intro h;have h:¬(0:Int)<(d.map Ap).length:=h;have h:d=[]:=AI (by simp_all);subst h;exact .refl _
theorem gI:∀(s:List Sl) (i:Nat) (h:i+1<s.length),Ld (some s[i].path) (s.drop (i+1))=(EL s[i].path s[i+1].path&&Ld (some s[i+1].path) (s.drop (i+2))):=fun s i h=>by
 rw[FA h];rfl
theorem Gg(a b:ByteArray):EL a b=Op.bytesLess a.toList b.toList:=by
 have:∀x y:List UInt8,JA x y=Op.bytesLess x y:=by
  intro x
  induction x with
  |nil=>intro y;cases y<;>rfl
  |cons a x ih=>
   intro y;cases y with
   |nil=>rfl
   |cons b y=>
    unfold JA Op.bytesLess;rw[ih];rw[CN];simp
 grind [EL,ByteArray.toList_eq]
end Go.Eng
