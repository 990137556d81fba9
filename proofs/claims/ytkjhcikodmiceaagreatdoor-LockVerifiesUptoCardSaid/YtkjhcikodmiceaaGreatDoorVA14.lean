/- Lemmas 14. -/
import Derived.Test.YtkjhcikodmiceaaGreatDoorVA12
import Derived.Test.YtkjhcikodmiceaaGreatDoorVA02
import Derived.Shelf.SlSortCmp.WholeK
import Derived.Shelf.Sort.Plain
import Derived.Shelf.Small.Strs
import Derived.Shelf.Small.Bits
import Derived.Ground.SlsfProg
import Derived.Ground.NamesProg
set_option maxHeartbeats 1000000
namespace Go.Eng
open Go.Proofs
variable {α:Type}{b0 b1 b2 b3:Bool}{a0:α}{b4:Bool}{a1:α}{b5:Bool}{a2 a3:α}{b6:Bool}{a4:α}{b7:Bool}{a5 a6:α}{b8:Bool}{a7:α}{b9:Bool}{a8:α}{Wc:Bool}{a9:α}{l:List α}{YM:α}(i:Nat)(pl:M5)(b:Bool)
abbrev vi(n:Int):AV := .v (.int .i64 n)
abbrev vb:AV := .v (.bool b)
abbrev vs(s:CS):AV := .v (.string s)
abbrev sl(enc:α -> List AV)(l:List α):AV := .slice .none (l.map enc)
abbrev Ej(v:Ver):List AV := [vi v.a,vi v.b,vi v.c]
abbrev Ab(s:Int×Int):List AV := [vi s.1,vi s.2]
abbrev Ad(q:Rq):List AV := [vs q.path,sl Ab q.set]
abbrev Am(r:Rl):List AV := [vs r.path,vi r.ver.a,vi r.ver.b,vi r.ver.c,sl Ad r.reqs,vs r.arch,vs r.ifc,vs r.cert,vb r.yanked]
abbrev Ae(s:Sl):List AV := [vs s.path,vi s.ver.a,vi s.ver.b,vi s.ver.c]
abbrev Ac(t:Tm):List AV := [vs t.path,vb t.absent,sl Ab t.set]
abbrev AG(i:Nf):List AV := [vi i.kind,vs i.path,vi i.place,vi i.number,vi i.left,vi i.right]
abbrev AB(s:Sk):List AV := [vs s.path,vi s.place,vi s.inf]
noncomputable abbrev ct:Cx := ⟨Tryz.prog,rP,pl,false,0,fun _ _ _ _ => True⟩
noncomputable abbrev I9:Cx := ⟨Tryz.prog,rP,pl,true,0,fun _ _ _ _ => True⟩
abbrev CX:M5 := ⟨[],[],[],[],[],[],[],[],[],[],[]⟩
abbrev PC(f:Nat)(args:List AV)(res:AV):Prop := Mk Tryz.prog f args res
theorem hm:Tryz.prog.follows .mixedOrders = true := by rfl
theorem Zr{α:Sort _}{β:Sort _}{a:α}{b:β}:a = a /\ b = b := ⟨rfl,rfl⟩
theorem Nz{a b:Nat}(h:Nat.ble a b = true):a <= b := Ee h
theorem Xi{α:Sort _}{p:α -> Prop}(w:α)(h:p w):Exists p := Exists.intro w h
theorem Yi{a b:Prop}(h:a)(k:b):a /\ b := And.intro h k
theorem C1{p:wI->Prop}(h:p .pure):Exists p:=⟨_,h⟩
theorem C2{A:Type}{c d:A->Prop}{w:A}(h:c w)(k:d w):∃w,c w∧d w:=⟨w,h,k⟩
theorem Fh{st:St}{h:Nat -> HO}:∀j,Af j = .free \/ (st.h j = Af j /\ ZW h (Af j) = true) := fun _ => .inl rfl
theorem Tv:True := trivial
theorem Ii(h:i <= 9223372036854775806):Au ((i:Int) + 1) := by unfold Au;omega
theorem Dl(n i:Nat)(h:i<n):n-(i + 1)<n-i := by omega
theorem Bt:b = true \/ b = false := Bool.eq_false_or_eq_true b
theorem Z1:(a0 = a0 /\ b0 = b0) /\ True := ⟨⟨rfl,rfl⟩,trivial⟩
theorem Z2:(a0 = a0 /\ b0 = b0) /\ (a1 = a1 /\ b1 = b1) /\ True := ⟨⟨rfl,rfl⟩,⟨rfl,rfl⟩,trivial⟩
theorem Z3:(a0 = a0 /\ b0 = b0) /\ (a1 = a1 /\ b1 = b1) /\ (a2 = a2 /\ b2 = b2) /\ True := ⟨⟨rfl,rfl⟩,⟨rfl,rfl⟩,⟨rfl,rfl⟩,trivial⟩
theorem Z4:(a0 = a0 /\ b0 = b0) /\ (a1 = a1 /\ b1 = b1) /\ (a2 = a2 /\ b2 = b2) /\ (a3 = a3 /\ b3 = b3) /\ True := ⟨⟨rfl,rfl⟩,⟨rfl,rfl⟩,⟨rfl,rfl⟩,⟨rfl,rfl⟩,trivial⟩
theorem Z5:(a0 = a0 /\ b0 = b0) /\ (a1 = a1 /\ b1 = b1) /\ (a2 = a2 /\ b2 = b2) /\ (a3 = a3 /\ b3 = b3) /\ (a4 = a4 /\ b4 = b4) /\ True := ⟨⟨rfl,rfl⟩,⟨rfl,rfl⟩,⟨rfl,rfl⟩,⟨rfl,rfl⟩,⟨rfl,rfl⟩,trivial⟩
theorem Z6:(a0 = a0 /\ b0 = b0) /\ (a1 = a1 /\ b1 = b1) /\ (a2 = a2 /\ b2 = b2) /\ (a3 = a3 /\ b3 = b3) /\ (a4 = a4 /\ b4 = b4) /\ (a5 = a5 /\ b5 = b5) /\ True := ⟨⟨rfl,rfl⟩,⟨rfl,rfl⟩,⟨rfl,rfl⟩,⟨rfl,rfl⟩,⟨rfl,rfl⟩,⟨rfl,rfl⟩,trivial⟩
theorem Z7:(a0 = a0 /\ b0 = b0) /\ (a1 = a1 /\ b1 = b1) /\ (a2 = a2 /\ b2 = b2) /\ (a3 = a3 /\ b3 = b3) /\ (a4 = a4 /\ b4 = b4) /\ (a5 = a5 /\ b5 = b5) /\ (a6 = a6 /\ b6 = b6) /\ True := ⟨⟨rfl,rfl⟩,⟨rfl,rfl⟩,⟨rfl,rfl⟩,⟨rfl,rfl⟩,⟨rfl,rfl⟩,⟨rfl,rfl⟩,⟨rfl,rfl⟩,trivial⟩
theorem Z8:(a0 = a0 /\ b0 = b0) /\ (a1 = a1 /\ b1 = b1) /\ (a2 = a2 /\ b2 = b2) /\ (a3 = a3 /\ b3 = b3) /\ (a4 = a4 /\ b4 = b4) /\ (a5 = a5 /\ b5 = b5) /\ (a6 = a6 /\ b6 = b6) /\ (a7 = a7 /\ b7 = b7) /\ True := ⟨⟨rfl,rfl⟩,⟨rfl,rfl⟩,⟨rfl,rfl⟩,⟨rfl,rfl⟩,⟨rfl,rfl⟩,⟨rfl,rfl⟩,⟨rfl,rfl⟩,⟨rfl,rfl⟩,trivial⟩
theorem Z9:(a0 = a0 /\ b0 = b0) /\ (a1 = a1 /\ b1 = b1) /\ (a2 = a2 /\ b2 = b2) /\ (a3 = a3 /\ b3 = b3) /\ (a4 = a4 /\ b4 = b4) /\ (a5 = a5 /\ b5 = b5) /\ (a6 = a6 /\ b6 = b6) /\ (a7 = a7 /\ b7 = b7) /\ (a8 = a8 /\ b8 = b8) /\ True := ⟨⟨rfl,rfl⟩,⟨rfl,rfl⟩,⟨rfl,rfl⟩,⟨rfl,rfl⟩,⟨rfl,rfl⟩,⟨rfl,rfl⟩,⟨rfl,rfl⟩,⟨rfl,rfl⟩,⟨rfl,rfl⟩,trivial⟩
theorem Z10:(a0 = a0 /\ b0 = b0) /\ (a1 = a1 /\ b1 = b1) /\ (a2 = a2 /\ b2 = b2) /\ (a3 = a3 /\ b3 = b3) /\ (a4 = a4 /\ b4 = b4) /\ (a5 = a5 /\ b5 = b5) /\ (a6 = a6 /\ b6 = b6) /\ (a7 = a7 /\ b7 = b7) /\ (a8 = a8 /\ b8 = b8) /\ (a9 = a9 /\ b9 = b9) /\ True := ⟨⟨rfl,rfl⟩,⟨rfl,rfl⟩,⟨rfl,rfl⟩,⟨rfl,rfl⟩,⟨rfl,rfl⟩,⟨rfl,rfl⟩,⟨rfl,rfl⟩,⟨rfl,rfl⟩,⟨rfl,rfl⟩,⟨rfl,rfl⟩,trivial⟩
theorem Z11:(a0 = a0 /\ b0 = b0) /\ (a1 = a1 /\ b1 = b1) /\ (a2 = a2 /\ b2 = b2) /\ (a3 = a3 /\ b3 = b3) /\ (a4 = a4 /\ b4 = b4) /\ (a5 = a5 /\ b5 = b5) /\ (a6 = a6 /\ b6 = b6) /\ (a7 = a7 /\ b7 = b7) /\ (a8 = a8 /\ b8 = b8) /\ (a9 = a9 /\ b9 = b9) /\ (YM = YM /\ Wc = Wc) /\ True := ⟨⟨rfl,rfl⟩,⟨rfl,rfl⟩,⟨rfl,rfl⟩,⟨rfl,rfl⟩,⟨rfl,rfl⟩,⟨rfl,rfl⟩,⟨rfl,rfl⟩,⟨rfl,rfl⟩,⟨rfl,rfl⟩,⟨rfl,rfl⟩,⟨rfl,rfl⟩,trivial⟩
theorem Z12{dU:α}{tp:Bool}:(a0 = a0 /\ b0 = b0) /\ (a1 = a1 /\ b1 = b1) /\ (a2 = a2 /\ b2 = b2) /\ (a3 = a3 /\ b3 = b3) /\ (a4 = a4 /\ b4 = b4) /\ (a5 = a5 /\ b5 = b5) /\ (a6 = a6 /\ b6 = b6) /\ (a7 = a7 /\ b7 = b7) /\ (a8 = a8 /\ b8 = b8) /\ (a9 = a9 /\ b9 = b9) /\ (YM = YM /\ Wc = Wc) /\ (dU = dU /\ tp = tp) /\ True := ⟨⟨rfl,rfl⟩,⟨rfl,rfl⟩,⟨rfl,rfl⟩,⟨rfl,rfl⟩,⟨rfl,rfl⟩,⟨rfl,rfl⟩,⟨rfl,rfl⟩,⟨rfl,rfl⟩,⟨rfl,rfl⟩,⟨rfl,rfl⟩,⟨rfl,rfl⟩,⟨rfl,rfl⟩,trivial⟩
theorem Z13{dU a12:α}{tp vZ:Bool}:(a0 = a0 /\ b0 = b0) /\ (a1 = a1 /\ b1 = b1) /\ (a2 = a2 /\ b2 = b2) /\ (a3 = a3 /\ b3 = b3) /\ (a4 = a4 /\ b4 = b4) /\ (a5 = a5 /\ b5 = b5) /\ (a6 = a6 /\ b6 = b6) /\ (a7 = a7 /\ b7 = b7) /\ (a8 = a8 /\ b8 = b8) /\ (a9 = a9 /\ b9 = b9) /\ (YM = YM /\ Wc = Wc) /\ (dU = dU /\ tp = tp) /\ (a12 = a12 /\ vZ = vZ) /\ True := ⟨⟨rfl,rfl⟩,⟨rfl,rfl⟩,⟨rfl,rfl⟩,⟨rfl,rfl⟩,⟨rfl,rfl⟩,⟨rfl,rfl⟩,⟨rfl,rfl⟩,⟨rfl,rfl⟩,⟨rfl,rfl⟩,⟨rfl,rfl⟩,⟨rfl,rfl⟩,⟨rfl,rfl⟩,⟨rfl,rfl⟩,trivial⟩
theorem Nn:(0:Int) <= (i:Int) := Int.natCast_nonneg i
abbrev Ic(x:List Rl)(ifs:C0):List AV := [sl Am x,.slice .none ifs]
theorem Ps{f:Nat}{fn:Func}{c:Code}{args:List AV}{res:AV}(hf:Tryz.prog.funcs[f]? = some fn)(hb:fn.body = some c)(hN:args.length <= fn.ntmps)(hk:QD (ct pl) c (ud (ct pl) fn.results.toList fun r => Cj r res) ⟨Pt args,Af⟩)(hn : (fn.name == "runtime.NumGoroutine") = false := by kernel_rfl)(hc : EA fn.ntmps c = true := by kernel_rfl) : Mk Tryz.prog f args res := E9 (ct pl) rfl BI hm rfl hf hn hb hN hc hk
theorem Lm{β:Type}(f:α -> β):(l.map f).length = l.length := BJ f
theorem Ge{i:Nat}(h:i<l.length):l[i]? = some l[i] := AW h
end Go.Eng
namespace Go.Proofs
open Go.Proofs.Tryz
open Go.Shelf
def Tryz.layPdqSpan_ren:Go.Shelf.Ren:=⟨fun | 14=>339 | 20=>367 | 21=>368 | 22=>369 | 23=>370 | 24=>371 | 25=>372 | 26=>373 | 27=>374 | 46=>386 | 47=>283 | 48=>284 | 49=>387 | 50=>388 | 15=>146 | 57=>401 | 28=>219 | 29=>220 | n=>n,fun | 24=>64 | 22=>65 | 3=>3 | 25=>378 | 4=>4 | 0=>0 | 46=>309 | 45=>308 | 50=>150 | 66=>372 | 39=>240 | 55=>229 | 70=>208 | 76=>408 | 77=>409 | 53=>299 | 5=>5 | 9=>9 | n=>n,fun | n=>n⟩
theorem Tryz.layPdqSpan:Go.Proofs.SlLaysF0.n14 Tryz.prog Tryz.layPdqSpan_ren:={
 mixed:=by kernel_rfl
 f14:=⟨Tryz.f339.name,by decide,Go.Eng.A0a func339⟩
 f15:=Go.Eng.A0a func146
 f20:=⟨Tryz.f367.name,by decide,Go.Eng.A0a func367⟩
 f21:=⟨Tryz.f368.name,by decide,Go.Eng.A0a func368⟩
 f22:=⟨Tryz.f369.name,by decide,Go.Eng.A0a func369⟩
 f23:=⟨Tryz.f370.name,by decide,Go.Eng.A0a func370⟩
 f24:=⟨Tryz.f371.name,by decide,Go.Eng.A0a func371⟩
 f25:=⟨Tryz.f372.name,by decide,Go.Eng.A0a func372⟩
 f26:=⟨Tryz.f373.name,by decide,Go.Eng.A0a func373⟩
 f27:=⟨Tryz.f374.name,by decide,Go.Eng.A0a func374⟩
 f28:=Go.Eng.A0a func219
 f29:=Go.Eng.A0a func220
 f46:=⟨Tryz.f386.name,by decide,Go.Eng.A0a func386⟩
 f47:=Go.Eng.A0a func283
 f48:=Go.Eng.A0a func284
 f49:=⟨Tryz.f387.name,by decide,Go.Eng.A0a func387⟩
 f50:=⟨Tryz.f388.name,by decide,Go.Eng.A0a func388⟩
 f57:=⟨Tryz.f401.name,by decide,Go.Eng.A0a func401⟩
 t0:=underlying0
 a0:=isAgg0
 z0:=sizeOf0
 v0:=zeroValue0
 t3:=underlying3
 a3:=isAgg3
 z3:=sizeOf3
 v3:=zeroValue3
 t4:=underlying4
 a4:=isAgg4
 z4:=sizeOf4
 v4:=zeroValue4
 t5:=underlying5
 a5:=isAgg5
 z5:=sizeOf5
 v5:=zeroValue5
 t9:=underlying9
 a9:=isAgg9
 z9:=sizeOf9
 v9:=zeroValue9
 t22:=underlying65
 a22:=isAgg65
 z22:=sizeOf65
 v22:=zeroValue65
 t25:=underlying378
 a25:=isAgg378
 z25:=sizeOf378
 v25:=zeroValue378
 t39:=underlying240
 a39:=isAgg240
 z39:=sizeOf240
 v39:=zeroValue240
 t45:=underlying308
 a45:=isAgg308
 z45:=sizeOf308
 v45:=zeroValue308
 t46:=underlying309
 a46:=isAgg309
 z46:=sizeOf309
 v46:=zeroValue309
 t50:=underlying150
 a50:=isAgg150
 z50:=sizeOf150
 v50:=zeroValue150
 t53:=underlying299
 a53:=isAgg299
 z53:=sizeOf299
 v53:=zeroValue299
 t55:=underlying229
 a55:=isAgg229
 z55:=sizeOf229
 v55:=zeroValue229
 t66:=underlying372
 a66:=isAgg372
 z66:=sizeOf372
 v66:=zeroValue372
 t70:=underlying208
 a70:=isAgg208
 z70:=sizeOf208
 v70:=zeroValue208
 t76:=underlying408
 a76:=isAgg408
 z76:=sizeOf408
 v76:=zeroValue408
 t77:=underlying409
 a77:=isAgg409
 z77:=sizeOf409
 v77:=zeroValue409 }
def Tryz.layPdqTerm_ren:Go.Shelf.Ren:=⟨fun | 14=>377 | 20=>391 | 21=>392 | 22=>393 | 23=>394 | 24=>395 | 25=>396 | 26=>397 | 27=>398 | 46=>411 | 47=>283 | 48=>284 | 49=>412 | 50=>413 | 15=>146 | 57=>417 | 28=>219 | 29=>220 | n=>n,fun | 24=>325 | 22=>257 | 3=>3 | 25=>418 | 4=>4 | 0=>0 | 46=>309 | 45=>308 | 50=>150 | 66=>372 | 39=>240 | 55=>229 | 70=>208 | 76=>408 | 77=>409 | 53=>299 | 5=>5 | 9=>9 | n=>n,fun | n=>n⟩
theorem Tryz.layPdqTerm:Go.Proofs.SlLaysF0.n14 Tryz.prog Tryz.layPdqTerm_ren:={
 mixed:=by kernel_rfl
 f14:=⟨Tryz.f377.name,by decide,Go.Eng.A0a func377⟩
 f15:=Go.Eng.A0a func146
 f20:=⟨Tryz.f391.name,by decide,Go.Eng.A0a func391⟩
 f21:=⟨Tryz.f392.name,by decide,Go.Eng.A0a func392⟩
 f22:=⟨Tryz.f393.name,by decide,Go.Eng.A0a func393⟩
 f23:=⟨Tryz.f394.name,by decide,Go.Eng.A0a func394⟩
 f24:=⟨Tryz.f395.name,by decide,Go.Eng.A0a func395⟩
 f25:=⟨Tryz.f396.name,by decide,Go.Eng.A0a func396⟩
 f26:=⟨Tryz.f397.name,by decide,Go.Eng.A0a func397⟩
 f27:=⟨Tryz.f398.name,by decide,Go.Eng.A0a func398⟩
 f28:=Go.Eng.A0a func219
 f29:=Go.Eng.A0a func220
 f46:=⟨Tryz.f411.name,by decide,Go.Eng.A0a func411⟩
 f47:=Go.Eng.A0a func283
 f48:=Go.Eng.A0a func284
 f49:=⟨Tryz.f412.name,by decide,Go.Eng.A0a func412⟩
 f50:=⟨Tryz.f413.name,by decide,Go.Eng.A0a func413⟩
 f57:=⟨Tryz.f417.name,by decide,Go.Eng.A0a func417⟩
 t0:=underlying0
 a0:=isAgg0
 z0:=sizeOf0
 v0:=zeroValue0
 t3:=underlying3
 a3:=isAgg3
 z3:=sizeOf3
 v3:=zeroValue3
 t4:=underlying4
 a4:=isAgg4
 z4:=sizeOf4
 v4:=zeroValue4
 t5:=underlying5
 a5:=isAgg5
 z5:=sizeOf5
 v5:=zeroValue5
 t9:=underlying9
 a9:=isAgg9
 z9:=sizeOf9
 v9:=zeroValue9
 t22:=underlying257
 a22:=isAgg257
 z22:=sizeOf257
 v22:=zeroValue257
 t25:=underlying418
 a25:=isAgg418
 z25:=sizeOf418
 v25:=zeroValue418
 t39:=underlying240
 a39:=isAgg240
 z39:=sizeOf240
 v39:=zeroValue240
 t45:=underlying308
 a45:=isAgg308
 z45:=sizeOf308
 v45:=zeroValue308
 t46:=underlying309
 a46:=isAgg309
 z46:=sizeOf309
 v46:=zeroValue309
 t50:=underlying150
 a50:=isAgg150
 z50:=sizeOf150
 v50:=zeroValue150
 t53:=underlying299
 a53:=isAgg299
 z53:=sizeOf299
 v53:=zeroValue299
 t55:=underlying229
 a55:=isAgg229
 z55:=sizeOf229
 v55:=zeroValue229
 t66:=underlying372
 a66:=isAgg372
 z66:=sizeOf372
 v66:=zeroValue372
 t70:=underlying208
 a70:=isAgg208
 z70:=sizeOf208
 v70:=zeroValue208
 t76:=underlying408
 a76:=isAgg408
 z76:=sizeOf408
 v76:=zeroValue408
 t77:=underlying409
 a77:=isAgg409
 z77:=sizeOf409
 v77:=zeroValue409 }
def Tryz.layPdqSel_ren:Go.Shelf.Ren:=⟨fun | 14=>157 | 20=>231 | 21=>232 | 22=>233 | 23=>234 | 24=>235 | 25=>236 | 26=>237 | 27=>238 | 46=>299 | 47=>283 | 48=>284 | 49=>300 | 50=>301 | 15=>146 | 57=>353 | 28=>219 | 29=>220 | n=>n,fun | 24=>45 | 22=>37 | 3=>3 | 25=>166 | 4=>4 | 0=>0 | 46=>309 | 45=>308 | 50=>150 | 66=>372 | 39=>240 | 55=>229 | 70=>208 | 76=>408 | 77=>409 | 53=>299 | 5=>5 | 9=>9 | n=>n,fun | n=>n⟩
theorem Tryz.layPdqSel:Go.Proofs.SlLaysF0.n14 Tryz.prog Tryz.layPdqSel_ren:={
 mixed:=by kernel_rfl
 f14:=⟨Tryz.f157.name,by decide,Go.Eng.A0a func157⟩
 f15:=Go.Eng.A0a func146
 f20:=⟨Tryz.f231.name,by decide,Go.Eng.A0a func231⟩
 f21:=⟨Tryz.f232.name,by decide,Go.Eng.A0a func232⟩
 f22:=⟨Tryz.f233.name,by decide,Go.Eng.A0a func233⟩
 f23:=⟨Tryz.f234.name,by decide,Go.Eng.A0a func234⟩
 f24:=⟨Tryz.f235.name,by decide,Go.Eng.A0a func235⟩
 f25:=⟨Tryz.f236.name,by decide,Go.Eng.A0a func236⟩
 f26:=⟨Tryz.f237.name,by decide,Go.Eng.A0a func237⟩
 f27:=⟨Tryz.f238.name,by decide,Go.Eng.A0a func238⟩
 f28:=Go.Eng.A0a func219
 f29:=Go.Eng.A0a func220
 f46:=⟨Tryz.f299.name,by decide,Go.Eng.A0a func299⟩
 f47:=Go.Eng.A0a func283
 f48:=Go.Eng.A0a func284
 f49:=⟨Tryz.f300.name,by decide,Go.Eng.A0a func300⟩
 f50:=⟨Tryz.f301.name,by decide,Go.Eng.A0a func301⟩
 f57:=⟨Tryz.f353.name,by decide,Go.Eng.A0a func353⟩
 t0:=underlying0
 a0:=isAgg0
 z0:=sizeOf0
 v0:=zeroValue0
 t3:=underlying3
 a3:=isAgg3
 z3:=sizeOf3
 v3:=zeroValue3
 t4:=underlying4
 a4:=isAgg4
 z4:=sizeOf4
 v4:=zeroValue4
 t5:=underlying5
 a5:=isAgg5
 z5:=sizeOf5
 v5:=zeroValue5
 t9:=underlying9
 a9:=isAgg9
 z9:=sizeOf9
 v9:=zeroValue9
 t22:=underlying37
 a22:=isAgg37
 z22:=sizeOf37
 v22:=zeroValue37
 t25:=underlying166
 a25:=isAgg166
 z25:=sizeOf166
 v25:=zeroValue166
 t39:=underlying240
 a39:=isAgg240
 z39:=sizeOf240
 v39:=zeroValue240
 t45:=underlying308
 a45:=isAgg308
 z45:=sizeOf308
 v45:=zeroValue308
 t46:=underlying309
 a46:=isAgg309
 z46:=sizeOf309
 v46:=zeroValue309
 t50:=underlying150
 a50:=isAgg150
 z50:=sizeOf150
 v50:=zeroValue150
 t53:=underlying299
 a53:=isAgg299
 z53:=sizeOf299
 v53:=zeroValue299
 t55:=underlying229
 a55:=isAgg229
 z55:=sizeOf229
 v55:=zeroValue229
 t66:=underlying372
 a66:=isAgg372
 z66:=sizeOf372
 v66:=zeroValue372
 t70:=underlying208
 a70:=isAgg208
 z70:=sizeOf208
 v70:=zeroValue208
 t76:=underlying408
 a76:=isAgg408
 z76:=sizeOf408
 v76:=zeroValue408
 t77:=underlying409
 a77:=isAgg409
 z77:=sizeOf409
 v77:=zeroValue409 }
def Tryz.layCompare_ren:Go.Shelf.Ren:=⟨fun | 106=>85 | 213=>158 | 265=>239 | n=>n,fun | 9=>9 | 3=>3 | n=>n,fun | n=>n⟩
theorem Tryz.layCompare:Go.Proofs.Lays.n106 Tryz.prog Tryz.layCompare_ren:={
 mixed:=by kernel_rfl
 f106:=Go.Eng.A0a func85
 f213:=Go.Eng.A0a func158
 f265:=Go.Eng.A0a func239
 t3:=underlying3
 a3:=isAgg3
 z3:=sizeOf3
 v3:=zeroValue3
 t9:=underlying9
 a9:=isAgg9
 z9:=sizeOf9
 v9:=zeroValue9 }
def Tryz.layBits_ren:Go.Shelf.Ren:=⟨fun | 125=>146 | 128=>219 | 129=>220 | n=>n,fun | 46=>240 | 3=>3 | 51=>299 | 53=>229 | 4=>4 | 5=>5 | 9=>9 | n=>n,fun | n=>n⟩
theorem Tryz.layBits:Go.Proofs.Lays.n125 Tryz.prog Tryz.layBits_ren:={
 mixed:=by kernel_rfl
 f125:=Go.Eng.A0a func146
 f128:=Go.Eng.A0a func219
 f129:=Go.Eng.A0a func220
 t3:=underlying3
 a3:=isAgg3
 z3:=sizeOf3
 v3:=zeroValue3
 t4:=underlying4
 a4:=isAgg4
 z4:=sizeOf4
 v4:=zeroValue4
 t5:=underlying5
 a5:=isAgg5
 z5:=sizeOf5
 v5:=zeroValue5
 t9:=underlying9
 a9:=isAgg9
 z9:=sizeOf9
 v9:=zeroValue9
 t46:=underlying240
 a46:=isAgg240
 z46:=sizeOf240
 v46:=zeroValue240
 t51:=underlying299
 a51:=isAgg299
 z51:=sizeOf299
 v51:=zeroValue299
 t53:=underlying229
 a53:=isAgg229
 z53:=sizeOf229
 v53:=zeroValue229 }
def Tryz.laySortInts_ren:Go.Shelf.Ren:=⟨fun | 189=>375 | 125=>146 | 257=>389 | 128=>219 | 129=>220 | 294=>402 | 295=>403 | 296=>404 | 297=>405 | 298=>406 | 299=>407 | 216=>408 | 300=>409 | 301=>410 | 328=>414 | 329=>283 | 330=>284 | 331=>415 | 332=>416 | 215=>313 | 343=>418 | n=>n,fun | 28=>132 | 3=>3 | 46=>240 | 0=>0 | 51=>299 | 53=>229 | 4=>4 | 183=>309 | 182=>308 | 131=>150 | 5=>5 | 9=>9 | 218=>372 | 222=>208 | 228=>408 | 229=>409 | n=>n,fun | n=>n⟩
theorem Tryz.laySortInts:Go.Proofs.Lays.n189 Tryz.prog Tryz.laySortInts_ren:={
 mixed:=by kernel_rfl
 f125:=Go.Eng.A0a func146
 f128:=Go.Eng.A0a func219
 f129:=Go.Eng.A0a func220
 f189:=Go.Eng.A0a func375
 f215:=Go.Eng.A0a func313
 f216:=Go.Eng.A0a func408
 f257:=Go.Eng.A0a func389
 f294:=Go.Eng.A0a func402
 f295:=Go.Eng.A0a func403
 f296:=Go.Eng.A0a func404
 f297:=Go.Eng.A0a func405
 f298:=Go.Eng.A0a func406
 f299:=Go.Eng.A0a func407
 f300:=Go.Eng.A0a func409
 f301:=Go.Eng.A0a func410
 f328:=Go.Eng.A0a func414
 f329:=Go.Eng.A0a func283
 f330:=Go.Eng.A0a func284
 f331:=Go.Eng.A0a func415
 f332:=Go.Eng.A0a func416
 f343:=Go.Eng.A0a func418
 t0:=underlying0
 a0:=isAgg0
 z0:=sizeOf0
 v0:=zeroValue0
 t3:=underlying3
 a3:=isAgg3
 z3:=sizeOf3
 v3:=zeroValue3
 t4:=underlying4
 a4:=isAgg4
 z4:=sizeOf4
 v4:=zeroValue4
 t5:=underlying5
 a5:=isAgg5
 z5:=sizeOf5
 v5:=zeroValue5
 t9:=underlying9
 a9:=isAgg9
 z9:=sizeOf9
 v9:=zeroValue9
 t28:=underlying132
 a28:=isAgg132
 z28:=sizeOf132
 v28:=zeroValue132
 t46:=underlying240
 a46:=isAgg240
 z46:=sizeOf240
 v46:=zeroValue240
 t51:=underlying299
 a51:=isAgg299
 z51:=sizeOf299
 v51:=zeroValue299
 t53:=underlying229
 a53:=isAgg229
 z53:=sizeOf229
 v53:=zeroValue229
 t131:=underlying150
 a131:=isAgg150
 z131:=sizeOf150
 v131:=zeroValue150
 t182:=underlying308
 a182:=isAgg308
 z182:=sizeOf308
 v182:=zeroValue308
 t183:=underlying309
 a183:=isAgg309
 z183:=sizeOf309
 v183:=zeroValue309
 t218:=underlying372
 a218:=isAgg372
 z218:=sizeOf372
 v218:=zeroValue372
 t222:=underlying208
 a222:=isAgg208
 z222:=sizeOf208
 v222:=zeroValue208
 t228:=underlying408
 a228:=isAgg408
 z228:=sizeOf408
 v228:=zeroValue408
 t229:=underlying409
 a229:=isAgg409
 z229:=sizeOf409
 v229:=zeroValue409 }
end Go.Proofs
namespace Go.Proofs
open Go.Shelf Go.RowKit Go.Lib Go.Sort
def SpA:Type:={x:Int×Int // 0<=x.1/\x.1<=1000000}
instance:Inhabited SpA:=⟨⟨(0,0),by decide⟩⟩
def encSpA(x:SpA):List Value:=[.int .i64 x.1.1,.int .i64 x.1.2]
def cfSpA(x y:SpA):Int:=x.1.1-y.1.1
theorem Tryz.closure288(x y:SpA)(W:World):Calls Tryz.prog 288 #[.agg #[.int .i64 x.1.1,.int .i64 x.1.2],.agg #[.int .i64 y.1.1,.int .i64 y.1.2]] W fun e w'=>e=.returned (.int .i64 (cfSpA x y))/\∃q os',w'=grow (W.drewN q) os':=by
 obtain⟨⟨a,b⟩,h1,h2⟩:=x;obtain⟨⟨c,d⟩,h3,h4⟩:=y;dsimp only at h1 h2 h3 h4;have hw:IntKind.i64.wrap (a-c)=a-c:=by simp[IntKind.wrap,IntKind.bits,IntKind.signed];omega
 show Calls Tryz.prog 288 #[.agg #[.int .i64 a,.int .i64 b],.agg #[.int .i64 c,.int .i64 d]] W fun e w'=>e=.returned (.int .i64 (a-c))/\∃q os',w'=grow (W.drewN q) os'
 go_enter Tryz.func288,Tryz.ntmps288
 go_wp2
 go_ret
 exact⟨rfl,0,_,by rw[alloc_eq_grow,alloc_eq_grow,grow_grow];rfl⟩
def TmA:Type:=ByteArray×{v:Value // v.oneCell'=true}×{v:Value // v.oneCell'=true}
instance:Inhabited TmA:=⟨⟨ByteArray.empty,⟨.bool false,rfl⟩,⟨.bool false,rfl⟩⟩⟩
def encTmA(x:TmA):List Value:=[.string x.1,x.2.1.1,x.2.2.1]
def cfTmA(x y:TmA):Int:=Lib.compareBytes x.1.data.toList y.1.data.toList
theorem Tryz.closure351(x y:TmA)(W:World):Calls Tryz.prog 351 #[.agg #[.string x.1,x.2.1.1,x.2.2.1],.agg #[.string y.1,y.2.1.1,y.2.2.1]] W fun e w'=>e=.returned (.int .i64 (cfTmA x y))/\∃q os',w'=grow (W.drewN q) os':=by
 have hcon:=fun W'=>Any.strings_Compare Tryz.layCompare x.1 y.1 W';obtain⟨a,⟨b,hb⟩,⟨c,hc⟩⟩:=x;obtain⟨a',⟨b',uq⟩,⟨c',hc'⟩⟩:=y;dsimp only at hcon
 change ∀W',Calls Tryz.prog 85 _ _ _ at hcon
 unfold cfTmA;dsimp only;generalize Lib.compareBytes a.data.toList a'.data.toList=r at hcon⊢
 go_enter Tryz.func351,Tryz.ntmps351
 go_wp2_with (go_at_call 85;refine(hcon _).mono ?_;rintro e w' ⟨rfl,rfl⟩)
 go_ret
 exact⟨rfl,0,_,by rw[alloc_eq_grow,alloc_eq_grow,grow_grow];rfl⟩
end Go.Proofs
namespace Go.Eng
open Go.Proofs Go.Proofs.Tryz
variable {caps:List AV}{α:Type}{p:α->Bool}{i fF:Nat}(l:List (Int×Int))(x:Sl)(t:Tm)(v:Ver)(s:List Sl)
theorem tC:PC 178 [.agg (Ej v)] (.agg [vi v.a,vi v.b,vi v.c]):=by
 refine Ps CX func178 rfl (Nz rfl) ?_;exact Yi (Nz rfl) (Yi (Nz rfl) (.refl _))
def part:Nat->Int
 |0=>v.a
 |1=>v.b
 |_=>v.c
theorem Xf{v:Ver}(h:¬okPart (part v i)):By v=false:=by
 unfold By
 match i,h with
 |0,h=>have h:¬okPart v.a:=h;simp[h]
 |1,h=>have h:¬okPart v.b:=h;simp[h]
 |_+2,h=>have h:¬okPart v.c:=h;simp[h]
theorem po:PC 101 [.agg (Ej v)] (vb (By v)):=by
 refine Ps CX func101 rfl (Nz rfl) (Yi (Nz rfl) (C1 (C2 (tC v) (Xi {i:Nat // i<=3/\∀j,j<i->okPart (part v j)} (Xi (fun i=>⟨[(6,.agg [vi v.a,vi v.b,vi v.c]),(7,vi i.1)],[],Af⟩) (Xi (fun i=>3-i.1) (Yi (Xi ⟨0,by simp⟩ ?_) ?_)))))))
 .exact⟨Z2,Tv,Fh,Tv⟩
 .intro⟨i,h1,h2⟩;refine Yi ?_ ?_
  .intro h;have h:(i:Int)<3:=h;refine Yi ⟨by omega,by omega⟩ ?_;have hp:MC (([vi v.a,vi v.b,vi v.c]).drop ((i:Int).toNat*1))=fun K=>K (vi (part v i)):=by
    match i,h with
    |0,_=>rfl
    |1,_=>rfl
    |2,_=>rfl
    |_+3,h=>omega
   show MC (([vi v.a,vi v.b,vi v.c]).drop ((i:Int).toNat*1)) _;rw[hp];refine Yi ?_ ?_
   .intro h3;rw[Xf (i:=i) (by grind [okPart])];exact .refl _
   .intro h3;refine Yi ?_ ?_
    .intro h4;rw[Xf (i:=i) (by grind [okPart])];exact .refl _
    .intro h4;refine Yi (by grind [Au]) (Xi ⟨i+1,by omega,fun j hj=>?_⟩ ?_)
     .by_cases e:j=i
      .subst e;exact⟨by omega,by omega⟩
      grind
     .exact⟨by grind,Z2,Tv,Fh,Tv⟩
  .intro h;have h:¬(i:Int)<3:=h;have e:i=3:=by omega
   have q:By v=true:=by
    unfold By;have a:=h2 0 Wk;have b:=h2 1 Wk
    grind [part]
   rw[q];exact .refl _
theorem tX:PC 113 [.agg (Ej v)] (.tup [vi (if By v then place v else 0),vi (if By v then 0 else 2)]):=by
 refine Ps CX func113 rfl (Nz rfl) (Yi (Nz rfl) (C1 (C2 (po v) ?_)));cases h:By v with
 |false=>exact .refl _
 |true=>
  have hv:=FZ h;refine Yi (by grind [Au]) ?_;exact Yi (by grind [Au]) (.refl _)
theorem wb(h:By v=true):PC 162 [.agg (Ej v)] (vi (place v)):=by
 refine Ps CX func162 rfl (Nz rfl) ?_;have hv:=FZ h;refine Yi (by grind [Au]) ?_;exact Yi (by grind [Au]) (.refl _)
def C3(caps:List AV):Prop:=∀c∈caps,∀h,str0 h c=c
theorem C3.map{caps:List AV}(hs:C3 caps)(h:Nat->HO):caps.map (str0 h)=caps:=by
 conv=>rhs;rw[<-Mi caps]
 exact Ce fun c hc=>hs c hc h
theorem C3.ids(hs:C3 caps)(h:Nat->HO):ZX h caps=true:=by
 induction caps with
 |nil=>rfl
 |cons c r ih=>
  have hc:=hs c (Ag ..) Af;have h0:ids0 h c=true:=by
   cases c with
   |slice tk es=>cases tk with |none=>rfl |full sz=>grind [str0] |id r sz=>grind [str0] |ver r sz v=>grind [str0]
   |_=>first |rfl |grind [str0]
  unfold ZX;rw[h0];exact ih fun c hc=>hs c (Aj _ hc)
def J0{α:Type}(p:α->Bool):List α->Int->Int
 | [],_=>-1
 |x::r,i=>if p x then i else J0 p r (i+1)
theorem Lu{α:Type}{p:α->Bool}:∀{l:List α} {i:Nat} {k:Int} (hi:i<l.length),(∀j (hj:j<l.length),j<i->p l[j]=false)->p l[i]=true->J0 p l k=k+i
 |x::r,0,k,_,_,h=>by
  grind [J0]
 |x::r,i+1,k,hi,hb,h=>by
  have h0:p x=false:=hb 0 aa0 Wk
  have:=Lu (l:=r) (i:=i) (k:=k+1) (by grind) (fun j hj GC=>hb (j+1) Wk Wk) (by simp_all)
  grind [J0]
theorem H9{α:Type}{p:α->Bool}:∀{l:List α} {k:Int},(∀j (hj:j<l.length),p l[j]=false)->J0 p l k=-1
 | [],_,_=>rfl
 |x::r,k,h=>by
  have h0:p x=false:=h 0 aa0;simp only[J0,h0,OW,if_false];exact H9 fun j hj=>h (j+1) (by simp_all)
theorem Ke{α:Type}{p:α->Bool}:∀(l:List α) (k:Int),0<=k->decide (0<=J0 p l k)=l.any p
 | [],k,_=>by simp[J0]
 |x::r,k,hk=>by
  unfold J0;cases h:p x with
  |true=>simp_all
  |false=>simp[h,Ke r (k+1) Wk]
-- one for each type of elements
theorem Abr(hs:C3 caps)(l:List (Int×Int))(p:Int×Int->Bool)(hF:∀x∈l,PC fF ([.agg (Ab x)]++caps) (vb (p x)))(hl:l.length<9223372036854775807) :
  PC 189 [sl Ab l,.clo fF caps] (vi (J0 p l 0)):=by
 refine Ps CX func189 rfl (Nz rfl) (Xi {i:Nat // i<=l.length/\∀j (hj:j<l.length),j<i->p l[j]=false} (Xi (fun i=>⟨[(0,sl Ab l),(1,.clo fF caps),(7,vi (l.map Ab).length),(8,vi i.1)],[],Af⟩) (Xi (fun i=>l.length-i.1) (Yi (Xi ⟨0,by simp⟩ ?_) ?_))))
 .exact⟨⟨Zr,⟨rfl,hs.ids _⟩,Zr,Zr,Tv⟩,Tv,Fh,Tv⟩
 .intro⟨i,h1,h2⟩;refine Yi ?_ ?_
  .intro h;have h:i<l.length:=by simp_all
   have hg:l[i]?=some l[i]:=Ge h;refine Xi (Ab l[i]) (Yi (Yi Wk (by simp_all)) (Yi rfl (yN ?_)));have Co:∀h,PC fF ([.agg (Ab l[i])]++caps.map (str0 h)) (vb (p l[i])):=fun h=>by rw[hs.map];grind
   cases hp:p l[i]with
   |true=>
    rw[hp]at Co;refine Xi .pure (Xi (vb true) (Yi (Co _) ?_));rw[Lu h (fun j hj GC=>h2 j hj GC) hp,GH];exact .refl _
   |false=>
    rw[hp]at Co;refine Xi .pure (Xi (vb false) (Yi (Co _) (Yi (by grind [Au]) (Xi ⟨i+1,by omega,fun j hj GC=>?_⟩ ?_))))
    .grind
    .exact⟨by grind,⟨Zr,⟨rfl,hs.ids _⟩,Zr,Zr,Tv⟩,Tv,Fh,Tv⟩
  .intro h;have h:¬i<l.length:=by simp_all
   rw[H9 fun j hj=>h2 j hj Wk];exact .refl _
abbrev BO(l:List α):Prop:=l.length<=1073741824
theorem Cm{α:Type}{enc:α->List AV}{n:Nat}(h:∀x,(enc x).length=n):∀l:List α,Bh n (l.map enc)
 | []=>trivial
 |x::l=>⟨h x,Cm h l⟩
theorem SG{x y:Int×Int}:Zt (Ab x) (Ab y)↔x=y:=by
 constructor
 .intro h;exact Prod.ext h.1 h.2.1
 .rintro rfl;exact⟨rfl,rfl,trivial⟩
theorem sd{x y:Sl}:Zt (Ae x) (Ae y)↔x=y:=by
 obtain⟨p,a,b,c⟩:=x;obtain⟨q,d,e,f⟩:=y;constructor
 .intro h;obtain⟨rfl,rfl,rfl,rfl,_⟩:=h
  rfl
 .intro h;cases h;exact⟨rfl,rfl,rfl,rfl,trivial⟩
abbrev As(l:List Tm):List AV:=[sl Ac l]
abbrev Di(s:CS):List AV:=[vs s]
theorem c78(hs:C3 caps)(l:List (Sl))(p:Sl->Bool)(hF:∀x∈l,PC fF ([.agg (Ae x)]++caps) (vb (p x)))(hl:l.length<9223372036854775807) :
  PC 185 [sl Ae l,.clo fF caps] (vi (J0 p l 0)):=by
 refine E9 (ct CX) rfl BI hm rfl func185 aa2 rfl (Nz rfl) aa2 (Xi {i:Nat // i<=l.length/\∀j (hj:j<l.length),j<i->p l[j]=false} (Xi (fun i=>⟨[(0,sl Ae l),(1,.clo fF caps),(7,vi (l.map Ae).length),(8,vi i.1)],[],Af⟩) (Xi (fun i=>l.length-i.1) (Yi (Xi ⟨0,by simp⟩ ?_) ?_))))
 .exact⟨⟨Zr,⟨rfl,hs.ids _⟩,Zr,Zr,Tv⟩,Tv,Fh,Tv⟩
 .intro⟨i,h1,h2⟩;refine Yi ?_ ?_
  .intro h;have h:i<l.length:=by simp_all
   have hg:l[i]?=some l[i]:=Ge h;refine Xi (Ae l[i]) (Yi (Yi Wk (by simp_all)) (Yi rfl (yN ?_)));have Co:∀h,PC fF ([.agg (Ae l[i])]++caps.map (str0 h)) (vb (p l[i])):=fun h=>by rw[hs.map];simp_all
   cases hp:p l[i]with
   |true=>
    rw[hp]at Co;refine Xi .pure (Xi (vb true) (Yi (Co _) ?_));rw[Lu h (fun j hj GC=>h2 j hj GC) hp,GH];exact .refl _
   |false=>
    rw[hp]at Co;refine Xi .pure (Xi (vb false) (Yi (Co _) (Yi (by grind [Au]) (Xi ⟨i+1,by omega,fun j hj GC=>?_⟩ ?_))))
    .grind
    .exact⟨by grind,⟨Zr,⟨rfl,hs.ids _⟩,Zr,Zr,Tv⟩,Tv,Fh,Tv⟩
  .intro h;have h:¬i<l.length:=by simp_all
   rw[H9 fun j hj=>h2 j hj Wk];exact .refl _
theorem Aba(hs:C3 caps)(l:List (Rq))(p:Rq->Bool)(hF:∀x∈l,PC fF ([.agg (Ad x)]++caps) (vb (p x)))(hl:l.length<9223372036854775807) :
  PC 114 [sl Ad l,.clo fF caps] (vi (J0 p l 0)):=by
 refine E9 (ct CX) rfl BI hm rfl func114 aa2 rfl (Nz rfl) aa2 (Xi {i:Nat // i<=l.length/\∀j (hj:j<l.length),j<i->p l[j]=false} (Xi (fun i=>⟨[(0,sl Ad l),(1,.clo fF caps),(7,vi (l.map Ad).length),(8,vi i.1)],[],Af⟩) (Xi (fun i=>l.length-i.1) (Yi (Xi ⟨0,by simp⟩ ?_) ?_))))
 .exact⟨⟨Zr,⟨rfl,hs.ids _⟩,Zr,Zr,Tv⟩,Tv,Fh,Tv⟩
 .intro⟨i,h1,h2⟩;refine Yi ?_ ?_
  .intro h;have h:(i:Int)<(l.map Ad).length:=h;have h:i<l.length:=by simp_all
   have hg:l[i]?=some l[i]:=Ge h;refine Xi (Ad l[i]) (Yi (Yi Wk (by simp_all)) (Yi rfl (yN ?_)));have Co:∀h,PC fF ([.agg (Ad l[i])]++caps.map (str0 h)) (vb (p l[i])):=fun h=>by rw[hs.map];simp_all
   cases hp:p l[i]with
   |true=>
    rw[hp]at Co;refine Xi .pure (Xi (vb true) (Yi (Co _) ?_));rw[Lu h (fun j hj GC=>h2 j hj GC) hp,GH];exact .refl _
   |false=>
    rw[hp]at Co;refine Xi .pure (Xi (vb false) (Yi (Co _) (Yi (by grind [Au]) (Xi ⟨i+1,by omega,fun j hj GC=>?_⟩ ?_))))
    .grind
    .exact⟨by grind,⟨Zr,⟨rfl,hs.ids _⟩,Zr,Zr,Tv⟩,Tv,Fh,Tv⟩
  .intro h;have h:¬(i:Int)<(l.map Ad).length:=h;have h:¬i<l.length:=by simp_all
   rw[H9 fun j hj=>h2 j hj Wk];exact .refl _
theorem pt(hs:C3 caps)(l:List (Tm))(p:Tm->Bool)(hF:∀x∈l,PC fF ([.agg (Ac x)]++caps) (vb (p x)))(hl:l.length<9223372036854775807) :
  PC 294 [sl Ac l,.clo fF caps] (vi (J0 p l 0)):=by
 refine E9 (ct CX) rfl BI hm rfl func294 aa2 rfl (Nz rfl) aa2 (Xi {i:Nat // i<=l.length/\∀j (hj:j<l.length),j<i->p l[j]=false} (Xi (fun i=>⟨[(0,sl Ac l),(1,.clo fF caps),(7,vi (l.map Ac).length),(8,vi i.1)],[],Af⟩) (Xi (fun i=>l.length-i.1) (Yi (Xi ⟨0,by simp⟩ ?_) ?_))))
 .exact⟨⟨Zr,⟨rfl,hs.ids _⟩,Zr,Zr,Tv⟩,Tv,Fh,Tv⟩
 .intro⟨i,h1,h2⟩;refine Yi ?_ ?_
  .intro h;have h:i<l.length:=by simp_all
   have hg:l[i]?=some l[i]:=Ge h;refine Xi (Ac l[i]) (Yi (Yi Wk (by simp_all)) (Yi rfl (yN ?_)));have Co:∀h,PC fF ([.agg (Ac l[i])]++caps.map (str0 h)) (vb (p l[i])):=fun h=>by rw[hs.map];simp_all
   cases hp:p l[i]with
   |true=>
    rw[hp]at Co;refine Xi .pure (Xi (vb true) (Yi (Co _) ?_));rw[Lu h (fun j hj GC=>h2 j hj GC) hp,GH];exact .refl _
   |false=>
    rw[hp]at Co;refine Xi .pure (Xi (vb false) (Yi (Co _) (Yi (by grind [Au]) (Xi ⟨i+1,by omega,fun j hj GC=>?_⟩ ?_))))
    .grind
    .exact⟨by grind,⟨Zr,⟨rfl,hs.ids _⟩,Zr,Zr,Tv⟩,Tv,Fh,Tv⟩
  .intro h;have h:¬i<l.length:=by simp_all
   rw[H9 fun j hj=>h2 j hj Wk];exact .refl _
theorem Ab8(hs:C3 caps)(l:List (Int×Int))(p:Int×Int->Bool)(hF:∀x∈l,PC fF ([.agg (Ab x)]++caps) (vb (p x)))(hl:BO l) :
  PC 111 [sl Ab l,.clo fF caps] (vb (l.any p)):=by
 refine E9 (ct CX) rfl BI hm rfl func111 aa2 rfl (Nz rfl) aa2 ?_;have hi:=Abr hs l p hF Wk;have Co:∀h,PC 189 [sl Ab l,.clo fF (caps.map (str0 h))] (vi (J0 p l 0)):=fun h=>by grind [C3.map]
 refine C1 (C2 (Co _) ?_);have ha:=Ke (p:=p) l 0 (Cb 0);refine Yi ?_ ?_
 .intro h;rw[<-ha,Av h];exact .refl _
 .intro h;rw[<-ha,Aq h];exact .refl _
theorem c51(hs:C3 caps)(l:List (Sl))(p:Sl->Bool)(hF:∀x∈l,PC fF ([.agg (Ae x)]++caps) (vb (p x)))(hl:BO l) :
  PC 183 [sl Ae l,.clo fF caps] (vb (l.any p)):=by
 refine E9 (ct CX) rfl BI hm rfl func183 aa2 rfl (Nz rfl) aa2 ?_;have hi:=c78 hs l p hF Wk;have Co:∀h,PC 185 [sl Ae l,.clo fF (caps.map (str0 h))] (vi (J0 p l 0)):=fun h=>by grind [C3.map]
 refine C1 (C2 (Co _) ?_);have ha:=Ke (p:=p) l 0 (Cb 0);refine Yi ?_ ?_
 .intro h;rw[<-ha,Av h];exact .refl _
 .intro h;rw[<-ha,Aq h];exact .refl _
theorem c89(hs:C3 caps)(l:List (Rq))(p:Rq->Bool)(hF:∀x∈l,PC fF ([.agg (Ad x)]++caps) (vb (p x)))(hl:BO l) :
  PC 56 [sl Ad l,.clo fF caps] (vb (l.any p)):=by
 refine E9 (ct CX) rfl BI hm rfl func56 aa2 rfl (Nz rfl) aa2 ?_;have hi:=Aba hs l p hF Wk;have Co:∀h,PC 114 [sl Ad l,.clo fF (caps.map (str0 h))] (vi (J0 p l 0)):=fun h=>by grind [C3.map]
 refine C1 (C2 (Co _) ?_);have ha:=Ke (p:=p) l 0 (Cb 0);refine Yi ?_ ?_
 .intro h;have h:(0:Int)<=J0 p l 0:=h;rw[<-ha,Av h];exact .refl _
 .intro h;have h:¬(0:Int)<=J0 p l 0:=h;rw[<-ha,Aq h];exact .refl _
theorem tB(hs:C3 caps)(l:List (Tm))(p:Tm->Bool)(hF:∀x∈l,PC fF ([.agg (Ac x)]++caps) (vb (p x)))(hl:BO l) :
  PC 227 [sl Ac l,.clo fF caps] (vb (l.any p)):=by
 refine E9 (ct CX) rfl BI hm rfl func227 aa2 rfl (Nz rfl) aa2 ?_;have hi:=pt hs l p hF Wk;have Co:∀h,PC 294 [sl Ac l,.clo fF (caps.map (str0 h))] (vi (J0 p l 0)):=fun h=>by grind [C3.map]
 refine C1 (C2 (Co _) ?_);have ha:=Ke (p:=p) l 0 (Cb 0);refine Yi ?_ ?_
 .intro h;rw[<-ha,Av h];exact .refl _
 .intro h;rw[<-ha,Aq h];exact .refl _
theorem w7(hl:BO l):PC 39 [sl Ab l] (sl Ab l):=by
 refine E9 (ct CX) rfl BI hm rfl func39 aa2 rfl (Nz rfl) aa2 ?_;have CY:Bh 2 (l.map Ab)/\([]:C0).length=0/\(([]:C0).length+(l.map Ab).length)*16<=140737488355328/\([]:C0).length+(l.map Ab).length<=9223372036854775807:=by
  grind [Cm]
 refine Yi ?_ ?_
 .intro _;exact Yi CY (.refl _)
 .intro h;refine Yi ?_ ?_
  .show Cj nzA (.slice .none (l.map Ab))
   grind [Cj.nil]
  .exact Yi CY (.refl _)
theorem w8(m:List (Int×Int))(hl:BO l):PC 254 [sl Ab l,sl Ab m] (vb (decide (l=m))):=by
 refine E9 (ct CX) rfl BI hm rfl func254 aa2 rfl (Nz rfl) aa2 (Yi ?_ ?_)
 .intro h
  have:l≠m:=fun e=>h (by rw[e])
  rw[Aq this];exact .refl _
 .intro h;have CL:l.length=m.length:=by grind
  refine Xi {i:Nat // i<=l.length/\l.take i=m.take i} (Xi (fun i=>⟨[(0,sl Ab l),(1,sl Ab m),(12,vi (l.map Ab).length),(13,vi i.1)],[],Af⟩) (Xi (fun i=>l.length-i.1) (Yi (Xi ⟨0,by simp⟩ ?_) ?_)))
  .exact⟨⟨Zr,Zr,Zr,Zr,Tv⟩,Tv,Fh,Tv⟩
  .intro⟨i,h1,h2⟩;refine Yi ?_ ?_
   .intro h;have h:i<l.length:=by simp_all
    have h' : i<m.length:=by omega
    have hg:l[i]?=some l[i]:=Ge h;have yx : m[i]?=some m[i]:=Ge h';refine Xi (Ab l[i]) (Yi (Yi Wk (by simp_all)) (Yi rfl (yN ?_)));refine Xi (Ab m[i]) (Yi (Yi Wk (by simp_all)) (Yi rfl (yN ?_)));refine Yi ?_ ?_
    .intro h5;have e:l[i]=m[i]:=SG.1 h5;refine Yi aa2 (Yi (by grind [Au]) (Xi ⟨i+1,by omega,?_⟩ ?_))
     .grind [List.take_add_one]
     .exact⟨Dl l.length i Wk,⟨Zr,Zr,Zr,Zr,Tv⟩,Tv,Fh,Tv⟩
    .intro h5;refine Yi aa2 ?_
     have:l≠m:=fun e=>h5 (SG.2 (by simp_all))
     rw[Aq this];exact .refl _
   .intro h;have h:¬i<l.length:=by simp_all
    have e:l=m:=by
     grind
    rw[Av e];exact .refl _
theorem c27(l m:List (Sl))(hl:BO l):PC 14 [sl Ae l,sl Ae m] (vb (decide (l=m))):=by
 refine E9 (ct CX) rfl BI hm rfl func14 aa2 rfl (Nz rfl) aa2 (Yi ?_ ?_)
 .intro h
  have:l≠m:=fun e=>h (by rw[e])
  rw[Aq this];exact .refl _
 .intro h;have CL:l.length=m.length:=by grind
  refine Xi {i:Nat // i<=l.length/\l.take i=m.take i} (Xi (fun i=>⟨[(0,sl Ae l),(1,sl Ae m),(12,vi (l.map Ae).length),(13,vi i.1)],[],Af⟩) (Xi (fun i=>l.length-i.1) (Yi (Xi ⟨0,by simp⟩ ?_) ?_)))
  .exact⟨⟨Zr,Zr,Zr,Zr,Tv⟩,Tv,Fh,Tv⟩
  .intro⟨i,h1,h2⟩;refine Yi ?_ ?_
   .intro h;have h:i<l.length:=by simp_all
    have h' : i<m.length:=by omega
    have hg:l[i]?=some l[i]:=Ge h;have yx : m[i]?=some m[i]:=Ge h';refine Xi (Ae l[i]) (Yi (Yi Wk (by simp_all)) (Yi rfl (yN ?_)));refine Xi (Ae m[i]) (Yi (Yi Wk (by simp_all)) (Yi rfl (yN ?_)));refine Yi ?_ ?_
    .intro h5;have e:l[i]=m[i]:=sd.1 h5;refine Yi aa2 (Yi (by grind [Au]) (Xi ⟨i+1,by omega,?_⟩ ?_))
     .grind [List.take_add_one]
     .exact⟨Dl l.length i Wk,⟨Zr,Zr,Zr,Zr,Tv⟩,Tv,Fh,Tv⟩
    .intro h5;refine Yi aa2 ?_
     have:l≠m:=fun e=>h5 (sd.2 (by simp_all))
     rw[Aq this];exact .refl _
   .intro h;have h:¬i<l.length:=by simp_all
    have e:l=m:=by
     grind
    rw[Av e];exact .refl _
abbrev nI(l:List Nat):M5:=⟨l,[],[],[],[],[],[],[],[],[],[]⟩
theorem C3.ptr(cs:List AV):C3 [.cptr cs]:=fun c hc h=>by
 rw[AJ.1 hc];rfl
theorem Ab9(s:Int×Int)(p:Int):PC 112 [.agg (Ab s),.cptr [vi p]] (vb (BP p s)):=by
 refine Ps CX func112 rfl (Nz rfl) (Yi ?_ ?_)
 .intro h;refine Yi ?_ ?_
  .intro h2;rw[show BP p s=true by grind [BP]];exact .refl _
  .intro h2;rw[show BP p s=false by grind [BP]];exact .refl _
 .intro h;rw[show BP p s=false by simp[BP,h]];exact .refl _
theorem t6(s:List (Int×Int))(p:Int)(hl:BO s):PC 54 [sl Ab s,vi p] (vb (has s p)):=by
 refine Ps (nI [3]) func54 rfl (Nz rfl) (Yi ?_ ?_)
 .intro h;refine Yi ?_ ?_
  .intro h2;refine C1 (C2 (Ab8 (C3.ptr [vi p]) s (BP p) (fun x _=>Ab9 x p) hl) ?_);rw[show has s p=s.any (BP p) by grind [has]];cases s.any (BP p)<;>exact .refl _
  .intro h2;rw[show has s p=false by grind [has]];exact .refl _
 .intro h;rw[show has s p=false by simp[has,h]];exact .refl _
theorem c88(r:Rl):PC 55 [.agg (Am r)] (vi (plc r.ver)):=by
 refine Ps CX func55 rfl (Nz rfl) ?_;exact Yi (Nz rfl) (C1 (C2 (tX r.ver) (.refl _)))
theorem c99:PC 359 [.agg (Ae x),.cptr (Ac t)] (vb (decide (x.path=t.path))):=by
 refine Ps CX func359 rfl (Nz rfl) (Yi ?_ ?_)
 .intro h;rw[Av h];exact .refl _
 .intro h;rw[Aq h];exact .refl _
theorem ME{α:Type}{p:α->Bool}:∀(l:List α) (k:Int),(J0 p l k=-1/\l.find? p=none)\/∃i x,J0 p l k=k+(i:Nat)/\l[i]?=some x/\l.find? p=some x
 | [],k=>.inl Zr
 |x::r,k=>by
  cases h:p x with
  |true=>exact .inr ⟨0,x,by simp[J0,h],rfl,by simp[h]⟩
  |false=>
   rcases ME (p:=p) r (k+1)with ⟨h1,h2⟩ | ⟨i,y,h1,h2,h3⟩
   .grind [J0]
   .exact .inr ⟨i+1,y,by grind [J0],by simp_all,by simp_all⟩
theorem c55(hl:BO s)(ht:BO t.set):PC 322 [.agg (Ac t),sl Ae s] (vb (E4 t s)):=by
 have hc:=c78 (C3.ptr (Ac t)) s (fun x=>decide (x.path=t.path)) (fun x _=>c99 x t) Wk;unfold E4;rcases ME (p:=fun x:Sl=>decide (x.path=t.path)) s 0 with ⟨h1,h2⟩ | ⟨i,x,h1,h2,h3⟩
 .rw[h1]at hc;rw[h2];refine Ps (nI [2]) func322 rfl (Nz rfl) (C1 (C2 hc (Yi ?_ ?_)))
  .intro _;refine Yi ?_ ?_
   .intro h;rw[h];exact .refl _
   .intro h;rw[h];exact .refl _
  .intro h;exact absurd (show(-1:Int)<0 by decide) h
 .rw[h1,GH]at hc;rw[h3];have hg:(s.map Ae)[((i:Nat):Int).toNat]?=some (Ae x):=by simp_all
  have hp:=tX x.ver;dsimp only;rcases Bt (By x.ver)with hv | hv
  .rw[hv,A3 rfl,A3 rfl]at hp;rw[hv];refine Ps (nI [2]) func322 rfl (Nz rfl) (C1 (C2 hc (Yi ?_ ?_)))
   .intro h;omega
   .intro _;refine Xi (Ae x) (Yi (Yi Wk hg) (Yi rfl (yN (C1 (C2 hp (Yi ?_ ?_))))))
    .intro _;refine C1 (C2 (t6 t.set (place x.ver) ht) ?_);exact .refl _
    .intro h;exact absurd rfl h
  .rw[hv,AN aa1,AN aa1]at hp;rw[hv];refine Ps (nI [2]) func322 rfl (Nz rfl) (C1 (C2 hc (Yi ?_ ?_)))
   .intro h;omega
   .intro _;refine Xi (Ae x) (Yi (Yi Wk hg) (Yi rfl (yN (C1 (C2 hp (Yi ?_ ?_))))))
    .intro h;omega
    .intro _;exact .refl _
theorem Xu{l:List α}(h:∀j (hj:j<l.length),j<i->p l[j]=true)(hi:¬i<l.length):l.all p=true:=by
 grind [List.mem_iff_getElem]
theorem tg{l:List α}(hi:i<l.length)(h:p l[i]=false):l.all p=false:=by
 grind
theorem o9{l:List α}(hi:i<l.length)(h:p l[i]=true):l.any p=true:=by
 grind
theorem kz{l:List α}(h:∀j (hj:j<l.length),j<i->p l[j]=false)(hi:¬i<l.length):l.any p=false:=by
 grind [List.mem_iff_getElem]
abbrev Qx(l:List Tm):Prop:=BO l/\∀t∈l,BO t.set
theorem c26(l:List Tm)(s:List Sl)(hl:Qx l)(hs:BO s):PC 257 [sl Ac l,sl Ae s] (vb (l.all fun t=>E4 t s)):=by
 have hc:∀i (h:i<l.length),PC 322 [.agg (Ac l[i]),sl Ae s] (vb (E4 l[i] s)):=fun i h=>c55 l[i] s hs (hl.2 _ (Ah h));obtain⟨hl,_⟩:=hl;unfold BO at hl;refine Ps CX func257 rfl (Nz rfl) (Xi {i:Nat // i<=l.length/\∀j (hj:j<l.length),j<i->E4 l[j] s=true} (Xi (fun i=>⟨[(0,sl Ac l),(1,sl Ae s),(7,vi (l.map Ac).length),(8,vi i.1)],[],Af⟩) (Xi (fun i=>l.length-i.1) (Yi (Xi ⟨0,by simp⟩ ?_) ?_))))
 .exact⟨Z4,Tv,Fh,Tv⟩
 .intro⟨i,h1,h2⟩;refine Yi ?_ ?_
  .intro h;have h:i<l.length:=by simp_all
   have hg:l[i]?=some l[i]:=Ge h;have fj:=hc i h;refine Xi (Ac l[i]) (Yi (Yi Wk (by simp_all)) (Yi rfl (yN ?_)));cases hp:E4 l[i] s with
   |false=>
    rw[hp]at fj;refine C1 (C2 fj ?_);rw[tg (p:=fun t=>E4 t s) h hp];exact .refl _
   |true=>
    rw[hp]at fj;refine C1 (C2 fj (Yi (by grind [Au]) (Xi ⟨i+1,by omega,fun j hj GC=>?_⟩ ?_)))
    .grind
    .exact⟨by grind,Z4,Tv,Fh,Tv⟩
  .intro h;have h:¬i<l.length:=by simp_all
   rw[Xu (p:=fun t=>E4 t s) h2 h];exact .refl _
theorem Abc:PC 259 [.agg (Ae x),.cptr (Ac t)] (vb (decide (x.path=t.path))):=by
 refine Ps CX func259 rfl (Nz rfl) (Yi ?_ ?_)
 .intro h;rw[Av h];exact .refl _
 .intro h;rw[Aq h];exact .refl _
theorem Abb(hs:BO s):PC 258 [.agg (Ac t),.cptr [sl Ae s]] (vb (!BS s t.path)):=by
 have hc:=c51 (C3.ptr (Ac t)) s (fun x=>decide (x.path=t.path)) (fun x _=>Abc x t) hs;unfold BS;cases hp:s.any fun x=>decide (x.path=t.path)with
 |true=>
  rw[hp]at hc;refine Ps (nI [2]) func258 rfl (Nz rfl) ?_;exact C1 (C2 hc (.refl _))
 |false=>
  rw[hp]at hc;refine Ps (nI [2]) func258 rfl (Nz rfl) ?_;exact C1 (C2 hc (.refl _))
theorem c91(l:List Tm)(s:List Sl)(hl:Qx l)(hs:BO s):PC 188 [sl Ac l,sl Ae s] (vb (Bp l s)):=by
 have hv:=c26 l s hl hs;have hc:=tB (C3.ptr [sl Ae s]) l (fun t=>!BS s t.path) (fun t _=>Abb t s hs) hl.1;unfold Bp AX;cases h1:l.all fun t=>E4 t s with
 |false=>
  rw[h1]at hv;refine Ps (nI [3]) func188 rfl (Nz rfl) ?_;exact C1 (C2 hv (.refl _))
 |true=>
  rw[h1]at hv;cases h2:l.any fun t=>!BS s t.path with
  |true=>
   rw[h2]at hc;refine Ps (nI [3]) func188 rfl (Nz rfl) ?_;exact C1 (C2 hv (C1 (C2 hc (.refl _))))
  |false=>
   rw[h2]at hc;refine Ps (nI [3]) func188 rfl (Nz rfl) ?_;exact C1 (C2 hv (C1 (C2 hc (.refl _))))
def qD(p:Int)(s:Int×Int):Bool:=decide (max 0 s.1<=p)&&decide (p<min 1000000 s.2)
theorem qE(s:List (Int×Int))(p:Int):s.any (qD p)=has s p:=by
 grind [has,qD,BP]
theorem gS(s:List (Int×Int))(p:Int)(hl:BO s):PC 242 [sl Ab s,vi p] (vb (has s p)):=by
 rw[<-qE];unfold BO at hl;refine Ps CX func242 rfl (Nz rfl) (Xi {i:Nat // i<=s.length/\∀j (hj:j<s.length),j<i->qD p s[j]=false} (Xi (fun i=>⟨[(0,sl Ab s),(1,vi p),(5,vi i.1)],[],Af⟩) (Xi (fun i=>s.length-i.1) (Yi (Xi ⟨0,by simp⟩ ?_) ?_))))
 .exact⟨Z3,Tv,Fh,Tv⟩
 .intro⟨i,h1,h2⟩;refine Yi ?_ ?_
  .intro h;have h:i<s.length:=by simp_all
   have hg:s[i]?=some s[i]:=Ge h;refine Xi (Ab s[i]) (Yi (Yi Wk (by simp_all)) (Yi rfl ?_));refine Yi ?_ ?_
   .intro h3;refine Xi (Ab s[i]) (Yi (Yi Wk (by simp_all)) (Yi rfl ?_));refine Yi ?_ ?_
    .intro h4;have h5:qD p s[i]=true:=by grind [qD]
     show Cj (vb true) (vb (s.any (qD p)))
     grind [Cj.refl]
    .intro h4;refine Yi (by grind [Au]) (Xi ⟨i+1,by omega,fun j hj GC=>?_⟩ ?_)
     .grind [qD]
     .exact⟨Dl s.length i Wk,Z3,Tv,Fh,Tv⟩
   .intro h3;refine Yi (by grind [Au]) (Xi ⟨i+1,by omega,fun j hj GC=>?_⟩ ?_)
    .grind [qD]
    .exact⟨Dl s.length i Wk,Z3,Tv,Fh,Tv⟩
  .intro h;have h:¬i<s.length:=by simp_all
   show Cj (vb false) (vb (s.any (qD p)))
   grind [kz,Cj.refl]
theorem Abe(p:CS)(hl:BO s):PC 250 [sl Ae s,vs p] (vb (BS s p)):=by
 unfold BO at hl;unfold BS;refine Ps CX func250 rfl (Nz rfl) (Xi {i:Nat // i<=s.length/\∀j (hj:j<s.length),j<i->decide (s[j].path=p)=false} (Xi (fun i=>⟨[(0,sl Ae s),(1,vs p),(5,vi i.1)],[],Af⟩) (Xi (fun i=>s.length-i.1) (Yi (Xi ⟨0,by simp⟩ ?_) ?_))))
 .exact⟨Z3,Tv,Fh,Tv⟩
 .intro⟨i,h1,h2⟩;refine Yi ?_ ?_
  .intro h;have h:(i:Int)<(s.map Ae).length:=h;have h:i<s.length:=by simp_all
   have hg:s[i]?=some s[i]:=Ge h;refine Xi (Ae s[i]) (Yi (Yi Wk (by simp_all)) (Yi rfl ?_));refine Yi ?_ ?_
   .intro h3;have h3:s[i].path=p:=h3;rw[o9 (p:=fun x:Sl=>decide (x.path=p)) h (Av h3)];exact .refl _
   .intro h3;have h3:¬s[i].path=p:=h3;refine Yi (by grind [Au]) (Xi ⟨i+1,by omega,fun j hj GC=>?_⟩ ?_)
    .grind
    .exact⟨by grind,Z3,Tv,Fh,Tv⟩
  .intro h;have h:¬(i:Int)<(s.map Ae).length:=h;have h:¬i<s.length:=by simp_all
   rw[kz (p:=fun x:Sl=>decide (x.path=p)) h2 h];exact .refl _
theorem tN(n:Int):PC 119 [vi n] (vb (decide (okPart n))):=by
 refine Ps CX func119 rfl (Nz rfl) (Yi ?_ ?_)
 .intro h;refine Yi ?_ ?_
  .intro h2;show Cj (vb true) (vb (decide (okPart n)));rw[Av ⟨h,h2⟩];exact .refl _
  .intro h2;show Cj (vb false) (vb (decide (okPart n)));rw[Aq fun q=>h2 q.2];exact .refl _
 .intro h;show Cj (vb false) (vb (decide (okPart n)));rw[Aq fun q=>h q.1];exact .refl _
theorem pq:PC 61 [.agg (Ej v)] (vb (By v)):=by
 have ha:=tN v.a;have hb:=tN v.b;have hc:=tN v.c;unfold By;cases h1:decide (okPart v.a)with
 |false=>
  rw[h1]at ha;refine Ps CX func61 rfl (Nz rfl) ?_;exact C1 (C2 ha (.refl _))
 |true=>
  rw[h1]at ha;cases h2:decide (okPart v.b)with
  |false=>
   rw[h2]at hb;refine Ps CX func61 rfl (Nz rfl) ?_;exact C1 (C2 ha (C1 (C2 hb (.refl _))))
  |true=>
   rw[h2]at hb;refine Ps CX func61 rfl (Nz rfl) ?_;exact C1 (C2 ha (C1 (C2 hb (C1 (C2 hc (.refl _))))))
theorem AbA:PC 357 [.agg (Ej v)] (.tup [vi (if By v then place v else 0),vi (if By v then 0 else 2)]):=by
 have hc:=pq v;cases h:By v with
 |false=>
  rw[h]at hc;refine Ps CX func357 rfl (Nz rfl) ?_;exact Yi (Nz rfl) (C1 (C2 hc (.refl _)))
 |true=>
  rw[h]at hc;have hv:=FZ h;refine Ps CX func357 rfl (Nz rfl) (Yi (Nz rfl) (C1 (C2 hc (Yi (by grind [Au]) ?_))));exact Yi (by grind [Au]) (.refl _)
theorem XQ{α:Type}{p:α->Bool}:∀{l:List α} {i:Nat} (hi:i<l.length),(∀j (hj:j<l.length),j<i->p l[j]=false)->p l[i]=true->l.find? p=some l[i]
 |x::r,0,_,_,h=>by
  simp_all
 |x::r,i+1,hi,hb,h=>by
  have h0:p x=false:=hb 0 aa0 Wk;rw[HX,h0];exact XQ (l:=r) (i:=i) (by grind) (fun j hj GC=>hb (j+1) Wk Wk) h
theorem Wu{l:List α}(h:∀j (hj:j<l.length),j<i->p l[j]=false)(hi:¬i<l.length):l.find? p=none:=by
 grind [List.mem_iff_getElem]
theorem mo{t:Tm}{s:List Sl}(hi:i<s.length)(h2:∀j (hj:j<s.length),j<i->decide (s[j].path=t.path)=false)(h:s[i].path=t.path):E4 t s=(By s[i].ver&&has t.set (place s[i].ver)):=by
 grind [E4,XQ]
theorem cQ{t:Tm}{s:List Sl}(h2:∀j (hj:j<s.length),j<i->decide (s[j].path=t.path)=false)(hi:¬i<s.length):E4 t s=t.absent:=by
 grind [E4,Wu]
theorem Abs(hl:BO s)(ht:BO t.set):PC 312 [.agg (Ac t),sl Ae s] (vb (E4 t s)):=by
 unfold BO at hl;refine Ps (nI [2]) func312 rfl (Nz rfl) (Xi {i:Nat // i<=s.length/\∀j (hj:j<s.length),j<i->decide (s[j].path=t.path)=false} (Xi (fun i=>⟨[(1,sl Ae s),(2,.ref 2 0),(5,vi i.1)],[(2,.ro (Ac t))],Af⟩) (Xi (fun i=>s.length-i.1) (Yi (Xi ⟨0,by simp⟩ ?_) ?_))))
 .exact⟨Z3,Z1,Fh,Tv⟩
 .intro⟨i,h1,h2⟩;refine Yi ?_ ?_
  .intro h;have h:(i:Int)<(s.map Ae).length:=h;have h:i<s.length:=by simp_all
   have hg:s[i]?=some s[i]:=Ge h;refine Xi (Ae s[i]) (Yi (Yi Wk (by simp_all)) (Yi rfl ?_));refine Yi ?_ ?_
   .intro h3;have h3:s[i].path=t.path:=h3;refine Yi aa2 (Xi (Ae s[i]) (Yi (Yi Wk (by simp_all)) (Yi rfl (yN ?_))));have hp:=AbA s[i].ver;have hq:=mo h h2 h3;refine Ax (Bt (By s[i].ver)) (fun hv=>?_) (fun hv=>?_)
    .rw[hv,A3 rfl,A3 rfl]at hp;rw[hv,Sn]at hq;refine C1 (C2 hp (Yi ?_ ?_))
     .intro _;refine C1 (C2 (gS t.set (place s[i].ver) ht) ?_);show Cj (vb (has t.set (place s[i].ver))) (vb (E4 t s))
      grind [Cj.refl]
     .intro h;exact absurd rfl h
    .rw[hv,AN aa1,AN aa1]at hp;rw[hv,Bool.false_and]at hq;refine C1 (C2 hp (Yi ?_ ?_))
     .intro h;have h:(2:Int)=0:=h;omega
     .intro _;show Cj (vb false) (vb (E4 t s))
      grind [Cj.refl]
   .intro h3;have h3:¬s[i].path=t.path:=h3;refine Yi aa2 (Yi (by grind [Au]) (Xi ⟨i+1,by omega,fun j hj GC=>?_⟩ ?_))
    .grind
    .exact⟨by grind,Z3,Z1,Fh,Tv⟩
  .intro h;have h:¬(i:Int)<(s.map Ae).length:=h;have h:¬i<s.length:=by simp_all
   have hq:=cQ h2 h;refine Yi ?_ ?_
   .intro h5;have h5:t.absent=true:=h5;show Cj (vb true) (vb (E4 t s))
    grind [Cj.refl]
   .intro h5;have h5:t.absent=false:=h5;show Cj (vb false) (vb (E4 t s))
    grind [Cj.refl]
end Go.Eng
