/- Lemmas 14. -/
import Derived.Test.YtkjhcikodmiceaaGreatDoorMA12
import Derived.Test.YtkjhcikodmiceaaGreatDoorMA02
import Derived.Shelf.SlSortCmp.WholeK
import Derived.Shelf.Sort.Plain
import Derived.Shelf.Small.Strs
import Derived.Shelf.Small.Bits
import Derived.Ground.SlsfProg
import Derived.Ground.NamesProg
set_option maxHeartbeats 1000000
namespace Go.Eng
open Go.Proofs
variable {α:Type}{b0 b1 b2 b3:Bool}{a0:α}{b4:Bool}{a1:α}{b5:Bool}{a2 a3:α}{b6:Bool}{a4:α}{b7:Bool}{a5 a6:α}{b8:Bool}{a7:α}{b9:Bool}{a8:α}{Wa:Bool}{a9:α}{l:List α}{ZQ:α}(i:Nat)(pl:Ns)(b:Bool)
abbrev G(n:Int):AV:=.v (.int .i64 n)
abbrev I:AV:=.v (.bool b)
abbrev vs(s:CS):AV:=.v (.string s)
abbrev sl(enc:α -> List AV)(l:List α):AV:=.slice .none (l.map enc)
abbrev Ez(v:Ver):List AV:=[G v.a,G v.b,G v.c]
abbrev Y(s:Int×Int):List AV:=[G s.1,G s.2]
abbrev Ac(q:Rq):List AV:=[vs q.path,sl Y q.set]
abbrev V(r:Rl):List AV:=[vs r.path,G r.ver.a,G r.ver.b,G r.ver.c,sl Ac r.reqs,vs r.arch,vs r.ifc,vs r.cert,I r.yanked]
abbrev Ae(s:Sl):List AV:=[vs s.path,G s.ver.a,G s.ver.b,G s.ver.c]
abbrev M(t:Tm):List AV:=[vs t.path,I t.absent,sl Y t.set]
abbrev AG(i:Nf):List AV:=[G i.kind,vs i.path,G i.place,G i.number,G i.left,G i.right]
abbrev N(s:Sk):List AV:=[vs s.path,G s.place,G s.inf]
noncomputable abbrev dO:Cx:=⟨Tryz.prog,tQ,pl,false,0,fun _ _ _ _ => True⟩
noncomputable abbrev IU:Cx:=⟨Tryz.prog,tQ,pl,true,0,fun _ _ _ _ => True⟩
abbrev Dc:Ns:=⟨[],[],[],[],[],[],[],[],[],[],[]⟩
abbrev PC(f:Nat)(args:List AV)(res:AV):Prop:=MF Tryz.prog f args res
theorem hm:Tryz.prog.follows .mixedOrders=true:=by rfl
theorem X{α:Sort _}{β:Sort _}{a:α}{b:β}:a=a /\ b=b:=⟨rfl,rfl⟩
theorem Nz{a b:Nat}(h:Nat.ble a b=true):a <= b:=Et h
theorem C4{a b:Nat}(h:Nat.ble a b=true:=by rfl):a<=b:=Nz h
theorem Z{α:Sort _}{p:α -> Prop}(w:α)(h:p w):Exists p:=Exists.intro w h
theorem J{a b:Prop}(h:a)(k:b):a /\ b:=And.intro h k
theorem C1{p:yF->Prop}(h:p .pure):Exists p:=⟨_,h⟩
theorem U{A:Type}{c d:A->Prop}{w:A}(h:c w)(k:d w):∃w,c w∧d w:=⟨w,h,k⟩
theorem Fh{st:St}{h:Nat -> HO}:∀j,Af j=.free \/ (st.h j=Af j /\ bn h (Af j)=true):=fun _ => .inl rfl
theorem W:True:=trivial
theorem Ii(h:i <= 9223372036854775806):Au ((i:Int) + 1):=by unfold Au;omega
theorem Dl(n i:Nat)(h:i<n):n-(i + 1)<n-i:=Wk
theorem Bt:b=true \/ b=false:=Bool.eq_false_or_eq_true b
theorem Z1:(a0=a0 /\ b0=b0) /\ True:=⟨⟨rfl,rfl⟩,trivial⟩
theorem Z2:(a0=a0 /\ b0=b0) /\ (a1=a1 /\ b1=b1) /\ True:=⟨⟨rfl,rfl⟩,⟨rfl,rfl⟩,trivial⟩
theorem Z3:(a0=a0 /\ b0=b0) /\ (a1=a1 /\ b1=b1) /\ (a2=a2 /\ b2=b2) /\ True:=⟨⟨rfl,rfl⟩,⟨rfl,rfl⟩,⟨rfl,rfl⟩,trivial⟩
theorem Z4:(a0=a0 /\ b0=b0) /\ (a1=a1 /\ b1=b1) /\ (a2=a2 /\ b2=b2) /\ (a3=a3 /\ b3=b3) /\ True:=⟨⟨rfl,rfl⟩,⟨rfl,rfl⟩,⟨rfl,rfl⟩,⟨rfl,rfl⟩,trivial⟩
theorem Z5:(a0=a0 /\ b0=b0) /\ (a1=a1 /\ b1=b1) /\ (a2=a2 /\ b2=b2) /\ (a3=a3 /\ b3=b3) /\ (a4=a4 /\ b4=b4) /\ True:=⟨⟨rfl,rfl⟩,⟨rfl,rfl⟩,⟨rfl,rfl⟩,⟨rfl,rfl⟩,⟨rfl,rfl⟩,trivial⟩
theorem Z6:(a0=a0 /\ b0=b0) /\ (a1=a1 /\ b1=b1) /\ (a2=a2 /\ b2=b2) /\ (a3=a3 /\ b3=b3) /\ (a4=a4 /\ b4=b4) /\ (a5=a5 /\ b5=b5) /\ True:=⟨⟨rfl,rfl⟩,⟨rfl,rfl⟩,⟨rfl,rfl⟩,⟨rfl,rfl⟩,⟨rfl,rfl⟩,⟨rfl,rfl⟩,trivial⟩
theorem Z7:(a0=a0 /\ b0=b0) /\ (a1=a1 /\ b1=b1) /\ (a2=a2 /\ b2=b2) /\ (a3=a3 /\ b3=b3) /\ (a4=a4 /\ b4=b4) /\ (a5=a5 /\ b5=b5) /\ (a6=a6 /\ b6=b6) /\ True:=⟨⟨rfl,rfl⟩,⟨rfl,rfl⟩,⟨rfl,rfl⟩,⟨rfl,rfl⟩,⟨rfl,rfl⟩,⟨rfl,rfl⟩,⟨rfl,rfl⟩,trivial⟩
theorem Z8:(a0=a0 /\ b0=b0) /\ (a1=a1 /\ b1=b1) /\ (a2=a2 /\ b2=b2) /\ (a3=a3 /\ b3=b3) /\ (a4=a4 /\ b4=b4) /\ (a5=a5 /\ b5=b5) /\ (a6=a6 /\ b6=b6) /\ (a7=a7 /\ b7=b7) /\ True:=⟨⟨rfl,rfl⟩,⟨rfl,rfl⟩,⟨rfl,rfl⟩,⟨rfl,rfl⟩,⟨rfl,rfl⟩,⟨rfl,rfl⟩,⟨rfl,rfl⟩,⟨rfl,rfl⟩,trivial⟩
theorem Z9:(a0=a0 /\ b0=b0) /\ (a1=a1 /\ b1=b1) /\ (a2=a2 /\ b2=b2) /\ (a3=a3 /\ b3=b3) /\ (a4=a4 /\ b4=b4) /\ (a5=a5 /\ b5=b5) /\ (a6=a6 /\ b6=b6) /\ (a7=a7 /\ b7=b7) /\ (a8=a8 /\ b8=b8) /\ True:=⟨⟨rfl,rfl⟩,⟨rfl,rfl⟩,⟨rfl,rfl⟩,⟨rfl,rfl⟩,⟨rfl,rfl⟩,⟨rfl,rfl⟩,⟨rfl,rfl⟩,⟨rfl,rfl⟩,⟨rfl,rfl⟩,trivial⟩
theorem Z10:(a0=a0 /\ b0=b0) /\ (a1=a1 /\ b1=b1) /\ (a2=a2 /\ b2=b2) /\ (a3=a3 /\ b3=b3) /\ (a4=a4 /\ b4=b4) /\ (a5=a5 /\ b5=b5) /\ (a6=a6 /\ b6=b6) /\ (a7=a7 /\ b7=b7) /\ (a8=a8 /\ b8=b8) /\ (a9=a9 /\ b9=b9) /\ True:=⟨⟨rfl,rfl⟩,⟨rfl,rfl⟩,⟨rfl,rfl⟩,⟨rfl,rfl⟩,⟨rfl,rfl⟩,⟨rfl,rfl⟩,⟨rfl,rfl⟩,⟨rfl,rfl⟩,⟨rfl,rfl⟩,⟨rfl,rfl⟩,trivial⟩
theorem Z11:(a0=a0 /\ b0=b0) /\ (a1=a1 /\ b1=b1) /\ (a2=a2 /\ b2=b2) /\ (a3=a3 /\ b3=b3) /\ (a4=a4 /\ b4=b4) /\ (a5=a5 /\ b5=b5) /\ (a6=a6 /\ b6=b6) /\ (a7=a7 /\ b7=b7) /\ (a8=a8 /\ b8=b8) /\ (a9=a9 /\ b9=b9) /\ (ZQ=ZQ /\ Wa=Wa) /\ True:=⟨⟨rfl,rfl⟩,⟨rfl,rfl⟩,⟨rfl,rfl⟩,⟨rfl,rfl⟩,⟨rfl,rfl⟩,⟨rfl,rfl⟩,⟨rfl,rfl⟩,⟨rfl,rfl⟩,⟨rfl,rfl⟩,⟨rfl,rfl⟩,⟨rfl,rfl⟩,trivial⟩
theorem Z12{gm:α}{mo:Bool}:(a0=a0 /\ b0=b0) /\ (a1=a1 /\ b1=b1) /\ (a2=a2 /\ b2=b2) /\ (a3=a3 /\ b3=b3) /\ (a4=a4 /\ b4=b4) /\ (a5=a5 /\ b5=b5) /\ (a6=a6 /\ b6=b6) /\ (a7=a7 /\ b7=b7) /\ (a8=a8 /\ b8=b8) /\ (a9=a9 /\ b9=b9) /\ (ZQ=ZQ /\ Wa=Wa) /\ (gm=gm /\ mo=mo) /\ True:=⟨⟨rfl,rfl⟩,⟨rfl,rfl⟩,⟨rfl,rfl⟩,⟨rfl,rfl⟩,⟨rfl,rfl⟩,⟨rfl,rfl⟩,⟨rfl,rfl⟩,⟨rfl,rfl⟩,⟨rfl,rfl⟩,⟨rfl,rfl⟩,⟨rfl,rfl⟩,⟨rfl,rfl⟩,trivial⟩
theorem Z13{gm a12:α}{mo ug:Bool}:(a0=a0 /\ b0=b0) /\ (a1=a1 /\ b1=b1) /\ (a2=a2 /\ b2=b2) /\ (a3=a3 /\ b3=b3) /\ (a4=a4 /\ b4=b4) /\ (a5=a5 /\ b5=b5) /\ (a6=a6 /\ b6=b6) /\ (a7=a7 /\ b7=b7) /\ (a8=a8 /\ b8=b8) /\ (a9=a9 /\ b9=b9) /\ (ZQ=ZQ /\ Wa=Wa) /\ (gm=gm /\ mo=mo) /\ (a12=a12 /\ ug=ug) /\ True:=⟨⟨rfl,rfl⟩,⟨rfl,rfl⟩,⟨rfl,rfl⟩,⟨rfl,rfl⟩,⟨rfl,rfl⟩,⟨rfl,rfl⟩,⟨rfl,rfl⟩,⟨rfl,rfl⟩,⟨rfl,rfl⟩,⟨rfl,rfl⟩,⟨rfl,rfl⟩,⟨rfl,rfl⟩,⟨rfl,rfl⟩,trivial⟩
theorem Nn:(0:Int) <= (i:Int):=Gd i
abbrev Ic(x:List Rl)(ifs:C0):List AV:=[sl V x,.slice .none ifs]
theorem Ps{f:Nat}{fn:Func}{c:Code}{args:List AV}{res:AV}(hf:Tryz.prog.funcs[f]?=some fn)(hb:fn.body=some c)(hN:args.length <= fn.ntmps)(hk:Rg (dO pl) c (wk (dO pl) fn.results.toList fun r => CD r res) ⟨PZ args,Af⟩)(hn : (fn.name == "runtime.NumGoroutine")=false:=by kernel_rfl)(hc : EL fn.ntmps c=true:=by kernel_rfl) : MF Tryz.prog f args res:=Ff (dO pl) rfl BA hm rfl hf hn hb hN hc hk
theorem Lm{β:Type}(f:α -> β):(l.map f).length=l.length:=BG f
theorem Ge{i:Nat}(h:i<l.length):l[i]?=some l[i]:=AT h
end Go.Eng
namespace Go.Proofs
open Go.Proofs.Tryz
open Go.Shelf
def Tryz.layPdqSpan_ren:Go.Shelf.Ren:=⟨fun | 14=>339 | 20=>367 | 21=>368 | 22=>369 | 23=>370 | 24=>371 | 25=>372 | 26=>373 | 27=>374 | 46=>386 | 47=>283 | 48=>284 | 49=>387 | 50=>388 | 15=>146 | 57=>401 | 28=>219 | 29=>220 | n=>n,fun | 24=>64 | 22=>65 | 3=>3 | 25=>378 | 4=>4 | 0=>0 | 46=>309 | 45=>308 | 50=>150 | 66=>372 | 39=>240 | 55=>229 | 70=>208 | 76=>408 | 77=>409 | 53=>299 | 5=>5 | 9=>9 | n=>n,fun | n=>n⟩
theorem Tryz.layPdqSpan:Go.Proofs.SlLaysF0.n14 prog Tryz.layPdqSpan_ren:={
 mixed:=by kernel_rfl
 f14:=⟨Tryz.f339.name,by decide,Go.Eng.A0a func339⟩
 f15:=Go.Eng.A0a func146
 f20:=⟨Tryz.f367.name,by decide,Go.Eng.A0a func367⟩
 f21:=⟨Tryz.f368.name,by decide,Go.Eng.A0a func368⟩
 f22:=⟨Tryz.f369.name,by decide,Go.Eng.A0a func369⟩
 f23:=⟨Tryz.f370.name,by decide,Go.Eng.A0a func370⟩
 f24:=⟨Tryz.f371.name,by decide,Go.Eng.A0a func371⟩
 f25:=⟨Tryz.f372.name,by decide,Go.Eng.A0a func372⟩
 f26:=⟨Tryz.f373.name,by decide,Go.Eng.A0a func373⟩
 f27:=⟨Tryz.f374.name,by decide,Go.Eng.A0a func374⟩
 f28:=Go.Eng.A0a func219
 f29:=Go.Eng.A0a func220
 f46:=⟨Tryz.f386.name,by decide,Go.Eng.A0a func386⟩
 f47:=Go.Eng.A0a func283
 f48:=Go.Eng.A0a func284
 f49:=⟨Tryz.f387.name,by decide,Go.Eng.A0a func387⟩
 f50:=⟨Tryz.f388.name,by decide,Go.Eng.A0a func388⟩
 f57:=⟨Tryz.f401.name,by decide,Go.Eng.A0a func401⟩
 t0:=underlying0
 a0:=isAgg0
 z0:=sizeOf0
 v0:=zeroValue0
 t3:=underlying3
 a3:=isAgg3
 z3:=sizeOf3
 v3:=zeroValue3
 t4:=underlying4
 a4:=isAgg4
 z4:=sizeOf4
 v4:=zeroValue4
 t5:=underlying5
 a5:=isAgg5
 z5:=sizeOf5
 v5:=zeroValue5
 t9:=underlying9
 a9:=isAgg9
 z9:=sizeOf9
 v9:=zeroValue9
 t22:=underlying65
 a22:=isAgg65
 z22:=sizeOf65
 v22:=zeroValue65
 t25:=underlying378
 a25:=isAgg378
 z25:=sizeOf378
 v25:=zeroValue378
 t39:=underlying240
 a39:=isAgg240
 z39:=sizeOf240
 v39:=zeroValue240
 t45:=underlying308
 a45:=isAgg308
 z45:=sizeOf308
 v45:=zeroValue308
 t46:=underlying309
 a46:=isAgg309
 z46:=sizeOf309
 v46:=zeroValue309
 t50:=underlying150
 a50:=isAgg150
 z50:=sizeOf150
 v50:=zeroValue150
 t53:=underlying299
 a53:=isAgg299
 z53:=sizeOf299
 v53:=zeroValue299
 t55:=underlying229
 a55:=isAgg229
 z55:=sizeOf229
 v55:=zeroValue229
 t66:=underlying372
 a66:=isAgg372
 z66:=sizeOf372
 v66:=zeroValue372
 t70:=underlying208
 a70:=isAgg208
 z70:=sizeOf208
 v70:=zeroValue208
 t76:=underlying408
 a76:=isAgg408
 z76:=sizeOf408
 v76:=zeroValue408
 t77:=underlying409
 a77:=isAgg409
 z77:=sizeOf409
 v77:=zeroValue409 }
def Tryz.layPdqTerm_ren:Go.Shelf.Ren:=⟨fun | 14=>377 | 20=>391 | 21=>392 | 22=>393 | 23=>394 | 24=>395 | 25=>396 | 26=>397 | 27=>398 | 46=>411 | 47=>283 | 48=>284 | 49=>412 | 50=>413 | 15=>146 | 57=>417 | 28=>219 | 29=>220 | n=>n,fun | 24=>325 | 22=>257 | 3=>3 | 25=>418 | 4=>4 | 0=>0 | 46=>309 | 45=>308 | 50=>150 | 66=>372 | 39=>240 | 55=>229 | 70=>208 | 76=>408 | 77=>409 | 53=>299 | 5=>5 | 9=>9 | n=>n,fun | n=>n⟩
theorem Tryz.layPdqTerm:Go.Proofs.SlLaysF0.n14 prog Tryz.layPdqTerm_ren:={
 mixed:=by kernel_rfl
 f14:=⟨Tryz.f377.name,by decide,Go.Eng.A0a func377⟩
 f15:=Go.Eng.A0a func146
 f20:=⟨Tryz.f391.name,by decide,Go.Eng.A0a func391⟩
 f21:=⟨Tryz.f392.name,by decide,Go.Eng.A0a func392⟩
 f22:=⟨Tryz.f393.name,by decide,Go.Eng.A0a func393⟩
 f23:=⟨Tryz.f394.name,by decide,Go.Eng.A0a func394⟩
 f24:=⟨Tryz.f395.name,by decide,Go.Eng.A0a func395⟩
 f25:=⟨Tryz.f396.name,by decide,Go.Eng.A0a func396⟩
 f26:=⟨Tryz.f397.name,by decide,Go.Eng.A0a func397⟩
 f27:=⟨Tryz.f398.name,by decide,Go.Eng.A0a func398⟩
 f28:=Go.Eng.A0a func219
 f29:=Go.Eng.A0a func220
 f46:=⟨Tryz.f411.name,by decide,Go.Eng.A0a func411⟩
 f47:=Go.Eng.A0a func283
 f48:=Go.Eng.A0a func284
 f49:=⟨Tryz.f412.name,by decide,Go.Eng.A0a func412⟩
 f50:=⟨Tryz.f413.name,by decide,Go.Eng.A0a func413⟩
 f57:=⟨Tryz.f417.name,by decide,Go.Eng.A0a func417⟩
 t0:=underlying0
 a0:=isAgg0
 z0:=sizeOf0
 v0:=zeroValue0
 t3:=underlying3
 a3:=isAgg3
 z3:=sizeOf3
 v3:=zeroValue3
 t4:=underlying4
 a4:=isAgg4
 z4:=sizeOf4
 v4:=zeroValue4
 t5:=underlying5
 a5:=isAgg5
 z5:=sizeOf5
 v5:=zeroValue5
 t9:=underlying9
 a9:=isAgg9
 z9:=sizeOf9
 v9:=zeroValue9
 t22:=underlying257
 a22:=isAgg257
 z22:=sizeOf257
 v22:=zeroValue257
 t25:=underlying418
 a25:=isAgg418
 z25:=sizeOf418
 v25:=zeroValue418
 t39:=underlying240
 a39:=isAgg240
 z39:=sizeOf240
 v39:=zeroValue240
 t45:=underlying308
 a45:=isAgg308
 z45:=sizeOf308
 v45:=zeroValue308
 t46:=underlying309
 a46:=isAgg309
 z46:=sizeOf309
 v46:=zeroValue309
 t50:=underlying150
 a50:=isAgg150
 z50:=sizeOf150
 v50:=zeroValue150
 t53:=underlying299
 a53:=isAgg299
 z53:=sizeOf299
 v53:=zeroValue299
 t55:=underlying229
 a55:=isAgg229
 z55:=sizeOf229
 v55:=zeroValue229
 t66:=underlying372
 a66:=isAgg372
 z66:=sizeOf372
 v66:=zeroValue372
 t70:=underlying208
 a70:=isAgg208
 z70:=sizeOf208
 v70:=zeroValue208
 t76:=underlying408
 a76:=isAgg408
 z76:=sizeOf408
 v76:=zeroValue408
 t77:=underlying409
 a77:=isAgg409
 z77:=sizeOf409
 v77:=zeroValue409 }
def Tryz.layPdqSel_ren:Go.Shelf.Ren:=⟨fun | 14=>157 | 20=>231 | 21=>232 | 22=>233 | 23=>234 | 24=>235 | 25=>236 | 26=>237 | 27=>238 | 46=>299 | 47=>283 | 48=>284 | 49=>300 | 50=>301 | 15=>146 | 57=>353 | 28=>219 | 29=>220 | n=>n,fun | 24=>45 | 22=>37 | 3=>3 | 25=>166 | 4=>4 | 0=>0 | 46=>309 | 45=>308 | 50=>150 | 66=>372 | 39=>240 | 55=>229 | 70=>208 | 76=>408 | 77=>409 | 53=>299 | 5=>5 | 9=>9 | n=>n,fun | n=>n⟩
theorem Tryz.layPdqSel:Go.Proofs.SlLaysF0.n14 prog Tryz.layPdqSel_ren:={
 mixed:=by kernel_rfl
 f14:=⟨Tryz.f157.name,by decide,Go.Eng.A0a func157⟩
 f15:=Go.Eng.A0a func146
 f20:=⟨Tryz.f231.name,by decide,Go.Eng.A0a func231⟩
 f21:=⟨Tryz.f232.name,by decide,Go.Eng.A0a func232⟩
 f22:=⟨Tryz.f233.name,by decide,Go.Eng.A0a func233⟩
 f23:=⟨Tryz.f234.name,by decide,Go.Eng.A0a func234⟩
 f24:=⟨Tryz.f235.name,by decide,Go.Eng.A0a func235⟩
 f25:=⟨Tryz.f236.name,by decide,Go.Eng.A0a func236⟩
 f26:=⟨Tryz.f237.name,by decide,Go.Eng.A0a func237⟩
 f27:=⟨Tryz.f238.name,by decide,Go.Eng.A0a func238⟩
 f28:=Go.Eng.A0a func219
 f29:=Go.Eng.A0a func220
 f46:=⟨Tryz.f299.name,by decide,Go.Eng.A0a func299⟩
 f47:=Go.Eng.A0a func283
 f48:=Go.Eng.A0a func284
 f49:=⟨Tryz.f300.name,by decide,Go.Eng.A0a func300⟩
 f50:=⟨Tryz.f301.name,by decide,Go.Eng.A0a func301⟩
 f57:=⟨Tryz.f353.name,by decide,Go.Eng.A0a func353⟩
 t0:=underlying0
 a0:=isAgg0
 z0:=sizeOf0
 v0:=zeroValue0
 t3:=underlying3
 a3:=isAgg3
 z3:=sizeOf3
 v3:=zeroValue3
 t4:=underlying4
 a4:=isAgg4
 z4:=sizeOf4
 v4:=zeroValue4
 t5:=underlying5
 a5:=isAgg5
 z5:=sizeOf5
 v5:=zeroValue5
 t9:=underlying9
 a9:=isAgg9
 z9:=sizeOf9
 v9:=zeroValue9
 t22:=underlying37
 a22:=isAgg37
 z22:=sizeOf37
 v22:=zeroValue37
 t25:=underlying166
 a25:=isAgg166
 z25:=sizeOf166
 v25:=zeroValue166
 t39:=underlying240
 a39:=isAgg240
 z39:=sizeOf240
 v39:=zeroValue240
 t45:=underlying308
 a45:=isAgg308
 z45:=sizeOf308
 v45:=zeroValue308
 t46:=underlying309
 a46:=isAgg309
 z46:=sizeOf309
 v46:=zeroValue309
 t50:=underlying150
 a50:=isAgg150
 z50:=sizeOf150
 v50:=zeroValue150
 t53:=underlying299
 a53:=isAgg299
 z53:=sizeOf299
 v53:=zeroValue299
 t55:=underlying229
 a55:=isAgg229
 z55:=sizeOf229
 v55:=zeroValue229
 t66:=underlying372
 a66:=isAgg372
 z66:=sizeOf372
 v66:=zeroValue372
 t70:=underlying208
 a70:=isAgg208
 z70:=sizeOf208
 v70:=zeroValue208
 t76:=underlying408
 a76:=isAgg408
 z76:=sizeOf408
 v76:=zeroValue408
 t77:=underlying409
 a77:=isAgg409
 z77:=sizeOf409
 v77:=zeroValue409 }
def Tryz.layCompare_ren:Go.Shelf.Ren:=⟨fun | 106=>85 | 213=>158 | 265=>239 | n=>n,fun | 9=>9 | 3=>3 | n=>n,fun | n=>n⟩
theorem Tryz.layCompare:Go.Proofs.Lays.n106 prog Tryz.layCompare_ren:={
 mixed:=by kernel_rfl
 f106:=Go.Eng.A0a func85
 f213:=Go.Eng.A0a func158
 f265:=Go.Eng.A0a func239
 t3:=underlying3
 a3:=isAgg3
 z3:=sizeOf3
 v3:=zeroValue3
 t9:=underlying9
 a9:=isAgg9
 z9:=sizeOf9
 v9:=zeroValue9 }
def Tryz.layBits_ren:Go.Shelf.Ren:=⟨fun | 125=>146 | 128=>219 | 129=>220 | n=>n,fun | 46=>240 | 3=>3 | 51=>299 | 53=>229 | 4=>4 | 5=>5 | 9=>9 | n=>n,fun | n=>n⟩
theorem Tryz.layBits:Go.Proofs.Lays.n125 prog Tryz.layBits_ren:={
 mixed:=by kernel_rfl
 f125:=Go.Eng.A0a func146
 f128:=Go.Eng.A0a func219
 f129:=Go.Eng.A0a func220
 t3:=underlying3
 a3:=isAgg3
 z3:=sizeOf3
 v3:=zeroValue3
 t4:=underlying4
 a4:=isAgg4
 z4:=sizeOf4
 v4:=zeroValue4
 t5:=underlying5
 a5:=isAgg5
 z5:=sizeOf5
 v5:=zeroValue5
 t9:=underlying9
 a9:=isAgg9
 z9:=sizeOf9
 v9:=zeroValue9
 t46:=underlying240
 a46:=isAgg240
 z46:=sizeOf240
 v46:=zeroValue240
 t51:=underlying299
 a51:=isAgg299
 z51:=sizeOf299
 v51:=zeroValue299
 t53:=underlying229
 a53:=isAgg229
 z53:=sizeOf229
 v53:=zeroValue229 }
def Tryz.laySortInts_ren:Go.Shelf.Ren:=⟨fun | 189=>375 | 125=>146 | 257=>389 | 128=>219 | 129=>220 | 294=>402 | 295=>403 | 296=>404 | 297=>405 | 298=>406 | 299=>407 | 216=>408 | 300=>409 | 301=>410 | 328=>414 | 329=>283 | 330=>284 | 331=>415 | 332=>416 | 215=>313 | 343=>418 | n=>n,fun | 28=>132 | 3=>3 | 46=>240 | 0=>0 | 51=>299 | 53=>229 | 4=>4 | 183=>309 | 182=>308 | 131=>150 | 5=>5 | 9=>9 | 218=>372 | 222=>208 | 228=>408 | 229=>409 | n=>n,fun | n=>n⟩
theorem Tryz.laySortInts:Go.Proofs.Lays.n189 prog Tryz.laySortInts_ren:={
 mixed:=by kernel_rfl
 f125:=Go.Eng.A0a func146
 f128:=Go.Eng.A0a func219
 f129:=Go.Eng.A0a func220
 f189:=Go.Eng.A0a func375
 f215:=Go.Eng.A0a func313
 f216:=Go.Eng.A0a func408
 f257:=Go.Eng.A0a func389
 f294:=Go.Eng.A0a func402
 f295:=Go.Eng.A0a func403
 f296:=Go.Eng.A0a func404
 f297:=Go.Eng.A0a func405
 f298:=Go.Eng.A0a func406
 f299:=Go.Eng.A0a func407
 f300:=Go.Eng.A0a func409
 f301:=Go.Eng.A0a func410
 f328:=Go.Eng.A0a func414
 f329:=Go.Eng.A0a func283
 f330:=Go.Eng.A0a func284
 f331:=Go.Eng.A0a func415
 f332:=Go.Eng.A0a func416
 f343:=Go.Eng.A0a func418
 t0:=underlying0
 a0:=isAgg0
 z0:=sizeOf0
 v0:=zeroValue0
 t3:=underlying3
 a3:=isAgg3
 z3:=sizeOf3
 v3:=zeroValue3
 t4:=underlying4
 a4:=isAgg4
 z4:=sizeOf4
 v4:=zeroValue4
 t5:=underlying5
 a5:=isAgg5
 z5:=sizeOf5
 v5:=zeroValue5
 t9:=underlying9
 a9:=isAgg9
 z9:=sizeOf9
 v9:=zeroValue9
 t28:=underlying132
 a28:=isAgg132
 z28:=sizeOf132
 v28:=zeroValue132
 t46:=underlying240
 a46:=isAgg240
 z46:=sizeOf240
 v46:=zeroValue240
 t51:=underlying299
 a51:=isAgg299
 z51:=sizeOf299
 v51:=zeroValue299
 t53:=underlying229
 a53:=isAgg229
 z53:=sizeOf229
 v53:=zeroValue229
 t131:=underlying150
 a131:=isAgg150
 z131:=sizeOf150
 v131:=zeroValue150
 t182:=underlying308
 a182:=isAgg308
 z182:=sizeOf308
 v182:=zeroValue308
 t183:=underlying309
 a183:=isAgg309
 z183:=sizeOf309
 v183:=zeroValue309
 t218:=underlying372
 a218:=isAgg372
 z218:=sizeOf372
 v218:=zeroValue372
 t222:=underlying208
 a222:=isAgg208
 z222:=sizeOf208
 v222:=zeroValue208
 t228:=underlying408
 a228:=isAgg408
 z228:=sizeOf408
 v228:=zeroValue408
 t229:=underlying409
 a229:=isAgg409
 z229:=sizeOf409
 v229:=zeroValue409 }
end Go.Proofs
namespace Go.Proofs
open Go.Shelf Go.RowKit Go.Lib Go.Sort
def SpA:Type:={x:Int×Int // 0<=x.1/\x.1<=1000000}
instance:Inhabited SpA:=⟨⟨(0,0),by decide⟩⟩
def encSpA(x:SpA):List Value:=[.int .i64 x.1.1,.int .i64 x.1.2]
def cfSpA(x y:SpA):Int:=x.1.1-y.1.1
theorem Tryz.closure288(x y:SpA)(W:World):Calls Tryz.prog 288 #[.agg #[.int .i64 x.1.1,.int .i64 x.1.2],.agg #[.int .i64 y.1.1,.int .i64 y.1.2]] W fun e w'=>e=.returned (.int .i64 (cfSpA x y))/\∃q os',w'=grow (W.drewN q) os':=by
 obtain⟨⟨a,b⟩,h1,h2⟩:=x;obtain⟨⟨c,d⟩,h3,h4⟩:=y;dsimp only at h1 h2 h3 h4;have hw:IntKind.i64.wrap (a-c)=a-c:=by simp[IntKind.wrap,IntKind.bits,IntKind.signed];omega
 show Calls Tryz.prog 288 #[.agg #[.int .i64 a,.int .i64 b],.agg #[.int .i64 c,.int .i64 d]] W fun e w'=>e=.returned (.int .i64 (a-c))/\∃q os',w'=grow (W.drewN q) os'
 go_enter Tryz.func288,Tryz.ntmps288
 go_wp2
 go_ret
 exact⟨rfl,0,_,by rw[alloc_eq_grow,alloc_eq_grow,grow_grow];rfl⟩
def TmA:Type:=ByteArray×{v:Value // v.oneCell'=true}×{v:Value // v.oneCell'=true}
instance:Inhabited TmA:=⟨⟨ByteArray.empty,⟨.bool false,rfl⟩,⟨.bool false,rfl⟩⟩⟩
def encTmA(x:TmA):List Value:=[.string x.1,x.2.1.1,x.2.2.1]
def cfTmA(x y:TmA):Int:=Lib.compareBytes x.1.data.toList y.1.data.toList
theorem Tryz.closure351(x y:TmA)(W:World):Calls Tryz.prog 351 #[.agg #[.string x.1,x.2.1.1,x.2.2.1],.agg #[.string y.1,y.2.1.1,y.2.2.1]] W fun e w'=>e=.returned (.int .i64 (cfTmA x y))/\∃q os',w'=grow (W.drewN q) os':=by
 have hcon:=fun W'=>Any.strings_Compare Tryz.layCompare x.1 y.1 W';obtain⟨a,⟨b,hb⟩,⟨c,hc⟩⟩:=x;obtain⟨a',⟨b',wB⟩,⟨c',hc'⟩⟩:=y;dsimp only at hcon
 change ∀W',Calls Tryz.prog 85 _ _ _ at hcon
 unfold cfTmA;dsimp only;generalize Lib.compareBytes a.data.toList a'.data.toList=r at hcon⊢
 go_enter Tryz.func351,Tryz.ntmps351
 go_wp2_with (go_at_call 85;refine(hcon _).mono ?_;rintro e w' ⟨rfl,rfl⟩)
 go_ret
 exact⟨rfl,0,_,by rw[alloc_eq_grow,alloc_eq_grow,grow_grow];rfl⟩
end Go.Proofs
namespace Go.Eng
open Go.Proofs Go.Proofs.Tryz
variable {caps:List AV}{α:Type}{p:α->Bool}{i fF:Nat}(l:List (Int×Int))(x:Sl)(t:Tm)(v:Ver)(s:List Sl)
theorem vK:PC 178 [.agg (Ez v)] (.agg [G v.a,G v.b,G v.c]):=by
 refine Ps Dc func178 rfl C4 ?_;exact J C4 (J C4 (.refl _))
def part:Nat->Int
 |0=>v.a
 |1=>v.b
 |_=>v.c
theorem XW{v:Ver}(h:¬okPart (part v i)):Bv v=false:=by
 unfold Bv
 match i,h with
 |0,h=>have h:¬okPart v.a:=h;simp[h]
 |1,h=>have h:¬okPart v.b:=h;simp[h]
 |_+2,h=>have h:¬okPart v.c:=h;simp[h]
theorem q8:PC 101 [.agg (Ez v)] (I (Bv v)):=by
 refine Ps Dc func101 rfl C4 (J C4 (C1 (U (vK v) (Z {i:Nat // i<=3/\∀j,j<i->okPart (part v j)} (Z (fun i=>⟨[(6,.agg [G v.a,G v.b,G v.c]),(7,G i.1)],[],Af⟩) (Z (fun i=>3-i.1) (J (Z ⟨0,by simp⟩ ?_) ?_)))))))
 .exact⟨Z2,W,Fh,W⟩
 .intro⟨i,h1,h2⟩;refine J ?_ ?_
  .intro h;have h:(i:Int)<3:=h;refine J ⟨by omega,by omega⟩ ?_;have hp:MV (([G v.a,G v.b,G v.c]).drop ((i:Int).toNat*1))=fun K=>K (G (part v i)):=by
    match i,h with
    |0,_=>rfl
    |1,_=>rfl
    |2,_=>rfl
    |_+3,h=>omega
   show MV (([G v.a,G v.b,G v.c]).drop ((i:Int).toNat*1)) _;rw[hp];refine J ?_ ?_
   .intro h3;rw[XW (i:=i) (by grind [okPart])];exact .refl _
   .intro h3;refine J ?_ ?_
    .intro h4;rw[XW (i:=i) (by grind [okPart])];exact .refl _
    .intro h4;refine J (by grind [Au]) (Z ⟨i+1,by omega,fun j hj=>?_⟩ ?_)
     .by_cases e:j=i
      .subst e;exact⟨by omega,by omega⟩
      grind
     .exact⟨by grind,Z2,W,Fh,W⟩
  .intro h;have h:¬(i:Int)<3:=h;have e:i=3:=Wk
   have q:Bv v=true:=by
    unfold Bv;have a:=h2 0 Wk;have b:=h2 1 Wk
    grind [part]
   rw[q];exact .refl _
theorem wa:PC 113 [.agg (Ez v)] (.tup [G (if Bv v then place v else 0),G (if Bv v then 0 else 2)]):=by
 refine Ps Dc func113 rfl C4 (J C4 (C1 (U (q8 v) ?_)));cases h:Bv v with
 |false=>exact .refl _
 |true=>
  have hv:=FE h;refine J (by grind [Au]) ?_;exact J (by grind [Au]) (.refl _)
theorem qu(h:Bv v=true):PC 162 [.agg (Ez v)] (G (place v)):=by
 refine Ps Dc func162 rfl C4 ?_;have hv:=FE h;refine J (by grind [Au]) ?_;exact J (by grind [Au]) (.refl _)
def Dh(caps:List AV):Prop:=∀c∈caps,∀h,str0 h c=c
theorem Dh.map{caps:List AV}(hs:Dh caps)(h:Nat->HO):caps.map (str0 h)=caps:=by
 conv=>rhs;rw[<-Ks caps]
 exact Cg fun c hc=>hs c hc h
theorem Dh.ids(hs:Dh caps)(h:Nat->HO):bo h caps=true:=by
 induction caps with
 |nil=>rfl
 |cons c r ih=>
  have hc:=hs c (Ah ..) Af;have h0:ids0 h c=true:=by
   cases c with
   |slice tk es=>cases tk with |none=>rfl |full sz=>grind [str0] |id r sz=>grind [str0] |ver r sz v=>grind [str0]
   |_=>first |rfl |grind [str0]
  unfold bo;rw[h0];exact ih fun c hc=>hs c (Aj _ hc)
def KT{α:Type}(p:α->Bool):List α->Int->Int
 | [],_=>-1
 |x::r,i=>if p x then i else KT p r (i+1)
theorem LU{α:Type}{p:α->Bool}:∀{l:List α} {i:Nat} {k:Int} (hi:i<l.length),(∀j (hj:j<l.length),j<i->p l[j]=false)->p l[i]=true->KT p l k=k+i
 |x::r,0,k,_,_,h=>by
  grind [KT]
 |x::r,i+1,k,hi,hb,h=>by
  have h0:p x=false:=hb 0 aa1 Wk
  have:=LU (l:=r) (i:=i) (k:=k+1) aa2 (fun j hj F6=>hb (j+1) Wk Wk) aa0
  grind [KT]
theorem Is{α:Type}{p:α->Bool}:∀{l:List α} {k:Int},(∀j (hj:j<l.length),p l[j]=false)->KT p l k=-1
 | [],_,_=>rfl
 |x::r,k,h=>by
  have h0:p x=false:=h 0 aa1;simp only[KT,h0,Bool.false_eq_true,if_false];exact Is fun j hj=>h (j+1) aa0
theorem Kz{α:Type}{p:α->Bool}:∀(l:List α) (k:Int),0<=k->decide (0<=KT p l k)=l.any p
 | [],k,_=>by simp[KT]
 |x::r,k,hk=>by
  unfold KT;cases h:p x with
  |true=>simp_all
  |false=>simp[h,Kz r (k+1) Wk]
-- one for each type of elements
theorem Ady(hs:Dh caps)(l:List (Int×Int))(p:Int×Int->Bool)(hF:∀x∈l,PC fF ([.agg (Y x)]++caps) (I (p x)))(hl:l.length<9223372036854775807) :
  PC 189 [sl Y l,.clo fF caps] (G (KT p l 0)):=by
 refine Ps Dc func189 rfl C4 (Z {i:Nat // i<=l.length/\∀j (hj:j<l.length),j<i->p l[j]=false} (Z (fun i=>⟨[(0,sl Y l),(1,.clo fF caps),(7,G (l.map Y).length),(8,G i.1)],[],Af⟩) (Z (fun i=>l.length-i.1) (J (Z ⟨0,by simp⟩ ?_) ?_))))
 .exact⟨⟨X,⟨rfl,hs.ids _⟩,X,X,W⟩,W,Fh,W⟩
 .intro⟨i,h1,h2⟩;refine J ?_ ?_
  .intro h;have h:i<l.length:=aa0
   have hg:l[i]?=some l[i]:=Ge h;refine Z (Y l[i]) (J (J Wk aa0) (J rfl (yN ?_)));have Cv:∀h,PC fF ([.agg (Y l[i])]++caps.map (str0 h)) (I (p l[i])):=fun h=>by rw[hs.map];grind
   cases hp:p l[i]with
   |true=>
    rw[hp]at Cv;refine Z .pure (Z (I true) (J (Cv _) ?_));rw[LU h (fun j hj F6=>h2 j hj F6) hp,GP];exact .refl _
   |false=>
    rw[hp]at Cv;refine Z .pure (Z (I false) (J (Cv _) (J (by grind [Au]) (Z ⟨i+1,by omega,fun j hj F6=>?_⟩ ?_))))
    .grind
    .exact⟨by grind,⟨X,⟨rfl,hs.ids _⟩,X,X,W⟩,W,Fh,W⟩
  .intro h;have h:¬i<l.length:=aa0
   rw[Is fun j hj=>h2 j hj Wk];exact .refl _
abbrev BF(l:List α):Prop:=l.length<=1073741824
theorem B8{α:Type}{enc:α->List AV}{n:Nat}(h:∀x,(enc x).length=n):∀l:List α,A7 n (l.map enc)
 | []=>trivial
 |x::l=>⟨h x,B8 h l⟩
theorem Tq{x y:Int×Int}:aE (Y x) (Y y)↔x=y:=by
 constructor
 .intro h;exact Prod.ext h.1 h.2.1
 .rintro rfl;exact⟨rfl,rfl,trivial⟩
theorem un{x y:Sl}:aE (Ae x) (Ae y)↔x=y:=by
 obtain⟨p,a,b,c⟩:=x;obtain⟨q,d,e,f⟩:=y;constructor
 .intro h;obtain⟨rfl,rfl,rfl,rfl,_⟩:=h
  rfl
 .intro h;cases h;exact⟨rfl,rfl,rfl,rfl,trivial⟩
abbrev F(l:List Tm):List AV:=[sl M l]
abbrev Dr(s:CS):List AV:=[vs s]
theorem c78(hs:Dh caps)(l:List (Sl))(p:Sl->Bool)(hF:∀x∈l,PC fF ([.agg (Ae x)]++caps) (I (p x)))(hl:l.length<9223372036854775807) :
  PC 185 [sl Ae l,.clo fF caps] (G (KT p l 0)):=by
 refine Ff (dO Dc) rfl BA hm rfl func185 aa4 rfl C4 aa4 (Z {i:Nat // i<=l.length/\∀j (hj:j<l.length),j<i->p l[j]=false} (Z (fun i=>⟨[(0,sl Ae l),(1,.clo fF caps),(7,G (l.map Ae).length),(8,G i.1)],[],Af⟩) (Z (fun i=>l.length-i.1) (J (Z ⟨0,by simp⟩ ?_) ?_))))
 .exact⟨⟨X,⟨rfl,hs.ids _⟩,X,X,W⟩,W,Fh,W⟩
 .intro⟨i,h1,h2⟩;refine J ?_ ?_
  .intro h;have h:i<l.length:=aa0
   have hg:l[i]?=some l[i]:=Ge h;refine Z (Ae l[i]) (J (J Wk aa0) (J rfl (yN ?_)));have Cv:∀h,PC fF ([.agg (Ae l[i])]++caps.map (str0 h)) (I (p l[i])):=fun h=>by rw[hs.map];simp_all
   cases hp:p l[i]with
   |true=>
    rw[hp]at Cv;refine Z .pure (Z (I true) (J (Cv _) ?_));rw[LU h (fun j hj F6=>h2 j hj F6) hp,GP];exact .refl _
   |false=>
    rw[hp]at Cv;refine Z .pure (Z (I false) (J (Cv _) (J (by grind [Au]) (Z ⟨i+1,by omega,fun j hj F6=>?_⟩ ?_))))
    .grind
    .exact⟨by grind,⟨X,⟨rfl,hs.ids _⟩,X,X,W⟩,W,Fh,W⟩
  .intro h;have h:¬i<l.length:=aa0
   rw[Is fun j hj=>h2 j hj Wk];exact .refl _
theorem Adi(hs:Dh caps)(l:List (Rq))(p:Rq->Bool)(hF:∀x∈l,PC fF ([.agg (Ac x)]++caps) (I (p x)))(hl:l.length<9223372036854775807) :
  PC 114 [sl Ac l,.clo fF caps] (G (KT p l 0)):=by
 refine Ff (dO Dc) rfl BA hm rfl func114 aa4 rfl C4 aa4 (Z {i:Nat // i<=l.length/\∀j (hj:j<l.length),j<i->p l[j]=false} (Z (fun i=>⟨[(0,sl Ac l),(1,.clo fF caps),(7,G (l.map Ac).length),(8,G i.1)],[],Af⟩) (Z (fun i=>l.length-i.1) (J (Z ⟨0,by simp⟩ ?_) ?_))))
 .exact⟨⟨X,⟨rfl,hs.ids _⟩,X,X,W⟩,W,Fh,W⟩
 .intro⟨i,h1,h2⟩;refine J ?_ ?_
  .intro h;have h:(i:Int)<(l.map Ac).length:=h;have h:i<l.length:=aa0
   have hg:l[i]?=some l[i]:=Ge h;refine Z (Ac l[i]) (J (J Wk aa0) (J rfl (yN ?_)));have Cv:∀h,PC fF ([.agg (Ac l[i])]++caps.map (str0 h)) (I (p l[i])):=fun h=>by rw[hs.map];simp_all
   cases hp:p l[i]with
   |true=>
    rw[hp]at Cv;refine Z .pure (Z (I true) (J (Cv _) ?_));rw[LU h (fun j hj F6=>h2 j hj F6) hp,GP];exact .refl _
   |false=>
    rw[hp]at Cv;refine Z .pure (Z (I false) (J (Cv _) (J (by grind [Au]) (Z ⟨i+1,by omega,fun j hj F6=>?_⟩ ?_))))
    .grind
    .exact⟨by grind,⟨X,⟨rfl,hs.ids _⟩,X,X,W⟩,W,Fh,W⟩
  .intro h;have h:¬(i:Int)<(l.map Ac).length:=h;have h:¬i<l.length:=aa0
   rw[Is fun j hj=>h2 j hj Wk];exact .refl _
theorem rc(hs:Dh caps)(l:List (Tm))(p:Tm->Bool)(hF:∀x∈l,PC fF ([.agg (M x)]++caps) (I (p x)))(hl:l.length<9223372036854775807) :
  PC 294 [sl M l,.clo fF caps] (G (KT p l 0)):=by
 refine Ff (dO Dc) rfl BA hm rfl func294 aa4 rfl C4 aa4 (Z {i:Nat // i<=l.length/\∀j (hj:j<l.length),j<i->p l[j]=false} (Z (fun i=>⟨[(0,sl M l),(1,.clo fF caps),(7,G (l.map M).length),(8,G i.1)],[],Af⟩) (Z (fun i=>l.length-i.1) (J (Z ⟨0,by simp⟩ ?_) ?_))))
 .exact⟨⟨X,⟨rfl,hs.ids _⟩,X,X,W⟩,W,Fh,W⟩
 .intro⟨i,h1,h2⟩;refine J ?_ ?_
  .intro h;have h:i<l.length:=aa0
   have hg:l[i]?=some l[i]:=Ge h;refine Z (M l[i]) (J (J Wk aa0) (J rfl (yN ?_)));have Cv:∀h,PC fF ([.agg (M l[i])]++caps.map (str0 h)) (I (p l[i])):=fun h=>by rw[hs.map];simp_all
   cases hp:p l[i]with
   |true=>
    rw[hp]at Cv;refine Z .pure (Z (I true) (J (Cv _) ?_));rw[LU h (fun j hj F6=>h2 j hj F6) hp,GP];exact .refl _
   |false=>
    rw[hp]at Cv;refine Z .pure (Z (I false) (J (Cv _) (J (by grind [Au]) (Z ⟨i+1,by omega,fun j hj F6=>?_⟩ ?_))))
    .grind
    .exact⟨by grind,⟨X,⟨rfl,hs.ids _⟩,X,X,W⟩,W,Fh,W⟩
  .intro h;have h:¬i<l.length:=aa0
   rw[Is fun j hj=>h2 j hj Wk];exact .refl _
theorem Adg(hs:Dh caps)(l:List (Int×Int))(p:Int×Int->Bool)(hF:∀x∈l,PC fF ([.agg (Y x)]++caps) (I (p x)))(hl:BF l) :
  PC 111 [sl Y l,.clo fF caps] (I (l.any p)):=by
 refine Ff (dO Dc) rfl BA hm rfl func111 aa4 rfl C4 aa4 ?_;have hi:=Ady hs l p hF Wk;have Cv:∀h,PC 189 [sl Y l,.clo fF (caps.map (str0 h))] (G (KT p l 0)):=fun h=>by grind [Dh.map]
 refine C1 (U (Cv _) ?_);have ha:=Kz (p:=p) l 0 (B4 0);refine J ?_ ?_
 .intro h;rw[<-ha,Ax h];exact .refl _
 .intro h;rw[<-ha,At h];exact .refl _
theorem c51(hs:Dh caps)(l:List (Sl))(p:Sl->Bool)(hF:∀x∈l,PC fF ([.agg (Ae x)]++caps) (I (p x)))(hl:BF l) :
  PC 183 [sl Ae l,.clo fF caps] (I (l.any p)):=by
 refine Ff (dO Dc) rfl BA hm rfl func183 aa4 rfl C4 aa4 ?_;have hi:=c78 hs l p hF Wk;have Cv:∀h,PC 185 [sl Ae l,.clo fF (caps.map (str0 h))] (G (KT p l 0)):=fun h=>by grind [Dh.map]
 refine C1 (U (Cv _) ?_);have ha:=Kz (p:=p) l 0 (B4 0);refine J ?_ ?_
 .intro h;rw[<-ha,Ax h];exact .refl _
 .intro h;rw[<-ha,At h];exact .refl _
theorem c89(hs:Dh caps)(l:List (Rq))(p:Rq->Bool)(hF:∀x∈l,PC fF ([.agg (Ac x)]++caps) (I (p x)))(hl:BF l) :
  PC 56 [sl Ac l,.clo fF caps] (I (l.any p)):=by
 refine Ff (dO Dc) rfl BA hm rfl func56 aa4 rfl C4 aa4 ?_;have hi:=Adi hs l p hF Wk;have Cv:∀h,PC 114 [sl Ac l,.clo fF (caps.map (str0 h))] (G (KT p l 0)):=fun h=>by grind [Dh.map]
 refine C1 (U (Cv _) ?_);have ha:=Kz (p:=p) l 0 (B4 0);refine J ?_ ?_
 .intro h;have h:(0:Int)<=KT p l 0:=h;rw[<-ha,Ax h];exact .refl _
 .intro h;have h:¬(0:Int)<=KT p l 0:=h;rw[<-ha,At h];exact .refl _
theorem vI(hs:Dh caps)(l:List (Tm))(p:Tm->Bool)(hF:∀x∈l,PC fF ([.agg (M x)]++caps) (I (p x)))(hl:BF l) :
  PC 227 [sl M l,.clo fF caps] (I (l.any p)):=by
 refine Ff (dO Dc) rfl BA hm rfl func227 aa4 rfl C4 aa4 ?_;have hi:=rc hs l p hF Wk;have Cv:∀h,PC 294 [sl M l,.clo fF (caps.map (str0 h))] (G (KT p l 0)):=fun h=>by grind [Dh.map]
 refine C1 (U (Cv _) ?_);have ha:=Kz (p:=p) l 0 (B4 0);refine J ?_ ?_
 .intro h;rw[<-ha,Ax h];exact .refl _
 .intro h;rw[<-ha,At h];exact .refl _
theorem yZ(hl:BF l):PC 39 [sl Y l] (sl Y l):=by
 refine Ff (dO Dc) rfl BA hm rfl func39 aa4 rfl C4 aa4 ?_;have De:A7 2 (l.map Y)/\([]:C0).length=0/\(([]:C0).length+(l.map Y).length)*16<=140737488355328/\([]:C0).length+(l.map Y).length<=9223372036854775807:=by
  grind [B8]
 refine J ?_ ?_
 .intro _;exact J De (.refl _)
 .intro h;refine J ?_ ?_
  .show CD BY (.slice .none (l.map Y))
   grind [CD.nil]
  .exact J De (.refl _)
theorem y0(m:List (Int×Int))(hl:BF l):PC 254 [sl Y l,sl Y m] (I (decide (l=m))):=by
 refine Ff (dO Dc) rfl BA hm rfl func254 aa4 rfl C4 aa4 (J ?_ ?_)
 .intro h
  have:l≠m:=fun e=>h (by rw[e])
  rw[At this];exact .refl _
 .intro h;have CN:l.length=m.length:=aa2
  refine Z {i:Nat // i<=l.length/\l.take i=m.take i} (Z (fun i=>⟨[(0,sl Y l),(1,sl Y m),(12,G (l.map Y).length),(13,G i.1)],[],Af⟩) (Z (fun i=>l.length-i.1) (J (Z ⟨0,by simp⟩ ?_) ?_)))
  .exact⟨⟨X,X,X,X,W⟩,W,Fh,W⟩
  .intro⟨i,h1,h2⟩;refine J ?_ ?_
   .intro h;have h:i<l.length:=aa0
    have h' : i<m.length:=Wk
    have hg:l[i]?=some l[i]:=Ge h;have hg' : m[i]?=some m[i]:=Ge h';refine Z (Y l[i]) (J (J Wk aa0) (J rfl (yN ?_)));refine Z (Y m[i]) (J (J Wk aa0) (J rfl (yN ?_)));refine J ?_ ?_
    .intro h5;have e:l[i]=m[i]:=Tq.1 h5;refine J aa4 (J (by grind [Au]) (Z ⟨i+1,by omega,?_⟩ ?_))
     .grind [List.take_add_one]
     .exact⟨Dl l.length i Wk,⟨X,X,X,X,W⟩,W,Fh,W⟩
    .intro h5;refine J aa4 ?_
     have:l≠m:=fun e=>h5 (Tq.2 aa0)
     rw[At this];exact .refl _
   .intro h;have h:¬i<l.length:=aa0
    have e:l=m:=by
     grind
    rw[Ax e];exact .refl _
theorem c27(l m:List (Sl))(hl:BF l):PC 14 [sl Ae l,sl Ae m] (I (decide (l=m))):=by
 refine Ff (dO Dc) rfl BA hm rfl func14 aa4 rfl C4 aa4 (J ?_ ?_)
 .intro h
  have:l≠m:=fun e=>h (by rw[e])
  rw[At this];exact .refl _
 .intro h;have CN:l.length=m.length:=aa2
  refine Z {i:Nat // i<=l.length/\l.take i=m.take i} (Z (fun i=>⟨[(0,sl Ae l),(1,sl Ae m),(12,G (l.map Ae).length),(13,G i.1)],[],Af⟩) (Z (fun i=>l.length-i.1) (J (Z ⟨0,by simp⟩ ?_) ?_)))
  .exact⟨⟨X,X,X,X,W⟩,W,Fh,W⟩
  .intro⟨i,h1,h2⟩;refine J ?_ ?_
   .intro h;have h:i<l.length:=aa0
    have h' : i<m.length:=Wk
    have hg:l[i]?=some l[i]:=Ge h;have hg' : m[i]?=some m[i]:=Ge h';refine Z (Ae l[i]) (J (J Wk aa0) (J rfl (yN ?_)));refine Z (Ae m[i]) (J (J Wk aa0) (J rfl (yN ?_)));refine J ?_ ?_
    .intro h5;have e:l[i]=m[i]:=un.1 h5;refine J aa4 (J (by grind [Au]) (Z ⟨i+1,by omega,?_⟩ ?_))
     .grind [List.take_add_one]
     .exact⟨Dl l.length i Wk,⟨X,X,X,X,W⟩,W,Fh,W⟩
    .intro h5;refine J aa4 ?_
     have:l≠m:=fun e=>h5 (un.2 aa0)
     rw[At this];exact .refl _
   .intro h;have h:¬i<l.length:=aa0
    have e:l=m:=by
     grind
    rw[Ax e];exact .refl _
abbrev px(l:List Nat):Ns:=⟨l,[],[],[],[],[],[],[],[],[],[]⟩
theorem Dh.ptr(cs:List AV):Dh [.cptr cs]:=fun c hc h=>by
 rw[AI.1 hc];rfl
theorem Adh(s:Int×Int)(p:Int):PC 112 [.agg (Y s),.cptr [G p]] (I (BM p s)):=by
 refine Ps Dc func112 rfl C4 (J ?_ ?_)
 .intro h;refine J ?_ ?_
  .intro h2;rw[show BM p s=true by grind [BM]];exact .refl _
  .intro h2;rw[show BM p s=false by grind [BM]];exact .refl _
 .intro h;rw[show BM p s=false by simp[BM,h]];exact .refl _
theorem wd(s:List (Int×Int))(p:Int)(hl:BF s):PC 54 [sl Y s,G p] (I (has s p)):=by
 refine Ps (px [3]) func54 rfl C4 (J ?_ ?_)
 .intro h;refine J ?_ ?_
  .intro h2;refine C1 (U (Adg (Dh.ptr [G p]) s (BM p) (fun x _=>Adh x p) hl) ?_);rw[show has s p=s.any (BM p) by grind [has]];cases s.any (BM p)<;>exact .refl _
  .intro h2;rw[show has s p=false by grind [has]];exact .refl _
 .intro h;rw[show has s p=false by simp[has,h]];exact .refl _
theorem c88(r:Rl):PC 55 [.agg (V r)] (G (plc r.ver)):=by
 refine Ps Dc func55 rfl C4 ?_;exact J C4 (C1 (U (wa r.ver) (.refl _)))
theorem c99:PC 359 [.agg (Ae x),.cptr (M t)] (I (decide (x.path=t.path))):=by
 refine Ps Dc func359 rfl C4 (J ?_ ?_)
 .intro h;rw[Ax h];exact .refl _
 .intro h;rw[At h];exact .refl _
theorem MX{α:Type}{p:α->Bool}:∀(l:List α) (k:Int),(KT p l k=-1/\l.find? p=none)\/∃i x,KT p l k=k+(i:Nat)/\l[i]?=some x/\l.find? p=some x
 | [],k=>.inl X
 |x::r,k=>by
  cases h:p x with
  |true=>exact .inr ⟨0,x,by simp[KT,h],rfl,by simp[h]⟩
  |false=>
   rcases MX (p:=p) r (k+1)with ⟨h1,h2⟩ | ⟨i,y,h1,h2,h3⟩
   .grind [KT]
   .exact .inr ⟨i+1,y,by grind [KT],by simp_all,by simp_all⟩
theorem c55(hl:BF s)(ht:BF t.set):PC 322 [.agg (M t),sl Ae s] (I (E9 t s)):=by
 have hc:=c78 (Dh.ptr (M t)) s (fun x=>decide (x.path=t.path)) (fun x _=>c99 x t) Wk;unfold E9;rcases MX (p:=fun x:Sl=>decide (x.path=t.path)) s 0 with ⟨h1,h2⟩ | ⟨i,x,h1,h2,h3⟩
 .rw[h1]at hc;rw[h2];refine Ps (px [2]) func322 rfl C4 (C1 (U hc (J ?_ ?_)))
  .intro _;refine J ?_ ?_
   .intro h;rw[h];exact .refl _
   .intro h;rw[h];exact .refl _
  .intro h;exact absurd (show(-1:Int)<0 by decide) h
 .rw[h1,GP]at hc;rw[h3];have hg:(s.map Ae)[((i:Nat):Int).toNat]?=some (Ae x):=aa0
  have hp:=wa x.ver;dsimp only;rcases Bt (Bv x.ver)with hv | hv
  .rw[hv,A1 rfl,A1 rfl]at hp;rw[hv];refine Ps (px [2]) func322 rfl C4 (C1 (U hc (J ?_ ?_)))
   .intro h;omega
   .intro _;refine Z (Ae x) (J (J Wk hg) (J rfl (yN (C1 (U hp (J ?_ ?_))))))
    .intro _;refine C1 (U (wd t.set (place x.ver) ht) ?_);exact .refl _
    .intro h;exact absurd rfl h
  .rw[hv,AL aa3,AL aa3]at hp;rw[hv];refine Ps (px [2]) func322 rfl C4 (C1 (U hc (J ?_ ?_)))
   .intro h;omega
   .intro _;refine Z (Ae x) (J (J Wk hg) (J rfl (yN (C1 (U hp (J ?_ ?_))))))
    .intro h;omega
    .intro _;exact .refl _
theorem Yc{l:List α}(h:∀j (hj:j<l.length),j<i->p l[j]=true)(hi:¬i<l.length):l.all p=true:=by
 grind [List.mem_iff_getElem]
theorem vv{l:List α}(hi:i<l.length)(h:p l[i]=false):l.all p=false:=by
 grind
theorem qO{l:List α}(hi:i<l.length)(h:p l[i]=true):l.any p=true:=by
 grind
theorem md{l:List α}(h:∀j (hj:j<l.length),j<i->p l[j]=false)(hi:¬i<l.length):l.any p=false:=by
 grind [List.mem_iff_getElem]
abbrev Rb(l:List Tm):Prop:=BF l/\∀t∈l,BF t.set
theorem c26(l:List Tm)(s:List Sl)(hl:Rb l)(hs:BF s):PC 257 [sl M l,sl Ae s] (I (l.all fun t=>E9 t s)):=by
 have hc:∀i (h:i<l.length),PC 322 [.agg (M l[i]),sl Ae s] (I (E9 l[i] s)):=fun i h=>c55 l[i] s hs (hl.2 _ (Ag h));obtain⟨hl,_⟩:=hl;unfold BF at hl;refine Ps Dc func257 rfl C4 (Z {i:Nat // i<=l.length/\∀j (hj:j<l.length),j<i->E9 l[j] s=true} (Z (fun i=>⟨[(0,sl M l),(1,sl Ae s),(7,G (l.map M).length),(8,G i.1)],[],Af⟩) (Z (fun i=>l.length-i.1) (J (Z ⟨0,by simp⟩ ?_) ?_))))
 .exact⟨Z4,W,Fh,W⟩
 .intro⟨i,h1,h2⟩;refine J ?_ ?_
  .intro h;have h:i<l.length:=aa0
   have hg:l[i]?=some l[i]:=Ge h;have gU:=hc i h;refine Z (M l[i]) (J (J Wk aa0) (J rfl (yN ?_)));cases hp:E9 l[i] s with
   |false=>
    rw[hp]at gU;refine C1 (U gU ?_);rw[vv (p:=fun t=>E9 t s) h hp];exact .refl _
   |true=>
    rw[hp]at gU;refine C1 (U gU (J (by grind [Au]) (Z ⟨i+1,by omega,fun j hj F6=>?_⟩ ?_)))
    .grind
    .exact⟨by grind,Z4,W,Fh,W⟩
  .intro h;have h:¬i<l.length:=aa0
   rw[Yc (p:=fun t=>E9 t s) h2 h];exact .refl _
theorem Adk:PC 259 [.agg (Ae x),.cptr (M t)] (I (decide (x.path=t.path))):=by
 refine Ps Dc func259 rfl C4 (J ?_ ?_)
 .intro h;rw[Ax h];exact .refl _
 .intro h;rw[At h];exact .refl _
theorem Adj(hs:BF s):PC 258 [.agg (M t),.cptr [sl Ae s]] (I (!BP s t.path)):=by
 have hc:=c51 (Dh.ptr (M t)) s (fun x=>decide (x.path=t.path)) (fun x _=>Adk x t) hs;unfold BP;cases hp:s.any fun x=>decide (x.path=t.path)with
 |true=>
  rw[hp]at hc;refine Ps (px [2]) func258 rfl C4 ?_;exact C1 (U hc (.refl _))
 |false=>
  rw[hp]at hc;refine Ps (px [2]) func258 rfl C4 ?_;exact C1 (U hc (.refl _))
theorem c91(l:List Tm)(s:List Sl)(hl:Rb l)(hs:BF s):PC 188 [sl M l,sl Ae s] (I (Bq l s)):=by
 have hv:=c26 l s hl hs;have hc:=vI (Dh.ptr [sl Ae s]) l (fun t=>!BP s t.path) (fun t _=>Adj t s hs) hl.1;unfold Bq AX;cases h1:l.all fun t=>E9 t s with
 |false=>
  rw[h1]at hv;refine Ps (px [3]) func188 rfl C4 ?_;exact C1 (U hv (.refl _))
 |true=>
  rw[h1]at hv;cases h2:l.any fun t=>!BP s t.path with
  |true=>
   rw[h2]at hc;refine Ps (px [3]) func188 rfl C4 ?_;exact C1 (U hv (C1 (U hc (.refl _))))
  |false=>
   rw[h2]at hc;refine Ps (px [3]) func188 rfl C4 ?_;exact C1 (U hv (C1 (U hc (.refl _))))
def so(p:Int)(s:Int×Int):Bool:=decide (max 0 s.1<=p)&&decide (p<min 1000000 s.2)
theorem sq(s:List (Int×Int))(p:Int):s.any (so p)=has s p:=by
 grind [has,so,BM]
theorem ah(s:List (Int×Int))(p:Int)(hl:BF s):PC 242 [sl Y s,G p] (I (has s p)):=by
 rw[<-sq];unfold BF at hl;refine Ps Dc func242 rfl C4 (Z {i:Nat // i<=s.length/\∀j (hj:j<s.length),j<i->so p s[j]=false} (Z (fun i=>⟨[(0,sl Y s),(1,G p),(5,G i.1)],[],Af⟩) (Z (fun i=>s.length-i.1) (J (Z ⟨0,by simp⟩ ?_) ?_))))
 .exact⟨Z3,W,Fh,W⟩
 .intro⟨i,h1,h2⟩;refine J ?_ ?_
  .intro h;have h:i<s.length:=aa0
   have hg:s[i]?=some s[i]:=Ge h;refine Z (Y s[i]) (J (J Wk aa0) (J rfl ?_));refine J ?_ ?_
   .intro h3;refine Z (Y s[i]) (J (J Wk aa0) (J rfl ?_));refine J ?_ ?_
    .intro h4;have h5:so p s[i]=true:=by grind [so]
     show CD (I true) (I (s.any (so p)))
     grind [CD.refl]
    .intro h4;refine J (by grind [Au]) (Z ⟨i+1,by omega,fun j hj F6=>?_⟩ ?_)
     .grind [so]
     .exact⟨Dl s.length i Wk,Z3,W,Fh,W⟩
   .intro h3;refine J (by grind [Au]) (Z ⟨i+1,by omega,fun j hj F6=>?_⟩ ?_)
    .grind [so]
    .exact⟨Dl s.length i Wk,Z3,W,Fh,W⟩
  .intro h;have h:¬i<s.length:=aa0
   show CD (I false) (I (s.any (so p)))
   grind [md,CD.refl]
theorem Adl(p:CS)(hl:BF s):PC 250 [sl Ae s,vs p] (I (BP s p)):=by
 unfold BF at hl;unfold BP;refine Ps Dc func250 rfl C4 (Z {i:Nat // i<=s.length/\∀j (hj:j<s.length),j<i->decide (s[j].path=p)=false} (Z (fun i=>⟨[(0,sl Ae s),(1,vs p),(5,G i.1)],[],Af⟩) (Z (fun i=>s.length-i.1) (J (Z ⟨0,by simp⟩ ?_) ?_))))
 .exact⟨Z3,W,Fh,W⟩
 .intro⟨i,h1,h2⟩;refine J ?_ ?_
  .intro h;have h:(i:Int)<(s.map Ae).length:=h;have h:i<s.length:=aa0
   have hg:s[i]?=some s[i]:=Ge h;refine Z (Ae s[i]) (J (J Wk aa0) (J rfl ?_));refine J ?_ ?_
   .intro h3;have h3:s[i].path=p:=h3;rw[qO (p:=fun x:Sl=>decide (x.path=p)) h (Ax h3)];exact .refl _
   .intro h3;have h3:¬s[i].path=p:=h3;refine J (by grind [Au]) (Z ⟨i+1,by omega,fun j hj F6=>?_⟩ ?_)
    .grind
    .exact⟨by grind,Z3,W,Fh,W⟩
  .intro h;have h:¬(i:Int)<(s.map Ae).length:=h;have h:¬i<s.length:=aa0
   rw[md (p:=fun x:Sl=>decide (x.path=p)) h2 h];exact .refl _
theorem vT(n:Int):PC 119 [G n] (I (decide (okPart n))):=by
 refine Ps Dc func119 rfl C4 (J ?_ ?_)
 .intro h;refine J ?_ ?_
  .intro h2;show CD (I true) (I (decide (okPart n)));rw[Ax ⟨h,h2⟩];exact .refl _
  .intro h2;show CD (I false) (I (decide (okPart n)));rw[At fun q=>h2 q.2];exact .refl _
 .intro h;show CD (I false) (I (decide (okPart n)));rw[At fun q=>h q.1];exact .refl _
theorem rb:PC 61 [.agg (Ez v)] (I (Bv v)):=by
 have ha:=vT v.a;have hb:=vT v.b;have hc:=vT v.c;unfold Bv;cases h1:decide (okPart v.a)with
 |false=>
  rw[h1]at ha;refine Ps Dc func61 rfl C4 ?_;exact C1 (U ha (.refl _))
 |true=>
  rw[h1]at ha;cases h2:decide (okPart v.b)with
  |false=>
   rw[h2]at hb;refine Ps Dc func61 rfl C4 ?_;exact C1 (U ha (C1 (U hb (.refl _))))
  |true=>
   rw[h2]at hb;refine Ps Dc func61 rfl C4 ?_;exact C1 (U ha (C1 (U hb (C1 (U hc (.refl _))))))
theorem AdH:PC 357 [.agg (Ez v)] (.tup [G (if Bv v then place v else 0),G (if Bv v then 0 else 2)]):=by
 have hc:=rb v;cases h:Bv v with
 |false=>
  rw[h]at hc;refine Ps Dc func357 rfl C4 ?_;exact J C4 (C1 (U hc (.refl _)))
 |true=>
  rw[h]at hc;have hv:=FE h;refine Ps Dc func357 rfl C4 (J C4 (C1 (U hc (J (by grind [Au]) ?_))));exact J (by grind [Au]) (.refl _)
theorem YA{α:Type}{p:α->Bool}:∀{l:List α} {i:Nat} (hi:i<l.length),(∀j (hj:j<l.length),j<i->p l[j]=false)->p l[i]=true->l.find? p=some l[i]
 |x::r,0,_,_,h=>by
  simp_all
 |x::r,i+1,hi,hb,h=>by
  have h0:p x=false:=hb 0 aa1 Wk;rw[Ie,h0];exact YA (l:=r) (i:=i) aa2 (fun j hj F6=>hb (j+1) Wk Wk) h
theorem W9{l:List α}(h:∀j (hj:j<l.length),j<i->p l[j]=false)(hi:¬i<l.length):l.find? p=none:=by
 grind [List.mem_iff_getElem]
theorem nW{t:Tm}{s:List Sl}(hi:i<s.length)(h2:∀j (hj:j<s.length),j<i->decide (s[j].path=t.path)=false)(h:s[i].path=t.path):E9 t s=(Bv s[i].ver&&has t.set (place s[i].ver)):=by
 grind [E9,YA]
theorem eP{t:Tm}{s:List Sl}(h2:∀j (hj:j<s.length),j<i->decide (s[j].path=t.path)=false)(hi:¬i<s.length):E9 t s=t.absent:=by
 grind [E9,W9]
theorem Adz(hl:BF s)(ht:BF t.set):PC 312 [.agg (M t),sl Ae s] (I (E9 t s)):=by
 unfold BF at hl;refine Ps (px [2]) func312 rfl C4 (Z {i:Nat // i<=s.length/\∀j (hj:j<s.length),j<i->decide (s[j].path=t.path)=false} (Z (fun i=>⟨[(1,sl Ae s),(2,.ref 2 0),(5,G i.1)],[(2,.ro (M t))],Af⟩) (Z (fun i=>s.length-i.1) (J (Z ⟨0,by simp⟩ ?_) ?_))))
 .exact⟨Z3,Z1,Fh,W⟩
 .intro⟨i,h1,h2⟩;refine J ?_ ?_
  .intro h;have h:(i:Int)<(s.map Ae).length:=h;have h:i<s.length:=aa0
   have hg:s[i]?=some s[i]:=Ge h;refine Z (Ae s[i]) (J (J Wk aa0) (J rfl ?_));refine J ?_ ?_
   .intro h3;have h3:s[i].path=t.path:=h3;refine J aa4 (Z (Ae s[i]) (J (J Wk aa0) (J rfl (yN ?_))));have hp:=AdH s[i].ver;have hq:=nW h h2 h3;refine Ay (Bt (Bv s[i].ver)) (fun hv=>?_) (fun hv=>?_)
    .rw[hv,A1 rfl,A1 rfl]at hp;rw[hv,S0]at hq;refine C1 (U hp (J ?_ ?_))
     .intro _;refine C1 (U (ah t.set (place s[i].ver) ht) ?_);show CD (I (has t.set (place s[i].ver))) (I (E9 t s))
      grind [CD.refl]
     .intro h;exact absurd rfl h
    .rw[hv,AL aa3,AL aa3]at hp;rw[hv,Bool.false_and]at hq;refine C1 (U hp (J ?_ ?_))
     .intro h;have h:(2:Int)=0:=h;omega
     .intro _;show CD (I false) (I (E9 t s))
      grind [CD.refl]
   .intro h3;have h3:¬s[i].path=t.path:=h3;refine J aa4 (J (by grind [Au]) (Z ⟨i+1,by omega,fun j hj F6=>?_⟩ ?_))
    .grind
    .exact⟨by grind,Z3,Z1,Fh,W⟩
  .intro h;have h:¬(i:Int)<(s.map Ae).length:=h;have h:¬i<s.length:=aa0
   have hq:=eP h2 h;refine J ?_ ?_
   .intro h5;have h5:t.absent=true:=h5;show CD (I true) (I (E9 t s))
    grind [CD.refl]
   .intro h5;have h5:t.absent=false:=h5;show CD (I false) (I (E9 t s))
    grind [CD.refl]
end Go.Eng
