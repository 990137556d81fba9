/- Lemmas 14. -/
import Derived.Test.YteaiieomnhbmgaaGreatDoorBA01
import Derived.Test.YteaiieomnhbmgaaGreatDoorBA13
import Derived.Shelf.SlSortCmp.WholeK
import Derived.Shelf.Sort.Plain
import Derived.Shelf.Small.Strs
import Derived.Shelf.Small.Bits
import Derived.Ground.SlsfProg
import Derived.Ground.NamesProg
set_option maxHeartbeats 1000000
namespace Go.Eng
open Go.Proofs
variable {α:Type}{b0 b1 b2 b3:Bool}{a0:α}{b4:Bool}{a1:α}{b5:Bool}{a2 a3:α}{b6:Bool}{a4:α}{b7:Bool}{a5 a6:α}{b8:Bool}{a7:α}{b9:Bool}{a8:α}{VQ:Bool}{a9:α}{l:List α}{ZM:α}(i:Nat)(pl:Qz)(b:Bool)
abbrev vi(n:Int):AV := .v (.int .i64 n)
abbrev vb:AV := .v (.bool b)
abbrev vs(s:CS):AV := .v (.string s)
abbrev sl(enc:α -> List AV)(l:List α):AV := .slice .none (l.map enc)
abbrev CC(v:Ver):List AV := [vi v.a,vi v.b,vi v.c]
abbrev Ag(s:Int×Int):List AV := [vi s.1,vi s.2]
abbrev As(q:Rq):List AV := [vs q.path,sl Ag q.set]
abbrev Ah(r:Rl):List AV := [vs r.path,vi r.ver.a,vi r.ver.b,vi r.ver.c,sl As r.reqs,vs r.arch,vs r.ifc,vs r.cert,vb r.yanked]
abbrev Ab(s:Sl):List AV := [vs s.path,vi s.ver.a,vi s.ver.b,vi s.ver.c]
abbrev AG(t:Tm):List AV := [vs t.path,vb t.absent,sl Ag t.set]
abbrev Dy(i:Nf):List AV := [vi i.kind,vs i.path,vi i.place,vi i.number,vi i.left,vi i.right]
abbrev Cj(s:Sk):List AV := [vs s.path,vi s.place,vi s.inf]
noncomputable abbrev jr:Cx := ⟨Tryz.prog,tG,pl,false,0,fun _ _ _ _ => True⟩
noncomputable abbrev LB:Cx := ⟨Tryz.prog,tG,pl,true,0,fun _ _ _ _ => True⟩
abbrev C3:Qz := ⟨[],[],[],[],[],[],[],[],[],[],[]⟩
abbrev PC(f:Nat)(args:List AV)(res:AV):Prop := IG Tryz.prog f args res
theorem hm:Tryz.prog.follows .mixedOrders = true := by rfl
theorem Zr{α:Sort _}{β:Sort _}{a:α}{b:β}:a = a /\ b = b := ⟨rfl,rfl⟩
theorem Nz{a b:Nat}(h:Nat.ble a b = true):a <= b := F6 h
theorem Xi{α:Sort _}{p:α -> Prop}(w:α)(h:p w):Exists p := Exists.intro w h
theorem Yi{a b:Prop}(h:a)(k:b):a /\ b := And.intro h k
theorem C1{p:zb->Prop}(h:p .pure):Exists p:=⟨_,h⟩
theorem C2{A:Type}{c d:A->Prop}{w:A}(h:c w)(k:d w):∃w,c w∧d w:=⟨w,h,k⟩
theorem Fh{st:St}{h:Nat -> HO}:∀j,Ac j = .free \/ (st.h j = Ac j /\ SO h (Ac j) = true) := fun _ => .inl rfl
theorem Tv:True := trivial
theorem Ii(h:i <= 9223372036854775806):Av ((i:Int) + 1) := by unfold Av;omega
theorem Dl(n i:Nat)(h:i<n):n-(i + 1)<n-i := by omega
theorem Bt:b = true \/ b = false := Bool.eq_false_or_eq_true b
theorem Z1:(a0 = a0 /\ b0 = b0) /\ True := ⟨⟨rfl,rfl⟩,trivial⟩
theorem Z2:(a0 = a0 /\ b0 = b0) /\ (a1 = a1 /\ b1 = b1) /\ True := ⟨⟨rfl,rfl⟩,⟨rfl,rfl⟩,trivial⟩
theorem Z3:(a0 = a0 /\ b0 = b0) /\ (a1 = a1 /\ b1 = b1) /\ (a2 = a2 /\ b2 = b2) /\ True := ⟨⟨rfl,rfl⟩,⟨rfl,rfl⟩,⟨rfl,rfl⟩,trivial⟩
theorem Z4:(a0 = a0 /\ b0 = b0) /\ (a1 = a1 /\ b1 = b1) /\ (a2 = a2 /\ b2 = b2) /\ (a3 = a3 /\ b3 = b3) /\ True := ⟨⟨rfl,rfl⟩,⟨rfl,rfl⟩,⟨rfl,rfl⟩,⟨rfl,rfl⟩,trivial⟩
theorem Z5:(a0 = a0 /\ b0 = b0) /\ (a1 = a1 /\ b1 = b1) /\ (a2 = a2 /\ b2 = b2) /\ (a3 = a3 /\ b3 = b3) /\ (a4 = a4 /\ b4 = b4) /\ True := ⟨⟨rfl,rfl⟩,⟨rfl,rfl⟩,⟨rfl,rfl⟩,⟨rfl,rfl⟩,⟨rfl,rfl⟩,trivial⟩
theorem Z6:(a0 = a0 /\ b0 = b0) /\ (a1 = a1 /\ b1 = b1) /\ (a2 = a2 /\ b2 = b2) /\ (a3 = a3 /\ b3 = b3) /\ (a4 = a4 /\ b4 = b4) /\ (a5 = a5 /\ b5 = b5) /\ True := ⟨⟨rfl,rfl⟩,⟨rfl,rfl⟩,⟨rfl,rfl⟩,⟨rfl,rfl⟩,⟨rfl,rfl⟩,⟨rfl,rfl⟩,trivial⟩
theorem Z7:(a0 = a0 /\ b0 = b0) /\ (a1 = a1 /\ b1 = b1) /\ (a2 = a2 /\ b2 = b2) /\ (a3 = a3 /\ b3 = b3) /\ (a4 = a4 /\ b4 = b4) /\ (a5 = a5 /\ b5 = b5) /\ (a6 = a6 /\ b6 = b6) /\ True := ⟨⟨rfl,rfl⟩,⟨rfl,rfl⟩,⟨rfl,rfl⟩,⟨rfl,rfl⟩,⟨rfl,rfl⟩,⟨rfl,rfl⟩,⟨rfl,rfl⟩,trivial⟩
theorem Z8:(a0 = a0 /\ b0 = b0) /\ (a1 = a1 /\ b1 = b1) /\ (a2 = a2 /\ b2 = b2) /\ (a3 = a3 /\ b3 = b3) /\ (a4 = a4 /\ b4 = b4) /\ (a5 = a5 /\ b5 = b5) /\ (a6 = a6 /\ b6 = b6) /\ (a7 = a7 /\ b7 = b7) /\ True := ⟨⟨rfl,rfl⟩,⟨rfl,rfl⟩,⟨rfl,rfl⟩,⟨rfl,rfl⟩,⟨rfl,rfl⟩,⟨rfl,rfl⟩,⟨rfl,rfl⟩,⟨rfl,rfl⟩,trivial⟩
theorem Z9:(a0 = a0 /\ b0 = b0) /\ (a1 = a1 /\ b1 = b1) /\ (a2 = a2 /\ b2 = b2) /\ (a3 = a3 /\ b3 = b3) /\ (a4 = a4 /\ b4 = b4) /\ (a5 = a5 /\ b5 = b5) /\ (a6 = a6 /\ b6 = b6) /\ (a7 = a7 /\ b7 = b7) /\ (a8 = a8 /\ b8 = b8) /\ True := ⟨⟨rfl,rfl⟩,⟨rfl,rfl⟩,⟨rfl,rfl⟩,⟨rfl,rfl⟩,⟨rfl,rfl⟩,⟨rfl,rfl⟩,⟨rfl,rfl⟩,⟨rfl,rfl⟩,⟨rfl,rfl⟩,trivial⟩
theorem Z10:(a0 = a0 /\ b0 = b0) /\ (a1 = a1 /\ b1 = b1) /\ (a2 = a2 /\ b2 = b2) /\ (a3 = a3 /\ b3 = b3) /\ (a4 = a4 /\ b4 = b4) /\ (a5 = a5 /\ b5 = b5) /\ (a6 = a6 /\ b6 = b6) /\ (a7 = a7 /\ b7 = b7) /\ (a8 = a8 /\ b8 = b8) /\ (a9 = a9 /\ b9 = b9) /\ True := ⟨⟨rfl,rfl⟩,⟨rfl,rfl⟩,⟨rfl,rfl⟩,⟨rfl,rfl⟩,⟨rfl,rfl⟩,⟨rfl,rfl⟩,⟨rfl,rfl⟩,⟨rfl,rfl⟩,⟨rfl,rfl⟩,⟨rfl,rfl⟩,trivial⟩
theorem Z11:(a0 = a0 /\ b0 = b0) /\ (a1 = a1 /\ b1 = b1) /\ (a2 = a2 /\ b2 = b2) /\ (a3 = a3 /\ b3 = b3) /\ (a4 = a4 /\ b4 = b4) /\ (a5 = a5 /\ b5 = b5) /\ (a6 = a6 /\ b6 = b6) /\ (a7 = a7 /\ b7 = b7) /\ (a8 = a8 /\ b8 = b8) /\ (a9 = a9 /\ b9 = b9) /\ (ZM = ZM /\ VQ = VQ) /\ True := ⟨⟨rfl,rfl⟩,⟨rfl,rfl⟩,⟨rfl,rfl⟩,⟨rfl,rfl⟩,⟨rfl,rfl⟩,⟨rfl,rfl⟩,⟨rfl,rfl⟩,⟨rfl,rfl⟩,⟨rfl,rfl⟩,⟨rfl,rfl⟩,⟨rfl,rfl⟩,trivial⟩
theorem Z12{fO:α}{lU:Bool}:(a0 = a0 /\ b0 = b0) /\ (a1 = a1 /\ b1 = b1) /\ (a2 = a2 /\ b2 = b2) /\ (a3 = a3 /\ b3 = b3) /\ (a4 = a4 /\ b4 = b4) /\ (a5 = a5 /\ b5 = b5) /\ (a6 = a6 /\ b6 = b6) /\ (a7 = a7 /\ b7 = b7) /\ (a8 = a8 /\ b8 = b8) /\ (a9 = a9 /\ b9 = b9) /\ (ZM = ZM /\ VQ = VQ) /\ (fO = fO /\ lU = lU) /\ True := ⟨⟨rfl,rfl⟩,⟨rfl,rfl⟩,⟨rfl,rfl⟩,⟨rfl,rfl⟩,⟨rfl,rfl⟩,⟨rfl,rfl⟩,⟨rfl,rfl⟩,⟨rfl,rfl⟩,⟨rfl,rfl⟩,⟨rfl,rfl⟩,⟨rfl,rfl⟩,⟨rfl,rfl⟩,trivial⟩
theorem Z13{fO a12:α}{lU qx:Bool}:(a0 = a0 /\ b0 = b0) /\ (a1 = a1 /\ b1 = b1) /\ (a2 = a2 /\ b2 = b2) /\ (a3 = a3 /\ b3 = b3) /\ (a4 = a4 /\ b4 = b4) /\ (a5 = a5 /\ b5 = b5) /\ (a6 = a6 /\ b6 = b6) /\ (a7 = a7 /\ b7 = b7) /\ (a8 = a8 /\ b8 = b8) /\ (a9 = a9 /\ b9 = b9) /\ (ZM = ZM /\ VQ = VQ) /\ (fO = fO /\ lU = lU) /\ (a12 = a12 /\ qx = qx) /\ True := ⟨⟨rfl,rfl⟩,⟨rfl,rfl⟩,⟨rfl,rfl⟩,⟨rfl,rfl⟩,⟨rfl,rfl⟩,⟨rfl,rfl⟩,⟨rfl,rfl⟩,⟨rfl,rfl⟩,⟨rfl,rfl⟩,⟨rfl,rfl⟩,⟨rfl,rfl⟩,⟨rfl,rfl⟩,⟨rfl,rfl⟩,trivial⟩
theorem Nn:(0:Int) <= (i:Int) := OZ i
abbrev Ic(x:List Rl)(ifs:C0):List AV := [sl Ah x,.slice .none ifs]
theorem Ps{f:Nat}{fn:Func}{c:Code}{args:List AV}{res:AV}(hf:Tryz.prog.funcs[f]? = some fn)(hb:fn.body = some c)(hN:args.length <= fn.ntmps)(hk:QD (jr pl) c (wq (jr pl) fn.results.toList fun r => BM r res) ⟨Pw args,Ac⟩)(hn : (fn.name == "runtime.NumGoroutine") = false := by kernel_rfl)(hc : Ey fn.ntmps c = true := by kernel_rfl) : IG Tryz.prog f args res := FD (jr pl) rfl Ck hm rfl hf hn hb hN hc hk
theorem Lm{β:Type}(f:α -> β):(l.map f).length = l.length := BK f
theorem Ge{i:Nat}(h:i<l.length):l[i]? = some l[i] := AY h
end Go.Eng
namespace Go.Proofs
open Go.Proofs.Tryz
open Go.Shelf
def Tryz.layPdqSpan_ren:Go.Shelf.Ren:=⟨fun | 14=>290 | 20=>325 | 21=>326 | 22=>327 | 23=>328 | 24=>329 | 25=>330 | 26=>331 | 27=>332 | 46=>359 | 47=>277 | 48=>278 | 49=>360 | 50=>361 | 15=>161 | 57=>374 | 28=>228 | 29=>229 | n=>n,fun | 24=>92 | 22=>50 | 3=>3 | 25=>324 | 4=>4 | 0=>0 | 46=>316 | 45=>315 | 50=>214 | 66=>357 | 39=>99 | 55=>98 | 70=>361 | 76=>389 | 77=>390 | 53=>229 | 5=>5 | 9=>9 | n=>n,fun | n=>n⟩
theorem Tryz.layPdqSpan:Go.Proofs.SlLaysF0.n14 Tryz.prog Tryz.layPdqSpan_ren:={
 mixed:=by kernel_rfl
 f14:=⟨Tryz.f290.name,by decide,Go.Eng.A0a func290⟩
 f15:=Go.Eng.A0a func161
 f20:=⟨Tryz.f325.name,by decide,Go.Eng.A0a func325⟩
 f21:=⟨Tryz.f326.name,by decide,Go.Eng.A0a func326⟩
 f22:=⟨Tryz.f327.name,by decide,Go.Eng.A0a func327⟩
 f23:=⟨Tryz.f328.name,by decide,Go.Eng.A0a func328⟩
 f24:=⟨Tryz.f329.name,by decide,Go.Eng.A0a func329⟩
 f25:=⟨Tryz.f330.name,by decide,Go.Eng.A0a func330⟩
 f26:=⟨Tryz.f331.name,by decide,Go.Eng.A0a func331⟩
 f27:=⟨Tryz.f332.name,by decide,Go.Eng.A0a func332⟩
 f28:=Go.Eng.A0a func228
 f29:=Go.Eng.A0a func229
 f46:=⟨Tryz.f359.name,by decide,Go.Eng.A0a func359⟩
 f47:=Go.Eng.A0a func277
 f48:=Go.Eng.A0a func278
 f49:=⟨Tryz.f360.name,by decide,Go.Eng.A0a func360⟩
 f50:=⟨Tryz.f361.name,by decide,Go.Eng.A0a func361⟩
 f57:=⟨Tryz.f374.name,by decide,Go.Eng.A0a func374⟩
 t0:=underlying0
 a0:=isAgg0
 z0:=sizeOf0
 v0:=zeroValue0
 t3:=underlying3
 a3:=isAgg3
 z3:=sizeOf3
 v3:=zeroValue3
 t4:=underlying4
 a4:=isAgg4
 z4:=sizeOf4
 v4:=zeroValue4
 t5:=underlying5
 a5:=isAgg5
 z5:=sizeOf5
 v5:=zeroValue5
 t9:=underlying9
 a9:=isAgg9
 z9:=sizeOf9
 v9:=zeroValue9
 t22:=underlying50
 a22:=isAgg50
 z22:=sizeOf50
 v22:=zeroValue50
 t25:=underlying324
 a25:=isAgg324
 z25:=sizeOf324
 v25:=zeroValue324
 t39:=underlying99
 a39:=isAgg99
 z39:=sizeOf99
 v39:=zeroValue99
 t45:=underlying315
 a45:=isAgg315
 z45:=sizeOf315
 v45:=zeroValue315
 t46:=underlying316
 a46:=isAgg316
 z46:=sizeOf316
 v46:=zeroValue316
 t50:=underlying214
 a50:=isAgg214
 z50:=sizeOf214
 v50:=zeroValue214
 t53:=underlying229
 a53:=isAgg229
 z53:=sizeOf229
 v53:=zeroValue229
 t55:=underlying98
 a55:=isAgg98
 z55:=sizeOf98
 v55:=zeroValue98
 t66:=underlying357
 a66:=isAgg357
 z66:=sizeOf357
 v66:=zeroValue357
 t70:=underlying361
 a70:=isAgg361
 z70:=sizeOf361
 v70:=zeroValue361
 t76:=underlying389
 a76:=isAgg389
 z76:=sizeOf389
 v76:=zeroValue389
 t77:=underlying390
 a77:=isAgg390
 z77:=sizeOf390
 v77:=zeroValue390 }
def Tryz.layPdqTerm_ren:Go.Shelf.Ren:=⟨fun | 14=>368 | 20=>378 | 21=>379 | 22=>380 | 23=>381 | 24=>382 | 25=>383 | 26=>384 | 27=>385 | 46=>401 | 47=>277 | 48=>278 | 49=>402 | 50=>403 | 15=>161 | 57=>409 | 28=>228 | 29=>229 | n=>n,fun | 24=>343 | 22=>282 | 3=>3 | 25=>412 | 4=>4 | 0=>0 | 46=>316 | 45=>315 | 50=>214 | 66=>357 | 39=>99 | 55=>98 | 70=>361 | 76=>389 | 77=>390 | 53=>229 | 5=>5 | 9=>9 | n=>n,fun | n=>n⟩
theorem Tryz.layPdqTerm:Go.Proofs.SlLaysF0.n14 Tryz.prog Tryz.layPdqTerm_ren:={
 mixed:=by kernel_rfl
 f14:=⟨Tryz.f368.name,by decide,Go.Eng.A0a func368⟩
 f15:=Go.Eng.A0a func161
 f20:=⟨Tryz.f378.name,by decide,Go.Eng.A0a func378⟩
 f21:=⟨Tryz.f379.name,by decide,Go.Eng.A0a func379⟩
 f22:=⟨Tryz.f380.name,by decide,Go.Eng.A0a func380⟩
 f23:=⟨Tryz.f381.name,by decide,Go.Eng.A0a func381⟩
 f24:=⟨Tryz.f382.name,by decide,Go.Eng.A0a func382⟩
 f25:=⟨Tryz.f383.name,by decide,Go.Eng.A0a func383⟩
 f26:=⟨Tryz.f384.name,by decide,Go.Eng.A0a func384⟩
 f27:=⟨Tryz.f385.name,by decide,Go.Eng.A0a func385⟩
 f28:=Go.Eng.A0a func228
 f29:=Go.Eng.A0a func229
 f46:=⟨Tryz.f401.name,by decide,Go.Eng.A0a func401⟩
 f47:=Go.Eng.A0a func277
 f48:=Go.Eng.A0a func278
 f49:=⟨Tryz.f402.name,by decide,Go.Eng.A0a func402⟩
 f50:=⟨Tryz.f403.name,by decide,Go.Eng.A0a func403⟩
 f57:=⟨Tryz.f409.name,by decide,Go.Eng.A0a func409⟩
 t0:=underlying0
 a0:=isAgg0
 z0:=sizeOf0
 v0:=zeroValue0
 t3:=underlying3
 a3:=isAgg3
 z3:=sizeOf3
 v3:=zeroValue3
 t4:=underlying4
 a4:=isAgg4
 z4:=sizeOf4
 v4:=zeroValue4
 t5:=underlying5
 a5:=isAgg5
 z5:=sizeOf5
 v5:=zeroValue5
 t9:=underlying9
 a9:=isAgg9
 z9:=sizeOf9
 v9:=zeroValue9
 t22:=underlying282
 a22:=isAgg282
 z22:=sizeOf282
 v22:=zeroValue282
 t25:=underlying412
 a25:=isAgg412
 z25:=sizeOf412
 v25:=zeroValue412
 t39:=underlying99
 a39:=isAgg99
 z39:=sizeOf99
 v39:=zeroValue99
 t45:=underlying315
 a45:=isAgg315
 z45:=sizeOf315
 v45:=zeroValue315
 t46:=underlying316
 a46:=isAgg316
 z46:=sizeOf316
 v46:=zeroValue316
 t50:=underlying214
 a50:=isAgg214
 z50:=sizeOf214
 v50:=zeroValue214
 t53:=underlying229
 a53:=isAgg229
 z53:=sizeOf229
 v53:=zeroValue229
 t55:=underlying98
 a55:=isAgg98
 z55:=sizeOf98
 v55:=zeroValue98
 t66:=underlying357
 a66:=isAgg357
 z66:=sizeOf357
 v66:=zeroValue357
 t70:=underlying361
 a70:=isAgg361
 z70:=sizeOf361
 v70:=zeroValue361
 t76:=underlying389
 a76:=isAgg389
 z76:=sizeOf389
 v76:=zeroValue389
 t77:=underlying390
 a77:=isAgg390
 z77:=sizeOf390
 v77:=zeroValue390 }
def Tryz.layPdqSel_ren:Go.Shelf.Ren:=⟨fun | 14=>184 | 20=>244 | 21=>245 | 22=>246 | 23=>247 | 24=>248 | 25=>249 | 26=>250 | 27=>251 | 46=>298 | 47=>277 | 48=>278 | 49=>299 | 50=>300 | 15=>161 | 57=>338 | 28=>228 | 29=>229 | n=>n,fun | 24=>48 | 22=>34 | 3=>3 | 25=>211 | 4=>4 | 0=>0 | 46=>316 | 45=>315 | 50=>214 | 66=>357 | 39=>99 | 55=>98 | 70=>361 | 76=>389 | 77=>390 | 53=>229 | 5=>5 | 9=>9 | n=>n,fun | n=>n⟩
theorem Tryz.layPdqSel:Go.Proofs.SlLaysF0.n14 Tryz.prog Tryz.layPdqSel_ren:={
 mixed:=by kernel_rfl
 f14:=⟨Tryz.f184.name,by decide,Go.Eng.A0a func184⟩
 f15:=Go.Eng.A0a func161
 f20:=⟨Tryz.f244.name,by decide,Go.Eng.A0a func244⟩
 f21:=⟨Tryz.f245.name,by decide,Go.Eng.A0a func245⟩
 f22:=⟨Tryz.f246.name,by decide,Go.Eng.A0a func246⟩
 f23:=⟨Tryz.f247.name,by decide,Go.Eng.A0a func247⟩
 f24:=⟨Tryz.f248.name,by decide,Go.Eng.A0a func248⟩
 f25:=⟨Tryz.f249.name,by decide,Go.Eng.A0a func249⟩
 f26:=⟨Tryz.f250.name,by decide,Go.Eng.A0a func250⟩
 f27:=⟨Tryz.f251.name,by decide,Go.Eng.A0a func251⟩
 f28:=Go.Eng.A0a func228
 f29:=Go.Eng.A0a func229
 f46:=⟨Tryz.f298.name,by decide,Go.Eng.A0a func298⟩
 f47:=Go.Eng.A0a func277
 f48:=Go.Eng.A0a func278
 f49:=⟨Tryz.f299.name,by decide,Go.Eng.A0a func299⟩
 f50:=⟨Tryz.f300.name,by decide,Go.Eng.A0a func300⟩
 f57:=⟨Tryz.f338.name,by decide,Go.Eng.A0a func338⟩
 t0:=underlying0
 a0:=isAgg0
 z0:=sizeOf0
 v0:=zeroValue0
 t3:=underlying3
 a3:=isAgg3
 z3:=sizeOf3
 v3:=zeroValue3
 t4:=underlying4
 a4:=isAgg4
 z4:=sizeOf4
 v4:=zeroValue4
 t5:=underlying5
 a5:=isAgg5
 z5:=sizeOf5
 v5:=zeroValue5
 t9:=underlying9
 a9:=isAgg9
 z9:=sizeOf9
 v9:=zeroValue9
 t22:=underlying34
 a22:=isAgg34
 z22:=sizeOf34
 v22:=zeroValue34
 t25:=underlying211
 a25:=isAgg211
 z25:=sizeOf211
 v25:=zeroValue211
 t39:=underlying99
 a39:=isAgg99
 z39:=sizeOf99
 v39:=zeroValue99
 t45:=underlying315
 a45:=isAgg315
 z45:=sizeOf315
 v45:=zeroValue315
 t46:=underlying316
 a46:=isAgg316
 z46:=sizeOf316
 v46:=zeroValue316
 t50:=underlying214
 a50:=isAgg214
 z50:=sizeOf214
 v50:=zeroValue214
 t53:=underlying229
 a53:=isAgg229
 z53:=sizeOf229
 v53:=zeroValue229
 t55:=underlying98
 a55:=isAgg98
 z55:=sizeOf98
 v55:=zeroValue98
 t66:=underlying357
 a66:=isAgg357
 z66:=sizeOf357
 v66:=zeroValue357
 t70:=underlying361
 a70:=isAgg361
 z70:=sizeOf361
 v70:=zeroValue361
 t76:=underlying389
 a76:=isAgg389
 z76:=sizeOf389
 v76:=zeroValue389
 t77:=underlying390
 a77:=isAgg390
 z77:=sizeOf390
 v77:=zeroValue390 }
def Tryz.layCompare_ren:Go.Shelf.Ren:=⟨fun | 106=>140 | 213=>195 | 265=>263 | n=>n,fun | 9=>9 | 3=>3 | n=>n,fun | n=>n⟩
theorem Tryz.layCompare:Go.Proofs.Lays.n106 Tryz.prog Tryz.layCompare_ren:={
 mixed:=by kernel_rfl
 f106:=Go.Eng.A0a func140
 f213:=Go.Eng.A0a func195
 f265:=Go.Eng.A0a func263
 t3:=underlying3
 a3:=isAgg3
 z3:=sizeOf3
 v3:=zeroValue3
 t9:=underlying9
 a9:=isAgg9
 z9:=sizeOf9
 v9:=zeroValue9 }
def Tryz.layBits_ren:Go.Shelf.Ren:=⟨fun | 125=>161 | 128=>228 | 129=>229 | n=>n,fun | 46=>99 | 3=>3 | 51=>229 | 53=>98 | 4=>4 | 5=>5 | 9=>9 | n=>n,fun | n=>n⟩
theorem Tryz.layBits:Go.Proofs.Lays.n125 Tryz.prog Tryz.layBits_ren:={
 mixed:=by kernel_rfl
 f125:=Go.Eng.A0a func161
 f128:=Go.Eng.A0a func228
 f129:=Go.Eng.A0a func229
 t3:=underlying3
 a3:=isAgg3
 z3:=sizeOf3
 v3:=zeroValue3
 t4:=underlying4
 a4:=isAgg4
 z4:=sizeOf4
 v4:=zeroValue4
 t5:=underlying5
 a5:=isAgg5
 z5:=sizeOf5
 v5:=zeroValue5
 t9:=underlying9
 a9:=isAgg9
 z9:=sizeOf9
 v9:=zeroValue9
 t46:=underlying99
 a46:=isAgg99
 z46:=sizeOf99
 v46:=zeroValue99
 t51:=underlying229
 a51:=isAgg229
 z51:=sizeOf229
 v51:=zeroValue229
 t53:=underlying98
 a53:=isAgg98
 z53:=sizeOf98
 v53:=zeroValue98 }
def Tryz.laySortInts_ren:Go.Shelf.Ren:=⟨fun | 189=>366 | 125=>161 | 257=>376 | 128=>228 | 129=>229 | 294=>392 | 295=>393 | 296=>394 | 297=>395 | 298=>396 | 299=>397 | 216=>398 | 300=>399 | 301=>400 | 328=>406 | 329=>277 | 330=>278 | 331=>407 | 332=>408 | 215=>265 | 343=>410 | n=>n,fun | 28=>271 | 3=>3 | 46=>99 | 0=>0 | 51=>229 | 53=>98 | 4=>4 | 183=>316 | 182=>315 | 131=>214 | 5=>5 | 9=>9 | 218=>357 | 222=>361 | 228=>389 | 229=>390 | n=>n,fun | n=>n⟩
theorem Tryz.laySortInts:Go.Proofs.Lays.n189 Tryz.prog Tryz.laySortInts_ren:={
 mixed:=by kernel_rfl
 f125:=Go.Eng.A0a func161
 f128:=Go.Eng.A0a func228
 f129:=Go.Eng.A0a func229
 f189:=Go.Eng.A0a func366
 f215:=Go.Eng.A0a func265
 f216:=Go.Eng.A0a func398
 f257:=Go.Eng.A0a func376
 f294:=Go.Eng.A0a func392
 f295:=Go.Eng.A0a func393
 f296:=Go.Eng.A0a func394
 f297:=Go.Eng.A0a func395
 f298:=Go.Eng.A0a func396
 f299:=Go.Eng.A0a func397
 f300:=Go.Eng.A0a func399
 f301:=Go.Eng.A0a func400
 f328:=Go.Eng.A0a func406
 f329:=Go.Eng.A0a func277
 f330:=Go.Eng.A0a func278
 f331:=Go.Eng.A0a func407
 f332:=Go.Eng.A0a func408
 f343:=Go.Eng.A0a func410
 t0:=underlying0
 a0:=isAgg0
 z0:=sizeOf0
 v0:=zeroValue0
 t3:=underlying3
 a3:=isAgg3
 z3:=sizeOf3
 v3:=zeroValue3
 t4:=underlying4
 a4:=isAgg4
 z4:=sizeOf4
 v4:=zeroValue4
 t5:=underlying5
 a5:=isAgg5
 z5:=sizeOf5
 v5:=zeroValue5
 t9:=underlying9
 a9:=isAgg9
 z9:=sizeOf9
 v9:=zeroValue9
 t28:=underlying271
 a28:=isAgg271
 z28:=sizeOf271
 v28:=zeroValue271
 t46:=underlying99
 a46:=isAgg99
 z46:=sizeOf99
 v46:=zeroValue99
 t51:=underlying229
 a51:=isAgg229
 z51:=sizeOf229
 v51:=zeroValue229
 t53:=underlying98
 a53:=isAgg98
 z53:=sizeOf98
 v53:=zeroValue98
 t131:=underlying214
 a131:=isAgg214
 z131:=sizeOf214
 v131:=zeroValue214
 t182:=underlying315
 a182:=isAgg315
 z182:=sizeOf315
 v182:=zeroValue315
 t183:=underlying316
 a183:=isAgg316
 z183:=sizeOf316
 v183:=zeroValue316
 t218:=underlying357
 a218:=isAgg357
 z218:=sizeOf357
 v218:=zeroValue357
 t222:=underlying361
 a222:=isAgg361
 z222:=sizeOf361
 v222:=zeroValue361
 t228:=underlying389
 a228:=isAgg389
 z228:=sizeOf389
 v228:=zeroValue389
 t229:=underlying390
 a229:=isAgg390
 z229:=sizeOf390
 v229:=zeroValue390 }
end Go.Proofs
namespace Go.Proofs
open Go.Shelf Go.RowKit Go.Lib Go.Sort
def SpA:Type:={x:Int×Int // 0<=x.1/\x.1<=1000000}
instance:Inhabited SpA:=⟨⟨(0,0),by decide⟩⟩
def encSpA(x:SpA):List Value:=[.int .i64 x.1.1,.int .i64 x.1.2]
def cfSpA(x y:SpA):Int:=x.1.1-y.1.1
theorem Tryz.closure236(x y:SpA)(W:World):Calls Tryz.prog 236 #[.agg #[.int .i64 x.1.1,.int .i64 x.1.2],.agg #[.int .i64 y.1.1,.int .i64 y.1.2]] W fun e w'=>e=.returned (.int .i64 (cfSpA x y))/\∃q os',w'=grow (W.drewN q) os':=by
 obtain⟨⟨a,b⟩,h1,h2⟩:=x;obtain⟨⟨c,d⟩,h3,h4⟩:=y;dsimp only at h1 h2 h3 h4;have hw:IntKind.i64.wrap (a-c)=a-c:=by simp[IntKind.wrap,IntKind.bits,IntKind.signed];omega
 show Calls Tryz.prog 236 #[.agg #[.int .i64 a,.int .i64 b],.agg #[.int .i64 c,.int .i64 d]] W fun e w'=>e=.returned (.int .i64 (a-c))/\∃q os',w'=grow (W.drewN q) os'
 go_enter Tryz.func236,Tryz.ntmps236
 go_wp2
 go_ret
 exact⟨rfl,0,_,by rw[alloc_eq_grow,alloc_eq_grow,grow_grow];rfl⟩
def TmA:Type:=ByteArray×{v:Value // v.oneCell'=true}×{v:Value // v.oneCell'=true}
instance:Inhabited TmA:=⟨⟨ByteArray.empty,⟨.bool false,rfl⟩,⟨.bool false,rfl⟩⟩⟩
def encTmA(x:TmA):List Value:=[.string x.1,x.2.1.1,x.2.2.1]
def cfTmA(x y:TmA):Int:=Lib.compareBytes x.1.data.toList y.1.data.toList
theorem Tryz.closure351(x y:TmA)(W:World):Calls Tryz.prog 351 #[.agg #[.string x.1,x.2.1.1,x.2.2.1],.agg #[.string y.1,y.2.1.1,y.2.2.1]] W fun e w'=>e=.returned (.int .i64 (cfTmA x y))/\∃q os',w'=grow (W.drewN q) os':=by
 have hcon:=fun W'=>Any.strings_Compare Tryz.layCompare x.1 y.1 W';obtain⟨a,⟨b,hb⟩,⟨c,hc⟩⟩:=x;obtain⟨a',⟨b',uD⟩,⟨c',hc'⟩⟩:=y;dsimp only at hcon
 change ∀W',Calls Tryz.prog 140 _ _ _ at hcon
 unfold cfTmA;dsimp only;generalize Lib.compareBytes a.data.toList a'.data.toList=r at hcon⊢
 go_enter Tryz.func351,Tryz.ntmps351
 go_wp2_with (go_at_call 140;refine(hcon _).mono ?_;rintro e w' ⟨rfl,rfl⟩)
 go_ret
 exact⟨rfl,0,_,by rw[alloc_eq_grow,alloc_eq_grow,grow_grow];rfl⟩
end Go.Proofs
namespace Go.Eng
open Go.Proofs Go.Proofs.Tryz
variable {caps:List AV}{α:Type}{p:α->Bool}{fF i:Nat}(l:List (Int×Int))(x:Sl)(v:Ver)(t:Tm)(r:Rl)(m s:List (Int×Int))
theorem vV:PC 170 [.agg (CC v)] (.agg [vi v.a,vi v.b,vi v.c]):=by
 refine Ps C3 func170 rfl (Nz rfl) ?_;exact Yi (Nz rfl) (Yi (Nz rfl) (.refl _))
def part:Nat->Int
 |0=>v.a
 |1=>v.b
 |_=>v.c
theorem XV{v:Ver}(h:¬okPart (part v i)):Be v=false:=by
 unfold Be
 match i,h with
 |0,h=>have h:¬okPart v.a:=h;simp[h]
 |1,h=>have h:¬okPart v.b:=h;simp[h]
 |_+2,h=>have h:¬okPart v.c:=h;simp[h]
theorem zt:PC 110 [.agg (CC v)] (vb (Be v)):=by
 refine Ps C3 func110 rfl (Nz rfl) (Yi (Nz rfl) (C1 (C2 (vV v) (Xi {i:Nat // i<=3/\∀j,j<i->okPart (part v j)} (Xi (fun i=>⟨[(6,.agg [vi v.a,vi v.b,vi v.c]),(7,vi i.1)],[],Ac⟩) (Xi (fun i=>3-i.1) (Yi (Xi ⟨0,by simp⟩ ?_) ?_)))))))
 .exact⟨Z2,Tv,Fh,Tv⟩
 .intro⟨i,h1,h2⟩;refine Yi ?_ ?_
  .intro h;have h:(i:Int)<3:=h;refine Yi ⟨by omega,by omega⟩ ?_;have hp:L8 (([vi v.a,vi v.b,vi v.c]).drop ((i:Int).toNat*1))=fun K=>K (vi (part v i)):=by
    match i,h with
    |0,_=>rfl
    |1,_=>rfl
    |2,_=>rfl
    |_+3,h=>omega
   show L8 (([vi v.a,vi v.b,vi v.c]).drop ((i:Int).toNat*1)) _;rw[hp];refine Yi ?_ ?_
   .intro h3;rw[XV (i:=i) (by grind [okPart])];exact .refl _
   .intro h3;refine Yi ?_ ?_
    .intro h4;rw[XV (i:=i) (by grind [okPart])];exact .refl _
    .intro h4;refine Yi (by grind [Av]) (Xi ⟨i+1,by omega,fun j hj=>?_⟩ ?_)
     .by_cases e:j=i
      .subst e;exact⟨by omega,by omega⟩
      grind
     .exact⟨by grind,Z2,Tv,Fh,Tv⟩
  .intro h;have h:¬(i:Int)<3:=h;have e:i=3:=by omega
   have q:Be v=true:=by
    unfold Be;have a:=h2 0 ch;have b:=h2 1 ch
    grind [part]
   rw[q];exact .refl _
theorem yF:PC 67 [.agg (CC v)] (.tup [vi (if Be v then place v else 0),vi (if Be v then 0 else 2)]):=by
 refine Ps C3 func67 rfl (Nz rfl) (Yi (Nz rfl) (C1 (C2 (zt v) ?_)));cases h:Be v with
 |false=>exact .refl _
 |true=>
  have hv:=E2 h;refine Yi (by grind [Av]) ?_;exact Yi (by grind [Av]) (.refl _)
theorem c95(h:Be v=true):PC 125 [.agg (CC v)] (vi (place v)):=by
 refine Ps C3 func125 rfl (Nz rfl) ?_;have hv:=E2 h;refine Yi (by grind [Av]) ?_;exact Yi (by grind [Av]) (.refl _)
def Ch(caps:List AV):Prop:=∀c∈caps,∀h,str0 h c=c
theorem Ch.map{caps:List AV}(hs:Ch caps)(h:Nat->HO):caps.map (str0 h)=caps:=by
 conv=>rhs;rw[<-Hl caps]
 exact BZ fun c hc=>hs c hc h
theorem Ch.ids(hs:Ch caps)(h:Nat->HO):aY h caps=true:=by
 induction caps with
 |nil=>rfl
 |cons c r ih=>
  have hc:=hs c (Af ..) Ac;have h0:ids0 h c=true:=by
   cases c with
   |slice tk es=>cases tk with |none=>rfl |full sz=>grind [str0] |id r sz=>grind [str0] |ver r sz v=>grind [str0]
   |_=>first |rfl |grind [str0]
  unfold aY;rw[h0];exact ih fun c hc=>hs c (Ao _ hc)
def Je{α:Type}(p:α->Bool):List α->Int->Int
 | [],_=>-1
 |x::r,i=>if p x then i else Je p r (i+1)
theorem Hh{α:Type}{p:α->Bool}:∀{l:List α} {i:Nat} {k:Int} (hi:i<l.length),(∀j (hj:j<l.length),j<i->p l[j]=false)->p l[i]=true->Je p l k=k+i
 |x::r,0,k,_,_,h=>by
  grind [Je]
 |x::r,i+1,k,hi,hb,h=>by
  have h0:p x=false:=hb 0 B0 ch
  have:=Hh (l:=r) (i:=i) (k:=k+1) (by grind) (fun j hj FI=>hb (j+1) ch ch) (by simp_all)
  grind [Je]
theorem F3{α:Type}{p:α->Bool}:∀{l:List α} {k:Int},(∀j (hj:j<l.length),p l[j]=false)->Je p l k=-1
 | [],_,_=>rfl
 |x::r,k,h=>by
  have h0:p x=false:=h 0 B0;simp only[Je,h0,Kh,if_false];exact F3 fun j hj=>h (j+1) (by simp_all)
theorem Hc{α:Type}{p:α->Bool}:∀(l:List α) (k:Int),0<=k->decide (0<=Je p l k)=l.any p
 | [],k,_=>by simp[Je]
 |x::r,k,hk=>by
  unfold Je;cases h:p x with
  |true=>simp_all
  |false=>simp[h,Hc r (k+1) ch]
-- one for each type of elements
theorem AdJ(hs:Ch caps)(l:List (Int×Int))(p:Int×Int->Bool)(hF:∀x∈l,PC fF ([.agg (Ag x)]++caps) (vb (p x)))(hl:l.length<9223372036854775807) :
  PC 171 [sl Ag l,.clo fF caps] (vi (Je p l 0)):=by
 refine Ps C3 func171 rfl (Nz rfl) (Xi {i:Nat // i<=l.length/\∀j (hj:j<l.length),j<i->p l[j]=false} (Xi (fun i=>⟨[(0,sl Ag l),(1,.clo fF caps),(7,vi (l.map Ag).length),(8,vi i.1)],[],Ac⟩) (Xi (fun i=>l.length-i.1) (Yi (Xi ⟨0,by simp⟩ ?_) ?_))))
 .exact⟨⟨Zr,⟨rfl,hs.ids _⟩,Zr,Zr,Tv⟩,Tv,Fh,Tv⟩
 .intro⟨i,h1,h2⟩;refine Yi ?_ ?_
  .intro h;have h:i<l.length:=by simp_all
   have hg:l[i]?=some l[i]:=Ge h;refine Xi (Ag l[i]) (Yi (Yi ch (by simp_all)) (Yi rfl (yN ?_)));have BV:∀h,PC fF ([.agg (Ag l[i])]++caps.map (str0 h)) (vb (p l[i])):=fun h=>by rw[hs.map];grind
   cases hp:p l[i]with
   |true=>
    rw[hp]at BV;refine Xi .pure (Xi (vb true) (Yi (BV _) ?_));rw[Hh h (fun j hj FI=>h2 j hj FI) hp,Em];exact .refl _
   |false=>
    rw[hp]at BV;refine Xi .pure (Xi (vb false) (Yi (BV _) (Yi (by grind [Av]) (Xi ⟨i+1,by omega,fun j hj FI=>?_⟩ ?_))))
    .grind
    .exact⟨by grind,⟨Zr,⟨rfl,hs.ids _⟩,Zr,Zr,Tv⟩,Tv,Fh,Tv⟩
  .intro h;have h:¬i<l.length:=by simp_all
   rw[F3 fun j hj=>h2 j hj ch];exact .refl _
abbrev BJ(l:List α):Prop:=l.length<=1073741824
theorem CJ{α:Type}{enc:α->List AV}{n:Nat}(h:∀x,(enc x).length=n):∀l:List α,Bi n (l.map enc)
 | []=>trivial
 |x::l=>⟨h x,CJ h l⟩
theorem S0{x y:Int×Int}:qy (Ag x) (Ag y)↔x=y:=by
 constructor
 .intro h;exact Prod.ext h.1 h.2.1
 .rintro rfl;exact⟨rfl,rfl,trivial⟩
theorem uA{x y:Sl}:qy (Ab x) (Ab y)↔x=y:=by
 obtain⟨p,a,b,c⟩:=x;obtain⟨q,d,e,f⟩:=y;constructor
 .intro h;obtain⟨rfl,rfl,rfl,rfl,_⟩:=h
  rfl
 .intro h;cases h;exact⟨rfl,rfl,rfl,rfl,trivial⟩
abbrev Dg(l:List Tm):List AV:=[sl AG l]
abbrev Ar(s:CS):List AV:=[vs s]
theorem c78(hs:Ch caps)(l:List (Sl))(p:Sl->Bool)(hF:∀x∈l,PC fF ([.agg (Ab x)]++caps) (vb (p x)))(hl:l.length<9223372036854775807) :
  PC 108 [sl Ab l,.clo fF caps] (vi (Je p l 0)):=by
 refine FD (jr C3) rfl Ck hm rfl func108 Wk rfl (Nz rfl) Wk (Xi {i:Nat // i<=l.length/\∀j (hj:j<l.length),j<i->p l[j]=false} (Xi (fun i=>⟨[(0,sl Ab l),(1,.clo fF caps),(7,vi (l.map Ab).length),(8,vi i.1)],[],Ac⟩) (Xi (fun i=>l.length-i.1) (Yi (Xi ⟨0,by simp⟩ ?_) ?_))))
 .exact⟨⟨Zr,⟨rfl,hs.ids _⟩,Zr,Zr,Tv⟩,Tv,Fh,Tv⟩
 .intro⟨i,h1,h2⟩;refine Yi ?_ ?_
  .intro h;have h:i<l.length:=by simp_all
   have hg:l[i]?=some l[i]:=Ge h;refine Xi (Ab l[i]) (Yi (Yi ch (by simp_all)) (Yi rfl (yN ?_)));have BV:∀h,PC fF ([.agg (Ab l[i])]++caps.map (str0 h)) (vb (p l[i])):=fun h=>by rw[hs.map];simp_all
   cases hp:p l[i]with
   |true=>
    rw[hp]at BV;refine Xi .pure (Xi (vb true) (Yi (BV _) ?_));rw[Hh h (fun j hj FI=>h2 j hj FI) hp,Em];exact .refl _
   |false=>
    rw[hp]at BV;refine Xi .pure (Xi (vb false) (Yi (BV _) (Yi (by grind [Av]) (Xi ⟨i+1,by omega,fun j hj FI=>?_⟩ ?_))))
    .grind
    .exact⟨by grind,⟨Zr,⟨rfl,hs.ids _⟩,Zr,Zr,Tv⟩,Tv,Fh,Tv⟩
  .intro h;have h:¬i<l.length:=by simp_all
   rw[F3 fun j hj=>h2 j hj ch];exact .refl _
theorem rp(hs:Ch caps)(l:List (Tm))(p:Tm->Bool)(hF:∀x∈l,PC fF ([.agg (AG x)]++caps) (vb (p x)))(hl:l.length<9223372036854775807) :
  PC 309 [sl AG l,.clo fF caps] (vi (Je p l 0)):=by
 refine FD (jr C3) rfl Ck hm rfl func309 Wk rfl (Nz rfl) Wk (Xi {i:Nat // i<=l.length/\∀j (hj:j<l.length),j<i->p l[j]=false} (Xi (fun i=>⟨[(0,sl AG l),(1,.clo fF caps),(7,vi (l.map AG).length),(8,vi i.1)],[],Ac⟩) (Xi (fun i=>l.length-i.1) (Yi (Xi ⟨0,by simp⟩ ?_) ?_))))
 .exact⟨⟨Zr,⟨rfl,hs.ids _⟩,Zr,Zr,Tv⟩,Tv,Fh,Tv⟩
 .intro⟨i,h1,h2⟩;refine Yi ?_ ?_
  .intro h;have h:i<l.length:=by simp_all
   have hg:l[i]?=some l[i]:=Ge h;refine Xi (AG l[i]) (Yi (Yi ch (by simp_all)) (Yi rfl (yN ?_)));have BV:∀h,PC fF ([.agg (AG l[i])]++caps.map (str0 h)) (vb (p l[i])):=fun h=>by rw[hs.map];simp_all
   cases hp:p l[i]with
   |true=>
    rw[hp]at BV;refine Xi .pure (Xi (vb true) (Yi (BV _) ?_));rw[Hh h (fun j hj FI=>h2 j hj FI) hp,Em];exact .refl _
   |false=>
    rw[hp]at BV;refine Xi .pure (Xi (vb false) (Yi (BV _) (Yi (by grind [Av]) (Xi ⟨i+1,by omega,fun j hj FI=>?_⟩ ?_))))
    .grind
    .exact⟨by grind,⟨Zr,⟨rfl,hs.ids _⟩,Zr,Zr,Tv⟩,Tv,Fh,Tv⟩
  .intro h;have h:¬i<l.length:=by simp_all
   rw[F3 fun j hj=>h2 j hj ch];exact .refl _
theorem Adx(hs:Ch caps)(l:List (Int×Int))(p:Int×Int->Bool)(hF:∀x∈l,PC fF ([.agg (Ag x)]++caps) (vb (p x)))(hl:BJ l) :
  PC 111 [sl Ag l,.clo fF caps] (vb (l.any p)):=by
 refine FD (jr C3) rfl Ck hm rfl func111 Wk rfl (Nz rfl) Wk ?_;have hi:=AdJ hs l p hF ch;have BV:∀h,PC 171 [sl Ag l,.clo fF (caps.map (str0 h))] (vi (Je p l 0)):=fun h=>by grind [Ch.map]
 refine C1 (C2 (BV _) ?_);have ha:=Hc (p:=p) l 0 (Bv 0);refine Yi ?_ ?_
 .intro h;rw[<-ha,At h];exact .refl _
 .intro h;rw[<-ha,Aj h];exact .refl _
theorem c51(hs:Ch caps)(l:List (Sl))(p:Sl->Bool)(hF:∀x∈l,PC fF ([.agg (Ab x)]++caps) (vb (p x)))(hl:BJ l) :
  PC 79 [sl Ab l,.clo fF caps] (vb (l.any p)):=by
 refine FD (jr C3) rfl Ck hm rfl func79 Wk rfl (Nz rfl) Wk ?_;have hi:=c78 hs l p hF ch;have BV:∀h,PC 108 [sl Ab l,.clo fF (caps.map (str0 h))] (vi (Je p l 0)):=fun h=>by grind [Ch.map]
 refine C1 (C2 (BV _) ?_);have ha:=Hc (p:=p) l 0 (Bv 0);refine Yi ?_ ?_
 .intro h;rw[<-ha,At h];exact .refl _
 .intro h;rw[<-ha,Aj h];exact .refl _
theorem vU(hs:Ch caps)(l:List (Tm))(p:Tm->Bool)(hF:∀x∈l,PC fF ([.agg (AG x)]++caps) (vb (p x)))(hl:BJ l) :
  PC 259 [sl AG l,.clo fF caps] (vb (l.any p)):=by
 refine FD (jr C3) rfl Ck hm rfl func259 Wk rfl (Nz rfl) Wk ?_;have hi:=rp hs l p hF ch;have BV:∀h,PC 309 [sl AG l,.clo fF (caps.map (str0 h))] (vi (Je p l 0)):=fun h=>by grind [Ch.map]
 refine C1 (C2 (BV _) ?_);have ha:=Hc (p:=p) l 0 (Bv 0);refine Yi ?_ ?_
 .intro h;rw[<-ha,At h];exact .refl _
 .intro h;rw[<-ha,Aj h];exact .refl _
theorem AdB(hl:BJ l):PC 142 [sl Ag l] (sl Ag l):=by
 refine FD (jr C3) rfl Ck hm rfl func142 Wk rfl (Nz rfl) Wk ?_;have FZ:Bi 2 (l.map Ag)/\([]:C0).length=0/\(([]:C0).length+(l.map Ag).length)*16<=140737488355328/\([]:C0).length+(l.map Ag).length<=9223372036854775807:=by
  grind [CJ]
 refine Yi ?_ ?_
 .intro _;exact Yi FZ (.refl _)
 .intro h;refine Yi ?_ ?_
  .show BM BE (.slice .none (l.map Ag))
   grind [BM.nil]
  .exact Yi FZ (.refl _)
theorem rn(hl:BJ l):PC 168 [sl Ag l,sl Ag m] (vb (decide (l=m))):=by
 refine FD (jr C3) rfl Ck hm rfl func168 Wk rfl (Nz rfl) Wk (Yi ?_ ?_)
 .intro h
  have:l≠m:=fun e=>h (by rw[e])
  rw[Aj this];exact .refl _
 .intro h;have Dd:l.length=m.length:=by grind
  refine Xi {i:Nat // i<=l.length/\l.take i=m.take i} (Xi (fun i=>⟨[(0,sl Ag l),(1,sl Ag m),(12,vi (l.map Ag).length),(13,vi i.1)],[],Ac⟩) (Xi (fun i=>l.length-i.1) (Yi (Xi ⟨0,by simp⟩ ?_) ?_)))
  .exact⟨⟨Zr,Zr,Zr,Zr,Tv⟩,Tv,Fh,Tv⟩
  .intro⟨i,h1,h2⟩;refine Yi ?_ ?_
   .intro h;have h:i<l.length:=by simp_all
    have h' : i<m.length:=by omega
    have hg:l[i]?=some l[i]:=Ge h;have nD : m[i]?=some m[i]:=Ge h';refine Xi (Ag l[i]) (Yi (Yi ch (by simp_all)) (Yi rfl (yN ?_)));refine Xi (Ag m[i]) (Yi (Yi ch (by simp_all)) (Yi rfl (yN ?_)));refine Yi ?_ ?_
    .intro h5;have e:l[i]=m[i]:=S0.1 h5;refine Yi Wk (Yi (by grind [Av]) (Xi ⟨i+1,by omega,?_⟩ ?_))
     .grind [List.take_add_one]
     .exact⟨Dl l.length i ch,⟨Zr,Zr,Zr,Zr,Tv⟩,Tv,Fh,Tv⟩
    .intro h5;refine Yi Wk ?_
     have:l≠m:=fun e=>h5 (S0.2 (by simp_all))
     rw[Aj this];exact .refl _
   .intro h;have h:¬i<l.length:=by simp_all
    have e:l=m:=by
     grind
    rw[At e];exact .refl _
theorem c27(l m:List (Sl))(hl:BJ l):PC 25 [sl Ab l,sl Ab m] (vb (decide (l=m))):=by
 refine FD (jr C3) rfl Ck hm rfl func25 Wk rfl (Nz rfl) Wk (Yi ?_ ?_)
 .intro h
  have:l≠m:=fun e=>h (by rw[e])
  rw[Aj this];exact .refl _
 .intro h;have Dd:l.length=m.length:=by grind
  refine Xi {i:Nat // i<=l.length/\l.take i=m.take i} (Xi (fun i=>⟨[(0,sl Ab l),(1,sl Ab m),(12,vi (l.map Ab).length),(13,vi i.1)],[],Ac⟩) (Xi (fun i=>l.length-i.1) (Yi (Xi ⟨0,by simp⟩ ?_) ?_)))
  .exact⟨⟨Zr,Zr,Zr,Zr,Tv⟩,Tv,Fh,Tv⟩
  .intro⟨i,h1,h2⟩;refine Yi ?_ ?_
   .intro h;have h:i<l.length:=by simp_all
    have h' : i<m.length:=by omega
    have hg:l[i]?=some l[i]:=Ge h;have nD : m[i]?=some m[i]:=Ge h';refine Xi (Ab l[i]) (Yi (Yi ch (by simp_all)) (Yi rfl (yN ?_)));refine Xi (Ab m[i]) (Yi (Yi ch (by simp_all)) (Yi rfl (yN ?_)));refine Yi ?_ ?_
    .intro h5;have e:l[i]=m[i]:=uA.1 h5;refine Yi Wk (Yi (by grind [Av]) (Xi ⟨i+1,by omega,?_⟩ ?_))
     .grind [List.take_add_one]
     .exact⟨Dl l.length i ch,⟨Zr,Zr,Zr,Zr,Tv⟩,Tv,Fh,Tv⟩
    .intro h5;refine Yi Wk ?_
     have:l≠m:=fun e=>h5 (uA.2 (by simp_all))
     rw[Aj this];exact .refl _
   .intro h;have h:¬i<l.length:=by simp_all
    have e:l=m:=by
     grind
    rw[At e];exact .refl _
abbrev qL(l:List Nat):Qz:=⟨l,[],[],[],[],[],[],[],[],[],[]⟩
theorem Ch.ptr(cs:List AV):Ch [.cptr cs]:=fun c hc h=>by
 rw[AK.1 hc];rfl
theorem Ady(s:Int×Int)(p:Int):PC 112 [.agg (Ag s),.cptr [vi p]] (vb (BX p s)):=by
 refine Ps C3 func112 rfl (Nz rfl) (Yi ?_ ?_)
 .intro h;refine Yi ?_ ?_
  .intro h2;rw[show BX p s=true by grind [BX]];exact .refl _
  .intro h2;rw[show BX p s=false by grind [BX]];exact .refl _
 .intro h;rw[show BX p s=false by simp[BX,h]];exact .refl _
theorem mg(p:Int)(hl:BJ s):PC 68 [sl Ag s,vi p] (vb (has s p)):=by
 refine Ps (qL [3]) func68 rfl (Nz rfl) (Yi ?_ ?_)
 .intro h;refine Yi ?_ ?_
  .intro h2;refine C1 (C2 (Adx (Ch.ptr [vi p]) s (BX p) (fun x _=>Ady x p) hl) ?_);rw[show has s p=s.any (BX p) by grind [has]];cases s.any (BX p)<;>exact .refl _
  .intro h2;rw[show has s p=false by grind [has]];exact .refl _
 .intro h;rw[show has s p=false by simp[has,h]];exact .refl _
theorem c88:PC 252 [.agg (Ah r)] (vi (plc r.ver)):=by
 refine Ps C3 func252 rfl (Nz rfl) ?_;exact Yi (Nz rfl) (C1 (C2 (yF r.ver) (.refl _)))
theorem c99:PC 365 [.agg (Ab x),.cptr (AG t)] (vb (decide (x.path=t.path))):=by
 refine Ps C3 func365 rfl (Nz rfl) (Yi ?_ ?_)
 .intro h;rw[At h];exact .refl _
 .intro h;rw[Aj h];exact .refl _
theorem PN{α:Type}{p:α->Bool}:∀(l:List α) (k:Int),(Je p l k=-1/\l.find? p=none)\/∃i x,Je p l k=k+(i:Nat)/\l[i]?=some x/\l.find? p=some x
 | [],k=>.inl Zr
 |x::r,k=>by
  cases h:p x with
  |true=>exact .inr ⟨0,x,by simp[Je,h],rfl,by simp[h]⟩
  |false=>
   rcases PN (p:=p) r (k+1)with ⟨h1,h2⟩ | ⟨i,y,h1,h2,h3⟩
   .grind [Je]
   .exact .inr ⟨i+1,y,by grind [Je],by simp_all,by simp_all⟩
theorem c55(s:List Sl)(hl:BJ s)(ht:BJ t.set):PC 340 [.agg (AG t),sl Ab s] (vb (Hu t s)):=by
 have hc:=c78 (Ch.ptr (AG t)) s (fun x=>decide (x.path=t.path)) (fun x _=>c99 x t) ch;unfold Hu;rcases PN (p:=fun x:Sl=>decide (x.path=t.path)) s 0 with ⟨h1,h2⟩ | ⟨i,x,h1,h2,h3⟩
 .rw[h1]at hc;rw[h2];refine Ps (qL [2]) func340 rfl (Nz rfl) (C1 (C2 hc (Yi ?_ ?_)))
  .intro _;refine Yi ?_ ?_
   .intro h;rw[h];exact .refl _
   .intro h;rw[h];exact .refl _
  .intro h;exact absurd (show(-1:Int)<0 by decide) h
 .rw[h1,Em]at hc;rw[h3];have hg:(s.map Ab)[((i:Nat):Int).toNat]?=some (Ab x):=by simp_all
  have hp:=yF x.ver;dsimp only;rcases Bt (Be x.ver)with hv | hv
  .rw[hv,Ay rfl,Ay rfl]at hp;rw[hv];refine Ps (qL [2]) func340 rfl (Nz rfl) (C1 (C2 hc (Yi ?_ ?_)))
   .intro h;omega
   .intro _;refine Xi (Ab x) (Yi (Yi ch hg) (Yi rfl (yN (C1 (C2 hp (Yi ?_ ?_))))))
    .intro _;refine C1 (C2 (mg t.set (place x.ver) ht) ?_);exact .refl _
    .intro h;exact absurd rfl h
  .rw[hv,Az Cl,Az Cl]at hp;rw[hv];refine Ps (qL [2]) func340 rfl (Nz rfl) (C1 (C2 hc (Yi ?_ ?_)))
   .intro h;omega
   .intro _;refine Xi (Ab x) (Yi (Yi ch hg) (Yi rfl (yN (C1 (C2 hp (Yi ?_ ?_))))))
    .intro h;omega
    .intro _;exact .refl _
theorem qV{l:List α}(h:∀j (hj:j<l.length),j<i->p l[j]=true)(hi:¬i<l.length):l.all p=true:=by
 grind [List.mem_iff_getElem]
theorem vH{l:List α}(hi:i<l.length)(h:p l[i]=false):l.all p=false:=by
 grind
theorem vJ{l:List α}(h:∀j (hj:j<l.length),j<i->p l[j]=false)(hi:¬i<l.length):l.any p=false:=by
 grind [List.mem_iff_getElem]
abbrev lG(l:List Tm):Prop:=BJ l/\∀t∈l,BJ t.set
theorem c26(l:List Tm)(s:List Sl)(hl:lG l)(hs:BJ s):PC 306 [sl AG l,sl Ab s] (vb (l.all fun t=>Hu t s)):=by
 have hc:∀i (h:i<l.length),PC 340 [.agg (AG l[i]),sl Ab s] (vb (Hu l[i] s)):=fun i h=>c55 l[i] s hs (hl.2 _ (Ae h));obtain⟨hl,_⟩:=hl;unfold BJ at hl;refine Ps C3 func306 rfl (Nz rfl) (Xi {i:Nat // i<=l.length/\∀j (hj:j<l.length),j<i->Hu l[j] s=true} (Xi (fun i=>⟨[(0,sl AG l),(1,sl Ab s),(7,vi (l.map AG).length),(8,vi i.1)],[],Ac⟩) (Xi (fun i=>l.length-i.1) (Yi (Xi ⟨0,by simp⟩ ?_) ?_))))
 .exact⟨Z4,Tv,Fh,Tv⟩
 .intro⟨i,h1,h2⟩;refine Yi ?_ ?_
  .intro h;have h:i<l.length:=by simp_all
   have hg:l[i]?=some l[i]:=Ge h;have uF:=hc i h;refine Xi (AG l[i]) (Yi (Yi ch (by simp_all)) (Yi rfl (yN ?_)));cases hp:Hu l[i] s with
   |false=>
    rw[hp]at uF;refine C1 (C2 uF ?_);rw[vH (p:=fun t=>Hu t s) h hp];exact .refl _
   |true=>
    rw[hp]at uF;refine C1 (C2 uF (Yi (by grind [Av]) (Xi ⟨i+1,by omega,fun j hj FI=>?_⟩ ?_)))
    .grind
    .exact⟨by grind,Z4,Tv,Fh,Tv⟩
  .intro h;have h:¬i<l.length:=by simp_all
   rw[qV (p:=fun t=>Hu t s) h2 h];exact .refl _
theorem AdA:PC 308 [.agg (Ab x),.cptr (AG t)] (vb (decide (x.path=t.path))):=by
 refine Ps C3 func308 rfl (Nz rfl) (Yi ?_ ?_)
 .intro h;rw[At h];exact .refl _
 .intro h;rw[Aj h];exact .refl _
theorem Adz(s:List Sl)(hs:BJ s):PC 307 [.agg (AG t),.cptr [sl Ab s]] (vb (!CF s t.path)):=by
 have hc:=c51 (Ch.ptr (AG t)) s (fun x=>decide (x.path=t.path)) (fun x _=>AdA x t) hs;unfold CF;cases hp:s.any fun x=>decide (x.path=t.path)with
 |true=>
  rw[hp]at hc;refine Ps (qL [2]) func307 rfl (Nz rfl) ?_;exact C1 (C2 hc (.refl _))
 |false=>
  rw[hp]at hc;refine Ps (qL [2]) func307 rfl (Nz rfl) ?_;exact C1 (C2 hc (.refl _))
theorem c91(l:List Tm)(s:List Sl)(hl:lG l)(hs:BJ s):PC 258 [sl AG l,sl Ab s] (vb (CK l s)):=by
 have hv:=c26 l s hl hs;have hc:=vU (Ch.ptr [sl Ab s]) l (fun t=>!CF s t.path) (fun t _=>Adz t s hs) hl.1;unfold CK A6;cases h1:l.all fun t=>Hu t s with
 |false=>
  rw[h1]at hv;refine Ps (qL [3]) func258 rfl (Nz rfl) ?_;exact C1 (C2 hv (.refl _))
 |true=>
  rw[h1]at hv;cases h2:l.any fun t=>!CF s t.path with
  |true=>
   rw[h2]at hc;refine Ps (qL [3]) func258 rfl (Nz rfl) ?_;exact C1 (C2 hv (C1 (C2 hc (.refl _))))
  |false=>
   rw[h2]at hc;refine Ps (qL [3]) func258 rfl (Nz rfl) ?_;exact C1 (C2 hv (C1 (C2 hc (.refl _))))
def sf(p:Int)(s:Int×Int):Bool:=decide (max 0 s.1<=p)&&decide (p<min 1000000 s.2)
theorem si(p:Int):s.any (sf p)=has s p:=by
 grind [has,sf,BX]
theorem VX(p:Int)(hl:BJ s):PC 124 [sl Ag s,vi p] (vb (has s p)):=by
 rw[<-si];unfold BJ at hl;refine Ps C3 func124 rfl (Nz rfl) (Xi {i:Nat // i<=s.length/\∀j (hj:j<s.length),j<i->sf p s[j]=false} (Xi (fun i=>⟨[(0,sl Ag s),(1,vi p),(5,vi i.1)],[],Ac⟩) (Xi (fun i=>s.length-i.1) (Yi (Xi ⟨0,by simp⟩ ?_) ?_))))
 .exact⟨Z3,Tv,Fh,Tv⟩
 .intro⟨i,h1,h2⟩;refine Yi ?_ ?_
  .intro h;have h:i<s.length:=by simp_all
   have hg:s[i]?=some s[i]:=Ge h;refine Xi (Ag s[i]) (Yi (Yi ch (by simp_all)) (Yi rfl ?_));refine Yi ?_ ?_
   .intro h3;refine Xi (Ag s[i]) (Yi (Yi ch (by simp_all)) (Yi rfl ?_));refine Yi ?_ ?_
    .intro h4;have h5:sf p s[i]=true:=by grind [sf]
     show BM (vb true) (vb (s.any (sf p)))
     grind [BM.refl]
    .intro h4;refine Yi (by grind [Av]) (Xi ⟨i+1,by omega,fun j hj FI=>?_⟩ ?_)
     .grind [sf]
     .exact⟨Dl s.length i ch,Z3,Tv,Fh,Tv⟩
   .intro h3;refine Yi (by grind [Av]) (Xi ⟨i+1,by omega,fun j hj FI=>?_⟩ ?_)
    .grind [sf]
    .exact⟨Dl s.length i ch,Z3,Tv,Fh,Tv⟩
  .intro h;have h:¬i<s.length:=by simp_all
   show BM (vb false) (vb (s.any (sf p)))
   grind [vJ,BM.refl]
theorem wa(n:Int):PC 179 [vi n] (vb (decide (okPart n))):=by
 refine Ps C3 func179 rfl (Nz rfl) (Yi ?_ ?_)
 .intro h;refine Yi ?_ ?_
  .intro h2;show BM (vb true) (vb (decide (okPart n)));rw[At ⟨h,h2⟩];exact .refl _
  .intro h2;show BM (vb false) (vb (decide (okPart n)));rw[Aj fun q=>h2 q.2];exact .refl _
 .intro h;show BM (vb false) (vb (decide (okPart n)));rw[Aj fun q=>h q.1];exact .refl _
theorem md:PC 122 [.agg (CC v)] (vb (Be v)):=by
 have ha:=wa v.a;have hb:=wa v.b;have hc:=wa v.c;unfold Be;cases h1:decide (okPart v.a)with
 |false=>
  rw[h1]at ha;refine Ps C3 func122 rfl (Nz rfl) ?_;exact C1 (C2 ha (.refl _))
 |true=>
  rw[h1]at ha;cases h2:decide (okPart v.b)with
  |false=>
   rw[h2]at hb;refine Ps C3 func122 rfl (Nz rfl) ?_;exact C1 (C2 ha (C1 (C2 hb (.refl _))))
  |true=>
   rw[h2]at hb;refine Ps C3 func122 rfl (Nz rfl) ?_;exact C1 (C2 ha (C1 (C2 hb (C1 (C2 hc (.refl _))))))
theorem gl{α:Type}{p:α->Bool}:∀{l:List α} {i:Nat} (hi:i<l.length),(∀j (hj:j<l.length),j<i->p l[j]=false)->p l[i]=true->l.find? p=some l[i]
 |x::r,0,_,_,h=>by
  simp_all
 |x::r,i+1,hi,hb,h=>by
  have h0:p x=false:=hb 0 B0 ch;rw[Wt,h0];exact gl (l:=r) (i:=i) (by grind) (fun j hj FI=>hb (j+1) ch ch) h
theorem jA{l:List α}(h:∀j (hj:j<l.length),j<i->p l[j]=false)(hi:¬i<l.length):l.find? p=none:=by
 grind [List.mem_iff_getElem]
abbrev T6(a:An):List AV:=[vb a.found,sl Ab a.sel,sl Dy a.infs,sl Cj a.skips]
theorem vS:PC 141 [.agg (Ah r)] (.agg (Ab ⟨r.path,r.ver⟩)):=by
 refine Ps C3 func141 rfl (Nz rfl) ?_;exact Yi (Nz rfl) (Yi (Nz rfl) (Yi (Nz rfl) (.refl _)))
theorem c82(s:List Sl)(p:CS)(hl:BJ s):PC 337 [sl Ab s,vs p] (.tup [.agg (Ab ((Bg s p).getD xQ)),vb (Bg s p).isSome]):=by
 unfold BJ at hl;refine Ps C3 func337 rfl (Nz rfl) (Xi {i:Nat // i<=s.length/\∀j (hj:j<s.length),j<i->decide (s[j].path=p)=false} (Xi (fun i=>⟨[(0,sl Ab s),(1,vs p),(4,.ref 4 0),(6,vi i.1)],[(4,.cells (Ab xQ))],Ac⟩) (Xi (fun i=>s.length-i.1) (Yi (Xi ⟨0,by simp⟩ ?_) ?_))))
 .exact⟨Z4,Z1,Fh,Tv⟩
 .intro⟨i,h1,h2⟩;refine Yi ?_ ?_
  .intro h;have h:i<s.length:=by simp_all
   have hg:s[i]?=some s[i]:=Ge h;refine Xi (Ab s[i]) (Yi (Yi ch (by simp_all)) (Yi rfl ?_));refine Yi ?_ ?_
   .intro h3;have hf:Bg s p=some s[i]:=gl (p:=fun x:Sl=>decide (x.path=p)) h h2 (At h3);refine Xi (Ab s[i]) (Yi (Yi ch (by simp_all)) (Yi rfl (Yi (Nz rfl) (Yi (Nz rfl) (yN ?_)))));show BM (.tup [.agg (Ab s[i]),vb true]) _
    grind [BM.refl]
   .intro h3;refine Yi (by grind [Av]) (Xi ⟨i+1,by omega,fun j hj FI=>?_⟩ ?_)
    .grind
    .exact⟨by grind,Z4,Z1,Fh,Tv⟩
  .intro h;have h:¬i<s.length:=by simp_all
   have hf:Bg s p=none:=jA (p:=fun x:Sl=>decide (x.path=p)) h2 h;refine Yi (Nz rfl) (yN ?_);show BM (.tup [.agg (Ab xQ),vb false]) _
   grind [BM.refl]
theorem c75(hl:BJ l):PC 117 [sl Ag l,sl Ag m] (vb (decide (l=m))):=by
 refine Ps C3 func117 rfl (Nz rfl) (Yi ?_ ?_)
 .intro h
  have:l≠m:=fun e=>h (by rw[e])
  rw[Aj this];exact .refl _
 .intro h;have Dd:l.length=m.length:=by grind
  refine Xi {i:Nat // i<=l.length/\l.take i=m.take i} (Xi (fun i=>⟨[(0,sl Ag l),(1,sl Ag m),(5,vi i.1)],[],Ac⟩) (Xi (fun i=>l.length-i.1) (Yi (Xi ⟨0,by simp⟩ ?_) ?_)))
  .exact⟨Z3,Tv,Fh,Tv⟩
  .intro⟨i,h1,h2⟩;refine Yi ?_ ?_
   .intro h;have h:i<l.length:=by simp_all
    have h' : i<m.length:=by omega
    have hg:l[i]?=some l[i]:=Ge h;have nD : m[i]?=some m[i]:=Ge h';refine Xi (Ag l[i]) (Yi (Yi ch (by simp_all)) (Yi rfl (yN ?_)));refine Xi (Ag m[i]) (Yi (Yi ch (by simp_all)) (Yi rfl (yN ?_)));refine Yi ?_ ?_
    .intro h5;have e:l[i]=m[i]:=S0.1 h5;refine Yi Wk (Yi (by grind [Av]) (Xi ⟨i+1,by omega,?_⟩ ?_))
     .grind [List.take_add_one]
     .exact⟨Dl l.length i ch,Z3,Tv,Fh,Tv⟩
    .intro h5;refine Yi Wk ?_
     have:l≠m:=fun e=>h5 (S0.2 (by simp_all))
     rw[Aj this];exact .refl _
   .intro h;have h:¬i<l.length:=by simp_all
    have e:l=m:=by
     grind
    rw[At e];exact .refl _
end Go.Eng
