/- Lemmas 14. -/
import Derived.Test.YteaiieomnhbmgaaGreatDoorAA01
import Derived.Test.YteaiieomnhbmgaaGreatDoorAA13
import Derived.Shelf.SlSortCmp.WholeK
import Derived.Shelf.Sort.Plain
import Derived.Shelf.Small.Strs
import Derived.Shelf.Small.Bits
import Derived.Ground.SlsfProg
import Derived.Ground.NamesProg
import Derived.Shelf.SlSortCmp.NoneTotal
set_option maxHeartbeats 1000000
namespace Go.Eng
open Go.Proofs
variable {α:Type}{b0 b1 b2 b3:Bool}{a0:α}{b4:Bool}{a1:α}{b5:Bool}{a2 a3:α}{b6:Bool}{a4:α}{b7:Bool}{a5 a6:α}{b8:Bool}{a7:α}{b9:Bool}{a8:α}{Wi:Bool}{a9:α}{l:List α}{Zs:α}(i:Nat)(pl:Qx)(b:Bool)
abbrev vi(n:Int):AV:=.v (.int .i64 n)
abbrev vb:AV:=.v (.bool b)
abbrev vs(s:CS):AV:=.v (.string s)
abbrev sl(enc:α -> List AV)(l:List α):AV:=.slice .none (l.map enc)
abbrev CK(v:Ver):List AV:=[vi v.a,vi v.b,vi v.c]
abbrev Ag(s:Int×Int):List AV:=[vi s.1,vi s.2]
abbrev AI(q:Rq):List AV:=[vs q.path,sl Ag q.set]
abbrev Au(r:Rl):List AV:=[vs r.path,vi r.ver.a,vi r.ver.b,vi r.ver.c,sl AI r.reqs,vs r.arch,vs r.ifc,vs r.cert,vb r.yanked]
abbrev Ab(s:Sl):List AV:=[vs s.path,vi s.ver.a,vi s.ver.b,vi s.ver.c]
abbrev AH(t:Tm):List AV:=[vs t.path,vb t.absent,sl Ag t.set]
abbrev Dy(i:Nf):List AV:=[vi i.kind,vs i.path,vi i.place,vi i.number,vi i.left,vi i.right]
abbrev Cb(s:Sk):List AV:=[vs s.path,vi s.place,vi s.inf]
noncomputable abbrev jd:Cx:=⟨Tryz.prog,tU,pl,false,0,fun _ _ _ _ => True⟩
noncomputable abbrev Ms:Cx:=⟨Tryz.prog,tU,pl,true,0,fun _ _ _ _ => True⟩
abbrev CQ:Qx:=⟨[],[],[],[],[],[],[],[],[],[],[]⟩
abbrev PC(f:Nat)(args:List AV)(res:AV):Prop:=IB Tryz.prog f args res
theorem hm:Tryz.prog.follows .mixedOrders = true:=by rfl
theorem Zr{α:Sort _}{β:Sort _}{a:α}{b:β}:a = a /\ b = b:=⟨rfl,rfl⟩
theorem Nz{a b:Nat}(h:Nat.ble a b = true):a <= b:=Gc h
theorem Xi{α:Sort _}{p:α -> Prop}(w:α)(h:p w):Exists p:=Exists.intro w h
theorem Yi{a b:Prop}(h:a)(k:b):a /\ b:=And.intro h k
theorem C1{p:zK->Prop}(h:p .pure):Exists p:=⟨_,h⟩
theorem C2{A:Type}{c d:A->Prop}{w:A}(h:c w)(k:d w):∃w,c w∧d w:=⟨w,h,k⟩
theorem Fh{st:St}{h:Nat -> HO}:∀j,Ae j = .free \/ (st.h j = Ae j /\ SA h (Ae j) = true):=fun _ => .inl rfl
theorem Tv:True:=trivial
theorem Ii(h:i <= 9223372036854775806):Az ((i:Int) + 1):=by unfold Az;omega
theorem Dl(n i:Nat)(h:i<n):n-(i + 1)<n-i:=ch
theorem Bt:b = true \/ b = false:=Bool.eq_false_or_eq_true b
theorem Z1:(a0 = a0 /\ b0 = b0) /\ True:=⟨⟨rfl,rfl⟩,trivial⟩
theorem Z2:(a0 = a0 /\ b0 = b0) /\ (a1 = a1 /\ b1 = b1) /\ True:=⟨⟨rfl,rfl⟩,⟨rfl,rfl⟩,trivial⟩
theorem Z3:(a0 = a0 /\ b0 = b0) /\ (a1 = a1 /\ b1 = b1) /\ (a2 = a2 /\ b2 = b2) /\ True:=⟨⟨rfl,rfl⟩,⟨rfl,rfl⟩,⟨rfl,rfl⟩,trivial⟩
theorem Z4:(a0 = a0 /\ b0 = b0) /\ (a1 = a1 /\ b1 = b1) /\ (a2 = a2 /\ b2 = b2) /\ (a3 = a3 /\ b3 = b3) /\ True:=⟨⟨rfl,rfl⟩,⟨rfl,rfl⟩,⟨rfl,rfl⟩,⟨rfl,rfl⟩,trivial⟩
theorem Z5:(a0 = a0 /\ b0 = b0) /\ (a1 = a1 /\ b1 = b1) /\ (a2 = a2 /\ b2 = b2) /\ (a3 = a3 /\ b3 = b3) /\ (a4 = a4 /\ b4 = b4) /\ True:=⟨⟨rfl,rfl⟩,⟨rfl,rfl⟩,⟨rfl,rfl⟩,⟨rfl,rfl⟩,⟨rfl,rfl⟩,trivial⟩
theorem Z6:(a0 = a0 /\ b0 = b0) /\ (a1 = a1 /\ b1 = b1) /\ (a2 = a2 /\ b2 = b2) /\ (a3 = a3 /\ b3 = b3) /\ (a4 = a4 /\ b4 = b4) /\ (a5 = a5 /\ b5 = b5) /\ True:=⟨⟨rfl,rfl⟩,⟨rfl,rfl⟩,⟨rfl,rfl⟩,⟨rfl,rfl⟩,⟨rfl,rfl⟩,⟨rfl,rfl⟩,trivial⟩
theorem Z7:(a0 = a0 /\ b0 = b0) /\ (a1 = a1 /\ b1 = b1) /\ (a2 = a2 /\ b2 = b2) /\ (a3 = a3 /\ b3 = b3) /\ (a4 = a4 /\ b4 = b4) /\ (a5 = a5 /\ b5 = b5) /\ (a6 = a6 /\ b6 = b6) /\ True:=⟨⟨rfl,rfl⟩,⟨rfl,rfl⟩,⟨rfl,rfl⟩,⟨rfl,rfl⟩,⟨rfl,rfl⟩,⟨rfl,rfl⟩,⟨rfl,rfl⟩,trivial⟩
theorem Z8:(a0 = a0 /\ b0 = b0) /\ (a1 = a1 /\ b1 = b1) /\ (a2 = a2 /\ b2 = b2) /\ (a3 = a3 /\ b3 = b3) /\ (a4 = a4 /\ b4 = b4) /\ (a5 = a5 /\ b5 = b5) /\ (a6 = a6 /\ b6 = b6) /\ (a7 = a7 /\ b7 = b7) /\ True:=⟨⟨rfl,rfl⟩,⟨rfl,rfl⟩,⟨rfl,rfl⟩,⟨rfl,rfl⟩,⟨rfl,rfl⟩,⟨rfl,rfl⟩,⟨rfl,rfl⟩,⟨rfl,rfl⟩,trivial⟩
theorem Z9:(a0 = a0 /\ b0 = b0) /\ (a1 = a1 /\ b1 = b1) /\ (a2 = a2 /\ b2 = b2) /\ (a3 = a3 /\ b3 = b3) /\ (a4 = a4 /\ b4 = b4) /\ (a5 = a5 /\ b5 = b5) /\ (a6 = a6 /\ b6 = b6) /\ (a7 = a7 /\ b7 = b7) /\ (a8 = a8 /\ b8 = b8) /\ True:=⟨⟨rfl,rfl⟩,⟨rfl,rfl⟩,⟨rfl,rfl⟩,⟨rfl,rfl⟩,⟨rfl,rfl⟩,⟨rfl,rfl⟩,⟨rfl,rfl⟩,⟨rfl,rfl⟩,⟨rfl,rfl⟩,trivial⟩
theorem Z10:(a0 = a0 /\ b0 = b0) /\ (a1 = a1 /\ b1 = b1) /\ (a2 = a2 /\ b2 = b2) /\ (a3 = a3 /\ b3 = b3) /\ (a4 = a4 /\ b4 = b4) /\ (a5 = a5 /\ b5 = b5) /\ (a6 = a6 /\ b6 = b6) /\ (a7 = a7 /\ b7 = b7) /\ (a8 = a8 /\ b8 = b8) /\ (a9 = a9 /\ b9 = b9) /\ True:=⟨⟨rfl,rfl⟩,⟨rfl,rfl⟩,⟨rfl,rfl⟩,⟨rfl,rfl⟩,⟨rfl,rfl⟩,⟨rfl,rfl⟩,⟨rfl,rfl⟩,⟨rfl,rfl⟩,⟨rfl,rfl⟩,⟨rfl,rfl⟩,trivial⟩
theorem Z11:(a0 = a0 /\ b0 = b0) /\ (a1 = a1 /\ b1 = b1) /\ (a2 = a2 /\ b2 = b2) /\ (a3 = a3 /\ b3 = b3) /\ (a4 = a4 /\ b4 = b4) /\ (a5 = a5 /\ b5 = b5) /\ (a6 = a6 /\ b6 = b6) /\ (a7 = a7 /\ b7 = b7) /\ (a8 = a8 /\ b8 = b8) /\ (a9 = a9 /\ b9 = b9) /\ (Zs = Zs /\ Wi = Wi) /\ True:=⟨⟨rfl,rfl⟩,⟨rfl,rfl⟩,⟨rfl,rfl⟩,⟨rfl,rfl⟩,⟨rfl,rfl⟩,⟨rfl,rfl⟩,⟨rfl,rfl⟩,⟨rfl,rfl⟩,⟨rfl,rfl⟩,⟨rfl,rfl⟩,⟨rfl,rfl⟩,trivial⟩
theorem Z12{fp:α}{rd:Bool}:(a0 = a0 /\ b0 = b0) /\ (a1 = a1 /\ b1 = b1) /\ (a2 = a2 /\ b2 = b2) /\ (a3 = a3 /\ b3 = b3) /\ (a4 = a4 /\ b4 = b4) /\ (a5 = a5 /\ b5 = b5) /\ (a6 = a6 /\ b6 = b6) /\ (a7 = a7 /\ b7 = b7) /\ (a8 = a8 /\ b8 = b8) /\ (a9 = a9 /\ b9 = b9) /\ (Zs = Zs /\ Wi = Wi) /\ (fp = fp /\ rd = rd) /\ True:=⟨⟨rfl,rfl⟩,⟨rfl,rfl⟩,⟨rfl,rfl⟩,⟨rfl,rfl⟩,⟨rfl,rfl⟩,⟨rfl,rfl⟩,⟨rfl,rfl⟩,⟨rfl,rfl⟩,⟨rfl,rfl⟩,⟨rfl,rfl⟩,⟨rfl,rfl⟩,⟨rfl,rfl⟩,trivial⟩
theorem Z13{fp a12:α}{rd ze:Bool}:(a0 = a0 /\ b0 = b0) /\ (a1 = a1 /\ b1 = b1) /\ (a2 = a2 /\ b2 = b2) /\ (a3 = a3 /\ b3 = b3) /\ (a4 = a4 /\ b4 = b4) /\ (a5 = a5 /\ b5 = b5) /\ (a6 = a6 /\ b6 = b6) /\ (a7 = a7 /\ b7 = b7) /\ (a8 = a8 /\ b8 = b8) /\ (a9 = a9 /\ b9 = b9) /\ (Zs = Zs /\ Wi = Wi) /\ (fp = fp /\ rd = rd) /\ (a12 = a12 /\ ze = ze) /\ True:=⟨⟨rfl,rfl⟩,⟨rfl,rfl⟩,⟨rfl,rfl⟩,⟨rfl,rfl⟩,⟨rfl,rfl⟩,⟨rfl,rfl⟩,⟨rfl,rfl⟩,⟨rfl,rfl⟩,⟨rfl,rfl⟩,⟨rfl,rfl⟩,⟨rfl,rfl⟩,⟨rfl,rfl⟩,⟨rfl,rfl⟩,trivial⟩
theorem Nn:(0:Int) <= (i:Int):=OL i
abbrev Ic(x:List Rl)(ifs:C0):List AV:=[sl Au x,.slice .none ifs]
theorem Ps{f:Nat}{fn:Func}{c:Code}{args:List AV}{res:AV}(hf:Tryz.prog.funcs[f]? = some fn)(hb:fn.body = some c)(hN:args.length <= fn.ntmps)(hk:Sq (jd pl) c (wG (jd pl) fn.results.toList fun r => BC r res) ⟨Pi args,Ae⟩)(hn : (fn.name == "runtime.NumGoroutine") = false:=by kernel_rfl)(hc : EI fn.ntmps c = true:=by kernel_rfl) : IB Tryz.prog f args res:=FM (jd pl) rfl Ct hm rfl hf hn hb hN hc hk
theorem Lm{β:Type}(f:α -> β):(l.map f).length = l.length:=BO f
theorem Ge{i:Nat}(h:i<l.length):l[i]? = some l[i]:=A0 h
end Go.Eng
namespace Go.Proofs
open Go.Proofs.Tryz
open Go.Shelf
def Tryz.layPdqSpan_ren:Go.Shelf.Ren:=⟨fun | 14=>290 | 20=>325 | 21=>326 | 22=>327 | 23=>328 | 24=>329 | 25=>330 | 26=>331 | 27=>332 | 46=>359 | 47=>277 | 48=>278 | 49=>360 | 50=>361 | 15=>161 | 57=>374 | 28=>228 | 29=>229 | n=>n,fun | 24=>92 | 22=>50 | 3=>3 | 25=>324 | 4=>4 | 0=>0 | 46=>316 | 45=>315 | 50=>214 | 66=>357 | 39=>99 | 55=>98 | 70=>361 | 76=>389 | 77=>390 | 53=>229 | 5=>5 | 9=>9 | n=>n,fun | n=>n⟩
theorem Tryz.layPdqSpan:Go.Proofs.SlLaysF0.n14 Tryz.prog Tryz.layPdqSpan_ren:={
 mixed:=by kernel_rfl
 f14:=⟨Tryz.f290.name,by decide,Go.Eng.A0a func290⟩
 f15:=Go.Eng.A0a func161
 f20:=⟨Tryz.f325.name,by decide,Go.Eng.A0a func325⟩
 f21:=⟨Tryz.f326.name,by decide,Go.Eng.A0a func326⟩
 f22:=⟨Tryz.f327.name,by decide,Go.Eng.A0a func327⟩
 f23:=⟨Tryz.f328.name,by decide,Go.Eng.A0a func328⟩
 f24:=⟨Tryz.f329.name,by decide,Go.Eng.A0a func329⟩
 f25:=⟨Tryz.f330.name,by decide,Go.Eng.A0a func330⟩
 f26:=⟨Tryz.f331.name,by decide,Go.Eng.A0a func331⟩
 f27:=⟨Tryz.f332.name,by decide,Go.Eng.A0a func332⟩
 f28:=Go.Eng.A0a func228
 f29:=Go.Eng.A0a func229
 f46:=⟨Tryz.f359.name,by decide,Go.Eng.A0a func359⟩
 f47:=Go.Eng.A0a func277
 f48:=Go.Eng.A0a func278
 f49:=⟨Tryz.f360.name,by decide,Go.Eng.A0a func360⟩
 f50:=⟨Tryz.f361.name,by decide,Go.Eng.A0a func361⟩
 f57:=⟨Tryz.f374.name,by decide,Go.Eng.A0a func374⟩
 t0:=underlying0
 a0:=isAgg0
 z0:=sizeOf0
 v0:=zeroValue0
 t3:=underlying3
 a3:=isAgg3
 z3:=sizeOf3
 v3:=zeroValue3
 t4:=underlying4
 a4:=isAgg4
 z4:=sizeOf4
 v4:=zeroValue4
 t5:=underlying5
 a5:=isAgg5
 z5:=sizeOf5
 v5:=zeroValue5
 t9:=underlying9
 a9:=isAgg9
 z9:=sizeOf9
 v9:=zeroValue9
 t22:=underlying50
 a22:=isAgg50
 z22:=sizeOf50
 v22:=zeroValue50
 t25:=underlying324
 a25:=isAgg324
 z25:=sizeOf324
 v25:=zeroValue324
 t39:=underlying99
 a39:=isAgg99
 z39:=sizeOf99
 v39:=zeroValue99
 t45:=underlying315
 a45:=isAgg315
 z45:=sizeOf315
 v45:=zeroValue315
 t46:=underlying316
 a46:=isAgg316
 z46:=sizeOf316
 v46:=zeroValue316
 t50:=underlying214
 a50:=isAgg214
 z50:=sizeOf214
 v50:=zeroValue214
 t53:=underlying229
 a53:=isAgg229
 z53:=sizeOf229
 v53:=zeroValue229
 t55:=underlying98
 a55:=isAgg98
 z55:=sizeOf98
 v55:=zeroValue98
 t66:=underlying357
 a66:=isAgg357
 z66:=sizeOf357
 v66:=zeroValue357
 t70:=underlying361
 a70:=isAgg361
 z70:=sizeOf361
 v70:=zeroValue361
 t76:=underlying389
 a76:=isAgg389
 z76:=sizeOf389
 v76:=zeroValue389
 t77:=underlying390
 a77:=isAgg390
 z77:=sizeOf390
 v77:=zeroValue390 }
def Tryz.layPdqTerm_ren:Go.Shelf.Ren:=⟨fun | 14=>368 | 20=>378 | 21=>379 | 22=>380 | 23=>381 | 24=>382 | 25=>383 | 26=>384 | 27=>385 | 46=>401 | 47=>277 | 48=>278 | 49=>402 | 50=>403 | 15=>161 | 57=>409 | 28=>228 | 29=>229 | n=>n,fun | 24=>343 | 22=>282 | 3=>3 | 25=>412 | 4=>4 | 0=>0 | 46=>316 | 45=>315 | 50=>214 | 66=>357 | 39=>99 | 55=>98 | 70=>361 | 76=>389 | 77=>390 | 53=>229 | 5=>5 | 9=>9 | n=>n,fun | n=>n⟩
theorem Tryz.layPdqTerm:Go.Proofs.SlLaysF0.n14 Tryz.prog Tryz.layPdqTerm_ren:={
 mixed:=by kernel_rfl
 f14:=⟨Tryz.f368.name,by decide,Go.Eng.A0a func368⟩
 f15:=Go.Eng.A0a func161
 f20:=⟨Tryz.f378.name,by decide,Go.Eng.A0a func378⟩
 f21:=⟨Tryz.f379.name,by decide,Go.Eng.A0a func379⟩
 f22:=⟨Tryz.f380.name,by decide,Go.Eng.A0a func380⟩
 f23:=⟨Tryz.f381.name,by decide,Go.Eng.A0a func381⟩
 f24:=⟨Tryz.f382.name,by decide,Go.Eng.A0a func382⟩
 f25:=⟨Tryz.f383.name,by decide,Go.Eng.A0a func383⟩
 f26:=⟨Tryz.f384.name,by decide,Go.Eng.A0a func384⟩
 f27:=⟨Tryz.f385.name,by decide,Go.Eng.A0a func385⟩
 f28:=Go.Eng.A0a func228
 f29:=Go.Eng.A0a func229
 f46:=⟨Tryz.f401.name,by decide,Go.Eng.A0a func401⟩
 f47:=Go.Eng.A0a func277
 f48:=Go.Eng.A0a func278
 f49:=⟨Tryz.f402.name,by decide,Go.Eng.A0a func402⟩
 f50:=⟨Tryz.f403.name,by decide,Go.Eng.A0a func403⟩
 f57:=⟨Tryz.f409.name,by decide,Go.Eng.A0a func409⟩
 t0:=underlying0
 a0:=isAgg0
 z0:=sizeOf0
 v0:=zeroValue0
 t3:=underlying3
 a3:=isAgg3
 z3:=sizeOf3
 v3:=zeroValue3
 t4:=underlying4
 a4:=isAgg4
 z4:=sizeOf4
 v4:=zeroValue4
 t5:=underlying5
 a5:=isAgg5
 z5:=sizeOf5
 v5:=zeroValue5
 t9:=underlying9
 a9:=isAgg9
 z9:=sizeOf9
 v9:=zeroValue9
 t22:=underlying282
 a22:=isAgg282
 z22:=sizeOf282
 v22:=zeroValue282
 t25:=underlying412
 a25:=isAgg412
 z25:=sizeOf412
 v25:=zeroValue412
 t39:=underlying99
 a39:=isAgg99
 z39:=sizeOf99
 v39:=zeroValue99
 t45:=underlying315
 a45:=isAgg315
 z45:=sizeOf315
 v45:=zeroValue315
 t46:=underlying316
 a46:=isAgg316
 z46:=sizeOf316
 v46:=zeroValue316
 t50:=underlying214
 a50:=isAgg214
 z50:=sizeOf214
 v50:=zeroValue214
 t53:=underlying229
 a53:=isAgg229
 z53:=sizeOf229
 v53:=zeroValue229
 t55:=underlying98
 a55:=isAgg98
 z55:=sizeOf98
 v55:=zeroValue98
 t66:=underlying357
 a66:=isAgg357
 z66:=sizeOf357
 v66:=zeroValue357
 t70:=underlying361
 a70:=isAgg361
 z70:=sizeOf361
 v70:=zeroValue361
 t76:=underlying389
 a76:=isAgg389
 z76:=sizeOf389
 v76:=zeroValue389
 t77:=underlying390
 a77:=isAgg390
 z77:=sizeOf390
 v77:=zeroValue390 }
def Tryz.layPdqSel_ren:Go.Shelf.Ren:=⟨fun | 14=>184 | 20=>244 | 21=>245 | 22=>246 | 23=>247 | 24=>248 | 25=>249 | 26=>250 | 27=>251 | 46=>298 | 47=>277 | 48=>278 | 49=>299 | 50=>300 | 15=>161 | 57=>338 | 28=>228 | 29=>229 | n=>n,fun | 24=>48 | 22=>34 | 3=>3 | 25=>211 | 4=>4 | 0=>0 | 46=>316 | 45=>315 | 50=>214 | 66=>357 | 39=>99 | 55=>98 | 70=>361 | 76=>389 | 77=>390 | 53=>229 | 5=>5 | 9=>9 | n=>n,fun | n=>n⟩
theorem Tryz.layPdqSel:Go.Proofs.SlLaysF0.n14 Tryz.prog Tryz.layPdqSel_ren:={
 mixed:=by kernel_rfl
 f14:=⟨Tryz.f184.name,by decide,Go.Eng.A0a func184⟩
 f15:=Go.Eng.A0a func161
 f20:=⟨Tryz.f244.name,by decide,Go.Eng.A0a func244⟩
 f21:=⟨Tryz.f245.name,by decide,Go.Eng.A0a func245⟩
 f22:=⟨Tryz.f246.name,by decide,Go.Eng.A0a func246⟩
 f23:=⟨Tryz.f247.name,by decide,Go.Eng.A0a func247⟩
 f24:=⟨Tryz.f248.name,by decide,Go.Eng.A0a func248⟩
 f25:=⟨Tryz.f249.name,by decide,Go.Eng.A0a func249⟩
 f26:=⟨Tryz.f250.name,by decide,Go.Eng.A0a func250⟩
 f27:=⟨Tryz.f251.name,by decide,Go.Eng.A0a func251⟩
 f28:=Go.Eng.A0a func228
 f29:=Go.Eng.A0a func229
 f46:=⟨Tryz.f298.name,by decide,Go.Eng.A0a func298⟩
 f47:=Go.Eng.A0a func277
 f48:=Go.Eng.A0a func278
 f49:=⟨Tryz.f299.name,by decide,Go.Eng.A0a func299⟩
 f50:=⟨Tryz.f300.name,by decide,Go.Eng.A0a func300⟩
 f57:=⟨Tryz.f338.name,by decide,Go.Eng.A0a func338⟩
 t0:=underlying0
 a0:=isAgg0
 z0:=sizeOf0
 v0:=zeroValue0
 t3:=underlying3
 a3:=isAgg3
 z3:=sizeOf3
 v3:=zeroValue3
 t4:=underlying4
 a4:=isAgg4
 z4:=sizeOf4
 v4:=zeroValue4
 t5:=underlying5
 a5:=isAgg5
 z5:=sizeOf5
 v5:=zeroValue5
 t9:=underlying9
 a9:=isAgg9
 z9:=sizeOf9
 v9:=zeroValue9
 t22:=underlying34
 a22:=isAgg34
 z22:=sizeOf34
 v22:=zeroValue34
 t25:=underlying211
 a25:=isAgg211
 z25:=sizeOf211
 v25:=zeroValue211
 t39:=underlying99
 a39:=isAgg99
 z39:=sizeOf99
 v39:=zeroValue99
 t45:=underlying315
 a45:=isAgg315
 z45:=sizeOf315
 v45:=zeroValue315
 t46:=underlying316
 a46:=isAgg316
 z46:=sizeOf316
 v46:=zeroValue316
 t50:=underlying214
 a50:=isAgg214
 z50:=sizeOf214
 v50:=zeroValue214
 t53:=underlying229
 a53:=isAgg229
 z53:=sizeOf229
 v53:=zeroValue229
 t55:=underlying98
 a55:=isAgg98
 z55:=sizeOf98
 v55:=zeroValue98
 t66:=underlying357
 a66:=isAgg357
 z66:=sizeOf357
 v66:=zeroValue357
 t70:=underlying361
 a70:=isAgg361
 z70:=sizeOf361
 v70:=zeroValue361
 t76:=underlying389
 a76:=isAgg389
 z76:=sizeOf389
 v76:=zeroValue389
 t77:=underlying390
 a77:=isAgg390
 z77:=sizeOf390
 v77:=zeroValue390 }
def Tryz.layCompare_ren:Go.Shelf.Ren:=⟨fun | 106=>140 | 213=>195 | 265=>263 | n=>n,fun | 9=>9 | 3=>3 | n=>n,fun | n=>n⟩
theorem Tryz.layCompare:Go.Proofs.Lays.n106 Tryz.prog Tryz.layCompare_ren:={
 mixed:=by kernel_rfl
 f106:=Go.Eng.A0a func140
 f213:=Go.Eng.A0a func195
 f265:=Go.Eng.A0a func263
 t3:=underlying3
 a3:=isAgg3
 z3:=sizeOf3
 v3:=zeroValue3
 t9:=underlying9
 a9:=isAgg9
 z9:=sizeOf9
 v9:=zeroValue9 }
def Tryz.layBits_ren:Go.Shelf.Ren:=⟨fun | 125=>161 | 128=>228 | 129=>229 | n=>n,fun | 46=>99 | 3=>3 | 51=>229 | 53=>98 | 4=>4 | 5=>5 | 9=>9 | n=>n,fun | n=>n⟩
theorem Tryz.layBits:Go.Proofs.Lays.n125 Tryz.prog Tryz.layBits_ren:={
 mixed:=by kernel_rfl
 f125:=Go.Eng.A0a func161
 f128:=Go.Eng.A0a func228
 f129:=Go.Eng.A0a func229
 t3:=underlying3
 a3:=isAgg3
 z3:=sizeOf3
 v3:=zeroValue3
 t4:=underlying4
 a4:=isAgg4
 z4:=sizeOf4
 v4:=zeroValue4
 t5:=underlying5
 a5:=isAgg5
 z5:=sizeOf5
 v5:=zeroValue5
 t9:=underlying9
 a9:=isAgg9
 z9:=sizeOf9
 v9:=zeroValue9
 t46:=underlying99
 a46:=isAgg99
 z46:=sizeOf99
 v46:=zeroValue99
 t51:=underlying229
 a51:=isAgg229
 z51:=sizeOf229
 v51:=zeroValue229
 t53:=underlying98
 a53:=isAgg98
 z53:=sizeOf98
 v53:=zeroValue98 }
def Tryz.laySortInts_ren:Go.Shelf.Ren:=⟨fun | 189=>366 | 125=>161 | 257=>376 | 128=>228 | 129=>229 | 294=>392 | 295=>393 | 296=>394 | 297=>395 | 298=>396 | 299=>397 | 216=>398 | 300=>399 | 301=>400 | 328=>406 | 329=>277 | 330=>278 | 331=>407 | 332=>408 | 215=>265 | 343=>410 | n=>n,fun | 28=>271 | 3=>3 | 46=>99 | 0=>0 | 51=>229 | 53=>98 | 4=>4 | 183=>316 | 182=>315 | 131=>214 | 5=>5 | 9=>9 | 218=>357 | 222=>361 | 228=>389 | 229=>390 | n=>n,fun | n=>n⟩
theorem Tryz.laySortInts:Go.Proofs.Lays.n189 Tryz.prog Tryz.laySortInts_ren:={
 mixed:=by kernel_rfl
 f125:=Go.Eng.A0a func161
 f128:=Go.Eng.A0a func228
 f129:=Go.Eng.A0a func229
 f189:=Go.Eng.A0a func366
 f215:=Go.Eng.A0a func265
 f216:=Go.Eng.A0a func398
 f257:=Go.Eng.A0a func376
 f294:=Go.Eng.A0a func392
 f295:=Go.Eng.A0a func393
 f296:=Go.Eng.A0a func394
 f297:=Go.Eng.A0a func395
 f298:=Go.Eng.A0a func396
 f299:=Go.Eng.A0a func397
 f300:=Go.Eng.A0a func399
 f301:=Go.Eng.A0a func400
 f328:=Go.Eng.A0a func406
 f329:=Go.Eng.A0a func277
 f330:=Go.Eng.A0a func278
 f331:=Go.Eng.A0a func407
 f332:=Go.Eng.A0a func408
 f343:=Go.Eng.A0a func410
 t0:=underlying0
 a0:=isAgg0
 z0:=sizeOf0
 v0:=zeroValue0
 t3:=underlying3
 a3:=isAgg3
 z3:=sizeOf3
 v3:=zeroValue3
 t4:=underlying4
 a4:=isAgg4
 z4:=sizeOf4
 v4:=zeroValue4
 t5:=underlying5
 a5:=isAgg5
 z5:=sizeOf5
 v5:=zeroValue5
 t9:=underlying9
 a9:=isAgg9
 z9:=sizeOf9
 v9:=zeroValue9
 t28:=underlying271
 a28:=isAgg271
 z28:=sizeOf271
 v28:=zeroValue271
 t46:=underlying99
 a46:=isAgg99
 z46:=sizeOf99
 v46:=zeroValue99
 t51:=underlying229
 a51:=isAgg229
 z51:=sizeOf229
 v51:=zeroValue229
 t53:=underlying98
 a53:=isAgg98
 z53:=sizeOf98
 v53:=zeroValue98
 t131:=underlying214
 a131:=isAgg214
 z131:=sizeOf214
 v131:=zeroValue214
 t182:=underlying315
 a182:=isAgg315
 z182:=sizeOf315
 v182:=zeroValue315
 t183:=underlying316
 a183:=isAgg316
 z183:=sizeOf316
 v183:=zeroValue316
 t218:=underlying357
 a218:=isAgg357
 z218:=sizeOf357
 v218:=zeroValue357
 t222:=underlying361
 a222:=isAgg361
 z222:=sizeOf361
 v222:=zeroValue361
 t228:=underlying389
 a228:=isAgg389
 z228:=sizeOf389
 v228:=zeroValue389
 t229:=underlying390
 a229:=isAgg390
 z229:=sizeOf390
 v229:=zeroValue390 }
end Go.Proofs
namespace Go.Proofs
open Go.Shelf Go.RowKit Go.Lib Go.Sort
def SpA:Type:={x:Int×Int // 0<=x.1/\x.1<=1000000}
instance:Inhabited SpA:=⟨⟨(0,0),by decide⟩⟩
def encSpA(x:SpA):List Value:=[.int .i64 x.1.1,.int .i64 x.1.2]
def cfSpA(x y:SpA):Int:=x.1.1-y.1.1
theorem Tryz.closure236(x y:SpA)(W:World):Calls Tryz.prog 236 #[.agg #[.int .i64 x.1.1,.int .i64 x.1.2],.agg #[.int .i64 y.1.1,.int .i64 y.1.2]] W fun e w'=>e=.returned (.int .i64 (cfSpA x y))/\∃q os',w'=grow (W.drewN q) os':=by
 obtain⟨⟨a,b⟩,h1,h2⟩:=x;obtain⟨⟨c,d⟩,h3,h4⟩:=y;dsimp only at h1 h2 h3 h4;have hw:IntKind.i64.wrap (a-c)=a-c:=by simp[IntKind.wrap,IntKind.bits,IntKind.signed];omega
 show Calls Tryz.prog 236 #[.agg #[.int .i64 a,.int .i64 b],.agg #[.int .i64 c,.int .i64 d]] W fun e w'=>e=.returned (.int .i64 (a-c))/\∃q os',w'=grow (W.drewN q) os'
 go_enter Tryz.func236,Tryz.ntmps236
 go_wp2
 go_ret
 exact⟨rfl,0,_,by rw[alloc_eq_grow,alloc_eq_grow,grow_grow];rfl⟩
def TmA:Type:=ByteArray×{v:Value // v.oneCell'=true}×{v:Value // v.oneCell'=true}
instance:Inhabited TmA:=⟨⟨ByteArray.empty,⟨.bool false,rfl⟩,⟨.bool false,rfl⟩⟩⟩
def encTmA(x:TmA):List Value:=[.string x.1,x.2.1.1,x.2.2.1]
def cfTmA(x y:TmA):Int:=Lib.compareBytes x.1.data.toList y.1.data.toList
theorem Tryz.closure351(x y:TmA)(W:World):Calls Tryz.prog 351 #[.agg #[.string x.1,x.2.1.1,x.2.2.1],.agg #[.string y.1,y.2.1.1,y.2.2.1]] W fun e w'=>e=.returned (.int .i64 (cfTmA x y))/\∃q os',w'=grow (W.drewN q) os':=by
 have hcon:=fun W'=>Any.strings_Compare Tryz.layCompare x.1 y.1 W';obtain⟨a,⟨b,hb⟩,⟨c,hc⟩⟩:=x;obtain⟨a',⟨b',uO⟩,⟨c',hc'⟩⟩:=y;dsimp only at hcon
 change ∀W',Calls Tryz.prog 140 _ _ _ at hcon
 unfold cfTmA;dsimp only;generalize Lib.compareBytes a.data.toList a'.data.toList=r at hcon⊢
 go_enter Tryz.func351,Tryz.ntmps351
 go_wp2_with (go_at_call 140;refine(hcon _).mono ?_;rintro e w' ⟨rfl,rfl⟩)
 go_ret
 exact⟨rfl,0,_,by rw[alloc_eq_grow,alloc_eq_grow,grow_grow];rfl⟩
end Go.Proofs
namespace Go.Eng
open Go.Proofs Go.Proofs.Tryz
variable {caps:List AV}{fF:Nat}{α:Type}{i:Nat}(l:List (Int×Int))(x:Sl)(v:Ver)(t:Tm)(r:Rl)(m s:List (Int×Int))
theorem wg:PC 170 [.agg (CK v)] (.agg [vi v.a,vi v.b,vi v.c]):=by
 refine Ps CQ func170 rfl (Nz rfl) ?_;exact Yi (Nz rfl) (Yi (Nz rfl) (.refl _))
def part:Nat->Int
 |0=>v.a
 |1=>v.b
 |_=>v.c
theorem Xy{v:Ver}(h:¬okPart (part v i)):BN v=false:=by
 unfold BN
 match i,h with
 |0,h=>have h:¬okPart v.a:=h;simp[h]
 |1,h=>have h:¬okPart v.b:=h;simp[h]
 |_+2,h=>have h:¬okPart v.c:=h;simp[h]
theorem Aa0:PC 110 [.agg (CK v)] (vb (BN v)):=by
 refine Ps CQ func110 rfl (Nz rfl) (Yi (Nz rfl) (C1 (C2 (wg v) (Xi {i:Nat // i<=3/\∀j,j<i->okPart (part v j)} (Xi (fun i=>⟨[(6,.agg [vi v.a,vi v.b,vi v.c]),(7,vi i.1)],[],Ae⟩) (Xi (fun i=>3-i.1) (Yi (Xi ⟨0,by simp⟩ ?_) ?_)))))))
 .exact⟨Z2,Tv,Fh,Tv⟩
 .intro⟨i,h1,h2⟩;refine Yi ?_ ?_
  .intro h;have h:(i:Int)<3:=h;refine Yi ⟨by omega,by omega⟩ ?_;have hp:LX (([vi v.a,vi v.b,vi v.c]).drop ((i:Int).toNat*1))=fun K=>K (vi (part v i)):=by
    match i,h with
    |0,_=>rfl
    |1,_=>rfl
    |2,_=>rfl
    |_+3,h=>omega
   show LX (([vi v.a,vi v.b,vi v.c]).drop ((i:Int).toNat*1)) _;rw[hp];refine Yi ?_ ?_
   .intro h3;rw[Xy (i:=i) (by grind [okPart])];exact .refl _
   .intro h3;refine Yi ?_ ?_
    .intro h4;rw[Xy (i:=i) (by grind [okPart])];exact .refl _
    .intro h4;refine Yi (by grind [Az]) (Xi ⟨i+1,by omega,fun j hj=>?_⟩ ?_)
     .by_cases e:j=i
      .subst e;exact⟨by omega,by omega⟩
      grind
     .exact⟨by grind,Z2,Tv,Fh,Tv⟩
  .intro h;have h:¬(i:Int)<3:=h;have e:i=3:=ch
   have q:BN v=true:=by
    unfold BN;have a:=h2 0 ch;have b:=h2 1 ch
    grind [part]
   rw[q];exact .refl _
theorem zf:PC 67 [.agg (CK v)] (.tup [vi (if BN v then place v else 0),vi (if BN v then 0 else 2)]):=by
 refine Ps CQ func67 rfl (Nz rfl) (Yi (Nz rfl) (C1 (C2 (Aa0 v) ?_)));cases h:BN v with
 |false=>exact .refl _
 |true=>
  have hv:=HC h;refine Yi (by grind [Az]) ?_;exact Yi (by grind [Az]) (.refl _)
theorem wz(h:BN v=true):PC 125 [.agg (CK v)] (vi (place v)):=by
 refine Ps CQ func125 rfl (Nz rfl) ?_;have hv:=HC h;refine Yi (by grind [Az]) ?_;exact Yi (by grind [Az]) (.refl _)
def Cc(caps:List AV):Prop:=∀c∈caps,∀h,str0 h c=c
theorem Cc.map{caps:List AV}(hs:Cc caps)(h:Nat->HO):caps.map (str0 h)=caps:=by
 conv=>rhs;rw[<-Hp caps]
 exact CC fun c hc=>hs c hc h
theorem Cc.ids(hs:Cc caps)(h:Nat->HO):aJ h caps=true:=by
 induction caps with
 |nil=>rfl
 |cons c r ih=>
  have hc:=hs c (Ah ..) Ae;have h0:ids0 h c=true:=by
   cases c with
   |slice tk es=>cases tk with |none=>rfl |full sz=>grind [str0] |id r sz=>grind [str0] |ver r sz v=>grind [str0]
   |_=>first |rfl |grind [str0]
  unfold aJ;rw[h0];exact ih fun c hc=>hs c (Am _ hc)
def I7{α:Type}(p:α->Bool):List α->Int->Int
 | [],_=>-1
 |x::r,i=>if p x then i else I7 p r (i+1)
theorem Hl{α:Type}{p:α->Bool}:∀{l:List α} {i:Nat} {k:Int} (hi:i<l.length),(∀j (hj:j<l.length),j<i->p l[j]=false)->p l[i]=true->I7 p l k=k+i
 |x::r,0,k,_,_,h=>by
  grind [I7]
 |x::r,i+1,k,hi,hb,h=>by
  have h0:p x=false:=hb 0 Cl ch
  have:=Hl (l:=r) (i:=i) (k:=k+1) aa0 (fun j hj G8=>hb (j+1) ch ch) B0
  grind [I7]
theorem F8{α:Type}{p:α->Bool}:∀{l:List α} {k:Int},(∀j (hj:j<l.length),p l[j]=false)->I7 p l k=-1
 | [],_,_=>rfl
 |x::r,k,h=>by
  have h0:p x=false:=h 0 Cl;simp only[I7,h0,OJ,if_false];exact F8 fun j hj=>h (j+1) B0
theorem Hg{α:Type}{p:α->Bool}:∀(l:List α) (k:Int),0<=k->decide (0<=I7 p l k)=l.any p
 | [],k,_=>by simp[I7]
 |x::r,k,hk=>by
  unfold I7;cases h:p x with
  |true=>simp_all
  |false=>simp[h,Hg r (k+1) ch]
-- one for each type of elements
theorem Aee(hs:Cc caps)(l:List (Int×Int))(p:Int×Int->Bool)(hF:∀x∈l,PC fF ([.agg (Ag x)]++caps) (vb (p x)))(hl:l.length<9223372036854775807) :
  PC 171 [sl Ag l,.clo fF caps] (vi (I7 p l 0)):=by
 refine Ps CQ func171 rfl (Nz rfl) (Xi {i:Nat // i<=l.length/\∀j (hj:j<l.length),j<i->p l[j]=false} (Xi (fun i=>⟨[(0,sl Ag l),(1,.clo fF caps),(7,vi (l.map Ag).length),(8,vi i.1)],[],Ae⟩) (Xi (fun i=>l.length-i.1) (Yi (Xi ⟨0,by simp⟩ ?_) ?_))))
 .exact⟨⟨Zr,⟨rfl,hs.ids _⟩,Zr,Zr,Tv⟩,Tv,Fh,Tv⟩
 .intro⟨i,h1,h2⟩;refine Yi ?_ ?_
  .intro h;have h:i<l.length:=B0
   have hg:l[i]?=some l[i]:=Ge h;refine Xi (Ag l[i]) (Yi (Yi ch B0) (Yi rfl (yN ?_)));have BQ:∀h,PC fF ([.agg (Ag l[i])]++caps.map (str0 h)) (vb (p l[i])):=fun h=>by rw[hs.map];grind
   cases hp:p l[i]with
   |true=>
    rw[hp]at BQ;refine Xi .pure (Xi (vb true) (Yi (BQ _) ?_));rw[Hl h (fun j hj G8=>h2 j hj G8) hp,Ev];exact .refl _
   |false=>
    rw[hp]at BQ;refine Xi .pure (Xi (vb false) (Yi (BQ _) (Yi (by grind [Az]) (Xi ⟨i+1,by omega,fun j hj G8=>?_⟩ ?_))))
    .grind
    .exact⟨by grind,⟨Zr,⟨rfl,hs.ids _⟩,Zr,Zr,Tv⟩,Tv,Fh,Tv⟩
  .intro h;have h:¬i<l.length:=B0
   rw[F8 fun j hj=>h2 j hj ch];exact .refl _
abbrev BD(l:List α):Prop:=l.length<=1073741824
theorem BV{α:Type}{enc:α->List AV}{n:Nat}(h:∀x,(enc x).length=n):∀l:List α,Bi n (l.map enc)
 | []=>trivial
 |x::l=>⟨h x,BV h l⟩
theorem SJ{x y:Int×Int}:qD (Ag x) (Ag y)↔x=y:=by
 constructor
 .intro h;exact Prod.ext h.1 h.2.1
 .rintro rfl;exact⟨rfl,rfl,trivial⟩
theorem uK{x y:Sl}:qD (Ab x) (Ab y)↔x=y:=by
 obtain⟨p,a,b,c⟩:=x;obtain⟨q,d,e,f⟩:=y;constructor
 .intro h;obtain⟨rfl,rfl,rfl,rfl,_⟩:=h
  rfl
 .intro h;cases h;exact⟨rfl,rfl,rfl,rfl,trivial⟩
abbrev Df(l:List Tm):List AV:=[sl AH l]
abbrev Af(s:CS):List AV:=[vs s]
theorem c78(hs:Cc caps)(l:List (Sl))(p:Sl->Bool)(hF:∀x∈l,PC fF ([.agg (Ab x)]++caps) (vb (p x)))(hl:l.length<9223372036854775807) :
  PC 108 [sl Ab l,.clo fF caps] (vi (I7 p l 0)):=by
 refine FM (jd CQ) rfl Ct hm rfl func108 aa1 rfl (Nz rfl) aa1 (Xi {i:Nat // i<=l.length/\∀j (hj:j<l.length),j<i->p l[j]=false} (Xi (fun i=>⟨[(0,sl Ab l),(1,.clo fF caps),(7,vi (l.map Ab).length),(8,vi i.1)],[],Ae⟩) (Xi (fun i=>l.length-i.1) (Yi (Xi ⟨0,by simp⟩ ?_) ?_))))
 .exact⟨⟨Zr,⟨rfl,hs.ids _⟩,Zr,Zr,Tv⟩,Tv,Fh,Tv⟩
 .intro⟨i,h1,h2⟩;refine Yi ?_ ?_
  .intro h;have h:i<l.length:=B0
   have hg:l[i]?=some l[i]:=Ge h;refine Xi (Ab l[i]) (Yi (Yi ch B0) (Yi rfl (yN ?_)));have BQ:∀h,PC fF ([.agg (Ab l[i])]++caps.map (str0 h)) (vb (p l[i])):=fun h=>by rw[hs.map];simp_all
   cases hp:p l[i]with
   |true=>
    rw[hp]at BQ;refine Xi .pure (Xi (vb true) (Yi (BQ _) ?_));rw[Hl h (fun j hj G8=>h2 j hj G8) hp,Ev];exact .refl _
   |false=>
    rw[hp]at BQ;refine Xi .pure (Xi (vb false) (Yi (BQ _) (Yi (by grind [Az]) (Xi ⟨i+1,by omega,fun j hj G8=>?_⟩ ?_))))
    .grind
    .exact⟨by grind,⟨Zr,⟨rfl,hs.ids _⟩,Zr,Zr,Tv⟩,Tv,Fh,Tv⟩
  .intro h;have h:¬i<l.length:=B0
   rw[F8 fun j hj=>h2 j hj ch];exact .refl _
theorem rr(hs:Cc caps)(l:List (Tm))(p:Tm->Bool)(hF:∀x∈l,PC fF ([.agg (AH x)]++caps) (vb (p x)))(hl:l.length<9223372036854775807) :
  PC 309 [sl AH l,.clo fF caps] (vi (I7 p l 0)):=by
 refine FM (jd CQ) rfl Ct hm rfl func309 aa1 rfl (Nz rfl) aa1 (Xi {i:Nat // i<=l.length/\∀j (hj:j<l.length),j<i->p l[j]=false} (Xi (fun i=>⟨[(0,sl AH l),(1,.clo fF caps),(7,vi (l.map AH).length),(8,vi i.1)],[],Ae⟩) (Xi (fun i=>l.length-i.1) (Yi (Xi ⟨0,by simp⟩ ?_) ?_))))
 .exact⟨⟨Zr,⟨rfl,hs.ids _⟩,Zr,Zr,Tv⟩,Tv,Fh,Tv⟩
 .intro⟨i,h1,h2⟩;refine Yi ?_ ?_
  .intro h;have h:i<l.length:=B0
   have hg:l[i]?=some l[i]:=Ge h;refine Xi (AH l[i]) (Yi (Yi ch B0) (Yi rfl (yN ?_)));have BQ:∀h,PC fF ([.agg (AH l[i])]++caps.map (str0 h)) (vb (p l[i])):=fun h=>by rw[hs.map];simp_all
   cases hp:p l[i]with
   |true=>
    rw[hp]at BQ;refine Xi .pure (Xi (vb true) (Yi (BQ _) ?_));rw[Hl h (fun j hj G8=>h2 j hj G8) hp,Ev];exact .refl _
   |false=>
    rw[hp]at BQ;refine Xi .pure (Xi (vb false) (Yi (BQ _) (Yi (by grind [Az]) (Xi ⟨i+1,by omega,fun j hj G8=>?_⟩ ?_))))
    .grind
    .exact⟨by grind,⟨Zr,⟨rfl,hs.ids _⟩,Zr,Zr,Tv⟩,Tv,Fh,Tv⟩
  .intro h;have h:¬i<l.length:=B0
   rw[F8 fun j hj=>h2 j hj ch];exact .refl _
theorem Ae1(hs:Cc caps)(l:List (Int×Int))(p:Int×Int->Bool)(hF:∀x∈l,PC fF ([.agg (Ag x)]++caps) (vb (p x)))(hl:BD l) :
  PC 111 [sl Ag l,.clo fF caps] (vb (l.any p)):=by
 refine FM (jd CQ) rfl Ct hm rfl func111 aa1 rfl (Nz rfl) aa1 ?_;have hi:=Aee hs l p hF ch;have BQ:∀h,PC 171 [sl Ag l,.clo fF (caps.map (str0 h))] (vi (I7 p l 0)):=fun h=>by grind [Cc.map]
 refine C1 (C2 (BQ _) ?_);have ha:=Hg (p:=p) l 0 (Bs 0);refine Yi ?_ ?_
 .intro h;rw[<-ha,AB h];exact .refl _
 .intro h;rw[<-ha,Aw h];exact .refl _
theorem c51(hs:Cc caps)(l:List (Sl))(p:Sl->Bool)(hF:∀x∈l,PC fF ([.agg (Ab x)]++caps) (vb (p x)))(hl:BD l) :
  PC 79 [sl Ab l,.clo fF caps] (vb (l.any p)):=by
 refine FM (jd CQ) rfl Ct hm rfl func79 aa1 rfl (Nz rfl) aa1 ?_;have hi:=c78 hs l p hF ch;have BQ:∀h,PC 108 [sl Ab l,.clo fF (caps.map (str0 h))] (vi (I7 p l 0)):=fun h=>by grind [Cc.map]
 refine C1 (C2 (BQ _) ?_);have ha:=Hg (p:=p) l 0 (Bs 0);refine Yi ?_ ?_
 .intro h;rw[<-ha,AB h];exact .refl _
 .intro h;rw[<-ha,Aw h];exact .refl _
theorem we(hs:Cc caps)(l:List (Tm))(p:Tm->Bool)(hF:∀x∈l,PC fF ([.agg (AH x)]++caps) (vb (p x)))(hl:BD l) :
  PC 259 [sl AH l,.clo fF caps] (vb (l.any p)):=by
 refine FM (jd CQ) rfl Ct hm rfl func259 aa1 rfl (Nz rfl) aa1 ?_;have hi:=rr hs l p hF ch;have BQ:∀h,PC 309 [sl AH l,.clo fF (caps.map (str0 h))] (vi (I7 p l 0)):=fun h=>by grind [Cc.map]
 refine C1 (C2 (BQ _) ?_);have ha:=Hg (p:=p) l 0 (Bs 0);refine Yi ?_ ?_
 .intro h;rw[<-ha,AB h];exact .refl _
 .intro h;rw[<-ha,Aw h];exact .refl _
theorem Ae5(hl:BD l):PC 142 [sl Ag l] (sl Ag l):=by
 refine FM (jd CQ) rfl Ct hm rfl func142 aa1 rfl (Nz rfl) aa1 ?_;have F5:Bi 2 (l.map Ag)/\([]:C0).length=0/\(([]:C0).length+(l.map Ag).length)*16<=140737488355328/\([]:C0).length+(l.map Ag).length<=9223372036854775807:=by
  grind [BV]
 refine Yi ?_ ?_
 .intro _;exact Yi F5 (.refl _)
 .intro h;refine Yi ?_ ?_
  .show BC nzA (.slice .none (l.map Ag))
   grind [BC.nil]
  .exact Yi F5 (.refl _)
theorem rp(hl:BD l):PC 168 [sl Ag l,sl Ag m] (vb (decide (l=m))):=by
 refine FM (jd CQ) rfl Ct hm rfl func168 aa1 rfl (Nz rfl) aa1 (Yi ?_ ?_)
 .intro h
  have:l≠m:=fun e=>h (by rw[e])
  rw[Aw this];exact .refl _
 .intro h;have Dr:l.length=m.length:=aa0
  refine Xi {i:Nat // i<=l.length/\l.take i=m.take i} (Xi (fun i=>⟨[(0,sl Ag l),(1,sl Ag m),(12,vi (l.map Ag).length),(13,vi i.1)],[],Ae⟩) (Xi (fun i=>l.length-i.1) (Yi (Xi ⟨0,by simp⟩ ?_) ?_)))
  .exact⟨⟨Zr,Zr,Zr,Zr,Tv⟩,Tv,Fh,Tv⟩
  .intro⟨i,h1,h2⟩;refine Yi ?_ ?_
   .intro h;have h:i<l.length:=B0
    have h' : i<m.length:=ch
    have hg:l[i]?=some l[i]:=Ge h;have ly : m[i]?=some m[i]:=Ge h';refine Xi (Ag l[i]) (Yi (Yi ch B0) (Yi rfl (yN ?_)));refine Xi (Ag m[i]) (Yi (Yi ch B0) (Yi rfl (yN ?_)));refine Yi ?_ ?_
    .intro h5;have e:l[i]=m[i]:=SJ.1 h5;refine Yi aa1 (Yi (by grind [Az]) (Xi ⟨i+1,by omega,?_⟩ ?_))
     .grind [List.take_add_one]
     .exact⟨Dl l.length i ch,⟨Zr,Zr,Zr,Zr,Tv⟩,Tv,Fh,Tv⟩
    .intro h5;refine Yi aa1 ?_
     have:l≠m:=fun e=>h5 (SJ.2 B0)
     rw[Aw this];exact .refl _
   .intro h;have h:¬i<l.length:=B0
    have e:l=m:=by
     grind
    rw[AB e];exact .refl _
theorem c27(l m:List (Sl))(hl:BD l):PC 25 [sl Ab l,sl Ab m] (vb (decide (l=m))):=by
 refine FM (jd CQ) rfl Ct hm rfl func25 aa1 rfl (Nz rfl) aa1 (Yi ?_ ?_)
 .intro h
  have:l≠m:=fun e=>h (by rw[e])
  rw[Aw this];exact .refl _
 .intro h;have Dr:l.length=m.length:=aa0
  refine Xi {i:Nat // i<=l.length/\l.take i=m.take i} (Xi (fun i=>⟨[(0,sl Ab l),(1,sl Ab m),(12,vi (l.map Ab).length),(13,vi i.1)],[],Ae⟩) (Xi (fun i=>l.length-i.1) (Yi (Xi ⟨0,by simp⟩ ?_) ?_)))
  .exact⟨⟨Zr,Zr,Zr,Zr,Tv⟩,Tv,Fh,Tv⟩
  .intro⟨i,h1,h2⟩;refine Yi ?_ ?_
   .intro h;have h:i<l.length:=B0
    have h' : i<m.length:=ch
    have hg:l[i]?=some l[i]:=Ge h;have ly : m[i]?=some m[i]:=Ge h';refine Xi (Ab l[i]) (Yi (Yi ch B0) (Yi rfl (yN ?_)));refine Xi (Ab m[i]) (Yi (Yi ch B0) (Yi rfl (yN ?_)));refine Yi ?_ ?_
    .intro h5;have e:l[i]=m[i]:=uK.1 h5;refine Yi aa1 (Yi (by grind [Az]) (Xi ⟨i+1,by omega,?_⟩ ?_))
     .grind [List.take_add_one]
     .exact⟨Dl l.length i ch,⟨Zr,Zr,Zr,Zr,Tv⟩,Tv,Fh,Tv⟩
    .intro h5;refine Yi aa1 ?_
     have:l≠m:=fun e=>h5 (uK.2 B0)
     rw[Aw this];exact .refl _
   .intro h;have h:¬i<l.length:=B0
    have e:l=m:=by
     grind
    rw[AB e];exact .refl _
abbrev qO(l:List Nat):Qx:=⟨l,[],[],[],[],[],[],[],[],[],[]⟩
theorem Cc.ptr(cs:List AV):Cc [.cptr cs]:=fun c hc h=>by
 rw[AQ.1 hc];rfl
theorem Ae2(s:Int×Int)(p:Int):PC 112 [.agg (Ag s),.cptr [vi p]] (vb (BS p s)):=by
 refine Ps CQ func112 rfl (Nz rfl) (Yi ?_ ?_)
 .intro h;refine Yi ?_ ?_
  .intro h2;rw[show BS p s=true by grind [BS]];exact .refl _
  .intro h2;rw[show BS p s=false by grind [BS]];exact .refl _
 .intro h;rw[show BS p s=false by simp[BS,h]];exact .refl _
theorem mg(p:Int)(hl:BD s):PC 68 [sl Ag s,vi p] (vb (has s p)):=by
 refine Ps (qO [3]) func68 rfl (Nz rfl) (Yi ?_ ?_)
 .intro h;refine Yi ?_ ?_
  .intro h2;refine C1 (C2 (Ae1 (Cc.ptr [vi p]) s (BS p) (fun x _=>Ae2 x p) hl) ?_);rw[show has s p=s.any (BS p) by grind [has]];cases s.any (BS p)<;>exact .refl _
  .intro h2;rw[show has s p=false by grind [has]];exact .refl _
 .intro h;rw[show has s p=false by simp[has,h]];exact .refl _
theorem c88:PC 252 [.agg (Au r)] (vi (plc r.ver)):=by
 refine Ps CQ func252 rfl (Nz rfl) ?_;exact Yi (Nz rfl) (C1 (C2 (zf r.ver) (.refl _)))
theorem c99:PC 365 [.agg (Ab x),.cptr (AH t)] (vb (decide (x.path=t.path))):=by
 refine Ps CQ func365 rfl (Nz rfl) (Yi ?_ ?_)
 .intro h;rw[AB h];exact .refl _
 .intro h;rw[Aw h];exact .refl _
theorem PB{α:Type}{p:α->Bool}:∀(l:List α) (k:Int),(I7 p l k=-1/\l.find? p=none)\/∃i x,I7 p l k=k+(i:Nat)/\l[i]?=some x/\l.find? p=some x
 | [],k=>.inl Zr
 |x::r,k=>by
  cases h:p x with
  |true=>exact .inr ⟨0,x,by simp[I7,h],rfl,by simp[h]⟩
  |false=>
   rcases PB (p:=p) r (k+1)with ⟨h1,h2⟩ | ⟨i,y,h1,h2,h3⟩
   .grind [I7]
   .exact .inr ⟨i+1,y,by grind [I7],by simp_all,by simp_all⟩
theorem c55(s:List Sl)(hl:BD s)(ht:BD t.set):PC 340 [.agg (AH t),sl Ab s] (vb (Hw t s)):=by
 have hc:=c78 (Cc.ptr (AH t)) s (fun x=>decide (x.path=t.path)) (fun x _=>c99 x t) ch;unfold Hw;rcases PB (p:=fun x:Sl=>decide (x.path=t.path)) s 0 with ⟨h1,h2⟩ | ⟨i,x,h1,h2,h3⟩
 .rw[h1]at hc;rw[h2];refine Ps (qO [2]) func340 rfl (Nz rfl) (C1 (C2 hc (Yi ?_ ?_)))
  .intro _;refine Yi ?_ ?_
   .intro h;rw[h];exact .refl _
   .intro h;rw[h];exact .refl _
  .intro h;exact absurd (show(-1:Int)<0 by decide) h
 .rw[h1,Ev]at hc;rw[h3];have hg:(s.map Ab)[((i:Nat):Int).toNat]?=some (Ab x):=B0
  have hp:=zf x.ver;dsimp only;rcases Bt (BN x.ver)with hv | hv
  .rw[hv,Ax rfl,Ax rfl]at hp;rw[hv];refine Ps (qO [2]) func340 rfl (Nz rfl) (C1 (C2 hc (Yi ?_ ?_)))
   .intro h;omega
   .intro _;refine Xi (Ab x) (Yi (Yi ch hg) (Yi rfl (yN (C1 (C2 hp (Yi ?_ ?_))))))
    .intro _;refine C1 (C2 (mg t.set (place x.ver) ht) ?_);exact .refl _
    .intro h;exact absurd rfl h
  .rw[hv,AA Wk,AA Wk]at hp;rw[hv];refine Ps (qO [2]) func340 rfl (Nz rfl) (C1 (C2 hc (Yi ?_ ?_)))
   .intro h;omega
   .intro _;refine Xi (Ab x) (Yi (Yi ch hg) (Yi rfl (yN (C1 (C2 hp (Yi ?_ ?_))))))
    .intro h;omega
    .intro _;exact .refl _
theorem qW{p:α->Bool}{l:List α}(h:∀j (hj:j<l.length),j<i->p l[j]=true)(hi:¬i<l.length):l.all p=true:=by
 grind [List.mem_iff_getElem]
theorem vR{p:α->Bool}{l:List α}(hi:i<l.length)(h:p l[i]=false):l.all p=false:=by
 grind
theorem vT{p:α->Bool}{l:List α}(h:∀j (hj:j<l.length),j<i->p l[j]=false)(hi:¬i<l.length):l.any p=false:=by
 grind [List.mem_iff_getElem]
abbrev lG(l:List Tm):Prop:=BD l/\∀t∈l,BD t.set
theorem c26(l:List Tm)(s:List Sl)(hl:lG l)(hs:BD s):PC 306 [sl AH l,sl Ab s] (vb (l.all fun t=>Hw t s)):=by
 have hc:∀i (h:i<l.length),PC 340 [.agg (AH l[i]),sl Ab s] (vb (Hw l[i] s)):=fun i h=>c55 l[i] s hs (hl.2 _ (Ai h));obtain⟨hl,_⟩:=hl;unfold BD at hl;refine Ps CQ func306 rfl (Nz rfl) (Xi {i:Nat // i<=l.length/\∀j (hj:j<l.length),j<i->Hw l[j] s=true} (Xi (fun i=>⟨[(0,sl AH l),(1,sl Ab s),(7,vi (l.map AH).length),(8,vi i.1)],[],Ae⟩) (Xi (fun i=>l.length-i.1) (Yi (Xi ⟨0,by simp⟩ ?_) ?_))))
 .exact⟨Z4,Tv,Fh,Tv⟩
 .intro⟨i,h1,h2⟩;refine Yi ?_ ?_
  .intro h;have h:i<l.length:=B0
   have hg:l[i]?=some l[i]:=Ge h;have zt:=hc i h;refine Xi (AH l[i]) (Yi (Yi ch B0) (Yi rfl (yN ?_)));cases hp:Hw l[i] s with
   |false=>
    rw[hp]at zt;refine C1 (C2 zt ?_);rw[vR (p:=fun t=>Hw t s) h hp];exact .refl _
   |true=>
    rw[hp]at zt;refine C1 (C2 zt (Yi (by grind [Az]) (Xi ⟨i+1,by omega,fun j hj G8=>?_⟩ ?_)))
    .grind
    .exact⟨by grind,Z4,Tv,Fh,Tv⟩
  .intro h;have h:¬i<l.length:=B0
   rw[qW (p:=fun t=>Hw t s) h2 h];exact .refl _
theorem Ae4:PC 308 [.agg (Ab x),.cptr (AH t)] (vb (decide (x.path=t.path))):=by
 refine Ps CQ func308 rfl (Nz rfl) (Yi ?_ ?_)
 .intro h;rw[AB h];exact .refl _
 .intro h;rw[Aw h];exact .refl _
theorem Ae3(s:List Sl)(hs:BD s):PC 307 [.agg (AH t),.cptr [sl Ab s]] (vb (!CO s t.path)):=by
 have hc:=c51 (Cc.ptr (AH t)) s (fun x=>decide (x.path=t.path)) (fun x _=>Ae4 x t) hs;unfold CO;cases hp:s.any fun x=>decide (x.path=t.path)with
 |true=>
  rw[hp]at hc;refine Ps (qO [2]) func307 rfl (Nz rfl) ?_;exact C1 (C2 hc (.refl _))
 |false=>
  rw[hp]at hc;refine Ps (qO [2]) func307 rfl (Nz rfl) ?_;exact C1 (C2 hc (.refl _))
theorem c91(l:List Tm)(s:List Sl)(hl:lG l)(hs:BD s):PC 258 [sl AH l,sl Ab s] (vb (CH l s)):=by
 have hv:=c26 l s hl hs;have hc:=we (Cc.ptr [sl Ab s]) l (fun t=>!CO s t.path) (fun t _=>Ae3 t s hs) hl.1;unfold CH A9;cases h1:l.all fun t=>Hw t s with
 |false=>
  rw[h1]at hv;refine Ps (qO [3]) func258 rfl (Nz rfl) ?_;exact C1 (C2 hv (.refl _))
 |true=>
  rw[h1]at hv;cases h2:l.any fun t=>!CO s t.path with
  |true=>
   rw[h2]at hc;refine Ps (qO [3]) func258 rfl (Nz rfl) ?_;exact C1 (C2 hv (C1 (C2 hc (.refl _))))
  |false=>
   rw[h2]at hc;refine Ps (qO [3]) func258 rfl (Nz rfl) ?_;exact C1 (C2 hv (C1 (C2 hc (.refl _))))
def sv(p:Int)(s:Int×Int):Bool:=decide (max 0 s.1<=p)&&decide (p<min 1000000 s.2)
theorem sw(p:Int):s.any (sv p)=has s p:=by
 grind [has,sv,BS]
theorem Aa4(p:Int)(hl:BD s):PC 124 [sl Ag s,vi p] (vb (has s p)):=by
 rw[<-sw];unfold BD at hl;refine Ps CQ func124 rfl (Nz rfl) (Xi {i:Nat // i<=s.length/\∀j (hj:j<s.length),j<i->sv p s[j]=false} (Xi (fun i=>⟨[(0,sl Ag s),(1,vi p),(5,vi i.1)],[],Ae⟩) (Xi (fun i=>s.length-i.1) (Yi (Xi ⟨0,by simp⟩ ?_) ?_))))
 .exact⟨Z3,Tv,Fh,Tv⟩
 .intro⟨i,h1,h2⟩;refine Yi ?_ ?_
  .intro h;have h:i<s.length:=B0
   have hg:s[i]?=some s[i]:=Ge h;refine Xi (Ag s[i]) (Yi (Yi ch B0) (Yi rfl ?_));refine Yi ?_ ?_
   .intro h3;refine Xi (Ag s[i]) (Yi (Yi ch B0) (Yi rfl ?_));refine Yi ?_ ?_
    .intro h4;have h5:sv p s[i]=true:=by grind [sv]
     show BC (vb true) (vb (s.any (sv p)))
     grind [BC.refl]
    .intro h4;refine Yi (by grind [Az]) (Xi ⟨i+1,by omega,fun j hj G8=>?_⟩ ?_)
     .grind [sv]
     .exact⟨Dl s.length i ch,Z3,Tv,Fh,Tv⟩
   .intro h3;refine Yi (by grind [Az]) (Xi ⟨i+1,by omega,fun j hj G8=>?_⟩ ?_)
    .grind [sv]
    .exact⟨Dl s.length i ch,Z3,Tv,Fh,Tv⟩
  .intro h;have h:¬i<s.length:=B0
   show BC (vb false) (vb (s.any (sv p)))
   grind [vT,BC.refl]
theorem wl(n:Int):PC 179 [vi n] (vb (decide (okPart n))):=by
 refine Ps CQ func179 rfl (Nz rfl) (Yi ?_ ?_)
 .intro h;refine Yi ?_ ?_
  .intro h2;show BC (vb true) (vb (decide (okPart n)));rw[AB ⟨h,h2⟩];exact .refl _
  .intro h2;show BC (vb false) (vb (decide (okPart n)));rw[Aw fun q=>h2 q.2];exact .refl _
 .intro h;show BC (vb false) (vb (decide (okPart n)));rw[Aw fun q=>h q.1];exact .refl _
theorem Aa5:PC 122 [.agg (CK v)] (vb (BN v)):=by
 have ha:=wl v.a;have hb:=wl v.b;have hc:=wl v.c;unfold BN;cases h1:decide (okPart v.a)with
 |false=>
  rw[h1]at ha;refine Ps CQ func122 rfl (Nz rfl) ?_;exact C1 (C2 ha (.refl _))
 |true=>
  rw[h1]at ha;cases h2:decide (okPart v.b)with
  |false=>
   rw[h2]at hb;refine Ps CQ func122 rfl (Nz rfl) ?_;exact C1 (C2 ha (C1 (C2 hb (.refl _))))
  |true=>
   rw[h2]at hb;refine Ps CQ func122 rfl (Nz rfl) ?_;exact C1 (C2 ha (C1 (C2 hb (C1 (C2 hc (.refl _))))))
abbrev TR(a:An):List AV:=[vb a.found,sl Ab a.sel,sl Dy a.infs,sl Cb a.skips]
theorem wd:PC 141 [.agg (Au r)] (.agg (Ab ⟨r.path,r.ver⟩)):=by
 refine Ps CQ func141 rfl (Nz rfl) ?_;exact Yi (Nz rfl) (Yi (Nz rfl) (Yi (Nz rfl) (.refl _)))
theorem c75(hl:BD l):PC 117 [sl Ag l,sl Ag m] (vb (decide (l=m))):=by
 refine Ps CQ func117 rfl (Nz rfl) (Yi ?_ ?_)
 .intro h
  have:l≠m:=fun e=>h (by rw[e])
  rw[Aw this];exact .refl _
 .intro h;have Dr:l.length=m.length:=aa0
  refine Xi {i:Nat // i<=l.length/\l.take i=m.take i} (Xi (fun i=>⟨[(0,sl Ag l),(1,sl Ag m),(5,vi i.1)],[],Ae⟩) (Xi (fun i=>l.length-i.1) (Yi (Xi ⟨0,by simp⟩ ?_) ?_)))
  .exact⟨Z3,Tv,Fh,Tv⟩
  .intro⟨i,h1,h2⟩;refine Yi ?_ ?_
   .intro h;have h:i<l.length:=B0
    have h' : i<m.length:=ch
    have hg:l[i]?=some l[i]:=Ge h;have ly : m[i]?=some m[i]:=Ge h';refine Xi (Ag l[i]) (Yi (Yi ch B0) (Yi rfl (yN ?_)));refine Xi (Ag m[i]) (Yi (Yi ch B0) (Yi rfl (yN ?_)));refine Yi ?_ ?_
    .intro h5;have e:l[i]=m[i]:=SJ.1 h5;refine Yi aa1 (Yi (by grind [Az]) (Xi ⟨i+1,by omega,?_⟩ ?_))
     .grind [List.take_add_one]
     .exact⟨Dl l.length i ch,Z3,Tv,Fh,Tv⟩
    .intro h5;refine Yi aa1 ?_
     have:l≠m:=fun e=>h5 (SJ.2 B0)
     rw[Aw this];exact .refl _
   .intro h;have h:¬i<l.length:=B0
    have e:l=m:=by
     grind
    rw[AB e];exact .refl _
end Go.Eng
namespace Go.Eng
open Go.Proofs Go.Proofs.Tryz Go.Shelf Go.RowKit Go.Lib Go.Sort
variable (k:Nat)
theorem gx(x y:SpA):ltOf cfSpA x y=decide (x.1.1<y.1.1):=by
 unfold ltOf cfSpA;rw[Eu];simp only[Bj];omega
theorem pU:SWO (ltOf cfSpA) where
 irrefl x:=by rw[gx];simp
 trans x y z h1 h2:=by rw[gx]at *;simp at *;omega
 ntrans x y z h1 h2:=by rw[gx]at *;simp at *;omega
theorem UB:∀x y:List UInt8,decide (Lib.compareBytes x y<0)=IJ x y
 | [],[]=>rfl
 | [],_::_=>rfl
 |_::_,[]=>rfl
 |a::x,b::y=>by
  unfold Lib.compareBytes IJ
  by_cases h:a<b
  .simp[h]
  .by_cases h2:b<a
   .have:¬a=b:=fun e=>by subst e;exact absurd h2 (UInt8.lt_irrefl a)
    simp[h,h2,this]
   .have e:a=b:=UInt8.le_antisymm (UInt8.not_lt.1 h2) (UInt8.not_lt.1 h);subst e;simp[UInt8.lt_irrefl,UB x y]
theorem gy(x y:TmA):ltOf cfTmA x y=Dq x.1 y.1:=UB _ _
theorem pV:SWO (ltOf cfTmA) where
 irrefl x:=by rw[gy];exact Cm _
 trans x y z h1 h2:=by rw[gy]at *;exact DF h1 h2
 ntrans x y z h1 h2:=by
  rw[gy]at *
  rw[BY];intro h;cases hyx:Dq y.1 x.1 with
  |true=>have:=DF hyx h;rw[h2]at this;cases this
  |false=>
   have e:=Hd h1 hyx;rw[e]at h;rw[h2]at h;cases h
abbrev Ye:Value:=.func (.func k) #[] #[]
theorem ZX {fn : Func}{c : Code}(hf : Tryz.prog.funcs[k]? = some fn)(hn : (fn.name == "runtime.NumGoroutine") = false)(hb : fn.body = some c) : FL Tryz.prog k:=jh hf hn hb
theorem Aeg(l:List (Int×Int))(hl:BD l)(h:∀x∈l,0<=x.1/\x.1<=1000000)(lim:Nat)(aB:lim<100) :
  AU Tryz.prog 290 [.msl 1000 l.length,vi 0,vi l.length,vi lim,.v (Ye 236)] (Ak [(1000,.arr 2 (l.map Ag))] Ae) fun r h'=>
   r=.tup []/\∃l' : List (Int×Int),l'.Perm l/\l'.Pairwise (fun x y=>x.1<=y.1)/\h'=Ak [(1000,.arr 2 (l'.map Ag))] Ae:=by
 have hl:l.length<=1073741824:=hl;have hE:FL Tryz.prog 290:=ZX 290 func290 aa1 rfl;have eg:∀args w,(callFunc 236 args).run Tryz.prog w=.ok (.enter 236 args) w:=enters_of func236 aa1 rfl;have I4:=Jy (P:=Tryz.prog) (f:=290) (α:=SpA) (rest:=[.int .i64 0,.int .i64 l.length,.int .i64 lim,Ye 236]) hE Ag encSpA (k:=2) (fun _=>rfl) (fun _=>rfl) (ltOf cfSpA) (fun x a=>a.1=x) l ch ?_ ?_ ?_
 .refine⟨hE,fun g w vals q1 q2 q3=>(I4.2 g w vals q1 q2 q3).mono fun _ _ ⟨v,r,h',g',e1,⟨e2,l',p1,⟨al,a1,a2,a3⟩,p2⟩,rest⟩=>⟨v,r,h',g',e1,⟨e2,l',p1,?_,p2⟩,rest⟩⟩;rw[Bz]at a3⊢;intro i j hi hj az
  have:=a3 i j ch ch az
  rw[gx]at this;have e1:=a2 i _ _ (A0 hi) (A0 ch);have e2:=a2 j _ _ (A0 hj) (A0 ch);rw[<-e1,<-e2]
  have:=PT this
  omega
 .intro x hx g w vs hr
  match vs,hr with
  | [a,b],hr=>
   have h1:=(hr.2.2 0 (vi x.1) a rfl rfl).v_eq;have h2:=(hr.2.2 1 (vi x.2) b rfl rfl).v_eq;subst h1;subst h2;exact⟨⟨x,h x hx⟩,rfl,rfl⟩
  | [],hr=>have:=hr.1;simp at this
  | [_],hr=>have:=hr.1;simp at this
  |_::_::_::_,hr=>have:=hr.1;simp at this
 .intro w b cap d hH hb FE hdl;have nD:CmpLays Tryz.prog 236 #[] encSpA 2 cfSpA b 0 d.size w:=fun _ _ _ _ x y=>Tryz.closure236 x y _;have hp:=AnyQ.pdqsortCmpFunc_all Tryz.layPdqSpan 2 isAgg92 sizeOf92 encSpA cfSpA 236 #[] pU b 0 cap d w eg nD ⟨fun _=>rfl,fun x v hv=>by simp[encSpA]at hv;rcases hv with rfl | rfl<;>rfl,hH,hb⟩ (d.size+1) 0 d.size lim d w ch rfl (SWK.start hH) (Aj _) (Ao _) FE ch (Or.inl rfl)
  rw[hdl]at hp⊢;refine hp.mono ?_
  rintro e w' ⟨rfl,n,os,rfl⟩
  have h:=pdq_sorts (ltOf cfSpA) pU d 0 d.size lim true true (Aj _) (Ao _) (Or.inl rfl);rw[hdl]at h;exact⟨rfl,_,n,os,h.1,h.2,rfl⟩
 .intro e w;subst e;exact AnyF.pdqsortCmpFunc_none Tryz.layPdqSpan none 0 lim (Ye 236) w
theorem AdV(l:List Tm)(hl:BD l)(lim:Nat)(aB:lim<100) :
  AU Tryz.prog 368 [.msl 1000 l.length,vi 0,vi l.length,vi lim,.v (Ye 351)] (Ak [(1000,.arr 3 (l.map AH))] Ae) fun r h'=>
   r=.tup []/\∃l' : List Tm,l'.Perm l/\l'.Pairwise (fun x y=>Dq y.path x.path=false)/\h'=Ak [(1000,.arr 3 (l'.map AH))] Ae:=by
 have hl:l.length<=1073741824:=hl;have hE:FL Tryz.prog 368:=ZX 368 func368 aa1 rfl;have eg:∀args w,(callFunc 351 args).run Tryz.prog w=.ok (.enter 351 args) w:=enters_of func351 aa1 rfl;have I4:=Jy (P:=Tryz.prog) (f:=368) (α:=TmA) (rest:=[.int .i64 0,.int .i64 l.length,.int .i64 lim,Ye 351]) hE AH encTmA (k:=3) (fun _=>rfl) (fun _=>rfl) (ltOf cfTmA) (fun x a=>a.1=x.path) l ch ?_ ?_ ?_
 .refine⟨hE,fun g w vals q1 q2 q3=>(I4.2 g w vals q1 q2 q3).mono fun _ _ ⟨v,r,h',g',e1,⟨e2,l',p1,⟨al,a1,a2,a3⟩,p2⟩,rest⟩=>⟨v,r,h',g',e1,⟨e2,l',p1,?_,p2⟩,rest⟩⟩;rw[Bz]at a3⊢;intro i j hi hj az
  have:=a3 i j ch ch az
  rw[gy]at this;have e1:=a2 i _ _ (A0 hi) (A0 ch);have e2:=a2 j _ _ (A0 hj) (A0 ch);rw[<-e1,<-e2];exact this
 .intro x hx g w vs hr
  match vs,hr with
  | [a,b,c],hr=>
   have h1:=(hr.2.2 0 (Go.Eng.vs x.path) a rfl rfl).v_eq;subst h1;exact⟨⟨x.path,⟨b,hr.2.1 b Cl⟩,⟨c,hr.2.1 c Cl⟩⟩,rfl,rfl⟩
  | [],hr=>have:=hr.1;simp at this
  | [_],hr=>have:=hr.1;simp at this
  | [_,_],hr=>have:=hr.1;simp at this
  |_::_::_::_::_,hr=>have:=hr.1;simp at this
 .intro w b cap d hH hb FE hdl;have nD:CmpLays Tryz.prog 351 #[] encTmA 3 cfTmA b 0 d.size w:=fun _ _ _ _ x y=>Tryz.closure351 x y _;have hp:=AnyQ.pdqsortCmpFunc_all Tryz.layPdqTerm 3 isAgg343 sizeOf343 encTmA cfTmA 351 #[] pV b 0 cap d w eg nD ⟨fun _=>rfl,fun x v hv=>by
    simp only[encTmA,AZ,L8,or_false]at hv;rcases hv with rfl | rfl | rfl
    .rfl
    .exact x.2.1.2
    .exact x.2.2.2,hH,hb⟩ (d.size+1) 0 d.size lim d w ch rfl (SWK.start hH) (Aj _) (Ao _) FE ch (Or.inl rfl)
  rw[hdl]at hp⊢;refine hp.mono ?_
  rintro e w' ⟨rfl,n,os,rfl⟩
  have h:=pdq_sorts (ltOf cfTmA) pV d 0 d.size lim true true (Aj _) (Ao _) (Or.inl rfl);rw[hdl]at h;exact⟨rfl,_,n,os,h.1,h.2,rfl⟩
 .intro e w;subst e;exact AnyF.pdqsortCmpFunc_none Tryz.layPdqTerm none 0 lim (Ye 351) w
end Go.Eng
namespace Go.Eng
open Go.Proofs
-- the checker,and what reads it
theorem nY:∀(s:List Sl) (i:Nat) (h:i+1<s.length),MB (some s[i].path) (s.drop (i+1))=(Dq s[i].path s[i+1].path&&MB (some s[i+1].path) (s.drop (i+2))):=fun s i h=>by
 rw[AD h];rfl
theorem DZ(a b:CS):Dq a b=Op.bytesLess a.toList b.toList:=by
 have:∀x y:List UInt8,IJ x y=Op.bytesLess x y:=by
  intro x
  induction x with
  |nil=>intro y;cases y<;>rfl
  |cons a x ih=>
   intro y;cases y with
   |nil=>rfl
   |cons b y=>
    unfold IJ Op.bytesLess;rw[ih];rw[Eu];simp
 grind [Dq,ByteArray.toList_eq]
end Go.Eng
