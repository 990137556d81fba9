/- Lemmas 18. -/
import Derived.Test.YteaiieomnhbmgaaGreatDoorFA16
import Derived.Test.YteaiieomnhbmgaaGreatDoorFA02
import Derived.Shelf.SlSortCmp.WholeK
import Derived.Shelf.Sort.Plain
import Derived.Shelf.Small.Strs
import Derived.Shelf.Small.Bits
import Derived.Ground.SlsfProg
import Derived.Ground.NamesProg
import Derived.Shelf.SlSortCmp.NoneTotal
set_option maxHeartbeats 1000000
namespace Go.Eng
open Go.Proofs
variable {α:Type}{b0 b1 b2 b3:Bool}{a0:α}{b4:Bool}{a1:α}{b5:Bool}{a2 a3:α}{b6:Bool}{a4:α}{b7:Bool}{a5 a6:α}{b8:Bool}{a7:α}{b9:Bool}{a8:α}{Xo:Bool}{a9:α}{l:List α}{af:α}(i:Nat)(pl:Tt)(b:Bool)
abbrev vi(n:Int):AV:=.v (.int .i64 n)
abbrev vb:AV:=.v (.bool b)
abbrev vs(s:ByteArray):AV:=.v (.string s)
abbrev sl(enc:α->List AV)(l:List α):AV:=.slice .none (l.map enc)
abbrev DE(v:Ver):List AV:=[vi v.a,vi v.b,vi v.c]
abbrev AE(s:Int×Int):List AV:=[vi s.1,vi s.2]
abbrev AW(q:Rq):List AV:=[vs q.path,sl AE q.set]
abbrev AC(r:Rl):List AV:=[vs r.path,vi r.ver.a,vi r.ver.b,vi r.ver.c,sl AW r.reqs,vs r.arch,vs r.ifc,vs r.cert,vb r.yanked]
abbrev Aq(s:Sl):List AV:=[vs s.path,vi s.ver.a,vi s.ver.b,vi s.ver.c]
abbrev AO(t:Tm):List AV:=[vs t.path,vb t.absent,sl AE t.set]
abbrev DB(i:Nf):List AV:=[vi i.kind,vs i.path,vi i.place,vi i.number,vi i.left,vi i.right]
abbrev CG(s:Sk):List AV:=[vs s.path,vi s.place,vi s.inf]
noncomputable abbrev jp:Cx:=⟨Tryz.prog,sq,pl,false,0,fun _ _ _ _ => True⟩
noncomputable abbrev No:Cx:=⟨Tryz.prog,sq,pl,true,0,fun _ _ _ _ => True⟩
abbrev Ej:Tt:=⟨[],[],[],[],[],[],[],[],[],[],[]⟩
abbrev PC(f:Nat)(args:List AV)(res:AV):Prop:=Jp Tryz.prog f args res
theorem hm:Tryz.prog.follows .mixedOrders = true:=by rfl
theorem Zr{α:Sort _}{β:Sort _}{a:α}{b:β}:a = a/\b = b:=⟨rfl,rfl⟩
theorem Nz{a b:Nat}(h:Nat.ble a b = true):a <= b:=GE h
theorem Xi{α:Sort _}{p:α->Prop}(w:α)(h:p w):Exists p:=Exists.intro w h
theorem Yi{a b:Prop}(h:a)(k:b):a/\b:=And.intro h k
theorem Fh{st:St}{h:Nat->HO}:∀j,Ag j = .free \/ (st.h j = Ag j/\TF h (Ag j) = true):=fun _ => .inl rfl
theorem Tv:True:=trivial
theorem Ii(h:i <= 9223372036854775806):Bc ((i:Int) + 1):=by unfold Bc;omega
theorem Dl(n i:Nat)(h:i<n):n-(i + 1)<n-i:=by omega
theorem Bt:b = true \/ b = false:=Bool.eq_false_or_eq_true b
theorem Z1:(a0 = a0/\b0 = b0)/\True:=⟨⟨rfl,rfl⟩,trivial⟩
theorem Z2:(a0 = a0/\b0 = b0)/\(a1 = a1/\b1 = b1)/\True:=⟨⟨rfl,rfl⟩,⟨rfl,rfl⟩,trivial⟩
theorem Z3:(a0 = a0/\b0 = b0)/\(a1 = a1/\b1 = b1)/\(a2 = a2/\b2 = b2)/\True:=⟨⟨rfl,rfl⟩,⟨rfl,rfl⟩,⟨rfl,rfl⟩,trivial⟩
theorem Z4:(a0 = a0/\b0 = b0)/\(a1 = a1/\b1 = b1)/\(a2 = a2/\b2 = b2)/\(a3 = a3/\b3 = b3)/\True:=⟨⟨rfl,rfl⟩,⟨rfl,rfl⟩,⟨rfl,rfl⟩,⟨rfl,rfl⟩,trivial⟩
theorem Z5:(a0 = a0/\b0 = b0)/\(a1 = a1/\b1 = b1)/\(a2 = a2/\b2 = b2)/\(a3 = a3/\b3 = b3)/\(a4 = a4/\b4 = b4)/\True:=⟨⟨rfl,rfl⟩,⟨rfl,rfl⟩,⟨rfl,rfl⟩,⟨rfl,rfl⟩,⟨rfl,rfl⟩,trivial⟩
theorem Z6:(a0 = a0/\b0 = b0)/\(a1 = a1/\b1 = b1)/\(a2 = a2/\b2 = b2)/\(a3 = a3/\b3 = b3)/\(a4 = a4/\b4 = b4)/\(a5 = a5/\b5 = b5)/\True:=⟨⟨rfl,rfl⟩,⟨rfl,rfl⟩,⟨rfl,rfl⟩,⟨rfl,rfl⟩,⟨rfl,rfl⟩,⟨rfl,rfl⟩,trivial⟩
theorem Z7:(a0 = a0/\b0 = b0)/\(a1 = a1/\b1 = b1)/\(a2 = a2/\b2 = b2)/\(a3 = a3/\b3 = b3)/\(a4 = a4/\b4 = b4)/\(a5 = a5/\b5 = b5)/\(a6 = a6/\b6 = b6)/\True:=⟨⟨rfl,rfl⟩,⟨rfl,rfl⟩,⟨rfl,rfl⟩,⟨rfl,rfl⟩,⟨rfl,rfl⟩,⟨rfl,rfl⟩,⟨rfl,rfl⟩,trivial⟩
theorem Z8:(a0 = a0/\b0 = b0)/\(a1 = a1/\b1 = b1)/\(a2 = a2/\b2 = b2)/\(a3 = a3/\b3 = b3)/\(a4 = a4/\b4 = b4)/\(a5 = a5/\b5 = b5)/\(a6 = a6/\b6 = b6)/\(a7 = a7/\b7 = b7)/\True:=⟨⟨rfl,rfl⟩,⟨rfl,rfl⟩,⟨rfl,rfl⟩,⟨rfl,rfl⟩,⟨rfl,rfl⟩,⟨rfl,rfl⟩,⟨rfl,rfl⟩,⟨rfl,rfl⟩,trivial⟩
theorem Z9:(a0 = a0/\b0 = b0)/\(a1 = a1/\b1 = b1)/\(a2 = a2/\b2 = b2)/\(a3 = a3/\b3 = b3)/\(a4 = a4/\b4 = b4)/\(a5 = a5/\b5 = b5)/\(a6 = a6/\b6 = b6)/\(a7 = a7/\b7 = b7)/\(a8 = a8/\b8 = b8)/\True:=⟨⟨rfl,rfl⟩,⟨rfl,rfl⟩,⟨rfl,rfl⟩,⟨rfl,rfl⟩,⟨rfl,rfl⟩,⟨rfl,rfl⟩,⟨rfl,rfl⟩,⟨rfl,rfl⟩,⟨rfl,rfl⟩,trivial⟩
theorem Z10:(a0 = a0/\b0 = b0)/\(a1 = a1/\b1 = b1)/\(a2 = a2/\b2 = b2)/\(a3 = a3/\b3 = b3)/\(a4 = a4/\b4 = b4)/\(a5 = a5/\b5 = b5)/\(a6 = a6/\b6 = b6)/\(a7 = a7/\b7 = b7)/\(a8 = a8/\b8 = b8)/\(a9 = a9/\b9 = b9)/\True:=⟨⟨rfl,rfl⟩,⟨rfl,rfl⟩,⟨rfl,rfl⟩,⟨rfl,rfl⟩,⟨rfl,rfl⟩,⟨rfl,rfl⟩,⟨rfl,rfl⟩,⟨rfl,rfl⟩,⟨rfl,rfl⟩,⟨rfl,rfl⟩,trivial⟩
theorem Z11:(a0 = a0/\b0 = b0)/\(a1 = a1/\b1 = b1)/\(a2 = a2/\b2 = b2)/\(a3 = a3/\b3 = b3)/\(a4 = a4/\b4 = b4)/\(a5 = a5/\b5 = b5)/\(a6 = a6/\b6 = b6)/\(a7 = a7/\b7 = b7)/\(a8 = a8/\b8 = b8)/\(a9 = a9/\b9 = b9)/\(af = af/\Xo = Xo)/\True:=⟨⟨rfl,rfl⟩,⟨rfl,rfl⟩,⟨rfl,rfl⟩,⟨rfl,rfl⟩,⟨rfl,rfl⟩,⟨rfl,rfl⟩,⟨rfl,rfl⟩,⟨rfl,rfl⟩,⟨rfl,rfl⟩,⟨rfl,rfl⟩,⟨rfl,rfl⟩,trivial⟩
theorem Z12{fP:α}{ut:Bool}:(a0 = a0/\b0 = b0)/\(a1 = a1/\b1 = b1)/\(a2 = a2/\b2 = b2)/\(a3 = a3/\b3 = b3)/\(a4 = a4/\b4 = b4)/\(a5 = a5/\b5 = b5)/\(a6 = a6/\b6 = b6)/\(a7 = a7/\b7 = b7)/\(a8 = a8/\b8 = b8)/\(a9 = a9/\b9 = b9)/\(af = af/\Xo = Xo)/\(fP = fP/\ut = ut)/\True:=⟨⟨rfl,rfl⟩,⟨rfl,rfl⟩,⟨rfl,rfl⟩,⟨rfl,rfl⟩,⟨rfl,rfl⟩,⟨rfl,rfl⟩,⟨rfl,rfl⟩,⟨rfl,rfl⟩,⟨rfl,rfl⟩,⟨rfl,rfl⟩,⟨rfl,rfl⟩,⟨rfl,rfl⟩,trivial⟩
theorem Z13{fP a12:α}{ut xm:Bool}:(a0 = a0/\b0 = b0)/\(a1 = a1/\b1 = b1)/\(a2 = a2/\b2 = b2)/\(a3 = a3/\b3 = b3)/\(a4 = a4/\b4 = b4)/\(a5 = a5/\b5 = b5)/\(a6 = a6/\b6 = b6)/\(a7 = a7/\b7 = b7)/\(a8 = a8/\b8 = b8)/\(a9 = a9/\b9 = b9)/\(af = af/\Xo = Xo)/\(fP = fP/\ut = ut)/\(a12 = a12/\xm = xm)/\True:=⟨⟨rfl,rfl⟩,⟨rfl,rfl⟩,⟨rfl,rfl⟩,⟨rfl,rfl⟩,⟨rfl,rfl⟩,⟨rfl,rfl⟩,⟨rfl,rfl⟩,⟨rfl,rfl⟩,⟨rfl,rfl⟩,⟨rfl,rfl⟩,⟨rfl,rfl⟩,⟨rfl,rfl⟩,⟨rfl,rfl⟩,trivial⟩
theorem Nn:(0:Int) <= (i:Int):=Ip i
abbrev Ic(x:List Rl)(ifs:List (List AV)):List AV:=[sl AC x,.slice .none ifs]
theorem Ps{f:Nat}{fn:Func}{c:Code}{args:List AV}{res:AV}(hf:Tryz.prog.funcs[f]? = some fn)(hb:fn.body = some c)(hN:args.length <= fn.ntmps)(hk:Tw (jp pl) c (uN (jp pl) fn.results.toList fun r => CX r res) ⟨Qh args,Ag⟩)(hn:(fn.name == "runtime.NumGoroutine") = false:=by kernel_rfl)(hc:ER fn.ntmps c = true:=by kernel_rfl):Jp Tryz.prog f args res:=Gc (jp pl) rfl C3 hm rfl hf hn hb hN hc hk
theorem Lm{β:Type}(f:α->β):(l.map f).length = l.length:=A7 f
theorem Ge{i:Nat}(h:i<l.length):l[i]? = some l[i]:=AD h
end Go.Eng
namespace Go.Proofs
open Go.Shelf
def Tryz.layPdqSpan_ren:Go.Shelf.Ren:=⟨fun|14=>290|20=>325|21=>326|22=>327|23=>328|24=>329|25=>330|26=>331|27=>332|46=>359|47=>277|48=>278|49=>360|50=>361|15=>161|57=>374|28=>228|29=>229|n=>n,fun|24=>92|22=>50|3=>3|25=>324|4=>4|0=>0|46=>316|45=>315|50=>214|66=>357|39=>99|55=>98|70=>361|76=>389|77=>390|53=>229|5=>5|9=>9|n=>n,fun|n=>n⟩
theorem Tryz.layPdqSpan:Go.Proofs.SlLaysF0.n14 Tryz.prog Tryz.layPdqSpan_ren:={
 mixed:=by kernel_rfl
 f14:=⟨Tryz.f290.name,by decide,Tryz.func290.trans (congrArg some Go.Eng.Wk)⟩
 f15:=Tryz.func161.trans (congrArg some Go.Eng.Wk)
 f20:=⟨Tryz.f325.name,by decide,Tryz.func325.trans (congrArg some Go.Eng.Wk)⟩
 f21:=⟨Tryz.f326.name,by decide,Tryz.func326.trans (congrArg some Go.Eng.Wk)⟩
 f22:=⟨Tryz.f327.name,by decide,Tryz.func327.trans (congrArg some Go.Eng.Wk)⟩
 f23:=⟨Tryz.f328.name,by decide,Tryz.func328.trans (congrArg some Go.Eng.Wk)⟩
 f24:=⟨Tryz.f329.name,by decide,Tryz.func329.trans (congrArg some Go.Eng.Wk)⟩
 f25:=⟨Tryz.f330.name,by decide,Tryz.func330.trans (congrArg some Go.Eng.Wk)⟩
 f26:=⟨Tryz.f331.name,by decide,Tryz.func331.trans (congrArg some Go.Eng.Wk)⟩
 f27:=⟨Tryz.f332.name,by decide,Tryz.func332.trans (congrArg some Go.Eng.Wk)⟩
 f28:=Tryz.func228.trans (congrArg some Go.Eng.Wk)
 f29:=Tryz.func229.trans (congrArg some Go.Eng.Wk)
 f46:=⟨Tryz.f359.name,by decide,Tryz.func359.trans (congrArg some Go.Eng.Wk)⟩
 f47:=Tryz.func277.trans (congrArg some Go.Eng.Wk)
 f48:=Tryz.func278.trans (congrArg some Go.Eng.Wk)
 f49:=⟨Tryz.f360.name,by decide,Tryz.func360.trans (congrArg some Go.Eng.Wk)⟩
 f50:=⟨Tryz.f361.name,by decide,Tryz.func361.trans (congrArg some Go.Eng.Wk)⟩
 f57:=⟨Tryz.f374.name,by decide,Tryz.func374.trans (congrArg some Go.Eng.Wk)⟩
 t0:=Tryz.underlying0
 a0:=Tryz.isAgg0
 z0:=Tryz.sizeOf0
 v0:=Tryz.zeroValue0
 t3:=Tryz.underlying3
 a3:=Tryz.isAgg3
 z3:=Tryz.sizeOf3
 v3:=Tryz.zeroValue3
 t4:=Tryz.underlying4
 a4:=Tryz.isAgg4
 z4:=Tryz.sizeOf4
 v4:=Tryz.zeroValue4
 t5:=Tryz.underlying5
 a5:=Tryz.isAgg5
 z5:=Tryz.sizeOf5
 v5:=Tryz.zeroValue5
 t9:=Tryz.underlying9
 a9:=Tryz.isAgg9
 z9:=Tryz.sizeOf9
 v9:=Tryz.zeroValue9
 t22:=Tryz.underlying50
 a22:=Tryz.isAgg50
 z22:=Tryz.sizeOf50
 v22:=Tryz.zeroValue50
 t25:=Tryz.underlying324
 a25:=Tryz.isAgg324
 z25:=Tryz.sizeOf324
 v25:=Tryz.zeroValue324
 t39:=Tryz.underlying99
 a39:=Tryz.isAgg99
 z39:=Tryz.sizeOf99
 v39:=Tryz.zeroValue99
 t45:=Tryz.underlying315
 a45:=Tryz.isAgg315
 z45:=Tryz.sizeOf315
 v45:=Tryz.zeroValue315
 t46:=Tryz.underlying316
 a46:=Tryz.isAgg316
 z46:=Tryz.sizeOf316
 v46:=Tryz.zeroValue316
 t50:=Tryz.underlying214
 a50:=Tryz.isAgg214
 z50:=Tryz.sizeOf214
 v50:=Tryz.zeroValue214
 t53:=Tryz.underlying229
 a53:=Tryz.isAgg229
 z53:=Tryz.sizeOf229
 v53:=Tryz.zeroValue229
 t55:=Tryz.underlying98
 a55:=Tryz.isAgg98
 z55:=Tryz.sizeOf98
 v55:=Tryz.zeroValue98
 t66:=Tryz.underlying357
 a66:=Tryz.isAgg357
 z66:=Tryz.sizeOf357
 v66:=Tryz.zeroValue357
 t70:=Tryz.underlying361
 a70:=Tryz.isAgg361
 z70:=Tryz.sizeOf361
 v70:=Tryz.zeroValue361
 t76:=Tryz.underlying389
 a76:=Tryz.isAgg389
 z76:=Tryz.sizeOf389
 v76:=Tryz.zeroValue389
 t77:=Tryz.underlying390
 a77:=Tryz.isAgg390
 z77:=Tryz.sizeOf390
 v77:=Tryz.zeroValue390 }
def Tryz.layPdqTerm_ren:Go.Shelf.Ren:=⟨fun|14=>368|20=>378|21=>379|22=>380|23=>381|24=>382|25=>383|26=>384|27=>385|46=>401|47=>277|48=>278|49=>402|50=>403|15=>161|57=>409|28=>228|29=>229|n=>n,fun|24=>343|22=>282|3=>3|25=>412|4=>4|0=>0|46=>316|45=>315|50=>214|66=>357|39=>99|55=>98|70=>361|76=>389|77=>390|53=>229|5=>5|9=>9|n=>n,fun|n=>n⟩
theorem Tryz.layPdqTerm:Go.Proofs.SlLaysF0.n14 Tryz.prog Tryz.layPdqTerm_ren:={
 mixed:=by kernel_rfl
 f14:=⟨Tryz.f368.name,by decide,Tryz.func368.trans (congrArg some Go.Eng.Wk)⟩
 f15:=Tryz.func161.trans (congrArg some Go.Eng.Wk)
 f20:=⟨Tryz.f378.name,by decide,Tryz.func378.trans (congrArg some Go.Eng.Wk)⟩
 f21:=⟨Tryz.f379.name,by decide,Tryz.func379.trans (congrArg some Go.Eng.Wk)⟩
 f22:=⟨Tryz.f380.name,by decide,Tryz.func380.trans (congrArg some Go.Eng.Wk)⟩
 f23:=⟨Tryz.f381.name,by decide,Tryz.func381.trans (congrArg some Go.Eng.Wk)⟩
 f24:=⟨Tryz.f382.name,by decide,Tryz.func382.trans (congrArg some Go.Eng.Wk)⟩
 f25:=⟨Tryz.f383.name,by decide,Tryz.func383.trans (congrArg some Go.Eng.Wk)⟩
 f26:=⟨Tryz.f384.name,by decide,Tryz.func384.trans (congrArg some Go.Eng.Wk)⟩
 f27:=⟨Tryz.f385.name,by decide,Tryz.func385.trans (congrArg some Go.Eng.Wk)⟩
 f28:=Tryz.func228.trans (congrArg some Go.Eng.Wk)
 f29:=Tryz.func229.trans (congrArg some Go.Eng.Wk)
 f46:=⟨Tryz.f401.name,by decide,Tryz.func401.trans (congrArg some Go.Eng.Wk)⟩
 f47:=Tryz.func277.trans (congrArg some Go.Eng.Wk)
 f48:=Tryz.func278.trans (congrArg some Go.Eng.Wk)
 f49:=⟨Tryz.f402.name,by decide,Tryz.func402.trans (congrArg some Go.Eng.Wk)⟩
 f50:=⟨Tryz.f403.name,by decide,Tryz.func403.trans (congrArg some Go.Eng.Wk)⟩
 f57:=⟨Tryz.f409.name,by decide,Tryz.func409.trans (congrArg some Go.Eng.Wk)⟩
 t0:=Tryz.underlying0
 a0:=Tryz.isAgg0
 z0:=Tryz.sizeOf0
 v0:=Tryz.zeroValue0
 t3:=Tryz.underlying3
 a3:=Tryz.isAgg3
 z3:=Tryz.sizeOf3
 v3:=Tryz.zeroValue3
 t4:=Tryz.underlying4
 a4:=Tryz.isAgg4
 z4:=Tryz.sizeOf4
 v4:=Tryz.zeroValue4
 t5:=Tryz.underlying5
 a5:=Tryz.isAgg5
 z5:=Tryz.sizeOf5
 v5:=Tryz.zeroValue5
 t9:=Tryz.underlying9
 a9:=Tryz.isAgg9
 z9:=Tryz.sizeOf9
 v9:=Tryz.zeroValue9
 t22:=Tryz.underlying282
 a22:=Tryz.isAgg282
 z22:=Tryz.sizeOf282
 v22:=Tryz.zeroValue282
 t25:=Tryz.underlying412
 a25:=Tryz.isAgg412
 z25:=Tryz.sizeOf412
 v25:=Tryz.zeroValue412
 t39:=Tryz.underlying99
 a39:=Tryz.isAgg99
 z39:=Tryz.sizeOf99
 v39:=Tryz.zeroValue99
 t45:=Tryz.underlying315
 a45:=Tryz.isAgg315
 z45:=Tryz.sizeOf315
 v45:=Tryz.zeroValue315
 t46:=Tryz.underlying316
 a46:=Tryz.isAgg316
 z46:=Tryz.sizeOf316
 v46:=Tryz.zeroValue316
 t50:=Tryz.underlying214
 a50:=Tryz.isAgg214
 z50:=Tryz.sizeOf214
 v50:=Tryz.zeroValue214
 t53:=Tryz.underlying229
 a53:=Tryz.isAgg229
 z53:=Tryz.sizeOf229
 v53:=Tryz.zeroValue229
 t55:=Tryz.underlying98
 a55:=Tryz.isAgg98
 z55:=Tryz.sizeOf98
 v55:=Tryz.zeroValue98
 t66:=Tryz.underlying357
 a66:=Tryz.isAgg357
 z66:=Tryz.sizeOf357
 v66:=Tryz.zeroValue357
 t70:=Tryz.underlying361
 a70:=Tryz.isAgg361
 z70:=Tryz.sizeOf361
 v70:=Tryz.zeroValue361
 t76:=Tryz.underlying389
 a76:=Tryz.isAgg389
 z76:=Tryz.sizeOf389
 v76:=Tryz.zeroValue389
 t77:=Tryz.underlying390
 a77:=Tryz.isAgg390
 z77:=Tryz.sizeOf390
 v77:=Tryz.zeroValue390 }
def Tryz.layPdqSel_ren:Go.Shelf.Ren:=⟨fun|14=>184|20=>244|21=>245|22=>246|23=>247|24=>248|25=>249|26=>250|27=>251|46=>298|47=>277|48=>278|49=>299|50=>300|15=>161|57=>338|28=>228|29=>229|n=>n,fun|24=>48|22=>34|3=>3|25=>211|4=>4|0=>0|46=>316|45=>315|50=>214|66=>357|39=>99|55=>98|70=>361|76=>389|77=>390|53=>229|5=>5|9=>9|n=>n,fun|n=>n⟩
theorem Tryz.layPdqSel:Go.Proofs.SlLaysF0.n14 Tryz.prog Tryz.layPdqSel_ren:={
 mixed:=by kernel_rfl
 f14:=⟨Tryz.f184.name,by decide,Tryz.func184.trans (congrArg some Go.Eng.Wk)⟩
 f15:=Tryz.func161.trans (congrArg some Go.Eng.Wk)
 f20:=⟨Tryz.f244.name,by decide,Tryz.func244.trans (congrArg some Go.Eng.Wk)⟩
 f21:=⟨Tryz.f245.name,by decide,Tryz.func245.trans (congrArg some Go.Eng.Wk)⟩
 f22:=⟨Tryz.f246.name,by decide,Tryz.func246.trans (congrArg some Go.Eng.Wk)⟩
 f23:=⟨Tryz.f247.name,by decide,Tryz.func247.trans (congrArg some Go.Eng.Wk)⟩
 f24:=⟨Tryz.f248.name,by decide,Tryz.func248.trans (congrArg some Go.Eng.Wk)⟩
 f25:=⟨Tryz.f249.name,by decide,Tryz.func249.trans (congrArg some Go.Eng.Wk)⟩
 f26:=⟨Tryz.f250.name,by decide,Tryz.func250.trans (congrArg some Go.Eng.Wk)⟩
 f27:=⟨Tryz.f251.name,by decide,Tryz.func251.trans (congrArg some Go.Eng.Wk)⟩
 f28:=Tryz.func228.trans (congrArg some Go.Eng.Wk)
 f29:=Tryz.func229.trans (congrArg some Go.Eng.Wk)
 f46:=⟨Tryz.f298.name,by decide,Tryz.func298.trans (congrArg some Go.Eng.Wk)⟩
 f47:=Tryz.func277.trans (congrArg some Go.Eng.Wk)
 f48:=Tryz.func278.trans (congrArg some Go.Eng.Wk)
 f49:=⟨Tryz.f299.name,by decide,Tryz.func299.trans (congrArg some Go.Eng.Wk)⟩
 f50:=⟨Tryz.f300.name,by decide,Tryz.func300.trans (congrArg some Go.Eng.Wk)⟩
 f57:=⟨Tryz.f338.name,by decide,Tryz.func338.trans (congrArg some Go.Eng.Wk)⟩
 t0:=Tryz.underlying0
 a0:=Tryz.isAgg0
 z0:=Tryz.sizeOf0
 v0:=Tryz.zeroValue0
 t3:=Tryz.underlying3
 a3:=Tryz.isAgg3
 z3:=Tryz.sizeOf3
 v3:=Tryz.zeroValue3
 t4:=Tryz.underlying4
 a4:=Tryz.isAgg4
 z4:=Tryz.sizeOf4
 v4:=Tryz.zeroValue4
 t5:=Tryz.underlying5
 a5:=Tryz.isAgg5
 z5:=Tryz.sizeOf5
 v5:=Tryz.zeroValue5
 t9:=Tryz.underlying9
 a9:=Tryz.isAgg9
 z9:=Tryz.sizeOf9
 v9:=Tryz.zeroValue9
 t22:=Tryz.underlying34
 a22:=Tryz.isAgg34
 z22:=Tryz.sizeOf34
 v22:=Tryz.zeroValue34
 t25:=Tryz.underlying211
 a25:=Tryz.isAgg211
 z25:=Tryz.sizeOf211
 v25:=Tryz.zeroValue211
 t39:=Tryz.underlying99
 a39:=Tryz.isAgg99
 z39:=Tryz.sizeOf99
 v39:=Tryz.zeroValue99
 t45:=Tryz.underlying315
 a45:=Tryz.isAgg315
 z45:=Tryz.sizeOf315
 v45:=Tryz.zeroValue315
 t46:=Tryz.underlying316
 a46:=Tryz.isAgg316
 z46:=Tryz.sizeOf316
 v46:=Tryz.zeroValue316
 t50:=Tryz.underlying214
 a50:=Tryz.isAgg214
 z50:=Tryz.sizeOf214
 v50:=Tryz.zeroValue214
 t53:=Tryz.underlying229
 a53:=Tryz.isAgg229
 z53:=Tryz.sizeOf229
 v53:=Tryz.zeroValue229
 t55:=Tryz.underlying98
 a55:=Tryz.isAgg98
 z55:=Tryz.sizeOf98
 v55:=Tryz.zeroValue98
 t66:=Tryz.underlying357
 a66:=Tryz.isAgg357
 z66:=Tryz.sizeOf357
 v66:=Tryz.zeroValue357
 t70:=Tryz.underlying361
 a70:=Tryz.isAgg361
 z70:=Tryz.sizeOf361
 v70:=Tryz.zeroValue361
 t76:=Tryz.underlying389
 a76:=Tryz.isAgg389
 z76:=Tryz.sizeOf389
 v76:=Tryz.zeroValue389
 t77:=Tryz.underlying390
 a77:=Tryz.isAgg390
 z77:=Tryz.sizeOf390
 v77:=Tryz.zeroValue390 }
def Tryz.layCompare_ren:Go.Shelf.Ren:=⟨fun|106=>140|213=>195|265=>263|n=>n,fun|9=>9|3=>3|n=>n,fun|n=>n⟩
theorem Tryz.layCompare:Go.Proofs.Lays.n106 Tryz.prog Tryz.layCompare_ren:={
 mixed:=by kernel_rfl
 f106:=Tryz.func140.trans (congrArg some Go.Eng.Wk)
 f213:=Tryz.func195.trans (congrArg some Go.Eng.Wk)
 f265:=Tryz.func263.trans (congrArg some Go.Eng.Wk)
 t3:=Tryz.underlying3
 a3:=Tryz.isAgg3
 z3:=Tryz.sizeOf3
 v3:=Tryz.zeroValue3
 t9:=Tryz.underlying9
 a9:=Tryz.isAgg9
 z9:=Tryz.sizeOf9
 v9:=Tryz.zeroValue9 }
def Tryz.layBits_ren:Go.Shelf.Ren:=⟨fun|125=>161|128=>228|129=>229|n=>n,fun|46=>99|3=>3|51=>229|53=>98|4=>4|5=>5|9=>9|n=>n,fun|n=>n⟩
theorem Tryz.layBits:Go.Proofs.Lays.n125 Tryz.prog Tryz.layBits_ren:={
 mixed:=by kernel_rfl
 f125:=Tryz.func161.trans (congrArg some Go.Eng.Wk)
 f128:=Tryz.func228.trans (congrArg some Go.Eng.Wk)
 f129:=Tryz.func229.trans (congrArg some Go.Eng.Wk)
 t3:=Tryz.underlying3
 a3:=Tryz.isAgg3
 z3:=Tryz.sizeOf3
 v3:=Tryz.zeroValue3
 t4:=Tryz.underlying4
 a4:=Tryz.isAgg4
 z4:=Tryz.sizeOf4
 v4:=Tryz.zeroValue4
 t5:=Tryz.underlying5
 a5:=Tryz.isAgg5
 z5:=Tryz.sizeOf5
 v5:=Tryz.zeroValue5
 t9:=Tryz.underlying9
 a9:=Tryz.isAgg9
 z9:=Tryz.sizeOf9
 v9:=Tryz.zeroValue9
 t46:=Tryz.underlying99
 a46:=Tryz.isAgg99
 z46:=Tryz.sizeOf99
 v46:=Tryz.zeroValue99
 t51:=Tryz.underlying229
 a51:=Tryz.isAgg229
 z51:=Tryz.sizeOf229
 v51:=Tryz.zeroValue229
 t53:=Tryz.underlying98
 a53:=Tryz.isAgg98
 z53:=Tryz.sizeOf98
 v53:=Tryz.zeroValue98 }
def Tryz.laySortInts_ren:Go.Shelf.Ren:=⟨fun|189=>366|125=>161|257=>376|128=>228|129=>229|294=>392|295=>393|296=>394|297=>395|298=>396|299=>397|216=>398|300=>399|301=>400|328=>406|329=>277|330=>278|331=>407|332=>408|215=>265|343=>410|n=>n,fun|28=>271|3=>3|46=>99|0=>0|51=>229|53=>98|4=>4|183=>316|182=>315|131=>214|5=>5|9=>9|218=>357|222=>361|228=>389|229=>390|n=>n,fun|n=>n⟩
theorem Tryz.laySortInts:Go.Proofs.Lays.n189 Tryz.prog Tryz.laySortInts_ren:={
 mixed:=by kernel_rfl
 f125:=Tryz.func161.trans (congrArg some Go.Eng.Wk)
 f128:=Tryz.func228.trans (congrArg some Go.Eng.Wk)
 f129:=Tryz.func229.trans (congrArg some Go.Eng.Wk)
 f189:=Tryz.func366.trans (congrArg some Go.Eng.Wk)
 f215:=Tryz.func265.trans (congrArg some Go.Eng.Wk)
 f216:=Tryz.func398.trans (congrArg some Go.Eng.Wk)
 f257:=Tryz.func376.trans (congrArg some Go.Eng.Wk)
 f294:=Tryz.func392.trans (congrArg some Go.Eng.Wk)
 f295:=Tryz.func393.trans (congrArg some Go.Eng.Wk)
 f296:=Tryz.func394.trans (congrArg some Go.Eng.Wk)
 f297:=Tryz.func395.trans (congrArg some Go.Eng.Wk)
 f298:=Tryz.func396.trans (congrArg some Go.Eng.Wk)
 f299:=Tryz.func397.trans (congrArg some Go.Eng.Wk)
 f300:=Tryz.func399.trans (congrArg some Go.Eng.Wk)
 f301:=Tryz.func400.trans (congrArg some Go.Eng.Wk)
 f328:=Tryz.func406.trans (congrArg some Go.Eng.Wk)
 f329:=Tryz.func277.trans (congrArg some Go.Eng.Wk)
 f330:=Tryz.func278.trans (congrArg some Go.Eng.Wk)
 f331:=Tryz.func407.trans (congrArg some Go.Eng.Wk)
 f332:=Tryz.func408.trans (congrArg some Go.Eng.Wk)
 f343:=Tryz.func410.trans (congrArg some Go.Eng.Wk)
 t0:=Tryz.underlying0
 a0:=Tryz.isAgg0
 z0:=Tryz.sizeOf0
 v0:=Tryz.zeroValue0
 t3:=Tryz.underlying3
 a3:=Tryz.isAgg3
 z3:=Tryz.sizeOf3
 v3:=Tryz.zeroValue3
 t4:=Tryz.underlying4
 a4:=Tryz.isAgg4
 z4:=Tryz.sizeOf4
 v4:=Tryz.zeroValue4
 t5:=Tryz.underlying5
 a5:=Tryz.isAgg5
 z5:=Tryz.sizeOf5
 v5:=Tryz.zeroValue5
 t9:=Tryz.underlying9
 a9:=Tryz.isAgg9
 z9:=Tryz.sizeOf9
 v9:=Tryz.zeroValue9
 t28:=Tryz.underlying271
 a28:=Tryz.isAgg271
 z28:=Tryz.sizeOf271
 v28:=Tryz.zeroValue271
 t46:=Tryz.underlying99
 a46:=Tryz.isAgg99
 z46:=Tryz.sizeOf99
 v46:=Tryz.zeroValue99
 t51:=Tryz.underlying229
 a51:=Tryz.isAgg229
 z51:=Tryz.sizeOf229
 v51:=Tryz.zeroValue229
 t53:=Tryz.underlying98
 a53:=Tryz.isAgg98
 z53:=Tryz.sizeOf98
 v53:=Tryz.zeroValue98
 t131:=Tryz.underlying214
 a131:=Tryz.isAgg214
 z131:=Tryz.sizeOf214
 v131:=Tryz.zeroValue214
 t182:=Tryz.underlying315
 a182:=Tryz.isAgg315
 z182:=Tryz.sizeOf315
 v182:=Tryz.zeroValue315
 t183:=Tryz.underlying316
 a183:=Tryz.isAgg316
 z183:=Tryz.sizeOf316
 v183:=Tryz.zeroValue316
 t218:=Tryz.underlying357
 a218:=Tryz.isAgg357
 z218:=Tryz.sizeOf357
 v218:=Tryz.zeroValue357
 t222:=Tryz.underlying361
 a222:=Tryz.isAgg361
 z222:=Tryz.sizeOf361
 v222:=Tryz.zeroValue361
 t228:=Tryz.underlying389
 a228:=Tryz.isAgg389
 z228:=Tryz.sizeOf389
 v228:=Tryz.zeroValue389
 t229:=Tryz.underlying390
 a229:=Tryz.isAgg390
 z229:=Tryz.sizeOf390
 v229:=Tryz.zeroValue390 }
end Go.Proofs
namespace Go.Proofs
open Go.Shelf Go.RowKit Go.Lib Go.Sort
def SpA:Type:={x:Int×Int // 0<=x.1/\x.1<=1000000}
instance:Inhabited SpA:=⟨⟨(0,0),by decide⟩⟩
def encSpA(x:SpA):List Value:=[.int .i64 x.1.1,.int .i64 x.1.2]
def cfSpA(x y:SpA):Int:=x.1.1-y.1.1
theorem Tryz.closure236(x y:SpA)(W:World):Calls Tryz.prog 236 #[.agg #[.int .i64 x.1.1,.int .i64 x.1.2],.agg #[.int .i64 y.1.1,.int .i64 y.1.2]] W fun e w'=>e=.returned (.int .i64 (cfSpA x y))/\∃q os',w'=grow (W.drewN q) os':=by
 obtain⟨⟨a,b⟩,h1,h2⟩:=x;obtain⟨⟨c,d⟩,h3,h4⟩:=y;dsimp only at h1 h2 h3 h4;have hw:IntKind.i64.wrap (a-c)=a-c:=by simp[IntKind.wrap,IntKind.bits,IntKind.signed];omega
 show Calls Tryz.prog 236 #[.agg #[.int .i64 a,.int .i64 b],.agg #[.int .i64 c,.int .i64 d]] W fun e w'=>e=.returned (.int .i64 (a-c))/\∃q os',w'=grow (W.drewN q) os'
 go_enter Tryz.func236,Tryz.ntmps236
 go_wp2
 go_ret
 exact⟨rfl,0,_,by rw[alloc_eq_grow,alloc_eq_grow,grow_grow];rfl⟩
def TmA:Type:=ByteArray×{v:Value // v.oneCell'=true}×{v:Value // v.oneCell'=true}
instance:Inhabited TmA:=⟨⟨ByteArray.empty,⟨.bool false,rfl⟩,⟨.bool false,rfl⟩⟩⟩
def encTmA(x:TmA):List Value:=[.string x.1,x.2.1.1,x.2.2.1]
def cfTmA(x y:TmA):Int:=Lib.compareBytes x.1.data.toList y.1.data.toList
theorem Tryz.closure351(x y:TmA)(W:World):Calls Tryz.prog 351 #[.agg #[.string x.1,x.2.1.1,x.2.2.1],.agg #[.string y.1,y.2.1.1,y.2.2.1]] W fun e w'=>e=.returned (.int .i64 (cfTmA x y))/\∃q os',w'=grow (W.drewN q) os':=by
 have hcon:=fun W'=>Any.strings_Compare Tryz.layCompare x.1 y.1 W';obtain⟨a,⟨b,hb⟩,⟨c,hc⟩⟩:=x;obtain⟨a',⟨b',lp⟩,⟨c',u5⟩⟩:=y;dsimp only at hcon
 change ∀W',Calls Tryz.prog 140 _ _ _ at hcon
 unfold cfTmA;dsimp only;generalize Lib.compareBytes a.data.toList a'.data.toList=r at hcon⊢
 go_enter Tryz.func351,Tryz.ntmps351
 go_wp2_with (go_at_call 140;refine(hcon _).mono ?_;rintro e w' ⟨rfl,rfl⟩)
 go_ret
 exact⟨rfl,0,_,by rw[alloc_eq_grow,alloc_eq_grow,grow_grow];rfl⟩
end Go.Proofs
namespace Go.Eng
open Go.Proofs
variable {caps:List AV}{fF:Nat}{α:Type}{i:Nat}(l:List (Int×Int))(x:Sl)(v:Ver)(t:Tm)(r:Rl)(s:List Sl)
theorem uy:PC 170 [.agg (DE v)] (.agg [vi v.a,vi v.b,vi v.c]):=by
 refine Ps Ej Tryz.func170 rfl (Nz rfl) ?_;exact Yi (Nz rfl) (Yi (Nz rfl) (.refl _))
def part:Nat->Int
 |0=>v.a
 |1=>v.b
 |_=>v.c
theorem Yl{v:Ver}(h:¬okPart (part v i)):Ci v=false:=by
 unfold Ci
 match i,h with
 |0,h=>have h:¬okPart v.a:=h;simp[h]
 |1,h=>have h:¬okPart v.b:=h;simp[h]
 |_+2,h=>have h:¬okPart v.c:=h;simp[h]
theorem yb:PC 110 [.agg (DE v)] (vb (Ci v)):=by
 refine Ps Ej Tryz.func110 rfl (Nz rfl) (Yi (Nz rfl) (Xi .pure (Xi _ (Yi (uy v) (Xi {i:Nat // i<=3/\∀j,j<i->okPart (part v j)} (Xi (fun i=>⟨[(6,.agg [vi v.a,vi v.b,vi v.c]),(7,vi i.1)],[],Ag⟩) (Xi (fun i=>3-i.1) (Yi (Xi ⟨0,by simp⟩ ?_) ?_))))))))
 .exact⟨Z2,Tv,Fh,Tv⟩
 .intro⟨i,h1,h2⟩;refine Yi ?_ ?_
  .intro h;have h:(i:Int)<3:=h;refine Yi ⟨by show(0:Int)<=i;omega,by show(i:Int)<3;omega⟩ ?_;have hp:MW (([vi v.a,vi v.b,vi v.c]).drop ((i:Int).toNat*1))=fun K=>K (vi (part v i)):=by
    match i,h with
    |0,_=>rfl
    |1,_=>rfl
    |2,_=>rfl
    |_+3,h=>omega
   show MW (([vi v.a,vi v.b,vi v.c]).drop ((i:Int).toNat*1)) _;rw[hp];refine Yi ?_ ?_
   .intro h3;rw[Yl (i:=i) (by unfold okPart;omega)];exact .refl _
   .intro h3;refine Yi ?_ ?_
    .intro h4;rw[Yl (i:=i) (by unfold okPart;omega)];exact .refl _
    .intro h4;refine Yi (Ii i ch) (Xi ⟨i+1,by omega,fun j hj=>?_⟩ ?_)
     .by_cases e:j=i
      .subst e;exact⟨by omega,by omega⟩
      .exact h2 j ch
     .exact⟨Dl 3 i ch,Z2,Tv,Fh,Tv⟩
  .intro h;have h:¬(i:Int)<3:=h;have e:i=3:=by omega
   have q:Ci v=true:=by
    unfold Ci;have a:=h2 0 ch;have b:=h2 1 ch;have c:=h2 2 ch;simp only[part]at a b c;simp[a,b,c]
   rw[q];exact .refl _
theorem xn:PC 67 [.agg (DE v)] (.tup [vi (if Ci v then place v else 0),vi (if Ci v then 0 else 2)]):=by
 refine Ps Ej Tryz.func67 rfl (Nz rfl) (Yi (Nz rfl) (Xi .pure (Xi _ (Yi (yb v) ?_))));cases h:Ci v with
 |false=>exact .refl _
 |true=>
  have hv:=Im h;refine Yi (by show Bc (1000*v.b);unfold Bc;omega) ?_;exact Yi (by show Bc (1000*v.b+v.c);unfold Bc;omega) (.refl _)
def CU(caps:List AV):Prop:=∀c∈caps,∀h,str0 h c=c
theorem CU.map{caps:List AV}(hs:CU caps)(h:Nat->HO):caps.map (str0 h)=caps:=by
 conv=>rhs;rw[<-Gj caps]
 exact Bg fun c hc=>hs c hc h
theorem CU.ids(hs:CU caps)(h:Nat->HO):bA h caps=true:=by
 induction caps with
 |nil=>rfl
 |cons c r ih=>
  have hc:=hs c (Ab ..) Ag;have h0:ids0 h c=true:=by
   cases c with
   |slice tk es=>cases tk with |none=>rfl |full sz=>simp[str0]at hc |id r sz=>simp[str0]at hc |ver r sz v=>simp[str0]at hc
   |_=>first |rfl |(simp[str0,Ag]at hc)
  unfold bA;rw[h0];exact ih fun c hc=>hs c (Ah _ hc)
def FS{α:Type}(p:α->Bool):List α->Int->Int
 | [],_=>-1
 |x::r,i=>if p x then i else FS p r (i+1)
theorem H2{α:Type}{p:α->Bool}:∀{l:List α} {i:Nat} {k:Int} (hi:i<l.length),(∀j (hj:j<l.length),j<i->p l[j]=false)->p l[i]=true->FS p l k=k+i
 |x::r,0,k,_,_,h=>by
  have h:p x=true:=h;simp[FS,h]
 |x::r,i+1,k,hi,hb,h=>by
  have h0:p x=false:=hb 0 B0 ch
  have:=H2 (l:=r) (i:=i) (k:=k+1) (by simpa using hi) (fun j hj I6=>hb (j+1) (by simpa using hj) ch) (by simpa using h)
  simp only[FS,h0,Dr,Gz,this];omega
theorem F9{α:Type}{p:α->Bool}:∀{l:List α} {k:Int},(∀j (hj:j<l.length),p l[j]=false)->FS p l k=-1
 | [],_,_=>rfl
 |x::r,k,h=>by
  have h0:p x=false:=h 0 B0;simp only[FS,h0,Dr,Gz];exact F9 fun j hj=>h (j+1) (by simpa using hj)
theorem HW{α:Type}{p:α->Bool}:∀(l:List α) (k:Int),0<=k->decide (0<=FS p l k)=l.any p
 | [],k,_=>by simp[FS]
 |x::r,k,hk=>by
  unfold FS;cases h:p x with
  |true=>simp[h,hk]
  |false=>simp[h,HW r (k+1) ch]
-- one for each type of elements
theorem Acg(hs:CU caps)(l:List (Int×Int))(p:Int×Int->Bool)(hF:∀x∈l,PC fF ([.agg (AE x)]++caps) (vb (p x)))(hl:l.length<9223372036854775807) :
  PC 171 [sl AE l,.clo fF caps] (vi (FS p l 0)):=by
 refine Ps Ej Tryz.func171 rfl (Nz rfl) (Xi {i:Nat // i<=l.length/\∀j (hj:j<l.length),j<i->p l[j]=false} (Xi (fun i=>⟨[(0,sl AE l),(1,.clo fF caps),(7,vi (l.map AE).length),(8,vi i.1)],[],Ag⟩) (Xi (fun i=>l.length-i.1) (Yi (Xi ⟨0,by simp⟩ ?_) ?_))))
 .exact⟨⟨Zr,⟨rfl,hs.ids _⟩,Zr,Zr,Tv⟩,Tv,Fh,Tv⟩
 .intro⟨i,h1,h2⟩;refine Yi ?_ ?_
  .intro h;have h:i<l.length:=by simpa using h
   have hg:l[i]?=some l[i]:=Ge h;refine Xi (AE l[i]) (Yi (Yi (Nn i) (by simp[hg])) (Yi rfl (yN ?_)));have Ck:∀h,PC fF ([.agg (AE l[i])]++caps.map (str0 h)) (vb (p l[i])):=fun h=>by rw[hs.map];exact hF l[i] (Ao _)
   cases hp:p l[i]with
   |true=>
    rw[hp]at Ck;refine Xi .pure (Xi (vb true) (Yi (Ck _) ?_));rw[H2 h (fun j hj I6=>h2 j hj I6) hp,EF];exact .refl _
   |false=>
    rw[hp]at Ck;refine Xi .pure (Xi (vb false) (Yi (Ck _) (Yi (Ii i ch) (Xi ⟨i+1,by omega,fun j hj I6=>?_⟩ ?_))))
    .by_cases e:j=i
     .subst e;exact hp
     .exact h2 j hj ch
    .exact⟨Dl l.length i ch,⟨Zr,⟨rfl,hs.ids _⟩,Zr,Zr,Tv⟩,Tv,Fh,Tv⟩
  .intro h;have h:¬i<l.length:=by simpa using h
   rw[F9 fun j hj=>h2 j hj ch];exact .refl _
abbrev B8(l:List α):Prop:=l.length<=1073741824
theorem D5{α:Type}{enc:α->List AV}{n:Nat}(h:∀x,(enc x).length=n):∀l:List α,Cr n (l.map enc)
 | []=>trivial
 |x::l=>⟨h x,D5 h l⟩
theorem gl{x y:Int×Int}:pY (AE x) (AE y)↔x=y:=by
 constructor
 .intro h;exact Prod.ext h.1 h.2.1
 .rintro rfl;exact⟨rfl,rfl,trivial⟩
theorem s7{x y:Sl}:pY (Aq x) (Aq y)↔x=y:=by
 obtain⟨p,a,b,c⟩:=x;obtain⟨q,d,e,f⟩:=y;constructor
 .intro h;obtain⟨rfl,rfl,rfl,rfl,_⟩:=h
  rfl
 .intro h;cases h;exact⟨rfl,rfl,rfl,rfl,trivial⟩
abbrev Dn(l:List Tm):List AV:=[sl AO l]
abbrev AF(s:ByteArray):List AV:=[vs s]
theorem c78(hs:CU caps)(l:List (Sl))(p:Sl->Bool)(hF:∀x∈l,PC fF ([.agg (Aq x)]++caps) (vb (p x)))(hl:l.length<9223372036854775807) :
  PC 108 [sl Aq l,.clo fF caps] (vi (FS p l 0)):=by
 refine Gc (jp Ej) rfl C3 hm rfl Tryz.func108 Wk rfl (Nz rfl) Wk (Xi {i:Nat // i<=l.length/\∀j (hj:j<l.length),j<i->p l[j]=false} (Xi (fun i=>⟨[(0,sl Aq l),(1,.clo fF caps),(7,vi (l.map Aq).length),(8,vi i.1)],[],Ag⟩) (Xi (fun i=>l.length-i.1) (Yi (Xi ⟨0,by simp⟩ ?_) ?_))))
 .exact⟨⟨Zr,⟨rfl,hs.ids _⟩,Zr,Zr,Tv⟩,Tv,Fh,Tv⟩
 .intro⟨i,h1,h2⟩;refine Yi ?_ ?_
  .intro h;have h:i<l.length:=by simpa using h
   have hg:l[i]?=some l[i]:=Ge h;refine Xi (Aq l[i]) (Yi (Yi (by show(0:Int)<=i;omega) (by simp[hg])) (Yi rfl (yN ?_)));have Ck:∀h,PC fF ([.agg (Aq l[i])]++caps.map (str0 h)) (vb (p l[i])):=fun h=>by rw[hs.map];exact hF l[i] (Ao _)
   cases hp:p l[i]with
   |true=>
    rw[hp]at Ck;refine Xi .pure (Xi (vb true) (Yi (Ck _) ?_));rw[H2 h (fun j hj I6=>h2 j hj I6) hp,EF];exact .refl _
   |false=>
    rw[hp]at Ck;refine Xi .pure (Xi (vb false) (Yi (Ck _) (Yi (Ii i ch) (Xi ⟨i+1,by omega,fun j hj I6=>?_⟩ ?_))))
    .by_cases e:j=i
     .subst e;exact hp
     .exact h2 j hj ch
    .exact⟨Dl l.length i ch,⟨Zr,⟨rfl,hs.ids _⟩,Zr,Zr,Tv⟩,Tv,Fh,Tv⟩
  .intro h;have h:¬i<l.length:=by simpa using h
   rw[F9 fun j hj=>h2 j hj ch];exact .refl _
theorem qC(hs:CU caps)(l:List (Tm))(p:Tm->Bool)(hF:∀x∈l,PC fF ([.agg (AO x)]++caps) (vb (p x)))(hl:l.length<9223372036854775807) :
  PC 309 [sl AO l,.clo fF caps] (vi (FS p l 0)):=by
 refine Gc (jp Ej) rfl C3 hm rfl Tryz.func309 Wk rfl (Nz rfl) Wk (Xi {i:Nat // i<=l.length/\∀j (hj:j<l.length),j<i->p l[j]=false} (Xi (fun i=>⟨[(0,sl AO l),(1,.clo fF caps),(7,vi (l.map AO).length),(8,vi i.1)],[],Ag⟩) (Xi (fun i=>l.length-i.1) (Yi (Xi ⟨0,by simp⟩ ?_) ?_))))
 .exact⟨⟨Zr,⟨rfl,hs.ids _⟩,Zr,Zr,Tv⟩,Tv,Fh,Tv⟩
 .intro⟨i,h1,h2⟩;refine Yi ?_ ?_
  .intro h;have h:i<l.length:=by simpa using h
   have hg:l[i]?=some l[i]:=Ge h;refine Xi (AO l[i]) (Yi (Yi (by show(0:Int)<=i;omega) (by simp[hg])) (Yi rfl (yN ?_)));have Ck:∀h,PC fF ([.agg (AO l[i])]++caps.map (str0 h)) (vb (p l[i])):=fun h=>by rw[hs.map];exact hF l[i] (Ao _)
   cases hp:p l[i]with
   |true=>
    rw[hp]at Ck;refine Xi .pure (Xi (vb true) (Yi (Ck _) ?_));rw[H2 h (fun j hj I6=>h2 j hj I6) hp,EF];exact .refl _
   |false=>
    rw[hp]at Ck;refine Xi .pure (Xi (vb false) (Yi (Ck _) (Yi (Ii i ch) (Xi ⟨i+1,by omega,fun j hj I6=>?_⟩ ?_))))
    .by_cases e:j=i
     .subst e;exact hp
     .exact h2 j hj ch
    .exact⟨Dl l.length i ch,⟨Zr,⟨rfl,hs.ids _⟩,Zr,Zr,Tv⟩,Tv,Fh,Tv⟩
  .intro h;have h:¬i<l.length:=by simpa using h
   rw[F9 fun j hj=>h2 j hj ch];exact .refl _
theorem Ac4(hs:CU caps)(l:List (Int×Int))(p:Int×Int->Bool)(hF:∀x∈l,PC fF ([.agg (AE x)]++caps) (vb (p x)))(hl:B8 l) :
  PC 111 [sl AE l,.clo fF caps] (vb (l.any p)):=by
 refine Gc (jp Ej) rfl C3 hm rfl Tryz.func111 Wk rfl (Nz rfl) Wk ?_;have hi:=Acg hs l p hF (by unfold B8 at hl;omega);have Ck:∀h,PC 171 [sl AE l,.clo fF (caps.map (str0 h))] (vi (FS p l 0)):=fun h=>by rw[hs.map];exact hi
 refine Xi .pure (Xi _ (Yi (Ck _) ?_));have ha:=HW (p:=p) l 0 (Bs 0);refine Yi ?_ ?_
 .intro h;rw[<-ha,Ak h];exact .refl _
 .intro h;rw[<-ha,Ae h];exact .refl _
theorem c51(hs:CU caps)(l:List (Sl))(p:Sl->Bool)(hF:∀x∈l,PC fF ([.agg (Aq x)]++caps) (vb (p x)))(hl:B8 l) :
  PC 79 [sl Aq l,.clo fF caps] (vb (l.any p)):=by
 refine Gc (jp Ej) rfl C3 hm rfl Tryz.func79 Wk rfl (Nz rfl) Wk ?_;have hi:=c78 hs l p hF (by unfold B8 at hl;omega);have Ck:∀h,PC 108 [sl Aq l,.clo fF (caps.map (str0 h))] (vi (FS p l 0)):=fun h=>by rw[hs.map];exact hi
 refine Xi .pure (Xi _ (Yi (Ck _) ?_));have ha:=HW (p:=p) l 0 (Bs 0);refine Yi ?_ ?_
 .intro h;rw[<-ha,Ak h];exact .refl _
 .intro h;rw[<-ha,Ae h];exact .refl _
theorem ux(hs:CU caps)(l:List (Tm))(p:Tm->Bool)(hF:∀x∈l,PC fF ([.agg (AO x)]++caps) (vb (p x)))(hl:B8 l) :
  PC 259 [sl AO l,.clo fF caps] (vb (l.any p)):=by
 refine Gc (jp Ej) rfl C3 hm rfl Tryz.func259 Wk rfl (Nz rfl) Wk ?_;have hi:=qC hs l p hF (by unfold B8 at hl;omega);have Ck:∀h,PC 309 [sl AO l,.clo fF (caps.map (str0 h))] (vi (FS p l 0)):=fun h=>by rw[hs.map];exact hi
 refine Xi .pure (Xi _ (Yi (Ck _) ?_));have ha:=HW (p:=p) l 0 (Bs 0);refine Yi ?_ ?_
 .intro h;rw[<-ha,Ak h];exact .refl _
 .intro h;rw[<-ha,Ae h];exact .refl _
theorem Ac8(hl:B8 l):PC 142 [sl AE l] (sl AE l):=by
 refine Gc (jp Ej) rfl C3 hm rfl Tryz.func142 Wk rfl (Nz rfl) Wk ?_;have HG:Cr 2 (l.map AE)/\([]:List (List AV)).length=0/\(([]:List (List AV)).length+(l.map AE).length)*16<=140737488355328/\([]:List (List AV)).length+(l.map AE).length<=9223372036854775807:=by
  refine⟨D5 (enc:=AE) (n:=2) (fun _=>rfl) l,rfl,?_,?_⟩<;>simp only[Au,Lm]<;>unfold B8 at hl<;>omega
 refine Yi ?_ ?_
 .intro _;exact Yi HG (.refl _)
 .intro h;refine Yi ?_ ?_
  .show CX nzA (.slice .none (l.map AE));rw[h];exact .nil
  .exact Yi HG (.refl _)
theorem qB(m:List (Int×Int))(hl:B8 l):PC 168 [sl AE l,sl AE m] (vb (decide (l=m))):=by
 refine Gc (jp Ej) rfl C3 hm rfl Tryz.func168 Wk rfl (Nz rfl) Wk (Yi ?_ ?_)
 .intro h
  have:l≠m:=fun e=>h (by rw[e])
  rw[Ae this];exact .refl _
 .intro h;have CH:l.length=m.length:=by simp at h;omega
  refine Xi {i:Nat // i<=l.length/\l.take i=m.take i} (Xi (fun i=>⟨[(0,sl AE l),(1,sl AE m),(12,vi (l.map AE).length),(13,vi i.1)],[],Ag⟩) (Xi (fun i=>l.length-i.1) (Yi (Xi ⟨0,by simp⟩ ?_) ?_)))
  .exact⟨⟨Zr,Zr,Zr,Zr,Tv⟩,Tv,Fh,Tv⟩
  .intro⟨i,h1,h2⟩;refine Yi ?_ ?_
   .intro h;have h:i<l.length:=by simpa using h
    have h' : i<m.length:=by omega
    have hg:l[i]?=some l[i]:=Ge h;have TS:m[i]?=some m[i]:=Ge h';refine Xi (AE l[i]) (Yi (Yi (by show(0:Int)<=i;omega) (by simp[hg])) (Yi rfl (yN ?_)));refine Xi (AE m[i]) (Yi (Yi (by show(0:Int)<=i;omega) (by simp[TS])) (Yi rfl (yN ?_)));refine Yi ?_ ?_
    .intro h5;have e:l[i]=m[i]:=gl.1 h5;refine Yi Wk (Yi (by show Bc ((i:Int)+1);unfold B8 at hl;unfold Bc;omega) (Xi ⟨i+1,by omega,?_⟩ ?_))
     .rw[Bh,Bh,h2,hg,TS,e]
     .exact⟨Dl l.length i ch,⟨Zr,Zr,Zr,Zr,Tv⟩,Tv,Fh,Tv⟩
    .intro h5;refine Yi Wk ?_
     have:l≠m:=fun e=>h5 (gl.2 (by subst e;rfl))
     rw[Ae this];exact .refl _
   .intro h;have h:¬i<l.length:=by simpa using h
    have e:l=m:=by
     rw[<-Av (l:=l) (i:=i) ch,h2,Av ch]
    rw[Ak e];exact .refl _
theorem c27(l m:List (Sl))(hl:B8 l):PC 25 [sl Aq l,sl Aq m] (vb (decide (l=m))):=by
 refine Gc (jp Ej) rfl C3 hm rfl Tryz.func25 Wk rfl (Nz rfl) Wk (Yi ?_ ?_)
 .intro h
  have:l≠m:=fun e=>h (by rw[e])
  rw[Ae this];exact .refl _
 .intro h;have CH:l.length=m.length:=by simp at h;omega
  refine Xi {i:Nat // i<=l.length/\l.take i=m.take i} (Xi (fun i=>⟨[(0,sl Aq l),(1,sl Aq m),(12,vi (l.map Aq).length),(13,vi i.1)],[],Ag⟩) (Xi (fun i=>l.length-i.1) (Yi (Xi ⟨0,by simp⟩ ?_) ?_)))
  .exact⟨⟨Zr,Zr,Zr,Zr,Tv⟩,Tv,Fh,Tv⟩
  .intro⟨i,h1,h2⟩;refine Yi ?_ ?_
   .intro h;have h:i<l.length:=by simpa using h
    have h' : i<m.length:=by omega
    have hg:l[i]?=some l[i]:=Ge h;have TS:m[i]?=some m[i]:=Ge h';refine Xi (Aq l[i]) (Yi (Yi (by show(0:Int)<=i;omega) (by simp[hg])) (Yi rfl (yN ?_)));refine Xi (Aq m[i]) (Yi (Yi (by show(0:Int)<=i;omega) (by simp[TS])) (Yi rfl (yN ?_)));refine Yi ?_ ?_
    .intro h5;have e:l[i]=m[i]:=s7.1 h5;refine Yi Wk (Yi (by show Bc ((i:Int)+1);unfold B8 at hl;unfold Bc;omega) (Xi ⟨i+1,by omega,?_⟩ ?_))
     .rw[Bh,Bh,h2,hg,TS,e]
     .exact⟨Dl l.length i ch,⟨Zr,Zr,Zr,Zr,Tv⟩,Tv,Fh,Tv⟩
    .intro h5;refine Yi Wk ?_
     have:l≠m:=fun e=>h5 (s7.2 (by subst e;rfl))
     rw[Ae this];exact .refl _
   .intro h;have h:¬i<l.length:=by simpa using h
    have e:l=m:=by
     rw[<-Av (l:=l) (i:=i) ch,h2,Av ch]
    rw[Ak e];exact .refl _
abbrev qc(l:List Nat):Tt:=⟨l,[],[],[],[],[],[],[],[],[],[]⟩
theorem CU.ptr(cs:List AV):CU [.cptr cs]:=fun c hc h=>by
 rw[Ar.1 hc];rfl
theorem Ac5(s:Int×Int)(p:Int):PC 112 [.agg (AE s),.cptr [vi p]] (vb (B4 p s)):=by
 refine Ps Ej Tryz.func112 rfl (Nz rfl) (Yi ?_ ?_)
 .intro h;refine Yi ?_ ?_
  .intro h2;rw[show B4 p s=true by simp[B4,h,h2]];exact .refl _
  .intro h2;rw[show B4 p s=false by simp[B4,h2]];exact .refl _
 .intro h;rw[show B4 p s=false by simp[B4,h]];exact .refl _
theorem lZ(s:List (Int×Int))(p:Int)(hl:B8 s):PC 68 [sl AE s,vi p] (vb (has s p)):=by
 refine Ps (qc [3]) Tryz.func68 rfl (Nz rfl) (Yi ?_ ?_)
 .intro h;refine Yi ?_ ?_
  .intro h2;refine Xi .pure (Xi _ (Yi (Ac4 (CU.ptr [vi p]) s (B4 p) (fun x _=>Ac5 x p) hl) ?_));rw[show has s p=s.any (B4 p) by simp[has,h,h2]];cases s.any (B4 p)<;>exact .refl _
  .intro h2;rw[show has s p=false by simp[has,h2]];exact .refl _
 .intro h;rw[show has s p=false by simp[has,h]];exact .refl _
theorem c88:PC 252 [.agg (AC r)] (vi (plc r.ver)):=by
 refine Ps Ej Tryz.func252 rfl (Nz rfl) ?_;exact Yi (Nz rfl) (Xi .pure (Xi _ (Yi (xn r.ver) (.refl _))))
theorem c99:PC 365 [.agg (Aq x),.cptr (AO t)] (vb (decide (x.path=t.path))):=by
 refine Ps Ej Tryz.func365 rfl (Nz rfl) (Yi ?_ ?_)
 .intro h;rw[Ak h];exact .refl _
 .intro h;rw[Ae h];exact .refl _
theorem QE{α:Type}{p:α->Bool}:∀(l:List α) (k:Int),(FS p l k=-1/\l.find? p=none)\/∃i x,FS p l k=k+(i:Nat)/\l[i]?=some x/\l.find? p=some x
 | [],k=>.inl Zr
 |x::r,k=>by
  cases h:p x with
  |true=>exact .inr ⟨0,x,by simp[FS,h],rfl,by simp[h]⟩
  |false=>
   rcases QE (p:=p) r (k+1)with ⟨h1,h2⟩|⟨i,y,h1,h2,h3⟩
   .exact .inl ⟨by simp[FS,h,h1],by simp[h,h2]⟩
   .exact .inr ⟨i+1,y,by simp only[FS,h,Dr,Gz,h1];omega,by simpa using h2,by simp[h,h3]⟩
theorem c55(hl:B8 s)(ht:B8 t.set):PC 340 [.agg (AO t),sl Aq s] (vb (Ho t s)):=by
 have hc:=c78 (CU.ptr (AO t)) s (fun x=>decide (x.path=t.path)) (fun x _=>c99 x t) (by unfold B8 at hl;omega);unfold Ho;rcases QE (p:=fun x:Sl=>decide (x.path=t.path)) s 0 with ⟨h1,h2⟩|⟨i,x,h1,h2,h3⟩
 .rw[h1]at hc;rw[h2];refine Ps (qc [2]) Tryz.func340 rfl (Nz rfl) (Xi .pure (Xi _ (Yi hc (Yi ?_ ?_))))
  .intro _;refine Yi ?_ ?_
   .intro h;rw[h];exact .refl _
   .intro h;rw[h];exact .refl _
  .intro h;exact absurd (show(-1:Int)<0 by decide) h
 .rw[h1,EF]at hc;rw[h3];have hg:(s.map Aq)[((i:Nat):Int).toNat]?=some (Aq x):=by rw[Cb,AG,h2];rfl
  have hp:=xn x.ver;dsimp only;rcases Bt (Ci x.ver)with hv|hv
  .rw[hv,Ap rfl,Ap rfl]at hp;rw[hv];refine Ps (qc [2]) Tryz.func340 rfl (Nz rfl) (Xi .pure (Xi _ (Yi hc (Yi ?_ ?_))))
   .intro h;omega
   .intro _;refine Xi (Aq x) (Yi (Yi (Nn i) hg) (Yi rfl (yN (Xi .pure (Xi _ (Yi hp (Yi ?_ ?_)))))))
    .intro _;refine Xi .pure (Xi _ (Yi (lZ t.set (place x.ver) ht) ?_));exact .refl _
    .intro h;exact absurd rfl h
  .rw[hv,Aj Cl,Aj Cl]at hp;rw[hv];refine Ps (qc [2]) Tryz.func340 rfl (Nz rfl) (Xi .pure (Xi _ (Yi hc (Yi ?_ ?_))))
   .intro h;omega
   .intro _;refine Xi (Aq x) (Yi (Yi (Nn i) hg) (Yi rfl (yN (Xi .pure (Xi _ (Yi hp (Yi ?_ ?_)))))))
    .intro h;omega
    .intro _;exact .refl _
theorem ql{p:α->Bool}{l:List α}(h:∀j (hj:j<l.length),j<i->p l[j]=true)(hi:¬i<l.length):l.all p=true:=by
 rw[A1];intro x hx;obtain⟨j,hj,rfl⟩:=Cc.1 hx;exact h j hj ch
theorem ui{p:α->Bool}{l:List α}(hi:i<l.length)(h:p l[i]=false):l.all p=false:=by
 rw[List.all_eq_false];exact⟨l[i],Ao hi,by simp[h]⟩
abbrev lz(l:List Tm):Prop:=B8 l/\∀t∈l,B8 t.set
theorem c26(l:List Tm)(s:List Sl)(hl:lz l)(hs:B8 s):PC 306 [sl AO l,sl Aq s] (vb (l.all fun t=>Ho t s)):=by
 have hc:∀i (h:i<l.length),PC 340 [.agg (AO l[i]),sl Aq s] (vb (Ho l[i] s)):=fun i h=>c55 l[i] s hs (hl.2 _ (Ao h));obtain⟨hl,_⟩:=hl;unfold B8 at hl;refine Ps Ej Tryz.func306 rfl (Nz rfl) (Xi {i:Nat // i<=l.length/\∀j (hj:j<l.length),j<i->Ho l[j] s=true} (Xi (fun i=>⟨[(0,sl AO l),(1,sl Aq s),(7,vi (l.map AO).length),(8,vi i.1)],[],Ag⟩) (Xi (fun i=>l.length-i.1) (Yi (Xi ⟨0,by simp⟩ ?_) ?_))))
 .exact⟨Z4,Tv,Fh,Tv⟩
 .intro⟨i,h1,h2⟩;refine Yi ?_ ?_
  .intro h;have h:i<l.length:=by simpa using h
   have hg:l[i]?=some l[i]:=Ge h;have mX:=hc i h;refine Xi (AO l[i]) (Yi (Yi (Nn i) (by simp[hg])) (Yi rfl (yN ?_)));cases hp:Ho l[i] s with
   |false=>
    rw[hp]at mX;refine Xi .pure (Xi _ (Yi mX ?_));rw[ui (p:=fun t=>Ho t s) h hp];exact .refl _
   |true=>
    rw[hp]at mX;refine Xi .pure (Xi _ (Yi mX (Yi (Ii i ch) (Xi ⟨i+1,by omega,fun j hj I6=>?_⟩ ?_))))
    .by_cases e:j=i
     .subst e;exact hp
     .exact h2 j hj ch
    .exact⟨Dl l.length i ch,Z4,Tv,Fh,Tv⟩
  .intro h;have h:¬i<l.length:=by simpa using h
   rw[ql (p:=fun t=>Ho t s) h2 h];exact .refl _
theorem Ac7:PC 308 [.agg (Aq x),.cptr (AO t)] (vb (decide (x.path=t.path))):=by
 refine Ps Ej Tryz.func308 rfl (Nz rfl) (Yi ?_ ?_)
 .intro h;rw[Ak h];exact .refl _
 .intro h;rw[Ae h];exact .refl _
theorem Ac6(hs:B8 s):PC 307 [.agg (AO t),.cptr [sl Aq s]] (vb (!Db s t.path)):=by
 have hc:=c51 (CU.ptr (AO t)) s (fun x=>decide (x.path=t.path)) (fun x _=>Ac7 x t) hs;unfold Db;cases hp:s.any fun x=>decide (x.path=t.path)with
 |true=>
  rw[hp]at hc;refine Ps (qc [2]) Tryz.func307 rfl (Nz rfl) ?_;exact Xi .pure (Xi _ (Yi hc (.refl _)))
 |false=>
  rw[hp]at hc;refine Ps (qc [2]) Tryz.func307 rfl (Nz rfl) ?_;exact Xi .pure (Xi _ (Yi hc (.refl _)))
theorem c91(l:List Tm)(s:List Sl)(hl:lz l)(hs:B8 s):PC 258 [sl AO l,sl Aq s] (vb (Dh l s)):=by
 have hv:=c26 l s hl hs;have hc:=ux (CU.ptr [sl Aq s]) l (fun t=>!Db s t.path) (fun t _=>Ac6 t s hs) hl.1;unfold Dh Bm;cases h1:l.all fun t=>Ho t s with
 |false=>
  rw[h1]at hv;refine Ps (qc [3]) Tryz.func258 rfl (Nz rfl) ?_;exact Xi .pure (Xi _ (Yi hv (.refl _)))
 |true=>
  rw[h1]at hv;cases h2:l.any fun t=>!Db s t.path with
  |true=>
   rw[h2]at hc;refine Ps (qc [3]) Tryz.func258 rfl (Nz rfl) ?_;exact Xi .pure (Xi _ (Yi hv (Xi .pure (Xi _ (Yi hc (.refl _))))))
  |false=>
   rw[h2]at hc;refine Ps (qc [3]) Tryz.func258 rfl (Nz rfl) ?_;exact Xi .pure (Xi _ (Yi hv (Xi .pure (Xi _ (Yi hc (.refl _))))))
abbrev UK(a:An):List AV:=[vb a.found,sl Aq a.sel,sl DB a.infs,sl CG a.skips]
theorem uw:PC 141 [.agg (AC r)] (.agg (Aq ⟨r.path,r.ver⟩)):=by
 refine Ps Ej Tryz.func141 rfl (Nz rfl) ?_;exact Yi (Nz rfl) (Yi (Nz rfl) (Yi (Nz rfl) (.refl _)))
end Go.Eng
namespace Go.Eng
open Go.Proofs Go.Shelf Go.RowKit Go.Lib Go.Sort
variable (k:Nat)
theorem gM(x y:SpA):ltOf cfSpA x y=decide (x.1.1<y.1.1):=by
 unfold ltOf cfSpA;rw[Ca];simp only[AA];omega
theorem ph:SWO (ltOf cfSpA) where
 irrefl x:=by rw[gM];simp
 trans x y z h1 h2:=by rw[gM]at *;simp at *;omega
 ntrans x y z h1 h2:=by rw[gM]at *;simp at *;omega
theorem Vp:∀x y:List UInt8,decide (Lib.compareBytes x y<0)=Ja x y
 | [],[]=>rfl
 | [],_::_=>rfl
 |_::_,[]=>rfl
 |a::x,b::y=>by
  unfold Lib.compareBytes Ja
  by_cases h:a<b
  .simp[h]
  .by_cases h2:b<a
   .have:¬a=b:=fun e=>by subst e;exact absurd h2 (UInt8.lt_irrefl a)
    simp[h,h2,this]
   .have e:a=b:=UInt8.le_antisymm (UInt8.not_lt.1 h2) (UInt8.not_lt.1 h);subst e;simp[UInt8.lt_irrefl,Vp x y]
theorem gN(x y:TmA):ltOf cfTmA x y=Ed x.1 y.1:=Vp _ _
theorem pi:SWO (ltOf cfTmA) where
 irrefl x:=by rw[gN];exact Dm _
 trans x y z h1 h2:=by rw[gN]at *;exact D8 h1 h2
 ntrans x y z h1 h2:=by
  rw[gN]at *
  rw[AM];intro h;cases xM:Ed y.1 x.1 with
  |true=>have:=D8 xM h;rw[h2]at this;cases this
  |false=>
   have e:=HQ h1 xM;rw[e]at h;rw[h2]at h;cases h
abbrev Y2:Value:=.func (.func k) #[] #[]
theorem aN {fn:Func}{c:Code}(hf:Tryz.prog.funcs[k]? = some fn)(hn:(fn.name == "runtime.NumGoroutine") = false)(hb:fn.body = some c):F3 Tryz.prog k:=js hf hn hb
theorem Aci(l:List (Int×Int))(hl:B8 l)(h:∀x∈l,0<=x.1/\x.1<=1000000)(lim:Nat)(bu:lim<100) :
  A9 Tryz.prog 290 [.msl 1000 l.length,vi 0,vi l.length,vi lim,.v (Y2 236)] (As [(1000,.arr 2 (l.map AE))] Ag) fun r h'=>
   r=.tup []/\∃l' : List (Int×Int),l'.Perm l/\l'.Pairwise (fun x y=>x.1<=y.1)/\h'=As [(1000,.arr 2 (l'.map AE))] Ag:=by
 have hl:l.length<=1073741824:=hl;have hE:F3 Tryz.prog 290:=aN 290 Tryz.func290 Wk rfl;have eg:∀args w,(callFunc 236 args).run Tryz.prog w=.ok (.enter 236 args) w:=enters_of Tryz.func236 Wk rfl;have Ig:=Kt (P:=Tryz.prog) (f:=290) (α:=SpA) (rest:=[.int .i64 0,.int .i64 l.length,.int .i64 lim,Y2 236]) hE AE encSpA (k:=2) (fun _=>rfl) (fun _=>rfl) (ltOf cfSpA) (fun x a=>a.1=x) l ch ?_ ?_ ?_
 .refine⟨hE,fun g w vals q1 q2 q3=>(Ig.2 g w vals q1 q2 q3).mono fun _ _ ⟨v,r,h',g',e1,⟨e2,l',p1,⟨al,a1,a2,a3⟩,p2⟩,rest⟩=>⟨v,r,h',g',e1,⟨e2,l',p1,?_,p2⟩,rest⟩⟩;rw[AU]at a3⊢;intro i j hi hj QC
  have:=a3 i j ch ch QC
  rw[gM]at this;have e1:=a2 i _ _ (AD hi) (AD ch);have e2:=a2 j _ _ (AD hj) (AD ch);rw[<-e1,<-e2]
  have:=QT this
  omega
 .intro x hx g w vs hr
  match vs,hr with
  | [a,b],hr=>
   have h1:=(hr.2.2 0 (vi x.1) a rfl rfl).v_eq;have h2:=(hr.2.2 1 (vi x.2) b rfl rfl).v_eq;subst h1;subst h2;exact⟨⟨x,h x hx⟩,rfl,rfl⟩
  | [],hr=>have:=hr.1;simp at this
  | [_],hr=>have:=hr.1;simp at this
  |_::_::_::_,hr=>have:=hr.1;simp at this
 .intro w b cap d hH hb ES hdl;have mY:CmpLays Tryz.prog 236 #[] encSpA 2 cfSpA b 0 d.size w:=fun _ _ _ _ x y=>Tryz.closure236 x y _;have hp:=AnyQ.pdqsortCmpFunc_all Tryz.layPdqSpan 2 Tryz.isAgg92 Tryz.sizeOf92 encSpA cfSpA 236 #[] ph b 0 cap d w eg mY ⟨fun _=>rfl,fun x v hv=>by simp[encSpA]at hv;rcases hv with rfl|rfl<;>rfl,hH,hb⟩ (d.size+1) 0 d.size lim d w ch rfl (SWK.start hH) (AB _) (Am _) ES ch (Or.inl rfl)
  rw[hdl]at hp⊢;refine hp.mono ?_
  rintro e w' ⟨rfl,n,os,rfl⟩
  have h:=pdq_sorts (ltOf cfSpA) ph d 0 d.size lim true true (AB _) (Am _) (Or.inl rfl);rw[hdl]at h;exact⟨rfl,_,n,os,h.1,h.2,rfl⟩
 .intro e w;subst e;exact AnyF.pdqsortCmpFunc_none Tryz.layPdqSpan none 0 lim (Y2 236) w
theorem Ac2(l:List Tm)(hl:B8 l)(lim:Nat)(bu:lim<100) :
  A9 Tryz.prog 368 [.msl 1000 l.length,vi 0,vi l.length,vi lim,.v (Y2 351)] (As [(1000,.arr 3 (l.map AO))] Ag) fun r h'=>
   r=.tup []/\∃l' : List Tm,l'.Perm l/\l'.Pairwise (fun x y=>Ed y.path x.path=false)/\h'=As [(1000,.arr 3 (l'.map AO))] Ag:=by
 have hl:l.length<=1073741824:=hl;have hE:F3 Tryz.prog 368:=aN 368 Tryz.func368 Wk rfl;have eg:∀args w,(callFunc 351 args).run Tryz.prog w=.ok (.enter 351 args) w:=enters_of Tryz.func351 Wk rfl;have Ig:=Kt (P:=Tryz.prog) (f:=368) (α:=TmA) (rest:=[.int .i64 0,.int .i64 l.length,.int .i64 lim,Y2 351]) hE AO encTmA (k:=3) (fun _=>rfl) (fun _=>rfl) (ltOf cfTmA) (fun x a=>a.1=x.path) l ch ?_ ?_ ?_
 .refine⟨hE,fun g w vals q1 q2 q3=>(Ig.2 g w vals q1 q2 q3).mono fun _ _ ⟨v,r,h',g',e1,⟨e2,l',p1,⟨al,a1,a2,a3⟩,p2⟩,rest⟩=>⟨v,r,h',g',e1,⟨e2,l',p1,?_,p2⟩,rest⟩⟩;rw[AU]at a3⊢;intro i j hi hj QC
  have:=a3 i j ch ch QC
  rw[gN]at this;have e1:=a2 i _ _ (AD hi) (AD ch);have e2:=a2 j _ _ (AD hj) (AD ch);rw[<-e1,<-e2];exact this
 .intro x hx g w vs hr
  match vs,hr with
  | [a,b,c],hr=>
   have h1:=(hr.2.2 0 (Go.Eng.vs x.path) a rfl rfl).v_eq;subst h1;exact⟨⟨x.path,⟨b,hr.2.1 b B0⟩,⟨c,hr.2.1 c B0⟩⟩,rfl,rfl⟩
  | [],hr=>have:=hr.1;simp at this
  | [_],hr=>have:=hr.1;simp at this
  | [_,_],hr=>have:=hr.1;simp at this
  |_::_::_::_::_,hr=>have:=hr.1;simp at this
 .intro w b cap d hH hb ES hdl;have mY:CmpLays Tryz.prog 351 #[] encTmA 3 cfTmA b 0 d.size w:=fun _ _ _ _ x y=>Tryz.closure351 x y _;have hp:=AnyQ.pdqsortCmpFunc_all Tryz.layPdqTerm 3 Tryz.isAgg343 Tryz.sizeOf343 encTmA cfTmA 351 #[] pi b 0 cap d w eg mY ⟨fun _=>rfl,fun x v hv=>by
    simp only[encTmA,Ay,M4,or_false]at hv;rcases hv with rfl|rfl|rfl
    .rfl
    .exact x.2.1.2
    .exact x.2.2.2,hH,hb⟩ (d.size+1) 0 d.size lim d w ch rfl (SWK.start hH) (AB _) (Am _) ES ch (Or.inl rfl)
  rw[hdl]at hp⊢;refine hp.mono ?_
  rintro e w' ⟨rfl,n,os,rfl⟩
  have h:=pdq_sorts (ltOf cfTmA) pi d 0 d.size lim true true (AB _) (Am _) (Or.inl rfl);rw[hdl]at h;exact⟨rfl,_,n,os,h.1,h.2,rfl⟩
 .intro e w;subst e;exact AnyF.pdqsortCmpFunc_none Tryz.layPdqTerm none 0 lim (Y2 351) w
end Go.Eng
namespace Go.Eng
open Go.Proofs
variable {h0:Nat->HO}{P:Program}{args:List AV}{f:Nat}
-- the checker,and what reads it
theorem Gs(a b:ByteArray):Ed a b=Op.bytesLess a.toList b.toList:=by
 have:∀x y:List UInt8,Ja x y=Op.bytesLess x y:=by
  intro x
  induction x with
  |nil=>intro y;cases y<;>rfl
  |cons a x ih=>
   intro y;cases y with
   |nil=>rfl
   |cons b y=>
    unfold Ja Op.bytesLess;rw[ih];rw[Ca];simp
 unfold Ed;rw[this,ByteArray.toList_eq,ByteArray.toList_eq]
theorem A9.imp{Q Q' : AV->(Nat->HO)->Prop}(h:A9 P f args h0 Q)(hq:∀r h',Q r h'->Q' r h'):A9 P f args h0 Q':=h.mono fun r h' q=>⟨r,.refl _,hq r h' q⟩
theorem A9.to{α:Type}{r0:AV}{p:α->Prop}{H:α->Nat->HO}{Q' : AV->(Nat->HO)->Prop}(h:A9 P f args h0 fun r h'=>r=r0/\∃x,p x/\h'=H x)(k:∀x,p x->Q' r0 (H x)):A9 P f args h0 Q':=
 h.imp fun r h' ⟨e1,x,e2,e3⟩=>by subst e1;subst e3;exact k x e2
theorem lW(n:Nat)(h:n<=1073741824):∃lim:Nat,lim<100/\PC 161 [.v (.int .u64 (IntKind.u64.wrap (n:Int)))] (vi lim):=by
 refine⟨Lib.bitLen n,Nat.lt_of_le_of_lt (Lib.bitLen_le n 62 ch ch) ch,?_⟩;have wr:IntKind.u64.wrap (n:Int)=n:=by simp[IntKind.wrap,IntKind.bits,IntKind.signed];omega
 rw[wr];refine KK [.int .u64 n] (.int .i64 (Lib.bitLen n:Nat)) (aN 161 Tryz.func161 Wk rfl) rfl (fun _ _=>.v _ _) fun w _=>?_
 have:=Any.bits_Len Tryz.layBits (n:Int) w ch ch
 rw[Cb]at this;exact this
theorem Aca(l:List (Int×Int))(hl:B8 l)(h:∀x∈l,0<=x.1/\x.1<=1000000) :
  A9 Tryz.prog 235 [.msl 1000 l.length,.v (Y2 236)] (As [(1000,.arr 2 (l.map AE))] Ag) fun r h'=>
   r=.tup []/\∃l' : List (Int×Int),(l'.Perm l/\l'.Pairwise (fun x y=>x.1<=y.1))/\h'=As [(1000,.arr 2 (l'.map AE))] Ag:=by
 obtain⟨lim,bu,hb⟩:=lW l.length hl;refine Cz (No Ej) [(1000,1000)] rfl C3 hm rfl Tryz.func235 Wk rfl (Nz rfl) Wk rfl (Xi .pure (Xi _ (Yi (hb) (Xi (.gen [(1000,1000)] 0) (Yi rfl ((Aci l hl h lim bu).imp ?_))))));intro r h' hq;refine CL hq.2 (fun l' RJ=>?_);refine Xi (.tup []) (Yi ?_ (Yi rfl (Xi l' (Yi ⟨RJ.1,RJ.2.1⟩ ?_))))
 .exact .refl _
 .rw[RJ.2.2];rfl
theorem c61(l:List Tm)(hl:B8 l) :
  A9 Tryz.prog 350 [.msl 1000 l.length,.v (Y2 351)] (As [(1000,.arr 3 (l.map AO))] Ag) fun r h'=>
   r=.tup []/\∃l' : List Tm,(l'.Perm l/\l'.Pairwise (fun x y=>Ed y.path x.path=false))/\h'=As [(1000,.arr 3 (l'.map AO))] Ag:=by
 obtain⟨lim,bu,hb⟩:=lW l.length hl;refine Cz (No Ej) [(1000,1000)] rfl C3 hm rfl Tryz.func350 Wk rfl (Nz rfl) Wk rfl (Xi .pure (Xi _ (Yi (hb) (Xi (.gen [(1000,1000)] 0) (Yi rfl ((Ac2 l hl lim bu).imp ?_))))));intro r h' hq;refine CL hq.2 (fun l' RJ=>?_);refine Xi (.tup []) (Yi ?_ (Yi rfl (Xi l' (Yi ⟨RJ.1,RJ.2.1⟩ ?_))))
 .exact .refl _
 .rw[RJ.2.2];rfl
end Go.Eng
