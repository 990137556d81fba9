/- Lemmas 15. -/
import Derived.Test.YtkmnnpmneamgoaaGreatDoorPA12
import Derived.Test.YtkmnnpmneamgoaaGreatDoorPA01
import Derived.Shelf.SlSortCmp.WholeK
import Derived.Shelf.Sort.Plain
import Derived.Shelf.Small.Strs
import Derived.Shelf.Small.Bits
import Derived.Ground.SlsfProg
import Derived.Ground.NamesProg
set_option maxHeartbeats 1000000
namespace Go.Eng
open Go.Proofs
variable {α:Type}{b0 b1 b2 b3:Bool}{a0:α}{b4:Bool}{a1:α}{b5:Bool}{a2 a3:α}{b6:Bool}{a4:α}{b7:Bool}{a5 a6:α}{b8:Bool}{a7:α}{b9:Bool}{a8:α}{U0:Bool}{a9:α}{l:List α}{X9:α}(i:Nat)(pl:Md)(b:Bool)
abbrev vi(n:Int):AV := .v (.int .i64 n)
abbrev vb:AV := .v (.bool b)
abbrev vs(s:ByteArray):AV := .v (.string s)
abbrev sl(enc:α -> List AV)(l:List α):AV := .slice .none (l.map enc)
abbrev ES(v:Ver):List AV := [vi v.a,vi v.b,vi v.c]
abbrev Ab(s:Int×Int):List AV := [vi s.1,vi s.2]
abbrev Ac(q:Rq):List AV := [vs q.path,sl Ab q.set]
abbrev Am(r:Rl):List AV := [vs r.path,vi r.ver.a,vi r.ver.b,vi r.ver.c,sl Ac r.reqs,vs r.arch,vs r.ifc,vs r.cert,vb r.yanked]
abbrev Ag(s:Sl):List AV := [vs s.path,vi s.ver.a,vi s.ver.b,vi s.ver.c]
abbrev Ad(t:Tm):List AV := [vs t.path,vb t.absent,sl Ab t.set]
abbrev AG(i:Nf):List AV := [vi i.kind,vs i.path,vi i.place,vi i.number,vi i.left,vi i.right]
abbrev AN(s:Sk):List AV := [vs s.path,vi s.place,vi s.inf]
noncomputable abbrev br:Cx := ⟨Tryz.prog,nK,pl,false,0,fun _ _ _ _ => True⟩
noncomputable abbrev IB:Cx := ⟨Tryz.prog,nK,pl,true,0,fun _ _ _ _ => True⟩
abbrev De:Md := ⟨[],[],[],[],[],[],[],[],[],[],[]⟩
abbrev PC(f:Nat)(args:List AV)(res:AV):Prop := LM Tryz.prog f args res
theorem hm:Tryz.prog.follows .mixedOrders = true := by rfl
theorem Zr{α:Sort _}{β:Sort _}{a:α}{b:β}:a = a /\ b = b := ⟨rfl,rfl⟩
theorem Nz{a b:Nat}(h:Nat.ble a b = true):a <= b := Gm h
theorem Xi{α:Sort _}{p:α -> Prop}(w:α)(h:p w):Exists p := Exists.intro w h
theorem Yi{a b:Prop}(h:a)(k:b):a /\ b := And.intro h k
theorem Fh{st:St}{h:Nat -> HO}:∀j,Ae j = .free \/ (st.h j = Ae j /\ Zf h (Ae j) = true) := fun _ => .inl rfl
theorem Tv:True := trivial
theorem Ii(h:i <= 9223372036854775806):As ((i:Int) + 1) := by unfold As;omega
theorem Dl(n i:Nat)(h:i<n):n-(i + 1)<n-i := by omega
theorem Bt:b = true \/ b = false := Bool.eq_false_or_eq_true b
theorem Z1:(a0 = a0 /\ b0 = b0) /\ True := ⟨⟨rfl,rfl⟩,trivial⟩
theorem Z2:(a0 = a0 /\ b0 = b0) /\ (a1 = a1 /\ b1 = b1) /\ True := ⟨⟨rfl,rfl⟩,⟨rfl,rfl⟩,trivial⟩
theorem Z3:(a0 = a0 /\ b0 = b0) /\ (a1 = a1 /\ b1 = b1) /\ (a2 = a2 /\ b2 = b2) /\ True := ⟨⟨rfl,rfl⟩,⟨rfl,rfl⟩,⟨rfl,rfl⟩,trivial⟩
theorem Z4:(a0 = a0 /\ b0 = b0) /\ (a1 = a1 /\ b1 = b1) /\ (a2 = a2 /\ b2 = b2) /\ (a3 = a3 /\ b3 = b3) /\ True := ⟨⟨rfl,rfl⟩,⟨rfl,rfl⟩,⟨rfl,rfl⟩,⟨rfl,rfl⟩,trivial⟩
theorem Z5:(a0 = a0 /\ b0 = b0) /\ (a1 = a1 /\ b1 = b1) /\ (a2 = a2 /\ b2 = b2) /\ (a3 = a3 /\ b3 = b3) /\ (a4 = a4 /\ b4 = b4) /\ True := ⟨⟨rfl,rfl⟩,⟨rfl,rfl⟩,⟨rfl,rfl⟩,⟨rfl,rfl⟩,⟨rfl,rfl⟩,trivial⟩
theorem Z6:(a0 = a0 /\ b0 = b0) /\ (a1 = a1 /\ b1 = b1) /\ (a2 = a2 /\ b2 = b2) /\ (a3 = a3 /\ b3 = b3) /\ (a4 = a4 /\ b4 = b4) /\ (a5 = a5 /\ b5 = b5) /\ True := ⟨⟨rfl,rfl⟩,⟨rfl,rfl⟩,⟨rfl,rfl⟩,⟨rfl,rfl⟩,⟨rfl,rfl⟩,⟨rfl,rfl⟩,trivial⟩
theorem Z7:(a0 = a0 /\ b0 = b0) /\ (a1 = a1 /\ b1 = b1) /\ (a2 = a2 /\ b2 = b2) /\ (a3 = a3 /\ b3 = b3) /\ (a4 = a4 /\ b4 = b4) /\ (a5 = a5 /\ b5 = b5) /\ (a6 = a6 /\ b6 = b6) /\ True := ⟨⟨rfl,rfl⟩,⟨rfl,rfl⟩,⟨rfl,rfl⟩,⟨rfl,rfl⟩,⟨rfl,rfl⟩,⟨rfl,rfl⟩,⟨rfl,rfl⟩,trivial⟩
theorem Z8:(a0 = a0 /\ b0 = b0) /\ (a1 = a1 /\ b1 = b1) /\ (a2 = a2 /\ b2 = b2) /\ (a3 = a3 /\ b3 = b3) /\ (a4 = a4 /\ b4 = b4) /\ (a5 = a5 /\ b5 = b5) /\ (a6 = a6 /\ b6 = b6) /\ (a7 = a7 /\ b7 = b7) /\ True := ⟨⟨rfl,rfl⟩,⟨rfl,rfl⟩,⟨rfl,rfl⟩,⟨rfl,rfl⟩,⟨rfl,rfl⟩,⟨rfl,rfl⟩,⟨rfl,rfl⟩,⟨rfl,rfl⟩,trivial⟩
theorem Z9:(a0 = a0 /\ b0 = b0) /\ (a1 = a1 /\ b1 = b1) /\ (a2 = a2 /\ b2 = b2) /\ (a3 = a3 /\ b3 = b3) /\ (a4 = a4 /\ b4 = b4) /\ (a5 = a5 /\ b5 = b5) /\ (a6 = a6 /\ b6 = b6) /\ (a7 = a7 /\ b7 = b7) /\ (a8 = a8 /\ b8 = b8) /\ True := ⟨⟨rfl,rfl⟩,⟨rfl,rfl⟩,⟨rfl,rfl⟩,⟨rfl,rfl⟩,⟨rfl,rfl⟩,⟨rfl,rfl⟩,⟨rfl,rfl⟩,⟨rfl,rfl⟩,⟨rfl,rfl⟩,trivial⟩
theorem Z10:(a0 = a0 /\ b0 = b0) /\ (a1 = a1 /\ b1 = b1) /\ (a2 = a2 /\ b2 = b2) /\ (a3 = a3 /\ b3 = b3) /\ (a4 = a4 /\ b4 = b4) /\ (a5 = a5 /\ b5 = b5) /\ (a6 = a6 /\ b6 = b6) /\ (a7 = a7 /\ b7 = b7) /\ (a8 = a8 /\ b8 = b8) /\ (a9 = a9 /\ b9 = b9) /\ True := ⟨⟨rfl,rfl⟩,⟨rfl,rfl⟩,⟨rfl,rfl⟩,⟨rfl,rfl⟩,⟨rfl,rfl⟩,⟨rfl,rfl⟩,⟨rfl,rfl⟩,⟨rfl,rfl⟩,⟨rfl,rfl⟩,⟨rfl,rfl⟩,trivial⟩
theorem Z11:(a0 = a0 /\ b0 = b0) /\ (a1 = a1 /\ b1 = b1) /\ (a2 = a2 /\ b2 = b2) /\ (a3 = a3 /\ b3 = b3) /\ (a4 = a4 /\ b4 = b4) /\ (a5 = a5 /\ b5 = b5) /\ (a6 = a6 /\ b6 = b6) /\ (a7 = a7 /\ b7 = b7) /\ (a8 = a8 /\ b8 = b8) /\ (a9 = a9 /\ b9 = b9) /\ (X9 = X9 /\ U0 = U0) /\ True := ⟨⟨rfl,rfl⟩,⟨rfl,rfl⟩,⟨rfl,rfl⟩,⟨rfl,rfl⟩,⟨rfl,rfl⟩,⟨rfl,rfl⟩,⟨rfl,rfl⟩,⟨rfl,rfl⟩,⟨rfl,rfl⟩,⟨rfl,rfl⟩,⟨rfl,rfl⟩,trivial⟩
theorem Z12{da:α}{jR:Bool}:(a0 = a0 /\ b0 = b0) /\ (a1 = a1 /\ b1 = b1) /\ (a2 = a2 /\ b2 = b2) /\ (a3 = a3 /\ b3 = b3) /\ (a4 = a4 /\ b4 = b4) /\ (a5 = a5 /\ b5 = b5) /\ (a6 = a6 /\ b6 = b6) /\ (a7 = a7 /\ b7 = b7) /\ (a8 = a8 /\ b8 = b8) /\ (a9 = a9 /\ b9 = b9) /\ (X9 = X9 /\ U0 = U0) /\ (da = da /\ jR = jR) /\ True := ⟨⟨rfl,rfl⟩,⟨rfl,rfl⟩,⟨rfl,rfl⟩,⟨rfl,rfl⟩,⟨rfl,rfl⟩,⟨rfl,rfl⟩,⟨rfl,rfl⟩,⟨rfl,rfl⟩,⟨rfl,rfl⟩,⟨rfl,rfl⟩,⟨rfl,rfl⟩,⟨rfl,rfl⟩,trivial⟩
theorem Z13{da a12:α}{jR uT:Bool}:(a0 = a0 /\ b0 = b0) /\ (a1 = a1 /\ b1 = b1) /\ (a2 = a2 /\ b2 = b2) /\ (a3 = a3 /\ b3 = b3) /\ (a4 = a4 /\ b4 = b4) /\ (a5 = a5 /\ b5 = b5) /\ (a6 = a6 /\ b6 = b6) /\ (a7 = a7 /\ b7 = b7) /\ (a8 = a8 /\ b8 = b8) /\ (a9 = a9 /\ b9 = b9) /\ (X9 = X9 /\ U0 = U0) /\ (da = da /\ jR = jR) /\ (a12 = a12 /\ uT = uT) /\ True := ⟨⟨rfl,rfl⟩,⟨rfl,rfl⟩,⟨rfl,rfl⟩,⟨rfl,rfl⟩,⟨rfl,rfl⟩,⟨rfl,rfl⟩,⟨rfl,rfl⟩,⟨rfl,rfl⟩,⟨rfl,rfl⟩,⟨rfl,rfl⟩,⟨rfl,rfl⟩,⟨rfl,rfl⟩,⟨rfl,rfl⟩,trivial⟩
theorem Nn:(0:Int) <= (i:Int) := Int.natCast_nonneg i
abbrev Ic(x:List Rl)(ifs:List (List AV)):List AV := [sl Am x,.slice .none ifs]
theorem Ps{f:Nat}{fn:Func}{c:Code}{args:List AV}{res:AV}(hf:Tryz.prog.funcs[f]? = some fn)(hb:fn.body = some c)(hN:args.length <= fn.ntmps)(hk:M0 (br pl) c (bv (br pl) fn.results.toList fun r => Ea r res) ⟨L6 args,Ae⟩)(hn : (fn.name == "runtime.NumGoroutine") = false := by kernel_rfl)(hc : Dr fn.ntmps c = true := by kernel_rfl) : LM Tryz.prog f args res := Fz (br pl) rfl Bz hm rfl hf hn hb hN hc hk
theorem Lm{β:Type}(f:α -> β):(l.map f).length = l.length := BR f
theorem Ge{i:Nat}(h:i<l.length):l[i]? = some l[i] := AR h
end Go.Eng
namespace Go.Proofs
open Go.Shelf
def Tryz.layPdqSpan_ren:Go.Shelf.Ren:=⟨fun | 14=>216 | 20=>250 | 21=>251 | 22=>252 | 23=>253 | 24=>254 | 25=>255 | 26=>256 | 27=>257 | 46=>271 | 47=>195 | 48=>196 | 49=>272 | 50=>273 | 15=>93 | 57=>293 | 28=>147 | 29=>148 | n=>n,fun | 24=>65 | 22=>42 | 3=>3 | 25=>234 | 4=>4 | 0=>0 | 46=>215 | 45=>214 | 50=>90 | 66=>246 | 39=>155 | 55=>223 | 70=>250 | 76=>274 | 77=>275 | 53=>221 | 5=>5 | 9=>9 | n=>n,fun | n=>n⟩
theorem Tryz.layPdqSpan:Go.Proofs.SlLaysF0.n14 Tryz.prog Tryz.layPdqSpan_ren:={
 mixed:=by kernel_rfl
 f14:=⟨Tryz.f216.name,by decide,Go.Eng.A0a Tryz.func216⟩
 f15:=Go.Eng.A0a Tryz.func93
 f20:=⟨Tryz.f250.name,by decide,Go.Eng.A0a Tryz.func250⟩
 f21:=⟨Tryz.f251.name,by decide,Go.Eng.A0a Tryz.func251⟩
 f22:=⟨Tryz.f252.name,by decide,Go.Eng.A0a Tryz.func252⟩
 f23:=⟨Tryz.f253.name,by decide,Go.Eng.A0a Tryz.func253⟩
 f24:=⟨Tryz.f254.name,by decide,Go.Eng.A0a Tryz.func254⟩
 f25:=⟨Tryz.f255.name,by decide,Go.Eng.A0a Tryz.func255⟩
 f26:=⟨Tryz.f256.name,by decide,Go.Eng.A0a Tryz.func256⟩
 f27:=⟨Tryz.f257.name,by decide,Go.Eng.A0a Tryz.func257⟩
 f28:=Go.Eng.A0a Tryz.func147
 f29:=Go.Eng.A0a Tryz.func148
 f46:=⟨Tryz.f271.name,by decide,Go.Eng.A0a Tryz.func271⟩
 f47:=Go.Eng.A0a Tryz.func195
 f48:=Go.Eng.A0a Tryz.func196
 f49:=⟨Tryz.f272.name,by decide,Go.Eng.A0a Tryz.func272⟩
 f50:=⟨Tryz.f273.name,by decide,Go.Eng.A0a Tryz.func273⟩
 f57:=⟨Tryz.f293.name,by decide,Go.Eng.A0a Tryz.func293⟩
 t0:=Tryz.underlying0
 a0:=Tryz.isAgg0
 z0:=Tryz.sizeOf0
 v0:=Tryz.zeroValue0
 t3:=Tryz.underlying3
 a3:=Tryz.isAgg3
 z3:=Tryz.sizeOf3
 v3:=Tryz.zeroValue3
 t4:=Tryz.underlying4
 a4:=Tryz.isAgg4
 z4:=Tryz.sizeOf4
 v4:=Tryz.zeroValue4
 t5:=Tryz.underlying5
 a5:=Tryz.isAgg5
 z5:=Tryz.sizeOf5
 v5:=Tryz.zeroValue5
 t9:=Tryz.underlying9
 a9:=Tryz.isAgg9
 z9:=Tryz.sizeOf9
 v9:=Tryz.zeroValue9
 t22:=Tryz.underlying42
 a22:=Tryz.isAgg42
 z22:=Tryz.sizeOf42
 v22:=Tryz.zeroValue42
 t25:=Tryz.underlying234
 a25:=Tryz.isAgg234
 z25:=Tryz.sizeOf234
 v25:=Tryz.zeroValue234
 t39:=Tryz.underlying155
 a39:=Tryz.isAgg155
 z39:=Tryz.sizeOf155
 v39:=Tryz.zeroValue155
 t45:=Tryz.underlying214
 a45:=Tryz.isAgg214
 z45:=Tryz.sizeOf214
 v45:=Tryz.zeroValue214
 t46:=Tryz.underlying215
 a46:=Tryz.isAgg215
 z46:=Tryz.sizeOf215
 v46:=Tryz.zeroValue215
 t50:=Tryz.underlying90
 a50:=Tryz.isAgg90
 z50:=Tryz.sizeOf90
 v50:=Tryz.zeroValue90
 t53:=Tryz.underlying221
 a53:=Tryz.isAgg221
 z53:=Tryz.sizeOf221
 v53:=Tryz.zeroValue221
 t55:=Tryz.underlying223
 a55:=Tryz.isAgg223
 z55:=Tryz.sizeOf223
 v55:=Tryz.zeroValue223
 t66:=Tryz.underlying246
 a66:=Tryz.isAgg246
 z66:=Tryz.sizeOf246
 v66:=Tryz.zeroValue246
 t70:=Tryz.underlying250
 a70:=Tryz.isAgg250
 z70:=Tryz.sizeOf250
 v70:=Tryz.zeroValue250
 t76:=Tryz.underlying274
 a76:=Tryz.isAgg274
 z76:=Tryz.sizeOf274
 v76:=Tryz.zeroValue274
 t77:=Tryz.underlying275
 a77:=Tryz.isAgg275
 z77:=Tryz.sizeOf275
 v77:=Tryz.zeroValue275 }
def Tryz.layPdqTerm_ren:Go.Shelf.Ren:=⟨fun | 14=>263 | 20=>279 | 21=>280 | 22=>281 | 23=>282 | 24=>283 | 25=>284 | 26=>285 | 27=>286 | 46=>306 | 47=>195 | 48=>196 | 49=>307 | 50=>308 | 15=>93 | 57=>318 | 28=>147 | 29=>148 | n=>n,fun | 24=>208 | 22=>148 | 3=>3 | 25=>272 | 4=>4 | 0=>0 | 46=>215 | 45=>214 | 50=>90 | 66=>246 | 39=>155 | 55=>223 | 70=>250 | 76=>274 | 77=>275 | 53=>221 | 5=>5 | 9=>9 | n=>n,fun | n=>n⟩
theorem Tryz.layPdqTerm:Go.Proofs.SlLaysF0.n14 Tryz.prog Tryz.layPdqTerm_ren:={
 mixed:=by kernel_rfl
 f14:=⟨Tryz.f263.name,by decide,Go.Eng.A0a Tryz.func263⟩
 f15:=Go.Eng.A0a Tryz.func93
 f20:=⟨Tryz.f279.name,by decide,Go.Eng.A0a Tryz.func279⟩
 f21:=⟨Tryz.f280.name,by decide,Go.Eng.A0a Tryz.func280⟩
 f22:=⟨Tryz.f281.name,by decide,Go.Eng.A0a Tryz.func281⟩
 f23:=⟨Tryz.f282.name,by decide,Go.Eng.A0a Tryz.func282⟩
 f24:=⟨Tryz.f283.name,by decide,Go.Eng.A0a Tryz.func283⟩
 f25:=⟨Tryz.f284.name,by decide,Go.Eng.A0a Tryz.func284⟩
 f26:=⟨Tryz.f285.name,by decide,Go.Eng.A0a Tryz.func285⟩
 f27:=⟨Tryz.f286.name,by decide,Go.Eng.A0a Tryz.func286⟩
 f28:=Go.Eng.A0a Tryz.func147
 f29:=Go.Eng.A0a Tryz.func148
 f46:=⟨Tryz.f306.name,by decide,Go.Eng.A0a Tryz.func306⟩
 f47:=Go.Eng.A0a Tryz.func195
 f48:=Go.Eng.A0a Tryz.func196
 f49:=⟨Tryz.f307.name,by decide,Go.Eng.A0a Tryz.func307⟩
 f50:=⟨Tryz.f308.name,by decide,Go.Eng.A0a Tryz.func308⟩
 f57:=⟨Tryz.f318.name,by decide,Go.Eng.A0a Tryz.func318⟩
 t0:=Tryz.underlying0
 a0:=Tryz.isAgg0
 z0:=Tryz.sizeOf0
 v0:=Tryz.zeroValue0
 t3:=Tryz.underlying3
 a3:=Tryz.isAgg3
 z3:=Tryz.sizeOf3
 v3:=Tryz.zeroValue3
 t4:=Tryz.underlying4
 a4:=Tryz.isAgg4
 z4:=Tryz.sizeOf4
 v4:=Tryz.zeroValue4
 t5:=Tryz.underlying5
 a5:=Tryz.isAgg5
 z5:=Tryz.sizeOf5
 v5:=Tryz.zeroValue5
 t9:=Tryz.underlying9
 a9:=Tryz.isAgg9
 z9:=Tryz.sizeOf9
 v9:=Tryz.zeroValue9
 t22:=Tryz.underlying148
 a22:=Tryz.isAgg148
 z22:=Tryz.sizeOf148
 v22:=Tryz.zeroValue148
 t25:=Tryz.underlying272
 a25:=Tryz.isAgg272
 z25:=Tryz.sizeOf272
 v25:=Tryz.zeroValue272
 t39:=Tryz.underlying155
 a39:=Tryz.isAgg155
 z39:=Tryz.sizeOf155
 v39:=Tryz.zeroValue155
 t45:=Tryz.underlying214
 a45:=Tryz.isAgg214
 z45:=Tryz.sizeOf214
 v45:=Tryz.zeroValue214
 t46:=Tryz.underlying215
 a46:=Tryz.isAgg215
 z46:=Tryz.sizeOf215
 v46:=Tryz.zeroValue215
 t50:=Tryz.underlying90
 a50:=Tryz.isAgg90
 z50:=Tryz.sizeOf90
 v50:=Tryz.zeroValue90
 t53:=Tryz.underlying221
 a53:=Tryz.isAgg221
 z53:=Tryz.sizeOf221
 v53:=Tryz.zeroValue221
 t55:=Tryz.underlying223
 a55:=Tryz.isAgg223
 z55:=Tryz.sizeOf223
 v55:=Tryz.zeroValue223
 t66:=Tryz.underlying246
 a66:=Tryz.isAgg246
 z66:=Tryz.sizeOf246
 v66:=Tryz.zeroValue246
 t70:=Tryz.underlying250
 a70:=Tryz.isAgg250
 z70:=Tryz.sizeOf250
 v70:=Tryz.zeroValue250
 t76:=Tryz.underlying274
 a76:=Tryz.isAgg274
 z76:=Tryz.sizeOf274
 v76:=Tryz.zeroValue274
 t77:=Tryz.underlying275
 a77:=Tryz.isAgg275
 z77:=Tryz.sizeOf275
 v77:=Tryz.zeroValue275 }
def Tryz.layPdqSel_ren:Go.Shelf.Ren:=⟨fun | 14=>92 | 20=>139 | 21=>140 | 22=>141 | 23=>142 | 24=>143 | 25=>144 | 26=>145 | 27=>146 | 46=>194 | 47=>195 | 48=>196 | 49=>197 | 50=>198 | 15=>93 | 57=>234 | 28=>147 | 29=>148 | n=>n,fun | 24=>51 | 22=>39 | 3=>3 | 25=>103 | 4=>4 | 0=>0 | 46=>215 | 45=>214 | 50=>90 | 66=>246 | 39=>155 | 55=>223 | 70=>250 | 76=>274 | 77=>275 | 53=>221 | 5=>5 | 9=>9 | n=>n,fun | n=>n⟩
theorem Tryz.layPdqSel:Go.Proofs.SlLaysF0.n14 Tryz.prog Tryz.layPdqSel_ren:={
 mixed:=by kernel_rfl
 f14:=⟨Tryz.f92.name,by decide,Go.Eng.A0a Tryz.func92⟩
 f15:=Go.Eng.A0a Tryz.func93
 f20:=⟨Tryz.f139.name,by decide,Go.Eng.A0a Tryz.func139⟩
 f21:=⟨Tryz.f140.name,by decide,Go.Eng.A0a Tryz.func140⟩
 f22:=⟨Tryz.f141.name,by decide,Go.Eng.A0a Tryz.func141⟩
 f23:=⟨Tryz.f142.name,by decide,Go.Eng.A0a Tryz.func142⟩
 f24:=⟨Tryz.f143.name,by decide,Go.Eng.A0a Tryz.func143⟩
 f25:=⟨Tryz.f144.name,by decide,Go.Eng.A0a Tryz.func144⟩
 f26:=⟨Tryz.f145.name,by decide,Go.Eng.A0a Tryz.func145⟩
 f27:=⟨Tryz.f146.name,by decide,Go.Eng.A0a Tryz.func146⟩
 f28:=Go.Eng.A0a Tryz.func147
 f29:=Go.Eng.A0a Tryz.func148
 f46:=⟨Tryz.f194.name,by decide,Go.Eng.A0a Tryz.func194⟩
 f47:=Go.Eng.A0a Tryz.func195
 f48:=Go.Eng.A0a Tryz.func196
 f49:=⟨Tryz.f197.name,by decide,Go.Eng.A0a Tryz.func197⟩
 f50:=⟨Tryz.f198.name,by decide,Go.Eng.A0a Tryz.func198⟩
 f57:=⟨Tryz.f234.name,by decide,Go.Eng.A0a Tryz.func234⟩
 t0:=Tryz.underlying0
 a0:=Tryz.isAgg0
 z0:=Tryz.sizeOf0
 v0:=Tryz.zeroValue0
 t3:=Tryz.underlying3
 a3:=Tryz.isAgg3
 z3:=Tryz.sizeOf3
 v3:=Tryz.zeroValue3
 t4:=Tryz.underlying4
 a4:=Tryz.isAgg4
 z4:=Tryz.sizeOf4
 v4:=Tryz.zeroValue4
 t5:=Tryz.underlying5
 a5:=Tryz.isAgg5
 z5:=Tryz.sizeOf5
 v5:=Tryz.zeroValue5
 t9:=Tryz.underlying9
 a9:=Tryz.isAgg9
 z9:=Tryz.sizeOf9
 v9:=Tryz.zeroValue9
 t22:=Tryz.underlying39
 a22:=Tryz.isAgg39
 z22:=Tryz.sizeOf39
 v22:=Tryz.zeroValue39
 t25:=Tryz.underlying103
 a25:=Tryz.isAgg103
 z25:=Tryz.sizeOf103
 v25:=Tryz.zeroValue103
 t39:=Tryz.underlying155
 a39:=Tryz.isAgg155
 z39:=Tryz.sizeOf155
 v39:=Tryz.zeroValue155
 t45:=Tryz.underlying214
 a45:=Tryz.isAgg214
 z45:=Tryz.sizeOf214
 v45:=Tryz.zeroValue214
 t46:=Tryz.underlying215
 a46:=Tryz.isAgg215
 z46:=Tryz.sizeOf215
 v46:=Tryz.zeroValue215
 t50:=Tryz.underlying90
 a50:=Tryz.isAgg90
 z50:=Tryz.sizeOf90
 v50:=Tryz.zeroValue90
 t53:=Tryz.underlying221
 a53:=Tryz.isAgg221
 z53:=Tryz.sizeOf221
 v53:=Tryz.zeroValue221
 t55:=Tryz.underlying223
 a55:=Tryz.isAgg223
 z55:=Tryz.sizeOf223
 v55:=Tryz.zeroValue223
 t66:=Tryz.underlying246
 a66:=Tryz.isAgg246
 z66:=Tryz.sizeOf246
 v66:=Tryz.zeroValue246
 t70:=Tryz.underlying250
 a70:=Tryz.isAgg250
 z70:=Tryz.sizeOf250
 v70:=Tryz.zeroValue250
 t76:=Tryz.underlying274
 a76:=Tryz.isAgg274
 z76:=Tryz.sizeOf274
 v76:=Tryz.zeroValue274
 t77:=Tryz.underlying275
 a77:=Tryz.isAgg275
 z77:=Tryz.sizeOf275
 v77:=Tryz.zeroValue275 }
def Tryz.layCompare_ren:Go.Shelf.Ren:=⟨fun | 106=>49 | 213=>94 | 265=>149 | n=>n,fun | 9=>9 | 3=>3 | n=>n,fun | n=>n⟩
theorem Tryz.layCompare:Go.Proofs.Lays.n106 Tryz.prog Tryz.layCompare_ren:={
 mixed:=by kernel_rfl
 f106:=Go.Eng.A0a Tryz.func49
 f213:=Go.Eng.A0a Tryz.func94
 f265:=Go.Eng.A0a Tryz.func149
 t3:=Tryz.underlying3
 a3:=Tryz.isAgg3
 z3:=Tryz.sizeOf3
 v3:=Tryz.zeroValue3
 t9:=Tryz.underlying9
 a9:=Tryz.isAgg9
 z9:=Tryz.sizeOf9
 v9:=Tryz.zeroValue9 }
def Tryz.layBits_ren:Go.Shelf.Ren:=⟨fun | 125=>93 | 128=>147 | 129=>148 | n=>n,fun | 46=>155 | 3=>3 | 51=>221 | 53=>223 | 4=>4 | 5=>5 | 9=>9 | n=>n,fun | n=>n⟩
theorem Tryz.layBits:Go.Proofs.Lays.n125 Tryz.prog Tryz.layBits_ren:={
 mixed:=by kernel_rfl
 f125:=Go.Eng.A0a Tryz.func93
 f128:=Go.Eng.A0a Tryz.func147
 f129:=Go.Eng.A0a Tryz.func148
 t3:=Tryz.underlying3
 a3:=Tryz.isAgg3
 z3:=Tryz.sizeOf3
 v3:=Tryz.zeroValue3
 t4:=Tryz.underlying4
 a4:=Tryz.isAgg4
 z4:=Tryz.sizeOf4
 v4:=Tryz.zeroValue4
 t5:=Tryz.underlying5
 a5:=Tryz.isAgg5
 z5:=Tryz.sizeOf5
 v5:=Tryz.zeroValue5
 t9:=Tryz.underlying9
 a9:=Tryz.isAgg9
 z9:=Tryz.sizeOf9
 v9:=Tryz.zeroValue9
 t46:=Tryz.underlying155
 a46:=Tryz.isAgg155
 z46:=Tryz.sizeOf155
 v46:=Tryz.zeroValue155
 t51:=Tryz.underlying221
 a51:=Tryz.isAgg221
 z51:=Tryz.sizeOf221
 v51:=Tryz.zeroValue221
 t53:=Tryz.underlying223
 a53:=Tryz.isAgg223
 z53:=Tryz.sizeOf223
 v53:=Tryz.zeroValue223 }
def Tryz.laySortInts_ren:Go.Shelf.Ren:=⟨fun | 189=>261 | 125=>93 | 257=>277 | 128=>147 | 129=>148 | 294=>297 | 295=>298 | 296=>299 | 297=>300 | 298=>301 | 299=>302 | 216=>303 | 300=>304 | 301=>305 | 328=>315 | 329=>195 | 330=>196 | 331=>316 | 332=>317 | 215=>249 | 343=>325 | n=>n,fun | 28=>35 | 3=>3 | 46=>155 | 0=>0 | 51=>221 | 53=>223 | 4=>4 | 183=>215 | 182=>214 | 131=>90 | 5=>5 | 9=>9 | 218=>246 | 222=>250 | 228=>274 | 229=>275 | n=>n,fun | n=>n⟩
theorem Tryz.laySortInts:Go.Proofs.Lays.n189 Tryz.prog Tryz.laySortInts_ren:={
 mixed:=by kernel_rfl
 f125:=Go.Eng.A0a Tryz.func93
 f128:=Go.Eng.A0a Tryz.func147
 f129:=Go.Eng.A0a Tryz.func148
 f189:=Go.Eng.A0a Tryz.func261
 f215:=Go.Eng.A0a Tryz.func249
 f216:=Go.Eng.A0a Tryz.func303
 f257:=Go.Eng.A0a Tryz.func277
 f294:=Go.Eng.A0a Tryz.func297
 f295:=Go.Eng.A0a Tryz.func298
 f296:=Go.Eng.A0a Tryz.func299
 f297:=Go.Eng.A0a Tryz.func300
 f298:=Go.Eng.A0a Tryz.func301
 f299:=Go.Eng.A0a Tryz.func302
 f300:=Go.Eng.A0a Tryz.func304
 f301:=Go.Eng.A0a Tryz.func305
 f328:=Go.Eng.A0a Tryz.func315
 f329:=Go.Eng.A0a Tryz.func195
 f330:=Go.Eng.A0a Tryz.func196
 f331:=Go.Eng.A0a Tryz.func316
 f332:=Go.Eng.A0a Tryz.func317
 f343:=Go.Eng.A0a Tryz.func325
 t0:=Tryz.underlying0
 a0:=Tryz.isAgg0
 z0:=Tryz.sizeOf0
 v0:=Tryz.zeroValue0
 t3:=Tryz.underlying3
 a3:=Tryz.isAgg3
 z3:=Tryz.sizeOf3
 v3:=Tryz.zeroValue3
 t4:=Tryz.underlying4
 a4:=Tryz.isAgg4
 z4:=Tryz.sizeOf4
 v4:=Tryz.zeroValue4
 t5:=Tryz.underlying5
 a5:=Tryz.isAgg5
 z5:=Tryz.sizeOf5
 v5:=Tryz.zeroValue5
 t9:=Tryz.underlying9
 a9:=Tryz.isAgg9
 z9:=Tryz.sizeOf9
 v9:=Tryz.zeroValue9
 t28:=Tryz.underlying35
 a28:=Tryz.isAgg35
 z28:=Tryz.sizeOf35
 v28:=Tryz.zeroValue35
 t46:=Tryz.underlying155
 a46:=Tryz.isAgg155
 z46:=Tryz.sizeOf155
 v46:=Tryz.zeroValue155
 t51:=Tryz.underlying221
 a51:=Tryz.isAgg221
 z51:=Tryz.sizeOf221
 v51:=Tryz.zeroValue221
 t53:=Tryz.underlying223
 a53:=Tryz.isAgg223
 z53:=Tryz.sizeOf223
 v53:=Tryz.zeroValue223
 t131:=Tryz.underlying90
 a131:=Tryz.isAgg90
 z131:=Tryz.sizeOf90
 v131:=Tryz.zeroValue90
 t182:=Tryz.underlying214
 a182:=Tryz.isAgg214
 z182:=Tryz.sizeOf214
 v182:=Tryz.zeroValue214
 t183:=Tryz.underlying215
 a183:=Tryz.isAgg215
 z183:=Tryz.sizeOf215
 v183:=Tryz.zeroValue215
 t218:=Tryz.underlying246
 a218:=Tryz.isAgg246
 z218:=Tryz.sizeOf246
 v218:=Tryz.zeroValue246
 t222:=Tryz.underlying250
 a222:=Tryz.isAgg250
 z222:=Tryz.sizeOf250
 v222:=Tryz.zeroValue250
 t228:=Tryz.underlying274
 a228:=Tryz.isAgg274
 z228:=Tryz.sizeOf274
 v228:=Tryz.zeroValue274
 t229:=Tryz.underlying275
 a229:=Tryz.isAgg275
 z229:=Tryz.sizeOf275
 v229:=Tryz.zeroValue275 }
end Go.Proofs
namespace Go.Proofs
open Go.Shelf Go.RowKit Go.Lib Go.Sort
def SpA:Type:={x:Int×Int // 0<=x.1/\x.1<=1000000}
instance:Inhabited SpA:=⟨⟨(0,0),by decide⟩⟩
def encSpA(x:SpA):List Value:=[.int .i64 x.1.1,.int .i64 x.1.2]
def cfSpA(x y:SpA):Int:=x.1.1-y.1.1
theorem Tryz.closure169(x y:SpA)(W:World):Calls Tryz.prog 169 #[.agg #[.int .i64 x.1.1,.int .i64 x.1.2],.agg #[.int .i64 y.1.1,.int .i64 y.1.2]] W fun e w'=>e=.returned (.int .i64 (cfSpA x y))/\∃q os',w'=grow (W.drewN q) os':=by
 obtain⟨⟨a,b⟩,h1,h2⟩:=x;obtain⟨⟨c,d⟩,h3,h4⟩:=y;dsimp only at h1 h2 h3 h4;have hw:IntKind.i64.wrap (a-c)=a-c:=by simp[IntKind.wrap,IntKind.bits,IntKind.signed];omega
 show Calls Tryz.prog 169 #[.agg #[.int .i64 a,.int .i64 b],.agg #[.int .i64 c,.int .i64 d]] W fun e w'=>e=.returned (.int .i64 (a-c))/\∃q os',w'=grow (W.drewN q) os'
 go_enter Tryz.func169,Tryz.ntmps169
 go_wp2
 go_ret
 exact⟨rfl,0,_,by rw[alloc_eq_grow,alloc_eq_grow,grow_grow];rfl⟩
def TmA:Type:=ByteArray×{v:Value // v.oneCell'=true}×{v:Value // v.oneCell'=true}
instance:Inhabited TmA:=⟨⟨ByteArray.empty,⟨.bool false,rfl⟩,⟨.bool false,rfl⟩⟩⟩
def encTmA(x:TmA):List Value:=[.string x.1,x.2.1.1,x.2.2.1]
def cfTmA(x y:TmA):Int:=Lib.compareBytes x.1.data.toList y.1.data.toList
theorem Tryz.closure232(x y:TmA)(W:World):Calls Tryz.prog 232 #[.agg #[.string x.1,x.2.1.1,x.2.2.1],.agg #[.string y.1,y.2.1.1,y.2.2.1]] W fun e w'=>e=.returned (.int .i64 (cfTmA x y))/\∃q os',w'=grow (W.drewN q) os':=by
 have hcon:=fun W'=>Any.strings_Compare Tryz.layCompare x.1 y.1 W';obtain⟨a,⟨b,hb⟩,⟨c,hc⟩⟩:=x;obtain⟨a',⟨b',nY⟩,⟨c',zt⟩⟩:=y;dsimp only at hcon
 change ∀W',Calls Tryz.prog 49 _ _ _ at hcon
 unfold cfTmA;dsimp only;generalize Lib.compareBytes a.data.toList a'.data.toList=r at hcon⊢
 go_enter Tryz.func232,Tryz.ntmps232
 go_wp2_with (go_at_call 49;refine(hcon _).mono ?_;rintro e w' ⟨rfl,rfl⟩)
 go_ret
 exact⟨rfl,0,_,by rw[alloc_eq_grow,alloc_eq_grow,grow_grow];rfl⟩
end Go.Proofs
namespace Go.Eng
open Go.Proofs
variable {caps:List AV}{α:Type}{p:α->Bool}{i fF:Nat}(l:List (Int×Int))(x:Sl)(t:Tm)(v:Ver)(s:List Sl)
theorem sA:PC 131 [.agg (ES v)] (.agg [vi v.a,vi v.b,vi v.c]):=by
 refine Ps De Tryz.func131 rfl (Nz rfl) ?_;exact Yi (Nz rfl) (Yi (Nz rfl) (.refl _))
def part:Nat->Int
 |0=>v.a
 |1=>v.b
 |_=>v.c
theorem WI{v:Ver}(h:¬okPart (part v i)):BK v=false:=by
 unfold BK
 match i,h with
 |0,h=>have h:¬okPart v.a:=h;simp[h]
 |1,h=>have h:¬okPart v.b:=h;simp[h]
 |_+2,h=>have h:¬okPart v.c:=h;simp[h]
theorem vV:PC 85 [.agg (ES v)] (vb (BK v)):=by
 refine Ps De Tryz.func85 rfl (Nz rfl) (Yi (Nz rfl) (Xi .pure (Xi _ (Yi (sA v) (Xi {i:Nat // i<=3/\∀j,j<i->okPart (part v j)} (Xi (fun i=>⟨[(6,.agg [vi v.a,vi v.b,vi v.c]),(7,vi i.1)],[],Ae⟩) (Xi (fun i=>3-i.1) (Yi (Xi ⟨0,by simp⟩ ?_) ?_))))))))
 .exact⟨Z2,Tv,Fh,Tv⟩
 .intro⟨i,h1,h2⟩;refine Yi ?_ ?_
  .intro h;have h:(i:Int)<3:=h;refine Yi ⟨by omega,by omega⟩ ?_;have hp:Mx (([vi v.a,vi v.b,vi v.c]).drop ((i:Int).toNat*1))=fun K=>K (vi (part v i)):=by
    match i,h with
    |0,_=>rfl
    |1,_=>rfl
    |2,_=>rfl
    |_+3,h=>omega
   show Mx (([vi v.a,vi v.b,vi v.c]).drop ((i:Int).toNat*1)) _;rw[hp];refine Yi ?_ ?_
   .intro h3;rw[WI (i:=i) (by grind [okPart])];exact .refl _
   .intro h3;refine Yi ?_ ?_
    .intro h4;rw[WI (i:=i) (by grind [okPart])];exact .refl _
    .intro h4;refine Yi (by grind [As]) (Xi ⟨i+1,by omega,fun j hj=>?_⟩ ?_)
     .by_cases e:j=i
      .subst e;exact⟨by omega,by omega⟩
      grind
     .exact⟨by grind,Z2,Tv,Fh,Tv⟩
  .intro h;have h:¬(i:Int)<3:=h;have e:i=3:=by omega
   have q:BK v=true:=by
    unfold BK;have a:=h2 0 aa0;have b:=h2 1 aa0
    grind [part]
   rw[q];exact .refl _
theorem uU:PC 44 [.agg (ES v)] (.tup [vi (if BK v then place v else 0),vi (if BK v then 0 else 2)]):=by
 refine Ps De Tryz.func44 rfl (Nz rfl) (Yi (Nz rfl) (Xi .pure (Xi _ (Yi (vV v) ?_))));cases h:BK v with
 |false=>exact .refl _
 |true=>
  have hv:=FY h;refine Yi (by grind [As]) ?_;exact Yi (by grind [As]) (.refl _)
theorem uX(h:BK v=true):PC 76 [.agg (ES v)] (vi (place v)):=by
 refine Ps De Tryz.func76 rfl (Nz rfl) ?_;have hv:=FY h;refine Yi (by grind [As]) ?_;exact Yi (by grind [As]) (.refl _)
def DP(caps:List AV):Prop:=∀c∈caps,∀h,str0 h c=c
theorem DP.map{caps:List AV}(hs:DP caps)(h:Nat->HO):caps.map (str0 h)=caps:=by
 conv=>rhs;rw[<-Re caps]
 exact Cg fun c hc=>hs c hc h
theorem DP.ids(hs:DP caps)(h:Nat->HO):Zg h caps=true:=by
 induction caps with
 |nil=>rfl
 |cons c r ih=>
  have hc:=hs c (Ah ..) Ae;have h0:ids0 h c=true:=by
   cases c with
   |slice tk es=>cases tk with |none=>rfl |full sz=>grind [str0] |id r sz=>grind [str0] |ver r sz v=>grind [str0]
   |_=>first |rfl |grind [str0]
  unfold Zg;rw[h0];exact ih fun c hc=>hs c (Ai _ hc)
def KJ{α:Type}(p:α->Bool):List α->Int->Int
 | [],_=>-1
 |x::r,i=>if p x then i else KJ p r (i+1)
theorem Of{α:Type}{p:α->Bool}:∀{l:List α} {i:Nat} {k:Int} (hi:i<l.length),(∀j (hj:j<l.length),j<i->p l[j]=false)->p l[i]=true->KJ p l k=k+i
 |x::r,0,k,_,_,h=>by
  grind [KJ]
 |x::r,i+1,k,hi,hb,h=>by
  have h0:p x=false:=hb 0 aa1 aa0
  have:=Of (l:=r) (i:=i) (k:=k+1) (by grind) (fun j hj Hg=>hb (j+1) aa0 aa0) (by simp_all)
  grind [KJ]
theorem Jt{α:Type}{p:α->Bool}:∀{l:List α} {k:Int},(∀j (hj:j<l.length),p l[j]=false)->KJ p l k=-1
 | [],_,_=>rfl
 |x::r,k,h=>by
  have h0:p x=false:=h 0 aa1;simp only[KJ,h0,OJ,if_false];exact Jt fun j hj=>h (j+1) (by simp_all)
theorem Lq{α:Type}{p:α->Bool}:∀(l:List α) (k:Int),0<=k->decide (0<=KJ p l k)=l.any p
 | [],k,_=>by simp[KJ]
 |x::r,k,hk=>by
  unfold KJ;cases h:p x with
  |true=>simp_all
  |false=>simp[h,Lq r (k+1) aa0]
-- one for each type of elements
theorem Aau(hs:DP caps)(l:List (Int×Int))(p:Int×Int->Bool)(hF:∀x∈l,PC fF ([.agg (Ab x)]++caps) (vb (p x)))(hl:l.length<9223372036854775807) :
  PC 173 [sl Ab l,.clo fF caps] (vi (KJ p l 0)):=by
 refine Ps De Tryz.func173 rfl (Nz rfl) (Xi {i:Nat // i<=l.length/\∀j (hj:j<l.length),j<i->p l[j]=false} (Xi (fun i=>⟨[(0,sl Ab l),(1,.clo fF caps),(7,vi (l.map Ab).length),(8,vi i.1)],[],Ae⟩) (Xi (fun i=>l.length-i.1) (Yi (Xi ⟨0,by simp⟩ ?_) ?_))))
 .exact⟨⟨Zr,⟨rfl,hs.ids _⟩,Zr,Zr,Tv⟩,Tv,Fh,Tv⟩
 .intro⟨i,h1,h2⟩;refine Yi ?_ ?_
  .intro h;have h:i<l.length:=by simp_all
   have hg:l[i]?=some l[i]:=Ge h;refine Xi (Ab l[i]) (Yi (Yi aa0 (by simp_all)) (Yi rfl (yN ?_)));have CV:∀h,PC fF ([.agg (Ab l[i])]++caps.map (str0 h)) (vb (p l[i])):=fun h=>by rw[hs.map];grind
   cases hp:p l[i]with
   |true=>
    rw[hp]at CV;refine Xi .pure (Xi (vb true) (Yi (CV _) ?_));rw[Of h (fun j hj Hg=>h2 j hj Hg) hp,IL];exact .refl _
   |false=>
    rw[hp]at CV;refine Xi .pure (Xi (vb false) (Yi (CV _) (Yi (by grind [As]) (Xi ⟨i+1,by omega,fun j hj Hg=>?_⟩ ?_))))
    .grind
    .exact⟨by grind,⟨Zr,⟨rfl,hs.ids _⟩,Zr,Zr,Tv⟩,Tv,Fh,Tv⟩
  .intro h;have h:¬i<l.length:=by simp_all
   rw[Jt fun j hj=>h2 j hj aa0];exact .refl _
abbrev BL(l:List α):Prop:=l.length<=1073741824
theorem Cn{α:Type}{enc:α->List AV}{n:Nat}(h:∀x,(enc x).length=n):∀l:List α,A7 n (l.map enc)
 | []=>trivial
 |x::l=>⟨h x,Cn h l⟩
theorem Sf{x y:Int×Int}:YE (Ab x) (Ab y)↔x=y:=by
 constructor
 .intro h;exact Prod.ext h.1 h.2.1
 .rintro rfl;exact⟨rfl,rfl,trivial⟩
theorem ry{x y:Sl}:YE (Ag x) (Ag y)↔x=y:=by
 obtain⟨p,a,b,c⟩:=x;obtain⟨q,d,e,f⟩:=y;constructor
 .intro h;obtain⟨rfl,rfl,rfl,rfl,_⟩:=h
  rfl
 .intro h;cases h;exact⟨rfl,rfl,rfl,rfl,trivial⟩
abbrev Aq(l:List Tm):List AV:=[sl Ad l]
abbrev Xe(s:ByteArray):List AV:=[vs s]
theorem c78(hs:DP caps)(l:List (Sl))(p:Sl->Bool)(hF:∀x∈l,PC fF ([.agg (Ag x)]++caps) (vb (p x)))(hl:l.length<9223372036854775807) :
  PC 82 [sl Ag l,.clo fF caps] (vi (KJ p l 0)):=by
 refine Fz (br De) rfl Bz hm rfl Tryz.func82 aa3 rfl (Nz rfl) aa3 (Xi {i:Nat // i<=l.length/\∀j (hj:j<l.length),j<i->p l[j]=false} (Xi (fun i=>⟨[(0,sl Ag l),(1,.clo fF caps),(7,vi (l.map Ag).length),(8,vi i.1)],[],Ae⟩) (Xi (fun i=>l.length-i.1) (Yi (Xi ⟨0,by simp⟩ ?_) ?_))))
 .exact⟨⟨Zr,⟨rfl,hs.ids _⟩,Zr,Zr,Tv⟩,Tv,Fh,Tv⟩
 .intro⟨i,h1,h2⟩;refine Yi ?_ ?_
  .intro h;have h:i<l.length:=by simp_all
   have hg:l[i]?=some l[i]:=Ge h;refine Xi (Ag l[i]) (Yi (Yi aa0 (by simp_all)) (Yi rfl (yN ?_)));have CV:∀h,PC fF ([.agg (Ag l[i])]++caps.map (str0 h)) (vb (p l[i])):=fun h=>by rw[hs.map];simp_all
   cases hp:p l[i]with
   |true=>
    rw[hp]at CV;refine Xi .pure (Xi (vb true) (Yi (CV _) ?_));rw[Of h (fun j hj Hg=>h2 j hj Hg) hp,IL];exact .refl _
   |false=>
    rw[hp]at CV;refine Xi .pure (Xi (vb false) (Yi (CV _) (Yi (by grind [As]) (Xi ⟨i+1,by omega,fun j hj Hg=>?_⟩ ?_))))
    .grind
    .exact⟨by grind,⟨Zr,⟨rfl,hs.ids _⟩,Zr,Zr,Tv⟩,Tv,Fh,Tv⟩
  .intro h;have h:¬i<l.length:=by simp_all
   rw[Jt fun j hj=>h2 j hj aa0];exact .refl _
theorem Aab(hs:DP caps)(l:List (Rq))(p:Rq->Bool)(hF:∀x∈l,PC fF ([.agg (Ac x)]++caps) (vb (p x)))(hl:l.length<9223372036854775807) :
  PC 150 [sl Ac l,.clo fF caps] (vi (KJ p l 0)):=by
 refine Fz (br De) rfl Bz hm rfl Tryz.func150 aa3 rfl (Nz rfl) aa3 (Xi {i:Nat // i<=l.length/\∀j (hj:j<l.length),j<i->p l[j]=false} (Xi (fun i=>⟨[(0,sl Ac l),(1,.clo fF caps),(7,vi (l.map Ac).length),(8,vi i.1)],[],Ae⟩) (Xi (fun i=>l.length-i.1) (Yi (Xi ⟨0,by simp⟩ ?_) ?_))))
 .exact⟨⟨Zr,⟨rfl,hs.ids _⟩,Zr,Zr,Tv⟩,Tv,Fh,Tv⟩
 .intro⟨i,h1,h2⟩;refine Yi ?_ ?_
  .intro h;have h:(i:Int)<(l.map Ac).length:=h;have h:i<l.length:=by simp_all
   have hg:l[i]?=some l[i]:=Ge h;refine Xi (Ac l[i]) (Yi (Yi aa0 (by simp_all)) (Yi rfl (yN ?_)));have CV:∀h,PC fF ([.agg (Ac l[i])]++caps.map (str0 h)) (vb (p l[i])):=fun h=>by rw[hs.map];simp_all
   cases hp:p l[i]with
   |true=>
    rw[hp]at CV;refine Xi .pure (Xi (vb true) (Yi (CV _) ?_));rw[Of h (fun j hj Hg=>h2 j hj Hg) hp,IL];exact .refl _
   |false=>
    rw[hp]at CV;refine Xi .pure (Xi (vb false) (Yi (CV _) (Yi (by grind [As]) (Xi ⟨i+1,by omega,fun j hj Hg=>?_⟩ ?_))))
    .grind
    .exact⟨by grind,⟨Zr,⟨rfl,hs.ids _⟩,Zr,Zr,Tv⟩,Tv,Fh,Tv⟩
  .intro h;have h:¬(i:Int)<(l.map Ac).length:=h;have h:¬i<l.length:=by simp_all
   rw[Jt fun j hj=>h2 j hj aa0];exact .refl _
theorem oL(hs:DP caps)(l:List (Tm))(p:Tm->Bool)(hF:∀x∈l,PC fF ([.agg (Ad x)]++caps) (vb (p x)))(hl:l.length<9223372036854775807) :
  PC 189 [sl Ad l,.clo fF caps] (vi (KJ p l 0)):=by
 refine Fz (br De) rfl Bz hm rfl Tryz.func189 aa3 rfl (Nz rfl) aa3 (Xi {i:Nat // i<=l.length/\∀j (hj:j<l.length),j<i->p l[j]=false} (Xi (fun i=>⟨[(0,sl Ad l),(1,.clo fF caps),(7,vi (l.map Ad).length),(8,vi i.1)],[],Ae⟩) (Xi (fun i=>l.length-i.1) (Yi (Xi ⟨0,by simp⟩ ?_) ?_))))
 .exact⟨⟨Zr,⟨rfl,hs.ids _⟩,Zr,Zr,Tv⟩,Tv,Fh,Tv⟩
 .intro⟨i,h1,h2⟩;refine Yi ?_ ?_
  .intro h;have h:i<l.length:=by simp_all
   have hg:l[i]?=some l[i]:=Ge h;refine Xi (Ad l[i]) (Yi (Yi aa0 (by simp_all)) (Yi rfl (yN ?_)));have CV:∀h,PC fF ([.agg (Ad l[i])]++caps.map (str0 h)) (vb (p l[i])):=fun h=>by rw[hs.map];simp_all
   cases hp:p l[i]with
   |true=>
    rw[hp]at CV;refine Xi .pure (Xi (vb true) (Yi (CV _) ?_));rw[Of h (fun j hj Hg=>h2 j hj Hg) hp,IL];exact .refl _
   |false=>
    rw[hp]at CV;refine Xi .pure (Xi (vb false) (Yi (CV _) (Yi (by grind [As]) (Xi ⟨i+1,by omega,fun j hj Hg=>?_⟩ ?_))))
    .grind
    .exact⟨by grind,⟨Zr,⟨rfl,hs.ids _⟩,Zr,Zr,Tv⟩,Tv,Fh,Tv⟩
  .intro h;have h:¬i<l.length:=by simp_all
   rw[Jt fun j hj=>h2 j hj aa0];exact .refl _
theorem Aa9(hs:DP caps)(l:List (Int×Int))(p:Int×Int->Bool)(hF:∀x∈l,PC fF ([.agg (Ab x)]++caps) (vb (p x)))(hl:BL l) :
  PC 119 [sl Ab l,.clo fF caps] (vb (l.any p)):=by
 refine Fz (br De) rfl Bz hm rfl Tryz.func119 aa3 rfl (Nz rfl) aa3 ?_;have hi:=Aau hs l p hF aa0;have CV:∀h,PC 173 [sl Ab l,.clo fF (caps.map (str0 h))] (vi (KJ p l 0)):=fun h=>by grind [DP.map]
 refine Xi .pure (Xi _ (Yi (CV _) ?_));have ha:=Lq (p:=p) l 0 (Ce 0);refine Yi ?_ ?_
 .intro h;rw[<-ha,Bs h];exact .refl _
 .intro h;rw[<-ha,AP h];exact .refl _
theorem c51(hs:DP caps)(l:List (Sl))(p:Sl->Bool)(hF:∀x∈l,PC fF ([.agg (Ag x)]++caps) (vb (p x)))(hl:BL l) :
  PC 80 [sl Ag l,.clo fF caps] (vb (l.any p)):=by
 refine Fz (br De) rfl Bz hm rfl Tryz.func80 aa3 rfl (Nz rfl) aa3 ?_;have hi:=c78 hs l p hF aa0;have CV:∀h,PC 82 [sl Ag l,.clo fF (caps.map (str0 h))] (vi (KJ p l 0)):=fun h=>by grind [DP.map]
 refine Xi .pure (Xi _ (Yi (CV _) ?_));have ha:=Lq (p:=p) l 0 (Ce 0);refine Yi ?_ ?_
 .intro h;rw[<-ha,Bs h];exact .refl _
 .intro h;rw[<-ha,AP h];exact .refl _
theorem c89(hs:DP caps)(l:List (Rq))(p:Rq->Bool)(hF:∀x∈l,PC fF ([.agg (Ac x)]++caps) (vb (p x)))(hl:BL l) :
  PC 99 [sl Ac l,.clo fF caps] (vb (l.any p)):=by
 refine Fz (br De) rfl Bz hm rfl Tryz.func99 aa3 rfl (Nz rfl) aa3 ?_;have hi:=Aab hs l p hF aa0;have CV:∀h,PC 150 [sl Ac l,.clo fF (caps.map (str0 h))] (vi (KJ p l 0)):=fun h=>by grind [DP.map]
 refine Xi .pure (Xi _ (Yi (CV _) ?_));have ha:=Lq (p:=p) l 0 (Ce 0);refine Yi ?_ ?_
 .intro h;have h:(0:Int)<=KJ p l 0:=h;rw[<-ha,Bs h];exact .refl _
 .intro h;have h:¬(0:Int)<=KJ p l 0:=h;rw[<-ha,AP h];exact .refl _
theorem sy(hs:DP caps)(l:List (Tm))(p:Tm->Bool)(hF:∀x∈l,PC fF ([.agg (Ad x)]++caps) (vb (p x)))(hl:BL l) :
  PC 135 [sl Ad l,.clo fF caps] (vb (l.any p)):=by
 refine Fz (br De) rfl Bz hm rfl Tryz.func135 aa3 rfl (Nz rfl) aa3 ?_;have hi:=oL hs l p hF aa0;have CV:∀h,PC 189 [sl Ad l,.clo fF (caps.map (str0 h))] (vi (KJ p l 0)):=fun h=>by grind [DP.map]
 refine Xi .pure (Xi _ (Yi (CV _) ?_));have ha:=Lq (p:=p) l 0 (Ce 0);refine Yi ?_ ?_
 .intro h;rw[<-ha,Bs h];exact .refl _
 .intro h;rw[<-ha,AP h];exact .refl _
theorem Aah(hl:BL l):PC 186 [sl Ab l] (sl Ab l):=by
 refine Fz (br De) rfl Bz hm rfl Tryz.func186 aa3 rfl (Nz rfl) aa3 ?_;have CO:A7 2 (l.map Ab)/\([]:List (List AV)).length=0/\(([]:List (List AV)).length+(l.map Ab).length)*16<=140737488355328/\([]:List (List AV)).length+(l.map Ab).length<=9223372036854775807:=by
  grind [Cn]
 refine Yi ?_ ?_
 .intro _;exact Yi CO (.refl _)
 .intro h;refine Yi ?_ ?_
  .show Ea nzA (.slice .none (l.map Ab))
   grind [Ea.nil]
  .exact Yi CO (.refl _)
theorem wb(m:List (Int×Int))(hl:BL l):PC 167 [sl Ab l,sl Ab m] (vb (decide (l=m))):=by
 refine Fz (br De) rfl Bz hm rfl Tryz.func167 aa3 rfl (Nz rfl) aa3 (Yi ?_ ?_)
 .intro h
  have:l≠m:=fun e=>h (by rw[e])
  rw[AP this];exact .refl _
 .intro h;have CD:l.length=m.length:=by grind
  refine Xi {i:Nat // i<=l.length/\l.take i=m.take i} (Xi (fun i=>⟨[(0,sl Ab l),(1,sl Ab m),(12,vi (l.map Ab).length),(13,vi i.1)],[],Ae⟩) (Xi (fun i=>l.length-i.1) (Yi (Xi ⟨0,by simp⟩ ?_) ?_)))
  .exact⟨⟨Zr,Zr,Zr,Zr,Tv⟩,Tv,Fh,Tv⟩
  .intro⟨i,h1,h2⟩;refine Yi ?_ ?_
   .intro h;have h:i<l.length:=by simp_all
    have h' : i<m.length:=by omega
    have hg:l[i]?=some l[i]:=Ge h;have lA : m[i]?=some m[i]:=Ge h';refine Xi (Ab l[i]) (Yi (Yi aa0 (by simp_all)) (Yi rfl (yN ?_)));refine Xi (Ab m[i]) (Yi (Yi aa0 (by simp_all)) (Yi rfl (yN ?_)));refine Yi ?_ ?_
    .intro h5;have e:l[i]=m[i]:=Sf.1 h5;refine Yi aa3 (Yi (by grind [As]) (Xi ⟨i+1,by omega,?_⟩ ?_))
     .grind [List.take_add_one]
     .exact⟨Dl l.length i aa0,⟨Zr,Zr,Zr,Zr,Tv⟩,Tv,Fh,Tv⟩
    .intro h5;refine Yi aa3 ?_
     have:l≠m:=fun e=>h5 (Sf.2 (by simp_all))
     rw[AP this];exact .refl _
   .intro h;have h:¬i<l.length:=by simp_all
    have e:l=m:=by
     grind
    rw[Bs e];exact .refl _
theorem c27(l m:List (Sl))(hl:BL l):PC 18 [sl Ag l,sl Ag m] (vb (decide (l=m))):=by
 refine Fz (br De) rfl Bz hm rfl Tryz.func18 aa3 rfl (Nz rfl) aa3 (Yi ?_ ?_)
 .intro h
  have:l≠m:=fun e=>h (by rw[e])
  rw[AP this];exact .refl _
 .intro h;have CD:l.length=m.length:=by grind
  refine Xi {i:Nat // i<=l.length/\l.take i=m.take i} (Xi (fun i=>⟨[(0,sl Ag l),(1,sl Ag m),(12,vi (l.map Ag).length),(13,vi i.1)],[],Ae⟩) (Xi (fun i=>l.length-i.1) (Yi (Xi ⟨0,by simp⟩ ?_) ?_)))
  .exact⟨⟨Zr,Zr,Zr,Zr,Tv⟩,Tv,Fh,Tv⟩
  .intro⟨i,h1,h2⟩;refine Yi ?_ ?_
   .intro h;have h:i<l.length:=by simp_all
    have h' : i<m.length:=by omega
    have hg:l[i]?=some l[i]:=Ge h;have lA : m[i]?=some m[i]:=Ge h';refine Xi (Ag l[i]) (Yi (Yi aa0 (by simp_all)) (Yi rfl (yN ?_)));refine Xi (Ag m[i]) (Yi (Yi aa0 (by simp_all)) (Yi rfl (yN ?_)));refine Yi ?_ ?_
    .intro h5;have e:l[i]=m[i]:=ry.1 h5;refine Yi aa3 (Yi (by grind [As]) (Xi ⟨i+1,by omega,?_⟩ ?_))
     .grind [List.take_add_one]
     .exact⟨Dl l.length i aa0,⟨Zr,Zr,Zr,Zr,Tv⟩,Tv,Fh,Tv⟩
    .intro h5;refine Yi aa3 ?_
     have:l≠m:=fun e=>h5 (ry.2 (by simp_all))
     rw[AP this];exact .refl _
   .intro h;have h:¬i<l.length:=by simp_all
    have e:l=m:=by
     grind
    rw[Bs e];exact .refl _
abbrev mU(l:List Nat):Md:=⟨l,[],[],[],[],[],[],[],[],[],[]⟩
theorem DP.ptr(cs:List AV):DP [.cptr cs]:=fun c hc h=>by
 rw[AD.1 hc];rfl
theorem Aaa(s:Int×Int)(p:Int):PC 120 [.agg (Ab s),.cptr [vi p]] (vb (BP p s)):=by
 refine Ps De Tryz.func120 rfl (Nz rfl) (Yi ?_ ?_)
 .intro h;refine Yi ?_ ?_
  .intro h2;rw[show BP p s=true by grind [BP]];exact .refl _
  .intro h2;rw[show BP p s=false by grind [BP]];exact .refl _
 .intro h;rw[show BP p s=false by simp[BP,h]];exact .refl _
theorem oO(s:List (Int×Int))(p:Int)(hl:BL s):PC 68 [sl Ab s,vi p] (vb (has s p)):=by
 refine Ps (mU [3]) Tryz.func68 rfl (Nz rfl) (Yi ?_ ?_)
 .intro h;refine Yi ?_ ?_
  .intro h2;refine Xi .pure (Xi _ (Yi (Aa9 (DP.ptr [vi p]) s (BP p) (fun x _=>Aaa x p) hl) ?_));rw[show has s p=s.any (BP p) by grind [has]];cases s.any (BP p)<;>exact .refl _
  .intro h2;rw[show has s p=false by grind [has]];exact .refl _
 .intro h;rw[show has s p=false by simp[has,h]];exact .refl _
theorem c88(r:Rl):PC 98 [.agg (Am r)] (vi (plc r.ver)):=by
 refine Ps De Tryz.func98 rfl (Nz rfl) ?_;exact Yi (Nz rfl) (Xi .pure (Xi _ (Yi (uU r.ver) (.refl _))))
theorem c99:PC 235 [.agg (Ag x),.cptr (Ad t)] (vb (decide (x.path=t.path))):=by
 refine Ps De Tryz.func235 rfl (Nz rfl) (Yi ?_ ?_)
 .intro h;rw[Bs h];exact .refl _
 .intro h;rw[AP h];exact .refl _
theorem MA{α:Type}{p:α->Bool}:∀(l:List α) (k:Int),(KJ p l k=-1/\l.find? p=none)\/∃i x,KJ p l k=k+(i:Nat)/\l[i]?=some x/\l.find? p=some x
 | [],k=>.inl Zr
 |x::r,k=>by
  cases h:p x with
  |true=>exact .inr ⟨0,x,by simp[KJ,h],rfl,by simp[h]⟩
  |false=>
   rcases MA (p:=p) r (k+1)with ⟨h1,h2⟩ | ⟨i,y,h1,h2,h3⟩
   .grind [KJ]
   .exact .inr ⟨i+1,y,by grind [KJ],by simp_all,by simp_all⟩
theorem c55(hl:BL s)(ht:BL t.set):PC 199 [.agg (Ad t),sl Ag s] (vb (E2 t s)):=by
 have hc:=c78 (DP.ptr (Ad t)) s (fun x=>decide (x.path=t.path)) (fun x _=>c99 x t) aa0;unfold E2;rcases MA (p:=fun x:Sl=>decide (x.path=t.path)) s 0 with ⟨h1,h2⟩ | ⟨i,x,h1,h2,h3⟩
 .rw[h1]at hc;rw[h2];refine Ps (mU [2]) Tryz.func199 rfl (Nz rfl) (Xi .pure (Xi _ (Yi hc (Yi ?_ ?_))))
  .intro _;refine Yi ?_ ?_
   .intro h;rw[h];exact .refl _
   .intro h;rw[h];exact .refl _
  .intro h;exact absurd (show(-1:Int)<0 by decide) h
 .rw[h1,IL]at hc;rw[h3];have hg:(s.map Ag)[((i:Nat):Int).toNat]?=some (Ag x):=by simp_all
  have hp:=uU x.ver;dsimp only;rcases Bt (BK x.ver)with hv | hv
  .rw[hv,AX rfl,AX rfl]at hp;rw[hv];refine Ps (mU [2]) Tryz.func199 rfl (Nz rfl) (Xi .pure (Xi _ (Yi hc (Yi ?_ ?_))))
   .intro h;omega
   .intro _;refine Xi (Ag x) (Yi (Yi aa0 hg) (Yi rfl (yN (Xi .pure (Xi _ (Yi hp (Yi ?_ ?_)))))))
    .intro _;refine Xi .pure (Xi _ (Yi (oO t.set (place x.ver) ht) ?_));exact .refl _
    .intro h;exact absurd rfl h
  .rw[hv,AI aa2,AI aa2]at hp;rw[hv];refine Ps (mU [2]) Tryz.func199 rfl (Nz rfl) (Xi .pure (Xi _ (Yi hc (Yi ?_ ?_))))
   .intro h;omega
   .intro _;refine Xi (Ag x) (Yi (Yi aa0 hg) (Yi rfl (yN (Xi .pure (Xi _ (Yi hp (Yi ?_ ?_)))))))
    .intro h;omega
    .intro _;exact .refl _
theorem WY{l:List α}(h:∀j (hj:j<l.length),j<i->p l[j]=true)(hi:¬i<l.length):l.all p=true:=by
 grind [List.mem_iff_getElem]
theorem sf{l:List α}(hi:i<l.length)(h:p l[i]=false):l.all p=false:=by
 grind
theorem oz{l:List α}(hi:i<l.length)(h:p l[i]=true):l.any p=true:=by
 grind
theorem jK{l:List α}(h:∀j (hj:j<l.length),j<i->p l[j]=false)(hi:¬i<l.length):l.any p=false:=by
 grind [List.mem_iff_getElem]
abbrev PT(l:List Tm):Prop:=BL l/\∀t∈l,BL t.set
theorem c26(l:List Tm)(s:List Sl)(hl:PT l)(hs:BL s):PC 151 [sl Ad l,sl Ag s] (vb (l.all fun t=>E2 t s)):=by
 have hc:∀i (h:i<l.length),PC 199 [.agg (Ad l[i]),sl Ag s] (vb (E2 l[i] s)):=fun i h=>c55 l[i] s hs (hl.2 _ (Ak h));obtain⟨hl,_⟩:=hl;unfold BL at hl;refine Ps De Tryz.func151 rfl (Nz rfl) (Xi {i:Nat // i<=l.length/\∀j (hj:j<l.length),j<i->E2 l[j] s=true} (Xi (fun i=>⟨[(0,sl Ad l),(1,sl Ag s),(7,vi (l.map Ad).length),(8,vi i.1)],[],Ae⟩) (Xi (fun i=>l.length-i.1) (Yi (Xi ⟨0,by simp⟩ ?_) ?_))))
 .exact⟨Z4,Tv,Fh,Tv⟩
 .intro⟨i,h1,h2⟩;refine Yi ?_ ?_
  .intro h;have h:i<l.length:=by simp_all
   have hg:l[i]?=some l[i]:=Ge h;have dN:=hc i h;refine Xi (Ad l[i]) (Yi (Yi aa0 (by simp_all)) (Yi rfl (yN ?_)));cases hp:E2 l[i] s with
   |false=>
    rw[hp]at dN;refine Xi .pure (Xi _ (Yi dN ?_));rw[sf (p:=fun t=>E2 t s) h hp];exact .refl _
   |true=>
    rw[hp]at dN;refine Xi .pure (Xi _ (Yi dN (Yi (by grind [As]) (Xi ⟨i+1,by omega,fun j hj Hg=>?_⟩ ?_))))
    .grind
    .exact⟨by grind,Z4,Tv,Fh,Tv⟩
  .intro h;have h:¬i<l.length:=by simp_all
   rw[WY (p:=fun t=>E2 t s) h2 h];exact .refl _
theorem Aad:PC 153 [.agg (Ag x),.cptr (Ad t)] (vb (decide (x.path=t.path))):=by
 refine Ps De Tryz.func153 rfl (Nz rfl) (Yi ?_ ?_)
 .intro h;rw[Bs h];exact .refl _
 .intro h;rw[AP h];exact .refl _
theorem Aac(hs:BL s):PC 152 [.agg (Ad t),.cptr [sl Ag s]] (vb (!BS s t.path)):=by
 have hc:=c51 (DP.ptr (Ad t)) s (fun x=>decide (x.path=t.path)) (fun x _=>Aad x t) hs;unfold BS;cases hp:s.any fun x=>decide (x.path=t.path)with
 |true=>
  rw[hp]at hc;refine Ps (mU [2]) Tryz.func152 rfl (Nz rfl) ?_;exact Xi .pure (Xi _ (Yi hc (.refl _)))
 |false=>
  rw[hp]at hc;refine Ps (mU [2]) Tryz.func152 rfl (Nz rfl) ?_;exact Xi .pure (Xi _ (Yi hc (.refl _)))
theorem c91(l:List Tm)(s:List Sl)(hl:PT l)(hs:BL s):PC 101 [sl Ad l,sl Ag s] (vb (Bm l s)):=by
 have hv:=c26 l s hl hs;have hc:=sy (DP.ptr [sl Ag s]) l (fun t=>!BS s t.path) (fun t _=>Aac t s hs) hl.1;unfold Bm AT;cases h1:l.all fun t=>E2 t s with
 |false=>
  rw[h1]at hv;refine Ps (mU [3]) Tryz.func101 rfl (Nz rfl) ?_;exact Xi .pure (Xi _ (Yi hv (.refl _)))
 |true=>
  rw[h1]at hv;cases h2:l.any fun t=>!BS s t.path with
  |true=>
   rw[h2]at hc;refine Ps (mU [3]) Tryz.func101 rfl (Nz rfl) ?_;exact Xi .pure (Xi _ (Yi hv (Xi .pure (Xi _ (Yi hc (.refl _))))))
  |false=>
   rw[h2]at hc;refine Ps (mU [3]) Tryz.func101 rfl (Nz rfl) ?_;exact Xi .pure (Xi _ (Yi hv (Xi .pure (Xi _ (Yi hc (.refl _))))))
def qb(p:Int)(s:Int×Int):Bool:=decide (max 0 s.1<=p)&&decide (p<min 1000000 s.2)
theorem qc(s:List (Int×Int))(p:Int):s.any (qb p)=has s p:=by
 grind [has,qb,BP]
theorem fQ(s:List (Int×Int))(p:Int)(hl:BL s):PC 128 [sl Ab s,vi p] (vb (has s p)):=by
 rw[<-qc];unfold BL at hl;refine Ps De Tryz.func128 rfl (Nz rfl) (Xi {i:Nat // i<=s.length/\∀j (hj:j<s.length),j<i->qb p s[j]=false} (Xi (fun i=>⟨[(0,sl Ab s),(1,vi p),(5,vi i.1)],[],Ae⟩) (Xi (fun i=>s.length-i.1) (Yi (Xi ⟨0,by simp⟩ ?_) ?_))))
 .exact⟨Z3,Tv,Fh,Tv⟩
 .intro⟨i,h1,h2⟩;refine Yi ?_ ?_
  .intro h;have h:i<s.length:=by simp_all
   have hg:s[i]?=some s[i]:=Ge h;refine Xi (Ab s[i]) (Yi (Yi aa0 (by simp_all)) (Yi rfl ?_));refine Yi ?_ ?_
   .intro h3;refine Xi (Ab s[i]) (Yi (Yi aa0 (by simp_all)) (Yi rfl ?_));refine Yi ?_ ?_
    .intro h4;have h5:qb p s[i]=true:=by grind [qb]
     show Ea (vb true) (vb (s.any (qb p)))
     grind [Ea.refl]
    .intro h4;refine Yi (by grind [As]) (Xi ⟨i+1,by omega,fun j hj Hg=>?_⟩ ?_)
     .grind [qb]
     .exact⟨Dl s.length i aa0,Z3,Tv,Fh,Tv⟩
   .intro h3;refine Yi (by grind [As]) (Xi ⟨i+1,by omega,fun j hj Hg=>?_⟩ ?_)
    .grind [qb]
    .exact⟨Dl s.length i aa0,Z3,Tv,Fh,Tv⟩
  .intro h;have h:¬i<s.length:=by simp_all
   show Ea (vb false) (vb (s.any (qb p)))
   grind [jK,Ea.refl]
theorem Aaf(p:ByteArray)(hl:BL s):PC 161 [sl Ag s,vs p] (vb (BS s p)):=by
 unfold BL at hl;unfold BS;refine Ps De Tryz.func161 rfl (Nz rfl) (Xi {i:Nat // i<=s.length/\∀j (hj:j<s.length),j<i->decide (s[j].path=p)=false} (Xi (fun i=>⟨[(0,sl Ag s),(1,vs p),(5,vi i.1)],[],Ae⟩) (Xi (fun i=>s.length-i.1) (Yi (Xi ⟨0,by simp⟩ ?_) ?_))))
 .exact⟨Z3,Tv,Fh,Tv⟩
 .intro⟨i,h1,h2⟩;refine Yi ?_ ?_
  .intro h;have h:(i:Int)<(s.map Ag).length:=h;have h:i<s.length:=by simp_all
   have hg:s[i]?=some s[i]:=Ge h;refine Xi (Ag s[i]) (Yi (Yi aa0 (by simp_all)) (Yi rfl ?_));refine Yi ?_ ?_
   .intro h3;have h3:s[i].path=p:=h3;rw[oz (p:=fun x:Sl=>decide (x.path=p)) h (Bs h3)];exact .refl _
   .intro h3;have h3:¬s[i].path=p:=h3;refine Yi (by grind [As]) (Xi ⟨i+1,by omega,fun j hj Hg=>?_⟩ ?_)
    .grind
    .exact⟨by grind,Z3,Tv,Fh,Tv⟩
  .intro h;have h:¬(i:Int)<(s.map Ag).length:=h;have h:¬i<s.length:=by simp_all
   rw[jK (p:=fun x:Sl=>decide (x.path=p)) h2 h];exact .refl _
theorem sL(n:Int):PC 218 [vi n] (vb (decide (okPart n))):=by
 refine Ps De Tryz.func218 rfl (Nz rfl) (Yi ?_ ?_)
 .intro h;refine Yi ?_ ?_
  .intro h2;show Ea (vb true) (vb (decide (okPart n)));rw[Bs ⟨h,h2⟩];exact .refl _
  .intro h2;show Ea (vb false) (vb (decide (okPart n)));rw[AP fun q=>h2 q.2];exact .refl _
 .intro h;show Ea (vb false) (vb (decide (okPart n)));rw[AP fun q=>h q.1];exact .refl _
theorem wd:PC 174 [.agg (ES v)] (vb (BK v)):=by
 have ha:=sL v.a;have hb:=sL v.b;have hc:=sL v.c;unfold BK;cases h1:decide (okPart v.a)with
 |false=>
  rw[h1]at ha;refine Ps De Tryz.func174 rfl (Nz rfl) ?_;exact Xi .pure (Xi _ (Yi ha (.refl _)))
 |true=>
  rw[h1]at ha;cases h2:decide (okPart v.b)with
  |false=>
   rw[h2]at hb;refine Ps De Tryz.func174 rfl (Nz rfl) ?_;exact Xi .pure (Xi _ (Yi ha (Xi .pure (Xi _ (Yi hb (.refl _))))))
  |true=>
   rw[h2]at hb;refine Ps De Tryz.func174 rfl (Nz rfl) ?_;exact Xi .pure (Xi _ (Yi ha (Xi .pure (Xi _ (Yi hb (Xi .pure (Xi _ (Yi hc (.refl _)))))))))
theorem AaF:PC 239 [.agg (ES v)] (.tup [vi (if BK v then place v else 0),vi (if BK v then 0 else 2)]):=by
 have hc:=wd v;cases h:BK v with
 |false=>
  rw[h]at hc;refine Ps De Tryz.func239 rfl (Nz rfl) ?_;exact Yi (Nz rfl) (Xi .pure (Xi _ (Yi hc (.refl _))))
 |true=>
  rw[h]at hc;have hv:=FY h;refine Ps De Tryz.func239 rfl (Nz rfl) (Yi (Nz rfl) (Xi .pure (Xi _ (Yi hc (Yi (by grind [As]) ?_)))));exact Yi (by grind [As]) (.refl _)
theorem Xk{α:Type}{p:α->Bool}:∀{l:List α} {i:Nat} (hi:i<l.length),(∀j (hj:j<l.length),j<i->p l[j]=false)->p l[i]=true->l.find? p=some l[i]
 |x::r,0,_,_,h=>by
  simp_all
 |x::r,i+1,hi,hb,h=>by
  have h0:p x=false:=hb 0 aa1 aa0;rw[HQ,h0];exact Xk (l:=r) (i:=i) (by grind) (fun j hj Hg=>hb (j+1) aa0 aa0) h
theorem VX{l:List α}(h:∀j (hj:j<l.length),j<i->p l[j]=false)(hi:¬i<l.length):l.find? p=none:=by
 grind [List.mem_iff_getElem]
theorem lI{t:Tm}{s:List Sl}(hi:i<s.length)(h2:∀j (hj:j<s.length),j<i->decide (s[j].path=t.path)=false)(h:s[i].path=t.path):E2 t s=(BK s[i].ver&&has t.set (place s[i].ver)):=by
 grind [E2,Xk]
theorem bP{t:Tm}{s:List Sl}(h2:∀j (hj:j<s.length),j<i->decide (s[j].path=t.path)=false)(hi:¬i<s.length):E2 t s=t.absent:=by
 grind [E2,VX]
theorem Aav(hl:BL s)(ht:BL t.set):PC 210 [.agg (Ad t),sl Ag s] (vb (E2 t s)):=by
 unfold BL at hl;refine Ps (mU [2]) Tryz.func210 rfl (Nz rfl) (Xi {i:Nat // i<=s.length/\∀j (hj:j<s.length),j<i->decide (s[j].path=t.path)=false} (Xi (fun i=>⟨[(1,sl Ag s),(2,.ref 2 0),(5,vi i.1)],[(2,.ro (Ad t))],Ae⟩) (Xi (fun i=>s.length-i.1) (Yi (Xi ⟨0,by simp⟩ ?_) ?_))))
 .exact⟨Z3,Z1,Fh,Tv⟩
 .intro⟨i,h1,h2⟩;refine Yi ?_ ?_
  .intro h;have h:(i:Int)<(s.map Ag).length:=h;have h:i<s.length:=by simp_all
   have hg:s[i]?=some s[i]:=Ge h;refine Xi (Ag s[i]) (Yi (Yi aa0 (by simp_all)) (Yi rfl ?_));refine Yi ?_ ?_
   .intro h3;have h3:s[i].path=t.path:=h3;refine Yi aa3 (Xi (Ag s[i]) (Yi (Yi aa0 (by simp_all)) (Yi rfl (yN ?_))));have hp:=AaF s[i].ver;have hq:=lI h h2 h3;refine AA (Bt (BK s[i].ver)) (fun hv=>?_) (fun hv=>?_)
    .rw[hv,AX rfl,AX rfl]at hp;rw[hv,Bool.true_and]at hq;refine Xi .pure (Xi _ (Yi hp (Yi ?_ ?_)))
     .intro _;refine Xi .pure (Xi _ (Yi (fQ t.set (place s[i].ver) ht) ?_));show Ea (vb (has t.set (place s[i].ver))) (vb (E2 t s))
      grind [Ea.refl]
     .intro h;exact absurd rfl h
    .rw[hv,AI aa2,AI aa2]at hp;rw[hv,Bool.false_and]at hq;refine Xi .pure (Xi _ (Yi hp (Yi ?_ ?_)))
     .intro h;have h:(2:Int)=0:=h;omega
     .intro _;show Ea (vb false) (vb (E2 t s))
      grind [Ea.refl]
   .intro h3;have h3:¬s[i].path=t.path:=h3;refine Yi aa3 (Yi (by grind [As]) (Xi ⟨i+1,by omega,fun j hj Hg=>?_⟩ ?_))
    .grind
    .exact⟨by grind,Z3,Z1,Fh,Tv⟩
  .intro h;have h:¬(i:Int)<(s.map Ag).length:=h;have h:¬i<s.length:=by simp_all
   have hq:=bP h2 h;refine Yi ?_ ?_
   .intro h5;have h5:t.absent=true:=h5;show Ea (vb true) (vb (E2 t s))
    grind [Ea.refl]
   .intro h5;have h5:t.absent=false:=h5;show Ea (vb false) (vb (E2 t s))
    grind [Ea.refl]
end Go.Eng
