/- Lemmas 14. -/
import Derived.Test.YtpgfieopnnkpfaaGreatDoorQA12
import Derived.Test.YtpgfieopnnkpfaaGreatDoorQA01
import Derived.Shelf.SlSortCmp.WholeK
import Derived.Shelf.Sort.Plain
import Derived.Shelf.Small.Strs
import Derived.Shelf.Small.Bits
import Derived.Ground.SlsfProg
import Derived.Ground.NamesProg
set_option maxHeartbeats 1000000
namespace Go.Eng
open Go.Proofs
variable {α:Type}{b0 b1 b2 b3:Bool}{a0:α}{b4:Bool}{a1:α}{b5:Bool}{a2 a3:α}{b6:Bool}{a4:α}{b7:Bool}{a5 a6:α}{b8:Bool}{a7:α}{b9:Bool}{a8:α}{Xd:Bool}{a9:α}{l:List α}{Xu:α}(i:Nat)(pl:Nm)(b:Bool)
abbrev vi(n:Int):AV := .v (.int .i64 n)
abbrev vb:AV := .v (.bool b)
abbrev vs(s:ByteArray):AV := .v (.string s)
abbrev sl(enc:α -> List AV)(l:List α):AV := .slice .none (l.map enc)
abbrev Dt(v:Ver):List AV := [vi v.a,vi v.b,vi v.c]
abbrev Ab(s:Int×Int):List AV := [vi s.1,vi s.2]
abbrev Ad(q:Rq):List AV := [vs q.path,sl Ab q.set]
abbrev Ak(r:Rl):List AV := [vs r.path,vi r.ver.a,vi r.ver.b,vi r.ver.c,sl Ad r.reqs,vs r.arch,vs r.ifc,vs r.cert,vb r.yanked]
abbrev Ae(s:Sl):List AV := [vs s.path,vi s.ver.a,vi s.ver.b,vi s.ver.c]
abbrev Ac(t:Tm):List AV := [vs t.path,vb t.absent,sl Ab t.set]
abbrev Aj(i:Nf):List AV := [vi i.kind,vs i.path,vi i.place,vi i.number,vi i.left,vi i.right]
abbrev A1(s:Sk):List AV := [vs s.path,vi s.place,vi s.inf]
noncomputable abbrev ab:Cx := ⟨Tryz.prog,pa,pl,false,0,fun _ _ _ _ => True⟩
noncomputable abbrev Mt:Cx := ⟨Tryz.prog,pa,pl,true,0,fun _ _ _ _ => True⟩
abbrev Cu:Nm := ⟨[],[],[],[],[],[],[],[],[],[],[]⟩
abbrev PC(f:Nat)(args:List AV)(Gz:AV):Prop := K6 Tryz.prog f args Gz
theorem hm:Tryz.prog.follows .mixedOrders = true := by rfl
theorem Zr{α:Sort _}{β:Sort _}{a:α}{b:β}:a = a /\ b = b := ⟨rfl,rfl⟩
theorem Nz{a b:Nat}(h:Nat.ble a b = true):a <= b := FZ h
theorem Xi{α:Sort _}{p:α -> Prop}(w:α)(h:p w):Exists p := Exists.intro w h
theorem Yi{a b:Prop}(h:a)(k:b):a /\ b := And.intro h k
theorem Fh{st:St}{h:Nat -> HO}:∀j,Af j = .free \/ (st.h j = Af j /\ aO h (Af j) = true) := fun _ => .inl rfl
theorem Tv:True := trivial
theorem Ii(h:i <= 9223372036854775806):Al ((i:Int) + 1) := by unfold Al;omega
theorem Dl(n i:Nat)(h:i<n):n-(i + 1)<n-i := by omega
theorem Bt:b = true \/ b = false := Bool.eq_false_or_eq_true b
theorem Z1:(a0 = a0 /\ b0 = b0) /\ True := ⟨⟨rfl,rfl⟩,trivial⟩
theorem Z2:(a0 = a0 /\ b0 = b0) /\ (a1 = a1 /\ b1 = b1) /\ True := ⟨⟨rfl,rfl⟩,⟨rfl,rfl⟩,trivial⟩
theorem Z3:(a0 = a0 /\ b0 = b0) /\ (a1 = a1 /\ b1 = b1) /\ (a2 = a2 /\ b2 = b2) /\ True := ⟨⟨rfl,rfl⟩,⟨rfl,rfl⟩,⟨rfl,rfl⟩,trivial⟩
theorem Z4:(a0 = a0 /\ b0 = b0) /\ (a1 = a1 /\ b1 = b1) /\ (a2 = a2 /\ b2 = b2) /\ (a3 = a3 /\ b3 = b3) /\ True := ⟨⟨rfl,rfl⟩,⟨rfl,rfl⟩,⟨rfl,rfl⟩,⟨rfl,rfl⟩,trivial⟩
theorem Z5:(a0 = a0 /\ b0 = b0) /\ (a1 = a1 /\ b1 = b1) /\ (a2 = a2 /\ b2 = b2) /\ (a3 = a3 /\ b3 = b3) /\ (a4 = a4 /\ b4 = b4) /\ True := ⟨⟨rfl,rfl⟩,⟨rfl,rfl⟩,⟨rfl,rfl⟩,⟨rfl,rfl⟩,⟨rfl,rfl⟩,trivial⟩
theorem Z6:(a0 = a0 /\ b0 = b0) /\ (a1 = a1 /\ b1 = b1) /\ (a2 = a2 /\ b2 = b2) /\ (a3 = a3 /\ b3 = b3) /\ (a4 = a4 /\ b4 = b4) /\ (a5 = a5 /\ b5 = b5) /\ True := ⟨⟨rfl,rfl⟩,⟨rfl,rfl⟩,⟨rfl,rfl⟩,⟨rfl,rfl⟩,⟨rfl,rfl⟩,⟨rfl,rfl⟩,trivial⟩
theorem Z7:(a0 = a0 /\ b0 = b0) /\ (a1 = a1 /\ b1 = b1) /\ (a2 = a2 /\ b2 = b2) /\ (a3 = a3 /\ b3 = b3) /\ (a4 = a4 /\ b4 = b4) /\ (a5 = a5 /\ b5 = b5) /\ (a6 = a6 /\ b6 = b6) /\ True := ⟨⟨rfl,rfl⟩,⟨rfl,rfl⟩,⟨rfl,rfl⟩,⟨rfl,rfl⟩,⟨rfl,rfl⟩,⟨rfl,rfl⟩,⟨rfl,rfl⟩,trivial⟩
theorem Z8:(a0 = a0 /\ b0 = b0) /\ (a1 = a1 /\ b1 = b1) /\ (a2 = a2 /\ b2 = b2) /\ (a3 = a3 /\ b3 = b3) /\ (a4 = a4 /\ b4 = b4) /\ (a5 = a5 /\ b5 = b5) /\ (a6 = a6 /\ b6 = b6) /\ (a7 = a7 /\ b7 = b7) /\ True := ⟨⟨rfl,rfl⟩,⟨rfl,rfl⟩,⟨rfl,rfl⟩,⟨rfl,rfl⟩,⟨rfl,rfl⟩,⟨rfl,rfl⟩,⟨rfl,rfl⟩,⟨rfl,rfl⟩,trivial⟩
theorem Z9:(a0 = a0 /\ b0 = b0) /\ (a1 = a1 /\ b1 = b1) /\ (a2 = a2 /\ b2 = b2) /\ (a3 = a3 /\ b3 = b3) /\ (a4 = a4 /\ b4 = b4) /\ (a5 = a5 /\ b5 = b5) /\ (a6 = a6 /\ b6 = b6) /\ (a7 = a7 /\ b7 = b7) /\ (a8 = a8 /\ b8 = b8) /\ True := ⟨⟨rfl,rfl⟩,⟨rfl,rfl⟩,⟨rfl,rfl⟩,⟨rfl,rfl⟩,⟨rfl,rfl⟩,⟨rfl,rfl⟩,⟨rfl,rfl⟩,⟨rfl,rfl⟩,⟨rfl,rfl⟩,trivial⟩
theorem Z10:(a0 = a0 /\ b0 = b0) /\ (a1 = a1 /\ b1 = b1) /\ (a2 = a2 /\ b2 = b2) /\ (a3 = a3 /\ b3 = b3) /\ (a4 = a4 /\ b4 = b4) /\ (a5 = a5 /\ b5 = b5) /\ (a6 = a6 /\ b6 = b6) /\ (a7 = a7 /\ b7 = b7) /\ (a8 = a8 /\ b8 = b8) /\ (a9 = a9 /\ b9 = b9) /\ True := ⟨⟨rfl,rfl⟩,⟨rfl,rfl⟩,⟨rfl,rfl⟩,⟨rfl,rfl⟩,⟨rfl,rfl⟩,⟨rfl,rfl⟩,⟨rfl,rfl⟩,⟨rfl,rfl⟩,⟨rfl,rfl⟩,⟨rfl,rfl⟩,trivial⟩
theorem Z11:(a0 = a0 /\ b0 = b0) /\ (a1 = a1 /\ b1 = b1) /\ (a2 = a2 /\ b2 = b2) /\ (a3 = a3 /\ b3 = b3) /\ (a4 = a4 /\ b4 = b4) /\ (a5 = a5 /\ b5 = b5) /\ (a6 = a6 /\ b6 = b6) /\ (a7 = a7 /\ b7 = b7) /\ (a8 = a8 /\ b8 = b8) /\ (a9 = a9 /\ b9 = b9) /\ (Xu = Xu /\ Xd = Xd) /\ True := ⟨⟨rfl,rfl⟩,⟨rfl,rfl⟩,⟨rfl,rfl⟩,⟨rfl,rfl⟩,⟨rfl,rfl⟩,⟨rfl,rfl⟩,⟨rfl,rfl⟩,⟨rfl,rfl⟩,⟨rfl,rfl⟩,⟨rfl,rfl⟩,⟨rfl,rfl⟩,trivial⟩
theorem Z12{bL:α}{s8:Bool}:(a0 = a0 /\ b0 = b0) /\ (a1 = a1 /\ b1 = b1) /\ (a2 = a2 /\ b2 = b2) /\ (a3 = a3 /\ b3 = b3) /\ (a4 = a4 /\ b4 = b4) /\ (a5 = a5 /\ b5 = b5) /\ (a6 = a6 /\ b6 = b6) /\ (a7 = a7 /\ b7 = b7) /\ (a8 = a8 /\ b8 = b8) /\ (a9 = a9 /\ b9 = b9) /\ (Xu = Xu /\ Xd = Xd) /\ (bL = bL /\ s8 = s8) /\ True := ⟨⟨rfl,rfl⟩,⟨rfl,rfl⟩,⟨rfl,rfl⟩,⟨rfl,rfl⟩,⟨rfl,rfl⟩,⟨rfl,rfl⟩,⟨rfl,rfl⟩,⟨rfl,rfl⟩,⟨rfl,rfl⟩,⟨rfl,rfl⟩,⟨rfl,rfl⟩,⟨rfl,rfl⟩,trivial⟩
theorem Z13{bL a12:α}{s8 so:Bool}:(a0 = a0 /\ b0 = b0) /\ (a1 = a1 /\ b1 = b1) /\ (a2 = a2 /\ b2 = b2) /\ (a3 = a3 /\ b3 = b3) /\ (a4 = a4 /\ b4 = b4) /\ (a5 = a5 /\ b5 = b5) /\ (a6 = a6 /\ b6 = b6) /\ (a7 = a7 /\ b7 = b7) /\ (a8 = a8 /\ b8 = b8) /\ (a9 = a9 /\ b9 = b9) /\ (Xu = Xu /\ Xd = Xd) /\ (bL = bL /\ s8 = s8) /\ (a12 = a12 /\ so = so) /\ True := ⟨⟨rfl,rfl⟩,⟨rfl,rfl⟩,⟨rfl,rfl⟩,⟨rfl,rfl⟩,⟨rfl,rfl⟩,⟨rfl,rfl⟩,⟨rfl,rfl⟩,⟨rfl,rfl⟩,⟨rfl,rfl⟩,⟨rfl,rfl⟩,⟨rfl,rfl⟩,⟨rfl,rfl⟩,⟨rfl,rfl⟩,trivial⟩
theorem Nn:(0:Int) <= (i:Int) := Int.natCast_nonneg i
abbrev Ic(x:List Rl)(ifs:List (List AV)):List AV := [sl Ak x,.slice .none ifs]
theorem Ps{f:Nat}{fn:Func}{c:Code}{args:List AV}{Gz:AV}(hf:Tryz.prog.funcs[f]? = some fn)(hb:fn.body = some c)(hN:args.length <= fn.ntmps)(hk:Pl (ab pl) c (aj (ab pl) fn.results.toList fun r => DC r Gz) ⟨On args,Af⟩)(hn : (fn.name == "runtime.NumGoroutine") = false := by kernel_rfl)(hc : Ee fn.ntmps c = true := by kernel_rfl) : K6 Tryz.prog f args Gz := EW (ab pl) rfl B8 hm rfl hf hn hb hN hc hk
theorem Lm{β:Type}(f:α -> β):(l.map f).length = l.length := Bv f
theorem Ge{i:Nat}(h:i<l.length):l[i]? = some l[i] := AI h
end Go.Eng
namespace Go.Proofs
open Go.Shelf
def Tryz.layPdqSpan_ren:Go.Shelf.Ren:=⟨fun | 14=>257 | 20=>309 | 21=>310 | 22=>311 | 23=>312 | 24=>313 | 25=>314 | 26=>315 | 27=>316 | 46=>339 | 47=>259 | 48=>260 | 49=>340 | 50=>341 | 15=>121 | 57=>350 | 28=>194 | 29=>195 | n=>n,fun | 24=>85 | 22=>26 | 3=>3 | 25=>229 | 4=>4 | 0=>0 | 46=>232 | 45=>231 | 50=>161 | 66=>281 | 39=>159 | 55=>239 | 70=>285 | 76=>315 | 77=>316 | 53=>196 | 5=>5 | 9=>9 | n=>n,fun | n=>n⟩
theorem Tryz.layPdqSpan:Go.Proofs.SlLaysF0.n14 Tryz.prog Tryz.layPdqSpan_ren:={
 mixed:=by kernel_rfl
 f14:=⟨Tryz.f257.name,by decide,Go.Eng.A0a Tryz.func257⟩
 f15:=Go.Eng.A0a Tryz.func121
 f20:=⟨Tryz.f309.name,by decide,Go.Eng.A0a Tryz.func309⟩
 f21:=⟨Tryz.f310.name,by decide,Go.Eng.A0a Tryz.func310⟩
 f22:=⟨Tryz.f311.name,by decide,Go.Eng.A0a Tryz.func311⟩
 f23:=⟨Tryz.f312.name,by decide,Go.Eng.A0a Tryz.func312⟩
 f24:=⟨Tryz.f313.name,by decide,Go.Eng.A0a Tryz.func313⟩
 f25:=⟨Tryz.f314.name,by decide,Go.Eng.A0a Tryz.func314⟩
 f26:=⟨Tryz.f315.name,by decide,Go.Eng.A0a Tryz.func315⟩
 f27:=⟨Tryz.f316.name,by decide,Go.Eng.A0a Tryz.func316⟩
 f28:=Go.Eng.A0a Tryz.func194
 f29:=Go.Eng.A0a Tryz.func195
 f46:=⟨Tryz.f339.name,by decide,Go.Eng.A0a Tryz.func339⟩
 f47:=Go.Eng.A0a Tryz.func259
 f48:=Go.Eng.A0a Tryz.func260
 f49:=⟨Tryz.f340.name,by decide,Go.Eng.A0a Tryz.func340⟩
 f50:=⟨Tryz.f341.name,by decide,Go.Eng.A0a Tryz.func341⟩
 f57:=⟨Tryz.f350.name,by decide,Go.Eng.A0a Tryz.func350⟩
 t0:=Tryz.underlying0
 a0:=Tryz.isAgg0
 z0:=Tryz.sizeOf0
 v0:=Tryz.zeroValue0
 t3:=Tryz.underlying3
 a3:=Tryz.isAgg3
 z3:=Tryz.sizeOf3
 v3:=Tryz.zeroValue3
 t4:=Tryz.underlying4
 a4:=Tryz.isAgg4
 z4:=Tryz.sizeOf4
 v4:=Tryz.zeroValue4
 t5:=Tryz.underlying5
 a5:=Tryz.isAgg5
 z5:=Tryz.sizeOf5
 v5:=Tryz.zeroValue5
 t9:=Tryz.underlying9
 a9:=Tryz.isAgg9
 z9:=Tryz.sizeOf9
 v9:=Tryz.zeroValue9
 t22:=Tryz.underlying26
 a22:=Tryz.isAgg26
 z22:=Tryz.sizeOf26
 v22:=Tryz.zeroValue26
 t25:=Tryz.underlying229
 a25:=Tryz.isAgg229
 z25:=Tryz.sizeOf229
 v25:=Tryz.zeroValue229
 t39:=Tryz.underlying159
 a39:=Tryz.isAgg159
 z39:=Tryz.sizeOf159
 v39:=Tryz.zeroValue159
 t45:=Tryz.underlying231
 a45:=Tryz.isAgg231
 z45:=Tryz.sizeOf231
 v45:=Tryz.zeroValue231
 t46:=Tryz.underlying232
 a46:=Tryz.isAgg232
 z46:=Tryz.sizeOf232
 v46:=Tryz.zeroValue232
 t50:=Tryz.underlying161
 a50:=Tryz.isAgg161
 z50:=Tryz.sizeOf161
 v50:=Tryz.zeroValue161
 t53:=Tryz.underlying196
 a53:=Tryz.isAgg196
 z53:=Tryz.sizeOf196
 v53:=Tryz.zeroValue196
 t55:=Tryz.underlying239
 a55:=Tryz.isAgg239
 z55:=Tryz.sizeOf239
 v55:=Tryz.zeroValue239
 t66:=Tryz.underlying281
 a66:=Tryz.isAgg281
 z66:=Tryz.sizeOf281
 v66:=Tryz.zeroValue281
 t70:=Tryz.underlying285
 a70:=Tryz.isAgg285
 z70:=Tryz.sizeOf285
 v70:=Tryz.zeroValue285
 t76:=Tryz.underlying315
 a76:=Tryz.isAgg315
 z76:=Tryz.sizeOf315
 v76:=Tryz.zeroValue315
 t77:=Tryz.underlying316
 a77:=Tryz.isAgg316
 z77:=Tryz.sizeOf316
 v77:=Tryz.zeroValue316 }
def Tryz.layPdqTerm_ren:Go.Shelf.Ren:=⟨fun | 14=>120 | 20=>186 | 21=>187 | 22=>188 | 23=>189 | 24=>190 | 25=>191 | 26=>192 | 27=>193 | 46=>258 | 47=>259 | 48=>260 | 49=>261 | 50=>262 | 15=>121 | 57=>317 | 28=>194 | 29=>195 | n=>n,fun | 24=>29 | 22=>22 | 3=>3 | 25=>116 | 4=>4 | 0=>0 | 46=>232 | 45=>231 | 50=>161 | 66=>281 | 39=>159 | 55=>239 | 70=>285 | 76=>315 | 77=>316 | 53=>196 | 5=>5 | 9=>9 | n=>n,fun | n=>n⟩
theorem Tryz.layPdqTerm:Go.Proofs.SlLaysF0.n14 Tryz.prog Tryz.layPdqTerm_ren:={
 mixed:=by kernel_rfl
 f14:=⟨Tryz.f120.name,by decide,Go.Eng.A0a Tryz.func120⟩
 f15:=Go.Eng.A0a Tryz.func121
 f20:=⟨Tryz.f186.name,by decide,Go.Eng.A0a Tryz.func186⟩
 f21:=⟨Tryz.f187.name,by decide,Go.Eng.A0a Tryz.func187⟩
 f22:=⟨Tryz.f188.name,by decide,Go.Eng.A0a Tryz.func188⟩
 f23:=⟨Tryz.f189.name,by decide,Go.Eng.A0a Tryz.func189⟩
 f24:=⟨Tryz.f190.name,by decide,Go.Eng.A0a Tryz.func190⟩
 f25:=⟨Tryz.f191.name,by decide,Go.Eng.A0a Tryz.func191⟩
 f26:=⟨Tryz.f192.name,by decide,Go.Eng.A0a Tryz.func192⟩
 f27:=⟨Tryz.f193.name,by decide,Go.Eng.A0a Tryz.func193⟩
 f28:=Go.Eng.A0a Tryz.func194
 f29:=Go.Eng.A0a Tryz.func195
 f46:=⟨Tryz.f258.name,by decide,Go.Eng.A0a Tryz.func258⟩
 f47:=Go.Eng.A0a Tryz.func259
 f48:=Go.Eng.A0a Tryz.func260
 f49:=⟨Tryz.f261.name,by decide,Go.Eng.A0a Tryz.func261⟩
 f50:=⟨Tryz.f262.name,by decide,Go.Eng.A0a Tryz.func262⟩
 f57:=⟨Tryz.f317.name,by decide,Go.Eng.A0a Tryz.func317⟩
 t0:=Tryz.underlying0
 a0:=Tryz.isAgg0
 z0:=Tryz.sizeOf0
 v0:=Tryz.zeroValue0
 t3:=Tryz.underlying3
 a3:=Tryz.isAgg3
 z3:=Tryz.sizeOf3
 v3:=Tryz.zeroValue3
 t4:=Tryz.underlying4
 a4:=Tryz.isAgg4
 z4:=Tryz.sizeOf4
 v4:=Tryz.zeroValue4
 t5:=Tryz.underlying5
 a5:=Tryz.isAgg5
 z5:=Tryz.sizeOf5
 v5:=Tryz.zeroValue5
 t9:=Tryz.underlying9
 a9:=Tryz.isAgg9
 z9:=Tryz.sizeOf9
 v9:=Tryz.zeroValue9
 t22:=Tryz.underlying22
 a22:=Tryz.isAgg22
 z22:=Tryz.sizeOf22
 v22:=Tryz.zeroValue22
 t25:=Tryz.underlying116
 a25:=Tryz.isAgg116
 z25:=Tryz.sizeOf116
 v25:=Tryz.zeroValue116
 t39:=Tryz.underlying159
 a39:=Tryz.isAgg159
 z39:=Tryz.sizeOf159
 v39:=Tryz.zeroValue159
 t45:=Tryz.underlying231
 a45:=Tryz.isAgg231
 z45:=Tryz.sizeOf231
 v45:=Tryz.zeroValue231
 t46:=Tryz.underlying232
 a46:=Tryz.isAgg232
 z46:=Tryz.sizeOf232
 v46:=Tryz.zeroValue232
 t50:=Tryz.underlying161
 a50:=Tryz.isAgg161
 z50:=Tryz.sizeOf161
 v50:=Tryz.zeroValue161
 t53:=Tryz.underlying196
 a53:=Tryz.isAgg196
 z53:=Tryz.sizeOf196
 v53:=Tryz.zeroValue196
 t55:=Tryz.underlying239
 a55:=Tryz.isAgg239
 z55:=Tryz.sizeOf239
 v55:=Tryz.zeroValue239
 t66:=Tryz.underlying281
 a66:=Tryz.isAgg281
 z66:=Tryz.sizeOf281
 v66:=Tryz.zeroValue281
 t70:=Tryz.underlying285
 a70:=Tryz.isAgg285
 z70:=Tryz.sizeOf285
 v70:=Tryz.zeroValue285
 t76:=Tryz.underlying315
 a76:=Tryz.isAgg315
 z76:=Tryz.sizeOf315
 v76:=Tryz.zeroValue315
 t77:=Tryz.underlying316
 a77:=Tryz.isAgg316
 z77:=Tryz.sizeOf316
 v77:=Tryz.zeroValue316 }
def Tryz.layCompare_ren:Go.Shelf.Ren:=⟨fun | 106=>71 | 213=>122 | 265=>196 | n=>n,fun | 9=>9 | 3=>3 | n=>n,fun | n=>n⟩
theorem Tryz.layCompare:Go.Proofs.Lays.n106 Tryz.prog Tryz.layCompare_ren:={
 mixed:=by kernel_rfl
 f106:=Go.Eng.A0a Tryz.func71
 f213:=Go.Eng.A0a Tryz.func122
 f265:=Go.Eng.A0a Tryz.func196
 t3:=Tryz.underlying3
 a3:=Tryz.isAgg3
 z3:=Tryz.sizeOf3
 v3:=Tryz.zeroValue3
 t9:=Tryz.underlying9
 a9:=Tryz.isAgg9
 z9:=Tryz.sizeOf9
 v9:=Tryz.zeroValue9 }
def Tryz.layBits_ren:Go.Shelf.Ren:=⟨fun | 125=>121 | 128=>194 | 129=>195 | n=>n,fun | 46=>159 | 3=>3 | 51=>196 | 53=>239 | 4=>4 | 5=>5 | 9=>9 | n=>n,fun | n=>n⟩
theorem Tryz.layBits:Go.Proofs.Lays.n125 Tryz.prog Tryz.layBits_ren:={
 mixed:=by kernel_rfl
 f125:=Go.Eng.A0a Tryz.func121
 f128:=Go.Eng.A0a Tryz.func194
 f129:=Go.Eng.A0a Tryz.func195
 t3:=Tryz.underlying3
 a3:=Tryz.isAgg3
 z3:=Tryz.sizeOf3
 v3:=Tryz.zeroValue3
 t4:=Tryz.underlying4
 a4:=Tryz.isAgg4
 z4:=Tryz.sizeOf4
 v4:=Tryz.zeroValue4
 t5:=Tryz.underlying5
 a5:=Tryz.isAgg5
 z5:=Tryz.sizeOf5
 v5:=Tryz.zeroValue5
 t9:=Tryz.underlying9
 a9:=Tryz.isAgg9
 z9:=Tryz.sizeOf9
 v9:=Tryz.zeroValue9
 t46:=Tryz.underlying159
 a46:=Tryz.isAgg159
 z46:=Tryz.sizeOf159
 v46:=Tryz.zeroValue159
 t51:=Tryz.underlying196
 a51:=Tryz.isAgg196
 z51:=Tryz.sizeOf196
 v51:=Tryz.zeroValue196
 t53:=Tryz.underlying239
 a53:=Tryz.isAgg239
 z53:=Tryz.sizeOf239
 v53:=Tryz.zeroValue239 }
def Tryz.laySortInts_ren:Go.Shelf.Ren:=⟨fun | 189=>162 | 125=>121 | 257=>229 | 128=>194 | 129=>195 | 294=>285 | 295=>286 | 296=>287 | 297=>288 | 298=>289 | 299=>290 | 216=>291 | 300=>292 | 301=>293 | 328=>326 | 329=>259 | 330=>260 | 331=>327 | 332=>328 | 215=>329 | 343=>344 | n=>n,fun | 28=>34 | 3=>3 | 46=>159 | 0=>0 | 51=>196 | 53=>239 | 4=>4 | 183=>232 | 182=>231 | 131=>161 | 5=>5 | 9=>9 | 218=>281 | 222=>285 | 228=>315 | 229=>316 | n=>n,fun | n=>n⟩
theorem Tryz.laySortInts:Go.Proofs.Lays.n189 Tryz.prog Tryz.laySortInts_ren:={
 mixed:=by kernel_rfl
 f125:=Go.Eng.A0a Tryz.func121
 f128:=Go.Eng.A0a Tryz.func194
 f129:=Go.Eng.A0a Tryz.func195
 f189:=Go.Eng.A0a Tryz.func162
 f215:=Go.Eng.A0a Tryz.func329
 f216:=Go.Eng.A0a Tryz.func291
 f257:=Go.Eng.A0a Tryz.func229
 f294:=Go.Eng.A0a Tryz.func285
 f295:=Go.Eng.A0a Tryz.func286
 f296:=Go.Eng.A0a Tryz.func287
 f297:=Go.Eng.A0a Tryz.func288
 f298:=Go.Eng.A0a Tryz.func289
 f299:=Go.Eng.A0a Tryz.func290
 f300:=Go.Eng.A0a Tryz.func292
 f301:=Go.Eng.A0a Tryz.func293
 f328:=Go.Eng.A0a Tryz.func326
 f329:=Go.Eng.A0a Tryz.func259
 f330:=Go.Eng.A0a Tryz.func260
 f331:=Go.Eng.A0a Tryz.func327
 f332:=Go.Eng.A0a Tryz.func328
 f343:=Go.Eng.A0a Tryz.func344
 t0:=Tryz.underlying0
 a0:=Tryz.isAgg0
 z0:=Tryz.sizeOf0
 v0:=Tryz.zeroValue0
 t3:=Tryz.underlying3
 a3:=Tryz.isAgg3
 z3:=Tryz.sizeOf3
 v3:=Tryz.zeroValue3
 t4:=Tryz.underlying4
 a4:=Tryz.isAgg4
 z4:=Tryz.sizeOf4
 v4:=Tryz.zeroValue4
 t5:=Tryz.underlying5
 a5:=Tryz.isAgg5
 z5:=Tryz.sizeOf5
 v5:=Tryz.zeroValue5
 t9:=Tryz.underlying9
 a9:=Tryz.isAgg9
 z9:=Tryz.sizeOf9
 v9:=Tryz.zeroValue9
 t28:=Tryz.underlying34
 a28:=Tryz.isAgg34
 z28:=Tryz.sizeOf34
 v28:=Tryz.zeroValue34
 t46:=Tryz.underlying159
 a46:=Tryz.isAgg159
 z46:=Tryz.sizeOf159
 v46:=Tryz.zeroValue159
 t51:=Tryz.underlying196
 a51:=Tryz.isAgg196
 z51:=Tryz.sizeOf196
 v51:=Tryz.zeroValue196
 t53:=Tryz.underlying239
 a53:=Tryz.isAgg239
 z53:=Tryz.sizeOf239
 v53:=Tryz.zeroValue239
 t131:=Tryz.underlying161
 a131:=Tryz.isAgg161
 z131:=Tryz.sizeOf161
 v131:=Tryz.zeroValue161
 t182:=Tryz.underlying231
 a182:=Tryz.isAgg231
 z182:=Tryz.sizeOf231
 v182:=Tryz.zeroValue231
 t183:=Tryz.underlying232
 a183:=Tryz.isAgg232
 z183:=Tryz.sizeOf232
 v183:=Tryz.zeroValue232
 t218:=Tryz.underlying281
 a218:=Tryz.isAgg281
 z218:=Tryz.sizeOf281
 v218:=Tryz.zeroValue281
 t222:=Tryz.underlying285
 a222:=Tryz.isAgg285
 z222:=Tryz.sizeOf285
 v222:=Tryz.zeroValue285
 t228:=Tryz.underlying315
 a228:=Tryz.isAgg315
 z228:=Tryz.sizeOf315
 v228:=Tryz.zeroValue315
 t229:=Tryz.underlying316
 a229:=Tryz.isAgg316
 z229:=Tryz.sizeOf316
 v229:=Tryz.zeroValue316 }
end Go.Proofs
namespace Go.Proofs
open Go.Shelf Go.RowKit Go.Lib Go.Sort
def SpA:Type:={x:Int×Int // 0<=x.1/\x.1<=1000000}
instance:Inhabited SpA:=⟨⟨(0,0),by decide⟩⟩
def encSpA(x:SpA):List Value:=[.int .i64 x.1.1,.int .i64 x.1.2]
def cfSpA(x y:SpA):Int:=x.1.1-y.1.1
theorem Tryz.closure185(x y:SpA)(W:World):Calls Tryz.prog 185 #[.agg #[.int .i64 x.1.1,.int .i64 x.1.2],.agg #[.int .i64 y.1.1,.int .i64 y.1.2]] W fun e w'=>e=.returned (.int .i64 (cfSpA x y))/\∃q os',w'=grow (W.drewN q) os':=by
 obtain⟨⟨a,b⟩,h1,h2⟩:=x;obtain⟨⟨c,d⟩,h3,h4⟩:=y;dsimp only at h1 h2 h3 h4;have hw:IntKind.i64.wrap (a-c)=a-c:=by simp[IntKind.wrap,IntKind.bits,IntKind.signed];omega
 show Calls Tryz.prog 185 #[.agg #[.int .i64 a,.int .i64 b],.agg #[.int .i64 c,.int .i64 d]] W fun e w'=>e=.returned (.int .i64 (a-c))/\∃q os',w'=grow (W.drewN q) os'
 go_enter Tryz.func185,Tryz.ntmps185
 go_wp2
 go_ret
 exact⟨rfl,0,_,by rw[alloc_eq_grow,alloc_eq_grow,grow_grow];rfl⟩
def TmA:Type:=ByteArray×{v:Value // v.oneCell'=true}×{v:Value // v.oneCell'=true}
instance:Inhabited TmA:=⟨⟨ByteArray.empty,⟨.bool false,rfl⟩,⟨.bool false,rfl⟩⟩⟩
def encTmA(x:TmA):List Value:=[.string x.1,x.2.1.1,x.2.2.1]
def cfTmA(x y:TmA):Int:=Lib.compareBytes x.1.data.toList y.1.data.toList
theorem Tryz.closure70(x y:TmA)(W:World):Calls Tryz.prog 70 #[.agg #[.string x.1,x.2.1.1,x.2.2.1],.agg #[.string y.1,y.2.1.1,y.2.2.1]] W fun e w'=>e=.returned (.int .i64 (cfTmA x y))/\∃q os',w'=grow (W.drewN q) os':=by
 have hcon:=fun W'=>Any.strings_Compare Tryz.layCompare x.1 y.1 W';obtain⟨a,⟨b,hb⟩,⟨c,hc⟩⟩:=x;obtain⟨a',⟨b',sF⟩,⟨c',hc'⟩⟩:=y;dsimp only at hcon
 change ∀W',Calls Tryz.prog 71 _ _ _ at hcon
 unfold cfTmA;dsimp only;generalize Lib.compareBytes a.data.toList a'.data.toList=r at hcon⊢
 go_enter Tryz.func70,Tryz.ntmps70
 go_wp2_with (go_at_call 71;refine(hcon _).mono ?_;rintro e w' ⟨rfl,rfl⟩)
 go_ret
 exact⟨rfl,0,_,by rw[alloc_eq_grow,alloc_eq_grow,grow_grow];rfl⟩
end Go.Proofs
namespace Go.Eng
open Go.Proofs
variable {caps:List AV}{α:Type}{p:α->Bool}{i fF:Nat}(l:List (Int×Int))(x:Sl)(t:Tm)(v:Ver)(r:Rl)(m:List (Int×Int))(s:List Sl)
theorem mJ:PC 132 [.agg (Dt v)] (.agg [vi v.a,vi v.b,vi v.c]):=by
 refine Ps Cu Tryz.func132 rfl (Nz rfl) ?_;exact Yi (Nz rfl) (Yi (Nz rfl) (.refl _))
def part:Nat->Int
 |0=>v.a
 |1=>v.b
 |_=>v.c
theorem VC{v:Ver}(h:¬okPart (part v i)):Bo v=false:=by
 unfold Bo
 match i,h with
 |0,h=>have h:¬okPart v.a:=h;simp[h]
 |1,h=>have h:¬okPart v.b:=h;simp[h]
 |_+2,h=>have h:¬okPart v.c:=h;simp[h]
theorem dL:PC 131 [.agg (Dt v)] (vb (Bo v)):=by
 refine Ps Cu Tryz.func131 rfl (Nz rfl) (Yi (Nz rfl) (Xi .pure (Xi _ (Yi (mJ v) (Xi {i:Nat // i<=3/\∀j,j<i->okPart (part v j)} (Xi (fun i=>⟨[(6,.agg [vi v.a,vi v.b,vi v.c]),(7,vi i.1)],[],Af⟩) (Xi (fun i=>3-i.1) (Yi (Xi ⟨0,by simp⟩ ?_) ?_))))))))
 .exact⟨Z2,Tv,Fh,Tv⟩
 .intro⟨i,h1,h2⟩;refine Yi ?_ ?_
  .intro h;have h:(i:Int)<3:=h;refine Yi ⟨by omega,by omega⟩ ?_;have hp:Ld (([vi v.a,vi v.b,vi v.c]).drop ((i:Int).toNat*1))=fun K=>K (vi (part v i)):=by
    match i,h with
    |0,_=>rfl
    |1,_=>rfl
    |2,_=>rfl
    |_+3,h=>omega
   show Ld (([vi v.a,vi v.b,vi v.c]).drop ((i:Int).toNat*1)) _;rw[hp];refine Yi ?_ ?_
   .intro h3;rw[VC (i:=i) (by grind [okPart])];exact .refl _
   .intro h3;refine Yi ?_ ?_
    .intro h4;rw[VC (i:=i) (by grind [okPart])];exact .refl _
    .intro h4;refine Yi (by grind [Al]) (Xi ⟨i+1,by omega,fun j hj=>?_⟩ ?_)
     .by_cases e:j=i
      .subst e;exact⟨by omega,by omega⟩
      grind
     .exact⟨by grind,Z2,Tv,Fh,Tv⟩
  .intro h;have h:¬(i:Int)<3:=h;have e:i=3:=by omega
   have q:Bo v=true:=by
    unfold Bo;have a:=h2 0 aa0;have b:=h2 1 aa0
    grind [part]
   rw[q];exact .refl _
theorem tK:PC 149 [.agg (Dt v)] (.tup [vi (if Bo v then place v else 0),vi (if Bo v then 0 else 2)]):=by
 refine Ps Cu Tryz.func149 rfl (Nz rfl) (Yi (Nz rfl) (Xi .pure (Xi _ (Yi (dL v) ?_))));cases h:Bo v with
 |false=>exact .refl _
 |true=>
  have hv:=Fg h;refine Yi (by grind [Al]) ?_;exact Yi (by grind [Al]) (.refl _)
theorem qz(h:Bo v=true):PC 82 [.agg (Dt v)] (vi (place v)):=by
 refine Ps Cu Tryz.func82 rfl (Nz rfl) ?_;have hv:=Fg h;refine Yi (by grind [Al]) ?_;exact Yi (by grind [Al]) (.refl _)
def DZ(caps:List AV):Prop:=∀c∈caps,∀h,str0 h c=c
theorem DZ.map{caps:List AV}(hs:DZ caps)(h:Nat->HO):caps.map (str0 h)=caps:=by
 conv=>rhs;rw[<-List.map_id caps]
 exact Cd fun c hc=>hs c hc h
theorem DZ.ids(hs:DZ caps)(h:Nat->HO):Yp h caps=true:=by
 induction caps with
 |nil=>rfl
 |cons c r ih=>
  have hc:=hs c (Ai ..) Af;have h0:ids0 h c=true:=by
   cases c with
   |slice tk es=>cases tk with |none=>rfl |full sz=>grind [str0] |id r sz=>grind [str0] |ver r sz v=>grind [str0]
   |_=>first |rfl |grind [str0]
  unfold Yp;rw[h0];exact ih fun c hc=>hs c (At _ hc)
def Pg{α:Type}(p:α->Bool):List α->Int->Int
 | [],_=>-1
 |x::r,i=>if p x then i else Pg p r (i+1)
theorem SI{α:Type}{p:α->Bool}:∀{l:List α} {i:Nat} {k:Int} (hi:i<l.length),(∀j (hj:j<l.length),j<i->p l[j]=false)->p l[i]=true->Pg p l k=k+i
 |x::r,0,k,_,_,h=>by
  grind [Pg]
 |x::r,i+1,k,hi,hb,h=>by
  have h0:p x=false:=hb 0 aa1 aa0
  have:=SI (l:=r) (i:=i) (k:=k+1) (by grind) (fun j hj He=>hb (j+1) aa0 aa0) (by simp_all)
  grind [Pg]
theorem LR{α:Type}{p:α->Bool}:∀{l:List α} {k:Int},(∀j (hj:j<l.length),p l[j]=false)->Pg p l k=-1
 | [],_,_=>rfl
 |x::r,k,h=>by
  have h0:p x=false:=h 0 aa1;simp only[Pg,h0,D4,LU];exact LR fun j hj=>h (j+1) (by simp_all)
theorem OF{α:Type}{p:α->Bool}:∀(l:List α) (k:Int),0<=k->decide (0<=Pg p l k)=l.any p
 | [],k,_=>by simp[Pg]
 |x::r,k,hk=>by
  unfold Pg;cases h:p x with
  |true=>simp_all
  |false=>simp[h,OF r (k+1) aa0]
-- Xm for each type of elements
theorem xQ(hs:DZ caps)(l:List (Int×Int))(p:Int×Int->Bool)(hF:∀x∈l,PC fF ([.agg (Ab x)]++caps) (vb (p x)))(hl:l.length<9223372036854775807) :
  PC 273 [sl Ab l,.clo fF caps] (vi (Pg p l 0)):=by
 refine Ps Cu Tryz.func273 rfl (Nz rfl) (Xi {i:Nat // i<=l.length/\∀j (hj:j<l.length),j<i->p l[j]=false} (Xi (fun i=>⟨[(0,sl Ab l),(1,.clo fF caps),(7,vi (l.map Ab).length),(8,vi i.1)],[],Af⟩) (Xi (fun i=>l.length-i.1) (Yi (Xi ⟨0,by simp⟩ ?_) ?_))))
 .exact⟨⟨Zr,⟨rfl,hs.ids _⟩,Zr,Zr,Tv⟩,Tv,Fh,Tv⟩
 .intro⟨i,h1,h2⟩;refine Yi ?_ ?_
  .intro h;have h:i<l.length:=by simp_all
   have hg:l[i]?=some l[i]:=Ge h;refine Xi (Ab l[i]) (Yi (Yi aa0 (by simp_all)) (Yi rfl (yN ?_)));have DV:∀h,PC fF ([.agg (Ab l[i])]++caps.map (str0 h)) (vb (p l[i])):=fun h=>by rw[hs.map];grind
   cases hp:p l[i]with
   |true=>
    rw[hp]at DV;refine Xi .pure (Xi (vb true) (Yi (DV _) ?_));rw[SI h (fun j hj He=>h2 j hj He) hp,Nl];exact .refl _
   |false=>
    rw[hp]at DV;refine Xi .pure (Xi (vb false) (Yi (DV _) (Yi (by grind [Al]) (Xi ⟨i+1,by omega,fun j hj He=>?_⟩ ?_))))
    .grind
    .exact⟨by grind,⟨Zr,⟨rfl,hs.ids _⟩,Zr,Zr,Tv⟩,Tv,Fh,Tv⟩
  .intro h;have h:¬i<l.length:=by simp_all
   rw[LR fun j hj=>h2 j hj aa0];exact .refl _
abbrev BB(l:List α):Prop:=l.length<=1073741824
theorem CE{α:Type}{enc:α->List AV}{n:Nat}(h:∀x,(enc x).length=n):∀l:List α,AZ n (l.map enc)
 | []=>trivial
 |x::l=>⟨h x,CE h l⟩
theorem Rb{x y:Int×Int}:ZA (Ab x) (Ab y)↔x=y:=by
 constructor
 .intro h;exact Prod.ext h.1 h.2.1
 .rintro rfl;exact⟨rfl,rfl,trivial⟩
abbrev Ap(l:List Tm):List AV:=[sl Ac l]
abbrev Ag(s:ByteArray):List AV:=[vs s]
theorem tQ(hs:DZ caps)(l:List (Sl))(p:Sl->Bool)(hF:∀x∈l,PC fF ([.agg (Ae x)]++caps) (vb (p x)))(hl:l.length<9223372036854775807) :
  PC 76 [sl Ae l,.clo fF caps] (vi (Pg p l 0)):=by
 refine EW (ab Cu) rfl B8 hm rfl Tryz.func76 aa3 rfl (Nz rfl) aa3 (Xi {i:Nat // i<=l.length/\∀j (hj:j<l.length),j<i->p l[j]=false} (Xi (fun i=>⟨[(0,sl Ae l),(1,.clo fF caps),(7,vi (l.map Ae).length),(8,vi i.1)],[],Af⟩) (Xi (fun i=>l.length-i.1) (Yi (Xi ⟨0,by simp⟩ ?_) ?_))))
 .exact⟨⟨Zr,⟨rfl,hs.ids _⟩,Zr,Zr,Tv⟩,Tv,Fh,Tv⟩
 .intro⟨i,h1,h2⟩;refine Yi ?_ ?_
  .intro h;have h:i<l.length:=by simp_all
   have hg:l[i]?=some l[i]:=Ge h;refine Xi (Ae l[i]) (Yi (Yi aa0 (by simp_all)) (Yi rfl (yN ?_)));have DV:∀h,PC fF ([.agg (Ae l[i])]++caps.map (str0 h)) (vb (p l[i])):=fun h=>by rw[hs.map];simp_all
   cases hp:p l[i]with
   |true=>
    rw[hp]at DV;refine Xi .pure (Xi (vb true) (Yi (DV _) ?_));rw[SI h (fun j hj He=>h2 j hj He) hp,Nl];exact .refl _
   |false=>
    rw[hp]at DV;refine Xi .pure (Xi (vb false) (Yi (DV _) (Yi (by grind [Al]) (Xi ⟨i+1,by omega,fun j hj He=>?_⟩ ?_))))
    .grind
    .exact⟨by grind,⟨Zr,⟨rfl,hs.ids _⟩,Zr,Zr,Tv⟩,Tv,Fh,Tv⟩
  .intro h;have h:¬i<l.length:=by simp_all
   rw[LR fun j hj=>h2 j hj aa0];exact .refl _
theorem xy(hs:DZ caps)(l:List (Rq))(p:Rq->Bool)(hF:∀x∈l,PC fF ([.agg (Ad x)]++caps) (vb (p x)))(hl:l.length<9223372036854775807) :
  PC 212 [sl Ad l,.clo fF caps] (vi (Pg p l 0)):=by
 refine EW (ab Cu) rfl B8 hm rfl Tryz.func212 aa3 rfl (Nz rfl) aa3 (Xi {i:Nat // i<=l.length/\∀j (hj:j<l.length),j<i->p l[j]=false} (Xi (fun i=>⟨[(0,sl Ad l),(1,.clo fF caps),(7,vi (l.map Ad).length),(8,vi i.1)],[],Af⟩) (Xi (fun i=>l.length-i.1) (Yi (Xi ⟨0,by simp⟩ ?_) ?_))))
 .exact⟨⟨Zr,⟨rfl,hs.ids _⟩,Zr,Zr,Tv⟩,Tv,Fh,Tv⟩
 .intro⟨i,h1,h2⟩;refine Yi ?_ ?_
  .intro h;have h:(i:Int)<(l.map Ad).length:=h;have h:i<l.length:=by simp_all
   have hg:l[i]?=some l[i]:=Ge h;refine Xi (Ad l[i]) (Yi (Yi aa0 (by simp_all)) (Yi rfl (yN ?_)));have DV:∀h,PC fF ([.agg (Ad l[i])]++caps.map (str0 h)) (vb (p l[i])):=fun h=>by rw[hs.map];simp_all
   cases hp:p l[i]with
   |true=>
    rw[hp]at DV;refine Xi .pure (Xi (vb true) (Yi (DV _) ?_));rw[SI h (fun j hj He=>h2 j hj He) hp,Nl];exact .refl _
   |false=>
    rw[hp]at DV;refine Xi .pure (Xi (vb false) (Yi (DV _) (Yi (by grind [Al]) (Xi ⟨i+1,by omega,fun j hj He=>?_⟩ ?_))))
    .grind
    .exact⟨by grind,⟨Zr,⟨rfl,hs.ids _⟩,Zr,Zr,Tv⟩,Tv,Fh,Tv⟩
  .intro h;have h:¬(i:Int)<(l.map Ad).length:=h;have h:¬i<l.length:=by simp_all
   rw[LR fun j hj=>h2 j hj aa0];exact .refl _
theorem mL(hs:DZ caps)(l:List (Tm))(p:Tm->Bool)(hF:∀x∈l,PC fF ([.agg (Ac x)]++caps) (vb (p x)))(hl:l.length<9223372036854775807) :
  PC 276 [sl Ac l,.clo fF caps] (vi (Pg p l 0)):=by
 refine EW (ab Cu) rfl B8 hm rfl Tryz.func276 aa3 rfl (Nz rfl) aa3 (Xi {i:Nat // i<=l.length/\∀j (hj:j<l.length),j<i->p l[j]=false} (Xi (fun i=>⟨[(0,sl Ac l),(1,.clo fF caps),(7,vi (l.map Ac).length),(8,vi i.1)],[],Af⟩) (Xi (fun i=>l.length-i.1) (Yi (Xi ⟨0,by simp⟩ ?_) ?_))))
 .exact⟨⟨Zr,⟨rfl,hs.ids _⟩,Zr,Zr,Tv⟩,Tv,Fh,Tv⟩
 .intro⟨i,h1,h2⟩;refine Yi ?_ ?_
  .intro h;have h:i<l.length:=by simp_all
   have hg:l[i]?=some l[i]:=Ge h;refine Xi (Ac l[i]) (Yi (Yi aa0 (by simp_all)) (Yi rfl (yN ?_)));have DV:∀h,PC fF ([.agg (Ac l[i])]++caps.map (str0 h)) (vb (p l[i])):=fun h=>by rw[hs.map];simp_all
   cases hp:p l[i]with
   |true=>
    rw[hp]at DV;refine Xi .pure (Xi (vb true) (Yi (DV _) ?_));rw[SI h (fun j hj He=>h2 j hj He) hp,Nl];exact .refl _
   |false=>
    rw[hp]at DV;refine Xi .pure (Xi (vb false) (Yi (DV _) (Yi (by grind [Al]) (Xi ⟨i+1,by omega,fun j hj He=>?_⟩ ?_))))
    .grind
    .exact⟨by grind,⟨Zr,⟨rfl,hs.ids _⟩,Zr,Zr,Tv⟩,Tv,Fh,Tv⟩
  .intro h;have h:¬i<l.length:=by simp_all
   rw[LR fun j hj=>h2 j hj aa0];exact .refl _
theorem xw(hs:DZ caps)(l:List (Int×Int))(p:Int×Int->Bool)(hF:∀x∈l,PC fF ([.agg (Ab x)]++caps) (vb (p x)))(hl:BB l) :
  PC 210 [sl Ab l,.clo fF caps] (vb (l.any p)):=by
 refine EW (ab Cu) rfl B8 hm rfl Tryz.func210 aa3 rfl (Nz rfl) aa3 ?_;have hi:=xQ hs l p hF aa0;have DV:∀h,PC 273 [sl Ab l,.clo fF (caps.map (str0 h))] (vi (Pg p l 0)):=fun h=>by grind [DZ.map]
 refine Xi .pure (Xi _ (Yi (DV _) ?_));have ha:=OF (p:=p) l 0 (Cg 0);refine Yi ?_ ?_
 .intro h;rw[<-ha,A4 h];exact .refl _
 .intro h;rw[<-ha,AU h];exact .refl _
theorem yC(hs:DZ caps)(l:List (Sl))(p:Sl->Bool)(hF:∀x∈l,PC fF ([.agg (Ae x)]++caps) (vb (p x)))(hl:BB l) :
  PC 145 [sl Ae l,.clo fF caps] (vb (l.any p)):=by
 refine EW (ab Cu) rfl B8 hm rfl Tryz.func145 aa3 rfl (Nz rfl) aa3 ?_;have hi:=tQ hs l p hF aa0;have DV:∀h,PC 76 [sl Ae l,.clo fF (caps.map (str0 h))] (vi (Pg p l 0)):=fun h=>by grind [DZ.map]
 refine Xi .pure (Xi _ (Yi (DV _) ?_));have ha:=OF (p:=p) l 0 (Cg 0);refine Yi ?_ ?_
 .intro h;rw[<-ha,A4 h];exact .refl _
 .intro h;rw[<-ha,AU h];exact .refl _
theorem yI(hs:DZ caps)(l:List (Rq))(p:Rq->Bool)(hF:∀x∈l,PC fF ([.agg (Ad x)]++caps) (vb (p x)))(hl:BB l) :
  PC 143 [sl Ad l,.clo fF caps] (vb (l.any p)):=by
 refine EW (ab Cu) rfl B8 hm rfl Tryz.func143 aa3 rfl (Nz rfl) aa3 ?_;have hi:=xy hs l p hF aa0;have DV:∀h,PC 212 [sl Ad l,.clo fF (caps.map (str0 h))] (vi (Pg p l 0)):=fun h=>by grind [DZ.map]
 refine Xi .pure (Xi _ (Yi (DV _) ?_));have ha:=OF (p:=p) l 0 (Cg 0);refine Yi ?_ ?_
 .intro h;have h:(0:Int)<=Pg p l 0:=h;rw[<-ha,A4 h];exact .refl _
 .intro h;have h:¬(0:Int)<=Pg p l 0:=h;rw[<-ha,AU h];exact .refl _
theorem xz(hs:DZ caps)(l:List (Tm))(p:Tm->Bool)(hF:∀x∈l,PC fF ([.agg (Ac x)]++caps) (vb (p x)))(hl:BB l) :
  PC 215 [sl Ac l,.clo fF caps] (vb (l.any p)):=by
 refine EW (ab Cu) rfl B8 hm rfl Tryz.func215 aa3 rfl (Nz rfl) aa3 ?_;have hi:=mL hs l p hF aa0;have DV:∀h,PC 276 [sl Ac l,.clo fF (caps.map (str0 h))] (vi (Pg p l 0)):=fun h=>by grind [DZ.map]
 refine Xi .pure (Xi _ (Yi (DV _) ?_));have ha:=OF (p:=p) l 0 (Cg 0);refine Yi ?_ ?_
 .intro h;rw[<-ha,A4 h];exact .refl _
 .intro h;rw[<-ha,AU h];exact .refl _
theorem xF(hl:BB l):PC 274 [sl Ab l] (sl Ab l):=by
 refine EW (ab Cu) rfl B8 hm rfl Tryz.func274 aa3 rfl (Nz rfl) aa3 ?_;have CM:AZ 2 (l.map Ab)/\([]:List (List AV)).length=0/\(([]:List (List AV)).length+(l.map Ab).length)*16<=140737488355328/\([]:List (List AV)).length+(l.map Ab).length<=9223372036854775807:=by
  grind [CE]
 refine Yi ?_ ?_
 .intro _;exact Yi CM (.refl _)
 .intro h;refine Yi ?_ ?_
  .show DC nzA (.slice .none (l.map Ab))
   grind [DC.nil]
  .exact Yi CM (.refl _)
theorem tq(hl:BB l):PC 248 [sl Ab l,sl Ab m] (vb (decide (l=m))):=by
 refine EW (ab Cu) rfl B8 hm rfl Tryz.func248 aa3 rfl (Nz rfl) aa3 (Yi ?_ ?_)
 .intro h
  have:l≠m:=fun e=>h (by rw[e])
  rw[AU this];exact .refl _
 .intro h;have Cy:l.length=m.length:=by grind
  refine Xi {i:Nat // i<=l.length/\l.take i=m.take i} (Xi (fun i=>⟨[(0,sl Ab l),(1,sl Ab m),(12,vi (l.map Ab).length),(13,vi i.1)],[],Af⟩) (Xi (fun i=>l.length-i.1) (Yi (Xi ⟨0,by simp⟩ ?_) ?_)))
  .exact⟨⟨Zr,Zr,Zr,Zr,Tv⟩,Tv,Fh,Tv⟩
  .intro⟨i,h1,h2⟩;refine Yi ?_ ?_
   .intro h;have h:i<l.length:=by simp_all
    have h' : i<m.length:=by omega
    have hg:l[i]?=some l[i]:=Ge h;have nQ : m[i]?=some m[i]:=Ge h';refine Xi (Ab l[i]) (Yi (Yi aa0 (by simp_all)) (Yi rfl (yN ?_)));refine Xi (Ab m[i]) (Yi (Yi aa0 (by simp_all)) (Yi rfl (yN ?_)));refine Yi ?_ ?_
    .intro h5;have e:l[i]=m[i]:=Rb.1 h5;refine Yi aa3 (Yi (by grind [Al]) (Xi ⟨i+1,by omega,?_⟩ ?_))
     .grind [List.take_add_one]
     .exact⟨Dl l.length i aa0,⟨Zr,Zr,Zr,Zr,Tv⟩,Tv,Fh,Tv⟩
    .intro h5;refine Yi aa3 ?_
     have:l≠m:=fun e=>h5 (Rb.2 (by simp_all))
     rw[AU this];exact .refl _
   .intro h;have h:¬i<l.length:=by simp_all
    have e:l=m:=by
     grind
    rw[A4 e];exact .refl _
theorem c20(l m:List (ByteArray))(hl:BB l):PC 26 [sl Ag l,sl Ag m] (vb (decide (l=m))):=by
 refine EW (ab Cu) rfl B8 hm rfl Tryz.func26 aa3 rfl (Nz rfl) aa3 (Yi ?_ ?_)
 .intro h;have h:¬((l.map Ag).length:Int)=(m.map Ag).length:=h
  have:l≠m:=fun e=>h (by rw[e])
  rw[AU this];exact .refl _
 .intro h;have h:¬((l.map Ag).length:Int)≠(m.map Ag).length:=h;have Cy:l.length=m.length:=by grind
  refine Xi {i:Nat // i<=l.length/\l.take i=m.take i} (Xi (fun i=>⟨[(0,sl Ag l),(1,sl Ag m),(12,vi (l.map Ag).length),(13,vi i.1)],[],Af⟩) (Xi (fun i=>l.length-i.1) (Yi (Xi ⟨0,by simp⟩ ?_) ?_)))
  .exact⟨⟨Zr,Zr,Zr,Zr,Tv⟩,Tv,Fh,Tv⟩
  .intro⟨i,h1,h2⟩;refine Yi ?_ ?_
   .intro h;have h:(i:Int)<(l.map Ag).length:=h;have h:i<l.length:=by simp_all
    have h' : i<m.length:=by omega
    have hg:l[i]?=some l[i]:=Ge h;have nQ : m[i]?=some m[i]:=Ge h';refine Xi (Ag l[i]) (Yi (Yi aa0 (by simp_all)) (Yi rfl ?_));refine Xi (Ag m[i]) (Yi (Yi aa0 (by simp_all)) (Yi rfl ?_));refine Yi ?_ ?_
    .intro h5;refine Yi aa3 ?_
     have:l≠m:=fun e=>h5 (by simp_all)
     rw[AU this];exact .refl _
    .intro h5;have e:l[i]=m[i]:=Bs.1 h5;refine Yi aa3 (Yi (by grind [Al]) (Xi ⟨i+1,by omega,?_⟩ ?_))
     .grind [List.take_add_one]
     .exact⟨Dl l.length i aa0,⟨Zr,Zr,Zr,Zr,Tv⟩,Tv,Fh,Tv⟩
   .intro h;have h:¬(i:Int)<(l.map Ag).length:=h;have h:¬i<l.length:=by simp_all
    have e:l=m:=by
     grind
    rw[A4 e];exact .refl _
abbrev lf(l:List Nat):Nm:=⟨l,[],[],[],[],[],[],[],[],[],[]⟩
theorem DZ.ptr(cs:List AV):DZ [.cptr cs]:=fun c hc h=>by
 rw[A9.1 hc];rfl
theorem xx(s:Int×Int)(p:Int):PC 211 [.agg (Ab s),.cptr [vi p]] (vb (BP p s)):=by
 refine Ps Cu Tryz.func211 rfl (Nz rfl) (Yi ?_ ?_)
 .intro h;refine Yi ?_ ?_
  .intro h2;rw[show BP p s=true by grind [BP]];exact .refl _
  .intro h2;rw[show BP p s=false by grind [BP]];exact .refl _
 .intro h;rw[show BP p s=false by simp[BP,h]];exact .refl _
theorem yG(s:List (Int×Int))(p:Int)(hl:BB s):PC 141 [sl Ab s,vi p] (vb (has s p)):=by
 refine Ps (lf [3]) Tryz.func141 rfl (Nz rfl) (Yi ?_ ?_)
 .intro h;refine Yi ?_ ?_
  .intro h2;refine Xi .pure (Xi _ (Yi (xw (DZ.ptr [vi p]) s (BP p) (fun x _=>xx x p) hl) ?_));rw[show has s p=s.any (BP p) by grind [has]];cases s.any (BP p)<;>exact .refl _
  .intro h2;rw[show has s p=false by grind [has]];exact .refl _
 .intro h;rw[show has s p=false by simp[has,h]];exact .refl _
theorem yH:PC 142 [.agg (Ak r)] (vi (plc r.ver)):=by
 refine Ps Cu Tryz.func142 rfl (Nz rfl) ?_;exact Yi (Nz rfl) (Xi .pure (Xi _ (Yi (tK r.ver) (.refl _))))
theorem c99:PC 323 [.agg (Ae x),.cptr (Ac t)] (vb (decide (x.path=t.path))):=by
 refine Ps Cu Tryz.func323 rfl (Nz rfl) (Yi ?_ ?_)
 .intro h;rw[A4 h];exact .refl _
 .intro h;rw[AU h];exact .refl _
theorem LQ{α:Type}{p:α->Bool}:∀(l:List α) (k:Int),(Pg p l k=-1/\l.find? p=none)\/∃i x,Pg p l k=k+(i:Nat)/\l[i]?=some x/\l.find? p=some x
 | [],k=>.inl Zr
 |x::r,k=>by
  cases h:p x with
  |true=>exact .inr ⟨0,x,by simp[Pg,h],rfl,by simp[h]⟩
  |false=>
   rcases LQ (p:=p) r (k+1)with ⟨h1,h2⟩ | ⟨i,y,h1,h2,h3⟩
   .grind [Pg]
   .exact .inr ⟨i+1,y,by grind [Pg],by simp_all,by simp_all⟩
theorem c55(hl:BB s)(ht:BB t.set):PC 275 [.agg (Ac t),sl Ae s] (vb (EP t s)):=by
 have hc:=tQ (DZ.ptr (Ac t)) s (fun x=>decide (x.path=t.path)) (fun x _=>c99 x t) aa0;unfold EP;rcases LQ (p:=fun x:Sl=>decide (x.path=t.path)) s 0 with ⟨h1,h2⟩ | ⟨i,x,h1,h2,h3⟩
 .rw[h1]at hc;rw[h2];refine Ps (lf [2]) Tryz.func275 rfl (Nz rfl) (Xi .pure (Xi _ (Yi hc (Yi ?_ ?_))))
  .intro _;refine Yi ?_ ?_
   .intro h;rw[h];exact .refl _
   .intro h;rw[h];exact .refl _
  .intro h;exact absurd (show(-1:Int)<0 by decide) h
 .rw[h1,Nl]at hc;rw[h3];have hg:(s.map Ae)[((i:Nat):Int).toNat]?=some (Ae x):=by simp_all
  have hp:=tK x.ver;dsimp only;rcases Bt (Bo x.ver)with hv | hv
  .rw[hv,AE rfl,AE rfl]at hp;rw[hv];refine Ps (lf [2]) Tryz.func275 rfl (Nz rfl) (Xi .pure (Xi _ (Yi hc (Yi ?_ ?_))))
   .intro h;omega
   .intro _;refine Xi (Ae x) (Yi (Yi aa0 hg) (Yi rfl (yN (Xi .pure (Xi _ (Yi hp (Yi ?_ ?_)))))))
    .intro _;refine Xi .pure (Xi _ (Yi (yG t.set (place x.ver) ht) ?_));exact .refl _
    .intro h;exact absurd rfl h
  .rw[hv,Aw aa2,Aw aa2]at hp;rw[hv];refine Ps (lf [2]) Tryz.func275 rfl (Nz rfl) (Xi .pure (Xi _ (Yi hc (Yi ?_ ?_))))
   .intro h;omega
   .intro _;refine Xi (Ae x) (Yi (Yi aa0 hg) (Yi rfl (yN (Xi .pure (Xi _ (Yi hp (Yi ?_ ?_)))))))
    .intro h;omega
    .intro _;exact .refl _
theorem VP{l:List α}(h:∀j (hj:j<l.length),j<i->p l[j]=true)(hi:¬i<l.length):l.all p=true:=by
 grind [List.mem_iff_getElem]
theorem p6{l:List α}(hi:i<l.length)(h:p l[i]=false):l.all p=false:=by
 grind
theorem mq{l:List α}(hi:i<l.length)(h:p l[i]=true):l.any p=true:=by
 grind
theorem ie{l:List α}(h:∀j (hj:j<l.length),j<i->p l[j]=false)(hi:¬i<l.length):l.any p=false:=by
 grind [List.mem_iff_getElem]
abbrev TQ(l:List Tm):Prop:=BB l/\∀t∈l,BB t.set
theorem c26(l:List Tm)(s:List Sl)(hl:TQ l)(hs:BB s):PC 214 [sl Ac l,sl Ae s] (vb (l.all fun t=>EP t s)):=by
 have hc:∀i (h:i<l.length),PC 275 [.agg (Ac l[i]),sl Ae s] (vb (EP l[i] s)):=fun i h=>c55 l[i] s hs (hl.2 _ (Ah h));obtain⟨hl,_⟩:=hl;unfold BB at hl;refine Ps Cu Tryz.func214 rfl (Nz rfl) (Xi {i:Nat // i<=l.length/\∀j (hj:j<l.length),j<i->EP l[j] s=true} (Xi (fun i=>⟨[(0,sl Ac l),(1,sl Ae s),(7,vi (l.map Ac).length),(8,vi i.1)],[],Af⟩) (Xi (fun i=>l.length-i.1) (Yi (Xi ⟨0,by simp⟩ ?_) ?_))))
 .exact⟨Z4,Tv,Fh,Tv⟩
 .intro⟨i,h1,h2⟩;refine Yi ?_ ?_
  .intro h;have h:i<l.length:=by simp_all
   have hg:l[i]?=some l[i]:=Ge h;have cu:=hc i h;refine Xi (Ac l[i]) (Yi (Yi aa0 (by simp_all)) (Yi rfl (yN ?_)));cases hp:EP l[i] s with
   |false=>
    rw[hp]at cu;refine Xi .pure (Xi _ (Yi cu ?_));rw[p6 (p:=fun t=>EP t s) h hp];exact .refl _
   |true=>
    rw[hp]at cu;refine Xi .pure (Xi _ (Yi cu (Yi (by grind [Al]) (Xi ⟨i+1,by omega,fun j hj He=>?_⟩ ?_))))
    .grind
    .exact⟨by grind,Z4,Tv,Fh,Tv⟩
  .intro h;have h:¬i<l.length:=by simp_all
   rw[VP (p:=fun t=>EP t s) h2 h];exact .refl _
theorem xB:PC 217 [.agg (Ae x),.cptr (Ac t)] (vb (decide (x.path=t.path))):=by
 refine Ps Cu Tryz.func217 rfl (Nz rfl) (Yi ?_ ?_)
 .intro h;rw[A4 h];exact .refl _
 .intro h;rw[AU h];exact .refl _
theorem xA(hs:BB s):PC 216 [.agg (Ac t),.cptr [sl Ae s]] (vb (!Ch s t.path)):=by
 have hc:=yC (DZ.ptr (Ac t)) s (fun x=>decide (x.path=t.path)) (fun x _=>xB x t) hs;unfold Ch;cases hp:s.any fun x=>decide (x.path=t.path)with
 |true=>
  rw[hp]at hc;refine Ps (lf [2]) Tryz.func216 rfl (Nz rfl) ?_;exact Xi .pure (Xi _ (Yi hc (.refl _)))
 |false=>
  rw[hp]at hc;refine Ps (lf [2]) Tryz.func216 rfl (Nz rfl) ?_;exact Xi .pure (Xi _ (Yi hc (.refl _)))
theorem c91(l:List Tm)(s:List Sl)(hl:TQ l)(hs:BB s):PC 152 [sl Ac l,sl Ae s] (vb (CN l s)):=by
 have hv:=c26 l s hl hs;have hc:=xz (DZ.ptr [sl Ae s]) l (fun t=>!Ch s t.path) (fun t _=>xA t s hs) hl.1;unfold CN HL;cases h1:l.all fun t=>EP t s with
 |false=>
  rw[h1]at hv;refine Ps (lf [3]) Tryz.func152 rfl (Nz rfl) ?_;exact Xi .pure (Xi _ (Yi hv (.refl _)))
 |true=>
  rw[h1]at hv;cases h2:l.any fun t=>!Ch s t.path with
  |true=>
   rw[h2]at hc;refine Ps (lf [3]) Tryz.func152 rfl (Nz rfl) ?_;exact Xi .pure (Xi _ (Yi hv (Xi .pure (Xi _ (Yi hc (.refl _))))))
  |false=>
   rw[h2]at hc;refine Ps (lf [3]) Tryz.func152 rfl (Nz rfl) ?_;exact Xi .pure (Xi _ (Yi hv (Xi .pure (Xi _ (Yi hc (.refl _))))))
def oa(p:Int)(s:Int×Int):Bool:=decide (max 0 s.1<=p)&&decide (p<min 1000000 s.2)
theorem oc(s:List (Int×Int))(p:Int):s.any (oa p)=has s p:=by
 grind [has,oa,BP]
theorem dN(s:List (Int×Int))(p:Int)(hl:BB s):PC 267 [sl Ab s,vi p] (vb (has s p)):=by
 rw[<-oc];unfold BB at hl;refine Ps Cu Tryz.func267 rfl (Nz rfl) (Xi {i:Nat // i<=s.length/\∀j (hj:j<s.length),j<i->oa p s[j]=false} (Xi (fun i=>⟨[(0,sl Ab s),(1,vi p),(5,vi i.1)],[],Af⟩) (Xi (fun i=>s.length-i.1) (Yi (Xi ⟨0,by simp⟩ ?_) ?_))))
 .exact⟨Z3,Tv,Fh,Tv⟩
 .intro⟨i,h1,h2⟩;refine Yi ?_ ?_
  .intro h;have h:i<s.length:=by simp_all
   have hg:s[i]?=some s[i]:=Ge h;refine Xi (Ab s[i]) (Yi (Yi aa0 (by simp_all)) (Yi rfl ?_));refine Yi ?_ ?_
   .intro h3;refine Xi (Ab s[i]) (Yi (Yi aa0 (by simp_all)) (Yi rfl ?_));refine Yi ?_ ?_
    .intro h4;have h5:oa p s[i]=true:=by grind [oa]
     show DC (vb true) (vb (s.any (oa p)))
     grind [DC.refl]
    .intro h4;refine Yi (by grind [Al]) (Xi ⟨i+1,by omega,fun j hj He=>?_⟩ ?_)
     .grind [oa]
     .exact⟨Dl s.length i aa0,Z3,Tv,Fh,Tv⟩
   .intro h3;refine Yi (by grind [Al]) (Xi ⟨i+1,by omega,fun j hj He=>?_⟩ ?_)
    .grind [oa]
    .exact⟨Dl s.length i aa0,Z3,Tv,Fh,Tv⟩
  .intro h;have h:¬i<s.length:=by simp_all
   show DC (vb false) (vb (s.any (oa p)))
   grind [ie,DC.refl]
theorem xD(p:ByteArray)(hl:BB s):PC 270 [sl Ae s,vs p] (vb (Ch s p)):=by
 unfold BB at hl;unfold Ch;refine Ps Cu Tryz.func270 rfl (Nz rfl) (Xi {i:Nat // i<=s.length/\∀j (hj:j<s.length),j<i->decide (s[j].path=p)=false} (Xi (fun i=>⟨[(0,sl Ae s),(1,vs p),(5,vi i.1)],[],Af⟩) (Xi (fun i=>s.length-i.1) (Yi (Xi ⟨0,by simp⟩ ?_) ?_))))
 .exact⟨Z3,Tv,Fh,Tv⟩
 .intro⟨i,h1,h2⟩;refine Yi ?_ ?_
  .intro h;have h:(i:Int)<(s.map Ae).length:=h;have h:i<s.length:=by simp_all
   have hg:s[i]?=some s[i]:=Ge h;refine Xi (Ae s[i]) (Yi (Yi aa0 (by simp_all)) (Yi rfl ?_));refine Yi ?_ ?_
   .intro h3;have h3:s[i].path=p:=h3;rw[mq (p:=fun x:Sl=>decide (x.path=p)) h (A4 h3)];exact .refl _
   .intro h3;have h3:¬s[i].path=p:=h3;refine Yi (by grind [Al]) (Xi ⟨i+1,by omega,fun j hj He=>?_⟩ ?_)
    .grind
    .exact⟨by grind,Z3,Tv,Fh,Tv⟩
  .intro h;have h:¬(i:Int)<(s.map Ae).length:=h;have h:¬i<s.length:=by simp_all
   rw[ie (p:=fun x:Sl=>decide (x.path=p)) h2 h];exact .refl _
theorem qp(n:Int):PC 334 [vi n] (vb (decide (okPart n))):=by
 refine Ps Cu Tryz.func334 rfl (Nz rfl) (Yi ?_ ?_)
 .intro h;refine Yi ?_ ?_
  .intro h2;show DC (vb true) (vb (decide (okPart n)));rw[A4 ⟨h,h2⟩];exact .refl _
  .intro h2;show DC (vb false) (vb (decide (okPart n)));rw[AU fun q=>h2 q.2];exact .refl _
 .intro h;show DC (vb false) (vb (decide (okPart n)));rw[AU fun q=>h q.1];exact .refl _
theorem qm:PC 298 [.agg (Dt v)] (vb (Bo v)):=by
 have ha:=qp v.a;have hb:=qp v.b;have hc:=qp v.c;unfold Bo;cases h1:decide (okPart v.a)with
 |false=>
  rw[h1]at ha;refine Ps Cu Tryz.func298 rfl (Nz rfl) ?_;exact Xi .pure (Xi _ (Yi ha (.refl _)))
 |true=>
  rw[h1]at ha;cases h2:decide (okPart v.b)with
  |false=>
   rw[h2]at hb;refine Ps Cu Tryz.func298 rfl (Nz rfl) ?_;exact Xi .pure (Xi _ (Yi ha (Xi .pure (Xi _ (Yi hb (.refl _))))))
  |true=>
   rw[h2]at hb;refine Ps Cu Tryz.func298 rfl (Nz rfl) ?_;exact Xi .pure (Xi _ (Yi ha (Xi .pure (Xi _ (Yi hb (Xi .pure (Xi _ (Yi hc (.refl _)))))))))
theorem x9:PC 343 [.agg (Dt v)] (.tup [vi (if Bo v then place v else 0),vi (if Bo v then 0 else 2)]):=by
 have hc:=qm v;cases h:Bo v with
 |false=>
  rw[h]at hc;refine Ps Cu Tryz.func343 rfl (Nz rfl) ?_;exact Yi (Nz rfl) (Xi .pure (Xi _ (Yi hc (.refl _))))
 |true=>
  rw[h]at hc;have hv:=Fg h;refine Ps Cu Tryz.func343 rfl (Nz rfl) (Yi (Nz rfl) (Xi .pure (Xi _ (Yi hc (Yi (by grind [Al]) ?_)))));exact Yi (by grind [Al]) (.refl _)
theorem We{α:Type}{p:α->Bool}:∀{l:List α} {i:Nat} (hi:i<l.length),(∀j (hj:j<l.length),j<i->p l[j]=false)->p l[i]=true->l.find? p=some l[i]
 |x::r,0,_,_,h=>by
  simp_all
 |x::r,i+1,hi,hb,h=>by
  have h0:p x=false:=hb 0 aa1 aa0;rw[Ui,h0];exact We (l:=r) (i:=i) (by grind) (fun j hj He=>hb (j+1) aa0 aa0) h
theorem UI{l:List α}(h:∀j (hj:j<l.length),j<i->p l[j]=false)(hi:¬i<l.length):l.find? p=none:=by
 grind [List.mem_iff_getElem]
theorem jY{t:Tm}{s:List Sl}(hi:i<s.length)(h2:∀j (hj:j<s.length),j<i->decide (s[j].path=t.path)=false)(h:s[i].path=t.path):EP t s=(Bo s[i].ver&&has t.set (place s[i].ver)):=by
 grind [EP,We]
theorem aJ{t:Tm}{s:List Sl}(h2:∀j (hj:j<s.length),j<i->decide (s[j].path=t.path)=false)(hi:¬i<s.length):EP t s=t.absent:=by
 grind [EP,UI]
theorem xR(hl:BB s)(ht:BB t.set):PC 322 [.agg (Ac t),sl Ae s] (vb (EP t s)):=by
 unfold BB at hl;refine Ps (lf [2]) Tryz.func322 rfl (Nz rfl) (Xi {i:Nat // i<=s.length/\∀j (hj:j<s.length),j<i->decide (s[j].path=t.path)=false} (Xi (fun i=>⟨[(1,sl Ae s),(2,.ref 2 0),(5,vi i.1)],[(2,.ro (Ac t))],Af⟩) (Xi (fun i=>s.length-i.1) (Yi (Xi ⟨0,by simp⟩ ?_) ?_))))
 .exact⟨Z3,Z1,Fh,Tv⟩
 .intro⟨i,h1,h2⟩;refine Yi ?_ ?_
  .intro h;have h:(i:Int)<(s.map Ae).length:=h;have h:i<s.length:=by simp_all
   have hg:s[i]?=some s[i]:=Ge h;refine Xi (Ae s[i]) (Yi (Yi aa0 (by simp_all)) (Yi rfl ?_));refine Yi ?_ ?_
   .intro h3;have h3:s[i].path=t.path:=h3;refine Yi aa3 (Xi (Ae s[i]) (Yi (Yi aa0 (by simp_all)) (Yi rfl (yN ?_))));have hp:=x9 s[i].ver;have hq:=jY h h2 h3;refine AG (Bt (Bo s[i].ver)) (fun hv=>?_) (fun hv=>?_)
    .rw[hv,AE rfl,AE rfl]at hp;rw[hv,Bool.true_and]at hq;refine Xi .pure (Xi _ (Yi hp (Yi ?_ ?_)))
     .intro _;refine Xi .pure (Xi _ (Yi (dN t.set (place s[i].ver) ht) ?_));show DC (vb (has t.set (place s[i].ver))) (vb (EP t s))
      grind [DC.refl]
     .intro h;exact absurd rfl h
    .rw[hv,Aw aa2,Aw aa2]at hp;rw[hv,Bool.false_and]at hq;refine Xi .pure (Xi _ (Yi hp (Yi ?_ ?_)))
     .intro h;have h:(2:Int)=0:=h;omega
     .intro _;show DC (vb false) (vb (EP t s))
      grind [DC.refl]
   .intro h3;have h3:¬s[i].path=t.path:=h3;refine Yi aa3 (Yi (by grind [Al]) (Xi ⟨i+1,by omega,fun j hj He=>?_⟩ ?_))
    .grind
    .exact⟨by grind,Z3,Z1,Fh,Tv⟩
  .intro h;have h:¬(i:Int)<(s.map Ae).length:=h;have h:¬i<s.length:=by simp_all
   have hq:=aJ h2 h;refine Yi ?_ ?_
   .intro h5;have h5:t.absent=true:=h5;show DC (vb true) (vb (EP t s))
    grind [DC.refl]
   .intro h5;have h5:t.absent=false:=h5;show DC (vb false) (vb (EP t s))
    grind [DC.refl]
theorem xE(l:List Tm)(s:List Sl)(hl:TQ l)(hs:BB s):PC 271 [sl Ac l,sl Ae s] (vb (HL l s)):=by
 have hc:∀i (h:i<l.length),PC 322 [.agg (Ac l[i]),sl Ae s] (vb (EP l[i] s)):=fun i h=>xR l[i] s hs (hl.2 _ (Ah h));obtain⟨hl,_⟩:=hl;unfold BB at hl;refine Ps Cu Tryz.func271 rfl (Nz rfl) (Xi {i:Nat // i<=l.length/\∀j (hj:j<l.length),j<i->EP l[j] s=true} (Xi (fun i=>⟨[(0,sl Ac l),(1,sl Ae s),(5,vi i.1)],[],Af⟩) (Xi (fun i=>l.length-i.1) (Yi (Xi ⟨0,by simp⟩ ?_) ?_))))
 .exact⟨Z3,Tv,Fh,Tv⟩
 .intro⟨i,h1,h2⟩;refine Yi ?_ ?_
  .intro h;have h:(i:Int)<(l.map Ac).length:=h;have h:i<l.length:=by simp_all
   have hg:l[i]?=some l[i]:=Ge h;have cu:=hc i h;refine Xi (Ac l[i]) (Yi (Yi aa0 (by simp_all)) (Yi rfl (yN ?_)));refine AG (Bt (EP l[i] s)) (fun hp=>?_) (fun hp=>?_)
   .rw[hp]at cu;refine Xi .pure (Xi _ (Yi cu (Yi (by grind [Al]) (Xi ⟨i+1,by omega,fun j hj He=>?_⟩ ?_))))
    .grind
    .exact⟨by grind,Z3,Tv,Fh,Tv⟩
   .rw[hp]at cu;refine Xi .pure (Xi _ (Yi cu ?_));show DC (vb false) (vb (HL l s))
    grind [HL,DC.refl]
  .intro h;have h:¬(i:Int)<(l.map Ac).length:=h;have h:¬i<l.length:=by simp_all
   show DC (vb true) (vb (HL l s))
   grind [HL,VP,DC.refl]
def IX(l:List Tm)(s:List Sl):Bool:=l.all (fun t=>Ch s t.path)&&HL l s
theorem Wb(l:List Tm)(s:List Sl):IX l s=CN l s:=by
 grind [IX,CN]
theorem c96(l:List Tm)(s:List Sl)(hl:TQ l)(hs:BB s):PC 206 [sl Ac l,sl Ae s] (vb (CN l s)):=by
 have hc:∀i (h:i<l.length),PC 270 [sl Ae s,vs l[i].path] (vb (Ch s l[i].path)):=fun i h=>xD s l[i].path hs;have hv:=xE l s hl hs;obtain⟨hl,_⟩:=hl;unfold BB at hl;rw[<-Wb];refine Ps Cu Tryz.func206 rfl (Nz rfl) (Xi {i:Nat // i<=l.length/\∀j (hj:j<l.length),j<i->Ch s l[j].path=true} (Xi (fun i=>⟨[(0,sl Ac l),(1,sl Ae s),(5,vi i.1)],[],Af⟩) (Xi (fun i=>l.length-i.1) (Yi (Xi ⟨0,by simp⟩ ?_) ?_))))
 .exact⟨Z3,Tv,Fh,Tv⟩
 .intro⟨i,h1,h2⟩;refine Yi ?_ ?_
  .intro h;have h:(i:Int)<(l.map Ac).length:=h;have h:i<l.length:=by simp_all
   have hg:l[i]?=some l[i]:=Ge h;have cu:=hc i h;refine Xi (Ac l[i]) (Yi (Yi aa0 (by simp_all)) (Yi rfl ?_));refine AG (Bt (Ch s l[i].path)) (fun hp=>?_) (fun hp=>?_)
   .rw[hp]at cu;refine Xi .pure (Xi _ (Yi cu (Yi (by grind [Al]) (Xi ⟨i+1,by omega,fun j hj He=>?_⟩ ?_))))
    .grind
    .exact⟨by grind,Z3,Tv,Fh,Tv⟩
   .rw[hp]at cu;refine Xi .pure (Xi _ (Yi cu ?_));show DC (vb false) (vb (IX l s))
    grind [IX,DC.refl]
  .intro h;have h:¬(i:Int)<(l.map Ac).length:=h;have h:¬i<l.length:=by simp_all
   refine Xi .pure (Xi _ (Yi hv ?_));show DC (vb (HL l s)) (vb (IX l s))
   grind [IX,VP,DC.refl]
abbrev Iz(a:An):List AV:=[vb a.found,sl Ae a.sel,sl Aj a.infs,sl A1 a.skips]
theorem qe:PC 179 [.agg (Ak r)] (.agg (Ae ⟨r.path,r.ver⟩)):=by
 refine Ps Cu Tryz.func179 rfl (Nz rfl) ?_;exact Yi (Nz rfl) (Yi (Nz rfl) (Yi (Nz rfl) (.refl _)))
theorem sr(p:ByteArray)(hl:BB s):PC 209 [sl Ae s,vs p] (.tup [.agg (Ae ((A3 s p).getD Lk)),vb (A3 s p).isSome]):=by
 unfold BB at hl;refine Ps Cu Tryz.func209 rfl (Nz rfl) (Xi {i:Nat // i<=s.length/\∀j (hj:j<s.length),j<i->decide (s[j].path=p)=false} (Xi (fun i=>⟨[(0,sl Ae s),(1,vs p),(4,.ref 4 0),(6,vi i.1)],[(4,.cells (Ae Lk))],Af⟩) (Xi (fun i=>s.length-i.1) (Yi (Xi ⟨0,by simp⟩ ?_) ?_))))
 .exact⟨Z4,Z1,Fh,Tv⟩
 .intro⟨i,h1,h2⟩;refine Yi ?_ ?_
  .intro h;have h:i<s.length:=by simp_all
   have hg:s[i]?=some s[i]:=Ge h;refine Xi (Ae s[i]) (Yi (Yi aa0 (by simp_all)) (Yi rfl ?_));refine Yi ?_ ?_
   .intro h3;have hf:A3 s p=some s[i]:=We (p:=fun x:Sl=>decide (x.path=p)) h h2 (A4 h3);refine Xi (Ae s[i]) (Yi (Yi aa0 (by simp_all)) (Yi rfl (Yi (Nz rfl) (Yi (Nz rfl) (yN ?_)))));show DC (.tup [.agg (Ae s[i]),vb true]) _
    grind [DC.refl]
   .intro h3;refine Yi (by grind [Al]) (Xi ⟨i+1,by omega,fun j hj He=>?_⟩ ?_)
    .grind
    .exact⟨by grind,Z4,Z1,Fh,Tv⟩
  .intro h;have h:¬i<s.length:=by simp_all
   have hf:A3 s p=none:=UI (p:=fun x:Sl=>decide (x.path=p)) h2 h;refine Yi (Nz rfl) (yN ?_);show DC (.tup [.agg (Ae Lk),vb false]) _
   grind [DC.refl]
theorem c75(hl:BB l):PC 63 [sl Ab l,sl Ab m] (vb (decide (l=m))):=by
 refine Ps Cu Tryz.func63 rfl (Nz rfl) (Yi ?_ ?_)
 .intro h
  have:l≠m:=fun e=>h (by rw[e])
  rw[AU this];exact .refl _
 .intro h;have Cy:l.length=m.length:=by grind
  refine Xi {i:Nat // i<=l.length/\l.take i=m.take i} (Xi (fun i=>⟨[(0,sl Ab l),(1,sl Ab m),(5,vi i.1)],[],Af⟩) (Xi (fun i=>l.length-i.1) (Yi (Xi ⟨0,by simp⟩ ?_) ?_)))
  .exact⟨Z3,Tv,Fh,Tv⟩
  .intro⟨i,h1,h2⟩;refine Yi ?_ ?_
   .intro h;have h:i<l.length:=by simp_all
    have h' : i<m.length:=by omega
    have hg:l[i]?=some l[i]:=Ge h;have nQ : m[i]?=some m[i]:=Ge h';refine Xi (Ab l[i]) (Yi (Yi aa0 (by simp_all)) (Yi rfl (yN ?_)));refine Xi (Ab m[i]) (Yi (Yi aa0 (by simp_all)) (Yi rfl (yN ?_)));refine Yi ?_ ?_
    .intro h5;have e:l[i]=m[i]:=Rb.1 h5;refine Yi aa3 (Yi (by grind [Al]) (Xi ⟨i+1,by omega,?_⟩ ?_))
     .grind [List.take_add_one]
     .exact⟨Dl l.length i aa0,Z3,Tv,Fh,Tv⟩
    .intro h5;refine Yi aa3 ?_
     have:l≠m:=fun e=>h5 (Rb.2 (by simp_all))
     rw[AU this];exact .refl _
   .intro h;have h:¬i<l.length:=by simp_all
    have e:l=m:=by
     grind
    rw[A4 e];exact .refl _
end Go.Eng
