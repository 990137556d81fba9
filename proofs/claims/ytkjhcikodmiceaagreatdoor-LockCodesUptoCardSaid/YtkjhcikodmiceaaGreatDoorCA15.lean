/- Lemmas 15. -/
import Derived.Test.YtkjhcikodmiceaaGreatDoorCA13
import Derived.Test.YtkjhcikodmiceaaGreatDoorCA02
import Derived.Lib.IndexMore
import Derived.Shelf.SlSortCmp.WholeK
import Derived.Shelf.Sort.Plain
import Derived.Shelf.Small.Strs
import Derived.Shelf.Small.Bits
import Derived.Ground.SlsfProg
import Derived.Ground.NamesProg
import Derived.Shelf.SlSortCmp.NoneTotal
set_option maxHeartbeats 1000000
namespace Go.Eng
open Go.Proofs
abbrev Ap9:=List AV
abbrev Aq0:=List (Int×Int)
variable {α:Type}{b0 b1 b2 b3:Bool}{a0:α}{b4:Bool}{a1:α}{b5:Bool}{a2 a3:α}{b6:Bool}{a4:α}{b7:Bool}{a5 a6:α}{b8:Bool}{a7:α}{b9:Bool}{a8:α}{pR:Bool}{a9:α}{l:List α}{bY:α}(i:Nat)(pl:Of)(b:Bool)
abbrev G(n:Int):AV:=.v (.int .i64 n)
abbrev Q:AV:=.v (.bool b)
abbrev vs(s:CS):AV:=.v (.string s)
abbrev sl(enc:α -> Ap9)(l:List α):AV:=.slice .none (l.map enc)
abbrev Ir(v:Ver):Ap9:=[G v.a,G v.b,G v.c]
abbrev Y(s:Int×Int):Ap9:=[G s.1,G s.2]
abbrev Ak(q:Rq):Ap9:=[vs q.path,sl Y q.set]
abbrev Ay(r:F):Ap9:=[vs r.path,G r.ver.a,G r.ver.b,G r.ver.c,sl Ak r.reqs,vs r.arch,vs r.ifc,vs r.cert,Q r.yanked]
abbrev Ar(s:Sl):Ap9:=[vs s.path,G s.ver.a,G s.ver.b,G s.ver.c]
abbrev E(t:V):Ap9:=[vs t.path,Q t.absent,sl Y t.set]
abbrev A8(i:Nf):Ap9:=[G i.kind,vs i.path,G i.place,G i.number,G i.left,G i.right]
abbrev AT(s:Sk):Ap9:=[vs s.path,G s.place,G s.inf]
noncomputable abbrev jW:Cx:=⟨Tryz.prog,yB,pl,false,0,fun _ _ _ _ => True⟩
noncomputable abbrev Ky:Cx:=⟨Tryz.prog,yB,pl,true,0,fun _ _ _ _ => True⟩
abbrev CF:Of:=⟨[],[],[],[],[],[],[],[],[],[],[]⟩
abbrev PC(f:Nat)(args:Ap9)(res:AV):Prop:=Mj Tryz.prog f args res
theorem hm:Tryz.prog.follows .mixedOrders=true:=by rfl
theorem Z{α:Sort _}{β:Sort _}{a:α}{b:β}:a=a /\ b=b:=⟨rfl,rfl⟩
theorem Nz{a b:Nat}(h:Nat.ble a b=true):a <= b:=By h
theorem C4{a b:Nat}(h:Nat.ble a b=true:=by rfl):a<=b:=Nz h
theorem M{α:Sort _}{p:α -> Prop}(w:α)(h:p w):Exists p:=Exists.intro w h
theorem J{a b:Prop}(h:a)(k:b):a /\ b:=And.intro h k
theorem C1{p:AdT->Prop}(h:p .pure):Exists p:=⟨_,h⟩
theorem H{A:Type}{c d:A->Prop}{w:A}(h:c w)(k:d w):∃w,c w∧d w:=⟨w,h,k⟩
theorem Fh{st:St}{h:Nat -> HO}:∀j,Ab j=.free \/ (st.h j=Ab j /\ Uj h (Ab j)=true):=fun _ => .inl rfl
theorem X:True:=trivial
theorem Ii(h:i <= 9223372036854775806):As ((i:Int) + 1):=by unfold As;omega
theorem Dl(n i:Nat)(h:i<n):n-(i + 1)<n-i:=I
theorem Bt:b=true \/ b=false:=Bool.eq_false_or_eq_true b
theorem Z1:(a0=a0 /\ b0=b0) /\ True:=⟨⟨rfl,rfl⟩,trivial⟩
theorem Z2:(a0=a0 /\ b0=b0) /\ (a1=a1 /\ b1=b1) /\ True:=⟨⟨rfl,rfl⟩,⟨rfl,rfl⟩,trivial⟩
theorem Z3:(a0=a0 /\ b0=b0) /\ (a1=a1 /\ b1=b1) /\ (a2=a2 /\ b2=b2) /\ True:=⟨⟨rfl,rfl⟩,⟨rfl,rfl⟩,⟨rfl,rfl⟩,trivial⟩
theorem Z4:(a0=a0 /\ b0=b0) /\ (a1=a1 /\ b1=b1) /\ (a2=a2 /\ b2=b2) /\ (a3=a3 /\ b3=b3) /\ True:=⟨⟨rfl,rfl⟩,⟨rfl,rfl⟩,⟨rfl,rfl⟩,⟨rfl,rfl⟩,trivial⟩
theorem Z5:(a0=a0 /\ b0=b0) /\ (a1=a1 /\ b1=b1) /\ (a2=a2 /\ b2=b2) /\ (a3=a3 /\ b3=b3) /\ (a4=a4 /\ b4=b4) /\ True:=⟨⟨rfl,rfl⟩,⟨rfl,rfl⟩,⟨rfl,rfl⟩,⟨rfl,rfl⟩,⟨rfl,rfl⟩,trivial⟩
theorem Z6:(a0=a0 /\ b0=b0) /\ (a1=a1 /\ b1=b1) /\ (a2=a2 /\ b2=b2) /\ (a3=a3 /\ b3=b3) /\ (a4=a4 /\ b4=b4) /\ (a5=a5 /\ b5=b5) /\ True:=⟨⟨rfl,rfl⟩,⟨rfl,rfl⟩,⟨rfl,rfl⟩,⟨rfl,rfl⟩,⟨rfl,rfl⟩,⟨rfl,rfl⟩,trivial⟩
theorem Z7:(a0=a0 /\ b0=b0) /\ (a1=a1 /\ b1=b1) /\ (a2=a2 /\ b2=b2) /\ (a3=a3 /\ b3=b3) /\ (a4=a4 /\ b4=b4) /\ (a5=a5 /\ b5=b5) /\ (a6=a6 /\ b6=b6) /\ True:=⟨⟨rfl,rfl⟩,⟨rfl,rfl⟩,⟨rfl,rfl⟩,⟨rfl,rfl⟩,⟨rfl,rfl⟩,⟨rfl,rfl⟩,⟨rfl,rfl⟩,trivial⟩
theorem Z8:(a0=a0 /\ b0=b0) /\ (a1=a1 /\ b1=b1) /\ (a2=a2 /\ b2=b2) /\ (a3=a3 /\ b3=b3) /\ (a4=a4 /\ b4=b4) /\ (a5=a5 /\ b5=b5) /\ (a6=a6 /\ b6=b6) /\ (a7=a7 /\ b7=b7) /\ True:=⟨⟨rfl,rfl⟩,⟨rfl,rfl⟩,⟨rfl,rfl⟩,⟨rfl,rfl⟩,⟨rfl,rfl⟩,⟨rfl,rfl⟩,⟨rfl,rfl⟩,⟨rfl,rfl⟩,trivial⟩
theorem Z9:(a0=a0 /\ b0=b0) /\ (a1=a1 /\ b1=b1) /\ (a2=a2 /\ b2=b2) /\ (a3=a3 /\ b3=b3) /\ (a4=a4 /\ b4=b4) /\ (a5=a5 /\ b5=b5) /\ (a6=a6 /\ b6=b6) /\ (a7=a7 /\ b7=b7) /\ (a8=a8 /\ b8=b8) /\ True:=⟨⟨rfl,rfl⟩,⟨rfl,rfl⟩,⟨rfl,rfl⟩,⟨rfl,rfl⟩,⟨rfl,rfl⟩,⟨rfl,rfl⟩,⟨rfl,rfl⟩,⟨rfl,rfl⟩,⟨rfl,rfl⟩,trivial⟩
theorem Z10:(a0=a0 /\ b0=b0) /\ (a1=a1 /\ b1=b1) /\ (a2=a2 /\ b2=b2) /\ (a3=a3 /\ b3=b3) /\ (a4=a4 /\ b4=b4) /\ (a5=a5 /\ b5=b5) /\ (a6=a6 /\ b6=b6) /\ (a7=a7 /\ b7=b7) /\ (a8=a8 /\ b8=b8) /\ (a9=a9 /\ b9=b9) /\ True:=⟨⟨rfl,rfl⟩,⟨rfl,rfl⟩,⟨rfl,rfl⟩,⟨rfl,rfl⟩,⟨rfl,rfl⟩,⟨rfl,rfl⟩,⟨rfl,rfl⟩,⟨rfl,rfl⟩,⟨rfl,rfl⟩,⟨rfl,rfl⟩,trivial⟩
theorem Z11:(a0=a0 /\ b0=b0) /\ (a1=a1 /\ b1=b1) /\ (a2=a2 /\ b2=b2) /\ (a3=a3 /\ b3=b3) /\ (a4=a4 /\ b4=b4) /\ (a5=a5 /\ b5=b5) /\ (a6=a6 /\ b6=b6) /\ (a7=a7 /\ b7=b7) /\ (a8=a8 /\ b8=b8) /\ (a9=a9 /\ b9=b9) /\ (bY=bY /\ pR=pR) /\ True:=⟨⟨rfl,rfl⟩,⟨rfl,rfl⟩,⟨rfl,rfl⟩,⟨rfl,rfl⟩,⟨rfl,rfl⟩,⟨rfl,rfl⟩,⟨rfl,rfl⟩,⟨rfl,rfl⟩,⟨rfl,rfl⟩,⟨rfl,rfl⟩,⟨rfl,rfl⟩,trivial⟩
theorem Z12{jK:α}{b11:Bool}:(a0=a0 /\ b0=b0) /\ (a1=a1 /\ b1=b1) /\ (a2=a2 /\ b2=b2) /\ (a3=a3 /\ b3=b3) /\ (a4=a4 /\ b4=b4) /\ (a5=a5 /\ b5=b5) /\ (a6=a6 /\ b6=b6) /\ (a7=a7 /\ b7=b7) /\ (a8=a8 /\ b8=b8) /\ (a9=a9 /\ b9=b9) /\ (bY=bY /\ pR=pR) /\ (jK=jK /\ b11=b11) /\ True:=⟨⟨rfl,rfl⟩,⟨rfl,rfl⟩,⟨rfl,rfl⟩,⟨rfl,rfl⟩,⟨rfl,rfl⟩,⟨rfl,rfl⟩,⟨rfl,rfl⟩,⟨rfl,rfl⟩,⟨rfl,rfl⟩,⟨rfl,rfl⟩,⟨rfl,rfl⟩,⟨rfl,rfl⟩,trivial⟩
theorem Z13{jK a12:α}{b11 b12:Bool}:(a0=a0 /\ b0=b0) /\ (a1=a1 /\ b1=b1) /\ (a2=a2 /\ b2=b2) /\ (a3=a3 /\ b3=b3) /\ (a4=a4 /\ b4=b4) /\ (a5=a5 /\ b5=b5) /\ (a6=a6 /\ b6=b6) /\ (a7=a7 /\ b7=b7) /\ (a8=a8 /\ b8=b8) /\ (a9=a9 /\ b9=b9) /\ (bY=bY /\ pR=pR) /\ (jK=jK /\ b11=b11) /\ (a12=a12 /\ b12=b12) /\ True:=⟨⟨rfl,rfl⟩,⟨rfl,rfl⟩,⟨rfl,rfl⟩,⟨rfl,rfl⟩,⟨rfl,rfl⟩,⟨rfl,rfl⟩,⟨rfl,rfl⟩,⟨rfl,rfl⟩,⟨rfl,rfl⟩,⟨rfl,rfl⟩,⟨rfl,rfl⟩,⟨rfl,rfl⟩,⟨rfl,rfl⟩,trivial⟩
theorem Nn:(0:Int) <= (i:Int):=J6 i
abbrev Ic(x:List F)(ifs:C0):Ap9:=[sl Ay x,.slice .none ifs]
theorem Ps{f:Nat}{fn:Func}{c:Code}{args:Ap9}{res:AV}(hf:Tryz.prog.funcs[f]?=some fn)(hb:fn.body=some c)(hN:args.length <= fn.ntmps)(hk:Tn (jW pl) c (wj (jW pl) fn.results.toList fun r => Da r res) ⟨Qm args,Ab⟩)(hn : (fn.name == "runtime.NumGoroutine")=false:=by kernel_rfl)(hc : D4 fn.ntmps c=true:=by kernel_rfl) : Mj Tryz.prog f args res:=Fb (jW pl) rfl BO hm rfl hf hn hb hN hc hk
theorem Lm{β:Type}(f:α -> β):(l.map f).length=l.length:=Bs f
theorem Ge{i:Nat}(h:i<l.length):l[i]?=some l[i]:=AC h
end Go.Eng
namespace Go.Proofs
open Go.Shelf Go.RowKit Go.Lib Go.Sort Go.Eng
theorem Dk(W:World)(o:Obj):(W.alloc o).heap[W.heap.size]?=some o:=by
 show(W.heap.push o)[W.heap.size]?=_
 simp
structure MR(B:Nat)(A:Nat)(w w' : World):Prop where
 os:w'.os=w.os
 tape:w'.tape=w.tape
 output:w'.output=w.output
 size:w.heap.size <= w'.heap.size
 block:∀k,k<B -> k ≠ A -> w'.heap[k]?=w.heap[k]?
theorem MR.alloc{A:Nat}{w w' : World}{o:Obj}(h:MR (w.alloc o).heap.size A (w.alloc o) w'):MR w.heap.size A w w':=
 have e:(w.alloc o).heap.size=w.heap.size + 1:=aa1
 ⟨h.os,h.tape,h.output,by have:=h.size;omega,fun k hk hn => (h.block k I hn).trans (Below.heap_alloc _ _ _ hk)⟩
abbrev vz(s:ByteArray):Obj:=.cells #[.string s] 121 (0,0)
theorem Am0 (a : Addr) (w : World) : (nilAhead 601 119 (.pointer (some a)) "modcert/lock.count").run Tryz.prog w=.ok (some false) w:=by kernel_rfl
theorem AlZ (a : Addr) (w : World) : (method 601 119 (.pointer (some a)) "modcert/lock.count").run Tryz.prog w=.ok (434, .pointer (some a)) w:=by kernel_rfl
theorem Am1(a:Addr)(w:World):(Instr.typeAssert (.iface 119 (.pointer (some a))) 197 124 true).run Tryz.prog w=.ok (.tuple #[.pointer none,.bool false]) w:=by kernel_rfl
theorem MR.cell{A B k:Nat}{w w' : World}(h:MR w.heap.size A w w')(hB:B ≠ A){v:Value}(hv:w.cell? ⟨B,k,none⟩=some v):w'.cell? ⟨B,k,none⟩=some v:=by
 have CL:B<w.heap.size:=by
  rcases BR B w.heap.size with q | q
  .exact q
  .simp[World.cell?,Array.getElem?_eq_none q]at hv
 rw[<-hv]
 simp only[World.cell?,h.block B CL hB]
theorem MR.trans{A:Nat}{a b c:World}(h:MR a.heap.size A a b)(k:MR b.heap.size A b c):MR a.heap.size A a c:=
 ⟨k.os.trans h.os,k.tape.trans h.tape,k.output.trans h.output,Az h.size k.size,fun i hi hn => (k.block i (AF hi h.size) hn).trans (h.block i hi hn)⟩
end Go.Proofs
namespace Go.Proofs
open Go.Proofs.Tryz
open Go.Shelf
open Go.Eng(A0a)
def Tryz.layPdqSpan_ren:Go.Shelf.Ren:=⟨fun | 14=>339 | 20=>367 | 21=>368 | 22=>369 | 23=>370 | 24=>371 | 25=>372 | 26=>373 | 27=>374 | 46=>386 | 47=>283 | 48=>284 | 49=>387 | 50=>388 | 15=>146 | 57=>401 | 28=>219 | 29=>220 | n=>n,fun | 24=>64 | 22=>65 | 3=>3 | 25=>378 | 4=>4 | 0=>0 | 46=>309 | 45=>308 | 50=>150 | 66=>372 | 39=>240 | 55=>229 | 70=>208 | 76=>408 | 77=>409 | 53=>299 | 5=>5 | 9=>9 | n=>n,fun | n=>n⟩
theorem Tryz.layPdqSpan:Go.Proofs.SlLaysF0.n14 prog Tryz.layPdqSpan_ren:={
 mixed:=by kernel_rfl
 f14:=⟨Tryz.f339.name,by decide,A0a func339⟩
 f15:=A0a func146
 f20:=⟨Tryz.f367.name,by decide,A0a func367⟩
 f21:=⟨Tryz.f368.name,by decide,A0a func368⟩
 f22:=⟨Tryz.f369.name,by decide,A0a func369⟩
 f23:=⟨Tryz.f370.name,by decide,A0a func370⟩
 f24:=⟨Tryz.f371.name,by decide,A0a func371⟩
 f25:=⟨Tryz.f372.name,by decide,A0a func372⟩
 f26:=⟨Tryz.f373.name,by decide,A0a func373⟩
 f27:=⟨Tryz.f374.name,by decide,A0a func374⟩
 f28:=A0a func219
 f29:=A0a func220
 f46:=⟨Tryz.f386.name,by decide,A0a func386⟩
 f47:=A0a func283
 f48:=A0a func284
 f49:=⟨Tryz.f387.name,by decide,A0a func387⟩
 f50:=⟨Tryz.f388.name,by decide,A0a func388⟩
 f57:=⟨Tryz.f401.name,by decide,A0a func401⟩
 t0:=underlying0
 a0:=isAgg0
 z0:=sizeOf0
 v0:=zeroValue0
 t3:=underlying3
 a3:=isAgg3
 z3:=sizeOf3
 v3:=zeroValue3
 t4:=underlying4
 a4:=isAgg4
 z4:=sizeOf4
 v4:=zeroValue4
 t5:=underlying5
 a5:=isAgg5
 z5:=sizeOf5
 v5:=zeroValue5
 t9:=underlying9
 a9:=isAgg9
 z9:=sizeOf9
 v9:=zeroValue9
 t22:=underlying65
 a22:=isAgg65
 z22:=sizeOf65
 v22:=zeroValue65
 t25:=underlying378
 a25:=isAgg378
 z25:=sizeOf378
 v25:=zeroValue378
 t39:=underlying240
 a39:=isAgg240
 z39:=sizeOf240
 v39:=zeroValue240
 t45:=underlying308
 a45:=isAgg308
 z45:=sizeOf308
 v45:=zeroValue308
 t46:=underlying309
 a46:=isAgg309
 z46:=sizeOf309
 v46:=zeroValue309
 t50:=underlying150
 a50:=isAgg150
 z50:=sizeOf150
 v50:=zeroValue150
 t53:=underlying299
 a53:=isAgg299
 z53:=sizeOf299
 v53:=zeroValue299
 t55:=underlying229
 a55:=isAgg229
 z55:=sizeOf229
 v55:=zeroValue229
 t66:=underlying372
 a66:=isAgg372
 z66:=sizeOf372
 v66:=zeroValue372
 t70:=underlying208
 a70:=isAgg208
 z70:=sizeOf208
 v70:=zeroValue208
 t76:=underlying408
 a76:=isAgg408
 z76:=sizeOf408
 v76:=zeroValue408
 t77:=underlying409
 a77:=isAgg409
 z77:=sizeOf409
 v77:=zeroValue409 }
def Tryz.layPdqTerm_ren:Go.Shelf.Ren:=⟨fun | 14=>377 | 20=>391 | 21=>392 | 22=>393 | 23=>394 | 24=>395 | 25=>396 | 26=>397 | 27=>398 | 46=>411 | 47=>283 | 48=>284 | 49=>412 | 50=>413 | 15=>146 | 57=>417 | 28=>219 | 29=>220 | n=>n,fun | 24=>325 | 22=>257 | 3=>3 | 25=>418 | 4=>4 | 0=>0 | 46=>309 | 45=>308 | 50=>150 | 66=>372 | 39=>240 | 55=>229 | 70=>208 | 76=>408 | 77=>409 | 53=>299 | 5=>5 | 9=>9 | n=>n,fun | n=>n⟩
theorem Tryz.layPdqTerm:Go.Proofs.SlLaysF0.n14 prog Tryz.layPdqTerm_ren:={
 mixed:=by kernel_rfl
 f14:=⟨Tryz.f377.name,by decide,A0a func377⟩
 f15:=A0a func146
 f20:=⟨Tryz.f391.name,by decide,A0a func391⟩
 f21:=⟨Tryz.f392.name,by decide,A0a func392⟩
 f22:=⟨Tryz.f393.name,by decide,A0a func393⟩
 f23:=⟨Tryz.f394.name,by decide,A0a func394⟩
 f24:=⟨Tryz.f395.name,by decide,A0a func395⟩
 f25:=⟨Tryz.f396.name,by decide,A0a func396⟩
 f26:=⟨Tryz.f397.name,by decide,A0a func397⟩
 f27:=⟨Tryz.f398.name,by decide,A0a func398⟩
 f28:=A0a func219
 f29:=A0a func220
 f46:=⟨Tryz.f411.name,by decide,A0a func411⟩
 f47:=A0a func283
 f48:=A0a func284
 f49:=⟨Tryz.f412.name,by decide,A0a func412⟩
 f50:=⟨Tryz.f413.name,by decide,A0a func413⟩
 f57:=⟨Tryz.f417.name,by decide,A0a func417⟩
 t0:=underlying0
 a0:=isAgg0
 z0:=sizeOf0
 v0:=zeroValue0
 t3:=underlying3
 a3:=isAgg3
 z3:=sizeOf3
 v3:=zeroValue3
 t4:=underlying4
 a4:=isAgg4
 z4:=sizeOf4
 v4:=zeroValue4
 t5:=underlying5
 a5:=isAgg5
 z5:=sizeOf5
 v5:=zeroValue5
 t9:=underlying9
 a9:=isAgg9
 z9:=sizeOf9
 v9:=zeroValue9
 t22:=underlying257
 a22:=isAgg257
 z22:=sizeOf257
 v22:=zeroValue257
 t25:=underlying418
 a25:=isAgg418
 z25:=sizeOf418
 v25:=zeroValue418
 t39:=underlying240
 a39:=isAgg240
 z39:=sizeOf240
 v39:=zeroValue240
 t45:=underlying308
 a45:=isAgg308
 z45:=sizeOf308
 v45:=zeroValue308
 t46:=underlying309
 a46:=isAgg309
 z46:=sizeOf309
 v46:=zeroValue309
 t50:=underlying150
 a50:=isAgg150
 z50:=sizeOf150
 v50:=zeroValue150
 t53:=underlying299
 a53:=isAgg299
 z53:=sizeOf299
 v53:=zeroValue299
 t55:=underlying229
 a55:=isAgg229
 z55:=sizeOf229
 v55:=zeroValue229
 t66:=underlying372
 a66:=isAgg372
 z66:=sizeOf372
 v66:=zeroValue372
 t70:=underlying208
 a70:=isAgg208
 z70:=sizeOf208
 v70:=zeroValue208
 t76:=underlying408
 a76:=isAgg408
 z76:=sizeOf408
 v76:=zeroValue408
 t77:=underlying409
 a77:=isAgg409
 z77:=sizeOf409
 v77:=zeroValue409 }
def Tryz.layPdqSel_ren:Go.Shelf.Ren:=⟨fun | 14=>157 | 20=>231 | 21=>232 | 22=>233 | 23=>234 | 24=>235 | 25=>236 | 26=>237 | 27=>238 | 46=>299 | 47=>283 | 48=>284 | 49=>300 | 50=>301 | 15=>146 | 57=>353 | 28=>219 | 29=>220 | n=>n,fun | 24=>45 | 22=>37 | 3=>3 | 25=>166 | 4=>4 | 0=>0 | 46=>309 | 45=>308 | 50=>150 | 66=>372 | 39=>240 | 55=>229 | 70=>208 | 76=>408 | 77=>409 | 53=>299 | 5=>5 | 9=>9 | n=>n,fun | n=>n⟩
theorem Tryz.layPdqSel:Go.Proofs.SlLaysF0.n14 prog Tryz.layPdqSel_ren:={
 mixed:=by kernel_rfl
 f14:=⟨Tryz.f157.name,by decide,A0a func157⟩
 f15:=A0a func146
 f20:=⟨Tryz.f231.name,by decide,A0a func231⟩
 f21:=⟨Tryz.f232.name,by decide,A0a func232⟩
 f22:=⟨Tryz.f233.name,by decide,A0a func233⟩
 f23:=⟨Tryz.f234.name,by decide,A0a func234⟩
 f24:=⟨Tryz.f235.name,by decide,A0a func235⟩
 f25:=⟨Tryz.f236.name,by decide,A0a func236⟩
 f26:=⟨Tryz.f237.name,by decide,A0a func237⟩
 f27:=⟨Tryz.f238.name,by decide,A0a func238⟩
 f28:=A0a func219
 f29:=A0a func220
 f46:=⟨Tryz.f299.name,by decide,A0a func299⟩
 f47:=A0a func283
 f48:=A0a func284
 f49:=⟨Tryz.f300.name,by decide,A0a func300⟩
 f50:=⟨Tryz.f301.name,by decide,A0a func301⟩
 f57:=⟨Tryz.f353.name,by decide,A0a func353⟩
 t0:=underlying0
 a0:=isAgg0
 z0:=sizeOf0
 v0:=zeroValue0
 t3:=underlying3
 a3:=isAgg3
 z3:=sizeOf3
 v3:=zeroValue3
 t4:=underlying4
 a4:=isAgg4
 z4:=sizeOf4
 v4:=zeroValue4
 t5:=underlying5
 a5:=isAgg5
 z5:=sizeOf5
 v5:=zeroValue5
 t9:=underlying9
 a9:=isAgg9
 z9:=sizeOf9
 v9:=zeroValue9
 t22:=underlying37
 a22:=isAgg37
 z22:=sizeOf37
 v22:=zeroValue37
 t25:=underlying166
 a25:=isAgg166
 z25:=sizeOf166
 v25:=zeroValue166
 t39:=underlying240
 a39:=isAgg240
 z39:=sizeOf240
 v39:=zeroValue240
 t45:=underlying308
 a45:=isAgg308
 z45:=sizeOf308
 v45:=zeroValue308
 t46:=underlying309
 a46:=isAgg309
 z46:=sizeOf309
 v46:=zeroValue309
 t50:=underlying150
 a50:=isAgg150
 z50:=sizeOf150
 v50:=zeroValue150
 t53:=underlying299
 a53:=isAgg299
 z53:=sizeOf299
 v53:=zeroValue299
 t55:=underlying229
 a55:=isAgg229
 z55:=sizeOf229
 v55:=zeroValue229
 t66:=underlying372
 a66:=isAgg372
 z66:=sizeOf372
 v66:=zeroValue372
 t70:=underlying208
 a70:=isAgg208
 z70:=sizeOf208
 v70:=zeroValue208
 t76:=underlying408
 a76:=isAgg408
 z76:=sizeOf408
 v76:=zeroValue408
 t77:=underlying409
 a77:=isAgg409
 z77:=sizeOf409
 v77:=zeroValue409 }
def Tryz.layCompare_ren:Go.Shelf.Ren:=⟨fun | 106=>85 | 213=>158 | 265=>239 | n=>n,fun | 9=>9 | 3=>3 | n=>n,fun | n=>n⟩
theorem Tryz.layCompare:Go.Proofs.Lays.n106 prog Tryz.layCompare_ren:={
 mixed:=by kernel_rfl
 f106:=A0a func85
 f213:=A0a func158
 f265:=A0a func239
 t3:=underlying3
 a3:=isAgg3
 z3:=sizeOf3
 v3:=zeroValue3
 t9:=underlying9
 a9:=isAgg9
 z9:=sizeOf9
 v9:=zeroValue9 }
def Tryz.layBits_ren:Go.Shelf.Ren:=⟨fun | 125=>146 | 128=>219 | 129=>220 | n=>n,fun | 46=>240 | 3=>3 | 51=>299 | 53=>229 | 4=>4 | 5=>5 | 9=>9 | n=>n,fun | n=>n⟩
theorem Tryz.layBits:Go.Proofs.Lays.n125 prog Tryz.layBits_ren:={
 mixed:=by kernel_rfl
 f125:=A0a func146
 f128:=A0a func219
 f129:=A0a func220
 t3:=underlying3
 a3:=isAgg3
 z3:=sizeOf3
 v3:=zeroValue3
 t4:=underlying4
 a4:=isAgg4
 z4:=sizeOf4
 v4:=zeroValue4
 t5:=underlying5
 a5:=isAgg5
 z5:=sizeOf5
 v5:=zeroValue5
 t9:=underlying9
 a9:=isAgg9
 z9:=sizeOf9
 v9:=zeroValue9
 t46:=underlying240
 a46:=isAgg240
 z46:=sizeOf240
 v46:=zeroValue240
 t51:=underlying299
 a51:=isAgg299
 z51:=sizeOf299
 v51:=zeroValue299
 t53:=underlying229
 a53:=isAgg229
 z53:=sizeOf229
 v53:=zeroValue229 }
def Tryz.laySortInts_ren:Go.Shelf.Ren:=⟨fun | 189=>375 | 125=>146 | 257=>389 | 128=>219 | 129=>220 | 294=>402 | 295=>403 | 296=>404 | 297=>405 | 298=>406 | 299=>407 | 216=>408 | 300=>409 | 301=>410 | 328=>414 | 329=>283 | 330=>284 | 331=>415 | 332=>416 | 215=>313 | 343=>418 | n=>n,fun | 28=>132 | 3=>3 | 46=>240 | 0=>0 | 51=>299 | 53=>229 | 4=>4 | 183=>309 | 182=>308 | 131=>150 | 5=>5 | 9=>9 | 218=>372 | 222=>208 | 228=>408 | 229=>409 | n=>n,fun | n=>n⟩
theorem Tryz.laySortInts:Go.Proofs.Lays.n189 prog Tryz.laySortInts_ren:={
 mixed:=by kernel_rfl
 f125:=A0a func146
 f128:=A0a func219
 f129:=A0a func220
 f189:=A0a func375
 f215:=A0a func313
 f216:=A0a func408
 f257:=A0a func389
 f294:=A0a func402
 f295:=A0a func403
 f296:=A0a func404
 f297:=A0a func405
 f298:=A0a func406
 f299:=A0a func407
 f300:=A0a func409
 f301:=A0a func410
 f328:=A0a func414
 f329:=A0a func283
 f330:=A0a func284
 f331:=A0a func415
 f332:=A0a func416
 f343:=A0a func418
 t0:=underlying0
 a0:=isAgg0
 z0:=sizeOf0
 v0:=zeroValue0
 t3:=underlying3
 a3:=isAgg3
 z3:=sizeOf3
 v3:=zeroValue3
 t4:=underlying4
 a4:=isAgg4
 z4:=sizeOf4
 v4:=zeroValue4
 t5:=underlying5
 a5:=isAgg5
 z5:=sizeOf5
 v5:=zeroValue5
 t9:=underlying9
 a9:=isAgg9
 z9:=sizeOf9
 v9:=zeroValue9
 t28:=underlying132
 a28:=isAgg132
 z28:=sizeOf132
 v28:=zeroValue132
 t46:=underlying240
 a46:=isAgg240
 z46:=sizeOf240
 v46:=zeroValue240
 t51:=underlying299
 a51:=isAgg299
 z51:=sizeOf299
 v51:=zeroValue299
 t53:=underlying229
 a53:=isAgg229
 z53:=sizeOf229
 v53:=zeroValue229
 t131:=underlying150
 a131:=isAgg150
 z131:=sizeOf150
 v131:=zeroValue150
 t182:=underlying308
 a182:=isAgg308
 z182:=sizeOf308
 v182:=zeroValue308
 t183:=underlying309
 a183:=isAgg309
 z183:=sizeOf309
 v183:=zeroValue309
 t218:=underlying372
 a218:=isAgg372
 z218:=sizeOf372
 v218:=zeroValue372
 t222:=underlying208
 a222:=isAgg208
 z222:=sizeOf208
 v222:=zeroValue208
 t228:=underlying408
 a228:=isAgg408
 z228:=sizeOf408
 v228:=zeroValue408
 t229:=underlying409
 a229:=isAgg409
 z229:=sizeOf409
 v229:=zeroValue409 }
end Go.Proofs
namespace Go.Proofs
open Go.Shelf Go.RowKit Go.Lib Go.Sort
def SpA:Type:={x:Int×Int // 0<=x.1/\x.1<=1000000}
instance:Inhabited SpA:=⟨⟨(0,0),by decide⟩⟩
def ZW(x:SpA):List Value:=[.int .i64 x.1.1,.int .i64 x.1.2]
def Tq(x y:SpA):Int:=x.1.1-y.1.1
theorem Tryz.closure288(x y:SpA)(W:World):Calls Tryz.prog 288 #[.agg #[.int .i64 x.1.1,.int .i64 x.1.2],.agg #[.int .i64 y.1.1,.int .i64 y.1.2]] W fun e w'=>e=.returned (.int .i64 (Tq x y))/\∃q os',w'=grow (W.drewN q) os':=by
 obtain⟨⟨a,b⟩,h1,h2⟩:=x;obtain⟨⟨c,d⟩,h3,h4⟩:=y;dsimp only at h1 h2 h3 h4;have hw:IntKind.i64.wrap (a-c)=a-c:=by simp[IntKind.wrap,IntKind.bits,IntKind.signed];omega
 show Calls Tryz.prog 288 #[.agg #[.int .i64 a,.int .i64 b],.agg #[.int .i64 c,.int .i64 d]] W fun e w'=>e=.returned (.int .i64 (a-c))/\∃q os',w'=grow (W.drewN q) os'
 go_enter Tryz.func288,Tryz.ntmps288
 go_wp2
 go_ret
 exact⟨rfl,0,_,by rw[alloc_eq_grow,alloc_eq_grow,grow_grow];rfl⟩
def TmA:Type:=ByteArray×{v:Value // v.oneCell'=true}×{v:Value // v.oneCell'=true}
instance:Inhabited TmA:=⟨⟨ByteArray.empty,⟨.bool false,rfl⟩,⟨.bool false,rfl⟩⟩⟩
def ZX(x:TmA):List Value:=[.string x.1,x.2.1.1,x.2.2.1]
def Tr(x y:TmA):Int:=Lib.compareBytes x.1.data.toList y.1.data.toList
theorem Tryz.closure351(x y:TmA)(W:World):Calls Tryz.prog 351 #[.agg #[.string x.1,x.2.1.1,x.2.2.1],.agg #[.string y.1,y.2.1.1,y.2.2.1]] W fun e w'=>e=.returned (.int .i64 (Tr x y))/\∃q os',w'=grow (W.drewN q) os':=by
 have hcon:=fun W'=>Any.strings_Compare Tryz.layCompare x.1 y.1 W';obtain⟨a,⟨b,hb⟩,⟨c,hc⟩⟩:=x;obtain⟨a',⟨b',ky⟩,⟨c',hc'⟩⟩:=y;dsimp only at hcon
 change ∀W',Calls Tryz.prog 85 _ _ _ at hcon
 unfold Tr;dsimp only;generalize Lib.compareBytes a.data.toList a'.data.toList=r at hcon⊢
 go_enter Tryz.func351,Tryz.ntmps351
 go_wp2_with (go_at_call 85;refine(hcon _).mono ?_;rintro e w' ⟨rfl,rfl⟩)
 go_ret
 exact⟨rfl,0,_,by rw[alloc_eq_grow,alloc_eq_grow,grow_grow];rfl⟩
end Go.Proofs
namespace Go.Eng
open Go.Proofs Go.Proofs.Tryz
variable {caps:Ap9}{fF:Nat}{α:Type}{i:Nat}(l:Aq0)(x:Sl)(v:Ver)(t:V)(r:F)(m:Aq0)(s:List Sl)
theorem AaH:PC 178 [.agg (Ir v)] (.agg [G v.a,G v.b,G v.c]):=by
 refine Ps CF func178 rfl C4 ?_;exact J C4 (J C4 (.refl _))
def part:Nat->Int
 |0=>v.a
 |1=>v.b
 |_=>v.c
theorem Zy{v:Ver}(h:¬okPart (part v i)):Cf v=false:=by
 unfold Cf
 match i,h with
 |0,h=>have h:¬okPart v.a:=h;simp[h]
 |1,h=>have h:¬okPart v.b:=h;simp[h]
 |_+2,h=>have h:¬okPart v.c:=h;simp[h]
theorem vT:PC 101 [.agg (Ir v)] (Q (Cf v)):=by
 refine Ps CF func101 rfl C4 (J C4 (C1 (H (AaH v) (M {i:Nat // i<=3/\∀j,j<i->okPart (part v j)} (M (fun i=>⟨[(6,.agg [G v.a,G v.b,G v.c]),(7,G i.1)],[],Ab⟩) (M (fun i=>3-i.1) (J (M ⟨0,by simp⟩ ?_) ?_)))))))
 .exact⟨Z2,X,Fh,X⟩
 .intro⟨i,h1,h2⟩;refine J ?_ ?_
  .intro h;have h:(i:Int)<3:=h;refine J ⟨by omega,by omega⟩ ?_;have hp:Mo (([G v.a,G v.b,G v.c]).drop ((i:Int).toNat*1))=fun K=>K (G (part v i)):=by
    match i,h with
    |0,_=>rfl
    |1,_=>rfl
    |2,_=>rfl
    |_+3,h=>omega
   show Mo (([G v.a,G v.b,G v.c]).drop ((i:Int).toNat*1)) _;rw[hp];refine J ?_ ?_
   .intro h3;rw[Zy (i:=i) (by grind [okPart])];exact .refl _
   .intro h3;refine J ?_ ?_
    .intro h4;rw[Zy (i:=i) (by grind [okPart])];exact .refl _
    .intro h4;refine J (by grind [As]) (M ⟨i+1,by omega,fun j hj=>?_⟩ ?_)
     .by_cases e:j=i
      .subst e;exact⟨by omega,by omega⟩
      grind
     .exact⟨by grind,Z2,X,Fh,X⟩
  .intro h;have h:¬(i:Int)<3:=h;have e:i=3:=I
   have q:Cf v=true:=by
    unfold Cf;have a:=h2 0 I;have b:=h2 1 I
    grind [part]
   rw[q];exact .refl _
theorem c56:PC 113 [.agg (Ir v)] (.tup [G (if Cf v then place v else 0),G (if Cf v then 0 else 2)]):=by
 refine Ps CF func113 rfl C4 (J C4 (C1 (H (vT v) ?_)));cases h:Cf v with
 |false=>exact .refl _
 |true=>
  have hv:=Hz h;refine J (by grind [As]) ?_;exact J (by grind [As]) (.refl _)
def CX(caps:Ap9):Prop:=∀c∈caps,∀h,str0 h c=c
theorem CX.map{caps:Ap9}(hs:CX caps)(h:Nat->HO):caps.map (str0 h)=caps:=by
 conv=>rhs;rw[<-Kc caps]
 exact Ca fun c hc=>hs c hc h
theorem CX.ids(hs:CX caps)(h:Nat->HO):dD h caps=true:=by
 induction caps with
 |nil=>rfl
 |cons c r ih=>
  have hc:=hs c (Ad ..) Ab;have h0:ids0 h c=true:=by
   cases c with
   |slice tk es=>cases tk with |none=>rfl |full sz=>grind [str0] |id r sz=>grind [str0] |ver r sz v=>grind [str0]
   |_=>first |rfl |grind [str0]
  unfold dD;rw[h0];exact ih fun c hc=>hs c (Aj _ hc)
def KI{α:Type}(p:α->Bool):List α->Int->Int
 | [],_=>-1
 |x::r,i=>if p x then i else KI p r (i+1)
theorem LX{α:Type}{p:α->Bool}:∀{l:List α} {i:Nat} {k:Int} (hi:i<l.length),(∀j (hj:j<l.length),j<i->p l[j]=false)->p l[i]=true->KI p l k=k+i
 |x::r,0,k,_,_,h=>by
  grind [KI]
 |x::r,i+1,k,hi,hb,h=>by
  have h0:p x=false:=hb 0 aa1 I
  have:=LX (l:=r) (i:=i) (k:=k+1) aa2 (fun j hj IY=>hb (j+1) I I) aa0
  grind [KI]
theorem H5{α:Type}{p:α->Bool}:∀{l:List α} {k:Int},(∀j (hj:j<l.length),p l[j]=false)->KI p l k=-1
 | [],_,_=>rfl
 |x::r,k,h=>by
  have h0:p x=false:=h 0 aa1;simp only[KI,h0,Bool.false_eq_true,if_false];exact H5 fun j hj=>h (j+1) aa0
theorem Km{α:Type}{p:α->Bool}:∀(l:List α) (k:Int),0<=k->decide (0<=KI p l k)=l.any p
 | [],k,_=>by simp[KI]
 |x::r,k,hk=>by
  unfold KI;cases h:p x with
  |true=>simp_all
  |false=>simp[h,Km r (k+1) I]
-- one for each type of elements
theorem AiM(hs:CX caps)(l:Aq0)(p:Int×Int->Bool)(hF:∀x∈l,PC fF ([.agg (Y x)]++caps) (Q (p x)))(hl:l.length<2^63-1) :
  PC 189 [sl Y l,.clo fF caps] (G (KI p l 0)):=by
 refine Ps CF func189 rfl C4 (M {i:Nat // i<=l.length/\∀j (hj:j<l.length),j<i->p l[j]=false} (M (fun i=>⟨[(0,sl Y l),(1,.clo fF caps),(7,G (l.map Y).length),(8,G i.1)],[],Ab⟩) (M (fun i=>l.length-i.1) (J (M ⟨0,by simp⟩ ?_) ?_))))
 .exact⟨⟨Z,⟨rfl,hs.ids _⟩,Z,Z,X⟩,X,Fh,X⟩
 .intro⟨i,h1,h2⟩;refine J ?_ ?_
  .intro h;have h:i<l.length:=aa0
   have hg:l[i]?=some l[i]:=Ge h;refine M (Y l[i]) (J (J I aa0) (J rfl (U ?_)));have Cj:∀h,PC fF ([.agg (Y l[i])]++caps.map (str0 h)) (Q (p l[i])):=fun h=>by rw[hs.map];grind
   cases hp:p l[i]with
   |true=>
    rw[hp]at Cj;refine M .pure (M (Q true) (J (Cj _) ?_));rw[LX h (fun j hj IY=>h2 j hj IY) hp,Gq];exact .refl _
   |false=>
    rw[hp]at Cj;refine M .pure (M (Q false) (J (Cj _) (J (by grind [As]) (M ⟨i+1,by omega,fun j hj IY=>?_⟩ ?_))))
    .grind
    .exact⟨by grind,⟨Z,⟨rfl,hs.ids _⟩,Z,Z,X⟩,X,Fh,X⟩
  .intro h;have h:¬i<l.length:=aa0
   rw[H5 fun j hj=>h2 j hj I];exact .refl _
abbrev CC(l:List α):Prop:=l.length<=2^30
theorem DK{α:Type}{enc:α->Ap9}{n:Nat}(h:∀x,(enc x).length=n):∀l:List α,Cq n (l.map enc)
 | []=>trivial
 |x::l=>⟨h x,DK h l⟩
theorem Uu{x y:Int×Int}:zu (Y x) (Y y)↔x=y:=by
 constructor
 .intro h;exact UV h.1 h.2.1
 .rintro rfl;exact⟨rfl,rfl,trivial⟩
abbrev BD(l:List V):Ap9:=[sl E l]
abbrev Ci(s:CS):Ap9:=[vs s]
theorem c78(hs:CX caps)(l:List (Sl))(p:Sl->Bool)(hF:∀x∈l,PC fF ([.agg (Ar x)]++caps) (Q (p x)))(hl:l.length<2^63-1) :
  PC 185 [sl Ar l,.clo fF caps] (G (KI p l 0)):=by
 refine Fb (jW CF) rfl BO hm rfl func185 aa5 rfl C4 aa5 (M {i:Nat // i<=l.length/\∀j (hj:j<l.length),j<i->p l[j]=false} (M (fun i=>⟨[(0,sl Ar l),(1,.clo fF caps),(7,G (l.map Ar).length),(8,G i.1)],[],Ab⟩) (M (fun i=>l.length-i.1) (J (M ⟨0,by simp⟩ ?_) ?_))))
 .exact⟨⟨Z,⟨rfl,hs.ids _⟩,Z,Z,X⟩,X,Fh,X⟩
 .intro⟨i,h1,h2⟩;refine J ?_ ?_
  .intro h;have h:i<l.length:=aa0
   have hg:l[i]?=some l[i]:=Ge h;refine M (Ar l[i]) (J (J I aa0) (J rfl (U ?_)));have Cj:∀h,PC fF ([.agg (Ar l[i])]++caps.map (str0 h)) (Q (p l[i])):=fun h=>by rw[hs.map];simp_all
   cases hp:p l[i]with
   |true=>
    rw[hp]at Cj;refine M .pure (M (Q true) (J (Cj _) ?_));rw[LX h (fun j hj IY=>h2 j hj IY) hp,Gq];exact .refl _
   |false=>
    rw[hp]at Cj;refine M .pure (M (Q false) (J (Cj _) (J (by grind [As]) (M ⟨i+1,by omega,fun j hj IY=>?_⟩ ?_))))
    .grind
    .exact⟨by grind,⟨Z,⟨rfl,hs.ids _⟩,Z,Z,X⟩,X,Fh,X⟩
  .intro h;have h:¬i<l.length:=aa0
   rw[H5 fun j hj=>h2 j hj I];exact .refl _
theorem Aiv(hs:CX caps)(l:List (Rq))(p:Rq->Bool)(hF:∀x∈l,PC fF ([.agg (Ak x)]++caps) (Q (p x)))(hl:l.length<2^63-1) :
  PC 114 [sl Ak l,.clo fF caps] (G (KI p l 0)):=by
 refine Fb (jW CF) rfl BO hm rfl func114 aa5 rfl C4 aa5 (M {i:Nat // i<=l.length/\∀j (hj:j<l.length),j<i->p l[j]=false} (M (fun i=>⟨[(0,sl Ak l),(1,.clo fF caps),(7,G (l.map Ak).length),(8,G i.1)],[],Ab⟩) (M (fun i=>l.length-i.1) (J (M ⟨0,by simp⟩ ?_) ?_))))
 .exact⟨⟨Z,⟨rfl,hs.ids _⟩,Z,Z,X⟩,X,Fh,X⟩
 .intro⟨i,h1,h2⟩;refine J ?_ ?_
  .intro h;have h:(i:Int)<(l.map Ak).length:=h;have h:i<l.length:=aa0
   have hg:l[i]?=some l[i]:=Ge h;refine M (Ak l[i]) (J (J I aa0) (J rfl (U ?_)));have Cj:∀h,PC fF ([.agg (Ak l[i])]++caps.map (str0 h)) (Q (p l[i])):=fun h=>by rw[hs.map];simp_all
   cases hp:p l[i]with
   |true=>
    rw[hp]at Cj;refine M .pure (M (Q true) (J (Cj _) ?_));rw[LX h (fun j hj IY=>h2 j hj IY) hp,Gq];exact .refl _
   |false=>
    rw[hp]at Cj;refine M .pure (M (Q false) (J (Cj _) (J (by grind [As]) (M ⟨i+1,by omega,fun j hj IY=>?_⟩ ?_))))
    .grind
    .exact⟨by grind,⟨Z,⟨rfl,hs.ids _⟩,Z,Z,X⟩,X,Fh,X⟩
  .intro h;have h:¬(i:Int)<(l.map Ak).length:=h;have h:¬i<l.length:=aa0
   rw[H5 fun j hj=>h2 j hj I];exact .refl _
theorem vU(hs:CX caps)(l:List (V))(p:V->Bool)(hF:∀x∈l,PC fF ([.agg (E x)]++caps) (Q (p x)))(hl:l.length<2^63-1) :
  PC 294 [sl E l,.clo fF caps] (G (KI p l 0)):=by
 refine Fb (jW CF) rfl BO hm rfl func294 aa5 rfl C4 aa5 (M {i:Nat // i<=l.length/\∀j (hj:j<l.length),j<i->p l[j]=false} (M (fun i=>⟨[(0,sl E l),(1,.clo fF caps),(7,G (l.map E).length),(8,G i.1)],[],Ab⟩) (M (fun i=>l.length-i.1) (J (M ⟨0,by simp⟩ ?_) ?_))))
 .exact⟨⟨Z,⟨rfl,hs.ids _⟩,Z,Z,X⟩,X,Fh,X⟩
 .intro⟨i,h1,h2⟩;refine J ?_ ?_
  .intro h;have h:i<l.length:=aa0
   have hg:l[i]?=some l[i]:=Ge h;refine M (E l[i]) (J (J I aa0) (J rfl (U ?_)));have Cj:∀h,PC fF ([.agg (E l[i])]++caps.map (str0 h)) (Q (p l[i])):=fun h=>by rw[hs.map];simp_all
   cases hp:p l[i]with
   |true=>
    rw[hp]at Cj;refine M .pure (M (Q true) (J (Cj _) ?_));rw[LX h (fun j hj IY=>h2 j hj IY) hp,Gq];exact .refl _
   |false=>
    rw[hp]at Cj;refine M .pure (M (Q false) (J (Cj _) (J (by grind [As]) (M ⟨i+1,by omega,fun j hj IY=>?_⟩ ?_))))
    .grind
    .exact⟨by grind,⟨Z,⟨rfl,hs.ids _⟩,Z,Z,X⟩,X,Fh,X⟩
  .intro h;have h:¬i<l.length:=aa0
   rw[H5 fun j hj=>h2 j hj I];exact .refl _
theorem Ait(hs:CX caps)(l:Aq0)(p:Int×Int->Bool)(hF:∀x∈l,PC fF ([.agg (Y x)]++caps) (Q (p x)))(hl:CC l) :
  PC 111 [sl Y l,.clo fF caps] (Q (l.any p)):=by
 refine Fb (jW CF) rfl BO hm rfl func111 aa5 rfl C4 aa5 ?_;have hi:=AiM hs l p hF I;have Cj:∀h,PC 189 [sl Y l,.clo fF (caps.map (str0 h))] (G (KI p l 0)):=fun h=>by grind [CX.map]
 refine C1 (H (Cj _) ?_);have ha:=Km (p:=p) l 0 (B6 0);refine J ?_ ?_
 .intro h;rw[<-ha,Aq h];exact .refl _
 .intro h;rw[<-ha,Al h];exact .refl _
theorem c51(hs:CX caps)(l:List (Sl))(p:Sl->Bool)(hF:∀x∈l,PC fF ([.agg (Ar x)]++caps) (Q (p x)))(hl:CC l) :
  PC 183 [sl Ar l,.clo fF caps] (Q (l.any p)):=by
 refine Fb (jW CF) rfl BO hm rfl func183 aa5 rfl C4 aa5 ?_;have hi:=c78 hs l p hF I;have Cj:∀h,PC 185 [sl Ar l,.clo fF (caps.map (str0 h))] (G (KI p l 0)):=fun h=>by grind [CX.map]
 refine C1 (H (Cj _) ?_);have ha:=Km (p:=p) l 0 (B6 0);refine J ?_ ?_
 .intro h;rw[<-ha,Aq h];exact .refl _
 .intro h;rw[<-ha,Al h];exact .refl _
theorem c89(hs:CX caps)(l:List (Rq))(p:Rq->Bool)(hF:∀x∈l,PC fF ([.agg (Ak x)]++caps) (Q (p x)))(hl:CC l) :
  PC 56 [sl Ak l,.clo fF caps] (Q (l.any p)):=by
 refine Fb (jW CF) rfl BO hm rfl func56 aa5 rfl C4 aa5 ?_;have hi:=Aiv hs l p hF I;have Cj:∀h,PC 114 [sl Ak l,.clo fF (caps.map (str0 h))] (G (KI p l 0)):=fun h=>by grind [CX.map]
 refine C1 (H (Cj _) ?_);have ha:=Km (p:=p) l 0 (B6 0);refine J ?_ ?_
 .intro h;have h:(0:Int)<=KI p l 0:=h;rw[<-ha,Aq h];exact .refl _
 .intro h;have h:¬(0:Int)<=KI p l 0:=h;rw[<-ha,Al h];exact .refl _
theorem AaG(hs:CX caps)(l:List (V))(p:V->Bool)(hF:∀x∈l,PC fF ([.agg (E x)]++caps) (Q (p x)))(hl:CC l) :
  PC 227 [sl E l,.clo fF caps] (Q (l.any p)):=by
 refine Fb (jW CF) rfl BO hm rfl func227 aa5 rfl C4 aa5 ?_;have hi:=vU hs l p hF I;have Cj:∀h,PC 294 [sl E l,.clo fF (caps.map (str0 h))] (G (KI p l 0)):=fun h=>by grind [CX.map]
 refine C1 (H (Cj _) ?_);have ha:=Km (p:=p) l 0 (B6 0);refine J ?_ ?_
 .intro h;rw[<-ha,Aq h];exact .refl _
 .intro h;rw[<-ha,Al h];exact .refl _
theorem Ae8(hl:CC l):PC 39 [sl Y l] (sl Y l):=by
 refine Fb (jW CF) rfl BO hm rfl func39 aa5 rfl C4 aa5 ?_;have El:Cq 2 (l.map Y)/\([]:C0).length=0/\(([]:C0).length+(l.map Y).length)*16<=2^47/\([]:C0).length+(l.map Y).length<=2^63-1:=by
  grind [DK]
 refine J ?_ ?_
 .intro _;exact J El (.refl _)
 .intro h;refine J ?_ ?_
  .show Da nzA (.slice .none (l.map Y))
   grind [Da.nil]
  .exact J El (.refl _)
theorem Ae9(hl:CC l):PC 254 [sl Y l,sl Y m] (Q (decide (l=m))):=by
 refine Fb (jW CF) rfl BO hm rfl func254 aa5 rfl C4 aa5 (J ?_ ?_)
 .intro h
  have:l≠m:=fun e=>h (by rw[e])
  rw[Al this];exact .refl _
 .intro h;have CN:l.length=m.length:=aa2
  refine M {i:Nat // i<=l.length/\l.take i=m.take i} (M (fun i=>⟨[(0,sl Y l),(1,sl Y m),(12,G (l.map Y).length),(13,G i.1)],[],Ab⟩) (M (fun i=>l.length-i.1) (J (M ⟨0,by simp⟩ ?_) ?_)))
  .exact⟨⟨Z,Z,Z,Z,X⟩,X,Fh,X⟩
  .intro⟨i,h1,h2⟩;refine J ?_ ?_
   .intro h;have h:i<l.length:=aa0
    have h' : i<m.length:=I
    have hg:l[i]?=some l[i]:=Ge h;have hg' : m[i]?=some m[i]:=Ge h';refine M (Y l[i]) (J (J I aa0) (J rfl (U ?_)));refine M (Y m[i]) (J (J I aa0) (J rfl (U ?_)));refine J ?_ ?_
    .intro h5;have e:l[i]=m[i]:=Uu.1 h5;refine J aa5 (J (by grind [As]) (M ⟨i+1,by omega,?_⟩ ?_))
     .grind [List.take_add_one]
     .exact⟨Dl l.length i I,⟨Z,Z,Z,Z,X⟩,X,Fh,X⟩
    .intro h5;refine J aa5 ?_
     have:l≠m:=fun e=>h5 (Uu.2 aa0)
     rw[Al this];exact .refl _
   .intro h;have h:¬i<l.length:=aa0
    have e:l=m:=by
     grind
    rw[Aq e];exact .refl _
abbrev vu(l:List Nat):Of:=⟨l,[],[],[],[],[],[],[],[],[],[]⟩
theorem CX.ptr(cs:Ap9):CX [.cptr cs]:=fun c hc h=>by
 rw[AA.1 hc];rfl
theorem Aiu(s:Int×Int)(p:Int):PC 112 [.agg (Y s),.cptr [G p]] (Q (BK p s)):=by
 refine Ps CF func112 rfl C4 (J ?_ ?_)
 .intro h;refine J ?_ ?_
  .intro h2;rw[show BK p s=true by grind [BK]];exact .refl _
  .intro h2;rw[show BK p s=false by grind [BK]];exact .refl _
 .intro h;rw[show BK p s=false by simp[BK,h]];exact .refl _
theorem c87(s:Aq0)(p:Int)(hl:CC s):PC 54 [sl Y s,G p] (Q (has s p)):=by
 refine Ps (vu [3]) func54 rfl C4 (J ?_ ?_)
 .intro h;refine J ?_ ?_
  .intro h2;refine C1 (H (Ait (CX.ptr [G p]) s (BK p) (fun x _=>Aiu x p) hl) ?_);rw[show has s p=s.any (BK p) by grind [has]];cases s.any (BK p)<;>exact .refl _
  .intro h2;rw[show has s p=false by grind [has]];exact .refl _
 .intro h;rw[show has s p=false by simp[has,h]];exact .refl _
theorem c88:PC 55 [.agg (Ay r)] (G (plc r.ver)):=by
 refine Ps CF func55 rfl C4 ?_;exact J C4 (C1 (H (c56 r.ver) (.refl _)))
theorem c99:PC 359 [.agg (Ar x),.cptr (E t)] (Q (decide (x.path=t.path))):=by
 refine Ps CF func359 rfl C4 (J ?_ ?_)
 .intro h;rw[Aq h];exact .refl _
 .intro h;rw[Al h];exact .refl _
theorem Nb{α:Type}{p:α->Bool}:∀(l:List α) (k:Int),(KI p l k=-1/\l.find? p=none)\/∃i x,KI p l k=k+(i:Nat)/\l[i]?=some x/\l.find? p=some x
 | [],k=>.inl Z
 |x::r,k=>by
  cases h:p x with
  |true=>exact .inr ⟨0,x,by simp[KI,h],rfl,by simp[h]⟩
  |false=>
   rcases Nb (p:=p) r (k+1)with ⟨h1,h2⟩ | ⟨i,y,h1,h2,h3⟩
   .grind [KI]
   .exact .inr ⟨i+1,y,by grind [KI],by simp_all,by simp_all⟩
theorem c55(hl:CC s)(ht:CC t.set):PC 322 [.agg (E t),sl Ar s] (Q (Hs t s)):=by
 have hc:=c78 (CX.ptr (E t)) s (fun x=>decide (x.path=t.path)) (fun x _=>c99 x t) I;unfold Hs;rcases Nb (p:=fun x:Sl=>decide (x.path=t.path)) s 0 with ⟨h1,h2⟩ | ⟨i,x,h1,h2,h3⟩
 .rw[h1]at hc;rw[h2];refine Ps (vu [2]) func322 rfl C4 (C1 (H hc (J ?_ ?_)))
  .intro _;refine J ?_ ?_
   .intro h;rw[h];exact .refl _
   .intro h;rw[h];exact .refl _
  .intro h;exact absurd (show(-1:Int)<0 by decide) h
 .rw[h1,Gq]at hc;rw[h3];have hg:(s.map Ar)[((i:Nat):Int).toNat]?=some (Ar x):=aa0
  have hp:=c56 x.ver;dsimp only;rcases Bt (Cf x.ver)with hv | hv
  .rw[hv,AO rfl,AO rfl]at hp;rw[hv];refine Ps (vu [2]) func322 rfl C4 (C1 (H hc (J ?_ ?_)))
   .intro h;omega
   .intro _;refine M (Ar x) (J (J I hg) (J rfl (U (C1 (H hp (J ?_ ?_))))))
    .intro _;refine C1 (H (c87 t.set (place x.ver) ht) ?_);exact .refl _
    .intro h;exact absurd rfl h
  .rw[hv,AB aa3,AB aa3]at hp;rw[hv];refine Ps (vu [2]) func322 rfl C4 (C1 (H hc (J ?_ ?_)))
   .intro h;omega
   .intro _;refine M (Ar x) (J (J I hg) (J rfl (U (C1 (H hp (J ?_ ?_))))))
    .intro h;omega
    .intro _;exact .refl _
theorem vF{p:α->Bool}{l:List α}(h:∀j (hj:j<l.length),j<i->p l[j]=true)(hi:¬i<l.length):l.all p=true:=by
 grind [List.mem_iff_getElem]
theorem Aau{p:α->Bool}{l:List α}(hi:i<l.length)(h:p l[i]=false):l.all p=false:=by
 grind
abbrev ZE(l:List V):Prop:=CC l/\∀t∈l,CC t.set
theorem c26(l:List V)(s:List Sl)(hl:ZE l)(hs:CC s):PC 257 [sl E l,sl Ar s] (Q (l.all fun t=>Hs t s)):=by
 have hc:∀i (h:i<l.length),PC 322 [.agg (E l[i]),sl Ar s] (Q (Hs l[i] s)):=fun i h=>c55 l[i] s hs (hl.2 _ (Am h));obtain⟨hl,_⟩:=hl;unfold CC at hl;refine Ps CF func257 rfl C4 (M {i:Nat // i<=l.length/\∀j (hj:j<l.length),j<i->Hs l[j] s=true} (M (fun i=>⟨[(0,sl E l),(1,sl Ar s),(7,G (l.map E).length),(8,G i.1)],[],Ab⟩) (M (fun i=>l.length-i.1) (J (M ⟨0,by simp⟩ ?_) ?_))))
 .exact⟨Z4,X,Fh,X⟩
 .intro⟨i,h1,h2⟩;refine J ?_ ?_
  .intro h;have h:i<l.length:=aa0
   have hg:l[i]?=some l[i]:=Ge h;have hci:=hc i h;refine M (E l[i]) (J (J I aa0) (J rfl (U ?_)));cases hp:Hs l[i] s with
   |false=>
    rw[hp]at hci;refine C1 (H hci ?_);rw[Aau (p:=fun t=>Hs t s) h hp];exact .refl _
   |true=>
    rw[hp]at hci;refine C1 (H hci (J (by grind [As]) (M ⟨i+1,by omega,fun j hj IY=>?_⟩ ?_)))
    .grind
    .exact⟨by grind,Z4,X,Fh,X⟩
  .intro h;have h:¬i<l.length:=aa0
   rw[vF (p:=fun t=>Hs t s) h2 h];exact .refl _
theorem Aix:PC 259 [.agg (Ar x),.cptr (E t)] (Q (decide (x.path=t.path))):=by
 refine Ps CF func259 rfl C4 (J ?_ ?_)
 .intro h;rw[Aq h];exact .refl _
 .intro h;rw[Al h];exact .refl _
theorem Aiw(hs:CC s):PC 258 [.agg (E t),.cptr [sl Ar s]] (Q (!Cb s t.path)):=by
 have hc:=c51 (CX.ptr (E t)) s (fun x=>decide (x.path=t.path)) (fun x _=>Aix x t) hs;unfold Cb;cases hp:s.any fun x=>decide (x.path=t.path)with
 |true=>
  rw[hp]at hc;refine Ps (vu [2]) func258 rfl C4 ?_;exact C1 (H hc (.refl _))
 |false=>
  rw[hp]at hc;refine Ps (vu [2]) func258 rfl C4 ?_;exact C1 (H hc (.refl _))
theorem c91(l:List V)(s:List Sl)(hl:ZE l)(hs:CC s):PC 188 [sl E l,sl Ar s] (Q (BW l s)):=by
 have hv:=c26 l s hl hs;have hc:=AaG (CX.ptr [sl Ar s]) l (fun t=>!Cb s t.path) (fun t _=>Aiw t s hs) hl.1;unfold BW A3;cases h1:l.all fun t=>Hs t s with
 |false=>
  rw[h1]at hv;refine Ps (vu [3]) func188 rfl C4 ?_;exact C1 (H hv (.refl _))
 |true=>
  rw[h1]at hv;cases h2:l.any fun t=>!Cb s t.path with
  |true=>
   rw[h2]at hc;refine Ps (vu [3]) func188 rfl C4 ?_;exact C1 (H hv (C1 (H hc (.refl _))))
  |false=>
   rw[h2]at hc;refine Ps (vu [3]) func188 rfl C4 ?_;exact C1 (H hv (C1 (H hc (.refl _))))
theorem AaL(n:Int):PC 119 [G n] (Q (decide (okPart n))):=by
 refine Ps CF func119 rfl C4 (J ?_ ?_)
 .intro h;refine J ?_ ?_
  .intro h2;show Da (Q true) (Q (decide (okPart n)));rw[Aq ⟨h,h2⟩];exact .refl _
  .intro h2;show Da (Q false) (Q (decide (okPart n)));rw[Al fun q=>h2 q.2];exact .refl _
 .intro h;show Da (Q false) (Q (decide (okPart n)));rw[Al fun q=>h q.1];exact .refl _
theorem Aea:PC 61 [.agg (Ir v)] (Q (Cf v)):=by
 have ha:=AaL v.a;have hb:=AaL v.b;have hc:=AaL v.c;unfold Cf;cases h1:decide (okPart v.a)with
 |false=>
  rw[h1]at ha;refine Ps CF func61 rfl C4 ?_;exact C1 (H ha (.refl _))
 |true=>
  rw[h1]at ha;cases h2:decide (okPart v.b)with
  |false=>
   rw[h2]at hb;refine Ps CF func61 rfl C4 ?_;exact C1 (H ha (C1 (H hb (.refl _))))
  |true=>
   rw[h2]at hb;refine Ps CF func61 rfl C4 ?_;exact C1 (H ha (C1 (H hb (C1 (H hc (.refl _))))))
abbrev KU(a:An):Ap9:=[Q a.found,sl Ar a.sel,sl A8 a.infs,sl AT a.skips]
theorem AaF:PC 98 [.agg (Ay r)] (.agg (Ar ⟨r.path,r.ver⟩)):=by
 refine Ps CF func98 rfl C4 ?_;exact J C4 (J C4 (J C4 (.refl _)))
theorem c75(hl:CC l):PC 89 [sl Y l,sl Y m] (Q (decide (l=m))):=by
 refine Ps CF func89 rfl C4 (J ?_ ?_)
 .intro h
  have:l≠m:=fun e=>h (by rw[e])
  rw[Al this];exact .refl _
 .intro h;have CN:l.length=m.length:=aa2
  refine M {i:Nat // i<=l.length/\l.take i=m.take i} (M (fun i=>⟨[(0,sl Y l),(1,sl Y m),(5,G i.1)],[],Ab⟩) (M (fun i=>l.length-i.1) (J (M ⟨0,by simp⟩ ?_) ?_)))
  .exact⟨Z3,X,Fh,X⟩
  .intro⟨i,h1,h2⟩;refine J ?_ ?_
   .intro h;have h:i<l.length:=aa0
    have h' : i<m.length:=I
    have hg:l[i]?=some l[i]:=Ge h;have hg' : m[i]?=some m[i]:=Ge h';refine M (Y l[i]) (J (J I aa0) (J rfl (U ?_)));refine M (Y m[i]) (J (J I aa0) (J rfl (U ?_)));refine J ?_ ?_
    .intro h5;have e:l[i]=m[i]:=Uu.1 h5;refine J aa5 (J (by grind [As]) (M ⟨i+1,by omega,?_⟩ ?_))
     .grind [List.take_add_one]
     .exact⟨Dl l.length i I,Z3,X,Fh,X⟩
    .intro h5;refine J aa5 ?_
     have:l≠m:=fun e=>h5 (Uu.2 aa0)
     rw[Al this];exact .refl _
   .intro h;have h:¬i<l.length:=aa0
    have e:l=m:=by
     grind
    rw[Aq e];exact .refl _
end Go.Eng
namespace Go.Eng
open Go.Proofs Go.Proofs.Tryz Go.Shelf Go.RowKit Go.Lib Go.Sort
variable (k:Nat)
theorem lg(x y:SpA):ltOf Tq x y=decide (x.1.1<y.1.1):=by
 unfold ltOf Tq;rw[DD];simp only[AP];omega
theorem um:SWO (ltOf Tq) where
 irrefl x:=by rw[lg];simp
 trans x y z h1 h2:=by rw[lg]at *;simp at *;omega
 ntrans x y z h1 h2:=by rw[lg]at *;simp at *;omega
theorem V5:∀x y:List UInt8,decide (Lib.compareBytes x y<0)=K7 x y
 | [],[]=>rfl
 | [],_::_=>rfl
 |_::_,[]=>rfl
 |a::x,b::y=>by
  unfold Lib.compareBytes K7
  by_cases h:a<b
  .simp[h]
  .by_cases h2:b<a
   .have:¬a=b:=fun e=>by subst e;exact absurd h2 (UInt8.lt_irrefl a)
    simp[h,h2,this]
   .have e:a=b:=UInt8.le_antisymm (UInt8.not_lt.1 h2) (UInt8.not_lt.1 h);subst e;simp[UInt8.lt_irrefl,V5 x y]
theorem lh(x y:TmA):ltOf Tr x y=E3 x.1 y.1:=V5 _ _
theorem un:SWO (ltOf Tr) where
 irrefl x:=by rw[lh];exact CY _
 trans x y z h1 h2:=by rw[lh]at *;exact D3 h1 h2
 ntrans x y z h1 h2:=by
  rw[lh]at *
  rw[Bg];intro h;cases hyx:E3 y.1 x.1 with
  |true=>have:=D3 hyx h;rw[h2]at this;cases this
  |false=>
   have e:=Iz h1 hyx;rw[e]at h;rw[h2]at h;cases h
abbrev TG:Value:=.func (.func k) #[] #[]
theorem j9 {fn : Func}{c : Code}(hf : prog.funcs[k]?=some fn)(hn : (fn.name == "runtime.NumGoroutine")=false)(hb : fn.body=some c) : Fx prog k:=NO hf hn hb
theorem AiO(l:Aq0)(hl:CC l)(h:∀x∈l,0<=x.1/\x.1<=10^6)(lim:Nat)(dv:lim<100) :
  A1 prog 339 [.msl 1000 l.length,G 0,G l.length,G lim,.v (TG 288)] (Ah [(1000,.arr 2 (l.map Y))] Ab) fun r h'=>
   r=.tup []/\∃l' : Aq0,l'.Perm l/\l'.Pairwise (fun x y=>x.1<=y.1)/\h'=Ah [(1000,.arr 2 (l'.map Y))] Ab:=by
 have hl:l.length<=2^30:=hl;have hE:Fx prog 339:=j9 339 func339 aa5 rfl;have eg:∀args w,(callFunc 288 args).run prog w=.ok (.enter 288 args) w:=enters_of func288 aa5 rfl;have Jc:=JC (P:=prog) (f:=339) (α:=SpA) (rest:=[.int .i64 0,.int .i64 l.length,.int .i64 lim,TG 288]) hE Y ZW (k:=2) (fun _=>rfl) (fun _=>rfl) (ltOf Tq) (fun x a=>a.1=x) l I ?_ ?_ ?_
 .refine⟨hE,fun g w vals q1 q2 q3=>(Jc.2 g w vals q1 q2 q3).mono fun _ _ ⟨v,r,h',g',e1,⟨e2,l',p1,⟨al,a1,a2,a3⟩,p2⟩,rest⟩=>⟨v,r,h',g',e1,⟨e2,l',p1,?_,p2⟩,rest⟩⟩;rw[Cn]at a3⊢;intro i j hi hj gi
  have:=a3 i j I I gi
  rw[lg]at this;have e1:=a2 i _ _ (AC hi) (AC I);have e2:=a2 j _ _ (AC hj) (AC I);rw[<-e1,<-e2]
  have:=of_decide_eq_false this
  omega
 .intro x hx g w vs hr
  match vs,hr with
  | [a,b],hr=>
   have h1:=(hr.2.2 0 (G x.1) a rfl rfl).v_eq;have h2:=(hr.2.2 1 (G x.2) b rfl rfl).v_eq;subst h1;subst h2;exact⟨⟨x,h x hx⟩,rfl,rfl⟩
  | [],hr=>have:=hr.1;simp at this
  | [_],hr=>have:=hr.1;simp at this
  |_::_::_::_,hr=>have:=hr.1;simp at this
 .intro w b cap d hH hb EC hdl;have rv:CmpLays prog 288 #[] ZW 2 Tq b 0 d.size w:=fun _ _ _ _ x y=>Tryz.closure288 x y _;have hp:=AnyQ.pdqsortCmpFunc_all Tryz.layPdqSpan 2 isAgg64 sizeOf64 ZW Tq 288 #[] um b 0 cap d w eg rv ⟨fun _=>rfl,fun x v hv=>by simp[ZW]at hv;rcases hv with rfl | rfl<;>rfl,hH,hb⟩ (d.size+1) 0 d.size lim d w I rfl (SWK.start hH) (Ai _) (Af _) EC I (Or.inl rfl)
  rw[hdl]at hp⊢;refine hp.mono ?_
  rintro e w' ⟨rfl,n,os,rfl⟩
  have h:=pdq_sorts (ltOf Tq) um d 0 d.size lim true true (Ai _) (Af _) (Or.inl rfl);rw[hdl]at h;exact⟨rfl,_,n,os,h.1,h.2,rfl⟩
 .intro e w;subst e;exact AnyF.pdqsortCmpFunc_none Tryz.layPdqSpan none 0 lim (TG 288) w
theorem Ain(l:List V)(hl:CC l)(lim:Nat)(dv:lim<100) :
  A1 prog 377 [.msl 1000 l.length,G 0,G l.length,G lim,.v (TG 351)] (Ah [(1000,.arr 3 (l.map E))] Ab) fun r h'=>
   r=.tup []/\∃l' : List V,l'.Perm l/\l'.Pairwise (fun x y=>E3 y.path x.path=false)/\h'=Ah [(1000,.arr 3 (l'.map E))] Ab:=by
 have hl:l.length<=2^30:=hl;have hE:Fx prog 377:=j9 377 func377 aa5 rfl;have eg:∀args w,(callFunc 351 args).run prog w=.ok (.enter 351 args) w:=enters_of func351 aa5 rfl;have Jc:=JC (P:=prog) (f:=377) (α:=TmA) (rest:=[.int .i64 0,.int .i64 l.length,.int .i64 lim,TG 351]) hE E ZX (k:=3) (fun _=>rfl) (fun _=>rfl) (ltOf Tr) (fun x a=>a.1=x.path) l I ?_ ?_ ?_
 .refine⟨hE,fun g w vals q1 q2 q3=>(Jc.2 g w vals q1 q2 q3).mono fun _ _ ⟨v,r,h',g',e1,⟨e2,l',p1,⟨al,a1,a2,a3⟩,p2⟩,rest⟩=>⟨v,r,h',g',e1,⟨e2,l',p1,?_,p2⟩,rest⟩⟩;rw[Cn]at a3⊢;intro i j hi hj gi
  have:=a3 i j I I gi
  rw[lh]at this;have e1:=a2 i _ _ (AC hi) (AC I);have e2:=a2 j _ _ (AC hj) (AC I);rw[<-e1,<-e2];exact this
 .intro x hx g w vs hr
  match vs,hr with
  | [a,b,c],hr=>
   have h1:=(hr.2.2 0 (Go.Eng.vs x.path) a rfl rfl).v_eq;subst h1;exact⟨⟨x.path,⟨b,hr.2.1 b aa1⟩,⟨c,hr.2.1 c aa1⟩⟩,rfl,rfl⟩
  | [],hr=>have:=hr.1;simp at this
  | [_],hr=>have:=hr.1;simp at this
  | [_,_],hr=>have:=hr.1;simp at this
  |_::_::_::_::_,hr=>have:=hr.1;simp at this
 .intro w b cap d hH hb EC hdl;have rv:CmpLays prog 351 #[] ZX 3 Tr b 0 d.size w:=fun _ _ _ _ x y=>Tryz.closure351 x y _;have hp:=AnyQ.pdqsortCmpFunc_all Tryz.layPdqTerm 3 isAgg325 sizeOf325 ZX Tr 351 #[] un b 0 cap d w eg rv ⟨fun _=>rfl,fun x v hv=>by
    simp only[ZX,AJ,My,or_false]at hv;rcases hv with rfl | rfl | rfl
    .rfl
    .exact x.2.1.2
    .exact x.2.2.2,hH,hb⟩ (d.size+1) 0 d.size lim d w I rfl (SWK.start hH) (Ai _) (Af _) EC I (Or.inl rfl)
  rw[hdl]at hp⊢;refine hp.mono ?_
  rintro e w' ⟨rfl,n,os,rfl⟩
  have h:=pdq_sorts (ltOf Tr) un d 0 d.size lim true true (Ai _) (Af _) (Or.inl rfl);rw[hdl]at h;exact⟨rfl,_,n,os,h.1,h.2,rfl⟩
 .intro e w;subst e;exact AnyF.pdqsortCmpFunc_none Tryz.layPdqTerm none 0 lim (TG 351) w
end Go.Eng
