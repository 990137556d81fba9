/- Lemmas 17. -/
import Derived.Test.YteaiieomnhbmgaaGreatDoorBA16
import Derived.Shelf.Strings.SplitShaped
import Derived.Shelf.Strings.LastIndexAll
import Derived.Shelf.Strings.Search3
import Derived.Shelf.Small.Wraps
import Derived.Ground.NamesProg
import Derived.Lib.LastIndexLaws
namespace Go.Proofs
open Go.Proofs.Tryz
open Go.Shelf
def Tryz.laySplit_ren:Go.Shelf.Ren:=⟨fun | 146=>281 | 221=>320 | 268=>353 | 138=>354 | 143=>355 | 195=>370 | 197=>371 | 218=>372 | 219=>373 | 260=>386 | 217=>387 | 225=>388 | 224=>389 | 267=>390 | 266=>404 | 314=>405 | n=>n,fun | 9=>9 | 31=>52 | 3=>3 | 4=>4 | 0=>0 | 105=>425 | 21=>21 | 5=>5 | 46=>99 | 119=>442 | 139=>445 | 138=>444 | 146=>349 | 51=>229 | n=>n,fun | 1=>0 | 3=>4 | 4=>5 | n=>n⟩
theorem Tryz.laySplit:Go.Proofs.Lays.n146 Tryz.prog Tryz.laySplit_ren:={
 mixed:=by kernel_rfl
 f138:=Go.Eng.A0a func354
 f143:=Go.Eng.A0a func355
 f146:=Go.Eng.A0a func281
 f195:=Go.Eng.A0a func370
 f197:=Go.Eng.A0a func371
 f217:=Go.Eng.A0a func387
 f218:=Go.Eng.A0a func372
 f219:=Go.Eng.A0a func373
 f221:=Go.Eng.A0a func320
 f224:=Go.Eng.A0a func389
 f225:=Go.Eng.A0a func388
 f260:=Go.Eng.A0a func386
 f266:=Go.Eng.A0a func404
 f267:=Go.Eng.A0a func390
 f268:=Go.Eng.A0a func353
 f314:=Go.Eng.A0a func405
 t0:=underlying0
 a0:=isAgg0
 z0:=sizeOf0
 v0:=zeroValue0
 t3:=underlying3
 a3:=isAgg3
 z3:=sizeOf3
 v3:=zeroValue3
 t4:=underlying4
 a4:=isAgg4
 z4:=sizeOf4
 v4:=zeroValue4
 t5:=underlying5
 a5:=isAgg5
 z5:=sizeOf5
 v5:=zeroValue5
 t9:=underlying9
 a9:=isAgg9
 z9:=sizeOf9
 v9:=zeroValue9
 t21:=underlying21
 a21:=isAgg21
 z21:=sizeOf21
 v21:=zeroValue21
 t31:=underlying52
 a31:=isAgg52
 z31:=sizeOf52
 v31:=zeroValue52
 t46:=underlying99
 a46:=isAgg99
 z46:=sizeOf99
 v46:=zeroValue99
 t51:=underlying229
 a51:=isAgg229
 z51:=sizeOf229
 v51:=zeroValue229
 t105:=underlying425
 a105:=isAgg425
 z105:=sizeOf425
 v105:=zeroValue425
 t119:=underlying442
 a119:=isAgg442
 z119:=sizeOf442
 t138:=underlying444
 a138:=isAgg444
 z138:=sizeOf444
 v138:=zeroValue444
 t139:=underlying445
 a139:=isAgg445
 z139:=sizeOf445
 v139:=zeroValue445
 t146:=underlying349
 a146:=isAgg349
 z146:=sizeOf349
 v146:=zeroValue349
 g1:=by kernel_rfl
 g3:=by kernel_rfl
 g4:=by kernel_rfl }
def Tryz.layLast_ren:Go.Shelf.Ren:=⟨fun | 148=>234 | 222=>288 | 223=>289 | 269=>324 | n=>n,fun | 9=>9 | 3=>3 | 4=>4 | 5=>5 | 146=>349 | 51=>229 | 46=>99 | n=>n,fun | n=>n⟩
theorem Tryz.layLast:Go.Proofs.Lays.n148 Tryz.prog Tryz.layLast_ren:={
 mixed:=by kernel_rfl
 f148:=Go.Eng.A0a func234
 f222:=Go.Eng.A0a func288
 f223:=Go.Eng.A0a func289
 f269:=Go.Eng.A0a func324
 t3:=underlying3
 a3:=isAgg3
 z3:=sizeOf3
 v3:=zeroValue3
 t4:=underlying4
 a4:=isAgg4
 z4:=sizeOf4
 v4:=zeroValue4
 t5:=underlying5
 a5:=isAgg5
 z5:=sizeOf5
 v5:=zeroValue5
 t9:=underlying9
 a9:=isAgg9
 z9:=sizeOf9
 v9:=zeroValue9
 t46:=underlying99
 a46:=isAgg99
 z46:=sizeOf99
 v46:=zeroValue99
 t51:=underlying229
 a51:=isAgg229
 z51:=sizeOf229
 v51:=zeroValue229
 t146:=underlying349
 a146:=isAgg349
 z146:=sizeOf349
 v146:=zeroValue349 }
def Tryz.layCut_ren:Go.Shelf.Ren:=⟨fun | 103=>321 | 210=>356 | 206=>269 | n=>n,fun | 9=>9 | 4=>4 | 24=>370 | 3=>3 | n=>n,fun | n=>n⟩
theorem Tryz.layCut:Go.Proofs.Lays.n103 Tryz.prog Tryz.layCut_ren:={
 mixed:=by kernel_rfl
 f103:=Go.Eng.A0a func321
 f206:=Go.Eng.A0a func269
 f210:=Go.Eng.A0a func356
 t3:=underlying3
 a3:=isAgg3
 z3:=sizeOf3
 v3:=zeroValue3
 t4:=underlying4
 a4:=isAgg4
 z4:=sizeOf4
 v4:=zeroValue4
 t9:=underlying9
 a9:=isAgg9
 z9:=sizeOf9
 v9:=zeroValue9
 t24:=underlying370
 a24:=isAgg370
 z24:=sizeOf370
 v24:=zeroValue370 }
def Tryz.layCont_ren:Go.Shelf.Ren:=⟨fun | 144=>358 | 143=>355 | 219=>373 | 217=>387 | 225=>388 | 224=>389 | 267=>390 | 266=>404 | 314=>405 | n=>n,fun | 9=>9 | 4=>4 | 3=>3 | 5=>5 | 46=>99 | 146=>349 | 51=>229 | n=>n,fun | 1=>0 | n=>n⟩
theorem Tryz.layCont:Go.Proofs.Lays.n144 Tryz.prog Tryz.layCont_ren:={
 mixed:=by kernel_rfl
 f143:=Go.Eng.A0a func355
 f144:=Go.Eng.A0a func358
 f217:=Go.Eng.A0a func387
 f219:=Go.Eng.A0a func373
 f224:=Go.Eng.A0a func389
 f225:=Go.Eng.A0a func388
 f266:=Go.Eng.A0a func404
 f267:=Go.Eng.A0a func390
 f314:=Go.Eng.A0a func405
 t3:=underlying3
 a3:=isAgg3
 z3:=sizeOf3
 v3:=zeroValue3
 t4:=underlying4
 a4:=isAgg4
 z4:=sizeOf4
 v4:=zeroValue4
 t5:=underlying5
 a5:=isAgg5
 z5:=sizeOf5
 v5:=zeroValue5
 t9:=underlying9
 a9:=isAgg9
 z9:=sizeOf9
 v9:=zeroValue9
 t46:=underlying99
 a46:=isAgg99
 z46:=sizeOf99
 v46:=zeroValue99
 t51:=underlying229
 a51:=isAgg229
 z51:=sizeOf229
 v51:=zeroValue229
 t146:=underlying349
 a146:=isAgg349
 z146:=sizeOf349
 v146:=zeroValue349
 g1:=by kernel_rfl }
end Go.Proofs
namespace Go.Eng
open Go.Proofs Go.Proofs.Tryz
variable {B1:List (Value×AV)}{h:Nat->HO}{a:AV}{k:Value}(y:List Rl)(before:List Sl)(s:CS)(r:Rl)(j:Nat)(l:List Rq)(acc:Option CS)(q:Rq)(p:CS)
abbrev di:CS:=⟨#[47]⟩
abbrev BP:List CS:=Go.Lib.splitB di 0 (Go.Lib.countB s di) s
theorem Qc:(BP s).map (·.data.toList)=CM 47 s.data.toList:=kZ s 47
abbrev Gs:List AV:=[vs s]
theorem zD(hs:ED s):PC 281 [vs s,vs di] (sl Gs (BP s)):=by
 unfold ED at hs;have h:=kJ (P:=Tryz.prog) (f:=281) (args:=[vs s,vs di]) [.string s,.string di] ((BP s).map Value.string) 9 (aq 281 func281 Wk rfl) rfl (fun x hx=>by
  obtain⟨y,_,rfl⟩:=Ax.1 hx;rfl) (fun w hm=>by
  obtain⟨m,hm⟩:=hm;have hl:(BP s).length=Go.Lib.countB s di+1:=Go.Lib.splitB_all di Cl 0 _ s rfl;refine(Any.strings_Split Tryz.laySplit Wk s di m w ch hm Cl).mono ?_
  rintro e w' ⟨rfl,rfl⟩
  exact⟨by simp_all,rfl⟩)
 rw[Br]at h;exact h
theorem AdN(hs:ED s):PC 234 [vs s,vs p] (vi (Go.Lib.lastIndex s.data.toList p.data.toList)):=by
 unfold ED at hs;exact JY [.string s,.string p] (.int .i64 (Go.Lib.lastIndex s.data.toList p.data.toList)) (aq 234 func234 Wk rfl) rfl (fun g w=>.v _ _) fun w _=>Any.strings_LastIndex Tryz.layLast s p ch w
theorem Ae0:PC 321 [vs s,vs p] (.tup [vs ⟨(Go.Lib.trimPrefix s.data.toList p.data.toList).toArray⟩,vb (Go.Lib.hasPrefix s.data.toList p.data.toList)]):=by
 exact JY [.string s,.string p] _ (aq 321 func321 Wk rfl) rfl (fun g w=>pj [.string ⟨(Go.Lib.trimPrefix s.data.toList p.data.toList).toArray⟩,.bool (Go.Lib.hasPrefix s.data.toList p.data.toList)]) fun w _=>Any.strings_CutPrefix Tryz.layCut s p w
theorem Ae7(hs:ED s):PC 358 [vs s,vs p] (vb (Go.Lib.contains s.data.toList p.data.toList)):=by
 unfold ED at hs;exact JY [.string s,.string p] (.bool (Go.Lib.contains s.data.toList p.data.toList)) (aq 358 func358 Wk rfl) rfl (fun g w=>.v _ _) fun w hm=>by
  obtain⟨m,hm⟩:=hm;exact Any.strings_Contains Tryz.layCont s p m w ch hm
theorem ic:∀x y:List UInt8,Qe x y=x.isPrefixOf y
 | [],_=>by simp[Qe]
 |_::_,[]=>rfl
 |a::x,b::y=>by
  rw[Qe,List.isPrefixOf_cons_cons,ic x y]
  rfl
theorem nS(x:List UInt8):∀y:List UInt8,qJ x y=Go.Lib.contains y x
 | []=>by
  unfold Go.Lib.contains Go.Lib.index;cases x<;>rfl
 |b::y=>by
  rw[qJ,ic,nS x y]
  grind [Go.Lib.contains,Go.Lib.index]
theorem Oq:∀(l:List UInt8) (h:0<l.length),l.headD 0=l[0]
 | [],h=>by grind
 |_::_,_=>rfl
abbrev uW:CS:=⟨⟨dY⟩⟩
theorem Ae2(hs:ED s):PC 323 [vs s] (vb (Wg s.data.toList)):=by
 unfold ED at hs;have hc:=Ae7 uW ((⟨#[32]⟩++s)++⟨#[32]⟩) (F6 Wk);have e:Go.Lib.contains uW.data.toList ((⟨#[32]⟩++s:CS)++⟨#[32]⟩).data.toList=Wg s.data.toList:=by
  unfold Wg;rw[nS]
  congr 1
 rw[e]at hc;refine Ps C3 func323 rfl (Nz rfl) (Yi (by show(((1+s.size:Nat)):Int)<=_;omega) ?_);refine Yi (by show(((⟨#[32]⟩++s:CS).size+1:Nat):Int)<=_;rw[CD];show(((1+s.size)+1:Nat):Int)<=_;omega) ?_;refine C1 (C2 (hc) ?_);exact .refl _
theorem AdU(hs:ED s):PC 283 [vs s] (vb (Gl s.data.toList)):=by
 have hk:=Ae2 s hs;have hw:=wb s 322 FF Ae1 (by unfold ED at hs;simp;omega);have Fg:s.size=s.data.toList.length:=by simp
 have en:Gl s.data.toList=(!s.data.toList.isEmpty&&decide (s.data.toList.length<=32)&&EB (s.data.toList.headD 0)&&s.data.toList.all FF&&!Wg s.data.toList):=rfl
 by_cases h0:s=⟨#[]⟩
 .subst h0;refine Ps C3 func283 rfl (Nz rfl) (Yi ?_ ?_)
  .intro h;exact absurd rfl (show(⟨#[]⟩:CS)≠⟨#[]⟩from h)
  .intro _;exact .refl _
 have h0' : s.data.toList≠[]:=fun e=>h0 (by
  have:s.data=#[]:=by simp_all
  cases s;simp_all)
 have Dd:0<s.data.toList.length:=Jj.2 h0';have rX:s.data.toList.isEmpty=false:=by
  grind
 have hhd:s.data.toList.headD 0=s.data.toList[0]:=Oq _ Dd;have wY:=wd s.data.toList[0];refine Ps C3 func283 rfl (Nz rfl) (Yi ?_ ?_)
 rotate_left
 .intro h;exact absurd h0 h
 intro _;refine Yi ?_ ?_
 rotate_left
 .intro h;exact .of_eq (Aa vb (show false=Gl s.data.toList by grind))
 intro h;refine Xi s.data.toList[0] (Yi ⟨Bv _,ra s 0 Dd⟩ (AN (Bt (EB s.data.toList[0])) (fun e1=>?_) (fun e1=>?_)))
 rotate_left
 .rw[e1]at wY;refine C1 (C2 (wY) ?_);exact .of_eq (Aa vb (show false=Gl s.data.toList by grind))
 rw[e1]at wY;refine C1 (C2 (wY) (AN (Bt (s.data.toList.all FF)) (fun e2=>?_) (fun e2=>?_)))
 rotate_left
 .rw[e2]at hw;refine C1 (C2 (hw) ?_);exact .of_eq (Aa vb (show false=Gl s.data.toList by grind))
 rw[e2]at hw;refine C1 (C2 (hw) ?_);have ef:Gl s.data.toList=!Wg s.data.toList:=by grind
 refine AN (Bt (Wg s.data.toList)) (fun e3=>?_) (fun e3=>?_)
 .rw[e3]at hk;refine C1 (C2 (hk) ?_);exact .of_eq (Aa vb (show false=Gl s.data.toList by grind))
 .rw[e3]at hk;refine C1 (C2 (hk) ?_);exact .of_eq (Aa vb (show true=Gl s.data.toList by grind))
abbrev Zu:Option Int->AV
 |some n=>.tup [vi n,vb true]
 |none=>.tup [vi 0,vb false]
theorem Tp{z:Int}(h0:0<=z)(h1:z<256):IntKind.u8.wrap z=z:=by
 show z % 256=z;omega
theorem Jw{c:UInt8}(h:CB c=true):48<=c.toNat/\c.toNat<=57:=by
 grind [CB,UInt8.le_iff_toNat_le]
theorem Lj(r:List UInt8)(i:Nat)(h:i<r.length):DY (r.take (i+1))=10*DY (r.take i)+((r[i].toNat:Int)-48):=by
 grind [DY,List.take_add_one]
theorem AdT(hs:ED s):PC 282 [vs s] (Zu (Gi s.data.toList)):=by
 unfold ED at hs;have hc:=Ae0 s ⟨#[118]⟩
 by_cases hp:∃r,s.data.toList=118::r
 .obtain⟨r,hr⟩:=hp;have e1:Go.Lib.hasPrefix s.data.toList (⟨#[118]⟩:CS).data.toList=true:=by rw[hr];rfl
  have e2:Go.Lib.trimPrefix s.data.toList (⟨#[118]⟩:CS).data.toList=r:=by grind [Go.Lib.trimPrefix]
  rw[e1,e2]at hc;have hv:Gi s.data.toList=if(r.isEmpty||decide (3<r.length)||(decide (1<r.length)&&decide (r.headD 0=48))||!r.all CB)=true then none else some (DY r):=by rw[hr];rfl
  have hrl:r.length<s.size:=by
   have:s.size=s.data.toList.length:=by simp
   simp_all
  generalize hB:(⟨r.toArray⟩:CS)=rB at hc;have hBl:rB.data.toList=r:=by grind
  have hBs:rB.size=r.length:=by rw[<-hB];rfl
  have hw:=wb rB 287 CB we (by grind);rw[hBl]at hw;have no:∀{b:Bool},b=true->(if b=true then none else some (DY r))=(none:Option Int):=fun h=>Ay h;refine Ps (Hx []) func282 rfl (Nz rfl) (C1 (C2 (hc) (Yi ?_ ?_)))
  .intro h
   have:r=[]:=by simp_all
   exact .of_eq (Aa Zu (show(none:Option Int)=Gi s.data.toList by simp_all))
  intro h;have Ek:r≠[]:=fun e=>h (by simp_all);have Dd:0<r.length:=Jj.2 Ek;have rX:r.isEmpty=false:=by
   simp_all
  refine Yi ?_ ?_
  .intro h2;exact .of_eq (Aa Zu (show(none:Option Int)=Gi s.data.toList by grind))
  intro h2;have hl3:r.length<=3:=by omega
  have d3:decide (3<r.length)=false:=Aj ch;refine Yi ?_ ?_
  .intro h3;have AeU:rB.data[(0:Int).toNat]?=some r[0]:=by
    grind
   refine Xi r[0] (Yi ⟨Bv _,AeU⟩ ?_);have hh:=Oq r Dd;refine Yi ?_ ?_
   .intro h4
    have:r[0]=48:=HJ.1 (by grind)
    exact .of_eq (Aa Zu (show(none:Option Int)=Gi s.data.toList by grind))
   intro h4;have eo:(decide (1<r.length)&&decide (r.headD 0=48))=false:=by rw[hh,Aj (show ¬r[0]=48 from fun e=>h4 (by simp_all)),Eg]
   have hv2:Gi s.data.toList=if(!r.all CB)=true then none else some (DY r):=by grind
   refine AN (Bt (r.all CB)) (fun e3=>?_) (fun e3=>?_)
   rotate_left
   .rw[e3]at hw;refine C1 (C2 (hw) ?_);exact .of_eq (Aa Zu (show(none:Option Int)=Gi s.data.toList by simp_all))
   rw[e3]at hw;refine C1 (C2 (hw) ?_);have hv3:Gi s.data.toList=some (DY r):=by simp_all
   have z0:DY (r.take 0)=0:=rfl;refine Xi {i:Nat // i<=r.length/\0<=DY (r.take i)/\(i=0->DY (r.take i)<=0)/\(i<=1->DY (r.take i)<=9)/\(i<=2->DY (r.take i)<=99)/\DY (r.take i)<=999} (Xi (fun i=>⟨[(0,vs rB),(5,vi (DY (r.take i.1))),(39,vi rB.size),(40,vi i.1)],[],Ac⟩) (Xi (fun i=>r.length-i.1) (Yi (Xi ⟨0,Al _,by omega,fun _=>by omega,fun _=>by omega,fun _=>by omega,by omega⟩ ?_) ?_)))
   .exact⟨Z4,Tv,Fh,Tv⟩
   intro⟨i,i1,i2,i3,i4,i5,i6⟩;refine Yi ?_ ?_
   .intro h;have h:(i:Int)<(rB.size:Nat):=h;have h:i<r.length:=by omega
    have hdg:CB r[i]=true:=A3.1 e3 _ (Ae h);have uG:=Jw hdg;have uP:=Lj r i h;have qI:IntKind.u8.wrap ((r[i].toNat:Int)-48)=(r[i].toNat:Int)-48:=Tp ch ch;have SJ:rB.data[((i:Nat):Int).toNat]?=some r[i]:=by grind
    refine Yi (by show Av (10*DY (r.take i));unfold Av;omega) (Xi r[i] (Yi ⟨by omega,SJ⟩ ?_));refine Yi (by show Av (IntKind.u8.wrap ((r[i].toNat:Int)-48));rw[qI];unfold Av;omega) ?_;refine Yi (by show Av (10*DY (r.take i)+IntKind.u8.wrap ((r[i].toNat:Int)-48));rw[qI];unfold Av;omega) ?_;refine Yi (Ii i ch) ?_;have e5:vi (10*DY (r.take i)+IntKind.u8.wrap ((r[i].toNat:Int)-48))=vi (DY (r.take (i+1))):=by simp_all
    refine Xi ⟨i+1,by omega,by omega,fun _=>by omega,fun _=>by omega,fun _=>by omega,by omega⟩ ?_;exact⟨Dl r.length i ch,⟨Zr,⟨e5,rfl⟩,Zr,Zr,Tv⟩,Tv,Fh,Tv⟩
   .intro h;have h:¬(i:Int)<(rB.size:Nat):=h;have e6:AV.tup [vi (DY (r.take i)),vb true]=Zu (Gi s.data.toList):=by grind
    exact .of_eq e6
  .intro h3;have h3:¬(1:Int)<((rB.size:Nat):Int):=h3;have eo:(decide (1<r.length)&&decide (r.headD 0=48))=false:=by grind
   have hv2:Gi s.data.toList=if(!r.all CB)=true then none else some (DY r):=by grind
   refine AN (Bt (r.all CB)) (fun e3=>?_) (fun e3=>?_)
   rotate_left
   .rw[e3]at hw;refine C1 (C2 (hw) ?_);exact .of_eq (Aa Zu (show(none:Option Int)=Gi s.data.toList by simp_all))
   rw[e3]at hw;refine C1 (C2 (hw) ?_);have hv3:Gi s.data.toList=some (DY r):=by simp_all
   have z0:DY (r.take 0)=0:=rfl;refine Xi {i:Nat // i<=r.length/\0<=DY (r.take i)/\(i=0->DY (r.take i)<=0)/\(i<=1->DY (r.take i)<=9)/\(i<=2->DY (r.take i)<=99)/\DY (r.take i)<=999} (Xi (fun i=>⟨[(0,vs rB),(5,vi (DY (r.take i.1))),(39,vi rB.size),(40,vi i.1)],[],Ac⟩) (Xi (fun i=>r.length-i.1) (Yi (Xi ⟨0,Al _,by omega,fun _=>by omega,fun _=>by omega,fun _=>by omega,by omega⟩ ?_) ?_)))
   .exact⟨Z4,Tv,Fh,Tv⟩
   intro⟨i,i1,i2,i3,i4,i5,i6⟩;refine Yi ?_ ?_
   .intro h;have h:(i:Int)<(rB.size:Nat):=h;have h:i<r.length:=by omega
    have hdg:CB r[i]=true:=A3.1 e3 _ (Ae h);have uG:=Jw hdg;have uP:=Lj r i h;have qI:IntKind.u8.wrap ((r[i].toNat:Int)-48)=(r[i].toNat:Int)-48:=Tp ch ch;have SJ:rB.data[((i:Nat):Int).toNat]?=some r[i]:=by grind
    refine Yi (by show Av (10*DY (r.take i));unfold Av;omega) (Xi r[i] (Yi ⟨by omega,SJ⟩ ?_));refine Yi (by show Av (IntKind.u8.wrap ((r[i].toNat:Int)-48));rw[qI];unfold Av;omega) ?_;refine Yi (by show Av (10*DY (r.take i)+IntKind.u8.wrap ((r[i].toNat:Int)-48));rw[qI];unfold Av;omega) ?_;refine Yi (Ii i ch) ?_;have e5:vi (10*DY (r.take i)+IntKind.u8.wrap ((r[i].toNat:Int)-48))=vi (DY (r.take (i+1))):=by simp_all
    refine Xi ⟨i+1,by omega,by omega,fun _=>by omega,fun _=>by omega,fun _=>by omega,by omega⟩ ?_;exact⟨Dl r.length i ch,⟨Zr,⟨e5,rfl⟩,Zr,Zr,Tv⟩,Tv,Fh,Tv⟩
   .intro h;have h:¬(i:Int)<(rB.size:Nat):=h;have e6:AV.tup [vi (DY (r.take i)),vb true]=Zu (Gi s.data.toList):=by grind
    exact .of_eq e6
 .have e1:Go.Lib.hasPrefix s.data.toList (⟨#[118]⟩:CS).data.toList=false:=by
   cases hl:s.data.toList with
   |nil=>rfl
   |cons a l=>
    have:a≠118:=fun e=>hp ⟨l,by simp_all⟩
    show(List.isPrefixOf [118] (a::l))=false
    grind
  have hv:Gi s.data.toList=none:=by
   cases hl:s.data.toList with
   |nil=>rfl
   |cons a l=>
    have:a≠118:=fun e=>hp ⟨l,by simp_all⟩
    show(if a=118 then _ else none)=none;simp_all
  rw[e1]at hc;refine Ps C3 func282 rfl (Nz rfl) (C1 (C2 (hc) ?_));exact .of_eq (Aa Zu hv.symm)
abbrev Ra:Option Int->AV
 |some n=>.tup [vi n,vi 0]
 |none=>.tup [vi 0,vi 4]
theorem L0(c:UInt8):∀(s x:List UInt8),x∈CM c s->x.length<=s.length
 | [],x,h=>by
  grind [CM]
 |b::r,x,h=>by
  have ih:=L0 c r
  grind [CM]
theorem o6{p x:CS}(hp:ED p)(hx:x∈BP p):ED x:=by
 have h:x.data.toList∈CM 47 p.data.toList:=by grind [Qc]
 have:=L0 47 _ _ h
 unfold ED at *
 have e1:x.size=x.data.toList.length:=by simp
 have e2:p.size=p.data.toList.length:=by simp
 omega
theorem kG:(BP p).length=(CM 47 p.data.toList).length:=by grind [Qc]
theorem kH:0<(BP p).length:=by
 rw[show(BP p).length=Go.Lib.countB p di+1 from Go.Lib.splitB_all di Cl 0 _ p rfl];omega
theorem kF:(BP p).length<=p.size+1:=by
 rw[show(BP p).length=Go.Lib.countB p di+1 from Go.Lib.splitB_all di Cl 0 _ p rfl]
 have:=Go.Lib.countB_le di Cl p.size p (Ap _);omega
theorem eT(h:(BP p).length-1<(BP p).length):(CM 47 p.data.toList).getLastD []=((BP p)[(BP p).length-1]).data.toList:=by
 grind [Qc]
theorem kE:(CM 47 p.data.toList).all Hy=(BP p).all fun x=>Hy x.data.toList:=by
 grind [Qc]
theorem zA(hp:ED p):PC 232 [vs p] (Ra (A5 p)):=by
 have hps:=kF p;have AaE:=kH p;have hp1:(BP p).length-1<(BP p).length:=by omega
 have Fg:p.size=p.data.toList.length:=by simp
 have hfp:∀{x},x∈BP p->ED x:=fun h=>o6 hp h;unfold ED at hp;have gD:((BP p).map Gs)[((((BP p).map Gs).length:Int)-1).toNat]?=some (Gs (BP p)[(BP p).length-1]):=by
  rw[Lm,show(((BP p).length:Int)-1).toNat=(BP p).length-1 by omega];grind
 have hv:=AdT (BP p)[(BP p).length-1] (hfp (Ae hp1));have em:A5 p=match Gi ((BP p)[(BP p).length-1]).data.toList with
  |none=>none
  |some n=>if(decide (64<p.data.toList.length)||decide ((BP p).length<2))=true then none else if((BP p).all fun x=>Hy x.data.toList)=true then some n else none:=by
  unfold A5 Rb;rw[eT p hp1,kE,<-kG];cases Gi ((BP p)[(BP p).length-1]).data.toList<;>grind [Gi]
 cases hve:Gi ((BP p)[(BP p).length-1]).data.toList with
 |none=>
  rw[hve]at hv em;refine Ps (Hx []) func232 rfl (Nz rfl) (C1 (C2 (zD p hp) (Yi (by show Av ((((BP p).map Gs).length:Int)-1);unfold Av;rw[Lm];omega) ?_)));refine Xi (Gs (BP p)[(BP p).length-1]) (Yi (Yi (by grind) gD) (Yi rfl (C1 (C2 (hv) ?_))));exact .of_eq (Aa Ra em.symm)
 |some n=>
  rw[hve]at hv em;refine Ps (Hx []) func232 rfl (Nz rfl) (C1 (C2 (zD p hp) (Yi (by show Av ((((BP p).map Gs).length:Int)-1);unfold Av;rw[Lm];omega) ?_)));refine Xi (Gs (BP p)[(BP p).length-1]) (Yi (Yi (by grind) gD) (Yi rfl (C1 (C2 (hv) (Yi ?_ ?_)))))
  .intro h;exact .of_eq (Aa Ra (show(none:Option Int)=A5 p by grind))
  intro h;have d1:decide (64<p.data.toList.length)=false:=Aj ch;refine Yi ?_ ?_
  .intro h2;rw[Lm]at h2;exact .of_eq (Aa Ra (show(none:Option Int)=A5 p by grind))
  intro h2;have d2:decide ((BP p).length<2)=false:=Aj (by rw[Lm]at h2;omega);have em2:A5 p=if((BP p).all fun x=>Hy x.data.toList)=true then some n else none:=by grind
  refine Xi {i:Nat // i<=(BP p).length/\∀j (hj:j<(BP p).length),j<i->Hy ((BP p)[j]).data.toList=true} (Xi (fun i=>⟨[(5,vi n),(33,sl Gs (BP p)),(34,vi ((BP p).map Gs).length),(35,vi i.1)],[],Ac⟩) (Xi (fun i=>(BP p).length-i.1) (Yi (Xi ⟨0,Al _,fun j _ h=>by omega⟩ ?_) ?_)))
  .exact⟨Z4,Tv,Fh,Tv⟩
  intro⟨i,i1,i2⟩;refine Yi ?_ ?_
  .intro h;have h:i<(BP p).length:=by simpa using h
   have hg:(BP p)[i]?=some (BP p)[i]:=Ge h;refine Xi (Gs (BP p)[i]) (Yi (Yi ch (by simp[hg])) (Yi rfl ?_));have hfi:=hfp (Ae h);have hn:=AdU (BP p)[i] hfi;have ha:=wb (BP p)[i] 285 Vt AdV (by unfold ED at hfi;have e1:(BP p)[i].size=(BP p)[i].data.toList.length:=B0;omega);have no:Hy ((BP p)[i]).data.toList=false->(none:Option Int)=A5 p:=fun e=>by
    rw[em2,Az];intro Gd
    have:=A3.1 Gd _ (Ae h)
    grind
   refine AN (Bt (Gl ((BP p)[i]).data.toList)) (fun e1=>?_) (fun e1=>?_)
   rotate_left
   .rw[e1]at hn;refine C1 (C2 (hn) ?_);exact .of_eq (Aa Ra (no (by unfold Hy;grind)))
   rw[e1]at hn;refine C1 (C2 (hn) (AN (Bt (((BP p)[i]).data.toList.all Vt)) (fun e2=>?_) (fun e2=>?_)))
   rotate_left
   .rw[e2]at ha;refine C1 (C2 (ha) ?_);exact .of_eq (Aa Ra (no (by unfold Hy;grind)))
   rw[e2]at ha;refine C1 (C2 (ha) (Yi (Ii i ch) (Xi ⟨i+1,by omega,fun j hj FI=>?_⟩ ?_)))
   .rcases B2 j i with z | z
    .exact i2 j hj z
    .have:j=i:=by omega
     subst this;unfold Hy;grind
   .exact⟨by show(BP p).length-(i+1)<(BP p).length-i;omega,Z4,Tv,Fh,Tv⟩
  .intro h;have h:¬i<(BP p).length:=by simpa using h
   have e:some n=A5 p:=by
    rw[em2,Ay];exact A3.2 fun x hx=>by
     obtain⟨j,hj,rfl⟩:=NN hx;exact i2 j hj ch
   exact .of_eq (Aa Ra e)
theorem AdM(hp:ED p):PC 233 [vs p] (vb (A5 p).isSome):=by
 have hc:=zA p hp;cases h:A5 p with
 |none=>
  rw[h]at hc;refine Ps C3 func233 rfl (Nz rfl) (C1 (C2 (hc) (Yi ?_ ?_)))
  .intro h;exact absurd (show(4:Int)=0 from h) Cl
  .intro _;exact .refl _
 |some n=>
  rw[h]at hc;refine Ps C3 func233 rfl (Nz rfl) (C1 (C2 (hc) (Yi ?_ ?_)))
  .intro _;exact .refl _
  .intro h;exact absurd rfl h
theorem OS(c:UInt8):∀s:List UInt8,2<=(CM c s).length->c∈s
 | [],h=>by grind [CM]
 |b::r,h=>by
  rw[CM]at h
  by_cases e:b=c
  .simp_all
  .rw[Az e]at h;refine Ao _ (OS c r ?_)
   grind
theorem od{p:CS}{m:Int}(h:A5 p=some m):0<=Go.Lib.lastIndex p.data.toList [47]/\Go.Lib.lastIndex p.data.toList [47]<=p.size:=by
 have h2:2<=(CM 47 p.data.toList).length:=by
  grind [A5,Rb]
 have hm:=OS 47 _ h2;obtain⟨i,hi,e⟩:=NN hm;have Fg:p.size=p.data.toList.length:=by simp
 unfold Go.Lib.lastIndex;rw[Ay (by grind)];have Akk:Go.Lib.occAt p.data.toList [47] i=true:=by
  grind [Go.Lib.occAt,List.drop_eq_getElem_cons]
 grind [Go.Lib.lastOcc_spec]
abbrev QZ:CS:=p.extract 0 (Go.Lib.lastIndex p.data.toList [47]).toNat
theorem VY:VU QZ:=by
 intro p hp;have hc:=zA p hp;have hi:=AdM p hp;unfold PS;cases h:A5 p with
 |none=>
  rw[h]at hc hi;refine Ps C3 func167 rfl (Nz rfl) (C1 (C2 (hc) (C1 (C2 (hi) ?_))));exact .refl _
 |some n=>
  rw[h]at hc hi;obtain⟨l1,l2⟩:=od h;have hl:PC 234 [vs p,vs di] (vi (Go.Lib.lastIndex p.data.toList [47])):=AdN p di hp;refine Ps C3 func167 rfl (Nz rfl) (C1 (C2 (hc) (C1 (C2 (hi) (Yi ?_ ?_)))))
  .intro h;exact absurd rfl h
  intro _;refine C1 (C2 (hl) (Yi ⟨Bv _,l1,l2⟩ ?_));exact .refl _
theorem M8{l:List Rq}(h:AR l=0):l.length<=16:=by
 grind [AR]
theorem JS{x:List Rl}(h:AC x=0):x.length<=256/\∀r∈x,r.reqs.length<=16:=by
 have h1:x.length<=256:=by
  grind [AC]
 exact⟨h1,fun r hr=>M8 ((B3 h).1 r hr).reqs⟩
theorem mS{x:List Rl}(h:∀r∈x,r.reqs.length<=16):((x.map (·.reqs)).flatten).length<=x.length*16:=by
 induction x<;>grind
theorem eY{x:List Rl}{roots:List Rq}{l:List Nf}(h1:AC x=0)(h2:AR roots=0)(h3:l.length<=65536):(KO x roots l).length<=100000:=by
 grind [JS,mS,M8,KO]
theorem VT.fewI{U:List CS}{t:List Tm}(h:VT U t)(hu:U.length<=100000):vC t:=
 ⟨by have:=h.len;omega,fun u hu=>S7 (h.1.canon u hu)⟩
abbrev Fr(x:List Rl)(ifs:C0):AV:=.agg (Ic x ifs)
abbrev ZH:EU:=⟨true,[.str,.int .i64,.int .i64,.int .i64]⟩
abbrev Xk(y:Sl):Value:=.agg #[.string y.path,.int .i64 y.ver.a,.int .i64 y.ver.b,.int .i64 y.ver.c]
abbrev Xn:Value×AV:=(Xk (EL r),.agg (Ah r))
def AS:List Rl->List CS->List CS
 | [],acc=>acc
 |r::x,acc=>AS x (if acc.any (fun p=>decide (p=r.path))then acc else acc++[r.path])
abbrev uY(x:List Rl)(p:CS):Value×AV:=(.string p,sl Ah (x.filter fun r=>decide (r.path=p)))
abbrev tH(x:List Rl):AV:=if AC x=0 then .tup [.agg [.cmap ZH (x.map Xn),.cmap B4 ((AS x []).map (uY x))],vi 0]else .tup [.agg [.cmap ZH [],.cmap B4 []],vi (AC x)]
abbrev ul(x:List Rl)(ifs:C0):Prop:=PC 82 [Fr x ifs] (tH x)
theorem Aei:PC 83 [.agg qP] (.agg qP):=by
 refine Ps C3 func83 rfl (Nz rfl) (yN (Xi Unit (Xi (fun _=>⟨[(1,.ref 1 0),(2,.ref 2 0),(10,vi 0),(11,vi 0)],[(1,.cells qP),(2,.cells qP)],Ac⟩) (Xi (fun _=>0) (Yi (Xi () ?_) ?_)))))
 .exact⟨Z4,Z2,Fh,Tv⟩
 intro _;refine Yi ?_ ?_
 .intro h;exact absurd (show(0:Int)<0 from h) Cl
 .intro _;refine Yi (Nz rfl) (Yi (Nz rfl) (yN ?_));exact .refl _
theorem sq{y z:Sl}(h:Xk y=Xk z):y=z:=by
 obtain⟨p,⟨a,b,c⟩⟩:=y<;>simp_all
theorem gJ{x:List Rl}{y:Sl}(h:(Xk y,a)∈x.map Xn):∃r∈x,EL r=y/\a=.agg (Ah r):=by
 grind [sq]
theorem mR{x:List Rl}(hx:AC x=0){r:Rl}(hr:r∈x):BQ x (EL r)=some r:=by
 unfold BQ;rw[Az ch];cases h:x.find? (fun s=>decide (EL s=EL r))with
 |none=>
  grind
 |some s=>
  have h1:=DV h;simp only[Bd]at h1;have hs:=BA h;have hp:=(B3 hx).2
  grind [List.mem_iff_getElem,List.pairwise_iff_getElem,Hi]
theorem c53(x:List Rl)(ifs:C0)(p:CS)(v:Ver)(nk:ul x ifs)(hx:∀r∈x,CT r):PC 42 [Fr x ifs,vs p,.agg (CC v)] (N5 (BQ x ⟨p,v⟩)):=by
 have hz:=Aei
 by_cases h0:AC x=0
 .have nk:PC 82 [Fr x ifs] (.tup [.agg [.cmap ZH (x.map Xn),.cmap B4 ((AS x []).map (uY x))],vi 0]):=by
   grind
  refine Ps (Hx []) func42 rfl (Nz rfl) (yN (C1 (C2 (nk) (yN (yN (Yi ?_ ?_))))))
  .intro a ha;refine AX (gJ (y:=⟨p,v⟩) ha) (fun r hr=>?_);have e:=hr.2.2;subst e;have hf:BQ x ⟨p,v⟩=some r:=by grind [mR]
   have sb:=(JS h0).2 r hr.1;have hc:=c98 r ch (fun q hq=>((hx r hr.1).2 q hq).1);refine yN (yN (C1 (C2 (hc) (Yi (Nz rfl) (yN ?_)))));exact .of_eq (show AV.tup [.agg (Ah r),vb true]=N5 (BQ x ⟨p,v⟩) by rw[hf])
  .intro hn;have hf:BQ x ⟨p,v⟩=none:=by
    cases h:BQ x ⟨p,v⟩with
    |none=>rfl
    |some r=>
     obtain⟨_,h2,h3⟩:=Iq h;exact absurd (Ax.2 ⟨r,h2,by simp_all⟩) (hn (.agg (Ah r)))
   refine yN (yN (C1 (C2 (hz) (Yi (Nz rfl) (yN ?_)))));exact .of_eq (show AV.tup [.agg qP,vb false]=N5 (BQ x ⟨p,v⟩) by rw[hf])
 .have nk:PC 82 [Fr x ifs] (.tup [.agg [.cmap ZH [],.cmap B4 []],vi (AC x)]):=by
   grind
  have hf:BQ x ⟨p,v⟩=none:=by grind [BQ]
  refine Ps (Hx []) func42 rfl (Nz rfl) (yN (C1 (C2 (nk) (yN (yN (Yi ?_ ?_))))))
  .intro a ha;cases ha
  .intro _;refine yN (yN (C1 (C2 (hz) (Yi (Nz rfl) (yN ?_)))));exact .of_eq (show AV.tup [.agg qP,vb false]=N5 (BQ x ⟨p,v⟩) by rw[hf])
abbrev EN(l:List Rl):A1:=(l.filter fun r=>!r.yanked).map fun r=>(plc r.ver,plc r.ver+1)
theorem fA(l:List Rl):(EN l).length<=l.length:=by
 grind
theorem sw{x:List Rl}{ps:List CS}{p:CS}(h:(Value.string p,a)∈ps.map (uY x)):a=sl Ah (x.filter fun r=>decide (r.path=p)):=by
 grind
theorem Gz:∀(x:List Rl) (acc:List CS) (p:CS),p∈AS x acc↔p∈acc\/∃r∈x,r.path=p
 | [],acc,p=>by simp[AS]
 |r::x,acc,p=>by
  rw[AS,Gz x]
  grind
abbrev vd:Qz:=(pT [] [(7,2)] [])
theorem WJ(L:List Rl)(i:Nat)(h:i<L.length):EN (L.take (i+1))=EN (L.take i)++(if L[i].yanked then []else [(plc L[i].ver,plc L[i].ver+1)]):=by
 unfold EN;rw[Dr,Ge h,List.filter_append,AF]
 grind
theorem AdQ(x:List Rl)(ifs:C0)(p:CS)(nk:ul x ifs):PC 185 [Fr x ifs,vs p] (sl Ag (B6 x p)):=by
 by_cases h0:AC x=0
 .have nk:PC 82 [Fr x ifs] (.tup [.agg [.cmap ZH (x.map Xn),.cmap B4 ((AS x []).map (uY x))],vi 0]):=by
   grind
  have Wc:=(JS h0).1;obtain⟨L,lz⟩:∃L,L=x.filter fun r=>decide (r.path=p):=⟨_,rfl⟩;have hL:LR x p=L:=by grind [LR]
  have hLl:L.length<=256:=by grind
  refine Ps vd func185 rfl (Nz rfl) (yN (C1 (C2 (nk) (yN (Yi ?_ ?_)))))
  .intro a ha;have ea:a=sl Ah L:=by grind
   subst ea;refine Xi {i:Nat // i<=L.length} (Xi (fun i=>⟨[(7,.slice (.id 7 2) ((EN (L.take i.1)).map Ag)),(18,sl Ah L),(19,vi (L.map Ah).length),(20,vi i.1)],[(7,.tok 2 ((EN (L.take i.1)).map Ag).length)],Ac⟩) (Xi (fun i=>L.length-i.1) (Yi (Xi ⟨0,Al _⟩ ?_) ?_)))
   .exact⟨Z4,Z1,Fh,Tv⟩
   intro⟨i,i1⟩;have Ou:=fA (L.take i);rw[AD]at Ou;refine Yi ?_ ?_
   .intro h;have h:i<L.length:=by simp_all
    have hg:L[i]?=some L[i]:=Ge h;refine Xi (Ah L[i]) (Yi (Yi ch (by simp_all)) (Yi rfl ?_));refine Yi (Nz rfl) (yN (Yi ?_ ?_))
    .intro hy;refine Yi (by grind [Av]) ?_;have es:EN (L.take (i+1))=EN (L.take i):=by rw[WJ L i h,hy];simp
     have e1:AV.slice (.id 7 2) ((EN (L.take i)).map Ag)=.slice (.id 7 2) ((EN (L.take (i+1))).map Ag):=by rw[es]
     have e2:HO.tok 2 ((EN (L.take i)).map Ag).length=.tok 2 ((EN (L.take (i+1))).map Ag).length:=by rw[es]
     refine Xi ⟨i+1,by omega⟩ ?_;exact⟨by grind,⟨⟨e1,rfl⟩,Zr,Zr,Zr,Tv⟩,⟨⟨e2,rfl⟩,Tv⟩,Fh,Tv⟩
    .intro hy;have nI:=tb L[i].ver;refine yN (C2 (c88 L[i]) (yN (C2 (c88 L[i]) (Yi (by grind [Av]) ?_))));have FZ:Bi 2 [[vi (plc L[i].ver),vi (plc L[i].ver+1)]]/\((EN (L.take i)).map Ag).length=((EN (L.take i)).map Ag).length/\(((EN (L.take i)).map Ag).length+[[vi (plc L[i].ver),vi (plc L[i].ver+1)]].length)*16<=140737488355328/\((EN (L.take i)).map Ag).length+[[vi (plc L[i].ver),vi (plc L[i].ver+1)]].length<=9223372036854775807:=
      ⟨⟨rfl,trivial⟩,rfl,by grind,by grind⟩
     refine Yi FZ (Yi Wk (Yi (by grind [Av]) ?_));have es:EN (L.take (i+1))=EN (L.take i)++[(plc L[i].ver,plc L[i].ver+1)]:=by rw[WJ L i h,hy];simp
     have e1:AV.slice (.id 7 2) ((EN (L.take i)).map Ag++[[vi (plc L[i].ver),vi (plc L[i].ver+1)]])=.slice (.id 7 2) ((EN (L.take (i+1))).map Ag):=by simp_all
     have e2:HO.tok 2 (((EN (L.take i)).map Ag).length+[[vi (plc L[i].ver),vi (plc L[i].ver+1)]].length)=.tok 2 ((EN (L.take (i+1))).map Ag).length:=by simp_all
     refine Xi ⟨i+1,by omega⟩ ?_;exact⟨by grind,⟨⟨e1,rfl⟩,Zr,Zr,Zr,Tv⟩,⟨⟨e2,rfl⟩,Tv⟩,Fh,Tv⟩
   .intro h;have h:¬i<L.length:=by simp_all
    have et:L.take i=L:=Au ch;have hc:PC 169 [sl Ag (EN (L.take i))] (sl Ag (canon (EN (L.take i)))):=Yo _ ch;refine C1 (C2 (hc) ?_);exact .of_eq (show sl Ag (canon (EN (L.take i)))=sl Ag (B6 x p) by grind [B6])
  .intro hn;have hL:LR x p=[]:=by
    rw[hL,lz,List.filter_eq_nil_iff];intro r hr he;have he:=AW he;exact hn _ (Ax.2 ⟨p,(Gz x [] p).2 (.inr ⟨r,hr,he⟩),rfl⟩)
   refine Xi Unit (Xi (fun _=>⟨[(7,.slice (.id 7 2) []),(19,vi 0),(20,vi 0)],[(7,.tok 2 0)],Ac⟩) (Xi (fun _=>0) (Yi (Xi () ?_) ?_)))
   .exact⟨Z3,Z1,Fh,Tv⟩
   intro _;refine Yi ?_ ?_
   .intro h;exact absurd (show(0:Int)<0 from h) Cl
   intro _;have hc:PC 169 [sl Ag []] (sl Ag (canon [])):=Yo [] (by simp_all);refine C1 (C2 (hc) ?_);exact .of_eq (show sl Ag (canon [])=sl Ag (B6 x p) by grind [B6])
 .have nk:PC 82 [Fr x ifs] (.tup [.agg [.cmap ZH [],.cmap B4 []],vi (AC x)]):=by
   grind
  have hL:LR x p=[]:=by grind [LR]
  refine Ps vd func185 rfl (Nz rfl) (yN (C1 (C2 (nk) (yN (Yi ?_ ?_)))))
  .intro a ha;cases ha
  .intro _;refine Xi Unit (Xi (fun _=>⟨[(7,.slice (.id 7 2) []),(19,vi 0),(20,vi 0)],[(7,.tok 2 0)],Ac⟩) (Xi (fun _=>0) (Yi (Xi () ?_) ?_)))
   .exact⟨Z3,Z1,Fh,Tv⟩
   intro _;refine Yi ?_ ?_
   .intro h;exact absurd (show(0:Int)<0 from h) Cl
   intro _;have hc:PC 169 [sl Ag []] (sl Ag (canon [])):=Yo [] (by simp_all);refine C1 (C2 (hc) ?_);exact .of_eq (show sl Ag (canon [])=sl Ag (B6 x p) by grind [B6])
theorem TJ(x:List Rl)(p:CS):BJ (B6 x p):=by
 grind [B6,In,Cc]
theorem LV:∀(y:List Rl) (acc:List CS) (r:Rl),AS (y++[r]) acc=if(AS y acc).any (fun p=>decide (p=r.path))then AS y acc else AS y acc++[r.path]
 | [],acc,r=>rfl
 |s::y,acc,r=>by rw[FO,AS,AS,LV y]
theorem E1:∀(y:List Rl) (acc:List CS),acc.Nodup->(AS y acc).Nodup
 | [],_,h=>h
 |s::y,acc,h=>by
  rw[AS];refine E1 y _ ?_
  grind
abbrev eJ:C0:=(y.filter fun r=>decide (r.path=p)).map Ah
abbrev zW(q:CS×Nat):Value×AV:=(.string q.1,.slice (.id (q.2+50) 9) (eJ y q.1))
abbrev Uo:List (Value×AV):=(AS y []).zipIdx.map (zW y)
def L3(l:Nat):HO:=match(AS y [])[l]? with
 |some q=>.tok 9 (eJ y q).length
 |none=>.free
def WZ:HO:=bif Nat.ble 50 j then L3 y (j-50)else .free
theorem HW(l:Nat):WZ y (l+50)=L3 y l:=by
 grind [WZ,Nat.ble_eq]
theorem wG{j:Nat}(h:j<50):WZ y j=.free:=by
 grind [WZ,Nat.ble_eq]
open Classical in
theorem MW(h:∀a',(k,a')∉B1):EM B1 k a=B1++[(k,a)]:=by
 grind [EM]
open Classical in
theorem bD{a':AV}(h:(k,a')∈B1):EM B1 k a=B1.map fun p=>if p.1=k then(k,a)else p:=by
 unfold EM;rw[Ay ⟨a',h⟩]
section
variable {y:List Rl}{r:Rl}{k:Nat}
theorem NE(h:(AS y [])[k]?=some r.path):AS (y++[r]) []=AS y []:=by
 grind [LV]
theorem ND(h:r.path∉AS y []):AS (y++[r]) []=AS y []++[r.path]:=by
 grind [LV]
theorem JA{l:List CS}(hd:l.Nodup){i j:Nat}{p:CS}(h1:l[i]?=some p)(h2:l[j]?=some p):i=j:=by
 grind [List.getElem_inj]
open Classical in
theorem rK(h:(AS y [])[k]?=some r.path):EM (Uo y) (.string r.path) (.slice (.id (k+50) 9) (eJ y r.path++[Ah r]))=Uo (y++[r]):=by
 have hd:=E1 y [] O0;have hm:zW y (r.path,k)∈Uo y:=Ax.2 ⟨_,HH.2 h,rfl⟩;rw[bD (a':=.slice (.id (k+50) 9) (eJ y r.path)) hm];unfold Uo;rw[NE h,Br];refine BZ fun q hq=>?_
 grind [JA]
theorem gX(h:r.path∉AS y []):eJ y r.path=[]:=by
 grind [List.filter_eq_nil_iff,Gz]
theorem m9(h:r.path∉AS y [])(a:AV):(Value.string r.path,a)∉Uo y:=by
 grind
theorem rJ(h:r.path∉AS y []):EM (Uo y) (.string r.path) (.slice (.id ((AS y []).length+50) 9) [Ah r])=Uo (y++[r]):=by
 grind [MW,ND,List.map_congr_left,gX]
theorem ne{p:CS}{j:Nat}(h:(AS y [])[j]?=some p):(Value.string p,AV.slice (.id (j+50) 9) (eJ y p))∈Uo y/\∀b,(Value.string p,b)∈Uo y->b=AV.slice (.id (j+50) 9) (eJ y p):=by
 refine⟨Ax.2 ⟨(p,j),HH.2 h,rfl⟩,fun b hb=>?_⟩
 grind [JA,E1]
theorem pX{p:CS}{j:Nat}(h:(AS y [])[j]?=some p):L3 y j=.tok 9 (eJ y p).length:=by
 grind [L3]
theorem tL(h:(AS y [])[k]?=some r.path)(l:Nat):(bif Nat.beq (l+50) (k+50)then HO.tok 9 ((eJ y r.path).length+1)else L3 y l)=L3 (y++[r]) l:=by
 grind [Nat.beq_refl,L3,NE,Nat.eq_of_beq_eq_true,JA,E1]
theorem tK(h:r.path∉AS y [])(l:Nat):(bif Nat.beq (l+50) ((AS y []).length+50)then HO.tok 9 1 else L3 y l)=L3 (y++[r]) l:=by
 grind [Nat.beq_refl,L3,ND,gX,Nat.eq_of_beq_eq_true]
end
theorem QT{h:Nat->HO}:∀{B1:List (Value×AV)},(∀p∈B1,UD h p.2=true)->Sd h B1=true
 | [],_=>rfl
 |p::r,hk=>by
  unfold Sd;rw[hk p (Af ..)];exact QT (fun q hq=>hk q (Ao _ hq))
theorem LJ(hh:∀l,h (l+50)=L3 y l):Sd h (Uo y)=true:=by
 refine QT fun p hp=>?_;obtain⟨q,h1,rfl⟩:=Ax.1 hp;show SN h (q.2+50)=true
 grind [SN,pX]
theorem JN{y:List Rl}{h':Nat->HO}(hh:∀l,h (l+50)=L3 y l)(j:Nat):WZ y j=.free\/(h j=WZ y j/\SO h' (WZ y j)=true):=by
 by_cases hj:j<50
 .grind [wG]
 .obtain⟨l,rfl⟩:∃l,j=l+50:=⟨j-50,by omega⟩
  right
  rw[HW];refine⟨hh l,?_⟩;unfold L3;cases (AS y [])[l]?<;>rfl
theorem th{x:List Rl}(hx:AC x=0){i:Nat}(hi:i<x.length):EM ((x.take i).map Xn) (Xk (EL x[i])) (.agg (Ah x[i]))=(x.take (i+1)).map Xn:=by
 rw[MW]
 .rw[Dr,Ge hi,AF];rfl
 intro a ha;obtain⟨r,hr,he,_⟩:=gJ ha;obtain⟨j,hj,e2⟩:=Cw.1 hr;rw[AD]at hj;rw[List.getElem_take]at e2;have hp:=(B3 hx).2
 grind [List.pairwise_iff_getElem,Hi]
abbrev Ab8:Qz:=⟨[],[],[],[],[8,9],[9],[40],[],[],[],[8,9,10,11]⟩
abbrev zT:List AV:=[.v (.map none),.v (.map none)]
theorem rt(x:List Rl)(ifs:C0)(wB:PC 86 [Fr x ifs] (vi (AC x)))(h0:AC x≠0):ul x ifs:=by
 have ht:tH x=.tup [.agg [.cmap ZH [],.cmap B4 []],vi (AC x)]:=by simp_all
 unfold ul;rw[ht];refine Ps Ab8 func82 rfl (Nz rfl) (Xi 0 (Xi 0 (yN (Xi 0 (yN (C1 (C2 (wB) (Xi 0 (Yi ?_ ?_)))))))))
 .intro _;refine Xi 0 (yN (yN (yN ?_)));exact .refl _
 .intro h;exact absurd h (fun hc=>hc h0)
theorem Hw:∀(y:List Rl) (acc:List CS),(AS y acc).length<=acc.length+y.length
 | [],acc=>by simp[AS]
 |r::y,acc=>by
  rw[AS];refine AH (Hw y _) ?_
  grind
section
attribute [local irreducible] Ix
theorem wk(x:List Rl)(ifs:C0)(wB:PC 86 [Fr x ifs] (vi (AC x)))(h0:AC x=0)(Dd:x.length<=256):ul x ifs:=by
 have ht:tH x=.tup [.agg [.cmap ZH (x.map Xn),.cmap B4 ((AS x []).map (uY x))],vi 0]:=by simp_all
 unfold ul;rw[ht];rw[h0]at wB;refine Ps Ab8 func82 rfl (Nz rfl) (Xi 0 (Xi 0 (yN (Xi 0 (yN (C1 (C2 (wB) (Xi 0 (Yi ?_ ?_)))))))))
 .intro hc;exact absurd (show(0:Int)≠0 from hc) Cl
 intro _;refine Xi 0 (Xi {i:Nat // i<=x.length} (Xi (fun i=>⟨[(2,.ref 2 0),(4,.ref 4 0),(18,sl Ah x),(19,vi (x.map Ah).length),(20,vi i.1)],[(2,.cells zT),(4,.cells [.mref 8,.mref 9]),(8,.map ZH ((x.take i.1).map Xn)),(9,.mapU B4 (Uo (x.take i.1)))],WZ (x.take i.1)⟩) (Xi (fun i=>x.length-i.1) (Yi (Xi ⟨0,Al _⟩ ?_) ?_))))
 .refine⟨Z5,Z4,fun j=>.inl ?_,Tv⟩;show WZ [] j=.free;unfold WZ;cases Nat.ble 50 j<;>rfl
 intro⟨i,i1⟩;refine Xi 0 (Yi ?_ ?_)
 .intro h;have h:i<x.length:=by simp_all
  have hg:x[i]?=some x[i]:=Ge h;have PM:x.take (i+1)=x.take i++[x[i]]:=by simp_all
  refine Xi 0 (Xi (Ah x[i]) (Yi (Yi ch (by simp_all)) (Yi rfl ?_)));refine Yi (Nz rfl) (yN (Xi ⟨[(2,.ref 2 0),(4,.ref 4 0),(7,.ref 7 0),(18,sl Ah x),(19,vi (x.map Ah).length),(20,vi i)],[(2,.cells zT),(4,.cells [.mref 8,.mref 9]),(7,.cells (Ah x[i])),(8,.map ZH ((x.take i).map Xn)),(9,.mapU B4 (Uo (x.take i)))],WZ (x.take i)⟩ (Yi ?_ ?_)))
  .exact⟨Z6,⟨Zr,Zr,Zr,Zr,⟨rfl,LJ _ (HW _)⟩,Tv⟩,JN (HW _),Tv⟩
  refine Xi 0 (yN (C2 (vS x[i]) (yN (Yi Wk ?_))));have e8:EM ((x.take i).map Xn) (Xk (EL x[i])) (.agg (Ah x[i]))=(x.take (i+1)).map Xn:=th h0 h;refine Xi ⟨[(2,.ref 2 0),(4,.ref 4 0),(7,.ref 7 0),(18,sl Ah x),(19,vi (x.map Ah).length),(20,vi i)],[(2,.cells zT),(4,.cells [.mref 8,.mref 9]),(7,.cells (Ah x[i])),(8,.map ZH ((x.take (i+1)).map Xn)),(9,.mapU B4 (Uo (x.take i)))],WZ (x.take i)⟩ (Yi ?_ ?_)
  .exact⟨Z6,⟨Zr,Zr,Zr,⟨Aa (HO.map ZH) e8,rfl⟩,⟨rfl,LJ _ (HW _)⟩,Tv⟩,JN (HW _),Tv⟩
  have hL:((x.take i).filter (fun r=>decide (r.path=x[i].path))).length<=256:=by
   grind
  have hP:∀l,WZ (x.take i) (l+50)=L3 (x.take i) l:=HW _;refine AN (Classical.em (x[i].path∈AS (x.take i) [])) (fun hp=>?_) (fun hp=>?_)
  .refine AX (Ee.1 hp) (fun k hk=>?_);have hu:=ne hk;refine Xi 0 ?_;refine Or.inl (Xi (.slice (.id (k+50) 9) (eJ (x.take i) x[i].path)) (Yi hu ?_));refine yN ?_;have hr:WZ (x.take i) (k+50)=.tok 9 (eJ (x.take i) x[i].path).length:=by rw[hP,pX hk]
   have hl:(eJ (x.take i) x[i].path).length<=256:=by grind
   refine RR (e:=78) (m:=8) (es2:=[Ah x[i]]) rfl rfl rfl (fun _ h=>h) hr ⟨rfl,trivial⟩ (by show(_+1)*120<=_;omega) (by grind) ?_;have Aar:k<256:=by
    have:=(Bf.1 hk).1
    have:=Hw (x.take i) []
    grind
   have qH:=hk;refine Yi (Jn ⟨AQ _,AQ _,AQ _,AQ _,AQ _,AQ _,AQ _,AQ _,AQ _,AQ _,Eb (show 39<10000000 by decide),Eb ch,Eb (show 9<10000000 by decide),trivial⟩ Wk) ?_;have e9:EM (Uo (x.take i)) (.string x[i].path) (.slice (.id (k+50) 9) (eJ (x.take i) x[i].path++[Ah x[i]]))=Uo (x.take (i+1)):=by rw[PM];exact rK qH
   have hG:∀l,(bif Nat.beq (l+50) (k+50)then HO.tok 9 ((eJ (x.take i) x[i].path).length+1)else L3 (x.take i) l)=L3 (x.take (i+1)) l:=by rw[PM];exact tL qH
   refine Xi ⟨[(2,.ref 2 0),(4,.ref 4 0),(18,sl Ah x),(19,vi (x.map Ah).length),(20,vi i)],[(2,.cells zT),(4,.cells [.mref 8,.mref 9]),(8,.map ZH ((x.take (i+1)).map Xn)),(9,.mapU B4 (Uo (x.take (i+1))))],WZ (x.take (i+1))⟩ (Yi ?_ ?_)
   .refine⟨Z5,⟨Zr,Zr,Zr,⟨Aa (HO.mapU B4) e9,LJ _ (HW _)⟩,Tv⟩,JN (fun l=>?_),Tv⟩;show(bif Nat.beq (l+50) (k+50)then HO.tok 9 ((eJ (x.take i) x[i].path).length+1)else WZ (x.take i) (l+50))=_
    grind
   refine Xi 0 (Yi (Ii i ch) (Xi ⟨i+1,by omega⟩ ?_));exact⟨by grind,Z5,⟨Zr,Zr,Zr,⟨rfl,LJ _ (HW _)⟩,Tv⟩,JN (HW _),Tv⟩
  .have qH:=hp;have PL:(AS (x.take i) []).length<=256:=by
    have:=Hw (x.take i) []
    grind
   have hn:=m9 hp;refine Xi ((AS (x.take i) []).length+50) ?_;refine Or.inr (Yi hn ?_);refine yN ?_;have hr:WZ (x.take i) ((AS (x.take i) []).length+50)=.free:=by
    rw[hP];unfold L3;simp_all
   refine RQ (e:=78) (m:=8) (es2:=[Ah x[i]]) rfl rfl rfl (fun _ h=>h) hr rfl ⟨rfl,trivial⟩ (by show 1*120<=_;omega) (by simp_all) ?_;refine Yi (Jn ⟨AQ _,AQ _,AQ _,AQ _,AQ _,AQ _,AQ _,AQ _,AQ _,AQ _,Eb (show 39<10000000 by decide),Eb (by show _+50<10000000;omega),Eb (show 9<10000000 by decide),trivial⟩ Wk) ?_;have e9:EM (Uo (x.take i)) (.string x[i].path) (.slice (.id ((AS (x.take i) []).length+50) 9) [Ah x[i]])=Uo (x.take (i+1)):=by rw[PM];exact rJ qH
   have hG:∀l,(bif Nat.beq (l+50) ((AS (x.take i) []).length+50)then HO.tok 9 1 else L3 (x.take i) l)=L3 (x.take (i+1)) l:=by rw[PM];exact tK qH
   refine Xi ⟨[(2,.ref 2 0),(4,.ref 4 0),(18,sl Ah x),(19,vi (x.map Ah).length),(20,vi i)],[(2,.cells zT),(4,.cells [.mref 8,.mref 9]),(8,.map ZH ((x.take (i+1)).map Xn)),(9,.mapU B4 (Uo (x.take (i+1))))],WZ (x.take (i+1))⟩ (Yi ?_ ?_)
   .refine⟨Z5,⟨Zr,Zr,Zr,⟨Aa (HO.mapU B4) e9,LJ _ (HW _)⟩,Tv⟩,JN (fun l=>?_),Tv⟩;show(bif Nat.beq (l+50) ((AS (x.take i) []).length+50)then HO.tok 9 1 else WZ (x.take i) (l+50))=_;simp_all
   refine Xi 0 (Yi (Ii i ch) (Xi ⟨i+1,by omega⟩ ?_));exact⟨by grind,Z5,⟨Zr,Zr,Zr,⟨rfl,LJ _ (HW _)⟩,Tv⟩,JN (HW _),Tv⟩
 .intro h;have h:¬i<x.length:=by simp_all
  have et:x.take i=x:=Au ch;refine Xi ⟨[(2,.ref 2 0),(4,.ref 4 0)],[(2,.cells zT),(4,.cells [.mref 8,.mref 9]),(8,.map ZH ((x.take i).map Xn)),(9,.mapU B4 (Uo (x.take i)))],WZ (x.take i)⟩ (Yi ?_ ?_)
  .exact⟨Z2,⟨Zr,Zr,Zr,⟨rfl,LJ _ (HW _)⟩,Tv⟩,JN (HW _),Tv⟩
  refine Xi 0 (yN (yN (yN ?_)));have es:∀h:Nat->HO,SW h (Uo (x.take i))=(AS x []).map (uY x):=fun h=>by
   rw[et];unfold SW Uo;rw[Br];refine Da fun j=>?_;rw[BH,BH,List.getElem?_zipIdx];cases (AS x [])[j]?<;>rfl
  have e1:(x.take i).map Xn=x.map Xn:=by rw[et]
  exact .of_eq (show AV.tup [.agg [.cmap ZH ((x.take i).map Xn),.cmap B4 (SW _ (Uo (x.take i)))],vi 0]=_ by rw[e1,es])
end
theorem c84(x:List Rl)(ifs:C0)(hx:∀r∈x,CT r):ul x ifs:=by
 by_cases h0:AC x=0
 .exact wk x ifs (yG VY x ifs hx) h0 (JS h0).1
 .exact rt x ifs (yG VY x ifs hx) h0
abbrev plT(n:Nat):Qz:=⟨[],[(2,n)],[],[],[],[],[5],[],[],[],[2,3]⟩
theorem wj(l:List Sl)(hl:BJ l):AP Tryz.prog 138 [sl Ab l] (Ai [] Ac) fun r h'=>r=.slice (.id 2000 4) (l.map Ab)/\h'=Ai [(2000,.tok 4 (l.map Ab).length)] Ac:=by
 refine BO (LB (plT 4)) [(2,2000)] rfl Ck hm rfl func138 Wk rfl (Nz rfl) Wk rfl ?_;have FZ:Bi 4 (l.map Ab)/\([]:C0).length=0/\(([]:C0).length+(l.map Ab).length)*40<=140737488355328/\([]:C0).length+(l.map Ab).length<=9223372036854775807:=by
  grind [CJ]
 have e2:HO.tok 4 (([]:C0).length+(l.map Ab).length)=.tok 4 (l.map Ab).length:=by simp_all
 have e3:AV.slice (.id 2000 4) ([]++l.map Ab)=.slice (.id 2000 4) (l.map Ab):=rfl;refine Xi 0 (Xi 0 (Yi ?_ ?_))
 .intro _;refine cU [(0,sl Ab l)] [] Z1 Tv (Xi 2 (Yi FZ ?_));exact C2 (.refl _) (Yi e3 (Aa (fun o=>Ai [(2000,o)] Ac) e2))
 .intro h;refine Yi ?_ ?_
  .refine Xi ⟨[],[],Ac⟩ (Yi ⟨trivial,trivial,fun _=>.inl rfl,A4 Wk⟩ ?_);refine Xi 0 ?_;exact C2 (.refl _) (Yi (show AV.slice (.id 2000 4) []=_ by rw[h]) (show Ai [(2000,HO.tok 4 0)] Ac=_ by simp_all))
  .refine cU [(0,sl Ab l)] [] Z1 Tv (Xi 2 (Yi FZ ?_));exact C2 (.refl _) (Yi e3 (Aa (fun o=>Ai [(2000,o)] Ac) e2))
def H1:Option CS:=if CF before q.path then acc else match acc with
  |none=>some q.path
  |some p=>if Dz q.path p then some q.path else some p
theorem N3(before:List Sl):∀(a b:List Rq) (acc:Option CS),CZ before (a++b) acc=CZ before b (CZ before a acc)
 | [],_,_=>rfl
 |q::a,b,acc=>N3 before a b (if CF before q.path then acc else match acc with |none=>some q.path |some p=>if Dz q.path p then some q.path else some p)
theorem IS{j:Nat}(h:j<l.length):CZ before (l.take (j+1)) acc=H1 before (CZ before (l.take j) acc) l[j]:=by
 rw[Dr,Ge h];show CZ before (l.take j++[l[j]]) acc=_;rw[N3];rfl
def OP:Bool:=decide (q.path.size<=100)&&decide (q.set.length<=8)
def Et:Bool:=l.all OP&&decide (l.length<=20)
theorem c35(hl:BJ l):PC 30 [sl As l] (vb (Et l)):=by
 unfold BJ at hl;refine Ps C3 func30 rfl (Nz rfl) (Xi {i:Nat // i<=l.length/\∀j (hj:j<l.length),j<i->OP l[j]=true} (Xi (fun i=>⟨[(0,sl As l),(3,vi i.1)],[],Ac⟩) (Xi (fun i=>l.length-i.1) (Yi (Xi ⟨0,Al _,fun j _ h=>by omega⟩ ?_) ?_))))
 .exact⟨Z2,Tv,Fh,Tv⟩
 intro⟨i,h1,h2⟩;refine Yi ?_ ?_
 .intro h;have h:i<l.length:=by simp_all
  have hg:l[i]?=some l[i]:=Ge h;have no:OP l[i]=false->false=Et l:=fun e=>by
   grind [Et]
  refine Xi (As l[i]) (Yi (Yi ch (by simp_all)) (Yi rfl ?_));refine Yi ?_ ?_
  .intro h3;exact .of_eq (Aa vb (no (by grind [OP])))
  intro h3;refine Xi (As l[i]) (Yi (Yi ch (by simp_all)) (Yi rfl ?_));refine Yi ?_ ?_
  .intro h4;rw[Lm]at h4;exact .of_eq (Aa vb (no (by grind [OP])))
  intro h4;have h5:l[i].set.length<=8:=by grind
  refine Yi (by grind [Av]) (Xi ⟨i+1,by omega,fun j hj FI=>?_⟩ ?_)
  .grind [OP]
  .exact⟨Dl l.length i ch,Z2,Tv,Fh,Tv⟩
 .intro h;have h:¬i<l.length:=by simp_all
  have ha:l.all OP=true:=A3.2 fun q hq=>by
   grind [List.getElem_of_mem]
  refine Yi ?_ ?_
  .intro h3;rw[Lm]at h3;exact .of_eq (Aa vb (show true=Et l by grind [Et]))
  .intro h3;rw[Lm]at h3;exact .of_eq (Aa vb (show false=Et l by grind [Et]))
def J5:Bool:=decide (r.path.size<=100)&&decide (r.arch.size<=100)&&decide (r.ifc.size<=100)&&decide (r.cert.size<=100)&&Et r.reqs
def Gg(x:List Rl)(n:Nat):Bool:=x.all J5&&decide (x.length<=n)
theorem c34(x:List Rl)(n:Nat)(hl:BJ x)(hr:∀r∈x,BJ r.reqs):PC 60 [sl Ah x,vi n] (vb (Gg x n)):=by
 unfold BJ at hl;refine Ps C3 func60 rfl (Nz rfl) (Xi {i:Nat // i<=x.length/\∀j (hj:j<x.length),j<i->J5 x[j]=true} (Xi (fun i=>⟨[(0,sl Ah x),(1,vi n),(5,vi i.1)],[],Ac⟩) (Xi (fun i=>x.length-i.1) (Yi (Xi ⟨0,Al _,fun j _ h=>by omega⟩ ?_) ?_))))
 .exact⟨Z3,Tv,Fh,Tv⟩
 intro⟨i,h1,h2⟩;refine Yi ?_ ?_
 .intro h;have h:i<x.length:=by simp_all
  have hg:x[i]?=some x[i]:=Ge h;have no:J5 x[i]=false->false=Gg x n:=fun e=>by
   grind [Gg]
  have hc:=c35 x[i].reqs (hr _ (Ae h));refine Xi (Ah x[i]) (Yi (Yi ch (by simp_all)) (Yi rfl ?_));refine Yi ?_ ?_
  .intro h3;exact .of_eq (Aa vb (no (by grind [J5])))
  intro h3;refine Xi (Ah x[i]) (Yi (Yi ch (by simp_all)) (Yi rfl ?_));refine Yi ?_ ?_
  .intro h4;exact .of_eq (Aa vb (no (by grind [J5])))
  intro h4;refine Xi (Ah x[i]) (Yi (Yi ch (by simp_all)) (Yi rfl ?_));refine Yi ?_ ?_
  .intro h5;exact .of_eq (Aa vb (no (by grind [J5])))
  intro h5;refine Xi (Ah x[i]) (Yi (Yi ch (by simp_all)) (Yi rfl ?_));refine Yi ?_ ?_
  .intro h6;exact .of_eq (Aa vb (no (by grind [J5])))
  intro h6;refine Xi (Ah x[i]) (Yi (Yi ch (by simp_all)) (Yi rfl ?_));refine AN (Bt (Et x[i].reqs)) (fun e=>?_) (fun e=>?_)
  rotate_left
  .rw[e]at hc;refine C1 (C2 (hc) ?_);exact .of_eq (Aa vb (no (by grind [J5])))
  rw[e]at hc;refine C1 (C2 (hc) (Yi (by grind [Av]) (Xi ⟨i+1,by omega,fun j hj FI=>?_⟩ ?_)))
  .grind [J5]
  .exact⟨Dl x.length i ch,Z3,Tv,Fh,Tv⟩
 .intro h;have h:¬i<x.length:=by simp_all
  have ha:x.all J5=true:=A3.2 fun q hq=>by
   grind [List.getElem_of_mem]
  refine Yi ?_ ?_
  .intro h3;rw[Lm]at h3;exact .of_eq (Aa vb (show true=Gg x n by grind [Gg]))
  .intro h3;rw[Lm]at h3;exact .of_eq (Aa vb (show false=Gg x n by grind [Gg]))
theorem c11(x:List Rl)(ifs:C0)(roots:List Rq)(hl:BJ x)(hr:∀r∈x,BJ r.reqs)(hq:BJ roots):PC 26 [Fr x ifs,sl As roots] (vb (Gg x 16&&Et roots)):=by
 have h1:=c34 x 16 hl hr;have h2:=c35 roots hq;cases e:Gg x 16 with
 |true=>
  rw[e]at h1;refine Ps C3 func26 rfl (Nz rfl) (C1 (C2 (h1) (C1 (C2 (h2) ?_))));exact .refl _
 |false=>
  rw[e]at h1;refine Ps C3 func26 rfl (Nz rfl) (C1 (C2 (h1) ?_));exact .refl _
structure um(x:List Rl)(roots:List Rq):Prop where
 ix:BJ x
 rs:BJ roots
 rel:∀r∈x,BJ r.reqs/\CT r
 rq:∀q∈roots,FA q
theorem um.x{x:List Rl}{roots:List Rq}(h:um x roots):∀r∈x,CT r:=fun r hr=>(h.rel r hr).2
theorem um.c11{x:List Rl}{roots:List Rq}(h:um x roots)(ifs:C0):PC 26 [Fr x ifs,sl As roots] (vb (Gg x 16&&Et roots)):=
 Go.Eng.c11 x ifs roots h.ix (fun r hr=>(h.rel r hr).1) h.rs
end Go.Eng
