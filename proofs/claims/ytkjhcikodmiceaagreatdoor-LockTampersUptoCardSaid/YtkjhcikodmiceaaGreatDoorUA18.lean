/- Lemmas 18. -/
import Derived.Test.YtkjhcikodmiceaaGreatDoorUA17
import Derived.Shelf.Strings.SplitShaped
import Derived.Shelf.Strings.LastIndexAll
import Derived.Shelf.Strings.Search3
import Derived.Shelf.Small.Wraps
import Derived.Ground.NamesProg
import Derived.Lib.LastIndexLaws
namespace Go.Proofs
open Go.Shelf
def Tryz.laySplit_ren:Go.Shelf.Ren:=⟨fun | 146=>194 | 221=>263 | 268=>326 | 138=>327 | 143=>328 | 195=>361 | 197=>362 | 218=>363 | 219=>364 | 260=>381 | 217=>382 | 225=>383 | 224=>384 | 267=>385 | 266=>399 | 314=>400 | n=>n,fun | 9=>9 | 31=>144 | 3=>3 | 4=>4 | 0=>0 | 105=>422 | 21=>21 | 5=>5 | 46=>240 | 119=>444 | 139=>447 | 138=>446 | 146=>352 | 51=>299 | n=>n,fun | 1=>0 | 3=>1 | 4=>2 | n=>n⟩
theorem Tryz.laySplit:Go.Proofs.Lays.n146 Tryz.prog Tryz.laySplit_ren:={
 mixed:=by kernel_rfl
 f138:=Go.Eng.A0a Tryz.func327
 f143:=Go.Eng.A0a Tryz.func328
 f146:=Go.Eng.A0a Tryz.func194
 f195:=Go.Eng.A0a Tryz.func361
 f197:=Go.Eng.A0a Tryz.func362
 f217:=Go.Eng.A0a Tryz.func382
 f218:=Go.Eng.A0a Tryz.func363
 f219:=Go.Eng.A0a Tryz.func364
 f221:=Go.Eng.A0a Tryz.func263
 f224:=Go.Eng.A0a Tryz.func384
 f225:=Go.Eng.A0a Tryz.func383
 f260:=Go.Eng.A0a Tryz.func381
 f266:=Go.Eng.A0a Tryz.func399
 f267:=Go.Eng.A0a Tryz.func385
 f268:=Go.Eng.A0a Tryz.func326
 f314:=Go.Eng.A0a Tryz.func400
 t0:=Tryz.underlying0
 a0:=Tryz.isAgg0
 z0:=Tryz.sizeOf0
 v0:=Tryz.zeroValue0
 t3:=Tryz.underlying3
 a3:=Tryz.isAgg3
 z3:=Tryz.sizeOf3
 v3:=Tryz.zeroValue3
 t4:=Tryz.underlying4
 a4:=Tryz.isAgg4
 z4:=Tryz.sizeOf4
 v4:=Tryz.zeroValue4
 t5:=Tryz.underlying5
 a5:=Tryz.isAgg5
 z5:=Tryz.sizeOf5
 v5:=Tryz.zeroValue5
 t9:=Tryz.underlying9
 a9:=Tryz.isAgg9
 z9:=Tryz.sizeOf9
 v9:=Tryz.zeroValue9
 t21:=Tryz.underlying21
 a21:=Tryz.isAgg21
 z21:=Tryz.sizeOf21
 v21:=Tryz.zeroValue21
 t31:=Tryz.underlying144
 a31:=Tryz.isAgg144
 z31:=Tryz.sizeOf144
 v31:=Tryz.zeroValue144
 t46:=Tryz.underlying240
 a46:=Tryz.isAgg240
 z46:=Tryz.sizeOf240
 v46:=Tryz.zeroValue240
 t51:=Tryz.underlying299
 a51:=Tryz.isAgg299
 z51:=Tryz.sizeOf299
 v51:=Tryz.zeroValue299
 t105:=Tryz.underlying422
 a105:=Tryz.isAgg422
 z105:=Tryz.sizeOf422
 v105:=Tryz.zeroValue422
 t119:=Tryz.underlying444
 a119:=Tryz.isAgg444
 z119:=Tryz.sizeOf444
 t138:=Tryz.underlying446
 a138:=Tryz.isAgg446
 z138:=Tryz.sizeOf446
 v138:=Tryz.zeroValue446
 t139:=Tryz.underlying447
 a139:=Tryz.isAgg447
 z139:=Tryz.sizeOf447
 v139:=Tryz.zeroValue447
 t146:=Tryz.underlying352
 a146:=Tryz.isAgg352
 z146:=Tryz.sizeOf352
 v146:=Tryz.zeroValue352
 g1:=by kernel_rfl
 g3:=by kernel_rfl
 g4:=by kernel_rfl }
def Tryz.layLast_ren:Go.Shelf.Ren:=⟨fun | 148=>133 | 222=>201 | 223=>202 | 269=>267 | n=>n,fun | 9=>9 | 3=>3 | 4=>4 | 5=>5 | 146=>352 | 51=>299 | 46=>240 | n=>n,fun | n=>n⟩
theorem Tryz.layLast:Go.Proofs.Lays.n148 Tryz.prog Tryz.layLast_ren:={
 mixed:=by kernel_rfl
 f148:=Go.Eng.A0a Tryz.func133
 f222:=Go.Eng.A0a Tryz.func201
 f223:=Go.Eng.A0a Tryz.func202
 f269:=Go.Eng.A0a Tryz.func267
 t3:=Tryz.underlying3
 a3:=Tryz.isAgg3
 z3:=Tryz.sizeOf3
 v3:=Tryz.zeroValue3
 t4:=Tryz.underlying4
 a4:=Tryz.isAgg4
 z4:=Tryz.sizeOf4
 v4:=Tryz.zeroValue4
 t5:=Tryz.underlying5
 a5:=Tryz.isAgg5
 z5:=Tryz.sizeOf5
 v5:=Tryz.zeroValue5
 t9:=Tryz.underlying9
 a9:=Tryz.isAgg9
 z9:=Tryz.sizeOf9
 v9:=Tryz.zeroValue9
 t46:=Tryz.underlying240
 a46:=Tryz.isAgg240
 z46:=Tryz.sizeOf240
 v46:=Tryz.zeroValue240
 t51:=Tryz.underlying299
 a51:=Tryz.isAgg299
 z51:=Tryz.sizeOf299
 v51:=Tryz.zeroValue299
 t146:=Tryz.underlying352
 a146:=Tryz.isAgg352
 z146:=Tryz.sizeOf352
 v146:=Tryz.zeroValue352 }
def Tryz.layCut_ren:Go.Shelf.Ren:=⟨fun | 103=>264 | 210=>329 | 206=>335 | n=>n,fun | 9=>9 | 4=>4 | 24=>261 | 3=>3 | n=>n,fun | n=>n⟩
theorem Tryz.layCut:Go.Proofs.Lays.n103 Tryz.prog Tryz.layCut_ren:={
 mixed:=by kernel_rfl
 f103:=Go.Eng.A0a Tryz.func264
 f206:=Go.Eng.A0a Tryz.func335
 f210:=Go.Eng.A0a Tryz.func329
 t3:=Tryz.underlying3
 a3:=Tryz.isAgg3
 z3:=Tryz.sizeOf3
 v3:=Tryz.zeroValue3
 t4:=Tryz.underlying4
 a4:=Tryz.isAgg4
 z4:=Tryz.sizeOf4
 v4:=Tryz.zeroValue4
 t9:=Tryz.underlying9
 a9:=Tryz.isAgg9
 z9:=Tryz.sizeOf9
 v9:=Tryz.zeroValue9
 t24:=Tryz.underlying261
 a24:=Tryz.isAgg261
 z24:=Tryz.sizeOf261
 v24:=Tryz.zeroValue261 }
def Tryz.layCont_ren:Go.Shelf.Ren:=⟨fun | 144=>331 | 143=>328 | 219=>364 | 217=>382 | 225=>383 | 224=>384 | 267=>385 | 266=>399 | 314=>400 | n=>n,fun | 9=>9 | 4=>4 | 3=>3 | 5=>5 | 46=>240 | 146=>352 | 51=>299 | n=>n,fun | 1=>0 | n=>n⟩
theorem Tryz.layCont:Go.Proofs.Lays.n144 Tryz.prog Tryz.layCont_ren:={
 mixed:=by kernel_rfl
 f143:=Go.Eng.A0a Tryz.func328
 f144:=Go.Eng.A0a Tryz.func331
 f217:=Go.Eng.A0a Tryz.func382
 f219:=Go.Eng.A0a Tryz.func364
 f224:=Go.Eng.A0a Tryz.func384
 f225:=Go.Eng.A0a Tryz.func383
 f266:=Go.Eng.A0a Tryz.func399
 f267:=Go.Eng.A0a Tryz.func385
 f314:=Go.Eng.A0a Tryz.func400
 t3:=Tryz.underlying3
 a3:=Tryz.isAgg3
 z3:=Tryz.sizeOf3
 v3:=Tryz.zeroValue3
 t4:=Tryz.underlying4
 a4:=Tryz.isAgg4
 z4:=Tryz.sizeOf4
 v4:=Tryz.zeroValue4
 t5:=Tryz.underlying5
 a5:=Tryz.isAgg5
 z5:=Tryz.sizeOf5
 v5:=Tryz.zeroValue5
 t9:=Tryz.underlying9
 a9:=Tryz.isAgg9
 z9:=Tryz.sizeOf9
 v9:=Tryz.zeroValue9
 t46:=Tryz.underlying240
 a46:=Tryz.isAgg240
 z46:=Tryz.sizeOf240
 v46:=Tryz.zeroValue240
 t51:=Tryz.underlying299
 a51:=Tryz.isAgg299
 z51:=Tryz.sizeOf299
 v51:=Tryz.zeroValue299
 t146:=Tryz.underlying352
 a146:=Tryz.isAgg352
 z146:=Tryz.sizeOf352
 v146:=Tryz.zeroValue352
 g1:=by kernel_rfl }
end Go.Proofs
namespace Go.Eng
open Go.Proofs
variable (x:List Rl)(ifs:List (List AV))(roots:List Rq)(d:List (List Tm))(s p:ByteArray)(pl:Int)(i:Nf)(nu le ri:Int)
abbrev Yn:ByteArray:=⟨#[47]⟩
abbrev Bv:List ByteArray:=Go.Lib.splitB Yn 0 (Go.Lib.countB s Yn) s
theorem Og:(Bv s).map (·.data.toList)=E3 47 s.data.toList:=dL s 47
abbrev Ro:List AV:=[vs s]
theorem qw(hs:GB s):PC 194 [vs s,vs Yn] (sl Ro (Bv s)):=by
 unfold GB at hs;have h:=dw (P:=Tryz.prog) (f:=194) (args:=[vs s,vs Yn]) [.string s,.string Yn] ((Bv s).map Value.string) 9 (ZX 194 Tryz.func194 aa0 rfl) rfl (fun x hx=>by
  obtain⟨y,_,rfl⟩:=Ak.1 hx;rfl) (fun w hm=>by
  obtain⟨m,hm⟩:=hm;have hl:(Bv s).length=Go.Lib.countB s Yn+1:=Go.Lib.splitB_all Yn Wk 0 _ s rfl;refine(Any.strings_Split Tryz.laySplit aa0 s Yn m w ch hm Wk).mono ?_
  rintro e w' ⟨rfl,rfl⟩
  exact⟨by simp_all,rfl⟩)
 rw[Bx]at h;exact h
theorem vg(hs:GB s):PC 133 [vs s,vs p] (vi (Go.Lib.lastIndex s.data.toList p.data.toList)):=by
 unfold GB at hs;exact Ki [.string s,.string p] (.int .i64 (Go.Lib.lastIndex s.data.toList p.data.toList)) (ZX 133 Tryz.func133 aa0 rfl) rfl (fun g w=>.v _ _) fun w _=>Any.strings_LastIndex Tryz.layLast s p ch w
theorem vt:PC 264 [vs s,vs p] (.tup [vs ⟨(Go.Lib.trimPrefix s.data.toList p.data.toList).toArray⟩,vb (Go.Lib.hasPrefix s.data.toList p.data.toList)]):=by
 exact Ki [.string s,.string p] _ (ZX 264 Tryz.func264 aa0 rfl) rfl (fun g w=>iG [.string ⟨(Go.Lib.trimPrefix s.data.toList p.data.toList).toArray⟩,.bool (Go.Lib.hasPrefix s.data.toList p.data.toList)]) fun w _=>Any.strings_CutPrefix Tryz.layCut s p w
theorem vB(hs:GB s):PC 331 [vs s,vs p] (vb (Go.Lib.contains s.data.toList p.data.toList)):=by
 unfold GB at hs;exact Ki [.string s,.string p] (.bool (Go.Lib.contains s.data.toList p.data.toList)) (ZX 331 Tryz.func331 aa0 rfl) rfl (fun g w=>.v _ _) fun w hm=>by
  obtain⟨m,hm⟩:=hm;exact Any.strings_Contains Tryz.layCont s p m w ch hm
theorem aV:∀x y:List UInt8,dB x y=x.isPrefixOf y
 | [],_=>by simp[dB]
 |_::_,[]=>rfl
 |a::x,b::y=>by
  rw[dB,List.isPrefixOf_cons_cons,aV x y]
  rfl
theorem gH(x:List UInt8):∀y:List UInt8,ug x y=Go.Lib.contains y x
 | []=>by
  unfold Go.Lib.contains Go.Lib.index;cases x<;>rfl
 |b::y=>by
  rw[ug,aV,gH x y]
  grind [Go.Lib.contains,Go.Lib.index]
theorem RM:∀(l:List UInt8) (h:0<l.length),l.headD 0=l[0]
 | [],h=>by grind
 |_::_,_=>rfl
abbrev mT:ByteArray:=⟨⟨gN⟩⟩
theorem vv(hs:GB s):PC 266 [vs s] (vb (Y0 s.data.toList)):=by
 unfold GB at hs;have hc:=vB mT ((⟨#[32]⟩++s)++⟨#[32]⟩) (DB aa0);have e:Go.Lib.contains mT.data.toList ((⟨#[32]⟩++s:ByteArray)++⟨#[32]⟩).data.toList=Y0 s.data.toList:=by
  unfold Y0;rw[gH]
  congr 1
 rw[e]at hc;refine Ps D0 Tryz.func266 rfl (Nz rfl) (Yi (by show(((1+s.size:Nat)):Int)<=_;omega) ?_);refine Yi (by show(((⟨#[32]⟩++s:ByteArray).size+1:Nat):Int)<=_;rw[ByteArray.size_append];show(((1+s.size)+1:Nat):Int)<=_;omega) ?_;refine Xi .pure (Xi _ (Yi (hc) ?_));exact .refl _
theorem vo(hs:GB s):PC 196 [vs s] (vb (Hv s.data.toList)):=by
 have hk:=vv s hs;have hw:=nL s 265 LG vu (by unfold GB at hs;simp;omega);have Fi:s.size=s.data.toList.length:=by simp
 have en:Hv s.data.toList=(!s.data.toList.isEmpty&&decide (s.data.toList.length<=32)&&GF (s.data.toList.headD 0)&&s.data.toList.all LG&&!Y0 s.data.toList):=rfl
 by_cases h0:s=⟨#[]⟩
 .subst h0;refine Ps D0 Tryz.func196 rfl (Nz rfl) (Yi ?_ ?_)
  .intro h;exact absurd rfl (show(⟨#[]⟩:ByteArray)≠⟨#[]⟩from h)
  .intro _;exact .refl _
 have h0' : s.data.toList≠[]:=fun e=>h0 (by
  have:s.data=#[]:=by simp_all
  cases s;simp_all)
 have B5:0<s.data.toList.length:=List.length_pos_iff.2 h0';have om:s.data.toList.isEmpty=false:=by
  grind
 have hhd:s.data.toList.headD 0=s.data.toList[0]:=RM _ B5;have d6:=nM s.data.toList[0];refine Ps D0 Tryz.func196 rfl (Nz rfl) (Yi ?_ ?_)
 rotate_left
 .intro h;exact absurd h0 h
 intro _;refine Yi ?_ ?_
 rotate_left
 .intro h;exact .of_eq (Aa vb (show false=Hv s.data.toList by grind))
 intro h;refine Xi s.data.toList[0] (Yi ⟨B6 _,jI s 0 B5⟩ (Bs (Bt (GF s.data.toList[0])) (fun e1=>?_) (fun e1=>?_)))
 rotate_left
 .rw[e1]at d6;refine Xi .pure (Xi _ (Yi (d6) ?_));exact .of_eq (Aa vb (show false=Hv s.data.toList by grind))
 rw[e1]at d6;refine Xi .pure (Xi _ (Yi (d6) (Bs (Bt (s.data.toList.all LG)) (fun e2=>?_) (fun e2=>?_))))
 rotate_left
 .rw[e2]at hw;refine Xi .pure (Xi _ (Yi (hw) ?_));exact .of_eq (Aa vb (show false=Hv s.data.toList by grind))
 rw[e2]at hw;refine Xi .pure (Xi _ (Yi (hw) ?_));have ef:Hv s.data.toList=!Y0 s.data.toList:=by grind
 refine Bs (Bt (Y0 s.data.toList)) (fun e3=>?_) (fun e3=>?_)
 .rw[e3]at hk;refine Xi .pure (Xi _ (Yi (hk) ?_));exact .of_eq (Aa vb (show false=Hv s.data.toList by grind))
 .rw[e3]at hk;refine Xi .pure (Xi _ (Yi (hk) ?_));exact .of_eq (Aa vb (show true=Hv s.data.toList by grind))
abbrev VV:Option Int->AV
 |some n=>.tup [vi n,vb true]
 |none=>.tup [vi 0,vb false]
theorem bp{z:Int}(h0:0<=z)(h1:z<256):IntKind.u8.wrap z=z:=by
 show z % 256=z;omega
theorem T4{c:UInt8}(h:Eo c=true):48<=c.toNat/\c.toNat<=57:=by
 grind [Eo,UInt8.le_iff_toNat_le]
theorem Ut(r:List UInt8)(i:Nat)(h:i<r.length):F6 (r.take (i+1))=10*F6 (r.take i)+((r[i].toNat:Int)-48):=by
 grind [F6,List.take_add_one]
theorem vl(hs:GB s):PC 195 [vs s] (VV (Kp s.data.toList)):=by
 unfold GB at hs;have hc:=vt s ⟨#[118]⟩
 by_cases hp:∃r,s.data.toList=118::r
 .obtain⟨r,hr⟩:=hp;have e1:Go.Lib.hasPrefix s.data.toList (⟨#[118]⟩:ByteArray).data.toList=true:=by rw[hr];rfl
  have e2:Go.Lib.trimPrefix s.data.toList (⟨#[118]⟩:ByteArray).data.toList=r:=by grind [Go.Lib.trimPrefix]
  rw[e1,e2]at hc;have hv:Kp s.data.toList=if(r.isEmpty||decide (3<r.length)||(decide (1<r.length)&&decide (r.headD 0=48))||!r.all Eo)=true then none else some (F6 r):=by rw[hr];rfl
  have hrl:r.length<s.size:=by
   have:s.size=s.data.toList.length:=by simp
   simp_all
  generalize hB:(⟨r.toArray⟩:ByteArray)=rB at hc;have yZ:rB.data.toList=r:=by grind
  have tE:rB.size=r.length:=by rw[<-hB];rfl
  have hw:=nL rB 200 Eo nN (by grind);rw[yZ]at hw;have no:∀{b:Bool},b=true->(if b=true then none else some (F6 r))=(none:Option Int):=fun h=>A1 h;refine Ps (Ec []) Tryz.func195 rfl (Nz rfl) (Xi .pure (Xi _ (Yi (hc) (Yi ?_ ?_))))
  .intro h
   have:r=[]:=by simp_all
   exact .of_eq (Aa VV (show(none:Option Int)=Kp s.data.toList by simp_all))
  intro h;have DT:r≠[]:=fun e=>h (by simp_all);have B5:0<r.length:=List.length_pos_iff.2 DT;have om:r.isEmpty=false:=by
   simp_all
  refine Yi ?_ ?_
  .intro h2;exact .of_eq (Aa VV (show(none:Option Int)=Kp s.data.toList by grind))
  intro h2;have tV:r.length<=3:=by omega
  have d3:decide (3<r.length)=false:=Av ch;refine Yi ?_ ?_
  .intro h3;have wa:rB.data[(0:Int).toNat]?=some r[0]:=by
    grind
   refine Xi r[0] (Yi ⟨B6 _,wa⟩ ?_);have hh:=RM r B5;refine Yi ?_ ?_
   .intro h4
    have:r[0]=48:=UInt8.toNat_inj.1 (by grind)
    exact .of_eq (Aa VV (show(none:Option Int)=Kp s.data.toList by grind))
   intro h4;have eo:(decide (1<r.length)&&decide (r.headD 0=48))=false:=by rw[hh,Av (show ¬r[0]=48 from fun e=>h4 (by simp_all)),Bool.and_false]
   have xn:Kp s.data.toList=if(!r.all Eo)=true then none else some (F6 r):=by grind
   refine Bs (Bt (r.all Eo)) (fun e3=>?_) (fun e3=>?_)
   rotate_left
   .rw[e3]at hw;refine Xi .pure (Xi _ (Yi (hw) ?_));exact .of_eq (Aa VV (show(none:Option Int)=Kp s.data.toList by simp_all))
   rw[e3]at hw;refine Xi .pure (Xi _ (Yi (hw) ?_));have xo:Kp s.data.toList=some (F6 r):=by simp_all
   have z0:F6 (r.take 0)=0:=rfl;refine Xi {i:Nat // i<=r.length/\0<=F6 (r.take i)/\(i=0->F6 (r.take i)<=0)/\(i<=1->F6 (r.take i)<=9)/\(i<=2->F6 (r.take i)<=99)/\F6 (r.take i)<=999} (Xi (fun i=>⟨[(0,vs rB),(5,vi (F6 (r.take i.1))),(39,vi rB.size),(40,vi i.1)],[],Ab⟩) (Xi (fun i=>r.length-i.1) (Yi (Xi ⟨0,Ar _,by omega,fun _=>by omega,fun _=>by omega,fun _=>by omega,by omega⟩ ?_) ?_)))
   .exact⟨Z4,Tv,Fh,Tv⟩
   intro⟨i,i1,i2,i3,i4,i5,i6⟩;refine Yi ?_ ?_
   .intro h;have h:(i:Int)<(rB.size:Nat):=h;have h:i<r.length:=by omega
    have tM:Eo r[i]=true:=AF.1 e3 _ (Ao h);have pM:=T4 tM;have gt:=Ut r i h;have rX:IntKind.u8.wrap ((r[i].toNat:Int)-48)=(r[i].toNat:Int)-48:=bp ch ch;have mA:rB.data[((i:Nat):Int).toNat]?=some r[i]:=by grind
    refine Yi (by show AQ (10*F6 (r.take i));unfold AQ;omega) (Xi r[i] (Yi ⟨by omega,mA⟩ ?_));refine Yi (by show AQ (IntKind.u8.wrap ((r[i].toNat:Int)-48));rw[rX];unfold AQ;omega) ?_;refine Yi (by show AQ (10*F6 (r.take i)+IntKind.u8.wrap ((r[i].toNat:Int)-48));rw[rX];unfold AQ;omega) ?_;refine Yi (Ii i ch) ?_;have e5:vi (10*F6 (r.take i)+IntKind.u8.wrap ((r[i].toNat:Int)-48))=vi (F6 (r.take (i+1))):=by simp_all
    refine Xi ⟨i+1,by omega,by omega,fun _=>by omega,fun _=>by omega,fun _=>by omega,by omega⟩ ?_;exact⟨Dl r.length i ch,⟨Zr,⟨e5,rfl⟩,Zr,Zr,Tv⟩,Tv,Fh,Tv⟩
   .intro h;have h:¬(i:Int)<(rB.size:Nat):=h;have e6:AV.tup [vi (F6 (r.take i)),vb true]=VV (Kp s.data.toList):=by grind
    exact .of_eq e6
  .intro h3;have h3:¬(1:Int)<((rB.size:Nat):Int):=h3;have eo:(decide (1<r.length)&&decide (r.headD 0=48))=false:=by grind
   have xn:Kp s.data.toList=if(!r.all Eo)=true then none else some (F6 r):=by grind
   refine Bs (Bt (r.all Eo)) (fun e3=>?_) (fun e3=>?_)
   rotate_left
   .rw[e3]at hw;refine Xi .pure (Xi _ (Yi (hw) ?_));exact .of_eq (Aa VV (show(none:Option Int)=Kp s.data.toList by simp_all))
   rw[e3]at hw;refine Xi .pure (Xi _ (Yi (hw) ?_));have xo:Kp s.data.toList=some (F6 r):=by simp_all
   have z0:F6 (r.take 0)=0:=rfl;refine Xi {i:Nat // i<=r.length/\0<=F6 (r.take i)/\(i=0->F6 (r.take i)<=0)/\(i<=1->F6 (r.take i)<=9)/\(i<=2->F6 (r.take i)<=99)/\F6 (r.take i)<=999} (Xi (fun i=>⟨[(0,vs rB),(5,vi (F6 (r.take i.1))),(39,vi rB.size),(40,vi i.1)],[],Ab⟩) (Xi (fun i=>r.length-i.1) (Yi (Xi ⟨0,Ar _,by omega,fun _=>by omega,fun _=>by omega,fun _=>by omega,by omega⟩ ?_) ?_)))
   .exact⟨Z4,Tv,Fh,Tv⟩
   intro⟨i,i1,i2,i3,i4,i5,i6⟩;refine Yi ?_ ?_
   .intro h;have h:(i:Int)<(rB.size:Nat):=h;have h:i<r.length:=by omega
    have tM:Eo r[i]=true:=AF.1 e3 _ (Ao h);have pM:=T4 tM;have gt:=Ut r i h;have rX:IntKind.u8.wrap ((r[i].toNat:Int)-48)=(r[i].toNat:Int)-48:=bp ch ch;have mA:rB.data[((i:Nat):Int).toNat]?=some r[i]:=by grind
    refine Yi (by show AQ (10*F6 (r.take i));unfold AQ;omega) (Xi r[i] (Yi ⟨by omega,mA⟩ ?_));refine Yi (by show AQ (IntKind.u8.wrap ((r[i].toNat:Int)-48));rw[rX];unfold AQ;omega) ?_;refine Yi (by show AQ (10*F6 (r.take i)+IntKind.u8.wrap ((r[i].toNat:Int)-48));rw[rX];unfold AQ;omega) ?_;refine Yi (Ii i ch) ?_;have e5:vi (10*F6 (r.take i)+IntKind.u8.wrap ((r[i].toNat:Int)-48))=vi (F6 (r.take (i+1))):=by simp_all
    refine Xi ⟨i+1,by omega,by omega,fun _=>by omega,fun _=>by omega,fun _=>by omega,by omega⟩ ?_;exact⟨Dl r.length i ch,⟨Zr,⟨e5,rfl⟩,Zr,Zr,Tv⟩,Tv,Fh,Tv⟩
   .intro h;have h:¬(i:Int)<(rB.size:Nat):=h;have e6:AV.tup [vi (F6 (r.take i)),vb true]=VV (Kp s.data.toList):=by grind
    exact .of_eq e6
 .have e1:Go.Lib.hasPrefix s.data.toList (⟨#[118]⟩:ByteArray).data.toList=false:=by
   cases hl:s.data.toList with
   |nil=>rfl
   |cons a l=>
    have:a≠118:=fun e=>hp ⟨l,by simp_all⟩
    show(List.isPrefixOf [118] (a::l))=false
    grind
  have hv:Kp s.data.toList=none:=by
   cases hl:s.data.toList with
   |nil=>rfl
   |cons a l=>
    have:a≠118:=fun e=>hp ⟨l,by simp_all⟩
    show(if a=118 then _ else none)=none;simp_all
  rw[e1]at hc;refine Ps D0 Tryz.func195 rfl (Nz rfl) (Xi .pure (Xi _ (Yi (hc) ?_)));exact .of_eq (Aa VV hv.symm)
abbrev Zc:Option Int->AV
 |some n=>.tup [vi n,vi 0]
 |none=>.tup [vi 0,vi 4]
theorem SX(c:UInt8):∀(s x:List UInt8),x∈E3 c s->x.length<=s.length
 | [],x,h=>by
  grind [E3]
 |b::r,x,h=>by
  have ih:=SX c r
  grind [E3]
theorem iq{p x:ByteArray}(hp:GB p)(hx:x∈Bv p):GB x:=by
 have h:x.data.toList∈E3 47 p.data.toList:=by grind [Og]
 have:=SX 47 _ _ h
 unfold GB at *
 have e1:x.size=x.data.toList.length:=by simp
 have e2:p.size=p.data.toList.length:=by simp
 omega
theorem du:(Bv p).length=(E3 47 p.data.toList).length:=by grind [Og]
theorem dv:0<(Bv p).length:=by
 rw[show(Bv p).length=Go.Lib.countB p Yn+1 from Go.Lib.splitB_all Yn Wk 0 _ p rfl];omega
theorem dt:(Bv p).length<=p.size+1:=by
 rw[show(Bv p).length=Go.Lib.countB p Yn+1 from Go.Lib.splitB_all Yn Wk 0 _ p rfl]
 have:=Go.Lib.countB_le Yn Wk p.size p (Ai _);omega
theorem Zm(h:(Bv p).length-1<(Bv p).length):(E3 47 p.data.toList).getLastD []=((Bv p)[(Bv p).length-1]).data.toList:=by
 grind [Og]
theorem dq:(E3 47 p.data.toList).all MA=(Bv p).all fun x=>MA x.data.toList:=by
 grind [Og]
theorem qo(hp:GB p):PC 131 [vs p] (Zc (Bw p)):=by
 have zR:=dt p;have YT:=dv p;have zP:(Bv p).length-1<(Bv p).length:=by omega
 have Fi:p.size=p.data.toList.length:=by simp
 have zr:∀{x},x∈Bv p->GB x:=fun h=>iq hp h;unfold GB at hp;have ct:((Bv p).map Ro)[((((Bv p).map Ro).length:Int)-1).toNat]?=some (Ro (Bv p)[(Bv p).length-1]):=by
  rw[Lm,show(((Bv p).length:Int)-1).toNat=(Bv p).length-1 by omega];grind
 have hv:=vl (Bv p)[(Bv p).length-1] (zr (Ao zP));have em:Bw p=match Kp ((Bv p)[(Bv p).length-1]).data.toList with
  |none=>none
  |some n=>if(decide (64<p.data.toList.length)||decide ((Bv p).length<2))=true then none else if((Bv p).all fun x=>MA x.data.toList)=true then some n else none:=by
  unfold Bw Zd;rw[Zm p zP,dq,<-du];cases Kp ((Bv p)[(Bv p).length-1]).data.toList<;>grind [Kp]
 cases hve:Kp ((Bv p)[(Bv p).length-1]).data.toList with
 |none=>
  rw[hve]at hv em;refine Ps (Ec []) Tryz.func131 rfl (Nz rfl) (Xi .pure (Xi _ (Yi (qw p hp) (Yi (by show AQ ((((Bv p).map Ro).length:Int)-1);unfold AQ;rw[Lm];omega) ?_))));refine Xi (Ro (Bv p)[(Bv p).length-1]) (Yi (Yi (by grind) ct) (Yi rfl (Xi .pure (Xi _ (Yi (hv) ?_)))));exact .of_eq (Aa Zc em.symm)
 |some n=>
  rw[hve]at hv em;refine Ps (Ec []) Tryz.func131 rfl (Nz rfl) (Xi .pure (Xi _ (Yi (qw p hp) (Yi (by show AQ ((((Bv p).map Ro).length:Int)-1);unfold AQ;rw[Lm];omega) ?_))));refine Xi (Ro (Bv p)[(Bv p).length-1]) (Yi (Yi (by grind) ct) (Yi rfl (Xi .pure (Xi _ (Yi (hv) (Yi ?_ ?_))))))
  .intro h;exact .of_eq (Aa Zc (show(none:Option Int)=Bw p by grind))
  intro h;have d1:decide (64<p.data.toList.length)=false:=Av ch;refine Yi ?_ ?_
  .intro h2;rw[Lm]at h2;exact .of_eq (Aa Zc (show(none:Option Int)=Bw p by grind))
  intro h2;have d2:decide ((Bv p).length<2)=false:=Av (by rw[Lm]at h2;omega);have yX:Bw p=if((Bv p).all fun x=>MA x.data.toList)=true then some n else none:=by grind
  refine Xi {i:Nat // i<=(Bv p).length/\∀j (hj:j<(Bv p).length),j<i->MA ((Bv p)[j]).data.toList=true} (Xi (fun i=>⟨[(5,vi n),(33,sl Ro (Bv p)),(34,vi ((Bv p).map Ro).length),(35,vi i.1)],[],Ab⟩) (Xi (fun i=>(Bv p).length-i.1) (Yi (Xi ⟨0,Ar _,fun j _ h=>by omega⟩ ?_) ?_)))
  .exact⟨Z4,Tv,Fh,Tv⟩
  intro⟨i,i1,i2⟩;refine Yi ?_ ?_
  .intro h;have h:i<(Bv p).length:=by simpa using h
   have hg:(Bv p)[i]?=some (Bv p)[i]:=Ge h;refine Xi (Ro (Bv p)[i]) (Yi (Yi ch (by simp[hg])) (Yi rfl ?_));have zp:=zr (Ao h);have hn:=vo (Bv p)[i] zp;have ha:=nL (Bv p)[i] 198 iU vq (by unfold GB at zp;have e1:(Bv p)[i].size=(Bv p)[i].data.toList.length:=B0;omega);have no:MA ((Bv p)[i]).data.toList=false->(none:Option Int)=Bw p:=fun e=>by
    rw[yX,AO];intro Gr
    have:=AF.1 Gr _ (Ao h)
    grind
   refine Bs (Bt (Hv ((Bv p)[i]).data.toList)) (fun e1=>?_) (fun e1=>?_)
   rotate_left
   .rw[e1]at hn;refine Xi .pure (Xi _ (Yi (hn) ?_));exact .of_eq (Aa Zc (no (by unfold MA;grind)))
   rw[e1]at hn;refine Xi .pure (Xi _ (Yi (hn) (Bs (Bt (((Bv p)[i]).data.toList.all iU)) (fun e2=>?_) (fun e2=>?_))))
   rotate_left
   .rw[e2]at ha;refine Xi .pure (Xi _ (Yi (ha) ?_));exact .of_eq (Aa Zc (no (by unfold MA;grind)))
   rw[e2]at ha;refine Xi .pure (Xi _ (Yi (ha) (Yi (Ii i ch) (Xi ⟨i+1,by omega,fun j hj Jy=>?_⟩ ?_))))
   .rcases E4 j i with z | z
    .exact i2 j hj z
    .have:j=i:=by omega
     subst this;unfold MA;grind
   .exact⟨by show(Bv p).length-(i+1)<(Bv p).length-i;omega,Z4,Tv,Fh,Tv⟩
  .intro h;have h:¬i<(Bv p).length:=by simpa using h
   have e:some n=Bw p:=by
    rw[yX,A1];exact AF.2 fun x hx=>by
     obtain⟨j,hj,rfl⟩:=List.getElem_of_mem hx;exact i2 j hj ch
   exact .of_eq (Aa Zc e)
theorem vf(hp:GB p):PC 132 [vs p] (vb (Bw p).isSome):=by
 have hc:=qo p hp;cases h:Bw p with
 |none=>
  rw[h]at hc;refine Ps D0 Tryz.func132 rfl (Nz rfl) (Xi .pure (Xi _ (Yi (hc) (Yi ?_ ?_))))
  .intro h;exact absurd (show(4:Int)=0 from h) Wk
  .intro _;exact .refl _
 |some n=>
  rw[h]at hc;refine Ps D0 Tryz.func132 rfl (Nz rfl) (Xi .pure (Xi _ (Yi (hc) (Yi ?_ ?_))))
  .intro _;exact .refl _
  .intro h;exact absurd rfl h
theorem SY(c:UInt8):∀s:List UInt8,2<=(E3 c s).length->c∈s
 | [],h=>by grind [E3]
 |b::r,h=>by
  rw[E3]at h
  by_cases e:b=c
  .simp_all
  .rw[AO e]at h;refine Af _ (SY c r ?_)
   grind
theorem gO{p:ByteArray}{m:Int}(h:Bw p=some m):0<=Go.Lib.lastIndex p.data.toList [47]/\Go.Lib.lastIndex p.data.toList [47]<=p.size:=by
 have h2:2<=(E3 47 p.data.toList).length:=by
  grind [Bw,Zd]
 have hm:=SY 47 _ h2;obtain⟨i,hi,e⟩:=List.getElem_of_mem hm;have Fi:p.size=p.data.toList.length:=by simp
 unfold Go.Lib.lastIndex;rw[A1 (by grind)];have Aca:Go.Lib.occAt p.data.toList [47] i=true:=by
  grind [Go.Lib.occAt,List.drop_eq_getElem_cons]
 grind [Go.Lib.lastOcc_spec]
abbrev gQ:ByteArray:=p.extract 0 (Go.Lib.lastIndex p.data.toList [47]).toNat
theorem Tj:Tf gQ:=by
 intro p hp;have hc:=qo p hp;have hi:=vf p hp;unfold mV;cases h:Bw p with
 |none=>
  rw[h]at hc hi;refine Ps D0 Tryz.func66 rfl (Nz rfl) (Xi .pure (Xi _ (Yi (hc) (Xi .pure (Xi _ (Yi (hi) ?_))))));exact .refl _
 |some n=>
  rw[h]at hc hi;obtain⟨l1,l2⟩:=gO h;have hl:PC 133 [vs p,vs Yn] (vi (Go.Lib.lastIndex p.data.toList [47])):=vg p Yn hp;refine Ps D0 Tryz.func66 rfl (Nz rfl) (Xi .pure (Xi _ (Yi (hc) (Xi .pure (Xi _ (Yi (hi) (Yi ?_ ?_)))))))
  .intro h;exact absurd rfl h
  intro _;refine Xi .pure (Xi _ (Yi (hl) (Yi ⟨B6 _,l1,l2⟩ ?_)));exact .refl _
abbrev jD:Prop:=∀(d:List (List Tm)) (i:Nf),
 AW Tryz.prog 319 [.ref 1000 0,.agg (AG i)] (Ae (Mi x ifs roots d) Ab) fun r h'=>r=KI (QG (EK i.path (Br x i.path)))/\h'=Ae (Mi x ifs roots d) Ab
abbrev QQ(r:AV)(h' : Nat->HO):Prop:=
 r=vb (Bo x roots d i).isSome/\∃d',h'=Ae (Mi x ifs roots d') Ab/\∀t,Bo x roots d i=some t->d'=d++[t]
theorem qB(hd:d.length<=65536)(hr:∀q∈roots,Cr q.set) :
  AW Tryz.prog 182 [.ref 1000 0,.agg (AG ⟨0,p,pl,nu,le,ri⟩)] (Ae (Mi x ifs roots d) Ab) fun r h'=>QQ x ifs roots d ⟨0,p,pl,nu,le,ri⟩ r h':=by
 have fE:Bo x roots d ⟨0,p,pl,nu,le,ri⟩=if p=mt/\pl=0/\le=0/\ri=0 then(El roots nu).map Gc else none:=rfl
 by_cases hc:p=mt/\pl=0/\le=0/\ri=0
 .have fG:Bo x roots d ⟨0,p,pl,nu,le,ri⟩=(El roots nu).map Gc:=by simp_all
  have IN:=uW x ifs roots d ⟨0,p,pl,nu,le,ri⟩ hr;cases ho:(El roots nu).map Gc with
  |none=>
   have FB:Bo x roots d ⟨0,p,pl,nu,le,ri⟩=none:=by simp_all
   rw[ho]at IN;refine A7 (H5 (Ec [3,4,6])) [(1000,1000),(1001,1001)] rfl Bu hm rfl Tryz.func182 aa0 rfl (Nz rfl) aa0 rfl (Yi ?_ ?_)
   .intro h;exact absurd (show(0:Int)<0 from h) Wk
   intro _;refine Yi ?_ ?_
   .intro h;exact absurd (show(3:Int)<0 from h) Wk
   intro _;refine cU [(0,.ref 1000 0),(3,.ref 3 0)] [(3,.cells (AG ⟨0,p,pl,nu,le,ri⟩)),(1000,HP x ifs roots d),(1001,HX d)] Z2 Z3 (Xi _ (Yi (Qk) (Yi ⟨by omega,by omega⟩ ?_)));refine Yi (Nz rfl) (yN (Yi aa0 (cU [(0,.ref 1000 0),(3,.ref 3 0),(5,.ref 5 0)] [(3,.cells (AG ⟨0,p,pl,nu,le,ri⟩)),(5,.cells [.v (Gl 314),.v (Gl 315)]),(1000,HP x ifs roots d),(1001,HX d)] Z3 Z4 (yN (Xi _ (Yi (nF ⟨0,p,pl,nu,le,ri⟩) (Yi ?_ ?_)))))))
   rotate_left
   .intro h6;have he:WD [vi 0,vs p,vi pl,vi 0,vi le,vi ri] [vi 0,vs mt,vi 0,vi 0,vi 0,vi 0]:=⟨rfl,hc.1,hc.2.1,rfl,hc.2.2.1,hc.2.2.2,trivial⟩;exact absurd he h6
   intro _;refine Yi aa0 (cU [(0,.ref 1000 0),(3,.ref 3 0),(5,.ref 5 0)] [(3,.cells (AG ⟨0,p,pl,nu,le,ri⟩)),(5,.cells [.v (Gl 314),.v (Gl 315)]),(1000,HP x ifs roots d),(1001,HX d)] Z3 Z4 (yN (Xi (.gen [(1000,1000),(1001,1001)] 0) (Yi rfl (IN.imp ?_)))));intro v1 g1 q1;have SC:=q1.1;have Oi:=q1.2;subst SC;subst Oi;have Di:BJ 1 [Ap []]/\(d.map Ap).length=(d.map Ap).length/\((d.map Ap).length+[Ap []].length)*24<=140737488355328/\(d.map Ap).length+[Ap []].length<=9223372036854775807:=
    ⟨⟨rfl,trivial⟩,rfl,by rw[Lm,A6];omega,by rw[Lm,A6];omega⟩
   refine Yi Di (yN ?_);have eh:Ae [(1000,HO.cells [sl Al x,.slice .none ifs,sl Ac roots,.slice (.id 1001 1) (d.map Ap++[Ap []])]),(1001,.tok 1 ((d.map Ap).length+[Ap []].length))] Ab=Ae (Mi x ifs roots (d++[[]])) Ab:=by
    simp[Mi,HP,jX,HX]
   have er:vb false=vb (Bo x roots d ⟨0,p,pl,nu,le,ri⟩).isSome:=by rw[FB];rfl
   exact Xi _ (Yi (.refl _) (Yi er (Xi (d++[[]]) (Yi eh (fun t ht=>by rw[FB]at ht;cases ht)))))
  |some tt=>
   have FB:Bo x roots d ⟨0,p,pl,nu,le,ri⟩=some tt:=by simp_all
   rw[ho]at IN;refine A7 (H5 (Ec [3,4,6])) [(1000,1000),(1001,1001)] rfl Bu hm rfl Tryz.func182 aa0 rfl (Nz rfl) aa0 rfl (Yi ?_ ?_)
   .intro h;exact absurd (show(0:Int)<0 from h) Wk
   intro _;refine Yi ?_ ?_
   .intro h;exact absurd (show(3:Int)<0 from h) Wk
   intro _;refine cU [(0,.ref 1000 0),(3,.ref 3 0)] [(3,.cells (AG ⟨0,p,pl,nu,le,ri⟩)),(1000,HP x ifs roots d),(1001,HX d)] Z2 Z3 (Xi _ (Yi (Qk) (Yi ⟨by omega,by omega⟩ ?_)));refine Yi (Nz rfl) (yN (Yi aa0 (cU [(0,.ref 1000 0),(3,.ref 3 0),(5,.ref 5 0)] [(3,.cells (AG ⟨0,p,pl,nu,le,ri⟩)),(5,.cells [.v (Gl 314),.v (Gl 315)]),(1000,HP x ifs roots d),(1001,HX d)] Z3 Z4 (yN (Xi _ (Yi (nF ⟨0,p,pl,nu,le,ri⟩) (Yi ?_ ?_)))))))
   rotate_left
   .intro h6;have he:WD [vi 0,vs p,vi pl,vi 0,vi le,vi ri] [vi 0,vs mt,vi 0,vi 0,vi 0,vi 0]:=⟨rfl,hc.1,hc.2.1,rfl,hc.2.2.1,hc.2.2.2,trivial⟩;exact absurd he h6
   intro _;refine Yi aa0 (cU [(0,.ref 1000 0),(3,.ref 3 0),(5,.ref 5 0)] [(3,.cells (AG ⟨0,p,pl,nu,le,ri⟩)),(5,.cells [.v (Gl 314),.v (Gl 315)]),(1000,HP x ifs roots d),(1001,HX d)] Z3 Z4 (yN (Xi (.gen [(1000,1000),(1001,1001)] 0) (Yi rfl (IN.imp ?_)))));intro v1 g1 q1;have SC:=q1.1;have Oi:=q1.2;subst SC;subst Oi;have Di:BJ 1 [Ap tt]/\(d.map Ap).length=(d.map Ap).length/\((d.map Ap).length+[Ap tt].length)*24<=140737488355328/\(d.map Ap).length+[Ap tt].length<=9223372036854775807:=
    ⟨⟨rfl,trivial⟩,rfl,by rw[Lm,A6];omega,by rw[Lm,A6];omega⟩
   refine Yi Di (yN ?_);have eh:Ae [(1000,HO.cells [sl Al x,.slice .none ifs,sl Ac roots,.slice (.id 1001 1) (d.map Ap++[Ap tt])]),(1001,.tok 1 ((d.map Ap).length+[Ap tt].length))] Ab=Ae (Mi x ifs roots (d++[tt])) Ab:=by
    simp[Mi,HP,jX,HX]
   have er:vb true=vb (Bo x roots d ⟨0,p,pl,nu,le,ri⟩).isSome:=by rw[FB];rfl
   exact Xi _ (Yi (.refl _) (Yi er (Xi (d++[tt]) (Yi eh (fun t ht=>by rw[FB]at ht;cases ht;rfl)))))
 .have FB:Bo x roots d ⟨0,p,pl,nu,le,ri⟩=none:=by simp_all
  refine A7 (H5 (Ec [3,4,6])) [(1000,1000),(1001,1001)] rfl Bu hm rfl Tryz.func182 aa0 rfl (Nz rfl) aa0 rfl (Yi ?_ ?_)
  .intro h;exact absurd (show(0:Int)<0 from h) Wk
  intro _;refine Yi ?_ ?_
  .intro h;exact absurd (show(3:Int)<0 from h) Wk
  intro _;refine cU [(0,.ref 1000 0),(3,.ref 3 0)] [(3,.cells (AG ⟨0,p,pl,nu,le,ri⟩)),(1000,HP x ifs roots d),(1001,HX d)] Z2 Z3 (Xi _ (Yi (Qk) (Yi ⟨by omega,by omega⟩ ?_)));refine Yi (Nz rfl) (yN (Yi aa0 (cU [(0,.ref 1000 0),(3,.ref 3 0),(5,.ref 5 0)] [(3,.cells (AG ⟨0,p,pl,nu,le,ri⟩)),(5,.cells [.v (Gl 314),.v (Gl 315)]),(1000,HP x ifs roots d),(1001,HX d)] Z3 Z4 (yN (Xi _ (Yi (nF ⟨0,p,pl,nu,le,ri⟩) (Yi ?_ ?_)))))))
  .intro h6;exact absurd (show p=mt/\pl=0/\le=0/\ri=0 from⟨h6.2.1,h6.2.2.1,h6.2.2.2.2.1,h6.2.2.2.2.2.1⟩) hc
  intro _;refine Yi aa0 ?_;have er:vb false=vb (Bo x roots d ⟨0,p,pl,nu,le,ri⟩).isSome:=by rw[FB];rfl
  exact Xi _ (Yi (.refl _) (Yi er (Xi d (Yi rfl (fun t ht=>by rw[FB]at ht;cases ht)))))
theorem qC(hd:d.length<=65536)(hx:Cr x)(hq:∀r∈x,∀q∈r.reqs,Cr q.set) :
  AW Tryz.prog 182 [.ref 1000 0,.agg (AG ⟨1,p,pl,nu,le,ri⟩)] (Ae (Mi x ifs roots d) Ab) fun r h'=>QQ x ifs roots d ⟨1,p,pl,nu,le,ri⟩ r h':=by
 have fE:Bo x roots d ⟨1,p,pl,nu,le,ri⟩=if le=0/\ri=0 then Tz x ⟨1,p,pl,nu,le,ri⟩else none:=rfl
 by_cases hc:le=0/\ri=0
 .have fG:Bo x roots d ⟨1,p,pl,nu,le,ri⟩=Tz x ⟨1,p,pl,nu,le,ri⟩:=by simp_all
  have IN:=uX x ifs roots d ⟨1,p,pl,nu,le,ri⟩ hx hq;cases ho:Tz x ⟨1,p,pl,nu,le,ri⟩with
  |none=>
   have FB:Bo x roots d ⟨1,p,pl,nu,le,ri⟩=none:=by simp_all
   rw[ho]at IN;refine A7 (H5 (Ec [3,4,6])) [(1000,1000),(1001,1001)] rfl Bu hm rfl Tryz.func182 aa0 rfl (Nz rfl) aa0 rfl (Yi ?_ ?_)
   .intro h;exact absurd (show(1:Int)<0 from h) Wk
   intro _;refine Yi ?_ ?_
   .intro h;exact absurd (show(3:Int)<1 from h) Wk
   intro _;refine cU [(0,.ref 1000 0),(3,.ref 3 0)] [(3,.cells (AG ⟨1,p,pl,nu,le,ri⟩)),(1000,HP x ifs roots d),(1001,HX d)] Z2 Z3 (Xi _ (Yi (Qk) (Yi ⟨by omega,by omega⟩ ?_)));refine Yi (Nz rfl) (yN (Yi aa0 (cU [(0,.ref 1000 0),(3,.ref 3 0),(5,.ref 5 0)] [(3,.cells (AG ⟨1,p,pl,nu,le,ri⟩)),(5,.cells [.v (Gl 316),.v (Gl 317)]),(1000,HP x ifs roots d),(1001,HX d)] Z3 Z4 (yN (Xi _ (Yi (nG ⟨1,p,pl,nu,le,ri⟩) (Yi ?_ ?_)))))))
   rotate_left
   .intro h6;have he:WD [vi 1,vs mt,vi 0,vi 0,vi le,vi ri] [vi 1,vs mt,vi 0,vi 0,vi 0,vi 0]:=⟨rfl,rfl,rfl,rfl,hc.1,hc.2,trivial⟩;exact absurd he h6
   intro _;refine Yi aa0 (cU [(0,.ref 1000 0),(3,.ref 3 0),(5,.ref 5 0)] [(3,.cells (AG ⟨1,p,pl,nu,le,ri⟩)),(5,.cells [.v (Gl 316),.v (Gl 317)]),(1000,HP x ifs roots d),(1001,HX d)] Z3 Z4 (yN (Xi (.gen [(1000,1000),(1001,1001)] 0) (Yi rfl (IN.imp ?_)))));intro v1 g1 q1;have SC:=q1.1;have Oi:=q1.2;subst SC;subst Oi;have Di:BJ 1 [Ap []]/\(d.map Ap).length=(d.map Ap).length/\((d.map Ap).length+[Ap []].length)*24<=140737488355328/\(d.map Ap).length+[Ap []].length<=9223372036854775807:=
    ⟨⟨rfl,trivial⟩,rfl,by rw[Lm,A6];omega,by rw[Lm,A6];omega⟩
   refine Yi Di (yN ?_);have eh:Ae [(1000,HO.cells [sl Al x,.slice .none ifs,sl Ac roots,.slice (.id 1001 1) (d.map Ap++[Ap []])]),(1001,.tok 1 ((d.map Ap).length+[Ap []].length))] Ab=Ae (Mi x ifs roots (d++[[]])) Ab:=by
    simp[Mi,HP,jX,HX]
   have er:vb false=vb (Bo x roots d ⟨1,p,pl,nu,le,ri⟩).isSome:=by rw[FB];rfl
   exact Xi _ (Yi (.refl _) (Yi er (Xi (d++[[]]) (Yi eh (fun t ht=>by rw[FB]at ht;cases ht)))))
  |some tt=>
   have FB:Bo x roots d ⟨1,p,pl,nu,le,ri⟩=some tt:=by simp_all
   rw[ho]at IN;refine A7 (H5 (Ec [3,4,6])) [(1000,1000),(1001,1001)] rfl Bu hm rfl Tryz.func182 aa0 rfl (Nz rfl) aa0 rfl (Yi ?_ ?_)
   .intro h;exact absurd (show(1:Int)<0 from h) Wk
   intro _;refine Yi ?_ ?_
   .intro h;exact absurd (show(3:Int)<1 from h) Wk
   intro _;refine cU [(0,.ref 1000 0),(3,.ref 3 0)] [(3,.cells (AG ⟨1,p,pl,nu,le,ri⟩)),(1000,HP x ifs roots d),(1001,HX d)] Z2 Z3 (Xi _ (Yi (Qk) (Yi ⟨by omega,by omega⟩ ?_)));refine Yi (Nz rfl) (yN (Yi aa0 (cU [(0,.ref 1000 0),(3,.ref 3 0),(5,.ref 5 0)] [(3,.cells (AG ⟨1,p,pl,nu,le,ri⟩)),(5,.cells [.v (Gl 316),.v (Gl 317)]),(1000,HP x ifs roots d),(1001,HX d)] Z3 Z4 (yN (Xi _ (Yi (nG ⟨1,p,pl,nu,le,ri⟩) (Yi ?_ ?_)))))))
   rotate_left
   .intro h6;have he:WD [vi 1,vs mt,vi 0,vi 0,vi le,vi ri] [vi 1,vs mt,vi 0,vi 0,vi 0,vi 0]:=⟨rfl,rfl,rfl,rfl,hc.1,hc.2,trivial⟩;exact absurd he h6
   intro _;refine Yi aa0 (cU [(0,.ref 1000 0),(3,.ref 3 0),(5,.ref 5 0)] [(3,.cells (AG ⟨1,p,pl,nu,le,ri⟩)),(5,.cells [.v (Gl 316),.v (Gl 317)]),(1000,HP x ifs roots d),(1001,HX d)] Z3 Z4 (yN (Xi (.gen [(1000,1000),(1001,1001)] 0) (Yi rfl (IN.imp ?_)))));intro v1 g1 q1;have SC:=q1.1;have Oi:=q1.2;subst SC;subst Oi;have Di:BJ 1 [Ap tt]/\(d.map Ap).length=(d.map Ap).length/\((d.map Ap).length+[Ap tt].length)*24<=140737488355328/\(d.map Ap).length+[Ap tt].length<=9223372036854775807:=
    ⟨⟨rfl,trivial⟩,rfl,by rw[Lm,A6];omega,by rw[Lm,A6];omega⟩
   refine Yi Di (yN ?_);have eh:Ae [(1000,HO.cells [sl Al x,.slice .none ifs,sl Ac roots,.slice (.id 1001 1) (d.map Ap++[Ap tt])]),(1001,.tok 1 ((d.map Ap).length+[Ap tt].length))] Ab=Ae (Mi x ifs roots (d++[tt])) Ab:=by
    simp[Mi,HP,jX,HX]
   have er:vb true=vb (Bo x roots d ⟨1,p,pl,nu,le,ri⟩).isSome:=by rw[FB];rfl
   exact Xi _ (Yi (.refl _) (Yi er (Xi (d++[tt]) (Yi eh (fun t ht=>by rw[FB]at ht;cases ht;rfl)))))
 .have FB:Bo x roots d ⟨1,p,pl,nu,le,ri⟩=none:=by simp_all
  refine A7 (H5 (Ec [3,4,6])) [(1000,1000),(1001,1001)] rfl Bu hm rfl Tryz.func182 aa0 rfl (Nz rfl) aa0 rfl (Yi ?_ ?_)
  .intro h;exact absurd (show(1:Int)<0 from h) Wk
  intro _;refine Yi ?_ ?_
  .intro h;exact absurd (show(3:Int)<1 from h) Wk
  intro _;refine cU [(0,.ref 1000 0),(3,.ref 3 0)] [(3,.cells (AG ⟨1,p,pl,nu,le,ri⟩)),(1000,HP x ifs roots d),(1001,HX d)] Z2 Z3 (Xi _ (Yi (Qk) (Yi ⟨by omega,by omega⟩ ?_)));refine Yi (Nz rfl) (yN (Yi aa0 (cU [(0,.ref 1000 0),(3,.ref 3 0),(5,.ref 5 0)] [(3,.cells (AG ⟨1,p,pl,nu,le,ri⟩)),(5,.cells [.v (Gl 316),.v (Gl 317)]),(1000,HP x ifs roots d),(1001,HX d)] Z3 Z4 (yN (Xi _ (Yi (nG ⟨1,p,pl,nu,le,ri⟩) (Yi ?_ ?_)))))))
  .intro h6;exact absurd (show le=0/\ri=0 from⟨h6.2.2.2.2.1,h6.2.2.2.2.2.1⟩) hc
  intro _;refine Yi aa0 ?_;have er:vb false=vb (Bo x roots d ⟨1,p,pl,nu,le,ri⟩).isSome:=by rw[FB];rfl
  exact Xi _ (Yi (.refl _) (Yi er (Xi d (Yi rfl (fun t ht=>by rw[FB]at ht;cases ht)))))
theorem qD(hd:d.length<=65536)(kk:jD x ifs roots) :
  AW Tryz.prog 182 [.ref 1000 0,.agg (AG ⟨2,p,pl,nu,le,ri⟩)] (Ae (Mi x ifs roots d) Ab) fun r h'=>QQ x ifs roots d ⟨2,p,pl,nu,le,ri⟩ r h':=by
 have fE:Bo x roots d ⟨2,p,pl,nu,le,ri⟩=if pl=0/\nu=0/\le=0/\ri=0 then QG (EK p (Br x p))else none:=rfl
 by_cases hc:pl=0/\nu=0/\le=0/\ri=0
 .have fG:Bo x roots d ⟨2,p,pl,nu,le,ri⟩=QG (EK p (Br x p)):=by simp_all
  have IN:=kk d ⟨2,p,pl,nu,le,ri⟩;cases ho:QG (EK p (Br x p))with
  |none=>
   have FB:Bo x roots d ⟨2,p,pl,nu,le,ri⟩=none:=by simp_all
   rw[ho]at IN;refine A7 (H5 (Ec [3,4,6])) [(1000,1000),(1001,1001)] rfl Bu hm rfl Tryz.func182 aa0 rfl (Nz rfl) aa0 rfl (Yi ?_ ?_)
   .intro h;exact absurd (show(2:Int)<0 from h) Wk
   intro _;refine Yi ?_ ?_
   .intro h;exact absurd (show(3:Int)<2 from h) Wk
   intro _;refine cU [(0,.ref 1000 0),(3,.ref 3 0)] [(3,.cells (AG ⟨2,p,pl,nu,le,ri⟩)),(1000,HP x ifs roots d),(1001,HX d)] Z2 Z3 (Xi _ (Yi (Qk) (Yi ⟨by omega,by omega⟩ ?_)));refine Yi (Nz rfl) (yN (Yi aa0 (cU [(0,.ref 1000 0),(3,.ref 3 0),(5,.ref 5 0)] [(3,.cells (AG ⟨2,p,pl,nu,le,ri⟩)),(5,.cells [.v (Gl 318),.v (Gl 319)]),(1000,HP x ifs roots d),(1001,HX d)] Z3 Z4 (yN (Xi _ (Yi (nH ⟨2,p,pl,nu,le,ri⟩) (Yi ?_ ?_)))))))
   rotate_left
   .intro h6;have he:WD [vi 2,vs mt,vi pl,vi nu,vi le,vi ri] [vi 2,vs mt,vi 0,vi 0,vi 0,vi 0]:=⟨rfl,rfl,hc.1,hc.2.1,hc.2.2.1,hc.2.2.2,trivial⟩;exact absurd he h6
   intro _;refine Yi aa0 (cU [(0,.ref 1000 0),(3,.ref 3 0),(5,.ref 5 0)] [(3,.cells (AG ⟨2,p,pl,nu,le,ri⟩)),(5,.cells [.v (Gl 318),.v (Gl 319)]),(1000,HP x ifs roots d),(1001,HX d)] Z3 Z4 (yN (Xi (.gen [(1000,1000),(1001,1001)] 0) (Yi rfl (IN.imp ?_)))));intro v1 g1 q1;have SC:=q1.1;have Oi:=q1.2;subst SC;subst Oi;have Di:BJ 1 [Ap []]/\(d.map Ap).length=(d.map Ap).length/\((d.map Ap).length+[Ap []].length)*24<=140737488355328/\(d.map Ap).length+[Ap []].length<=9223372036854775807:=
    ⟨⟨rfl,trivial⟩,rfl,by rw[Lm,A6];omega,by rw[Lm,A6];omega⟩
   refine Yi Di (yN ?_);have eh:Ae [(1000,HO.cells [sl Al x,.slice .none ifs,sl Ac roots,.slice (.id 1001 1) (d.map Ap++[Ap []])]),(1001,.tok 1 ((d.map Ap).length+[Ap []].length))] Ab=Ae (Mi x ifs roots (d++[[]])) Ab:=by
    simp[Mi,HP,jX,HX]
   have er:vb false=vb (Bo x roots d ⟨2,p,pl,nu,le,ri⟩).isSome:=by rw[FB];rfl
   exact Xi _ (Yi (.refl _) (Yi er (Xi (d++[[]]) (Yi eh (fun t ht=>by rw[FB]at ht;cases ht)))))
  |some tt=>
   have FB:Bo x roots d ⟨2,p,pl,nu,le,ri⟩=some tt:=by simp_all
   rw[ho]at IN;refine A7 (H5 (Ec [3,4,6])) [(1000,1000),(1001,1001)] rfl Bu hm rfl Tryz.func182 aa0 rfl (Nz rfl) aa0 rfl (Yi ?_ ?_)
   .intro h;exact absurd (show(2:Int)<0 from h) Wk
   intro _;refine Yi ?_ ?_
   .intro h;exact absurd (show(3:Int)<2 from h) Wk
   intro _;refine cU [(0,.ref 1000 0),(3,.ref 3 0)] [(3,.cells (AG ⟨2,p,pl,nu,le,ri⟩)),(1000,HP x ifs roots d),(1001,HX d)] Z2 Z3 (Xi _ (Yi (Qk) (Yi ⟨by omega,by omega⟩ ?_)));refine Yi (Nz rfl) (yN (Yi aa0 (cU [(0,.ref 1000 0),(3,.ref 3 0),(5,.ref 5 0)] [(3,.cells (AG ⟨2,p,pl,nu,le,ri⟩)),(5,.cells [.v (Gl 318),.v (Gl 319)]),(1000,HP x ifs roots d),(1001,HX d)] Z3 Z4 (yN (Xi _ (Yi (nH ⟨2,p,pl,nu,le,ri⟩) (Yi ?_ ?_)))))))
   rotate_left
   .intro h6;have he:WD [vi 2,vs mt,vi pl,vi nu,vi le,vi ri] [vi 2,vs mt,vi 0,vi 0,vi 0,vi 0]:=⟨rfl,rfl,hc.1,hc.2.1,hc.2.2.1,hc.2.2.2,trivial⟩;exact absurd he h6
   intro _;refine Yi aa0 (cU [(0,.ref 1000 0),(3,.ref 3 0),(5,.ref 5 0)] [(3,.cells (AG ⟨2,p,pl,nu,le,ri⟩)),(5,.cells [.v (Gl 318),.v (Gl 319)]),(1000,HP x ifs roots d),(1001,HX d)] Z3 Z4 (yN (Xi (.gen [(1000,1000),(1001,1001)] 0) (Yi rfl (IN.imp ?_)))));intro v1 g1 q1;have SC:=q1.1;have Oi:=q1.2;subst SC;subst Oi;have Di:BJ 1 [Ap tt]/\(d.map Ap).length=(d.map Ap).length/\((d.map Ap).length+[Ap tt].length)*24<=140737488355328/\(d.map Ap).length+[Ap tt].length<=9223372036854775807:=
    ⟨⟨rfl,trivial⟩,rfl,by rw[Lm,A6];omega,by rw[Lm,A6];omega⟩
   refine Yi Di (yN ?_);have eh:Ae [(1000,HO.cells [sl Al x,.slice .none ifs,sl Ac roots,.slice (.id 1001 1) (d.map Ap++[Ap tt])]),(1001,.tok 1 ((d.map Ap).length+[Ap tt].length))] Ab=Ae (Mi x ifs roots (d++[tt])) Ab:=by
    simp[Mi,HP,jX,HX]
   have er:vb true=vb (Bo x roots d ⟨2,p,pl,nu,le,ri⟩).isSome:=by rw[FB];rfl
   exact Xi _ (Yi (.refl _) (Yi er (Xi (d++[tt]) (Yi eh (fun t ht=>by rw[FB]at ht;cases ht;rfl)))))
 .have FB:Bo x roots d ⟨2,p,pl,nu,le,ri⟩=none:=by simp_all
  refine A7 (H5 (Ec [3,4,6])) [(1000,1000),(1001,1001)] rfl Bu hm rfl Tryz.func182 aa0 rfl (Nz rfl) aa0 rfl (Yi ?_ ?_)
  .intro h;exact absurd (show(2:Int)<0 from h) Wk
  intro _;refine Yi ?_ ?_
  .intro h;exact absurd (show(3:Int)<2 from h) Wk
  intro _;refine cU [(0,.ref 1000 0),(3,.ref 3 0)] [(3,.cells (AG ⟨2,p,pl,nu,le,ri⟩)),(1000,HP x ifs roots d),(1001,HX d)] Z2 Z3 (Xi _ (Yi (Qk) (Yi ⟨by omega,by omega⟩ ?_)));refine Yi (Nz rfl) (yN (Yi aa0 (cU [(0,.ref 1000 0),(3,.ref 3 0),(5,.ref 5 0)] [(3,.cells (AG ⟨2,p,pl,nu,le,ri⟩)),(5,.cells [.v (Gl 318),.v (Gl 319)]),(1000,HP x ifs roots d),(1001,HX d)] Z3 Z4 (yN (Xi _ (Yi (nH ⟨2,p,pl,nu,le,ri⟩) (Yi ?_ ?_)))))))
  .intro h6;exact absurd (show pl=0/\nu=0/\le=0/\ri=0 from⟨h6.2.2.1,h6.2.2.2.1,h6.2.2.2.2.1,h6.2.2.2.2.2.1⟩) hc
  intro _;refine Yi aa0 ?_;have er:vb false=vb (Bo x roots d ⟨2,p,pl,nu,le,ri⟩).isSome:=by rw[FB];rfl
  exact Xi _ (Yi (.refl _) (Yi er (Xi d (Yi rfl (fun t ht=>by rw[FB]at ht;cases ht)))))
theorem qE(hd:d.length<=65536)(hi:∀t∈d,bt t) :
  AW Tryz.prog 182 [.ref 1000 0,.agg (AG ⟨3,p,pl,nu,le,ri⟩)] (Ae (Mi x ifs roots d) Ab) fun r h'=>QQ x ifs roots d ⟨3,p,pl,nu,le,ri⟩ r h':=by
 have fE:Bo x roots d ⟨3,p,pl,nu,le,ri⟩=if pl=0/\nu=0 then SG d ⟨3,p,pl,nu,le,ri⟩else none:=rfl
 by_cases hc:pl=0/\nu=0
 .have fG:Bo x roots d ⟨3,p,pl,nu,le,ri⟩=SG d ⟨3,p,pl,nu,le,ri⟩:=by simp_all
  have IN:=uZ x ifs roots d ⟨3,p,pl,nu,le,ri⟩ hi;cases ho:SG d ⟨3,p,pl,nu,le,ri⟩with
  |none=>
   have FB:Bo x roots d ⟨3,p,pl,nu,le,ri⟩=none:=by simp_all
   rw[ho]at IN;refine A7 (H5 (Ec [3,4,6])) [(1000,1000),(1001,1001)] rfl Bu hm rfl Tryz.func182 aa0 rfl (Nz rfl) aa0 rfl (Yi ?_ ?_)
   .intro h;exact absurd (show(3:Int)<0 from h) Wk
   intro _;refine Yi ?_ ?_
   .intro h;exact absurd (show(3:Int)<3 from h) Wk
   intro _;refine cU [(0,.ref 1000 0),(3,.ref 3 0)] [(3,.cells (AG ⟨3,p,pl,nu,le,ri⟩)),(1000,HP x ifs roots d),(1001,HX d)] Z2 Z3 (Xi _ (Yi (Qk) (Yi ⟨by omega,by omega⟩ ?_)));refine Yi (Nz rfl) (yN (Yi aa0 (cU [(0,.ref 1000 0),(3,.ref 3 0),(5,.ref 5 0)] [(3,.cells (AG ⟨3,p,pl,nu,le,ri⟩)),(5,.cells [.v (Gl 320),.v (Gl 321)]),(1000,HP x ifs roots d),(1001,HX d)] Z3 Z4 (yN (Xi _ (Yi (nI ⟨3,p,pl,nu,le,ri⟩) (Yi ?_ ?_)))))))
   rotate_left
   .intro h6;have he:WD [vi 3,vs mt,vi pl,vi nu,vi 0,vi 0] [vi 3,vs mt,vi 0,vi 0,vi 0,vi 0]:=⟨rfl,rfl,hc.1,hc.2,rfl,rfl,trivial⟩;exact absurd he h6
   intro _;refine Yi aa0 (cU [(0,.ref 1000 0),(3,.ref 3 0),(5,.ref 5 0)] [(3,.cells (AG ⟨3,p,pl,nu,le,ri⟩)),(5,.cells [.v (Gl 320),.v (Gl 321)]),(1000,HP x ifs roots d),(1001,HX d)] Z3 Z4 (yN (Xi (.gen [(1000,1000),(1001,1001)] 0) (Yi rfl (IN.imp ?_)))));intro v1 g1 q1;have SC:=q1.1;have Oi:=q1.2;subst SC;subst Oi;have Di:BJ 1 [Ap []]/\(d.map Ap).length=(d.map Ap).length/\((d.map Ap).length+[Ap []].length)*24<=140737488355328/\(d.map Ap).length+[Ap []].length<=9223372036854775807:=
    ⟨⟨rfl,trivial⟩,rfl,by rw[Lm,A6];omega,by rw[Lm,A6];omega⟩
   refine Yi Di (yN ?_);have eh:Ae [(1000,HO.cells [sl Al x,.slice .none ifs,sl Ac roots,.slice (.id 1001 1) (d.map Ap++[Ap []])]),(1001,.tok 1 ((d.map Ap).length+[Ap []].length))] Ab=Ae (Mi x ifs roots (d++[[]])) Ab:=by
    simp[Mi,HP,jX,HX]
   have er:vb false=vb (Bo x roots d ⟨3,p,pl,nu,le,ri⟩).isSome:=by rw[FB];rfl
   exact Xi _ (Yi (.refl _) (Yi er (Xi (d++[[]]) (Yi eh (fun t ht=>by rw[FB]at ht;cases ht)))))
  |some tt=>
   have FB:Bo x roots d ⟨3,p,pl,nu,le,ri⟩=some tt:=by simp_all
   rw[ho]at IN;refine A7 (H5 (Ec [3,4,6])) [(1000,1000),(1001,1001)] rfl Bu hm rfl Tryz.func182 aa0 rfl (Nz rfl) aa0 rfl (Yi ?_ ?_)
   .intro h;exact absurd (show(3:Int)<0 from h) Wk
   intro _;refine Yi ?_ ?_
   .intro h;exact absurd (show(3:Int)<3 from h) Wk
   intro _;refine cU [(0,.ref 1000 0),(3,.ref 3 0)] [(3,.cells (AG ⟨3,p,pl,nu,le,ri⟩)),(1000,HP x ifs roots d),(1001,HX d)] Z2 Z3 (Xi _ (Yi (Qk) (Yi ⟨by omega,by omega⟩ ?_)));refine Yi (Nz rfl) (yN (Yi aa0 (cU [(0,.ref 1000 0),(3,.ref 3 0),(5,.ref 5 0)] [(3,.cells (AG ⟨3,p,pl,nu,le,ri⟩)),(5,.cells [.v (Gl 320),.v (Gl 321)]),(1000,HP x ifs roots d),(1001,HX d)] Z3 Z4 (yN (Xi _ (Yi (nI ⟨3,p,pl,nu,le,ri⟩) (Yi ?_ ?_)))))))
   rotate_left
   .intro h6;have he:WD [vi 3,vs mt,vi pl,vi nu,vi 0,vi 0] [vi 3,vs mt,vi 0,vi 0,vi 0,vi 0]:=⟨rfl,rfl,hc.1,hc.2,rfl,rfl,trivial⟩;exact absurd he h6
   intro _;refine Yi aa0 (cU [(0,.ref 1000 0),(3,.ref 3 0),(5,.ref 5 0)] [(3,.cells (AG ⟨3,p,pl,nu,le,ri⟩)),(5,.cells [.v (Gl 320),.v (Gl 321)]),(1000,HP x ifs roots d),(1001,HX d)] Z3 Z4 (yN (Xi (.gen [(1000,1000),(1001,1001)] 0) (Yi rfl (IN.imp ?_)))));intro v1 g1 q1;have SC:=q1.1;have Oi:=q1.2;subst SC;subst Oi;have Di:BJ 1 [Ap tt]/\(d.map Ap).length=(d.map Ap).length/\((d.map Ap).length+[Ap tt].length)*24<=140737488355328/\(d.map Ap).length+[Ap tt].length<=9223372036854775807:=
    ⟨⟨rfl,trivial⟩,rfl,by rw[Lm,A6];omega,by rw[Lm,A6];omega⟩
   refine Yi Di (yN ?_);have eh:Ae [(1000,HO.cells [sl Al x,.slice .none ifs,sl Ac roots,.slice (.id 1001 1) (d.map Ap++[Ap tt])]),(1001,.tok 1 ((d.map Ap).length+[Ap tt].length))] Ab=Ae (Mi x ifs roots (d++[tt])) Ab:=by
    simp[Mi,HP,jX,HX]
   have er:vb true=vb (Bo x roots d ⟨3,p,pl,nu,le,ri⟩).isSome:=by rw[FB];rfl
   exact Xi _ (Yi (.refl _) (Yi er (Xi (d++[tt]) (Yi eh (fun t ht=>by rw[FB]at ht;cases ht;rfl)))))
 .have FB:Bo x roots d ⟨3,p,pl,nu,le,ri⟩=none:=by simp_all
  refine A7 (H5 (Ec [3,4,6])) [(1000,1000),(1001,1001)] rfl Bu hm rfl Tryz.func182 aa0 rfl (Nz rfl) aa0 rfl (Yi ?_ ?_)
  .intro h;exact absurd (show(3:Int)<0 from h) Wk
  intro _;refine Yi ?_ ?_
  .intro h;exact absurd (show(3:Int)<3 from h) Wk
  intro _;refine cU [(0,.ref 1000 0),(3,.ref 3 0)] [(3,.cells (AG ⟨3,p,pl,nu,le,ri⟩)),(1000,HP x ifs roots d),(1001,HX d)] Z2 Z3 (Xi _ (Yi (Qk) (Yi ⟨by omega,by omega⟩ ?_)));refine Yi (Nz rfl) (yN (Yi aa0 (cU [(0,.ref 1000 0),(3,.ref 3 0),(5,.ref 5 0)] [(3,.cells (AG ⟨3,p,pl,nu,le,ri⟩)),(5,.cells [.v (Gl 320),.v (Gl 321)]),(1000,HP x ifs roots d),(1001,HX d)] Z3 Z4 (yN (Xi _ (Yi (nI ⟨3,p,pl,nu,le,ri⟩) (Yi ?_ ?_)))))))
  .intro h6;exact absurd (show pl=0/\nu=0 from⟨h6.2.2.1,h6.2.2.2.1⟩) hc
  intro _;refine Yi aa0 ?_;have er:vb false=vb (Bo x roots d ⟨3,p,pl,nu,le,ri⟩).isSome:=by rw[FB];rfl
  exact Xi _ (Yi (.refl _) (Yi er (Xi d (Yi rfl (fun t ht=>by rw[FB]at ht;cases ht)))))
theorem c66(hd:d.length<=65536)(hr:∀q∈roots,Cr q.set)(hx:Cr x)(hq:∀r∈x,∀q∈r.reqs,Cr q.set)(kk:jD x ifs roots)(hi:∀t∈d,bt t) :
  AW Tryz.prog 182 [.ref 1000 0,.agg (AG i)] (Ae (Mi x ifs roots d) Ab) fun r h'=>QQ x ifs roots d i r h':=by
 obtain⟨k,p,pl,nu,le,ri⟩:=i
 by_cases h0:k=0
 .grind [qB]
 by_cases h1:k=1
 .grind [qC]
 by_cases h2:k=2
 .grind [qD]
 by_cases h3:k=3
 .grind [qE]
 have FB:Bo x roots d ⟨k,p,pl,nu,le,ri⟩=none:=by
  show(if k=0 then _ else if k=1 then _ else if k=2 then _ else if k=3 then _ else none)=none;simp_all
 have er:vb false=vb (Bo x roots d ⟨k,p,pl,nu,le,ri⟩).isSome:=by simp_all
 refine A7 (H5 D0) [(1000,1000),(1001,1001)] rfl Bu hm rfl Tryz.func182 aa0 rfl (Nz rfl) aa0 rfl (Yi ?_ ?_)
 .intro _;exact Xi _ (Yi (.refl _) (Yi er (Xi d (Yi rfl (fun t ht=>by simp_all)))))
 intro h4;have h4:¬k<0:=h4;refine Yi ?_ ?_
 .intro _;exact Xi _ (Yi (.refl _) (Yi er (Xi d (Yi rfl (fun t ht=>by simp_all)))))
 intro h5;have h5:¬3<k:=h5;omega
end Go.Eng
