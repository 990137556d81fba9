/- Lemmas for the claims of this seat, without a condition: part 21 (C38, C39, LayStr, C40, C41, C42, C43, C44, C45, C46, C47, C48, C49, C50, C51, C52, C53, C54, C55). -/
import Derived.Test.YtddfphmpfnmknaaGreatDoorCA20
import Derived.Shelf.Strings.SplitShaped
import Derived.Shelf.Strings.LastIndexAll
import Derived.Shelf.Strings.Search3
import Derived.Shelf.Small.Wraps
import Derived.Ground.NamesProg
import Derived.Lib.LastIndexLaws
namespace Go.Eng
open Go.Proofs
abbrev pi(r:Rl)(a:AV):List AV:=[vs r.path,vi r.ver.a,vi r.ver.b,vi r.ver.c,a,vs r.arch,vs r.ifc,vs r.cert,vb r.yanked]
abbrev vW:RK:=⟨[],[],[],[],[],[],[],[(9,(1,4,900,2))],[],[],[6,7]⟩
theorem ub(r:Rl)(hr:r.reqs.length≤1000)(hs:∀q∈r.reqs,CO q.set):PC 42 [.agg (Ak r)] (.agg (Ak r)):=by
 refine Ps vW Tryz.func42 rfl (Nz rfl) ?_;refine Yi (Nz rfl) ?_;refine Xi {i:Nat // i≤r.reqs.length} (Xi (fun i=>⟨[(1,.ref 1 0),(2,.ref 2 0),(9,sl AK r.reqs),(10,vi (r.reqs.map AK).length),(11,vi i.1)],[(1,.cells (pi r (.slice (.id 900 2) ((r.reqs.take i.1).map AK)))),(2,.cells Yu),(900,.tok 2 ((r.reqs.take i.1).map AK).length)],Aa⟩) (Xi (fun i=>r.reqs.length-i.1) (Yi (Xi ⟨0,AL _⟩ ?_) ?_)))
 ·exact⟨Z5,Z3,Fh,Tv⟩
 intro⟨i,h1⟩;refine Yi ?_ ?_
 ·intro h;have h:(i:Int)<(r.reqs.map AK).length:=h;have h:i<r.reqs.length:=by simpa using h
  have hg:r.reqs[i]?=some r.reqs[i]:=Ge h;refine Xi (AK r.reqs[i]) (Yi (Yi (Nn i) (by simp[hg])) (Yi rfl ?_));have hq:=hs r.reqs[i] (AC h);refine Yi (Nz rfl) (Yi (Nz rfl) ?_);refine Xi ⟨[(1,.ref 1 0),(2,.ref 2 0),(5,.ref 5 0),(9,sl AK r.reqs),(10,vi (r.reqs.map AK).length),(11,vi i)],[(1,.cells (pi r (.slice (.id 900 2) ((r.reqs.take i).map AK)))),(2,.cells Yu),(5,.cells (AK r.reqs[i])),(900,.tok 2 ((r.reqs.take i).map AK).length)],Aa⟩ (Yi ⟨Z6,Z4,Fh,Tv⟩ ?_)
  refine Xi .pure (Xi _ (Yi (tw r.reqs[i].set hq) ?_));refine Yi (Nz rfl) ?_;refine Xi ⟨[(1,.ref 1 0),(2,.ref 2 0),(5,.ref 5 0),(9,sl AK r.reqs),(10,vi (r.reqs.map AK).length),(11,vi i)],[(1,.cells (pi r (.slice (.id 900 2) ((r.reqs.take i).map AK)))),(2,.cells Yu),(5,.cells (AK r.reqs[i])),(900,.tok 2 ((r.reqs.take i).map AK).length)],Aa⟩ (Yi ⟨Z6,Z4,Fh,Tv⟩ ?_)
  refine Yi (Nz rfl) ?_;have He:De 2 [AK r.reqs[i]]∧((r.reqs.take i).map AK).length=((r.reqs.take i).map AK).length∧(((r.reqs.take i).map AK).length+[AK r.reqs[i]].length)*40≤140737488355328∧((r.reqs.take i).map AK).length+[AK r.reqs[i]].length≤9223372036854775807 :=
   ⟨⟨rfl,trivial⟩,rfl,by rw[Lm,AD,A6];omega,by rw[Lm,AD,A6];omega⟩
  refine Yi He ?_;refine Yi (Nz rfl) ?_;refine Yi (Ii i (by omega)) ?_;refine Xi ⟨i+1,by omega⟩ ?_;have et:(r.reqs.take (i+1)).map AK=(r.reqs.take i).map AK++[AK r.reqs[i]]:=by rw[Bq,hg,Ax];rfl
  have e1:HO.cells (pi r (.slice (.id 900 2) ((r.reqs.take i).map AK++[AK r.reqs[i]])))=.cells (pi r (.slice (.id 900 2) ((r.reqs.take (i+1)).map AK))):=by rw[et]
  have e2:HO.tok 2 (((r.reqs.take i).map AK).length+[AK r.reqs[i]].length)=.tok 2 ((r.reqs.take (i+1)).map AK).length:=by rw[et,Ad]
  exact⟨Dl r.reqs.length i (by omega),Z5,⟨⟨e1,rfl⟩,Zr,⟨e2,rfl⟩,Tv⟩,Fh,Tv⟩
 ·intro h;have h:¬(i:Int)<(r.reqs.map AK).length:=h;have h:¬i<r.reqs.length:=by simpa using h
  refine Yi (Nz rfl) (Yi (Nz rfl) (Yi (Nz rfl) ?_));have e:AV.agg (pi r (.slice .none ((r.reqs.take i).map AK)))=.agg (Ak r):=by rw[AG (by omega)]
  exact .of_eq e
abbrev vc(c:UInt8):AV:=.v (.int .u8 c.toNat)
theorem iH(a:UInt8)(n:Nat)(h:n<256):decide (UInt8.ofNat n≤a)=decide ((n:Int)≤(a.toNat:Int)):=by
 rw[BP,As,As,Lp,show(UInt8.ofNat n).toNat=n by simp;omega];omega
theorem iG(a:UInt8)(n:Nat)(h:n<256):decide (a≤UInt8.ofNat n)=decide ((a.toNat:Int)≤(n:Int)):=by
 rw[BP,As,As,Lp,show(UInt8.ofNat n).toNat=n by simp;omega];omega
theorem mM(c:UInt8):PC 162 [vc c] (vb (GY c)):=by
 refine Ps Gl Tryz.func162 rfl (Nz rfl) ?_;have e1:decide ((97:UInt8)≤c)=decide ((97:Int)≤(c.toNat:Int)):=iH c 97 (by decide);have e2:decide (c≤(122:UInt8))=decide ((c.toNat:Int)≤(122:Int)):=iG c 122 (by decide);have es:GY c=(decide ((97:Int)≤(c.toNat:Int))&&decide ((c.toNat:Int)≤(122:Int))):=by unfold GY;rw[e1,e2]
 refine Yi ?_ ?_
 ·intro h;have h:(97:Int)≤(c.toNat:Int):=h;refine Yi ?_ ?_
  ·intro h2;have h2:(c.toNat:Int)≤122:=h2;exact .of_eq (Ac vb (show true=GY c by rw[es,AA h,AA h2];rfl))
  ·intro h2;have h2:¬(c.toNat:Int)≤122:=h2;exact .of_eq (Ac vb (show false=GY c by rw[es,Ay h2,Ec]))
 ·intro h;have h:¬(97:Int)≤(c.toNat:Int):=h;exact .of_eq (Ac vb (show false=GY c by rw[es,Ay h];rfl))
theorem mN(c:UInt8):PC 163 [vc c] (vb (EW c)):=by
 refine Ps Gl Tryz.func163 rfl (Nz rfl) ?_;have e1:decide ((48:UInt8)≤c)=decide ((48:Int)≤(c.toNat:Int)):=iH c 48 (by decide);have e2:decide (c≤(57:UInt8))=decide ((c.toNat:Int)≤(57:Int)):=iG c 57 (by decide);have es:EW c=(decide ((48:Int)≤(c.toNat:Int))&&decide ((c.toNat:Int)≤(57:Int))):=by unfold EW;rw[e1,e2]
 refine Yi ?_ ?_
 ·intro h;have h:(48:Int)≤(c.toNat:Int):=h;refine Yi ?_ ?_
  ·intro h2;have h2:(c.toNat:Int)≤57:=h2;exact .of_eq (Ac vb (show true=EW c by rw[es,AA h,AA h2];rfl))
  ·intro h2;have h2:¬(c.toNat:Int)≤57:=h2;exact .of_eq (Ac vb (show false=EW c by rw[es,Ay h2,Ec]))
 ·intro h;have h:¬(48:Int)≤(c.toNat:Int):=h;exact .of_eq (Ac vb (show false=EW c by rw[es,Ay h];rfl))
theorem t7(c:UInt8):PC 231 [vc c] (vb (VL c)):=by
 refine Ps Gl Tryz.func231 rfl (Nz rfl) ?_;have e1:decide ((65:UInt8)≤c)=decide ((65:Int)≤(c.toNat:Int)):=iH c 65 (by decide);have e2:decide (c≤(90:UInt8))=decide ((c.toNat:Int)≤(90:Int)):=iG c 90 (by decide);have es:VL c=(decide ((65:Int)≤(c.toNat:Int))&&decide ((c.toNat:Int)≤(90:Int))):=by unfold VL;rw[e1,e2]
 refine Yi ?_ ?_
 ·intro h;have h:(65:Int)≤(c.toNat:Int):=h;refine Yi ?_ ?_
  ·intro h2;have h2:(c.toNat:Int)≤90:=h2;exact .of_eq (Ac vb (show true=VL c by rw[es,AA h,AA h2];rfl))
  ·intro h2;have h2:¬(c.toNat:Int)≤90:=h2;exact .of_eq (Ac vb (show false=VL c by rw[es,Ay h2,Ec]))
 ·intro h;have h:¬(65:Int)≤(c.toNat:Int):=h;exact .of_eq (Ac vb (show false=VL c by rw[es,Ay h];rfl))
abbrev ZD(c:UInt8):Bool:=GY c||EW c
theorem tU(c:UInt8):PC 161 [vc c] (vb (ZD c)):=by
 have h1:=mM c;have h2:=mN c;rcases Bt (GY c)with e | e
 ·rw[e]at h1;refine Ps Gl Tryz.func161 rfl (Nz rfl) ?_;refine Xi .pure (Xi _ (Yi (h1) ?_));exact .of_eq (Ac vb (show true=ZD c by unfold ZD;rw[e];rfl))
 ·rw[e]at h1;refine Ps Gl Tryz.func161 rfl (Nz rfl) ?_;refine Xi .pure (Xi _ (Yi (h1) ?_));refine Xi .pure (Xi _ (Yi (h2) ?_));exact .of_eq (Ac vb (show EW c=ZD c by unfold ZD;rw[e];rfl))
theorem tX(c:UInt8):PC 202 [vc c] (vb (Mp c)):=by
 have h1:=mM c;have h2:=t7 c;have h3:=mN c;have ew:Mp c=(GY c||VL c||EW c||decide (c=95)):=rfl;rcases Bt (GY c)with e | e
 ·rw[e]at h1;refine Ps Gl Tryz.func202 rfl (Nz rfl) ?_;refine Xi .pure (Xi _ (Yi (h1) ?_));exact .of_eq (Ac vb (show true=Mp c by rw[ew,e];rfl))
 rw[e]at h1;rcases Bt (VL c)with e2 | e2
 ·rw[e2]at h2;refine Ps Gl Tryz.func202 rfl (Nz rfl) ?_;refine Xi .pure (Xi _ (Yi (h1) ?_));refine Xi .pure (Xi _ (Yi (h2) ?_));exact .of_eq (Ac vb (show true=Mp c by rw[ew,e,e2];rfl))
 rw[e2]at h2;rcases Bt (EW c)with e3 | e3
 ·rw[e3]at h3;refine Ps Gl Tryz.func202 rfl (Nz rfl) ?_;refine Xi .pure (Xi _ (Yi (h1) ?_));refine Xi .pure (Xi _ (Yi (h2) ?_));refine Xi .pure (Xi _ (Yi (h3) ?_));exact .of_eq (Ac vb (show true=Mp c by rw[ew,e,e2,e3];rfl))
 rw[e3]at h3;refine Ps Gl Tryz.func202 rfl (Nz rfl) ?_;refine Xi .pure (Xi _ (Yi (h1) ?_));refine Xi .pure (Xi _ (Yi (h2) ?_));refine Xi .pure (Xi _ (Yi (h3) ?_));have eb:decide (c=95)=decide ((c.toNat:Int)=95):=by
  rw[BP,As,As];constructor
  ·intro h;subst h;rfl
  ·intro h;exact UInt8.toNat_inj.1 (by show c.toNat=95;omega)
 refine Yi ?_ ?_
 ·intro h;have h:(c.toNat:Int)=95:=h;exact .of_eq (Ac vb (show true=Mp c by rw[ew,e,e2,e3,eb,AA h];rfl))
 ·intro h;have h:¬(c.toNat:Int)=95:=h;exact .of_eq (Ac vb (show false=Mp c by rw[ew,e,e2,e3,eb,Ay h];rfl))
theorem ZO(s:ByteArray)(i:Nat)(h:i<s.data.toList.length):s.data[i]?=some s.data.toList[i]:=by
 rw[←A1];exact Ge h
theorem mL(s:ByteArray)(f:Nat)(q:UInt8→Bool)(hf:∀c,PC f [vc c] (vb (q c)))(hs:s.data.toList.length<4611686018427387904):PC 160 [vs s,.v (T5 f)] (vb (s.data.toList.all q)):=by
 have EC:s.size=s.data.toList.length:=by simp
 refine Ps Gl Tryz.func160 rfl (Nz rfl) ?_;refine Xi {i:Nat // i≤s.data.toList.length∧∀j (hj:j<s.data.toList.length),j<i→q s.data.toList[j]=true} (Xi (fun i=>⟨[(0,vs s),(1,.v (T5 f)),(7,vi s.size),(8,vi i.1)],[],Aa⟩) (Xi (fun i=>s.data.toList.length-i.1) (Yi (Xi ⟨0,AL _,fun j _ h=>by omega⟩ ?_) ?_)))
 ·exact⟨Z4,Tv,Fh,Tv⟩
 intro⟨i,h1,h2⟩;refine Yi ?_ ?_
 ·intro h;have h:(i:Int)<(s.size:Nat):=h;have h:i<s.data.toList.length:=by omega
  refine Xi s.data.toList[i] (Yi ⟨by show(0:Int)≤i;omega,by show s.data[((i:Nat):Int).toNat]?=_;rw[Ch];exact ZO s i h⟩ ?_);have hc:=hf s.data.toList[i];refine Dd (Bt (q s.data.toList[i])) (fun e=>?_) (fun e=>?_)
  ·rw[e]at hc;refine Xi .pure (Xi _ (Yi (hc) ?_));refine Yi (Ii i (by omega)) ?_;refine Xi ⟨i+1,by omega,fun j hj L3=>?_⟩ ?_
   ·rcases EF j i with z | z
    ·exact h2 j hj z
    ·have:j=i:=by omega
     subst this;exact e
   ·exact⟨Dl s.data.toList.length i (by omega),Z4,Tv,Fh,Tv⟩
  ·rw[e]at hc;refine Xi .pure (Xi _ (Yi (hc) ?_));have er:s.data.toList.all q=false:=by
    rw[AM];intro ha
    have:=Bk.1 ha _ (AC h)
    rw[e]at this;cases this
   exact .of_eq (Ac vb er.symm)
 ·intro h;have h:¬(i:Int)<(s.size:Nat):=h;have er:s.data.toList.all q=true:=Bk.2 fun c hc=>by
   obtain⟨j,hj,rfl⟩:=Fz hc;exact h2 j hj (by omega)
  exact .of_eq (Ac vb er.symm)
end Go.Eng
namespace Go.Proofs
open Go.Shelf
def Tryz.laySplit_ren:Go.Shelf.Ren:=⟨fun | 146=>157 | 221=>200 | 268=>227 | 138=>228 | 143=>229 | 195=>250 | 197=>251 | 218=>252 | 219=>253 | 260=>271 | 217=>272 | 225=>273 | 224=>274 | 267=>275 | 266=>290 | 314=>291 | n=>n,fun | 9=>9 | 31=>139 | 3=>3 | 4=>4 | 0=>0 | 105=>291 | 21=>21 | 5=>5 | 46=>174 | 119=>313 | 139=>316 | 138=>315 | 146=>260 | 51=>211 | n=>n,fun | 1=>0 | 3=>1 | 4=>2 | n=>n⟩
theorem Tryz.laySplit:Go.Proofs.Lays.n146 Tryz.prog Tryz.laySplit_ren:={
 mixed:=by kernel_rfl
 f138:=Tryz.func228.trans (congrArg some (by kernel_rfl))
 f143:=Tryz.func229.trans (congrArg some (by kernel_rfl))
 f146:=Tryz.func157.trans (congrArg some (by kernel_rfl))
 f195:=Tryz.func250.trans (congrArg some (by kernel_rfl))
 f197:=Tryz.func251.trans (congrArg some (by kernel_rfl))
 f217:=Tryz.func272.trans (congrArg some (by kernel_rfl))
 f218:=Tryz.func252.trans (congrArg some (by kernel_rfl))
 f219:=Tryz.func253.trans (congrArg some (by kernel_rfl))
 f221:=Tryz.func200.trans (congrArg some (by kernel_rfl))
 f224:=Tryz.func274.trans (congrArg some (by kernel_rfl))
 f225:=Tryz.func273.trans (congrArg some (by kernel_rfl))
 f260:=Tryz.func271.trans (congrArg some (by kernel_rfl))
 f266:=Tryz.func290.trans (congrArg some (by kernel_rfl))
 f267:=Tryz.func275.trans (congrArg some (by kernel_rfl))
 f268:=Tryz.func227.trans (congrArg some (by kernel_rfl))
 f314:=Tryz.func291.trans (congrArg some (by kernel_rfl))
 t0:=Tryz.underlying0
 a0:=Tryz.isAgg0
 z0:=Tryz.sizeOf0
 v0:=Tryz.zeroValue0
 t3:=Tryz.underlying3
 a3:=Tryz.isAgg3
 z3:=Tryz.sizeOf3
 v3:=Tryz.zeroValue3
 t4:=Tryz.underlying4
 a4:=Tryz.isAgg4
 z4:=Tryz.sizeOf4
 v4:=Tryz.zeroValue4
 t5:=Tryz.underlying5
 a5:=Tryz.isAgg5
 z5:=Tryz.sizeOf5
 v5:=Tryz.zeroValue5
 t9:=Tryz.underlying9
 a9:=Tryz.isAgg9
 z9:=Tryz.sizeOf9
 v9:=Tryz.zeroValue9
 t21:=Tryz.underlying21
 a21:=Tryz.isAgg21
 z21:=Tryz.sizeOf21
 v21:=Tryz.zeroValue21
 t31:=Tryz.underlying139
 a31:=Tryz.isAgg139
 z31:=Tryz.sizeOf139
 v31:=Tryz.zeroValue139
 t46:=Tryz.underlying174
 a46:=Tryz.isAgg174
 z46:=Tryz.sizeOf174
 v46:=Tryz.zeroValue174
 t51:=Tryz.underlying211
 a51:=Tryz.isAgg211
 z51:=Tryz.sizeOf211
 v51:=Tryz.zeroValue211
 t105:=Tryz.underlying291
 a105:=Tryz.isAgg291
 z105:=Tryz.sizeOf291
 v105:=Tryz.zeroValue291
 t119:=Tryz.underlying313
 a119:=Tryz.isAgg313
 z119:=Tryz.sizeOf313
 t138:=Tryz.underlying315
 a138:=Tryz.isAgg315
 z138:=Tryz.sizeOf315
 v138:=Tryz.zeroValue315
 t139:=Tryz.underlying316
 a139:=Tryz.isAgg316
 z139:=Tryz.sizeOf316
 v139:=Tryz.zeroValue316
 t146:=Tryz.underlying260
 a146:=Tryz.isAgg260
 z146:=Tryz.sizeOf260
 v146:=Tryz.zeroValue260
 g1:=by kernel_rfl
 g3:=by kernel_rfl
 g4:=by kernel_rfl }
def Tryz.layLast_ren:Go.Shelf.Ren:=⟨fun | 148=>111 | 222=>164 | 223=>165 | 269=>204 | n=>n,fun | 9=>9 | 3=>3 | 4=>4 | 5=>5 | 146=>260 | 51=>211 | 46=>174 | n=>n,fun | n=>n⟩
theorem Tryz.layLast:Go.Proofs.Lays.n148 Tryz.prog Tryz.layLast_ren:={
 mixed:=by kernel_rfl
 f148:=Tryz.func111.trans (congrArg some (by kernel_rfl))
 f222:=Tryz.func164.trans (congrArg some (by kernel_rfl))
 f223:=Tryz.func165.trans (congrArg some (by kernel_rfl))
 f269:=Tryz.func204.trans (congrArg some (by kernel_rfl))
 t3:=Tryz.underlying3
 a3:=Tryz.isAgg3
 z3:=Tryz.sizeOf3
 v3:=Tryz.zeroValue3
 t4:=Tryz.underlying4
 a4:=Tryz.isAgg4
 z4:=Tryz.sizeOf4
 v4:=Tryz.zeroValue4
 t5:=Tryz.underlying5
 a5:=Tryz.isAgg5
 z5:=Tryz.sizeOf5
 v5:=Tryz.zeroValue5
 t9:=Tryz.underlying9
 a9:=Tryz.isAgg9
 z9:=Tryz.sizeOf9
 v9:=Tryz.zeroValue9
 t46:=Tryz.underlying174
 a46:=Tryz.isAgg174
 z46:=Tryz.sizeOf174
 v46:=Tryz.zeroValue174
 t51:=Tryz.underlying211
 a51:=Tryz.isAgg211
 z51:=Tryz.sizeOf211
 v51:=Tryz.zeroValue211
 t146:=Tryz.underlying260
 a146:=Tryz.isAgg260
 z146:=Tryz.sizeOf260
 v146:=Tryz.zeroValue260 }
def Tryz.layCut_ren:Go.Shelf.Ren:=⟨fun | 103=>201 | 210=>230 | 206=>254 | n=>n,fun | 9=>9 | 4=>4 | 24=>216 | 3=>3 | n=>n,fun | n=>n⟩
theorem Tryz.layCut:Go.Proofs.Lays.n103 Tryz.prog Tryz.layCut_ren:={
 mixed:=by kernel_rfl
 f103:=Tryz.func201.trans (congrArg some (by kernel_rfl))
 f206:=Tryz.func254.trans (congrArg some (by kernel_rfl))
 f210:=Tryz.func230.trans (congrArg some (by kernel_rfl))
 t3:=Tryz.underlying3
 a3:=Tryz.isAgg3
 z3:=Tryz.sizeOf3
 v3:=Tryz.zeroValue3
 t4:=Tryz.underlying4
 a4:=Tryz.isAgg4
 z4:=Tryz.sizeOf4
 v4:=Tryz.zeroValue4
 t9:=Tryz.underlying9
 a9:=Tryz.isAgg9
 z9:=Tryz.sizeOf9
 v9:=Tryz.zeroValue9
 t24:=Tryz.underlying216
 a24:=Tryz.isAgg216
 z24:=Tryz.sizeOf216
 v24:=Tryz.zeroValue216 }
def Tryz.layCont_ren:Go.Shelf.Ren:=⟨fun | 144=>232 | 143=>229 | 219=>253 | 217=>272 | 225=>273 | 224=>274 | 267=>275 | 266=>290 | 314=>291 | n=>n,fun | 9=>9 | 4=>4 | 3=>3 | 5=>5 | 46=>174 | 146=>260 | 51=>211 | n=>n,fun | 1=>0 | n=>n⟩
theorem Tryz.layCont:Go.Proofs.Lays.n144 Tryz.prog Tryz.layCont_ren:={
 mixed:=by kernel_rfl
 f143:=Tryz.func229.trans (congrArg some (by kernel_rfl))
 f144:=Tryz.func232.trans (congrArg some (by kernel_rfl))
 f217:=Tryz.func272.trans (congrArg some (by kernel_rfl))
 f219:=Tryz.func253.trans (congrArg some (by kernel_rfl))
 f224:=Tryz.func274.trans (congrArg some (by kernel_rfl))
 f225:=Tryz.func273.trans (congrArg some (by kernel_rfl))
 f266:=Tryz.func290.trans (congrArg some (by kernel_rfl))
 f267:=Tryz.func275.trans (congrArg some (by kernel_rfl))
 f314:=Tryz.func291.trans (congrArg some (by kernel_rfl))
 t3:=Tryz.underlying3
 a3:=Tryz.isAgg3
 z3:=Tryz.sizeOf3
 v3:=Tryz.zeroValue3
 t4:=Tryz.underlying4
 a4:=Tryz.isAgg4
 z4:=Tryz.sizeOf4
 v4:=Tryz.zeroValue4
 t5:=Tryz.underlying5
 a5:=Tryz.isAgg5
 z5:=Tryz.sizeOf5
 v5:=Tryz.zeroValue5
 t9:=Tryz.underlying9
 a9:=Tryz.isAgg9
 z9:=Tryz.sizeOf9
 v9:=Tryz.zeroValue9
 t46:=Tryz.underlying174
 a46:=Tryz.isAgg174
 z46:=Tryz.sizeOf174
 v46:=Tryz.zeroValue174
 t51:=Tryz.underlying211
 a51:=Tryz.isAgg211
 z51:=Tryz.sizeOf211
 v51:=Tryz.zeroValue211
 t146:=Tryz.underlying260
 a146:=Tryz.isAgg260
 z146:=Tryz.sizeOf260
 v146:=Tryz.zeroValue260
 g1:=by kernel_rfl }
end Go.Proofs
namespace Go.Eng
open Go.Proofs
abbrev YK:ByteArray:=⟨#[47]⟩
abbrev Bz(s:ByteArray):List ByteArray:=Go.Lib.splitB YK 0 (Go.Lib.countB s YK) s
theorem OW(s:ByteArray):(Bz s).map (·.data.toList)=Fl 47 s.data.toList:=dn s 47
abbrev JA(s:ByteArray):List AV:=[vs s]
theorem pG(s:ByteArray)(hs:HP s):PC 157 [vs s,vs YK] (sl JA (Bz s)):=by
 unfold HP at hs;have h:=cY (P:=Tryz.prog) (f:=157) (args:=[vs s,vs YK]) [.string s,.string YK] ((Bz s).map Value.string) 9 (dD 157 Tryz.func157 (by kernel_rfl) rfl) rfl (fun x hx=>by
  obtain⟨y,_,rfl⟩:=Aj.1 hx;rfl) (fun w hm=>by
  obtain⟨m,hm⟩:=hm;have hl:(Bz s).length=Go.Lib.countB s YK+1:=Go.Lib.splitB_all YK (by decide) 0 _ s rfl;refine(Any.strings_Split Tryz.laySplit (by kernel_rfl) s YK m w (by omega) hm (by decide)).mono ?_
  rintro e w' ⟨rfl,rfl⟩
  exact⟨by rw[Lm,hl],rfl⟩)
 rw[BB]at h;exact h
theorem tL(s p:ByteArray)(hs:HP s):PC 111 [vs s,vs p] (vi (Go.Lib.lastIndex s.data.toList p.data.toList)):=by
 unfold HP at hs;exact Lc [.string s,.string p] (.int .i64 (Go.Lib.lastIndex s.data.toList p.data.toList)) (dD 111 Tryz.func111 (by kernel_rfl) rfl) rfl (fun g w=>.v _ _) fun w _=>Any.strings_LastIndex Tryz.layLast s p (by omega) w
theorem tW(s p:ByteArray):PC 201 [vs s,vs p] (.tup [vs ⟨(Go.Lib.trimPrefix s.data.toList p.data.toList).toArray⟩,vb (Go.Lib.hasPrefix s.data.toList p.data.toList)]):=by
 exact Lc [.string s,.string p] _ (dD 201 Tryz.func201 (by kernel_rfl) rfl) rfl (fun g w=>ic [.string ⟨(Go.Lib.trimPrefix s.data.toList p.data.toList).toArray⟩,.bool (Go.Lib.hasPrefix s.data.toList p.data.toList)]) fun w _=>Any.strings_CutPrefix Tryz.layCut s p w
theorem t8(s p:ByteArray)(hs:HP s):PC 232 [vs s,vs p] (vb (Go.Lib.contains s.data.toList p.data.toList)):=by
 unfold HP at hs;exact Lc [.string s,.string p] (.bool (Go.Lib.contains s.data.toList p.data.toList)) (dD 232 Tryz.func232 (by kernel_rfl) rfl) rfl (fun g w=>.v _ _) fun w hm=>by
  obtain⟨m,hm⟩:=hm;exact Any.strings_Contains Tryz.layCont s p m w (by omega) hm
theorem aM:∀x y:List UInt8,db x y=x.isPrefixOf y
 | [],_=>by simp[db]
 |_::_,[]=>rfl
 |a::x,b::y=>by
  rw[db,List.isPrefixOf_cons_cons,aM x y]
  rfl
theorem fV(x:List UInt8):∀y:List UInt8,sR x y=Go.Lib.contains y x
 | []=>by
  unfold Go.Lib.contains Go.Lib.index;cases x<;>rfl
 |b::y=>by
  rw[sR,aM,fV x y];unfold Go.Lib.contains;have hg:=Go.Lib.index_ge y x
  conv=>rhs;unfold Go.Lib.index
  cases h:x.isPrefixOf (b::y)with
  |true=>simp
  |false =>
   simp only[LI,CJ,FX]
   by_cases h0:Go.Lib.index y x=-1
   ·rw[h0];rfl
   ·have h1:(Go.Lib.index y x == -1)=false:=by simpa using h0
    rw[h1];simp only[CJ,FX];rw[AA (by omega),AA (by omega)]
theorem SG:∀(l:List UInt8) (h:0<l.length),l.headD 0=l[0]
 | [],h=>by simp at h
 |_::_,_=>rfl
abbrev lU:ByteArray:=⟨⟨gl⟩⟩
theorem tY(s:ByteArray)(hs:HP s):PC 203 [vs s] (vb (Zb s.data.toList)):=by
 unfold HP at hs;have hc:=t8 lU ((⟨#[32]⟩++s)++⟨#[32]⟩) (HQ (by kernel_rfl));have e:Go.Lib.contains lU.data.toList ((⟨#[32]⟩++s:ByteArray)++⟨#[32]⟩).data.toList=Zb s.data.toList:=by
  unfold Zb;rw[fV]
  congr 1
 rw[e]at hc;refine Ps Gl Tryz.func203 rfl (Nz rfl) ?_;refine Yi (by show(((1+s.size:Nat)):Int)≤_;omega) ?_;refine Yi (by show(((⟨#[32]⟩++s:ByteArray).size+1:Nat):Int)≤_;rw[ByteArray.size_append];show(((1+s.size)+1:Nat):Int)≤_;omega) ?_;refine Xi .pure (Xi _ (Yi (hc) ?_));exact .refl _
theorem tT(s:ByteArray)(hs:HP s):PC 159 [vs s] (vb (H9 s.data.toList)):=by
 have hk:=tY s hs;have hw:=mL s 202 Mp tX (by unfold HP at hs;simp;omega);have EC:s.size=s.data.toList.length:=by simp
 have en:H9 s.data.toList=(!s.data.toList.isEmpty&&decide (s.data.toList.length≤32)&&GY (s.data.toList.headD 0)&&s.data.toList.all Mp&&!Zb s.data.toList):=rfl
 by_cases h0:s=⟨#[]⟩
 ·subst h0;refine Ps Gl Tryz.func159 rfl (Nz rfl) ?_;refine Yi ?_ ?_
  ·intro h;exact absurd rfl (show(⟨#[]⟩:ByteArray)≠⟨#[]⟩from h)
  ·intro _;exact .refl _
 have xr : s.data.toList≠[]:=fun e=>h0 (by
  have:s.data=#[]:=by rw[←Ix];exact e
  cases s;simp_all)
 have Cn:0<s.data.toList.length:=MY.2 xr;have T8:s.data.toList.isEmpty=false:=by
  cases hl:s.data.toList with
  |nil=>exact absurd hl xr
  |cons a l=>rfl
 have xS:s.data.toList.headD 0=s.data.toList[0]:=SG _ Cn;have iZ:=mM s.data.toList[0];refine Ps Gl Tryz.func159 rfl (Nz rfl) ?_;refine Yi ?_ ?_
 rotate_left
 ·intro h;exact absurd h0 h
 intro _;refine Yi ?_ ?_
 rotate_left
 ·intro h;have h:¬((s.size:Nat):Int)≤32:=h;exact .of_eq (Ac vb (show false=H9 s.data.toList by rw[en,Ay (by omega:¬s.data.toList.length≤32)];simp))
 intro h;have h:((s.size:Nat):Int)≤32:=h;refine Xi s.data.toList[0] (Yi ⟨BO _,ZO s 0 Cn⟩ ?_);refine Dd (Bt (GY s.data.toList[0])) (fun e1=>?_) (fun e1=>?_)
 rotate_left
 ·rw[e1]at iZ;refine Xi .pure (Xi _ (Yi (iZ) ?_));exact .of_eq (Ac vb (show false=H9 s.data.toList by rw[en,xS,e1];simp))
 rw[e1]at iZ;refine Xi .pure (Xi _ (Yi (iZ) ?_));refine Dd (Bt (s.data.toList.all Mp)) (fun e2=>?_) (fun e2=>?_)
 rotate_left
 ·rw[e2]at hw;refine Xi .pure (Xi _ (Yi (hw) ?_));exact .of_eq (Ac vb (show false=H9 s.data.toList by rw[en,e2];simp))
 rw[e2]at hw;refine Xi .pure (Xi _ (Yi (hw) ?_));have ef:H9 s.data.toList=!Zb s.data.toList:=by rw[en,T8,xS,e1,e2,AA (by omega:s.data.toList.length≤32)];rfl
 refine Dd (Bt (Zb s.data.toList)) (fun e3=>?_) (fun e3=>?_)
 ·rw[e3]at hk;refine Xi .pure (Xi _ (Yi (hk) ?_));exact .of_eq (Ac vb (show false=H9 s.data.toList by rw[ef,e3];rfl))
 ·rw[e3]at hk;refine Xi .pure (Xi _ (Yi (hk) ?_));exact .of_eq (Ac vb (show true=H9 s.data.toList by rw[ef,e3];rfl))
abbrev WE:Option Int→AV
 |some n=>.tup [vi n,vb true]
 |none=>.tup [vi 0,vb false]
theorem bf{z:Int}(h0:0≤z)(h1:z<256):IntKind.u8.wrap z=z:=by
 show z % 256=z;omega
theorem UI{c:UInt8}(h:EW c=true):48≤c.toNat∧c.toNat≤57:=by
 unfold EW at h;simp only[Af,As]at h;exact⟨Lp.1 h.1,Lp.1 h.2⟩
theorem U9(r:List UInt8)(i:Nat)(h:i<r.length):Gw (r.take (i+1))=10*Gw (r.take i)+((r[i].toNat:Int)-48):=by
 unfold Gw;rw[Bq,Ge h,Fp];rfl
theorem tR(s:ByteArray)(hs:HP s):PC 158 [vs s] (WE (LH s.data.toList)):=by
 unfold HP at hs;have hc:=tW s ⟨#[118]⟩
 by_cases hp:∃r,s.data.toList=118::r
 ·obtain⟨r,hr⟩:=hp;have e1:Go.Lib.hasPrefix s.data.toList (⟨#[118]⟩:ByteArray).data.toList=true:=by rw[hr];rfl
  have e2:Go.Lib.trimPrefix s.data.toList (⟨#[118]⟩:ByteArray).data.toList=r:=by unfold Go.Lib.trimPrefix;rw[e1,Ao rfl,hr];rfl
  rw[e1,e2]at hc;have hv:LH s.data.toList=if(r.isEmpty||decide (3<r.length)||(decide (1<r.length)&&decide (r.headD 0=48))||!r.all EW)=true then none else some (Gw r):=by rw[hr];rfl
  have WJ:r.length<s.size:=by
   have:s.size=s.data.toList.length:=by simp
   rw[this,hr];simp
  generalize hB:(⟨r.toArray⟩:ByteArray)=rB at hc;have jK:rB.data.toList=r:=by rw[←hB]
  have qa:rB.size=r.length:=by rw[←hB];rfl
  have hw:=mL rB 163 EW mN (by rw[jK];omega);rw[jK]at hw;have no:∀{b:Bool},b=true→(if b=true then none else some (Gw r))=(none:Option Int):=fun h=>Ao h;refine Ps (Jo [2,4]) Tryz.func158 rfl (Nz rfl) ?_;refine Xi .pure (Xi _ (Yi (hc) ?_));refine Xi ⟨[(0,vs rB),(4,vb true)],[],Aa⟩ (Yi ⟨Z2,Tv,Fh,Tv⟩ ?_)
  refine Yi ?_ ?_
  ·intro h;have h:rB=⟨#[]⟩:=h
   have:r=[]:=by rw[←jK,h]
   exact .of_eq (Ac WE (show(none:Option Int)=LH s.data.toList by rw[hv,this];rfl))
  intro h;have h:¬rB=⟨#[]⟩:=h;have Dr:r≠[]:=fun e=>h (by rw[←hB,e]);have Cn:0<r.length:=MY.2 Dr;have T8:r.isEmpty=false:=by
   cases hl:r with
   |nil=>exact absurd hl Dr
   |cons a l=>rfl
  refine Yi ?_ ?_
  ·intro h2;have h2:(3:Int)<((rB.size:Nat):Int):=h2;exact .of_eq (Ac WE (show(none:Option Int)=LH s.data.toList by rw[hv,no];rw[AA (by omega:3<r.length)];simp))
  intro h2;have h2:¬(3:Int)<((rB.size:Nat):Int):=h2;have sH:r.length≤3:=by omega
  have d3:decide (3<r.length)=false:=Ay (by omega);refine Yi ?_ ?_
  ·intro h3;have h3:(1:Int)<((rB.size:Nat):Int):=h3;have uz:rB.data[(0:Int).toNat]?=some r[0]:=by
    show rB.data[0]?=_;rw[←A1,jK];exact Ge Cn
   refine Xi r[0] (Yi ⟨BO _,uz⟩ ?_);have hh:=SG r Cn;refine Yi ?_ ?_
   ·intro h4;have h4:(r[0].toNat:Int)=48:=h4
    have:r[0]=48:=UInt8.toNat_inj.1 (by show r[0].toNat=48;omega)
    exact .of_eq (Ac WE (show(none:Option Int)=LH s.data.toList by rw[hv,hh,this,AA (by omega:1<r.length)];simp))
   intro h4;have h4:¬(r[0].toNat:Int)=48:=h4;have eo:(decide (1<r.length)&&decide (r.headD 0=48))=false:=by rw[hh,Ay (show ¬r[0]=48 from fun e=>h4 (by rw[e];rfl)),Ec]
   have q8:LH s.data.toList=if(!r.all EW)=true then none else some (Gw r):=by rw[hv,T8,d3,eo];rfl
   refine Dd (Bt (r.all EW)) (fun e3=>?_) (fun e3=>?_)
   rotate_left
   ·rw[e3]at hw;refine Xi .pure (Xi _ (Yi (hw) ?_));exact .of_eq (Ac WE (show(none:Option Int)=LH s.data.toList by rw[q8,e3];rfl))
   rw[e3]at hw;refine Xi .pure (Xi _ (Yi (hw) ?_));have vG:LH s.data.toList=some (Gw r):=by rw[q8,e3];rfl
   refine Xi ⟨[(0,vs rB)],[],Aa⟩ (Yi ⟨Z1,Tv,Fh,Tv⟩ ?_)
   have z0:Gw (r.take 0)=0:=rfl;refine Xi {i:Nat // i≤r.length∧0≤Gw (r.take i)∧(i=0→Gw (r.take i)≤0)∧(i≤1→Gw (r.take i)≤9)∧(i≤2→Gw (r.take i)≤99)∧Gw (r.take i)≤999} (Xi (fun i=>⟨[(0,vs rB),(5,vi (Gw (r.take i.1))),(39,vi rB.size),(40,vi i.1)],[],Aa⟩) (Xi (fun i=>r.length-i.1) (Yi (Xi ⟨0,AL _,by omega,fun _=>by omega,fun _=>by omega,fun _=>by omega,by omega⟩ ?_) ?_)))
   ·exact⟨Z4,Tv,Fh,Tv⟩
   intro⟨i,i1,i2,i3,i4,i5,i6⟩;refine Yi ?_ ?_
   ·intro h;have h:(i:Int)<(rB.size:Nat):=h;have h:i<r.length:=by omega
    have uL:EW r[i]=true:=Bk.1 e3 _ (AC h);have o5:=UI uL;have u7:=U9 r i h;have nM:IntKind.u8.wrap ((r[i].toNat:Int)-48)=(r[i].toNat:Int)-48:=bf (by omega) (by omega);have lB:rB.data[((i:Nat):Int).toNat]?=some r[i]:=by rw[Ch,←A1,jK];exact Ge h
    refine Yi (by show BQ (10*Gw (r.take i));unfold BQ;omega) ?_;refine Xi r[i] (Yi ⟨by show(0:Int)≤i;omega,lB⟩ ?_);refine Yi (by show BQ (IntKind.u8.wrap ((r[i].toNat:Int)-48));rw[nM];unfold BQ;omega) ?_;refine Yi (by show BQ (10*Gw (r.take i)+IntKind.u8.wrap ((r[i].toNat:Int)-48));rw[nM];unfold BQ;omega) ?_;refine Yi (Ii i (by omega)) ?_;have e5:vi (10*Gw (r.take i)+IntKind.u8.wrap ((r[i].toNat:Int)-48))=vi (Gw (r.take (i+1))):=by rw[nM,u7]
    refine Xi ⟨i+1,by omega,by omega,fun _=>by omega,fun _=>by omega,fun _=>by omega,by omega⟩ ?_;exact⟨Dl r.length i (by omega),⟨Zr,⟨e5,rfl⟩,Zr,Zr,Tv⟩,Tv,Fh,Tv⟩
   ·intro h;have h:¬(i:Int)<(rB.size:Nat):=h;have e6:AV.tup [vi (Gw (r.take i)),vb true]=WE (LH s.data.toList):=by rw[vG,AG (by omega)]
    exact .of_eq e6
  ·intro h3;have h3:¬(1:Int)<((rB.size:Nat):Int):=h3;have eo:(decide (1<r.length)&&decide (r.headD 0=48))=false:=by rw[Ay (by omega:¬1<r.length)];rfl
   have q8:LH s.data.toList=if(!r.all EW)=true then none else some (Gw r):=by rw[hv,T8,d3,eo];rfl
   refine Dd (Bt (r.all EW)) (fun e3=>?_) (fun e3=>?_)
   rotate_left
   ·rw[e3]at hw;refine Xi .pure (Xi _ (Yi (hw) ?_));exact .of_eq (Ac WE (show(none:Option Int)=LH s.data.toList by rw[q8,e3];rfl))
   rw[e3]at hw;refine Xi .pure (Xi _ (Yi (hw) ?_));have vG:LH s.data.toList=some (Gw r):=by rw[q8,e3];rfl
   refine Xi ⟨[(0,vs rB)],[],Aa⟩ (Yi ⟨Z1,Tv,Fh,Tv⟩ ?_)
   have z0:Gw (r.take 0)=0:=rfl;refine Xi {i:Nat // i≤r.length∧0≤Gw (r.take i)∧(i=0→Gw (r.take i)≤0)∧(i≤1→Gw (r.take i)≤9)∧(i≤2→Gw (r.take i)≤99)∧Gw (r.take i)≤999} (Xi (fun i=>⟨[(0,vs rB),(5,vi (Gw (r.take i.1))),(39,vi rB.size),(40,vi i.1)],[],Aa⟩) (Xi (fun i=>r.length-i.1) (Yi (Xi ⟨0,AL _,by omega,fun _=>by omega,fun _=>by omega,fun _=>by omega,by omega⟩ ?_) ?_)))
   ·exact⟨Z4,Tv,Fh,Tv⟩
   intro⟨i,i1,i2,i3,i4,i5,i6⟩;refine Yi ?_ ?_
   ·intro h;have h:(i:Int)<(rB.size:Nat):=h;have h:i<r.length:=by omega
    have uL:EW r[i]=true:=Bk.1 e3 _ (AC h);have o5:=UI uL;have u7:=U9 r i h;have nM:IntKind.u8.wrap ((r[i].toNat:Int)-48)=(r[i].toNat:Int)-48:=bf (by omega) (by omega);have lB:rB.data[((i:Nat):Int).toNat]?=some r[i]:=by rw[Ch,←A1,jK];exact Ge h
    refine Yi (by show BQ (10*Gw (r.take i));unfold BQ;omega) ?_;refine Xi r[i] (Yi ⟨by show(0:Int)≤i;omega,lB⟩ ?_);refine Yi (by show BQ (IntKind.u8.wrap ((r[i].toNat:Int)-48));rw[nM];unfold BQ;omega) ?_;refine Yi (by show BQ (10*Gw (r.take i)+IntKind.u8.wrap ((r[i].toNat:Int)-48));rw[nM];unfold BQ;omega) ?_;refine Yi (Ii i (by omega)) ?_;have e5:vi (10*Gw (r.take i)+IntKind.u8.wrap ((r[i].toNat:Int)-48))=vi (Gw (r.take (i+1))):=by rw[nM,u7]
    refine Xi ⟨i+1,by omega,by omega,fun _=>by omega,fun _=>by omega,fun _=>by omega,by omega⟩ ?_;exact⟨Dl r.length i (by omega),⟨Zr,⟨e5,rfl⟩,Zr,Zr,Tv⟩,Tv,Fh,Tv⟩
   ·intro h;have h:¬(i:Int)<(rB.size:Nat):=h;have e6:AV.tup [vi (Gw (r.take i)),vb true]=WE (LH s.data.toList):=by rw[vG,AG (by omega)]
    exact .of_eq e6
 ·have e1:Go.Lib.hasPrefix s.data.toList (⟨#[118]⟩:ByteArray).data.toList=false:=by
   cases hl:s.data.toList with
   |nil=>rfl
   |cons a l =>
    have:a≠118:=fun e=>hp ⟨l,by rw[hl,e]⟩
    show(List.isPrefixOf [118] (a::l))=false;rw[List.isPrefixOf_cons_cons]
    have:((118:UInt8) == a)=false:=by rw[beq_eq_false_iff_ne];exact fun e=>this e.symm
    rw[this];rfl
  have hv:LH s.data.toList=none:=by
   cases hl:s.data.toList with
   |nil=>rfl
   |cons a l =>
    have:a≠118:=fun e=>hp ⟨l,by rw[hl,e]⟩
    show(if a=118 then _ else none)=none;rw[Ah this]
  rw[e1]at hc;refine Ps Gl Tryz.func158 rfl (Nz rfl) ?_;refine Xi .pure (Xi _ (Yi (hc) ?_));exact .of_eq (Ac WE hv.symm)
abbrev Ze:Option Int→AV
 |some n=>.tup [vi n,vi 0]
 |none=>.tup [vi 0,vi 4]
theorem TL(c:UInt8):∀(s x:List UInt8),x∈Fl c s→x.length≤s.length
 | [],x,h=>by
  rw[Fl]at h;rw[Am.1 h];exact Al _
 |b::r,x,h=>by
  have ih:=TL c r;rw[Fl]at h;split at h
  ·rcases Av.1 h with rfl | h
   ·exact AL _
   ·have:=ih x h;rw[Au];omega
  ·split at h
   ·rw[Am.1 h];rw[Au];simp
   ·rename_i y l e;rcases Av.1 h with rfl | h
    ·have:=ih y (by rw[e];exact Ab ..);rw[Au,Au];omega
    ·have:=ih x (by rw[e];exact Ag _ h);rw[Au];omega
theorem gS{p x:ByteArray}(hp:HP p)(hx:x∈Bz p):HP x:=by
 have h:x.data.toList∈Fl 47 p.data.toList:=by rw[←OW];exact Aj.2 ⟨x,hx,rfl⟩
 have:=TL 47 _ _ h
 unfold HP at *
 have e1:x.size=x.data.toList.length:=by simp
 have e2:p.size=p.data.toList.length:=by simp
 omega
theorem cW(p:ByteArray):(Bz p).length=(Fl 47 p.data.toList).length:=by rw[←OW,Lm]
theorem cX(p:ByteArray):0<(Bz p).length:=by
 rw[show(Bz p).length=Go.Lib.countB p YK+1 from Go.Lib.splitB_all YK (by decide) 0 _ p rfl];omega
theorem cV(p:ByteArray):(Bz p).length≤p.size+1:=by
 rw[show(Bz p).length=Go.Lib.countB p YK+1 from Go.Lib.splitB_all YK (by decide) 0 _ p rfl]
 have:=Go.Lib.countB_le YK (by decide) p.size p (Al _);omega
theorem Zp(p:ByteArray)(h:(Bz p).length-1<(Bz p).length):(Fl 47 p.data.toList).getLastD []=((Bz p)[(Bz p).length-1]).data.toList:=by
 rw[←OW,List.getLastD_eq_getLast?,List.getLast?_eq_getElem?,Lm,AF,Ge h];rfl
theorem cU(p:ByteArray):(Fl 47 p.data.toList).all Mk=(Bz p).all fun x=>Mk x.data.toList:=by
 rw[←OW,List.all_map];rfl
theorem pD(p:ByteArray)(hp:HP p):PC 109 [vs p] (Ze (CC p)):=by
 have vq:=cV p;have Y8:=cX p;have vh:(Bz p).length-1<(Bz p).length:=by omega
 have EC:p.size=p.data.toList.length:=by simp
 have xP:∀{x},x∈Bz p→HP x:=fun h=>gS hp h;unfold HP at hp;have T9:((Bz p).map JA)[((((Bz p).map JA).length:Int)-1).toNat]?=some (JA (Bz p)[(Bz p).length-1]):=by
  rw[Lm,show(((Bz p).length:Int)-1).toNat=(Bz p).length-1 by omega];exact Do (Ge vh)
 have hv:=tR (Bz p)[(Bz p).length-1] (xP (AC vh));have em:CC p=match LH ((Bz p)[(Bz p).length-1]).data.toList with
  |none=>none
  |some n=>if(decide (64<p.data.toList.length)||decide ((Bz p).length<2))=true then none else if((Bz p).all fun x=>Mk x.data.toList)=true then some n else none:=by
  unfold CC Zf;rw[Zp p vh,cU,←cW];cases LH ((Bz p)[(Bz p).length-1]).data.toList with
  |none=>rfl
  |some n=>rfl
 cases hve:LH ((Bz p)[(Bz p).length-1]).data.toList with
 |none =>
  rw[hve]at hv em;refine Ps (Jo [2,3]) Tryz.func109 rfl (Nz rfl) ?_;refine Xi .pure (Xi _ (Yi (pG p hp) ?_));refine Xi ⟨[(0,vs p),(4,sl JA (Bz p))],[],Aa⟩ (Yi ⟨Z2,Tv,Fh,Tv⟩ ?_)
  refine Yi (by show BQ ((((Bz p).map JA).length:Int)-1);unfold BQ;rw[Lm];omega) ?_;refine Xi (JA (Bz p)[(Bz p).length-1]) (Yi (Yi (by show(0:Int)≤(((Bz p).map JA).length:Int)-1;rw[Lm];omega) T9) (Yi rfl ?_));refine Xi .pure (Xi _ (Yi (hv) ?_));refine Xi ⟨[(0,vs p),(4,sl JA (Bz p)),(5,vi 0),(6,vb false)],[],Aa⟩ (Yi ⟨Z4,Tv,Fh,Tv⟩ ?_)
  exact .of_eq (Ac Ze em.symm)
 |some n =>
  rw[hve]at hv em;have em:CC p=if(decide (64<p.data.toList.length)||decide ((Bz p).length<2))=true then none else if((Bz p).all fun x=>Mk x.data.toList)=true then some n else none:=em
  refine Ps (Jo [2,3,5]) Tryz.func109 rfl (Nz rfl) ?_;refine Xi .pure (Xi _ (Yi (pG p hp) ?_));refine Xi ⟨[(0,vs p),(4,sl JA (Bz p))],[],Aa⟩ (Yi ⟨Z2,Tv,Fh,Tv⟩ ?_)
  refine Yi (by show BQ ((((Bz p).map JA).length:Int)-1);unfold BQ;rw[Lm];omega) ?_;refine Xi (JA (Bz p)[(Bz p).length-1]) (Yi (Yi (by show(0:Int)≤(((Bz p).map JA).length:Int)-1;rw[Lm];omega) T9) (Yi rfl ?_));refine Xi .pure (Xi _ (Yi (hv) ?_));refine Xi ⟨[(0,vs p),(4,sl JA (Bz p)),(5,vi n),(6,vb true)],[],Aa⟩ (Yi ⟨Z4,Tv,Fh,Tv⟩ ?_)
  refine Yi ?_ ?_
  ·intro h;have h:(64:Int)<((p.size:Nat):Int):=h;exact .of_eq (Ac Ze (show(none:Option Int)=CC p by rw[em,AA (by omega:64<p.data.toList.length)];rfl))
  intro h;have h:¬(64:Int)<((p.size:Nat):Int):=h;have d1:decide (64<p.data.toList.length)=false:=Ay (by omega);refine Yi ?_ ?_
  ·intro h2;have h2:(((Bz p).map JA).length:Int)<2:=h2;rw[Lm]at h2;exact .of_eq (Ac Ze (show(none:Option Int)=CC p by rw[em,d1,AA (by omega:(Bz p).length<2)];rfl))
  intro h2;have h2:¬(((Bz p).map JA).length:Int)<2:=h2;have d2:decide ((Bz p).length<2)=false:=Ay (by rw[Lm]at h2;omega);have xp:CC p=if((Bz p).all fun x=>Mk x.data.toList)=true then some n else none:=by rw[em,d1,d2];rfl
  refine Xi ⟨[(4,sl JA (Bz p)),(5,vi n)],[],Aa⟩ (Yi ⟨Z2,Tv,Fh,Tv⟩ ?_)
  refine Xi {i:Nat // i≤(Bz p).length∧∀j (hj:j<(Bz p).length),j<i→Mk ((Bz p)[j]).data.toList=true} (Xi (fun i=>⟨[(5,vi n),(33,sl JA (Bz p)),(34,vi ((Bz p).map JA).length),(35,vi i.1)],[],Aa⟩) (Xi (fun i=>(Bz p).length-i.1) (Yi (Xi ⟨0,AL _,fun j _ h=>by omega⟩ ?_) ?_)))
  ·exact⟨Z4,Tv,Fh,Tv⟩
  intro⟨i,i1,i2⟩;refine Yi ?_ ?_
  ·intro h;have h:(i:Int)<((Bz p).map JA).length:=h;have h:i<(Bz p).length:=by simpa using h
   have hg:(Bz p)[i]?=some (Bz p)[i]:=Ge h;refine Xi (JA (Bz p)[i]) (Yi (Yi (Nn i) (by simp[hg])) (Yi rfl ?_));have xN:=xP (AC h);have hn:=tT (Bz p)[i] xN;have ha:=mL (Bz p)[i] 161 ZD tU (by unfold HP at xN;have e1:(Bz p)[i].size=(Bz p)[i].data.toList.length:=(by simp);omega);have no:Mk ((Bz p)[i]).data.toList=false→(none:Option Int)=CC p:=fun e=>by
    rw[xp,Ah];intro GM
    have:=Bk.1 GM _ (AC h)
    rw[e]at this;cases this
   refine Dd (Bt (H9 ((Bz p)[i]).data.toList)) (fun e1=>?_) (fun e1=>?_)
   rotate_left
   ·rw[e1]at hn;refine Xi .pure (Xi _ (Yi (hn) ?_));exact .of_eq (Ac Ze (no (by unfold Mk;rw[e1];rfl)))
   rw[e1]at hn;refine Xi .pure (Xi _ (Yi (hn) ?_));refine Dd (Bt (((Bz p)[i]).data.toList.all ZD)) (fun e2=>?_) (fun e2=>?_)
   rotate_left
   ·rw[e2]at ha;refine Xi .pure (Xi _ (Yi (ha) ?_));exact .of_eq (Ac Ze (no (by unfold Mk;rw[e1];exact e2)))
   rw[e2]at ha;refine Xi .pure (Xi _ (Yi (ha) ?_));refine Yi (Ii i (by omega)) ?_;refine Xi ⟨i+1,by omega,fun j hj L3=>?_⟩ ?_
   ·rcases EF j i with z | z
    ·exact i2 j hj z
    ·have:j=i:=by omega
     subst this;unfold Mk;rw[e1];exact e2
   ·exact⟨by show(Bz p).length-(i+1)<(Bz p).length-i;omega,Z4,Tv,Fh,Tv⟩
  ·intro h;have h:¬(i:Int)<((Bz p).map JA).length:=h;have h:¬i<(Bz p).length:=by simpa using h
   have e:some n=CC p:=by
    rw[xp,Ao];exact Bk.2 fun x hx=>by
     obtain⟨j,hj,rfl⟩:=Fz hx;exact i2 j hj (by omega)
   exact .of_eq (Ac Ze e)
theorem tK(p:ByteArray)(hp:HP p):PC 110 [vs p] (vb (CC p).isSome):=by
 have hc:=pD p hp;cases h:CC p with
 |none =>
  rw[h]at hc;refine Ps Gl Tryz.func110 rfl (Nz rfl) ?_;refine Xi .pure (Xi _ (Yi (hc) ?_));refine Yi ?_ ?_
  ·intro h;exact absurd (show(4:Int)=0 from h) (by decide)
  ·intro _;exact .refl _
 |some n =>
  rw[h]at hc;refine Ps Gl Tryz.func110 rfl (Nz rfl) ?_;refine Xi .pure (Xi _ (Yi (hc) ?_));refine Yi ?_ ?_
  ·intro _;exact .refl _
  ·intro h;exact absurd rfl h
theorem TM(c:UInt8):∀s:List UInt8,2≤(Fl c s).length→c∈s
 | [],h=>by rw[Fl]at h;simp at h
 |b::r,h=>by
  rw[Fl]at h
  by_cases e:b=c
  ·exact e▸Ab ..
  ·rw[Ah e]at h;refine Ag _ (TM c r ?_);cases hs:Fl c r with
   |nil=>rw[hs]at h;simp at h
   |cons x l=>rw[hs]at h;simpa using h
theorem gm{p:ByteArray}{m:Int}(h:CC p=some m):0≤Go.Lib.lastIndex p.data.toList [47]∧Go.Lib.lastIndex p.data.toList [47]≤p.size:=by
 have h2:2≤(Fl 47 p.data.toList).length:=by
  unfold CC Zf at h;split at h
  ·cases h
  ·split at h
   ·cases h
   ·rename_i hn;simp only[Cj,As]at hn;omega
 have hm:=TM 47 _ h2;obtain⟨i,hi,e⟩:=Fz hm;have EC:p.size=p.data.toList.length:=by simp
 unfold Go.Lib.lastIndex;rw[Ao (by simp only[A6];omega)];have vd:Go.Lib.occAt p.data.toList [47] i=true:=by
  unfold Go.Lib.occAt;rw[Bj hi,e];simp
 rcases Go.Lib.lastOcc_spec p.data.toList [47] (p.data.toList.length - [(47:UInt8)].length+1)with ⟨_,h3⟩ | ⟨j,h3,h4,_⟩
 ·have:=h3 i (by simp only[A6];omega)
  rw[vd]at this;cases this
 ·rw[h4];simp only[A6]at h3;omega
abbrev nV(p:ByteArray):ByteArray:=p.extract 0 (Go.Lib.lastIndex p.data.toList [47]).toNat
theorem VK:TX nV:=by
 intro p hp;have hc:=pD p hp;have hi:=tK p hp;unfold ar;cases h:CC p with
 |none =>
  rw[h]at hc hi;refine Ps Gl Tryz.func81 rfl (Nz rfl) ?_;refine Xi .pure (Xi _ (Yi (hc) ?_));refine Xi .pure (Xi _ (Yi (hi) ?_));exact .refl _
 |some n =>
  rw[h]at hc hi;obtain⟨l1,l2⟩:=gm h;have hl:PC 111 [vs p,vs YK] (vi (Go.Lib.lastIndex p.data.toList [47])):=tL p YK hp;refine Ps Gl Tryz.func81 rfl (Nz rfl) ?_;refine Xi .pure (Xi _ (Yi (hc) ?_));refine Xi .pure (Xi _ (Yi (hi) ?_));refine Yi ?_ ?_
  ·intro h;exact absurd rfl h
  intro _;refine Xi .pure (Xi _ (Yi (hl) ?_));refine Yi ⟨BO _,l1,l2⟩ ?_;exact .refl _
theorem O0{l:List Rq}(h:BL l=0):l.length≤16:=by
 unfold BL at h;split at h
 ·cases h
 ·omega
theorem NI{x:List Rl}(h:AT x=0):x.length≤256∧∀r∈x,r.reqs.length≤16:=by
 have h1:x.length≤256:=by
  unfold AT at h;split at h
  ·cases h
  ·omega
 exact⟨h1,fun r hr=>O0 ((Cp h).1 r hr).reqs⟩
theorem eY{x:List Rl}(h:∀r∈x,r.reqs.length≤16):((x.map (·.reqs)).flatten).length≤x.length*16:=by
 induction x with
 |nil=>simp
 |cons r x ih =>
  rw[AH,Bm,Ad,Au]
  have:=h r (Ab ..)
  have:=ih fun s hs=>h s (Ag _ hs)
  omega
theorem Zt{x:List Rl}{roots:List Rq}{l:List Nf}(h1:AT x=0)(h2:BL roots=0)(h3:l.length≤65536):(Kd x roots l).length≤100000:=by
 obtain⟨a,b⟩:=NI h1
 have:=eY b
 have:=O0 h2
 unfold Kd;simp only[Ad,Lm];omega
theorem Ul.fewI{U:List ByteArray}{t:List Tm}(h:Ul U t)(hu:U.length≤100000):mi t :=
 ⟨by have:=h.len;omega,fun u hu=>Oo (h.1.canon u hu)⟩
abbrev Hi(x:List Rl)(ifs:List (List AV)):AV:=.agg (Ic x ifs)
abbrev TU:EG:=⟨true,[.str,.int .i64,.int .i64,.int .i64]⟩
abbrev QG(y:Sl):Value:=.agg #[.string y.path,.int .i64 y.ver.a,.int .i64 y.ver.b,.int .i64 y.ver.c]
abbrev SY(r:Rl):Value×AV:=(QG (Fk r),.agg (Ak r))
def AO:List Rl→List ByteArray→List ByteArray
 | [],acc=>acc
 |r::x,acc=>AO x (if acc.any (fun p=>decide (p=r.path))then acc else acc++[r.path])
abbrev i9(x:List Rl)(p:ByteArray):Value×AV:=(.string p,sl Ak (x.filter fun r=>decide (r.path=p)))
abbrev WB(x:List Rl):AV:=if AT x=0 then .tup [.agg [.cmap TU (x.map SY),.cmap CM ((AO x []).map (i9 x))],vi 0]else .tup [.agg [.cmap TU [],.cmap CM []],vi (AT x)]
abbrev dP(x:List Rl)(ifs:List (List AV)):Prop:=PC 41 [Hi x ifs] (WB x)
theorem uc:PC 42 [.agg Yu] (.agg Yu):=by
 refine Ps Gl Tryz.func42 rfl (Nz rfl) ?_;refine Yi (Nz rfl) ?_;refine Xi Unit (Xi (fun _=>⟨[(1,.ref 1 0),(2,.ref 2 0),(10,vi 0),(11,vi 0)],[(1,.cells Yu),(2,.cells Yu)],Aa⟩) (Xi (fun _=>0) (Yi (Xi () ?_) ?_)))
 ·exact⟨Z4,Z2,Fh,Tv⟩
 intro _;refine Yi ?_ ?_
 ·intro h;exact absurd (show(0:Int)<0 from h) (by decide)
 ·intro _;refine Yi (Nz rfl) (Yi (Nz rfl) (Yi (Nz rfl) ?_));exact .refl _
theorem kc{y z:Sl}(h:QG y=QG z):y=z:=by
 obtain⟨p,⟨a,b,c⟩⟩:=y;obtain⟨q,⟨d,e,f⟩⟩:=z;simp only[QG,Value.agg.injEq,Array.mk.injEq,Ft,Value.string.injEq,Value.int.injEq,true_and,and_true]at h;obtain⟨rfl,rfl,rfl,rfl⟩:=h
 rfl
theorem ap{x:List Rl}{y:Sl}{a:AV}(h:(QG y,a)∈x.map SY):∃r∈x,Fk r=y∧a=.agg (Ak r):=by
 obtain⟨r,h1,h2⟩:=Aj.1 h;simp only[SY,FK]at h2;exact⟨r,h1,kc h2.1,h2.2.symm⟩
theorem eX{x:List Rl}(hx:AT x=0){r:Rl}(hr:r∈x):Es x (Fk r)=some r:=by
 unfold Es;rw[Ah (by omega)];cases h:x.find? (fun s=>decide (Fk s=Fk r))with
 |none =>
  rw[DQ]at h;exact absurd (by simp) (h r hr)
 |some s =>
  have h1:=EL h;simp only[As]at h1;have hs:=Ce h;have hp:=(Cp hx).2;rcases CW.1 hr with ⟨i,hi,e1⟩;rcases CW.1 hs with ⟨j,hj,e2⟩;rcases Nat.lt_trichotomy i j with Pk | Pk | Pk
  ·have:=(AY.1 hp) i j hi hj Pk
   rw[e1,e2]at this;exact(H4 this h1.symm).elim
  ·subst Pk;rw[←e1,←e2]
  ·have:=(AY.1 hp) j i hj hi Pk
   rw[e1,e2]at this;exact(H4 this h1).elim
theorem y0(x:List Rl)(ifs:List (List AV))(p:ByteArray)(v:Ver)(bU:dP x ifs)(hx:∀r∈x,JX r):PC 15 [Hi x ifs,vs p,.agg (GC v)] (Yb (Es x ⟨p,v⟩)):=by
 have hz:=uc
 by_cases h0:AT x=0
 ·have bU:PC 41 [Hi x ifs] (.tup [.agg [.cmap TU (x.map SY),.cmap CM ((AO x []).map (i9 x))],vi 0]):=by
   have:=bU;unfold dP WB at this;rw[Ao h0]at this;exact this
  refine Ps (Jo [2,3]) Tryz.func15 rfl (Nz rfl) ?_;refine Yi (Nz rfl) ?_;refine Xi .pure (Xi _ (Yi (bU) ?_));refine Yi (Nz rfl) ?_;refine Xi ⟨[(1,vs p),(5,.ref 5 0),(6,.ref 6 0),(8,.ref 8 0)],[(5,.cells (GC v)),(6,.cells Yu),(8,.cells [.cmap TU (x.map SY),.cmap CM ((AO x []).map (i9 x))])],Aa⟩ (Yi ⟨Z4,Z3,Fh,Tv⟩ ?_)
  refine Yi (Nz rfl) ?_;refine Yi ?_ ?_
  ·intro a ha;refine CD (ap (y:=⟨p,v⟩) ha) (fun r hr=>?_);have e:=hr.2.2;subst e;have hf:Es x ⟨p,v⟩=some r:=by rw[←hr.2.1];exact eX h0 hr.1
   have hrq:=(NI h0).2 r hr.1;have hc:=ub r (by omega) (fun q hq=>((hx r hr.1).2 q hq).1);refine Yi (Nz rfl) ?_;refine Xi ⟨[(6,.ref 6 0),(10,.ref 10 0),(11,vb true)],[(6,.cells Yu),(10,.cells (Ak r))],Aa⟩ (Yi ⟨Z3,Z2,Fh,Tv⟩ ?_)
   refine Yi (Nz rfl) ?_;refine Xi .pure (Xi _ (Yi (hc) ?_));refine Yi (Nz rfl) (Yi (Nz rfl) ?_);exact .of_eq (show AV.tup [.agg (Ak r),vb true]=Yb (Es x ⟨p,v⟩) by rw[hf])
  ·intro hn;have hf:Es x ⟨p,v⟩=none:=by
    cases h:Es x ⟨p,v⟩with
    |none=>rfl
    |some r =>
     obtain⟨_,h2,h3⟩:=Kw h;exact absurd (Aj.2 ⟨r,h2,by rw[show SY r=(QG (Fk r),AV.agg (Ak r))from rfl,h3]⟩) (hn (.agg (Ak r)))
   refine Yi (Nz rfl) ?_;refine Xi ⟨[(6,.ref 6 0),(10,.ref 10 0),(11,vb false)],[(6,.cells Yu),(10,.cells Yu)],Aa⟩ (Yi ⟨Z3,Z2,Fh,Tv⟩ ?_)
   refine Yi (Nz rfl) ?_;refine Xi .pure (Xi _ (Yi (hz) ?_));refine Yi (Nz rfl) (Yi (Nz rfl) ?_);exact .of_eq (show AV.tup [.agg Yu,vb false]=Yb (Es x ⟨p,v⟩) by rw[hf])
 ·have bU:PC 41 [Hi x ifs] (.tup [.agg [.cmap TU [],.cmap CM []],vi (AT x)]):=by
   have:=bU;unfold dP WB at this;rw[Ah h0]at this;exact this
  have hf:Es x ⟨p,v⟩=none:=by unfold Es;rw[Ao h0]
  refine Ps (Jo [2,3]) Tryz.func15 rfl (Nz rfl) ?_;refine Yi (Nz rfl) ?_;refine Xi .pure (Xi _ (Yi (bU) ?_));refine Yi (Nz rfl) ?_;refine Xi ⟨[(1,vs p),(5,.ref 5 0),(6,.ref 6 0),(8,.ref 8 0)],[(5,.cells (GC v)),(6,.cells Yu),(8,.cells [.cmap TU [],.cmap CM []])],Aa⟩ (Yi ⟨Z4,Z3,Fh,Tv⟩ ?_)
  refine Yi (Nz rfl) ?_;refine Yi ?_ ?_
  ·intro a ha;cases ha
  ·intro _;refine Yi (Nz rfl) ?_;refine Xi ⟨[(6,.ref 6 0),(10,.ref 10 0),(11,vb false)],[(6,.cells Yu),(10,.cells Yu)],Aa⟩ (Yi ⟨Z3,Z2,Fh,Tv⟩ ?_)
   refine Yi (Nz rfl) ?_;refine Xi .pure (Xi _ (Yi (hz) ?_));refine Yi (Nz rfl) (Yi (Nz rfl) ?_);exact .of_eq (show AV.tup [.agg Yu,vb false]=Yb (Es x ⟨p,v⟩) by rw[hf])
abbrev DM(l:List Rl):Bg:=(l.filter fun r=>!r.yanked).map fun r=>(plc r.ver,plc r.ver+1)
theorem ZI(l:List Rl):(DM l).length≤l.length:=by
 unfold DM;rw[Lm];exact BA _ _
theorem kh{x:List Rl}{ps:List ByteArray}{p:ByteArray}{a:AV}(h:(Value.string p,a)∈ps.map (i9 x)):a=sl Ak (x.filter fun r=>decide (r.path=p)):=by
 obtain⟨q,_,h2⟩:=Aj.1 h;simp only[i9,FK,Value.string.injEq]at h2;rw[←h2.2,h2.1]
theorem N9{acc:List ByteArray}{p:ByteArray}:(acc.any fun q=>decide (q=p))=true↔p∈acc:=by
 rw[Ba];constructor
 ·rintro⟨q,h1,h2⟩;rw[←Bv h2];exact h1
 ·intro h;exact⟨p,h,by simp⟩
theorem Hb:∀(x:List Rl) (acc:List ByteArray) (p:ByteArray),p∈AO x acc↔p∈acc∨∃r∈x,r.path=p
 | [],acc,p=>by simp[AO]
 |r::x,acc,p=>by
  rw[AO,Hb x];constructor
  ·rintro(h | ⟨s,h1,h2⟩)
   ·split at h
    ·exact .inl h
    ·rcases AU.1 h with h | h
     ·exact .inl h
     ·exact .inr ⟨r,Ab ..,(Am.1 h).symm⟩
   ·exact .inr ⟨s,Ag _ h1,h2⟩
  ·rintro(h | ⟨s,h1,h2⟩)
   ·left
    split
    ·exact h
    ·exact Bn _ h
   ·rcases Av.1 h1 with rfl | h1
    ·left
     split
     ·rename_i hh;rw[←h2];exact N9.1 hh
     ·rw[←h2];exact Bf _ (Am.2 rfl)
    ·exact .inr ⟨s,h1,h2⟩
abbrev lX:RK:=⟨[],[(7,2)],[],[],[],[],[],[],[],[],[2,3,6,7,9]⟩
theorem Uz(L:List Rl)(i:Nat)(h:i<L.length):DM (L.take (i+1))=DM (L.take i)++(if L[i].yanked then []else [(plc L[i].ver,plc L[i].ver+1)]):=by
 unfold DM;rw[Bq,Ge h,Dc,Ax]
 congr 1
 cases hy:L[i].yanked<;>simp[hy]
theorem tO(x:List Rl)(ifs:List (List AV))(p:ByteArray)(bU:dP x ifs):PC 86 [Hi x ifs,vs p] (sl Aq (B1 x p)):=by
 by_cases h0:AT x=0
 ·have bU:PC 41 [Hi x ifs] (.tup [.agg [.cmap TU (x.map SY),.cmap CM ((AO x []).map (i9 x))],vi 0]):=by
   have:=bU;unfold dP WB at this;rw[Ao h0]at this;exact this
  have lR:=(NI h0).1;obtain⟨L,sv⟩:∃L,L=x.filter fun r=>decide (r.path=p):=⟨_,rfl⟩;have hL:Kb x p=L:=by unfold Kb;rw[Ah (by omega),sv]
  have xA:L.length≤256:=by have:=BA (fun r:Rl=>decide (r.path=p)) x;rw[sv];omega
  refine Ps lX Tryz.func86 rfl (Nz rfl) ?_;refine Yi (Nz rfl) ?_;refine Xi .pure (Xi _ (Yi (bU) ?_));refine Yi (Nz rfl) ?_;refine Xi ⟨[(1,vs p),(5,.ref 5 0)],[(5,.cells [.cmap TU (x.map SY),.cmap CM ((AO x []).map (i9 x))])],Aa⟩ (Yi ⟨Z2,Z1,Fh,Tv⟩ ?_)
  refine Xi ⟨[(1,vs p),(5,.ref 5 0),(7,.slice (.id 7 2) [])],[(5,.cells [.cmap TU (x.map SY),.cmap CM ((AO x []).map (i9 x))]),(7,.tok 2 0)],Aa⟩ (Yi ⟨Z3,Z2,Fh,Tv⟩ ?_)
  refine Yi ?_ ?_
  ·intro a ha;have ea:a=sl Ak L:=by rw[sv];exact kh ha
   subst ea;refine Xi {i:Nat // i≤L.length} (Xi (fun i=>⟨[(7,.slice (.id 7 2) ((DM (L.take i.1)).map Aq)),(18,sl Ak L),(19,vi (L.map Ak).length),(20,vi i.1)],[(7,.tok 2 ((DM (L.take i.1)).map Aq).length)],Aa⟩) (Xi (fun i=>L.length-i.1) (Yi (Xi ⟨0,AL _⟩ ?_) ?_)))
   ·exact⟨Z4,Z1,Fh,Tv⟩
   intro⟨i,i1⟩;have WL:=ZI (L.take i);rw[AD]at WL;refine Yi ?_ ?_
   ·intro h;have h:(i:Int)<(L.map Ak).length:=h;have h:i<L.length:=by simpa using h
    have hg:L[i]?=some L[i]:=Ge h;refine Xi (Ak L[i]) (Yi (Yi (Nn i) (by simp[hg])) (Yi rfl ?_));refine Yi (Nz rfl) (Yi (Nz rfl) ?_);refine Xi ⟨[(7,.slice (.id 7 2) ((DM (L.take i)).map Aq)),(9,.ref 9 0),(18,sl Ak L),(19,vi (L.map Ak).length),(20,vi i)],[(7,.tok 2 ((DM (L.take i)).map Aq).length),(9,.cells (Ak L[i]))],Aa⟩ (Yi ⟨Z5,Z2,Fh,Tv⟩ ?_)
    refine Yi ?_ ?_
    ·intro hy;have hy:L[i].yanked=true:=hy;refine Yi (Ii i (by omega)) ?_;have es:DM (L.take (i+1))=DM (L.take i):=by rw[Uz L i h,hy];simp
     have e1:AV.slice (.id 7 2) ((DM (L.take i)).map Aq)=.slice (.id 7 2) ((DM (L.take (i+1))).map Aq):=by rw[es]
     have e2:HO.tok 2 ((DM (L.take i)).map Aq).length=.tok 2 ((DM (L.take (i+1))).map Aq).length:=by rw[es]
     refine Xi ⟨i+1,by omega⟩ ?_;exact⟨Dl L.length i (by omega),⟨⟨e1,rfl⟩,Zr,Zr,Zr,Tv⟩,⟨⟨e2,rfl⟩,Tv⟩,Fh,Tv⟩
    ·intro hy;have hy:L[i].yanked=false:=hy;have vo:=kK L[i].ver;refine Xi ⟨[(7,.slice (.id 7 2) ((DM (L.take i)).map Aq)),(9,.ref 9 0),(18,sl Ak L),(19,vi (L.map Ak).length),(20,vi i)],[(7,.tok 2 ((DM (L.take i)).map Aq).length),(9,.cells (Ak L[i]))],Aa⟩ (Yi ⟨Z5,Z2,Fh,Tv⟩ ?_)
     refine Yi (Nz rfl) ?_;refine Xi _ (Yi (xl L[i]) ?_);refine Yi (Nz rfl) ?_;refine Xi _ (Yi (xl L[i]) ?_);refine Yi (by show BQ (plc L[i].ver+1);unfold BQ;omega) ?_;have He:De 2 [[vi (plc L[i].ver),vi (plc L[i].ver+1)]]∧((DM (L.take i)).map Aq).length=((DM (L.take i)).map Aq).length∧(((DM (L.take i)).map Aq).length+[[vi (plc L[i].ver),vi (plc L[i].ver+1)]].length)*16≤140737488355328∧((DM (L.take i)).map Aq).length+[[vi (plc L[i].ver),vi (plc L[i].ver+1)]].length≤9223372036854775807 :=
      ⟨⟨rfl,trivial⟩,rfl,by rw[Lm,A6];omega,by rw[Lm,A6];omega⟩
     refine Yi He ?_;refine Yi (by kernel_rfl) ?_;refine Yi (Ii i (by omega)) ?_;have es:DM (L.take (i+1))=DM (L.take i)++[(plc L[i].ver,plc L[i].ver+1)]:=by rw[Uz L i h,hy];simp
     have e1:AV.slice (.id 7 2) ((DM (L.take i)).map Aq++[[vi (plc L[i].ver),vi (plc L[i].ver+1)]])=.slice (.id 7 2) ((DM (L.take (i+1))).map Aq):=by rw[es,Ax];rfl
     have e2:HO.tok 2 (((DM (L.take i)).map Aq).length+[[vi (plc L[i].ver),vi (plc L[i].ver+1)]].length)=.tok 2 ((DM (L.take (i+1))).map Aq).length:=by rw[es,Ax,Ad];rfl
     refine Xi ⟨i+1,by omega⟩ ?_;exact⟨Dl L.length i (by omega),⟨⟨e1,rfl⟩,Zr,Zr,Zr,Tv⟩,⟨⟨e2,rfl⟩,Tv⟩,Fh,Tv⟩
   ·intro h;have h:¬(i:Int)<(L.map Ak).length:=h;have h:¬i<L.length:=by simpa using h
    have et:L.take i=L:=AG (by omega);refine Xi ⟨[(7,.slice (.id 7 2) ((DM (L.take i)).map Aq))],[(7,.tok 2 ((DM (L.take i)).map Aq).length)],Aa⟩ (Yi ⟨Z1,Z1,Fh,Tv⟩ ?_)
    have hc:PC 116 [sl Aq (DM (L.take i))] (sl Aq (canon (DM (L.take i)))):=WZ _ (by unfold CO;omega);refine Xi .pure (Xi _ (Yi (hc) ?_));exact .of_eq (show sl Aq (canon (DM (L.take i)))=sl Aq (B1 x p) by rw[et];unfold B1;rw[hL])
  ·intro hn;have hL:Kb x p=[]:=by
    rw[hL,sv,FJ];intro r hr he;have he:=Bv he;exact hn _ (Aj.2 ⟨p,(Hb x [] p).2 (.inr ⟨r,hr,he⟩),rfl⟩)
   refine Xi Unit (Xi (fun _=>⟨[(7,.slice (.id 7 2) []),(19,vi 0),(20,vi 0)],[(7,.tok 2 0)],Aa⟩) (Xi (fun _=>0) (Yi (Xi () ?_) ?_)))
   ·exact⟨Z3,Z1,Fh,Tv⟩
   intro _;refine Yi ?_ ?_
   ·intro h;exact absurd (show(0:Int)<0 from h) (by decide)
   intro _;refine Xi ⟨[(7,.slice (.id 7 2) [])],[(7,.tok 2 0)],Aa⟩ (Yi ⟨Z1,Z1,Fh,Tv⟩ ?_)
   have hc:PC 116 [sl Aq []] (sl Aq (canon [])):=WZ [] (by unfold CO;simp);refine Xi .pure (Xi _ (Yi (hc) ?_));exact .of_eq (show sl Aq (canon [])=sl Aq (B1 x p) by unfold B1;rw[hL];rfl)
 ·have bU:PC 41 [Hi x ifs] (.tup [.agg [.cmap TU [],.cmap CM []],vi (AT x)]):=by
   have:=bU;unfold dP WB at this;rw[Ah h0]at this;exact this
  have hL:Kb x p=[]:=by unfold Kb;rw[Ao h0]
  refine Ps lX Tryz.func86 rfl (Nz rfl) ?_;refine Yi (Nz rfl) ?_;refine Xi .pure (Xi _ (Yi (bU) ?_));refine Yi (Nz rfl) ?_;refine Xi ⟨[(1,vs p),(5,.ref 5 0)],[(5,.cells [.cmap TU [],.cmap CM []])],Aa⟩ (Yi ⟨Z2,Z1,Fh,Tv⟩ ?_)
  refine Xi ⟨[(1,vs p),(5,.ref 5 0),(7,.slice (.id 7 2) [])],[(5,.cells [.cmap TU [],.cmap CM []]),(7,.tok 2 0)],Aa⟩ (Yi ⟨Z3,Z2,Fh,Tv⟩ ?_)
  refine Yi ?_ ?_
  ·intro a ha;cases ha
  ·intro _;refine Xi Unit (Xi (fun _=>⟨[(7,.slice (.id 7 2) []),(19,vi 0),(20,vi 0)],[(7,.tok 2 0)],Aa⟩) (Xi (fun _=>0) (Yi (Xi () ?_) ?_)))
   ·exact⟨Z3,Z1,Fh,Tv⟩
   intro _;refine Yi ?_ ?_
   ·intro h;exact absurd (show(0:Int)<0 from h) (by decide)
   intro _;refine Xi ⟨[(7,.slice (.id 7 2) [])],[(7,.tok 2 0)],Aa⟩ (Yi ⟨Z1,Z1,Fh,Tv⟩ ?_)
   have hc:PC 116 [sl Aq []] (sl Aq (canon [])):=WZ [] (by unfold CO;simp);refine Xi .pure (Xi _ (Yi (hc) ?_));exact .of_eq (show sl Aq (canon [])=sl Aq (B1 x p) by unfold B1;rw[hL];rfl)
theorem RR(x:List Rl)(p:ByteArray):CO (B1 x p):=by
 unfold B1 CO
 have:=HY (Cb (((Kb x p).filter fun r=>!r.yanked).map fun r=>(plc r.ver,plc r.ver+1)));omega
end Go.Eng
