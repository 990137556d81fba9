/- Lemmas for the claims of this seat, without a condition: part 21 (C38, C39, LayStr, C40, C41, C42, C43, C44, C45, C46, C47, C48, C49, C50, C51, C52, C53, C54, C55). -/
import Derived.Test.YtddfphmpfnmknaaGreatDoorFA20
import Derived.Shelf.Strings.SplitShaped
import Derived.Shelf.Strings.LastIndexAll
import Derived.Shelf.Strings.Search3
import Derived.Shelf.Small.Wraps
import Derived.Ground.NamesProg
import Derived.Lib.LastIndexLaws
namespace Go.Eng
open Go.Proofs
abbrev pp(r:Rl)(a:AV):List AV:=[vs r.path,vi r.ver.a,vi r.ver.b,vi r.ver.c,a,vs r.arch,vs r.ifc,vs r.cert,vb r.yanked]
abbrev wg:RO:=⟨[],[],[],[],[],[],[],[(9,(1,4,900,2))],[],[],[6,7]⟩
theorem ul(r:Rl)(hr:r.reqs.length≤1000)(hs:∀q∈r.reqs,CM q.set):PC 42 [.agg (Aj r)] (.agg (Aj r)):=by
 refine Ps wg Tryz.func42 rfl (Nz rfl) ?_;refine Yi (Nz rfl) ?_;refine Xi {i:Nat // i≤r.reqs.length} (Xi (fun i=>⟨[(1,.ref 1 0),(2,.ref 2 0),(9,sl AK r.reqs),(10,vi (r.reqs.map AK).length),(11,vi i.1)],[(1,.cells (pp r (.slice (.id 900 2) ((r.reqs.take i.1).map AK)))),(2,.cells YD),(900,.tok 2 ((r.reqs.take i.1).map AK).length)],Ab⟩) (Xi (fun i=>r.reqs.length-i.1) (Yi (Xi ⟨0,AJ _⟩ ?_) ?_)))
 ·exact⟨Z5,Z3,Fh,Tv⟩
 intro⟨i,h1⟩;refine Yi ?_ ?_
 ·intro h;have h:(i:Int)<(r.reqs.map AK).length:=h;have h:i<r.reqs.length:=by simpa using h
  have hg:r.reqs[i]?=some r.reqs[i]:=Ge h;refine Xi (AK r.reqs[i]) (Yi (Yi (Nn i) (by simp[hg])) (Yi rfl ?_));have hq:=hs r.reqs[i] (AC h);refine Yi (Nz rfl) (Yi (Nz rfl) ?_);refine Xi ⟨[(1,.ref 1 0),(2,.ref 2 0),(5,.ref 5 0),(9,sl AK r.reqs),(10,vi (r.reqs.map AK).length),(11,vi i)],[(1,.cells (pp r (.slice (.id 900 2) ((r.reqs.take i).map AK)))),(2,.cells YD),(5,.cells (AK r.reqs[i])),(900,.tok 2 ((r.reqs.take i).map AK).length)],Ab⟩ (Yi ⟨Z6,Z4,Fh,Tv⟩ ?_)
  refine Xi .pure (Xi _ (Yi (tK r.reqs[i].set hq) ?_));refine Yi (Nz rfl) ?_;refine Xi ⟨[(1,.ref 1 0),(2,.ref 2 0),(5,.ref 5 0),(9,sl AK r.reqs),(10,vi (r.reqs.map AK).length),(11,vi i)],[(1,.cells (pp r (.slice (.id 900 2) ((r.reqs.take i).map AK)))),(2,.cells YD),(5,.cells (AK r.reqs[i])),(900,.tok 2 ((r.reqs.take i).map AK).length)],Ab⟩ (Yi ⟨Z6,Z4,Fh,Tv⟩ ?_)
  refine Yi (Nz rfl) ?_;have Hl:Df 2 [AK r.reqs[i]]∧((r.reqs.take i).map AK).length=((r.reqs.take i).map AK).length∧(((r.reqs.take i).map AK).length+[AK r.reqs[i]].length)*40≤140737488355328∧((r.reqs.take i).map AK).length+[AK r.reqs[i]].length≤9223372036854775807 :=
   ⟨⟨rfl,trivial⟩,rfl,by rw[Lm,AB,A8];omega,by rw[Lm,AB,A8];omega⟩
  refine Yi Hl ?_;refine Yi (Nz rfl) ?_;refine Yi (Ii i (by omega)) ?_;refine Xi ⟨i+1,by omega⟩ ?_;have et:(r.reqs.take (i+1)).map AK=(r.reqs.take i).map AK++[AK r.reqs[i]]:=by rw[Bq,hg,Ay];rfl
  have e1:HO.cells (pp r (.slice (.id 900 2) ((r.reqs.take i).map AK++[AK r.reqs[i]])))=.cells (pp r (.slice (.id 900 2) ((r.reqs.take (i+1)).map AK))):=by rw[et]
  have e2:HO.tok 2 (((r.reqs.take i).map AK).length+[AK r.reqs[i]].length)=.tok 2 ((r.reqs.take (i+1)).map AK).length:=by rw[et,Ad]
  exact⟨Dl r.reqs.length i (by omega),Z5,⟨⟨e1,rfl⟩,Zr,⟨e2,rfl⟩,Tv⟩,Fh,Tv⟩
 ·intro h;have h:¬(i:Int)<(r.reqs.map AK).length:=h;have h:¬i<r.reqs.length:=by simpa using h
  refine Yi (Nz rfl) (Yi (Nz rfl) (Yi (Nz rfl) ?_));have e:AV.agg (pp r (.slice .none ((r.reqs.take i).map AK)))=.agg (Aj r):=by rw[AE (by omega)]
  exact .of_eq e
abbrev vc(c:UInt8):AV:=.v (.int .u8 c.toNat)
theorem iN(a:UInt8)(n:Nat)(h:n<256):decide (UInt8.ofNat n≤a)=decide ((n:Int)≤(a.toNat:Int)):=by
 rw[BO,As,As,Ll,show(UInt8.ofNat n).toNat=n by simp;omega];omega
theorem iM(a:UInt8)(n:Nat)(h:n<256):decide (a≤UInt8.ofNat n)=decide ((a.toNat:Int)≤(n:Int)):=by
 rw[BO,As,As,Ll,show(UInt8.ofNat n).toNat=n by simp;omega];omega
theorem mY(c:UInt8):PC 162 [vc c] (vb (G2 c)):=by
 refine Ps Gn Tryz.func162 rfl (Nz rfl) ?_;have e1:decide ((97:UInt8)≤c)=decide ((97:Int)≤(c.toNat:Int)):=iN c 97 (by decide);have e2:decide (c≤(122:UInt8))=decide ((c.toNat:Int)≤(122:Int)):=iM c 122 (by decide);have es:G2 c=(decide ((97:Int)≤(c.toNat:Int))&&decide ((c.toNat:Int)≤(122:Int))):=by unfold G2;rw[e1,e2]
 refine Yi ?_ ?_
 ·intro h;have h:(97:Int)≤(c.toNat:Int):=h;refine Yi ?_ ?_
  ·intro h2;have h2:(c.toNat:Int)≤122:=h2;exact .of_eq (Ac vb (show true=G2 c by rw[es,Ax h,Ax h2];rfl))
  ·intro h2;have h2:¬(c.toNat:Int)≤122:=h2;exact .of_eq (Ac vb (show false=G2 c by rw[es,Az h2,D8]))
 ·intro h;have h:¬(97:Int)≤(c.toNat:Int):=h;exact .of_eq (Ac vb (show false=G2 c by rw[es,Az h];rfl))
theorem mZ(c:UInt8):PC 163 [vc c] (vb (EV c)):=by
 refine Ps Gn Tryz.func163 rfl (Nz rfl) ?_;have e1:decide ((48:UInt8)≤c)=decide ((48:Int)≤(c.toNat:Int)):=iN c 48 (by decide);have e2:decide (c≤(57:UInt8))=decide ((c.toNat:Int)≤(57:Int)):=iM c 57 (by decide);have es:EV c=(decide ((48:Int)≤(c.toNat:Int))&&decide ((c.toNat:Int)≤(57:Int))):=by unfold EV;rw[e1,e2]
 refine Yi ?_ ?_
 ·intro h;have h:(48:Int)≤(c.toNat:Int):=h;refine Yi ?_ ?_
  ·intro h2;have h2:(c.toNat:Int)≤57:=h2;exact .of_eq (Ac vb (show true=EV c by rw[es,Ax h,Ax h2];rfl))
  ·intro h2;have h2:¬(c.toNat:Int)≤57:=h2;exact .of_eq (Ac vb (show false=EV c by rw[es,Az h2,D8]))
 ·intro h;have h:¬(48:Int)≤(c.toNat:Int):=h;exact .of_eq (Ac vb (show false=EV c by rw[es,Az h];rfl))
theorem ui(c:UInt8):PC 231 [vc c] (vb (VQ c)):=by
 refine Ps Gn Tryz.func231 rfl (Nz rfl) ?_;have e1:decide ((65:UInt8)≤c)=decide ((65:Int)≤(c.toNat:Int)):=iN c 65 (by decide);have e2:decide (c≤(90:UInt8))=decide ((c.toNat:Int)≤(90:Int)):=iM c 90 (by decide);have es:VQ c=(decide ((65:Int)≤(c.toNat:Int))&&decide ((c.toNat:Int)≤(90:Int))):=by unfold VQ;rw[e1,e2]
 refine Yi ?_ ?_
 ·intro h;have h:(65:Int)≤(c.toNat:Int):=h;refine Yi ?_ ?_
  ·intro h2;have h2:(c.toNat:Int)≤90:=h2;exact .of_eq (Ac vb (show true=VQ c by rw[es,Ax h,Ax h2];rfl))
  ·intro h2;have h2:¬(c.toNat:Int)≤90:=h2;exact .of_eq (Ac vb (show false=VQ c by rw[es,Az h2,D8]))
 ·intro h;have h:¬(65:Int)≤(c.toNat:Int):=h;exact .of_eq (Ac vb (show false=VQ c by rw[es,Az h];rfl))
abbrev ZN(c:UInt8):Bool:=G2 c||EV c
theorem ub(c:UInt8):PC 161 [vc c] (vb (ZN c)):=by
 have h1:=mY c;have h2:=mZ c;rcases Bt (G2 c)with e | e
 ·rw[e]at h1;refine Ps Gn Tryz.func161 rfl (Nz rfl) ?_;refine Xi .pure (Xi _ (Yi (h1) ?_));exact .of_eq (Ac vb (show true=ZN c by unfold ZN;rw[e];rfl))
 ·rw[e]at h1;refine Ps Gn Tryz.func161 rfl (Nz rfl) ?_;refine Xi .pure (Xi _ (Yi (h1) ?_));refine Xi .pure (Xi _ (Yi (h2) ?_));exact .of_eq (Ac vb (show EV c=ZN c by unfold ZN;rw[e];rfl))
theorem ue(c:UInt8):PC 202 [vc c] (vb (Ml c)):=by
 have h1:=mY c;have h2:=ui c;have h3:=mZ c;have ew:Ml c=(G2 c||VQ c||EV c||decide (c=95)):=rfl;rcases Bt (G2 c)with e | e
 ·rw[e]at h1;refine Ps Gn Tryz.func202 rfl (Nz rfl) ?_;refine Xi .pure (Xi _ (Yi (h1) ?_));exact .of_eq (Ac vb (show true=Ml c by rw[ew,e];rfl))
 rw[e]at h1;rcases Bt (VQ c)with e2 | e2
 ·rw[e2]at h2;refine Ps Gn Tryz.func202 rfl (Nz rfl) ?_;refine Xi .pure (Xi _ (Yi (h1) ?_));refine Xi .pure (Xi _ (Yi (h2) ?_));exact .of_eq (Ac vb (show true=Ml c by rw[ew,e,e2];rfl))
 rw[e2]at h2;rcases Bt (EV c)with e3 | e3
 ·rw[e3]at h3;refine Ps Gn Tryz.func202 rfl (Nz rfl) ?_;refine Xi .pure (Xi _ (Yi (h1) ?_));refine Xi .pure (Xi _ (Yi (h2) ?_));refine Xi .pure (Xi _ (Yi (h3) ?_));exact .of_eq (Ac vb (show true=Ml c by rw[ew,e,e2,e3];rfl))
 rw[e3]at h3;refine Ps Gn Tryz.func202 rfl (Nz rfl) ?_;refine Xi .pure (Xi _ (Yi (h1) ?_));refine Xi .pure (Xi _ (Yi (h2) ?_));refine Xi .pure (Xi _ (Yi (h3) ?_));have eb:decide (c=95)=decide ((c.toNat:Int)=95):=by
  rw[BO,As,As];constructor
  ·intro h;subst h;rfl
  ·intro h;exact UInt8.toNat_inj.1 (by show c.toNat=95;omega)
 refine Yi ?_ ?_
 ·intro h;have h:(c.toNat:Int)=95:=h;exact .of_eq (Ac vb (show true=Ml c by rw[ew,e,e2,e3,eb,Ax h];rfl))
 ·intro h;have h:¬(c.toNat:Int)=95:=h;exact .of_eq (Ac vb (show false=Ml c by rw[ew,e,e2,e3,eb,Az h];rfl))
theorem ZX(s:ByteArray)(i:Nat)(h:i<s.data.toList.length):s.data[i]?=some s.data.toList[i]:=by
 rw[←A0];exact Ge h
theorem mX(s:ByteArray)(f:Nat)(q:UInt8→Bool)(hf:∀c,PC f [vc c] (vb (q c)))(hs:s.data.toList.length<4611686018427387904):PC 160 [vs s,.v (Uc f)] (vb (s.data.toList.all q)):=by
 have Ew:s.size=s.data.toList.length:=by simp
 refine Ps Gn Tryz.func160 rfl (Nz rfl) ?_;refine Xi {i:Nat // i≤s.data.toList.length∧∀j (hj:j<s.data.toList.length),j<i→q s.data.toList[j]=true} (Xi (fun i=>⟨[(0,vs s),(1,.v (Uc f)),(7,vi s.size),(8,vi i.1)],[],Ab⟩) (Xi (fun i=>s.data.toList.length-i.1) (Yi (Xi ⟨0,AJ _,fun j _ h=>by omega⟩ ?_) ?_)))
 ·exact⟨Z4,Tv,Fh,Tv⟩
 intro⟨i,h1,h2⟩;refine Yi ?_ ?_
 ·intro h;have h:(i:Int)<(s.size:Nat):=h;have h:i<s.data.toList.length:=by omega
  refine Xi s.data.toList[i] (Yi ⟨by show(0:Int)≤i;omega,by show s.data[((i:Nat):Int).toNat]?=_;rw[Ch];exact ZX s i h⟩ ?_);have hc:=hf s.data.toList[i];refine Dp (Bt (q s.data.toList[i])) (fun e=>?_) (fun e=>?_)
  ·rw[e]at hc;refine Xi .pure (Xi _ (Yi (hc) ?_));refine Yi (Ii i (by omega)) ?_;refine Xi ⟨i+1,by omega,fun j hj LZ=>?_⟩ ?_
   ·rcases ED j i with z | z
    ·exact h2 j hj z
    ·have:j=i:=by omega
     subst this;exact e
   ·exact⟨Dl s.data.toList.length i (by omega),Z4,Tv,Fh,Tv⟩
  ·rw[e]at hc;refine Xi .pure (Xi _ (Yi (hc) ?_));have er:s.data.toList.all q=false:=by
    rw[AM];intro ha
    have:=Bp.1 ha _ (AC h)
    rw[e]at this;cases this
   exact .of_eq (Ac vb er.symm)
 ·intro h;have h:¬(i:Int)<(s.size:Nat):=h;have er:s.data.toList.all q=true:=Bp.2 fun c hc=>by
   obtain⟨j,hj,rfl⟩:=FC hc;exact h2 j hj (by omega)
  exact .of_eq (Ac vb er.symm)
end Go.Eng
namespace Go.Proofs
open Go.Shelf
def Tryz.laySplit_ren:Go.Shelf.Ren:=⟨fun | 146=>157 | 221=>200 | 268=>227 | 138=>228 | 143=>229 | 195=>250 | 197=>251 | 218=>252 | 219=>253 | 260=>271 | 217=>272 | 225=>273 | 224=>274 | 267=>275 | 266=>290 | 314=>291 | n=>n,fun | 9=>9 | 31=>139 | 3=>3 | 4=>4 | 0=>0 | 105=>291 | 21=>21 | 5=>5 | 46=>174 | 119=>313 | 139=>316 | 138=>315 | 146=>260 | 51=>211 | n=>n,fun | 1=>0 | 3=>1 | 4=>2 | n=>n⟩
theorem Tryz.laySplit:Go.Proofs.Lays.n146 Tryz.prog Tryz.laySplit_ren:={
 mixed:=by kernel_rfl
 f138:=Tryz.func228.trans (congrArg some (by kernel_rfl))
 f143:=Tryz.func229.trans (congrArg some (by kernel_rfl))
 f146:=Tryz.func157.trans (congrArg some (by kernel_rfl))
 f195:=Tryz.func250.trans (congrArg some (by kernel_rfl))
 f197:=Tryz.func251.trans (congrArg some (by kernel_rfl))
 f217:=Tryz.func272.trans (congrArg some (by kernel_rfl))
 f218:=Tryz.func252.trans (congrArg some (by kernel_rfl))
 f219:=Tryz.func253.trans (congrArg some (by kernel_rfl))
 f221:=Tryz.func200.trans (congrArg some (by kernel_rfl))
 f224:=Tryz.func274.trans (congrArg some (by kernel_rfl))
 f225:=Tryz.func273.trans (congrArg some (by kernel_rfl))
 f260:=Tryz.func271.trans (congrArg some (by kernel_rfl))
 f266:=Tryz.func290.trans (congrArg some (by kernel_rfl))
 f267:=Tryz.func275.trans (congrArg some (by kernel_rfl))
 f268:=Tryz.func227.trans (congrArg some (by kernel_rfl))
 f314:=Tryz.func291.trans (congrArg some (by kernel_rfl))
 t0:=Tryz.underlying0
 a0:=Tryz.isAgg0
 z0:=Tryz.sizeOf0
 v0:=Tryz.zeroValue0
 t3:=Tryz.underlying3
 a3:=Tryz.isAgg3
 z3:=Tryz.sizeOf3
 v3:=Tryz.zeroValue3
 t4:=Tryz.underlying4
 a4:=Tryz.isAgg4
 z4:=Tryz.sizeOf4
 v4:=Tryz.zeroValue4
 t5:=Tryz.underlying5
 a5:=Tryz.isAgg5
 z5:=Tryz.sizeOf5
 v5:=Tryz.zeroValue5
 t9:=Tryz.underlying9
 a9:=Tryz.isAgg9
 z9:=Tryz.sizeOf9
 v9:=Tryz.zeroValue9
 t21:=Tryz.underlying21
 a21:=Tryz.isAgg21
 z21:=Tryz.sizeOf21
 v21:=Tryz.zeroValue21
 t31:=Tryz.underlying139
 a31:=Tryz.isAgg139
 z31:=Tryz.sizeOf139
 v31:=Tryz.zeroValue139
 t46:=Tryz.underlying174
 a46:=Tryz.isAgg174
 z46:=Tryz.sizeOf174
 v46:=Tryz.zeroValue174
 t51:=Tryz.underlying211
 a51:=Tryz.isAgg211
 z51:=Tryz.sizeOf211
 v51:=Tryz.zeroValue211
 t105:=Tryz.underlying291
 a105:=Tryz.isAgg291
 z105:=Tryz.sizeOf291
 v105:=Tryz.zeroValue291
 t119:=Tryz.underlying313
 a119:=Tryz.isAgg313
 z119:=Tryz.sizeOf313
 t138:=Tryz.underlying315
 a138:=Tryz.isAgg315
 z138:=Tryz.sizeOf315
 v138:=Tryz.zeroValue315
 t139:=Tryz.underlying316
 a139:=Tryz.isAgg316
 z139:=Tryz.sizeOf316
 v139:=Tryz.zeroValue316
 t146:=Tryz.underlying260
 a146:=Tryz.isAgg260
 z146:=Tryz.sizeOf260
 v146:=Tryz.zeroValue260
 g1:=by kernel_rfl
 g3:=by kernel_rfl
 g4:=by kernel_rfl }
def Tryz.layLast_ren:Go.Shelf.Ren:=⟨fun | 148=>111 | 222=>164 | 223=>165 | 269=>204 | n=>n,fun | 9=>9 | 3=>3 | 4=>4 | 5=>5 | 146=>260 | 51=>211 | 46=>174 | n=>n,fun | n=>n⟩
theorem Tryz.layLast:Go.Proofs.Lays.n148 Tryz.prog Tryz.layLast_ren:={
 mixed:=by kernel_rfl
 f148:=Tryz.func111.trans (congrArg some (by kernel_rfl))
 f222:=Tryz.func164.trans (congrArg some (by kernel_rfl))
 f223:=Tryz.func165.trans (congrArg some (by kernel_rfl))
 f269:=Tryz.func204.trans (congrArg some (by kernel_rfl))
 t3:=Tryz.underlying3
 a3:=Tryz.isAgg3
 z3:=Tryz.sizeOf3
 v3:=Tryz.zeroValue3
 t4:=Tryz.underlying4
 a4:=Tryz.isAgg4
 z4:=Tryz.sizeOf4
 v4:=Tryz.zeroValue4
 t5:=Tryz.underlying5
 a5:=Tryz.isAgg5
 z5:=Tryz.sizeOf5
 v5:=Tryz.zeroValue5
 t9:=Tryz.underlying9
 a9:=Tryz.isAgg9
 z9:=Tryz.sizeOf9
 v9:=Tryz.zeroValue9
 t46:=Tryz.underlying174
 a46:=Tryz.isAgg174
 z46:=Tryz.sizeOf174
 v46:=Tryz.zeroValue174
 t51:=Tryz.underlying211
 a51:=Tryz.isAgg211
 z51:=Tryz.sizeOf211
 v51:=Tryz.zeroValue211
 t146:=Tryz.underlying260
 a146:=Tryz.isAgg260
 z146:=Tryz.sizeOf260
 v146:=Tryz.zeroValue260 }
def Tryz.layCut_ren:Go.Shelf.Ren:=⟨fun | 103=>201 | 210=>230 | 206=>254 | n=>n,fun | 9=>9 | 4=>4 | 24=>216 | 3=>3 | n=>n,fun | n=>n⟩
theorem Tryz.layCut:Go.Proofs.Lays.n103 Tryz.prog Tryz.layCut_ren:={
 mixed:=by kernel_rfl
 f103:=Tryz.func201.trans (congrArg some (by kernel_rfl))
 f206:=Tryz.func254.trans (congrArg some (by kernel_rfl))
 f210:=Tryz.func230.trans (congrArg some (by kernel_rfl))
 t3:=Tryz.underlying3
 a3:=Tryz.isAgg3
 z3:=Tryz.sizeOf3
 v3:=Tryz.zeroValue3
 t4:=Tryz.underlying4
 a4:=Tryz.isAgg4
 z4:=Tryz.sizeOf4
 v4:=Tryz.zeroValue4
 t9:=Tryz.underlying9
 a9:=Tryz.isAgg9
 z9:=Tryz.sizeOf9
 v9:=Tryz.zeroValue9
 t24:=Tryz.underlying216
 a24:=Tryz.isAgg216
 z24:=Tryz.sizeOf216
 v24:=Tryz.zeroValue216 }
def Tryz.layCont_ren:Go.Shelf.Ren:=⟨fun | 144=>232 | 143=>229 | 219=>253 | 217=>272 | 225=>273 | 224=>274 | 267=>275 | 266=>290 | 314=>291 | n=>n,fun | 9=>9 | 4=>4 | 3=>3 | 5=>5 | 46=>174 | 146=>260 | 51=>211 | n=>n,fun | 1=>0 | n=>n⟩
theorem Tryz.layCont:Go.Proofs.Lays.n144 Tryz.prog Tryz.layCont_ren:={
 mixed:=by kernel_rfl
 f143:=Tryz.func229.trans (congrArg some (by kernel_rfl))
 f144:=Tryz.func232.trans (congrArg some (by kernel_rfl))
 f217:=Tryz.func272.trans (congrArg some (by kernel_rfl))
 f219:=Tryz.func253.trans (congrArg some (by kernel_rfl))
 f224:=Tryz.func274.trans (congrArg some (by kernel_rfl))
 f225:=Tryz.func273.trans (congrArg some (by kernel_rfl))
 f266:=Tryz.func290.trans (congrArg some (by kernel_rfl))
 f267:=Tryz.func275.trans (congrArg some (by kernel_rfl))
 f314:=Tryz.func291.trans (congrArg some (by kernel_rfl))
 t3:=Tryz.underlying3
 a3:=Tryz.isAgg3
 z3:=Tryz.sizeOf3
 v3:=Tryz.zeroValue3
 t4:=Tryz.underlying4
 a4:=Tryz.isAgg4
 z4:=Tryz.sizeOf4
 v4:=Tryz.zeroValue4
 t5:=Tryz.underlying5
 a5:=Tryz.isAgg5
 z5:=Tryz.sizeOf5
 v5:=Tryz.zeroValue5
 t9:=Tryz.underlying9
 a9:=Tryz.isAgg9
 z9:=Tryz.sizeOf9
 v9:=Tryz.zeroValue9
 t46:=Tryz.underlying174
 a46:=Tryz.isAgg174
 z46:=Tryz.sizeOf174
 v46:=Tryz.zeroValue174
 t51:=Tryz.underlying211
 a51:=Tryz.isAgg211
 z51:=Tryz.sizeOf211
 v51:=Tryz.zeroValue211
 t146:=Tryz.underlying260
 a146:=Tryz.isAgg260
 z146:=Tryz.sizeOf260
 v146:=Tryz.zeroValue260
 g1:=by kernel_rfl }
end Go.Proofs
namespace Go.Eng
open Go.Proofs
abbrev YT:ByteArray:=⟨#[47]⟩
abbrev Bz(s:ByteArray):List ByteArray:=Go.Lib.splitB YT 0 (Go.Lib.countB s YT) s
theorem OY(s:ByteArray):(Bz s).map (·.data.toList)=Fo 47 s.data.toList:=dw s 47
abbrev JF(s:ByteArray):List AV:=[vs s]
theorem pM(s:ByteArray)(hs:HW s):PC 157 [vs s,vs YT] (sl JF (Bz s)):=by
 unfold HW at hs;have h:=db (P:=Tryz.prog) (f:=157) (args:=[vs s,vs YT]) [.string s,.string YT] ((Bz s).map Value.string) 9 (dJ 157 Tryz.func157 (by kernel_rfl) rfl) rfl (fun x hx=>by
  obtain⟨y,_,rfl⟩:=Ak.1 hx;rfl) (fun w hm=>by
  obtain⟨m,hm⟩:=hm;have hl:(Bz s).length=Go.Lib.countB s YT+1:=Go.Lib.splitB_all YT (by decide) 0 _ s rfl;refine(Any.strings_Split Tryz.laySplit (by kernel_rfl) s YT m w (by omega) hm (by decide)).mono ?_
  rintro e w' ⟨rfl,rfl⟩
  exact⟨by rw[Lm,hl],rfl⟩)
 rw[BB]at h;exact h
theorem tX(s p:ByteArray)(hs:HW s):PC 111 [vs s,vs p] (vi (Go.Lib.lastIndex s.data.toList p.data.toList)):=by
 unfold HW at hs;exact K8 [.string s,.string p] (.int .i64 (Go.Lib.lastIndex s.data.toList p.data.toList)) (dJ 111 Tryz.func111 (by kernel_rfl) rfl) rfl (fun g w=>.v _ _) fun w _=>Any.strings_LastIndex Tryz.layLast s p (by omega) w
theorem ud(s p:ByteArray):PC 201 [vs s,vs p] (.tup [vs ⟨(Go.Lib.trimPrefix s.data.toList p.data.toList).toArray⟩,vb (Go.Lib.hasPrefix s.data.toList p.data.toList)]):=by
 exact K8 [.string s,.string p] _ (dJ 201 Tryz.func201 (by kernel_rfl) rfl) rfl (fun g w=>io [.string ⟨(Go.Lib.trimPrefix s.data.toList p.data.toList).toArray⟩,.bool (Go.Lib.hasPrefix s.data.toList p.data.toList)]) fun w _=>Any.strings_CutPrefix Tryz.layCut s p w
theorem uj(s p:ByteArray)(hs:HW s):PC 232 [vs s,vs p] (vb (Go.Lib.contains s.data.toList p.data.toList)):=by
 unfold HW at hs;exact K8 [.string s,.string p] (.bool (Go.Lib.contains s.data.toList p.data.toList)) (dJ 232 Tryz.func232 (by kernel_rfl) rfl) rfl (fun g w=>.v _ _) fun w hm=>by
  obtain⟨m,hm⟩:=hm;exact Any.strings_Contains Tryz.layCont s p m w (by omega) hm
theorem aV:∀x y:List UInt8,di x y=x.isPrefixOf y
 | [],_=>by simp[di]
 |_::_,[]=>rfl
 |a::x,b::y=>by
  rw[di,List.isPrefixOf_cons_cons,aV x y]
  rfl
theorem gl(x:List UInt8):∀y:List UInt8,s5 x y=Go.Lib.contains y x
 | []=>by
  unfold Go.Lib.contains Go.Lib.index;cases x<;>rfl
 |b::y=>by
  rw[s5,aV,gl x y];unfold Go.Lib.contains;have hg:=Go.Lib.index_ge y x
  conv=>rhs;unfold Go.Lib.index
  cases h:x.isPrefixOf (b::y)with
  |true=>simp
  |false =>
   simp only[LG,Dd,Gk]
   by_cases h0:Go.Lib.index y x=-1
   ·rw[h0];rfl
   ·have h1:(Go.Lib.index y x == -1)=false:=by simpa using h0
    rw[h1];simp only[Dd,Gk];rw[Ax (by omega),Ax (by omega)]
theorem SK:∀(l:List UInt8) (h:0<l.length),l.headD 0=l[0]
 | [],h=>by simp at h
 |_::_,_=>rfl
abbrev mc:ByteArray:=⟨⟨gx⟩⟩
theorem uf(s:ByteArray)(hs:HW s):PC 203 [vs s] (vb (Zk s.data.toList)):=by
 unfold HW at hs;have hc:=uj mc ((⟨#[32]⟩++s)++⟨#[32]⟩) (HX (by kernel_rfl));have e:Go.Lib.contains mc.data.toList ((⟨#[32]⟩++s:ByteArray)++⟨#[32]⟩).data.toList=Zk s.data.toList:=by
  unfold Zk;rw[gl]
  congr 1
 rw[e]at hc;refine Ps Gn Tryz.func203 rfl (Nz rfl) ?_;refine Yi (by show(((1+s.size:Nat)):Int)≤_;omega) ?_;refine Yi (by show(((⟨#[32]⟩++s:ByteArray).size+1:Nat):Int)≤_;rw[ByteArray.size_append];show(((1+s.size)+1:Nat):Int)≤_;omega) ?_;refine Xi .pure (Xi _ (Yi (hc) ?_));exact .refl _
theorem ua(s:ByteArray)(hs:HW s):PC 159 [vs s] (vb (If s.data.toList)):=by
 have hk:=uf s hs;have hw:=mX s 202 Ml ue (by unfold HW at hs;simp;omega);have Ew:s.size=s.data.toList.length:=by simp
 have en:If s.data.toList=(!s.data.toList.isEmpty&&decide (s.data.toList.length≤32)&&G2 (s.data.toList.headD 0)&&s.data.toList.all Ml&&!Zk s.data.toList):=rfl
 by_cases h0:s=⟨#[]⟩
 ·subst h0;refine Ps Gn Tryz.func159 rfl (Nz rfl) ?_;refine Yi ?_ ?_
  ·intro h;exact absurd rfl (show(⟨#[]⟩:ByteArray)≠⟨#[]⟩from h)
  ·intro _;exact .refl _
 have xE : s.data.toList≠[]:=fun e=>h0 (by
  have:s.data=#[]:=by rw[←IA];exact e
  cases s;simp_all)
 have Cq:0<s.data.toList.length:=MV.2 xE;have Uf:s.data.toList.isEmpty=false:=by
  cases hl:s.data.toList with
  |nil=>exact absurd hl xE
  |cons a l=>rfl
 have x8:s.data.toList.headD 0=s.data.toList[0]:=SK _ Cq;have jh:=mY s.data.toList[0];refine Ps Gn Tryz.func159 rfl (Nz rfl) ?_;refine Yi ?_ ?_
 rotate_left
 ·intro h;exact absurd h0 h
 intro _;refine Yi ?_ ?_
 rotate_left
 ·intro h;have h:¬((s.size:Nat):Int)≤32:=h;exact .of_eq (Ac vb (show false=If s.data.toList by rw[en,Az (by omega:¬s.data.toList.length≤32)];simp))
 intro h;have h:((s.size:Nat):Int)≤32:=h;refine Xi s.data.toList[0] (Yi ⟨BM _,ZX s 0 Cq⟩ ?_);refine Dp (Bt (G2 s.data.toList[0])) (fun e1=>?_) (fun e1=>?_)
 rotate_left
 ·rw[e1]at jh;refine Xi .pure (Xi _ (Yi (jh) ?_));exact .of_eq (Ac vb (show false=If s.data.toList by rw[en,x8,e1];simp))
 rw[e1]at jh;refine Xi .pure (Xi _ (Yi (jh) ?_));refine Dp (Bt (s.data.toList.all Ml)) (fun e2=>?_) (fun e2=>?_)
 rotate_left
 ·rw[e2]at hw;refine Xi .pure (Xi _ (Yi (hw) ?_));exact .of_eq (Ac vb (show false=If s.data.toList by rw[en,e2];simp))
 rw[e2]at hw;refine Xi .pure (Xi _ (Yi (hw) ?_));have ef:If s.data.toList=!Zk s.data.toList:=by rw[en,Uf,x8,e1,e2,Ax (by omega:s.data.toList.length≤32)];rfl
 refine Dp (Bt (Zk s.data.toList)) (fun e3=>?_) (fun e3=>?_)
 ·rw[e3]at hk;refine Xi .pure (Xi _ (Yi (hk) ?_));exact .of_eq (Ac vb (show false=If s.data.toList by rw[ef,e3];rfl))
 ·rw[e3]at hk;refine Xi .pure (Xi _ (Yi (hk) ?_));exact .of_eq (Ac vb (show true=If s.data.toList by rw[ef,e3];rfl))
abbrev WJ:Option Int→AV
 |some n=>.tup [vi n,vb true]
 |none=>.tup [vi 0,vb false]
theorem bq{z:Int}(h0:0≤z)(h1:z<256):IntKind.u8.wrap z=z:=by
 show z % 256=z;omega
theorem UP{c:UInt8}(h:EV c=true):48≤c.toNat∧c.toNat≤57:=by
 unfold EV at h;simp only[Af,As]at h;exact⟨Ll.1 h.1,Ll.1 h.2⟩
theorem Vf(r:List UInt8)(i:Nat)(h:i<r.length):Gx (r.take (i+1))=10*Gx (r.take i)+((r[i].toNat:Int)-48):=by
 unfold Gx;rw[Bq,Ge h,Fr];rfl
theorem t8(s:ByteArray)(hs:HW s):PC 158 [vs s] (WJ (LF s.data.toList)):=by
 unfold HW at hs;have hc:=ud s ⟨#[118]⟩
 by_cases hp:∃r,s.data.toList=118::r
 ·obtain⟨r,hr⟩:=hp;have e1:Go.Lib.hasPrefix s.data.toList (⟨#[118]⟩:ByteArray).data.toList=true:=by rw[hr];rfl
  have e2:Go.Lib.trimPrefix s.data.toList (⟨#[118]⟩:ByteArray).data.toList=r:=by unfold Go.Lib.trimPrefix;rw[e1,Ao rfl,hr];rfl
  rw[e1,e2]at hc;have hv:LF s.data.toList=if(r.isEmpty||decide (3<r.length)||(decide (1<r.length)&&decide (r.headD 0=48))||!r.all EV)=true then none else some (Gx r):=by rw[hr];rfl
  have hrl:r.length<s.size:=by
   have:s.size=s.data.toList.length:=by simp
   rw[this,hr];simp
  generalize hB:(⟨r.toArray⟩:ByteArray)=rB at hc;have jY:rB.data.toList=r:=by rw[←hB]
  have qg:rB.size=r.length:=by rw[←hB];rfl
  have hw:=mX rB 163 EV mZ (by rw[jY];omega);rw[jY]at hw;have no:∀{b:Bool},b=true→(if b=true then none else some (Gx r))=(none:Option Int):=fun h=>Ao h;refine Ps (Jv [2,4]) Tryz.func158 rfl (Nz rfl) ?_;refine Xi .pure (Xi _ (Yi (hc) ?_));refine Xi ⟨[(0,vs rB),(4,vb true)],[],Ab⟩ (Yi ⟨Z2,Tv,Fh,Tv⟩ ?_)
  refine Yi ?_ ?_
  ·intro h;have h:rB=⟨#[]⟩:=h
   have:r=[]:=by rw[←jY,h]
   exact .of_eq (Ac WJ (show(none:Option Int)=LF s.data.toList by rw[hv,this];rfl))
  intro h;have h:¬rB=⟨#[]⟩:=h;have Dt:r≠[]:=fun e=>h (by rw[←hB,e]);have Cq:0<r.length:=MV.2 Dt;have Uf:r.isEmpty=false:=by
   cases hl:r with
   |nil=>exact absurd hl Dt
   |cons a l=>rfl
  refine Yi ?_ ?_
  ·intro h2;have h2:(3:Int)<((rB.size:Nat):Int):=h2;exact .of_eq (Ac WJ (show(none:Option Int)=LF s.data.toList by rw[hv,no];rw[Ax (by omega:3<r.length)];simp))
  intro h2;have h2:¬(3:Int)<((rB.size:Nat):Int):=h2;have sP:r.length≤3:=by omega
  have d3:decide (3<r.length)=false:=Az (by omega);refine Yi ?_ ?_
  ·intro h3;have h3:(1:Int)<((rB.size:Nat):Int):=h3;have uK:rB.data[(0:Int).toNat]?=some r[0]:=by
    show rB.data[0]?=_;rw[←A0,jY];exact Ge Cq
   refine Xi r[0] (Yi ⟨BM _,uK⟩ ?_);have hh:=SK r Cq;refine Yi ?_ ?_
   ·intro h4;have h4:(r[0].toNat:Int)=48:=h4
    have:r[0]=48:=UInt8.toNat_inj.1 (by show r[0].toNat=48;omega)
    exact .of_eq (Ac WJ (show(none:Option Int)=LF s.data.toList by rw[hv,hh,this,Ax (by omega:1<r.length)];simp))
   intro h4;have h4:¬(r[0].toNat:Int)=48:=h4;have eo:(decide (1<r.length)&&decide (r.headD 0=48))=false:=by rw[hh,Az (show ¬r[0]=48 from fun e=>h4 (by rw[e];rfl)),D8]
   have nU:LF s.data.toList=if(!r.all EV)=true then none else some (Gx r):=by rw[hv,Uf,d3,eo];rfl
   refine Dp (Bt (r.all EV)) (fun e3=>?_) (fun e3=>?_)
   rotate_left
   ·rw[e3]at hw;refine Xi .pure (Xi _ (Yi (hw) ?_));exact .of_eq (Ac WJ (show(none:Option Int)=LF s.data.toList by rw[nU,e3];rfl))
   rw[e3]at hw;refine Xi .pure (Xi _ (Yi (hw) ?_));have vQ:LF s.data.toList=some (Gx r):=by rw[nU,e3];rfl
   refine Xi ⟨[(0,vs rB)],[],Ab⟩ (Yi ⟨Z1,Tv,Fh,Tv⟩ ?_)
   have z0:Gx (r.take 0)=0:=rfl;refine Xi {i:Nat // i≤r.length∧0≤Gx (r.take i)∧(i=0→Gx (r.take i)≤0)∧(i≤1→Gx (r.take i)≤9)∧(i≤2→Gx (r.take i)≤99)∧Gx (r.take i)≤999} (Xi (fun i=>⟨[(0,vs rB),(5,vi (Gx (r.take i.1))),(39,vi rB.size),(40,vi i.1)],[],Ab⟩) (Xi (fun i=>r.length-i.1) (Yi (Xi ⟨0,AJ _,by omega,fun _=>by omega,fun _=>by omega,fun _=>by omega,by omega⟩ ?_) ?_)))
   ·exact⟨Z4,Tv,Fh,Tv⟩
   intro⟨i,i1,i2,i3,i4,i5,i6⟩;refine Yi ?_ ?_
   ·intro h;have h:(i:Int)<(rB.size:Nat):=h;have h:i<r.length:=by omega
    have uW:EV r[i]=true:=Bp.1 e3 _ (AC h);have pd:=UP uW;have vt:=Vf r i h;have nV:IntKind.u8.wrap ((r[i].toNat:Int)-48)=(r[i].toNat:Int)-48:=bq (by omega) (by omega);have lM:rB.data[((i:Nat):Int).toNat]?=some r[i]:=by rw[Ch,←A0,jY];exact Ge h
    refine Yi (by show BR (10*Gx (r.take i));unfold BR;omega) ?_;refine Xi r[i] (Yi ⟨by show(0:Int)≤i;omega,lM⟩ ?_);refine Yi (by show BR (IntKind.u8.wrap ((r[i].toNat:Int)-48));rw[nV];unfold BR;omega) ?_;refine Yi (by show BR (10*Gx (r.take i)+IntKind.u8.wrap ((r[i].toNat:Int)-48));rw[nV];unfold BR;omega) ?_;refine Yi (Ii i (by omega)) ?_;have e5:vi (10*Gx (r.take i)+IntKind.u8.wrap ((r[i].toNat:Int)-48))=vi (Gx (r.take (i+1))):=by rw[nV,vt]
    refine Xi ⟨i+1,by omega,by omega,fun _=>by omega,fun _=>by omega,fun _=>by omega,by omega⟩ ?_;exact⟨Dl r.length i (by omega),⟨Zr,⟨e5,rfl⟩,Zr,Zr,Tv⟩,Tv,Fh,Tv⟩
   ·intro h;have h:¬(i:Int)<(rB.size:Nat):=h;have e6:AV.tup [vi (Gx (r.take i)),vb true]=WJ (LF s.data.toList):=by rw[vQ,AE (by omega)]
    exact .of_eq e6
  ·intro h3;have h3:¬(1:Int)<((rB.size:Nat):Int):=h3;have eo:(decide (1<r.length)&&decide (r.headD 0=48))=false:=by rw[Az (by omega:¬1<r.length)];rfl
   have nU:LF s.data.toList=if(!r.all EV)=true then none else some (Gx r):=by rw[hv,Uf,d3,eo];rfl
   refine Dp (Bt (r.all EV)) (fun e3=>?_) (fun e3=>?_)
   rotate_left
   ·rw[e3]at hw;refine Xi .pure (Xi _ (Yi (hw) ?_));exact .of_eq (Ac WJ (show(none:Option Int)=LF s.data.toList by rw[nU,e3];rfl))
   rw[e3]at hw;refine Xi .pure (Xi _ (Yi (hw) ?_));have vQ:LF s.data.toList=some (Gx r):=by rw[nU,e3];rfl
   refine Xi ⟨[(0,vs rB)],[],Ab⟩ (Yi ⟨Z1,Tv,Fh,Tv⟩ ?_)
   have z0:Gx (r.take 0)=0:=rfl;refine Xi {i:Nat // i≤r.length∧0≤Gx (r.take i)∧(i=0→Gx (r.take i)≤0)∧(i≤1→Gx (r.take i)≤9)∧(i≤2→Gx (r.take i)≤99)∧Gx (r.take i)≤999} (Xi (fun i=>⟨[(0,vs rB),(5,vi (Gx (r.take i.1))),(39,vi rB.size),(40,vi i.1)],[],Ab⟩) (Xi (fun i=>r.length-i.1) (Yi (Xi ⟨0,AJ _,by omega,fun _=>by omega,fun _=>by omega,fun _=>by omega,by omega⟩ ?_) ?_)))
   ·exact⟨Z4,Tv,Fh,Tv⟩
   intro⟨i,i1,i2,i3,i4,i5,i6⟩;refine Yi ?_ ?_
   ·intro h;have h:(i:Int)<(rB.size:Nat):=h;have h:i<r.length:=by omega
    have uW:EV r[i]=true:=Bp.1 e3 _ (AC h);have pd:=UP uW;have vt:=Vf r i h;have nV:IntKind.u8.wrap ((r[i].toNat:Int)-48)=(r[i].toNat:Int)-48:=bq (by omega) (by omega);have lM:rB.data[((i:Nat):Int).toNat]?=some r[i]:=by rw[Ch,←A0,jY];exact Ge h
    refine Yi (by show BR (10*Gx (r.take i));unfold BR;omega) ?_;refine Xi r[i] (Yi ⟨by show(0:Int)≤i;omega,lM⟩ ?_);refine Yi (by show BR (IntKind.u8.wrap ((r[i].toNat:Int)-48));rw[nV];unfold BR;omega) ?_;refine Yi (by show BR (10*Gx (r.take i)+IntKind.u8.wrap ((r[i].toNat:Int)-48));rw[nV];unfold BR;omega) ?_;refine Yi (Ii i (by omega)) ?_;have e5:vi (10*Gx (r.take i)+IntKind.u8.wrap ((r[i].toNat:Int)-48))=vi (Gx (r.take (i+1))):=by rw[nV,vt]
    refine Xi ⟨i+1,by omega,by omega,fun _=>by omega,fun _=>by omega,fun _=>by omega,by omega⟩ ?_;exact⟨Dl r.length i (by omega),⟨Zr,⟨e5,rfl⟩,Zr,Zr,Tv⟩,Tv,Fh,Tv⟩
   ·intro h;have h:¬(i:Int)<(rB.size:Nat):=h;have e6:AV.tup [vi (Gx (r.take i)),vb true]=WJ (LF s.data.toList):=by rw[vQ,AE (by omega)]
    exact .of_eq e6
 ·have e1:Go.Lib.hasPrefix s.data.toList (⟨#[118]⟩:ByteArray).data.toList=false:=by
   cases hl:s.data.toList with
   |nil=>rfl
   |cons a l =>
    have:a≠118:=fun e=>hp ⟨l,by rw[hl,e]⟩
    show(List.isPrefixOf [118] (a::l))=false;rw[List.isPrefixOf_cons_cons]
    have:((118:UInt8) == a)=false:=by rw[beq_eq_false_iff_ne];exact fun e=>this e.symm
    rw[this];rfl
  have hv:LF s.data.toList=none:=by
   cases hl:s.data.toList with
   |nil=>rfl
   |cons a l =>
    have:a≠118:=fun e=>hp ⟨l,by rw[hl,e]⟩
    show(if a=118 then _ else none)=none;rw[Ah this]
  rw[e1]at hc;refine Ps Gn Tryz.func158 rfl (Nz rfl) ?_;refine Xi .pure (Xi _ (Yi (hc) ?_));exact .of_eq (Ac WJ hv.symm)
abbrev Zn:Option Int→AV
 |some n=>.tup [vi n,vi 0]
 |none=>.tup [vi 0,vi 4]
theorem TS(c:UInt8):∀(s x:List UInt8),x∈Fo c s→x.length≤s.length
 | [],x,h=>by
  rw[Fo]at h;rw[Am.1 h];exact Al _
 |b::r,x,h=>by
  have ih:=TS c r;rw[Fo]at h;split at h
  ·rcases Au.1 h with rfl | h
   ·exact AJ _
   ·have:=ih x h;rw[Av];omega
  ·split at h
   ·rw[Am.1 h];rw[Av];simp
   ·rename_i y l e;rcases Au.1 h with rfl | h
    ·have:=ih y (by rw[e];exact Aa ..);rw[Av,Av];omega
    ·have:=ih x (by rw[e];exact Ag _ h);rw[Av];omega
theorem gZ{p x:ByteArray}(hp:HW p)(hx:x∈Bz p):HW x:=by
 have h:x.data.toList∈Fo 47 p.data.toList:=by rw[←OY];exact Ak.2 ⟨x,hx,rfl⟩
 have:=TS 47 _ _ h
 unfold HW at *
 have e1:x.size=x.data.toList.length:=by simp
 have e2:p.size=p.data.toList.length:=by simp
 omega
theorem c9(p:ByteArray):(Bz p).length=(Fo 47 p.data.toList).length:=by rw[←OY,Lm]
theorem da(p:ByteArray):0<(Bz p).length:=by
 rw[show(Bz p).length=Go.Lib.countB p YT+1 from Go.Lib.splitB_all YT (by decide) 0 _ p rfl];omega
theorem c8(p:ByteArray):(Bz p).length≤p.size+1:=by
 rw[show(Bz p).length=Go.Lib.countB p YT+1 from Go.Lib.splitB_all YT (by decide) 0 _ p rfl]
 have:=Go.Lib.countB_le YT (by decide) p.size p (Al _);omega
theorem Zy(p:ByteArray)(h:(Bz p).length-1<(Bz p).length):(Fo 47 p.data.toList).getLastD []=((Bz p)[(Bz p).length-1]).data.toList:=by
 rw[←OY,List.getLastD_eq_getLast?,List.getLast?_eq_getElem?,Lm,AG,Ge h];rfl
theorem cZ(p:ByteArray):(Fo 47 p.data.toList).all Mf=(Bz p).all fun x=>Mf x.data.toList:=by
 rw[←OY,List.all_map];rfl
theorem pJ(p:ByteArray)(hp:HW p):PC 109 [vs p] (Zn (CE p)):=by
 have vE:=c8 p;have Zg:=da p;have vB:(Bz p).length-1<(Bz p).length:=by omega
 have Ew:p.size=p.data.toList.length:=by simp
 have x5:∀{x},x∈Bz p→HW x:=fun h=>gZ hp h;unfold HW at hp;have Ug:((Bz p).map JF)[((((Bz p).map JF).length:Int)-1).toNat]?=some (JF (Bz p)[(Bz p).length-1]):=by
  rw[Lm,show(((Bz p).length:Int)-1).toNat=(Bz p).length-1 by omega];exact Dg (Ge vB)
 have hv:=t8 (Bz p)[(Bz p).length-1] (x5 (AC vB));have em:CE p=match LF ((Bz p)[(Bz p).length-1]).data.toList with
  |none=>none
  |some n=>if(decide (64<p.data.toList.length)||decide ((Bz p).length<2))=true then none else if((Bz p).all fun x=>Mf x.data.toList)=true then some n else none:=by
  unfold CE Zo;rw[Zy p vB,cZ,←c9];cases LF ((Bz p)[(Bz p).length-1]).data.toList with
  |none=>rfl
  |some n=>rfl
 cases hve:LF ((Bz p)[(Bz p).length-1]).data.toList with
 |none =>
  rw[hve]at hv em;refine Ps (Jv [2,3]) Tryz.func109 rfl (Nz rfl) ?_;refine Xi .pure (Xi _ (Yi (pM p hp) ?_));refine Xi ⟨[(0,vs p),(4,sl JF (Bz p))],[],Ab⟩ (Yi ⟨Z2,Tv,Fh,Tv⟩ ?_)
  refine Yi (by show BR ((((Bz p).map JF).length:Int)-1);unfold BR;rw[Lm];omega) ?_;refine Xi (JF (Bz p)[(Bz p).length-1]) (Yi (Yi (by show(0:Int)≤(((Bz p).map JF).length:Int)-1;rw[Lm];omega) Ug) (Yi rfl ?_));refine Xi .pure (Xi _ (Yi (hv) ?_));refine Xi ⟨[(0,vs p),(4,sl JF (Bz p)),(5,vi 0),(6,vb false)],[],Ab⟩ (Yi ⟨Z4,Tv,Fh,Tv⟩ ?_)
  exact .of_eq (Ac Zn em.symm)
 |some n =>
  rw[hve]at hv em;have em:CE p=if(decide (64<p.data.toList.length)||decide ((Bz p).length<2))=true then none else if((Bz p).all fun x=>Mf x.data.toList)=true then some n else none:=em
  refine Ps (Jv [2,3,5]) Tryz.func109 rfl (Nz rfl) ?_;refine Xi .pure (Xi _ (Yi (pM p hp) ?_));refine Xi ⟨[(0,vs p),(4,sl JF (Bz p))],[],Ab⟩ (Yi ⟨Z2,Tv,Fh,Tv⟩ ?_)
  refine Yi (by show BR ((((Bz p).map JF).length:Int)-1);unfold BR;rw[Lm];omega) ?_;refine Xi (JF (Bz p)[(Bz p).length-1]) (Yi (Yi (by show(0:Int)≤(((Bz p).map JF).length:Int)-1;rw[Lm];omega) Ug) (Yi rfl ?_));refine Xi .pure (Xi _ (Yi (hv) ?_));refine Xi ⟨[(0,vs p),(4,sl JF (Bz p)),(5,vi n),(6,vb true)],[],Ab⟩ (Yi ⟨Z4,Tv,Fh,Tv⟩ ?_)
  refine Yi ?_ ?_
  ·intro h;have h:(64:Int)<((p.size:Nat):Int):=h;exact .of_eq (Ac Zn (show(none:Option Int)=CE p by rw[em,Ax (by omega:64<p.data.toList.length)];rfl))
  intro h;have h:¬(64:Int)<((p.size:Nat):Int):=h;have d1:decide (64<p.data.toList.length)=false:=Az (by omega);refine Yi ?_ ?_
  ·intro h2;have h2:(((Bz p).map JF).length:Int)<2:=h2;rw[Lm]at h2;exact .of_eq (Ac Zn (show(none:Option Int)=CE p by rw[em,d1,Ax (by omega:(Bz p).length<2)];rfl))
  intro h2;have h2:¬(((Bz p).map JF).length:Int)<2:=h2;have d2:decide ((Bz p).length<2)=false:=Az (by rw[Lm]at h2;omega);have xC:CE p=if((Bz p).all fun x=>Mf x.data.toList)=true then some n else none:=by rw[em,d1,d2];rfl
  refine Xi ⟨[(4,sl JF (Bz p)),(5,vi n)],[],Ab⟩ (Yi ⟨Z2,Tv,Fh,Tv⟩ ?_)
  refine Xi {i:Nat // i≤(Bz p).length∧∀j (hj:j<(Bz p).length),j<i→Mf ((Bz p)[j]).data.toList=true} (Xi (fun i=>⟨[(5,vi n),(33,sl JF (Bz p)),(34,vi ((Bz p).map JF).length),(35,vi i.1)],[],Ab⟩) (Xi (fun i=>(Bz p).length-i.1) (Yi (Xi ⟨0,AJ _,fun j _ h=>by omega⟩ ?_) ?_)))
  ·exact⟨Z4,Tv,Fh,Tv⟩
  intro⟨i,i1,i2⟩;refine Yi ?_ ?_
  ·intro h;have h:(i:Int)<((Bz p).map JF).length:=h;have h:i<(Bz p).length:=by simpa using h
   have hg:(Bz p)[i]?=some (Bz p)[i]:=Ge h;refine Xi (JF (Bz p)[i]) (Yi (Yi (Nn i) (by simp[hg])) (Yi rfl ?_));have xY:=x5 (AC h);have hn:=ua (Bz p)[i] xY;have ha:=mX (Bz p)[i] 161 ZN ub (by unfold HW at xY;have e1:(Bz p)[i].size=(Bz p)[i].data.toList.length:=(by simp);omega);have no:Mf ((Bz p)[i]).data.toList=false→(none:Option Int)=CE p:=fun e=>by
    rw[xC,Ah];intro GP
    have:=Bp.1 GP _ (AC h)
    rw[e]at this;cases this
   refine Dp (Bt (If ((Bz p)[i]).data.toList)) (fun e1=>?_) (fun e1=>?_)
   rotate_left
   ·rw[e1]at hn;refine Xi .pure (Xi _ (Yi (hn) ?_));exact .of_eq (Ac Zn (no (by unfold Mf;rw[e1];rfl)))
   rw[e1]at hn;refine Xi .pure (Xi _ (Yi (hn) ?_));refine Dp (Bt (((Bz p)[i]).data.toList.all ZN)) (fun e2=>?_) (fun e2=>?_)
   rotate_left
   ·rw[e2]at ha;refine Xi .pure (Xi _ (Yi (ha) ?_));exact .of_eq (Ac Zn (no (by unfold Mf;rw[e1];exact e2)))
   rw[e2]at ha;refine Xi .pure (Xi _ (Yi (ha) ?_));refine Yi (Ii i (by omega)) ?_;refine Xi ⟨i+1,by omega,fun j hj LZ=>?_⟩ ?_
   ·rcases ED j i with z | z
    ·exact i2 j hj z
    ·have:j=i:=by omega
     subst this;unfold Mf;rw[e1];exact e2
   ·exact⟨by show(Bz p).length-(i+1)<(Bz p).length-i;omega,Z4,Tv,Fh,Tv⟩
  ·intro h;have h:¬(i:Int)<((Bz p).map JF).length:=h;have h:¬i<(Bz p).length:=by simpa using h
   have e:some n=CE p:=by
    rw[xC,Ao];exact Bp.2 fun x hx=>by
     obtain⟨j,hj,rfl⟩:=FC hx;exact i2 j hj (by omega)
   exact .of_eq (Ac Zn e)
theorem tW(p:ByteArray)(hp:HW p):PC 110 [vs p] (vb (CE p).isSome):=by
 have hc:=pJ p hp;cases h:CE p with
 |none =>
  rw[h]at hc;refine Ps Gn Tryz.func110 rfl (Nz rfl) ?_;refine Xi .pure (Xi _ (Yi (hc) ?_));refine Yi ?_ ?_
  ·intro h;exact absurd (show(4:Int)=0 from h) (by decide)
  ·intro _;exact .refl _
 |some n =>
  rw[h]at hc;refine Ps Gn Tryz.func110 rfl (Nz rfl) ?_;refine Xi .pure (Xi _ (Yi (hc) ?_));refine Yi ?_ ?_
  ·intro _;exact .refl _
  ·intro h;exact absurd rfl h
theorem TT(c:UInt8):∀s:List UInt8,2≤(Fo c s).length→c∈s
 | [],h=>by rw[Fo]at h;simp at h
 |b::r,h=>by
  rw[Fo]at h
  by_cases e:b=c
  ·exact e▸Aa ..
  ·rw[Ah e]at h;refine Ag _ (TT c r ?_);cases hs:Fo c r with
   |nil=>rw[hs]at h;simp at h
   |cons x l=>rw[hs]at h;simpa using h
theorem gy{p:ByteArray}{m:Int}(h:CE p=some m):0≤Go.Lib.lastIndex p.data.toList [47]∧Go.Lib.lastIndex p.data.toList [47]≤p.size:=by
 have h2:2≤(Fo 47 p.data.toList).length:=by
  unfold CE Zo at h;split at h
  ·cases h
  ·split at h
   ·cases h
   ·rename_i hn;simp only[Cm,As]at hn;omega
 have hm:=TT 47 _ h2;obtain⟨i,hi,e⟩:=FC hm;have Ew:p.size=p.data.toList.length:=by simp
 unfold Go.Lib.lastIndex;rw[Ao (by simp only[A8];omega)];have vv:Go.Lib.occAt p.data.toList [47] i=true:=by
  unfold Go.Lib.occAt;rw[Bk hi,e];simp
 rcases Go.Lib.lastOcc_spec p.data.toList [47] (p.data.toList.length - [(47:UInt8)].length+1)with ⟨_,h3⟩ | ⟨j,h3,h4,_⟩
 ·have:=h3 i (by simp only[A8];omega)
  rw[vv]at this;cases this
 ·rw[h4];simp only[A8]at h3;omega
abbrev oc(p:ByteArray):ByteArray:=p.extract 0 (Go.Lib.lastIndex p.data.toList [47]).toNat
theorem Ua:T3 oc:=by
 intro p hp;have hc:=pJ p hp;have hi:=tW p hp;unfold aC;cases h:CE p with
 |none =>
  rw[h]at hc hi;refine Ps Gn Tryz.func81 rfl (Nz rfl) ?_;refine Xi .pure (Xi _ (Yi (hc) ?_));refine Xi .pure (Xi _ (Yi (hi) ?_));exact .refl _
 |some n =>
  rw[h]at hc hi;obtain⟨l1,l2⟩:=gy h;have hl:PC 111 [vs p,vs YT] (vi (Go.Lib.lastIndex p.data.toList [47])):=tX p YT hp;refine Ps Gn Tryz.func81 rfl (Nz rfl) ?_;refine Xi .pure (Xi _ (Yi (hc) ?_));refine Xi .pure (Xi _ (Yi (hi) ?_));refine Yi ?_ ?_
  ·intro h;exact absurd rfl h
  intro _;refine Xi .pure (Xi _ (Yi (hl) ?_));refine Yi ⟨BM _,l1,l2⟩ ?_;exact .refl _
theorem Pb{l:List Rq}(h:BK l=0):l.length≤16:=by
 unfold BK at h;split at h
 ·cases h
 ·omega
theorem NG{x:List Rl}(h:AQ x=0):x.length≤256∧∀r∈x,r.reqs.length≤16:=by
 have h1:x.length≤256:=by
  unfold AQ at h;split at h
  ·cases h
  ·omega
 exact⟨h1,fun r hr=>Pb ((Co h).1 r hr).reqs⟩
theorem ff{x:List Rl}(h:∀r∈x,r.reqs.length≤16):((x.map (·.reqs)).flatten).length≤x.length*16:=by
 induction x with
 |nil=>simp
 |cons r x ih =>
  rw[AL,Bv,Ad,Av]
  have:=h r (Aa ..)
  have:=ih fun s hs=>h s (Ag _ hs)
  omega
theorem ZB{x:List Rl}{roots:List Rq}{l:List Nf}(h1:AQ x=0)(h2:BK roots=0)(h3:l.length≤65536):(Kb x roots l).length≤100000:=by
 obtain⟨a,b⟩:=NG h1
 have:=ff b
 have:=Pb h2
 unfold Kb;simp only[Ad,Lm];omega
theorem Ut.fewI{U:List ByteArray}{t:List Tm}(h:Ut U t)(hu:U.length≤100000):mA t :=
 ⟨by have:=h.len;omega,fun u hu=>Ot (h.1.canon u hu)⟩
abbrev F5(x:List Rl)(ifs:List (List AV)):AV:=.agg (Ic x ifs)
abbrev T1:EE:=⟨true,[.str,.int .i64,.int .i64,.int .i64]⟩
abbrev QM(y:Sl):Value:=.agg #[.string y.path,.int .i64 y.ver.a,.int .i64 y.ver.b,.int .i64 y.ver.c]
abbrev Ta(r:Rl):Value×AV:=(QM (Fm r),.agg (Aj r))
def AO:List Rl→List ByteArray→List ByteArray
 | [],acc=>acc
 |r::x,acc=>AO x (if acc.any (fun p=>decide (p=r.path))then acc else acc++[r.path])
abbrev jj(x:List Rl)(p:ByteArray):Value×AV:=(.string p,sl Aj (x.filter fun r=>decide (r.path=p)))
abbrev WG(x:List Rl):AV:=if AQ x=0 then .tup [.agg [.cmap T1 (x.map Ta),.cmap CP ((AO x []).map (jj x))],vi 0]else .tup [.agg [.cmap T1 [],.cmap CP []],vi (AQ x)]
abbrev dU(x:List Rl)(ifs:List (List AV)):Prop:=PC 41 [F5 x ifs] (WG x)
theorem um:PC 42 [.agg YD] (.agg YD):=by
 refine Ps Gn Tryz.func42 rfl (Nz rfl) ?_;refine Yi (Nz rfl) ?_;refine Xi Unit (Xi (fun _=>⟨[(1,.ref 1 0),(2,.ref 2 0),(10,vi 0),(11,vi 0)],[(1,.cells YD),(2,.cells YD)],Ab⟩) (Xi (fun _=>0) (Yi (Xi () ?_) ?_)))
 ·exact⟨Z4,Z2,Fh,Tv⟩
 intro _;refine Yi ?_ ?_
 ·intro h;exact absurd (show(0:Int)<0 from h) (by decide)
 ·intro _;refine Yi (Nz rfl) (Yi (Nz rfl) (Yi (Nz rfl) ?_));exact .refl _
theorem ks{y z:Sl}(h:QM y=QM z):y=z:=by
 obtain⟨p,⟨a,b,c⟩⟩:=y;obtain⟨q,⟨d,e,f⟩⟩:=z;simp only[QM,Value.agg.injEq,Array.mk.injEq,Fv,Value.string.injEq,Value.int.injEq,true_and,and_true]at h;obtain⟨rfl,rfl,rfl,rfl⟩:=h
 rfl
theorem aA{x:List Rl}{y:Sl}{a:AV}(h:(QM y,a)∈x.map Ta):∃r∈x,Fm r=y∧a=.agg (Aj r):=by
 obtain⟨r,h1,h2⟩:=Ak.1 h;simp only[Ta,FM]at h2;exact⟨r,h1,ks h2.1,h2.2.symm⟩
theorem fe{x:List Rl}(hx:AQ x=0){r:Rl}(hr:r∈x):Ec x (Fm r)=some r:=by
 unfold Ec;rw[Ah (by omega)];cases h:x.find? (fun s=>decide (Fm s=Fm r))with
 |none =>
  rw[DP]at h;exact absurd (by simp) (h r hr)
 |some s =>
  have h1:=EK h;simp only[As]at h1;have hs:=Ce h;have hp:=(Co hx).2;rcases Ca.1 hr with ⟨i,hi,e1⟩;rcases Ca.1 hs with ⟨j,hj,e2⟩;rcases Nat.lt_trichotomy i j with Pn | Pn | Pn
  ·have:=(AS.1 hp) i j hi hj Pn
   rw[e1,e2]at this;exact(GZ this h1.symm).elim
  ·subst Pn;rw[←e1,←e2]
  ·have:=(AS.1 hp) j i hj hi Pn
   rw[e1,e2]at this;exact(GZ this h1).elim
theorem zi(x:List Rl)(ifs:List (List AV))(p:ByteArray)(v:Ver)(cd:dU x ifs)(hx:∀r∈x,JW r):PC 15 [F5 x ifs,vs p,.agg (GE v)] (Yh (Ec x ⟨p,v⟩)):=by
 have hz:=um
 by_cases h0:AQ x=0
 ·have cd:PC 41 [F5 x ifs] (.tup [.agg [.cmap T1 (x.map Ta),.cmap CP ((AO x []).map (jj x))],vi 0]):=by
   have:=cd;unfold dU WG at this;rw[Ao h0]at this;exact this
  refine Ps (Jv [2,3]) Tryz.func15 rfl (Nz rfl) ?_;refine Yi (Nz rfl) ?_;refine Xi .pure (Xi _ (Yi (cd) ?_));refine Yi (Nz rfl) ?_;refine Xi ⟨[(1,vs p),(5,.ref 5 0),(6,.ref 6 0),(8,.ref 8 0)],[(5,.cells (GE v)),(6,.cells YD),(8,.cells [.cmap T1 (x.map Ta),.cmap CP ((AO x []).map (jj x))])],Ab⟩ (Yi ⟨Z4,Z3,Fh,Tv⟩ ?_)
  refine Yi (Nz rfl) ?_;refine Yi ?_ ?_
  ·intro a ha;refine CF (aA (y:=⟨p,v⟩) ha) (fun r hr=>?_);have e:=hr.2.2;subst e;have hf:Ec x ⟨p,v⟩=some r:=by rw[←hr.2.1];exact fe h0 hr.1
   have hrq:=(NG h0).2 r hr.1;have hc:=ul r (by omega) (fun q hq=>((hx r hr.1).2 q hq).1);refine Yi (Nz rfl) ?_;refine Xi ⟨[(6,.ref 6 0),(10,.ref 10 0),(11,vb true)],[(6,.cells YD),(10,.cells (Aj r))],Ab⟩ (Yi ⟨Z3,Z2,Fh,Tv⟩ ?_)
   refine Yi (Nz rfl) ?_;refine Xi .pure (Xi _ (Yi (hc) ?_));refine Yi (Nz rfl) (Yi (Nz rfl) ?_);exact .of_eq (show AV.tup [.agg (Aj r),vb true]=Yh (Ec x ⟨p,v⟩) by rw[hf])
  ·intro hn;have hf:Ec x ⟨p,v⟩=none:=by
    cases h:Ec x ⟨p,v⟩with
    |none=>rfl
    |some r =>
     obtain⟨_,h2,h3⟩:=Ks h;exact absurd (Ak.2 ⟨r,h2,by rw[show Ta r=(QM (Fm r),AV.agg (Aj r))from rfl,h3]⟩) (hn (.agg (Aj r)))
   refine Yi (Nz rfl) ?_;refine Xi ⟨[(6,.ref 6 0),(10,.ref 10 0),(11,vb false)],[(6,.cells YD),(10,.cells YD)],Ab⟩ (Yi ⟨Z3,Z2,Fh,Tv⟩ ?_)
   refine Yi (Nz rfl) ?_;refine Xi .pure (Xi _ (Yi (hz) ?_));refine Yi (Nz rfl) (Yi (Nz rfl) ?_);exact .of_eq (show AV.tup [.agg YD,vb false]=Yh (Ec x ⟨p,v⟩) by rw[hf])
 ·have cd:PC 41 [F5 x ifs] (.tup [.agg [.cmap T1 [],.cmap CP []],vi (AQ x)]):=by
   have:=cd;unfold dU WG at this;rw[Ah h0]at this;exact this
  have hf:Ec x ⟨p,v⟩=none:=by unfold Ec;rw[Ao h0]
  refine Ps (Jv [2,3]) Tryz.func15 rfl (Nz rfl) ?_;refine Yi (Nz rfl) ?_;refine Xi .pure (Xi _ (Yi (cd) ?_));refine Yi (Nz rfl) ?_;refine Xi ⟨[(1,vs p),(5,.ref 5 0),(6,.ref 6 0),(8,.ref 8 0)],[(5,.cells (GE v)),(6,.cells YD),(8,.cells [.cmap T1 [],.cmap CP []])],Ab⟩ (Yi ⟨Z4,Z3,Fh,Tv⟩ ?_)
  refine Yi (Nz rfl) ?_;refine Yi ?_ ?_
  ·intro a ha;cases ha
  ·intro _;refine Yi (Nz rfl) ?_;refine Xi ⟨[(6,.ref 6 0),(10,.ref 10 0),(11,vb false)],[(6,.cells YD),(10,.cells YD)],Ab⟩ (Yi ⟨Z3,Z2,Fh,Tv⟩ ?_)
   refine Yi (Nz rfl) ?_;refine Xi .pure (Xi _ (Yi (hz) ?_));refine Yi (Nz rfl) (Yi (Nz rfl) ?_);exact .of_eq (show AV.tup [.agg YD,vb false]=Yh (Ec x ⟨p,v⟩) by rw[hf])
abbrev DL(l:List Rl):Bh:=(l.filter fun r=>!r.yanked).map fun r=>(plc r.ver,plc r.ver+1)
theorem ZR(l:List Rl):(DL l).length≤l.length:=by
 unfold DL;rw[Lm];exact BA _ _
theorem kz{x:List Rl}{ps:List ByteArray}{p:ByteArray}{a:AV}(h:(Value.string p,a)∈ps.map (jj x)):a=sl Aj (x.filter fun r=>decide (r.path=p)):=by
 obtain⟨q,_,h2⟩:=Ak.1 h;simp only[jj,FM,Value.string.injEq]at h2;rw[←h2.2,h2.1]
theorem N8{acc:List ByteArray}{p:ByteArray}:(acc.any fun q=>decide (q=p))=true↔p∈acc:=by
 rw[Bb];constructor
 ·rintro⟨q,h1,h2⟩;rw[←A2 h2];exact h1
 ·intro h;exact⟨p,h,by simp⟩
theorem Hh:∀(x:List Rl) (acc:List ByteArray) (p:ByteArray),p∈AO x acc↔p∈acc∨∃r∈x,r.path=p
 | [],acc,p=>by simp[AO]
 |r::x,acc,p=>by
  rw[AO,Hh x];constructor
  ·rintro(h | ⟨s,h1,h2⟩)
   ·split at h
    ·exact .inl h
    ·rcases AU.1 h with h | h
     ·exact .inl h
     ·exact .inr ⟨r,Aa ..,(Am.1 h).symm⟩
   ·exact .inr ⟨s,Ag _ h1,h2⟩
  ·rintro(h | ⟨s,h1,h2⟩)
   ·left
    split
    ·exact h
    ·exact Bm _ h
   ·rcases Au.1 h1 with rfl | h1
    ·left
     split
     ·rename_i hh;rw[←h2];exact N8.1 hh
     ·rw[←h2];exact Bd _ (Am.2 rfl)
    ·exact .inr ⟨s,h1,h2⟩
abbrev mh:RO:=⟨[],[(7,2)],[],[],[],[],[],[],[],[],[2,3,6,7,9]⟩
theorem UG(L:List Rl)(i:Nat)(h:i<L.length):DL (L.take (i+1))=DL (L.take i)++(if L[i].yanked then []else [(plc L[i].ver,plc L[i].ver+1)]):=by
 unfold DL;rw[Bq,Ge h,De,Ay]
 congr 1
 cases hy:L[i].yanked<;>simp[hy]
theorem t6(x:List Rl)(ifs:List (List AV))(p:ByteArray)(cd:dU x ifs):PC 86 [F5 x ifs,vs p] (sl Aq (BZ x p)):=by
 by_cases h0:AQ x=0
 ·have cd:PC 41 [F5 x ifs] (.tup [.agg [.cmap T1 (x.map Ta),.cmap CP ((AO x []).map (jj x))],vi 0]):=by
   have:=cd;unfold dU WG at this;rw[Ao h0]at this;exact this
  have l8:=(NG h0).1;obtain⟨L,sG⟩:∃L,L=x.filter fun r=>decide (r.path=p):=⟨_,rfl⟩;have hL:J9 x p=L:=by unfold J9;rw[Ah (by omega),sG]
  have xL:L.length≤256:=by have:=BA (fun r:Rl=>decide (r.path=p)) x;rw[sG];omega
  refine Ps mh Tryz.func86 rfl (Nz rfl) ?_;refine Yi (Nz rfl) ?_;refine Xi .pure (Xi _ (Yi (cd) ?_));refine Yi (Nz rfl) ?_;refine Xi ⟨[(1,vs p),(5,.ref 5 0)],[(5,.cells [.cmap T1 (x.map Ta),.cmap CP ((AO x []).map (jj x))])],Ab⟩ (Yi ⟨Z2,Z1,Fh,Tv⟩ ?_)
  refine Xi ⟨[(1,vs p),(5,.ref 5 0),(7,.slice (.id 7 2) [])],[(5,.cells [.cmap T1 (x.map Ta),.cmap CP ((AO x []).map (jj x))]),(7,.tok 2 0)],Ab⟩ (Yi ⟨Z3,Z2,Fh,Tv⟩ ?_)
  refine Yi ?_ ?_
  ·intro a ha;have ea:a=sl Aj L:=by rw[sG];exact kz ha
   subst ea;refine Xi {i:Nat // i≤L.length} (Xi (fun i=>⟨[(7,.slice (.id 7 2) ((DL (L.take i.1)).map Aq)),(18,sl Aj L),(19,vi (L.map Aj).length),(20,vi i.1)],[(7,.tok 2 ((DL (L.take i.1)).map Aq).length)],Ab⟩) (Xi (fun i=>L.length-i.1) (Yi (Xi ⟨0,AJ _⟩ ?_) ?_)))
   ·exact⟨Z4,Z1,Fh,Tv⟩
   intro⟨i,i1⟩;have WQ:=ZR (L.take i);rw[AB]at WQ;refine Yi ?_ ?_
   ·intro h;have h:(i:Int)<(L.map Aj).length:=h;have h:i<L.length:=by simpa using h
    have hg:L[i]?=some L[i]:=Ge h;refine Xi (Aj L[i]) (Yi (Yi (Nn i) (by simp[hg])) (Yi rfl ?_));refine Yi (Nz rfl) (Yi (Nz rfl) ?_);refine Xi ⟨[(7,.slice (.id 7 2) ((DL (L.take i)).map Aq)),(9,.ref 9 0),(18,sl Aj L),(19,vi (L.map Aj).length),(20,vi i)],[(7,.tok 2 ((DL (L.take i)).map Aq).length),(9,.cells (Aj L[i]))],Ab⟩ (Yi ⟨Z5,Z2,Fh,Tv⟩ ?_)
    refine Yi ?_ ?_
    ·intro hy;have hy:L[i].yanked=true:=hy;refine Yi (Ii i (by omega)) ?_;have es:DL (L.take (i+1))=DL (L.take i):=by rw[UG L i h,hy];simp
     have e1:AV.slice (.id 7 2) ((DL (L.take i)).map Aq)=.slice (.id 7 2) ((DL (L.take (i+1))).map Aq):=by rw[es]
     have e2:HO.tok 2 ((DL (L.take i)).map Aq).length=.tok 2 ((DL (L.take (i+1))).map Aq).length:=by rw[es]
     refine Xi ⟨i+1,by omega⟩ ?_;exact⟨Dl L.length i (by omega),⟨⟨e1,rfl⟩,Zr,Zr,Zr,Tv⟩,⟨⟨e2,rfl⟩,Tv⟩,Fh,Tv⟩
    ·intro hy;have hy:L[i].yanked=false:=hy;have vD:=kY L[i].ver;refine Xi ⟨[(7,.slice (.id 7 2) ((DL (L.take i)).map Aq)),(9,.ref 9 0),(18,sl Aj L),(19,vi (L.map Aj).length),(20,vi i)],[(7,.tok 2 ((DL (L.take i)).map Aq).length),(9,.cells (Aj L[i]))],Ab⟩ (Yi ⟨Z5,Z2,Fh,Tv⟩ ?_)
     refine Yi (Nz rfl) ?_;refine Xi _ (Yi (xy L[i]) ?_);refine Yi (Nz rfl) ?_;refine Xi _ (Yi (xy L[i]) ?_);refine Yi (by show BR (plc L[i].ver+1);unfold BR;omega) ?_;have Hl:Df 2 [[vi (plc L[i].ver),vi (plc L[i].ver+1)]]∧((DL (L.take i)).map Aq).length=((DL (L.take i)).map Aq).length∧(((DL (L.take i)).map Aq).length+[[vi (plc L[i].ver),vi (plc L[i].ver+1)]].length)*16≤140737488355328∧((DL (L.take i)).map Aq).length+[[vi (plc L[i].ver),vi (plc L[i].ver+1)]].length≤9223372036854775807 :=
      ⟨⟨rfl,trivial⟩,rfl,by rw[Lm,A8];omega,by rw[Lm,A8];omega⟩
     refine Yi Hl ?_;refine Yi (by kernel_rfl) ?_;refine Yi (Ii i (by omega)) ?_;have es:DL (L.take (i+1))=DL (L.take i)++[(plc L[i].ver,plc L[i].ver+1)]:=by rw[UG L i h,hy];simp
     have e1:AV.slice (.id 7 2) ((DL (L.take i)).map Aq++[[vi (plc L[i].ver),vi (plc L[i].ver+1)]])=.slice (.id 7 2) ((DL (L.take (i+1))).map Aq):=by rw[es,Ay];rfl
     have e2:HO.tok 2 (((DL (L.take i)).map Aq).length+[[vi (plc L[i].ver),vi (plc L[i].ver+1)]].length)=.tok 2 ((DL (L.take (i+1))).map Aq).length:=by rw[es,Ay,Ad];rfl
     refine Xi ⟨i+1,by omega⟩ ?_;exact⟨Dl L.length i (by omega),⟨⟨e1,rfl⟩,Zr,Zr,Zr,Tv⟩,⟨⟨e2,rfl⟩,Tv⟩,Fh,Tv⟩
   ·intro h;have h:¬(i:Int)<(L.map Aj).length:=h;have h:¬i<L.length:=by simpa using h
    have et:L.take i=L:=AE (by omega);refine Xi ⟨[(7,.slice (.id 7 2) ((DL (L.take i)).map Aq))],[(7,.tok 2 ((DL (L.take i)).map Aq).length)],Ab⟩ (Yi ⟨Z1,Z1,Fh,Tv⟩ ?_)
    have hc:PC 116 [sl Aq (DL (L.take i))] (sl Aq (canon (DL (L.take i)))):=W5 _ (by unfold CM;omega);refine Xi .pure (Xi _ (Yi (hc) ?_));exact .of_eq (show sl Aq (canon (DL (L.take i)))=sl Aq (BZ x p) by rw[et];unfold BZ;rw[hL])
  ·intro hn;have hL:J9 x p=[]:=by
    rw[hL,sG,Hj];intro r hr he;have he:=A2 he;exact hn _ (Ak.2 ⟨p,(Hh x [] p).2 (.inr ⟨r,hr,he⟩),rfl⟩)
   refine Xi Unit (Xi (fun _=>⟨[(7,.slice (.id 7 2) []),(19,vi 0),(20,vi 0)],[(7,.tok 2 0)],Ab⟩) (Xi (fun _=>0) (Yi (Xi () ?_) ?_)))
   ·exact⟨Z3,Z1,Fh,Tv⟩
   intro _;refine Yi ?_ ?_
   ·intro h;exact absurd (show(0:Int)<0 from h) (by decide)
   intro _;refine Xi ⟨[(7,.slice (.id 7 2) [])],[(7,.tok 2 0)],Ab⟩ (Yi ⟨Z1,Z1,Fh,Tv⟩ ?_)
   have hc:PC 116 [sl Aq []] (sl Aq (canon [])):=W5 [] (by unfold CM;simp);refine Xi .pure (Xi _ (Yi (hc) ?_));exact .of_eq (show sl Aq (canon [])=sl Aq (BZ x p) by unfold BZ;rw[hL];rfl)
 ·have cd:PC 41 [F5 x ifs] (.tup [.agg [.cmap T1 [],.cmap CP []],vi (AQ x)]):=by
   have:=cd;unfold dU WG at this;rw[Ah h0]at this;exact this
  have hL:J9 x p=[]:=by unfold J9;rw[Ao h0]
  refine Ps mh Tryz.func86 rfl (Nz rfl) ?_;refine Yi (Nz rfl) ?_;refine Xi .pure (Xi _ (Yi (cd) ?_));refine Yi (Nz rfl) ?_;refine Xi ⟨[(1,vs p),(5,.ref 5 0)],[(5,.cells [.cmap T1 [],.cmap CP []])],Ab⟩ (Yi ⟨Z2,Z1,Fh,Tv⟩ ?_)
  refine Xi ⟨[(1,vs p),(5,.ref 5 0),(7,.slice (.id 7 2) [])],[(5,.cells [.cmap T1 [],.cmap CP []]),(7,.tok 2 0)],Ab⟩ (Yi ⟨Z3,Z2,Fh,Tv⟩ ?_)
  refine Yi ?_ ?_
  ·intro a ha;cases ha
  ·intro _;refine Xi Unit (Xi (fun _=>⟨[(7,.slice (.id 7 2) []),(19,vi 0),(20,vi 0)],[(7,.tok 2 0)],Ab⟩) (Xi (fun _=>0) (Yi (Xi () ?_) ?_)))
   ·exact⟨Z3,Z1,Fh,Tv⟩
   intro _;refine Yi ?_ ?_
   ·intro h;exact absurd (show(0:Int)<0 from h) (by decide)
   intro _;refine Xi ⟨[(7,.slice (.id 7 2) [])],[(7,.tok 2 0)],Ab⟩ (Yi ⟨Z1,Z1,Fh,Tv⟩ ?_)
   have hc:PC 116 [sl Aq []] (sl Aq (canon [])):=W5 [] (by unfold CM;simp);refine Xi .pure (Xi _ (Yi (hc) ?_));exact .of_eq (show sl Aq (canon [])=sl Aq (BZ x p) by unfold BZ;rw[hL];rfl)
theorem RV(x:List Rl)(p:ByteArray):CM (BZ x p):=by
 unfold BZ CM
 have:=H4 (Cb (((J9 x p).filter fun r=>!r.yanked).map fun r=>(plc r.ver,plc r.ver+1)));omega
end Go.Eng
