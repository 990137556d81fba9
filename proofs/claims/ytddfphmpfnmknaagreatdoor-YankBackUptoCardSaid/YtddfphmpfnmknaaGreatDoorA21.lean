/- Lemmas for the claims of this seat, without a condition: part 21 (C38, C39, LayStr, C40, C41, C42, C43, C44, C45, C46, C47, C48, C49, C50, C51, C52, C53, C54, C55). -/
import Derived.Test.YtddfphmpfnmknaaGreatDoorA20
import Derived.Shelf.Strings.SplitShaped
import Derived.Shelf.Strings.LastIndexAll
import Derived.Shelf.Strings.Search3
import Derived.Shelf.Small.Wraps
import Derived.Ground.NamesProg
import Derived.Lib.LastIndexLaws
namespace Go.Eng
open Go.Proofs
abbrev oo(r:Rl)(a:AV):List AV:=[vs r.path,vi r.ver.a,vi r.ver.b,vi r.ver.c,a,vs r.arch,vs r.ifc,vs r.cert,vb r.yanked]
abbrev uZ:Ro:=⟨[],[],[],[],[],[],[],[(9,(1,4,900,2))],[],[],[6,7]⟩
theorem tc(r:Rl)(hr:r.reqs.length≤1000)(hs:∀q∈r.reqs,CJ q.set):PC 42 [.agg (Ag r)] (.agg (Ag r)):=by
 refine Ps uZ Tryz.func42 rfl (Nz rfl) ?_;refine Yi (Nz rfl) ?_;refine Xi {i:Nat // i≤r.reqs.length} (Xi (fun i=>⟨[(1,.ref 1 0),(2,.ref 2 0),(9,sl AI r.reqs),(10,vi (r.reqs.map AI).length),(11,vi i.1)],[(1,.cells (oo r (.slice (.id 900 2) ((r.reqs.take i.1).map AI)))),(2,.cells XV),(900,.tok 2 ((r.reqs.take i.1).map AI).length)],Aa⟩) (Xi (fun i=>r.reqs.length-i.1) (Yi (Xi ⟨0,AL _⟩ ?_) ?_)))
 ·exact⟨Z5,Z3,Fh,Tv⟩
 intro⟨i,h1⟩;refine Yi ?_ ?_
 ·intro h;have h:(i:Int)<(r.reqs.map AI).length:=h;have h:i<r.reqs.length:=by simpa using h
  have hg:r.reqs[i]?=some r.reqs[i]:=Ge h;refine Xi (AI r.reqs[i]) (Yi (Yi (Nn i) (by simp[hg])) (Yi rfl ?_));have hq:=hs r.reqs[i] (Ax h);refine Yi (Nz rfl) (Yi (Nz rfl) ?_);refine Xi ⟨[(1,.ref 1 0),(2,.ref 2 0),(5,.ref 5 0),(9,sl AI r.reqs),(10,vi (r.reqs.map AI).length),(11,vi i)],[(1,.cells (oo r (.slice (.id 900 2) ((r.reqs.take i).map AI)))),(2,.cells XV),(5,.cells (AI r.reqs[i])),(900,.tok 2 ((r.reqs.take i).map AI).length)],Aa⟩ (Yi ⟨Z6,Z4,Fh,Tv⟩ ?_)
  refine Xi .pure (Xi _ (Yi (sD r.reqs[i].set hq) ?_));refine Yi (Nz rfl) ?_;refine Xi ⟨[(1,.ref 1 0),(2,.ref 2 0),(5,.ref 5 0),(9,sl AI r.reqs),(10,vi (r.reqs.map AI).length),(11,vi i)],[(1,.cells (oo r (.slice (.id 900 2) ((r.reqs.take i).map AI)))),(2,.cells XV),(5,.cells (AI r.reqs[i])),(900,.tok 2 ((r.reqs.take i).map AI).length)],Aa⟩ (Yi ⟨Z6,Z4,Fh,Tv⟩ ?_)
  refine Yi (Nz rfl) ?_;have G9:Df 2 [AI r.reqs[i]]∧((r.reqs.take i).map AI).length=((r.reqs.take i).map AI).length∧(((r.reqs.take i).map AI).length+[AI r.reqs[i]].length)*40≤140737488355328∧((r.reqs.take i).map AI).length+[AI r.reqs[i]].length≤9223372036854775807 :=
   ⟨⟨rfl,trivial⟩,rfl,by rw[Lm,AE,A5];omega,by rw[Lm,AE,A5];omega⟩
  refine Yi G9 ?_;refine Yi (Nz rfl) ?_;refine Yi (Ii i (by omega)) ?_;refine Xi ⟨i+1,by omega⟩ ?_;have et:(r.reqs.take (i+1)).map AI=(r.reqs.take i).map AI++[AI r.reqs[i]]:=by rw[Bi,hg,Az];rfl
  have e1:HO.cells (oo r (.slice (.id 900 2) ((r.reqs.take i).map AI++[AI r.reqs[i]])))=.cells (oo r (.slice (.id 900 2) ((r.reqs.take (i+1)).map AI))):=by rw[et]
  have e2:HO.tok 2 (((r.reqs.take i).map AI).length+[AI r.reqs[i]].length)=.tok 2 ((r.reqs.take (i+1)).map AI).length:=by rw[et,Ad]
  exact⟨Dl r.reqs.length i (by omega),Z5,⟨⟨e1,rfl⟩,Zr,⟨e2,rfl⟩,Tv⟩,Fh,Tv⟩
 ·intro h;have h:¬(i:Int)<(r.reqs.map AI).length:=h;have h:¬i<r.reqs.length:=by simpa using h
  refine Yi (Nz rfl) (Yi (Nz rfl) (Yi (Nz rfl) ?_));have e:AV.agg (oo r (.slice .none ((r.reqs.take i).map AI)))=.agg (Ag r):=by rw[AD (by omega)]
  exact .of_eq e
abbrev vc(c:UInt8):AV:=.v (.int .u8 c.toNat)
theorem gS(a:UInt8)(n:Nat)(h:n<256):decide (UInt8.ofNat n≤a)=decide ((n:Int)≤(a.toNat:Int)):=by
 rw[BN,Au,Au,K7,show(UInt8.ofNat n).toNat=n by simp;omega];omega
theorem gR(a:UInt8)(n:Nat)(h:n<256):decide (a≤UInt8.ofNat n)=decide ((a.toNat:Int)≤(n:Int)):=by
 rw[BN,Au,Au,K7,show(UInt8.ofNat n).toNat=n by simp;omega];omega
theorem lW(c:UInt8):PC 162 [vc c] (vb (GS c)):=by
 refine Ps F1 Tryz.func162 rfl (Nz rfl) ?_;have e1:decide ((97:UInt8)≤c)=decide ((97:Int)≤(c.toNat:Int)):=gS c 97 (by decide);have e2:decide (c≤(122:UInt8))=decide ((c.toNat:Int)≤(122:Int)):=gR c 122 (by decide);have es:GS c=(decide ((97:Int)≤(c.toNat:Int))&&decide ((c.toNat:Int)≤(122:Int))):=by unfold GS;rw[e1,e2]
 refine Yi ?_ ?_
 ·intro h;have h:(97:Int)≤(c.toNat:Int):=h;refine Yi ?_ ?_
  ·intro h2;have h2:(c.toNat:Int)≤122:=h2;exact .of_eq (Ac vb (show true=GS c by rw[es,AA h,AA h2];rfl))
  ·intro h2;have h2:¬(c.toNat:Int)≤122:=h2;exact .of_eq (Ac vb (show false=GS c by rw[es,At h2,D6]))
 ·intro h;have h:¬(97:Int)≤(c.toNat:Int):=h;exact .of_eq (Ac vb (show false=GS c by rw[es,At h];rfl))
theorem lX(c:UInt8):PC 163 [vc c] (vb (EO c)):=by
 refine Ps F1 Tryz.func163 rfl (Nz rfl) ?_;have e1:decide ((48:UInt8)≤c)=decide ((48:Int)≤(c.toNat:Int)):=gS c 48 (by decide);have e2:decide (c≤(57:UInt8))=decide ((c.toNat:Int)≤(57:Int)):=gR c 57 (by decide);have es:EO c=(decide ((48:Int)≤(c.toNat:Int))&&decide ((c.toNat:Int)≤(57:Int))):=by unfold EO;rw[e1,e2]
 refine Yi ?_ ?_
 ·intro h;have h:(48:Int)≤(c.toNat:Int):=h;refine Yi ?_ ?_
  ·intro h2;have h2:(c.toNat:Int)≤57:=h2;exact .of_eq (Ac vb (show true=EO c by rw[es,AA h,AA h2];rfl))
  ·intro h2;have h2:¬(c.toNat:Int)≤57:=h2;exact .of_eq (Ac vb (show false=EO c by rw[es,At h2,D6]))
 ·intro h;have h:¬(48:Int)≤(c.toNat:Int):=h;exact .of_eq (Ac vb (show false=EO c by rw[es,At h];rfl))
theorem s9(c:UInt8):PC 231 [vc c] (vb (Vj c)):=by
 refine Ps F1 Tryz.func231 rfl (Nz rfl) ?_;have e1:decide ((65:UInt8)≤c)=decide ((65:Int)≤(c.toNat:Int)):=gS c 65 (by decide);have e2:decide (c≤(90:UInt8))=decide ((c.toNat:Int)≤(90:Int)):=gR c 90 (by decide);have es:Vj c=(decide ((65:Int)≤(c.toNat:Int))&&decide ((c.toNat:Int)≤(90:Int))):=by unfold Vj;rw[e1,e2]
 refine Yi ?_ ?_
 ·intro h;have h:(65:Int)≤(c.toNat:Int):=h;refine Yi ?_ ?_
  ·intro h2;have h2:(c.toNat:Int)≤90:=h2;exact .of_eq (Ac vb (show true=Vj c by rw[es,AA h,AA h2];rfl))
  ·intro h2;have h2:¬(c.toNat:Int)≤90:=h2;exact .of_eq (Ac vb (show false=Vj c by rw[es,At h2,D6]))
 ·intro h;have h:¬(65:Int)≤(c.toNat:Int):=h;exact .of_eq (Ac vb (show false=Vj c by rw[es,At h];rfl))
abbrev Y2(c:UInt8):Bool:=GS c||EO c
theorem sW(c:UInt8):PC 161 [vc c] (vb (Y2 c)):=by
 have h1:=lW c;have h2:=lX c;rcases Bt (GS c)with e | e
 ·rw[e]at h1;refine Ps F1 Tryz.func161 rfl (Nz rfl) ?_;refine Xi .pure (Xi _ (Yi (h1) ?_));exact .of_eq (Ac vb (show true=Y2 c by unfold Y2;rw[e];rfl))
 ·rw[e]at h1;refine Ps F1 Tryz.func161 rfl (Nz rfl) ?_;refine Xi .pure (Xi _ (Yi (h1) ?_));refine Xi .pure (Xi _ (Yi (h2) ?_));exact .of_eq (Ac vb (show EO c=Y2 c by unfold Y2;rw[e];rfl))
theorem sZ(c:UInt8):PC 202 [vc c] (vb (Ma c)):=by
 have h1:=lW c;have h2:=s9 c;have h3:=lX c;have ew:Ma c=(GS c||Vj c||EO c||decide (c=95)):=rfl;rcases Bt (GS c)with e | e
 ·rw[e]at h1;refine Ps F1 Tryz.func202 rfl (Nz rfl) ?_;refine Xi .pure (Xi _ (Yi (h1) ?_));exact .of_eq (Ac vb (show true=Ma c by rw[ew,e];rfl))
 rw[e]at h1;rcases Bt (Vj c)with e2 | e2
 ·rw[e2]at h2;refine Ps F1 Tryz.func202 rfl (Nz rfl) ?_;refine Xi .pure (Xi _ (Yi (h1) ?_));refine Xi .pure (Xi _ (Yi (h2) ?_));exact .of_eq (Ac vb (show true=Ma c by rw[ew,e,e2];rfl))
 rw[e2]at h2;rcases Bt (EO c)with e3 | e3
 ·rw[e3]at h3;refine Ps F1 Tryz.func202 rfl (Nz rfl) ?_;refine Xi .pure (Xi _ (Yi (h1) ?_));refine Xi .pure (Xi _ (Yi (h2) ?_));refine Xi .pure (Xi _ (Yi (h3) ?_));exact .of_eq (Ac vb (show true=Ma c by rw[ew,e,e2,e3];rfl))
 rw[e3]at h3;refine Ps F1 Tryz.func202 rfl (Nz rfl) ?_;refine Xi .pure (Xi _ (Yi (h1) ?_));refine Xi .pure (Xi _ (Yi (h2) ?_));refine Xi .pure (Xi _ (Yi (h3) ?_));have eb:decide (c=95)=decide ((c.toNat:Int)=95):=by
  rw[BN,Au,Au];constructor
  ·intro h;subst h;rfl
  ·intro h;exact UInt8.toNat_inj.1 (by show c.toNat=95;omega)
 refine Yi ?_ ?_
 ·intro h;have h:(c.toNat:Int)=95:=h;exact .of_eq (Ac vb (show true=Ma c by rw[ew,e,e2,e3,eb,AA h];rfl))
 ·intro h;have h:¬(c.toNat:Int)=95:=h;exact .of_eq (Ac vb (show false=Ma c by rw[ew,e,e2,e3,eb,At h];rfl))
theorem Zb(s:ByteArray)(i:Nat)(h:i<s.data.toList.length):s.data[i]?=some s.data.toList[i]:=by
 rw[←A1];exact Ge h
theorem lV(s:ByteArray)(f:Nat)(q:UInt8→Bool)(hf:∀c,PC f [vc c] (vb (q c)))(hs:s.data.toList.length<4611686018427387904):PC 160 [vs s,.v (TH f)] (vb (s.data.toList.all q)):=by
 have Eu:s.size=s.data.toList.length:=by simp
 refine Ps F1 Tryz.func160 rfl (Nz rfl) ?_;refine Xi {i:Nat // i≤s.data.toList.length∧∀j (hj:j<s.data.toList.length),j<i→q s.data.toList[j]=true} (Xi (fun i=>⟨[(0,vs s),(1,.v (TH f)),(7,vi s.size),(8,vi i.1)],[],Aa⟩) (Xi (fun i=>s.data.toList.length-i.1) (Yi (Xi ⟨0,AL _,fun j _ h=>by omega⟩ ?_) ?_)))
 ·exact⟨Z4,Tv,Fh,Tv⟩
 intro⟨i,h1,h2⟩;refine Yi ?_ ?_
 ·intro h;have h:(i:Int)<(s.size:Nat):=h;have h:i<s.data.toList.length:=by omega
  refine Xi s.data.toList[i] (Yi ⟨by show(0:Int)≤i;omega,by show s.data[((i:Nat):Int).toNat]?=_;rw[Cg];exact Zb s i h⟩ ?_);have hc:=hf s.data.toList[i];refine CQ (Bt (q s.data.toList[i])) (fun e=>?_) (fun e=>?_)
  ·rw[e]at hc;refine Xi .pure (Xi _ (Yi (hc) ?_));refine Yi (Ii i (by omega)) ?_;refine Xi ⟨i+1,by omega,fun j hj MF=>?_⟩ ?_
   ·rcases EA j i with z | z
    ·exact h2 j hj z
    ·have:j=i:=by omega
     subst this;exact e
   ·exact⟨Dl s.data.toList.length i (by omega),Z4,Tv,Fh,Tv⟩
  ·rw[e]at hc;refine Xi .pure (Xi _ (Yi (hc) ?_));have er:s.data.toList.all q=false:=by
    rw[AM];intro ha
    have:=Bp.1 ha _ (Ax h)
    rw[e]at this;cases this
   exact .of_eq (Ac vb er.symm)
 ·intro h;have h:¬(i:Int)<(s.size:Nat):=h;have er:s.data.toList.all q=true:=Bp.2 fun c hc=>by
   obtain⟨j,hj,rfl⟩:=Fu hc;exact h2 j hj (by omega)
  exact .of_eq (Ac vb er.symm)
end Go.Eng
namespace Go.Proofs
open Go.Shelf
def Tryz.laySplit_ren:Go.Shelf.Ren:=⟨fun | 146=>157 | 221=>200 | 268=>227 | 138=>228 | 143=>229 | 195=>250 | 197=>251 | 218=>252 | 219=>253 | 260=>271 | 217=>272 | 225=>273 | 224=>274 | 267=>275 | 266=>290 | 314=>291 | n=>n,fun | 9=>9 | 31=>139 | 3=>3 | 4=>4 | 0=>0 | 105=>291 | 21=>21 | 5=>5 | 46=>174 | 119=>313 | 139=>316 | 138=>315 | 146=>260 | 51=>211 | n=>n,fun | 1=>0 | 3=>1 | 4=>2 | n=>n⟩
theorem Tryz.laySplit:Go.Proofs.Lays.n146 Tryz.prog Tryz.laySplit_ren:={
 mixed:=by kernel_rfl
 f138:=Tryz.func228.trans (congrArg some (by kernel_rfl))
 f143:=Tryz.func229.trans (congrArg some (by kernel_rfl))
 f146:=Tryz.func157.trans (congrArg some (by kernel_rfl))
 f195:=Tryz.func250.trans (congrArg some (by kernel_rfl))
 f197:=Tryz.func251.trans (congrArg some (by kernel_rfl))
 f217:=Tryz.func272.trans (congrArg some (by kernel_rfl))
 f218:=Tryz.func252.trans (congrArg some (by kernel_rfl))
 f219:=Tryz.func253.trans (congrArg some (by kernel_rfl))
 f221:=Tryz.func200.trans (congrArg some (by kernel_rfl))
 f224:=Tryz.func274.trans (congrArg some (by kernel_rfl))
 f225:=Tryz.func273.trans (congrArg some (by kernel_rfl))
 f260:=Tryz.func271.trans (congrArg some (by kernel_rfl))
 f266:=Tryz.func290.trans (congrArg some (by kernel_rfl))
 f267:=Tryz.func275.trans (congrArg some (by kernel_rfl))
 f268:=Tryz.func227.trans (congrArg some (by kernel_rfl))
 f314:=Tryz.func291.trans (congrArg some (by kernel_rfl))
 t0:=Tryz.underlying0
 a0:=Tryz.isAgg0
 z0:=Tryz.sizeOf0
 v0:=Tryz.zeroValue0
 t3:=Tryz.underlying3
 a3:=Tryz.isAgg3
 z3:=Tryz.sizeOf3
 v3:=Tryz.zeroValue3
 t4:=Tryz.underlying4
 a4:=Tryz.isAgg4
 z4:=Tryz.sizeOf4
 v4:=Tryz.zeroValue4
 t5:=Tryz.underlying5
 a5:=Tryz.isAgg5
 z5:=Tryz.sizeOf5
 v5:=Tryz.zeroValue5
 t9:=Tryz.underlying9
 a9:=Tryz.isAgg9
 z9:=Tryz.sizeOf9
 v9:=Tryz.zeroValue9
 t21:=Tryz.underlying21
 a21:=Tryz.isAgg21
 z21:=Tryz.sizeOf21
 v21:=Tryz.zeroValue21
 t31:=Tryz.underlying139
 a31:=Tryz.isAgg139
 z31:=Tryz.sizeOf139
 v31:=Tryz.zeroValue139
 t46:=Tryz.underlying174
 a46:=Tryz.isAgg174
 z46:=Tryz.sizeOf174
 v46:=Tryz.zeroValue174
 t51:=Tryz.underlying211
 a51:=Tryz.isAgg211
 z51:=Tryz.sizeOf211
 v51:=Tryz.zeroValue211
 t105:=Tryz.underlying291
 a105:=Tryz.isAgg291
 z105:=Tryz.sizeOf291
 v105:=Tryz.zeroValue291
 t119:=Tryz.underlying313
 a119:=Tryz.isAgg313
 z119:=Tryz.sizeOf313
 t138:=Tryz.underlying315
 a138:=Tryz.isAgg315
 z138:=Tryz.sizeOf315
 v138:=Tryz.zeroValue315
 t139:=Tryz.underlying316
 a139:=Tryz.isAgg316
 z139:=Tryz.sizeOf316
 v139:=Tryz.zeroValue316
 t146:=Tryz.underlying260
 a146:=Tryz.isAgg260
 z146:=Tryz.sizeOf260
 v146:=Tryz.zeroValue260
 g1:=by kernel_rfl
 g3:=by kernel_rfl
 g4:=by kernel_rfl }
def Tryz.layLast_ren:Go.Shelf.Ren:=⟨fun | 148=>111 | 222=>164 | 223=>165 | 269=>204 | n=>n,fun | 9=>9 | 3=>3 | 4=>4 | 5=>5 | 146=>260 | 51=>211 | 46=>174 | n=>n,fun | n=>n⟩
theorem Tryz.layLast:Go.Proofs.Lays.n148 Tryz.prog Tryz.layLast_ren:={
 mixed:=by kernel_rfl
 f148:=Tryz.func111.trans (congrArg some (by kernel_rfl))
 f222:=Tryz.func164.trans (congrArg some (by kernel_rfl))
 f223:=Tryz.func165.trans (congrArg some (by kernel_rfl))
 f269:=Tryz.func204.trans (congrArg some (by kernel_rfl))
 t3:=Tryz.underlying3
 a3:=Tryz.isAgg3
 z3:=Tryz.sizeOf3
 v3:=Tryz.zeroValue3
 t4:=Tryz.underlying4
 a4:=Tryz.isAgg4
 z4:=Tryz.sizeOf4
 v4:=Tryz.zeroValue4
 t5:=Tryz.underlying5
 a5:=Tryz.isAgg5
 z5:=Tryz.sizeOf5
 v5:=Tryz.zeroValue5
 t9:=Tryz.underlying9
 a9:=Tryz.isAgg9
 z9:=Tryz.sizeOf9
 v9:=Tryz.zeroValue9
 t46:=Tryz.underlying174
 a46:=Tryz.isAgg174
 z46:=Tryz.sizeOf174
 v46:=Tryz.zeroValue174
 t51:=Tryz.underlying211
 a51:=Tryz.isAgg211
 z51:=Tryz.sizeOf211
 v51:=Tryz.zeroValue211
 t146:=Tryz.underlying260
 a146:=Tryz.isAgg260
 z146:=Tryz.sizeOf260
 v146:=Tryz.zeroValue260 }
def Tryz.layCut_ren:Go.Shelf.Ren:=⟨fun | 103=>201 | 210=>230 | 206=>254 | n=>n,fun | 9=>9 | 4=>4 | 24=>216 | 3=>3 | n=>n,fun | n=>n⟩
theorem Tryz.layCut:Go.Proofs.Lays.n103 Tryz.prog Tryz.layCut_ren:={
 mixed:=by kernel_rfl
 f103:=Tryz.func201.trans (congrArg some (by kernel_rfl))
 f206:=Tryz.func254.trans (congrArg some (by kernel_rfl))
 f210:=Tryz.func230.trans (congrArg some (by kernel_rfl))
 t3:=Tryz.underlying3
 a3:=Tryz.isAgg3
 z3:=Tryz.sizeOf3
 v3:=Tryz.zeroValue3
 t4:=Tryz.underlying4
 a4:=Tryz.isAgg4
 z4:=Tryz.sizeOf4
 v4:=Tryz.zeroValue4
 t9:=Tryz.underlying9
 a9:=Tryz.isAgg9
 z9:=Tryz.sizeOf9
 v9:=Tryz.zeroValue9
 t24:=Tryz.underlying216
 a24:=Tryz.isAgg216
 z24:=Tryz.sizeOf216
 v24:=Tryz.zeroValue216 }
def Tryz.layCont_ren:Go.Shelf.Ren:=⟨fun | 144=>232 | 143=>229 | 219=>253 | 217=>272 | 225=>273 | 224=>274 | 267=>275 | 266=>290 | 314=>291 | n=>n,fun | 9=>9 | 4=>4 | 3=>3 | 5=>5 | 46=>174 | 146=>260 | 51=>211 | n=>n,fun | 1=>0 | n=>n⟩
theorem Tryz.layCont:Go.Proofs.Lays.n144 Tryz.prog Tryz.layCont_ren:={
 mixed:=by kernel_rfl
 f143:=Tryz.func229.trans (congrArg some (by kernel_rfl))
 f144:=Tryz.func232.trans (congrArg some (by kernel_rfl))
 f217:=Tryz.func272.trans (congrArg some (by kernel_rfl))
 f219:=Tryz.func253.trans (congrArg some (by kernel_rfl))
 f224:=Tryz.func274.trans (congrArg some (by kernel_rfl))
 f225:=Tryz.func273.trans (congrArg some (by kernel_rfl))
 f266:=Tryz.func290.trans (congrArg some (by kernel_rfl))
 f267:=Tryz.func275.trans (congrArg some (by kernel_rfl))
 f314:=Tryz.func291.trans (congrArg some (by kernel_rfl))
 t3:=Tryz.underlying3
 a3:=Tryz.isAgg3
 z3:=Tryz.sizeOf3
 v3:=Tryz.zeroValue3
 t4:=Tryz.underlying4
 a4:=Tryz.isAgg4
 z4:=Tryz.sizeOf4
 v4:=Tryz.zeroValue4
 t5:=Tryz.underlying5
 a5:=Tryz.isAgg5
 z5:=Tryz.sizeOf5
 v5:=Tryz.zeroValue5
 t9:=Tryz.underlying9
 a9:=Tryz.isAgg9
 z9:=Tryz.sizeOf9
 v9:=Tryz.zeroValue9
 t46:=Tryz.underlying174
 a46:=Tryz.isAgg174
 z46:=Tryz.sizeOf174
 v46:=Tryz.zeroValue174
 t51:=Tryz.underlying211
 a51:=Tryz.isAgg211
 z51:=Tryz.sizeOf211
 v51:=Tryz.zeroValue211
 t146:=Tryz.underlying260
 a146:=Tryz.isAgg260
 z146:=Tryz.sizeOf260
 v146:=Tryz.zeroValue260
 g1:=by kernel_rfl }
end Go.Proofs
namespace Go.Eng
open Go.Proofs
abbrev Ya:ByteArray:=⟨#[47]⟩
abbrev Bz(s:ByteArray):List ByteArray:=Go.Lib.splitB Ya 0 (Go.Lib.countB s Ya) s
theorem OB(s:ByteArray):(Bz s).map (·.data.toList)=Fe 47 s.data.toList:=cu s 47
abbrev Js(s:ByteArray):List AV:=[vs s]
theorem oP(s:ByteArray)(hs:HF s):PC 157 [vs s,vs Ya] (sl Js (Bz s)):=by
 unfold HF at hs;have h:=ca (P:=Tryz.prog) (f:=157) (args:=[vs s,vs Ya]) [.string s,.string Ya] ((Bz s).map Value.string) 9 (cK 157 Tryz.func157 (by kernel_rfl) rfl) rfl (fun x hx=>by
  obtain⟨y,_,rfl⟩:=Ak.1 hx;rfl) (fun w hm=>by
  obtain⟨m,hm⟩:=hm;have hl:(Bz s).length=Go.Lib.countB s Ya+1:=Go.Lib.splitB_all Ya (by decide) 0 _ s rfl;refine(Any.strings_Split Tryz.laySplit (by kernel_rfl) s Ya m w (by omega) hm (by decide)).mono ?_
  rintro e w' ⟨rfl,rfl⟩
  exact⟨by rw[Lm,hl],rfl⟩)
 rw[BG]at h;exact h
theorem sO(s p:ByteArray)(hs:HF s):PC 111 [vs s,vs p] (vi (Go.Lib.lastIndex s.data.toList p.data.toList)):=by
 unfold HF at hs;exact KX [.string s,.string p] (.int .i64 (Go.Lib.lastIndex s.data.toList p.data.toList)) (cK 111 Tryz.func111 (by kernel_rfl) rfl) rfl (fun g w=>.v _ _) fun w _=>Any.strings_LastIndex Tryz.layLast s p (by omega) w
theorem sY(s p:ByteArray):PC 201 [vs s,vs p] (.tup [vs ⟨(Go.Lib.trimPrefix s.data.toList p.data.toList).toArray⟩,vb (Go.Lib.hasPrefix s.data.toList p.data.toList)]):=by
 exact KX [.string s,.string p] _ (cK 201 Tryz.func201 (by kernel_rfl) rfl) rfl (fun g w=>gv [.string ⟨(Go.Lib.trimPrefix s.data.toList p.data.toList).toArray⟩,.bool (Go.Lib.hasPrefix s.data.toList p.data.toList)]) fun w _=>Any.strings_CutPrefix Tryz.layCut s p w
theorem ta(s p:ByteArray)(hs:HF s):PC 232 [vs s,vs p] (vb (Go.Lib.contains s.data.toList p.data.toList)):=by
 unfold HF at hs;exact KX [.string s,.string p] (.bool (Go.Lib.contains s.data.toList p.data.toList)) (cK 232 Tryz.func232 (by kernel_rfl) rfl) rfl (fun g w=>.v _ _) fun w hm=>by
  obtain⟨m,hm⟩:=hm;exact Any.strings_Contains Tryz.layCont s p m w (by omega) hm
theorem ZR:∀x y:List UInt8,cg x y=x.isPrefixOf y
 | [],_=>by simp[cg]
 |_::_,[]=>rfl
 |a::x,b::y=>by
  rw[cg,List.isPrefixOf_cons_cons,ZR x y]
  rfl
theorem fe(x:List UInt8):∀y:List UInt8,rU x y=Go.Lib.contains y x
 | []=>by
  unfold Go.Lib.contains Go.Lib.index;cases x<;>rfl
 |b::y=>by
  rw[rU,ZR,fe x y];unfold Go.Lib.contains;have hg:=Go.Lib.index_ge y x
  conv=>rhs;unfold Go.Lib.index
  cases h:x.isPrefixOf (b::y)with
  |true=>simp
  |false =>
   simp only[Ls,Dd,F9]
   by_cases h0:Go.Lib.index y x=-1
   ·rw[h0];rfl
   ·have h1:(Go.Lib.index y x == -1)=false:=by simpa using h0
    rw[h1];simp only[Dd,F9];rw[AA (by omega),AA (by omega)]
theorem Sh:∀(l:List UInt8) (h:0<l.length),l.headD 0=l[0]
 | [],h=>by simp at h
 |_::_,_=>rfl
abbrev kX:ByteArray:=⟨⟨fq⟩⟩
theorem s5(s:ByteArray)(hs:HF s):PC 203 [vs s] (vb (YD s.data.toList)):=by
 unfold HF at hs;have hc:=ta kX ((⟨#[32]⟩++s)++⟨#[32]⟩) (HG (by kernel_rfl));have e:Go.Lib.contains kX.data.toList ((⟨#[32]⟩++s:ByteArray)++⟨#[32]⟩).data.toList=YD s.data.toList:=by
  unfold YD;rw[fe]
  congr 1
 rw[e]at hc;refine Ps F1 Tryz.func203 rfl (Nz rfl) ?_;refine Yi (by show(((1+s.size:Nat)):Int)≤_;omega) ?_;refine Yi (by show(((⟨#[32]⟩++s:ByteArray).size+1:Nat):Int)≤_;rw[ByteArray.size_append];show(((1+s.size)+1:Nat):Int)≤_;omega) ?_;refine Xi .pure (Xi _ (Yi (hc) ?_));exact .refl _
theorem sV(s:ByteArray)(hs:HF s):PC 159 [vs s] (vb (H6 s.data.toList)):=by
 have hk:=s5 s hs;have hw:=lV s 202 Ma sZ (by unfold HF at hs;simp;omega);have Eu:s.size=s.data.toList.length:=by simp
 have en:H6 s.data.toList=(!s.data.toList.isEmpty&&decide (s.data.toList.length≤32)&&GS (s.data.toList.headD 0)&&s.data.toList.all Ma&&!YD s.data.toList):=rfl
 by_cases h0:s=⟨#[]⟩
 ·subst h0;refine Ps F1 Tryz.func159 rfl (Nz rfl) ?_;refine Yi ?_ ?_
  ·intro h;exact absurd rfl (show(⟨#[]⟩:ByteArray)≠⟨#[]⟩from h)
  ·intro _;exact .refl _
 have wH : s.data.toList≠[]:=fun e=>h0 (by
  have:s.data=#[]:=by rw[←It];exact e
  cases s;simp_all)
 have Cu:0<s.data.toList.length:=MJ.2 wH;have TL:s.data.toList.isEmpty=false:=by
  cases hl:s.data.toList with
  |nil=>exact absurd hl wH
  |cons a l=>rfl
 have xa:s.data.toList.headD 0=s.data.toList[0]:=Sh _ Cu;have io:=lW s.data.toList[0];refine Ps F1 Tryz.func159 rfl (Nz rfl) ?_;refine Yi ?_ ?_
 rotate_left
 ·intro h;exact absurd h0 h
 intro _;refine Yi ?_ ?_
 rotate_left
 ·intro h;have h:¬((s.size:Nat):Int)≤32:=h;exact .of_eq (Ac vb (show false=H6 s.data.toList by rw[en,At (by omega:¬s.data.toList.length≤32)];simp))
 intro h;have h:((s.size:Nat):Int)≤32:=h;refine Xi s.data.toList[0] (Yi ⟨BO _,Zb s 0 Cu⟩ ?_);refine CQ (Bt (GS s.data.toList[0])) (fun e1=>?_) (fun e1=>?_)
 rotate_left
 ·rw[e1]at io;refine Xi .pure (Xi _ (Yi (io) ?_));exact .of_eq (Ac vb (show false=H6 s.data.toList by rw[en,xa,e1];simp))
 rw[e1]at io;refine Xi .pure (Xi _ (Yi (io) ?_));refine CQ (Bt (s.data.toList.all Ma)) (fun e2=>?_) (fun e2=>?_)
 rotate_left
 ·rw[e2]at hw;refine Xi .pure (Xi _ (Yi (hw) ?_));exact .of_eq (Ac vb (show false=H6 s.data.toList by rw[en,e2];simp))
 rw[e2]at hw;refine Xi .pure (Xi _ (Yi (hw) ?_));have ef:H6 s.data.toList=!YD s.data.toList:=by rw[en,TL,xa,e1,e2,AA (by omega:s.data.toList.length≤32)];rfl
 refine CQ (Bt (YD s.data.toList)) (fun e3=>?_) (fun e3=>?_)
 ·rw[e3]at hk;refine Xi .pure (Xi _ (Yi (hk) ?_));exact .of_eq (Ac vb (show false=H6 s.data.toList by rw[ef,e3];rfl))
 ·rw[e3]at hk;refine Xi .pure (Xi _ (Yi (hk) ?_));exact .of_eq (Ac vb (show true=H6 s.data.toList by rw[ef,e3];rfl))
abbrev Wb:Option Int→AV
 |some n=>.tup [vi n,vb true]
 |none=>.tup [vi 0,vb false]
theorem af{z:Int}(h0:0≤z)(h1:z<256):IntKind.u8.wrap z=z:=by
 show z % 256=z;omega
theorem Uk{c:UInt8}(h:EO c=true):48≤c.toNat∧c.toNat≤57:=by
 unfold EO at h;simp only[Ae,Au]at h;exact⟨K7.1 h.1,K7.1 h.2⟩
theorem UK(r:List UInt8)(i:Nat)(h:i<r.length):Gm (r.take (i+1))=10*Gm (r.take i)+((r[i].toNat:Int)-48):=by
 unfold Gm;rw[Bi,Ge h,Fi];rfl
theorem sU(s:ByteArray)(hs:HF s):PC 158 [vs s] (Wb (Lr s.data.toList)):=by
 unfold HF at hs;have hc:=sY s ⟨#[118]⟩
 by_cases hp:∃r,s.data.toList=118::r
 ·obtain⟨r,hr⟩:=hp;have e1:Go.Lib.hasPrefix s.data.toList (⟨#[118]⟩:ByteArray).data.toList=true:=by rw[hr];rfl
  have e2:Go.Lib.trimPrefix s.data.toList (⟨#[118]⟩:ByteArray).data.toList=r:=by unfold Go.Lib.trimPrefix;rw[e1,Aq rfl,hr];rfl
  rw[e1,e2]at hc;have hv:Lr s.data.toList=if(r.isEmpty||decide (3<r.length)||(decide (1<r.length)&&decide (r.headD 0=48))||!r.all EO)=true then none else some (Gm r):=by rw[hr];rfl
  have Wf:r.length<s.size:=by
   have:s.size=s.data.toList.length:=by simp
   rw[this,hr];simp
  generalize hB:(⟨r.toArray⟩:ByteArray)=rB at hc;have jd:rB.data.toList=r:=by rw[←hB]
  have pm:rB.size=r.length:=by rw[←hB];rfl
  have hw:=lV rB 163 EO lX (by rw[jd];omega);rw[jd]at hw;have no:∀{b:Bool},b=true→(if b=true then none else some (Gm r))=(none:Option Int):=fun h=>Aq h;refine Ps (Ji [2,4]) Tryz.func158 rfl (Nz rfl) ?_;refine Xi .pure (Xi _ (Yi (hc) ?_));refine Xi ⟨[(0,vs rB),(4,vb true)],[],Aa⟩ (Yi ⟨Z2,Tv,Fh,Tv⟩ ?_)
  refine Yi ?_ ?_
  ·intro h;have h:rB=⟨#[]⟩:=h
   have:r=[]:=by rw[←jd,h]
   exact .of_eq (Ac Wb (show(none:Option Int)=Lr s.data.toList by rw[hv,this];rfl))
  intro h;have h:¬rB=⟨#[]⟩:=h;have Dt:r≠[]:=fun e=>h (by rw[←hB,e]);have Cu:0<r.length:=MJ.2 Dt;have TL:r.isEmpty=false:=by
   cases hl:r with
   |nil=>exact absurd hl Dt
   |cons a l=>rfl
  refine Yi ?_ ?_
  ·intro h2;have h2:(3:Int)<((rB.size:Nat):Int):=h2;exact .of_eq (Ac Wb (show(none:Option Int)=Lr s.data.toList by rw[hv,no];rw[AA (by omega:3<r.length)];simp))
  intro h2;have h2:¬(3:Int)<((rB.size:Nat):Int):=h2;have rK:r.length≤3:=by omega
  have d3:decide (3<r.length)=false:=At (by omega);refine Yi ?_ ?_
  ·intro h3;have h3:(1:Int)<((rB.size:Nat):Int):=h3;have tK:rB.data[(0:Int).toNat]?=some r[0]:=by
    show rB.data[0]?=_;rw[←A1,jd];exact Ge Cu
   refine Xi r[0] (Yi ⟨BO _,tK⟩ ?_);have hh:=Sh r Cu;refine Yi ?_ ?_
   ·intro h4;have h4:(r[0].toNat:Int)=48:=h4
    have:r[0]=48:=UInt8.toNat_inj.1 (by show r[0].toNat=48;omega)
    exact .of_eq (Ac Wb (show(none:Option Int)=Lr s.data.toList by rw[hv,hh,this,AA (by omega:1<r.length)];simp))
   intro h4;have h4:¬(r[0].toNat:Int)=48:=h4;have eo:(decide (1<r.length)&&decide (r.headD 0=48))=false:=by rw[hh,At (show ¬r[0]=48 from fun e=>h4 (by rw[e];rfl)),D6]
   have qi:Lr s.data.toList=if(!r.all EO)=true then none else some (Gm r):=by rw[hv,TL,d3,eo];rfl
   refine CQ (Bt (r.all EO)) (fun e3=>?_) (fun e3=>?_)
   rotate_left
   ·rw[e3]at hw;refine Xi .pure (Xi _ (Yi (hw) ?_));exact .of_eq (Ac Wb (show(none:Option Int)=Lr s.data.toList by rw[qi,e3];rfl))
   rw[e3]at hw;refine Xi .pure (Xi _ (Yi (hw) ?_));have uJ:Lr s.data.toList=some (Gm r):=by rw[qi,e3];rfl
   refine Xi ⟨[(0,vs rB)],[],Aa⟩ (Yi ⟨Z1,Tv,Fh,Tv⟩ ?_)
   have z0:Gm (r.take 0)=0:=rfl;refine Xi {i:Nat // i≤r.length∧0≤Gm (r.take i)∧(i=0→Gm (r.take i)≤0)∧(i≤1→Gm (r.take i)≤9)∧(i≤2→Gm (r.take i)≤99)∧Gm (r.take i)≤999} (Xi (fun i=>⟨[(0,vs rB),(5,vi (Gm (r.take i.1))),(39,vi rB.size),(40,vi i.1)],[],Aa⟩) (Xi (fun i=>r.length-i.1) (Yi (Xi ⟨0,AL _,by omega,fun _=>by omega,fun _=>by omega,fun _=>by omega,by omega⟩ ?_) ?_)))
   ·exact⟨Z4,Tv,Fh,Tv⟩
   intro⟨i,i1,i2,i3,i4,i5,i6⟩;refine Yi ?_ ?_
   ·intro h;have h:(i:Int)<(rB.size:Nat):=h;have h:i<r.length:=by omega
    have tX:EO r[i]=true:=Bp.1 e3 _ (Ax h);have n6:=Uk tX;have um:=UK r i h;have mQ:IntKind.u8.wrap ((r[i].toNat:Int)-48)=(r[i].toNat:Int)-48:=af (by omega) (by omega);have kE:rB.data[((i:Nat):Int).toNat]?=some r[i]:=by rw[Cg,←A1,jd];exact Ge h
    refine Yi (by show BK (10*Gm (r.take i));unfold BK;omega) ?_;refine Xi r[i] (Yi ⟨by show(0:Int)≤i;omega,kE⟩ ?_);refine Yi (by show BK (IntKind.u8.wrap ((r[i].toNat:Int)-48));rw[mQ];unfold BK;omega) ?_;refine Yi (by show BK (10*Gm (r.take i)+IntKind.u8.wrap ((r[i].toNat:Int)-48));rw[mQ];unfold BK;omega) ?_;refine Yi (Ii i (by omega)) ?_;have e5:vi (10*Gm (r.take i)+IntKind.u8.wrap ((r[i].toNat:Int)-48))=vi (Gm (r.take (i+1))):=by rw[mQ,um]
    refine Xi ⟨i+1,by omega,by omega,fun _=>by omega,fun _=>by omega,fun _=>by omega,by omega⟩ ?_;exact⟨Dl r.length i (by omega),⟨Zr,⟨e5,rfl⟩,Zr,Zr,Tv⟩,Tv,Fh,Tv⟩
   ·intro h;have h:¬(i:Int)<(rB.size:Nat):=h;have e6:AV.tup [vi (Gm (r.take i)),vb true]=Wb (Lr s.data.toList):=by rw[uJ,AD (by omega)]
    exact .of_eq e6
  ·intro h3;have h3:¬(1:Int)<((rB.size:Nat):Int):=h3;have eo:(decide (1<r.length)&&decide (r.headD 0=48))=false:=by rw[At (by omega:¬1<r.length)];rfl
   have qi:Lr s.data.toList=if(!r.all EO)=true then none else some (Gm r):=by rw[hv,TL,d3,eo];rfl
   refine CQ (Bt (r.all EO)) (fun e3=>?_) (fun e3=>?_)
   rotate_left
   ·rw[e3]at hw;refine Xi .pure (Xi _ (Yi (hw) ?_));exact .of_eq (Ac Wb (show(none:Option Int)=Lr s.data.toList by rw[qi,e3];rfl))
   rw[e3]at hw;refine Xi .pure (Xi _ (Yi (hw) ?_));have uJ:Lr s.data.toList=some (Gm r):=by rw[qi,e3];rfl
   refine Xi ⟨[(0,vs rB)],[],Aa⟩ (Yi ⟨Z1,Tv,Fh,Tv⟩ ?_)
   have z0:Gm (r.take 0)=0:=rfl;refine Xi {i:Nat // i≤r.length∧0≤Gm (r.take i)∧(i=0→Gm (r.take i)≤0)∧(i≤1→Gm (r.take i)≤9)∧(i≤2→Gm (r.take i)≤99)∧Gm (r.take i)≤999} (Xi (fun i=>⟨[(0,vs rB),(5,vi (Gm (r.take i.1))),(39,vi rB.size),(40,vi i.1)],[],Aa⟩) (Xi (fun i=>r.length-i.1) (Yi (Xi ⟨0,AL _,by omega,fun _=>by omega,fun _=>by omega,fun _=>by omega,by omega⟩ ?_) ?_)))
   ·exact⟨Z4,Tv,Fh,Tv⟩
   intro⟨i,i1,i2,i3,i4,i5,i6⟩;refine Yi ?_ ?_
   ·intro h;have h:(i:Int)<(rB.size:Nat):=h;have h:i<r.length:=by omega
    have tX:EO r[i]=true:=Bp.1 e3 _ (Ax h);have n6:=Uk tX;have um:=UK r i h;have mQ:IntKind.u8.wrap ((r[i].toNat:Int)-48)=(r[i].toNat:Int)-48:=af (by omega) (by omega);have kE:rB.data[((i:Nat):Int).toNat]?=some r[i]:=by rw[Cg,←A1,jd];exact Ge h
    refine Yi (by show BK (10*Gm (r.take i));unfold BK;omega) ?_;refine Xi r[i] (Yi ⟨by show(0:Int)≤i;omega,kE⟩ ?_);refine Yi (by show BK (IntKind.u8.wrap ((r[i].toNat:Int)-48));rw[mQ];unfold BK;omega) ?_;refine Yi (by show BK (10*Gm (r.take i)+IntKind.u8.wrap ((r[i].toNat:Int)-48));rw[mQ];unfold BK;omega) ?_;refine Yi (Ii i (by omega)) ?_;have e5:vi (10*Gm (r.take i)+IntKind.u8.wrap ((r[i].toNat:Int)-48))=vi (Gm (r.take (i+1))):=by rw[mQ,um]
    refine Xi ⟨i+1,by omega,by omega,fun _=>by omega,fun _=>by omega,fun _=>by omega,by omega⟩ ?_;exact⟨Dl r.length i (by omega),⟨Zr,⟨e5,rfl⟩,Zr,Zr,Tv⟩,Tv,Fh,Tv⟩
   ·intro h;have h:¬(i:Int)<(rB.size:Nat):=h;have e6:AV.tup [vi (Gm (r.take i)),vb true]=Wb (Lr s.data.toList):=by rw[uJ,AD (by omega)]
    exact .of_eq e6
 ·have e1:Go.Lib.hasPrefix s.data.toList (⟨#[118]⟩:ByteArray).data.toList=false:=by
   cases hl:s.data.toList with
   |nil=>rfl
   |cons a l =>
    have:a≠118:=fun e=>hp ⟨l,by rw[hl,e]⟩
    show(List.isPrefixOf [118] (a::l))=false;rw[List.isPrefixOf_cons_cons]
    have:((118:UInt8) == a)=false:=by rw[beq_eq_false_iff_ne];exact fun e=>this e.symm
    rw[this];rfl
  have hv:Lr s.data.toList=none:=by
   cases hl:s.data.toList with
   |nil=>rfl
   |cons a l =>
    have:a≠118:=fun e=>hp ⟨l,by rw[hl,e]⟩
    show(if a=118 then _ else none)=none;rw[Ai this]
  rw[e1]at hc;refine Ps F1 Tryz.func158 rfl (Nz rfl) ?_;refine Xi .pure (Xi _ (Yi (hc) ?_));exact .of_eq (Ac Wb hv.symm)
abbrev YG:Option Int→AV
 |some n=>.tup [vi n,vi 0]
 |none=>.tup [vi 0,vi 4]
theorem Tl(c:UInt8):∀(s x:List UInt8),x∈Fe c s→x.length≤s.length
 | [],x,h=>by
  rw[Fe]at h;rw[Am.1 h];exact Al _
 |b::r,x,h=>by
  have ih:=Tl c r;rw[Fe]at h;split at h
  ·rcases Av.1 h with rfl | h
   ·exact AL _
   ·have:=ih x h;rw[Ay];omega
  ·split at h
   ·rw[Am.1 h];rw[Ay];simp
   ·rename_i y l e;rcases Av.1 h with rfl | h
    ·have:=ih y (by rw[e];exact Ab ..);rw[Ay,Ay];omega
    ·have:=ih x (by rw[e];exact Ah _ h);rw[Ay];omega
theorem fX{p x:ByteArray}(hp:HF p)(hx:x∈Bz p):HF x:=by
 have h:x.data.toList∈Fe 47 p.data.toList:=by rw[←OB];exact Ak.2 ⟨x,hx,rfl⟩
 have:=Tl 47 _ _ h
 unfold HF at *
 have e1:x.size=x.data.toList.length:=by simp
 have e2:p.size=p.data.toList.length:=by simp
 omega
theorem bY(p:ByteArray):(Bz p).length=(Fe 47 p.data.toList).length:=by rw[←OB,Lm]
theorem bZ(p:ByteArray):0<(Bz p).length:=by
 rw[show(Bz p).length=Go.Lib.countB p Ya+1 from Go.Lib.splitB_all Ya (by decide) 0 _ p rfl];omega
theorem bX(p:ByteArray):(Bz p).length≤p.size+1:=by
 rw[show(Bz p).length=Go.Lib.countB p Ya+1 from Go.Lib.splitB_all Ya (by decide) 0 _ p rfl]
 have:=Go.Lib.countB_le Ya (by decide) p.size p (Al _);omega
theorem YP(p:ByteArray)(h:(Bz p).length-1<(Bz p).length):(Fe 47 p.data.toList).getLastD []=((Bz p)[(Bz p).length-1]).data.toList:=by
 rw[←OB,List.getLastD_eq_getLast?,List.getLast?_eq_getElem?,Lm,AF,Ge h];rfl
theorem bW(p:ByteArray):(Fe 47 p.data.toList).all L4=(Bz p).all fun x=>L4 x.data.toList:=by
 rw[←OB,List.all_map];rfl
theorem oM(p:ByteArray)(hp:HF p):PC 109 [vs p] (YG (CB p)):=by
 have ux:=bX p;have YA:=bZ p;have uu:(Bz p).length-1<(Bz p).length:=by omega
 have Eu:p.size=p.data.toList.length:=by simp
 have w7:∀{x},x∈Bz p→HF x:=fun h=>fX hp h;unfold HF at hp;have TM:((Bz p).map Js)[((((Bz p).map Js).length:Int)-1).toNat]?=some (Js (Bz p)[(Bz p).length-1]):=by
  rw[Lm,show(((Bz p).length:Int)-1).toNat=(Bz p).length-1 by omega];exact Dp (Ge uu)
 have hv:=sU (Bz p)[(Bz p).length-1] (w7 (Ax uu));have em:CB p=match Lr ((Bz p)[(Bz p).length-1]).data.toList with
  |none=>none
  |some n=>if(decide (64<p.data.toList.length)||decide ((Bz p).length<2))=true then none else if((Bz p).all fun x=>L4 x.data.toList)=true then some n else none:=by
  unfold CB YH;rw[YP p uu,bW,←bY];cases Lr ((Bz p)[(Bz p).length-1]).data.toList with
  |none=>rfl
  |some n=>rfl
 cases hve:Lr ((Bz p)[(Bz p).length-1]).data.toList with
 |none =>
  rw[hve]at hv em;refine Ps (Ji [2,3]) Tryz.func109 rfl (Nz rfl) ?_;refine Xi .pure (Xi _ (Yi (oP p hp) ?_));refine Xi ⟨[(0,vs p),(4,sl Js (Bz p))],[],Aa⟩ (Yi ⟨Z2,Tv,Fh,Tv⟩ ?_)
  refine Yi (by show BK ((((Bz p).map Js).length:Int)-1);unfold BK;rw[Lm];omega) ?_;refine Xi (Js (Bz p)[(Bz p).length-1]) (Yi (Yi (by show(0:Int)≤(((Bz p).map Js).length:Int)-1;rw[Lm];omega) TM) (Yi rfl ?_));refine Xi .pure (Xi _ (Yi (hv) ?_));refine Xi ⟨[(0,vs p),(4,sl Js (Bz p)),(5,vi 0),(6,vb false)],[],Aa⟩ (Yi ⟨Z4,Tv,Fh,Tv⟩ ?_)
  exact .of_eq (Ac YG em.symm)
 |some n =>
  rw[hve]at hv em;have em:CB p=if(decide (64<p.data.toList.length)||decide ((Bz p).length<2))=true then none else if((Bz p).all fun x=>L4 x.data.toList)=true then some n else none:=em
  refine Ps (Ji [2,3,5]) Tryz.func109 rfl (Nz rfl) ?_;refine Xi .pure (Xi _ (Yi (oP p hp) ?_));refine Xi ⟨[(0,vs p),(4,sl Js (Bz p))],[],Aa⟩ (Yi ⟨Z2,Tv,Fh,Tv⟩ ?_)
  refine Yi (by show BK ((((Bz p).map Js).length:Int)-1);unfold BK;rw[Lm];omega) ?_;refine Xi (Js (Bz p)[(Bz p).length-1]) (Yi (Yi (by show(0:Int)≤(((Bz p).map Js).length:Int)-1;rw[Lm];omega) TM) (Yi rfl ?_));refine Xi .pure (Xi _ (Yi (hv) ?_));refine Xi ⟨[(0,vs p),(4,sl Js (Bz p)),(5,vi n),(6,vb true)],[],Aa⟩ (Yi ⟨Z4,Tv,Fh,Tv⟩ ?_)
  refine Yi ?_ ?_
  ·intro h;have h:(64:Int)<((p.size:Nat):Int):=h;exact .of_eq (Ac YG (show(none:Option Int)=CB p by rw[em,AA (by omega:64<p.data.toList.length)];rfl))
  intro h;have h:¬(64:Int)<((p.size:Nat):Int):=h;have d1:decide (64<p.data.toList.length)=false:=At (by omega);refine Yi ?_ ?_
  ·intro h2;have h2:(((Bz p).map Js).length:Int)<2:=h2;rw[Lm]at h2;exact .of_eq (Ac YG (show(none:Option Int)=CB p by rw[em,d1,AA (by omega:(Bz p).length<2)];rfl))
  intro h2;have h2:¬(((Bz p).map Js).length:Int)<2:=h2;have d2:decide ((Bz p).length<2)=false:=At (by rw[Lm]at h2;omega);have wF:CB p=if((Bz p).all fun x=>L4 x.data.toList)=true then some n else none:=by rw[em,d1,d2];rfl
  refine Xi ⟨[(4,sl Js (Bz p)),(5,vi n)],[],Aa⟩ (Yi ⟨Z2,Tv,Fh,Tv⟩ ?_)
  refine Xi {i:Nat // i≤(Bz p).length∧∀j (hj:j<(Bz p).length),j<i→L4 ((Bz p)[j]).data.toList=true} (Xi (fun i=>⟨[(5,vi n),(33,sl Js (Bz p)),(34,vi ((Bz p).map Js).length),(35,vi i.1)],[],Aa⟩) (Xi (fun i=>(Bz p).length-i.1) (Yi (Xi ⟨0,AL _,fun j _ h=>by omega⟩ ?_) ?_)))
  ·exact⟨Z4,Tv,Fh,Tv⟩
  intro⟨i,i1,i2⟩;refine Yi ?_ ?_
  ·intro h;have h:(i:Int)<((Bz p).map Js).length:=h;have h:i<(Bz p).length:=by simpa using h
   have hg:(Bz p)[i]?=some (Bz p)[i]:=Ge h;refine Xi (Js (Bz p)[i]) (Yi (Yi (Nn i) (by simp[hg])) (Yi rfl ?_));have wZ:=w7 (Ax h);have hn:=sV (Bz p)[i] wZ;have ha:=lV (Bz p)[i] 161 Y2 sW (by unfold HF at wZ;have e1:(Bz p)[i].size=(Bz p)[i].data.toList.length:=(by simp);omega);have no:L4 ((Bz p)[i]).data.toList=false→(none:Option Int)=CB p:=fun e=>by
    rw[wF,Ai];intro GF
    have:=Bp.1 GF _ (Ax h)
    rw[e]at this;cases this
   refine CQ (Bt (H6 ((Bz p)[i]).data.toList)) (fun e1=>?_) (fun e1=>?_)
   rotate_left
   ·rw[e1]at hn;refine Xi .pure (Xi _ (Yi (hn) ?_));exact .of_eq (Ac YG (no (by unfold L4;rw[e1];rfl)))
   rw[e1]at hn;refine Xi .pure (Xi _ (Yi (hn) ?_));refine CQ (Bt (((Bz p)[i]).data.toList.all Y2)) (fun e2=>?_) (fun e2=>?_)
   rotate_left
   ·rw[e2]at ha;refine Xi .pure (Xi _ (Yi (ha) ?_));exact .of_eq (Ac YG (no (by unfold L4;rw[e1];exact e2)))
   rw[e2]at ha;refine Xi .pure (Xi _ (Yi (ha) ?_));refine Yi (Ii i (by omega)) ?_;refine Xi ⟨i+1,by omega,fun j hj MF=>?_⟩ ?_
   ·rcases EA j i with z | z
    ·exact i2 j hj z
    ·have:j=i:=by omega
     subst this;unfold L4;rw[e1];exact e2
   ·exact⟨by show(Bz p).length-(i+1)<(Bz p).length-i;omega,Z4,Tv,Fh,Tv⟩
  ·intro h;have h:¬(i:Int)<((Bz p).map Js).length:=h;have h:¬i<(Bz p).length:=by simpa using h
   have e:some n=CB p:=by
    rw[wF,Aq];exact Bp.2 fun x hx=>by
     obtain⟨j,hj,rfl⟩:=Fu hx;exact i2 j hj (by omega)
   exact .of_eq (Ac YG e)
theorem sN(p:ByteArray)(hp:HF p):PC 110 [vs p] (vb (CB p).isSome):=by
 have hc:=oM p hp;cases h:CB p with
 |none =>
  rw[h]at hc;refine Ps F1 Tryz.func110 rfl (Nz rfl) ?_;refine Xi .pure (Xi _ (Yi (hc) ?_));refine Yi ?_ ?_
  ·intro h;exact absurd (show(4:Int)=0 from h) (by decide)
  ·intro _;exact .refl _
 |some n =>
  rw[h]at hc;refine Ps F1 Tryz.func110 rfl (Nz rfl) ?_;refine Xi .pure (Xi _ (Yi (hc) ?_));refine Yi ?_ ?_
  ·intro _;exact .refl _
  ·intro h;exact absurd rfl h
theorem Tn(c:UInt8):∀s:List UInt8,2≤(Fe c s).length→c∈s
 | [],h=>by rw[Fe]at h;simp at h
 |b::r,h=>by
  rw[Fe]at h
  by_cases e:b=c
  ·exact e▸Ab ..
  ·rw[Ai e]at h;refine Ah _ (Tn c r ?_);cases hs:Fe c r with
   |nil=>rw[hs]at h;simp at h
   |cons x l=>rw[hs]at h;simpa using h
theorem ft{p:ByteArray}{m:Int}(h:CB p=some m):0≤Go.Lib.lastIndex p.data.toList [47]∧Go.Lib.lastIndex p.data.toList [47]≤p.size:=by
 have h2:2≤(Fe 47 p.data.toList).length:=by
  unfold CB YH at h;split at h
  ·cases h
  ·split at h
   ·cases h
   ·rename_i hn;simp only[Ci,Au]at hn;omega
 have hm:=Tn 47 _ h2;obtain⟨i,hi,e⟩:=Fu hm;have Eu:p.size=p.data.toList.length:=by simp
 unfold Go.Lib.lastIndex;rw[Aq (by simp only[A5];omega)];have uo:Go.Lib.occAt p.data.toList [47] i=true:=by
  unfold Go.Lib.occAt;rw[Bl hi,e];simp
 rcases Go.Lib.lastOcc_spec p.data.toList [47] (p.data.toList.length - [(47:UInt8)].length+1)with ⟨_,h3⟩ | ⟨j,h3,h4,_⟩
 ·have:=h3 i (by simp only[A5];omega)
  rw[uo]at this;cases this
 ·rw[h4];simp only[A5]at h3;omega
abbrev mZ(p:ByteArray):ByteArray:=p.extract 0 (Go.Lib.lastIndex p.data.toList [47]).toNat
theorem Vi:Tz mZ:=by
 intro p hp;have hc:=oM p hp;have hi:=sN p hp;unfold Zz;cases h:CB p with
 |none =>
  rw[h]at hc hi;refine Ps F1 Tryz.func81 rfl (Nz rfl) ?_;refine Xi .pure (Xi _ (Yi (hc) ?_));refine Xi .pure (Xi _ (Yi (hi) ?_));exact .refl _
 |some n =>
  rw[h]at hc hi;obtain⟨l1,l2⟩:=ft h;have hl:PC 111 [vs p,vs Ya] (vi (Go.Lib.lastIndex p.data.toList [47])):=sO p Ya hp;refine Ps F1 Tryz.func81 rfl (Nz rfl) ?_;refine Xi .pure (Xi _ (Yi (hc) ?_));refine Xi .pure (Xi _ (Yi (hi) ?_));refine Yi ?_ ?_
  ·intro h;exact absurd rfl h
  intro _;refine Xi .pure (Xi _ (Yi (hl) ?_));refine Yi ⟨BO _,l1,l2⟩ ?_;exact .refl _
theorem OG{l:List Rq}(h:BL l=0):l.length≤16:=by
 unfold BL at h;split at h
 ·cases h
 ·omega
theorem Nm{x:List Rl}(h:AU x=0):x.length≤256∧∀r∈x,r.reqs.length≤16:=by
 have h1:x.length≤256:=by
  unfold AU at h;split at h
  ·cases h
  ·omega
 exact⟨h1,fun r hr=>OG ((Co h).1 r hr).reqs⟩
theorem dN{x:List Rl}(h:∀r∈x,r.reqs.length≤16):((x.map (·.reqs)).flatten).length≤x.length*16:=by
 induction x with
 |nil=>simp
 |cons r x ih =>
  rw[AK,Bv,Ad,Ay]
  have:=h r (Ab ..)
  have:=ih fun s hs=>h s (Ah _ hs)
  omega
theorem YS{x:List Rl}{roots:List Rq}{l:List Nf}(h1:AU x=0)(h2:BL roots=0)(h3:l.length≤65536):(J0 x roots l).length≤100000:=by
 obtain⟨a,b⟩:=Nm h1
 have:=dN b
 have:=OG h2
 unfold J0;simp only[Ad,Lm];omega
theorem TY.fewI{U:List ByteArray}{t:List Tm}(h:TY U t)(hu:U.length≤100000):lx t :=
 ⟨by have:=h.len;omega,fun u hu=>N5 (h.1.canon u hu)⟩
abbrev GP(x:List Rl)(ifs:List (List AV)):AV:=.agg (Ic x ifs)
abbrev Tw:EB:=⟨true,[.str,.int .i64,.int .i64,.int .i64]⟩
abbrev Qj(y:Sl):Value:=.agg #[.string y.path,.int .i64 y.ver.a,.int .i64 y.ver.b,.int .i64 y.ver.c]
abbrev SC(r:Rl):Value×AV:=(Qj (Fc r),.agg (Ag r))
def AO:List Rl→List ByteArray→List ByteArray
 | [],acc=>acc
 |r::x,acc=>AO x (if acc.any (fun p=>decide (p=r.path))then acc else acc++[r.path])
abbrev iq(x:List Rl)(p:ByteArray):Value×AV:=(.string p,sl Ag (x.filter fun r=>decide (r.path=p)))
abbrev VY(x:List Rl):AV:=if AU x=0 then .tup [.agg [.cmap Tw (x.map SC),.cmap CM ((AO x []).map (iq x))],vi 0]else .tup [.agg [.cmap Tw [],.cmap CM []],vi (AU x)]
abbrev da(x:List Rl)(ifs:List (List AV)):Prop:=PC 41 [GP x ifs] (VY x)
theorem td:PC 42 [.agg XV] (.agg XV):=by
 refine Ps F1 Tryz.func42 rfl (Nz rfl) ?_;refine Yi (Nz rfl) ?_;refine Xi Unit (Xi (fun _=>⟨[(1,.ref 1 0),(2,.ref 2 0),(10,vi 0),(11,vi 0)],[(1,.cells XV),(2,.cells XV)],Aa⟩) (Xi (fun _=>0) (Yi (Xi () ?_) ?_)))
 ·exact⟨Z4,Z2,Fh,Tv⟩
 intro _;refine Yi ?_ ?_
 ·intro h;exact absurd (show(0:Int)<0 from h) (by decide)
 ·intro _;refine Yi (Nz rfl) (Yi (Nz rfl) (Yi (Nz rfl) ?_));exact .refl _
theorem ju{y z:Sl}(h:Qj y=Qj z):y=z:=by
 obtain⟨p,⟨a,b,c⟩⟩:=y;obtain⟨q,⟨d,e,f⟩⟩:=z;simp only[Qj,Value.agg.injEq,Array.mk.injEq,Fm,Value.string.injEq,Value.int.injEq,true_and,and_true]at h;obtain⟨rfl,rfl,rfl,rfl⟩:=h
 rfl
theorem Zx{x:List Rl}{y:Sl}{a:AV}(h:(Qj y,a)∈x.map SC):∃r∈x,Fc r=y∧a=.agg (Ag r):=by
 obtain⟨r,h1,h2⟩:=Ak.1 h;simp only[SC,FE]at h2;exact⟨r,h1,ju h2.1,h2.2.symm⟩
theorem dM{x:List Rl}(hx:AU x=0){r:Rl}(hr:r∈x):DJ x (Fc r)=some r:=by
 unfold DJ;rw[Ai (by omega)];cases h:x.find? (fun s=>decide (Fc s=Fc r))with
 |none =>
  rw[DO]at h;exact absurd (by simp) (h r hr)
 |some s =>
  have h1:=EF h;simp only[Au]at h1;have hs:=Cb h;have hp:=(Co hx).2;rcases CW.1 hr with ⟨i,hi,e1⟩;rcases CW.1 hs with ⟨j,hj,e2⟩;rcases Nat.lt_trichotomy i j with OS | OS | OS
  ·have:=(AY.1 hp) i j hi hj OS
   rw[e1,e2]at this;exact(HZ this h1.symm).elim
  ·subst OS;rw[←e1,←e2]
  ·have:=(AY.1 hp) j i hj hi OS
   rw[e1,e2]at this;exact(HZ this h1).elim
theorem yg(x:List Rl)(ifs:List (List AV))(p:ByteArray)(v:Ver)(aY:da x ifs)(hx:∀r∈x,JL r):PC 15 [GP x ifs,vs p,.agg (Gu v)] (XC (DJ x ⟨p,v⟩)):=by
 have hz:=td
 by_cases h0:AU x=0
 ·have aY:PC 41 [GP x ifs] (.tup [.agg [.cmap Tw (x.map SC),.cmap CM ((AO x []).map (iq x))],vi 0]):=by
   have:=aY;unfold da VY at this;rw[Aq h0]at this;exact this
  refine Ps (Ji [2,3]) Tryz.func15 rfl (Nz rfl) ?_;refine Yi (Nz rfl) ?_;refine Xi .pure (Xi _ (Yi (aY) ?_));refine Yi (Nz rfl) ?_;refine Xi ⟨[(1,vs p),(5,.ref 5 0),(6,.ref 6 0),(8,.ref 8 0)],[(5,.cells (Gu v)),(6,.cells XV),(8,.cells [.cmap Tw (x.map SC),.cmap CM ((AO x []).map (iq x))])],Aa⟩ (Yi ⟨Z4,Z3,Fh,Tv⟩ ?_)
  refine Yi (Nz rfl) ?_;refine Yi ?_ ?_
  ·intro a ha;refine CC (Zx (y:=⟨p,v⟩) ha) (fun r hr=>?_);have e:=hr.2.2;subst e;have hf:DJ x ⟨p,v⟩=some r:=by rw[←hr.2.1];exact dM h0 hr.1
   have hrq:=(Nm h0).2 r hr.1;have hc:=tc r (by omega) (fun q hq=>((hx r hr.1).2 q hq).1);refine Yi (Nz rfl) ?_;refine Xi ⟨[(6,.ref 6 0),(10,.ref 10 0),(11,vb true)],[(6,.cells XV),(10,.cells (Ag r))],Aa⟩ (Yi ⟨Z3,Z2,Fh,Tv⟩ ?_)
   refine Yi (Nz rfl) ?_;refine Xi .pure (Xi _ (Yi (hc) ?_));refine Yi (Nz rfl) (Yi (Nz rfl) ?_);exact .of_eq (show AV.tup [.agg (Ag r),vb true]=XC (DJ x ⟨p,v⟩) by rw[hf])
  ·intro hn;have hf:DJ x ⟨p,v⟩=none:=by
    cases h:DJ x ⟨p,v⟩with
    |none=>rfl
    |some r =>
     obtain⟨_,h2,h3⟩:=HU h;exact absurd (Ak.2 ⟨r,h2,by rw[show SC r=(Qj (Fc r),AV.agg (Ag r))from rfl,h3]⟩) (hn (.agg (Ag r)))
   refine Yi (Nz rfl) ?_;refine Xi ⟨[(6,.ref 6 0),(10,.ref 10 0),(11,vb false)],[(6,.cells XV),(10,.cells XV)],Aa⟩ (Yi ⟨Z3,Z2,Fh,Tv⟩ ?_)
   refine Yi (Nz rfl) ?_;refine Xi .pure (Xi _ (Yi (hz) ?_));refine Yi (Nz rfl) (Yi (Nz rfl) ?_);exact .of_eq (show AV.tup [.agg XV,vb false]=XC (DJ x ⟨p,v⟩) by rw[hf])
 ·have aY:PC 41 [GP x ifs] (.tup [.agg [.cmap Tw [],.cmap CM []],vi (AU x)]):=by
   have:=aY;unfold da VY at this;rw[Ai h0]at this;exact this
  have hf:DJ x ⟨p,v⟩=none:=by unfold DJ;rw[Aq h0]
  refine Ps (Ji [2,3]) Tryz.func15 rfl (Nz rfl) ?_;refine Yi (Nz rfl) ?_;refine Xi .pure (Xi _ (Yi (aY) ?_));refine Yi (Nz rfl) ?_;refine Xi ⟨[(1,vs p),(5,.ref 5 0),(6,.ref 6 0),(8,.ref 8 0)],[(5,.cells (Gu v)),(6,.cells XV),(8,.cells [.cmap Tw [],.cmap CM []])],Aa⟩ (Yi ⟨Z4,Z3,Fh,Tv⟩ ?_)
  refine Yi (Nz rfl) ?_;refine Yi ?_ ?_
  ·intro a ha;cases ha
  ·intro _;refine Yi (Nz rfl) ?_;refine Xi ⟨[(6,.ref 6 0),(10,.ref 10 0),(11,vb false)],[(6,.cells XV),(10,.cells XV)],Aa⟩ (Yi ⟨Z3,Z2,Fh,Tv⟩ ?_)
   refine Yi (Nz rfl) ?_;refine Xi .pure (Xi _ (Yi (hz) ?_));refine Yi (Nz rfl) (Yi (Nz rfl) ?_);exact .of_eq (show AV.tup [.agg XV,vb false]=XC (DJ x ⟨p,v⟩) by rw[hf])
abbrev DK(l:List Rl):Bh:=(l.filter fun r=>!r.yanked).map fun r=>(plc r.ver,plc r.ver+1)
theorem Y6(l:List Rl):(DK l).length≤l.length:=by
 unfold DK;rw[Lm];exact BA _ _
theorem jy{x:List Rl}{ps:List ByteArray}{p:ByteArray}{a:AV}(h:(Value.string p,a)∈ps.map (iq x)):a=sl Ag (x.filter fun r=>decide (r.path=p)):=by
 obtain⟨q,_,h2⟩:=Ak.1 h;simp only[iq,FE,Value.string.injEq]at h2;rw[←h2.2,h2.1]
theorem NP{acc:List ByteArray}{p:ByteArray}:(acc.any fun q=>decide (q=p))=true↔p∈acc:=by
 rw[Bd];constructor
 ·rintro⟨q,h1,h2⟩;rw[←Ba h2];exact h1
 ·intro h;exact⟨p,h,by simp⟩
theorem G4:∀(x:List Rl) (acc:List ByteArray) (p:ByteArray),p∈AO x acc↔p∈acc∨∃r∈x,r.path=p
 | [],acc,p=>by simp[AO]
 |r::x,acc,p=>by
  rw[AO,G4 x];constructor
  ·rintro(h | ⟨s,h1,h2⟩)
   ·split at h
    ·exact .inl h
    ·rcases AW.1 h with h | h
     ·exact .inl h
     ·exact .inr ⟨r,Ab ..,(Am.1 h).symm⟩
   ·exact .inr ⟨s,Ah _ h1,h2⟩
  ·rintro(h | ⟨s,h1,h2⟩)
   ·left
    split
    ·exact h
    ·exact Bn _ h
   ·rcases Av.1 h1 with rfl | h1
    ·left
     split
     ·rename_i hh;rw[←h2];exact NP.1 hh
     ·rw[←h2];exact Bf _ (Am.2 rfl)
    ·exact .inr ⟨s,h1,h2⟩
abbrev lc:Ro:=⟨[],[(7,2)],[],[],[],[],[],[],[],[],[2,3,6,7,9]⟩
theorem Ub(L:List Rl)(i:Nat)(h:i<L.length):DK (L.take (i+1))=DK (L.take i)++(if L[i].yanked then []else [(plc L[i].ver,plc L[i].ver+1)]):=by
 unfold DK;rw[Bi,Ge h,De,Az]
 congr 1
 cases hy:L[i].yanked<;>simp[hy]
theorem sR(x:List Rl)(ifs:List (List AV))(p:ByteArray)(aY:da x ifs):PC 86 [GP x ifs,vs p] (sl Ao (BZ x p)):=by
 by_cases h0:AU x=0
 ·have aY:PC 41 [GP x ifs] (.tup [.agg [.cmap Tw (x.map SC),.cmap CM ((AO x []).map (iq x))],vi 0]):=by
   have:=aY;unfold da VY at this;rw[Aq h0]at this;exact this
  have kV:=(Nm h0).1;obtain⟨L,rz⟩:∃L,L=x.filter fun r=>decide (r.path=p):=⟨_,rfl⟩;have hL:JY x p=L:=by unfold JY;rw[Ai (by omega),rz]
  have wM:L.length≤256:=by have:=BA (fun r:Rl=>decide (r.path=p)) x;rw[rz];omega
  refine Ps lc Tryz.func86 rfl (Nz rfl) ?_;refine Yi (Nz rfl) ?_;refine Xi .pure (Xi _ (Yi (aY) ?_));refine Yi (Nz rfl) ?_;refine Xi ⟨[(1,vs p),(5,.ref 5 0)],[(5,.cells [.cmap Tw (x.map SC),.cmap CM ((AO x []).map (iq x))])],Aa⟩ (Yi ⟨Z2,Z1,Fh,Tv⟩ ?_)
  refine Xi ⟨[(1,vs p),(5,.ref 5 0),(7,.slice (.id 7 2) [])],[(5,.cells [.cmap Tw (x.map SC),.cmap CM ((AO x []).map (iq x))]),(7,.tok 2 0)],Aa⟩ (Yi ⟨Z3,Z2,Fh,Tv⟩ ?_)
  refine Yi ?_ ?_
  ·intro a ha;have ea:a=sl Ag L:=by rw[rz];exact jy ha
   subst ea;refine Xi {i:Nat // i≤L.length} (Xi (fun i=>⟨[(7,.slice (.id 7 2) ((DK (L.take i.1)).map Ao)),(18,sl Ag L),(19,vi (L.map Ag).length),(20,vi i.1)],[(7,.tok 2 ((DK (L.take i.1)).map Ao).length)],Aa⟩) (Xi (fun i=>L.length-i.1) (Yi (Xi ⟨0,AL _⟩ ?_) ?_)))
   ·exact⟨Z4,Z1,Fh,Tv⟩
   intro⟨i,i1⟩;have Wh:=Y6 (L.take i);rw[AE]at Wh;refine Yi ?_ ?_
   ·intro h;have h:(i:Int)<(L.map Ag).length:=h;have h:i<L.length:=by simpa using h
    have hg:L[i]?=some L[i]:=Ge h;refine Xi (Ag L[i]) (Yi (Yi (Nn i) (by simp[hg])) (Yi rfl ?_));refine Yi (Nz rfl) (Yi (Nz rfl) ?_);refine Xi ⟨[(7,.slice (.id 7 2) ((DK (L.take i)).map Ao)),(9,.ref 9 0),(18,sl Ag L),(19,vi (L.map Ag).length),(20,vi i)],[(7,.tok 2 ((DK (L.take i)).map Ao).length),(9,.cells (Ag L[i]))],Aa⟩ (Yi ⟨Z5,Z2,Fh,Tv⟩ ?_)
    refine Yi ?_ ?_
    ·intro hy;have hy:L[i].yanked=true:=hy;refine Yi (Ii i (by omega)) ?_;have es:DK (L.take (i+1))=DK (L.take i):=by rw[Ub L i h,hy];simp
     have e1:AV.slice (.id 7 2) ((DK (L.take i)).map Ao)=.slice (.id 7 2) ((DK (L.take (i+1))).map Ao):=by rw[es]
     have e2:HO.tok 2 ((DK (L.take i)).map Ao).length=.tok 2 ((DK (L.take (i+1))).map Ao).length:=by rw[es]
     refine Xi ⟨i+1,by omega⟩ ?_;exact⟨Dl L.length i (by omega),⟨⟨e1,rfl⟩,Zr,Zr,Zr,Tv⟩,⟨⟨e2,rfl⟩,Tv⟩,Fh,Tv⟩
    ·intro hy;have hy:L[i].yanked=false:=hy;have uw:=jU L[i].ver;refine Xi ⟨[(7,.slice (.id 7 2) ((DK (L.take i)).map Ao)),(9,.ref 9 0),(18,sl Ag L),(19,vi (L.map Ag).length),(20,vi i)],[(7,.tok 2 ((DK (L.take i)).map Ao).length),(9,.cells (Ag L[i]))],Aa⟩ (Yi ⟨Z5,Z2,Fh,Tv⟩ ?_)
     refine Yi (Nz rfl) ?_;refine Xi _ (Yi (wB L[i]) ?_);refine Yi (Nz rfl) ?_;refine Xi _ (Yi (wB L[i]) ?_);refine Yi (by show BK (plc L[i].ver+1);unfold BK;omega) ?_;have G9:Df 2 [[vi (plc L[i].ver),vi (plc L[i].ver+1)]]∧((DK (L.take i)).map Ao).length=((DK (L.take i)).map Ao).length∧(((DK (L.take i)).map Ao).length+[[vi (plc L[i].ver),vi (plc L[i].ver+1)]].length)*16≤140737488355328∧((DK (L.take i)).map Ao).length+[[vi (plc L[i].ver),vi (plc L[i].ver+1)]].length≤9223372036854775807 :=
      ⟨⟨rfl,trivial⟩,rfl,by rw[Lm,A5];omega,by rw[Lm,A5];omega⟩
     refine Yi G9 ?_;refine Yi (by kernel_rfl) ?_;refine Yi (Ii i (by omega)) ?_;have es:DK (L.take (i+1))=DK (L.take i)++[(plc L[i].ver,plc L[i].ver+1)]:=by rw[Ub L i h,hy];simp
     have e1:AV.slice (.id 7 2) ((DK (L.take i)).map Ao++[[vi (plc L[i].ver),vi (plc L[i].ver+1)]])=.slice (.id 7 2) ((DK (L.take (i+1))).map Ao):=by rw[es,Az];rfl
     have e2:HO.tok 2 (((DK (L.take i)).map Ao).length+[[vi (plc L[i].ver),vi (plc L[i].ver+1)]].length)=.tok 2 ((DK (L.take (i+1))).map Ao).length:=by rw[es,Az,Ad];rfl
     refine Xi ⟨i+1,by omega⟩ ?_;exact⟨Dl L.length i (by omega),⟨⟨e1,rfl⟩,Zr,Zr,Zr,Tv⟩,⟨⟨e2,rfl⟩,Tv⟩,Fh,Tv⟩
   ·intro h;have h:¬(i:Int)<(L.map Ag).length:=h;have h:¬i<L.length:=by simpa using h
    have et:L.take i=L:=AD (by omega);refine Xi ⟨[(7,.slice (.id 7 2) ((DK (L.take i)).map Ao))],[(7,.tok 2 ((DK (L.take i)).map Ao).length)],Aa⟩ (Yi ⟨Z1,Z1,Fh,Tv⟩ ?_)
    have hc:PC 116 [sl Ao (DK (L.take i))] (sl Ao (canon (DK (L.take i)))):=Wv _ (by unfold CJ;omega);refine Xi .pure (Xi _ (Yi (hc) ?_));exact .of_eq (show sl Ao (canon (DK (L.take i)))=sl Ao (BZ x p) by rw[et];unfold BZ;rw[hL])
  ·intro hn;have hL:JY x p=[]:=by
    rw[hL,rz,G6];intro r hr he;have he:=Ba he;exact hn _ (Ak.2 ⟨p,(G4 x [] p).2 (.inr ⟨r,hr,he⟩),rfl⟩)
   refine Xi Unit (Xi (fun _=>⟨[(7,.slice (.id 7 2) []),(19,vi 0),(20,vi 0)],[(7,.tok 2 0)],Aa⟩) (Xi (fun _=>0) (Yi (Xi () ?_) ?_)))
   ·exact⟨Z3,Z1,Fh,Tv⟩
   intro _;refine Yi ?_ ?_
   ·intro h;exact absurd (show(0:Int)<0 from h) (by decide)
   intro _;refine Xi ⟨[(7,.slice (.id 7 2) [])],[(7,.tok 2 0)],Aa⟩ (Yi ⟨Z1,Z1,Fh,Tv⟩ ?_)
   have hc:PC 116 [sl Ao []] (sl Ao (canon [])):=Wv [] (by unfold CJ;simp);refine Xi .pure (Xi _ (Yi (hc) ?_));exact .of_eq (show sl Ao (canon [])=sl Ao (BZ x p) by unfold BZ;rw[hL];rfl)
 ·have aY:PC 41 [GP x ifs] (.tup [.agg [.cmap Tw [],.cmap CM []],vi (AU x)]):=by
   have:=aY;unfold da VY at this;rw[Ai h0]at this;exact this
  have hL:JY x p=[]:=by unfold JY;rw[Aq h0]
  refine Ps lc Tryz.func86 rfl (Nz rfl) ?_;refine Yi (Nz rfl) ?_;refine Xi .pure (Xi _ (Yi (aY) ?_));refine Yi (Nz rfl) ?_;refine Xi ⟨[(1,vs p),(5,.ref 5 0)],[(5,.cells [.cmap Tw [],.cmap CM []])],Aa⟩ (Yi ⟨Z2,Z1,Fh,Tv⟩ ?_)
  refine Xi ⟨[(1,vs p),(5,.ref 5 0),(7,.slice (.id 7 2) [])],[(5,.cells [.cmap Tw [],.cmap CM []]),(7,.tok 2 0)],Aa⟩ (Yi ⟨Z3,Z2,Fh,Tv⟩ ?_)
  refine Yi ?_ ?_
  ·intro a ha;cases ha
  ·intro _;refine Xi Unit (Xi (fun _=>⟨[(7,.slice (.id 7 2) []),(19,vi 0),(20,vi 0)],[(7,.tok 2 0)],Aa⟩) (Xi (fun _=>0) (Yi (Xi () ?_) ?_)))
   ·exact⟨Z3,Z1,Fh,Tv⟩
   intro _;refine Yi ?_ ?_
   ·intro h;exact absurd (show(0:Int)<0 from h) (by decide)
   intro _;refine Xi ⟨[(7,.slice (.id 7 2) [])],[(7,.tok 2 0)],Aa⟩ (Yi ⟨Z1,Z1,Fh,Tv⟩ ?_)
   have hc:PC 116 [sl Ao []] (sl Ao (canon [])):=Wv [] (by unfold CJ;simp);refine Xi .pure (Xi _ (Yi (hc) ?_));exact .of_eq (show sl Ao (canon [])=sl Ao (BZ x p) by unfold BZ;rw[hL];rfl)
theorem Rw(x:List Rl)(p:ByteArray):CJ (BZ x p):=by
 unfold BZ CJ
 have:=HR (B9 (((JY x p).filter fun r=>!r.yanked).map fun r=>(plc r.ver,plc r.ver+1)));omega
end Go.Eng
