/- Lemmas for the claims of this seat, without a condition: part 21 (C38, C39, LayStr, C40, C41, C42, C43, C44, C45, C46, C47, C48, C49, C50, C51, C52, C53, C54, C55). -/
import Derived.Test.YtddfphmpfnmknaaGreatDoorBA20
import Derived.Shelf.Strings.SplitShaped
import Derived.Shelf.Strings.LastIndexAll
import Derived.Shelf.Strings.Search3
import Derived.Shelf.Small.Wraps
import Derived.Ground.NamesProg
import Derived.Lib.LastIndexLaws
namespace Go.Eng
open Go.Proofs
abbrev ol(r:Rl)(a:AV):List AV:=[vs r.path,vi r.ver.a,vi r.ver.b,vi r.ver.c,a,vs r.arch,vs r.ifc,vs r.cert,vb r.yanked]
abbrev uX:Rk:=⟨[],[],[],[],[],[],[],[(9,(1,4,900,2))],[],[],[6,7]⟩
theorem tb(r:Rl)(hr:r.reqs.length≤1000)(hs:∀q∈r.reqs,CU q.set):PC 42 [.agg (Ah r)] (.agg (Ah r)):=by
 refine Ps uX Tryz.func42 rfl (Nz rfl) ?_;refine Yi (Nz rfl) ?_;refine Xi {i:Nat // i≤r.reqs.length} (Xi (fun i=>⟨[(1,.ref 1 0),(2,.ref 2 0),(9,sl AN r.reqs),(10,vi (r.reqs.map AN).length),(11,vi i.1)],[(1,.cells (ol r (.slice (.id 900 2) ((r.reqs.take i.1).map AN)))),(2,.cells XS),(900,.tok 2 ((r.reqs.take i.1).map AN).length)],Aa⟩) (Xi (fun i=>r.reqs.length-i.1) (Yi (Xi ⟨0,AO _⟩ ?_) ?_)))
 ·exact⟨Z5,Z3,Fh,Tv⟩
 intro⟨i,h1⟩;refine Yi ?_ ?_
 ·intro h;have h:(i:Int)<(r.reqs.map AN).length:=h;have h:i<r.reqs.length:=by simpa using h
  have hg:r.reqs[i]?=some r.reqs[i]:=Ge h;refine Xi (AN r.reqs[i]) (Yi (Yi (Nn i) (by simp[hg])) (Yi rfl ?_));have hq:=hs r.reqs[i] (At h);refine Yi (Nz rfl) (Yi (Nz rfl) ?_);refine Xi ⟨[(1,.ref 1 0),(2,.ref 2 0),(5,.ref 5 0),(9,sl AN r.reqs),(10,vi (r.reqs.map AN).length),(11,vi i)],[(1,.cells (ol r (.slice (.id 900 2) ((r.reqs.take i).map AN)))),(2,.cells XS),(5,.cells (AN r.reqs[i])),(900,.tok 2 ((r.reqs.take i).map AN).length)],Aa⟩ (Yi ⟨Z6,Z4,Fh,Tv⟩ ?_)
  refine Xi .pure (Xi _ (Yi (sC r.reqs[i].set hq) ?_));refine Yi (Nz rfl) ?_;refine Xi ⟨[(1,.ref 1 0),(2,.ref 2 0),(5,.ref 5 0),(9,sl AN r.reqs),(10,vi (r.reqs.map AN).length),(11,vi i)],[(1,.cells (ol r (.slice (.id 900 2) ((r.reqs.take i).map AN)))),(2,.cells XS),(5,.cells (AN r.reqs[i])),(900,.tok 2 ((r.reqs.take i).map AN).length)],Aa⟩ (Yi ⟨Z6,Z4,Fh,Tv⟩ ?_)
  refine Yi (Nz rfl) ?_;have G9:De 2 [AN r.reqs[i]]∧((r.reqs.take i).map AN).length=((r.reqs.take i).map AN).length∧(((r.reqs.take i).map AN).length+[AN r.reqs[i]].length)*40≤140737488355328∧((r.reqs.take i).map AN).length+[AN r.reqs[i]].length≤9223372036854775807 :=
   ⟨⟨rfl,trivial⟩,rfl,by rw[Lm,AB,A5];omega,by rw[Lm,AB,A5];omega⟩
  refine Yi G9 ?_;refine Yi (Nz rfl) ?_;refine Yi (Ii i (by omega)) ?_;refine Xi ⟨i+1,by omega⟩ ?_;have et:(r.reqs.take (i+1)).map AN=(r.reqs.take i).map AN++[AN r.reqs[i]]:=by rw[Bn,hg,Ay];rfl
  have e1:HO.cells (ol r (.slice (.id 900 2) ((r.reqs.take i).map AN++[AN r.reqs[i]])))=.cells (ol r (.slice (.id 900 2) ((r.reqs.take (i+1)).map AN))):=by rw[et]
  have e2:HO.tok 2 (((r.reqs.take i).map AN).length+[AN r.reqs[i]].length)=.tok 2 ((r.reqs.take (i+1)).map AN).length:=by rw[et,Ac]
  exact⟨Dl r.reqs.length i (by omega),Z5,⟨⟨e1,rfl⟩,Zr,⟨e2,rfl⟩,Tv⟩,Fh,Tv⟩
 ·intro h;have h:¬(i:Int)<(r.reqs.map AN).length:=h;have h:¬i<r.reqs.length:=by simpa using h
  refine Yi (Nz rfl) (Yi (Nz rfl) (Yi (Nz rfl) ?_));have e:AV.agg (ol r (.slice .none ((r.reqs.take i).map AN)))=.agg (Ah r):=by rw[AD (by omega)]
  exact .of_eq e
abbrev vc(c:UInt8):AV:=.v (.int .u8 c.toNat)
theorem gU(a:UInt8)(n:Nat)(h:n<256):decide (UInt8.ofNat n≤a)=decide ((n:Int)≤(a.toNat:Int)):=by
 rw[BO,Av,Av,K3,show(UInt8.ofNat n).toNat=n by simp;omega];omega
theorem gT(a:UInt8)(n:Nat)(h:n<256):decide (a≤UInt8.ofNat n)=decide ((a.toNat:Int)≤(n:Int)):=by
 rw[BO,Av,Av,K3,show(UInt8.ofNat n).toNat=n by simp;omega];omega
theorem lS(c:UInt8):PC 162 [vc c] (vb (GR c)):=by
 refine Ps Ga Tryz.func162 rfl (Nz rfl) ?_;have e1:decide ((97:UInt8)≤c)=decide ((97:Int)≤(c.toNat:Int)):=gU c 97 (by decide);have e2:decide (c≤(122:UInt8))=decide ((c.toNat:Int)≤(122:Int)):=gT c 122 (by decide);have es:GR c=(decide ((97:Int)≤(c.toNat:Int))&&decide ((c.toNat:Int)≤(122:Int))):=by unfold GR;rw[e1,e2]
 refine Yi ?_ ?_
 ·intro h;have h:(97:Int)≤(c.toNat:Int):=h;refine Yi ?_ ?_
  ·intro h2;have h2:(c.toNat:Int)≤122:=h2;exact .of_eq (Ad vb (show true=GR c by rw[es,AE h,AE h2];rfl))
  ·intro h2;have h2:¬(c.toNat:Int)≤122:=h2;exact .of_eq (Ad vb (show false=GR c by rw[es,AG h2,D4]))
 ·intro h;have h:¬(97:Int)≤(c.toNat:Int):=h;exact .of_eq (Ad vb (show false=GR c by rw[es,AG h];rfl))
theorem lU(c:UInt8):PC 163 [vc c] (vb (EN c)):=by
 refine Ps Ga Tryz.func163 rfl (Nz rfl) ?_;have e1:decide ((48:UInt8)≤c)=decide ((48:Int)≤(c.toNat:Int)):=gU c 48 (by decide);have e2:decide (c≤(57:UInt8))=decide ((c.toNat:Int)≤(57:Int)):=gT c 57 (by decide);have es:EN c=(decide ((48:Int)≤(c.toNat:Int))&&decide ((c.toNat:Int)≤(57:Int))):=by unfold EN;rw[e1,e2]
 refine Yi ?_ ?_
 ·intro h;have h:(48:Int)≤(c.toNat:Int):=h;refine Yi ?_ ?_
  ·intro h2;have h2:(c.toNat:Int)≤57:=h2;exact .of_eq (Ad vb (show true=EN c by rw[es,AE h,AE h2];rfl))
  ·intro h2;have h2:¬(c.toNat:Int)≤57:=h2;exact .of_eq (Ad vb (show false=EN c by rw[es,AG h2,D4]))
 ·intro h;have h:¬(48:Int)≤(c.toNat:Int):=h;exact .of_eq (Ad vb (show false=EN c by rw[es,AG h];rfl))
theorem s8(c:UInt8):PC 231 [vc c] (vb (Vk c)):=by
 refine Ps Ga Tryz.func231 rfl (Nz rfl) ?_;have e1:decide ((65:UInt8)≤c)=decide ((65:Int)≤(c.toNat:Int)):=gU c 65 (by decide);have e2:decide (c≤(90:UInt8))=decide ((c.toNat:Int)≤(90:Int)):=gT c 90 (by decide);have es:Vk c=(decide ((65:Int)≤(c.toNat:Int))&&decide ((c.toNat:Int)≤(90:Int))):=by unfold Vk;rw[e1,e2]
 refine Yi ?_ ?_
 ·intro h;have h:(65:Int)≤(c.toNat:Int):=h;refine Yi ?_ ?_
  ·intro h2;have h2:(c.toNat:Int)≤90:=h2;exact .of_eq (Ad vb (show true=Vk c by rw[es,AE h,AE h2];rfl))
  ·intro h2;have h2:¬(c.toNat:Int)≤90:=h2;exact .of_eq (Ad vb (show false=Vk c by rw[es,AG h2,D4]))
 ·intro h;have h:¬(65:Int)≤(c.toNat:Int):=h;exact .of_eq (Ad vb (show false=Vk c by rw[es,AG h];rfl))
abbrev Y0(c:UInt8):Bool:=GR c||EN c
theorem sV(c:UInt8):PC 161 [vc c] (vb (Y0 c)):=by
 have h1:=lS c;have h2:=lU c;rcases Bt (GR c)with e | e
 ·rw[e]at h1;refine Ps Ga Tryz.func161 rfl (Nz rfl) ?_;refine Xi .pure (Xi _ (Yi (h1) ?_));exact .of_eq (Ad vb (show true=Y0 c by unfold Y0;rw[e];rfl))
 ·rw[e]at h1;refine Ps Ga Tryz.func161 rfl (Nz rfl) ?_;refine Xi .pure (Xi _ (Yi (h1) ?_));refine Xi .pure (Xi _ (Yi (h2) ?_));exact .of_eq (Ad vb (show EN c=Y0 c by unfold Y0;rw[e];rfl))
theorem sY(c:UInt8):PC 202 [vc c] (vb (L4 c)):=by
 have h1:=lS c;have h2:=s8 c;have h3:=lU c;have ew:L4 c=(GR c||Vk c||EN c||decide (c=95)):=rfl;rcases Bt (GR c)with e | e
 ·rw[e]at h1;refine Ps Ga Tryz.func202 rfl (Nz rfl) ?_;refine Xi .pure (Xi _ (Yi (h1) ?_));exact .of_eq (Ad vb (show true=L4 c by rw[ew,e];rfl))
 rw[e]at h1;rcases Bt (Vk c)with e2 | e2
 ·rw[e2]at h2;refine Ps Ga Tryz.func202 rfl (Nz rfl) ?_;refine Xi .pure (Xi _ (Yi (h1) ?_));refine Xi .pure (Xi _ (Yi (h2) ?_));exact .of_eq (Ad vb (show true=L4 c by rw[ew,e,e2];rfl))
 rw[e2]at h2;rcases Bt (EN c)with e3 | e3
 ·rw[e3]at h3;refine Ps Ga Tryz.func202 rfl (Nz rfl) ?_;refine Xi .pure (Xi _ (Yi (h1) ?_));refine Xi .pure (Xi _ (Yi (h2) ?_));refine Xi .pure (Xi _ (Yi (h3) ?_));exact .of_eq (Ad vb (show true=L4 c by rw[ew,e,e2,e3];rfl))
 rw[e3]at h3;refine Ps Ga Tryz.func202 rfl (Nz rfl) ?_;refine Xi .pure (Xi _ (Yi (h1) ?_));refine Xi .pure (Xi _ (Yi (h2) ?_));refine Xi .pure (Xi _ (Yi (h3) ?_));have eb:decide (c=95)=decide ((c.toNat:Int)=95):=by
  rw[BO,Av,Av];constructor
  ·intro h;subst h;rfl
  ·intro h;exact UInt8.toNat_inj.1 (by show c.toNat=95;omega)
 refine Yi ?_ ?_
 ·intro h;have h:(c.toNat:Int)=95:=h;exact .of_eq (Ad vb (show true=L4 c by rw[ew,e,e2,e3,eb,AE h];rfl))
 ·intro h;have h:¬(c.toNat:Int)=95:=h;exact .of_eq (Ad vb (show false=L4 c by rw[ew,e,e2,e3,eb,AG h];rfl))
theorem Y9(s:ByteArray)(i:Nat)(h:i<s.data.toList.length):s.data[i]?=some s.data.toList[i]:=by
 rw[←A1];exact Ge h
theorem lR(s:ByteArray)(f:Nat)(q:UInt8→Bool)(hf:∀c,PC f [vc c] (vb (q c)))(hs:s.data.toList.length<4611686018427387904):PC 160 [vs s,.v (TE f)] (vb (s.data.toList.all q)):=by
 have Et:s.size=s.data.toList.length:=by simp
 refine Ps Ga Tryz.func160 rfl (Nz rfl) ?_;refine Xi {i:Nat // i≤s.data.toList.length∧∀j (hj:j<s.data.toList.length),j<i→q s.data.toList[j]=true} (Xi (fun i=>⟨[(0,vs s),(1,.v (TE f)),(7,vi s.size),(8,vi i.1)],[],Aa⟩) (Xi (fun i=>s.data.toList.length-i.1) (Yi (Xi ⟨0,AO _,fun j _ h=>by omega⟩ ?_) ?_)))
 ·exact⟨Z4,Tv,Fh,Tv⟩
 intro⟨i,h1,h2⟩;refine Yi ?_ ?_
 ·intro h;have h:(i:Int)<(s.size:Nat):=h;have h:i<s.data.toList.length:=by omega
  refine Xi s.data.toList[i] (Yi ⟨by show(0:Int)≤i;omega,by show s.data[((i:Nat):Int).toNat]?=_;rw[Cn];exact Y9 s i h⟩ ?_);have hc:=hf s.data.toList[i];refine Dj (Bt (q s.data.toList[i])) (fun e=>?_) (fun e=>?_)
  ·rw[e]at hc;refine Xi .pure (Xi _ (Yi (hc) ?_));refine Yi (Ii i (by omega)) ?_;refine Xi ⟨i+1,by omega,fun j hj Nb=>?_⟩ ?_
   ·rcases Ez j i with z | z
    ·exact h2 j hj z
    ·have:j=i:=by omega
     subst this;exact e
   ·exact⟨Dl s.data.toList.length i (by omega),Z4,Tv,Fh,Tv⟩
  ·rw[e]at hc;refine Xi .pure (Xi _ (Yi (hc) ?_));have er:s.data.toList.all q=false:=by
    rw[AK];intro ha
    have:=Bs.1 ha _ (At h)
    rw[e]at this;cases this
   exact .of_eq (Ad vb er.symm)
 ·intro h;have h:¬(i:Int)<(s.size:Nat):=h;have er:s.data.toList.all q=true:=Bs.2 fun c hc=>by
   obtain⟨j,hj,rfl⟩:=Fs hc;exact h2 j hj (by omega)
  exact .of_eq (Ad vb er.symm)
end Go.Eng
namespace Go.Proofs
open Go.Shelf
def Tryz.laySplit_ren:Go.Shelf.Ren:=⟨fun | 146=>157 | 221=>200 | 268=>227 | 138=>228 | 143=>229 | 195=>250 | 197=>251 | 218=>252 | 219=>253 | 260=>271 | 217=>272 | 225=>273 | 224=>274 | 267=>275 | 266=>290 | 314=>291 | n=>n,fun | 9=>9 | 31=>139 | 3=>3 | 4=>4 | 0=>0 | 105=>291 | 21=>21 | 5=>5 | 46=>174 | 119=>313 | 139=>316 | 138=>315 | 146=>260 | 51=>211 | n=>n,fun | 1=>0 | 3=>1 | 4=>2 | n=>n⟩
theorem Tryz.laySplit:Go.Proofs.Lays.n146 Tryz.prog Tryz.laySplit_ren:={
 mixed:=by kernel_rfl
 f138:=Tryz.func228.trans (congrArg some (by kernel_rfl))
 f143:=Tryz.func229.trans (congrArg some (by kernel_rfl))
 f146:=Tryz.func157.trans (congrArg some (by kernel_rfl))
 f195:=Tryz.func250.trans (congrArg some (by kernel_rfl))
 f197:=Tryz.func251.trans (congrArg some (by kernel_rfl))
 f217:=Tryz.func272.trans (congrArg some (by kernel_rfl))
 f218:=Tryz.func252.trans (congrArg some (by kernel_rfl))
 f219:=Tryz.func253.trans (congrArg some (by kernel_rfl))
 f221:=Tryz.func200.trans (congrArg some (by kernel_rfl))
 f224:=Tryz.func274.trans (congrArg some (by kernel_rfl))
 f225:=Tryz.func273.trans (congrArg some (by kernel_rfl))
 f260:=Tryz.func271.trans (congrArg some (by kernel_rfl))
 f266:=Tryz.func290.trans (congrArg some (by kernel_rfl))
 f267:=Tryz.func275.trans (congrArg some (by kernel_rfl))
 f268:=Tryz.func227.trans (congrArg some (by kernel_rfl))
 f314:=Tryz.func291.trans (congrArg some (by kernel_rfl))
 t0:=Tryz.underlying0
 a0:=Tryz.isAgg0
 z0:=Tryz.sizeOf0
 v0:=Tryz.zeroValue0
 t3:=Tryz.underlying3
 a3:=Tryz.isAgg3
 z3:=Tryz.sizeOf3
 v3:=Tryz.zeroValue3
 t4:=Tryz.underlying4
 a4:=Tryz.isAgg4
 z4:=Tryz.sizeOf4
 v4:=Tryz.zeroValue4
 t5:=Tryz.underlying5
 a5:=Tryz.isAgg5
 z5:=Tryz.sizeOf5
 v5:=Tryz.zeroValue5
 t9:=Tryz.underlying9
 a9:=Tryz.isAgg9
 z9:=Tryz.sizeOf9
 v9:=Tryz.zeroValue9
 t21:=Tryz.underlying21
 a21:=Tryz.isAgg21
 z21:=Tryz.sizeOf21
 v21:=Tryz.zeroValue21
 t31:=Tryz.underlying139
 a31:=Tryz.isAgg139
 z31:=Tryz.sizeOf139
 v31:=Tryz.zeroValue139
 t46:=Tryz.underlying174
 a46:=Tryz.isAgg174
 z46:=Tryz.sizeOf174
 v46:=Tryz.zeroValue174
 t51:=Tryz.underlying211
 a51:=Tryz.isAgg211
 z51:=Tryz.sizeOf211
 v51:=Tryz.zeroValue211
 t105:=Tryz.underlying291
 a105:=Tryz.isAgg291
 z105:=Tryz.sizeOf291
 v105:=Tryz.zeroValue291
 t119:=Tryz.underlying313
 a119:=Tryz.isAgg313
 z119:=Tryz.sizeOf313
 t138:=Tryz.underlying315
 a138:=Tryz.isAgg315
 z138:=Tryz.sizeOf315
 v138:=Tryz.zeroValue315
 t139:=Tryz.underlying316
 a139:=Tryz.isAgg316
 z139:=Tryz.sizeOf316
 v139:=Tryz.zeroValue316
 t146:=Tryz.underlying260
 a146:=Tryz.isAgg260
 z146:=Tryz.sizeOf260
 v146:=Tryz.zeroValue260
 g1:=by kernel_rfl
 g3:=by kernel_rfl
 g4:=by kernel_rfl }
def Tryz.layLast_ren:Go.Shelf.Ren:=⟨fun | 148=>111 | 222=>164 | 223=>165 | 269=>204 | n=>n,fun | 9=>9 | 3=>3 | 4=>4 | 5=>5 | 146=>260 | 51=>211 | 46=>174 | n=>n,fun | n=>n⟩
theorem Tryz.layLast:Go.Proofs.Lays.n148 Tryz.prog Tryz.layLast_ren:={
 mixed:=by kernel_rfl
 f148:=Tryz.func111.trans (congrArg some (by kernel_rfl))
 f222:=Tryz.func164.trans (congrArg some (by kernel_rfl))
 f223:=Tryz.func165.trans (congrArg some (by kernel_rfl))
 f269:=Tryz.func204.trans (congrArg some (by kernel_rfl))
 t3:=Tryz.underlying3
 a3:=Tryz.isAgg3
 z3:=Tryz.sizeOf3
 v3:=Tryz.zeroValue3
 t4:=Tryz.underlying4
 a4:=Tryz.isAgg4
 z4:=Tryz.sizeOf4
 v4:=Tryz.zeroValue4
 t5:=Tryz.underlying5
 a5:=Tryz.isAgg5
 z5:=Tryz.sizeOf5
 v5:=Tryz.zeroValue5
 t9:=Tryz.underlying9
 a9:=Tryz.isAgg9
 z9:=Tryz.sizeOf9
 v9:=Tryz.zeroValue9
 t46:=Tryz.underlying174
 a46:=Tryz.isAgg174
 z46:=Tryz.sizeOf174
 v46:=Tryz.zeroValue174
 t51:=Tryz.underlying211
 a51:=Tryz.isAgg211
 z51:=Tryz.sizeOf211
 v51:=Tryz.zeroValue211
 t146:=Tryz.underlying260
 a146:=Tryz.isAgg260
 z146:=Tryz.sizeOf260
 v146:=Tryz.zeroValue260 }
def Tryz.layCut_ren:Go.Shelf.Ren:=⟨fun | 103=>201 | 210=>230 | 206=>254 | n=>n,fun | 9=>9 | 4=>4 | 24=>216 | 3=>3 | n=>n,fun | n=>n⟩
theorem Tryz.layCut:Go.Proofs.Lays.n103 Tryz.prog Tryz.layCut_ren:={
 mixed:=by kernel_rfl
 f103:=Tryz.func201.trans (congrArg some (by kernel_rfl))
 f206:=Tryz.func254.trans (congrArg some (by kernel_rfl))
 f210:=Tryz.func230.trans (congrArg some (by kernel_rfl))
 t3:=Tryz.underlying3
 a3:=Tryz.isAgg3
 z3:=Tryz.sizeOf3
 v3:=Tryz.zeroValue3
 t4:=Tryz.underlying4
 a4:=Tryz.isAgg4
 z4:=Tryz.sizeOf4
 v4:=Tryz.zeroValue4
 t9:=Tryz.underlying9
 a9:=Tryz.isAgg9
 z9:=Tryz.sizeOf9
 v9:=Tryz.zeroValue9
 t24:=Tryz.underlying216
 a24:=Tryz.isAgg216
 z24:=Tryz.sizeOf216
 v24:=Tryz.zeroValue216 }
def Tryz.layCont_ren:Go.Shelf.Ren:=⟨fun | 144=>232 | 143=>229 | 219=>253 | 217=>272 | 225=>273 | 224=>274 | 267=>275 | 266=>290 | 314=>291 | n=>n,fun | 9=>9 | 4=>4 | 3=>3 | 5=>5 | 46=>174 | 146=>260 | 51=>211 | n=>n,fun | 1=>0 | n=>n⟩
theorem Tryz.layCont:Go.Proofs.Lays.n144 Tryz.prog Tryz.layCont_ren:={
 mixed:=by kernel_rfl
 f143:=Tryz.func229.trans (congrArg some (by kernel_rfl))
 f144:=Tryz.func232.trans (congrArg some (by kernel_rfl))
 f217:=Tryz.func272.trans (congrArg some (by kernel_rfl))
 f219:=Tryz.func253.trans (congrArg some (by kernel_rfl))
 f224:=Tryz.func274.trans (congrArg some (by kernel_rfl))
 f225:=Tryz.func273.trans (congrArg some (by kernel_rfl))
 f266:=Tryz.func290.trans (congrArg some (by kernel_rfl))
 f267:=Tryz.func275.trans (congrArg some (by kernel_rfl))
 f314:=Tryz.func291.trans (congrArg some (by kernel_rfl))
 t3:=Tryz.underlying3
 a3:=Tryz.isAgg3
 z3:=Tryz.sizeOf3
 v3:=Tryz.zeroValue3
 t4:=Tryz.underlying4
 a4:=Tryz.isAgg4
 z4:=Tryz.sizeOf4
 v4:=Tryz.zeroValue4
 t5:=Tryz.underlying5
 a5:=Tryz.isAgg5
 z5:=Tryz.sizeOf5
 v5:=Tryz.zeroValue5
 t9:=Tryz.underlying9
 a9:=Tryz.isAgg9
 z9:=Tryz.sizeOf9
 v9:=Tryz.zeroValue9
 t46:=Tryz.underlying174
 a46:=Tryz.isAgg174
 z46:=Tryz.sizeOf174
 v46:=Tryz.zeroValue174
 t51:=Tryz.underlying211
 a51:=Tryz.isAgg211
 z51:=Tryz.sizeOf211
 v51:=Tryz.zeroValue211
 t146:=Tryz.underlying260
 a146:=Tryz.isAgg260
 z146:=Tryz.sizeOf260
 v146:=Tryz.zeroValue260
 g1:=by kernel_rfl }
end Go.Proofs
namespace Go.Eng
open Go.Proofs
abbrev X6:ByteArray:=⟨#[47]⟩
abbrev Bz(s:ByteArray):List ByteArray:=Go.Lib.splitB X6 0 (Go.Lib.countB s X6) s
theorem Oz(s:ByteArray):(Bz s).map (·.data.toList)=Fb 47 s.data.toList:=cq s 47
abbrev Jo(s:ByteArray):List AV:=[vs s]
theorem oO(s:ByteArray)(hs:HF s):PC 157 [vs s,vs X6] (sl Jo (Bz s)):=by
 unfold HF at hs;have h:=bW (P:=Tryz.prog) (f:=157) (args:=[vs s,vs X6]) [.string s,.string X6] ((Bz s).map Value.string) 9 (cI 157 Tryz.func157 (by kernel_rfl) rfl) rfl (fun x hx=>by
  obtain⟨y,_,rfl⟩:=Al.1 hx;rfl) (fun w hm=>by
  obtain⟨m,hm⟩:=hm;have hl:(Bz s).length=Go.Lib.countB s X6+1:=Go.Lib.splitB_all X6 (by decide) 0 _ s rfl;refine(Any.strings_Split Tryz.laySplit (by kernel_rfl) s X6 m w (by omega) hm (by decide)).mono ?_
  rintro e w' ⟨rfl,rfl⟩
  exact⟨by rw[Lm,hl],rfl⟩)
 rw[BK]at h;exact h
theorem sN(s p:ByteArray)(hs:HF s):PC 111 [vs s,vs p] (vi (Go.Lib.lastIndex s.data.toList p.data.toList)):=by
 unfold HF at hs;exact KU [.string s,.string p] (.int .i64 (Go.Lib.lastIndex s.data.toList p.data.toList)) (cI 111 Tryz.func111 (by kernel_rfl) rfl) rfl (fun g w=>.v _ _) fun w _=>Any.strings_LastIndex Tryz.layLast s p (by omega) w
theorem sX(s p:ByteArray):PC 201 [vs s,vs p] (.tup [vs ⟨(Go.Lib.trimPrefix s.data.toList p.data.toList).toArray⟩,vb (Go.Lib.hasPrefix s.data.toList p.data.toList)]):=by
 exact KU [.string s,.string p] _ (cI 201 Tryz.func201 (by kernel_rfl) rfl) rfl (fun g w=>gw [.string ⟨(Go.Lib.trimPrefix s.data.toList p.data.toList).toArray⟩,.bool (Go.Lib.hasPrefix s.data.toList p.data.toList)]) fun w _=>Any.strings_CutPrefix Tryz.layCut s p w
theorem s9(s p:ByteArray)(hs:HF s):PC 232 [vs s,vs p] (vb (Go.Lib.contains s.data.toList p.data.toList)):=by
 unfold HF at hs;exact KU [.string s,.string p] (.bool (Go.Lib.contains s.data.toList p.data.toList)) (cI 232 Tryz.func232 (by kernel_rfl) rfl) rfl (fun g w=>.v _ _) fun w hm=>by
  obtain⟨m,hm⟩:=hm;exact Any.strings_Contains Tryz.layCont s p m w (by omega) hm
theorem ZQ:∀x y:List UInt8,cc x y=x.isPrefixOf y
 | [],_=>by simp[cc]
 |_::_,[]=>rfl
 |a::x,b::y=>by
  rw[cc,List.isPrefixOf_cons_cons,ZQ x y]
  rfl
theorem ff(x:List UInt8):∀y:List UInt8,rU x y=Go.Lib.contains y x
 | []=>by
  unfold Go.Lib.contains Go.Lib.index;cases x<;>rfl
 |b::y=>by
  rw[rU,ZQ,ff x y];unfold Go.Lib.contains;have hg:=Go.Lib.index_ge y x
  conv=>rhs;unfold Go.Lib.index
  cases h:x.isPrefixOf (b::y)with
  |true=>simp
  |false =>
   simp only[Lo,Dc,F7]
   by_cases h0:Go.Lib.index y x=-1
   ·rw[h0];rfl
   ·have h1:(Go.Lib.index y x == -1)=false:=by simpa using h0
    rw[h1];simp only[Dc,F7];rw[AE (by omega),AE (by omega)]
theorem Sd:∀(l:List UInt8) (h:0<l.length),l.headD 0=l[0]
 | [],h=>by simp at h
 |_::_,_=>rfl
abbrev kY:ByteArray:=⟨⟨ft⟩⟩
theorem sZ(s:ByteArray)(hs:HF s):PC 203 [vs s] (vb (YB s.data.toList)):=by
 unfold HF at hs;have hc:=s9 kY ((⟨#[32]⟩++s)++⟨#[32]⟩) (HG (by kernel_rfl));have e:Go.Lib.contains kY.data.toList ((⟨#[32]⟩++s:ByteArray)++⟨#[32]⟩).data.toList=YB s.data.toList:=by
  unfold YB;rw[ff]
  congr 1
 rw[e]at hc;refine Ps Ga Tryz.func203 rfl (Nz rfl) ?_;refine Yi (by show(((1+s.size:Nat)):Int)≤_;omega) ?_;refine Yi (by show(((⟨#[32]⟩++s:ByteArray).size+1:Nat):Int)≤_;rw[ByteArray.size_append];show(((1+s.size)+1:Nat):Int)≤_;omega) ?_;refine Xi .pure (Xi _ (Yi (hc) ?_));exact .refl _
theorem sU(s:ByteArray)(hs:HF s):PC 159 [vs s] (vb (H4 s.data.toList)):=by
 have hk:=sZ s hs;have hw:=lR s 202 L4 sY (by unfold HF at hs;simp;omega);have Et:s.size=s.data.toList.length:=by simp
 have en:H4 s.data.toList=(!s.data.toList.isEmpty&&decide (s.data.toList.length≤32)&&GR (s.data.toList.headD 0)&&s.data.toList.all L4&&!YB s.data.toList):=rfl
 by_cases h0:s=⟨#[]⟩
 ·subst h0;refine Ps Ga Tryz.func159 rfl (Nz rfl) ?_;refine Yi ?_ ?_
  ·intro h;exact absurd rfl (show(⟨#[]⟩:ByteArray)≠⟨#[]⟩from h)
  ·intro _;exact .refl _
 have wH : s.data.toList≠[]:=fun e=>h0 (by
  have:s.data=#[]:=by rw[←Ir];exact e
  cases s;simp_all)
 have Cw:0<s.data.toList.length:=ME.2 wH;have TG:s.data.toList.isEmpty=false:=by
  cases hl:s.data.toList with
  |nil=>exact absurd hl wH
  |cons a l=>rfl
 have w9:s.data.toList.headD 0=s.data.toList[0]:=Sd _ Cw;have im:=lS s.data.toList[0];refine Ps Ga Tryz.func159 rfl (Nz rfl) ?_;refine Yi ?_ ?_
 rotate_left
 ·intro h;exact absurd h0 h
 intro _;refine Yi ?_ ?_
 rotate_left
 ·intro h;have h:¬((s.size:Nat):Int)≤32:=h;exact .of_eq (Ad vb (show false=H4 s.data.toList by rw[en,AG (by omega:¬s.data.toList.length≤32)];simp))
 intro h;have h:((s.size:Nat):Int)≤32:=h;refine Xi s.data.toList[0] (Yi ⟨BD _,Y9 s 0 Cw⟩ ?_);refine Dj (Bt (GR s.data.toList[0])) (fun e1=>?_) (fun e1=>?_)
 rotate_left
 ·rw[e1]at im;refine Xi .pure (Xi _ (Yi (im) ?_));exact .of_eq (Ad vb (show false=H4 s.data.toList by rw[en,w9,e1];simp))
 rw[e1]at im;refine Xi .pure (Xi _ (Yi (im) ?_));refine Dj (Bt (s.data.toList.all L4)) (fun e2=>?_) (fun e2=>?_)
 rotate_left
 ·rw[e2]at hw;refine Xi .pure (Xi _ (Yi (hw) ?_));exact .of_eq (Ad vb (show false=H4 s.data.toList by rw[en,e2];simp))
 rw[e2]at hw;refine Xi .pure (Xi _ (Yi (hw) ?_));have ef:H4 s.data.toList=!YB s.data.toList:=by rw[en,TG,w9,e1,e2,AE (by omega:s.data.toList.length≤32)];rfl
 refine Dj (Bt (YB s.data.toList)) (fun e3=>?_) (fun e3=>?_)
 ·rw[e3]at hk;refine Xi .pure (Xi _ (Yi (hk) ?_));exact .of_eq (Ad vb (show false=H4 s.data.toList by rw[ef,e3];rfl))
 ·rw[e3]at hk;refine Xi .pure (Xi _ (Yi (hk) ?_));exact .of_eq (Ad vb (show true=H4 s.data.toList by rw[ef,e3];rfl))
abbrev Wa:Option Int→AV
 |some n=>.tup [vi n,vb true]
 |none=>.tup [vi 0,vb false]
theorem ae{z:Int}(h0:0≤z)(h1:z<256):IntKind.u8.wrap z=z:=by
 show z % 256=z;omega
theorem Ui{c:UInt8}(h:EN c=true):48≤c.toNat∧c.toNat≤57:=by
 unfold EN at h;simp only[Af,Av]at h;exact⟨K3.1 h.1,K3.1 h.2⟩
theorem UI(r:List UInt8)(i:Nat)(h:i<r.length):Gl (r.take (i+1))=10*Gl (r.take i)+((r[i].toNat:Int)-48):=by
 unfold Gl;rw[Bn,Ge h,Ff];rfl
theorem sT(s:ByteArray)(hs:HF s):PC 158 [vs s] (Wa (Ln s.data.toList)):=by
 unfold HF at hs;have hc:=sX s ⟨#[118]⟩
 by_cases hp:∃r,s.data.toList=118::r
 ·obtain⟨r,hr⟩:=hp;have e1:Go.Lib.hasPrefix s.data.toList (⟨#[118]⟩:ByteArray).data.toList=true:=by rw[hr];rfl
  have e2:Go.Lib.trimPrefix s.data.toList (⟨#[118]⟩:ByteArray).data.toList=r:=by unfold Go.Lib.trimPrefix;rw[e1,Ao rfl,hr];rfl
  rw[e1,e2]at hc;have hv:Ln s.data.toList=if(r.isEmpty||decide (3<r.length)||(decide (1<r.length)&&decide (r.headD 0=48))||!r.all EN)=true then none else some (Gl r):=by rw[hr];rfl
  have Wf:r.length<s.size:=by
   have:s.size=s.data.toList.length:=by simp
   rw[this,hr];simp
  generalize hB:(⟨r.toArray⟩:ByteArray)=rB at hc;have jb:rB.data.toList=r:=by rw[←hB]
  have po:rB.size=r.length:=by rw[←hB];rfl
  have hw:=lR rB 163 EN lU (by rw[jb];omega);rw[jb]at hw;have no:∀{b:Bool},b=true→(if b=true then none else some (Gl r))=(none:Option Int):=fun h=>Ao h;refine Ps (Jf [2,4]) Tryz.func158 rfl (Nz rfl) ?_;refine Xi .pure (Xi _ (Yi (hc) ?_));refine Xi ⟨[(0,vs rB),(4,vb true)],[],Aa⟩ (Yi ⟨Z2,Tv,Fh,Tv⟩ ?_)
  refine Yi ?_ ?_
  ·intro h;have h:rB=⟨#[]⟩:=h
   have:r=[]:=by rw[←jb,h]
   exact .of_eq (Ad Wa (show(none:Option Int)=Ln s.data.toList by rw[hv,this];rfl))
  intro h;have h:¬rB=⟨#[]⟩:=h;have Dt:r≠[]:=fun e=>h (by rw[←hB,e]);have Cw:0<r.length:=ME.2 Dt;have TG:r.isEmpty=false:=by
   cases hl:r with
   |nil=>exact absurd hl Dt
   |cons a l=>rfl
  refine Yi ?_ ?_
  ·intro h2;have h2:(3:Int)<((rB.size:Nat):Int):=h2;exact .of_eq (Ad Wa (show(none:Option Int)=Ln s.data.toList by rw[hv,no];rw[AE (by omega:3<r.length)];simp))
  intro h2;have h2:¬(3:Int)<((rB.size:Nat):Int):=h2;have rK:r.length≤3:=by omega
  have d3:decide (3<r.length)=false:=AG (by omega);refine Yi ?_ ?_
  ·intro h3;have h3:(1:Int)<((rB.size:Nat):Int):=h3;have tG:rB.data[(0:Int).toNat]?=some r[0]:=by
    show rB.data[0]?=_;rw[←A1,jb];exact Ge Cw
   refine Xi r[0] (Yi ⟨BD _,tG⟩ ?_);have hh:=Sd r Cw;refine Yi ?_ ?_
   ·intro h4;have h4:(r[0].toNat:Int)=48:=h4
    have:r[0]=48:=UInt8.toNat_inj.1 (by show r[0].toNat=48;omega)
    exact .of_eq (Ad Wa (show(none:Option Int)=Ln s.data.toList by rw[hv,hh,this,AE (by omega:1<r.length)];simp))
   intro h4;have h4:¬(r[0].toNat:Int)=48:=h4;have eo:(decide (1<r.length)&&decide (r.headD 0=48))=false:=by rw[hh,AG (show ¬r[0]=48 from fun e=>h4 (by rw[e];rfl)),D4]
   have qm:Ln s.data.toList=if(!r.all EN)=true then none else some (Gl r):=by rw[hv,TG,d3,eo];rfl
   refine Dj (Bt (r.all EN)) (fun e3=>?_) (fun e3=>?_)
   rotate_left
   ·rw[e3]at hw;refine Xi .pure (Xi _ (Yi (hw) ?_));exact .of_eq (Ad Wa (show(none:Option Int)=Ln s.data.toList by rw[qm,e3];rfl))
   rw[e3]at hw;refine Xi .pure (Xi _ (Yi (hw) ?_));have uH:Ln s.data.toList=some (Gl r):=by rw[qm,e3];rfl
   refine Xi ⟨[(0,vs rB)],[],Aa⟩ (Yi ⟨Z1,Tv,Fh,Tv⟩ ?_)
   have z0:Gl (r.take 0)=0:=rfl;refine Xi {i:Nat // i≤r.length∧0≤Gl (r.take i)∧(i=0→Gl (r.take i)≤0)∧(i≤1→Gl (r.take i)≤9)∧(i≤2→Gl (r.take i)≤99)∧Gl (r.take i)≤999} (Xi (fun i=>⟨[(0,vs rB),(5,vi (Gl (r.take i.1))),(39,vi rB.size),(40,vi i.1)],[],Aa⟩) (Xi (fun i=>r.length-i.1) (Yi (Xi ⟨0,AO _,by omega,fun _=>by omega,fun _=>by omega,fun _=>by omega,by omega⟩ ?_) ?_)))
   ·exact⟨Z4,Tv,Fh,Tv⟩
   intro⟨i,i1,i2,i3,i4,i5,i6⟩;refine Yi ?_ ?_
   ·intro h;have h:(i:Int)<(rB.size:Nat):=h;have h:i<r.length:=by omega
    have tV:EN r[i]=true:=Bs.1 e3 _ (At h);have nY:=Ui tV;have uk:=UI r i h;have mO:IntKind.u8.wrap ((r[i].toNat:Int)-48)=(r[i].toNat:Int)-48:=ae (by omega) (by omega);have kG:rB.data[((i:Nat):Int).toNat]?=some r[i]:=by rw[Cn,←A1,jb];exact Ge h
    refine Yi (by show BM (10*Gl (r.take i));unfold BM;omega) ?_;refine Xi r[i] (Yi ⟨by show(0:Int)≤i;omega,kG⟩ ?_);refine Yi (by show BM (IntKind.u8.wrap ((r[i].toNat:Int)-48));rw[mO];unfold BM;omega) ?_;refine Yi (by show BM (10*Gl (r.take i)+IntKind.u8.wrap ((r[i].toNat:Int)-48));rw[mO];unfold BM;omega) ?_;refine Yi (Ii i (by omega)) ?_;have e5:vi (10*Gl (r.take i)+IntKind.u8.wrap ((r[i].toNat:Int)-48))=vi (Gl (r.take (i+1))):=by rw[mO,uk]
    refine Xi ⟨i+1,by omega,by omega,fun _=>by omega,fun _=>by omega,fun _=>by omega,by omega⟩ ?_;exact⟨Dl r.length i (by omega),⟨Zr,⟨e5,rfl⟩,Zr,Zr,Tv⟩,Tv,Fh,Tv⟩
   ·intro h;have h:¬(i:Int)<(rB.size:Nat):=h;have e6:AV.tup [vi (Gl (r.take i)),vb true]=Wa (Ln s.data.toList):=by rw[uH,AD (by omega)]
    exact .of_eq e6
  ·intro h3;have h3:¬(1:Int)<((rB.size:Nat):Int):=h3;have eo:(decide (1<r.length)&&decide (r.headD 0=48))=false:=by rw[AG (by omega:¬1<r.length)];rfl
   have qm:Ln s.data.toList=if(!r.all EN)=true then none else some (Gl r):=by rw[hv,TG,d3,eo];rfl
   refine Dj (Bt (r.all EN)) (fun e3=>?_) (fun e3=>?_)
   rotate_left
   ·rw[e3]at hw;refine Xi .pure (Xi _ (Yi (hw) ?_));exact .of_eq (Ad Wa (show(none:Option Int)=Ln s.data.toList by rw[qm,e3];rfl))
   rw[e3]at hw;refine Xi .pure (Xi _ (Yi (hw) ?_));have uH:Ln s.data.toList=some (Gl r):=by rw[qm,e3];rfl
   refine Xi ⟨[(0,vs rB)],[],Aa⟩ (Yi ⟨Z1,Tv,Fh,Tv⟩ ?_)
   have z0:Gl (r.take 0)=0:=rfl;refine Xi {i:Nat // i≤r.length∧0≤Gl (r.take i)∧(i=0→Gl (r.take i)≤0)∧(i≤1→Gl (r.take i)≤9)∧(i≤2→Gl (r.take i)≤99)∧Gl (r.take i)≤999} (Xi (fun i=>⟨[(0,vs rB),(5,vi (Gl (r.take i.1))),(39,vi rB.size),(40,vi i.1)],[],Aa⟩) (Xi (fun i=>r.length-i.1) (Yi (Xi ⟨0,AO _,by omega,fun _=>by omega,fun _=>by omega,fun _=>by omega,by omega⟩ ?_) ?_)))
   ·exact⟨Z4,Tv,Fh,Tv⟩
   intro⟨i,i1,i2,i3,i4,i5,i6⟩;refine Yi ?_ ?_
   ·intro h;have h:(i:Int)<(rB.size:Nat):=h;have h:i<r.length:=by omega
    have tV:EN r[i]=true:=Bs.1 e3 _ (At h);have nY:=Ui tV;have uk:=UI r i h;have mO:IntKind.u8.wrap ((r[i].toNat:Int)-48)=(r[i].toNat:Int)-48:=ae (by omega) (by omega);have kG:rB.data[((i:Nat):Int).toNat]?=some r[i]:=by rw[Cn,←A1,jb];exact Ge h
    refine Yi (by show BM (10*Gl (r.take i));unfold BM;omega) ?_;refine Xi r[i] (Yi ⟨by show(0:Int)≤i;omega,kG⟩ ?_);refine Yi (by show BM (IntKind.u8.wrap ((r[i].toNat:Int)-48));rw[mO];unfold BM;omega) ?_;refine Yi (by show BM (10*Gl (r.take i)+IntKind.u8.wrap ((r[i].toNat:Int)-48));rw[mO];unfold BM;omega) ?_;refine Yi (Ii i (by omega)) ?_;have e5:vi (10*Gl (r.take i)+IntKind.u8.wrap ((r[i].toNat:Int)-48))=vi (Gl (r.take (i+1))):=by rw[mO,uk]
    refine Xi ⟨i+1,by omega,by omega,fun _=>by omega,fun _=>by omega,fun _=>by omega,by omega⟩ ?_;exact⟨Dl r.length i (by omega),⟨Zr,⟨e5,rfl⟩,Zr,Zr,Tv⟩,Tv,Fh,Tv⟩
   ·intro h;have h:¬(i:Int)<(rB.size:Nat):=h;have e6:AV.tup [vi (Gl (r.take i)),vb true]=Wa (Ln s.data.toList):=by rw[uH,AD (by omega)]
    exact .of_eq e6
 ·have e1:Go.Lib.hasPrefix s.data.toList (⟨#[118]⟩:ByteArray).data.toList=false:=by
   cases hl:s.data.toList with
   |nil=>rfl
   |cons a l =>
    have:a≠118:=fun e=>hp ⟨l,by rw[hl,e]⟩
    show(List.isPrefixOf [118] (a::l))=false;rw[List.isPrefixOf_cons_cons]
    have:((118:UInt8) == a)=false:=by rw[beq_eq_false_iff_ne];exact fun e=>this e.symm
    rw[this];rfl
  have hv:Ln s.data.toList=none:=by
   cases hl:s.data.toList with
   |nil=>rfl
   |cons a l =>
    have:a≠118:=fun e=>hp ⟨l,by rw[hl,e]⟩
    show(if a=118 then _ else none)=none;rw[Ai this]
  rw[e1]at hc;refine Ps Ga Tryz.func158 rfl (Nz rfl) ?_;refine Xi .pure (Xi _ (Yi (hc) ?_));exact .of_eq (Ad Wa hv.symm)
abbrev YE:Option Int→AV
 |some n=>.tup [vi n,vi 0]
 |none=>.tup [vi 0,vi 4]
theorem Tg(c:UInt8):∀(s x:List UInt8),x∈Fb c s→x.length≤s.length
 | [],x,h=>by
  rw[Fb]at h;rw[Ak.1 h];exact Am _
 |b::r,x,h=>by
  have ih:=Tg c r;rw[Fb]at h;split at h
  ·rcases Au.1 h with rfl | h
   ·exact AO _
   ·have:=ih x h;rw[Ax];omega
  ·split at h
   ·rw[Ak.1 h];rw[Ax];simp
   ·rename_i y l e;rcases Au.1 h with rfl | h
    ·have:=ih y (by rw[e];exact Ab ..);rw[Ax,Ax];omega
    ·have:=ih x (by rw[e];exact Ag _ h);rw[Ax];omega
theorem fY{p x:ByteArray}(hp:HF p)(hx:x∈Bz p):HF x:=by
 have h:x.data.toList∈Fb 47 p.data.toList:=by rw[←Oz];exact Al.2 ⟨x,hx,rfl⟩
 have:=Tg 47 _ _ h
 unfold HF at *
 have e1:x.size=x.data.toList.length:=by simp
 have e2:p.size=p.data.toList.length:=by simp
 omega
theorem bU(p:ByteArray):(Bz p).length=(Fb 47 p.data.toList).length:=by rw[←Oz,Lm]
theorem bV(p:ByteArray):0<(Bz p).length:=by
 rw[show(Bz p).length=Go.Lib.countB p X6+1 from Go.Lib.splitB_all X6 (by decide) 0 _ p rfl];omega
theorem bT(p:ByteArray):(Bz p).length≤p.size+1:=by
 rw[show(Bz p).length=Go.Lib.countB p X6+1 from Go.Lib.splitB_all X6 (by decide) 0 _ p rfl]
 have:=Go.Lib.countB_le X6 (by decide) p.size p (Am _);omega
theorem YN(p:ByteArray)(h:(Bz p).length-1<(Bz p).length):(Fb 47 p.data.toList).getLastD []=((Bz p)[(Bz p).length-1]).data.toList:=by
 rw[←Oz,List.getLastD_eq_getLast?,List.getLast?_eq_getElem?,Lm,AC,Ge h];rfl
theorem bS(p:ByteArray):(Fb 47 p.data.toList).all LW=(Bz p).all fun x=>LW x.data.toList:=by
 rw[←Oz,List.all_map];rfl
theorem oL(p:ByteArray)(hp:HF p):PC 109 [vs p] (YE (CC p)):=by
 have uv:=bT p;have Yy:=bV p;have ur:(Bz p).length-1<(Bz p).length:=by omega
 have Et:p.size=p.data.toList.length:=by simp
 have w6:∀{x},x∈Bz p→HF x:=fun h=>fY hp h;unfold HF at hp;have TH:((Bz p).map Jo)[((((Bz p).map Jo).length:Int)-1).toNat]?=some (Jo (Bz p)[(Bz p).length-1]):=by
  rw[Lm,show(((Bz p).length:Int)-1).toNat=(Bz p).length-1 by omega];exact Dp (Ge ur)
 have hv:=sT (Bz p)[(Bz p).length-1] (w6 (At ur));have em:CC p=match Ln ((Bz p)[(Bz p).length-1]).data.toList with
  |none=>none
  |some n=>if(decide (64<p.data.toList.length)||decide ((Bz p).length<2))=true then none else if((Bz p).all fun x=>LW x.data.toList)=true then some n else none:=by
  unfold CC YF;rw[YN p ur,bS,←bU];cases Ln ((Bz p)[(Bz p).length-1]).data.toList with
  |none=>rfl
  |some n=>rfl
 cases hve:Ln ((Bz p)[(Bz p).length-1]).data.toList with
 |none =>
  rw[hve]at hv em;refine Ps (Jf [2,3]) Tryz.func109 rfl (Nz rfl) ?_;refine Xi .pure (Xi _ (Yi (oO p hp) ?_));refine Xi ⟨[(0,vs p),(4,sl Jo (Bz p))],[],Aa⟩ (Yi ⟨Z2,Tv,Fh,Tv⟩ ?_)
  refine Yi (by show BM ((((Bz p).map Jo).length:Int)-1);unfold BM;rw[Lm];omega) ?_;refine Xi (Jo (Bz p)[(Bz p).length-1]) (Yi (Yi (by show(0:Int)≤(((Bz p).map Jo).length:Int)-1;rw[Lm];omega) TH) (Yi rfl ?_));refine Xi .pure (Xi _ (Yi (hv) ?_));refine Xi ⟨[(0,vs p),(4,sl Jo (Bz p)),(5,vi 0),(6,vb false)],[],Aa⟩ (Yi ⟨Z4,Tv,Fh,Tv⟩ ?_)
  exact .of_eq (Ad YE em.symm)
 |some n =>
  rw[hve]at hv em;have em:CC p=if(decide (64<p.data.toList.length)||decide ((Bz p).length<2))=true then none else if((Bz p).all fun x=>LW x.data.toList)=true then some n else none:=em
  refine Ps (Jf [2,3,5]) Tryz.func109 rfl (Nz rfl) ?_;refine Xi .pure (Xi _ (Yi (oO p hp) ?_));refine Xi ⟨[(0,vs p),(4,sl Jo (Bz p))],[],Aa⟩ (Yi ⟨Z2,Tv,Fh,Tv⟩ ?_)
  refine Yi (by show BM ((((Bz p).map Jo).length:Int)-1);unfold BM;rw[Lm];omega) ?_;refine Xi (Jo (Bz p)[(Bz p).length-1]) (Yi (Yi (by show(0:Int)≤(((Bz p).map Jo).length:Int)-1;rw[Lm];omega) TH) (Yi rfl ?_));refine Xi .pure (Xi _ (Yi (hv) ?_));refine Xi ⟨[(0,vs p),(4,sl Jo (Bz p)),(5,vi n),(6,vb true)],[],Aa⟩ (Yi ⟨Z4,Tv,Fh,Tv⟩ ?_)
  refine Yi ?_ ?_
  ·intro h;have h:(64:Int)<((p.size:Nat):Int):=h;exact .of_eq (Ad YE (show(none:Option Int)=CC p by rw[em,AE (by omega:64<p.data.toList.length)];rfl))
  intro h;have h:¬(64:Int)<((p.size:Nat):Int):=h;have d1:decide (64<p.data.toList.length)=false:=AG (by omega);refine Yi ?_ ?_
  ·intro h2;have h2:(((Bz p).map Jo).length:Int)<2:=h2;rw[Lm]at h2;exact .of_eq (Ad YE (show(none:Option Int)=CC p by rw[em,d1,AE (by omega:(Bz p).length<2)];rfl))
  intro h2;have h2:¬(((Bz p).map Jo).length:Int)<2:=h2;have d2:decide ((Bz p).length<2)=false:=AG (by rw[Lm]at h2;omega);have wF:CC p=if((Bz p).all fun x=>LW x.data.toList)=true then some n else none:=by rw[em,d1,d2];rfl
  refine Xi ⟨[(4,sl Jo (Bz p)),(5,vi n)],[],Aa⟩ (Yi ⟨Z2,Tv,Fh,Tv⟩ ?_)
  refine Xi {i:Nat // i≤(Bz p).length∧∀j (hj:j<(Bz p).length),j<i→LW ((Bz p)[j]).data.toList=true} (Xi (fun i=>⟨[(5,vi n),(33,sl Jo (Bz p)),(34,vi ((Bz p).map Jo).length),(35,vi i.1)],[],Aa⟩) (Xi (fun i=>(Bz p).length-i.1) (Yi (Xi ⟨0,AO _,fun j _ h=>by omega⟩ ?_) ?_)))
  ·exact⟨Z4,Tv,Fh,Tv⟩
  intro⟨i,i1,i2⟩;refine Yi ?_ ?_
  ·intro h;have h:(i:Int)<((Bz p).map Jo).length:=h;have h:i<(Bz p).length:=by simpa using h
   have hg:(Bz p)[i]?=some (Bz p)[i]:=Ge h;refine Xi (Jo (Bz p)[i]) (Yi (Yi (Nn i) (by simp[hg])) (Yi rfl ?_));have pM:=w6 (At h);have hn:=sU (Bz p)[i] pM;have ha:=lR (Bz p)[i] 161 Y0 sV (by unfold HF at pM;have e1:(Bz p)[i].size=(Bz p)[i].data.toList.length:=(by simp);omega);have no:LW ((Bz p)[i]).data.toList=false→(none:Option Int)=CC p:=fun e=>by
    rw[wF,Ai];intro GE
    have:=Bs.1 GE _ (At h)
    rw[e]at this;cases this
   refine Dj (Bt (H4 ((Bz p)[i]).data.toList)) (fun e1=>?_) (fun e1=>?_)
   rotate_left
   ·rw[e1]at hn;refine Xi .pure (Xi _ (Yi (hn) ?_));exact .of_eq (Ad YE (no (by unfold LW;rw[e1];rfl)))
   rw[e1]at hn;refine Xi .pure (Xi _ (Yi (hn) ?_));refine Dj (Bt (((Bz p)[i]).data.toList.all Y0)) (fun e2=>?_) (fun e2=>?_)
   rotate_left
   ·rw[e2]at ha;refine Xi .pure (Xi _ (Yi (ha) ?_));exact .of_eq (Ad YE (no (by unfold LW;rw[e1];exact e2)))
   rw[e2]at ha;refine Xi .pure (Xi _ (Yi (ha) ?_));refine Yi (Ii i (by omega)) ?_;refine Xi ⟨i+1,by omega,fun j hj Nb=>?_⟩ ?_
   ·rcases Ez j i with z | z
    ·exact i2 j hj z
    ·have:j=i:=by omega
     subst this;unfold LW;rw[e1];exact e2
   ·exact⟨by show(Bz p).length-(i+1)<(Bz p).length-i;omega,Z4,Tv,Fh,Tv⟩
  ·intro h;have h:¬(i:Int)<((Bz p).map Jo).length:=h;have h:¬i<(Bz p).length:=by simpa using h
   have e:some n=CC p:=by
    rw[wF,Ao];exact Bs.2 fun x hx=>by
     obtain⟨j,hj,rfl⟩:=Fs hx;exact i2 j hj (by omega)
   exact .of_eq (Ad YE e)
theorem sM(p:ByteArray)(hp:HF p):PC 110 [vs p] (vb (CC p).isSome):=by
 have hc:=oL p hp;cases h:CC p with
 |none =>
  rw[h]at hc;refine Ps Ga Tryz.func110 rfl (Nz rfl) ?_;refine Xi .pure (Xi _ (Yi (hc) ?_));refine Yi ?_ ?_
  ·intro h;exact absurd (show(4:Int)=0 from h) (by decide)
  ·intro _;exact .refl _
 |some n =>
  rw[h]at hc;refine Ps Ga Tryz.func110 rfl (Nz rfl) ?_;refine Xi .pure (Xi _ (Yi (hc) ?_));refine Yi ?_ ?_
  ·intro _;exact .refl _
  ·intro h;exact absurd rfl h
theorem Th(c:UInt8):∀s:List UInt8,2≤(Fb c s).length→c∈s
 | [],h=>by rw[Fb]at h;simp at h
 |b::r,h=>by
  rw[Fb]at h
  by_cases e:b=c
  ·exact e▸Ab ..
  ·rw[Ai e]at h;refine Ag _ (Th c r ?_);cases hs:Fb c r with
   |nil=>rw[hs]at h;simp at h
   |cons x l=>rw[hs]at h;simpa using h
theorem fu{p:ByteArray}{m:Int}(h:CC p=some m):0≤Go.Lib.lastIndex p.data.toList [47]∧Go.Lib.lastIndex p.data.toList [47]≤p.size:=by
 have h2:2≤(Fb 47 p.data.toList).length:=by
  unfold CC YF at h;split at h
  ·cases h
  ·split at h
   ·cases h
   ·rename_i hn;simp only[Cp,Av]at hn;omega
 have hm:=Th 47 _ h2;obtain⟨i,hi,e⟩:=Fs hm;have Et:p.size=p.data.toList.length:=by simp
 unfold Go.Lib.lastIndex;rw[Ao (by simp only[A5];omega)];have um:Go.Lib.occAt p.data.toList [47] i=true:=by
  unfold Go.Lib.occAt;rw[Bl hi,e];simp
 rcases Go.Lib.lastOcc_spec p.data.toList [47] (p.data.toList.length - [(47:UInt8)].length+1)with ⟨_,h3⟩ | ⟨j,h3,h4,_⟩
 ·have:=h3 i (by simp only[A5];omega)
  rw[um]at this;cases this
 ·rw[h4];simp only[A5]at h3;omega
abbrev mX(p:ByteArray):ByteArray:=p.extract 0 (Go.Lib.lastIndex p.data.toList [47]).toNat
theorem Vj:Tw mX:=by
 intro p hp;have hc:=oL p hp;have hi:=sM p hp;unfold Zy;cases h:CC p with
 |none =>
  rw[h]at hc hi;refine Ps Ga Tryz.func81 rfl (Nz rfl) ?_;refine Xi .pure (Xi _ (Yi (hc) ?_));refine Xi .pure (Xi _ (Yi (hi) ?_));exact .refl _
 |some n =>
  rw[h]at hc hi;obtain⟨l1,l2⟩:=fu h;have hl:PC 111 [vs p,vs X6] (vi (Go.Lib.lastIndex p.data.toList [47])):=sN p X6 hp;refine Ps Ga Tryz.func81 rfl (Nz rfl) ?_;refine Xi .pure (Xi _ (Yi (hc) ?_));refine Xi .pure (Xi _ (Yi (hi) ?_));refine Yi ?_ ?_
  ·intro h;exact absurd rfl h
  intro _;refine Xi .pure (Xi _ (Yi (hl) ?_));refine Yi ⟨BD _,l1,l2⟩ ?_;exact .refl _
theorem OD{l:List Rq}(h:BL l=0):l.length≤16:=by
 unfold BL at h;split at h
 ·cases h
 ·omega
theorem Nj{x:List Rl}(h:AX x=0):x.length≤256∧∀r∈x,r.reqs.length≤16:=by
 have h1:x.length≤256:=by
  unfold AX at h;split at h
  ·cases h
  ·omega
 exact⟨h1,fun r hr=>OD ((Cc h).1 r hr).reqs⟩
theorem dI{x:List Rl}(h:∀r∈x,r.reqs.length≤16):((x.map (·.reqs)).flatten).length≤x.length*16:=by
 induction x with
 |nil=>simp
 |cons r x ih =>
  rw[AJ,Bv,Ac,Ax]
  have:=h r (Ab ..)
  have:=ih fun s hs=>h s (Ag _ hs)
  omega
theorem YQ{x:List Rl}{roots:List Rq}{l:List Nf}(h1:AX x=0)(h2:BL roots=0)(h3:l.length≤65536):(JX x roots l).length≤100000:=by
 obtain⟨a,b⟩:=Nj h1
 have:=dI b
 have:=OD h2
 unfold JX;simp only[Ac,Lm];omega
theorem TU.fewI{U:List ByteArray}{t:List Tm}(h:TU U t)(hu:U.length≤100000):lr t :=
 ⟨by have:=h.len;omega,fun u hu=>N3 (h.1.canon u hu)⟩
abbrev Hr(x:List Rl)(ifs:List (List AV)):AV:=.agg (Ic x ifs)
abbrev Ts:EA:=⟨true,[.str,.int .i64,.int .i64,.int .i64]⟩
abbrev Qi(y:Sl):Value:=.agg #[.string y.path,.int .i64 y.ver.a,.int .i64 y.ver.b,.int .i64 y.ver.c]
abbrev Sx(r:Rl):Value×AV:=(Qi (FJ r),.agg (Ah r))
def AP:List Rl→List ByteArray→List ByteArray
 | [],acc=>acc
 |r::x,acc=>AP x (if acc.any (fun p=>decide (p=r.path))then acc else acc++[r.path])
abbrev ip(x:List Rl)(p:ByteArray):Value×AV:=(.string p,sl Ah (x.filter fun r=>decide (r.path=p)))
abbrev VX(x:List Rl):AV:=if AX x=0 then .tup [.agg [.cmap Ts (x.map Sx),.cmap CL ((AP x []).map (ip x))],vi 0]else .tup [.agg [.cmap Ts [],.cmap CL []],vi (AX x)]
abbrev cE(x:List Rl)(ifs:List (List AV)):Prop:=PC 41 [Hr x ifs] (VX x)
theorem tc:PC 42 [.agg XS] (.agg XS):=by
 refine Ps Ga Tryz.func42 rfl (Nz rfl) ?_;refine Yi (Nz rfl) ?_;refine Xi Unit (Xi (fun _=>⟨[(1,.ref 1 0),(2,.ref 2 0),(10,vi 0),(11,vi 0)],[(1,.cells XS),(2,.cells XS)],Aa⟩) (Xi (fun _=>0) (Yi (Xi () ?_) ?_)))
 ·exact⟨Z4,Z2,Fh,Tv⟩
 intro _;refine Yi ?_ ?_
 ·intro h;exact absurd (show(0:Int)<0 from h) (by decide)
 ·intro _;refine Yi (Nz rfl) (Yi (Nz rfl) (Yi (Nz rfl) ?_));exact .refl _
theorem ju{y z:Sl}(h:Qi y=Qi z):y=z:=by
 obtain⟨p,⟨a,b,c⟩⟩:=y;obtain⟨q,⟨d,e,f⟩⟩:=z;simp only[Qi,Value.agg.injEq,Array.mk.injEq,Fk,Value.string.injEq,Value.int.injEq,true_and,and_true]at h;obtain⟨rfl,rfl,rfl,rfl⟩:=h
 rfl
theorem Zw{x:List Rl}{y:Sl}{a:AV}(h:(Qi y,a)∈x.map Sx):∃r∈x,FJ r=y∧a=.agg (Ah r):=by
 obtain⟨r,h1,h2⟩:=Al.1 h;simp only[Sx,FC]at h2;exact⟨r,h1,ju h2.1,h2.2.symm⟩
theorem dH{x:List Rl}(hx:AX x=0){r:Rl}(hr:r∈x):DV x (FJ r)=some r:=by
 unfold DV;rw[Ai (by omega)];cases h:x.find? (fun s=>decide (FJ s=FJ r))with
 |none =>
  rw[DL]at h;exact absurd (by simp) (h r hr)
 |some s =>
  have h1:=EE h;simp only[Av]at h1;have hs:=Cg h;have hp:=(Cc hx).2;rcases CD.1 hr with ⟨i,hi,e1⟩;rcases CD.1 hs with ⟨j,hj,e2⟩;rcases Nat.lt_trichotomy i j with OO | OO | OO
  ·have:=(AT.1 hp) i j hi hj OO
   rw[e1,e2]at this;exact(HX this h1.symm).elim
  ·subst OO;rw[←e1,←e2]
  ·have:=(AT.1 hp) j i hj hi OO
   rw[e1,e2]at this;exact(HX this h1).elim
theorem wx(x:List Rl)(ifs:List (List AV))(p:ByteArray)(v:Ver)(aW:cE x ifs)(hx:∀r∈x,KC r):PC 15 [Hr x ifs,vs p,.agg (FW v)] (UJ (DV x ⟨p,v⟩)):=by
 have hz:=tc
 by_cases h0:AX x=0
 ·have aW:PC 41 [Hr x ifs] (.tup [.agg [.cmap Ts (x.map Sx),.cmap CL ((AP x []).map (ip x))],vi 0]):=by
   have:=aW;unfold cE VX at this;rw[Ao h0]at this;exact this
  refine Ps (Jf [2,3]) Tryz.func15 rfl (Nz rfl) ?_;refine Yi (Nz rfl) ?_;refine Xi .pure (Xi _ (Yi (aW) ?_));refine Yi (Nz rfl) ?_;refine Xi ⟨[(1,vs p),(5,.ref 5 0),(6,.ref 6 0),(8,.ref 8 0)],[(5,.cells (FW v)),(6,.cells XS),(8,.cells [.cmap Ts (x.map Sx),.cmap CL ((AP x []).map (ip x))])],Aa⟩ (Yi ⟨Z4,Z3,Fh,Tv⟩ ?_)
  refine Yi (Nz rfl) ?_;refine Yi ?_ ?_
  ·intro a ha;refine B4 (Zw (y:=⟨p,v⟩) ha) (fun r hr=>?_);have e:=hr.2.2;subst e;have hf:DV x ⟨p,v⟩=some r:=by rw[←hr.2.1];exact dH h0 hr.1
   have hrq:=(Nj h0).2 r hr.1;have hc:=tb r (by omega) (fun q hq=>((hx r hr.1).2 q hq).1);refine Yi (Nz rfl) ?_;refine Xi ⟨[(6,.ref 6 0),(10,.ref 10 0),(11,vb true)],[(6,.cells XS),(10,.cells (Ah r))],Aa⟩ (Yi ⟨Z3,Z2,Fh,Tv⟩ ?_)
   refine Yi (Nz rfl) ?_;refine Xi .pure (Xi _ (Yi (hc) ?_));refine Yi (Nz rfl) (Yi (Nz rfl) ?_);exact .of_eq (show AV.tup [.agg (Ah r),vb true]=UJ (DV x ⟨p,v⟩) by rw[hf])
  ·intro hn;have hf:DV x ⟨p,v⟩=none:=by
    cases h:DV x ⟨p,v⟩with
    |none=>rfl
    |some r =>
     obtain⟨_,h2,h3⟩:=Ki h;exact absurd (Al.2 ⟨r,h2,by rw[show Sx r=(Qi (FJ r),AV.agg (Ah r))from rfl,h3]⟩) (hn (.agg (Ah r)))
   refine Yi (Nz rfl) ?_;refine Xi ⟨[(6,.ref 6 0),(10,.ref 10 0),(11,vb false)],[(6,.cells XS),(10,.cells XS)],Aa⟩ (Yi ⟨Z3,Z2,Fh,Tv⟩ ?_)
   refine Yi (Nz rfl) ?_;refine Xi .pure (Xi _ (Yi (hz) ?_));refine Yi (Nz rfl) (Yi (Nz rfl) ?_);exact .of_eq (show AV.tup [.agg XS,vb false]=UJ (DV x ⟨p,v⟩) by rw[hf])
 ·have aW:PC 41 [Hr x ifs] (.tup [.agg [.cmap Ts [],.cmap CL []],vi (AX x)]):=by
   have:=aW;unfold cE VX at this;rw[Ai h0]at this;exact this
  have hf:DV x ⟨p,v⟩=none:=by unfold DV;rw[Ao h0]
  refine Ps (Jf [2,3]) Tryz.func15 rfl (Nz rfl) ?_;refine Yi (Nz rfl) ?_;refine Xi .pure (Xi _ (Yi (aW) ?_));refine Yi (Nz rfl) ?_;refine Xi ⟨[(1,vs p),(5,.ref 5 0),(6,.ref 6 0),(8,.ref 8 0)],[(5,.cells (FW v)),(6,.cells XS),(8,.cells [.cmap Ts [],.cmap CL []])],Aa⟩ (Yi ⟨Z4,Z3,Fh,Tv⟩ ?_)
  refine Yi (Nz rfl) ?_;refine Yi ?_ ?_
  ·intro a ha;cases ha
  ·intro _;refine Yi (Nz rfl) ?_;refine Xi ⟨[(6,.ref 6 0),(10,.ref 10 0),(11,vb false)],[(6,.cells XS),(10,.cells XS)],Aa⟩ (Yi ⟨Z3,Z2,Fh,Tv⟩ ?_)
   refine Yi (Nz rfl) ?_;refine Xi .pure (Xi _ (Yi (hz) ?_));refine Yi (Nz rfl) (Yi (Nz rfl) ?_);exact .of_eq (show AV.tup [.agg XS,vb false]=UJ (DV x ⟨p,v⟩) by rw[hf])
abbrev DH(l:List Rl):Bi:=(l.filter fun r=>!r.yanked).map fun r=>(plc r.ver,plc r.ver+1)
theorem Y4(l:List Rl):(DH l).length≤l.length:=by
 unfold DH;rw[Lm];exact BA _ _
theorem jy{x:List Rl}{ps:List ByteArray}{p:ByteArray}{a:AV}(h:(Value.string p,a)∈ps.map (ip x)):a=sl Ah (x.filter fun r=>decide (r.path=p)):=by
 obtain⟨q,_,h2⟩:=Al.1 h;simp only[ip,FC,Value.string.injEq]at h2;rw[←h2.2,h2.1]
theorem NN{acc:List ByteArray}{p:ByteArray}:(acc.any fun q=>decide (q=p))=true↔p∈acc:=by
 rw[Bf];constructor
 ·rintro⟨q,h1,h2⟩;rw[←A8 h2];exact h1
 ·intro h;exact⟨p,h,by simp⟩
theorem G4:∀(x:List Rl) (acc:List ByteArray) (p:ByteArray),p∈AP x acc↔p∈acc∨∃r∈x,r.path=p
 | [],acc,p=>by simp[AP]
 |r::x,acc,p=>by
  rw[AP,G4 x];constructor
  ·rintro(h | ⟨s,h1,h2⟩)
   ·split at h
    ·exact .inl h
    ·rcases AL.1 h with h | h
     ·exact .inl h
     ·exact .inr ⟨r,Ab ..,(Ak.1 h).symm⟩
   ·exact .inr ⟨s,Ag _ h1,h2⟩
  ·rintro(h | ⟨s,h1,h2⟩)
   ·left
    split
    ·exact h
    ·exact Bd _ h
   ·rcases Au.1 h1 with rfl | h1
    ·left
     split
     ·rename_i hh;rw[←h2];exact NN.1 hh
     ·rw[←h2];exact Bc _ (Ak.2 rfl)
    ·exact .inr ⟨s,h1,h2⟩
abbrev ld:Rk:=⟨[],[(7,2)],[],[],[],[],[],[],[],[],[2,3,6,7,9]⟩
theorem T9(L:List Rl)(i:Nat)(h:i<L.length):DH (L.take (i+1))=DH (L.take i)++(if L[i].yanked then []else [(plc L[i].ver,plc L[i].ver+1)]):=by
 unfold DH;rw[Bn,Ge h,Dd,Ay]
 congr 1
 cases hy:L[i].yanked<;>simp[hy]
theorem sQ(x:List Rl)(ifs:List (List AV))(p:ByteArray)(aW:cE x ifs):PC 86 [Hr x ifs,vs p] (sl Aq (BZ x p)):=by
 by_cases h0:AX x=0
 ·have aW:PC 41 [Hr x ifs] (.tup [.agg [.cmap Ts (x.map Sx),.cmap CL ((AP x []).map (ip x))],vi 0]):=by
   have:=aW;unfold cE VX at this;rw[Ao h0]at this;exact this
  have kW:=(Nj h0).1;obtain⟨L,rA⟩:∃L,L=x.filter fun r=>decide (r.path=p):=⟨_,rfl⟩;have hL:JV x p=L:=by unfold JV;rw[Ai (by omega),rA]
  have wL:L.length≤256:=by have:=BA (fun r:Rl=>decide (r.path=p)) x;rw[rA];omega
  refine Ps ld Tryz.func86 rfl (Nz rfl) ?_;refine Yi (Nz rfl) ?_;refine Xi .pure (Xi _ (Yi (aW) ?_));refine Yi (Nz rfl) ?_;refine Xi ⟨[(1,vs p),(5,.ref 5 0)],[(5,.cells [.cmap Ts (x.map Sx),.cmap CL ((AP x []).map (ip x))])],Aa⟩ (Yi ⟨Z2,Z1,Fh,Tv⟩ ?_)
  refine Xi ⟨[(1,vs p),(5,.ref 5 0),(7,.slice (.id 7 2) [])],[(5,.cells [.cmap Ts (x.map Sx),.cmap CL ((AP x []).map (ip x))]),(7,.tok 2 0)],Aa⟩ (Yi ⟨Z3,Z2,Fh,Tv⟩ ?_)
  refine Yi ?_ ?_
  ·intro a ha;have ea:a=sl Ah L:=by rw[rA];exact jy ha
   subst ea;refine Xi {i:Nat // i≤L.length} (Xi (fun i=>⟨[(7,.slice (.id 7 2) ((DH (L.take i.1)).map Aq)),(18,sl Ah L),(19,vi (L.map Ah).length),(20,vi i.1)],[(7,.tok 2 ((DH (L.take i.1)).map Aq).length)],Aa⟩) (Xi (fun i=>L.length-i.1) (Yi (Xi ⟨0,AO _⟩ ?_) ?_)))
   ·exact⟨Z4,Z1,Fh,Tv⟩
   intro⟨i,i1⟩;have Wh:=Y4 (L.take i);rw[AB]at Wh;refine Yi ?_ ?_
   ·intro h;have h:(i:Int)<(L.map Ah).length:=h;have h:i<L.length:=by simpa using h
    have hg:L[i]?=some L[i]:=Ge h;refine Xi (Ah L[i]) (Yi (Yi (Nn i) (by simp[hg])) (Yi rfl ?_));refine Yi (Nz rfl) (Yi (Nz rfl) ?_);refine Xi ⟨[(7,.slice (.id 7 2) ((DH (L.take i)).map Aq)),(9,.ref 9 0),(18,sl Ah L),(19,vi (L.map Ah).length),(20,vi i)],[(7,.tok 2 ((DH (L.take i)).map Aq).length),(9,.cells (Ah L[i]))],Aa⟩ (Yi ⟨Z5,Z2,Fh,Tv⟩ ?_)
    refine Yi ?_ ?_
    ·intro hy;have hy:L[i].yanked=true:=hy;refine Yi (Ii i (by omega)) ?_;have es:DH (L.take (i+1))=DH (L.take i):=by rw[T9 L i h,hy];simp
     have e1:AV.slice (.id 7 2) ((DH (L.take i)).map Aq)=.slice (.id 7 2) ((DH (L.take (i+1))).map Aq):=by rw[es]
     have e2:HO.tok 2 ((DH (L.take i)).map Aq).length=.tok 2 ((DH (L.take (i+1))).map Aq).length:=by rw[es]
     refine Xi ⟨i+1,by omega⟩ ?_;exact⟨Dl L.length i (by omega),⟨⟨e1,rfl⟩,Zr,Zr,Zr,Tv⟩,⟨⟨e2,rfl⟩,Tv⟩,Fh,Tv⟩
    ·intro hy;have hy:L[i].yanked=false:=hy;have uu:=jV L[i].ver;refine Xi ⟨[(7,.slice (.id 7 2) ((DH (L.take i)).map Aq)),(9,.ref 9 0),(18,sl Ah L),(19,vi (L.map Ah).length),(20,vi i)],[(7,.tok 2 ((DH (L.take i)).map Aq).length),(9,.cells (Ah L[i]))],Aa⟩ (Yi ⟨Z5,Z2,Fh,Tv⟩ ?_)
     refine Yi (Nz rfl) ?_;refine Xi _ (Yi (wB L[i]) ?_);refine Yi (Nz rfl) ?_;refine Xi _ (Yi (wB L[i]) ?_);refine Yi (by show BM (plc L[i].ver+1);unfold BM;omega) ?_;have G9:De 2 [[vi (plc L[i].ver),vi (plc L[i].ver+1)]]∧((DH (L.take i)).map Aq).length=((DH (L.take i)).map Aq).length∧(((DH (L.take i)).map Aq).length+[[vi (plc L[i].ver),vi (plc L[i].ver+1)]].length)*16≤140737488355328∧((DH (L.take i)).map Aq).length+[[vi (plc L[i].ver),vi (plc L[i].ver+1)]].length≤9223372036854775807 :=
      ⟨⟨rfl,trivial⟩,rfl,by rw[Lm,A5];omega,by rw[Lm,A5];omega⟩
     refine Yi G9 ?_;refine Yi (by kernel_rfl) ?_;refine Yi (Ii i (by omega)) ?_;have es:DH (L.take (i+1))=DH (L.take i)++[(plc L[i].ver,plc L[i].ver+1)]:=by rw[T9 L i h,hy];simp
     have e1:AV.slice (.id 7 2) ((DH (L.take i)).map Aq++[[vi (plc L[i].ver),vi (plc L[i].ver+1)]])=.slice (.id 7 2) ((DH (L.take (i+1))).map Aq):=by rw[es,Ay];rfl
     have e2:HO.tok 2 (((DH (L.take i)).map Aq).length+[[vi (plc L[i].ver),vi (plc L[i].ver+1)]].length)=.tok 2 ((DH (L.take (i+1))).map Aq).length:=by rw[es,Ay,Ac];rfl
     refine Xi ⟨i+1,by omega⟩ ?_;exact⟨Dl L.length i (by omega),⟨⟨e1,rfl⟩,Zr,Zr,Zr,Tv⟩,⟨⟨e2,rfl⟩,Tv⟩,Fh,Tv⟩
   ·intro h;have h:¬(i:Int)<(L.map Ah).length:=h;have h:¬i<L.length:=by simpa using h
    have et:L.take i=L:=AD (by omega);refine Xi ⟨[(7,.slice (.id 7 2) ((DH (L.take i)).map Aq))],[(7,.tok 2 ((DH (L.take i)).map Aq).length)],Aa⟩ (Yi ⟨Z1,Z1,Fh,Tv⟩ ?_)
    have hc:PC 116 [sl Aq (DH (L.take i))] (sl Aq (canon (DH (L.take i)))):=Ww _ (by unfold CU;omega);refine Xi .pure (Xi _ (Yi (hc) ?_));exact .of_eq (show sl Aq (canon (DH (L.take i)))=sl Aq (BZ x p) by rw[et];unfold BZ;rw[hL])
  ·intro hn;have hL:JV x p=[]:=by
    rw[hL,rA,G6];intro r hr he;have he:=A8 he;exact hn _ (Al.2 ⟨p,(G4 x [] p).2 (.inr ⟨r,hr,he⟩),rfl⟩)
   refine Xi Unit (Xi (fun _=>⟨[(7,.slice (.id 7 2) []),(19,vi 0),(20,vi 0)],[(7,.tok 2 0)],Aa⟩) (Xi (fun _=>0) (Yi (Xi () ?_) ?_)))
   ·exact⟨Z3,Z1,Fh,Tv⟩
   intro _;refine Yi ?_ ?_
   ·intro h;exact absurd (show(0:Int)<0 from h) (by decide)
   intro _;refine Xi ⟨[(7,.slice (.id 7 2) [])],[(7,.tok 2 0)],Aa⟩ (Yi ⟨Z1,Z1,Fh,Tv⟩ ?_)
   have hc:PC 116 [sl Aq []] (sl Aq (canon [])):=Ww [] (by unfold CU;simp);refine Xi .pure (Xi _ (Yi (hc) ?_));exact .of_eq (show sl Aq (canon [])=sl Aq (BZ x p) by unfold BZ;rw[hL];rfl)
 ·have aW:PC 41 [Hr x ifs] (.tup [.agg [.cmap Ts [],.cmap CL []],vi (AX x)]):=by
   have:=aW;unfold cE VX at this;rw[Ai h0]at this;exact this
  have hL:JV x p=[]:=by unfold JV;rw[Ao h0]
  refine Ps ld Tryz.func86 rfl (Nz rfl) ?_;refine Yi (Nz rfl) ?_;refine Xi .pure (Xi _ (Yi (aW) ?_));refine Yi (Nz rfl) ?_;refine Xi ⟨[(1,vs p),(5,.ref 5 0)],[(5,.cells [.cmap Ts [],.cmap CL []])],Aa⟩ (Yi ⟨Z2,Z1,Fh,Tv⟩ ?_)
  refine Xi ⟨[(1,vs p),(5,.ref 5 0),(7,.slice (.id 7 2) [])],[(5,.cells [.cmap Ts [],.cmap CL []]),(7,.tok 2 0)],Aa⟩ (Yi ⟨Z3,Z2,Fh,Tv⟩ ?_)
  refine Yi ?_ ?_
  ·intro a ha;cases ha
  ·intro _;refine Xi Unit (Xi (fun _=>⟨[(7,.slice (.id 7 2) []),(19,vi 0),(20,vi 0)],[(7,.tok 2 0)],Aa⟩) (Xi (fun _=>0) (Yi (Xi () ?_) ?_)))
   ·exact⟨Z3,Z1,Fh,Tv⟩
   intro _;refine Yi ?_ ?_
   ·intro h;exact absurd (show(0:Int)<0 from h) (by decide)
   intro _;refine Xi ⟨[(7,.slice (.id 7 2) [])],[(7,.tok 2 0)],Aa⟩ (Yi ⟨Z1,Z1,Fh,Tv⟩ ?_)
   have hc:PC 116 [sl Aq []] (sl Aq (canon [])):=Ww [] (by unfold CU;simp);refine Xi .pure (Xi _ (Yi (hc) ?_));exact .of_eq (show sl Aq (canon [])=sl Aq (BZ x p) by unfold BZ;rw[hL];rfl)
theorem Rs(x:List Rl)(p:ByteArray):CU (BZ x p):=by
 unfold BZ CU
 have:=HR (Cb (((JV x p).filter fun r=>!r.yanked).map fun r=>(plc r.ver,plc r.ver+1)));omega
end Go.Eng
