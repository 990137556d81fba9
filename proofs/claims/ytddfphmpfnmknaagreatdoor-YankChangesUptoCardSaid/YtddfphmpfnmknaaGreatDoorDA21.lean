/- Lemmas for the claims of this seat, without a condition: part 21 (C38, C39, LayStr, C40, C41, C42, C43, C44, C45, C46, C47, C48, C49, C50, C51, C52, C53, C54, C55). -/
import Derived.Test.YtddfphmpfnmknaaGreatDoorDA20
import Derived.Shelf.Strings.SplitShaped
import Derived.Shelf.Strings.LastIndexAll
import Derived.Shelf.Strings.Search3
import Derived.Shelf.Small.Wraps
import Derived.Ground.NamesProg
import Derived.Lib.LastIndexLaws
namespace Go.Eng
open Go.Proofs
abbrev qh(r:Rl)(a:AV):List AV:=[vs r.path,vi r.ver.a,vi r.ver.b,vi r.ver.c,a,vs r.arch,vs r.ifc,vs r.cert,vb r.yanked]
abbrev xL:RE:=⟨[],[],[],[],[],[],[],[(9,(1,4,900,2))],[],[],[6,7]⟩
theorem vZ(r:Rl)(hr:r.reqs.length≤1000)(hs:∀q∈r.reqs,Cp q.set):PC 42 [.agg (Ag r)] (.agg (Ag r)):=by
 refine Ps xL Tryz.func42 rfl (Nz rfl) ?_;refine Yi (Nz rfl) ?_;refine Xi {i:Nat // i≤r.reqs.length} (Xi (fun i=>⟨[(1,.ref 1 0),(2,.ref 2 0),(9,sl AF r.reqs),(10,vi (r.reqs.map AF).length),(11,vi i.1)],[(1,.cells (qh r (.slice (.id 900 2) ((r.reqs.take i.1).map AF)))),(2,.cells Xh),(900,.tok 2 ((r.reqs.take i.1).map AF).length)],Aa⟩) (Xi (fun i=>r.reqs.length-i.1) (Yi (Xi ⟨0,AD _⟩ ?_) ?_)))
 ·exact⟨Z5,Z3,Fh,Tv⟩
 intro⟨i,h1⟩;refine Yi ?_ ?_
 ·intro h;have h:(i:Int)<(r.reqs.map AF).length:=h;have h:i<r.reqs.length:=by simpa using h
  have hg:r.reqs[i]?=some r.reqs[i]:=Ge h;refine Xi (AF r.reqs[i]) (Yi (Yi (Nn i) (by simp[hg])) (Yi rfl ?_));have hq:=hs r.reqs[i] (At h);refine Yi (Nz rfl) (Yi (Nz rfl) ?_);refine Xi ⟨[(1,.ref 1 0),(2,.ref 2 0),(5,.ref 5 0),(9,sl AF r.reqs),(10,vi (r.reqs.map AF).length),(11,vi i)],[(1,.cells (qh r (.slice (.id 900 2) ((r.reqs.take i).map AF)))),(2,.cells Xh),(5,.cells (AF r.reqs[i])),(900,.tok 2 ((r.reqs.take i).map AF).length)],Aa⟩ (Yi ⟨Z6,Z4,Fh,Tv⟩ ?_)
  refine Xi .pure (Xi _ (Yi (u6 r.reqs[i].set hq) ?_));refine Yi (Nz rfl) ?_;refine Xi ⟨[(1,.ref 1 0),(2,.ref 2 0),(5,.ref 5 0),(9,sl AF r.reqs),(10,vi (r.reqs.map AF).length),(11,vi i)],[(1,.cells (qh r (.slice (.id 900 2) ((r.reqs.take i).map AF)))),(2,.cells Xh),(5,.cells (AF r.reqs[i])),(900,.tok 2 ((r.reqs.take i).map AF).length)],Aa⟩ (Yi ⟨Z6,Z4,Fh,Tv⟩ ?_)
  refine Yi (Nz rfl) ?_;have Gv:CQ 2 [AF r.reqs[i]]∧((r.reqs.take i).map AF).length=((r.reqs.take i).map AF).length∧(((r.reqs.take i).map AF).length+[AF r.reqs[i]].length)*40≤140737488355328∧((r.reqs.take i).map AF).length+[AF r.reqs[i]].length≤9223372036854775807 :=
   ⟨⟨rfl,trivial⟩,rfl,by rw[Lm,AC,AG];omega,by rw[Lm,AC,AG];omega⟩
  refine Yi Gv ?_;refine Yi (Nz rfl) ?_;refine Yi (Ii i (by omega)) ?_;refine Xi ⟨i+1,by omega⟩ ?_;have et:(r.reqs.take (i+1)).map AF=(r.reqs.take i).map AF++[AF r.reqs[i]]:=by rw[Bk,hg,Ay];rfl
  have e1:HO.cells (qh r (.slice (.id 900 2) ((r.reqs.take i).map AF++[AF r.reqs[i]])))=.cells (qh r (.slice (.id 900 2) ((r.reqs.take (i+1)).map AF))):=by rw[et]
  have e2:HO.tok 2 (((r.reqs.take i).map AF).length+[AF r.reqs[i]].length)=.tok 2 ((r.reqs.take (i+1)).map AF).length:=by rw[et,Ae]
  exact⟨Dl r.reqs.length i (by omega),Z5,⟨⟨e1,rfl⟩,Zr,⟨e2,rfl⟩,Tv⟩,Fh,Tv⟩
 ·intro h;have h:¬(i:Int)<(r.reqs.map AF).length:=h;have h:¬i<r.reqs.length:=by simpa using h
  refine Yi (Nz rfl) (Yi (Nz rfl) (Yi (Nz rfl) ?_));have e:AV.agg (qh r (.slice .none ((r.reqs.take i).map AF)))=.agg (Ag r):=by rw[Aw (by omega)]
  exact .of_eq e
abbrev vc(c:UInt8):AV:=.v (.int .u8 c.toNat)
theorem VW(a:UInt8)(n:Nat)(h:n<256):decide (UInt8.ofNat n≤a)=decide ((n:Int)≤(a.toNat:Int)):=by
 rw[BR,Au,Au,Ly,show(UInt8.ofNat n).toNat=n by simp;omega];omega
theorem VV(a:UInt8)(n:Nat)(h:n<256):decide (a≤UInt8.ofNat n)=decide ((a.toNat:Int)≤(n:Int)):=by
 rw[BR,Au,Au,Ly,show(UInt8.ofNat n).toNat=n by simp;omega];omega
theorem nI(c:UInt8):PC 162 [vc c] (vb (EG c)):=by
 refine Ps E4 Tryz.func162 rfl (Nz rfl) ?_;have e1:decide ((97:UInt8)≤c)=decide ((97:Int)≤(c.toNat:Int)):=VW c 97 (by decide);have e2:decide (c≤(122:UInt8))=decide ((c.toNat:Int)≤(122:Int)):=VV c 122 (by decide);have es:EG c=(decide ((97:Int)≤(c.toNat:Int))&&decide ((c.toNat:Int)≤(122:Int))):=by unfold EG;rw[e1,e2]
 refine Yi ?_ ?_
 ·intro h;have h:(97:Int)≤(c.toNat:Int):=h;refine Yi ?_ ?_
  ·intro h2;have h2:(c.toNat:Int)≤122:=h2;exact .of_eq (Ac vb (show true=EG c by rw[es,Ar h,Ar h2];rfl))
  ·intro h2;have h2:¬(c.toNat:Int)≤122:=h2;exact .of_eq (Ac vb (show false=EG c by rw[es,Ao h2,Di]))
 ·intro h;have h:¬(97:Int)≤(c.toNat:Int):=h;exact .of_eq (Ac vb (show false=EG c by rw[es,Ao h];rfl))
theorem nJ(c:UInt8):PC 163 [vc c] (vb (CA c)):=by
 refine Ps E4 Tryz.func163 rfl (Nz rfl) ?_;have e1:decide ((48:UInt8)≤c)=decide ((48:Int)≤(c.toNat:Int)):=VW c 48 (by decide);have e2:decide (c≤(57:UInt8))=decide ((c.toNat:Int)≤(57:Int)):=VV c 57 (by decide);have es:CA c=(decide ((48:Int)≤(c.toNat:Int))&&decide ((c.toNat:Int)≤(57:Int))):=by unfold CA;rw[e1,e2]
 refine Yi ?_ ?_
 ·intro h;have h:(48:Int)≤(c.toNat:Int):=h;refine Yi ?_ ?_
  ·intro h2;have h2:(c.toNat:Int)≤57:=h2;exact .of_eq (Ac vb (show true=CA c by rw[es,Ar h,Ar h2];rfl))
  ·intro h2;have h2:¬(c.toNat:Int)≤57:=h2;exact .of_eq (Ac vb (show false=CA c by rw[es,Ao h2,Di]))
 ·intro h;have h:¬(48:Int)≤(c.toNat:Int):=h;exact .of_eq (Ac vb (show false=CA c by rw[es,Ao h];rfl))
theorem vQ(c:UInt8):PC 231 [vc c] (vb (LX c)):=by
 refine Ps E4 Tryz.func231 rfl (Nz rfl) ?_;have e1:decide ((65:UInt8)≤c)=decide ((65:Int)≤(c.toNat:Int)):=VW c 65 (by decide);have e2:decide (c≤(90:UInt8))=decide ((c.toNat:Int)≤(90:Int)):=VV c 90 (by decide);have es:LX c=(decide ((65:Int)≤(c.toNat:Int))&&decide ((c.toNat:Int)≤(90:Int))):=by unfold LX;rw[e1,e2]
 refine Yi ?_ ?_
 ·intro h;have h:(65:Int)≤(c.toNat:Int):=h;refine Yi ?_ ?_
  ·intro h2;have h2:(c.toNat:Int)≤90:=h2;exact .of_eq (Ac vb (show true=LX c by rw[es,Ar h,Ar h2];rfl))
  ·intro h2;have h2:¬(c.toNat:Int)≤90:=h2;exact .of_eq (Ac vb (show false=LX c by rw[es,Ao h2,Di]))
 ·intro h;have h:¬(65:Int)≤(c.toNat:Int):=h;exact .of_eq (Ac vb (show false=LX c by rw[es,Ao h];rfl))
abbrev Nc(c:UInt8):Bool:=EG c||CA c
theorem vF(c:UInt8):PC 161 [vc c] (vb (Nc c)):=by
 have h1:=nI c;have h2:=nJ c;rcases Bt (EG c)with e | e
 ·rw[e]at h1;refine Ps E4 Tryz.func161 rfl (Nz rfl) ?_;refine Xi .pure (Xi _ (Yi (h1) ?_));exact .of_eq (Ac vb (show true=Nc c by unfold Nc;rw[e];rfl))
 ·rw[e]at h1;refine Ps E4 Tryz.func161 rfl (Nz rfl) ?_;refine Xi .pure (Xi _ (Yi (h1) ?_));refine Xi .pure (Xi _ (Yi (h2) ?_));exact .of_eq (Ac vb (show CA c=Nc c by unfold Nc;rw[e];rfl))
theorem vL(c:UInt8):PC 202 [vc c] (vb (FZ c)):=by
 have h1:=nI c;have h2:=vQ c;have h3:=nJ c;have ew:FZ c=(EG c||LX c||CA c||decide (c=95)):=rfl;rcases Bt (EG c)with e | e
 ·rw[e]at h1;refine Ps E4 Tryz.func202 rfl (Nz rfl) ?_;refine Xi .pure (Xi _ (Yi (h1) ?_));exact .of_eq (Ac vb (show true=FZ c by rw[ew,e];rfl))
 rw[e]at h1;rcases Bt (LX c)with e2 | e2
 ·rw[e2]at h2;refine Ps E4 Tryz.func202 rfl (Nz rfl) ?_;refine Xi .pure (Xi _ (Yi (h1) ?_));refine Xi .pure (Xi _ (Yi (h2) ?_));exact .of_eq (Ac vb (show true=FZ c by rw[ew,e,e2];rfl))
 rw[e2]at h2;rcases Bt (CA c)with e3 | e3
 ·rw[e3]at h3;refine Ps E4 Tryz.func202 rfl (Nz rfl) ?_;refine Xi .pure (Xi _ (Yi (h1) ?_));refine Xi .pure (Xi _ (Yi (h2) ?_));refine Xi .pure (Xi _ (Yi (h3) ?_));exact .of_eq (Ac vb (show true=FZ c by rw[ew,e,e2,e3];rfl))
 rw[e3]at h3;refine Ps E4 Tryz.func202 rfl (Nz rfl) ?_;refine Xi .pure (Xi _ (Yi (h1) ?_));refine Xi .pure (Xi _ (Yi (h2) ?_));refine Xi .pure (Xi _ (Yi (h3) ?_));have eb:decide (c=95)=decide ((c.toNat:Int)=95):=by
  rw[BR,Au,Au];constructor
  ·intro h;subst h;rfl
  ·intro h;exact Gy.1 (by show c.toNat=95;omega)
 refine Yi ?_ ?_
 ·intro h;have h:(c.toNat:Int)=95:=h;exact .of_eq (Ac vb (show true=FZ c by rw[ew,e,e2,e3,eb,Ar h];rfl))
 ·intro h;have h:¬(c.toNat:Int)=95:=h;exact .of_eq (Ac vb (show false=FZ c by rw[ew,e,e2,e3,eb,Ao h];rfl))
theorem MF(s:ByteArray)(i:Nat)(h:i<s.data.toList.length):s.data[i]?=some s.data.toList[i]:=by
 rw[←AR];exact Ge h
theorem nH(s:ByteArray)(f:Nat)(q:UInt8→Bool)(hf:∀c,PC f [vc c] (vb (q c)))(hs:s.data.toList.length<4611686018427387904):PC 160 [vs s,.v (UC f)] (vb (s.data.toList.all q)):=by
 have Eh:s.size=s.data.toList.length:=by simp
 refine Ps E4 Tryz.func160 rfl (Nz rfl) ?_;refine Xi {i:Nat // i≤s.data.toList.length∧∀j (hj:j<s.data.toList.length),j<i→q s.data.toList[j]=true} (Xi (fun i=>⟨[(0,vs s),(1,.v (UC f)),(7,vi s.size),(8,vi i.1)],[],Aa⟩) (Xi (fun i=>s.data.toList.length-i.1) (Yi (Xi ⟨0,AD _,fun j _ h=>by omega⟩ ?_) ?_)))
 ·exact⟨Z4,Tv,Fh,Tv⟩
 intro⟨i,h1,h2⟩;refine Yi ?_ ?_
 ·intro h;have h:(i:Int)<(s.size:Nat):=h;have h:i<s.data.toList.length:=by omega
  refine Xi s.data.toList[i] (Yi ⟨by show(0:Int)≤i;omega,by show s.data[((i:Nat):Int).toNat]?=_;rw[Bj];exact MF s i h⟩ ?_);have hc:=hf s.data.toList[i];refine BT (Bt (q s.data.toList[i])) (fun e=>?_) (fun e=>?_)
  ·rw[e]at hc;refine Xi .pure (Xi _ (Yi (hc) ?_));refine Yi (Ii i (by omega)) ?_;refine Xi ⟨i+1,by omega,fun j hj Je=>?_⟩ ?_
   ·rcases B7 j i with z | z
    ·exact h2 j hj z
    ·have:j=i:=by omega
     subst this;exact e
   ·exact⟨Dl s.data.toList.length i (by omega),Z4,Tv,Fh,Tv⟩
  ·rw[e]at hc;refine Xi .pure (Xi _ (Yi (hc) ?_));have er:s.data.toList.all q=false:=by
    rw[AK];intro ha
    have:=AY.1 ha _ (At h)
    rw[e]at this;cases this
   exact .of_eq (Ac vb er.symm)
 ·intro h;have h:¬(i:Int)<(s.size:Nat):=h;have er:s.data.toList.all q=true:=AY.2 fun c hc=>by
   obtain⟨j,hj,rfl⟩:=BU hc;exact h2 j hj (by omega)
  exact .of_eq (Ac vb er.symm)
end Go.Eng
namespace Go.Proofs
open Go.Shelf
def Tryz.laySplit_ren:Go.Shelf.Ren:=⟨fun | 146=>157 | 221=>200 | 268=>227 | 138=>228 | 143=>229 | 195=>250 | 197=>251 | 218=>252 | 219=>253 | 260=>271 | 217=>272 | 225=>273 | 224=>274 | 267=>275 | 266=>290 | 314=>291 | n=>n,fun | 9=>9 | 31=>139 | 3=>3 | 4=>4 | 0=>0 | 105=>291 | 21=>21 | 5=>5 | 46=>174 | 119=>313 | 139=>316 | 138=>315 | 146=>260 | 51=>211 | n=>n,fun | 1=>0 | 3=>1 | 4=>2 | n=>n⟩
theorem Tryz.laySplit:Go.Proofs.Lays.n146 Tryz.prog Tryz.laySplit_ren:={
 mixed:=by kernel_rfl
 f138:=Tryz.func228.trans (congrArg some (by kernel_rfl))
 f143:=Tryz.func229.trans (congrArg some (by kernel_rfl))
 f146:=Tryz.func157.trans (congrArg some (by kernel_rfl))
 f195:=Tryz.func250.trans (congrArg some (by kernel_rfl))
 f197:=Tryz.func251.trans (congrArg some (by kernel_rfl))
 f217:=Tryz.func272.trans (congrArg some (by kernel_rfl))
 f218:=Tryz.func252.trans (congrArg some (by kernel_rfl))
 f219:=Tryz.func253.trans (congrArg some (by kernel_rfl))
 f221:=Tryz.func200.trans (congrArg some (by kernel_rfl))
 f224:=Tryz.func274.trans (congrArg some (by kernel_rfl))
 f225:=Tryz.func273.trans (congrArg some (by kernel_rfl))
 f260:=Tryz.func271.trans (congrArg some (by kernel_rfl))
 f266:=Tryz.func290.trans (congrArg some (by kernel_rfl))
 f267:=Tryz.func275.trans (congrArg some (by kernel_rfl))
 f268:=Tryz.func227.trans (congrArg some (by kernel_rfl))
 f314:=Tryz.func291.trans (congrArg some (by kernel_rfl))
 t0:=Tryz.underlying0
 a0:=Tryz.isAgg0
 z0:=Tryz.sizeOf0
 v0:=Tryz.zeroValue0
 t3:=Tryz.underlying3
 a3:=Tryz.isAgg3
 z3:=Tryz.sizeOf3
 v3:=Tryz.zeroValue3
 t4:=Tryz.underlying4
 a4:=Tryz.isAgg4
 z4:=Tryz.sizeOf4
 v4:=Tryz.zeroValue4
 t5:=Tryz.underlying5
 a5:=Tryz.isAgg5
 z5:=Tryz.sizeOf5
 v5:=Tryz.zeroValue5
 t9:=Tryz.underlying9
 a9:=Tryz.isAgg9
 z9:=Tryz.sizeOf9
 v9:=Tryz.zeroValue9
 t21:=Tryz.underlying21
 a21:=Tryz.isAgg21
 z21:=Tryz.sizeOf21
 v21:=Tryz.zeroValue21
 t31:=Tryz.underlying139
 a31:=Tryz.isAgg139
 z31:=Tryz.sizeOf139
 v31:=Tryz.zeroValue139
 t46:=Tryz.underlying174
 a46:=Tryz.isAgg174
 z46:=Tryz.sizeOf174
 v46:=Tryz.zeroValue174
 t51:=Tryz.underlying211
 a51:=Tryz.isAgg211
 z51:=Tryz.sizeOf211
 v51:=Tryz.zeroValue211
 t105:=Tryz.underlying291
 a105:=Tryz.isAgg291
 z105:=Tryz.sizeOf291
 v105:=Tryz.zeroValue291
 t119:=Tryz.underlying313
 a119:=Tryz.isAgg313
 z119:=Tryz.sizeOf313
 t138:=Tryz.underlying315
 a138:=Tryz.isAgg315
 z138:=Tryz.sizeOf315
 v138:=Tryz.zeroValue315
 t139:=Tryz.underlying316
 a139:=Tryz.isAgg316
 z139:=Tryz.sizeOf316
 v139:=Tryz.zeroValue316
 t146:=Tryz.underlying260
 a146:=Tryz.isAgg260
 z146:=Tryz.sizeOf260
 v146:=Tryz.zeroValue260
 g1:=by kernel_rfl
 g3:=by kernel_rfl
 g4:=by kernel_rfl }
def Tryz.layLast_ren:Go.Shelf.Ren:=⟨fun | 148=>111 | 222=>164 | 223=>165 | 269=>204 | n=>n,fun | 9=>9 | 3=>3 | 4=>4 | 5=>5 | 146=>260 | 51=>211 | 46=>174 | n=>n,fun | n=>n⟩
theorem Tryz.layLast:Go.Proofs.Lays.n148 Tryz.prog Tryz.layLast_ren:={
 mixed:=by kernel_rfl
 f148:=Tryz.func111.trans (congrArg some (by kernel_rfl))
 f222:=Tryz.func164.trans (congrArg some (by kernel_rfl))
 f223:=Tryz.func165.trans (congrArg some (by kernel_rfl))
 f269:=Tryz.func204.trans (congrArg some (by kernel_rfl))
 t3:=Tryz.underlying3
 a3:=Tryz.isAgg3
 z3:=Tryz.sizeOf3
 v3:=Tryz.zeroValue3
 t4:=Tryz.underlying4
 a4:=Tryz.isAgg4
 z4:=Tryz.sizeOf4
 v4:=Tryz.zeroValue4
 t5:=Tryz.underlying5
 a5:=Tryz.isAgg5
 z5:=Tryz.sizeOf5
 v5:=Tryz.zeroValue5
 t9:=Tryz.underlying9
 a9:=Tryz.isAgg9
 z9:=Tryz.sizeOf9
 v9:=Tryz.zeroValue9
 t46:=Tryz.underlying174
 a46:=Tryz.isAgg174
 z46:=Tryz.sizeOf174
 v46:=Tryz.zeroValue174
 t51:=Tryz.underlying211
 a51:=Tryz.isAgg211
 z51:=Tryz.sizeOf211
 v51:=Tryz.zeroValue211
 t146:=Tryz.underlying260
 a146:=Tryz.isAgg260
 z146:=Tryz.sizeOf260
 v146:=Tryz.zeroValue260 }
def Tryz.layCut_ren:Go.Shelf.Ren:=⟨fun | 103=>201 | 210=>230 | 206=>254 | n=>n,fun | 9=>9 | 4=>4 | 24=>216 | 3=>3 | n=>n,fun | n=>n⟩
theorem Tryz.layCut:Go.Proofs.Lays.n103 Tryz.prog Tryz.layCut_ren:={
 mixed:=by kernel_rfl
 f103:=Tryz.func201.trans (congrArg some (by kernel_rfl))
 f206:=Tryz.func254.trans (congrArg some (by kernel_rfl))
 f210:=Tryz.func230.trans (congrArg some (by kernel_rfl))
 t3:=Tryz.underlying3
 a3:=Tryz.isAgg3
 z3:=Tryz.sizeOf3
 v3:=Tryz.zeroValue3
 t4:=Tryz.underlying4
 a4:=Tryz.isAgg4
 z4:=Tryz.sizeOf4
 v4:=Tryz.zeroValue4
 t9:=Tryz.underlying9
 a9:=Tryz.isAgg9
 z9:=Tryz.sizeOf9
 v9:=Tryz.zeroValue9
 t24:=Tryz.underlying216
 a24:=Tryz.isAgg216
 z24:=Tryz.sizeOf216
 v24:=Tryz.zeroValue216 }
def Tryz.layCont_ren:Go.Shelf.Ren:=⟨fun | 144=>232 | 143=>229 | 219=>253 | 217=>272 | 225=>273 | 224=>274 | 267=>275 | 266=>290 | 314=>291 | n=>n,fun | 9=>9 | 4=>4 | 3=>3 | 5=>5 | 46=>174 | 146=>260 | 51=>211 | n=>n,fun | 1=>0 | n=>n⟩
theorem Tryz.layCont:Go.Proofs.Lays.n144 Tryz.prog Tryz.layCont_ren:={
 mixed:=by kernel_rfl
 f143:=Tryz.func229.trans (congrArg some (by kernel_rfl))
 f144:=Tryz.func232.trans (congrArg some (by kernel_rfl))
 f217:=Tryz.func272.trans (congrArg some (by kernel_rfl))
 f219:=Tryz.func253.trans (congrArg some (by kernel_rfl))
 f224:=Tryz.func274.trans (congrArg some (by kernel_rfl))
 f225:=Tryz.func273.trans (congrArg some (by kernel_rfl))
 f266:=Tryz.func290.trans (congrArg some (by kernel_rfl))
 f267:=Tryz.func275.trans (congrArg some (by kernel_rfl))
 f314:=Tryz.func291.trans (congrArg some (by kernel_rfl))
 t3:=Tryz.underlying3
 a3:=Tryz.isAgg3
 z3:=Tryz.sizeOf3
 v3:=Tryz.zeroValue3
 t4:=Tryz.underlying4
 a4:=Tryz.isAgg4
 z4:=Tryz.sizeOf4
 v4:=Tryz.zeroValue4
 t5:=Tryz.underlying5
 a5:=Tryz.isAgg5
 z5:=Tryz.sizeOf5
 v5:=Tryz.zeroValue5
 t9:=Tryz.underlying9
 a9:=Tryz.isAgg9
 z9:=Tryz.sizeOf9
 v9:=Tryz.zeroValue9
 t46:=Tryz.underlying174
 a46:=Tryz.isAgg174
 z46:=Tryz.sizeOf174
 v46:=Tryz.zeroValue174
 t51:=Tryz.underlying211
 a51:=Tryz.isAgg211
 z51:=Tryz.sizeOf211
 v51:=Tryz.zeroValue211
 t146:=Tryz.underlying260
 a146:=Tryz.isAgg260
 z146:=Tryz.sizeOf260
 v146:=Tryz.zeroValue260
 g1:=by kernel_rfl }
end Go.Proofs
namespace Go.Eng
open Go.Proofs
abbrev Zh:ByteArray:=⟨#[47]⟩
abbrev BF(s:ByteArray):List ByteArray:=Go.Lib.splitB Zh 0 (Go.Lib.countB s Zh) s
theorem Pq(s:ByteArray):(BF s).map (·.data.toList)=CH 47 s.data.toList:=dM s 47
abbrev EH(s:ByteArray):List AV:=[vs s]
theorem qH(s:ByteArray)(hs:F0 s):PC 157 [vs s,vs Zh] (sl EH (BF s)):=by
 unfold F0 at hs;have h:=dA (P:=Tryz.prog) (f:=157) (args:=[vs s,vs Zh]) [.string s,.string Zh] ((BF s).map Value.string) 9 (dZ 157 Tryz.func157 (by kernel_rfl) rfl) rfl (fun x hx=>by
  obtain⟨y,_,rfl⟩:=Am.1 hx;rfl) (fun w hm=>by
  obtain⟨m,hm⟩:=hm;have hl:(BF s).length=Go.Lib.countB s Zh+1:=Go.Lib.splitB_all Zh (by decide) 0 _ s rfl;refine(Any.strings_Split Tryz.laySplit (by kernel_rfl) s Zh m w (by omega) hm (by decide)).mono ?_
  rintro e w' ⟨rfl,rfl⟩
  exact⟨by rw[Lm,hl],rfl⟩)
 rw[BQ]at h;exact h
theorem vv(s p:ByteArray)(hs:F0 s):PC 111 [vs s,vs p] (vi (Go.Lib.lastIndex s.data.toList p.data.toList)):=by
 unfold F0 at hs;exact Lp [.string s,.string p] (.int .i64 (Go.Lib.lastIndex s.data.toList p.data.toList)) (dZ 111 Tryz.func111 (by kernel_rfl) rfl) rfl (fun g w=>.v _ _) fun w _=>Any.strings_LastIndex Tryz.layLast s p (by omega) w
theorem vK(s p:ByteArray):PC 201 [vs s,vs p] (.tup [vs ⟨(Go.Lib.trimPrefix s.data.toList p.data.toList).toArray⟩,vb (Go.Lib.hasPrefix s.data.toList p.data.toList)]):=by
 exact Lp [.string s,.string p] _ (dZ 201 Tryz.func201 (by kernel_rfl) rfl) rfl (fun g w=>i7 [.string ⟨(Go.Lib.trimPrefix s.data.toList p.data.toList).toArray⟩,.bool (Go.Lib.hasPrefix s.data.toList p.data.toList)]) fun w _=>Any.strings_CutPrefix Tryz.layCut s p w
theorem vR(s p:ByteArray)(hs:F0 s):PC 232 [vs s,vs p] (vb (Go.Lib.contains s.data.toList p.data.toList)):=by
 unfold F0 at hs;exact Lp [.string s,.string p] (.bool (Go.Lib.contains s.data.toList p.data.toList)) (dZ 232 Tryz.func232 (by kernel_rfl) rfl) rfl (fun g w=>.v _ _) fun w hm=>by
  obtain⟨m,hm⟩:=hm;exact Any.strings_Contains Tryz.layCont s p m w (by omega) hm
theorem bv:∀x y:List UInt8,Na x y=x.isPrefixOf y
 | [],_=>by simp[Na]
 |_::_,[]=>rfl
 |a::x,b::y=>by
  rw[Na,List.isPrefixOf_cons_cons,bv x y]
  rfl
theorem gV(x:List UInt8):∀y:List UInt8,gU x y=Go.Lib.contains y x
 | []=>by
  unfold Go.Lib.contains Go.Lib.index;cases x<;>rfl
 |b::y=>by
  rw[gU,bv,gV x y];unfold Go.Lib.contains;have hg:=Go.Lib.index_ge y x
  conv=>rhs;unfold Go.Lib.index
  cases h:x.isPrefixOf (b::y)with
  |true=>simp
  |false =>
   simp only[Jp,Du,GF]
   by_cases h0:Go.Lib.index y x=-1
   ·rw[h0];rfl
   ·have h1:(Go.Lib.index y x == -1)=false:=by simpa using h0
    rw[h1];simp only[Du,GF];rw[Ar (by omega),Ar (by omega)]
theorem NS:∀(l:List UInt8) (h:0<l.length),l.headD 0=l[0]
 | [],h=>by simp at h
 |_::_,_=>rfl
abbrev mM:ByteArray:=⟨⟨ZO⟩⟩
theorem vM(s:ByteArray)(hs:F0 s):PC 203 [vs s] (vb (UL s.data.toList)):=by
 unfold F0 at hs;have hc:=vR mM ((⟨#[32]⟩++s)++⟨#[32]⟩) (H9 (by kernel_rfl));have e:Go.Lib.contains mM.data.toList ((⟨#[32]⟩++s:ByteArray)++⟨#[32]⟩).data.toList=UL s.data.toList:=by
  unfold UL;rw[gV]
  congr 1
 rw[e]at hc;refine Ps E4 Tryz.func203 rfl (Nz rfl) ?_;refine Yi (by show(((1+s.size:Nat)):Int)≤_;omega) ?_;refine Yi (by show(((⟨#[32]⟩++s:ByteArray).size+1:Nat):Int)≤_;rw[ByteArray.size_append];show(((1+s.size)+1:Nat):Int)≤_;omega) ?_;refine Xi .pure (Xi _ (Yi (hc) ?_));exact .refl _
theorem vE(s:ByteArray)(hs:F0 s):PC 159 [vs s] (vb (Gr s.data.toList)):=by
 have hk:=vM s hs;have hw:=nH s 202 FZ vL (by unfold F0 at hs;simp;omega);have Eh:s.size=s.data.toList.length:=by simp
 have en:Gr s.data.toList=(!s.data.toList.isEmpty&&decide (s.data.toList.length≤32)&&EG (s.data.toList.headD 0)&&s.data.toList.all FZ&&!UL s.data.toList):=rfl
 by_cases h0:s=⟨#[]⟩
 ·subst h0;refine Ps E4 Tryz.func159 rfl (Nz rfl) ?_;refine Yi ?_ ?_
  ·intro h;exact absurd rfl (show(⟨#[]⟩:ByteArray)≠⟨#[]⟩from h)
  ·intro _;exact .refl _
 have zm : s.data.toList≠[]:=fun e=>h0 (by
  have:s.data=#[]:=by rw[←IN];exact e
  cases s;simp_all)
 have CB:0<s.data.toList.length:=GY.2 zm;have Qb:s.data.toList.isEmpty=false:=by
  cases hl:s.data.toList with
  |nil=>exact absurd hl zm
  |cons a l=>rfl
 have zH:s.data.toList.headD 0=s.data.toList[0]:=NS _ CB;have eu:=nI s.data.toList[0];refine Ps E4 Tryz.func159 rfl (Nz rfl) ?_;refine Yi ?_ ?_
 rotate_left
 ·intro h;exact absurd h0 h
 intro _;refine Yi ?_ ?_
 rotate_left
 ·intro h;have h:¬((s.size:Nat):Int)≤32:=h;exact .of_eq (Ac vb (show false=Gr s.data.toList by rw[en,Ao (by omega:¬s.data.toList.length≤32)];simp))
 intro h;have h:((s.size:Nat):Int)≤32:=h;refine Xi s.data.toList[0] (Yi ⟨BJ _,MF s 0 CB⟩ ?_);refine BT (Bt (EG s.data.toList[0])) (fun e1=>?_) (fun e1=>?_)
 rotate_left
 ·rw[e1]at eu;refine Xi .pure (Xi _ (Yi (eu) ?_));exact .of_eq (Ac vb (show false=Gr s.data.toList by rw[en,zH,e1];simp))
 rw[e1]at eu;refine Xi .pure (Xi _ (Yi (eu) ?_));refine BT (Bt (s.data.toList.all FZ)) (fun e2=>?_) (fun e2=>?_)
 rotate_left
 ·rw[e2]at hw;refine Xi .pure (Xi _ (Yi (hw) ?_));exact .of_eq (Ac vb (show false=Gr s.data.toList by rw[en,e2];simp))
 rw[e2]at hw;refine Xi .pure (Xi _ (Yi (hw) ?_));have ef:Gr s.data.toList=!UL s.data.toList:=by rw[en,Qb,zH,e1,e2,Ar (by omega:s.data.toList.length≤32)];rfl
 refine BT (Bt (UL s.data.toList)) (fun e3=>?_) (fun e3=>?_)
 ·rw[e3]at hk;refine Xi .pure (Xi _ (Yi (hk) ?_));exact .of_eq (Ac vb (show false=Gr s.data.toList by rw[ef,e3];rfl))
 ·rw[e3]at hk;refine Xi .pure (Xi _ (Yi (hk) ?_));exact .of_eq (Ac vb (show true=Gr s.data.toList by rw[ef,e3];rfl))
abbrev Xc:Option Int→AV
 |some n=>.tup [vi n,vb true]
 |none=>.tup [vi 0,vb false]
theorem Sm{z:Int}(h0:0≤z)(h1:z<256):IntKind.u8.wrap z=z:=by
 show z % 256=z;omega
theorem Ji{c:UInt8}(h:CA c=true):48≤c.toNat∧c.toNat≤57:=by
 unfold CA at h;simp only[Ah,Au]at h;exact⟨Ly.1 h.1,Ly.1 h.2⟩
theorem KQ(r:List UInt8)(i:Nat)(h:i<r.length):DY (r.take (i+1))=10*DY (r.take i)+((r[i].toNat:Int)-48):=by
 unfold DY;rw[Bk,Ge h,FE];rfl
theorem vD(s:ByteArray)(hs:F0 s):PC 158 [vs s] (Xc (Gq s.data.toList)):=by
 unfold F0 at hs;have hc:=vK s ⟨#[118]⟩
 by_cases hp:∃r,s.data.toList=118::r
 ·obtain⟨r,hr⟩:=hp;have e1:Go.Lib.hasPrefix s.data.toList (⟨#[118]⟩:ByteArray).data.toList=true:=by rw[hr];rfl
  have e2:Go.Lib.trimPrefix s.data.toList (⟨#[118]⟩:ByteArray).data.toList=r:=by unfold Go.Lib.trimPrefix;rw[e1,Ap rfl,hr];rfl
  rw[e1,e2]at hc;have hv:Gq s.data.toList=if(r.isEmpty||decide (3<r.length)||(decide (1<r.length)&&decide (r.headD 0=48))||!r.all CA)=true then none else some (DY r):=by rw[hr];rfl
  have WP:r.length<s.size:=by
   have:s.size=s.data.toList.length:=by simp
   rw[this,hr];simp
  generalize hB:(⟨r.toArray⟩:ByteArray)=rB at hc;have gq:rB.data.toList=r:=by rw[←hB]
  have rd:rB.size=r.length:=by rw[←hB];rfl
  have hw:=nH rB 163 CA nJ (by rw[gq];omega);rw[gq]at hw;have no:∀{b:Bool},b=true→(if b=true then none else some (DY r))=(none:Option Int):=fun h=>Ap h;refine Ps (Hv [2,4]) Tryz.func158 rfl (Nz rfl) ?_;refine Xi .pure (Xi _ (Yi (hc) ?_));refine Xi ⟨[(0,vs rB),(4,vb true)],[],Aa⟩ (Yi ⟨Z2,Tv,Fh,Tv⟩ ?_)
  refine Yi ?_ ?_
  ·intro h;have h:rB=⟨#[]⟩:=h
   have:r=[]:=by rw[←gq,h]
   exact .of_eq (Ac Xc (show(none:Option Int)=Gq s.data.toList by rw[hv,this];rfl))
  intro h;have h:¬rB=⟨#[]⟩:=h;have DF:r≠[]:=fun e=>h (by rw[←hB,e]);have CB:0<r.length:=GY.2 DF;have Qb:r.isEmpty=false:=by
   cases hl:r with
   |nil=>exact absurd hl DF
   |cons a l=>rfl
  refine Yi ?_ ?_
  ·intro h2;have h2:(3:Int)<((rB.size:Nat):Int):=h2;exact .of_eq (Ac Xc (show(none:Option Int)=Gq s.data.toList by rw[hv,no];rw[Ar (by omega:3<r.length)];simp))
  intro h2;have h2:¬(3:Int)<((rB.size:Nat):Int):=h2;have rS:r.length≤3:=by omega
  have d3:decide (3<r.length)=false:=Ao (by omega);refine Yi ?_ ?_
  ·intro h3;have h3:(1:Int)<((rB.size:Nat):Int):=h3;have wD:rB.data[(0:Int).toNat]?=some r[0]:=by
    show rB.data[0]?=_;rw[←AR,gq];exact Ge CB
   refine Xi r[0] (Yi ⟨BJ _,wD⟩ ?_);have hh:=NS r CB;refine Yi ?_ ?_
   ·intro h4;have h4:(r[0].toNat:Int)=48:=h4
    have:r[0]=48:=Gy.1 (by show r[0].toNat=48;omega)
    exact .of_eq (Ac Xc (show(none:Option Int)=Gq s.data.toList by rw[hv,hh,this,Ar (by omega:1<r.length)];simp))
   intro h4;have h4:¬(r[0].toNat:Int)=48:=h4;have eo:(decide (1<r.length)&&decide (r.headD 0=48))=false:=by rw[hh,Ao (show ¬r[0]=48 from fun e=>h4 (by rw[e];rfl)),Di]
   have oN:Gq s.data.toList=if(!r.all CA)=true then none else some (DY r):=by rw[hv,Qb,d3,eo];rfl
   refine BT (Bt (r.all CA)) (fun e3=>?_) (fun e3=>?_)
   rotate_left
   ·rw[e3]at hw;refine Xi .pure (Xi _ (Yi (hw) ?_));exact .of_eq (Ac Xc (show(none:Option Int)=Gq s.data.toList by rw[oN,e3];rfl))
   rw[e3]at hw;refine Xi .pure (Xi _ (Yi (hw) ?_));have xw:Gq s.data.toList=some (DY r):=by rw[oN,e3];rfl
   refine Xi ⟨[(0,vs rB)],[],Aa⟩ (Yi ⟨Z1,Tv,Fh,Tv⟩ ?_)
   have z0:DY (r.take 0)=0:=rfl;refine Xi {i:Nat // i≤r.length∧0≤DY (r.take i)∧(i=0→DY (r.take i)≤0)∧(i≤1→DY (r.take i)≤9)∧(i≤2→DY (r.take i)≤99)∧DY (r.take i)≤999} (Xi (fun i=>⟨[(0,vs rB),(5,vi (DY (r.take i.1))),(39,vi rB.size),(40,vi i.1)],[],Aa⟩) (Xi (fun i=>r.length-i.1) (Yi (Xi ⟨0,AD _,by omega,fun _=>by omega,fun _=>by omega,fun _=>by omega,by omega⟩ ?_) ?_)))
   ·exact⟨Z4,Tv,Fh,Tv⟩
   intro⟨i,i1,i2,i3,i4,i5,i6⟩;refine Yi ?_ ?_
   ·intro h;have h:(i:Int)<(rB.size:Nat):=h;have h:i<r.length:=by omega
    have wO:CA r[i]=true:=AY.1 e3 _ (At h);have my:=Ji wO;have jJ:=KQ r i h;have ZK:IntKind.u8.wrap ((r[i].toNat:Int)-48)=(r[i].toNat:Int)-48:=Sm (by omega) (by omega);have RI:rB.data[((i:Nat):Int).toNat]?=some r[i]:=by rw[Bj,←AR,gq];exact Ge h
    refine Yi (by show Bi (10*DY (r.take i));unfold Bi;omega) ?_;refine Xi r[i] (Yi ⟨by show(0:Int)≤i;omega,RI⟩ ?_);refine Yi (by show Bi (IntKind.u8.wrap ((r[i].toNat:Int)-48));rw[ZK];unfold Bi;omega) ?_;refine Yi (by show Bi (10*DY (r.take i)+IntKind.u8.wrap ((r[i].toNat:Int)-48));rw[ZK];unfold Bi;omega) ?_;refine Yi (Ii i (by omega)) ?_;have e5:vi (10*DY (r.take i)+IntKind.u8.wrap ((r[i].toNat:Int)-48))=vi (DY (r.take (i+1))):=by rw[ZK,jJ]
    refine Xi ⟨i+1,by omega,by omega,fun _=>by omega,fun _=>by omega,fun _=>by omega,by omega⟩ ?_;exact⟨Dl r.length i (by omega),⟨Zr,⟨e5,rfl⟩,Zr,Zr,Tv⟩,Tv,Fh,Tv⟩
   ·intro h;have h:¬(i:Int)<(rB.size:Nat):=h;have e6:AV.tup [vi (DY (r.take i)),vb true]=Xc (Gq s.data.toList):=by rw[xw,Aw (by omega)]
    exact .of_eq e6
  ·intro h3;have h3:¬(1:Int)<((rB.size:Nat):Int):=h3;have eo:(decide (1<r.length)&&decide (r.headD 0=48))=false:=by rw[Ao (by omega:¬1<r.length)];rfl
   have oN:Gq s.data.toList=if(!r.all CA)=true then none else some (DY r):=by rw[hv,Qb,d3,eo];rfl
   refine BT (Bt (r.all CA)) (fun e3=>?_) (fun e3=>?_)
   rotate_left
   ·rw[e3]at hw;refine Xi .pure (Xi _ (Yi (hw) ?_));exact .of_eq (Ac Xc (show(none:Option Int)=Gq s.data.toList by rw[oN,e3];rfl))
   rw[e3]at hw;refine Xi .pure (Xi _ (Yi (hw) ?_));have xw:Gq s.data.toList=some (DY r):=by rw[oN,e3];rfl
   refine Xi ⟨[(0,vs rB)],[],Aa⟩ (Yi ⟨Z1,Tv,Fh,Tv⟩ ?_)
   have z0:DY (r.take 0)=0:=rfl;refine Xi {i:Nat // i≤r.length∧0≤DY (r.take i)∧(i=0→DY (r.take i)≤0)∧(i≤1→DY (r.take i)≤9)∧(i≤2→DY (r.take i)≤99)∧DY (r.take i)≤999} (Xi (fun i=>⟨[(0,vs rB),(5,vi (DY (r.take i.1))),(39,vi rB.size),(40,vi i.1)],[],Aa⟩) (Xi (fun i=>r.length-i.1) (Yi (Xi ⟨0,AD _,by omega,fun _=>by omega,fun _=>by omega,fun _=>by omega,by omega⟩ ?_) ?_)))
   ·exact⟨Z4,Tv,Fh,Tv⟩
   intro⟨i,i1,i2,i3,i4,i5,i6⟩;refine Yi ?_ ?_
   ·intro h;have h:(i:Int)<(rB.size:Nat):=h;have h:i<r.length:=by omega
    have wO:CA r[i]=true:=AY.1 e3 _ (At h);have my:=Ji wO;have jJ:=KQ r i h;have ZK:IntKind.u8.wrap ((r[i].toNat:Int)-48)=(r[i].toNat:Int)-48:=Sm (by omega) (by omega);have RI:rB.data[((i:Nat):Int).toNat]?=some r[i]:=by rw[Bj,←AR,gq];exact Ge h
    refine Yi (by show Bi (10*DY (r.take i));unfold Bi;omega) ?_;refine Xi r[i] (Yi ⟨by show(0:Int)≤i;omega,RI⟩ ?_);refine Yi (by show Bi (IntKind.u8.wrap ((r[i].toNat:Int)-48));rw[ZK];unfold Bi;omega) ?_;refine Yi (by show Bi (10*DY (r.take i)+IntKind.u8.wrap ((r[i].toNat:Int)-48));rw[ZK];unfold Bi;omega) ?_;refine Yi (Ii i (by omega)) ?_;have e5:vi (10*DY (r.take i)+IntKind.u8.wrap ((r[i].toNat:Int)-48))=vi (DY (r.take (i+1))):=by rw[ZK,jJ]
    refine Xi ⟨i+1,by omega,by omega,fun _=>by omega,fun _=>by omega,fun _=>by omega,by omega⟩ ?_;exact⟨Dl r.length i (by omega),⟨Zr,⟨e5,rfl⟩,Zr,Zr,Tv⟩,Tv,Fh,Tv⟩
   ·intro h;have h:¬(i:Int)<(rB.size:Nat):=h;have e6:AV.tup [vi (DY (r.take i)),vb true]=Xc (Gq s.data.toList):=by rw[xw,Aw (by omega)]
    exact .of_eq e6
 ·have e1:Go.Lib.hasPrefix s.data.toList (⟨#[118]⟩:ByteArray).data.toList=false:=by
   cases hl:s.data.toList with
   |nil=>rfl
   |cons a l =>
    have:a≠118:=fun e=>hp ⟨l,by rw[hl,e]⟩
    show(List.isPrefixOf [118] (a::l))=false;rw[List.isPrefixOf_cons_cons]
    have:((118:UInt8) == a)=false:=by rw[beq_eq_false_iff_ne];exact fun e=>this e.symm
    rw[this];rfl
  have hv:Gq s.data.toList=none:=by
   cases hl:s.data.toList with
   |nil=>rfl
   |cons a l =>
    have:a≠118:=fun e=>hp ⟨l,by rw[hl,e]⟩
    show(if a=118 then _ else none)=none;rw[Aj this]
  rw[e1]at hc;refine Ps E4 Tryz.func158 rfl (Nz rfl) ?_;refine Xi .pure (Xi _ (Yi (hc) ?_));exact .of_eq (Ac Xc hv.symm)
abbrev Qj:Option Int→AV
 |some n=>.tup [vi n,vi 0]
 |none=>.tup [vi 0,vi 4]
theorem Lt(c:UInt8):∀(s x:List UInt8),x∈CH c s→x.length≤s.length
 | [],x,h=>by
  rw[CH]at h;rw[Aq.1 h];exact Al _
 |b::r,x,h=>by
  have ih:=Lt c r;rw[CH]at h;split at h
  ·rcases AA.1 h with rfl | h
   ·exact AD _
   ·have:=ih x h;rw[Az];omega
  ·split at h
   ·rw[Aq.1 h];rw[Az];simp
   ·rename_i y l e;rcases AA.1 h with rfl | h
    ·have:=ih y (by rw[e];exact Ab ..);rw[Az,Az];omega
    ·have:=ih x (by rw[e];exact Ai _ h);rw[Az];omega
theorem iM{p x:ByteArray}(hp:F0 p)(hx:x∈BF p):F0 x:=by
 have h:x.data.toList∈CH 47 p.data.toList:=by rw[←Pq];exact Am.2 ⟨x,hx,rfl⟩
 have:=Lt 47 _ _ h
 unfold F0 at *
 have e1:x.size=x.data.toList.length:=by simp
 have e2:p.size=p.data.toList.length:=by simp
 omega
theorem dy(p:ByteArray):(BF p).length=(CH 47 p.data.toList).length:=by rw[←Pq,Lm]
theorem dz(p:ByteArray):0<(BF p).length:=by
 rw[show(BF p).length=Go.Lib.countB p Zh+1 from Go.Lib.splitB_all Zh (by decide) 0 _ p rfl];omega
theorem dx(p:ByteArray):(BF p).length≤p.size+1:=by
 rw[show(BF p).length=Go.Lib.countB p Zh+1 from Go.Lib.splitB_all Zh (by decide) 0 _ p rfl]
 have:=Go.Lib.countB_le Zh (by decide) p.size p (Al _);omega
theorem ZZ(p:ByteArray)(h:(BF p).length-1<(BF p).length):(CH 47 p.data.toList).getLastD []=((BF p)[(BF p).length-1]).data.toList:=by
 rw[←Pq,List.getLastD_eq_getLast?,List.getLast?_eq_getElem?,Lm,AI,Ge h];rfl
theorem dw(p:ByteArray):(CH 47 p.data.toList).all G6=(BF p).all fun x=>G6 x.data.toList:=by
 rw[←Pq,List.all_map];rfl
theorem qD(p:ByteArray)(hp:F0 p):PC 109 [vs p] (Qj (Bu p)):=by
 have xj:=dx p;have ZJ:=dz p;have xh:(BF p).length-1<(BF p).length:=by omega
 have Eh:p.size=p.data.toList.length:=by simp
 have zE:∀{x},x∈BF p→F0 x:=fun h=>iM hp h;unfold F0 at hp;have RY:((BF p).map EH)[((((BF p).map EH).length:Int)-1).toNat]?=some (EH (BF p)[(BF p).length-1]):=by
  rw[Lm,show(((BF p).length:Int)-1).toNat=(BF p).length-1 by omega];exact CC (Ge xh)
 have hv:=vD (BF p)[(BF p).length-1] (zE (At xh));have em:Bu p=match Gq ((BF p)[(BF p).length-1]).data.toList with
  |none=>none
  |some n=>if(decide (64<p.data.toList.length)||decide ((BF p).length<2))=true then none else if((BF p).all fun x=>G6 x.data.toList)=true then some n else none:=by
  unfold Bu Qk;rw[ZZ p xh,dw,←dy];cases Gq ((BF p)[(BF p).length-1]).data.toList with
  |none=>rfl
  |some n=>rfl
 cases hve:Gq ((BF p)[(BF p).length-1]).data.toList with
 |none =>
  rw[hve]at hv em;refine Ps (Hv [2,3]) Tryz.func109 rfl (Nz rfl) ?_;refine Xi .pure (Xi _ (Yi (qH p hp) ?_));refine Xi ⟨[(0,vs p),(4,sl EH (BF p))],[],Aa⟩ (Yi ⟨Z2,Tv,Fh,Tv⟩ ?_)
  refine Yi (by show Bi ((((BF p).map EH).length:Int)-1);unfold Bi;rw[Lm];omega) ?_;refine Xi (EH (BF p)[(BF p).length-1]) (Yi (Yi (by show(0:Int)≤(((BF p).map EH).length:Int)-1;rw[Lm];omega) RY) (Yi rfl ?_));refine Xi .pure (Xi _ (Yi (hv) ?_));refine Xi ⟨[(0,vs p),(4,sl EH (BF p)),(5,vi 0),(6,vb false)],[],Aa⟩ (Yi ⟨Z4,Tv,Fh,Tv⟩ ?_)
  exact .of_eq (Ac Qj em.symm)
 |some n =>
  rw[hve]at hv em;have em:Bu p=if(decide (64<p.data.toList.length)||decide ((BF p).length<2))=true then none else if((BF p).all fun x=>G6 x.data.toList)=true then some n else none:=em
  refine Ps (Hv [2,3,5]) Tryz.func109 rfl (Nz rfl) ?_;refine Xi .pure (Xi _ (Yi (qH p hp) ?_));refine Xi ⟨[(0,vs p),(4,sl EH (BF p))],[],Aa⟩ (Yi ⟨Z2,Tv,Fh,Tv⟩ ?_)
  refine Yi (by show Bi ((((BF p).map EH).length:Int)-1);unfold Bi;rw[Lm];omega) ?_;refine Xi (EH (BF p)[(BF p).length-1]) (Yi (Yi (by show(0:Int)≤(((BF p).map EH).length:Int)-1;rw[Lm];omega) RY) (Yi rfl ?_));refine Xi .pure (Xi _ (Yi (hv) ?_));refine Xi ⟨[(0,vs p),(4,sl EH (BF p)),(5,vi n),(6,vb true)],[],Aa⟩ (Yi ⟨Z4,Tv,Fh,Tv⟩ ?_)
  refine Yi ?_ ?_
  ·intro h;have h:(64:Int)<((p.size:Nat):Int):=h;exact .of_eq (Ac Qj (show(none:Option Int)=Bu p by rw[em,Ar (by omega:64<p.data.toList.length)];rfl))
  intro h;have h:¬(64:Int)<((p.size:Nat):Int):=h;have d1:decide (64<p.data.toList.length)=false:=Ao (by omega);refine Yi ?_ ?_
  ·intro h2;have h2:(((BF p).map EH).length:Int)<2:=h2;rw[Lm]at h2;exact .of_eq (Ac Qj (show(none:Option Int)=Bu p by rw[em,d1,Ar (by omega:(BF p).length<2)];rfl))
  intro h2;have h2:¬(((BF p).map EH).length:Int)<2:=h2;have d2:decide ((BF p).length<2)=false:=Ao (by rw[Lm]at h2;omega);have zk:Bu p=if((BF p).all fun x=>G6 x.data.toList)=true then some n else none:=by rw[em,d1,d2];rfl
  refine Xi ⟨[(4,sl EH (BF p)),(5,vi n)],[],Aa⟩ (Yi ⟨Z2,Tv,Fh,Tv⟩ ?_)
  refine Xi {i:Nat // i≤(BF p).length∧∀j (hj:j<(BF p).length),j<i→G6 ((BF p)[j]).data.toList=true} (Xi (fun i=>⟨[(5,vi n),(33,sl EH (BF p)),(34,vi ((BF p).map EH).length),(35,vi i.1)],[],Aa⟩) (Xi (fun i=>(BF p).length-i.1) (Yi (Xi ⟨0,AD _,fun j _ h=>by omega⟩ ?_) ?_)))
  ·exact⟨Z4,Tv,Fh,Tv⟩
  intro⟨i,i1,i2⟩;refine Yi ?_ ?_
  ·intro h;have h:(i:Int)<((BF p).map EH).length:=h;have h:i<(BF p).length:=by simpa using h
   have hg:(BF p)[i]?=some (BF p)[i]:=Ge h;refine Xi (EH (BF p)[i]) (Yi (Yi (Nn i) (by simp[hg])) (Yi rfl ?_));have zC:=zE (At h);have hn:=vE (BF p)[i] zC;have ha:=nH (BF p)[i] 161 Nc vF (by unfold F0 at zC;have e1:(BF p)[i].size=(BF p)[i].data.toList.length:=(by simp);omega);have no:G6 ((BF p)[i]).data.toList=false→(none:Option Int)=Bu p:=fun e=>by
    rw[zk,Aj];intro F6
    have:=AY.1 F6 _ (At h)
    rw[e]at this;cases this
   refine BT (Bt (Gr ((BF p)[i]).data.toList)) (fun e1=>?_) (fun e1=>?_)
   rotate_left
   ·rw[e1]at hn;refine Xi .pure (Xi _ (Yi (hn) ?_));exact .of_eq (Ac Qj (no (by unfold G6;rw[e1];rfl)))
   rw[e1]at hn;refine Xi .pure (Xi _ (Yi (hn) ?_));refine BT (Bt (((BF p)[i]).data.toList.all Nc)) (fun e2=>?_) (fun e2=>?_)
   rotate_left
   ·rw[e2]at ha;refine Xi .pure (Xi _ (Yi (ha) ?_));exact .of_eq (Ac Qj (no (by unfold G6;rw[e1];exact e2)))
   rw[e2]at ha;refine Xi .pure (Xi _ (Yi (ha) ?_));refine Yi (Ii i (by omega)) ?_;refine Xi ⟨i+1,by omega,fun j hj Je=>?_⟩ ?_
   ·rcases B7 j i with z | z
    ·exact i2 j hj z
    ·have:j=i:=by omega
     subst this;unfold G6;rw[e1];exact e2
   ·exact⟨by show(BF p).length-(i+1)<(BF p).length-i;omega,Z4,Tv,Fh,Tv⟩
  ·intro h;have h:¬(i:Int)<((BF p).map EH).length:=h;have h:¬i<(BF p).length:=by simpa using h
   have e:some n=Bu p:=by
    rw[zk,Ap];exact AY.2 fun x hx=>by
     obtain⟨j,hj,rfl⟩:=BU hx;exact i2 j hj (by omega)
   exact .of_eq (Ac Qj e)
theorem vu(p:ByteArray)(hp:F0 p):PC 110 [vs p] (vb (Bu p).isSome):=by
 have hc:=qD p hp;cases h:Bu p with
 |none =>
  rw[h]at hc;refine Ps E4 Tryz.func110 rfl (Nz rfl) ?_;refine Xi .pure (Xi _ (Yi (hc) ?_));refine Yi ?_ ?_
  ·intro h;exact absurd (show(4:Int)=0 from h) (by decide)
  ·intro _;exact .refl _
 |some n =>
  rw[h]at hc;refine Ps E4 Tryz.func110 rfl (Nz rfl) ?_;refine Xi .pure (Xi _ (Yi (hc) ?_));refine Yi ?_ ?_
  ·intro _;exact .refl _
  ·intro h;exact absurd rfl h
theorem Of(c:UInt8):∀s:List UInt8,2≤(CH c s).length→c∈s
 | [],h=>by rw[CH]at h;simp at h
 |b::r,h=>by
  rw[CH]at h
  by_cases e:b=c
  ·exact e▸Ab ..
  ·rw[Aj e]at h;refine Ai _ (Of c r ?_);cases hs:CH c r with
   |nil=>rw[hs]at h;simp at h
   |cons x l=>rw[hs]at h;simpa using h
theorem ib{p:ByteArray}{m:Int}(h:Bu p=some m):0≤Go.Lib.lastIndex p.data.toList [47]∧Go.Lib.lastIndex p.data.toList [47]≤p.size:=by
 have h2:2≤(CH 47 p.data.toList).length:=by
  unfold Bu Qk at h;split at h
  ·cases h
  ·split at h
   ·cases h
   ·rename_i hn;simp only[Cj,Au]at hn;omega
 have hm:=Of 47 _ h2;obtain⟨i,hi,e⟩:=BU hm;have Eh:p.size=p.data.toList.length:=by simp
 unfold Go.Lib.lastIndex;rw[Ap (by simp only[AG];omega)];have xd:Go.Lib.occAt p.data.toList [47] i=true:=by
  unfold Go.Lib.occAt;rw[A7 hi,e];simp
 rcases Go.Lib.lastOcc_spec p.data.toList [47] (p.data.toList.length - [(47:UInt8)].length+1)with ⟨_,h3⟩ | ⟨j,h3,h4,_⟩
 ·have:=h3 i (by simp only[AG];omega)
  rw[xd]at this;cases this
 ·rw[h4];simp only[AG]at h3;omega
abbrev WV(p:ByteArray):ByteArray:=p.extract 0 (Go.Lib.lastIndex p.data.toList [47]).toNat
theorem SH:Uw WV:=by
 intro p hp;have hc:=qD p hp;have hi:=vu p hp;unfold TP;cases h:Bu p with
 |none =>
  rw[h]at hc hi;refine Ps E4 Tryz.func81 rfl (Nz rfl) ?_;refine Xi .pure (Xi _ (Yi (hc) ?_));refine Xi .pure (Xi _ (Yi (hi) ?_));exact .refl _
 |some n =>
  rw[h]at hc hi;obtain⟨l1,l2⟩:=ib h;have hl:PC 111 [vs p,vs Zh] (vi (Go.Lib.lastIndex p.data.toList [47])):=vv p Zh hp;refine Ps E4 Tryz.func81 rfl (Nz rfl) ?_;refine Xi .pure (Xi _ (Yi (hc) ?_));refine Xi .pure (Xi _ (Yi (hi) ?_));refine Yi ?_ ?_
  ·intro h;exact absurd rfl h
  intro _;refine Xi .pure (Xi _ (Yi (hl) ?_));refine Yi ⟨BJ _,l1,l2⟩ ?_;exact .refl _
theorem Pv{l:List Rq}(h:Bp l=0):l.length≤16:=by
 unfold Bp at h;split at h
 ·cases h
 ·omega
theorem NY{x:List Rl}(h:AQ x=0):x.length≤256∧∀r∈x,r.reqs.length≤16:=by
 have h1:x.length≤256:=by
  unfold AQ at h;split at h
  ·cases h
  ·omega
 exact⟨h1,fun r hr=>Pv ((CF h).1 r hr).reqs⟩
theorem fP{x:List Rl}(h:∀r∈x,r.reqs.length≤16):((x.map (·.reqs)).flatten).length≤x.length*16:=by
 induction x with
 |nil=>simp
 |cons r x ih =>
  rw[AP,BC,Ae,Az]
  have:=h r (Ab ..)
  have:=ih fun s hs=>h s (Ai _ hs)
  omega
theorem ab{x:List Rl}{roots:List Rq}{l:List Nf}(h1:AQ x=0)(h2:Bp roots=0)(h3:l.length≤65536):(Kp x roots l).length≤100000:=by
 obtain⟨a,b⟩:=NY h1
 have:=fP b
 have:=Pv h2
 unfold Kp;simp only[Ae,Lm];omega
theorem UR.fewI{U:List ByteArray}{t:List Tm}(h:UR U t)(hu:U.length≤100000):m7 t :=
 ⟨by have:=h.len;omega,fun u hu=>ON (h.1.canon u hu)⟩
abbrev EV(x:List Rl)(ifs:List (List AV)):AV:=.agg (Ic x ifs)
abbrev Ut:ET:=⟨true,[.str,.int .i64,.int .i64,.int .i64]⟩
abbrev Rn(y:Sl):Value:=.agg #[.string y.path,.int .i64 y.ver.a,.int .i64 y.ver.b,.int .i64 y.ver.c]
abbrev TL(r:Rl):Value×AV:=(Rn (EY r),.agg (Ag r))
def AS:List Rl→List ByteArray→List ByteArray
 | [],acc=>acc
 |r::x,acc=>AS x (if acc.any (fun p=>decide (p=r.path))then acc else acc++[r.path])
abbrev jO(x:List Rl)(p:ByteArray):Value×AV:=(.string p,sl Ag (x.filter fun r=>decide (r.path=p)))
abbrev W9(x:List Rl):AV:=if AQ x=0 then .tup [.agg [.cmap Ut (x.map TL),.cmap CZ ((AS x []).map (jO x))],vi 0]else .tup [.agg [.cmap Ut [],.cmap CZ []],vi (AQ x)]
abbrev dW(x:List Rl)(ifs:List (List AV)):Prop:=PC 41 [EV x ifs] (W9 x)
theorem v8:PC 42 [.agg Xh] (.agg Xh):=by
 refine Ps E4 Tryz.func42 rfl (Nz rfl) ?_;refine Yi (Nz rfl) ?_;refine Xi Unit (Xi (fun _=>⟨[(1,.ref 1 0),(2,.ref 2 0),(10,vi 0),(11,vi 0)],[(1,.cells Xh),(2,.cells Xh)],Aa⟩) (Xi (fun _=>0) (Yi (Xi () ?_) ?_)))
 ·exact⟨Z4,Z2,Fh,Tv⟩
 intro _;refine Yi ?_ ?_
 ·intro h;exact absurd (show(0:Int)<0 from h) (by decide)
 ·intro _;refine Yi (Nz rfl) (Yi (Nz rfl) (Yi (Nz rfl) ?_));exact .refl _
theorem lc{y z:Sl}(h:Rn y=Rn z):y=z:=by
 obtain⟨p,⟨a,b,c⟩⟩:=y;obtain⟨q,⟨d,e,f⟩⟩:=z;simp only[Rn,Value.agg.injEq,Array.mk.injEq,FI,Value.string.injEq,Value.int.injEq,true_and,and_true]at h;obtain⟨rfl,rfl,rfl,rfl⟩:=h
 rfl
theorem aW{x:List Rl}{y:Sl}{a:AV}(h:(Rn y,a)∈x.map TL):∃r∈x,EY r=y∧a=.agg (Ag r):=by
 obtain⟨r,h1,h2⟩:=Am.1 h;simp only[TL,F1]at h2;exact⟨r,h1,lc h2.1,h2.2.symm⟩
theorem fO{x:List Rl}(hx:AQ x=0){r:Rl}(hr:r∈x):CK x (EY r)=some r:=by
 unfold CK;rw[Aj (by omega)];cases h:x.find? (fun s=>decide (EY s=EY r))with
 |none =>
  rw[DC]at h;exact absurd (by simp) (h r hr)
 |some s =>
  have h1:=E1 h;simp only[Au]at h1;have hs:=Cn h;have hp:=(CF hx).2;rcases Dm.1 hr with ⟨i,hi,e1⟩;rcases Dm.1 hs with ⟨j,hj,e2⟩;rcases QT i j with PK | PK | PK
  ·have:=(AZ.1 hp) i j hi hj PK
   rw[e1,e2]at this;exact(Ir this h1.symm).elim
  ·subst PK;rw[←e1,←e2]
  ·have:=(AZ.1 hp) j i hj hi PK
   rw[e1,e2]at this;exact(Ir this h1).elim
theorem y9(x:List Rl)(ifs:List (List AV))(p:ByteArray)(v:Ver)(cz:dW x ifs)(hx:∀r∈x,JM r):PC 15 [EV x ifs,vs p,.agg (Ea v)] (J9 (CK x ⟨p,v⟩)):=by
 have hz:=v8
 by_cases h0:AQ x=0
 ·have cz:PC 41 [EV x ifs] (.tup [.agg [.cmap Ut (x.map TL),.cmap CZ ((AS x []).map (jO x))],vi 0]):=by
   have:=cz;unfold dW W9 at this;rw[Ap h0]at this;exact this
  refine Ps (Hv [2,3]) Tryz.func15 rfl (Nz rfl) ?_;refine Yi (Nz rfl) ?_;refine Xi .pure (Xi _ (Yi (cz) ?_));refine Yi (Nz rfl) ?_;refine Xi ⟨[(1,vs p),(5,.ref 5 0),(6,.ref 6 0),(8,.ref 8 0)],[(5,.cells (Ea v)),(6,.cells Xh),(8,.cells [.cmap Ut (x.map TL),.cmap CZ ((AS x []).map (jO x))])],Aa⟩ (Yi ⟨Z4,Z3,Fh,Tv⟩ ?_)
  refine Yi (Nz rfl) ?_;refine Yi ?_ ?_
  ·intro a ha;refine Br (aW (y:=⟨p,v⟩) ha) (fun r hr=>?_);have e:=hr.2.2;subst e;have hf:CK x ⟨p,v⟩=some r:=by rw[←hr.2.1];exact fO h0 hr.1
   have hrq:=(NY h0).2 r hr.1;have hc:=vZ r (by omega) (fun q hq=>((hx r hr.1).2 q hq).1);refine Yi (Nz rfl) ?_;refine Xi ⟨[(6,.ref 6 0),(10,.ref 10 0),(11,vb true)],[(6,.cells Xh),(10,.cells (Ag r))],Aa⟩ (Yi ⟨Z3,Z2,Fh,Tv⟩ ?_)
   refine Yi (Nz rfl) ?_;refine Xi .pure (Xi _ (Yi (hc) ?_));refine Yi (Nz rfl) (Yi (Nz rfl) ?_);exact .of_eq (show AV.tup [.agg (Ag r),vb true]=J9 (CK x ⟨p,v⟩) by rw[hf])
  ·intro hn;have hf:CK x ⟨p,v⟩=none:=by
    cases h:CK x ⟨p,v⟩with
    |none=>rfl
    |some r =>
     obtain⟨_,h2,h3⟩:=KI h;exact absurd (Am.2 ⟨r,h2,by rw[show TL r=(Rn (EY r),AV.agg (Ag r))from rfl,h3]⟩) (hn (.agg (Ag r)))
   refine Yi (Nz rfl) ?_;refine Xi ⟨[(6,.ref 6 0),(10,.ref 10 0),(11,vb false)],[(6,.cells Xh),(10,.cells Xh)],Aa⟩ (Yi ⟨Z3,Z2,Fh,Tv⟩ ?_)
   refine Yi (Nz rfl) ?_;refine Xi .pure (Xi _ (Yi (hz) ?_));refine Yi (Nz rfl) (Yi (Nz rfl) ?_);exact .of_eq (show AV.tup [.agg Xh,vb false]=J9 (CK x ⟨p,v⟩) by rw[hf])
 ·have cz:PC 41 [EV x ifs] (.tup [.agg [.cmap Ut [],.cmap CZ []],vi (AQ x)]):=by
   have:=cz;unfold dW W9 at this;rw[Aj h0]at this;exact this
  have hf:CK x ⟨p,v⟩=none:=by unfold CK;rw[Ap h0]
  refine Ps (Hv [2,3]) Tryz.func15 rfl (Nz rfl) ?_;refine Yi (Nz rfl) ?_;refine Xi .pure (Xi _ (Yi (cz) ?_));refine Yi (Nz rfl) ?_;refine Xi ⟨[(1,vs p),(5,.ref 5 0),(6,.ref 6 0),(8,.ref 8 0)],[(5,.cells (Ea v)),(6,.cells Xh),(8,.cells [.cmap Ut [],.cmap CZ []])],Aa⟩ (Yi ⟨Z4,Z3,Fh,Tv⟩ ?_)
  refine Yi (Nz rfl) ?_;refine Yi ?_ ?_
  ·intro a ha;cases ha
  ·intro _;refine Yi (Nz rfl) ?_;refine Xi ⟨[(6,.ref 6 0),(10,.ref 10 0),(11,vb false)],[(6,.cells Xh),(10,.cells Xh)],Aa⟩ (Yi ⟨Z3,Z2,Fh,Tv⟩ ?_)
   refine Yi (Nz rfl) ?_;refine Xi .pure (Xi _ (Yi (hz) ?_));refine Yi (Nz rfl) (Yi (Nz rfl) ?_);exact .of_eq (show AV.tup [.agg Xh,vb false]=J9 (CK x ⟨p,v⟩) by rw[hf])
abbrev DT(l:List Rl):Ba:=(l.filter fun r=>!r.yanked).map fun r=>(plc r.ver,plc r.ver+1)
theorem aw(l:List Rl):(DT l).length≤l.length:=by
 unfold DT;rw[Lm];exact Bv _ _
theorem lh{x:List Rl}{ps:List ByteArray}{p:ByteArray}{a:AV}(h:(Value.string p,a)∈ps.map (jO x)):a=sl Ag (x.filter fun r=>decide (r.path=p)):=by
 obtain⟨q,_,h2⟩:=Am.1 h;simp only[jO,F1,Value.string.injEq]at h2;rw[←h2.2,h2.1]
theorem Ox{acc:List ByteArray}{p:ByteArray}:(acc.any fun q=>decide (q=p))=true↔p∈acc:=by
 rw[Bc];constructor
 ·rintro⟨q,h1,h2⟩;rw[←A5 h2];exact h1
 ·intro h;exact⟨p,h,by simp⟩
theorem Hu:∀(x:List Rl) (acc:List ByteArray) (p:ByteArray),p∈AS x acc↔p∈acc∨∃r∈x,r.path=p
 | [],acc,p=>by simp[AS]
 |r::x,acc,p=>by
  rw[AS,Hu x];constructor
  ·rintro(h | ⟨s,h1,h2⟩)
   ·split at h
    ·exact .inl h
    ·rcases A1.1 h with h | h
     ·exact .inl h
     ·exact .inr ⟨r,Ab ..,(Aq.1 h).symm⟩
   ·exact .inr ⟨s,Ai _ h1,h2⟩
  ·rintro(h | ⟨s,h1,h2⟩)
   ·left
    split
    ·exact h
    ·exact Bn _ h
   ·rcases AA.1 h1 with rfl | h1
    ·left
     split
     ·rename_i hh;rw[←h2];exact Ox.1 hh
     ·rw[←h2];exact Bg _ (Aq.2 rfl)
    ·exact .inr ⟨s,h1,h2⟩
abbrev mP:RE:=⟨[],[(7,2)],[],[],[],[],[],[],[],[],[2,3,6,7,9]⟩
theorem U4(L:List Rl)(i:Nat)(h:i<L.length):DT (L.take (i+1))=DT (L.take i)++(if L[i].yanked then []else [(plc L[i].ver,plc L[i].ver+1)]):=by
 unfold DT;rw[Bk,Ge h,Cf,Ay]
 congr 1
 cases hy:L[i].yanked<;>simp[hy]
theorem vA(x:List Rl)(ifs:List (List AV))(p:ByteArray)(cz:dW x ifs):PC 86 [EV x ifs,vs p] (sl Af (B8 x p)):=by
 by_cases h0:AQ x=0
 ·have cz:PC 41 [EV x ifs] (.tup [.agg [.cmap Ut (x.map TL),.cmap CZ ((AS x []).map (jO x))],vi 0]):=by
   have:=cz;unfold dW W9 at this;rw[Ap h0]at this;exact this
  have gQ:=(NY h0).1;obtain⟨L,t8⟩:∃L,L=x.filter fun r=>decide (r.path=p):=⟨_,rfl⟩;have hL:Kn x p=L:=by unfold Kn;rw[Aj (by omega),t8]
  have zq:L.length≤256:=by have:=Bv (fun r:Rl=>decide (r.path=p)) x;rw[t8];omega
  refine Ps mP Tryz.func86 rfl (Nz rfl) ?_;refine Yi (Nz rfl) ?_;refine Xi .pure (Xi _ (Yi (cz) ?_));refine Yi (Nz rfl) ?_;refine Xi ⟨[(1,vs p),(5,.ref 5 0)],[(5,.cells [.cmap Ut (x.map TL),.cmap CZ ((AS x []).map (jO x))])],Aa⟩ (Yi ⟨Z2,Z1,Fh,Tv⟩ ?_)
  refine Xi ⟨[(1,vs p),(5,.ref 5 0),(7,.slice (.id 7 2) [])],[(5,.cells [.cmap Ut (x.map TL),.cmap CZ ((AS x []).map (jO x))]),(7,.tok 2 0)],Aa⟩ (Yi ⟨Z3,Z2,Fh,Tv⟩ ?_)
  refine Yi ?_ ?_
  ·intro a ha;have ea:a=sl Ag L:=by rw[t8];exact lh ha
   subst ea;refine Xi {i:Nat // i≤L.length} (Xi (fun i=>⟨[(7,.slice (.id 7 2) ((DT (L.take i.1)).map Af)),(18,sl Ag L),(19,vi (L.map Ag).length),(20,vi i.1)],[(7,.tok 2 ((DT (L.take i.1)).map Af).length)],Aa⟩) (Xi (fun i=>L.length-i.1) (Yi (Xi ⟨0,AD _⟩ ?_) ?_)))
   ·exact⟨Z4,Z1,Fh,Tv⟩
   intro⟨i,i1⟩;have WQ:=aw (L.take i);rw[AC]at WQ;refine Yi ?_ ?_
   ·intro h;have h:(i:Int)<(L.map Ag).length:=h;have h:i<L.length:=by simpa using h
    have hg:L[i]?=some L[i]:=Ge h;refine Xi (Ag L[i]) (Yi (Yi (Nn i) (by simp[hg])) (Yi rfl ?_));refine Yi (Nz rfl) (Yi (Nz rfl) ?_);refine Xi ⟨[(7,.slice (.id 7 2) ((DT (L.take i)).map Af)),(9,.ref 9 0),(18,sl Ag L),(19,vi (L.map Ag).length),(20,vi i)],[(7,.tok 2 ((DT (L.take i)).map Af).length),(9,.cells (Ag L[i]))],Aa⟩ (Yi ⟨Z5,Z2,Fh,Tv⟩ ?_)
    refine Yi ?_ ?_
    ·intro hy;have hy:L[i].yanked=true:=hy;refine Yi (Ii i (by omega)) ?_;have es:DT (L.take (i+1))=DT (L.take i):=by rw[U4 L i h,hy];simp
     have e1:AV.slice (.id 7 2) ((DT (L.take i)).map Af)=.slice (.id 7 2) ((DT (L.take (i+1))).map Af):=by rw[es]
     have e2:HO.tok 2 ((DT (L.take i)).map Af).length=.tok 2 ((DT (L.take (i+1))).map Af).length:=by rw[es]
     refine Xi ⟨i+1,by omega⟩ ?_;exact⟨Dl L.length i (by omega),⟨⟨e1,rfl⟩,Zr,Zr,Zr,Tv⟩,⟨⟨e2,rfl⟩,Tv⟩,Fh,Tv⟩
    ·intro hy;have hy:L[i].yanked=false:=hy;have r8:=lL L[i].ver;refine Xi ⟨[(7,.slice (.id 7 2) ((DT (L.take i)).map Af)),(9,.ref 9 0),(18,sl Ag L),(19,vi (L.map Ag).length),(20,vi i)],[(7,.tok 2 ((DT (L.take i)).map Af).length),(9,.cells (Ag L[i]))],Aa⟩ (Yi ⟨Z5,Z2,Fh,Tv⟩ ?_)
     refine Yi (Nz rfl) ?_;refine Xi _ (Yi (zg L[i]) ?_);refine Yi (Nz rfl) ?_;refine Xi _ (Yi (zg L[i]) ?_);refine Yi (by show Bi (plc L[i].ver+1);unfold Bi;omega) ?_;have Gv:CQ 2 [[vi (plc L[i].ver),vi (plc L[i].ver+1)]]∧((DT (L.take i)).map Af).length=((DT (L.take i)).map Af).length∧(((DT (L.take i)).map Af).length+[[vi (plc L[i].ver),vi (plc L[i].ver+1)]].length)*16≤140737488355328∧((DT (L.take i)).map Af).length+[[vi (plc L[i].ver),vi (plc L[i].ver+1)]].length≤9223372036854775807 :=
      ⟨⟨rfl,trivial⟩,rfl,by rw[Lm,AG];omega,by rw[Lm,AG];omega⟩
     refine Yi Gv ?_;refine Yi (by kernel_rfl) ?_;refine Yi (Ii i (by omega)) ?_;have es:DT (L.take (i+1))=DT (L.take i)++[(plc L[i].ver,plc L[i].ver+1)]:=by rw[U4 L i h,hy];simp
     have e1:AV.slice (.id 7 2) ((DT (L.take i)).map Af++[[vi (plc L[i].ver),vi (plc L[i].ver+1)]])=.slice (.id 7 2) ((DT (L.take (i+1))).map Af):=by rw[es,Ay];rfl
     have e2:HO.tok 2 (((DT (L.take i)).map Af).length+[[vi (plc L[i].ver),vi (plc L[i].ver+1)]].length)=.tok 2 ((DT (L.take (i+1))).map Af).length:=by rw[es,Ay,Ae];rfl
     refine Xi ⟨i+1,by omega⟩ ?_;exact⟨Dl L.length i (by omega),⟨⟨e1,rfl⟩,Zr,Zr,Zr,Tv⟩,⟨⟨e2,rfl⟩,Tv⟩,Fh,Tv⟩
   ·intro h;have h:¬(i:Int)<(L.map Ag).length:=h;have h:¬i<L.length:=by simpa using h
    have et:L.take i=L:=Aw (by omega);refine Xi ⟨[(7,.slice (.id 7 2) ((DT (L.take i)).map Af))],[(7,.tok 2 ((DT (L.take i)).map Af).length)],Aa⟩ (Yi ⟨Z1,Z1,Fh,Tv⟩ ?_)
    have hc:PC 116 [sl Af (DT (L.take i))] (sl Af (canon (DT (L.take i)))):=Xz _ (by unfold Cp;omega);refine Xi .pure (Xi _ (Yi (hc) ?_));exact .of_eq (show sl Af (canon (DT (L.take i)))=sl Af (B8 x p) by rw[et];unfold B8;rw[hL])
  ·intro hn;have hL:Kn x p=[]:=by
    rw[hL,t8,Hz];intro r hr he;have he:=A5 he;exact hn _ (Am.2 ⟨p,(Hu x [] p).2 (.inr ⟨r,hr,he⟩),rfl⟩)
   refine Xi Unit (Xi (fun _=>⟨[(7,.slice (.id 7 2) []),(19,vi 0),(20,vi 0)],[(7,.tok 2 0)],Aa⟩) (Xi (fun _=>0) (Yi (Xi () ?_) ?_)))
   ·exact⟨Z3,Z1,Fh,Tv⟩
   intro _;refine Yi ?_ ?_
   ·intro h;exact absurd (show(0:Int)<0 from h) (by decide)
   intro _;refine Xi ⟨[(7,.slice (.id 7 2) [])],[(7,.tok 2 0)],Aa⟩ (Yi ⟨Z1,Z1,Fh,Tv⟩ ?_)
   have hc:PC 116 [sl Af []] (sl Af (canon [])):=Xz [] (by unfold Cp;simp);refine Xi .pure (Xi _ (Yi (hc) ?_));exact .of_eq (show sl Af (canon [])=sl Af (B8 x p) by unfold B8;rw[hL];rfl)
 ·have cz:PC 41 [EV x ifs] (.tup [.agg [.cmap Ut [],.cmap CZ []],vi (AQ x)]):=by
   have:=cz;unfold dW W9 at this;rw[Aj h0]at this;exact this
  have hL:Kn x p=[]:=by unfold Kn;rw[Ap h0]
  refine Ps mP Tryz.func86 rfl (Nz rfl) ?_;refine Yi (Nz rfl) ?_;refine Xi .pure (Xi _ (Yi (cz) ?_));refine Yi (Nz rfl) ?_;refine Xi ⟨[(1,vs p),(5,.ref 5 0)],[(5,.cells [.cmap Ut [],.cmap CZ []])],Aa⟩ (Yi ⟨Z2,Z1,Fh,Tv⟩ ?_)
  refine Xi ⟨[(1,vs p),(5,.ref 5 0),(7,.slice (.id 7 2) [])],[(5,.cells [.cmap Ut [],.cmap CZ []]),(7,.tok 2 0)],Aa⟩ (Yi ⟨Z3,Z2,Fh,Tv⟩ ?_)
  refine Yi ?_ ?_
  ·intro a ha;cases ha
  ·intro _;refine Xi Unit (Xi (fun _=>⟨[(7,.slice (.id 7 2) []),(19,vi 0),(20,vi 0)],[(7,.tok 2 0)],Aa⟩) (Xi (fun _=>0) (Yi (Xi () ?_) ?_)))
   ·exact⟨Z3,Z1,Fh,Tv⟩
   intro _;refine Yi ?_ ?_
   ·intro h;exact absurd (show(0:Int)<0 from h) (by decide)
   intro _;refine Xi ⟨[(7,.slice (.id 7 2) [])],[(7,.tok 2 0)],Aa⟩ (Yi ⟨Z1,Z1,Fh,Tv⟩ ?_)
   have hc:PC 116 [sl Af []] (sl Af (canon [])):=Xz [] (by unfold Cp;simp);refine Xi .pure (Xi _ (Yi (hc) ?_));exact .of_eq (show sl Af (canon [])=sl Af (B8 x p) by unfold B8;rw[hL];rfl)
theorem SD(x:List Rl)(p:ByteArray):Cp (B8 x p):=by
 unfold B8 Cp
 have:=Il (Ck (((Kn x p).filter fun r=>!r.yanked).map fun r=>(plc r.ver,plc r.ver+1)));omega
end Go.Eng
