/- Lemmas for the claims of this seat, without a condition: part 20 (C38, C39, LayStr, C40, C41, C42, C43, C44, C45, C46, C47, C48, C49, C50, C51, C52, C53, C54, C55). -/
import Derived.Test.YtmcbkdbfaneofaaGreatDoorFA19
import Derived.Shelf.Strings.SplitShaped
import Derived.Shelf.Strings.LastIndexAll
import Derived.Shelf.Strings.Search3
import Derived.Shelf.Small.Wraps
import Derived.Ground.NamesProg
import Derived.Lib.LastIndexLaws
namespace Go.Eng
open Go.Proofs
abbrev pD(r:Rl)(a:AV):List AV:=[vs r.path,vi r.ver.a,vi r.ver.b,vi r.ver.c,a,vs r.arch,vs r.ifc,vs r.cert,vb r.yanked]
abbrev wz:RS:=⟨[],[],[],[],[],[],[],[(9,(1,4,900,2))],[],[],[6,7]⟩
theorem zz(r:Rl)(hr:r.reqs.length≤1000)(hs:∀q∈r.reqs,Ci q.set):PC 74 [.agg (Ah r)] (.agg (Ah r)):=by
 refine Ps wz Tryz.func74 rfl (Nz rfl) ?_;refine Yi (Nz rfl) ?_;refine Xi {i:Nat // i≤r.reqs.length} (Xi (fun i=>⟨[(1,.ref 1 0),(2,.ref 2 0),(9,sl AE r.reqs),(10,vi (r.reqs.map AE).length),(11,vi i.1)],[(1,.cells (pD r (.slice (.id 900 2) ((r.reqs.take i.1).map AE)))),(2,.cells Yv),(900,.tok 2 ((r.reqs.take i.1).map AE).length)],Aa⟩) (Xi (fun i=>r.reqs.length-i.1) (Yi (Xi ⟨0,AL _⟩ ?_) ?_)))
 ·exact⟨Z5,Z3,Fh,Tv⟩
 intro⟨i,h1⟩;refine Yi ?_ ?_
 ·intro h;have h:(i:Int)<(r.reqs.map AE).length:=h;have h:i<r.reqs.length:=by simpa using h
  have hg:r.reqs[i]?=some r.reqs[i]:=Ge h;refine Xi (AE r.reqs[i]) (Yi (Yi (Nn i) (by simp[hg])) (Yi rfl ?_));have hq:=hs r.reqs[i] (Ap h);refine Yi (Nz rfl) (Yi (Nz rfl) ?_);refine Xi ⟨[(1,.ref 1 0),(2,.ref 2 0),(5,.ref 5 0),(9,sl AE r.reqs),(10,vi (r.reqs.map AE).length),(11,vi i)],[(1,.cells (pD r (.slice (.id 900 2) ((r.reqs.take i).map AE)))),(2,.cells Yv),(5,.cells (AE r.reqs[i])),(900,.tok 2 ((r.reqs.take i).map AE).length)],Aa⟩ (Yi ⟨Z6,Z4,Fh,Tv⟩ ?_)
  refine Xi .pure (Xi _ (Yi (pT r.reqs[i].set hq) ?_));refine Yi (Nz rfl) ?_;refine Xi ⟨[(1,.ref 1 0),(2,.ref 2 0),(5,.ref 5 0),(9,sl AE r.reqs),(10,vi (r.reqs.map AE).length),(11,vi i)],[(1,.cells (pD r (.slice (.id 900 2) ((r.reqs.take i).map AE)))),(2,.cells Yv),(5,.cells (AE r.reqs[i])),(900,.tok 2 ((r.reqs.take i).map AE).length)],Aa⟩ (Yi ⟨Z6,Z4,Fh,Tv⟩ ?_)
  refine Yi (Nz rfl) ?_;have Ga:Dn 2 [AE r.reqs[i]]∧((r.reqs.take i).map AE).length=((r.reqs.take i).map AE).length∧(((r.reqs.take i).map AE).length+[AE r.reqs[i]].length)*40≤140737488355328∧((r.reqs.take i).map AE).length+[AE r.reqs[i]].length≤9223372036854775807 :=
   ⟨⟨rfl,trivial⟩,rfl,by rw[Lm,AJ,AB];omega,by rw[Lm,AJ,AB];omega⟩
  refine Yi Ga ?_;refine Yi (Nz rfl) ?_;refine Yi (Ii i (by omega)) ?_;refine Xi ⟨i+1,by omega⟩ ?_;have et:(r.reqs.take (i+1)).map AE=(r.reqs.take i).map AE++[AE r.reqs[i]]:=by rw[Bp,hg,AH];rfl
  have e1:HO.cells (pD r (.slice (.id 900 2) ((r.reqs.take i).map AE++[AE r.reqs[i]])))=.cells (pD r (.slice (.id 900 2) ((r.reqs.take (i+1)).map AE))):=by rw[et]
  have e2:HO.tok 2 (((r.reqs.take i).map AE).length+[AE r.reqs[i]].length)=.tok 2 ((r.reqs.take (i+1)).map AE).length:=by rw[et,Ad]
  exact⟨Dl r.reqs.length i (by omega),Z5,⟨⟨e1,rfl⟩,Zr,⟨e2,rfl⟩,Tv⟩,Fh,Tv⟩
 ·intro h;have h:¬(i:Int)<(r.reqs.map AE).length:=h;have h:¬i<r.reqs.length:=by simpa using h
  refine Yi (Nz rfl) (Yi (Nz rfl) (Yi (Nz rfl) ?_));have e:AV.agg (pD r (.slice .none ((r.reqs.take i).map AE)))=.agg (Ah r):=by rw[AS (by omega)]
  exact .of_eq e
abbrev vc(c:UInt8):AV:=.v (.int .u8 c.toNat)
theorem ji(a:UInt8)(n:Nat)(h:n<256):decide (UInt8.ofNat n≤a)=decide ((n:Int)≤(a.toNat:Int)):=by
 rw[BW,Ay,Ay,Ls,show(UInt8.ofNat n).toNat=n by simp;omega];omega
theorem jh(a:UInt8)(n:Nat)(h:n<256):decide (a≤UInt8.ofNat n)=decide ((a.toNat:Int)≤(n:Int)):=by
 rw[BW,Ay,Ay,Ls,show(UInt8.ofNat n).toNat=n by simp;omega];omega
theorem ne(c:UInt8):PC 143 [vc c] (vb (G3 c)):=by
 refine Ps F6 Tryz.func143 rfl (Nz rfl) ?_;have e1:decide ((97:UInt8)≤c)=decide ((97:Int)≤(c.toNat:Int)):=ji c 97 (by decide);have e2:decide (c≤(122:UInt8))=decide ((c.toNat:Int)≤(122:Int)):=jh c 122 (by decide);have es:G3 c=(decide ((97:Int)≤(c.toNat:Int))&&decide ((c.toNat:Int)≤(122:Int))):=by unfold G3;rw[e1,e2]
 refine Yi ?_ ?_
 ·intro h;have h:(97:Int)≤(c.toNat:Int):=h;refine Yi ?_ ?_
  ·intro h2;have h2:(c.toNat:Int)≤122:=h2;exact .of_eq (Ac vb (show true=G3 c by rw[es,Ax h,Ax h2];rfl))
  ·intro h2;have h2:¬(c.toNat:Int)≤122:=h2;exact .of_eq (Ac vb (show false=G3 c by rw[es,Aq h2,DJ]))
 ·intro h;have h:¬(97:Int)≤(c.toNat:Int):=h;exact .of_eq (Ac vb (show false=G3 c by rw[es,Aq h];rfl))
theorem nf(c:UInt8):PC 144 [vc c] (vb (EW c)):=by
 refine Ps F6 Tryz.func144 rfl (Nz rfl) ?_;have e1:decide ((48:UInt8)≤c)=decide ((48:Int)≤(c.toNat:Int)):=ji c 48 (by decide);have e2:decide (c≤(57:UInt8))=decide ((c.toNat:Int)≤(57:Int)):=jh c 57 (by decide);have es:EW c=(decide ((48:Int)≤(c.toNat:Int))&&decide ((c.toNat:Int)≤(57:Int))):=by unfold EW;rw[e1,e2]
 refine Yi ?_ ?_
 ·intro h;have h:(48:Int)≤(c.toNat:Int):=h;refine Yi ?_ ?_
  ·intro h2;have h2:(c.toNat:Int)≤57:=h2;exact .of_eq (Ac vb (show true=EW c by rw[es,Ax h,Ax h2];rfl))
  ·intro h2;have h2:¬(c.toNat:Int)≤57:=h2;exact .of_eq (Ac vb (show false=EW c by rw[es,Aq h2,DJ]))
 ·intro h;have h:¬(48:Int)≤(c.toNat:Int):=h;exact .of_eq (Ac vb (show false=EW c by rw[es,Aq h];rfl))
theorem ur(c:UInt8):PC 221 [vc c] (vb (VQ c)):=by
 refine Ps F6 Tryz.func221 rfl (Nz rfl) ?_;have e1:decide ((65:UInt8)≤c)=decide ((65:Int)≤(c.toNat:Int)):=ji c 65 (by decide);have e2:decide (c≤(90:UInt8))=decide ((c.toNat:Int)≤(90:Int)):=jh c 90 (by decide);have es:VQ c=(decide ((65:Int)≤(c.toNat:Int))&&decide ((c.toNat:Int)≤(90:Int))):=by unfold VQ;rw[e1,e2]
 refine Yi ?_ ?_
 ·intro h;have h:(65:Int)≤(c.toNat:Int):=h;refine Yi ?_ ?_
  ·intro h2;have h2:(c.toNat:Int)≤90:=h2;exact .of_eq (Ac vb (show true=VQ c by rw[es,Ax h,Ax h2];rfl))
  ·intro h2;have h2:¬(c.toNat:Int)≤90:=h2;exact .of_eq (Ac vb (show false=VQ c by rw[es,Aq h2,DJ]))
 ·intro h;have h:¬(65:Int)≤(c.toNat:Int):=h;exact .of_eq (Ac vb (show false=VQ c by rw[es,Aq h];rfl))
abbrev ZV(c:UInt8):Bool:=G3 c||EW c
theorem uj(c:UInt8):PC 142 [vc c] (vb (ZV c)):=by
 have h1:=ne c;have h2:=nf c;rcases Bt (G3 c)with e | e
 ·rw[e]at h1;refine Ps F6 Tryz.func142 rfl (Nz rfl) ?_;refine Xi .pure (Xi _ (Yi (h1) ?_));exact .of_eq (Ac vb (show true=ZV c by unfold ZV;rw[e];rfl))
 ·rw[e]at h1;refine Ps F6 Tryz.func142 rfl (Nz rfl) ?_;refine Xi .pure (Xi _ (Yi (h1) ?_));refine Xi .pure (Xi _ (Yi (h2) ?_));exact .of_eq (Ac vb (show EW c=ZV c by unfold ZV;rw[e];rfl))
theorem um(c:UInt8):PC 187 [vc c] (vb (Ms c)):=by
 have h1:=ne c;have h2:=ur c;have h3:=nf c;have ew:Ms c=(G3 c||VQ c||EW c||decide (c=95)):=rfl;rcases Bt (G3 c)with e | e
 ·rw[e]at h1;refine Ps F6 Tryz.func187 rfl (Nz rfl) ?_;refine Xi .pure (Xi _ (Yi (h1) ?_));exact .of_eq (Ac vb (show true=Ms c by rw[ew,e];rfl))
 rw[e]at h1;rcases Bt (VQ c)with e2 | e2
 ·rw[e2]at h2;refine Ps F6 Tryz.func187 rfl (Nz rfl) ?_;refine Xi .pure (Xi _ (Yi (h1) ?_));refine Xi .pure (Xi _ (Yi (h2) ?_));exact .of_eq (Ac vb (show true=Ms c by rw[ew,e,e2];rfl))
 rw[e2]at h2;rcases Bt (EW c)with e3 | e3
 ·rw[e3]at h3;refine Ps F6 Tryz.func187 rfl (Nz rfl) ?_;refine Xi .pure (Xi _ (Yi (h1) ?_));refine Xi .pure (Xi _ (Yi (h2) ?_));refine Xi .pure (Xi _ (Yi (h3) ?_));exact .of_eq (Ac vb (show true=Ms c by rw[ew,e,e2,e3];rfl))
 rw[e3]at h3;refine Ps F6 Tryz.func187 rfl (Nz rfl) ?_;refine Xi .pure (Xi _ (Yi (h1) ?_));refine Xi .pure (Xi _ (Yi (h2) ?_));refine Xi .pure (Xi _ (Yi (h3) ?_));have eb:decide (c=95)=decide ((c.toNat:Int)=95):=by
  rw[BW,Ay,Ay];constructor
  ·intro h;subst h;rfl
  ·intro h;exact UInt8.toNat_inj.1 (by show c.toNat=95;omega)
 refine Yi ?_ ?_
 ·intro h;have h:(c.toNat:Int)=95:=h;exact .of_eq (Ac vb (show true=Ms c by rw[ew,e,e2,e3,eb,Ax h];rfl))
 ·intro h;have h:¬(c.toNat:Int)=95:=h;exact .of_eq (Ac vb (show false=Ms c by rw[ew,e,e2,e3,eb,Aq h];rfl))
theorem ae(s:ByteArray)(i:Nat)(h:i<s.data.toList.length):s.data[i]?=some s.data.toList[i]:=by
 rw[←A2];exact Ge h
theorem na(s:ByteArray)(f:Nat)(q:UInt8→Bool)(hf:∀c,PC f [vc c] (vb (q c)))(hs:s.data.toList.length<4611686018427387904):PC 141 [vs s,.v (Ud f)] (vb (s.data.toList.all q)):=by
 have EK:s.size=s.data.toList.length:=by simp
 refine Ps F6 Tryz.func141 rfl (Nz rfl) ?_;refine Xi {i:Nat // i≤s.data.toList.length∧∀j (hj:j<s.data.toList.length),j<i→q s.data.toList[j]=true} (Xi (fun i=>⟨[(0,vs s),(1,.v (Ud f)),(7,vi s.size),(8,vi i.1)],[],Aa⟩) (Xi (fun i=>s.data.toList.length-i.1) (Yi (Xi ⟨0,AL _,fun j _ h=>by omega⟩ ?_) ?_)))
 ·exact⟨Z4,Tv,Fh,Tv⟩
 intro⟨i,h1,h2⟩;refine Yi ?_ ?_
 ·intro h;have h:(i:Int)<(s.size:Nat):=h;have h:i<s.data.toList.length:=by omega
  refine Xi s.data.toList[i] (Yi ⟨by show(0:Int)≤i;omega,by show s.data[((i:Nat):Int).toNat]?=_;rw[Cj];exact ae s i h⟩ ?_);have hc:=hf s.data.toList[i];refine BH (Bt (q s.data.toList[i])) (fun e=>?_) (fun e=>?_)
  ·rw[e]at hc;refine Xi .pure (Xi _ (Yi (hc) ?_));refine Yi (Ii i (by omega)) ?_;refine Xi ⟨i+1,by omega,fun j hj H2=>?_⟩ ?_
   ·rcases EI j i with z | z
    ·exact h2 j hj z
    ·have:j=i:=by omega
     subst this;exact e
   ·exact⟨Dl s.data.toList.length i (by omega),Z4,Tv,Fh,Tv⟩
  ·rw[e]at hc;refine Xi .pure (Xi _ (Yi (hc) ?_));have er:s.data.toList.all q=false:=by
    rw[AK];intro ha
    have:=Bs.1 ha _ (Ap h)
    rw[e]at this;cases this
   exact .of_eq (Ac vb er.symm)
 ·intro h;have h:¬(i:Int)<(s.size:Nat):=h;have er:s.data.toList.all q=true:=Bs.2 fun c hc=>by
   obtain⟨j,hj,rfl⟩:=FE hc;exact h2 j hj (by omega)
  exact .of_eq (Ac vb er.symm)
end Go.Eng
namespace Go.Proofs
open Go.Shelf
def Tryz.laySplit_ren:Go.Shelf.Ren:=⟨fun | 146=>138 | 221=>185 | 268=>217 | 138=>218 | 143=>219 | 195=>241 | 197=>242 | 218=>243 | 219=>244 | 260=>260 | 217=>261 | 225=>262 | 224=>263 | 267=>264 | 266=>278 | 314=>279 | n=>n,fun | 9=>9 | 31=>129 | 3=>3 | 4=>4 | 0=>0 | 105=>274 | 21=>21 | 5=>5 | 46=>185 | 119=>295 | 139=>298 | 138=>297 | 146=>233 | 51=>220 | n=>n,fun | 1=>0 | 3=>1 | 4=>2 | n=>n⟩
theorem Tryz.laySplit:Go.Proofs.Lays.n146 Tryz.prog Tryz.laySplit_ren:={
 mixed:=by kernel_rfl
 f138:=Tryz.func218.trans (congrArg some (by kernel_rfl))
 f143:=Tryz.func219.trans (congrArg some (by kernel_rfl))
 f146:=Tryz.func138.trans (congrArg some (by kernel_rfl))
 f195:=Tryz.func241.trans (congrArg some (by kernel_rfl))
 f197:=Tryz.func242.trans (congrArg some (by kernel_rfl))
 f217:=Tryz.func261.trans (congrArg some (by kernel_rfl))
 f218:=Tryz.func243.trans (congrArg some (by kernel_rfl))
 f219:=Tryz.func244.trans (congrArg some (by kernel_rfl))
 f221:=Tryz.func185.trans (congrArg some (by kernel_rfl))
 f224:=Tryz.func263.trans (congrArg some (by kernel_rfl))
 f225:=Tryz.func262.trans (congrArg some (by kernel_rfl))
 f260:=Tryz.func260.trans (congrArg some (by kernel_rfl))
 f266:=Tryz.func278.trans (congrArg some (by kernel_rfl))
 f267:=Tryz.func264.trans (congrArg some (by kernel_rfl))
 f268:=Tryz.func217.trans (congrArg some (by kernel_rfl))
 f314:=Tryz.func279.trans (congrArg some (by kernel_rfl))
 t0:=Tryz.underlying0
 a0:=Tryz.isAgg0
 z0:=Tryz.sizeOf0
 v0:=Tryz.zeroValue0
 t3:=Tryz.underlying3
 a3:=Tryz.isAgg3
 z3:=Tryz.sizeOf3
 v3:=Tryz.zeroValue3
 t4:=Tryz.underlying4
 a4:=Tryz.isAgg4
 z4:=Tryz.sizeOf4
 v4:=Tryz.zeroValue4
 t5:=Tryz.underlying5
 a5:=Tryz.isAgg5
 z5:=Tryz.sizeOf5
 v5:=Tryz.zeroValue5
 t9:=Tryz.underlying9
 a9:=Tryz.isAgg9
 z9:=Tryz.sizeOf9
 v9:=Tryz.zeroValue9
 t21:=Tryz.underlying21
 a21:=Tryz.isAgg21
 z21:=Tryz.sizeOf21
 v21:=Tryz.zeroValue21
 t31:=Tryz.underlying129
 a31:=Tryz.isAgg129
 z31:=Tryz.sizeOf129
 v31:=Tryz.zeroValue129
 t46:=Tryz.underlying185
 a46:=Tryz.isAgg185
 z46:=Tryz.sizeOf185
 v46:=Tryz.zeroValue185
 t51:=Tryz.underlying220
 a51:=Tryz.isAgg220
 z51:=Tryz.sizeOf220
 v51:=Tryz.zeroValue220
 t105:=Tryz.underlying274
 a105:=Tryz.isAgg274
 z105:=Tryz.sizeOf274
 v105:=Tryz.zeroValue274
 t119:=Tryz.underlying295
 a119:=Tryz.isAgg295
 z119:=Tryz.sizeOf295
 t138:=Tryz.underlying297
 a138:=Tryz.isAgg297
 z138:=Tryz.sizeOf297
 v138:=Tryz.zeroValue297
 t139:=Tryz.underlying298
 a139:=Tryz.isAgg298
 z139:=Tryz.sizeOf298
 v139:=Tryz.zeroValue298
 t146:=Tryz.underlying233
 a146:=Tryz.isAgg233
 z146:=Tryz.sizeOf233
 v146:=Tryz.zeroValue233
 g1:=by kernel_rfl
 g3:=by kernel_rfl
 g4:=by kernel_rfl }
def Tryz.layLast_ren:Go.Shelf.Ren:=⟨fun | 148=>115 | 222=>145 | 223=>146 | 269=>189 | n=>n,fun | 9=>9 | 3=>3 | 4=>4 | 5=>5 | 146=>233 | 51=>220 | 46=>185 | n=>n,fun | n=>n⟩
theorem Tryz.layLast:Go.Proofs.Lays.n148 Tryz.prog Tryz.layLast_ren:={
 mixed:=by kernel_rfl
 f148:=Tryz.func115.trans (congrArg some (by kernel_rfl))
 f222:=Tryz.func145.trans (congrArg some (by kernel_rfl))
 f223:=Tryz.func146.trans (congrArg some (by kernel_rfl))
 f269:=Tryz.func189.trans (congrArg some (by kernel_rfl))
 t3:=Tryz.underlying3
 a3:=Tryz.isAgg3
 z3:=Tryz.sizeOf3
 v3:=Tryz.zeroValue3
 t4:=Tryz.underlying4
 a4:=Tryz.isAgg4
 z4:=Tryz.sizeOf4
 v4:=Tryz.zeroValue4
 t5:=Tryz.underlying5
 a5:=Tryz.isAgg5
 z5:=Tryz.sizeOf5
 v5:=Tryz.zeroValue5
 t9:=Tryz.underlying9
 a9:=Tryz.isAgg9
 z9:=Tryz.sizeOf9
 v9:=Tryz.zeroValue9
 t46:=Tryz.underlying185
 a46:=Tryz.isAgg185
 z46:=Tryz.sizeOf185
 v46:=Tryz.zeroValue185
 t51:=Tryz.underlying220
 a51:=Tryz.isAgg220
 z51:=Tryz.sizeOf220
 v51:=Tryz.zeroValue220
 t146:=Tryz.underlying233
 a146:=Tryz.isAgg233
 z146:=Tryz.sizeOf233
 v146:=Tryz.zeroValue233 }
def Tryz.layCut_ren:Go.Shelf.Ren:=⟨fun | 103=>186 | 210=>220 | 206=>245 | n=>n,fun | 9=>9 | 4=>4 | 24=>231 | 3=>3 | n=>n,fun | n=>n⟩
theorem Tryz.layCut:Go.Proofs.Lays.n103 Tryz.prog Tryz.layCut_ren:={
 mixed:=by kernel_rfl
 f103:=Tryz.func186.trans (congrArg some (by kernel_rfl))
 f206:=Tryz.func245.trans (congrArg some (by kernel_rfl))
 f210:=Tryz.func220.trans (congrArg some (by kernel_rfl))
 t3:=Tryz.underlying3
 a3:=Tryz.isAgg3
 z3:=Tryz.sizeOf3
 v3:=Tryz.zeroValue3
 t4:=Tryz.underlying4
 a4:=Tryz.isAgg4
 z4:=Tryz.sizeOf4
 v4:=Tryz.zeroValue4
 t9:=Tryz.underlying9
 a9:=Tryz.isAgg9
 z9:=Tryz.sizeOf9
 v9:=Tryz.zeroValue9
 t24:=Tryz.underlying231
 a24:=Tryz.isAgg231
 z24:=Tryz.sizeOf231
 v24:=Tryz.zeroValue231 }
def Tryz.layCont_ren:Go.Shelf.Ren:=⟨fun | 144=>222 | 143=>219 | 219=>244 | 217=>261 | 225=>262 | 224=>263 | 267=>264 | 266=>278 | 314=>279 | n=>n,fun | 9=>9 | 4=>4 | 3=>3 | 5=>5 | 46=>185 | 146=>233 | 51=>220 | n=>n,fun | 1=>0 | n=>n⟩
theorem Tryz.layCont:Go.Proofs.Lays.n144 Tryz.prog Tryz.layCont_ren:={
 mixed:=by kernel_rfl
 f143:=Tryz.func219.trans (congrArg some (by kernel_rfl))
 f144:=Tryz.func222.trans (congrArg some (by kernel_rfl))
 f217:=Tryz.func261.trans (congrArg some (by kernel_rfl))
 f219:=Tryz.func244.trans (congrArg some (by kernel_rfl))
 f224:=Tryz.func263.trans (congrArg some (by kernel_rfl))
 f225:=Tryz.func262.trans (congrArg some (by kernel_rfl))
 f266:=Tryz.func278.trans (congrArg some (by kernel_rfl))
 f267:=Tryz.func264.trans (congrArg some (by kernel_rfl))
 f314:=Tryz.func279.trans (congrArg some (by kernel_rfl))
 t3:=Tryz.underlying3
 a3:=Tryz.isAgg3
 z3:=Tryz.sizeOf3
 v3:=Tryz.zeroValue3
 t4:=Tryz.underlying4
 a4:=Tryz.isAgg4
 z4:=Tryz.sizeOf4
 v4:=Tryz.zeroValue4
 t5:=Tryz.underlying5
 a5:=Tryz.isAgg5
 z5:=Tryz.sizeOf5
 v5:=Tryz.zeroValue5
 t9:=Tryz.underlying9
 a9:=Tryz.isAgg9
 z9:=Tryz.sizeOf9
 v9:=Tryz.zeroValue9
 t46:=Tryz.underlying185
 a46:=Tryz.isAgg185
 z46:=Tryz.sizeOf185
 v46:=Tryz.zeroValue185
 t51:=Tryz.underlying220
 a51:=Tryz.isAgg220
 z51:=Tryz.sizeOf220
 v51:=Tryz.zeroValue220
 t146:=Tryz.underlying233
 a146:=Tryz.isAgg233
 z146:=Tryz.sizeOf233
 v146:=Tryz.zeroValue233
 g1:=by kernel_rfl }
end Go.Proofs
namespace Go.Eng
open Go.Proofs
abbrev YM:ByteArray:=⟨#[47]⟩
abbrev BE(s:ByteArray):List ByteArray:=Go.Lib.splitB YM 0 (Go.Lib.countB s YM) s
theorem Pb(s:ByteArray):(BE s).map (·.data.toList)=Fp 47 s.data.toList:=dE s 47
abbrev JC(s:ByteArray):List AV:=[vs s]
theorem p5(s:ByteArray)(hs:Gr s):PC 138 [vs s,vs YM] (sl JC (BE s)):=by
 unfold Gr at hs;have h:=dt (P:=Tryz.prog) (f:=138) (args:=[vs s,vs YM]) [.string s,.string YM] ((BE s).map Value.string) 9 (dP 138 Tryz.func138 (by kernel_rfl) rfl) rfl (fun x hx=>by
  obtain⟨y,_,rfl⟩:=Al.1 hx;rfl) (fun w hm=>by
  obtain⟨m,hm⟩:=hm;have hl:(BE s).length=Go.Lib.countB s YM+1:=Go.Lib.splitB_all YM (by decide) 0 _ s rfl;refine(Any.strings_Split Tryz.laySplit (by kernel_rfl) s YM m w (by omega) hm (by decide)).mono ?_
  rintro e w' ⟨rfl,rfl⟩
  exact⟨by rw[Lm,hl],rfl⟩)
 rw[BN]at h;exact h
theorem uc(s p:ByteArray)(hs:Gr s):PC 115 [vs s,vs p] (vi (Go.Lib.lastIndex s.data.toList p.data.toList)):=by
 unfold Gr at hs;exact Lk [.string s,.string p] (.int .i64 (Go.Lib.lastIndex s.data.toList p.data.toList)) (dP 115 Tryz.func115 (by kernel_rfl) rfl) rfl (fun g w=>.v _ _) fun w _=>Any.strings_LastIndex Tryz.layLast s p (by omega) w
theorem ul(s p:ByteArray):PC 186 [vs s,vs p] (.tup [vs ⟨(Go.Lib.trimPrefix s.data.toList p.data.toList).toArray⟩,vb (Go.Lib.hasPrefix s.data.toList p.data.toList)]):=by
 exact Lk [.string s,.string p] _ (dP 186 Tryz.func186 (by kernel_rfl) rfl) rfl (fun g w=>iJ [.string ⟨(Go.Lib.trimPrefix s.data.toList p.data.toList).toArray⟩,.bool (Go.Lib.hasPrefix s.data.toList p.data.toList)]) fun w _=>Any.strings_CutPrefix Tryz.layCut s p w
theorem ut(s p:ByteArray)(hs:Gr s):PC 222 [vs s,vs p] (vb (Go.Lib.contains s.data.toList p.data.toList)):=by
 unfold Gr at hs;exact Lk [.string s,.string p] (.bool (Go.Lib.contains s.data.toList p.data.toList)) (dP 222 Tryz.func222 (by kernel_rfl) rfl) rfl (fun g w=>.v _ _) fun w hm=>by
  obtain⟨m,hm⟩:=hm;exact Any.strings_Contains Tryz.layCont s p m w (by omega) hm
theorem bf:∀x y:List UInt8,dz x y=x.isPrefixOf y
 | [],_=>by simp[dz]
 |_::_,[]=>rfl
 |a::x,b::y=>by
  rw[dz,List.isPrefixOf_cons_cons,bf x y]
  rfl
theorem gy(x:List UInt8):∀y:List UInt8,ta x y=Go.Lib.contains y x
 | []=>by
  unfold Go.Lib.contains Go.Lib.index;cases x<;>rfl
 |b::y=>by
  rw[ta,bf,gy x y];unfold Go.Lib.contains;have hg:=Go.Lib.index_ge y x
  conv=>rhs;unfold Go.Lib.index
  cases h:x.isPrefixOf (b::y)with
  |true=>simp
  |false =>
   simp only[LK,Cy,Fg]
   by_cases h0:Go.Lib.index y x=-1
   ·rw[h0];rfl
   ·have h1:(Go.Lib.index y x == -1)=false:=by simpa using h0
    rw[h1];simp only[Cy,Fg];rw[Ax (by omega),Ax (by omega)]
theorem SN:∀(l:List UInt8) (h:0<l.length),l.headD 0=l[0]
 | [],h=>by simp at h
 |_::_,_=>rfl
abbrev mw:ByteArray:=⟨⟨gE⟩⟩
theorem un(s:ByteArray)(hs:Gr s):PC 188 [vs s] (vb (Zp s.data.toList)):=by
 unfold Gr at hs;have hc:=ut mw ((⟨#[32]⟩++s)++⟨#[32]⟩) (HQ (by kernel_rfl));have e:Go.Lib.contains mw.data.toList ((⟨#[32]⟩++s:ByteArray)++⟨#[32]⟩).data.toList=Zp s.data.toList:=by
  unfold Zp;rw[gy]
  congr 1
 rw[e]at hc;refine Ps F6 Tryz.func188 rfl (Nz rfl) ?_;refine Yi (by show(((1+s.size:Nat)):Int)≤_;omega) ?_;refine Yi (by show(((⟨#[32]⟩++s:ByteArray).size+1:Nat):Int)≤_;rw[ByteArray.size_append];show(((1+s.size)+1:Nat):Int)≤_;omega) ?_;refine Xi .pure (Xi _ (Yi (hc) ?_));exact .refl _
theorem ui(s:ByteArray)(hs:Gr s):PC 140 [vs s] (vb (If s.data.toList)):=by
 have hk:=un s hs;have hw:=na s 187 Ms um (by unfold Gr at hs;simp;omega);have EK:s.size=s.data.toList.length:=by simp
 have en:If s.data.toList=(!s.data.toList.isEmpty&&decide (s.data.toList.length≤32)&&G3 (s.data.toList.headD 0)&&s.data.toList.all Ms&&!Zp s.data.toList):=rfl
 by_cases h0:s=⟨#[]⟩
 ·subst h0;refine Ps F6 Tryz.func140 rfl (Nz rfl) ?_;refine Yi ?_ ?_
  ·intro h;exact absurd rfl (show(⟨#[]⟩:ByteArray)≠⟨#[]⟩from h)
  ·intro _;exact .refl _
 have xK : s.data.toList≠[]:=fun e=>h0 (by
  have:s.data=#[]:=by rw[←IA];exact e
  cases s;simp_all)
 have CJ:0<s.data.toList.length:=M2.2 xK;have Ug:s.data.toList.isEmpty=false:=by
  cases hl:s.data.toList with
  |nil=>exact absurd hl xK
  |cons a l=>rfl
 have ye:s.data.toList.headD 0=s.data.toList[0]:=SN _ CJ;have jx:=ne s.data.toList[0];refine Ps F6 Tryz.func140 rfl (Nz rfl) ?_;refine Yi ?_ ?_
 rotate_left
 ·intro h;exact absurd h0 h
 intro _;refine Yi ?_ ?_
 rotate_left
 ·intro h;have h:¬((s.size:Nat):Int)≤32:=h;exact .of_eq (Ac vb (show false=If s.data.toList by rw[en,Aq (by omega:¬s.data.toList.length≤32)];simp))
 intro h;have h:((s.size:Nat):Int)≤32:=h;refine Xi s.data.toList[0] (Yi ⟨AY _,ae s 0 CJ⟩ ?_);refine BH (Bt (G3 s.data.toList[0])) (fun e1=>?_) (fun e1=>?_)
 rotate_left
 ·rw[e1]at jx;refine Xi .pure (Xi _ (Yi (jx) ?_));exact .of_eq (Ac vb (show false=If s.data.toList by rw[en,ye,e1];simp))
 rw[e1]at jx;refine Xi .pure (Xi _ (Yi (jx) ?_));refine BH (Bt (s.data.toList.all Ms)) (fun e2=>?_) (fun e2=>?_)
 rotate_left
 ·rw[e2]at hw;refine Xi .pure (Xi _ (Yi (hw) ?_));exact .of_eq (Ac vb (show false=If s.data.toList by rw[en,e2];simp))
 rw[e2]at hw;refine Xi .pure (Xi _ (Yi (hw) ?_));have ef:If s.data.toList=!Zp s.data.toList:=by rw[en,Ug,ye,e1,e2,Ax (by omega:s.data.toList.length≤32)];rfl
 refine BH (Bt (Zp s.data.toList)) (fun e3=>?_) (fun e3=>?_)
 ·rw[e3]at hk;refine Xi .pure (Xi _ (Yi (hk) ?_));exact .of_eq (Ac vb (show false=If s.data.toList by rw[ef,e3];rfl))
 ·rw[e3]at hk;refine Xi .pure (Xi _ (Yi (hk) ?_));exact .of_eq (Ac vb (show true=If s.data.toList by rw[ef,e3];rfl))
abbrev WE:Option Int→AV
 |some n=>.tup [vi n,vb true]
 |none=>.tup [vi 0,vb false]
theorem bB{z:Int}(h0:0≤z)(h1:z<256):IntKind.u8.wrap z=z:=by
 show z % 256=z;omega
theorem UR{c:UInt8}(h:EW c=true):48≤c.toNat∧c.toNat≤57:=by
 unfold EW at h;simp only[Ag,Ay]at h;exact⟨Ls.1 h.1,Ls.1 h.2⟩
theorem Vg(r:List UInt8)(i:Nat)(h:i<r.length):GA (r.take (i+1))=10*GA (r.take i)+((r[i].toNat:Int)-48):=by
 unfold GA;rw[Bp,Ge h,Ki];rfl
theorem uh(s:ByteArray)(hs:Gr s):PC 139 [vs s] (WE (LJ s.data.toList)):=by
 unfold Gr at hs;have hc:=ul s ⟨#[118]⟩
 by_cases hp:∃r,s.data.toList=118::r
 ·obtain⟨r,hr⟩:=hp;have e1:Go.Lib.hasPrefix s.data.toList (⟨#[118]⟩:ByteArray).data.toList=true:=by rw[hr];rfl
  have e2:Go.Lib.trimPrefix s.data.toList (⟨#[118]⟩:ByteArray).data.toList=r:=by unfold Go.Lib.trimPrefix;rw[e1,Aw rfl,hr];rfl
  rw[e1,e2]at hc;have hv:LJ s.data.toList=if(r.isEmpty||decide (3<r.length)||(decide (1<r.length)&&decide (r.headD 0=48))||!r.all EW)=true then none else some (GA r):=by rw[hr];rfl
  have WK:r.length<s.size:=by
   have:s.size=s.data.toList.length:=by simp
   rw[this,hr];simp
  generalize hB:(⟨r.toArray⟩:ByteArray)=rB at hc;have kj:rB.data.toList=r:=by rw[←hB]
  have qq:rB.size=r.length:=by rw[←hB];rfl
  have hw:=na rB 144 EW nf (by rw[kj];omega);rw[kj]at hw;have no:∀{b:Bool},b=true→(if b=true then none else some (GA r))=(none:Option Int):=fun h=>Aw h;refine Ps (Jt [2,4]) Tryz.func139 rfl (Nz rfl) ?_;refine Xi .pure (Xi _ (Yi (hc) ?_));refine Xi ⟨[(0,vs rB),(4,vb true)],[],Aa⟩ (Yi ⟨Z2,Tv,Fh,Tv⟩ ?_)
  refine Yi ?_ ?_
  ·intro h;have h:rB=⟨#[]⟩:=h
   have:r=[]:=by rw[←kj,h]
   exact .of_eq (Ac WE (show(none:Option Int)=LJ s.data.toList by rw[hv,this];rfl))
  intro h;have h:¬rB=⟨#[]⟩:=h;have DE:r≠[]:=fun e=>h (by rw[←hB,e]);have CJ:0<r.length:=M2.2 DE;have Ug:r.isEmpty=false:=by
   cases hl:r with
   |nil=>exact absurd hl DE
   |cons a l=>rfl
  refine Yi ?_ ?_
  ·intro h2;have h2:(3:Int)<((rB.size:Nat):Int):=h2;exact .of_eq (Ac WE (show(none:Option Int)=LJ s.data.toList by rw[hv,no];rw[Ax (by omega:3<r.length)];simp))
  intro h2;have h2:¬(3:Int)<((rB.size:Nat):Int):=h2;have sR:r.length≤3:=by omega
  have d3:decide (3<r.length)=false:=Aq (by omega);refine Yi ?_ ?_
  ·intro h3;have h3:(1:Int)<((rB.size:Nat):Int):=h3;have uN:rB.data[(0:Int).toNat]?=some r[0]:=by
    show rB.data[0]?=_;rw[←A2,kj];exact Ge CJ
   refine Xi r[0] (Yi ⟨AY _,uN⟩ ?_);have hh:=SN r CJ;refine Yi ?_ ?_
   ·intro h4;have h4:(r[0].toNat:Int)=48:=h4
    have:r[0]=48:=UInt8.toNat_inj.1 (by show r[0].toNat=48;omega)
    exact .of_eq (Ac WE (show(none:Option Int)=LJ s.data.toList by rw[hv,hh,this,Ax (by omega:1<r.length)];simp))
   intro h4;have h4:¬(r[0].toNat:Int)=48:=h4;have eo:(decide (1<r.length)&&decide (r.headD 0=48))=false:=by rw[hh,Aq (show ¬r[0]=48 from fun e=>h4 (by rw[e];rfl)),DJ]
   have rt:LJ s.data.toList=if(!r.all EW)=true then none else some (GA r):=by rw[hv,Ug,d3,eo];rfl
   refine BH (Bt (r.all EW)) (fun e3=>?_) (fun e3=>?_)
   rotate_left
   ·rw[e3]at hw;refine Xi .pure (Xi _ (Yi (hw) ?_));exact .of_eq (Ac WE (show(none:Option Int)=LJ s.data.toList by rw[rt,e3];rfl))
   rw[e3]at hw;refine Xi .pure (Xi _ (Yi (hw) ?_));have vT:LJ s.data.toList=some (GA r):=by rw[rt,e3];rfl
   refine Xi ⟨[(0,vs rB)],[],Aa⟩ (Yi ⟨Z1,Tv,Fh,Tv⟩ ?_)
   have z0:GA (r.take 0)=0:=rfl;refine Xi {i:Nat // i≤r.length∧0≤GA (r.take i)∧(i=0→GA (r.take i)≤0)∧(i≤1→GA (r.take i)≤9)∧(i≤2→GA (r.take i)≤99)∧GA (r.take i)≤999} (Xi (fun i=>⟨[(0,vs rB),(5,vi (GA (r.take i.1))),(39,vi rB.size),(40,vi i.1)],[],Aa⟩) (Xi (fun i=>r.length-i.1) (Yi (Xi ⟨0,AL _,by omega,fun _=>by omega,fun _=>by omega,fun _=>by omega,by omega⟩ ?_) ?_)))
   ·exact⟨Z4,Tv,Fh,Tv⟩
   intro⟨i,i1,i2,i3,i4,i5,i6⟩;refine Yi ?_ ?_
   ·intro h;have h:(i:Int)<(rB.size:Nat):=h;have h:i<r.length:=by omega
    have uY:EW r[i]=true:=Bs.1 e3 _ (Ap h);have pm:=UR uY;have vu:=Vg r i h;have kG:IntKind.u8.wrap ((r[i].toNat:Int)-48)=(r[i].toNat:Int)-48:=bB (by omega) (by omega);have l8:rB.data[((i:Nat):Int).toNat]?=some r[i]:=by rw[Cj,←A2,kj];exact Ge h
    refine Yi (by show B3 (10*GA (r.take i));unfold B3;omega) ?_;refine Xi r[i] (Yi ⟨by show(0:Int)≤i;omega,l8⟩ ?_);refine Yi (by show B3 (IntKind.u8.wrap ((r[i].toNat:Int)-48));rw[kG];unfold B3;omega) ?_;refine Yi (by show B3 (10*GA (r.take i)+IntKind.u8.wrap ((r[i].toNat:Int)-48));rw[kG];unfold B3;omega) ?_;refine Yi (Ii i (by omega)) ?_;have e5:vi (10*GA (r.take i)+IntKind.u8.wrap ((r[i].toNat:Int)-48))=vi (GA (r.take (i+1))):=by rw[kG,vu]
    refine Xi ⟨i+1,by omega,by omega,fun _=>by omega,fun _=>by omega,fun _=>by omega,by omega⟩ ?_;exact⟨Dl r.length i (by omega),⟨Zr,⟨e5,rfl⟩,Zr,Zr,Tv⟩,Tv,Fh,Tv⟩
   ·intro h;have h:¬(i:Int)<(rB.size:Nat):=h;have e6:AV.tup [vi (GA (r.take i)),vb true]=WE (LJ s.data.toList):=by rw[vT,AS (by omega)]
    exact .of_eq e6
  ·intro h3;have h3:¬(1:Int)<((rB.size:Nat):Int):=h3;have eo:(decide (1<r.length)&&decide (r.headD 0=48))=false:=by rw[Aq (by omega:¬1<r.length)];rfl
   have rt:LJ s.data.toList=if(!r.all EW)=true then none else some (GA r):=by rw[hv,Ug,d3,eo];rfl
   refine BH (Bt (r.all EW)) (fun e3=>?_) (fun e3=>?_)
   rotate_left
   ·rw[e3]at hw;refine Xi .pure (Xi _ (Yi (hw) ?_));exact .of_eq (Ac WE (show(none:Option Int)=LJ s.data.toList by rw[rt,e3];rfl))
   rw[e3]at hw;refine Xi .pure (Xi _ (Yi (hw) ?_));have vT:LJ s.data.toList=some (GA r):=by rw[rt,e3];rfl
   refine Xi ⟨[(0,vs rB)],[],Aa⟩ (Yi ⟨Z1,Tv,Fh,Tv⟩ ?_)
   have z0:GA (r.take 0)=0:=rfl;refine Xi {i:Nat // i≤r.length∧0≤GA (r.take i)∧(i=0→GA (r.take i)≤0)∧(i≤1→GA (r.take i)≤9)∧(i≤2→GA (r.take i)≤99)∧GA (r.take i)≤999} (Xi (fun i=>⟨[(0,vs rB),(5,vi (GA (r.take i.1))),(39,vi rB.size),(40,vi i.1)],[],Aa⟩) (Xi (fun i=>r.length-i.1) (Yi (Xi ⟨0,AL _,by omega,fun _=>by omega,fun _=>by omega,fun _=>by omega,by omega⟩ ?_) ?_)))
   ·exact⟨Z4,Tv,Fh,Tv⟩
   intro⟨i,i1,i2,i3,i4,i5,i6⟩;refine Yi ?_ ?_
   ·intro h;have h:(i:Int)<(rB.size:Nat):=h;have h:i<r.length:=by omega
    have uY:EW r[i]=true:=Bs.1 e3 _ (Ap h);have pm:=UR uY;have vu:=Vg r i h;have kG:IntKind.u8.wrap ((r[i].toNat:Int)-48)=(r[i].toNat:Int)-48:=bB (by omega) (by omega);have l8:rB.data[((i:Nat):Int).toNat]?=some r[i]:=by rw[Cj,←A2,kj];exact Ge h
    refine Yi (by show B3 (10*GA (r.take i));unfold B3;omega) ?_;refine Xi r[i] (Yi ⟨by show(0:Int)≤i;omega,l8⟩ ?_);refine Yi (by show B3 (IntKind.u8.wrap ((r[i].toNat:Int)-48));rw[kG];unfold B3;omega) ?_;refine Yi (by show B3 (10*GA (r.take i)+IntKind.u8.wrap ((r[i].toNat:Int)-48));rw[kG];unfold B3;omega) ?_;refine Yi (Ii i (by omega)) ?_;have e5:vi (10*GA (r.take i)+IntKind.u8.wrap ((r[i].toNat:Int)-48))=vi (GA (r.take (i+1))):=by rw[kG,vu]
    refine Xi ⟨i+1,by omega,by omega,fun _=>by omega,fun _=>by omega,fun _=>by omega,by omega⟩ ?_;exact⟨Dl r.length i (by omega),⟨Zr,⟨e5,rfl⟩,Zr,Zr,Tv⟩,Tv,Fh,Tv⟩
   ·intro h;have h:¬(i:Int)<(rB.size:Nat):=h;have e6:AV.tup [vi (GA (r.take i)),vb true]=WE (LJ s.data.toList):=by rw[vT,AS (by omega)]
    exact .of_eq e6
 ·have e1:Go.Lib.hasPrefix s.data.toList (⟨#[118]⟩:ByteArray).data.toList=false:=by
   cases hl:s.data.toList with
   |nil=>rfl
   |cons a l =>
    have:a≠118:=fun e=>hp ⟨l,by rw[hl,e]⟩
    show(List.isPrefixOf [118] (a::l))=false;rw[List.isPrefixOf_cons_cons]
    have:((118:UInt8) == a)=false:=by rw[beq_eq_false_iff_ne];exact fun e=>this e.symm
    rw[this];rfl
  have hv:LJ s.data.toList=none:=by
   cases hl:s.data.toList with
   |nil=>rfl
   |cons a l =>
    have:a≠118:=fun e=>hp ⟨l,by rw[hl,e]⟩
    show(if a=118 then _ else none)=none;rw[Ai this]
  rw[e1]at hc;refine Ps F6 Tryz.func139 rfl (Nz rfl) ?_;refine Xi .pure (Xi _ (Yi (hc) ?_));exact .of_eq (Ac WE hv.symm)
abbrev Zt:Option Int→AV
 |some n=>.tup [vi n,vi 0]
 |none=>.tup [vi 0,vi 4]
theorem TR(c:UInt8):∀(s x:List UInt8),x∈Fp c s→x.length≤s.length
 | [],x,h=>by
  rw[Fp]at h;rw[Am.1 h];exact Ak _
 |b::r,x,h=>by
  have ih:=TR c r;rw[Fp]at h;split at h
  ·rcases As.1 h with rfl | h
   ·exact AL _
   ·have:=ih x h;rw[Au];omega
  ·split at h
   ·rw[Am.1 h];rw[Au];simp
   ·rename_i y l e;rcases As.1 h with rfl | h
    ·have:=ih y (by rw[e];exact Ab ..);rw[Au,Au];omega
    ·have:=ih x (by rw[e];exact Af _ h);rw[Au];omega
theorem io{p x:ByteArray}(hp:Gr p)(hx:x∈BE p):Gr x:=by
 have h:x.data.toList∈Fp 47 p.data.toList:=by rw[←Pb];exact Al.2 ⟨x,hx,rfl⟩
 have:=TR 47 _ _ h
 unfold Gr at *
 have e1:x.size=x.data.toList.length:=by simp
 have e2:p.size=p.data.toList.length:=by simp
 omega
theorem dp(p:ByteArray):(BE p).length=(Fp 47 p.data.toList).length:=by rw[←Pb,Lm]
theorem dq(p:ByteArray):0<(BE p).length:=by
 rw[show(BE p).length=Go.Lib.countB p YM+1 from Go.Lib.splitB_all YM (by decide) 0 _ p rfl];omega
theorem dn(p:ByteArray):(BE p).length≤p.size+1:=by
 rw[show(BE p).length=Go.Lib.countB p YM+1 from Go.Lib.splitB_all YM (by decide) 0 _ p rfl]
 have:=Go.Lib.countB_le YM (by decide) p.size p (Ak _);omega
theorem ZG(p:ByteArray)(h:(BE p).length-1<(BE p).length):(Fp 47 p.data.toList).getLastD []=((BE p)[(BE p).length-1]).data.toList:=by
 rw[←Pb,List.getLastD_eq_getLast?,List.getLast?_eq_getElem?,Lm,AI,Ge h];rfl
theorem dk(p:ByteArray):(Fp 47 p.data.toList).all Mo=(BE p).all fun x=>Mo x.data.toList:=by
 rw[←Pb,List.all_map];rfl
theorem pX(p:ByteArray)(hp:Gr p):PC 113 [vs p] (Zt (Ct p)):=by
 have vF:=dn p;have Zk:=dq p;have vC:(BE p).length-1<(BE p).length:=by omega
 have EK:p.size=p.data.toList.length:=by simp
 have yb:∀{x},x∈BE p→Gr x:=fun h=>io hp h;unfold Gr at hp;have Uh:((BE p).map JC)[((((BE p).map JC).length:Int)-1).toNat]?=some (JC (BE p)[(BE p).length-1]):=by
  rw[Lm,show(((BE p).length:Int)-1).toNat=(BE p).length-1 by omega];exact Ch (Ge vC)
 have hv:=uh (BE p)[(BE p).length-1] (yb (Ap vC));have em:Ct p=match LJ ((BE p)[(BE p).length-1]).data.toList with
  |none=>none
  |some n=>if(decide (64<p.data.toList.length)||decide ((BE p).length<2))=true then none else if((BE p).all fun x=>Mo x.data.toList)=true then some n else none:=by
  unfold Ct Zu;rw[ZG p vC,dk,←dp];cases LJ ((BE p)[(BE p).length-1]).data.toList with
  |none=>rfl
  |some n=>rfl
 cases hve:LJ ((BE p)[(BE p).length-1]).data.toList with
 |none =>
  rw[hve]at hv em;refine Ps (Jt [2,3]) Tryz.func113 rfl (Nz rfl) ?_;refine Xi .pure (Xi _ (Yi (p5 p hp) ?_));refine Xi ⟨[(0,vs p),(4,sl JC (BE p))],[],Aa⟩ (Yi ⟨Z2,Tv,Fh,Tv⟩ ?_)
  refine Yi (by show B3 ((((BE p).map JC).length:Int)-1);unfold B3;rw[Lm];omega) ?_;refine Xi (JC (BE p)[(BE p).length-1]) (Yi (Yi (by show(0:Int)≤(((BE p).map JC).length:Int)-1;rw[Lm];omega) Uh) (Yi rfl ?_));refine Xi .pure (Xi _ (Yi (hv) ?_));refine Xi ⟨[(0,vs p),(4,sl JC (BE p)),(5,vi 0),(6,vb false)],[],Aa⟩ (Yi ⟨Z4,Tv,Fh,Tv⟩ ?_)
  exact .of_eq (Ac Zt em.symm)
 |some n =>
  rw[hve]at hv em;have em:Ct p=if(decide (64<p.data.toList.length)||decide ((BE p).length<2))=true then none else if((BE p).all fun x=>Mo x.data.toList)=true then some n else none:=em
  refine Ps (Jt [2,3,5]) Tryz.func113 rfl (Nz rfl) ?_;refine Xi .pure (Xi _ (Yi (p5 p hp) ?_));refine Xi ⟨[(0,vs p),(4,sl JC (BE p))],[],Aa⟩ (Yi ⟨Z2,Tv,Fh,Tv⟩ ?_)
  refine Yi (by show B3 ((((BE p).map JC).length:Int)-1);unfold B3;rw[Lm];omega) ?_;refine Xi (JC (BE p)[(BE p).length-1]) (Yi (Yi (by show(0:Int)≤(((BE p).map JC).length:Int)-1;rw[Lm];omega) Uh) (Yi rfl ?_));refine Xi .pure (Xi _ (Yi (hv) ?_));refine Xi ⟨[(0,vs p),(4,sl JC (BE p)),(5,vi n),(6,vb true)],[],Aa⟩ (Yi ⟨Z4,Tv,Fh,Tv⟩ ?_)
  refine Yi ?_ ?_
  ·intro h;have h:(64:Int)<((p.size:Nat):Int):=h;exact .of_eq (Ac Zt (show(none:Option Int)=Ct p by rw[em,Ax (by omega:64<p.data.toList.length)];rfl))
  intro h;have h:¬(64:Int)<((p.size:Nat):Int):=h;have d1:decide (64<p.data.toList.length)=false:=Aq (by omega);refine Yi ?_ ?_
  ·intro h2;have h2:(((BE p).map JC).length:Int)<2:=h2;rw[Lm]at h2;exact .of_eq (Ac Zt (show(none:Option Int)=Ct p by rw[em,d1,Ax (by omega:(BE p).length<2)];rfl))
  intro h2;have h2:¬(((BE p).map JC).length:Int)<2:=h2;have d2:decide ((BE p).length<2)=false:=Aq (by rw[Lm]at h2;omega);have xI:Ct p=if((BE p).all fun x=>Mo x.data.toList)=true then some n else none:=by rw[em,d1,d2];rfl
  refine Xi ⟨[(4,sl JC (BE p)),(5,vi n)],[],Aa⟩ (Yi ⟨Z2,Tv,Fh,Tv⟩ ?_)
  refine Xi {i:Nat // i≤(BE p).length∧∀j (hj:j<(BE p).length),j<i→Mo ((BE p)[j]).data.toList=true} (Xi (fun i=>⟨[(5,vi n),(33,sl JC (BE p)),(34,vi ((BE p).map JC).length),(35,vi i.1)],[],Aa⟩) (Xi (fun i=>(BE p).length-i.1) (Yi (Xi ⟨0,AL _,fun j _ h=>by omega⟩ ?_) ?_)))
  ·exact⟨Z4,Tv,Fh,Tv⟩
  intro⟨i,i1,i2⟩;refine Yi ?_ ?_
  ·intro h;have h:(i:Int)<((BE p).map JC).length:=h;have h:i<(BE p).length:=by simpa using h
   have hg:(BE p)[i]?=some (BE p)[i]:=Ge h;refine Xi (JC (BE p)[i]) (Yi (Yi (Nn i) (by simp[hg])) (Yi rfl ?_));have x9:=yb (Ap h);have hn:=ui (BE p)[i] x9;have ha:=na (BE p)[i] 142 ZV uj (by unfold Gr at x9;have e1:(BE p)[i].size=(BE p)[i].data.toList.length:=(by simp);omega);have no:Mo ((BE p)[i]).data.toList=false→(none:Option Int)=Ct p:=fun e=>by
    rw[xI,Ai];intro FX
    have:=Bs.1 FX _ (Ap h)
    rw[e]at this;cases this
   refine BH (Bt (If ((BE p)[i]).data.toList)) (fun e1=>?_) (fun e1=>?_)
   rotate_left
   ·rw[e1]at hn;refine Xi .pure (Xi _ (Yi (hn) ?_));exact .of_eq (Ac Zt (no (by unfold Mo;rw[e1];rfl)))
   rw[e1]at hn;refine Xi .pure (Xi _ (Yi (hn) ?_));refine BH (Bt (((BE p)[i]).data.toList.all ZV)) (fun e2=>?_) (fun e2=>?_)
   rotate_left
   ·rw[e2]at ha;refine Xi .pure (Xi _ (Yi (ha) ?_));exact .of_eq (Ac Zt (no (by unfold Mo;rw[e1];exact e2)))
   rw[e2]at ha;refine Xi .pure (Xi _ (Yi (ha) ?_));refine Yi (Ii i (by omega)) ?_;refine Xi ⟨i+1,by omega,fun j hj H2=>?_⟩ ?_
   ·rcases EI j i with z | z
    ·exact i2 j hj z
    ·have:j=i:=by omega
     subst this;unfold Mo;rw[e1];exact e2
   ·exact⟨by show(BE p).length-(i+1)<(BE p).length-i;omega,Z4,Tv,Fh,Tv⟩
  ·intro h;have h:¬(i:Int)<((BE p).map JC).length:=h;have h:¬i<(BE p).length:=by simpa using h
   have e:some n=Ct p:=by
    rw[xI,Aw];exact Bs.2 fun x hx=>by
     obtain⟨j,hj,rfl⟩:=FE hx;exact i2 j hj (by omega)
   exact .of_eq (Ac Zt e)
theorem ub(p:ByteArray)(hp:Gr p):PC 114 [vs p] (vb (Ct p).isSome):=by
 have hc:=pX p hp;cases h:Ct p with
 |none =>
  rw[h]at hc;refine Ps F6 Tryz.func114 rfl (Nz rfl) ?_;refine Xi .pure (Xi _ (Yi (hc) ?_));refine Yi ?_ ?_
  ·intro h;exact absurd (show(4:Int)=0 from h) (by decide)
  ·intro _;exact .refl _
 |some n =>
  rw[h]at hc;refine Ps F6 Tryz.func114 rfl (Nz rfl) ?_;refine Xi .pure (Xi _ (Yi (hc) ?_));refine Yi ?_ ?_
  ·intro _;exact .refl _
  ·intro h;exact absurd rfl h
theorem TS(c:UInt8):∀s:List UInt8,2≤(Fp c s).length→c∈s
 | [],h=>by rw[Fp]at h;simp at h
 |b::r,h=>by
  rw[Fp]at h
  by_cases e:b=c
  ·exact e▸Ab ..
  ·rw[Ai e]at h;refine Af _ (TS c r ?_);cases hs:Fp c r with
   |nil=>rw[hs]at h;simp at h
   |cons x l=>rw[hs]at h;simpa using h
theorem gF{p:ByteArray}{m:Int}(h:Ct p=some m):0≤Go.Lib.lastIndex p.data.toList [47]∧Go.Lib.lastIndex p.data.toList [47]≤p.size:=by
 have h2:2≤(Fp 47 p.data.toList).length:=by
  unfold Ct Zu at h;split at h
  ·cases h
  ·split at h
   ·cases h
   ·rename_i hn;simp only[CG,Ay]at hn;omega
 have hm:=TS 47 _ h2;obtain⟨i,hi,e⟩:=FE hm;have EK:p.size=p.data.toList.length:=by simp
 unfold Go.Lib.lastIndex;rw[Aw (by simp only[AB];omega)];have vw:Go.Lib.occAt p.data.toList [47] i=true:=by
  unfold Go.Lib.occAt;rw[Bv hi,e];simp
 rcases Go.Lib.lastOcc_spec p.data.toList [47] (p.data.toList.length - [(47:UInt8)].length+1)with ⟨_,h3⟩ | ⟨j,h3,h4,_⟩
 ·have:=h3 i (by simp only[AB];omega)
  rw[vw]at this;cases this
 ·rw[h4];simp only[AB]at h3;omega
abbrev gJ(p:ByteArray):ByteArray:=p.extract 0 (Go.Lib.lastIndex p.data.toList [47]).toNat
theorem YP:T3 gJ:=by
 intro p hp;have hc:=pX p hp;have hi:=ub p hp;unfold U9;cases h:Ct p with
 |none =>
  rw[h]at hc hi;refine Ps F6 Tryz.func91 rfl (Nz rfl) ?_;refine Xi .pure (Xi _ (Yi (hc) ?_));refine Xi .pure (Xi _ (Yi (hi) ?_));exact .refl _
 |some n =>
  rw[h]at hc hi;obtain⟨l1,l2⟩:=gF h;have hl:PC 115 [vs p,vs YM] (vi (Go.Lib.lastIndex p.data.toList [47])):=uc p YM hp;refine Ps F6 Tryz.func91 rfl (Nz rfl) ?_;refine Xi .pure (Xi _ (Yi (hc) ?_));refine Xi .pure (Xi _ (Yi (hi) ?_));refine Yi ?_ ?_
  ·intro h;exact absurd rfl h
  intro _;refine Xi .pure (Xi _ (Yi (hl) ?_));refine Yi ⟨AY _,l1,l2⟩ ?_;exact .refl _
theorem Pe{l:List Rq}(h:BU l=0):l.length≤16:=by
 unfold BU at h;split at h
 ·cases h
 ·omega
theorem NI{x:List Rl}(h:A5 x=0):x.length≤256∧∀r∈x,r.reqs.length≤16:=by
 have h1:x.length≤256:=by
  unfold A5 at h;split at h
  ·cases h
  ·omega
 exact⟨h1,fun r hr=>Pe ((B9 h).1 r hr).reqs⟩
theorem fw{x:List Rl}(h:∀r∈x,r.reqs.length≤16):((x.map (·.reqs)).flatten).length≤x.length*16:=by
 induction x with
 |nil=>simp
 |cons r x ih =>
  rw[AN,BA,Ad,Au]
  have:=h r (Ab ..)
  have:=ih fun s hs=>h s (Af _ hs)
  omega
theorem ZJ{x:List Rl}{roots:List Rq}{l:List Nf}(h1:A5 x=0)(h2:BU roots=0)(h3:l.length≤65536):(Ke x roots l).length≤100000:=by
 obtain⟨a,b⟩:=NI h1
 have:=fw b
 have:=Pe h2
 unfold Ke;simp only[Ad,Lm];omega
theorem Uu.fewI{U:List ByteArray}{t:List Tm}(h:Uu U t)(hu:U.length≤100000):mL t :=
 ⟨by have:=h.len;omega,fun u hu=>Ov (h.1.canon u hu)⟩
abbrev JP(x:List Rl)(ifs:List (List AV)):AV:=.agg (Ic x ifs)
abbrev T0:EJ:=⟨true,[.str,.int .i64,.int .i64,.int .i64]⟩
abbrev QQ(y:Sl):Value:=.agg #[.string y.path,.int .i64 y.ver.a,.int .i64 y.ver.b,.int .i64 y.ver.c]
abbrev Tg(r:Rl):Value×AV:=(QQ (FM r),.agg (Ah r))
def AQ:List Rl→List ByteArray→List ByteArray
 | [],acc=>acc
 |r::x,acc=>AQ x (if acc.any (fun p=>decide (p=r.path))then acc else acc++[r.path])
abbrev jA(x:List Rl)(p:ByteArray):Value×AV:=(.string p,sl Ah (x.filter fun r=>decide (r.path=p)))
abbrev WB(x:List Rl):AV:=if A5 x=0 then .tup [.agg [.cmap T0 (x.map Tg),.cmap C3 ((AQ x []).map (jA x))],vi 0]else .tup [.agg [.cmap T0 [],.cmap C3 []],vi (A5 x)]
abbrev d4(x:List Rl)(ifs:List (List AV)):Prop:=PC 73 [JP x ifs] (WB x)
theorem ux:PC 74 [.agg Yv] (.agg Yv):=by
 refine Ps F6 Tryz.func74 rfl (Nz rfl) ?_;refine Yi (Nz rfl) ?_;refine Xi Unit (Xi (fun _=>⟨[(1,.ref 1 0),(2,.ref 2 0),(10,vi 0),(11,vi 0)],[(1,.cells Yv),(2,.cells Yv)],Aa⟩) (Xi (fun _=>0) (Yi (Xi () ?_) ?_)))
 ·exact⟨Z4,Z2,Fh,Tv⟩
 intro _;refine Yi ?_ ?_
 ·intro h;exact absurd (show(0:Int)<0 from h) (by decide)
 ·intro _;refine Yi (Nz rfl) (Yi (Nz rfl) (Yi (Nz rfl) ?_));exact .refl _
theorem kN{y z:Sl}(h:QQ y=QQ z):y=z:=by
 obtain⟨p,⟨a,b,c⟩⟩:=y;obtain⟨q,⟨d,e,f⟩⟩:=z;simp only[QQ,Value.agg.injEq,Array.mk.injEq,Fw,Value.string.injEq,Value.int.injEq,true_and,and_true]at h;obtain⟨rfl,rfl,rfl,rfl⟩:=h
 rfl
theorem aJ{x:List Rl}{y:Sl}{a:AV}(h:(QQ y,a)∈x.map Tg):∃r∈x,FM r=y∧a=.agg (Ah r):=by
 obtain⟨r,h1,h2⟩:=Al.1 h;simp only[Tg,FN]at h2;exact⟨r,h1,kN h2.1,h2.2.symm⟩
theorem fu{x:List Rl}(hx:A5 x=0){r:Rl}(hr:r∈x):Ec x (FM r)=some r:=by
 unfold Ec;rw[Ai (by omega)];cases h:x.find? (fun s=>decide (FM s=FM r))with
 |none =>
  rw[DB]at h;exact absurd (by simp) (h r hr)
 |some s =>
  have h1:=DK h;simp only[Ay]at h1;have hs:=BO h;have hp:=(B9 hx).2;rcases CQ.1 hr with ⟨i,hi,e1⟩;rcases CQ.1 hs with ⟨j,hj,e2⟩;rcases Nat.lt_trichotomy i j with QL | QL | QL
  ·have:=(A7.1 hp) i j hi hj QL
   rw[e1,e2]at this;exact(G1 this h1.symm).elim
  ·subst QL;rw[←e1,←e2]
  ·have:=(A7.1 hp) j i hj hi QL
   rw[e1,e2]at this;exact(G1 this h1).elim
theorem uw(x:List Rl)(ifs:List (List AV))(p:ByteArray)(v:Ver)(cp:d4 x ifs)(hx:∀r∈x,IB r):PC 32 [JP x ifs,vs p,.agg (IG v)] (Vh (Ec x ⟨p,v⟩)):=by
 have hz:=ux
 by_cases h0:A5 x=0
 ·have cp:PC 73 [JP x ifs] (.tup [.agg [.cmap T0 (x.map Tg),.cmap C3 ((AQ x []).map (jA x))],vi 0]):=by
   have:=cp;unfold d4 WB at this;rw[Aw h0]at this;exact this
  refine Ps (Jt [2,3]) Tryz.func32 rfl (Nz rfl) ?_;refine Yi (Nz rfl) ?_;refine Xi .pure (Xi _ (Yi (cp) ?_));refine Yi (Nz rfl) ?_;refine Xi ⟨[(1,vs p),(5,.ref 5 0),(6,.ref 6 0),(8,.ref 8 0)],[(5,.cells (IG v)),(6,.cells Yv),(8,.cells [.cmap T0 (x.map Tg),.cmap C3 ((AQ x []).map (jA x))])],Aa⟩ (Yi ⟨Z4,Z3,Fh,Tv⟩ ?_)
  refine Yi (Nz rfl) ?_;refine Yi ?_ ?_
  ·intro a ha;refine CK (aJ (y:=⟨p,v⟩) ha) (fun r hr=>?_);have e:=hr.2.2;subst e;have hf:Ec x ⟨p,v⟩=some r:=by rw[←hr.2.1];exact fu h0 hr.1
   have yv:=(NI h0).2 r hr.1;have hc:=zz r (by omega) (fun q hq=>((hx r hr.1).2 q hq).1);refine Yi (Nz rfl) ?_;refine Xi ⟨[(6,.ref 6 0),(10,.ref 10 0),(11,vb true)],[(6,.cells Yv),(10,.cells (Ah r))],Aa⟩ (Yi ⟨Z3,Z2,Fh,Tv⟩ ?_)
   refine Yi (Nz rfl) ?_;refine Xi .pure (Xi _ (Yi (hc) ?_));refine Yi (Nz rfl) (Yi (Nz rfl) ?_);exact .of_eq (show AV.tup [.agg (Ah r),vb true]=Vh (Ec x ⟨p,v⟩) by rw[hf])
  ·intro hn;have hf:Ec x ⟨p,v⟩=none:=by
    cases h:Ec x ⟨p,v⟩with
    |none=>rfl
    |some r =>
     obtain⟨_,h2,h3⟩:=MC h;exact absurd (Al.2 ⟨r,h2,by rw[show Tg r=(QQ (FM r),AV.agg (Ah r))from rfl,h3]⟩) (hn (.agg (Ah r)))
   refine Yi (Nz rfl) ?_;refine Xi ⟨[(6,.ref 6 0),(10,.ref 10 0),(11,vb false)],[(6,.cells Yv),(10,.cells Yv)],Aa⟩ (Yi ⟨Z3,Z2,Fh,Tv⟩ ?_)
   refine Yi (Nz rfl) ?_;refine Xi .pure (Xi _ (Yi (hz) ?_));refine Yi (Nz rfl) (Yi (Nz rfl) ?_);exact .of_eq (show AV.tup [.agg Yv,vb false]=Vh (Ec x ⟨p,v⟩) by rw[hf])
 ·have cp:PC 73 [JP x ifs] (.tup [.agg [.cmap T0 [],.cmap C3 []],vi (A5 x)]):=by
   have:=cp;unfold d4 WB at this;rw[Ai h0]at this;exact this
  have hf:Ec x ⟨p,v⟩=none:=by unfold Ec;rw[Aw h0]
  refine Ps (Jt [2,3]) Tryz.func32 rfl (Nz rfl) ?_;refine Yi (Nz rfl) ?_;refine Xi .pure (Xi _ (Yi (cp) ?_));refine Yi (Nz rfl) ?_;refine Xi ⟨[(1,vs p),(5,.ref 5 0),(6,.ref 6 0),(8,.ref 8 0)],[(5,.cells (IG v)),(6,.cells Yv),(8,.cells [.cmap T0 [],.cmap C3 []])],Aa⟩ (Yi ⟨Z4,Z3,Fh,Tv⟩ ?_)
  refine Yi (Nz rfl) ?_;refine Yi ?_ ?_
  ·intro a ha;cases ha
  ·intro _;refine Yi (Nz rfl) ?_;refine Xi ⟨[(6,.ref 6 0),(10,.ref 10 0),(11,vb false)],[(6,.cells Yv),(10,.cells Yv)],Aa⟩ (Yi ⟨Z3,Z2,Fh,Tv⟩ ?_)
   refine Yi (Nz rfl) ?_;refine Xi .pure (Xi _ (Yi (hz) ?_));refine Yi (Nz rfl) (Yi (Nz rfl) ?_);exact .of_eq (show AV.tup [.agg Yv,vb false]=Vh (Ec x ⟨p,v⟩) by rw[hf])
abbrev DT(l:List Rl):Bj:=(l.filter fun r=>!r.yanked).map fun r=>(plc r.ver,plc r.ver+1)
theorem ZX(l:List Rl):(DT l).length≤l.length:=by
 unfold DT;rw[Lm];exact BF _ _
theorem kR{x:List Rl}{ps:List ByteArray}{p:ByteArray}{a:AV}(h:(Value.string p,a)∈ps.map (jA x)):a=sl Ah (x.filter fun r=>decide (r.path=p)):=by
 obtain⟨q,_,h2⟩:=Al.1 h;simp only[jA,FN,Value.string.injEq]at h2;rw[←h2.2,h2.1]
theorem Oc{acc:List ByteArray}{p:ByteArray}:(acc.any fun q=>decide (q=p))=true↔p∈acc:=by
 rw[Bc];constructor
 ·rintro⟨q,h1,h2⟩;rw[←Bq h2];exact h1
 ·intro h;exact⟨p,h,by simp⟩
theorem Hf:∀(x:List Rl) (acc:List ByteArray) (p:ByteArray),p∈AQ x acc↔p∈acc∨∃r∈x,r.path=p
 | [],acc,p=>by simp[AQ]
 |r::x,acc,p=>by
  rw[AQ,Hf x];constructor
  ·rintro(h | ⟨s,h1,h2⟩)
   ·split at h
    ·exact .inl h
    ·rcases A8.1 h with h | h
     ·exact .inl h
     ·exact .inr ⟨r,Ab ..,(Am.1 h).symm⟩
   ·exact .inr ⟨s,Af _ h1,h2⟩
  ·rintro(h | ⟨s,h1,h2⟩)
   ·left
    split
    ·exact h
    ·exact Bo _ h
   ·rcases As.1 h1 with rfl | h1
    ·left
     split
     ·rename_i hh;rw[←h2];exact Oc.1 hh
     ·rw[←h2];exact Bk _ (Am.2 rfl)
    ·exact .inr ⟨s,h1,h2⟩
abbrev mD:RS:=⟨[],[(7,2)],[],[],[],[],[],[],[],[],[2,3,6,7,9]⟩
theorem UH(L:List Rl)(i:Nat)(h:i<L.length):DT (L.take (i+1))=DT (L.take i)++(if L[i].yanked then []else [(plc L[i].ver,plc L[i].ver+1)]):=by
 unfold DT;rw[Bp,Ge h,Ep,AH]
 congr 1
 cases hy:L[i].yanked<;>simp[hy]
theorem uf(x:List Rl)(ifs:List (List AV))(p:ByteArray)(cp:d4 x ifs):PC 118 [JP x ifs,vs p] (sl Ao (B8 x p)):=by
 by_cases h0:A5 x=0
 ·have cp:PC 73 [JP x ifs] (.tup [.agg [.cmap T0 (x.map Tg),.cmap C3 ((AQ x []).map (jA x))],vi 0]):=by
   have:=cp;unfold d4 WB at this;rw[Aw h0]at this;exact this
  have Zl:=(NI h0).1;obtain⟨L,sH⟩:∃L,L=x.filter fun r=>decide (r.path=p):=⟨_,rfl⟩;have hL:Kc x p=L:=by unfold Kc;rw[Ai (by omega),sH]
  have xR:L.length≤256:=by have:=BF (fun r:Rl=>decide (r.path=p)) x;rw[sH];omega
  refine Ps mD Tryz.func118 rfl (Nz rfl) ?_;refine Yi (Nz rfl) ?_;refine Xi .pure (Xi _ (Yi (cp) ?_));refine Yi (Nz rfl) ?_;refine Xi ⟨[(1,vs p),(5,.ref 5 0)],[(5,.cells [.cmap T0 (x.map Tg),.cmap C3 ((AQ x []).map (jA x))])],Aa⟩ (Yi ⟨Z2,Z1,Fh,Tv⟩ ?_)
  refine Xi ⟨[(1,vs p),(5,.ref 5 0),(7,.slice (.id 7 2) [])],[(5,.cells [.cmap T0 (x.map Tg),.cmap C3 ((AQ x []).map (jA x))]),(7,.tok 2 0)],Aa⟩ (Yi ⟨Z3,Z2,Fh,Tv⟩ ?_)
  refine Yi ?_ ?_
  ·intro a ha;have ea:a=sl Ah L:=by rw[sH];exact kR ha
   subst ea;refine Xi {i:Nat // i≤L.length} (Xi (fun i=>⟨[(7,.slice (.id 7 2) ((DT (L.take i.1)).map Ao)),(18,sl Ah L),(19,vi (L.map Ah).length),(20,vi i.1)],[(7,.tok 2 ((DT (L.take i.1)).map Ao).length)],Aa⟩) (Xi (fun i=>L.length-i.1) (Yi (Xi ⟨0,AL _⟩ ?_) ?_)))
   ·exact⟨Z4,Z1,Fh,Tv⟩
   intro⟨i,i1⟩;have WM:=ZX (L.take i);rw[AJ]at WM;refine Yi ?_ ?_
   ·intro h;have h:(i:Int)<(L.map Ah).length:=h;have h:i<L.length:=by simpa using h
    have hg:L[i]?=some L[i]:=Ge h;refine Xi (Ah L[i]) (Yi (Yi (Nn i) (by simp[hg])) (Yi rfl ?_));refine Yi (Nz rfl) (Yi (Nz rfl) ?_);refine Xi ⟨[(7,.slice (.id 7 2) ((DT (L.take i)).map Ao)),(9,.ref 9 0),(18,sl Ah L),(19,vi (L.map Ah).length),(20,vi i)],[(7,.tok 2 ((DT (L.take i)).map Ao).length),(9,.cells (Ah L[i]))],Aa⟩ (Yi ⟨Z5,Z2,Fh,Tv⟩ ?_)
    refine Yi ?_ ?_
    ·intro hy;have hy:L[i].yanked=true:=hy;refine Yi (Ii i (by omega)) ?_;have es:DT (L.take (i+1))=DT (L.take i):=by rw[UH L i h,hy];simp
     have e1:AV.slice (.id 7 2) ((DT (L.take i)).map Ao)=.slice (.id 7 2) ((DT (L.take (i+1))).map Ao):=by rw[es]
     have e2:HO.tok 2 ((DT (L.take i)).map Ao).length=.tok 2 ((DT (L.take (i+1))).map Ao).length:=by rw[es]
     refine Xi ⟨i+1,by omega⟩ ?_;exact⟨Dl L.length i (by omega),⟨⟨e1,rfl⟩,Zr,Zr,Zr,Tv⟩,⟨⟨e2,rfl⟩,Tv⟩,Fh,Tv⟩
    ·intro hy;have hy:L[i].yanked=false:=hy;have vE:=lu L[i].ver;refine Xi ⟨[(7,.slice (.id 7 2) ((DT (L.take i)).map Ao)),(9,.ref 9 0),(18,sl Ah L),(19,vi (L.map Ah).length),(20,vi i)],[(7,.tok 2 ((DT (L.take i)).map Ao).length),(9,.cells (Ah L[i]))],Aa⟩ (Yi ⟨Z5,Z2,Fh,Tv⟩ ?_)
     refine Yi (Nz rfl) ?_;refine Xi _ (Yi (xE L[i]) ?_);refine Yi (Nz rfl) ?_;refine Xi _ (Yi (xE L[i]) ?_);refine Yi (by show B3 (plc L[i].ver+1);unfold B3;omega) ?_;have Ga:Dn 2 [[vi (plc L[i].ver),vi (plc L[i].ver+1)]]∧((DT (L.take i)).map Ao).length=((DT (L.take i)).map Ao).length∧(((DT (L.take i)).map Ao).length+[[vi (plc L[i].ver),vi (plc L[i].ver+1)]].length)*16≤140737488355328∧((DT (L.take i)).map Ao).length+[[vi (plc L[i].ver),vi (plc L[i].ver+1)]].length≤9223372036854775807 :=
      ⟨⟨rfl,trivial⟩,rfl,by rw[Lm,AB];omega,by rw[Lm,AB];omega⟩
     refine Yi Ga ?_;refine Yi (by kernel_rfl) ?_;refine Yi (Ii i (by omega)) ?_;have es:DT (L.take (i+1))=DT (L.take i)++[(plc L[i].ver,plc L[i].ver+1)]:=by rw[UH L i h,hy];simp
     have e1:AV.slice (.id 7 2) ((DT (L.take i)).map Ao++[[vi (plc L[i].ver),vi (plc L[i].ver+1)]])=.slice (.id 7 2) ((DT (L.take (i+1))).map Ao):=by rw[es,AH];rfl
     have e2:HO.tok 2 (((DT (L.take i)).map Ao).length+[[vi (plc L[i].ver),vi (plc L[i].ver+1)]].length)=.tok 2 ((DT (L.take (i+1))).map Ao).length:=by rw[es,AH,Ad];rfl
     refine Xi ⟨i+1,by omega⟩ ?_;exact⟨Dl L.length i (by omega),⟨⟨e1,rfl⟩,Zr,Zr,Zr,Tv⟩,⟨⟨e2,rfl⟩,Tv⟩,Fh,Tv⟩
   ·intro h;have h:¬(i:Int)<(L.map Ah).length:=h;have h:¬i<L.length:=by simpa using h
    have et:L.take i=L:=AS (by omega);refine Xi ⟨[(7,.slice (.id 7 2) ((DT (L.take i)).map Ao))],[(7,.tok 2 ((DT (L.take i)).map Ao).length)],Aa⟩ (Yi ⟨Z1,Z1,Fh,Tv⟩ ?_)
    have hc:PC 148 [sl Ao (DT (L.take i))] (sl Ao (canon (DT (L.take i)))):=W2 _ (by unfold Ci;omega);refine Xi .pure (Xi _ (Yi (hc) ?_));exact .of_eq (show sl Ao (canon (DT (L.take i)))=sl Ao (B8 x p) by rw[et];unfold B8;rw[hL])
  ·intro hn;have hL:Kc x p=[]:=by
    rw[hL,sH,Hj];intro r hr he;have he:=Bq he;exact hn _ (Al.2 ⟨p,(Hf x [] p).2 (.inr ⟨r,hr,he⟩),rfl⟩)
   refine Xi Unit (Xi (fun _=>⟨[(7,.slice (.id 7 2) []),(19,vi 0),(20,vi 0)],[(7,.tok 2 0)],Aa⟩) (Xi (fun _=>0) (Yi (Xi () ?_) ?_)))
   ·exact⟨Z3,Z1,Fh,Tv⟩
   intro _;refine Yi ?_ ?_
   ·intro h;exact absurd (show(0:Int)<0 from h) (by decide)
   intro _;refine Xi ⟨[(7,.slice (.id 7 2) [])],[(7,.tok 2 0)],Aa⟩ (Yi ⟨Z1,Z1,Fh,Tv⟩ ?_)
   have hc:PC 148 [sl Ao []] (sl Ao (canon [])):=W2 [] (by unfold Ci;simp);refine Xi .pure (Xi _ (Yi (hc) ?_));exact .of_eq (show sl Ao (canon [])=sl Ao (B8 x p) by unfold B8;rw[hL];rfl)
 ·have cp:PC 73 [JP x ifs] (.tup [.agg [.cmap T0 [],.cmap C3 []],vi (A5 x)]):=by
   have:=cp;unfold d4 WB at this;rw[Ai h0]at this;exact this
  have hL:Kc x p=[]:=by unfold Kc;rw[Aw h0]
  refine Ps mD Tryz.func118 rfl (Nz rfl) ?_;refine Yi (Nz rfl) ?_;refine Xi .pure (Xi _ (Yi (cp) ?_));refine Yi (Nz rfl) ?_;refine Xi ⟨[(1,vs p),(5,.ref 5 0)],[(5,.cells [.cmap T0 [],.cmap C3 []])],Aa⟩ (Yi ⟨Z2,Z1,Fh,Tv⟩ ?_)
  refine Xi ⟨[(1,vs p),(5,.ref 5 0),(7,.slice (.id 7 2) [])],[(5,.cells [.cmap T0 [],.cmap C3 []]),(7,.tok 2 0)],Aa⟩ (Yi ⟨Z3,Z2,Fh,Tv⟩ ?_)
  refine Yi ?_ ?_
  ·intro a ha;cases ha
  ·intro _;refine Xi Unit (Xi (fun _=>⟨[(7,.slice (.id 7 2) []),(19,vi 0),(20,vi 0)],[(7,.tok 2 0)],Aa⟩) (Xi (fun _=>0) (Yi (Xi () ?_) ?_)))
   ·exact⟨Z3,Z1,Fh,Tv⟩
   intro _;refine Yi ?_ ?_
   ·intro h;exact absurd (show(0:Int)<0 from h) (by decide)
   intro _;refine Xi ⟨[(7,.slice (.id 7 2) [])],[(7,.tok 2 0)],Aa⟩ (Yi ⟨Z1,Z1,Fh,Tv⟩ ?_)
   have hc:PC 148 [sl Ao []] (sl Ao (canon [])):=W2 [] (by unfold Ci;simp);refine Xi .pure (Xi _ (Yi (hc) ?_));exact .of_eq (show sl Ao (canon [])=sl Ao (B8 x p) by unfold B8;rw[hL];rfl)
theorem Sa(x:List Rl)(p:ByteArray):Ci (B8 x p):=by
 unfold B8 Ci
 have:=HY (Cp (((Kc x p).filter fun r=>!r.yanked).map fun r=>(plc r.ver,plc r.ver+1)));omega
end Go.Eng
