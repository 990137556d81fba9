/- Lemmas for the claims of this seat, without a condition: part 21 (C37, C38, C39, LayStr, C40, C41, C42, C43, C44, C45, C46, C47, C48, C49, C50, C51, C52, C53, C54, C55). -/
import Derived.Test.YtddfphmpfnmknaaGreatDoorGA20
import Derived.Shelf.Strings.SplitShaped
import Derived.Shelf.Strings.LastIndexAll
import Derived.Shelf.Strings.Search3
import Derived.Shelf.Small.Wraps
import Derived.Ground.NamesProg
import Derived.Lib.LastIndexLaws
namespace Go.Eng
open Go.Proofs
variable (r:Rl)(a c:UInt8)(s:ByteArray)(n:Nat)
theorem sC{a b:Rl}(h:a.path=b.path∧a.ver.a=b.ver.a∧a.ver.b=b.ver.b∧a.ver.c=b.ver.c):Fa a=Fa b:=by
 unfold Fa;obtain⟨h1,h2,h3,h4⟩:=h
 have:a.ver=b.ver:=by
  cases ha:a.ver;cases hb:b.ver;rw[ha,hb]at h2 h3 h4;simp_all
 rw[h1,this]
theorem W0{a b:Rl}(h:Fa a=Fa b):a.path=b.path∧a.ver.a=b.ver.a∧a.ver.b=b.ver.b∧a.ver.c=b.ver.c:=by
 unfold Fa at h
 injection h with h1 h2
 exact⟨h1,by rw[h2],by rw[h2],by rw[h2]⟩
abbrev XU(x:List Rl):Nat→Option Rl
 |0=>none
 |k+1=>x[k]?
theorem nN{nm:ByteArray→ByteArray}(hL:VK nm)(x:List Rl)(ifs:List (List AV))(hs:∀r∈x,Gv r):PC 37 [.agg (Ic x ifs)] (vi (AN x)):=by
 refine Ps (H1 []) Tryz.func37 rfl (Nz rfl) (Yi ?_ ?_)
 ·intro h;have h:(256:Int)<(x.map At).length:=h;exact .of_eq (Ab vi (show(7:Int)=AN x by unfold AN;rw[Al (by rw[Lm]at h;omega)]))
 intro h;have h:¬(256:Int)<(x.map At).length:=h;have hl:x.length≤256:=by rw[Lm]at h;omega
 have NY:AN x=Cp none x:=by unfold AN;rw[Ae ch]
 refine Xi {i:Nat // i≤x.length∧Cp none x=Cp (XU x i) (x.drop i)} (Xi (fun i=>⟨[(1,.ref 1 0),(12,sl At x),(13,vi (x.map At).length),(14,vi i.1)],[(1,.cells (Ic x ifs))],Af⟩) (Xi (fun i=>x.length-i.1) (Yi (Xi ⟨0,AA _,rfl⟩ ?_) ?_)))
 ·exact⟨Z4,Z1,Fh,Tv⟩
 intro⟨i,h1,h2⟩;refine Yi ?_ ?_
 ·intro h;have h:(i:Int)<(x.map At).length:=h;have h:i<x.length:=by simpa using h
  have hg:x[i]?=some x[i]:=Ge h;have hd:x.drop i=x[i]::x.drop (i+1):=AP h;have hc:=yV hL x[i] (hs x[i] (Aj h));have H8:Cp none x=if CW x[i]≠0 then CW x[i]else match XU x i with
   |none=>Cp (some x[i]) (x.drop (i+1))
   |some b=>if Fa b=Fa x[i]then 5 else if 0<Dv b x[i]then 1 else Cp (some x[i]) (x.drop (i+1)):=by rw[h2,hd];rfl
  have ZQ:XU x (i+1)=some x[i]:=Ge h;refine Xi (At x[i]) (Yi (Yi (Nn i) (by simp[hg])) (Yi rfl ?_));refine Yi (Nz rfl) (Yi (Nz rfl) (yN (Xi .pure (Xi _ (Yi (hc) (Yi ?_ ?_))))))
  ·intro h4;have h4:CW x[i]≠0:=h4;exact .of_eq (Ab vi (show CW x[i]=AN x by rw[NY,H8,Al h4]))
  intro h4;have h4:¬CW x[i]≠0:=h4;refine Yi ?_ ?_
  ·intro h5;have h5:(i:Int)=0:=h5;have h6:i=0:=by omega
   refine Yi (Ii i ch) (Xi ⟨i+1,by omega,by rw[H8,Ae h4,ZQ];subst h6;rfl⟩ ?_);exact⟨Dl x.length i ch,Z4,Z1,Fh,Tv⟩
  intro h5;have h5:¬(i:Int)=0:=h5;have kK:i-1<x.length:=by omega
  have hb:XU x i=some x[i-1]:=by
   obtain⟨k,rfl⟩:∃k,i=k+1:=⟨i-1,by omega⟩;exact Ge ch
  have r4:Cp none x=if Fa x[i-1]=Fa x[i]then 5 else if 0<Dv x[i-1] x[i]then 1 else Cp (some x[i]) (x.drop (i+1)):=by rw[H8,Ae h4,hb]
  refine Yi (by show Bc ((i:Int)-1);unfold Bc;omega) ?_;have Ts:(x.map At)[((i:Int)-1).toNat]?=some (At x[i-1]):=by rw[show((i:Int)-1).toNat=i-1 by omega];exact CR (Ge kK)
  refine Xi (At x[i-1]) (Yi (Yi (by show(0:Int)≤(i:Int)-1;omega) Ts) (Yi rfl (Yi (Nz rfl) (yN (yN (Xi _ (Yi (rg x[i-1]) (yN (Xi _ (Yi (rg x[i]) (Yi ?_ ?_)))))))))))
  ·intro h6;refine Yi Wk ?_;have e:(5:Int)=AN x:=by rw[NY,r4,Al (sC ⟨h6.1,h6.2.1,h6.2.2.1,h6.2.2.2.1⟩)]
   exact .of_eq (Ab vi e)
  intro h6;refine Yi Wk ?_;have h7:¬Fa x[i-1]=Fa x[i]:=fun e=>by
   have e:=W0 e;exact h6 ⟨e.1,e.2.1,e.2.2.1,e.2.2.2,trivial⟩
  refine Yi (Nz rfl) (yN (Xi .pure (Xi _ (Yi (uv x[i-1] x[i]) (Yi ?_ ?_)))))
  ·intro h8;have h8:(0:Int)<Dv x[i-1] x[i]:=h8;have e:(1:Int)=AN x:=by rw[NY,r4,Ae h7,Al h8]
   exact .of_eq (Ab vi e)
  ·intro h8;have h8:¬(0:Int)<Dv x[i-1] x[i]:=h8;refine Yi (Ii i ch) (Xi ⟨i+1,by omega,by rw[r4,Ae h7,Ae h8,ZQ]⟩ ?_);exact⟨Dl x.length i ch,Z4,Z1,Fh,Tv⟩
 ·intro h;have h:¬(i:Int)<(x.map At).length:=h;have h:¬i<x.length:=by simpa using h
  have e:(0:Int)=AN x:=by rw[NY,h2,H3 ch];rfl
  exact .of_eq (Ab vi e)
abbrev yv(a:AV):List AV:=[vs r.path,vi r.ver.a,vi r.ver.b,vi r.ver.c,a,vs r.arch,vs r.ifc,vs r.cert,vb r.yanked]
abbrev Abh:Q0:=⟨[],[],[],[],[],[],[],[(9,(1,4,900,2))],[],[],[]⟩
theorem zR(hr:r.reqs.length≤1000)(hs:∀q∈r.reqs,Cy q.set):PC 42 [.agg (At r)] (.agg (At r)):=by
 refine Ps Abh Tryz.func42 rfl (Nz rfl) (yN (Xi {i:Nat // i≤r.reqs.length} (Xi (fun i=>⟨[(1,.ref 1 0),(2,.ref 2 0),(9,sl AH r.reqs),(10,vi (r.reqs.map AH).length),(11,vi i.1)],[(1,.cells (yv r (.slice (.id 900 2) ((r.reqs.take i.1).map AH)))),(2,.cells nh),(900,.tok 2 ((r.reqs.take i.1).map AH).length)],Af⟩) (Xi (fun i=>r.reqs.length-i.1) (Yi (Xi ⟨0,AA _⟩ ?_) ?_)))))
 ·exact⟨Z5,Z3,Fh,Tv⟩
 intro⟨i,h1⟩;refine Yi ?_ ?_
 ·intro h;have h:(i:Int)<(r.reqs.map AH).length:=h;have h:i<r.reqs.length:=by simpa using h
  have hg:r.reqs[i]?=some r.reqs[i]:=Ge h;refine Xi (AH r.reqs[i]) (Yi (Yi (Nn i) (by simp[hg])) (Yi rfl ?_));have hq:=hs r.reqs[i] (Aj h);refine Yi (Nz rfl) (yN (Xi .pure (Xi _ (Yi (y9 r.reqs[i].set hq) (yN (yN ?_))))));have GQ:Cf 2 [AH r.reqs[i]]∧((r.reqs.take i).map AH).length=((r.reqs.take i).map AH).length∧(((r.reqs.take i).map AH).length+[AH r.reqs[i]].length)*40≤140737488355328∧((r.reqs.take i).map AH).length+[AH r.reqs[i]].length≤9223372036854775807 :=
   ⟨⟨rfl,trivial⟩,rfl,by rw[Lm,AB,AG];omega,by rw[Lm,AB,AG];omega⟩
  refine Yi GQ (yN (Yi (Ii i ch) (Xi ⟨i+1,by omega⟩ ?_)));have et:(r.reqs.take (i+1)).map AH=(r.reqs.take i).map AH++[AH r.reqs[i]]:=by rw[Be,hg,As];rfl
  have e1:HO.cells (yv r (.slice (.id 900 2) ((r.reqs.take i).map AH++[AH r.reqs[i]])))=.cells (yv r (.slice (.id 900 2) ((r.reqs.take (i+1)).map AH))):=by rw[et]
  have e2:HO.tok 2 (((r.reqs.take i).map AH).length+[AH r.reqs[i]].length)=.tok 2 ((r.reqs.take (i+1)).map AH).length:=by rw[et,Ad]
  exact⟨Dl r.reqs.length i ch,Z5,⟨⟨e1,rfl⟩,Zr,⟨e2,rfl⟩,Tv⟩,Fh,Tv⟩
 ·intro h;have h:¬(i:Int)<(r.reqs.map AH).length:=h;have h:¬i<r.reqs.length:=by simpa using h
  refine Yi (Nz rfl) (Yi (Nz rfl) (yN ?_));have e:AV.agg (yv r (.slice .none ((r.reqs.take i).map AH)))=.agg (At r):=by rw[Au ch]
  exact .of_eq e
abbrev vc:AV:=.v (.int .u8 c.toNat)
theorem Xy(h:n<256):decide (UInt8.ofNat n≤a)=decide ((n:Int)≤(a.toNat:Int)):=by
 rw[B2,Az,Az,Mm,show(UInt8.ofNat n).toNat=n by simp;omega];omega
theorem Xx(h:n<256):decide (a≤UInt8.ofNat n)=decide ((a.toNat:Int)≤(n:Int)):=by
 rw[B2,Az,Az,Mm,show(UInt8.ofNat n).toNat=n by simp;omega];omega
theorem rr:PC 162 [vc c] (vb (EW c)):=by
 refine Ps D3 Tryz.func162 rfl (Nz rfl) ?_;have e1:decide ((97:UInt8)≤c)=decide ((97:Int)≤(c.toNat:Int)):=Xy c 97 Cl;have e2:decide (c≤(122:UInt8))=decide ((c.toNat:Int)≤(122:Int)):=Xx c 122 Cl;have es:EW c=(decide ((97:Int)≤(c.toNat:Int))&&decide ((c.toNat:Int)≤(122:Int))):=by unfold EW;rw[e1,e2]
 refine Yi ?_ ?_
 ·intro h;have h:(97:Int)≤(c.toNat:Int):=h;refine Yi ?_ ?_
  ·intro h2;have h2:(c.toNat:Int)≤122:=h2;exact .of_eq (Ab vb (show true=EW c by rw[es,Aq h,Aq h2];rfl))
  ·intro h2;have h2:¬(c.toNat:Int)≤122:=h2;exact .of_eq (Ab vb (show false=EW c by rw[es,Ap h2,Cz]))
 ·intro h;have h:¬(97:Int)≤(c.toNat:Int):=h;exact .of_eq (Ab vb (show false=EW c by rw[es,Ap h];rfl))
theorem rt:PC 163 [vc c] (vb (CM c)):=by
 refine Ps D3 Tryz.func163 rfl (Nz rfl) ?_;have e1:decide ((48:UInt8)≤c)=decide ((48:Int)≤(c.toNat:Int)):=Xy c 48 Cl;have e2:decide (c≤(57:UInt8))=decide ((c.toNat:Int)≤(57:Int)):=Xx c 57 Cl;have es:CM c=(decide ((48:Int)≤(c.toNat:Int))&&decide ((c.toNat:Int)≤(57:Int))):=by unfold CM;rw[e1,e2]
 refine Yi ?_ ?_
 ·intro h;have h:(48:Int)≤(c.toNat:Int):=h;refine Yi ?_ ?_
  ·intro h2;have h2:(c.toNat:Int)≤57:=h2;exact .of_eq (Ab vb (show true=CM c by rw[es,Aq h,Aq h2];rfl))
  ·intro h2;have h2:¬(c.toNat:Int)≤57:=h2;exact .of_eq (Ab vb (show false=CM c by rw[es,Ap h2,Cz]))
 ·intro h;have h:¬(48:Int)≤(c.toNat:Int):=h;exact .of_eq (Ab vb (show false=CM c by rw[es,Ap h];rfl))
theorem zH:PC 231 [vc c] (vb (MO c)):=by
 refine Ps D3 Tryz.func231 rfl (Nz rfl) ?_;have e1:decide ((65:UInt8)≤c)=decide ((65:Int)≤(c.toNat:Int)):=Xy c 65 Cl;have e2:decide (c≤(90:UInt8))=decide ((c.toNat:Int)≤(90:Int)):=Xx c 90 Cl;have es:MO c=(decide ((65:Int)≤(c.toNat:Int))&&decide ((c.toNat:Int)≤(90:Int))):=by unfold MO;rw[e1,e2]
 refine Yi ?_ ?_
 ·intro h;have h:(65:Int)≤(c.toNat:Int):=h;refine Yi ?_ ?_
  ·intro h2;have h2:(c.toNat:Int)≤90:=h2;exact .of_eq (Ab vb (show true=MO c by rw[es,Aq h,Aq h2];rfl))
  ·intro h2;have h2:¬(c.toNat:Int)≤90:=h2;exact .of_eq (Ab vb (show false=MO c by rw[es,Ap h2,Cz]))
 ·intro h;have h:¬(65:Int)≤(c.toNat:Int):=h;exact .of_eq (Ab vb (show false=MO c by rw[es,Ap h];rfl))
abbrev N6:Bool:=EW c||CM c
theorem zw:PC 161 [vc c] (vb (N6 c)):=by
 have h1:=rr c;have h2:=rt c;rcases Bt (EW c)with e | e
 ·rw[e]at h1;refine Ps D3 Tryz.func161 rfl (Nz rfl) (Xi .pure (Xi _ (Yi (h1) ?_)));exact .of_eq (Ab vb (show true=N6 c by unfold N6;rw[e];rfl))
 ·rw[e]at h1;refine Ps D3 Tryz.func161 rfl (Nz rfl) (Xi .pure (Xi _ (Yi (h1) (Xi .pure (Xi _ (Yi (h2) ?_))))));exact .of_eq (Ab vb (show CM c=N6 c by unfold N6;rw[e];rfl))
theorem zC:PC 202 [vc c] (vb (Gg c)):=by
 have h1:=rr c;have h2:=zH c;have h3:=rt c;have ew:Gg c=(EW c||MO c||CM c||decide (c=95)):=rfl;rcases Bt (EW c)with e | e
 ·rw[e]at h1;refine Ps D3 Tryz.func202 rfl (Nz rfl) (Xi .pure (Xi _ (Yi (h1) ?_)));exact .of_eq (Ab vb (show true=Gg c by rw[ew,e];rfl))
 rw[e]at h1;rcases Bt (MO c)with e2 | e2
 ·rw[e2]at h2;refine Ps D3 Tryz.func202 rfl (Nz rfl) (Xi .pure (Xi _ (Yi (h1) (Xi .pure (Xi _ (Yi (h2) ?_))))));exact .of_eq (Ab vb (show true=Gg c by rw[ew,e,e2];rfl))
 rw[e2]at h2;rcases Bt (CM c)with e3 | e3
 ·rw[e3]at h3;refine Ps D3 Tryz.func202 rfl (Nz rfl) (Xi .pure (Xi _ (Yi (h1) (Xi .pure (Xi _ (Yi (h2) (Xi .pure (Xi _ (Yi (h3) ?_)))))))));exact .of_eq (Ab vb (show true=Gg c by rw[ew,e,e2,e3];rfl))
 rw[e3]at h3;refine Ps D3 Tryz.func202 rfl (Nz rfl) (Xi .pure (Xi _ (Yi (h1) (Xi .pure (Xi _ (Yi (h2) (Xi .pure (Xi _ (Yi (h3) ?_)))))))));have eb:decide (c=95)=decide ((c.toNat:Int)=95):=by
  rw[B2,Az,Az];constructor
  ·intro h;subst h;rfl
  ·intro h;exact GS.1 (by show c.toNat=95;omega)
 refine Yi ?_ ?_
 ·intro h;have h:(c.toNat:Int)=95:=h;exact .of_eq (Ab vb (show true=Gg c by rw[ew,e,e2,e3,eb,Aq h];rfl))
 ·intro h;have h:¬(c.toNat:Int)=95:=h;exact .of_eq (Ab vb (show false=Gg c by rw[ew,e,e2,e3,eb,Ap h];rfl))
theorem Nx(i:Nat)(h:i<s.data.toList.length):s.data[i]?=some s.data.toList[i]:=by
 rw[←AQ];exact Ge h
theorem rp(f:Nat)(q:UInt8→Bool)(hf:∀c,PC f [vc c] (vb (q c)))(hs:s.data.toList.length<4611686018427387904):PC 160 [vs s,.v (YP f)] (vb (s.data.toList.all q)):=by
 have Ev:s.size=s.data.toList.length:=by simp
 refine Ps D3 Tryz.func160 rfl (Nz rfl) (Xi {i:Nat // i≤s.data.toList.length∧∀j (hj:j<s.data.toList.length),j<i→q s.data.toList[j]=true} (Xi (fun i=>⟨[(0,vs s),(1,.v (YP f)),(7,vi s.size),(8,vi i.1)],[],Af⟩) (Xi (fun i=>s.data.toList.length-i.1) (Yi (Xi ⟨0,AA _,fun j _ h=>by omega⟩ ?_) ?_))))
 ·exact⟨Z4,Tv,Fh,Tv⟩
 intro⟨i,h1,h2⟩;refine Yi ?_ ?_
 ·intro h;have h:(i:Int)<(s.size:Nat):=h;have h:i<s.data.toList.length:=by omega
  refine Xi s.data.toList[i] (Yi ⟨by show(0:Int)≤i;omega,by show s.data[((i:Nat):Int).toNat]?=_;rw[A7];exact Nx s i h⟩ ?_);have hc:=hf s.data.toList[i];refine BF (Bt (q s.data.toList[i])) (fun e=>?_) (fun e=>?_)
  ·rw[e]at hc;refine Xi .pure (Xi _ (Yi (hc) (Yi (Ii i ch) (Xi ⟨i+1,by omega,fun j hj Iq=>?_⟩ ?_))))
   ·rcases BY j i with z | z
    ·exact h2 j hj z
    ·have:j=i:=by omega
     subst this;exact e
   ·exact⟨Dl s.data.toList.length i ch,Z4,Tv,Fh,Tv⟩
  ·rw[e]at hc;refine Xi .pure (Xi _ (Yi (hc) ?_));have er:s.data.toList.all q=false:=by
    rw[AI];intro ha
    have:=AZ.1 ha _ (Aj h)
    rw[e]at this;cases this
   exact .of_eq (Ab vb er.symm)
 ·intro h;have h:¬(i:Int)<(s.size:Nat):=h;have er:s.data.toList.all q=true:=AZ.2 fun c hc=>by
   obtain⟨j,hj,rfl⟩:=BZ hc;exact h2 j hj ch
  exact .of_eq (Ab vb er.symm)
end Go.Eng
namespace Go.Proofs
open Go.Shelf
def Tryz.laySplit_ren:Go.Shelf.Ren:=⟨fun | 146=>157 | 221=>200 | 268=>227 | 138=>228 | 143=>229 | 195=>250 | 197=>251 | 218=>252 | 219=>253 | 260=>271 | 217=>272 | 225=>273 | 224=>274 | 267=>275 | 266=>290 | 314=>291 | n=>n,fun | 9=>9 | 31=>139 | 3=>3 | 4=>4 | 0=>0 | 105=>291 | 21=>21 | 5=>5 | 46=>174 | 119=>313 | 139=>316 | 138=>315 | 146=>260 | 51=>211 | n=>n,fun | 1=>0 | 3=>1 | 4=>2 | n=>n⟩
theorem Tryz.laySplit:Go.Proofs.Lays.n146 Tryz.prog Tryz.laySplit_ren:={
 mixed:=by kernel_rfl
 f138:=Tryz.func228.trans (congrArg some Go.Eng.Wk)
 f143:=Tryz.func229.trans (congrArg some Go.Eng.Wk)
 f146:=Tryz.func157.trans (congrArg some Go.Eng.Wk)
 f195:=Tryz.func250.trans (congrArg some Go.Eng.Wk)
 f197:=Tryz.func251.trans (congrArg some Go.Eng.Wk)
 f217:=Tryz.func272.trans (congrArg some Go.Eng.Wk)
 f218:=Tryz.func252.trans (congrArg some Go.Eng.Wk)
 f219:=Tryz.func253.trans (congrArg some Go.Eng.Wk)
 f221:=Tryz.func200.trans (congrArg some Go.Eng.Wk)
 f224:=Tryz.func274.trans (congrArg some Go.Eng.Wk)
 f225:=Tryz.func273.trans (congrArg some Go.Eng.Wk)
 f260:=Tryz.func271.trans (congrArg some Go.Eng.Wk)
 f266:=Tryz.func290.trans (congrArg some Go.Eng.Wk)
 f267:=Tryz.func275.trans (congrArg some Go.Eng.Wk)
 f268:=Tryz.func227.trans (congrArg some Go.Eng.Wk)
 f314:=Tryz.func291.trans (congrArg some Go.Eng.Wk)
 t0:=Tryz.underlying0
 a0:=Tryz.isAgg0
 z0:=Tryz.sizeOf0
 v0:=Tryz.zeroValue0
 t3:=Tryz.underlying3
 a3:=Tryz.isAgg3
 z3:=Tryz.sizeOf3
 v3:=Tryz.zeroValue3
 t4:=Tryz.underlying4
 a4:=Tryz.isAgg4
 z4:=Tryz.sizeOf4
 v4:=Tryz.zeroValue4
 t5:=Tryz.underlying5
 a5:=Tryz.isAgg5
 z5:=Tryz.sizeOf5
 v5:=Tryz.zeroValue5
 t9:=Tryz.underlying9
 a9:=Tryz.isAgg9
 z9:=Tryz.sizeOf9
 v9:=Tryz.zeroValue9
 t21:=Tryz.underlying21
 a21:=Tryz.isAgg21
 z21:=Tryz.sizeOf21
 v21:=Tryz.zeroValue21
 t31:=Tryz.underlying139
 a31:=Tryz.isAgg139
 z31:=Tryz.sizeOf139
 v31:=Tryz.zeroValue139
 t46:=Tryz.underlying174
 a46:=Tryz.isAgg174
 z46:=Tryz.sizeOf174
 v46:=Tryz.zeroValue174
 t51:=Tryz.underlying211
 a51:=Tryz.isAgg211
 z51:=Tryz.sizeOf211
 v51:=Tryz.zeroValue211
 t105:=Tryz.underlying291
 a105:=Tryz.isAgg291
 z105:=Tryz.sizeOf291
 v105:=Tryz.zeroValue291
 t119:=Tryz.underlying313
 a119:=Tryz.isAgg313
 z119:=Tryz.sizeOf313
 t138:=Tryz.underlying315
 a138:=Tryz.isAgg315
 z138:=Tryz.sizeOf315
 v138:=Tryz.zeroValue315
 t139:=Tryz.underlying316
 a139:=Tryz.isAgg316
 z139:=Tryz.sizeOf316
 v139:=Tryz.zeroValue316
 t146:=Tryz.underlying260
 a146:=Tryz.isAgg260
 z146:=Tryz.sizeOf260
 v146:=Tryz.zeroValue260
 g1:=by kernel_rfl
 g3:=by kernel_rfl
 g4:=by kernel_rfl }
def Tryz.layLast_ren:Go.Shelf.Ren:=⟨fun | 148=>111 | 222=>164 | 223=>165 | 269=>204 | n=>n,fun | 9=>9 | 3=>3 | 4=>4 | 5=>5 | 146=>260 | 51=>211 | 46=>174 | n=>n,fun | n=>n⟩
theorem Tryz.layLast:Go.Proofs.Lays.n148 Tryz.prog Tryz.layLast_ren:={
 mixed:=by kernel_rfl
 f148:=Tryz.func111.trans (congrArg some Go.Eng.Wk)
 f222:=Tryz.func164.trans (congrArg some Go.Eng.Wk)
 f223:=Tryz.func165.trans (congrArg some Go.Eng.Wk)
 f269:=Tryz.func204.trans (congrArg some Go.Eng.Wk)
 t3:=Tryz.underlying3
 a3:=Tryz.isAgg3
 z3:=Tryz.sizeOf3
 v3:=Tryz.zeroValue3
 t4:=Tryz.underlying4
 a4:=Tryz.isAgg4
 z4:=Tryz.sizeOf4
 v4:=Tryz.zeroValue4
 t5:=Tryz.underlying5
 a5:=Tryz.isAgg5
 z5:=Tryz.sizeOf5
 v5:=Tryz.zeroValue5
 t9:=Tryz.underlying9
 a9:=Tryz.isAgg9
 z9:=Tryz.sizeOf9
 v9:=Tryz.zeroValue9
 t46:=Tryz.underlying174
 a46:=Tryz.isAgg174
 z46:=Tryz.sizeOf174
 v46:=Tryz.zeroValue174
 t51:=Tryz.underlying211
 a51:=Tryz.isAgg211
 z51:=Tryz.sizeOf211
 v51:=Tryz.zeroValue211
 t146:=Tryz.underlying260
 a146:=Tryz.isAgg260
 z146:=Tryz.sizeOf260
 v146:=Tryz.zeroValue260 }
def Tryz.layCut_ren:Go.Shelf.Ren:=⟨fun | 103=>201 | 210=>230 | 206=>254 | n=>n,fun | 9=>9 | 4=>4 | 24=>216 | 3=>3 | n=>n,fun | n=>n⟩
theorem Tryz.layCut:Go.Proofs.Lays.n103 Tryz.prog Tryz.layCut_ren:={
 mixed:=by kernel_rfl
 f103:=Tryz.func201.trans (congrArg some Go.Eng.Wk)
 f206:=Tryz.func254.trans (congrArg some Go.Eng.Wk)
 f210:=Tryz.func230.trans (congrArg some Go.Eng.Wk)
 t3:=Tryz.underlying3
 a3:=Tryz.isAgg3
 z3:=Tryz.sizeOf3
 v3:=Tryz.zeroValue3
 t4:=Tryz.underlying4
 a4:=Tryz.isAgg4
 z4:=Tryz.sizeOf4
 v4:=Tryz.zeroValue4
 t9:=Tryz.underlying9
 a9:=Tryz.isAgg9
 z9:=Tryz.sizeOf9
 v9:=Tryz.zeroValue9
 t24:=Tryz.underlying216
 a24:=Tryz.isAgg216
 z24:=Tryz.sizeOf216
 v24:=Tryz.zeroValue216 }
def Tryz.layCont_ren:Go.Shelf.Ren:=⟨fun | 144=>232 | 143=>229 | 219=>253 | 217=>272 | 225=>273 | 224=>274 | 267=>275 | 266=>290 | 314=>291 | n=>n,fun | 9=>9 | 4=>4 | 3=>3 | 5=>5 | 46=>174 | 146=>260 | 51=>211 | n=>n,fun | 1=>0 | n=>n⟩
theorem Tryz.layCont:Go.Proofs.Lays.n144 Tryz.prog Tryz.layCont_ren:={
 mixed:=by kernel_rfl
 f143:=Tryz.func229.trans (congrArg some Go.Eng.Wk)
 f144:=Tryz.func232.trans (congrArg some Go.Eng.Wk)
 f217:=Tryz.func272.trans (congrArg some Go.Eng.Wk)
 f219:=Tryz.func253.trans (congrArg some Go.Eng.Wk)
 f224:=Tryz.func274.trans (congrArg some Go.Eng.Wk)
 f225:=Tryz.func273.trans (congrArg some Go.Eng.Wk)
 f266:=Tryz.func290.trans (congrArg some Go.Eng.Wk)
 f267:=Tryz.func275.trans (congrArg some Go.Eng.Wk)
 f314:=Tryz.func291.trans (congrArg some Go.Eng.Wk)
 t3:=Tryz.underlying3
 a3:=Tryz.isAgg3
 z3:=Tryz.sizeOf3
 v3:=Tryz.zeroValue3
 t4:=Tryz.underlying4
 a4:=Tryz.isAgg4
 z4:=Tryz.sizeOf4
 v4:=Tryz.zeroValue4
 t5:=Tryz.underlying5
 a5:=Tryz.isAgg5
 z5:=Tryz.sizeOf5
 v5:=Tryz.zeroValue5
 t9:=Tryz.underlying9
 a9:=Tryz.isAgg9
 z9:=Tryz.sizeOf9
 v9:=Tryz.zeroValue9
 t46:=Tryz.underlying174
 a46:=Tryz.isAgg174
 z46:=Tryz.sizeOf174
 v46:=Tryz.zeroValue174
 t51:=Tryz.underlying211
 a51:=Tryz.isAgg211
 z51:=Tryz.sizeOf211
 v51:=Tryz.zeroValue211
 t146:=Tryz.underlying260
 a146:=Tryz.isAgg260
 z146:=Tryz.sizeOf260
 v146:=Tryz.zeroValue260
 g1:=by kernel_rfl }
end Go.Proofs
namespace Go.Eng
open Go.Proofs
variable {y:Sl}{a:AV}(x:List Rl)(s:ByteArray)(l:List Rl)(ifs:List (List AV))(p:ByteArray)
abbrev bL:ByteArray:=⟨#[47]⟩
abbrev BU:List ByteArray:=Go.Lib.splitB bL 0 (Go.Lib.countB s bL) s
theorem Qz:(BU s).map (·.data.toList)=CT 47 s.data.toList:=iJ s 47
abbrev Ft:List AV:=[vs s]
theorem uG(hs:Gi s):PC 157 [vs s,vs bL] (sl Ft (BU s)):=by
 unfold Gi at hs;have h:=iy (P:=Tryz.prog) (f:=157) (args:=[vs s,vs bL]) [.string s,.string bL] ((BU s).map Value.string) 9 (iX 157 Tryz.func157 Wk rfl) rfl (fun x hx=>by
  obtain⟨y,_,rfl⟩:=Am.1 hx;rfl) (fun w hm=>by
  obtain⟨m,hm⟩:=hm;have hl:(BU s).length=Go.Lib.countB s bL+1:=Go.Lib.splitB_all bL Cl 0 _ s rfl;refine(Any.strings_Split Tryz.laySplit Wk s bL m w ch hm Cl).mono ?_
  rintro e w' ⟨rfl,rfl⟩
  exact⟨by rw[Lm,hl],rfl⟩)
 rw[BE]at h;exact h
theorem zn(hs:Gi s):PC 111 [vs s,vs p] (vi (Go.Lib.lastIndex s.data.toList p.data.toList)):=by
 unfold Gi at hs;exact Mc [.string s,.string p] (.int .i64 (Go.Lib.lastIndex s.data.toList p.data.toList)) (iX 111 Tryz.func111 Wk rfl) rfl (fun g w=>.v _ _) fun w _=>Any.strings_LastIndex Tryz.layLast s p ch w
theorem zB:PC 201 [vs s,vs p] (.tup [vs ⟨(Go.Lib.trimPrefix s.data.toList p.data.toList).toArray⟩,vb (Go.Lib.hasPrefix s.data.toList p.data.toList)]):=by
 exact Mc [.string s,.string p] _ (iX 201 Tryz.func201 Wk rfl) rfl (fun g w=>mh [.string ⟨(Go.Lib.trimPrefix s.data.toList p.data.toList).toArray⟩,.bool (Go.Lib.hasPrefix s.data.toList p.data.toList)]) fun w _=>Any.strings_CutPrefix Tryz.layCut s p w
theorem zI(hs:Gi s):PC 232 [vs s,vs p] (vb (Go.Lib.contains s.data.toList p.data.toList)):=by
 unfold Gi at hs;exact Mc [.string s,.string p] (.bool (Go.Lib.contains s.data.toList p.data.toList)) (iX 232 Tryz.func232 Wk rfl) rfl (fun g w=>.v _ _) fun w hm=>by
  obtain⟨m,hm⟩:=hm;exact Any.strings_Contains Tryz.layCont s p m w ch hm
theorem eQ:∀x y:List UInt8,N2 x y=x.isPrefixOf y
 | [],_=>by simp[N2]
 |_::_,[]=>rfl
 |a::x,b::y=>by
  rw[N2,List.isPrefixOf_cons_cons,eQ x y]
  rfl
theorem kZ(x:List UInt8):∀y:List UInt8,kY x y=Go.Lib.contains y x
 | []=>by
  unfold Go.Lib.contains Go.Lib.index;cases x<;>rfl
 |b::y=>by
  rw[kY,eQ,kZ x y];unfold Go.Lib.contains;have hg:=Go.Lib.index_ge y x
  conv=>rhs;unfold Go.Lib.index
  cases h:x.isPrefixOf (b::y)with
  |true=>simp
  |false =>
   simp only[J7,DA,GZ]
   by_cases h0:Go.Lib.index y x=-1
   ·rw[h0];rfl
   ·have h1:(Go.Lib.index y x == -1)=false:=by simpa using h0
    rw[h1];simp only[DA,GZ];rw[Aq ch,Aq ch]
theorem ON:∀(l:List UInt8) (h:0<l.length),l.headD 0=l[0]
 | [],h=>by simp at h
 |_::_,_=>rfl
abbrev qB:ByteArray:=⟨⟨cy⟩⟩
theorem zD(hs:Gi s):PC 203 [vs s] (vb (Wb s.data.toList)):=by
 unfold Gi at hs;have hc:=zI qB ((⟨#[32]⟩++s)++⟨#[32]⟩) (GA Wk);have e:Go.Lib.contains qB.data.toList ((⟨#[32]⟩++s:ByteArray)++⟨#[32]⟩).data.toList=Wb s.data.toList:=by
  unfold Wb;rw[kZ]
  congr 1
 rw[e]at hc;refine Ps D3 Tryz.func203 rfl (Nz rfl) (Yi (by show(((1+s.size:Nat)):Int)≤_;omega) ?_);refine Yi (by show(((⟨#[32]⟩++s:ByteArray).size+1:Nat):Int)≤_;rw[ByteArray.size_append];show(((1+s.size)+1:Nat):Int)≤_;omega) ?_;refine Xi .pure (Xi _ (Yi (hc) ?_));exact .refl _
theorem zv(hs:Gi s):PC 159 [vs s] (vb (GN s.data.toList)):=by
 have hk:=zD s hs;have hw:=rp s 202 Gg zC (by unfold Gi at hs;simp;omega);have Ev:s.size=s.data.toList.length:=by simp
 have en:GN s.data.toList=(!s.data.toList.isEmpty&&decide (s.data.toList.length≤32)&&EW (s.data.toList.headD 0)&&s.data.toList.all Gg&&!Wb s.data.toList):=rfl
 by_cases h0:s=⟨#[]⟩
 ·subst h0;refine Ps D3 Tryz.func159 rfl (Nz rfl) (Yi ?_ ?_)
  ·intro h;exact absurd rfl (show(⟨#[]⟩:ByteArray)≠⟨#[]⟩from h)
  ·intro _;exact .refl _
 have h0' : s.data.toList≠[]:=fun e=>h0 (by
  have:s.data=#[]:=by rw[←Jt];exact e
  cases s;simp_all)
 have CB:0<s.data.toList.length:=Ho.2 h0';have Rr:s.data.toList.isEmpty=false:=by
  cases hl:s.data.toList with
  |nil=>exact absurd hl h0'
  |cons a l=>rfl
 have hhd:s.data.toList.headD 0=s.data.toList[0]:=ON _ CB;have jd:=rr s.data.toList[0];refine Ps D3 Tryz.func159 rfl (Nz rfl) (Yi ?_ ?_)
 rotate_left
 ·intro h;exact absurd h0 h
 intro _;refine Yi ?_ ?_
 rotate_left
 ·intro h;have h:¬((s.size:Nat):Int)≤32:=h;exact .of_eq (Ab vb (show false=GN s.data.toList by rw[en,Ap (by omega:¬s.data.toList.length≤32)];simp))
 intro h;have h:((s.size:Nat):Int)≤32:=h;refine Xi s.data.toList[0] (Yi ⟨BK _,Nx s 0 CB⟩ (BF (Bt (EW s.data.toList[0])) (fun e1=>?_) (fun e1=>?_)))
 rotate_left
 ·rw[e1]at jd;refine Xi .pure (Xi _ (Yi (jd) ?_));exact .of_eq (Ab vb (show false=GN s.data.toList by rw[en,hhd,e1];simp))
 rw[e1]at jd;refine Xi .pure (Xi _ (Yi (jd) (BF (Bt (s.data.toList.all Gg)) (fun e2=>?_) (fun e2=>?_))))
 rotate_left
 ·rw[e2]at hw;refine Xi .pure (Xi _ (Yi (hw) ?_));exact .of_eq (Ab vb (show false=GN s.data.toList by rw[en,e2];simp))
 rw[e2]at hw;refine Xi .pure (Xi _ (Yi (hw) ?_));have ef:GN s.data.toList=!Wb s.data.toList:=by rw[en,Rr,hhd,e1,e2,Aq (by omega:s.data.toList.length≤32)];rfl
 refine BF (Bt (Wb s.data.toList)) (fun e3=>?_) (fun e3=>?_)
 ·rw[e3]at hk;refine Xi .pure (Xi _ (Yi (hk) ?_));exact .of_eq (Ab vb (show false=GN s.data.toList by rw[ef,e3];rfl))
 ·rw[e3]at hk;refine Xi .pure (Xi _ (Yi (hk) ?_));exact .of_eq (Ab vb (show true=GN s.data.toList by rw[ef,e3];rfl))
abbrev YJ:Option Int→AV
 |some n=>.tup [vi n,vb true]
 |none=>.tup [vi 0,vb false]
theorem TG{z:Int}(h0:0≤z)(h1:z<256):IntKind.u8.wrap z=z:=by
 show z % 256=z;omega
theorem JX{c:UInt8}(h:CM c=true):48≤c.toNat∧c.toNat≤57:=by
 unfold CM at h;simp only[Ai,Az]at h;exact⟨Mm.1 h.1,Mm.1 h.2⟩
theorem LB(r:List UInt8)(i:Nat)(h:i<r.length):Ec (r.take (i+1))=10*Ec (r.take i)+((r[i].toNat:Int)-48):=by
 unfold Ec;rw[Be,Ge h,FV];rfl
theorem zu(hs:Gi s):PC 158 [vs s] (YJ (GM s.data.toList)):=by
 unfold Gi at hs;have hc:=zB s ⟨#[118]⟩
 by_cases hp:∃r,s.data.toList=118::r
 ·obtain⟨r,hr⟩:=hp;have e1:Go.Lib.hasPrefix s.data.toList (⟨#[118]⟩:ByteArray).data.toList=true:=by rw[hr];rfl
  have e2:Go.Lib.trimPrefix s.data.toList (⟨#[118]⟩:ByteArray).data.toList=r:=by unfold Go.Lib.trimPrefix;rw[e1,Al rfl,hr];rfl
  rw[e1,e2]at hc;have hv:GM s.data.toList=if(r.isEmpty||decide (3<r.length)||(decide (1<r.length)&&decide (r.headD 0=48))||!r.all CM)=true then none else some (Ec r):=by rw[hr];rfl
  have hrl:r.length<s.size:=by
   have:s.size=s.data.toList.length:=by simp
   rw[this,hr];simp
  generalize hB:(⟨r.toArray⟩:ByteArray)=rB at hc;have kw:rB.data.toList=r:=by rw[←hB]
  have u6:rB.size=r.length:=by rw[←hB];rfl
  have hw:=rp rB 163 CM rt (by rw[kw];omega);rw[kw]at hw;have no:∀{b:Bool},b=true→(if b=true then none else some (Ec r))=(none:Option Int):=fun h=>Al h;refine Ps (H1 []) Tryz.func158 rfl (Nz rfl) (Xi .pure (Xi _ (Yi (hc) (Yi ?_ ?_))))
  ·intro h;have h:rB=⟨#[]⟩:=h
   have:r=[]:=by rw[←kw,h]
   exact .of_eq (Ab YJ (show(none:Option Int)=GM s.data.toList by rw[hv,this];rfl))
  intro h;have h:¬rB=⟨#[]⟩:=h;have DM:r≠[]:=fun e=>h (by rw[←hB,e]);have CB:0<r.length:=Ho.2 DM;have Rr:r.isEmpty=false:=by
   cases hl:r with
   |nil=>exact absurd hl DM
   |cons a l=>rfl
  refine Yi ?_ ?_
  ·intro h2;have h2:(3:Int)<((rB.size:Nat):Int):=h2;exact .of_eq (Ab YJ (show(none:Option Int)=GM s.data.toList by rw[hv,no];rw[Aq (by omega:3<r.length)];simp))
  intro h2;have h2:¬(3:Int)<((rB.size:Nat):Int):=h2;have vU:r.length≤3:=by omega
  have d3:decide (3<r.length)=false:=Ap ch;refine Yi ?_ ?_
  ·intro h3;have h3:(1:Int)<((rB.size:Nat):Int):=h3;have Aae:rB.data[(0:Int).toNat]?=some r[0]:=by
    show rB.data[0]?=_;rw[←AQ,kw];exact Ge CB
   refine Xi r[0] (Yi ⟨BK _,Aae⟩ ?_);have hh:=ON r CB;refine Yi ?_ ?_
   ·intro h4;have h4:(r[0].toNat:Int)=48:=h4
    have:r[0]=48:=GS.1 (by show r[0].toNat=48;omega)
    exact .of_eq (Ab YJ (show(none:Option Int)=GM s.data.toList by rw[hv,hh,this,Aq (by omega:1<r.length)];simp))
   intro h4;have h4:¬(r[0].toNat:Int)=48:=h4;have eo:(decide (1<r.length)&&decide (r.headD 0=48))=false:=by rw[hh,Ap (show ¬r[0]=48 from fun e=>h4 (by rw[e];rfl)),Cz]
   have su:GM s.data.toList=if(!r.all CM)=true then none else some (Ec r):=by rw[hv,Rr,d3,eo];rfl
   refine BF (Bt (r.all CM)) (fun e3=>?_) (fun e3=>?_)
   rotate_left
   ·rw[e3]at hw;refine Xi .pure (Xi _ (Yi (hw) ?_));exact .of_eq (Ab YJ (show(none:Option Int)=GM s.data.toList by rw[su,e3];rfl))
   rw[e3]at hw;refine Xi .pure (Xi _ (Yi (hw) ?_));have hv3:GM s.data.toList=some (Ec r):=by rw[su,e3];rfl
   have z0:Ec (r.take 0)=0:=rfl;refine Xi {i:Nat // i≤r.length∧0≤Ec (r.take i)∧(i=0→Ec (r.take i)≤0)∧(i≤1→Ec (r.take i)≤9)∧(i≤2→Ec (r.take i)≤99)∧Ec (r.take i)≤999} (Xi (fun i=>⟨[(0,vs rB),(5,vi (Ec (r.take i.1))),(39,vi rB.size),(40,vi i.1)],[],Af⟩) (Xi (fun i=>r.length-i.1) (Yi (Xi ⟨0,AA _,by omega,fun _=>by omega,fun _=>by omega,fun _=>by omega,by omega⟩ ?_) ?_)))
   ·exact⟨Z4,Tv,Fh,Tv⟩
   intro⟨i,i1,i2,i3,i4,i5,i6⟩;refine Yi ?_ ?_
   ·intro h;have h:(i:Int)<(rB.size:Nat):=h;have h:i<r.length:=by omega
    have hdg:CM r[i]=true:=AZ.1 e3 _ (Aj h);have qm:=JX hdg;have dT:=LB r i h;have cq:IntKind.u8.wrap ((r[i].toNat:Int)-48)=(r[i].toNat:Int)-48:=TG ch ch;have S8:rB.data[((i:Nat):Int).toNat]?=some r[i]:=by rw[A7,←AQ,kw];exact Ge h
    refine Yi (by show Bc (10*Ec (r.take i));unfold Bc;omega) (Xi r[i] (Yi ⟨by show(0:Int)≤i;omega,S8⟩ ?_));refine Yi (by show Bc (IntKind.u8.wrap ((r[i].toNat:Int)-48));rw[cq];unfold Bc;omega) ?_;refine Yi (by show Bc (10*Ec (r.take i)+IntKind.u8.wrap ((r[i].toNat:Int)-48));rw[cq];unfold Bc;omega) ?_;refine Yi (Ii i ch) ?_;have e5:vi (10*Ec (r.take i)+IntKind.u8.wrap ((r[i].toNat:Int)-48))=vi (Ec (r.take (i+1))):=by rw[cq,dT]
    refine Xi ⟨i+1,by omega,by omega,fun _=>by omega,fun _=>by omega,fun _=>by omega,by omega⟩ ?_;exact⟨Dl r.length i ch,⟨Zr,⟨e5,rfl⟩,Zr,Zr,Tv⟩,Tv,Fh,Tv⟩
   ·intro h;have h:¬(i:Int)<(rB.size:Nat):=h;have e6:AV.tup [vi (Ec (r.take i)),vb true]=YJ (GM s.data.toList):=by rw[hv3,Au ch]
    exact .of_eq e6
  ·intro h3;have h3:¬(1:Int)<((rB.size:Nat):Int):=h3;have eo:(decide (1<r.length)&&decide (r.headD 0=48))=false:=by rw[Ap (by omega:¬1<r.length)];rfl
   have su:GM s.data.toList=if(!r.all CM)=true then none else some (Ec r):=by rw[hv,Rr,d3,eo];rfl
   refine BF (Bt (r.all CM)) (fun e3=>?_) (fun e3=>?_)
   rotate_left
   ·rw[e3]at hw;refine Xi .pure (Xi _ (Yi (hw) ?_));exact .of_eq (Ab YJ (show(none:Option Int)=GM s.data.toList by rw[su,e3];rfl))
   rw[e3]at hw;refine Xi .pure (Xi _ (Yi (hw) ?_));have hv3:GM s.data.toList=some (Ec r):=by rw[su,e3];rfl
   have z0:Ec (r.take 0)=0:=rfl;refine Xi {i:Nat // i≤r.length∧0≤Ec (r.take i)∧(i=0→Ec (r.take i)≤0)∧(i≤1→Ec (r.take i)≤9)∧(i≤2→Ec (r.take i)≤99)∧Ec (r.take i)≤999} (Xi (fun i=>⟨[(0,vs rB),(5,vi (Ec (r.take i.1))),(39,vi rB.size),(40,vi i.1)],[],Af⟩) (Xi (fun i=>r.length-i.1) (Yi (Xi ⟨0,AA _,by omega,fun _=>by omega,fun _=>by omega,fun _=>by omega,by omega⟩ ?_) ?_)))
   ·exact⟨Z4,Tv,Fh,Tv⟩
   intro⟨i,i1,i2,i3,i4,i5,i6⟩;refine Yi ?_ ?_
   ·intro h;have h:(i:Int)<(rB.size:Nat):=h;have h:i<r.length:=by omega
    have hdg:CM r[i]=true:=AZ.1 e3 _ (Aj h);have qm:=JX hdg;have dT:=LB r i h;have cq:IntKind.u8.wrap ((r[i].toNat:Int)-48)=(r[i].toNat:Int)-48:=TG ch ch;have S8:rB.data[((i:Nat):Int).toNat]?=some r[i]:=by rw[A7,←AQ,kw];exact Ge h
    refine Yi (by show Bc (10*Ec (r.take i));unfold Bc;omega) (Xi r[i] (Yi ⟨by show(0:Int)≤i;omega,S8⟩ ?_));refine Yi (by show Bc (IntKind.u8.wrap ((r[i].toNat:Int)-48));rw[cq];unfold Bc;omega) ?_;refine Yi (by show Bc (10*Ec (r.take i)+IntKind.u8.wrap ((r[i].toNat:Int)-48));rw[cq];unfold Bc;omega) ?_;refine Yi (Ii i ch) ?_;have e5:vi (10*Ec (r.take i)+IntKind.u8.wrap ((r[i].toNat:Int)-48))=vi (Ec (r.take (i+1))):=by rw[cq,dT]
    refine Xi ⟨i+1,by omega,by omega,fun _=>by omega,fun _=>by omega,fun _=>by omega,by omega⟩ ?_;exact⟨Dl r.length i ch,⟨Zr,⟨e5,rfl⟩,Zr,Zr,Tv⟩,Tv,Fh,Tv⟩
   ·intro h;have h:¬(i:Int)<(rB.size:Nat):=h;have e6:AV.tup [vi (Ec (r.take i)),vb true]=YJ (GM s.data.toList):=by rw[hv3,Au ch]
    exact .of_eq e6
 ·have e1:Go.Lib.hasPrefix s.data.toList (⟨#[118]⟩:ByteArray).data.toList=false:=by
   cases hl:s.data.toList with
   |nil=>rfl
   |cons a l =>
    have:a≠118:=fun e=>hp ⟨l,by rw[hl,e]⟩
    show(List.isPrefixOf [118] (a::l))=false;rw[List.isPrefixOf_cons_cons]
    have:((118:UInt8) == a)=false:=by rw[beq_eq_false_iff_ne];exact fun e=>this e.symm
    rw[this];rfl
  have hv:GM s.data.toList=none:=by
   cases hl:s.data.toList with
   |nil=>rfl
   |cons a l =>
    have:a≠118:=fun e=>hp ⟨l,by rw[hl,e]⟩
    show(if a=118 then _ else none)=none;rw[Ae this]
  rw[e1]at hc;refine Ps D3 Tryz.func158 rfl (Nz rfl) (Xi .pure (Xi _ (Yi (hc) ?_)));exact .of_eq (Ab YJ hv.symm)
abbrev RB:Option Int→AV
 |some n=>.tup [vi n,vi 0]
 |none=>.tup [vi 0,vi 4]
theorem Mi(c:UInt8):∀(s x:List UInt8),x∈CT c s→x.length≤s.length
 | [],x,h=>by
  rw[CT]at h;rw[Ar.1 h];exact Ao _
 |b::r,x,h=>by
  have ih:=Mi c r;rw[CT]at h;split at h
  ·rcases AF.1 h with rfl | h
   ·exact AA _
   ·have:=ih x h;rw[Av];omega
  ·split at h
   ·rw[Ar.1 h];rw[Av];simp
   ·rename_i y l e;rcases AF.1 h with rfl | h
    ·have:=ih y (by rw[e];exact Aa ..);rw[Av,Av];omega
    ·have:=ih x (by rw[e];exact Ah _ h);rw[Av];omega
theorem lX{p x:ByteArray}(hp:Gi p)(hx:x∈BU p):Gi x:=by
 have h:x.data.toList∈CT 47 p.data.toList:=by rw[←Qz];exact Am.2 ⟨x,hx,rfl⟩
 have:=Mi 47 _ _ h
 unfold Gi at *
 have e1:x.size=x.data.toList.length:=by simp
 have e2:p.size=p.data.toList.length:=by simp
 omega
theorem iv:(BU p).length=(CT 47 p.data.toList).length:=by rw[←Qz,Lm]
theorem iw:0<(BU p).length:=by
 rw[show(BU p).length=Go.Lib.countB p bL+1 from Go.Lib.splitB_all bL Cl 0 _ p rfl];omega
theorem iu:(BU p).length≤p.size+1:=by
 rw[show(BU p).length=Go.Lib.countB p bL+1 from Go.Lib.splitB_all bL Cl 0 _ p rfl]
 have:=Go.Lib.countB_le bL Cl p.size p (Ao _);omega
theorem cQ(h:(BU p).length-1<(BU p).length):(CT 47 p.data.toList).getLastD []=((BU p)[(BU p).length-1]).data.toList:=by
 rw[←Qz,List.getLastD_eq_getLast?,List.getLast?_eq_getElem?,Lm,AL,Ge h];rfl
theorem ir:(CT 47 p.data.toList).all Hu=(BU p).all fun x=>Hu x.data.toList:=by
 rw[←Qz,List.all_map];rfl
theorem uC(hp:Gi p):PC 109 [vs p] (RB (Bu p)):=by
 have hps:=iu p;have cp:=iw p;have hp1:(BU p).length-1<(BU p).length:=by omega
 have Ev:p.size=p.data.toList.length:=by simp
 have hfp:∀{x},x∈BU p→Gi x:=fun h=>lX hp h;unfold Gi at hp;have Ts:((BU p).map Ft)[((((BU p).map Ft).length:Int)-1).toNat]?=some (Ft (BU p)[(BU p).length-1]):=by
  rw[Lm,show(((BU p).length:Int)-1).toNat=(BU p).length-1 by omega];exact CR (Ge hp1)
 have hv:=zu (BU p)[(BU p).length-1] (hfp (Aj hp1));have em:Bu p=match GM ((BU p)[(BU p).length-1]).data.toList with
  |none=>none
  |some n=>if(decide (64<p.data.toList.length)||decide ((BU p).length<2))=true then none else if((BU p).all fun x=>Hu x.data.toList)=true then some n else none:=by
  unfold Bu RC;rw[cQ p hp1,ir,←iv];cases GM ((BU p)[(BU p).length-1]).data.toList with
  |none=>rfl
  |some n=>rfl
 cases hve:GM ((BU p)[(BU p).length-1]).data.toList with
 |none =>
  rw[hve]at hv em;refine Ps (H1 []) Tryz.func109 rfl (Nz rfl) (Xi .pure (Xi _ (Yi (uG p hp) (Yi (by show Bc ((((BU p).map Ft).length:Int)-1);unfold Bc;rw[Lm];omega) ?_))));refine Xi (Ft (BU p)[(BU p).length-1]) (Yi (Yi (by show(0:Int)≤(((BU p).map Ft).length:Int)-1;rw[Lm];omega) Ts) (Yi rfl ?_));refine Xi .pure (Xi _ (Yi (hv) ?_));exact .of_eq (Ab RB em.symm)
 |some n =>
  rw[hve]at hv em;have em:Bu p=if(decide (64<p.data.toList.length)||decide ((BU p).length<2))=true then none else if((BU p).all fun x=>Hu x.data.toList)=true then some n else none:=em
  refine Ps (H1 []) Tryz.func109 rfl (Nz rfl) (Xi .pure (Xi _ (Yi (uG p hp) (Yi (by show Bc ((((BU p).map Ft).length:Int)-1);unfold Bc;rw[Lm];omega) ?_))));refine Xi (Ft (BU p)[(BU p).length-1]) (Yi (Yi (by show(0:Int)≤(((BU p).map Ft).length:Int)-1;rw[Lm];omega) Ts) (Yi rfl ?_));refine Xi .pure (Xi _ (Yi (hv) (Yi ?_ ?_)))
  ·intro h;have h:(64:Int)<((p.size:Nat):Int):=h;exact .of_eq (Ab RB (show(none:Option Int)=Bu p by rw[em,Aq (by omega:64<p.data.toList.length)];rfl))
  intro h;have h:¬(64:Int)<((p.size:Nat):Int):=h;have d1:decide (64<p.data.toList.length)=false:=Ap ch;refine Yi ?_ ?_
  ·intro h2;have h2:(((BU p).map Ft).length:Int)<2:=h2;rw[Lm]at h2;exact .of_eq (Ab RB (show(none:Option Int)=Bu p by rw[em,d1,Aq (by omega:(BU p).length<2)];rfl))
  intro h2;have h2:¬(((BU p).map Ft).length:Int)<2:=h2;have d2:decide ((BU p).length<2)=false:=Ap (by rw[Lm]at h2;omega);have em2:Bu p=if((BU p).all fun x=>Hu x.data.toList)=true then some n else none:=by rw[em,d1,d2];rfl
  refine Xi {i:Nat // i≤(BU p).length∧∀j (hj:j<(BU p).length),j<i→Hu ((BU p)[j]).data.toList=true} (Xi (fun i=>⟨[(5,vi n),(33,sl Ft (BU p)),(34,vi ((BU p).map Ft).length),(35,vi i.1)],[],Af⟩) (Xi (fun i=>(BU p).length-i.1) (Yi (Xi ⟨0,AA _,fun j _ h=>by omega⟩ ?_) ?_)))
  ·exact⟨Z4,Tv,Fh,Tv⟩
  intro⟨i,i1,i2⟩;refine Yi ?_ ?_
  ·intro h;have h:(i:Int)<((BU p).map Ft).length:=h;have h:i<(BU p).length:=by simpa using h
   have hg:(BU p)[i]?=some (BU p)[i]:=Ge h;refine Xi (Ft (BU p)[i]) (Yi (Yi (Nn i) (by simp[hg])) (Yi rfl ?_));have hfi:=hfp (Aj h);have hn:=zv (BU p)[i] hfi;have ha:=rp (BU p)[i] 161 N6 zw (by unfold Gi at hfi;have e1:(BU p)[i].size=(BU p)[i].data.toList.length:=B0;omega);have no:Hu ((BU p)[i]).data.toList=false→(none:Option Int)=Bu p:=fun e=>by
    rw[em2,Ae];intro Gr
    have:=AZ.1 Gr _ (Aj h)
    rw[e]at this;cases this
   refine BF (Bt (GN ((BU p)[i]).data.toList)) (fun e1=>?_) (fun e1=>?_)
   rotate_left
   ·rw[e1]at hn;refine Xi .pure (Xi _ (Yi (hn) ?_));exact .of_eq (Ab RB (no (by unfold Hu;rw[e1];rfl)))
   rw[e1]at hn;refine Xi .pure (Xi _ (Yi (hn) (BF (Bt (((BU p)[i]).data.toList.all N6)) (fun e2=>?_) (fun e2=>?_))))
   rotate_left
   ·rw[e2]at ha;refine Xi .pure (Xi _ (Yi (ha) ?_));exact .of_eq (Ab RB (no (by unfold Hu;rw[e1];exact e2)))
   rw[e2]at ha;refine Xi .pure (Xi _ (Yi (ha) (Yi (Ii i ch) (Xi ⟨i+1,by omega,fun j hj Iq=>?_⟩ ?_))))
   ·rcases BY j i with z | z
    ·exact i2 j hj z
    ·have:j=i:=by omega
     subst this;unfold Hu;rw[e1];exact e2
   ·exact⟨by show(BU p).length-(i+1)<(BU p).length-i;omega,Z4,Tv,Fh,Tv⟩
  ·intro h;have h:¬(i:Int)<((BU p).map Ft).length:=h;have h:¬i<(BU p).length:=by simpa using h
   have e:some n=Bu p:=by
    rw[em2,Al];exact AZ.2 fun x hx=>by
     obtain⟨j,hj,rfl⟩:=BZ hx;exact i2 j hj ch
   exact .of_eq (Ab RB e)
theorem zm(hp:Gi p):PC 110 [vs p] (vb (Bu p).isSome):=by
 have hc:=uC p hp;cases h:Bu p with
 |none =>
  rw[h]at hc;refine Ps D3 Tryz.func110 rfl (Nz rfl) (Xi .pure (Xi _ (Yi (hc) (Yi ?_ ?_))))
  ·intro h;exact absurd (show(4:Int)=0 from h) Cl
  ·intro _;exact .refl _
 |some n =>
  rw[h]at hc;refine Ps D3 Tryz.func110 rfl (Nz rfl) (Xi .pure (Xi _ (Yi (hc) (Yi ?_ ?_))))
  ·intro _;exact .refl _
  ·intro h;exact absurd rfl h
theorem Ph(c:UInt8):∀s:List UInt8,2≤(CT c s).length→c∈s
 | [],h=>by rw[CT]at h;simp at h
 |b::r,h=>by
  rw[CT]at h
  by_cases e:b=c
  ·exact e▸Aa ..
  ·rw[Ae e]at h;refine Ah _ (Ph c r ?_);cases hs:CT c r with
   |nil=>rw[hs]at h;simp at h
   |cons x l=>rw[hs]at h;simpa using h
theorem lm{p:ByteArray}{m:Int}(h:Bu p=some m):0≤Go.Lib.lastIndex p.data.toList [47]∧Go.Lib.lastIndex p.data.toList [47]≤p.size:=by
 have h2:2≤(CT 47 p.data.toList).length:=by
  unfold Bu RC at h;split at h
  ·cases h
  ·split at h
   ·cases h
   ·rename_i hn;simp only[Cq,Az]at hn;omega
 have hm:=Ph 47 _ h2;obtain⟨i,hi,e⟩:=BZ hm;have Ev:p.size=p.data.toList.length:=by simp
 unfold Go.Lib.lastIndex;rw[Al (by simp only[AG];omega)];have AaI:Go.Lib.occAt p.data.toList [47] i=true:=by
  unfold Go.Lib.occAt;rw[AP hi,e];simp
 rcases Go.Lib.lastOcc_spec p.data.toList [47] (p.data.toList.length - [(47:UInt8)].length+1)with ⟨_,h3⟩ | ⟨j,h3,h4,_⟩
 ·have:=h3 i (by simp only[AG];omega)
  rw[AaI]at this;cases this
 ·rw[h4];simp only[AG]at h3;omega
abbrev Yq:ByteArray:=p.extract 0 (Go.Lib.lastIndex p.data.toList [47]).toNat
theorem VQ:VK Yq:=by
 intro p hp;have hc:=uC p hp;have hi:=zm p hp;unfold UT;cases h:Bu p with
 |none =>
  rw[h]at hc hi;refine Ps D3 Tryz.func81 rfl (Nz rfl) (Xi .pure (Xi _ (Yi (hc) (Xi .pure (Xi _ (Yi (hi) ?_))))));exact .refl _
 |some n =>
  rw[h]at hc hi;obtain⟨l1,l2⟩:=lm h;have hl:PC 111 [vs p,vs bL] (vi (Go.Lib.lastIndex p.data.toList [47])):=zn p bL hp;refine Ps D3 Tryz.func81 rfl (Nz rfl) (Xi .pure (Xi _ (Yi (hc) (Xi .pure (Xi _ (Yi (hi) (Yi ?_ ?_)))))))
  ·intro h;exact absurd rfl h
  intro _;refine Xi .pure (Xi _ (Yi (hl) (Yi ⟨BK _,l1,l2⟩ ?_)));exact .refl _
theorem Nm{l:List Rq}(h:Bn l=0):l.length≤16:=by
 unfold Bn at h;split at h
 ·cases h
 ·omega
theorem L6{x:List Rl}(h:AN x=0):x.length≤256∧∀r∈x,r.reqs.length≤16:=by
 have h1:x.length≤256:=by
  unfold AN at h;split at h
  ·cases h
  ·omega
 exact⟨h1,fun r hr=>Nm ((Ct h).1 r hr).reqs⟩
theorem j8{x:List Rl}(h:∀r∈x,r.reqs.length≤16):((x.map (·.reqs)).flatten).length≤x.length*16:=by
 induction x with
 |nil=>simp
 |cons r x ih =>
  rw[AJ,Bm,Ad,Av]
  have:=h r (Aa ..)
  have:=ih fun s hs=>h s (Ah _ hs)
  omega
theorem cV{x:List Rl}{roots:List Rq}{l:List Nf}(h1:AN x=0)(h2:Bn roots=0)(h3:l.length≤65536):(K8 x roots l).length≤100000:=by
 obtain⟨a,b⟩:=L6 h1
 have:=j8 b
 have:=Nm h2
 unfold K8;simp only[Ad,Lm];omega
theorem Wf.fewI{U:List ByteArray}{t:List Tm}(h:Wf U t)(hu:U.length≤100000):qS t :=
 ⟨by have:=h.len;omega,fun u hu=>PR (h.1.canon u hu)⟩
abbrev EZ:AV:=.agg (Ic x ifs)
abbrev bw:E7:=⟨true,[.str,.int .i64,.int .i64,.int .i64]⟩
abbrev SC(y:Sl):Value:=.agg #[.string y.path,.int .i64 y.ver.a,.int .i64 y.ver.b,.int .i64 y.ver.c]
abbrev W3(r:Rl):Value×AV:=(SC (Fa r),.agg (At r))
def AX:List Rl→List ByteArray→List ByteArray
 | [],acc=>acc
 |r::x,acc=>AX x (if acc.any (fun p=>decide (p=r.path))then acc else acc++[r.path])
abbrev sE:Value×AV:=(.string p,sl At (x.filter fun r=>decide (r.path=p)))
abbrev YG:AV:=if AN x=0 then .tup [.agg [.cmap bw (x.map W3),.cmap Du ((AX x []).map (sE x))],vi 0]else .tup [.agg [.cmap bw [],.cmap Du []],vi (AN x)]
abbrev jl:Prop:=PC 41 [EZ x ifs] (YG x)
theorem zS:PC 42 [.agg nh] (.agg nh):=by
 refine Ps D3 Tryz.func42 rfl (Nz rfl) (yN (Xi Unit (Xi (fun _=>⟨[(1,.ref 1 0),(2,.ref 2 0),(10,vi 0),(11,vi 0)],[(1,.cells nh),(2,.cells nh)],Af⟩) (Xi (fun _=>0) (Yi (Xi () ?_) ?_)))))
 ·exact⟨Z4,Z2,Fh,Tv⟩
 intro _;refine Yi ?_ ?_
 ·intro h;exact absurd (show(0:Int)<0 from h) Cl
 ·intro _;refine Yi (Nz rfl) (Yi (Nz rfl) (yN ?_));exact .refl _
theorem oP{z:Sl}(h:SC y=SC z):y=z:=by
 obtain⟨p,⟨a,b,c⟩⟩:=y;obtain⟨q,⟨d,e,f⟩⟩:=z;simp only[SC,Value.agg.injEq,Array.mk.injEq,F0,Value.string.injEq,Value.int.injEq,true_and,and_true]at h;obtain⟨rfl,rfl,rfl,rfl⟩:=h
 rfl
theorem dX{x:List Rl}(h:(SC y,a)∈x.map W3):∃r∈x,Fa r=y∧a=.agg (At r):=by
 obtain⟨r,h1,h2⟩:=Am.1 h;simp only[W3,Gk]at h2;exact⟨r,h1,oP h2.1,h2.2.symm⟩
theorem j7{x:List Rl}(hx:AN x=0){r:Rl}(hr:r∈x):CY x (Fa r)=some r:=by
 unfold CY;rw[Ae ch];cases h:x.find? (fun s=>decide (Fa s=Fa r))with
 |none =>
  rw[DC]at h;exact absurd B0 (h r hr)
 |some s =>
  have h1:=Fg h;simp only[Az]at h1;have hs:=Cw h;have hp:=(Ct hx).2;rcases BR.1 hr with ⟨i,hi,e1⟩;rcases BR.1 hs with ⟨j,hj,e2⟩;rcases Sm i j with QV | QV | QV
  ·have:=(AS.1 hp) i j hi hj QV
   rw[e1,e2]at this;exact(HE this h1.symm).elim
  ·subst QV;rw[←e1,←e2]
  ·have:=(AS.1 hp) j i hj hi QV
   rw[e1,e2]at this;exact(HE this h1).elim
theorem c53(v:Ver)(gu:jl x ifs)(hx:∀r∈x,Gv r):PC 15 [EZ x ifs,vs p,.agg (Fu v)] (My (CY x ⟨p,v⟩)):=by
 have hz:=zS
 by_cases h0:AN x=0
 ·have gu:PC 41 [EZ x ifs] (.tup [.agg [.cmap bw (x.map W3),.cmap Du ((AX x []).map (sE x))],vi 0]):=by
   have:=gu;unfold jl YG at this;rw[Al h0]at this;exact this
  refine Ps (H1 []) Tryz.func15 rfl (Nz rfl) (yN (Xi .pure (Xi _ (Yi (gu) (yN (yN (Yi ?_ ?_)))))))
  ·intro a ha;refine Ba (dX (y:=⟨p,v⟩) ha) (fun r hr=>?_);have e:=hr.2.2;subst e;have hf:CY x ⟨p,v⟩=some r:=by rw[←hr.2.1];exact j7 h0 hr.1
   have yf:=(L6 h0).2 r hr.1;have hc:=zR r ch (fun q hq=>((hx r hr.1).2 q hq).1);refine yN (yN (Xi .pure (Xi _ (Yi (hc) (Yi (Nz rfl) (yN ?_))))));exact .of_eq (show AV.tup [.agg (At r),vb true]=My (CY x ⟨p,v⟩) by rw[hf])
  ·intro hn;have hf:CY x ⟨p,v⟩=none:=by
    cases h:CY x ⟨p,v⟩with
    |none=>rfl
    |some r =>
     obtain⟨_,h2,h3⟩:=HQ h;exact absurd (Am.2 ⟨r,h2,by rw[show W3 r=(SC (Fa r),AV.agg (At r))from rfl,h3]⟩) (hn (.agg (At r)))
   refine yN (yN (Xi .pure (Xi _ (Yi (hz) (Yi (Nz rfl) (yN ?_))))));exact .of_eq (show AV.tup [.agg nh,vb false]=My (CY x ⟨p,v⟩) by rw[hf])
 ·have gu:PC 41 [EZ x ifs] (.tup [.agg [.cmap bw [],.cmap Du []],vi (AN x)]):=by
   have:=gu;unfold jl YG at this;rw[Ae h0]at this;exact this
  have hf:CY x ⟨p,v⟩=none:=by unfold CY;rw[Al h0]
  refine Ps (H1 []) Tryz.func15 rfl (Nz rfl) (yN (Xi .pure (Xi _ (Yi (gu) (yN (yN (Yi ?_ ?_)))))))
  ·intro a ha;cases ha
  ·intro _;refine yN (yN (Xi .pure (Xi _ (Yi (hz) (Yi (Nz rfl) (yN ?_))))));exact .of_eq (show AV.tup [.agg nh,vb false]=My (CY x ⟨p,v⟩) by rw[hf])
abbrev EX:Bb:=(l.filter fun r=>!r.yanked).map fun r=>(plc r.ver,plc r.ver+1)
theorem dj:(EX l).length≤l.length:=by
 unfold EX;rw[Lm];exact BC _ _
theorem oU{x:List Rl}{ps:List ByteArray}{p:ByteArray}(h:(Value.string p,a)∈ps.map (sE x)):a=sl At (x.filter fun r=>decide (r.path=p)):=by
 obtain⟨q,_,h2⟩:=Am.1 h;simp only[sE,Gk,Value.string.injEq]at h2;rw[←h2.2,h2.1]
theorem Py{acc:List ByteArray}{p:ByteArray}:(acc.any fun q=>decide (q=p))=true↔p∈acc:=by
 rw[A5];constructor
 ·rintro⟨q,h1,h2⟩;rw[←A4 h2];exact h1
 ·intro h;exact⟨p,h,by simp⟩
theorem HZ:∀(x:List Rl) (acc:List ByteArray) (p:ByteArray),p∈AX x acc↔p∈acc∨∃r∈x,r.path=p
 | [],acc,p=>by simp[AX]
 |r::x,acc,p=>by
  rw[AX,HZ x];constructor
  ·rintro(h | ⟨s,h1,h2⟩)
   ·split at h
    ·exact .inl h
    ·rcases AY.1 h with h | h
     ·exact .inl h
     ·exact .inr ⟨r,Aa ..,(Ar.1 h).symm⟩
   ·exact .inr ⟨s,Ah _ h1,h2⟩
  ·rintro(h | ⟨s,h1,h2⟩)
   ·left
    split
    ·exact h
    ·exact Bp _ h
   ·rcases AF.1 h1 with rfl | h1
    ·left
     split
     ·rename_i hh;rw[←h2];exact Py.1 hh
     ·rw[←h2];exact Bj _ (Ar.2 rfl)
    ·exact .inr ⟨s,h1,h2⟩
abbrev qH:Q0:=(pT [] [(7,2)] [])
theorem Ww(L:List Rl)(i:Nat)(h:i<L.length):EX (L.take (i+1))=EX (L.take i)++(if L[i].yanked then []else [(plc L[i].ver,plc L[i].ver+1)]):=by
 unfold EX;rw[Be,Ge h,DB,As]
 congr 1
 cases hy:L[i].yanked<;>simp[hy]
theorem zq(gu:jl x ifs):PC 86 [EZ x ifs,vs p] (sl Ag (Ca x p)):=by
 by_cases h0:AN x=0
 ·have gu:PC 41 [EZ x ifs] (.tup [.agg [.cmap bw (x.map W3),.cmap Du ((AX x []).map (sE x))],vi 0]):=by
   have:=gu;unfold jl YG at this;rw[Al h0]at this;exact this
  have VV:=(L6 h0).1;obtain⟨L,xU⟩:∃L,L=x.filter fun r=>decide (r.path=p):=⟨_,rfl⟩;have hL:K6 x p=L:=by unfold K6;rw[Ae ch,xU]
  have hLl:L.length≤256:=by have:=BC (fun r:Rl=>decide (r.path=p)) x;rw[xU];omega
  refine Ps qH Tryz.func86 rfl (Nz rfl) (yN (Xi .pure (Xi _ (Yi (gu) (yN (Yi ?_ ?_))))))
  ·intro a ha;have ea:a=sl At L:=by rw[xU];exact oU ha
   subst ea;refine Xi {i:Nat // i≤L.length} (Xi (fun i=>⟨[(7,.slice (.id 7 2) ((EX (L.take i.1)).map Ag)),(18,sl At L),(19,vi (L.map At).length),(20,vi i.1)],[(7,.tok 2 ((EX (L.take i.1)).map Ag).length)],Af⟩) (Xi (fun i=>L.length-i.1) (Yi (Xi ⟨0,AA _⟩ ?_) ?_)))
   ·exact⟨Z4,Z1,Fh,Tv⟩
   intro⟨i,i1⟩;have WR:=dj (L.take i);rw[AB]at WR;refine Yi ?_ ?_
   ·intro h;have h:(i:Int)<(L.map At).length:=h;have h:i<L.length:=by simpa using h
    have hg:L[i]?=some L[i]:=Ge h;refine Xi (At L[i]) (Yi (Yi (Nn i) (by simp[hg])) (Yi rfl ?_));refine Yi (Nz rfl) (yN (Yi ?_ ?_))
    ·intro hy;have hy:L[i].yanked=true:=hy;refine Yi (Ii i ch) ?_;have es:EX (L.take (i+1))=EX (L.take i):=by rw[Ww L i h,hy];simp
     have e1:AV.slice (.id 7 2) ((EX (L.take i)).map Ag)=.slice (.id 7 2) ((EX (L.take (i+1))).map Ag):=by rw[es]
     have e2:HO.tok 2 ((EX (L.take i)).map Ag).length=.tok 2 ((EX (L.take (i+1))).map Ag).length:=by rw[es]
     refine Xi ⟨i+1,by omega⟩ ?_;exact⟨Dl L.length i ch,⟨⟨e1,rfl⟩,Zr,Zr,Zr,Tv⟩,⟨⟨e2,rfl⟩,Tv⟩,Fh,Tv⟩
    ·intro hy;have hy:L[i].yanked=false:=hy;have se:=pv L[i].ver;refine yN (Xi _ (Yi (c88 L[i]) (yN (Xi _ (Yi (c88 L[i]) (Yi (by show Bc (plc L[i].ver+1);unfold Bc;omega) ?_))))));have GQ:Cf 2 [[vi (plc L[i].ver),vi (plc L[i].ver+1)]]∧((EX (L.take i)).map Ag).length=((EX (L.take i)).map Ag).length∧(((EX (L.take i)).map Ag).length+[[vi (plc L[i].ver),vi (plc L[i].ver+1)]].length)*16≤140737488355328∧((EX (L.take i)).map Ag).length+[[vi (plc L[i].ver),vi (plc L[i].ver+1)]].length≤9223372036854775807 :=
      ⟨⟨rfl,trivial⟩,rfl,by rw[Lm,AG];omega,by rw[Lm,AG];omega⟩
     refine Yi GQ (Yi Wk (Yi (Ii i ch) ?_));have es:EX (L.take (i+1))=EX (L.take i)++[(plc L[i].ver,plc L[i].ver+1)]:=by rw[Ww L i h,hy];simp
     have e1:AV.slice (.id 7 2) ((EX (L.take i)).map Ag++[[vi (plc L[i].ver),vi (plc L[i].ver+1)]])=.slice (.id 7 2) ((EX (L.take (i+1))).map Ag):=by rw[es,As];rfl
     have e2:HO.tok 2 (((EX (L.take i)).map Ag).length+[[vi (plc L[i].ver),vi (plc L[i].ver+1)]].length)=.tok 2 ((EX (L.take (i+1))).map Ag).length:=by rw[es,As,Ad];rfl
     refine Xi ⟨i+1,by omega⟩ ?_;exact⟨Dl L.length i ch,⟨⟨e1,rfl⟩,Zr,Zr,Zr,Tv⟩,⟨⟨e2,rfl⟩,Tv⟩,Fh,Tv⟩
   ·intro h;have h:¬(i:Int)<(L.map At).length:=h;have h:¬i<L.length:=by simpa using h
    have et:L.take i=L:=Au ch;have hc:PC 116 [sl Ag (EX (L.take i))] (sl Ag (canon (EX (L.take i)))):=Y5 _ (by unfold Cy;omega);refine Xi .pure (Xi _ (Yi (hc) ?_));exact .of_eq (show sl Ag (canon (EX (L.take i)))=sl Ag (Ca x p) by rw[et];unfold Ca;rw[hL])
  ·intro hn;have hL:K6 x p=[]:=by
    rw[hL,xU,H4];intro r hr he;have he:=A4 he;exact hn _ (Am.2 ⟨p,(HZ x [] p).2 (.inr ⟨r,hr,he⟩),rfl⟩)
   refine Xi Unit (Xi (fun _=>⟨[(7,.slice (.id 7 2) []),(19,vi 0),(20,vi 0)],[(7,.tok 2 0)],Af⟩) (Xi (fun _=>0) (Yi (Xi () ?_) ?_)))
   ·exact⟨Z3,Z1,Fh,Tv⟩
   intro _;refine Yi ?_ ?_
   ·intro h;exact absurd (show(0:Int)<0 from h) Cl
   intro _;have hc:PC 116 [sl Ag []] (sl Ag (canon [])):=Y5 [] (by unfold Cy;simp);refine Xi .pure (Xi _ (Yi (hc) ?_));exact .of_eq (show sl Ag (canon [])=sl Ag (Ca x p) by unfold Ca;rw[hL];rfl)
 ·have gu:PC 41 [EZ x ifs] (.tup [.agg [.cmap bw [],.cmap Du []],vi (AN x)]):=by
   have:=gu;unfold jl YG at this;rw[Ae h0]at this;exact this
  have hL:K6 x p=[]:=by unfold K6;rw[Al h0]
  refine Ps qH Tryz.func86 rfl (Nz rfl) (yN (Xi .pure (Xi _ (Yi (gu) (yN (Yi ?_ ?_))))))
  ·intro a ha;cases ha
  ·intro _;refine Xi Unit (Xi (fun _=>⟨[(7,.slice (.id 7 2) []),(19,vi 0),(20,vi 0)],[(7,.tok 2 0)],Af⟩) (Xi (fun _=>0) (Yi (Xi () ?_) ?_)))
   ·exact⟨Z3,Z1,Fh,Tv⟩
   intro _;refine Yi ?_ ?_
   ·intro h;exact absurd (show(0:Int)<0 from h) Cl
   intro _;have hc:PC 116 [sl Ag []] (sl Ag (canon [])):=Y5 [] (by unfold Cy;simp);refine Xi .pure (Xi _ (Yi (hc) ?_));exact .of_eq (show sl Ag (canon [])=sl Ag (Ca x p) by unfold Ca;rw[hL];rfl)
theorem TX:Cy (Ca x p):=by
 unfold Ca Cy
 have:=IT (Cs (((K6 x p).filter fun r=>!r.yanked).map fun r=>(plc r.ver,plc r.ver+1)));omega
end Go.Eng
