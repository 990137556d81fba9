/- Lemmas for the claims of this seat, without a condition: part 20 (C36, C37, C38, C39, LayStr, C40, C41, C42, C43, C44, C45, C46, C47, C48, C49). -/
import Derived.Test.YtkmnnpmneamgoaaGreatDoorA19
import Derived.Shelf.Strings.SplitShaped
import Derived.Shelf.Strings.LastIndexAll
import Derived.Shelf.Strings.Search3
import Derived.Shelf.Small.Wraps
import Derived.Ground.NamesProg
import Derived.Lib.LastIndexLaws
namespace Go.Eng
open Go.Proofs
abbrev fV(r:Rl):Nat→ByteArray
 |0=>r.arch
 |1=>r.ifc
 |_=>r.cert
theorem oe{r:Rl}(h:∀j,j<3→DS (fV r j)=true):(DS r.arch&&DS r.ifc&&DS r.cert)=true:=by
 have h0:DS r.arch=true:=h 0 (by decide);have h1:DS r.ifc=true:=h 1 (by decide);have h2:DS r.cert=true:=h 2 (by decide);rw[h0,h1,h2];rfl
theorem Zv{r:Rl}{i:Nat}(hi:i<3)(h:DS (fV r i)=false):(DS r.arch&&DS r.ifc&&DS r.cert)=false:=by
 match i,hi,h with
 |0,_,h=>have h:DS r.arch=false:=h;rw[h];rfl
 |1,_,h=>have h:DS r.ifc=false:=h;rw[h,Ct];rfl
 |2,_,h=>have h:DS r.cert=false:=h;rw[h,Ct]
theorem uM{nm:ByteArray→ByteArray}(hL:Up nm)(r:Rl)(hr:Gj r):PC 112 [.agg (AY r)] (vi (De r)):=by
 cases Uj:By r.path with
 |none =>
  have e:(4:Int)=De r:=by unfold De;rw[Uj]
  have hl:=hL.none hr.1 Uj;refine Ps EP Tryz.func112 rfl (Nz rfl) ?_;refine Xi .pure (Xi _ (Yi (hl) ?_));refine Yi ?_ ?_
  ·intro _;exact .of_eq (Ac vi e)
  ·intro h;exact absurd (show(4:Int)≠0 by decide) h
 |some m =>
  have er:De r=if(!CJ r.ver||!decide (r.ver.a=m))=true then 2 else if Bn r.reqs≠0 then Bn r.reqs else if(DS r.arch&&DS r.ifc&&DS r.cert)=true then 0 else 1:=by unfold De;rw[Uj]
  have hl:=hL.some hr.1 Uj;have hv:=qN r.ver;have hc:=zf hL r.reqs hr.2;rcases Bt (CJ r.ver)with h2 | h2
  ·rw[h2]at hv;refine Ps (Ia [2,4,6,7,9]) Tryz.func112 rfl (Nz rfl) ?_;refine Xi .pure (Xi _ (Yi (hl) ?_));refine Xi ⟨[(1,.ref 1 0),(4,vi m),(5,vi 0)],[(1,.cells (AY r))],Aa⟩ (Yi ⟨Z3,Z1,Fh,Tv⟩ ?_)
   refine Yi ?_ ?_
   ·intro h;exact absurd rfl h
   intro _;refine Xi ⟨[(1,.ref 1 0),(4,vi m)],[(1,.cells (AY r))],Aa⟩ (Yi ⟨Z2,Z1,Fh,Tv⟩ ?_)
   refine Yi (Nz rfl) ?_;refine Xi .pure (Xi _ (Yi (hv) ?_));refine Yi ?_ ?_
   ·intro h;have h:r.ver.a≠m:=h;have e:(2:Int)=De r:=by rw[er,h2,Au h];rfl
    exact .of_eq (Ac vi e)
   intro h;have h:¬r.ver.a≠m:=h;have h3:r.ver.a=m:=Gy h;have zp:De r=if Bn r.reqs≠0 then Bn r.reqs else if(DS r.arch&&DS r.ifc&&DS r.cert)=true then 0 else 1:=by rw[er,h2,Av h3];rfl
   refine Xi ⟨[(1,.ref 1 0)],[(1,.cells (AY r))],Aa⟩ (Yi ⟨Z1,Z1,Fh,Tv⟩ ?_)
   refine Xi .pure (Xi _ (Yi (hc) ?_));refine Xi ⟨[(1,.ref 1 0),(6,vi (Bn r.reqs))],[(1,.cells (AY r))],Aa⟩ (Yi ⟨Z2,Z1,Fh,Tv⟩ ?_)
   refine Yi ?_ ?_
   ·intro h4;have h4:Bn r.reqs≠0:=h4;exact .of_eq (Ac vi (show Bn r.reqs=De r by rw[zp,Ax h4]))
   intro h4;have h4:¬Bn r.reqs≠0:=h4;have tW:De r=if(DS r.arch&&DS r.ifc&&DS r.cert)=true then 0 else 1:=by rw[zp,Aq h4]
   refine Xi ⟨[(1,.ref 1 0)],[(1,.cells (AY r))],Aa⟩ (Yi ⟨Z1,Z1,Fh,Tv⟩ ?_)
   refine Xi {i:Nat // i≤3∧∀j,j<i→DS (fV r j)=true} (Xi (fun i=>⟨[(41,.slice (.id 41 1) [[vs r.arch],[vs r.ifc],[vs r.cert]]),(42,vi 3),(43,vi i.1)],[(41,.tok 1 3)],Aa⟩) (Xi (fun i=>3-i.1) (Yi (Xi ⟨0,by omega,fun j h=>by omega⟩ ?_) ?_)))
   ·exact⟨Z3,Z1,Fh,Tv⟩
   intro⟨i,i1,i2⟩;refine Yi ?_ ?_
   ·intro h;have h:(i:Int)<3:=h;have next:DS (fV r i)=true→∀j,j<i+1→DS (fV r j)=true:=fun hz j hj=>by
     rcases BZ j i with q | q
     ·exact i2 j q
     ·have:j=i:=by omega
      subst this;exact hz
    match i,i1,i2,h,next with
    |0,i1,i2,h,next =>
     refine Xi [vs r.arch] (Yi (Yi (by show(0:Int)≤0;decide) rfl) (Yi rfl ?_));refine Yi ?_ ?_
     ·intro h5;have h5:((r.arch.size:Nat):Int)≠0:=h5;refine Yi ?_ ?_
      ·intro h6;have h6:((r.arch.size:Nat):Int)≠32:=h6;have e:(1:Int)=De r:=by rw[tW,Zv (i:=0) (by decide) (show DS r.arch=false by unfold DS;rw[Au (by omega),Au (by omega)];rfl)];rfl
       exact .of_eq (Ac vi e)
      ·intro h6;have h6:¬((r.arch.size:Nat):Int)≠32:=h6;refine Yi (Ii 0 (by omega)) ?_;refine Xi ⟨1,by omega,next (show DS r.arch=true by unfold DS;rw[Av (by omega:r.arch.size=32),Uo])⟩ ?_
       exact⟨by show 3-1<3-0;decide,Z3,Z1,Fh,Tv⟩
     ·intro h5;have h5:¬((r.arch.size:Nat):Int)≠0:=h5;refine Yi (Ii 0 (by omega)) ?_;refine Xi ⟨1,by omega,next (show DS r.arch=true by unfold DS;rw[Av (by omega:r.arch.size=0)];rfl)⟩ ?_
      exact⟨by show 3-1<3-0;decide,Z3,Z1,Fh,Tv⟩
    |1,i1,i2,h,next =>
     refine Xi [vs r.ifc] (Yi (Yi (by show(0:Int)≤1;decide) rfl) (Yi rfl ?_));refine Yi ?_ ?_
     ·intro h5;have h5:((r.ifc.size:Nat):Int)≠0:=h5;refine Yi ?_ ?_
      ·intro h6;have h6:((r.ifc.size:Nat):Int)≠32:=h6;have e:(1:Int)=De r:=by rw[tW,Zv (i:=1) (by decide) (show DS r.ifc=false by unfold DS;rw[Au (by omega),Au (by omega)];rfl)];rfl
       exact .of_eq (Ac vi e)
      ·intro h6;have h6:¬((r.ifc.size:Nat):Int)≠32:=h6;refine Yi (Ii 1 (by omega)) ?_;refine Xi ⟨2,by omega,next (show DS r.ifc=true by unfold DS;rw[Av (by omega:r.ifc.size=32),Uo])⟩ ?_
       exact⟨by show 3-2<3-1;decide,Z3,Z1,Fh,Tv⟩
     ·intro h5;have h5:¬((r.ifc.size:Nat):Int)≠0:=h5;refine Yi (Ii 1 (by omega)) ?_;refine Xi ⟨2,by omega,next (show DS r.ifc=true by unfold DS;rw[Av (by omega:r.ifc.size=0)];rfl)⟩ ?_
      exact⟨by show 3-2<3-1;decide,Z3,Z1,Fh,Tv⟩
    |2,i1,i2,h,next =>
     refine Xi [vs r.cert] (Yi (Yi (by show(0:Int)≤2;decide) rfl) (Yi rfl ?_));refine Yi ?_ ?_
     ·intro h5;have h5:((r.cert.size:Nat):Int)≠0:=h5;refine Yi ?_ ?_
      ·intro h6;have h6:((r.cert.size:Nat):Int)≠32:=h6;have e:(1:Int)=De r:=by rw[tW,Zv (i:=2) (by decide) (show DS r.cert=false by unfold DS;rw[Au (by omega),Au (by omega)];rfl)];rfl
       exact .of_eq (Ac vi e)
      ·intro h6;have h6:¬((r.cert.size:Nat):Int)≠32:=h6;refine Yi (Ii 2 (by omega)) ?_;refine Xi ⟨3,by omega,next (show DS r.cert=true by unfold DS;rw[Av (by omega:r.cert.size=32),Uo])⟩ ?_
       exact⟨by show 3-3<3-2;decide,Z3,Z1,Fh,Tv⟩
     ·intro h5;have h5:¬((r.cert.size:Nat):Int)≠0:=h5;refine Yi (Ii 2 (by omega)) ?_;refine Xi ⟨3,by omega,next (show DS r.cert=true by unfold DS;rw[Av (by omega:r.cert.size=0)];rfl)⟩ ?_
      exact⟨by show 3-3<3-2;decide,Z3,Z1,Fh,Tv⟩
    |i+3,i1,i2,h,next=>omega
   ·intro h;have h:¬(i:Int)<3:=h;have e:(0:Int)=De r:=by rw[tW,Ax (oe fun j hj=>i2 j (by omega))]
    exact .of_eq (Ac vi e)
  ·rw[h2]at hv;have e:(2:Int)=De r:=by rw[er,h2];rfl
   refine Ps (Ia [2,4]) Tryz.func112 rfl (Nz rfl) ?_;refine Xi .pure (Xi _ (Yi (hl) ?_));refine Xi ⟨[(1,.ref 1 0),(4,vi m),(5,vi 0)],[(1,.cells (AY r))],Aa⟩ (Yi ⟨Z3,Z1,Fh,Tv⟩ ?_)
   refine Yi ?_ ?_
   ·intro h;exact absurd rfl h
   intro _;refine Xi ⟨[(1,.ref 1 0),(4,vi m)],[(1,.cells (AY r))],Aa⟩ (Yi ⟨Z2,Z1,Fh,Tv⟩ ?_)
   refine Yi (Nz rfl) ?_;refine Xi .pure (Xi _ (Yi (hv) ?_));exact .of_eq (Ac vi e)
end Go.Eng

namespace Go.Eng
open Go.Proofs
theorem pd{a b:Rl}(h:a.path=b.path∧a.ver.a=b.ver.a∧a.ver.b=b.ver.b∧a.ver.c=b.ver.c):FF a=FF b:=by
 unfold FF;obtain⟨h1,h2,h3,h4⟩:=h
 have:a.ver=b.ver:=by
  cases ha:a.ver;cases hb:b.ver;rw[ha,hb]at h2 h3 h4;simp_all
 rw[h1,this]
theorem Vt{a b:Rl}(h:FF a=FF b):a.path=b.path∧a.ver.a=b.ver.a∧a.ver.b=b.ver.b∧a.ver.c=b.ver.c:=by
 unfold FF at h
 injection h with h1 h2
 exact⟨h1,by rw[h2],by rw[h2],by rw[h2]⟩
abbrev Wf(x:List Rl):Nat→Option Rl
 |0=>none
 |k+1=>x[k]?
theorem vX{nm:ByteArray→ByteArray}(hL:Up nm)(x:List Rl)(ifs:List (List AV))(hs:∀r∈x,Gj r):PC 59 [.agg (Ic x ifs)] (vi (Ba x)):=by
 refine Ps (Ia [7,9,11,13]) Tryz.func59 rfl (Nz rfl) ?_;refine Yi ?_ ?_
 ·intro h;have h:(256:Int)<(x.map AY).length:=h;exact .of_eq (Ac vi (show(7:Int)=Ba x by unfold Ba;rw[Ax (by rw[Lm]at h;omega)]))
 intro h;have h:¬(256:Int)<(x.map AY).length:=h;have hl:x.length≤256:=by rw[Lm]at h;omega
 have Ok:Ba x=Dd none x:=by unfold Ba;rw[Aq (by omega)]
 refine Xi {i:Nat // i≤x.length∧Dd none x=Dd (Wf x i) (x.drop i)} (Xi (fun i=>⟨[(1,.ref 1 0),(12,sl AY x),(13,vi (x.map AY).length),(14,vi i.1)],[(1,.cells (Ic x ifs))],Aa⟩) (Xi (fun i=>x.length-i.1) (Yi (Xi ⟨0,AL _,rfl⟩ ?_) ?_)))
 ·exact⟨Z4,Z1,Fh,Tv⟩
 intro⟨i,h1,h2⟩;refine Yi ?_ ?_
 ·intro h;have h:(i:Int)<(x.map AY).length:=h;have h:i<x.length:=by simpa using h
  have hg:x[i]?=some x[i]:=Ge h;have hd:x.drop i=x[i]::x.drop (i+1):=Bl h;have hc:=uM hL x[i] (hs x[i] (Am h));have GY:Dd none x=if De x[i]≠0 then De x[i]else match Wf x i with
   |none=>Dd (some x[i]) (x.drop (i+1))
   |some b=>if FF b=FF x[i]then 5 else if 0<IA b x[i]then 1 else Dd (some x[i]) (x.drop (i+1)):=by rw[h2,hd];rfl
  have X8:Wf x (i+1)=some x[i]:=Ge h;refine Xi (AY x[i]) (Yi (Yi (Nn i) (by simp[hg])) (Yi rfl ?_));refine Yi (Nz rfl) (Yi (Nz rfl) (Yi (Nz rfl) ?_));refine Xi .pure (Xi _ (Yi (hc) ?_));refine Xi ⟨[(1,.ref 1 0),(3,vi i),(4,.ref 4 0),(5,vi (De x[i])),(12,sl AY x),(13,vi (x.map AY).length),(14,vi i)],[(1,.cells (Ic x ifs)),(4,.cells (AY x[i]))],Aa⟩ (Yi ⟨Z7,Z2,Fh,Tv⟩ ?_)
  refine Yi ?_ ?_
  ·intro h4;have h4:De x[i]≠0:=h4;exact .of_eq (Ac vi (show De x[i]=Ba x by rw[Ok,GY,Ax h4]))
  intro h4;have h4:¬De x[i]≠0:=h4;refine Xi ⟨[(1,.ref 1 0),(3,vi i),(4,.ref 4 0),(12,sl AY x),(13,vi (x.map AY).length),(14,vi i)],[(1,.cells (Ic x ifs)),(4,.cells (AY x[i]))],Aa⟩ (Yi ⟨Z6,Z2,Fh,Tv⟩ ?_)
  refine Yi ?_ ?_
  ·intro h5;have h5:(i:Int)=0:=h5;have h6:i=0:=by omega
   refine Yi (Ii i (by omega)) ?_;refine Xi ⟨i+1,by omega,by rw[GY,Aq h4,X8];subst h6;rfl⟩ ?_;exact⟨Dl x.length i (by omega),Z4,Z1,Fh,Tv⟩
  intro h5;have h5:¬(i:Int)=0:=h5;have mZ:i-1<x.length:=by omega
  have hb:Wf x i=some x[i-1]:=by
   obtain⟨k,rfl⟩:∃k,i=k+1:=⟨i-1,by omega⟩;exact Ge (by omega)
  have oN:Dd none x=if FF x[i-1]=FF x[i]then 5 else if 0<IA x[i-1] x[i]then 1 else Dd (some x[i]) (x.drop (i+1)):=by rw[GY,Aq h4,hb]
  refine Yi (by show A9 ((i:Int)-1);unfold A9;omega) ?_;have RP:(x.map AY)[((i:Int)-1).toNat]?=some (AY x[i-1]):=by rw[show((i:Int)-1).toNat=i-1 by omega];exact Cg (Ge mZ)
  refine Xi (AY x[i-1]) (Yi (Yi (by show(0:Int)≤(i:Int)-1;omega) RP) (Yi rfl ?_));refine Yi (Nz rfl) (Yi (Nz rfl) ?_);refine Xi ⟨[(1,.ref 1 0),(4,.ref 4 0),(6,.ref 6 0),(12,sl AY x),(13,vi (x.map AY).length),(14,vi i)],[(1,.cells (Ic x ifs)),(4,.cells (AY x[i])),(6,.cells (AY x[i-1]))],Aa⟩ (Yi ⟨Z6,Z3,Fh,Tv⟩ ?_)
  refine Yi (Nz rfl) ?_;refine Xi _ (Yi (nR x[i-1]) ?_);refine Yi (Nz rfl) ?_;refine Xi _ (Yi (nR x[i]) ?_);refine Yi ?_ ?_
  ·intro h6;refine Yi (by kernel_rfl) ?_;have e:(5:Int)=Ba x:=by rw[Ok,oN,Ax (pd ⟨h6.1,h6.2.1,h6.2.2.1,h6.2.2.2.1⟩)]
   exact .of_eq (Ac vi e)
  intro h6;refine Yi (by kernel_rfl) ?_;have h7:¬FF x[i-1]=FF x[i]:=fun e=>by
   have e:=Vt e;exact h6 ⟨e.1,e.2.1,e.2.2.1,e.2.2.2,trivial⟩
  refine Xi ⟨[(1,.ref 1 0),(4,.ref 4 0),(6,.ref 6 0),(12,sl AY x),(13,vi (x.map AY).length),(14,vi i)],[(1,.cells (Ic x ifs)),(4,.cells (AY x[i])),(6,.cells (AY x[i-1]))],Aa⟩ (Yi ⟨Z6,Z3,Fh,Tv⟩ ?_)
  refine Yi (Nz rfl) (Yi (Nz rfl) ?_);refine Xi .pure (Xi _ (Yi (uN x[i-1] x[i]) ?_));refine Yi ?_ ?_
  ·intro h8;have h8:(0:Int)<IA x[i-1] x[i]:=h8;have e:(1:Int)=Ba x:=by rw[Ok,oN,Aq h7,Ax h8]
   exact .of_eq (Ac vi e)
  ·intro h8;have h8:¬(0:Int)<IA x[i-1] x[i]:=h8;refine Yi (Ii i (by omega)) ?_;refine Xi ⟨i+1,by omega,by rw[oN,Aq h7,Aq h8,X8]⟩ ?_;exact⟨Dl x.length i (by omega),Z4,Z1,Fh,Tv⟩
 ·intro h;have h:¬(i:Int)<(x.map AY).length:=h;have h:¬i<x.length:=by simpa using h
  have e:(0:Int)=Ba x:=by rw[Ok,h2,Hv (by omega)];rfl
  exact .of_eq (Ac vi e)
end Go.Eng

namespace Go.Eng
open Go.Proofs
end Go.Eng

namespace Go.Eng
open Go.Proofs
abbrev vc(c:UInt8):AV:=.v (.int .u8 c.toNat)
theorem VW(a:UInt8)(n:Nat)(h:n<256):decide (UInt8.ofNat n≤a)=decide ((n:Int)≤(a.toNat:Int)):=by
 rw[B3,AD,AD,LH,show(UInt8.ofNat n).toNat=n by simp;omega];omega
theorem VV(a:UInt8)(n:Nat)(h:n<256):decide (a≤UInt8.ofNat n)=decide ((a.toNat:Int)≤(n:Int)):=by
 rw[B3,AD,AD,LH,show(UInt8.ofNat n).toNat=n by simp;omega];omega
theorem nZ(c:UInt8):PC 245 [vc c] (vb (EJ c)):=by
 refine Ps EP Tryz.func245 rfl (Nz rfl) ?_;have e1:decide ((97:UInt8)≤c)=decide ((97:Int)≤(c.toNat:Int)):=VW c 97 (by decide);have e2:decide (c≤(122:UInt8))=decide ((c.toNat:Int)≤(122:Int)):=VV c 122 (by decide);have es:EJ c=(decide ((97:Int)≤(c.toNat:Int))&&decide ((c.toNat:Int)≤(122:Int))):=by unfold EJ;rw[e1,e2]
 refine Yi ?_ ?_
 ·intro h;have h:(97:Int)≤(c.toNat:Int):=h;refine Yi ?_ ?_
  ·intro h2;have h2:(c.toNat:Int)≤122:=h2;exact .of_eq (Ac vb (show true=EJ c by rw[es,Av h,Av h2];rfl))
  ·intro h2;have h2:¬(c.toNat:Int)≤122:=h2;exact .of_eq (Ac vb (show false=EJ c by rw[es,Au h2,Ct]))
 ·intro h;have h:¬(97:Int)≤(c.toNat:Int):=h;exact .of_eq (Ac vb (show false=EJ c by rw[es,Au h];rfl))
theorem n6(c:UInt8):PC 246 [vc c] (vb (CE c)):=by
 refine Ps EP Tryz.func246 rfl (Nz rfl) ?_;have e1:decide ((48:UInt8)≤c)=decide ((48:Int)≤(c.toNat:Int)):=VW c 48 (by decide);have e2:decide (c≤(57:UInt8))=decide ((c.toNat:Int)≤(57:Int)):=VV c 57 (by decide);have es:CE c=(decide ((48:Int)≤(c.toNat:Int))&&decide ((c.toNat:Int)≤(57:Int))):=by unfold CE;rw[e1,e2]
 refine Yi ?_ ?_
 ·intro h;have h:(48:Int)≤(c.toNat:Int):=h;refine Yi ?_ ?_
  ·intro h2;have h2:(c.toNat:Int)≤57:=h2;exact .of_eq (Ac vb (show true=CE c by rw[es,Av h,Av h2];rfl))
  ·intro h2;have h2:¬(c.toNat:Int)≤57:=h2;exact .of_eq (Ac vb (show false=CE c by rw[es,Au h2,Ct]))
 ·intro h;have h:¬(48:Int)≤(c.toNat:Int):=h;exact .of_eq (Ac vb (show false=CE c by rw[es,Au h];rfl))
theorem vN(c:UInt8):PC 291 [vc c] (vb (Mb c)):=by
 refine Ps EP Tryz.func291 rfl (Nz rfl) ?_;have e1:decide ((65:UInt8)≤c)=decide ((65:Int)≤(c.toNat:Int)):=VW c 65 (by decide);have e2:decide (c≤(90:UInt8))=decide ((c.toNat:Int)≤(90:Int)):=VV c 90 (by decide);have es:Mb c=(decide ((65:Int)≤(c.toNat:Int))&&decide ((c.toNat:Int)≤(90:Int))):=by unfold Mb;rw[e1,e2]
 refine Yi ?_ ?_
 ·intro h;have h:(65:Int)≤(c.toNat:Int):=h;refine Yi ?_ ?_
  ·intro h2;have h2:(c.toNat:Int)≤90:=h2;exact .of_eq (Ac vb (show true=Mb c by rw[es,Av h,Av h2];rfl))
  ·intro h2;have h2:¬(c.toNat:Int)≤90:=h2;exact .of_eq (Ac vb (show false=Mb c by rw[es,Au h2,Ct]))
 ·intro h;have h:¬(65:Int)≤(c.toNat:Int):=h;exact .of_eq (Ac vb (show false=Mb c by rw[es,Au h];rfl))
abbrev Nk(c:UInt8):Bool:=EJ c||CE c
theorem vB(c:UInt8):PC 244 [vc c] (vb (Nk c)):=by
 have h1:=nZ c;have h2:=n6 c;rcases Bt (EJ c)with e | e
 ·rw[e]at h1;refine Ps EP Tryz.func244 rfl (Nz rfl) ?_;refine Xi .pure (Xi _ (Yi (h1) ?_));exact .of_eq (Ac vb (show true=Nk c by unfold Nk;rw[e];rfl))
 ·rw[e]at h1;refine Ps EP Tryz.func244 rfl (Nz rfl) ?_;refine Xi .pure (Xi _ (Yi (h1) ?_));refine Xi .pure (Xi _ (Yi (h2) ?_));exact .of_eq (Ac vb (show CE c=Nk c by unfold Nk;rw[e];rfl))
theorem vI(c:UInt8):PC 268 [vc c] (vb (FY c)):=by
 have h1:=nZ c;have h2:=vN c;have h3:=n6 c;have ew:FY c=(EJ c||Mb c||CE c||decide (c=95)):=rfl;rcases Bt (EJ c)with e | e
 ·rw[e]at h1;refine Ps EP Tryz.func268 rfl (Nz rfl) ?_;refine Xi .pure (Xi _ (Yi (h1) ?_));exact .of_eq (Ac vb (show true=FY c by rw[ew,e];rfl))
 rw[e]at h1;rcases Bt (Mb c)with e2 | e2
 ·rw[e2]at h2;refine Ps EP Tryz.func268 rfl (Nz rfl) ?_;refine Xi .pure (Xi _ (Yi (h1) ?_));refine Xi .pure (Xi _ (Yi (h2) ?_));exact .of_eq (Ac vb (show true=FY c by rw[ew,e,e2];rfl))
 rw[e2]at h2;rcases Bt (CE c)with e3 | e3
 ·rw[e3]at h3;refine Ps EP Tryz.func268 rfl (Nz rfl) ?_;refine Xi .pure (Xi _ (Yi (h1) ?_));refine Xi .pure (Xi _ (Yi (h2) ?_));refine Xi .pure (Xi _ (Yi (h3) ?_));exact .of_eq (Ac vb (show true=FY c by rw[ew,e,e2,e3];rfl))
 rw[e3]at h3;refine Ps EP Tryz.func268 rfl (Nz rfl) ?_;refine Xi .pure (Xi _ (Yi (h1) ?_));refine Xi .pure (Xi _ (Yi (h2) ?_));refine Xi .pure (Xi _ (Yi (h3) ?_));have eb:decide (c=95)=decide ((c.toNat:Int)=95):=by
  rw[B3,AD,AD];constructor
  ·intro h;subst h;rfl
  ·intro h;exact Gw.1 (by show c.toNat=95;omega)
 refine Yi ?_ ?_
 ·intro h;have h:(c.toNat:Int)=95:=h;exact .of_eq (Ac vb (show true=FY c by rw[ew,e,e2,e3,eb,Av h];rfl))
 ·intro h;have h:¬(c.toNat:Int)=95:=h;exact .of_eq (Ac vb (show false=FY c by rw[ew,e,e2,e3,eb,Au h];rfl))
theorem MJ(s:ByteArray)(i:Nat)(h:i<s.data.toList.length):s.data[i]?=some s.data.toList[i]:=by
 rw[←AO];exact Ge h
theorem nY(s:ByteArray)(f:Nat)(q:UInt8→Bool)(hf:∀c,PC f [vc c] (vb (q c)))(hs:s.data.toList.length<4611686018427387904):PC 243 [vs s,.v (Uw f)] (vb (s.data.toList.all q)):=by
 have En:s.size=s.data.toList.length:=by simp
 refine Ps EP Tryz.func243 rfl (Nz rfl) ?_;refine Xi {i:Nat // i≤s.data.toList.length∧∀j (hj:j<s.data.toList.length),j<i→q s.data.toList[j]=true} (Xi (fun i=>⟨[(0,vs s),(1,.v (Uw f)),(7,vi s.size),(8,vi i.1)],[],Aa⟩) (Xi (fun i=>s.data.toList.length-i.1) (Yi (Xi ⟨0,AL _,fun j _ h=>by omega⟩ ?_) ?_)))
 ·exact⟨Z4,Tv,Fh,Tv⟩
 intro⟨i,h1,h2⟩;refine Yi ?_ ?_
 ·intro h;have h:(i:Int)<(s.size:Nat):=h;have h:i<s.data.toList.length:=by omega
  refine Xi s.data.toList[i] (Yi ⟨by show(0:Int)≤i;omega,by show s.data[((i:Nat):Int).toNat]?=_;rw[AX];exact MJ s i h⟩ ?_);have hc:=hf s.data.toList[i];refine BO (Bt (q s.data.toList[i])) (fun e=>?_) (fun e=>?_)
  ·rw[e]at hc;refine Xi .pure (Xi _ (Yi (hc) ?_));refine Yi (Ii i (by omega)) ?_;refine Xi ⟨i+1,by omega,fun j hj IL=>?_⟩ ?_
   ·rcases BZ j i with z | z
    ·exact h2 j hj z
    ·have:j=i:=by omega
     subst this;exact e
   ·exact⟨Dl s.data.toList.length i (by omega),Z4,Tv,Fh,Tv⟩
  ·rw[e]at hc;refine Xi .pure (Xi _ (Yi (hc) ?_));have er:s.data.toList.all q=false:=by
    rw[AI];intro ha
    have:=AW.1 ha _ (Am h)
    rw[e]at this;cases this
   exact .of_eq (Ac vb er.symm)
 ·intro h;have h:¬(i:Int)<(s.size:Nat):=h;have er:s.data.toList.all q=true:=AW.2 fun c hc=>by
   obtain⟨j,hj,rfl⟩:=B1 hc;exact h2 j hj (by omega)
  exact .of_eq (Ac vb er.symm)
end Go.Eng

namespace Go.Proofs
open Go.Shelf
def Tryz.laySplit_ren:Go.Shelf.Ren:=⟨fun | 146=>240 | 221=>266 | 268=>287 | 138=>288 | 143=>289 | 195=>309 | 197=>310 | 218=>311 | 219=>312 | 260=>319 | 217=>320 | 225=>321 | 224=>322 | 267=>323 | 266=>326 | 314=>327 | n=>n,fun | 9=>9 | 31=>52 | 3=>3 | 4=>4 | 0=>0 | 105=>318 | 21=>21 | 5=>5 | 46=>155 | 119=>325 | 139=>328 | 138=>327 | 146=>294 | 51=>221 | n=>n,fun | 1=>0 | 3=>1 | 4=>2 | n=>n⟩
theorem Tryz.laySplit:Go.Proofs.Lays.n146 Tryz.prog Tryz.laySplit_ren:={
 mixed:=by kernel_rfl
 f138:=Tryz.func288.trans (congrArg some (by kernel_rfl))
 f143:=Tryz.func289.trans (congrArg some (by kernel_rfl))
 f146:=Tryz.func240.trans (congrArg some (by kernel_rfl))
 f195:=Tryz.func309.trans (congrArg some (by kernel_rfl))
 f197:=Tryz.func310.trans (congrArg some (by kernel_rfl))
 f217:=Tryz.func320.trans (congrArg some (by kernel_rfl))
 f218:=Tryz.func311.trans (congrArg some (by kernel_rfl))
 f219:=Tryz.func312.trans (congrArg some (by kernel_rfl))
 f221:=Tryz.func266.trans (congrArg some (by kernel_rfl))
 f224:=Tryz.func322.trans (congrArg some (by kernel_rfl))
 f225:=Tryz.func321.trans (congrArg some (by kernel_rfl))
 f260:=Tryz.func319.trans (congrArg some (by kernel_rfl))
 f266:=Tryz.func326.trans (congrArg some (by kernel_rfl))
 f267:=Tryz.func323.trans (congrArg some (by kernel_rfl))
 f268:=Tryz.func287.trans (congrArg some (by kernel_rfl))
 f314:=Tryz.func327.trans (congrArg some (by kernel_rfl))
 t0:=Tryz.underlying0
 a0:=Tryz.isAgg0
 z0:=Tryz.sizeOf0
 v0:=Tryz.zeroValue0
 t3:=Tryz.underlying3
 a3:=Tryz.isAgg3
 z3:=Tryz.sizeOf3
 v3:=Tryz.zeroValue3
 t4:=Tryz.underlying4
 a4:=Tryz.isAgg4
 z4:=Tryz.sizeOf4
 v4:=Tryz.zeroValue4
 t5:=Tryz.underlying5
 a5:=Tryz.isAgg5
 z5:=Tryz.sizeOf5
 v5:=Tryz.zeroValue5
 t9:=Tryz.underlying9
 a9:=Tryz.isAgg9
 z9:=Tryz.sizeOf9
 v9:=Tryz.zeroValue9
 t21:=Tryz.underlying21
 a21:=Tryz.isAgg21
 z21:=Tryz.sizeOf21
 v21:=Tryz.zeroValue21
 t31:=Tryz.underlying52
 a31:=Tryz.isAgg52
 z31:=Tryz.sizeOf52
 v31:=Tryz.zeroValue52
 t46:=Tryz.underlying155
 a46:=Tryz.isAgg155
 z46:=Tryz.sizeOf155
 v46:=Tryz.zeroValue155
 t51:=Tryz.underlying221
 a51:=Tryz.isAgg221
 z51:=Tryz.sizeOf221
 v51:=Tryz.zeroValue221
 t105:=Tryz.underlying318
 a105:=Tryz.isAgg318
 z105:=Tryz.sizeOf318
 v105:=Tryz.zeroValue318
 t119:=Tryz.underlying325
 a119:=Tryz.isAgg325
 z119:=Tryz.sizeOf325
 t138:=Tryz.underlying327
 a138:=Tryz.isAgg327
 z138:=Tryz.sizeOf327
 v138:=Tryz.zeroValue327
 t139:=Tryz.underlying328
 a139:=Tryz.isAgg328
 z139:=Tryz.sizeOf328
 v139:=Tryz.zeroValue328
 t146:=Tryz.underlying294
 a146:=Tryz.isAgg294
 z146:=Tryz.sizeOf294
 v146:=Tryz.zeroValue294
 g1:=by kernel_rfl
 g3:=by kernel_rfl
 g4:=by kernel_rfl }
def Tryz.layLast_ren:Go.Shelf.Ren:=⟨fun | 148=>213 | 222=>247 | 223=>248 | 269=>270 | n=>n,fun | 9=>9 | 3=>3 | 4=>4 | 5=>5 | 146=>294 | 51=>221 | 46=>155 | n=>n,fun | n=>n⟩
theorem Tryz.layLast:Go.Proofs.Lays.n148 Tryz.prog Tryz.layLast_ren:={
 mixed:=by kernel_rfl
 f148:=Tryz.func213.trans (congrArg some (by kernel_rfl))
 f222:=Tryz.func247.trans (congrArg some (by kernel_rfl))
 f223:=Tryz.func248.trans (congrArg some (by kernel_rfl))
 f269:=Tryz.func270.trans (congrArg some (by kernel_rfl))
 t3:=Tryz.underlying3
 a3:=Tryz.isAgg3
 z3:=Tryz.sizeOf3
 v3:=Tryz.zeroValue3
 t4:=Tryz.underlying4
 a4:=Tryz.isAgg4
 z4:=Tryz.sizeOf4
 v4:=Tryz.zeroValue4
 t5:=Tryz.underlying5
 a5:=Tryz.isAgg5
 z5:=Tryz.sizeOf5
 v5:=Tryz.zeroValue5
 t9:=Tryz.underlying9
 a9:=Tryz.isAgg9
 z9:=Tryz.sizeOf9
 v9:=Tryz.zeroValue9
 t46:=Tryz.underlying155
 a46:=Tryz.isAgg155
 z46:=Tryz.sizeOf155
 v46:=Tryz.zeroValue155
 t51:=Tryz.underlying221
 a51:=Tryz.isAgg221
 z51:=Tryz.sizeOf221
 v51:=Tryz.zeroValue221
 t146:=Tryz.underlying294
 a146:=Tryz.isAgg294
 z146:=Tryz.sizeOf294
 v146:=Tryz.zeroValue294 }
def Tryz.layCut_ren:Go.Shelf.Ren:=⟨fun | 103=>267 | 210=>290 | 206=>313 | n=>n,fun | 9=>9 | 4=>4 | 24=>128 | 3=>3 | n=>n,fun | n=>n⟩
theorem Tryz.layCut:Go.Proofs.Lays.n103 Tryz.prog Tryz.layCut_ren:={
 mixed:=by kernel_rfl
 f103:=Tryz.func267.trans (congrArg some (by kernel_rfl))
 f206:=Tryz.func313.trans (congrArg some (by kernel_rfl))
 f210:=Tryz.func290.trans (congrArg some (by kernel_rfl))
 t3:=Tryz.underlying3
 a3:=Tryz.isAgg3
 z3:=Tryz.sizeOf3
 v3:=Tryz.zeroValue3
 t4:=Tryz.underlying4
 a4:=Tryz.isAgg4
 z4:=Tryz.sizeOf4
 v4:=Tryz.zeroValue4
 t9:=Tryz.underlying9
 a9:=Tryz.isAgg9
 z9:=Tryz.sizeOf9
 v9:=Tryz.zeroValue9
 t24:=Tryz.underlying128
 a24:=Tryz.isAgg128
 z24:=Tryz.sizeOf128
 v24:=Tryz.zeroValue128 }
def Tryz.layCont_ren:Go.Shelf.Ren:=⟨fun | 144=>292 | 143=>289 | 219=>312 | 217=>320 | 225=>321 | 224=>322 | 267=>323 | 266=>326 | 314=>327 | n=>n,fun | 9=>9 | 4=>4 | 3=>3 | 5=>5 | 46=>155 | 146=>294 | 51=>221 | n=>n,fun | 1=>0 | n=>n⟩
theorem Tryz.layCont:Go.Proofs.Lays.n144 Tryz.prog Tryz.layCont_ren:={
 mixed:=by kernel_rfl
 f143:=Tryz.func289.trans (congrArg some (by kernel_rfl))
 f144:=Tryz.func292.trans (congrArg some (by kernel_rfl))
 f217:=Tryz.func320.trans (congrArg some (by kernel_rfl))
 f219:=Tryz.func312.trans (congrArg some (by kernel_rfl))
 f224:=Tryz.func322.trans (congrArg some (by kernel_rfl))
 f225:=Tryz.func321.trans (congrArg some (by kernel_rfl))
 f266:=Tryz.func326.trans (congrArg some (by kernel_rfl))
 f267:=Tryz.func323.trans (congrArg some (by kernel_rfl))
 f314:=Tryz.func327.trans (congrArg some (by kernel_rfl))
 t3:=Tryz.underlying3
 a3:=Tryz.isAgg3
 z3:=Tryz.sizeOf3
 v3:=Tryz.zeroValue3
 t4:=Tryz.underlying4
 a4:=Tryz.isAgg4
 z4:=Tryz.sizeOf4
 v4:=Tryz.zeroValue4
 t5:=Tryz.underlying5
 a5:=Tryz.isAgg5
 z5:=Tryz.sizeOf5
 v5:=Tryz.zeroValue5
 t9:=Tryz.underlying9
 a9:=Tryz.isAgg9
 z9:=Tryz.sizeOf9
 v9:=Tryz.zeroValue9
 t46:=Tryz.underlying155
 a46:=Tryz.isAgg155
 z46:=Tryz.sizeOf155
 v46:=Tryz.zeroValue155
 t51:=Tryz.underlying221
 a51:=Tryz.isAgg221
 z51:=Tryz.sizeOf221
 v51:=Tryz.zeroValue221
 t146:=Tryz.underlying294
 a146:=Tryz.isAgg294
 z146:=Tryz.sizeOf294
 v146:=Tryz.zeroValue294
 g1:=by kernel_rfl }
end Go.Proofs

namespace Go.Eng
open Go.Proofs
abbrev Zk:ByteArray:=⟨#[47]⟩
abbrev BL(s:ByteArray):List ByteArray:=Go.Lib.splitB Zk 0 (Go.Lib.countB s Zk) s
theorem Pf(s:ByteArray):(BL s).map (·.data.toList)=CT 47 s.data.toList:=ek s 47
abbrev EK(s:ByteArray):List AV:=[vs s]
theorem qX(s:ByteArray)(hs:F3 s):PC 240 [vs s,vs Zk] (sl EK (BL s)):=by
 unfold F3 at hs;have h:=dY (P:=Tryz.prog) (f:=240) (args:=[vs s,vs Zk]) [.string s,.string Zk] ((BL s).map Value.string) 9 (fY 240 Tryz.func240 (by kernel_rfl) rfl) rfl (fun x hx=>by
  obtain⟨y,_,rfl⟩:=Ar.1 hx;rfl) (fun w hm=>by
  obtain⟨m,hm⟩:=hm;have hl:(BL s).length=Go.Lib.countB s Zk+1:=Go.Lib.splitB_all Zk (by decide) 0 _ s rfl;refine(Any.strings_Split Tryz.laySplit (by kernel_rfl) s Zk m w (by omega) hm (by decide)).mono ?_
  rintro e w' ⟨rfl,rfl⟩
  exact⟨by rw[Lm,hl],rfl⟩)
 rw[BY]at h;exact h
theorem vl(s p:ByteArray)(hs:F3 s):PC 213 [vs s,vs p] (vi (Go.Lib.lastIndex s.data.toList p.data.toList)):=by
 unfold F3 at hs;exact Lx [.string s,.string p] (.int .i64 (Go.Lib.lastIndex s.data.toList p.data.toList)) (fY 213 Tryz.func213 (by kernel_rfl) rfl) rfl (fun g w=>.v _ _) fun w _=>Any.strings_LastIndex Tryz.layLast s p (by omega) w
theorem vG(s p:ByteArray):PC 267 [vs s,vs p] (.tup [vs ⟨(Go.Lib.trimPrefix s.data.toList p.data.toList).toArray⟩,vb (Go.Lib.hasPrefix s.data.toList p.data.toList)]):=by
 exact Lx [.string s,.string p] _ (fY 267 Tryz.func267 (by kernel_rfl) rfl) rfl (fun g w=>jl [.string ⟨(Go.Lib.trimPrefix s.data.toList p.data.toList).toArray⟩,.bool (Go.Lib.hasPrefix s.data.toList p.data.toList)]) fun w _=>Any.strings_CutPrefix Tryz.layCut s p w
theorem vO(s p:ByteArray)(hs:F3 s):PC 292 [vs s,vs p] (vb (Go.Lib.contains s.data.toList p.data.toList)):=by
 unfold F3 at hs;exact Lx [.string s,.string p] (.bool (Go.Lib.contains s.data.toList p.data.toList)) (fY 292 Tryz.func292 (by kernel_rfl) rfl) rfl (fun g w=>.v _ _) fun w hm=>by
  obtain⟨m,hm⟩:=hm;exact Any.strings_Contains Tryz.layCont s p m w (by omega) hm
end Go.Eng

namespace Go.Eng
open Go.Proofs
theorem bJ:∀x y:List UInt8,Ni x y=x.isPrefixOf y
 | [],_=>by simp[Ni]
 |_::_,[]=>rfl
 |a::x,b::y=>by
  rw[Ni,List.isPrefixOf_cons_cons,bJ x y]
  rfl
theorem ii(x:List UInt8):∀y:List UInt8,ig x y=Go.Lib.contains y x
 | []=>by
  unfold Go.Lib.contains Go.Lib.index;cases x<;>rfl
 |b::y=>by
  rw[ig,bJ,ii x y];unfold Go.Lib.contains;have hg:=Go.Lib.index_ge y x
  conv=>rhs;unfold Go.Lib.index
  cases h:x.isPrefixOf (b::y)with
  |true=>simp
  |false =>
   simp only[Js,Df,Gc]
   by_cases h0:Go.Lib.index y x=-1
   ·rw[h0];rfl
   ·have h1:(Go.Lib.index y x == -1)=false:=by simpa using h0
    rw[h1];simp only[Df,Gc];rw[Av (by omega),Av (by omega)]
theorem NV:∀(l:List UInt8) (h:0<l.length),l.headD 0=l[0]
 | [],h=>by simp at h
 |_::_,_=>rfl
abbrev ni:ByteArray:=⟨⟨ZV⟩⟩
theorem vJ(s:ByteArray)(hs:F3 s):PC 269 [vs s] (vb (UK s.data.toList)):=by
 unfold F3 at hs;have hc:=vO ni ((⟨#[32]⟩++s)++⟨#[32]⟩) (Gf (by kernel_rfl));have e:Go.Lib.contains ni.data.toList ((⟨#[32]⟩++s:ByteArray)++⟨#[32]⟩).data.toList=UK s.data.toList:=by
  unfold UK;rw[ii]
  congr 1
 rw[e]at hc;refine Ps EP Tryz.func269 rfl (Nz rfl) ?_;refine Yi (by show(((1+s.size:Nat)):Int)≤_;omega) ?_;refine Yi (by show(((⟨#[32]⟩++s:ByteArray).size+1:Nat):Int)≤_;rw[ByteArray.size_append];show(((1+s.size)+1:Nat):Int)≤_;omega) ?_;refine Xi .pure (Xi _ (Yi (hc) ?_));exact .refl _
theorem vA(s:ByteArray)(hs:F3 s):PC 242 [vs s] (vb (Gp s.data.toList)):=by
 have hk:=vJ s hs;have hw:=nY s 268 FY vI (by unfold F3 at hs;simp;omega);have En:s.size=s.data.toList.length:=by simp
 have en:Gp s.data.toList=(!s.data.toList.isEmpty&&decide (s.data.toList.length≤32)&&EJ (s.data.toList.headD 0)&&s.data.toList.all FY&&!UK s.data.toList):=rfl
 by_cases h0:s=⟨#[]⟩
 ·subst h0;refine Ps EP Tryz.func242 rfl (Nz rfl) ?_;refine Yi ?_ ?_
  ·intro h;exact absurd rfl (show(⟨#[]⟩:ByteArray)≠⟨#[]⟩from h)
  ·intro _;exact .refl _
 have zr : s.data.toList≠[]:=fun e=>h0 (by
  have:s.data=#[]:=by rw[←LT];exact e
  cases s;simp_all)
 have CW:0<s.data.toList.length:=GX.2 zr;have PU:s.data.toList.isEmpty=false:=by
  cases hl:s.data.toList with
  |nil=>exact absurd hl zr
  |cons a l=>rfl
 have zO:s.data.toList.headD 0=s.data.toList[0]:=NV _ CW;have ZR:=nZ s.data.toList[0];refine Ps EP Tryz.func242 rfl (Nz rfl) ?_;refine Yi ?_ ?_
 rotate_left
 ·intro h;exact absurd h0 h
 intro _;refine Yi ?_ ?_
 rotate_left
 ·intro h;have h:¬((s.size:Nat):Int)≤32:=h;exact .of_eq (Ac vb (show false=Gp s.data.toList by rw[en,Au (by omega:¬s.data.toList.length≤32)];simp))
 intro h;have h:((s.size:Nat):Int)≤32:=h;refine Xi s.data.toList[0] (Yi ⟨BF _,MJ s 0 CW⟩ ?_);refine BO (Bt (EJ s.data.toList[0])) (fun e1=>?_) (fun e1=>?_)
 rotate_left
 ·rw[e1]at ZR;refine Xi .pure (Xi _ (Yi (ZR) ?_));exact .of_eq (Ac vb (show false=Gp s.data.toList by rw[en,zO,e1];simp))
 rw[e1]at ZR;refine Xi .pure (Xi _ (Yi (ZR) ?_));refine BO (Bt (s.data.toList.all FY)) (fun e2=>?_) (fun e2=>?_)
 rotate_left
 ·rw[e2]at hw;refine Xi .pure (Xi _ (Yi (hw) ?_));exact .of_eq (Ac vb (show false=Gp s.data.toList by rw[en,e2];simp))
 rw[e2]at hw;refine Xi .pure (Xi _ (Yi (hw) ?_));have ef:Gp s.data.toList=!UK s.data.toList:=by rw[en,PU,zO,e1,e2,Av (by omega:s.data.toList.length≤32)];rfl
 refine BO (Bt (UK s.data.toList)) (fun e3=>?_) (fun e3=>?_)
 ·rw[e3]at hk;refine Xi .pure (Xi _ (Yi (hk) ?_));exact .of_eq (Ac vb (show false=Gp s.data.toList by rw[ef,e3];rfl))
 ·rw[e3]at hk;refine Xi .pure (Xi _ (Yi (hk) ?_));exact .of_eq (Ac vb (show true=Gp s.data.toList by rw[ef,e3];rfl))
end Go.Eng

namespace Go.Eng
open Go.Proofs
abbrev W6:Option Int→AV
 |some n=>.tup [vi n,vb true]
 |none=>.tup [vi 0,vb false]
theorem Sd{z:Int}(h0:0≤z)(h1:z<256):IntKind.u8.wrap z=z:=by
 show z % 256=z;omega
theorem Jg{c:UInt8}(h:CE c=true):48≤c.toNat∧c.toNat≤57:=by
 unfold CE at h;simp only[Af,AD]at h;exact⟨LH.1 h.1,LH.1 h.2⟩
theorem KW(r:List UInt8)(i:Nat)(h:i<r.length):D3 (r.take (i+1))=10*D3 (r.take i)+((r[i].toNat:Int)-48):=by
 unfold D3;rw[Bd,Ge h,Ky];rfl
theorem vz(s:ByteArray)(hs:F3 s):PC 241 [vs s] (W6 (Gn s.data.toList)):=by
 unfold F3 at hs;have hc:=vG s ⟨#[118]⟩
 by_cases hp:∃r,s.data.toList=118::r
 ·obtain⟨r,hr⟩:=hp;have e1:Go.Lib.hasPrefix s.data.toList (⟨#[118]⟩:ByteArray).data.toList=true:=by rw[hr];rfl
  have e2:Go.Lib.trimPrefix s.data.toList (⟨#[118]⟩:ByteArray).data.toList=r:=by unfold Go.Lib.trimPrefix;rw[e1,Ax rfl,hr];rfl
  rw[e1,e2]at hc;have hv:Gn s.data.toList=if(r.isEmpty||decide (3<r.length)||(decide (1<r.length)&&decide (r.headD 0=48))||!r.all CE)=true then none else some (D3 r):=by rw[hr];rfl
  have hrl:r.length<s.size:=by
   have:s.size=s.data.toList.length:=by simp
   rw[this,hr];simp
  generalize hB:(⟨r.toArray⟩:ByteArray)=rB at hc;have gz:rB.data.toList=r:=by rw[←hB]
  have rp:rB.size=r.length:=by rw[←hB];rfl
  have hw:=nY rB 246 CE n6 (by rw[gz];omega);rw[gz]at hw;have no:∀{b:Bool},b=true→(if b=true then none else some (D3 r))=(none:Option Int):=fun h=>Ax h;refine Ps (Ia [2,4]) Tryz.func241 rfl (Nz rfl) ?_;refine Xi .pure (Xi _ (Yi (hc) ?_));refine Xi ⟨[(0,vs rB),(4,vb true)],[],Aa⟩ (Yi ⟨Z2,Tv,Fh,Tv⟩ ?_)
  refine Yi ?_ ?_
  ·intro h;have h:rB=⟨#[]⟩:=h
   have:r=[]:=by rw[←gz,h]
   exact .of_eq (Ac W6 (show(none:Option Int)=Gn s.data.toList by rw[hv,this];rfl))
  intro h;have h:¬rB=⟨#[]⟩:=h;have DB:r≠[]:=fun e=>h (by rw[←hB,e]);have CW:0<r.length:=GX.2 DB;have PU:r.isEmpty=false:=by
   cases hl:r with
   |nil=>exact absurd hl DB
   |cons a l=>rfl
  refine Yi ?_ ?_
  ·intro h2;have h2:(3:Int)<((rB.size:Nat):Int):=h2;exact .of_eq (Ac W6 (show(none:Option Int)=Gn s.data.toList by rw[hv,no];rw[Av (by omega:3<r.length)];simp))
  intro h2;have h2:¬(3:Int)<((rB.size:Nat):Int):=h2;have lj:r.length≤3:=by omega
  have d3:decide (3<r.length)=false:=Au (by omega);refine Yi ?_ ?_
  ·intro h3;have h3:(1:Int)<((rB.size:Nat):Int):=h3;have wN:rB.data[(0:Int).toNat]?=some r[0]:=by
    show rB.data[0]?=_;rw[←AO,gz];exact Ge CW
   refine Xi r[0] (Yi ⟨BF _,wN⟩ ?_);have hh:=NV r CW;refine Yi ?_ ?_
   ·intro h4;have h4:(r[0].toNat:Int)=48:=h4
    have:r[0]=48:=Gw.1 (by show r[0].toNat=48;omega)
    exact .of_eq (Ac W6 (show(none:Option Int)=Gn s.data.toList by rw[hv,hh,this,Av (by omega:1<r.length)];simp))
   intro h4;have h4:¬(r[0].toNat:Int)=48:=h4;have eo:(decide (1<r.length)&&decide (r.headD 0=48))=false:=by rw[hh,Au (show ¬r[0]=48 from fun e=>h4 (by rw[e];rfl)),Ct]
   have sD:Gn s.data.toList=if(!r.all CE)=true then none else some (D3 r):=by rw[hv,PU,d3,eo];rfl
   refine BO (Bt (r.all CE)) (fun e3=>?_) (fun e3=>?_)
   rotate_left
   ·rw[e3]at hw;refine Xi .pure (Xi _ (Yi (hw) ?_));exact .of_eq (Ac W6 (show(none:Option Int)=Gn s.data.toList by rw[sD,e3];rfl))
   rw[e3]at hw;refine Xi .pure (Xi _ (Yi (hw) ?_));have xC:Gn s.data.toList=some (D3 r):=by rw[sD,e3];rfl
   refine Xi ⟨[(0,vs rB)],[],Aa⟩ (Yi ⟨Z1,Tv,Fh,Tv⟩ ?_)
   have z0:D3 (r.take 0)=0:=rfl;refine Xi {i:Nat // i≤r.length∧0≤D3 (r.take i)∧(i=0→D3 (r.take i)≤0)∧(i≤1→D3 (r.take i)≤9)∧(i≤2→D3 (r.take i)≤99)∧D3 (r.take i)≤999} (Xi (fun i=>⟨[(0,vs rB),(5,vi (D3 (r.take i.1))),(39,vi rB.size),(40,vi i.1)],[],Aa⟩) (Xi (fun i=>r.length-i.1) (Yi (Xi ⟨0,AL _,by omega,fun _=>by omega,fun _=>by omega,fun _=>by omega,by omega⟩ ?_) ?_)))
   ·exact⟨Z4,Tv,Fh,Tv⟩
   intro⟨i,i1,i2,i3,i4,i5,i6⟩;refine Yi ?_ ?_
   ·intro h;have h:(i:Int)<(rB.size:Nat):=h;have h:i<r.length:=by omega
    have wX:CE r[i]=true:=AW.1 e3 _ (Am h);have mY:=Jg wX;have bt:=KW r i h;have ZS:IntKind.u8.wrap ((r[i].toNat:Int)-48)=(r[i].toNat:Int)-48:=Sd (by omega) (by omega);have RA:rB.data[((i:Nat):Int).toNat]?=some r[i]:=by rw[AX,←AO,gz];exact Ge h
    refine Yi (by show A9 (10*D3 (r.take i));unfold A9;omega) ?_;refine Xi r[i] (Yi ⟨by show(0:Int)≤i;omega,RA⟩ ?_);refine Yi (by show A9 (IntKind.u8.wrap ((r[i].toNat:Int)-48));rw[ZS];unfold A9;omega) ?_;refine Yi (by show A9 (10*D3 (r.take i)+IntKind.u8.wrap ((r[i].toNat:Int)-48));rw[ZS];unfold A9;omega) ?_;refine Yi (Ii i (by omega)) ?_;have e5:vi (10*D3 (r.take i)+IntKind.u8.wrap ((r[i].toNat:Int)-48))=vi (D3 (r.take (i+1))):=by rw[ZS,bt]
    refine Xi ⟨i+1,by omega,by omega,fun _=>by omega,fun _=>by omega,fun _=>by omega,by omega⟩ ?_;exact⟨Dl r.length i (by omega),⟨Zr,⟨e5,rfl⟩,Zr,Zr,Tv⟩,Tv,Fh,Tv⟩
   ·intro h;have h:¬(i:Int)<(rB.size:Nat):=h;have e6:AV.tup [vi (D3 (r.take i)),vb true]=W6 (Gn s.data.toList):=by rw[xC,AC (by omega)]
    exact .of_eq e6
  ·intro h3;have h3:¬(1:Int)<((rB.size:Nat):Int):=h3;have eo:(decide (1<r.length)&&decide (r.headD 0=48))=false:=by rw[Au (by omega:¬1<r.length)];rfl
   have sD:Gn s.data.toList=if(!r.all CE)=true then none else some (D3 r):=by rw[hv,PU,d3,eo];rfl
   refine BO (Bt (r.all CE)) (fun e3=>?_) (fun e3=>?_)
   rotate_left
   ·rw[e3]at hw;refine Xi .pure (Xi _ (Yi (hw) ?_));exact .of_eq (Ac W6 (show(none:Option Int)=Gn s.data.toList by rw[sD,e3];rfl))
   rw[e3]at hw;refine Xi .pure (Xi _ (Yi (hw) ?_));have xC:Gn s.data.toList=some (D3 r):=by rw[sD,e3];rfl
   refine Xi ⟨[(0,vs rB)],[],Aa⟩ (Yi ⟨Z1,Tv,Fh,Tv⟩ ?_)
   have z0:D3 (r.take 0)=0:=rfl;refine Xi {i:Nat // i≤r.length∧0≤D3 (r.take i)∧(i=0→D3 (r.take i)≤0)∧(i≤1→D3 (r.take i)≤9)∧(i≤2→D3 (r.take i)≤99)∧D3 (r.take i)≤999} (Xi (fun i=>⟨[(0,vs rB),(5,vi (D3 (r.take i.1))),(39,vi rB.size),(40,vi i.1)],[],Aa⟩) (Xi (fun i=>r.length-i.1) (Yi (Xi ⟨0,AL _,by omega,fun _=>by omega,fun _=>by omega,fun _=>by omega,by omega⟩ ?_) ?_)))
   ·exact⟨Z4,Tv,Fh,Tv⟩
   intro⟨i,i1,i2,i3,i4,i5,i6⟩;refine Yi ?_ ?_
   ·intro h;have h:(i:Int)<(rB.size:Nat):=h;have h:i<r.length:=by omega
    have wX:CE r[i]=true:=AW.1 e3 _ (Am h);have mY:=Jg wX;have bt:=KW r i h;have ZS:IntKind.u8.wrap ((r[i].toNat:Int)-48)=(r[i].toNat:Int)-48:=Sd (by omega) (by omega);have RA:rB.data[((i:Nat):Int).toNat]?=some r[i]:=by rw[AX,←AO,gz];exact Ge h
    refine Yi (by show A9 (10*D3 (r.take i));unfold A9;omega) ?_;refine Xi r[i] (Yi ⟨by show(0:Int)≤i;omega,RA⟩ ?_);refine Yi (by show A9 (IntKind.u8.wrap ((r[i].toNat:Int)-48));rw[ZS];unfold A9;omega) ?_;refine Yi (by show A9 (10*D3 (r.take i)+IntKind.u8.wrap ((r[i].toNat:Int)-48));rw[ZS];unfold A9;omega) ?_;refine Yi (Ii i (by omega)) ?_;have e5:vi (10*D3 (r.take i)+IntKind.u8.wrap ((r[i].toNat:Int)-48))=vi (D3 (r.take (i+1))):=by rw[ZS,bt]
    refine Xi ⟨i+1,by omega,by omega,fun _=>by omega,fun _=>by omega,fun _=>by omega,by omega⟩ ?_;exact⟨Dl r.length i (by omega),⟨Zr,⟨e5,rfl⟩,Zr,Zr,Tv⟩,Tv,Fh,Tv⟩
   ·intro h;have h:¬(i:Int)<(rB.size:Nat):=h;have e6:AV.tup [vi (D3 (r.take i)),vb true]=W6 (Gn s.data.toList):=by rw[xC,AC (by omega)]
    exact .of_eq e6
 ·have e1:Go.Lib.hasPrefix s.data.toList (⟨#[118]⟩:ByteArray).data.toList=false:=by
   cases hl:s.data.toList with
   |nil=>rfl
   |cons a l =>
    have:a≠118:=fun e=>hp ⟨l,by rw[hl,e]⟩
    show(List.isPrefixOf [118] (a::l))=false;rw[List.isPrefixOf_cons_cons]
    have:((118:UInt8) == a)=false:=by rw[beq_eq_false_iff_ne];exact fun e=>this e.symm
    rw[this];rfl
  have hv:Gn s.data.toList=none:=by
   cases hl:s.data.toList with
   |nil=>rfl
   |cons a l =>
    have:a≠118:=fun e=>hp ⟨l,by rw[hl,e]⟩
    show(if a=118 then _ else none)=none;rw[Aq this]
  rw[e1]at hc;refine Ps EP Tryz.func241 rfl (Nz rfl) ?_;refine Xi .pure (Xi _ (Yi (hc) ?_));exact .of_eq (Ac W6 hv.symm)
end Go.Eng

namespace Go.Eng
open Go.Proofs
abbrev Qe:Option Int→AV
 |some n=>.tup [vi n,vi 0]
 |none=>.tup [vi 0,vi 4]
theorem LC(c:UInt8):∀(s x:List UInt8),x∈CT c s→x.length≤s.length
 | [],x,h=>by
  rw[CT]at h;rw[As.1 h];exact Ao _
 |b::r,x,h=>by
  have ih:=LC c r;rw[CT]at h;split at h
  ·rcases AF.1 h with rfl | h
   ·exact AL _
   ·have:=ih x h;rw[Aj];omega
  ·split at h
   ·rw[As.1 h];rw[Aj];simp
   ·rename_i y l e;rcases AF.1 h with rfl | h
    ·have:=ih y (by rw[e];exact Ab ..);rw[Aj,Aj];omega
    ·have:=ih x (by rw[e];exact Ai _ h);rw[Aj];omega
theorem i9{p x:ByteArray}(hp:F3 p)(hx:x∈BL p):F3 x:=by
 have h:x.data.toList∈CT 47 p.data.toList:=by rw[←Pf];exact Ar.2 ⟨x,hx,rfl⟩
 have:=LC 47 _ _ h
 unfold F3 at *
 have e1:x.size=x.data.toList.length:=by simp
 have e2:p.size=p.data.toList.length:=by simp
 omega
theorem dW(p:ByteArray):(BL p).length=(CT 47 p.data.toList).length:=by rw[←Pf,Lm]
theorem dX(p:ByteArray):0<(BL p).length:=by
 rw[show(BL p).length=Go.Lib.countB p Zk+1 from Go.Lib.splitB_all Zk (by decide) 0 _ p rfl];omega
theorem dV(p:ByteArray):(BL p).length≤p.size+1:=by
 rw[show(BL p).length=Go.Lib.countB p Zk+1 from Go.Lib.splitB_all Zk (by decide) 0 _ p rfl]
 have:=Go.Lib.countB_le Zk (by decide) p.size p (Ao _);omega
theorem am(p:ByteArray)(h:(BL p).length-1<(BL p).length):(CT 47 p.data.toList).getLastD []=((BL p)[(BL p).length-1]).data.toList:=by
 rw[←Pf,List.getLastD_eq_getLast?,List.getLast?_eq_getElem?,Lm,AJ,Ge h];rfl
theorem dU(p:ByteArray):(CT 47 p.data.toList).all G8=(BL p).all fun x=>G8 x.data.toList:=by
 rw[←Pf,List.all_map];rfl
theorem qT(p:ByteArray)(hp:F3 p):PC 211 [vs p] (Qe (By p)):=by
 have lu:=dV p;have ZP:=dX p;have xn:(BL p).length-1<(BL p).length:=by omega
 have En:p.size=p.data.toList.length:=by simp
 have zL:∀{x},x∈BL p→F3 x:=fun h=>i9 hp h;unfold F3 at hp;have RP:((BL p).map EK)[((((BL p).map EK).length:Int)-1).toNat]?=some (EK (BL p)[(BL p).length-1]):=by
  rw[Lm,show(((BL p).length:Int)-1).toNat=(BL p).length-1 by omega];exact Cg (Ge xn)
 have hv:=vz (BL p)[(BL p).length-1] (zL (Am xn));have em:By p=match Gn ((BL p)[(BL p).length-1]).data.toList with
  |none=>none
  |some n=>if(decide (64<p.data.toList.length)||decide ((BL p).length<2))=true then none else if((BL p).all fun x=>G8 x.data.toList)=true then some n else none:=by
  unfold By Qf;rw[am p xn,dU,←dW];cases Gn ((BL p)[(BL p).length-1]).data.toList with
  |none=>rfl
  |some n=>rfl
 cases hve:Gn ((BL p)[(BL p).length-1]).data.toList with
 |none =>
  rw[hve]at hv em;refine Ps (Ia [2,3]) Tryz.func211 rfl (Nz rfl) ?_;refine Xi .pure (Xi _ (Yi (qX p hp) ?_));refine Xi ⟨[(0,vs p),(4,sl EK (BL p))],[],Aa⟩ (Yi ⟨Z2,Tv,Fh,Tv⟩ ?_)
  refine Yi (by show A9 ((((BL p).map EK).length:Int)-1);unfold A9;rw[Lm];omega) ?_;refine Xi (EK (BL p)[(BL p).length-1]) (Yi (Yi (by show(0:Int)≤(((BL p).map EK).length:Int)-1;rw[Lm];omega) RP) (Yi rfl ?_));refine Xi .pure (Xi _ (Yi (hv) ?_));refine Xi ⟨[(0,vs p),(4,sl EK (BL p)),(5,vi 0),(6,vb false)],[],Aa⟩ (Yi ⟨Z4,Tv,Fh,Tv⟩ ?_)
  exact .of_eq (Ac Qe em.symm)
 |some n =>
  rw[hve]at hv em;have em:By p=if(decide (64<p.data.toList.length)||decide ((BL p).length<2))=true then none else if((BL p).all fun x=>G8 x.data.toList)=true then some n else none:=em
  refine Ps (Ia [2,3,5]) Tryz.func211 rfl (Nz rfl) ?_;refine Xi .pure (Xi _ (Yi (qX p hp) ?_));refine Xi ⟨[(0,vs p),(4,sl EK (BL p))],[],Aa⟩ (Yi ⟨Z2,Tv,Fh,Tv⟩ ?_)
  refine Yi (by show A9 ((((BL p).map EK).length:Int)-1);unfold A9;rw[Lm];omega) ?_;refine Xi (EK (BL p)[(BL p).length-1]) (Yi (Yi (by show(0:Int)≤(((BL p).map EK).length:Int)-1;rw[Lm];omega) RP) (Yi rfl ?_));refine Xi .pure (Xi _ (Yi (hv) ?_));refine Xi ⟨[(0,vs p),(4,sl EK (BL p)),(5,vi n),(6,vb true)],[],Aa⟩ (Yi ⟨Z4,Tv,Fh,Tv⟩ ?_)
  refine Yi ?_ ?_
  ·intro h;have h:(64:Int)<((p.size:Nat):Int):=h;exact .of_eq (Ac Qe (show(none:Option Int)=By p by rw[em,Av (by omega:64<p.data.toList.length)];rfl))
  intro h;have h:¬(64:Int)<((p.size:Nat):Int):=h;have d1:decide (64<p.data.toList.length)=false:=Au (by omega);refine Yi ?_ ?_
  ·intro h2;have h2:(((BL p).map EK).length:Int)<2:=h2;rw[Lm]at h2;exact .of_eq (Ac Qe (show(none:Option Int)=By p by rw[em,d1,Av (by omega:(BL p).length<2)];rfl))
  intro h2;have h2:¬(((BL p).map EK).length:Int)<2:=h2;have d2:decide ((BL p).length<2)=false:=Au (by rw[Lm]at h2;omega);have zo:By p=if((BL p).all fun x=>G8 x.data.toList)=true then some n else none:=by rw[em,d1,d2];rfl
  refine Xi ⟨[(4,sl EK (BL p)),(5,vi n)],[],Aa⟩ (Yi ⟨Z2,Tv,Fh,Tv⟩ ?_)
  refine Xi {i:Nat // i≤(BL p).length∧∀j (hj:j<(BL p).length),j<i→G8 ((BL p)[j]).data.toList=true} (Xi (fun i=>⟨[(5,vi n),(33,sl EK (BL p)),(34,vi ((BL p).map EK).length),(35,vi i.1)],[],Aa⟩) (Xi (fun i=>(BL p).length-i.1) (Yi (Xi ⟨0,AL _,fun j _ h=>by omega⟩ ?_) ?_)))
  ·exact⟨Z4,Tv,Fh,Tv⟩
  intro⟨i,i1,i2⟩;refine Yi ?_ ?_
  ·intro h;have h:(i:Int)<((BL p).map EK).length:=h;have h:i<(BL p).length:=by simpa using h
   have hg:(BL p)[i]?=some (BL p)[i]:=Ge h;refine Xi (EK (BL p)[i]) (Yi (Yi (Nn i) (by simp[hg])) (Yi rfl ?_));have zJ:=zL (Am h);have hn:=vA (BL p)[i] zJ;have ha:=nY (BL p)[i] 244 Nk vB (by unfold F3 at zJ;have e1:(BL p)[i].size=(BL p)[i].data.toList.length:=(by simp);omega);have no:G8 ((BL p)[i]).data.toList=false→(none:Option Int)=By p:=fun e=>by
    rw[zo,Aq];intro GM
    have:=AW.1 GM _ (Am h)
    rw[e]at this;cases this
   refine BO (Bt (Gp ((BL p)[i]).data.toList)) (fun e1=>?_) (fun e1=>?_)
   rotate_left
   ·rw[e1]at hn;refine Xi .pure (Xi _ (Yi (hn) ?_));exact .of_eq (Ac Qe (no (by unfold G8;rw[e1];rfl)))
   rw[e1]at hn;refine Xi .pure (Xi _ (Yi (hn) ?_));refine BO (Bt (((BL p)[i]).data.toList.all Nk)) (fun e2=>?_) (fun e2=>?_)
   rotate_left
   ·rw[e2]at ha;refine Xi .pure (Xi _ (Yi (ha) ?_));exact .of_eq (Ac Qe (no (by unfold G8;rw[e1];exact e2)))
   rw[e2]at ha;refine Xi .pure (Xi _ (Yi (ha) ?_));refine Yi (Ii i (by omega)) ?_;refine Xi ⟨i+1,by omega,fun j hj IL=>?_⟩ ?_
   ·rcases BZ j i with z | z
    ·exact i2 j hj z
    ·have:j=i:=by omega
     subst this;unfold G8;rw[e1];exact e2
   ·exact⟨by show(BL p).length-(i+1)<(BL p).length-i;omega,Z4,Tv,Fh,Tv⟩
  ·intro h;have h:¬(i:Int)<((BL p).map EK).length:=h;have h:¬i<(BL p).length:=by simpa using h
   have e:some n=By p:=by
    rw[zo,Ax];exact AW.2 fun x hx=>by
     obtain⟨j,hj,rfl⟩:=B1 hx;exact i2 j hj (by omega)
   exact .of_eq (Ac Qe e)
end Go.Eng

namespace Go.Eng
open Go.Proofs
theorem vh(p:ByteArray)(hp:F3 p):PC 212 [vs p] (vb (By p).isSome):=by
 have hc:=qT p hp;cases h:By p with
 |none =>
  rw[h]at hc;refine Ps EP Tryz.func212 rfl (Nz rfl) ?_;refine Xi .pure (Xi _ (Yi (hc) ?_));refine Yi ?_ ?_
  ·intro h;exact absurd (show(4:Int)=0 from h) (by decide)
  ·intro _;exact .refl _
 |some n =>
  rw[h]at hc;refine Ps EP Tryz.func212 rfl (Nz rfl) ?_;refine Xi .pure (Xi _ (Yi (hc) ?_));refine Yi ?_ ?_
  ·intro _;exact .refl _
  ·intro h;exact absurd rfl h
theorem Og(c:UInt8):∀s:List UInt8,2≤(CT c s).length→c∈s
 | [],h=>by rw[CT]at h;simp at h
 |b::r,h=>by
  rw[CT]at h
  by_cases e:b=c
  ·exact e▸Ab ..
  ·rw[Aq e]at h;refine Ai _ (Og c r ?_);cases hs:CT c r with
   |nil=>rw[hs]at h;simp at h
   |cons x l=>rw[hs]at h;simpa using h
theorem iq{p:ByteArray}{m:Int}(h:By p=some m):0≤Go.Lib.lastIndex p.data.toList [47]∧Go.Lib.lastIndex p.data.toList [47]≤p.size:=by
 have h2:2≤(CT 47 p.data.toList).length:=by
  unfold By Qf at h;split at h
  ·cases h
  ·split at h
   ·cases h
   ·rename_i hn;simp only[CU,AD]at hn;omega
 have hm:=Og 47 _ h2;obtain⟨i,hi,e⟩:=B1 hm;have En:p.size=p.data.toList.length:=by simp
 unfold Go.Lib.lastIndex;rw[Ax (by simp only[AB];omega)];have xi:Go.Lib.occAt p.data.toList [47] i=true:=by
  unfold Go.Lib.occAt;rw[Bl hi,e];simp
 rcases Go.Lib.lastOcc_spec p.data.toList [47] (p.data.toList.length - [(47:UInt8)].length+1)with ⟨_,h3⟩ | ⟨j,h3,h4,_⟩
 ·have:=h3 i (by simp only[AB];omega)
  rw[xi]at this;cases this
 ·rw[h4];simp only[AB]at h3;omega
abbrev WL(p:ByteArray):ByteArray:=p.extract 0 (Go.Lib.lastIndex p.data.toList [47]).toNat
theorem kw:Up WL:=by
 intro p hp;have hc:=qT p hp;have hi:=vh p hp;unfold TG;cases h:By p with
 |none =>
  rw[h]at hc hi;refine Ps EP Tryz.func163 rfl (Nz rfl) ?_;refine Xi .pure (Xi _ (Yi (hc) ?_));refine Xi .pure (Xi _ (Yi (hi) ?_));exact .refl _
 |some n =>
  rw[h]at hc hi;obtain⟨l1,l2⟩:=iq h;have hl:PC 213 [vs p,vs Zk] (vi (Go.Lib.lastIndex p.data.toList [47])):=vl p Zk hp;refine Ps EP Tryz.func163 rfl (Nz rfl) ?_;refine Xi .pure (Xi _ (Yi (hc) ?_));refine Xi .pure (Xi _ (Yi (hi) ?_));refine Yi ?_ ?_
  ·intro h;exact absurd rfl h
  intro _;refine Xi .pure (Xi _ (Yi (hl) ?_));refine Yi ⟨BF _,l1,l2⟩ ?_;exact .refl _
end Go.Eng

namespace Go.Eng
open Go.Proofs
end Go.Eng

namespace Go.Eng
open Go.Proofs
end Go.Eng

namespace Go.Eng
open Go.Proofs
theorem JJ{l:List Rq}(h:Bn l=0):l.length≤16:=by
 unfold Bn at h;split at h
 ·cases h
 ·omega
theorem Ls{x:List Rl}(h:Ba x=0):x.length≤256∧∀r∈x,r.reqs.length≤16:=by
 have h1:x.length≤256:=by
  unfold Ba at h;split at h
  ·cases h
  ·omega
 exact⟨h1,fun r hr=>JJ ((CQ h).1 r hr).reqs⟩
theorem gc{x:List Rl}(h:∀r∈x,r.reqs.length≤16):((x.map (·.reqs)).flatten).length≤x.length*16:=by
 induction x with
 |nil=>simp
 |cons r x ih =>
  rw[AN,Bu,Ad,Aj]
  have:=h r (Ab ..)
  have:=ih fun s hs=>h s (Ai _ hs)
  omega
theorem ap{x:List Rl}{roots:List Rq}{l:List Nf}(h1:Ba x=0)(h2:Bn roots=0)(h3:l.length≤65536):(Kp x roots l).length≤100000:=by
 obtain⟨a,b⟩:=Ls h1
 have:=gc b
 have:=JJ h2
 unfold Kp;simp only[Ad,Lm];omega
theorem UQ.fewI{U:List ByteArray}{t:List Tm}(h:UQ U t)(hu:U.length≤100000):nA t :=
 ⟨by have:=h.len;omega,fun u hu=>OK (h.1.canon u hu)⟩
end Go.Eng

namespace Go.Eng
open Go.Proofs
abbrev L6(x:List Rl)(ifs:List (List AV)):AV:=.agg (Ic x ifs)
end Go.Eng

namespace Go.Eng
open Go.Proofs
abbrev Xd:ES:=⟨true,[.str,.int .i64,.int .i64,.int .i64]⟩
abbrev Tx(y:Sl):Value:=.agg #[.string y.path,.int .i64 y.ver.a,.int .i64 y.ver.b,.int .i64 y.ver.c]
abbrev Vv(r:Rl):Value×AV:=(Tx (FF r),.agg (AY r))
def AP:List Rl→List ByteArray→List ByteArray
 | [],acc=>acc
 |r::x,acc=>AP x (if acc.any (fun p=>decide (p=r.path))then acc else acc++[r.path])
abbrev nl(x:List Rl)(p:ByteArray):Value×AV:=(.string p,sl AY (x.filter fun r=>decide (r.path=p)))
abbrev aK(x:List Rl):AV:=if Ba x=0 then .tup [.agg [.cmap Xd (x.map Vv),.cmap DQ ((AP x []).map (nl x))],vi 0]else .tup [.agg [.cmap Xd [],.cmap DQ []],vi (Ba x)]
abbrev mN(x:List Rl)(ifs:List (List AV)):Prop:=PC 95 [L6 x ifs] (aK x)
theorem lE{y z:Sl}(h:Tx y=Tx z):y=z:=by
 obtain⟨p,⟨a,b,c⟩⟩:=y;obtain⟨q,⟨d,e,f⟩⟩:=z;simp only[Tx,Value.agg.injEq,Array.mk.injEq,FL,Value.string.injEq,Value.int.injEq,true_and,Sr]at h;obtain⟨rfl,rfl,rfl,rfl⟩:=h
 rfl
theorem lK{x:List Rl}{y:Sl}{a:AV}(h:(Tx y,a)∈x.map Vv):∃r∈x,FF r=y∧a=.agg (AY r):=by
 obtain⟨r,h1,h2⟩:=Ar.1 h;simp only[Vv,FZ]at h2;exact⟨r,h1,lE h2.1,h2.2.symm⟩
end Go.Eng
