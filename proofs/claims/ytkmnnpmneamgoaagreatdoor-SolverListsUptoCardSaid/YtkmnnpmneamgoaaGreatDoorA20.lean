/- Lemmas for the claims of this seat, without a condition: part 20 (C36, C37, C38, C39, LayStr, C40, C41, C42, C43, C44, C45, C46, C47, C48, C49). -/
import Derived.Test.YtkmnnpmneamgoaaGreatDoorA19
import Derived.Shelf.Strings.SplitShaped
import Derived.Shelf.Strings.LastIndexAll
import Derived.Shelf.Strings.Search3
import Derived.Shelf.Small.Wraps
import Derived.Ground.NamesProg
import Derived.Lib.LastIndexLaws
namespace Go.Eng
open Go.Proofs
abbrev fu(r:Rl):Nat→ByteArray
 |0=>r.arch
 |1=>r.ifc
 |_=>r.cert
theorem nu{r:Rl}(h:∀j,j<3→DK (fu r j)=true):(DK r.arch&&DK r.ifc&&DK r.cert)=true:=by
 have h0:DK r.arch=true:=h 0 (by decide);have h1:DK r.ifc=true:=h 1 (by decide);have h2:DK r.cert=true:=h 2 (by decide);rw[h0,h1,h2];rfl
theorem Y5{r:Rl}{i:Nat}(hi:i<3)(h:DK (fu r i)=false):(DK r.arch&&DK r.ifc&&DK r.cert)=false:=by
 match i,hi,h with
 |0,_,h=>have h:DK r.arch=false:=h;rw[h];rfl
 |1,_,h=>have h:DK r.ifc=false:=h;rw[h,Ct];rfl
 |2,_,h=>have h:DK r.cert=false:=h;rw[h,Ct]
theorem ud{nm:ByteArray→ByteArray}(hL:T8 nm)(r:Rl)(hr:Gf r):PC 112 [.agg (AY r)] (vi (C3 r)):=by
 cases T3:Bw r.path with
 |none =>
  have e:(4:Int)=C3 r:=by unfold C3;rw[T3]
  have hl:=hL.none hr.1 T3;refine Ps EI Tryz.func112 rfl (Nz rfl) ?_;refine Xi .pure (Xi _ (Yi (hl) ?_));refine Yi ?_ ?_
  ·intro _;exact .of_eq (Ac vi e)
  ·intro h;exact absurd (show(4:Int)≠0 by decide) h
 |some m =>
  have er:C3 r=if(!CH r.ver||!decide (r.ver.a=m))=true then 2 else if Bm r.reqs≠0 then Bm r.reqs else if(DK r.arch&&DK r.ifc&&DK r.cert)=true then 0 else 1:=by unfold C3;rw[T3]
  have hl:=hL.some hr.1 T3;have hv:=qg r.ver;have hc:=yA hL r.reqs hr.2;rcases Bt (CH r.ver)with h2 | h2
  ·rw[h2]at hv;refine Ps (H2 [2,4,6,7,9]) Tryz.func112 rfl (Nz rfl) ?_;refine Xi .pure (Xi _ (Yi (hl) ?_));refine Xi ⟨[(1,.ref 1 0),(4,vi m),(5,vi 0)],[(1,.cells (AY r))],Aa⟩ (Yi ⟨Z3,Z1,Fh,Tv⟩ ?_)
   refine Yi ?_ ?_
   ·intro h;exact absurd rfl h
   intro _;refine Xi ⟨[(1,.ref 1 0),(4,vi m)],[(1,.cells (AY r))],Aa⟩ (Yi ⟨Z2,Z1,Fh,Tv⟩ ?_)
   refine Yi (Nz rfl) ?_;refine Xi .pure (Xi _ (Yi (hv) ?_));refine Yi ?_ ?_
   ·intro h;have h:r.ver.a≠m:=h;have e:(2:Int)=C3 r:=by rw[er,h2,At h];rfl
    exact .of_eq (Ac vi e)
   intro h;have h:¬r.ver.a≠m:=h;have h3:r.ver.a=m:=Gs h;have yK:C3 r=if Bm r.reqs≠0 then Bm r.reqs else if(DK r.arch&&DK r.ifc&&DK r.cert)=true then 0 else 1:=by rw[er,h2,Av h3];rfl
   refine Xi ⟨[(1,.ref 1 0)],[(1,.cells (AY r))],Aa⟩ (Yi ⟨Z1,Z1,Fh,Tv⟩ ?_)
   refine Xi .pure (Xi _ (Yi (hc) ?_));refine Xi ⟨[(1,.ref 1 0),(6,vi (Bm r.reqs))],[(1,.cells (AY r))],Aa⟩ (Yi ⟨Z2,Z1,Fh,Tv⟩ ?_)
   refine Yi ?_ ?_
   ·intro h4;have h4:Bm r.reqs≠0:=h4;exact .of_eq (Ac vi (show Bm r.reqs=C3 r by rw[yK,AB h4]))
   intro h4;have h4:¬Bm r.reqs≠0:=h4;have te:C3 r=if(DK r.arch&&DK r.ifc&&DK r.cert)=true then 0 else 1:=by rw[yK,Ar h4]
   refine Xi ⟨[(1,.ref 1 0)],[(1,.cells (AY r))],Aa⟩ (Yi ⟨Z1,Z1,Fh,Tv⟩ ?_)
   refine Xi {i:Nat // i≤3∧∀j,j<i→DK (fu r j)=true} (Xi (fun i=>⟨[(41,.slice (.id 41 1) [[vs r.arch],[vs r.ifc],[vs r.cert]]),(42,vi 3),(43,vi i.1)],[(41,.tok 1 3)],Aa⟩) (Xi (fun i=>3-i.1) (Yi (Xi ⟨0,by omega,fun j h=>by omega⟩ ?_) ?_)))
   ·exact⟨Z3,Z1,Fh,Tv⟩
   intro⟨i,i1,i2⟩;refine Yi ?_ ?_
   ·intro h;have h:(i:Int)<3:=h;have next:DK (fu r i)=true→∀j,j<i+1→DK (fu r j)=true:=fun hz j hj=>by
     rcases BV j i with q | q
     ·exact i2 j q
     ·have:j=i:=by omega
      subst this;exact hz
    match i,i1,i2,h,next with
    |0,i1,i2,h,next =>
     refine Xi [vs r.arch] (Yi (Yi (by show(0:Int)≤0;decide) rfl) (Yi rfl ?_));refine Yi ?_ ?_
     ·intro h5;have h5:((r.arch.size:Nat):Int)≠0:=h5;refine Yi ?_ ?_
      ·intro h6;have h6:((r.arch.size:Nat):Int)≠32:=h6;have e:(1:Int)=C3 r:=by rw[te,Y5 (i:=0) (by decide) (show DK r.arch=false by unfold DK;rw[At (by omega),At (by omega)];rfl)];rfl
       exact .of_eq (Ac vi e)
      ·intro h6;have h6:¬((r.arch.size:Nat):Int)≠32:=h6;refine Yi (Ii 0 (by omega)) ?_;refine Xi ⟨1,by omega,next (show DK r.arch=true by unfold DK;rw[Av (by omega:r.arch.size=32),T7])⟩ ?_
       exact⟨by show 3-1<3-0;decide,Z3,Z1,Fh,Tv⟩
     ·intro h5;have h5:¬((r.arch.size:Nat):Int)≠0:=h5;refine Yi (Ii 0 (by omega)) ?_;refine Xi ⟨1,by omega,next (show DK r.arch=true by unfold DK;rw[Av (by omega:r.arch.size=0)];rfl)⟩ ?_
      exact⟨by show 3-1<3-0;decide,Z3,Z1,Fh,Tv⟩
    |1,i1,i2,h,next =>
     refine Xi [vs r.ifc] (Yi (Yi (by show(0:Int)≤1;decide) rfl) (Yi rfl ?_));refine Yi ?_ ?_
     ·intro h5;have h5:((r.ifc.size:Nat):Int)≠0:=h5;refine Yi ?_ ?_
      ·intro h6;have h6:((r.ifc.size:Nat):Int)≠32:=h6;have e:(1:Int)=C3 r:=by rw[te,Y5 (i:=1) (by decide) (show DK r.ifc=false by unfold DK;rw[At (by omega),At (by omega)];rfl)];rfl
       exact .of_eq (Ac vi e)
      ·intro h6;have h6:¬((r.ifc.size:Nat):Int)≠32:=h6;refine Yi (Ii 1 (by omega)) ?_;refine Xi ⟨2,by omega,next (show DK r.ifc=true by unfold DK;rw[Av (by omega:r.ifc.size=32),T7])⟩ ?_
       exact⟨by show 3-2<3-1;decide,Z3,Z1,Fh,Tv⟩
     ·intro h5;have h5:¬((r.ifc.size:Nat):Int)≠0:=h5;refine Yi (Ii 1 (by omega)) ?_;refine Xi ⟨2,by omega,next (show DK r.ifc=true by unfold DK;rw[Av (by omega:r.ifc.size=0)];rfl)⟩ ?_
      exact⟨by show 3-2<3-1;decide,Z3,Z1,Fh,Tv⟩
    |2,i1,i2,h,next =>
     refine Xi [vs r.cert] (Yi (Yi (by show(0:Int)≤2;decide) rfl) (Yi rfl ?_));refine Yi ?_ ?_
     ·intro h5;have h5:((r.cert.size:Nat):Int)≠0:=h5;refine Yi ?_ ?_
      ·intro h6;have h6:((r.cert.size:Nat):Int)≠32:=h6;have e:(1:Int)=C3 r:=by rw[te,Y5 (i:=2) (by decide) (show DK r.cert=false by unfold DK;rw[At (by omega),At (by omega)];rfl)];rfl
       exact .of_eq (Ac vi e)
      ·intro h6;have h6:¬((r.cert.size:Nat):Int)≠32:=h6;refine Yi (Ii 2 (by omega)) ?_;refine Xi ⟨3,by omega,next (show DK r.cert=true by unfold DK;rw[Av (by omega:r.cert.size=32),T7])⟩ ?_
       exact⟨by show 3-3<3-2;decide,Z3,Z1,Fh,Tv⟩
     ·intro h5;have h5:¬((r.cert.size:Nat):Int)≠0:=h5;refine Yi (Ii 2 (by omega)) ?_;refine Xi ⟨3,by omega,next (show DK r.cert=true by unfold DK;rw[Av (by omega:r.cert.size=0)];rfl)⟩ ?_
      exact⟨by show 3-3<3-2;decide,Z3,Z1,Fh,Tv⟩
    |i+3,i1,i2,h,next=>omega
   ·intro h;have h:¬(i:Int)<3:=h;have e:(0:Int)=C3 r:=by rw[te,AB (nu fun j hj=>i2 j (by omega))]
    exact .of_eq (Ac vi e)
  ·rw[h2]at hv;have e:(2:Int)=C3 r:=by rw[er,h2];rfl
   refine Ps (H2 [2,4]) Tryz.func112 rfl (Nz rfl) ?_;refine Xi .pure (Xi _ (Yi (hl) ?_));refine Xi ⟨[(1,.ref 1 0),(4,vi m),(5,vi 0)],[(1,.cells (AY r))],Aa⟩ (Yi ⟨Z3,Z1,Fh,Tv⟩ ?_)
   refine Yi ?_ ?_
   ·intro h;exact absurd rfl h
   intro _;refine Xi ⟨[(1,.ref 1 0),(4,vi m)],[(1,.cells (AY r))],Aa⟩ (Yi ⟨Z2,Z1,Fh,Tv⟩ ?_)
   refine Yi (Nz rfl) ?_;refine Xi .pure (Xi _ (Yi (hv) ?_));exact .of_eq (Ac vi e)
end Go.Eng

namespace Go.Eng
open Go.Proofs
theorem ot{a b:Rl}(h:a.path=b.path∧a.ver.a=b.ver.a∧a.ver.b=b.ver.b∧a.ver.c=b.ver.c):Fz a=Fz b:=by
 unfold Fz;obtain⟨h1,h2,h3,h4⟩:=h
 have:a.ver=b.ver:=by
  cases ha:a.ver;cases hb:b.ver;rw[ha,hb]at h2 h3 h4;simp_all
 rw[h1,this]
theorem Va{a b:Rl}(h:Fz a=Fz b):a.path=b.path∧a.ver.a=b.ver.a∧a.ver.b=b.ver.b∧a.ver.c=b.ver.c:=by
 unfold Fz at h
 injection h with h1 h2
 exact⟨h1,by rw[h2],by rw[h2],by rw[h2]⟩
abbrev VW(x:List Rl):Nat→Option Rl
 |0=>none
 |k+1=>x[k]?
theorem vh{nm:ByteArray→ByteArray}(hL:T8 nm)(x:List Rl)(ifs:List (List AV))(hs:∀r∈x,Gf r):PC 59 [.agg (Ic x ifs)] (vi (A7 x)):=by
 refine Ps (H2 [7,9,11,13]) Tryz.func59 rfl (Nz rfl) ?_;refine Yi ?_ ?_
 ·intro h;have h:(256:Int)<(x.map AY).length:=h;exact .of_eq (Ac vi (show(7:Int)=A7 x by unfold A7;rw[AB (by rw[Lm]at h;omega)]))
 intro h;have h:¬(256:Int)<(x.map AY).length:=h;have hl:x.length≤256:=by rw[Lm]at h;omega
 have N7:A7 x=C0 none x:=by unfold A7;rw[Ar (by omega)]
 refine Xi {i:Nat // i≤x.length∧C0 none x=C0 (VW x i) (x.drop i)} (Xi (fun i=>⟨[(1,.ref 1 0),(12,sl AY x),(13,vi (x.map AY).length),(14,vi i.1)],[(1,.cells (Ic x ifs))],Aa⟩) (Xi (fun i=>x.length-i.1) (Yi (Xi ⟨0,AL _,rfl⟩ ?_) ?_)))
 ·exact⟨Z4,Z1,Fh,Tv⟩
 intro⟨i,h1,h2⟩;refine Yi ?_ ?_
 ·intro h;have h:(i:Int)<(x.map AY).length:=h;have h:i<x.length:=by simpa using h
  have hg:x[i]?=some x[i]:=Ge h;have hd:x.drop i=x[i]::x.drop (i+1):=Bk h;have hc:=ud hL x[i] (hs x[i] (Aj h));have GV:C0 none x=if C3 x[i]≠0 then C3 x[i]else match VW x i with
   |none=>C0 (some x[i]) (x.drop (i+1))
   |some b=>if Fz b=Fz x[i]then 5 else if 0<Iq b x[i]then 1 else C0 (some x[i]) (x.drop (i+1)):=by rw[h2,hd];rfl
  have XJ:VW x (i+1)=some x[i]:=Ge h;refine Xi (AY x[i]) (Yi (Yi (Nn i) (by simp[hg])) (Yi rfl ?_));refine Yi (Nz rfl) (Yi (Nz rfl) (Yi (Nz rfl) ?_));refine Xi .pure (Xi _ (Yi (hc) ?_));refine Xi ⟨[(1,.ref 1 0),(3,vi i),(4,.ref 4 0),(5,vi (C3 x[i])),(12,sl AY x),(13,vi (x.map AY).length),(14,vi i)],[(1,.cells (Ic x ifs)),(4,.cells (AY x[i]))],Aa⟩ (Yi ⟨Z7,Z2,Fh,Tv⟩ ?_)
  refine Yi ?_ ?_
  ·intro h4;have h4:C3 x[i]≠0:=h4;exact .of_eq (Ac vi (show C3 x[i]=A7 x by rw[N7,GV,AB h4]))
  intro h4;have h4:¬C3 x[i]≠0:=h4;refine Xi ⟨[(1,.ref 1 0),(3,vi i),(4,.ref 4 0),(12,sl AY x),(13,vi (x.map AY).length),(14,vi i)],[(1,.cells (Ic x ifs)),(4,.cells (AY x[i]))],Aa⟩ (Yi ⟨Z6,Z2,Fh,Tv⟩ ?_)
  refine Yi ?_ ?_
  ·intro h5;have h5:(i:Int)=0:=h5;have h6:i=0:=by omega
   refine Yi (Ii i (by omega)) ?_;refine Xi ⟨i+1,by omega,by rw[GV,Ar h4,XJ];subst h6;rfl⟩ ?_;exact⟨Dl x.length i (by omega),Z4,Z1,Fh,Tv⟩
  intro h5;have h5:¬(i:Int)=0:=h5;have mi:i-1<x.length:=by omega
  have hb:VW x i=some x[i-1]:=by
   obtain⟨k,rfl⟩:∃k,i=k+1:=⟨i-1,by omega⟩;exact Ge (by omega)
  have nT:C0 none x=if Fz x[i-1]=Fz x[i]then 5 else if 0<Iq x[i-1] x[i]then 1 else C0 (some x[i]) (x.drop (i+1)):=by rw[GV,Ar h4,hb]
  refine Yi (by show Bf ((i:Int)-1);unfold Bf;omega) ?_;have Ry:(x.map AY)[((i:Int)-1).toNat]?=some (AY x[i-1]):=by rw[show((i:Int)-1).toNat=i-1 by omega];exact B5 (Ge mi)
  refine Xi (AY x[i-1]) (Yi (Yi (by show(0:Int)≤(i:Int)-1;omega) Ry) (Yi rfl ?_));refine Yi (Nz rfl) (Yi (Nz rfl) ?_);refine Xi ⟨[(1,.ref 1 0),(4,.ref 4 0),(6,.ref 6 0),(12,sl AY x),(13,vi (x.map AY).length),(14,vi i)],[(1,.cells (Ic x ifs)),(4,.cells (AY x[i])),(6,.cells (AY x[i-1]))],Aa⟩ (Yi ⟨Z6,Z3,Fh,Tv⟩ ?_)
  refine Yi (Nz rfl) ?_;refine Xi _ (Yi (m7 x[i-1]) ?_);refine Yi (Nz rfl) ?_;refine Xi _ (Yi (m7 x[i]) ?_);refine Yi ?_ ?_
  ·intro h6;refine Yi (by kernel_rfl) ?_;have e:(5:Int)=A7 x:=by rw[N7,nT,AB (ot ⟨h6.1,h6.2.1,h6.2.2.1,h6.2.2.2.1⟩)]
   exact .of_eq (Ac vi e)
  intro h6;refine Yi (by kernel_rfl) ?_;have h7:¬Fz x[i-1]=Fz x[i]:=fun e=>by
   have e:=Va e;exact h6 ⟨e.1,e.2.1,e.2.2.1,e.2.2.2,trivial⟩
  refine Xi ⟨[(1,.ref 1 0),(4,.ref 4 0),(6,.ref 6 0),(12,sl AY x),(13,vi (x.map AY).length),(14,vi i)],[(1,.cells (Ic x ifs)),(4,.cells (AY x[i])),(6,.cells (AY x[i-1]))],Aa⟩ (Yi ⟨Z6,Z3,Fh,Tv⟩ ?_)
  refine Yi (Nz rfl) (Yi (Nz rfl) ?_);refine Xi .pure (Xi _ (Yi (ue x[i-1] x[i]) ?_));refine Yi ?_ ?_
  ·intro h8;have h8:(0:Int)<Iq x[i-1] x[i]:=h8;have e:(1:Int)=A7 x:=by rw[N7,nT,Ar h7,AB h8]
   exact .of_eq (Ac vi e)
  ·intro h8;have h8:¬(0:Int)<Iq x[i-1] x[i]:=h8;refine Yi (Ii i (by omega)) ?_;refine Xi ⟨i+1,by omega,by rw[nT,Ar h7,Ar h8,XJ]⟩ ?_;exact⟨Dl x.length i (by omega),Z4,Z1,Fh,Tv⟩
 ·intro h;have h:¬(i:Int)<(x.map AY).length:=h;have h:¬i<x.length:=by simpa using h
  have e:(0:Int)=A7 x:=by rw[N7,h2,Ho (by omega)];rfl
  exact .of_eq (Ac vi e)
end Go.Eng

namespace Go.Eng
open Go.Proofs
end Go.Eng

namespace Go.Eng
open Go.Proofs
abbrev vc(c:UInt8):AV:=.v (.int .u8 c.toNat)
theorem VB(a:UInt8)(n:Nat)(h:n<256):decide (UInt8.ofNat n≤a)=decide ((n:Int)≤(a.toNat:Int)):=by
 rw[B2,AE,AE,LB,show(UInt8.ofNat n).toNat=n by simp;omega];omega
theorem VA(a:UInt8)(n:Nat)(h:n<256):decide (a≤UInt8.ofNat n)=decide ((a.toNat:Int)≤(n:Int)):=by
 rw[B2,AE,AE,LB,show(UInt8.ofNat n).toNat=n by simp;omega];omega
theorem ni(c:UInt8):PC 245 [vc c] (vb (ED c)):=by
 refine Ps EI Tryz.func245 rfl (Nz rfl) ?_;have e1:decide ((97:UInt8)≤c)=decide ((97:Int)≤(c.toNat:Int)):=VB c 97 (by decide);have e2:decide (c≤(122:UInt8))=decide ((c.toNat:Int)≤(122:Int)):=VA c 122 (by decide);have es:ED c=(decide ((97:Int)≤(c.toNat:Int))&&decide ((c.toNat:Int)≤(122:Int))):=by unfold ED;rw[e1,e2]
 refine Yi ?_ ?_
 ·intro h;have h:(97:Int)≤(c.toNat:Int):=h;refine Yi ?_ ?_
  ·intro h2;have h2:(c.toNat:Int)≤122:=h2;exact .of_eq (Ac vb (show true=ED c by rw[es,Av h,Av h2];rfl))
  ·intro h2;have h2:¬(c.toNat:Int)≤122:=h2;exact .of_eq (Ac vb (show false=ED c by rw[es,At h2,Ct]))
 ·intro h;have h:¬(97:Int)≤(c.toNat:Int):=h;exact .of_eq (Ac vb (show false=ED c by rw[es,At h];rfl))
theorem nk(c:UInt8):PC 246 [vc c] (vb (CC c)):=by
 refine Ps EI Tryz.func246 rfl (Nz rfl) ?_;have e1:decide ((48:UInt8)≤c)=decide ((48:Int)≤(c.toNat:Int)):=VB c 48 (by decide);have e2:decide (c≤(57:UInt8))=decide ((c.toNat:Int)≤(57:Int)):=VA c 57 (by decide);have es:CC c=(decide ((48:Int)≤(c.toNat:Int))&&decide ((c.toNat:Int)≤(57:Int))):=by unfold CC;rw[e1,e2]
 refine Yi ?_ ?_
 ·intro h;have h:(48:Int)≤(c.toNat:Int):=h;refine Yi ?_ ?_
  ·intro h2;have h2:(c.toNat:Int)≤57:=h2;exact .of_eq (Ac vb (show true=CC c by rw[es,Av h,Av h2];rfl))
  ·intro h2;have h2:¬(c.toNat:Int)≤57:=h2;exact .of_eq (Ac vb (show false=CC c by rw[es,At h2,Ct]))
 ·intro h;have h:¬(48:Int)≤(c.toNat:Int):=h;exact .of_eq (Ac vb (show false=CC c by rw[es,At h];rfl))
theorem uY(c:UInt8):PC 291 [vc c] (vb (L1 c)):=by
 refine Ps EI Tryz.func291 rfl (Nz rfl) ?_;have e1:decide ((65:UInt8)≤c)=decide ((65:Int)≤(c.toNat:Int)):=VB c 65 (by decide);have e2:decide (c≤(90:UInt8))=decide ((c.toNat:Int)≤(90:Int)):=VA c 90 (by decide);have es:L1 c=(decide ((65:Int)≤(c.toNat:Int))&&decide ((c.toNat:Int)≤(90:Int))):=by unfold L1;rw[e1,e2]
 refine Yi ?_ ?_
 ·intro h;have h:(65:Int)≤(c.toNat:Int):=h;refine Yi ?_ ?_
  ·intro h2;have h2:(c.toNat:Int)≤90:=h2;exact .of_eq (Ac vb (show true=L1 c by rw[es,Av h,Av h2];rfl))
  ·intro h2;have h2:¬(c.toNat:Int)≤90:=h2;exact .of_eq (Ac vb (show false=L1 c by rw[es,At h2,Ct]))
 ·intro h;have h:¬(65:Int)≤(c.toNat:Int):=h;exact .of_eq (Ac vb (show false=L1 c by rw[es,At h];rfl))
abbrev M7(c:UInt8):Bool:=ED c||CC c
theorem uN(c:UInt8):PC 244 [vc c] (vb (M7 c)):=by
 have h1:=ni c;have h2:=nk c;rcases Bt (ED c)with e | e
 ·rw[e]at h1;refine Ps EI Tryz.func244 rfl (Nz rfl) ?_;refine Xi .pure (Xi _ (Yi (h1) ?_));exact .of_eq (Ac vb (show true=M7 c by unfold M7;rw[e];rfl))
 ·rw[e]at h1;refine Ps EI Tryz.func244 rfl (Nz rfl) ?_;refine Xi .pure (Xi _ (Yi (h1) ?_));refine Xi .pure (Xi _ (Yi (h2) ?_));exact .of_eq (Ac vb (show CC c=M7 c by unfold M7;rw[e];rfl))
theorem uT(c:UInt8):PC 268 [vc c] (vb (FS c)):=by
 have h1:=ni c;have h2:=uY c;have h3:=nk c;have ew:FS c=(ED c||L1 c||CC c||decide (c=95)):=rfl;rcases Bt (ED c)with e | e
 ·rw[e]at h1;refine Ps EI Tryz.func268 rfl (Nz rfl) ?_;refine Xi .pure (Xi _ (Yi (h1) ?_));exact .of_eq (Ac vb (show true=FS c by rw[ew,e];rfl))
 rw[e]at h1;rcases Bt (L1 c)with e2 | e2
 ·rw[e2]at h2;refine Ps EI Tryz.func268 rfl (Nz rfl) ?_;refine Xi .pure (Xi _ (Yi (h1) ?_));refine Xi .pure (Xi _ (Yi (h2) ?_));exact .of_eq (Ac vb (show true=FS c by rw[ew,e,e2];rfl))
 rw[e2]at h2;rcases Bt (CC c)with e3 | e3
 ·rw[e3]at h3;refine Ps EI Tryz.func268 rfl (Nz rfl) ?_;refine Xi .pure (Xi _ (Yi (h1) ?_));refine Xi .pure (Xi _ (Yi (h2) ?_));refine Xi .pure (Xi _ (Yi (h3) ?_));exact .of_eq (Ac vb (show true=FS c by rw[ew,e,e2,e3];rfl))
 rw[e3]at h3;refine Ps EI Tryz.func268 rfl (Nz rfl) ?_;refine Xi .pure (Xi _ (Yi (h1) ?_));refine Xi .pure (Xi _ (Yi (h2) ?_));refine Xi .pure (Xi _ (Yi (h3) ?_));have eb:decide (c=95)=decide ((c.toNat:Int)=95):=by
  rw[B2,AE,AE];constructor
  ·intro h;subst h;rfl
  ·intro h;exact Gr.1 (by show c.toNat=95;omega)
 refine Yi ?_ ?_
 ·intro h;have h:(c.toNat:Int)=95:=h;exact .of_eq (Ac vb (show true=FS c by rw[ew,e,e2,e3,eb,Av h];rfl))
 ·intro h;have h:¬(c.toNat:Int)=95:=h;exact .of_eq (Ac vb (show false=FS c by rw[ew,e,e2,e3,eb,At h];rfl))
theorem MC(s:ByteArray)(i:Nat)(h:i<s.data.toList.length):s.data[i]?=some s.data.toList[i]:=by
 rw[←AO];exact Ge h
theorem nh(s:ByteArray)(f:Nat)(q:UInt8→Bool)(hf:∀c,PC f [vc c] (vb (q c)))(hs:s.data.toList.length<4611686018427387904):PC 243 [vs s,.v (Ug f)] (vb (s.data.toList.all q)):=by
 have Ed:s.size=s.data.toList.length:=by simp
 refine Ps EI Tryz.func243 rfl (Nz rfl) ?_;refine Xi {i:Nat // i≤s.data.toList.length∧∀j (hj:j<s.data.toList.length),j<i→q s.data.toList[j]=true} (Xi (fun i=>⟨[(0,vs s),(1,.v (Ug f)),(7,vi s.size),(8,vi i.1)],[],Aa⟩) (Xi (fun i=>s.data.toList.length-i.1) (Yi (Xi ⟨0,AL _,fun j _ h=>by omega⟩ ?_) ?_)))
 ·exact⟨Z4,Tv,Fh,Tv⟩
 intro⟨i,h1,h2⟩;refine Yi ?_ ?_
 ·intro h;have h:(i:Int)<(s.size:Nat):=h;have h:i<s.data.toList.length:=by omega
  refine Xi s.data.toList[i] (Yi ⟨by show(0:Int)≤i;omega,by show s.data[((i:Nat):Int).toNat]?=_;rw[A6];exact MC s i h⟩ ?_);have hc:=hf s.data.toList[i];refine BG (Bt (q s.data.toList[i])) (fun e=>?_) (fun e=>?_)
  ·rw[e]at hc;refine Xi .pure (Xi _ (Yi (hc) ?_));refine Yi (Ii i (by omega)) ?_;refine Xi ⟨i+1,by omega,fun j hj IA=>?_⟩ ?_
   ·rcases BV j i with z | z
    ·exact h2 j hj z
    ·have:j=i:=by omega
     subst this;exact e
   ·exact⟨Dl s.data.toList.length i (by omega),Z4,Tv,Fh,Tv⟩
  ·rw[e]at hc;refine Xi .pure (Xi _ (Yi (hc) ?_));have er:s.data.toList.all q=false:=by
    rw[AH];intro ha
    have:=AX.1 ha _ (Aj h)
    rw[e]at this;cases this
   exact .of_eq (Ac vb er.symm)
 ·intro h;have h:¬(i:Int)<(s.size:Nat):=h;have er:s.data.toList.all q=true:=AX.2 fun c hc=>by
   obtain⟨j,hj,rfl⟩:=BY hc;exact h2 j hj (by omega)
  exact .of_eq (Ac vb er.symm)
end Go.Eng

namespace Go.Proofs
open Go.Shelf
def Tryz.laySplit_ren:Go.Shelf.Ren:=⟨fun | 146=>240 | 221=>266 | 268=>287 | 138=>288 | 143=>289 | 195=>309 | 197=>310 | 218=>311 | 219=>312 | 260=>319 | 217=>320 | 225=>321 | 224=>322 | 267=>323 | 266=>326 | 314=>327 | n=>n,fun | 9=>9 | 31=>52 | 3=>3 | 4=>4 | 0=>0 | 105=>318 | 21=>21 | 5=>5 | 46=>155 | 119=>325 | 139=>328 | 138=>327 | 146=>294 | 51=>221 | n=>n,fun | 1=>0 | 3=>1 | 4=>2 | n=>n⟩
theorem Tryz.laySplit:Go.Proofs.Lays.n146 Tryz.prog Tryz.laySplit_ren:={
 mixed:=by kernel_rfl
 f138:=Tryz.func288.trans (congrArg some (by kernel_rfl))
 f143:=Tryz.func289.trans (congrArg some (by kernel_rfl))
 f146:=Tryz.func240.trans (congrArg some (by kernel_rfl))
 f195:=Tryz.func309.trans (congrArg some (by kernel_rfl))
 f197:=Tryz.func310.trans (congrArg some (by kernel_rfl))
 f217:=Tryz.func320.trans (congrArg some (by kernel_rfl))
 f218:=Tryz.func311.trans (congrArg some (by kernel_rfl))
 f219:=Tryz.func312.trans (congrArg some (by kernel_rfl))
 f221:=Tryz.func266.trans (congrArg some (by kernel_rfl))
 f224:=Tryz.func322.trans (congrArg some (by kernel_rfl))
 f225:=Tryz.func321.trans (congrArg some (by kernel_rfl))
 f260:=Tryz.func319.trans (congrArg some (by kernel_rfl))
 f266:=Tryz.func326.trans (congrArg some (by kernel_rfl))
 f267:=Tryz.func323.trans (congrArg some (by kernel_rfl))
 f268:=Tryz.func287.trans (congrArg some (by kernel_rfl))
 f314:=Tryz.func327.trans (congrArg some (by kernel_rfl))
 t0:=Tryz.underlying0
 a0:=Tryz.isAgg0
 z0:=Tryz.sizeOf0
 v0:=Tryz.zeroValue0
 t3:=Tryz.underlying3
 a3:=Tryz.isAgg3
 z3:=Tryz.sizeOf3
 v3:=Tryz.zeroValue3
 t4:=Tryz.underlying4
 a4:=Tryz.isAgg4
 z4:=Tryz.sizeOf4
 v4:=Tryz.zeroValue4
 t5:=Tryz.underlying5
 a5:=Tryz.isAgg5
 z5:=Tryz.sizeOf5
 v5:=Tryz.zeroValue5
 t9:=Tryz.underlying9
 a9:=Tryz.isAgg9
 z9:=Tryz.sizeOf9
 v9:=Tryz.zeroValue9
 t21:=Tryz.underlying21
 a21:=Tryz.isAgg21
 z21:=Tryz.sizeOf21
 v21:=Tryz.zeroValue21
 t31:=Tryz.underlying52
 a31:=Tryz.isAgg52
 z31:=Tryz.sizeOf52
 v31:=Tryz.zeroValue52
 t46:=Tryz.underlying155
 a46:=Tryz.isAgg155
 z46:=Tryz.sizeOf155
 v46:=Tryz.zeroValue155
 t51:=Tryz.underlying221
 a51:=Tryz.isAgg221
 z51:=Tryz.sizeOf221
 v51:=Tryz.zeroValue221
 t105:=Tryz.underlying318
 a105:=Tryz.isAgg318
 z105:=Tryz.sizeOf318
 v105:=Tryz.zeroValue318
 t119:=Tryz.underlying325
 a119:=Tryz.isAgg325
 z119:=Tryz.sizeOf325
 t138:=Tryz.underlying327
 a138:=Tryz.isAgg327
 z138:=Tryz.sizeOf327
 v138:=Tryz.zeroValue327
 t139:=Tryz.underlying328
 a139:=Tryz.isAgg328
 z139:=Tryz.sizeOf328
 v139:=Tryz.zeroValue328
 t146:=Tryz.underlying294
 a146:=Tryz.isAgg294
 z146:=Tryz.sizeOf294
 v146:=Tryz.zeroValue294
 g1:=by kernel_rfl
 g3:=by kernel_rfl
 g4:=by kernel_rfl }
def Tryz.layLast_ren:Go.Shelf.Ren:=⟨fun | 148=>213 | 222=>247 | 223=>248 | 269=>270 | n=>n,fun | 9=>9 | 3=>3 | 4=>4 | 5=>5 | 146=>294 | 51=>221 | 46=>155 | n=>n,fun | n=>n⟩
theorem Tryz.layLast:Go.Proofs.Lays.n148 Tryz.prog Tryz.layLast_ren:={
 mixed:=by kernel_rfl
 f148:=Tryz.func213.trans (congrArg some (by kernel_rfl))
 f222:=Tryz.func247.trans (congrArg some (by kernel_rfl))
 f223:=Tryz.func248.trans (congrArg some (by kernel_rfl))
 f269:=Tryz.func270.trans (congrArg some (by kernel_rfl))
 t3:=Tryz.underlying3
 a3:=Tryz.isAgg3
 z3:=Tryz.sizeOf3
 v3:=Tryz.zeroValue3
 t4:=Tryz.underlying4
 a4:=Tryz.isAgg4
 z4:=Tryz.sizeOf4
 v4:=Tryz.zeroValue4
 t5:=Tryz.underlying5
 a5:=Tryz.isAgg5
 z5:=Tryz.sizeOf5
 v5:=Tryz.zeroValue5
 t9:=Tryz.underlying9
 a9:=Tryz.isAgg9
 z9:=Tryz.sizeOf9
 v9:=Tryz.zeroValue9
 t46:=Tryz.underlying155
 a46:=Tryz.isAgg155
 z46:=Tryz.sizeOf155
 v46:=Tryz.zeroValue155
 t51:=Tryz.underlying221
 a51:=Tryz.isAgg221
 z51:=Tryz.sizeOf221
 v51:=Tryz.zeroValue221
 t146:=Tryz.underlying294
 a146:=Tryz.isAgg294
 z146:=Tryz.sizeOf294
 v146:=Tryz.zeroValue294 }
def Tryz.layCut_ren:Go.Shelf.Ren:=⟨fun | 103=>267 | 210=>290 | 206=>313 | n=>n,fun | 9=>9 | 4=>4 | 24=>128 | 3=>3 | n=>n,fun | n=>n⟩
theorem Tryz.layCut:Go.Proofs.Lays.n103 Tryz.prog Tryz.layCut_ren:={
 mixed:=by kernel_rfl
 f103:=Tryz.func267.trans (congrArg some (by kernel_rfl))
 f206:=Tryz.func313.trans (congrArg some (by kernel_rfl))
 f210:=Tryz.func290.trans (congrArg some (by kernel_rfl))
 t3:=Tryz.underlying3
 a3:=Tryz.isAgg3
 z3:=Tryz.sizeOf3
 v3:=Tryz.zeroValue3
 t4:=Tryz.underlying4
 a4:=Tryz.isAgg4
 z4:=Tryz.sizeOf4
 v4:=Tryz.zeroValue4
 t9:=Tryz.underlying9
 a9:=Tryz.isAgg9
 z9:=Tryz.sizeOf9
 v9:=Tryz.zeroValue9
 t24:=Tryz.underlying128
 a24:=Tryz.isAgg128
 z24:=Tryz.sizeOf128
 v24:=Tryz.zeroValue128 }
def Tryz.layCont_ren:Go.Shelf.Ren:=⟨fun | 144=>292 | 143=>289 | 219=>312 | 217=>320 | 225=>321 | 224=>322 | 267=>323 | 266=>326 | 314=>327 | n=>n,fun | 9=>9 | 4=>4 | 3=>3 | 5=>5 | 46=>155 | 146=>294 | 51=>221 | n=>n,fun | 1=>0 | n=>n⟩
theorem Tryz.layCont:Go.Proofs.Lays.n144 Tryz.prog Tryz.layCont_ren:={
 mixed:=by kernel_rfl
 f143:=Tryz.func289.trans (congrArg some (by kernel_rfl))
 f144:=Tryz.func292.trans (congrArg some (by kernel_rfl))
 f217:=Tryz.func320.trans (congrArg some (by kernel_rfl))
 f219:=Tryz.func312.trans (congrArg some (by kernel_rfl))
 f224:=Tryz.func322.trans (congrArg some (by kernel_rfl))
 f225:=Tryz.func321.trans (congrArg some (by kernel_rfl))
 f266:=Tryz.func326.trans (congrArg some (by kernel_rfl))
 f267:=Tryz.func323.trans (congrArg some (by kernel_rfl))
 f314:=Tryz.func327.trans (congrArg some (by kernel_rfl))
 t3:=Tryz.underlying3
 a3:=Tryz.isAgg3
 z3:=Tryz.sizeOf3
 v3:=Tryz.zeroValue3
 t4:=Tryz.underlying4
 a4:=Tryz.isAgg4
 z4:=Tryz.sizeOf4
 v4:=Tryz.zeroValue4
 t5:=Tryz.underlying5
 a5:=Tryz.isAgg5
 z5:=Tryz.sizeOf5
 v5:=Tryz.zeroValue5
 t9:=Tryz.underlying9
 a9:=Tryz.isAgg9
 z9:=Tryz.sizeOf9
 v9:=Tryz.zeroValue9
 t46:=Tryz.underlying155
 a46:=Tryz.isAgg155
 z46:=Tryz.sizeOf155
 v46:=Tryz.zeroValue155
 t51:=Tryz.underlying221
 a51:=Tryz.isAgg221
 z51:=Tryz.sizeOf221
 v51:=Tryz.zeroValue221
 t146:=Tryz.underlying294
 a146:=Tryz.isAgg294
 z146:=Tryz.sizeOf294
 v146:=Tryz.zeroValue294
 g1:=by kernel_rfl }
end Go.Proofs

namespace Go.Eng
open Go.Proofs
abbrev YV:ByteArray:=⟨#[47]⟩
abbrev BK(s:ByteArray):List ByteArray:=Go.Lib.splitB YV 0 (Go.Lib.countB s YV) s
theorem O4(s:ByteArray):(BK s).map (·.data.toList)=CP 47 s.data.toList:=dJ s 47
abbrev EE(s:ByteArray):List AV:=[vs s]
theorem qr(s:ByteArray)(hs:FZ s):PC 240 [vs s,vs YV] (sl EE (BK s)):=by
 unfold FZ at hs;have h:=du (P:=Tryz.prog) (f:=240) (args:=[vs s,vs YV]) [.string s,.string YV] ((BK s).map Value.string) 9 (fA 240 Tryz.func240 (by kernel_rfl) rfl) rfl (fun x hx=>by
  obtain⟨y,_,rfl⟩:=Aq.1 hx;rfl) (fun w hm=>by
  obtain⟨m,hm⟩:=hm;have hl:(BK s).length=Go.Lib.countB s YV+1:=Go.Lib.splitB_all YV (by decide) 0 _ s rfl;refine(Any.strings_Split Tryz.laySplit (by kernel_rfl) s YV m w (by omega) hm (by decide)).mono ?_
  rintro e w' ⟨rfl,rfl⟩
  exact⟨by rw[Lm,hl],rfl⟩)
 rw[BX]at h;exact h
theorem uC(s p:ByteArray)(hs:FZ s):PC 213 [vs s,vs p] (vi (Go.Lib.lastIndex s.data.toList p.data.toList)):=by
 unfold FZ at hs;exact Lq [.string s,.string p] (.int .i64 (Go.Lib.lastIndex s.data.toList p.data.toList)) (fA 213 Tryz.func213 (by kernel_rfl) rfl) rfl (fun g w=>.v _ _) fun w _=>Any.strings_LastIndex Tryz.layLast s p (by omega) w
theorem uS(s p:ByteArray):PC 267 [vs s,vs p] (.tup [vs ⟨(Go.Lib.trimPrefix s.data.toList p.data.toList).toArray⟩,vb (Go.Lib.hasPrefix s.data.toList p.data.toList)]):=by
 exact Lq [.string s,.string p] _ (fA 267 Tryz.func267 (by kernel_rfl) rfl) rfl (fun g w=>iT [.string ⟨(Go.Lib.trimPrefix s.data.toList p.data.toList).toArray⟩,.bool (Go.Lib.hasPrefix s.data.toList p.data.toList)]) fun w _=>Any.strings_CutPrefix Tryz.layCut s p w
theorem uZ(s p:ByteArray)(hs:FZ s):PC 292 [vs s,vs p] (vb (Go.Lib.contains s.data.toList p.data.toList)):=by
 unfold FZ at hs;exact Lq [.string s,.string p] (.bool (Go.Lib.contains s.data.toList p.data.toList)) (fA 292 Tryz.func292 (by kernel_rfl) rfl) rfl (fun g w=>.v _ _) fun w hm=>by
  obtain⟨m,hm⟩:=hm;exact Any.strings_Contains Tryz.layCont s p m w (by omega) hm
end Go.Eng

namespace Go.Eng
open Go.Proofs
theorem bf:∀x y:List UInt8,M5 x y=x.isPrefixOf y
 | [],_=>by simp[M5]
 |_::_,[]=>rfl
 |a::x,b::y=>by
  rw[M5,List.isPrefixOf_cons_cons,bf x y]
  rfl
theorem gO(x:List UInt8):∀y:List UInt8,gN x y=Go.Lib.contains y x
 | []=>by
  unfold Go.Lib.contains Go.Lib.index;cases x<;>rfl
 |b::y=>by
  rw[gN,bf,gO x y];unfold Go.Lib.contains;have hg:=Go.Lib.index_ge y x
  conv=>rhs;unfold Go.Lib.index
  cases h:x.isPrefixOf (b::y)with
  |true=>simp
  |false =>
   simp only[Jl,Da,Ga]
   by_cases h0:Go.Lib.index y x=-1
   ·rw[h0];rfl
   ·have h1:(Go.Lib.index y x == -1)=false:=by simpa using h0
    rw[h1];simp only[Da,Ga];rw[Av (by omega),Av (by omega)]
theorem NI:∀(l:List UInt8) (h:0<l.length),l.headD 0=l[0]
 | [],h=>by simp at h
 |_::_,_=>rfl
abbrev mz:ByteArray:=⟨⟨Zv⟩⟩
theorem uU(s:ByteArray)(hs:FZ s):PC 269 [vs s] (vb (Us s.data.toList)):=by
 unfold FZ at hs;have hc:=uZ mz ((⟨#[32]⟩++s)++⟨#[32]⟩) (HU (by kernel_rfl));have e:Go.Lib.contains mz.data.toList ((⟨#[32]⟩++s:ByteArray)++⟨#[32]⟩).data.toList=Us s.data.toList:=by
  unfold Us;rw[gO]
  congr 1
 rw[e]at hc;refine Ps EI Tryz.func269 rfl (Nz rfl) ?_;refine Yi (by show(((1+s.size:Nat)):Int)≤_;omega) ?_;refine Yi (by show(((⟨#[32]⟩++s:ByteArray).size+1:Nat):Int)≤_;rw[ByteArray.size_append];show(((1+s.size)+1:Nat):Int)≤_;omega) ?_;refine Xi .pure (Xi _ (Yi (hc) ?_));exact .refl _
theorem uM(s:ByteArray)(hs:FZ s):PC 242 [vs s] (vb (Gk s.data.toList)):=by
 have hk:=uU s hs;have hw:=nh s 268 FS uT (by unfold FZ at hs;simp;omega);have Ed:s.size=s.data.toList.length:=by simp
 have en:Gk s.data.toList=(!s.data.toList.isEmpty&&decide (s.data.toList.length≤32)&&ED (s.data.toList.headD 0)&&s.data.toList.all FS&&!Us s.data.toList):=rfl
 by_cases h0:s=⟨#[]⟩
 ·subst h0;refine Ps EI Tryz.func242 rfl (Nz rfl) ?_;refine Yi ?_ ?_
  ·intro h;exact absurd rfl (show(⟨#[]⟩:ByteArray)≠⟨#[]⟩from h)
  ·intro _;exact .refl _
 have yM : s.data.toList≠[]:=fun e=>h0 (by
  have:s.data=#[]:=by rw[←LK];exact e
  cases s;simp_all)
 have CW:0<s.data.toList.length:=GT.2 yM;have PJ:s.data.toList.isEmpty=false:=by
  cases hl:s.data.toList with
  |nil=>exact absurd hl yM
  |cons a l=>rfl
 have za:s.data.toList.headD 0=s.data.toList[0]:=NI _ CW;have d7:=ni s.data.toList[0];refine Ps EI Tryz.func242 rfl (Nz rfl) ?_;refine Yi ?_ ?_
 rotate_left
 ·intro h;exact absurd h0 h
 intro _;refine Yi ?_ ?_
 rotate_left
 ·intro h;have h:¬((s.size:Nat):Int)≤32:=h;exact .of_eq (Ac vb (show false=Gk s.data.toList by rw[en,At (by omega:¬s.data.toList.length≤32)];simp))
 intro h;have h:((s.size:Nat):Int)≤32:=h;refine Xi s.data.toList[0] (Yi ⟨BQ _,MC s 0 CW⟩ ?_);refine BG (Bt (ED s.data.toList[0])) (fun e1=>?_) (fun e1=>?_)
 rotate_left
 ·rw[e1]at d7;refine Xi .pure (Xi _ (Yi (d7) ?_));exact .of_eq (Ac vb (show false=Gk s.data.toList by rw[en,za,e1];simp))
 rw[e1]at d7;refine Xi .pure (Xi _ (Yi (d7) ?_));refine BG (Bt (s.data.toList.all FS)) (fun e2=>?_) (fun e2=>?_)
 rotate_left
 ·rw[e2]at hw;refine Xi .pure (Xi _ (Yi (hw) ?_));exact .of_eq (Ac vb (show false=Gk s.data.toList by rw[en,e2];simp))
 rw[e2]at hw;refine Xi .pure (Xi _ (Yi (hw) ?_));have ef:Gk s.data.toList=!Us s.data.toList:=by rw[en,PJ,za,e1,e2,Av (by omega:s.data.toList.length≤32)];rfl
 refine BG (Bt (Us s.data.toList)) (fun e3=>?_) (fun e3=>?_)
 ·rw[e3]at hk;refine Xi .pure (Xi _ (Yi (hk) ?_));exact .of_eq (Ac vb (show false=Gk s.data.toList by rw[ef,e3];rfl))
 ·rw[e3]at hk;refine Xi .pure (Xi _ (Yi (hk) ?_));exact .of_eq (Ac vb (show true=Gk s.data.toList by rw[ef,e3];rfl))
end Go.Eng

namespace Go.Eng
open Go.Proofs
abbrev WK:Option Int→AV
 |some n=>.tup [vi n,vb true]
 |none=>.tup [vi 0,vb false]
theorem RM{z:Int}(h0:0≤z)(h1:z<256):IntKind.u8.wrap z=z:=by
 show z % 256=z;omega
theorem I7{c:UInt8}(h:CC c=true):48≤c.toNat∧c.toNat≤57:=by
 unfold CC at h;simp only[Ag,AE]at h;exact⟨LB.1 h.1,LB.1 h.2⟩
theorem KP(r:List UInt8)(i:Nat)(h:i<r.length):DV (r.take (i+1))=10*DV (r.take i)+((r[i].toNat:Int)-48):=by
 unfold DV;rw[Bb,Ge h,Kp];rfl
theorem uL(s:ByteArray)(hs:FZ s):PC 241 [vs s] (WK (Gj s.data.toList)):=by
 unfold FZ at hs;have hc:=uS s ⟨#[118]⟩
 by_cases hp:∃r,s.data.toList=118::r
 ·obtain⟨r,hr⟩:=hp;have e1:Go.Lib.hasPrefix s.data.toList (⟨#[118]⟩:ByteArray).data.toList=true:=by rw[hr];rfl
  have e2:Go.Lib.trimPrefix s.data.toList (⟨#[118]⟩:ByteArray).data.toList=r:=by unfold Go.Lib.trimPrefix;rw[e1,AB rfl,hr];rfl
  rw[e1,e2]at hc;have hv:Gj s.data.toList=if(r.isEmpty||decide (3<r.length)||(decide (1<r.length)&&decide (r.headD 0=48))||!r.all CC)=true then none else some (DV r):=by rw[hr];rfl
  have hrl:r.length<s.size:=by
   have:s.size=s.data.toList.length:=by simp
   rw[this,hr];simp
  generalize hB:(⟨r.toArray⟩:ByteArray)=rB at hc;have fY:rB.data.toList=r:=by rw[←hB]
  have qI:rB.size=r.length:=by rw[←hB];rfl
  have hw:=nh rB 246 CC nk (by rw[fY];omega);rw[fY]at hw;have no:∀{b:Bool},b=true→(if b=true then none else some (DV r))=(none:Option Int):=fun h=>AB h;refine Ps (H2 [2,4]) Tryz.func241 rfl (Nz rfl) ?_;refine Xi .pure (Xi _ (Yi (hc) ?_));refine Xi ⟨[(0,vs rB),(4,vb true)],[],Aa⟩ (Yi ⟨Z2,Tv,Fh,Tv⟩ ?_)
  refine Yi ?_ ?_
  ·intro h;have h:rB=⟨#[]⟩:=h
   have:r=[]:=by rw[←fY,h]
   exact .of_eq (Ac WK (show(none:Option Int)=Gj s.data.toList by rw[hv,this];rfl))
  intro h;have h:¬rB=⟨#[]⟩:=h;have Dy:r≠[]:=fun e=>h (by rw[←hB,e]);have CW:0<r.length:=GT.2 Dy;have PJ:r.isEmpty=false:=by
   cases hl:r with
   |nil=>exact absurd hl Dy
   |cons a l=>rfl
  refine Yi ?_ ?_
  ·intro h2;have h2:(3:Int)<((rB.size:Nat):Int):=h2;exact .of_eq (Ac WK (show(none:Option Int)=Gj s.data.toList by rw[hv,no];rw[Av (by omega:3<r.length)];simp))
  intro h2;have h2:¬(3:Int)<((rB.size:Nat):Int):=h2;have rE:r.length≤3:=by omega
  have d3:decide (3<r.length)=false:=At (by omega);refine Yi ?_ ?_
  ·intro h3;have h3:(1:Int)<((rB.size:Nat):Int):=h3;have vW:rB.data[(0:Int).toNat]?=some r[0]:=by
    show rB.data[0]?=_;rw[←AO,fY];exact Ge CW
   refine Xi r[0] (Yi ⟨BQ _,vW⟩ ?_);have hh:=NI r CW;refine Yi ?_ ?_
   ·intro h4;have h4:(r[0].toNat:Int)=48:=h4
    have:r[0]=48:=Gr.1 (by show r[0].toNat=48;omega)
    exact .of_eq (Ac WK (show(none:Option Int)=Gj s.data.toList by rw[hv,hh,this,Av (by omega:1<r.length)];simp))
   intro h4;have h4:¬(r[0].toNat:Int)=48:=h4;have eo:(decide (1<r.length)&&decide (r.headD 0=48))=false:=by rw[hh,At (show ¬r[0]=48 from fun e=>h4 (by rw[e];rfl)),Ct]
   have oh:Gj s.data.toList=if(!r.all CC)=true then none else some (DV r):=by rw[hv,PJ,d3,eo];rfl
   refine BG (Bt (r.all CC)) (fun e3=>?_) (fun e3=>?_)
   rotate_left
   ·rw[e3]at hw;refine Xi .pure (Xi _ (Yi (hw) ?_));exact .of_eq (Ac WK (show(none:Option Int)=Gj s.data.toList by rw[oh,e3];rfl))
   rw[e3]at hw;refine Xi .pure (Xi _ (Yi (hw) ?_));have wY:Gj s.data.toList=some (DV r):=by rw[oh,e3];rfl
   refine Xi ⟨[(0,vs rB)],[],Aa⟩ (Yi ⟨Z1,Tv,Fh,Tv⟩ ?_)
   have z0:DV (r.take 0)=0:=rfl;refine Xi {i:Nat // i≤r.length∧0≤DV (r.take i)∧(i=0→DV (r.take i)≤0)∧(i≤1→DV (r.take i)≤9)∧(i≤2→DV (r.take i)≤99)∧DV (r.take i)≤999} (Xi (fun i=>⟨[(0,vs rB),(5,vi (DV (r.take i.1))),(39,vi rB.size),(40,vi i.1)],[],Aa⟩) (Xi (fun i=>r.length-i.1) (Yi (Xi ⟨0,AL _,by omega,fun _=>by omega,fun _=>by omega,fun _=>by omega,by omega⟩ ?_) ?_)))
   ·exact⟨Z4,Tv,Fh,Tv⟩
   intro⟨i,i1,i2,i3,i4,i5,i6⟩;refine Yi ?_ ?_
   ·intro h;have h:(i:Int)<(rB.size:Nat):=h;have h:i<r.length:=by omega
    have wi:CC r[i]=true:=AX.1 e3 _ (Aj h);have mh:=I7 wi;have aO:=KP r i h;have Zs:IntKind.u8.wrap ((r[i].toNat:Int)-48)=(r[i].toNat:Int)-48:=RM (by omega) (by omega);have Rj:rB.data[((i:Nat):Int).toNat]?=some r[i]:=by rw[A6,←AO,fY];exact Ge h
    refine Yi (by show Bf (10*DV (r.take i));unfold Bf;omega) ?_;refine Xi r[i] (Yi ⟨by show(0:Int)≤i;omega,Rj⟩ ?_);refine Yi (by show Bf (IntKind.u8.wrap ((r[i].toNat:Int)-48));rw[Zs];unfold Bf;omega) ?_;refine Yi (by show Bf (10*DV (r.take i)+IntKind.u8.wrap ((r[i].toNat:Int)-48));rw[Zs];unfold Bf;omega) ?_;refine Yi (Ii i (by omega)) ?_;have e5:vi (10*DV (r.take i)+IntKind.u8.wrap ((r[i].toNat:Int)-48))=vi (DV (r.take (i+1))):=by rw[Zs,aO]
    refine Xi ⟨i+1,by omega,by omega,fun _=>by omega,fun _=>by omega,fun _=>by omega,by omega⟩ ?_;exact⟨Dl r.length i (by omega),⟨Zr,⟨e5,rfl⟩,Zr,Zr,Tv⟩,Tv,Fh,Tv⟩
   ·intro h;have h:¬(i:Int)<(rB.size:Nat):=h;have e6:AV.tup [vi (DV (r.take i)),vb true]=WK (Gj s.data.toList):=by rw[wY,Az (by omega)]
    exact .of_eq e6
  ·intro h3;have h3:¬(1:Int)<((rB.size:Nat):Int):=h3;have eo:(decide (1<r.length)&&decide (r.headD 0=48))=false:=by rw[At (by omega:¬1<r.length)];rfl
   have oh:Gj s.data.toList=if(!r.all CC)=true then none else some (DV r):=by rw[hv,PJ,d3,eo];rfl
   refine BG (Bt (r.all CC)) (fun e3=>?_) (fun e3=>?_)
   rotate_left
   ·rw[e3]at hw;refine Xi .pure (Xi _ (Yi (hw) ?_));exact .of_eq (Ac WK (show(none:Option Int)=Gj s.data.toList by rw[oh,e3];rfl))
   rw[e3]at hw;refine Xi .pure (Xi _ (Yi (hw) ?_));have wY:Gj s.data.toList=some (DV r):=by rw[oh,e3];rfl
   refine Xi ⟨[(0,vs rB)],[],Aa⟩ (Yi ⟨Z1,Tv,Fh,Tv⟩ ?_)
   have z0:DV (r.take 0)=0:=rfl;refine Xi {i:Nat // i≤r.length∧0≤DV (r.take i)∧(i=0→DV (r.take i)≤0)∧(i≤1→DV (r.take i)≤9)∧(i≤2→DV (r.take i)≤99)∧DV (r.take i)≤999} (Xi (fun i=>⟨[(0,vs rB),(5,vi (DV (r.take i.1))),(39,vi rB.size),(40,vi i.1)],[],Aa⟩) (Xi (fun i=>r.length-i.1) (Yi (Xi ⟨0,AL _,by omega,fun _=>by omega,fun _=>by omega,fun _=>by omega,by omega⟩ ?_) ?_)))
   ·exact⟨Z4,Tv,Fh,Tv⟩
   intro⟨i,i1,i2,i3,i4,i5,i6⟩;refine Yi ?_ ?_
   ·intro h;have h:(i:Int)<(rB.size:Nat):=h;have h:i<r.length:=by omega
    have wi:CC r[i]=true:=AX.1 e3 _ (Aj h);have mh:=I7 wi;have aO:=KP r i h;have Zs:IntKind.u8.wrap ((r[i].toNat:Int)-48)=(r[i].toNat:Int)-48:=RM (by omega) (by omega);have Rj:rB.data[((i:Nat):Int).toNat]?=some r[i]:=by rw[A6,←AO,fY];exact Ge h
    refine Yi (by show Bf (10*DV (r.take i));unfold Bf;omega) ?_;refine Xi r[i] (Yi ⟨by show(0:Int)≤i;omega,Rj⟩ ?_);refine Yi (by show Bf (IntKind.u8.wrap ((r[i].toNat:Int)-48));rw[Zs];unfold Bf;omega) ?_;refine Yi (by show Bf (10*DV (r.take i)+IntKind.u8.wrap ((r[i].toNat:Int)-48));rw[Zs];unfold Bf;omega) ?_;refine Yi (Ii i (by omega)) ?_;have e5:vi (10*DV (r.take i)+IntKind.u8.wrap ((r[i].toNat:Int)-48))=vi (DV (r.take (i+1))):=by rw[Zs,aO]
    refine Xi ⟨i+1,by omega,by omega,fun _=>by omega,fun _=>by omega,fun _=>by omega,by omega⟩ ?_;exact⟨Dl r.length i (by omega),⟨Zr,⟨e5,rfl⟩,Zr,Zr,Tv⟩,Tv,Fh,Tv⟩
   ·intro h;have h:¬(i:Int)<(rB.size:Nat):=h;have e6:AV.tup [vi (DV (r.take i)),vb true]=WK (Gj s.data.toList):=by rw[wY,Az (by omega)]
    exact .of_eq e6
 ·have e1:Go.Lib.hasPrefix s.data.toList (⟨#[118]⟩:ByteArray).data.toList=false:=by
   cases hl:s.data.toList with
   |nil=>rfl
   |cons a l =>
    have:a≠118:=fun e=>hp ⟨l,by rw[hl,e]⟩
    show(List.isPrefixOf [118] (a::l))=false;rw[List.isPrefixOf_cons_cons]
    have:((118:UInt8) == a)=false:=by rw[beq_eq_false_iff_ne];exact fun e=>this e.symm
    rw[this];rfl
  have hv:Gj s.data.toList=none:=by
   cases hl:s.data.toList with
   |nil=>rfl
   |cons a l =>
    have:a≠118:=fun e=>hp ⟨l,by rw[hl,e]⟩
    show(if a=118 then _ else none)=none;rw[Ar this]
  rw[e1]at hc;refine Ps EI Tryz.func241 rfl (Nz rfl) ?_;refine Xi .pure (Xi _ (Yi (hc) ?_));exact .of_eq (Ac WK hv.symm)
end Go.Eng

namespace Go.Eng
open Go.Proofs
abbrev PT:Option Int→AV
 |some n=>.tup [vi n,vi 0]
 |none=>.tup [vi 0,vi 4]
theorem Lv(c:UInt8):∀(s x:List UInt8),x∈CP c s→x.length≤s.length
 | [],x,h=>by
  rw[CP]at h;rw[Au.1 h];exact Ao _
 |b::r,x,h=>by
  have ih:=Lv c r;rw[CP]at h;split at h
  ·rcases AF.1 h with rfl | h
   ·exact AL _
   ·have:=ih x h;rw[Ak];omega
  ·split at h
   ·rw[Au.1 h];rw[Ak];simp
   ·rename_i y l e;rcases AF.1 h with rfl | h
    ·have:=ih y (by rw[e];exact Ab ..);rw[Ak,Ak];omega
    ·have:=ih x (by rw[e];exact Ai _ h);rw[Ak];omega
theorem iE{p x:ByteArray}(hp:FZ p)(hx:x∈BK p):FZ x:=by
 have h:x.data.toList∈CP 47 p.data.toList:=by rw[←O4];exact Aq.2 ⟨x,hx,rfl⟩
 have:=Lv 47 _ _ h
 unfold FZ at *
 have e1:x.size=x.data.toList.length:=by simp
 have e2:p.size=p.data.toList.length:=by simp
 omega
theorem dq(p:ByteArray):(BK p).length=(CP 47 p.data.toList).length:=by rw[←O4,Lm]
theorem dt(p:ByteArray):0<(BK p).length:=by
 rw[show(BK p).length=Go.Lib.countB p YV+1 from Go.Lib.splitB_all YV (by decide) 0 _ p rfl];omega
theorem dp(p:ByteArray):(BK p).length≤p.size+1:=by
 rw[show(BK p).length=Go.Lib.countB p YV+1 from Go.Lib.splitB_all YV (by decide) 0 _ p rfl]
 have:=Go.Lib.countB_le YV (by decide) p.size p (Ao _);omega
theorem ZK(p:ByteArray)(h:(BK p).length-1<(BK p).length):(CP 47 p.data.toList).getLastD []=((BK p)[(BK p).length-1]).data.toList:=by
 rw[←O4,List.getLastD_eq_getLast?,List.getLast?_eq_getElem?,Lm,AI,Ge h];rfl
theorem dn(p:ByteArray):(CP 47 p.data.toList).all G2=(BK p).all fun x=>G2 x.data.toList:=by
 rw[←O4,List.all_map];rfl
theorem qm(p:ByteArray)(hp:FZ p):PC 211 [vs p] (PT (Bw p)):=by
 have kK:=dp p;have Zq:=dt p;have wK:(BK p).length-1<(BK p).length:=by omega
 have Ed:p.size=p.data.toList.length:=by simp
 have y7:∀{x},x∈BK p→FZ x:=fun h=>iE hp h;unfold FZ at hp;have Ry:((BK p).map EE)[((((BK p).map EE).length:Int)-1).toNat]?=some (EE (BK p)[(BK p).length-1]):=by
  rw[Lm,show(((BK p).length:Int)-1).toNat=(BK p).length-1 by omega];exact B5 (Ge wK)
 have hv:=uL (BK p)[(BK p).length-1] (y7 (Aj wK));have em:Bw p=match Gj ((BK p)[(BK p).length-1]).data.toList with
  |none=>none
  |some n=>if(decide (64<p.data.toList.length)||decide ((BK p).length<2))=true then none else if((BK p).all fun x=>G2 x.data.toList)=true then some n else none:=by
  unfold Bw PU;rw[ZK p wK,dn,←dq];cases Gj ((BK p)[(BK p).length-1]).data.toList with
  |none=>rfl
  |some n=>rfl
 cases hve:Gj ((BK p)[(BK p).length-1]).data.toList with
 |none =>
  rw[hve]at hv em;refine Ps (H2 [2,3]) Tryz.func211 rfl (Nz rfl) ?_;refine Xi .pure (Xi _ (Yi (qr p hp) ?_));refine Xi ⟨[(0,vs p),(4,sl EE (BK p))],[],Aa⟩ (Yi ⟨Z2,Tv,Fh,Tv⟩ ?_)
  refine Yi (by show Bf ((((BK p).map EE).length:Int)-1);unfold Bf;rw[Lm];omega) ?_;refine Xi (EE (BK p)[(BK p).length-1]) (Yi (Yi (by show(0:Int)≤(((BK p).map EE).length:Int)-1;rw[Lm];omega) Ry) (Yi rfl ?_));refine Xi .pure (Xi _ (Yi (hv) ?_));refine Xi ⟨[(0,vs p),(4,sl EE (BK p)),(5,vi 0),(6,vb false)],[],Aa⟩ (Yi ⟨Z4,Tv,Fh,Tv⟩ ?_)
  exact .of_eq (Ac PT em.symm)
 |some n =>
  rw[hve]at hv em;have em:Bw p=if(decide (64<p.data.toList.length)||decide ((BK p).length<2))=true then none else if((BK p).all fun x=>G2 x.data.toList)=true then some n else none:=em
  refine Ps (H2 [2,3,5]) Tryz.func211 rfl (Nz rfl) ?_;refine Xi .pure (Xi _ (Yi (qr p hp) ?_));refine Xi ⟨[(0,vs p),(4,sl EE (BK p))],[],Aa⟩ (Yi ⟨Z2,Tv,Fh,Tv⟩ ?_)
  refine Yi (by show Bf ((((BK p).map EE).length:Int)-1);unfold Bf;rw[Lm];omega) ?_;refine Xi (EE (BK p)[(BK p).length-1]) (Yi (Yi (by show(0:Int)≤(((BK p).map EE).length:Int)-1;rw[Lm];omega) Ry) (Yi rfl ?_));refine Xi .pure (Xi _ (Yi (hv) ?_));refine Xi ⟨[(0,vs p),(4,sl EE (BK p)),(5,vi n),(6,vb true)],[],Aa⟩ (Yi ⟨Z4,Tv,Fh,Tv⟩ ?_)
  refine Yi ?_ ?_
  ·intro h;have h:(64:Int)<((p.size:Nat):Int):=h;exact .of_eq (Ac PT (show(none:Option Int)=Bw p by rw[em,Av (by omega:64<p.data.toList.length)];rfl))
  intro h;have h:¬(64:Int)<((p.size:Nat):Int):=h;have d1:decide (64<p.data.toList.length)=false:=At (by omega);refine Yi ?_ ?_
  ·intro h2;have h2:(((BK p).map EE).length:Int)<2:=h2;rw[Lm]at h2;exact .of_eq (Ac PT (show(none:Option Int)=Bw p by rw[em,d1,Av (by omega:(BK p).length<2)];rfl))
  intro h2;have h2:¬(((BK p).map EE).length:Int)<2:=h2;have d2:decide ((BK p).length<2)=false:=At (by rw[Lm]at h2;omega);have yJ:Bw p=if((BK p).all fun x=>G2 x.data.toList)=true then some n else none:=by rw[em,d1,d2];rfl
  refine Xi ⟨[(4,sl EE (BK p)),(5,vi n)],[],Aa⟩ (Yi ⟨Z2,Tv,Fh,Tv⟩ ?_)
  refine Xi {i:Nat // i≤(BK p).length∧∀j (hj:j<(BK p).length),j<i→G2 ((BK p)[j]).data.toList=true} (Xi (fun i=>⟨[(5,vi n),(33,sl EE (BK p)),(34,vi ((BK p).map EE).length),(35,vi i.1)],[],Aa⟩) (Xi (fun i=>(BK p).length-i.1) (Yi (Xi ⟨0,AL _,fun j _ h=>by omega⟩ ?_) ?_)))
  ·exact⟨Z4,Tv,Fh,Tv⟩
  intro⟨i,i1,i2⟩;refine Yi ?_ ?_
  ·intro h;have h:(i:Int)<((BK p).map EE).length:=h;have h:i<(BK p).length:=by simpa using h
   have hg:(BK p)[i]?=some (BK p)[i]:=Ge h;refine Xi (EE (BK p)[i]) (Yi (Yi (Nn i) (by simp[hg])) (Yi rfl ?_));have y0:=y7 (Aj h);have hn:=uM (BK p)[i] y0;have ha:=nh (BK p)[i] 244 M7 uN (by unfold FZ at y0;have e1:(BK p)[i].size=(BK p)[i].data.toList.length:=(by simp);omega);have no:G2 ((BK p)[i]).data.toList=false→(none:Option Int)=Bw p:=fun e=>by
    rw[yJ,Ar];intro GJ
    have:=AX.1 GJ _ (Aj h)
    rw[e]at this;cases this
   refine BG (Bt (Gk ((BK p)[i]).data.toList)) (fun e1=>?_) (fun e1=>?_)
   rotate_left
   ·rw[e1]at hn;refine Xi .pure (Xi _ (Yi (hn) ?_));exact .of_eq (Ac PT (no (by unfold G2;rw[e1];rfl)))
   rw[e1]at hn;refine Xi .pure (Xi _ (Yi (hn) ?_));refine BG (Bt (((BK p)[i]).data.toList.all M7)) (fun e2=>?_) (fun e2=>?_)
   rotate_left
   ·rw[e2]at ha;refine Xi .pure (Xi _ (Yi (ha) ?_));exact .of_eq (Ac PT (no (by unfold G2;rw[e1];exact e2)))
   rw[e2]at ha;refine Xi .pure (Xi _ (Yi (ha) ?_));refine Yi (Ii i (by omega)) ?_;refine Xi ⟨i+1,by omega,fun j hj IA=>?_⟩ ?_
   ·rcases BV j i with z | z
    ·exact i2 j hj z
    ·have:j=i:=by omega
     subst this;unfold G2;rw[e1];exact e2
   ·exact⟨by show(BK p).length-(i+1)<(BK p).length-i;omega,Z4,Tv,Fh,Tv⟩
  ·intro h;have h:¬(i:Int)<((BK p).map EE).length:=h;have h:¬i<(BK p).length:=by simpa using h
   have e:some n=Bw p:=by
    rw[yJ,AB];exact AX.2 fun x hx=>by
     obtain⟨j,hj,rfl⟩:=BY hx;exact i2 j hj (by omega)
   exact .of_eq (Ac PT e)
end Go.Eng

namespace Go.Eng
open Go.Proofs
theorem uB(p:ByteArray)(hp:FZ p):PC 212 [vs p] (vb (Bw p).isSome):=by
 have hc:=qm p hp;cases h:Bw p with
 |none =>
  rw[h]at hc;refine Ps EI Tryz.func212 rfl (Nz rfl) ?_;refine Xi .pure (Xi _ (Yi (hc) ?_));refine Yi ?_ ?_
  ·intro h;exact absurd (show(4:Int)=0 from h) (by decide)
  ·intro _;exact .refl _
 |some n =>
  rw[h]at hc;refine Ps EI Tryz.func212 rfl (Nz rfl) ?_;refine Xi .pure (Xi _ (Yi (hc) ?_));refine Yi ?_ ?_
  ·intro _;exact .refl _
  ·intro h;exact absurd rfl h
theorem N2(c:UInt8):∀s:List UInt8,2≤(CP c s).length→c∈s
 | [],h=>by rw[CP]at h;simp at h
 |b::r,h=>by
  rw[CP]at h
  by_cases e:b=c
  ·exact e▸Ab ..
  ·rw[Ar e]at h;refine Ai _ (N2 c r ?_);cases hs:CP c r with
   |nil=>rw[hs]at h;simp at h
   |cons x l=>rw[hs]at h;simpa using h
theorem gT{p:ByteArray}{m:Int}(h:Bw p=some m):0≤Go.Lib.lastIndex p.data.toList [47]∧Go.Lib.lastIndex p.data.toList [47]≤p.size:=by
 have h2:2≤(CP 47 p.data.toList).length:=by
  unfold Bw PU at h;split at h
  ·cases h
  ·split at h
   ·cases h
   ·rename_i hn;simp only[CQ,AE]at hn;omega
 have hm:=N2 47 _ h2;obtain⟨i,hi,e⟩:=BY hm;have Ed:p.size=p.data.toList.length:=by simp
 unfold Go.Lib.lastIndex;rw[AB (by simp only[AC];omega)];have wF:Go.Lib.occAt p.data.toList [47] i=true:=by
  unfold Go.Lib.occAt;rw[Bk hi,e];simp
 rcases Go.Lib.lastOcc_spec p.data.toList [47] (p.data.toList.length - [(47:UInt8)].length+1)with ⟨_,h3⟩ | ⟨j,h3,h4,_⟩
 ·have:=h3 i (by simp only[AC];omega)
  rw[wF]at this;cases this
 ·rw[h4];simp only[AC]at h3;omega
abbrev Wr(p:ByteArray):ByteArray:=p.extract 0 (Go.Lib.lastIndex p.data.toList [47]).toNat
theorem jY:T8 Wr:=by
 intro p hp;have hc:=qm p hp;have hi:=uB p hp;unfold Tn;cases h:Bw p with
 |none =>
  rw[h]at hc hi;refine Ps EI Tryz.func163 rfl (Nz rfl) ?_;refine Xi .pure (Xi _ (Yi (hc) ?_));refine Xi .pure (Xi _ (Yi (hi) ?_));exact .refl _
 |some n =>
  rw[h]at hc hi;obtain⟨l1,l2⟩:=gT h;have hl:PC 213 [vs p,vs YV] (vi (Go.Lib.lastIndex p.data.toList [47])):=uC p YV hp;refine Ps EI Tryz.func163 rfl (Nz rfl) ?_;refine Xi .pure (Xi _ (Yi (hc) ?_));refine Xi .pure (Xi _ (Yi (hi) ?_));refine Yi ?_ ?_
  ·intro h;exact absurd rfl h
  intro _;refine Xi .pure (Xi _ (Yi (hl) ?_));refine Yi ⟨BQ _,l1,l2⟩ ?_;exact .refl _
end Go.Eng

namespace Go.Eng
open Go.Proofs
end Go.Eng

namespace Go.Eng
open Go.Proofs
end Go.Eng

namespace Go.Eng
open Go.Proofs
theorem JB{l:List Rq}(h:Bm l=0):l.length≤16:=by
 unfold Bm at h;split at h
 ·cases h
 ·omega
theorem Kd{x:List Rl}(h:A7 x=0):x.length≤256∧∀r∈x,r.reqs.length≤16:=by
 have h1:x.length≤256:=by
  unfold A7 at h;split at h
  ·cases h
  ·omega
 exact⟨h1,fun r hr=>JB ((CN h).1 r hr).reqs⟩
theorem fH{x:List Rl}(h:∀r∈x,r.reqs.length≤16):((x.map (·.reqs)).flatten).length≤x.length*16:=by
 induction x with
 |nil=>simp
 |cons r x ih =>
  rw[AN,Bq,Ad,Ak]
  have:=h r (Ab ..)
  have:=ih fun s hs=>h s (Ai _ hs)
  omega
theorem ZN{x:List Rl}{roots:List Rq}{l:List Nf}(h1:A7 x=0)(h2:Bm roots=0)(h3:l.length≤65536):(Kj x roots l).length≤100000:=by
 obtain⟨a,b⟩:=Kd h1
 have:=fH b
 have:=JB h2
 unfold Kj;simp only[Ad,Lm];omega
theorem Uy.fewI{U:List ByteArray}{t:List Tm}(h:Uy U t)(hu:U.length≤100000):mL t :=
 ⟨by have:=h.len;omega,fun u hu=>Oz (h.1.canon u hu)⟩
end Go.Eng

namespace Go.Eng
open Go.Proofs
abbrev Mm(x:List Rl)(ifs:List (List AV)):AV:=.agg (Ic x ifs)
end Go.Eng

namespace Go.Eng
open Go.Proofs
abbrev WS:EL:=⟨true,[.str,.int .i64,.int .i64,.int .i64]⟩
abbrev Te(y:Sl):Value:=.agg #[.string y.path,.int .i64 y.ver.a,.int .i64 y.ver.b,.int .i64 y.ver.c]
abbrev Vc(r:Rl):Value×AV:=(Te (Fz r),.agg (AY r))
def AP:List Rl→List ByteArray→List ByteArray
 | [],acc=>acc
 |r::x,acc=>AP x (if acc.any (fun p=>decide (p=r.path))then acc else acc++[r.path])
abbrev mB(x:List Rl)(p:ByteArray):Value×AV:=(.string p,sl AY (x.filter fun r=>decide (r.path=p)))
abbrev af(x:List Rl):AV:=if A7 x=0 then .tup [.agg [.cmap WS (x.map Vc),.cmap DI ((AP x []).map (mB x))],vi 0]else .tup [.agg [.cmap WS [],.cmap DI []],vi (A7 x)]
abbrev l5(x:List Rl)(ifs:List (List AV)):Prop:=PC 95 [Mm x ifs] (af x)
theorem kU{y z:Sl}(h:Te y=Te z):y=z:=by
 obtain⟨p,⟨a,b,c⟩⟩:=y;obtain⟨q,⟨d,e,f⟩⟩:=z;simp only[Te,Value.agg.injEq,Array.mk.injEq,FF,Value.string.injEq,Value.int.injEq,true_and,RY]at h;obtain⟨rfl,rfl,rfl,rfl⟩:=h
 rfl
theorem kZ{x:List Rl}{y:Sl}{a:AV}(h:(Te y,a)∈x.map Vc):∃r∈x,Fz r=y∧a=.agg (AY r):=by
 obtain⟨r,h1,h2⟩:=Aq.1 h;simp only[Vc,FV]at h2;exact⟨r,h1,kU h2.1,h2.2.symm⟩
end Go.Eng
