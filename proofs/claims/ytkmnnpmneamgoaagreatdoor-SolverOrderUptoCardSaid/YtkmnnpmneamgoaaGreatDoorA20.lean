/- Lemmas for the claims of this seat, without a condition: part 20 (C34, C35, C36, C37, C38, C39, LayStr, C40, C41, C42). -/
import Derived.Test.YtkmnnpmneamgoaaGreatDoorA19
import Derived.Shelf.Strings.SplitShaped
import Derived.Shelf.Strings.LastIndexAll
import Derived.Shelf.Strings.Search3
import Derived.Shelf.Small.Wraps
import Derived.Ground.NamesProg
namespace Go.Eng
open Go.Proofs
theorem sM(a b:Rl):PC 114 [.agg (A5 a),.agg (A5 b)] (vi (RX a b)):=by
 refine Ps FC Tryz.func114 rfl (Nz rfl) ?_;refine Xi _ (Yi (sX a.path b.path) ?_);refine Yi (Nz rfl) (Yi (Nz rfl) ?_);refine Xi _ (Yi (sY a.ver b.ver) ?_);refine Xi _ (Yi (sW (Od a.path b.path) (RY a.ver b.ver)) ?_);refine Yi (by kernel_rfl) ?_;exact .refl _
abbrev HP(s:ByteArray):Prop:=s.size≤1073741824
abbrev Js(q:Rq):Prop:=Cv q.set∧HP q.path
abbrev Io(r:Rl):Prop:=HP r.path∧∀q∈r.reqs,Js q
abbrev aa(nm:ByteArray→ByteArray)(p:ByteArray):AV:=match CI p with
 |some m=>.tup [vs (nm p),vi m,vi 0]
 |none=>.tup [vs ⟨#[]⟩,vi 0,vi 4]
abbrev TN(nm:ByteArray→ByteArray):Prop:=∀p:ByteArray,HP p→PC 163 [vs p] (aa nm p)
theorem TN.none{nm:ByteArray→ByteArray}(h:TN nm){p:ByteArray}(hp:HP p)(e:CI p=.none):PC 163 [vs p] (.tup [vs ⟨#[]⟩,vi 0,vi 4]):=by
 have:=h p hp;unfold aa at this;rw[e]at this;exact this
theorem TN.some{nm:ByteArray→ByteArray}(h:TN nm){p:ByteArray}{m:Int}(hp:HP p)(e:CI p=.some m):PC 163 [vs p] (.tup [vs (nm p),vi m,vi 0]):=by
 have:=h p hp;unfold aa at this;rw[e]at this;exact this
theorem pg{nm:ByteArray→ByteArray}(hL:TN nm)(q:Rq)(hq:Cv q.set)(hp:HP q.path):PC 115 [.agg (Ah q),.v (.pointer none)] (vi (GN none q)):=by
 cases TK:CI q.path with
 |none =>
  have e:(4:Int)=GN none q:=by unfold GN;rw[TK];rfl
  have hl:=hL.none hp TK;refine Ps FC Tryz.func115 rfl (Nz rfl) ?_;refine Xi .pure (Xi _ (Yi (hl) ?_));refine Yi ?_ ?_
  ·intro _;exact .of_eq (Ae vi e)
  ·intro h;exact absurd (show(4:Int)≠0 by decide) h
 |some m =>
  have er:GN none q=if(q.set.isEmpty||!decide (q.set=canon q.set)||false)=true then 1 else 0:=by unfold GN;rw[TK];rfl
  have hl:=hL.some hp TK;have hc:=WE q.set hq;have he:=pi q.set (canon q.set) hq;have TY:∀{n:Int},n=(q.set.map Ap).length→n=0→q.set.isEmpty=true:=fun h1 h2=>by
   rw[Lm]at h1;rw[GR];exact AJ (by omega)
  have fE:¬((q.set.map Ap).length:Int)=0→q.set.isEmpty=false:=fun h=>by
   cases hqs:q.set with
   |nil=>rw[hqs]at h;exact absurd rfl h
   |cons a l=>rfl
  rcases Bt (decide (q.set=canon q.set))with h2 | h2
  ·rw[h2]at he;refine Ps (EL [2,4]) Tryz.func115 rfl (Nz rfl) ?_;refine Xi .pure (Xi _ (Yi (hl) ?_));refine Xi ⟨[(1,.v (.pointer none)),(2,.ref 2 0),(7,vi 0)],[(2,.cells (Ah q))],Aa⟩ (Yi ⟨Z3,Z1,Fh,Tv⟩ ?_)
   refine Yi ?_ ?_
   ·intro h;exact absurd rfl h
   intro _;refine Xi ⟨[(1,.v (.pointer none)),(2,.ref 2 0)],[(2,.cells (Ah q))],Aa⟩ (Yi ⟨Z2,Z1,Fh,Tv⟩ ?_)
   refine Yi ?_ ?_
   ·intro h;have h:((q.set.map Ap).length:Int)=0:=h;have e:(1:Int)=GN none q:=by rw[er,TY rfl h];rfl
    refine Yi (by kernel_rfl) ?_;exact .of_eq (Ae vi e)
   intro h;have h:¬((q.set.map Ap).length:Int)=0:=h;have hn:=fE h;refine Xi _ (Yi (hc) ?_);refine Xi _ (Yi (he) ?_);refine Yi (by kernel_rfl) ?_;have e:(0:Int)=GN none q:=by rw[er,hn,h2];rfl
   exact .of_eq (Ae vi e)
  ·rw[h2]at he;refine Ps (EL [2,4]) Tryz.func115 rfl (Nz rfl) ?_;refine Xi .pure (Xi _ (Yi (hl) ?_));refine Xi ⟨[(1,.v (.pointer none)),(2,.ref 2 0),(7,vi 0)],[(2,.cells (Ah q))],Aa⟩ (Yi ⟨Z3,Z1,Fh,Tv⟩ ?_)
   refine Yi ?_ ?_
   ·intro h;exact absurd rfl h
   intro _;refine Xi ⟨[(1,.v (.pointer none)),(2,.ref 2 0)],[(2,.cells (Ah q))],Aa⟩ (Yi ⟨Z2,Z1,Fh,Tv⟩ ?_)
   refine Yi ?_ ?_
   ·intro h;have h:((q.set.map Ap).length:Int)=0:=h;have e:(1:Int)=GN none q:=by rw[er,TY rfl h];rfl
    refine Yi (by kernel_rfl) ?_;exact .of_eq (Ae vi e)
   intro h;have h:¬((q.set.map Ap).length:Int)=0:=h;have hn:=fE h;refine Xi _ (Yi (hc) ?_);refine Xi _ (Yi (he) ?_);refine Yi (by kernel_rfl) ?_;have e:(1:Int)=GN none q:=by rw[er,hn,h2];rfl
   exact .of_eq (Ae vi e)
theorem ph{nm:ByteArray→ByteArray}(hL:TN nm)(q b:Rq)(hq:Cv q.set)(hp:HP q.path):PC 115 [.agg (Ah q),.cptr (Ah b)] (vi (GN (some b.path) q)):=by
 cases TK:CI q.path with
 |none =>
  have e:(4:Int)=GN (some b.path) q:=by unfold GN;rw[TK];rfl
  have hl:=hL.none hp TK;refine Ps FC Tryz.func115 rfl (Nz rfl) ?_;refine Xi .pure (Xi _ (Yi (hl) ?_));refine Yi ?_ ?_
  ·intro _;exact .of_eq (Ae vi e)
  ·intro h;exact absurd (show(4:Int)≠0 by decide) h
 |some m =>
  have er:GN (some b.path) q=if(q.set.isEmpty||!decide (q.set=canon q.set)||!FV b.path q.path)=true then 1 else 0:=by unfold GN;rw[TK];rfl
  have hl:=hL.some hp TK;have hc:=WE q.set hq;have he:=pi q.set (canon q.set) hq;have TY:∀{n:Int},n=(q.set.map Ap).length→n=0→q.set.isEmpty=true:=fun h1 h2=>by
   rw[Lm]at h1;rw[GR];exact AJ (by omega)
  have fE:¬((q.set.map Ap).length:Int)=0→q.set.isEmpty=false:=fun h=>by
   cases hqs:q.set with
   |nil=>rw[hqs]at h;exact absurd rfl h
   |cons a l=>rfl
  rcases Bt (decide (q.set=canon q.set))with h2 | h2
  ·rw[h2]at he;refine Ps (EL [2,4]) Tryz.func115 rfl (Nz rfl) ?_;refine Xi .pure (Xi _ (Yi (hl) ?_));refine Xi ⟨[(1,.cptr (Ah b)),(2,.ref 2 0),(7,vi 0)],[(2,.cells (Ah q))],Aa⟩ (Yi ⟨Z3,Z1,Fh,Tv⟩ ?_)
   refine Yi ?_ ?_
   ·intro h;exact absurd rfl h
   intro _;refine Xi ⟨[(1,.cptr (Ah b)),(2,.ref 2 0)],[(2,.cells (Ah q))],Aa⟩ (Yi ⟨Z2,Z1,Fh,Tv⟩ ?_)
   refine Yi ?_ ?_
   ·intro h;have h:((q.set.map Ap).length:Int)=0:=h;have e:(1:Int)=GN (some b.path) q:=by rw[er,TY rfl h];rfl
    refine Yi (by kernel_rfl) ?_;exact .of_eq (Ae vi e)
   intro h;have h:¬((q.set.map Ap).length:Int)=0:=h;have hn:=fE h;refine Xi _ (Yi (hc) ?_);refine Xi _ (Yi (he) ?_);refine Yi ?_ ?_
   ·intro h3;have h3:Op.bytesLess b.path.toList q.path.toList=false:=h3;refine Yi (by kernel_rfl) ?_;have e:(1:Int)=GN (some b.path) q:=by rw[er,hn,h2,G1,h3];rfl
    exact .of_eq (Ae vi e)
   ·intro h3;have h3:¬Op.bytesLess b.path.toList q.path.toList=false:=h3;have h3:Op.bytesLess b.path.toList q.path.toList=true:=by simpa using h3
    refine Yi (by kernel_rfl) ?_;have e:(0:Int)=GN (some b.path) q:=by rw[er,hn,h2,G1,h3];rfl
    exact .of_eq (Ae vi e)
  ·rw[h2]at he;refine Ps (EL [2,4]) Tryz.func115 rfl (Nz rfl) ?_;refine Xi .pure (Xi _ (Yi (hl) ?_));refine Xi ⟨[(1,.cptr (Ah b)),(2,.ref 2 0),(7,vi 0)],[(2,.cells (Ah q))],Aa⟩ (Yi ⟨Z3,Z1,Fh,Tv⟩ ?_)
   refine Yi ?_ ?_
   ·intro h;exact absurd rfl h
   intro _;refine Xi ⟨[(1,.cptr (Ah b)),(2,.ref 2 0)],[(2,.cells (Ah q))],Aa⟩ (Yi ⟨Z2,Z1,Fh,Tv⟩ ?_)
   refine Yi ?_ ?_
   ·intro h;have h:((q.set.map Ap).length:Int)=0:=h;have e:(1:Int)=GN (some b.path) q:=by rw[er,TY rfl h];rfl
    refine Yi (by kernel_rfl) ?_;exact .of_eq (Ae vi e)
   intro h;have h:¬((q.set.map Ap).length:Int)=0:=h;have hn:=fE h;refine Xi _ (Yi (hc) ?_);refine Xi _ (Yi (he) ?_);refine Yi (by kernel_rfl) ?_;have e:(1:Int)=GN (some b.path) q:=by rw[er,hn,h2];rfl
   exact .of_eq (Ae vi e)
end Go.Eng

namespace Go.Eng
open Go.Proofs
abbrev Mr(l:List Rq)(k:Nat):List AV:=((l.map Ah)[k]?).getD []
abbrev pe(l:List Rq):Nat→AV
 |0=>.v (.pointer none)
 |k+1=>.cptr (Mr l k)
abbrev Kk(l:List Rq):Nat→Option ByteArray
 |0=>none
 |k+1=>(l[k]?).map (·.path)
theorem Np{l:List Rq}{k:Nat}(h:k<l.length):Mr l k=Ah l[k]:=by
 unfold Mr;rw[AH,Ge h];rfl
theorem RO{l:List Rq}{k:Nat}(h:k<l.length):Kk l (k+1)=some l[k].path:=by
 show(l[k]?).map _=_;rw[Ge h];rfl
theorem tG{nm:ByteArray→ByteArray}(hL:TN nm)(l:List Rq)(hs:∀q∈l,Js q):PC 60 [sl Ah l] (vi (BE l)):=by
 refine Ps (EL [8]) Tryz.func60 rfl (Nz rfl) ?_;refine Yi ?_ ?_
 ·intro h;have h:(16:Int)<(l.map Ah).length:=h;exact .of_eq (Ae vi (show(7:Int)=BE l by unfold BE;rw[Aw (by rw[Lm]at h;omega)]))
 intro h;have h:¬(16:Int)<(l.map Ah).length:=h;have hl:l.length≤16:=by rw[Lm]at h;omega
 have TJ:BE l=FW none l:=by unfold BE;rw[Am (by omega)]
 refine Xi {i:Nat // i≤l.length∧FW none l=FW (Kk l i) (l.drop i)} (Xi (fun i=>⟨[(0,sl Ah l),(3,pe l i.1),(10,sl Ah l),(11,vi (l.map Ah).length),(12,vi i.1)],[],Aa⟩) (Xi (fun i=>l.length-i.1) (Yi (Xi ⟨0,AS _,rfl⟩ ?_) ?_)))
 ·exact⟨Z5,Tv,Fh,Tv⟩
 intro⟨i,h1,h2⟩;refine Yi ?_ ?_
 ·intro h;have h:(i:Int)<(l.map Ah).length:=h;have h:i<l.length:=by simpa using h
  have hg:l[i]?=some l[i]:=Ge h;have hd:l.drop i=l[i]::l.drop (i+1):=Br h;have hq:=hs l[i] (AC h);have hc:PC 115 [.agg (Ah l[i]),pe l i] (vi (GN (Kk l i) l[i])):=by
   cases i with
   |zero=>exact pg hL _ hq.1 hq.2
   |succ k =>
    rw[RO (by omega:k<l.length)];show PC 115 [_,.cptr (Mr l k)] _;rw[Np (by omega:k<l.length)];exact ph hL _ _ hq.1 hq.2
  have IW:FW none l=if GN (Kk l i) l[i]=0 then FW (some l[i].path) (l.drop (i+1))else GN (Kk l i) l[i]:=by rw[h2,hd];rfl
  match i,h1,h2,h,hg,hd,hc,IW with
  |0,h1,h2,h,hg,hd,hc,IW =>
   refine Xi (Ah l[0]) (Yi (Yi (by show(0:Int)≤((0:Nat):Int);omega) (by simp[hg])) (Yi rfl ?_));refine Yi (Nz rfl) (Yi (Nz rfl) (Yi (Nz rfl) ?_));refine Xi .pure (Xi _ (Yi (hc) ?_));refine Xi ⟨[(0,sl Ah l),(4,vi ((0:Nat):Int)),(6,vi (GN (Kk l (0)) l[0])),(10,sl Ah l),(11,vi (l.map Ah).length),(12,vi ((0:Nat):Int))],[],Aa⟩ (Yi ⟨Z6,Tv,Fh,Tv⟩ ?_)
   refine Yi ?_ ?_
   ·intro h4;have h4:GN (Kk l (0)) l[0]≠0:=h4;exact .of_eq (Ae vi (show GN (Kk l (0)) l[0]=BE l by rw[TJ,IW,Am h4]))
   ·intro h4;have h4:¬GN (Kk l (0)) l[0]≠0:=h4;refine Xi (Ah l[0]) (Yi (Yi (by show(0:Int)≤((0:Nat):Int);omega) (by simp[hg])) (Yi rfl ?_));refine Yi (by show BQ (((0:Nat):Int)+1);unfold BQ;omega) ?_;refine Xi ⟨0+1,by omega,by rw[IW,Aw (Ef h4),RO h]⟩ ?_;have e1:AV.cptr (Ah l[0])=.cptr (Mr l (0)):=by rw[Np h]
    exact⟨by show l.length-(0+1)<l.length-(0);omega,⟨Zr,⟨e1,rfl⟩,Zr,Zr,Zr,Tv⟩,Tv,Fh,Tv⟩
  |k+1,h1,h2,h,hg,hd,hc,IW =>
   refine Xi (Ah l[k+1]) (Yi (Yi (by show(0:Int)≤((k+1:Nat):Int);omega) (by simp[hg])) (Yi rfl ?_));refine Yi (Nz rfl) (Yi (Nz rfl) (Yi (Nz rfl) ?_));refine Xi .pure (Xi _ (Yi (hc) ?_));refine Xi ⟨[(0,sl Ah l),(4,vi ((k+1:Nat):Int)),(6,vi (GN (Kk l (k+1)) l[k+1])),(10,sl Ah l),(11,vi (l.map Ah).length),(12,vi ((k+1:Nat):Int))],[],Aa⟩ (Yi ⟨Z6,Tv,Fh,Tv⟩ ?_)
   refine Yi ?_ ?_
   ·intro h4;have h4:GN (Kk l (k+1)) l[k+1]≠0:=h4;exact .of_eq (Ae vi (show GN (Kk l (k+1)) l[k+1]=BE l by rw[TJ,IW,Am h4]))
   ·intro h4;have h4:¬GN (Kk l (k+1)) l[k+1]≠0:=h4;refine Xi (Ah l[k+1]) (Yi (Yi (by show(0:Int)≤((k+1:Nat):Int);omega) (by simp[hg])) (Yi rfl ?_));refine Yi (by show BQ (((k+1:Nat):Int)+1);unfold BQ;omega) ?_;refine Xi ⟨k+1+1,by omega,by rw[IW,Aw (Ef h4),RO h]⟩ ?_;have e1:AV.cptr (Ah l[k+1])=.cptr (Mr l (k+1)):=by rw[Np h]
    exact⟨by show l.length-(k+1+1)<l.length-(k+1);omega,⟨Zr,⟨e1,rfl⟩,Zr,Zr,Zr,Tv⟩,Tv,Fh,Tv⟩
 ·intro h;have h:¬(i:Int)<(l.map Ah).length:=h;have h:¬i<l.length:=by simpa using h
  have e:(0:Int)=BE l:=by rw[TJ,h2,TO (by omega)];rfl
  exact .of_eq (Ae vi e)
end Go.Eng

namespace Go.Eng
open Go.Proofs
abbrev ek(r:Rl):Nat→ByteArray
 |0=>r.arch
 |1=>r.ifc
 |_=>r.cert
theorem mG{r:Rl}(h:∀j,j<3→ES (ek r j)=true):(ES r.arch&&ES r.ifc&&ES r.cert)=true:=by
 have h0:ES r.arch=true:=h 0 (by decide);have h1:ES r.ifc=true:=h 1 (by decide);have h2:ES r.cert=true:=h 2 (by decide);rw[h0,h1,h2];rfl
theorem YB{r:Rl}{i:Nat}(hi:i<3)(h:ES (ek r i)=false):(ES r.arch&&ES r.ifc&&ES r.cert)=false:=by
 match i,hi,h with
 |0,_,h=>have h:ES r.arch=false:=h;rw[h];rfl
 |1,_,h=>have h:ES r.ifc=false:=h;rw[h,DN];rfl
 |2,_,h=>have h:ES r.cert=false:=h;rw[h,DN]
theorem sL{nm:ByteArray→ByteArray}(hL:TN nm)(r:Rl)(hr:Io r):PC 112 [.agg (A5 r)] (vi (DS r)):=by
 cases TK:CI r.path with
 |none =>
  have e:(4:Int)=DS r:=by unfold DS;rw[TK]
  have hl:=hL.none hr.1 TK;refine Ps FC Tryz.func112 rfl (Nz rfl) ?_;refine Xi .pure (Xi _ (Yi (hl) ?_));refine Yi ?_ ?_
  ·intro _;exact .of_eq (Ae vi e)
  ·intro h;exact absurd (show(4:Int)≠0 by decide) h
 |some m =>
  have er:DS r=if(!CL r.ver||!decide (r.ver.a=m))=true then 2 else if BE r.reqs≠0 then BE r.reqs else if(ES r.arch&&ES r.ifc&&ES r.cert)=true then 0 else 1:=by unfold DS;rw[TK]
  have hl:=hL.some hr.1 TK;have hv:=pf r.ver;have hc:=tG hL r.reqs hr.2;rcases Bt (CL r.ver)with h2 | h2
  ·rw[h2]at hv;refine Ps (EL [2,4,6,7,9]) Tryz.func112 rfl (Nz rfl) ?_;refine Xi .pure (Xi _ (Yi (hl) ?_));refine Xi ⟨[(1,.ref 1 0),(4,vi m),(5,vi 0)],[(1,.cells (A5 r))],Aa⟩ (Yi ⟨Z3,Z1,Fh,Tv⟩ ?_)
   refine Yi ?_ ?_
   ·intro h;exact absurd rfl h
   intro _;refine Xi ⟨[(1,.ref 1 0),(4,vi m)],[(1,.cells (A5 r))],Aa⟩ (Yi ⟨Z2,Z1,Fh,Tv⟩ ?_)
   refine Yi (Nz rfl) ?_;refine Xi .pure (Xi _ (Yi (hv) ?_));refine Yi ?_ ?_
   ·intro h;have h:r.ver.a≠m:=h;have e:(2:Int)=DS r:=by rw[er,h2,AD h];rfl
    exact .of_eq (Ae vi e)
   intro h;have h:¬r.ver.a≠m:=h;have h3:r.ver.a=m:=Ef h;have xi:DS r=if BE r.reqs≠0 then BE r.reqs else if(ES r.arch&&ES r.ifc&&ES r.cert)=true then 0 else 1:=by rw[er,h2,AE h3];rfl
   refine Xi ⟨[(1,.ref 1 0)],[(1,.cells (A5 r))],Aa⟩ (Yi ⟨Z1,Z1,Fh,Tv⟩ ?_)
   refine Xi .pure (Xi _ (Yi (hc) ?_));refine Xi ⟨[(1,.ref 1 0),(6,vi (BE r.reqs))],[(1,.cells (A5 r))],Aa⟩ (Yi ⟨Z2,Z1,Fh,Tv⟩ ?_)
   refine Yi ?_ ?_
   ·intro h4;have h4:BE r.reqs≠0:=h4;exact .of_eq (Ae vi (show BE r.reqs=DS r by rw[xi,Aw h4]))
   intro h4;have h4:¬BE r.reqs≠0:=h4;have rU:DS r=if(ES r.arch&&ES r.ifc&&ES r.cert)=true then 0 else 1:=by rw[xi,Am h4]
   refine Xi ⟨[(1,.ref 1 0)],[(1,.cells (A5 r))],Aa⟩ (Yi ⟨Z1,Z1,Fh,Tv⟩ ?_)
   refine Xi {i:Nat // i≤3∧∀j,j<i→ES (ek r j)=true} (Xi (fun i=>⟨[(41,.slice (.id 41 1) [[vs r.arch],[vs r.ifc],[vs r.cert]]),(42,vi 3),(43,vi i.1)],[(41,.tok 1 3)],Aa⟩) (Xi (fun i=>3-i.1) (Yi (Xi ⟨0,by omega,fun j h=>by omega⟩ ?_) ?_)))
   ·exact⟨Z3,Z1,Fh,Tv⟩
   intro⟨i,i1,i2⟩;refine Yi ?_ ?_
   ·intro h;have h:(i:Int)<3:=h;have next:ES (ek r i)=true→∀j,j<i+1→ES (ek r j)=true:=fun hz j hj=>by
     rcases DV j i with q | q
     ·exact i2 j q
     ·have:j=i:=by omega
      subst this;exact hz
    match i,i1,i2,h,next with
    |0,i1,i2,h,next =>
     refine Xi [vs r.arch] (Yi (Yi (by show(0:Int)≤0;decide) rfl) (Yi rfl ?_));refine Yi ?_ ?_
     ·intro h5;have h5:((r.arch.size:Nat):Int)≠0:=h5;refine Yi ?_ ?_
      ·intro h6;have h6:((r.arch.size:Nat):Int)≠32:=h6;have e:(1:Int)=DS r:=by rw[rU,YB (i:=0) (by decide) (show ES r.arch=false by unfold ES;rw[AD (by omega),AD (by omega)];rfl)];rfl
       exact .of_eq (Ae vi e)
      ·intro h6;have h6:¬((r.arch.size:Nat):Int)≠32:=h6;refine Yi (Ii 0 (by omega)) ?_;refine Xi ⟨1,by omega,next (show ES r.arch=true by unfold ES;rw[AE (by omega:r.arch.size=32),Bool.or_true])⟩ ?_
       exact⟨by show 3-1<3-0;decide,Z3,Z1,Fh,Tv⟩
     ·intro h5;have h5:¬((r.arch.size:Nat):Int)≠0:=h5;refine Yi (Ii 0 (by omega)) ?_;refine Xi ⟨1,by omega,next (show ES r.arch=true by unfold ES;rw[AE (by omega:r.arch.size=0)];rfl)⟩ ?_
      exact⟨by show 3-1<3-0;decide,Z3,Z1,Fh,Tv⟩
    |1,i1,i2,h,next =>
     refine Xi [vs r.ifc] (Yi (Yi (by show(0:Int)≤1;decide) rfl) (Yi rfl ?_));refine Yi ?_ ?_
     ·intro h5;have h5:((r.ifc.size:Nat):Int)≠0:=h5;refine Yi ?_ ?_
      ·intro h6;have h6:((r.ifc.size:Nat):Int)≠32:=h6;have e:(1:Int)=DS r:=by rw[rU,YB (i:=1) (by decide) (show ES r.ifc=false by unfold ES;rw[AD (by omega),AD (by omega)];rfl)];rfl
       exact .of_eq (Ae vi e)
      ·intro h6;have h6:¬((r.ifc.size:Nat):Int)≠32:=h6;refine Yi (Ii 1 (by omega)) ?_;refine Xi ⟨2,by omega,next (show ES r.ifc=true by unfold ES;rw[AE (by omega:r.ifc.size=32),Bool.or_true])⟩ ?_
       exact⟨by show 3-2<3-1;decide,Z3,Z1,Fh,Tv⟩
     ·intro h5;have h5:¬((r.ifc.size:Nat):Int)≠0:=h5;refine Yi (Ii 1 (by omega)) ?_;refine Xi ⟨2,by omega,next (show ES r.ifc=true by unfold ES;rw[AE (by omega:r.ifc.size=0)];rfl)⟩ ?_
      exact⟨by show 3-2<3-1;decide,Z3,Z1,Fh,Tv⟩
    |2,i1,i2,h,next =>
     refine Xi [vs r.cert] (Yi (Yi (by show(0:Int)≤2;decide) rfl) (Yi rfl ?_));refine Yi ?_ ?_
     ·intro h5;have h5:((r.cert.size:Nat):Int)≠0:=h5;refine Yi ?_ ?_
      ·intro h6;have h6:((r.cert.size:Nat):Int)≠32:=h6;have e:(1:Int)=DS r:=by rw[rU,YB (i:=2) (by decide) (show ES r.cert=false by unfold ES;rw[AD (by omega),AD (by omega)];rfl)];rfl
       exact .of_eq (Ae vi e)
      ·intro h6;have h6:¬((r.cert.size:Nat):Int)≠32:=h6;refine Yi (Ii 2 (by omega)) ?_;refine Xi ⟨3,by omega,next (show ES r.cert=true by unfold ES;rw[AE (by omega:r.cert.size=32),Bool.or_true])⟩ ?_
       exact⟨by show 3-3<3-2;decide,Z3,Z1,Fh,Tv⟩
     ·intro h5;have h5:¬((r.cert.size:Nat):Int)≠0:=h5;refine Yi (Ii 2 (by omega)) ?_;refine Xi ⟨3,by omega,next (show ES r.cert=true by unfold ES;rw[AE (by omega:r.cert.size=0)];rfl)⟩ ?_
      exact⟨by show 3-3<3-2;decide,Z3,Z1,Fh,Tv⟩
    |i+3,i1,i2,h,next=>omega
   ·intro h;have h:¬(i:Int)<3:=h;have e:(0:Int)=DS r:=by rw[rU,Aw (mG fun j hj=>i2 j (by omega))]
    exact .of_eq (Ae vi e)
  ·rw[h2]at hv;have e:(2:Int)=DS r:=by rw[er,h2];rfl
   refine Ps (EL [2,4]) Tryz.func112 rfl (Nz rfl) ?_;refine Xi .pure (Xi _ (Yi (hl) ?_));refine Xi ⟨[(1,.ref 1 0),(4,vi m),(5,vi 0)],[(1,.cells (A5 r))],Aa⟩ (Yi ⟨Z3,Z1,Fh,Tv⟩ ?_)
   refine Yi ?_ ?_
   ·intro h;exact absurd rfl h
   intro _;refine Xi ⟨[(1,.ref 1 0),(4,vi m)],[(1,.cells (A5 r))],Aa⟩ (Yi ⟨Z2,Z1,Fh,Tv⟩ ?_)
   refine Yi (Nz rfl) ?_;refine Xi .pure (Xi _ (Yi (hv) ?_));exact .of_eq (Ae vi e)
end Go.Eng

namespace Go.Eng
open Go.Proofs
theorem nw{a b:Rl}(h:a.path=b.path∧a.ver.a=b.ver.a∧a.ver.b=b.ver.b∧a.ver.c=b.ver.c):Gi a=Gi b:=by
 unfold Gi;obtain⟨h1,h2,h3,h4⟩:=h
 have:a.ver=b.ver:=by
  cases ha:a.ver;cases hb:b.ver;rw[ha,hb]at h2 h3 h4;simp_all
 rw[h1,this]
theorem cb{a b:Rl}(h:Gi a=Gi b):a.path=b.path∧a.ver.a=b.ver.a∧a.ver.b=b.ver.b∧a.ver.c=b.ver.c:=by
 unfold Gi at h
 injection h with h1 h2
 exact⟨h1,by rw[h2],by rw[h2],by rw[h2]⟩
abbrev jj(x:List Rl):Nat→Option Rl
 |0=>none
 |k+1=>x[k]?
theorem rT{nm:ByteArray→ByteArray}(hL:TN nm)(x:List Rl)(ifs:List (List AV))(hs:∀r∈x,Io r):PC 59 [.agg (Ic x ifs)] (vi (A6 x)):=by
 refine Ps (EL [7,9,11,13]) Tryz.func59 rfl (Nz rfl) ?_;refine Yi ?_ ?_
 ·intro h;have h:(256:Int)<(x.map A5).length:=h;exact .of_eq (Ae vi (show(7:Int)=A6 x by unfold A6;rw[Aw (by rw[Lm]at h;omega)]))
 intro h;have h:¬(256:Int)<(x.map A5).length:=h;have hl:x.length≤256:=by rw[Lm]at h;omega
 have TJ:A6 x=Eo none x:=by unfold A6;rw[Am (by omega)]
 refine Xi {i:Nat // i≤x.length∧Eo none x=Eo (jj x i) (x.drop i)} (Xi (fun i=>⟨[(1,.ref 1 0),(12,sl A5 x),(13,vi (x.map A5).length),(14,vi i.1)],[(1,.cells (Ic x ifs))],Aa⟩) (Xi (fun i=>x.length-i.1) (Yi (Xi ⟨0,AS _,rfl⟩ ?_) ?_)))
 ·exact⟨Z4,Z1,Fh,Tv⟩
 intro⟨i,h1,h2⟩;refine Yi ?_ ?_
 ·intro h;have h:(i:Int)<(x.map A5).length:=h;have h:i<x.length:=by simpa using h
  have hg:x[i]?=some x[i]:=Ge h;have hd:x.drop i=x[i]::x.drop (i+1):=Br h;have hc:=sL hL x[i] (hs x[i] (AC h));have IW:Eo none x=if DS x[i]≠0 then DS x[i]else match jj x i with
   |none=>Eo (some x[i]) (x.drop (i+1))
   |some b=>if Gi b=Gi x[i]then 5 else if 0<RX b x[i]then 1 else Eo (some x[i]) (x.drop (i+1)):=by rw[h2,hd];rfl
  have lA:jj x (i+1)=some x[i]:=Ge h;refine Xi (A5 x[i]) (Yi (Yi (Nn i) (by simp[hg])) (Yi rfl ?_));refine Yi (Nz rfl) (Yi (Nz rfl) (Yi (Nz rfl) ?_));refine Xi .pure (Xi _ (Yi (hc) ?_));refine Xi ⟨[(1,.ref 1 0),(3,vi i),(4,.ref 4 0),(5,vi (DS x[i])),(12,sl A5 x),(13,vi (x.map A5).length),(14,vi i)],[(1,.cells (Ic x ifs)),(4,.cells (A5 x[i]))],Aa⟩ (Yi ⟨Z7,Z2,Fh,Tv⟩ ?_)
  refine Yi ?_ ?_
  ·intro h4;have h4:DS x[i]≠0:=h4;exact .of_eq (Ae vi (show DS x[i]=A6 x by rw[TJ,IW,Aw h4]))
  intro h4;have h4:¬DS x[i]≠0:=h4;refine Xi ⟨[(1,.ref 1 0),(3,vi i),(4,.ref 4 0),(12,sl A5 x),(13,vi (x.map A5).length),(14,vi i)],[(1,.cells (Ic x ifs)),(4,.cells (A5 x[i]))],Aa⟩ (Yi ⟨Z6,Z2,Fh,Tv⟩ ?_)
  refine Yi ?_ ?_
  ·intro h5;have h5:(i:Int)=0:=h5;have h6:i=0:=by omega
   refine Yi (Ii i (by omega)) ?_;refine Xi ⟨i+1,by omega,by rw[IW,Am h4,lA];subst h6;rfl⟩ ?_;exact⟨Dl x.length i (by omega),Z4,Z1,Fh,Tv⟩
  intro h5;have h5:¬(i:Int)=0:=h5;have zN:i-1<x.length:=by omega
  have hb:jj x i=some x[i-1]:=by
   obtain⟨k,rfl⟩:∃k,i=k+1:=⟨i-1,by omega⟩;exact Ge (by omega)
  have mZ:Eo none x=if Gi x[i-1]=Gi x[i]then 5 else if 0<RX x[i-1] x[i]then 1 else Eo (some x[i]) (x.drop (i+1)):=by rw[IW,Am h4,hb]
  refine Yi (by show BQ ((i:Int)-1);unfold BQ;omega) ?_;have TZ:(x.map A5)[((i:Int)-1).toNat]?=some (A5 x[i-1]):=by rw[show((i:Int)-1).toNat=i-1 by omega];exact Dr (Ge zN)
  refine Xi (A5 x[i-1]) (Yi (Yi (by show(0:Int)≤(i:Int)-1;omega) TZ) (Yi rfl ?_));refine Yi (Nz rfl) (Yi (Nz rfl) ?_);refine Xi ⟨[(1,.ref 1 0),(4,.ref 4 0),(6,.ref 6 0),(12,sl A5 x),(13,vi (x.map A5).length),(14,vi i)],[(1,.cells (Ic x ifs)),(4,.cells (A5 x[i])),(6,.cells (A5 x[i-1]))],Aa⟩ (Yi ⟨Z6,Z3,Fh,Tv⟩ ?_)
  refine Yi (Nz rfl) ?_;refine Xi _ (Yi (mj x[i-1]) ?_);refine Yi (Nz rfl) ?_;refine Xi _ (Yi (mj x[i]) ?_);refine Yi ?_ ?_
  ·intro h6;refine Yi (by kernel_rfl) ?_;have e:(5:Int)=A6 x:=by rw[TJ,mZ,Aw (nw ⟨h6.1,h6.2.1,h6.2.2.1,h6.2.2.2.1⟩)]
   exact .of_eq (Ae vi e)
  intro h6;refine Yi (by kernel_rfl) ?_;have h7:¬Gi x[i-1]=Gi x[i]:=fun e=>by
   have e:=cb e;exact h6 ⟨e.1,e.2.1,e.2.2.1,e.2.2.2,trivial⟩
  refine Xi ⟨[(1,.ref 1 0),(4,.ref 4 0),(6,.ref 6 0),(12,sl A5 x),(13,vi (x.map A5).length),(14,vi i)],[(1,.cells (Ic x ifs)),(4,.cells (A5 x[i])),(6,.cells (A5 x[i-1]))],Aa⟩ (Yi ⟨Z6,Z3,Fh,Tv⟩ ?_)
  refine Yi (Nz rfl) (Yi (Nz rfl) ?_);refine Xi .pure (Xi _ (Yi (sM x[i-1] x[i]) ?_));refine Yi ?_ ?_
  ·intro h8;have h8:(0:Int)<RX x[i-1] x[i]:=h8;have e:(1:Int)=A6 x:=by rw[TJ,mZ,Am h7,Aw h8]
   exact .of_eq (Ae vi e)
  ·intro h8;have h8:¬(0:Int)<RX x[i-1] x[i]:=h8;refine Yi (Ii i (by omega)) ?_;refine Xi ⟨i+1,by omega,by rw[mZ,Am h7,Am h8,lA]⟩ ?_;exact⟨Dl x.length i (by omega),Z4,Z1,Fh,Tv⟩
 ·intro h;have h:¬(i:Int)<(x.map A5).length:=h;have h:¬i<x.length:=by simpa using h
  have e:(0:Int)=A6 x:=by rw[TJ,h2,TO (by omega)];rfl
  exact .of_eq (Ae vi e)
end Go.Eng

namespace Go.Eng
open Go.Proofs
abbrev oO(r:Rl)(a:AV):List AV:=[vs r.path,vi r.ver.a,vi r.ver.b,vi r.ver.c,a,vs r.arch,vs r.ifc,vs r.cert,vb r.yanked]
abbrev vQ:O3:=⟨[],[],[],[],[],[],[],[(9,(1,4,900,2))],[],[],[6,7]⟩
theorem zh(r:Rl)(hr:r.reqs.length≤1000)(hs:∀q∈r.reqs,Cv q.set):PC 130 [.agg (A5 r)] (.agg (A5 r)):=by
 refine Ps vQ Tryz.func130 rfl (Nz rfl) ?_;refine Yi (Nz rfl) ?_;refine Xi {i:Nat // i≤r.reqs.length} (Xi (fun i=>⟨[(1,.ref 1 0),(2,.ref 2 0),(9,sl Ah r.reqs),(10,vi (r.reqs.map Ah).length),(11,vi i.1)],[(1,.cells (oO r (.slice (.id 900 2) ((r.reqs.take i.1).map Ah)))),(2,.cells Uc),(900,.tok 2 ((r.reqs.take i.1).map Ah).length)],Aa⟩) (Xi (fun i=>r.reqs.length-i.1) (Yi (Xi ⟨0,AS _⟩ ?_) ?_)))
 ·exact⟨Z5,Z3,Fh,Tv⟩
 intro⟨i,h1⟩;refine Yi ?_ ?_
 ·intro h;have h:(i:Int)<(r.reqs.map Ah).length:=h;have h:i<r.reqs.length:=by simpa using h
  have hg:r.reqs[i]?=some r.reqs[i]:=Ge h;refine Xi (Ah r.reqs[i]) (Yi (Yi (Nn i) (by simp[hg])) (Yi rfl ?_));have hq:=hs r.reqs[i] (AC h);refine Yi (Nz rfl) (Yi (Nz rfl) ?_);refine Xi ⟨[(1,.ref 1 0),(2,.ref 2 0),(5,.ref 5 0),(9,sl Ah r.reqs),(10,vi (r.reqs.map Ah).length),(11,vi i)],[(1,.cells (oO r (.slice (.id 900 2) ((r.reqs.take i).map Ah)))),(2,.cells Uc),(5,.cells (Ah r.reqs[i])),(900,.tok 2 ((r.reqs.take i).map Ah).length)],Aa⟩ (Yi ⟨Z6,Z4,Fh,Tv⟩ ?_)
  refine Xi .pure (Xi _ (Yi (sR r.reqs[i].set hq) ?_));refine Yi (Nz rfl) ?_;refine Xi ⟨[(1,.ref 1 0),(2,.ref 2 0),(5,.ref 5 0),(9,sl Ah r.reqs),(10,vi (r.reqs.map Ah).length),(11,vi i)],[(1,.cells (oO r (.slice (.id 900 2) ((r.reqs.take i).map Ah)))),(2,.cells Uc),(5,.cells (Ah r.reqs[i])),(900,.tok 2 ((r.reqs.take i).map Ah).length)],Aa⟩ (Yi ⟨Z6,Z4,Fh,Tv⟩ ?_)
  refine Yi (Nz rfl) ?_;have Ei:BY 2 [Ah r.reqs[i]]∧((r.reqs.take i).map Ah).length=((r.reqs.take i).map Ah).length∧(((r.reqs.take i).map Ah).length+[Ah r.reqs[i]].length)*40≤140737488355328∧((r.reqs.take i).map Ah).length+[Ah r.reqs[i]].length≤9223372036854775807 :=
   ⟨⟨rfl,trivial⟩,rfl,by rw[Lm,AN,As];omega,by rw[Lm,AN,As];omega⟩
  refine Yi Ei ?_;refine Yi (Nz rfl) ?_;refine Yi (Ii i (by omega)) ?_;refine Xi ⟨i+1,by omega⟩ ?_;have et:(r.reqs.take (i+1)).map Ah=(r.reqs.take i).map Ah++[Ah r.reqs[i]]:=by rw[Bk,hg,AB];rfl
  have e1:HO.cells (oO r (.slice (.id 900 2) ((r.reqs.take i).map Ah++[Ah r.reqs[i]])))=.cells (oO r (.slice (.id 900 2) ((r.reqs.take (i+1)).map Ah))):=by rw[et]
  have e2:HO.tok 2 (((r.reqs.take i).map Ah).length+[Ah r.reqs[i]].length)=.tok 2 ((r.reqs.take (i+1)).map Ah).length:=by rw[et,Ac]
  exact⟨Dl r.reqs.length i (by omega),Z5,⟨⟨e1,rfl⟩,Zr,⟨e2,rfl⟩,Tv⟩,Fh,Tv⟩
 ·intro h;have h:¬(i:Int)<(r.reqs.map Ah).length:=h;have h:¬i<r.reqs.length:=by simpa using h
  refine Yi (Nz rfl) (Yi (Nz rfl) (Yi (Nz rfl) ?_));have e:AV.agg (oO r (.slice .none ((r.reqs.take i).map Ah)))=.agg (A5 r):=by rw[AI (by omega)]
  exact .of_eq e
end Go.Eng

namespace Go.Eng
open Go.Proofs
abbrev vc(c:UInt8):AV:=.v (.int .u8 c.toNat)
theorem iG(a:UInt8)(n:Nat)(h:n<256):decide (UInt8.ofNat n≤a)=decide ((n:Int)≤(a.toNat:Int)):=by
 rw[BX,Az,Az,Lo,show(UInt8.ofNat n).toNat=n by simp;omega];omega
theorem iF(a:UInt8)(n:Nat)(h:n<256):decide (a≤UInt8.ofNat n)=decide ((a.toNat:Int)≤(n:Int)):=by
 rw[BX,Az,Az,Lo,show(UInt8.ofNat n).toNat=n by simp;omega];omega
theorem mz(c:UInt8):PC 245 [vc c] (vb (G5 c)):=by
 refine Ps FC Tryz.func245 rfl (Nz rfl) ?_;have e1:decide ((97:UInt8)≤c)=decide ((97:Int)≤(c.toNat:Int)):=iG c 97 (by decide);have e2:decide (c≤(122:UInt8))=decide ((c.toNat:Int)≤(122:Int)):=iF c 122 (by decide);have es:G5 c=(decide ((97:Int)≤(c.toNat:Int))&&decide ((c.toNat:Int)≤(122:Int))):=by unfold G5;rw[e1,e2]
 refine Yi ?_ ?_
 ·intro h;have h:(97:Int)≤(c.toNat:Int):=h;refine Yi ?_ ?_
  ·intro h2;have h2:(c.toNat:Int)≤122:=h2;exact .of_eq (Ae vb (show true=G5 c by rw[es,AE h,AE h2];rfl))
  ·intro h2;have h2:¬(c.toNat:Int)≤122:=h2;exact .of_eq (Ae vb (show false=G5 c by rw[es,AD h2,DN]))
 ·intro h;have h:¬(97:Int)≤(c.toNat:Int):=h;exact .of_eq (Ae vb (show false=G5 c by rw[es,AD h];rfl))
theorem mA(c:UInt8):PC 246 [vc c] (vb (ET c)):=by
 refine Ps FC Tryz.func246 rfl (Nz rfl) ?_;have e1:decide ((48:UInt8)≤c)=decide ((48:Int)≤(c.toNat:Int)):=iG c 48 (by decide);have e2:decide (c≤(57:UInt8))=decide ((c.toNat:Int)≤(57:Int)):=iF c 57 (by decide);have es:ET c=(decide ((48:Int)≤(c.toNat:Int))&&decide ((c.toNat:Int)≤(57:Int))):=by unfold ET;rw[e1,e2]
 refine Yi ?_ ?_
 ·intro h;have h:(48:Int)≤(c.toNat:Int):=h;refine Yi ?_ ?_
  ·intro h2;have h2:(c.toNat:Int)≤57:=h2;exact .of_eq (Ae vb (show true=ET c by rw[es,AE h,AE h2];rfl))
  ·intro h2;have h2:¬(c.toNat:Int)≤57:=h2;exact .of_eq (Ae vb (show false=ET c by rw[es,AD h2,DN]))
 ·intro h;have h:¬(48:Int)≤(c.toNat:Int):=h;exact .of_eq (Ae vb (show false=ET c by rw[es,AD h];rfl))
theorem tA(c:UInt8):PC 291 [vc c] (vb (Vx c)):=by
 refine Ps FC Tryz.func291 rfl (Nz rfl) ?_;have e1:decide ((65:UInt8)≤c)=decide ((65:Int)≤(c.toNat:Int)):=iG c 65 (by decide);have e2:decide (c≤(90:UInt8))=decide ((c.toNat:Int)≤(90:Int)):=iF c 90 (by decide);have es:Vx c=(decide ((65:Int)≤(c.toNat:Int))&&decide ((c.toNat:Int)≤(90:Int))):=by unfold Vx;rw[e1,e2]
 refine Yi ?_ ?_
 ·intro h;have h:(65:Int)≤(c.toNat:Int):=h;refine Yi ?_ ?_
  ·intro h2;have h2:(c.toNat:Int)≤90:=h2;exact .of_eq (Ae vb (show true=Vx c by rw[es,AE h,AE h2];rfl))
  ·intro h2;have h2:¬(c.toNat:Int)≤90:=h2;exact .of_eq (Ae vb (show false=Vx c by rw[es,AD h2,DN]))
 ·intro h;have h:¬(65:Int)≤(c.toNat:Int):=h;exact .of_eq (Ae vb (show false=Vx c by rw[es,AD h];rfl))
abbrev Zq(c:UInt8):Bool:=G5 c||ET c
theorem tn(c:UInt8):PC 244 [vc c] (vb (Zq c)):=by
 have h1:=mz c;have h2:=mA c;rcases Bt (G5 c)with e | e
 ·rw[e]at h1;refine Ps FC Tryz.func244 rfl (Nz rfl) ?_;refine Xi .pure (Xi _ (Yi (h1) ?_));exact .of_eq (Ae vb (show true=Zq c by unfold Zq;rw[e];rfl))
 ·rw[e]at h1;refine Ps FC Tryz.func244 rfl (Nz rfl) ?_;refine Xi .pure (Xi _ (Yi (h1) ?_));refine Xi .pure (Xi _ (Yi (h2) ?_));exact .of_eq (Ae vb (show ET c=Zq c by unfold Zq;rw[e];rfl))
theorem tu(c:UInt8):PC 268 [vc c] (vb (Mn c)):=by
 have h1:=mz c;have h2:=tA c;have h3:=mA c;have ew:Mn c=(G5 c||Vx c||ET c||decide (c=95)):=rfl;rcases Bt (G5 c)with e | e
 ·rw[e]at h1;refine Ps FC Tryz.func268 rfl (Nz rfl) ?_;refine Xi .pure (Xi _ (Yi (h1) ?_));exact .of_eq (Ae vb (show true=Mn c by rw[ew,e];rfl))
 rw[e]at h1;rcases Bt (Vx c)with e2 | e2
 ·rw[e2]at h2;refine Ps FC Tryz.func268 rfl (Nz rfl) ?_;refine Xi .pure (Xi _ (Yi (h1) ?_));refine Xi .pure (Xi _ (Yi (h2) ?_));exact .of_eq (Ae vb (show true=Mn c by rw[ew,e,e2];rfl))
 rw[e2]at h2;rcases Bt (ET c)with e3 | e3
 ·rw[e3]at h3;refine Ps FC Tryz.func268 rfl (Nz rfl) ?_;refine Xi .pure (Xi _ (Yi (h1) ?_));refine Xi .pure (Xi _ (Yi (h2) ?_));refine Xi .pure (Xi _ (Yi (h3) ?_));exact .of_eq (Ae vb (show true=Mn c by rw[ew,e,e2,e3];rfl))
 rw[e3]at h3;refine Ps FC Tryz.func268 rfl (Nz rfl) ?_;refine Xi .pure (Xi _ (Yi (h1) ?_));refine Xi .pure (Xi _ (Yi (h2) ?_));refine Xi .pure (Xi _ (Yi (h3) ?_));have eb:decide (c=95)=decide ((c.toNat:Int)=95):=by
  rw[BX,Az,Az];constructor
  ·intro h;subst h;rfl
  ·intro h;exact UInt8.toNat_inj.1 (by show c.toNat=95;omega)
 refine Yi ?_ ?_
 ·intro h;have h:(c.toNat:Int)=95:=h;exact .of_eq (Ae vb (show true=Mn c by rw[ew,e,e2,e3,eb,AE h];rfl))
 ·intro h;have h:¬(c.toNat:Int)=95:=h;exact .of_eq (Ae vb (show false=Mn c by rw[ew,e,e2,e3,eb,AD h];rfl))
theorem ZC(s:ByteArray)(i:Nat)(h:i<s.data.toList.length):s.data[i]?=some s.data.toList[i]:=by
 rw[←A4];exact Ge h
theorem my(s:ByteArray)(f:Nat)(q:UInt8→Bool)(hf:∀c,PC f [vc c] (vb (q c)))(hs:s.data.toList.length<4611686018427387904):PC 243 [vs s,.v (GC f)] (vb (s.data.toList.all q)):=by
 have Ew:s.size=s.data.toList.length:=by simp
 refine Ps FC Tryz.func243 rfl (Nz rfl) ?_;refine Xi {i:Nat // i≤s.data.toList.length∧∀j (hj:j<s.data.toList.length),j<i→q s.data.toList[j]=true} (Xi (fun i=>⟨[(0,vs s),(1,.v (GC f)),(7,vi s.size),(8,vi i.1)],[],Aa⟩) (Xi (fun i=>s.data.toList.length-i.1) (Yi (Xi ⟨0,AS _,fun j _ h=>by omega⟩ ?_) ?_)))
 ·exact⟨Z4,Tv,Fh,Tv⟩
 intro⟨i,h1,h2⟩;refine Yi ?_ ?_
 ·intro h;have h:(i:Int)<(s.size:Nat):=h;have h:i<s.data.toList.length:=by omega
  refine Xi s.data.toList[i] (Yi ⟨by show(0:Int)≤i;omega,by show s.data[((i:Nat):Int).toNat]?=_;rw[BT];exact ZC s i h⟩ ?_);have hc:=hf s.data.toList[i];refine Cy (Bt (q s.data.toList[i])) (fun e=>?_) (fun e=>?_)
  ·rw[e]at hc;refine Xi .pure (Xi _ (Yi (hc) ?_));refine Yi (Ii i (by omega)) ?_;refine Xi ⟨i+1,by omega,fun j hj MO=>?_⟩ ?_
   ·rcases DV j i with z | z
    ·exact h2 j hj z
    ·have:j=i:=by omega
     subst this;exact e
   ·exact⟨Dl s.data.toList.length i (by omega),Z4,Tv,Fh,Tv⟩
  ·rw[e]at hc;refine Xi .pure (Xi _ (Yi (hc) ?_));have er:s.data.toList.all q=false:=by
    rw[AL];intro ha
    have:=BB.1 ha _ (AC h)
    rw[e]at this;cases this
   exact .of_eq (Ae vb er.symm)
 ·intro h;have h:¬(i:Int)<(s.size:Nat):=h;have er:s.data.toList.all q=true:=BB.2 fun c hc=>by
   obtain⟨j,hj,rfl⟩:=ED hc;exact h2 j hj (by omega)
  exact .of_eq (Ae vb er.symm)
end Go.Eng

namespace Go.Proofs
open Go.Shelf
def Tryz.laySplit_ren:Go.Shelf.Ren:=⟨fun | 146=>240 | 221=>266 | 268=>287 | 138=>288 | 143=>289 | 195=>309 | 197=>310 | 218=>311 | 219=>312 | 260=>319 | 217=>320 | 225=>321 | 224=>322 | 267=>323 | 266=>326 | 314=>327 | n=>n,fun | 9=>9 | 31=>52 | 3=>3 | 4=>4 | 0=>0 | 105=>318 | 21=>21 | 5=>5 | 46=>155 | 119=>325 | 139=>328 | 138=>327 | 146=>294 | 51=>221 | n=>n,fun | 1=>0 | 3=>1 | 4=>2 | n=>n⟩
theorem Tryz.laySplit:Go.Proofs.Lays.n146 Tryz.prog Tryz.laySplit_ren:={
 mixed:=by kernel_rfl
 f138:=Tryz.func288.trans (congrArg some (by kernel_rfl))
 f143:=Tryz.func289.trans (congrArg some (by kernel_rfl))
 f146:=Tryz.func240.trans (congrArg some (by kernel_rfl))
 f195:=Tryz.func309.trans (congrArg some (by kernel_rfl))
 f197:=Tryz.func310.trans (congrArg some (by kernel_rfl))
 f217:=Tryz.func320.trans (congrArg some (by kernel_rfl))
 f218:=Tryz.func311.trans (congrArg some (by kernel_rfl))
 f219:=Tryz.func312.trans (congrArg some (by kernel_rfl))
 f221:=Tryz.func266.trans (congrArg some (by kernel_rfl))
 f224:=Tryz.func322.trans (congrArg some (by kernel_rfl))
 f225:=Tryz.func321.trans (congrArg some (by kernel_rfl))
 f260:=Tryz.func319.trans (congrArg some (by kernel_rfl))
 f266:=Tryz.func326.trans (congrArg some (by kernel_rfl))
 f267:=Tryz.func323.trans (congrArg some (by kernel_rfl))
 f268:=Tryz.func287.trans (congrArg some (by kernel_rfl))
 f314:=Tryz.func327.trans (congrArg some (by kernel_rfl))
 t0:=Tryz.underlying0
 a0:=Tryz.isAgg0
 z0:=Tryz.sizeOf0
 v0:=Tryz.zeroValue0
 t3:=Tryz.underlying3
 a3:=Tryz.isAgg3
 z3:=Tryz.sizeOf3
 v3:=Tryz.zeroValue3
 t4:=Tryz.underlying4
 a4:=Tryz.isAgg4
 z4:=Tryz.sizeOf4
 v4:=Tryz.zeroValue4
 t5:=Tryz.underlying5
 a5:=Tryz.isAgg5
 z5:=Tryz.sizeOf5
 v5:=Tryz.zeroValue5
 t9:=Tryz.underlying9
 a9:=Tryz.isAgg9
 z9:=Tryz.sizeOf9
 v9:=Tryz.zeroValue9
 t21:=Tryz.underlying21
 a21:=Tryz.isAgg21
 z21:=Tryz.sizeOf21
 v21:=Tryz.zeroValue21
 t31:=Tryz.underlying52
 a31:=Tryz.isAgg52
 z31:=Tryz.sizeOf52
 v31:=Tryz.zeroValue52
 t46:=Tryz.underlying155
 a46:=Tryz.isAgg155
 z46:=Tryz.sizeOf155
 v46:=Tryz.zeroValue155
 t51:=Tryz.underlying221
 a51:=Tryz.isAgg221
 z51:=Tryz.sizeOf221
 v51:=Tryz.zeroValue221
 t105:=Tryz.underlying318
 a105:=Tryz.isAgg318
 z105:=Tryz.sizeOf318
 v105:=Tryz.zeroValue318
 t119:=Tryz.underlying325
 a119:=Tryz.isAgg325
 z119:=Tryz.sizeOf325
 t138:=Tryz.underlying327
 a138:=Tryz.isAgg327
 z138:=Tryz.sizeOf327
 v138:=Tryz.zeroValue327
 t139:=Tryz.underlying328
 a139:=Tryz.isAgg328
 z139:=Tryz.sizeOf328
 v139:=Tryz.zeroValue328
 t146:=Tryz.underlying294
 a146:=Tryz.isAgg294
 z146:=Tryz.sizeOf294
 v146:=Tryz.zeroValue294
 g1:=by kernel_rfl
 g3:=by kernel_rfl
 g4:=by kernel_rfl }
def Tryz.layLast_ren:Go.Shelf.Ren:=⟨fun | 148=>213 | 222=>247 | 223=>248 | 269=>270 | n=>n,fun | 9=>9 | 3=>3 | 4=>4 | 5=>5 | 146=>294 | 51=>221 | 46=>155 | n=>n,fun | n=>n⟩
theorem Tryz.layLast:Go.Proofs.Lays.n148 Tryz.prog Tryz.layLast_ren:={
 mixed:=by kernel_rfl
 f148:=Tryz.func213.trans (congrArg some (by kernel_rfl))
 f222:=Tryz.func247.trans (congrArg some (by kernel_rfl))
 f223:=Tryz.func248.trans (congrArg some (by kernel_rfl))
 f269:=Tryz.func270.trans (congrArg some (by kernel_rfl))
 t3:=Tryz.underlying3
 a3:=Tryz.isAgg3
 z3:=Tryz.sizeOf3
 v3:=Tryz.zeroValue3
 t4:=Tryz.underlying4
 a4:=Tryz.isAgg4
 z4:=Tryz.sizeOf4
 v4:=Tryz.zeroValue4
 t5:=Tryz.underlying5
 a5:=Tryz.isAgg5
 z5:=Tryz.sizeOf5
 v5:=Tryz.zeroValue5
 t9:=Tryz.underlying9
 a9:=Tryz.isAgg9
 z9:=Tryz.sizeOf9
 v9:=Tryz.zeroValue9
 t46:=Tryz.underlying155
 a46:=Tryz.isAgg155
 z46:=Tryz.sizeOf155
 v46:=Tryz.zeroValue155
 t51:=Tryz.underlying221
 a51:=Tryz.isAgg221
 z51:=Tryz.sizeOf221
 v51:=Tryz.zeroValue221
 t146:=Tryz.underlying294
 a146:=Tryz.isAgg294
 z146:=Tryz.sizeOf294
 v146:=Tryz.zeroValue294 }
def Tryz.layCut_ren:Go.Shelf.Ren:=⟨fun | 103=>267 | 210=>290 | 206=>313 | n=>n,fun | 9=>9 | 4=>4 | 24=>128 | 3=>3 | n=>n,fun | n=>n⟩
theorem Tryz.layCut:Go.Proofs.Lays.n103 Tryz.prog Tryz.layCut_ren:={
 mixed:=by kernel_rfl
 f103:=Tryz.func267.trans (congrArg some (by kernel_rfl))
 f206:=Tryz.func313.trans (congrArg some (by kernel_rfl))
 f210:=Tryz.func290.trans (congrArg some (by kernel_rfl))
 t3:=Tryz.underlying3
 a3:=Tryz.isAgg3
 z3:=Tryz.sizeOf3
 v3:=Tryz.zeroValue3
 t4:=Tryz.underlying4
 a4:=Tryz.isAgg4
 z4:=Tryz.sizeOf4
 v4:=Tryz.zeroValue4
 t9:=Tryz.underlying9
 a9:=Tryz.isAgg9
 z9:=Tryz.sizeOf9
 v9:=Tryz.zeroValue9
 t24:=Tryz.underlying128
 a24:=Tryz.isAgg128
 z24:=Tryz.sizeOf128
 v24:=Tryz.zeroValue128 }
def Tryz.layCont_ren:Go.Shelf.Ren:=⟨fun | 144=>292 | 143=>289 | 219=>312 | 217=>320 | 225=>321 | 224=>322 | 267=>323 | 266=>326 | 314=>327 | n=>n,fun | 9=>9 | 4=>4 | 3=>3 | 5=>5 | 46=>155 | 146=>294 | 51=>221 | n=>n,fun | 1=>0 | n=>n⟩
theorem Tryz.layCont:Go.Proofs.Lays.n144 Tryz.prog Tryz.layCont_ren:={
 mixed:=by kernel_rfl
 f143:=Tryz.func289.trans (congrArg some (by kernel_rfl))
 f144:=Tryz.func292.trans (congrArg some (by kernel_rfl))
 f217:=Tryz.func320.trans (congrArg some (by kernel_rfl))
 f219:=Tryz.func312.trans (congrArg some (by kernel_rfl))
 f224:=Tryz.func322.trans (congrArg some (by kernel_rfl))
 f225:=Tryz.func321.trans (congrArg some (by kernel_rfl))
 f266:=Tryz.func326.trans (congrArg some (by kernel_rfl))
 f267:=Tryz.func323.trans (congrArg some (by kernel_rfl))
 f314:=Tryz.func327.trans (congrArg some (by kernel_rfl))
 t3:=Tryz.underlying3
 a3:=Tryz.isAgg3
 z3:=Tryz.sizeOf3
 v3:=Tryz.zeroValue3
 t4:=Tryz.underlying4
 a4:=Tryz.isAgg4
 z4:=Tryz.sizeOf4
 v4:=Tryz.zeroValue4
 t5:=Tryz.underlying5
 a5:=Tryz.isAgg5
 z5:=Tryz.sizeOf5
 v5:=Tryz.zeroValue5
 t9:=Tryz.underlying9
 a9:=Tryz.isAgg9
 z9:=Tryz.sizeOf9
 v9:=Tryz.zeroValue9
 t46:=Tryz.underlying155
 a46:=Tryz.isAgg155
 z46:=Tryz.sizeOf155
 v46:=Tryz.zeroValue155
 t51:=Tryz.underlying221
 a51:=Tryz.isAgg221
 z51:=Tryz.sizeOf221
 v51:=Tryz.zeroValue221
 t146:=Tryz.underlying294
 a146:=Tryz.isAgg294
 z146:=Tryz.sizeOf294
 v146:=Tryz.zeroValue294
 g1:=by kernel_rfl }
end Go.Proofs

namespace Go.Eng
open Go.Proofs
abbrev Yr:ByteArray:=⟨#[47]⟩
abbrev BI(s:ByteArray):List ByteArray:=Go.Lib.splitB Yr 0 (Go.Lib.countB s Yr) s
theorem OO(s:ByteArray):(BI s).map (·.data.toList)=Fv 47 s.data.toList:=c8 s 47
abbrev Jx(s:ByteArray):List AV:=[vs s]
theorem pq(s:ByteArray)(hs:HP s):PC 240 [vs s,vs Yr] (sl Jx (BI s)):=by
 unfold HP at hs;have h:=cM (P:=Tryz.prog) (f:=240) (args:=[vs s,vs Yr]) [.string s,.string Yr] ((BI s).map Value.string) 9 (eB 240 Tryz.func240 (by kernel_rfl) rfl) rfl (fun x hx=>by
  obtain⟨y,_,rfl⟩:=Ao.1 hx;rfl) (fun w hm=>by
  obtain⟨m,hm⟩:=hm;have hl:(BI s).length=Go.Lib.countB s Yr+1:=Go.Lib.splitB_all Yr (by decide) 0 _ s rfl;refine(Any.strings_Split Tryz.laySplit (by kernel_rfl) s Yr m w (by omega) hm (by decide)).mono ?_
  rintro e w' ⟨rfl,rfl⟩
  exact⟨by rw[Lm,hl],rfl⟩)
 rw[BW]at h;exact h
theorem te(s p:ByteArray)(hs:HP s):PC 213 [vs s,vs p] (vi (Go.Lib.lastIndex s.data.toList p.data.toList)):=by
 unfold HP at hs;exact Lb [.string s,.string p] (.int .i64 (Go.Lib.lastIndex s.data.toList p.data.toList)) (eB 213 Tryz.func213 (by kernel_rfl) rfl) rfl (fun g w=>.v _ _) fun w _=>Any.strings_LastIndex Tryz.layLast s p (by omega) w
theorem tq(s p:ByteArray):PC 267 [vs s,vs p] (.tup [vs ⟨(Go.Lib.trimPrefix s.data.toList p.data.toList).toArray⟩,vb (Go.Lib.hasPrefix s.data.toList p.data.toList)]):=by
 exact Lb [.string s,.string p] _ (eB 267 Tryz.func267 (by kernel_rfl) rfl) rfl (fun g w=>hJ [.string ⟨(Go.Lib.trimPrefix s.data.toList p.data.toList).toArray⟩,.bool (Go.Lib.hasPrefix s.data.toList p.data.toList)]) fun w _=>Any.strings_CutPrefix Tryz.layCut s p w
theorem tB(s p:ByteArray)(hs:HP s):PC 292 [vs s,vs p] (vb (Go.Lib.contains s.data.toList p.data.toList)):=by
 unfold HP at hs;exact Lb [.string s,.string p] (.bool (Go.Lib.contains s.data.toList p.data.toList)) (eB 292 Tryz.func292 (by kernel_rfl) rfl) rfl (fun g w=>.v _ _) fun w hm=>by
  obtain⟨m,hm⟩:=hm;exact Any.strings_Contains Tryz.layCont s p m w (by omega) hm
end Go.Eng

namespace Go.Eng
open Go.Proofs
theorem ax:∀x y:List UInt8,cV x y=x.isPrefixOf y
 | [],_=>by simp[cV]
 |_::_,[]=>rfl
 |a::x,b::y=>by
  rw[cV,List.isPrefixOf_cons_cons,ax x y]
  rfl
theorem fS(x:List UInt8):∀y:List UInt8,sj x y=Go.Lib.contains y x
 | []=>by
  unfold Go.Lib.contains Go.Lib.index;cases x<;>rfl
 |b::y=>by
  rw[sj,ax,fS x y];unfold Go.Lib.contains;have hg:=Go.Lib.index_ge y x
  conv=>rhs;unfold Go.Lib.index
  cases h:x.isPrefixOf (b::y)with
  |true=>simp
  |false =>
   simp only[LG,CT,FL]
   by_cases h0:Go.Lib.index y x=-1
   ·rw[h0];rfl
   ·have h1:(Go.Lib.index y x == -1)=false:=by simpa using h0
    rw[h1];simp only[CT,FL];rw[AE (by omega),AE (by omega)]
theorem SB:∀(l:List UInt8) (h:0<l.length),l.headD 0=l[0]
 | [],h=>by simp at h
 |_::_,_=>rfl
abbrev lK:ByteArray:=⟨⟨fZ⟩⟩
theorem tv(s:ByteArray)(hs:HP s):PC 269 [vs s] (vb (YZ s.data.toList)):=by
 unfold HP at hs;have hc:=tB lK ((⟨#[32]⟩++s)++⟨#[32]⟩) (HJ (by kernel_rfl));have e:Go.Lib.contains lK.data.toList ((⟨#[32]⟩++s:ByteArray)++⟨#[32]⟩).data.toList=YZ s.data.toList:=by
  unfold YZ;rw[fS]
  congr 1
 rw[e]at hc;refine Ps FC Tryz.func269 rfl (Nz rfl) ?_;refine Yi (by show(((1+s.size:Nat)):Int)≤_;omega) ?_;refine Yi (by show(((⟨#[32]⟩++s:ByteArray).size+1:Nat):Int)≤_;rw[ByteArray.size_append];show(((1+s.size)+1:Nat):Int)≤_;omega) ?_;refine Xi .pure (Xi _ (Yi (hc) ?_));exact .refl _
theorem tj(s:ByteArray)(hs:HP s):PC 242 [vs s] (vb (H3 s.data.toList)):=by
 have hk:=tv s hs;have hw:=my s 268 Mn tu (by unfold HP at hs;simp;omega);have Ew:s.size=s.data.toList.length:=by simp
 have en:H3 s.data.toList=(!s.data.toList.isEmpty&&decide (s.data.toList.length≤32)&&G5 (s.data.toList.headD 0)&&s.data.toList.all Mn&&!YZ s.data.toList):=rfl
 by_cases h0:s=⟨#[]⟩
 ·subst h0;refine Ps FC Tryz.func242 rfl (Nz rfl) ?_;refine Yi ?_ ?_
  ·intro h;exact absurd rfl (show(⟨#[]⟩:ByteArray)≠⟨#[]⟩from h)
  ·intro _;exact .refl _
 have xk : s.data.toList≠[]:=fun e=>h0 (by
  have:s.data=#[]:=by rw[←Lv];exact e
  cases s;simp_all)
 have CM:0<s.data.toList.length:=MW.2 xk;have TY:s.data.toList.isEmpty=false:=by
  cases hl:s.data.toList with
  |nil=>exact absurd hl xk
  |cons a l=>rfl
 have xK:s.data.toList.headD 0=s.data.toList[0]:=SB _ CM;have dB:=mz s.data.toList[0];refine Ps FC Tryz.func242 rfl (Nz rfl) ?_;refine Yi ?_ ?_
 rotate_left
 ·intro h;exact absurd h0 h
 intro _;refine Yi ?_ ?_
 rotate_left
 ·intro h;have h:¬((s.size:Nat):Int)≤32:=h;exact .of_eq (Ae vb (show false=H3 s.data.toList by rw[en,AD (by omega:¬s.data.toList.length≤32)];simp))
 intro h;have h:((s.size:Nat):Int)≤32:=h;refine Xi s.data.toList[0] (Yi ⟨BP _,ZC s 0 CM⟩ ?_);refine Cy (Bt (G5 s.data.toList[0])) (fun e1=>?_) (fun e1=>?_)
 rotate_left
 ·rw[e1]at dB;refine Xi .pure (Xi _ (Yi (dB) ?_));exact .of_eq (Ae vb (show false=H3 s.data.toList by rw[en,xK,e1];simp))
 rw[e1]at dB;refine Xi .pure (Xi _ (Yi (dB) ?_));refine Cy (Bt (s.data.toList.all Mn)) (fun e2=>?_) (fun e2=>?_)
 rotate_left
 ·rw[e2]at hw;refine Xi .pure (Xi _ (Yi (hw) ?_));exact .of_eq (Ae vb (show false=H3 s.data.toList by rw[en,e2];simp))
 rw[e2]at hw;refine Xi .pure (Xi _ (Yi (hw) ?_));have ef:H3 s.data.toList=!YZ s.data.toList:=by rw[en,TY,xK,e1,e2,AE (by omega:s.data.toList.length≤32)];rfl
 refine Cy (Bt (YZ s.data.toList)) (fun e3=>?_) (fun e3=>?_)
 ·rw[e3]at hk;refine Xi .pure (Xi _ (Yi (hk) ?_));exact .of_eq (Ae vb (show false=H3 s.data.toList by rw[ef,e3];rfl))
 ·rw[e3]at hk;refine Xi .pure (Xi _ (Yi (hk) ?_));exact .of_eq (Ae vb (show true=H3 s.data.toList by rw[ef,e3];rfl))
end Go.Eng

namespace Go.Eng
open Go.Proofs
abbrev Wi:Option Int→AV
 |some n=>.tup [vi n,vb true]
 |none=>.tup [vi 0,vb false]
theorem aK{z:Int}(h0:0≤z)(h1:z<256):IntKind.u8.wrap z=z:=by
 show z % 256=z;omega
theorem UB{c:UInt8}(h:ET c=true):48≤c.toNat∧c.toNat≤57:=by
 unfold ET at h;simp only[Af,Az]at h;exact⟨Lo.1 h.1,Lo.1 h.2⟩
theorem UZ(r:List UInt8)(i:Nat)(h:i<r.length):GF (r.take (i+1))=10*GF (r.take i)+((r[i].toNat:Int)-48):=by
 unfold GF;rw[Bk,Ge h,Kd];rfl
theorem ti(s:ByteArray)(hs:HP s):PC 241 [vs s] (Wi (LF s.data.toList)):=by
 unfold HP at hs;have hc:=tq s ⟨#[118]⟩
 by_cases hp:∃r,s.data.toList=118::r
 ·obtain⟨r,hr⟩:=hp;have e1:Go.Lib.hasPrefix s.data.toList (⟨#[118]⟩:ByteArray).data.toList=true:=by rw[hr];rfl
  have e2:Go.Lib.trimPrefix s.data.toList (⟨#[118]⟩:ByteArray).data.toList=r:=by unfold Go.Lib.trimPrefix;rw[e1,Aw rfl,hr];rfl
  rw[e1,e2]at hc;have hv:LF s.data.toList=if(r.isEmpty||decide (3<r.length)||(decide (1<r.length)&&decide (r.headD 0=48))||!r.all ET)=true then none else some (GF r):=by rw[hr];rfl
  have hrl:r.length<s.size:=by
   have:s.size=s.data.toList.length:=by simp
   rw[this,hr];simp
  generalize hB:(⟨r.toArray⟩:ByteArray)=rB at hc;have jH:rB.data.toList=r:=by rw[←hB]
  have pP:rB.size=r.length:=by rw[←hB];rfl
  have hw:=my rB 246 ET mA (by rw[jH];omega);rw[jH]at hw;have no:∀{b:Bool},b=true→(if b=true then none else some (GF r))=(none:Option Int):=fun h=>Aw h;refine Ps (EL [2,4]) Tryz.func241 rfl (Nz rfl) ?_;refine Xi .pure (Xi _ (Yi (hc) ?_));refine Xi ⟨[(0,vs rB),(4,vb true)],[],Aa⟩ (Yi ⟨Z2,Tv,Fh,Tv⟩ ?_)
  refine Yi ?_ ?_
  ·intro h;have h:rB=⟨#[]⟩:=h
   have:r=[]:=by rw[←jH,h]
   exact .of_eq (Ae Wi (show(none:Option Int)=LF s.data.toList by rw[hv,this];rfl))
  intro h;have h:¬rB=⟨#[]⟩:=h;have Dn:r≠[]:=fun e=>h (by rw[←hB,e]);have CM:0<r.length:=MW.2 Dn;have TY:r.isEmpty=false:=by
   cases hl:r with
   |nil=>exact absurd hl Dn
   |cons a l=>rfl
  refine Yi ?_ ?_
  ·intro h2;have h2:(3:Int)<((rB.size:Nat):Int):=h2;exact .of_eq (Ae Wi (show(none:Option Int)=LF s.data.toList by rw[hv,no];rw[AE (by omega:3<r.length)];simp))
  intro h2;have h2:¬(3:Int)<((rB.size:Nat):Int):=h2;have r7:r.length≤3:=by omega
  have d3:decide (3<r.length)=false:=AD (by omega);refine Yi ?_ ?_
  ·intro h3;have h3:(1:Int)<((rB.size:Nat):Int):=h3;have ul:rB.data[(0:Int).toNat]?=some r[0]:=by
    show rB.data[0]?=_;rw[←A4,jH];exact Ge CM
   refine Xi r[0] (Yi ⟨BP _,ul⟩ ?_);have hh:=SB r CM;refine Yi ?_ ?_
   ·intro h4;have h4:(r[0].toNat:Int)=48:=h4
    have:r[0]=48:=UInt8.toNat_inj.1 (by show r[0].toNat=48;omega)
    exact .of_eq (Ae Wi (show(none:Option Int)=LF s.data.toList by rw[hv,hh,this,AE (by omega:1<r.length)];simp))
   intro h4;have h4:¬(r[0].toNat:Int)=48:=h4;have eo:(decide (1<r.length)&&decide (r.headD 0=48))=false:=by rw[hh,AD (show ¬r[0]=48 from fun e=>h4 (by rw[e];rfl)),DN]
   have qP:LF s.data.toList=if(!r.all ET)=true then none else some (GF r):=by rw[hv,TY,d3,eo];rfl
   refine Cy (Bt (r.all ET)) (fun e3=>?_) (fun e3=>?_)
   rotate_left
   ·rw[e3]at hw;refine Xi .pure (Xi _ (Yi (hw) ?_));exact .of_eq (Ae Wi (show(none:Option Int)=LF s.data.toList by rw[qP,e3];rfl))
   rw[e3]at hw;refine Xi .pure (Xi _ (Yi (hw) ?_));have vB:LF s.data.toList=some (GF r):=by rw[qP,e3];rfl
   refine Xi ⟨[(0,vs rB)],[],Aa⟩ (Yi ⟨Z1,Tv,Fh,Tv⟩ ?_)
   have z0:GF (r.take 0)=0:=rfl;refine Xi {i:Nat // i≤r.length∧0≤GF (r.take i)∧(i=0→GF (r.take i)≤0)∧(i≤1→GF (r.take i)≤9)∧(i≤2→GF (r.take i)≤99)∧GF (r.take i)≤999} (Xi (fun i=>⟨[(0,vs rB),(5,vi (GF (r.take i.1))),(39,vi rB.size),(40,vi i.1)],[],Aa⟩) (Xi (fun i=>r.length-i.1) (Yi (Xi ⟨0,AS _,by omega,fun _=>by omega,fun _=>by omega,fun _=>by omega,by omega⟩ ?_) ?_)))
   ·exact⟨Z4,Tv,Fh,Tv⟩
   intro⟨i,i1,i2,i3,i4,i5,i6⟩;refine Yi ?_ ?_
   ·intro h;have h:(i:Int)<(rB.size:Nat):=h;have h:i<r.length:=by omega
    have uy:ET r[i]=true:=BB.1 e3 _ (AC h);have oz:=UB uy;have jV:=UZ r i h;have nq:IntKind.u8.wrap ((r[i].toNat:Int)-48)=(r[i].toNat:Int)-48:=aK (by omega) (by omega);have lr:rB.data[((i:Nat):Int).toNat]?=some r[i]:=by rw[BT,←A4,jH];exact Ge h
    refine Yi (by show BQ (10*GF (r.take i));unfold BQ;omega) ?_;refine Xi r[i] (Yi ⟨by show(0:Int)≤i;omega,lr⟩ ?_);refine Yi (by show BQ (IntKind.u8.wrap ((r[i].toNat:Int)-48));rw[nq];unfold BQ;omega) ?_;refine Yi (by show BQ (10*GF (r.take i)+IntKind.u8.wrap ((r[i].toNat:Int)-48));rw[nq];unfold BQ;omega) ?_;refine Yi (Ii i (by omega)) ?_;have e5:vi (10*GF (r.take i)+IntKind.u8.wrap ((r[i].toNat:Int)-48))=vi (GF (r.take (i+1))):=by rw[nq,jV]
    refine Xi ⟨i+1,by omega,by omega,fun _=>by omega,fun _=>by omega,fun _=>by omega,by omega⟩ ?_;exact⟨Dl r.length i (by omega),⟨Zr,⟨e5,rfl⟩,Zr,Zr,Tv⟩,Tv,Fh,Tv⟩
   ·intro h;have h:¬(i:Int)<(rB.size:Nat):=h;have e6:AV.tup [vi (GF (r.take i)),vb true]=Wi (LF s.data.toList):=by rw[vB,AI (by omega)]
    exact .of_eq e6
  ·intro h3;have h3:¬(1:Int)<((rB.size:Nat):Int):=h3;have eo:(decide (1<r.length)&&decide (r.headD 0=48))=false:=by rw[AD (by omega:¬1<r.length)];rfl
   have qP:LF s.data.toList=if(!r.all ET)=true then none else some (GF r):=by rw[hv,TY,d3,eo];rfl
   refine Cy (Bt (r.all ET)) (fun e3=>?_) (fun e3=>?_)
   rotate_left
   ·rw[e3]at hw;refine Xi .pure (Xi _ (Yi (hw) ?_));exact .of_eq (Ae Wi (show(none:Option Int)=LF s.data.toList by rw[qP,e3];rfl))
   rw[e3]at hw;refine Xi .pure (Xi _ (Yi (hw) ?_));have vB:LF s.data.toList=some (GF r):=by rw[qP,e3];rfl
   refine Xi ⟨[(0,vs rB)],[],Aa⟩ (Yi ⟨Z1,Tv,Fh,Tv⟩ ?_)
   have z0:GF (r.take 0)=0:=rfl;refine Xi {i:Nat // i≤r.length∧0≤GF (r.take i)∧(i=0→GF (r.take i)≤0)∧(i≤1→GF (r.take i)≤9)∧(i≤2→GF (r.take i)≤99)∧GF (r.take i)≤999} (Xi (fun i=>⟨[(0,vs rB),(5,vi (GF (r.take i.1))),(39,vi rB.size),(40,vi i.1)],[],Aa⟩) (Xi (fun i=>r.length-i.1) (Yi (Xi ⟨0,AS _,by omega,fun _=>by omega,fun _=>by omega,fun _=>by omega,by omega⟩ ?_) ?_)))
   ·exact⟨Z4,Tv,Fh,Tv⟩
   intro⟨i,i1,i2,i3,i4,i5,i6⟩;refine Yi ?_ ?_
   ·intro h;have h:(i:Int)<(rB.size:Nat):=h;have h:i<r.length:=by omega
    have uy:ET r[i]=true:=BB.1 e3 _ (AC h);have oz:=UB uy;have jV:=UZ r i h;have nq:IntKind.u8.wrap ((r[i].toNat:Int)-48)=(r[i].toNat:Int)-48:=aK (by omega) (by omega);have lr:rB.data[((i:Nat):Int).toNat]?=some r[i]:=by rw[BT,←A4,jH];exact Ge h
    refine Yi (by show BQ (10*GF (r.take i));unfold BQ;omega) ?_;refine Xi r[i] (Yi ⟨by show(0:Int)≤i;omega,lr⟩ ?_);refine Yi (by show BQ (IntKind.u8.wrap ((r[i].toNat:Int)-48));rw[nq];unfold BQ;omega) ?_;refine Yi (by show BQ (10*GF (r.take i)+IntKind.u8.wrap ((r[i].toNat:Int)-48));rw[nq];unfold BQ;omega) ?_;refine Yi (Ii i (by omega)) ?_;have e5:vi (10*GF (r.take i)+IntKind.u8.wrap ((r[i].toNat:Int)-48))=vi (GF (r.take (i+1))):=by rw[nq,jV]
    refine Xi ⟨i+1,by omega,by omega,fun _=>by omega,fun _=>by omega,fun _=>by omega,by omega⟩ ?_;exact⟨Dl r.length i (by omega),⟨Zr,⟨e5,rfl⟩,Zr,Zr,Tv⟩,Tv,Fh,Tv⟩
   ·intro h;have h:¬(i:Int)<(rB.size:Nat):=h;have e6:AV.tup [vi (GF (r.take i)),vb true]=Wi (LF s.data.toList):=by rw[vB,AI (by omega)]
    exact .of_eq e6
 ·have e1:Go.Lib.hasPrefix s.data.toList (⟨#[118]⟩:ByteArray).data.toList=false:=by
   cases hl:s.data.toList with
   |nil=>rfl
   |cons a l =>
    have:a≠118:=fun e=>hp ⟨l,by rw[hl,e]⟩
    show(List.isPrefixOf [118] (a::l))=false;rw[List.isPrefixOf_cons_cons]
    have:((118:UInt8) == a)=false:=by rw[beq_eq_false_iff_ne];exact fun e=>this e.symm
    rw[this];rfl
  have hv:LF s.data.toList=none:=by
   cases hl:s.data.toList with
   |nil=>rfl
   |cons a l =>
    have:a≠118:=fun e=>hp ⟨l,by rw[hl,e]⟩
    show(if a=118 then _ else none)=none;rw[Am this]
  rw[e1]at hc;refine Ps FC Tryz.func241 rfl (Nz rfl) ?_;refine Xi .pure (Xi _ (Yi (hc) ?_));exact .of_eq (Ae Wi hv.symm)
end Go.Eng
