/- Lemmas for the claims of this seat, without a condition: part 18 (C35, C36, C37, C38, C39, LayStr, C40, C41, C42, C43, C44). -/
import Derived.Test.YtpgfieopnnkpfaaGreatDoorDA17
import Derived.Shelf.Strings.SplitShaped
import Derived.Shelf.Strings.LastIndexAll
import Derived.Shelf.Strings.Search3
import Derived.Shelf.Strings.Cut
import Derived.Shelf.Strings.Prefix
import Derived.Shelf.Strconv.AtoiAll
import Derived.Shelf.Small.Wraps
import Derived.Ground.NamesProg
import Derived.Lib.LastIndexLaws
namespace Go.Eng
open Go.Proofs
abbrev cellsAt (l:List Rq) (k:Nat):List AV:=((l.map encRq)[k]?).getD []
abbrev bpAt (l:List Rq):Nat→AV
 | 0=>.v (.pointer none)
 | k+1=>.cptr (cellsAt l k)
abbrev befAt (l:List Rq):Nat→Option ByteArray
 | 0=>none
 | k+1=>(l[k]?).map (·.path)
theorem cellsAt_eq {l:List Rq} {k:Nat} (h:k<l.length):cellsAt l k=encRq l[k]:=by
 unfold cellsAt; rw [List.getElem?_map,Ge h]; rfl
theorem befAt_eq {l:List Rq} {k:Nat} (h:k<l.length):befAt l (k+1)=some l[k].path:=by
 show (l[k]?).map _=_; rw [Ge h]; rfl
theorem c65 {nm:ByteArray→ByteArray} (hL:Line nm) (l:List Rq) (hs:∀ q ∈ l,FewQ q):PC 116 [sl encRq l] (vi (checkRqs l)):=by
 refine Ps (plcut [8]) Tryz.func116 rfl (Nz rfl) ?_;refine Yi ?_ ?_
 ·intro h;have h:(16:Int)<(l.map encRq).length:=h;exact .of_eq (congrArg vi (show (7:Int)=checkRqs l by unfold checkRqs; rw [if_pos (by rw [Lm] at h; omega)]))
 intro h;have h:¬ (16:Int)<(l.map encRq).length:=h;have hl:l.length≤16:=by rw [Lm] at h; omega
 have hck:checkRqs l=checkRqsGo none l:=by unfold checkRqs; rw [if_neg (by omega)]
 refine Xi {i:Nat // i≤l.length∧checkRqsGo none l=checkRqsGo (befAt l i) (l.drop i)} (Xi (fun i=>⟨[(0,sl encRq l),(3,bpAt l i.1),(10,sl encRq l),(11,vi (l.map encRq).length),(12,vi i.1)],[],hfree⟩) (Xi (fun i=>l.length - i.1) (Yi (Xi ⟨0,Nat.zero_le _,rfl⟩ ?_) ?_)))
 ·exact ⟨Z5,Tv,Fh,Tv⟩
 intro ⟨i,h1,h2⟩;refine Yi ?_ ?_
 ·intro h;have h:(i:Int)<(l.map encRq).length:=h;have h:i<l.length:=by simpa using h
  have hg:l[i]?=some l[i]:=Ge h;have hd:l.drop i=l[i] :: l.drop (i+1):=List.drop_eq_getElem_cons h;have hq:=hs l[i] (List.getElem_mem h);have hc:PC 181 [.agg (encRq l[i]),bpAt l i] (vi (rqOk (befAt l i) l[i])):=by
   cases i with
   | zero=>exact c110n hL _ hq.1 hq.2
   | succ k =>
    rw [befAt_eq (by omega:k<l.length)];show PC 181 [_,.cptr (cellsAt l k)] _;rw [cellsAt_eq (by omega:k<l.length)];exact c110s hL _ _ hq.1 hq.2
  have hgo:checkRqsGo none l=if rqOk (befAt l i) l[i]=0 then checkRqsGo (some l[i].path) (l.drop (i+1)) else rqOk (befAt l i) l[i]:=by rw [h2,hd]; rfl
  match i,h1,h2,h,hg,hd,hc,hgo with
  | 0,h1,h2,h,hg,hd,hc,hgo =>
   refine Xi (encRq l[0]) (Yi (Yi (by show (0:Int)≤((0:Nat):Int); omega) (by simp [hg])) (Yi rfl ?_));refine Yi (Nz rfl) (Yi (Nz rfl) (Yi (Nz rfl) ?_));refine Xi .pure (Xi _ (Yi (hc) ?_));refine Xi ⟨[(0,sl encRq l),(4,vi ((0:Nat):Int)),(6,vi (rqOk (befAt l (0)) l[0])),(10,sl encRq l),(11,vi (l.map encRq).length),(12,vi ((0:Nat):Int))],[],hfree⟩ (Yi ⟨Z6,Tv,Fh,Tv⟩ ?_)
   refine Yi ?_ ?_
   ·intro h4;have h4:rqOk (befAt l (0)) l[0]≠0:=h4;exact .of_eq (congrArg vi (show rqOk (befAt l (0)) l[0]=checkRqs l by rw [hck,hgo,if_neg h4]))
   ·intro h4;have h4:¬ rqOk (befAt l (0)) l[0]≠0:=h4;refine Xi (encRq l[0]) (Yi (Yi (by show (0:Int)≤((0:Nat):Int); omega) (by simp [hg])) (Yi rfl ?_));refine Yi (by show InI64 (((0:Nat):Int)+1); unfold InI64; omega) ?_;refine Xi ⟨0+1,by omega,by rw [hgo,if_pos (Decidable.of_not_not h4),befAt_eq h]⟩ ?_;have e1:AV.cptr (encRq l[0])=.cptr (cellsAt l (0)):=by rw [cellsAt_eq h]
    exact ⟨by show l.length - (0+1)<l.length - (0); omega,⟨Zr,⟨e1,rfl⟩,Zr,Zr,Zr,Tv⟩,Tv,Fh,Tv⟩
  | k+1,h1,h2,h,hg,hd,hc,hgo =>
   refine Xi (encRq l[k+1]) (Yi (Yi (by show (0:Int)≤((k+1:Nat):Int); omega) (by simp [hg])) (Yi rfl ?_));refine Yi (Nz rfl) (Yi (Nz rfl) (Yi (Nz rfl) ?_));refine Xi .pure (Xi _ (Yi (hc) ?_));refine Xi ⟨[(0,sl encRq l),(4,vi ((k+1:Nat):Int)),(6,vi (rqOk (befAt l (k+1)) l[k+1])),(10,sl encRq l),(11,vi (l.map encRq).length),(12,vi ((k+1:Nat):Int))],[],hfree⟩ (Yi ⟨Z6,Tv,Fh,Tv⟩ ?_)
   refine Yi ?_ ?_
   ·intro h4;have h4:rqOk (befAt l (k+1)) l[k+1]≠0:=h4;exact .of_eq (congrArg vi (show rqOk (befAt l (k+1)) l[k+1]=checkRqs l by rw [hck,hgo,if_neg h4]))
   ·intro h4;have h4:¬ rqOk (befAt l (k+1)) l[k+1]≠0:=h4;refine Xi (encRq l[k+1]) (Yi (Yi (by show (0:Int)≤((k+1:Nat):Int); omega) (by simp [hg])) (Yi rfl ?_));refine Yi (by show InI64 (((k+1:Nat):Int)+1); unfold InI64; omega) ?_;refine Xi ⟨k+1+1,by omega,by rw [hgo,if_pos (Decidable.of_not_not h4),befAt_eq h]⟩ ?_;have e1:AV.cptr (encRq l[k+1])=.cptr (cellsAt l (k+1)):=by rw [cellsAt_eq h]
    exact ⟨by show l.length - (k+1+1)<l.length - (k+1); omega,⟨Zr,⟨e1,rfl⟩,Zr,Zr,Zr,Tv⟩,Tv,Fh,Tv⟩
 ·intro h;have h:¬ (i:Int)<(l.map encRq).length:=h;have h:¬ i<l.length:=by simpa using h
  have e:(0:Int)=checkRqs l:=by rw [hck,h2,List.drop_eq_nil_of_le (by omega)]; rfl
  exact .of_eq (congrArg vi e)
end Go.Eng

namespace Go.Eng
open Go.Proofs
abbrev dgAt (r:Rl):Nat→ByteArray
 | 0=>r.arch
 | 1=>r.ifc
 | _=>r.cert
theorem dg_all {r:Rl} (h:∀ j,j<3→dgOk (dgAt r j)=true):(dgOk r.arch&&dgOk r.ifc&&dgOk r.cert)=true:=by
 have h0:dgOk r.arch=true:=h 0 (by decide);have h1:dgOk r.ifc=true:=h 1 (by decide);have h2:dgOk r.cert=true:=h 2 (by decide);rw [h0,h1,h2]; rfl
theorem dg_not {r:Rl} {i:Nat} (hi:i<3) (h:dgOk (dgAt r i)=false):(dgOk r.arch&&dgOk r.ifc&&dgOk r.cert)=false:=by
 match i,hi,h with
 | 0,_,h=>have h:dgOk r.arch=false:=h; rw [h]; rfl
 | 1,_,h=>have h:dgOk r.ifc=false:=h; rw [h,Bool.and_false]; rfl
 | 2,_,h=>have h:dgOk r.cert=false:=h; rw [h,Bool.and_false]
theorem c107 {nm:ByteArray→ByteArray} (hL:Line nm) (r:Rl) (hr:FewR r):PC 178 [.agg (encRl r)] (vi (checkRl r)):=by
 cases hpm:pathMajor r.path with
 | none =>
  have e:(4:Int)=checkRl r:=by unfold checkRl; rw [hpm]
  have hl:=hL.none hr.1 hpm;refine Ps pl0 Tryz.func178 rfl (Nz rfl) ?_;refine Xi .pure (Xi _ (Yi (hl) ?_));refine Yi ?_ ?_
  ·intro _; exact .of_eq (congrArg vi e)
  ·intro h; exact absurd (show (4:Int)≠0 by decide) h
 | some m =>
  have er:checkRl r=if (!validB r.ver||!decide (r.ver.a=m))=true then 2 else if checkRqs r.reqs≠0 then checkRqs r.reqs else if (dgOk r.arch&&dgOk r.ifc&&dgOk r.cert)=true then 0 else 1:=by unfold checkRl; rw [hpm]
  have hl:=hL.some hr.1 hpm;have hv:=c100 r.ver;have hc:=c65 hL r.reqs hr.2;rcases Bt (validB r.ver) with h2 | h2
  ·rw [h2] at hv;refine Ps (plcut [2,4,6,7,9]) Tryz.func178 rfl (Nz rfl) ?_;refine Xi .pure (Xi _ (Yi (hl) ?_));refine Xi ⟨[(1,.ref 1 0),(4,vi m),(5,vi 0)],[(1,.cells (encRl r))],hfree⟩ (Yi ⟨Z3,Z1,Fh,Tv⟩ ?_)
   refine Yi ?_ ?_
   ·intro h; exact absurd rfl h
   intro _;refine Xi ⟨[(1,.ref 1 0),(4,vi m)],[(1,.cells (encRl r))],hfree⟩ (Yi ⟨Z2,Z1,Fh,Tv⟩ ?_)
   refine Yi (Nz rfl) ?_;refine Xi .pure (Xi _ (Yi (hv) ?_));refine Yi ?_ ?_
   ·intro h;have h:r.ver.a≠m:=h;have e:(2:Int)=checkRl r:=by rw [er,h2,decide_eq_false h]; rfl
    exact .of_eq (congrArg vi e)
   intro h;have h:¬ r.ver.a≠m:=h;have h3:r.ver.a=m:=Decidable.of_not_not h;have er2:checkRl r=if checkRqs r.reqs≠0 then checkRqs r.reqs else if (dgOk r.arch&&dgOk r.ifc&&dgOk r.cert)=true then 0 else 1:=by rw [er,h2,decide_eq_true h3]; rfl
   refine Xi ⟨[(1,.ref 1 0)],[(1,.cells (encRl r))],hfree⟩ (Yi ⟨Z1,Z1,Fh,Tv⟩ ?_)
   refine Xi .pure (Xi _ (Yi (hc) ?_));refine Xi ⟨[(1,.ref 1 0),(6,vi (checkRqs r.reqs))],[(1,.cells (encRl r))],hfree⟩ (Yi ⟨Z2,Z1,Fh,Tv⟩ ?_)
   refine Yi ?_ ?_
   ·intro h4;have h4:checkRqs r.reqs≠0:=h4;exact .of_eq (congrArg vi (show checkRqs r.reqs=checkRl r by rw [er2,if_pos h4]))
   intro h4;have h4:¬ checkRqs r.reqs≠0:=h4;have er3:checkRl r=if (dgOk r.arch&&dgOk r.ifc&&dgOk r.cert)=true then 0 else 1:=by rw [er2,if_neg h4]
   refine Xi ⟨[(1,.ref 1 0)],[(1,.cells (encRl r))],hfree⟩ (Yi ⟨Z1,Z1,Fh,Tv⟩ ?_)
   refine Xi {i:Nat // i≤3∧∀ j,j<i→dgOk (dgAt r j)=true} (Xi (fun i=>⟨[(41,.slice (.id 41 1) [[vs r.arch],[vs r.ifc],[vs r.cert]]),(42,vi 3),(43,vi i.1)],[(41,.tok 1 3)],hfree⟩) (Xi (fun i=>3 - i.1) (Yi (Xi ⟨0,by omega,fun j h=>by omega⟩ ?_) ?_)))
   ·exact ⟨Z3,Z1,Fh,Tv⟩
   intro ⟨i,i1,i2⟩;refine Yi ?_ ?_
   ·intro h;have h:(i:Int)<3:=h;have next:dgOk (dgAt r i)=true→∀ j,j<i+1→dgOk (dgAt r j)=true:=fun hz j hj=>by
     rcases Nat.lt_or_ge j i with q | q
     ·exact i2 j q
     ·have:j=i:=by omega
      subst this; exact hz
    match i,i1,i2,h,next with
    | 0,i1,i2,h,next =>
     refine Xi [vs r.arch] (Yi (Yi (by show (0:Int)≤0; decide) rfl) (Yi rfl ?_));refine Yi ?_ ?_
     ·intro h5;have h5:((r.arch.size:Nat):Int)≠0:=h5;refine Yi ?_ ?_
      ·intro h6;have h6:((r.arch.size:Nat):Int)≠32:=h6;have e:(1:Int)=checkRl r:=by rw [er3,dg_not (i:=0) (by decide) (show dgOk r.arch=false by unfold dgOk; rw [decide_eq_false (by omega),decide_eq_false (by omega)]; rfl)]; rfl
       exact .of_eq (congrArg vi e)
      ·intro h6;have h6:¬ ((r.arch.size:Nat):Int)≠32:=h6;refine Yi (Ii 0 (by omega)) ?_;refine Xi ⟨1,by omega,next (show dgOk r.arch=true by unfold dgOk; rw [decide_eq_true (by omega:r.arch.size=32),Bool.or_true])⟩ ?_
       exact ⟨by show 3 - 1<3 - 0; decide,Z3,Z1,Fh,Tv⟩
     ·intro h5;have h5:¬ ((r.arch.size:Nat):Int)≠0:=h5;refine Yi (Ii 0 (by omega)) ?_;refine Xi ⟨1,by omega,next (show dgOk r.arch=true by unfold dgOk; rw [decide_eq_true (by omega:r.arch.size=0)]; rfl)⟩ ?_
      exact ⟨by show 3 - 1<3 - 0; decide,Z3,Z1,Fh,Tv⟩
    | 1,i1,i2,h,next =>
     refine Xi [vs r.ifc] (Yi (Yi (by show (0:Int)≤1; decide) rfl) (Yi rfl ?_));refine Yi ?_ ?_
     ·intro h5;have h5:((r.ifc.size:Nat):Int)≠0:=h5;refine Yi ?_ ?_
      ·intro h6;have h6:((r.ifc.size:Nat):Int)≠32:=h6;have e:(1:Int)=checkRl r:=by rw [er3,dg_not (i:=1) (by decide) (show dgOk r.ifc=false by unfold dgOk; rw [decide_eq_false (by omega),decide_eq_false (by omega)]; rfl)]; rfl
       exact .of_eq (congrArg vi e)
      ·intro h6;have h6:¬ ((r.ifc.size:Nat):Int)≠32:=h6;refine Yi (Ii 1 (by omega)) ?_;refine Xi ⟨2,by omega,next (show dgOk r.ifc=true by unfold dgOk; rw [decide_eq_true (by omega:r.ifc.size=32),Bool.or_true])⟩ ?_
       exact ⟨by show 3 - 2<3 - 1; decide,Z3,Z1,Fh,Tv⟩
     ·intro h5;have h5:¬ ((r.ifc.size:Nat):Int)≠0:=h5;refine Yi (Ii 1 (by omega)) ?_;refine Xi ⟨2,by omega,next (show dgOk r.ifc=true by unfold dgOk; rw [decide_eq_true (by omega:r.ifc.size=0)]; rfl)⟩ ?_
      exact ⟨by show 3 - 2<3 - 1; decide,Z3,Z1,Fh,Tv⟩
    | 2,i1,i2,h,next =>
     refine Xi [vs r.cert] (Yi (Yi (by show (0:Int)≤2; decide) rfl) (Yi rfl ?_));refine Yi ?_ ?_
     ·intro h5;have h5:((r.cert.size:Nat):Int)≠0:=h5;refine Yi ?_ ?_
      ·intro h6;have h6:((r.cert.size:Nat):Int)≠32:=h6;have e:(1:Int)=checkRl r:=by rw [er3,dg_not (i:=2) (by decide) (show dgOk r.cert=false by unfold dgOk; rw [decide_eq_false (by omega),decide_eq_false (by omega)]; rfl)]; rfl
       exact .of_eq (congrArg vi e)
      ·intro h6;have h6:¬ ((r.cert.size:Nat):Int)≠32:=h6;refine Yi (Ii 2 (by omega)) ?_;refine Xi ⟨3,by omega,next (show dgOk r.cert=true by unfold dgOk; rw [decide_eq_true (by omega:r.cert.size=32),Bool.or_true])⟩ ?_
       exact ⟨by show 3 - 3<3 - 2; decide,Z3,Z1,Fh,Tv⟩
     ·intro h5;have h5:¬ ((r.cert.size:Nat):Int)≠0:=h5;refine Yi (Ii 2 (by omega)) ?_;refine Xi ⟨3,by omega,next (show dgOk r.cert=true by unfold dgOk; rw [decide_eq_true (by omega:r.cert.size=0)]; rfl)⟩ ?_
      exact ⟨by show 3 - 3<3 - 2; decide,Z3,Z1,Fh,Tv⟩
    | i+3,i1,i2,h,next=>omega
   ·intro h;have h:¬ (i:Int)<3:=h;have e:(0:Int)=checkRl r:=by rw [er3,if_pos (dg_all fun j hj=>i2 j (by omega))]
    exact .of_eq (congrArg vi e)
  ·rw [h2] at hv;have e:(2:Int)=checkRl r:=by rw [er,h2]; rfl
   refine Ps (plcut [2,4]) Tryz.func178 rfl (Nz rfl) ?_;refine Xi .pure (Xi _ (Yi (hl) ?_));refine Xi ⟨[(1,.ref 1 0),(4,vi m),(5,vi 0)],[(1,.cells (encRl r))],hfree⟩ (Yi ⟨Z3,Z1,Fh,Tv⟩ ?_)
   refine Yi ?_ ?_
   ·intro h; exact absurd rfl h
   intro _;refine Xi ⟨[(1,.ref 1 0),(4,vi m)],[(1,.cells (encRl r))],hfree⟩ (Yi ⟨Z2,Z1,Fh,Tv⟩ ?_)
   refine Yi (Nz rfl) ?_;refine Xi .pure (Xi _ (Yi (hv) ?_));exact .of_eq (congrArg vi e)
end Go.Eng

namespace Go.Eng
open Go.Proofs
theorem key_eq {a b:Rl} (h:a.path=b.path∧a.ver.a=b.ver.a∧a.ver.b=b.ver.b∧a.ver.c=b.ver.c):keyR a=keyR b:=by
 unfold keyR;obtain ⟨h1,h2,h3,h4⟩:=h
 have:a.ver=b.ver:=by
  cases ha:a.ver; cases hb:b.ver; rw [ha,hb] at h2 h3 h4; simp_all
 rw [h1,this]
theorem key_parts {a b:Rl} (h:keyR a=keyR b):a.path=b.path∧a.ver.a=b.ver.a∧a.ver.b=b.ver.b∧a.ver.c=b.ver.c:=by
 unfold keyR at h
 injection h with h1 h2
 exact ⟨h1,by rw [h2],by rw [h2],by rw [h2]⟩
abbrev befR (x:List Rl):Nat→Option Rl
 | 0=>none
 | k+1=>x[k]?
theorem c64 {nm:ByteArray→ByteArray} (hL:Line nm) (x:List Rl) (ifs:List (List AV)) (hs:∀ r ∈ x,FewR r):PC 115 [.agg (Ic x ifs)] (vi (checkIx x)):=by
 refine Ps (plcut [7,9,11,13]) Tryz.func115 rfl (Nz rfl) ?_;refine Yi ?_ ?_
 ·intro h;have h:(256:Int)<(x.map encRl).length:=h;exact .of_eq (congrArg vi (show (7:Int)=checkIx x by unfold checkIx; rw [if_pos (by rw [Lm] at h; omega)]))
 intro h;have h:¬ (256:Int)<(x.map encRl).length:=h;have hl:x.length≤256:=by rw [Lm] at h; omega
 have hck:checkIx x=checkIxGo none x:=by unfold checkIx; rw [if_neg (by omega)]
 refine Xi {i:Nat // i≤x.length∧checkIxGo none x=checkIxGo (befR x i) (x.drop i)} (Xi (fun i=>⟨[(1,.ref 1 0),(12,sl encRl x),(13,vi (x.map encRl).length),(14,vi i.1)],[(1,.cells (Ic x ifs))],hfree⟩) (Xi (fun i=>x.length - i.1) (Yi (Xi ⟨0,Nat.zero_le _,rfl⟩ ?_) ?_)))
 ·exact ⟨Z4,Z1,Fh,Tv⟩
 intro ⟨i,h1,h2⟩;refine Yi ?_ ?_
 ·intro h;have h:(i:Int)<(x.map encRl).length:=h;have h:i<x.length:=by simpa using h
  have hg:x[i]?=some x[i]:=Ge h;have hd:x.drop i=x[i] :: x.drop (i+1):=List.drop_eq_getElem_cons h;have hc:=c107 hL x[i] (hs x[i] (List.getElem_mem h));have hgo:checkIxGo none x=if checkRl x[i]≠0 then checkRl x[i] else match befR x i with
   | none=>checkIxGo (some x[i]) (x.drop (i+1))
   | some b=>if keyR b=keyR x[i] then 5 else if 0<cmpR b x[i] then 1 else checkIxGo (some x[i]) (x.drop (i+1)):=by rw [h2,hd]; rfl
  have hnext:befR x (i+1)=some x[i]:=Ge h;refine Xi (encRl x[i]) (Yi (Yi (Nn i) (by simp [hg])) (Yi rfl ?_));refine Yi (Nz rfl) (Yi (Nz rfl) (Yi (Nz rfl) ?_));refine Xi .pure (Xi _ (Yi (hc) ?_));refine Xi ⟨[(1,.ref 1 0),(3,vi i),(4,.ref 4 0),(5,vi (checkRl x[i])),(12,sl encRl x),(13,vi (x.map encRl).length),(14,vi i)],[(1,.cells (Ic x ifs)),(4,.cells (encRl x[i]))],hfree⟩ (Yi ⟨Z7,Z2,Fh,Tv⟩ ?_)
  refine Yi ?_ ?_
  ·intro h4;have h4:checkRl x[i]≠0:=h4;exact .of_eq (congrArg vi (show checkRl x[i]=checkIx x by rw [hck,hgo,if_pos h4]))
  intro h4;have h4:¬ checkRl x[i]≠0:=h4;refine Xi ⟨[(1,.ref 1 0),(3,vi i),(4,.ref 4 0),(12,sl encRl x),(13,vi (x.map encRl).length),(14,vi i)],[(1,.cells (Ic x ifs)),(4,.cells (encRl x[i]))],hfree⟩ (Yi ⟨Z6,Z2,Fh,Tv⟩ ?_)
  refine Yi ?_ ?_
  ·intro h5;have h5:(i:Int)=0:=h5;have h6:i=0:=by omega
   refine Yi (Ii i (by omega)) ?_;refine Xi ⟨i+1,by omega,by rw [hgo,if_neg h4,hnext]; subst h6; rfl⟩ ?_;exact ⟨Dl x.length i (by omega),Z4,Z1,Fh,Tv⟩
  intro h5;have h5:¬ (i:Int)=0:=h5;have hi1:i - 1<x.length:=by omega
  have hb:befR x i=some x[i - 1]:=by
   obtain ⟨k,rfl⟩ : ∃ k,i=k+1:=⟨i - 1,by omega⟩;exact Ge (by omega)
  have hgo2:checkIxGo none x=if keyR x[i - 1]=keyR x[i] then 5 else if 0<cmpR x[i - 1] x[i] then 1 else checkIxGo (some x[i]) (x.drop (i+1)):=by rw [hgo,if_neg h4,hb]
  refine Yi (by show InI64 ((i:Int) - 1); unfold InI64; omega) ?_;have hg1:(x.map encRl)[((i:Int) - 1).toNat]?=some (encRl x[i - 1]):=by rw [show ((i:Int) - 1).toNat=i - 1 by omega]; exact map_at (Ge hi1)
  refine Xi (encRl x[i - 1]) (Yi (Yi (by show (0:Int)≤(i:Int) - 1; omega) hg1) (Yi rfl ?_));refine Yi (Nz rfl) (Yi (Nz rfl) ?_);refine Xi ⟨[(1,.ref 1 0),(4,.ref 4 0),(6,.ref 6 0),(12,sl encRl x),(13,vi (x.map encRl).length),(14,vi i)],[(1,.cells (Ic x ifs)),(4,.cells (encRl x[i])),(6,.cells (encRl x[i - 1]))],hfree⟩ (Yi ⟨Z6,Z3,Fh,Tv⟩ ?_)
  refine Yi (Nz rfl) ?_;refine Xi _ (Yi (c108 x[i - 1]) ?_);refine Yi (Nz rfl) ?_;refine Xi _ (Yi (c108 x[i]) ?_);refine Yi ?_ ?_
  ·intro h6;refine Yi (by kernel_rfl) ?_;have e:(5:Int)=checkIx x:=by rw [hck,hgo2,if_pos (key_eq ⟨h6.1,h6.2.1,h6.2.2.1,h6.2.2.2.1⟩)]
   exact .of_eq (congrArg vi e)
  intro h6;refine Yi (by kernel_rfl) ?_;have h7:¬ keyR x[i - 1]=keyR x[i]:=fun e=>by
   have e:=key_parts e;exact h6 ⟨e.1,e.2.1,e.2.2.1,e.2.2.2,trivial⟩
  refine Xi ⟨[(1,.ref 1 0),(4,.ref 4 0),(6,.ref 6 0),(12,sl encRl x),(13,vi (x.map encRl).length),(14,vi i)],[(1,.cells (Ic x ifs)),(4,.cells (encRl x[i])),(6,.cells (encRl x[i - 1]))],hfree⟩ (Yi ⟨Z6,Z3,Fh,Tv⟩ ?_)
  refine Yi (Nz rfl) (Yi (Nz rfl) ?_);refine Xi .pure (Xi _ (Yi (c109 x[i - 1] x[i]) ?_));refine Yi ?_ ?_
  ·intro h8;have h8:(0:Int)<cmpR x[i - 1] x[i]:=h8;have e:(1:Int)=checkIx x:=by rw [hck,hgo2,if_neg h7,if_pos h8]
   exact .of_eq (congrArg vi e)
  ·intro h8;have h8:¬ (0:Int)<cmpR x[i - 1] x[i]:=h8;refine Yi (Ii i (by omega)) ?_;refine Xi ⟨i+1,by omega,by rw [hgo2,if_neg h7,if_neg h8,hnext]⟩ ?_;exact ⟨Dl x.length i (by omega),Z4,Z1,Fh,Tv⟩
 ·intro h;have h:¬ (i:Int)<(x.map encRl).length:=h;have h:¬ i<x.length:=by simpa using h
  have e:(0:Int)=checkIx x:=by rw [hck,h2,List.drop_eq_nil_of_le (by omega)]; rfl
  exact .of_eq (congrArg vi e)
end Go.Eng

namespace Go.Eng
open Go.Proofs
end Go.Eng

namespace Go.Eng
open Go.Proofs
abbrev vc (c:UInt8):AV:=.v (.int .u8 c.toNat)
theorem u8_le (a:UInt8) (n:Nat) (h:n<256):decide (UInt8.ofNat n≤a)=decide ((n:Int)≤(a.toNat:Int)):=by
 rw [Bool.eq_iff_iff,decide_eq_true_eq,decide_eq_true_eq,UInt8.le_iff_toNat_le,show (UInt8.ofNat n).toNat=n by simp; omega]; omega
theorem u8_ge (a:UInt8) (n:Nat) (h:n<256):decide (a≤UInt8.ofNat n)=decide ((a.toNat:Int)≤(n:Int)):=by
 rw [Bool.eq_iff_iff,decide_eq_true_eq,decide_eq_true_eq,UInt8.le_iff_toNat_le,show (UInt8.ofNat n).toNat=n by simp; omega]; omega
theorem c217 (c:UInt8):PC 128 [vc c] (vb (smallC c)):=by
 refine Ps pl0 Tryz.func128 rfl (Nz rfl) ?_;have e1:decide ((97:UInt8)≤c)=decide ((97:Int)≤(c.toNat:Int)):=u8_le c 97 (by decide);have e2:decide (c≤(122:UInt8))=decide ((c.toNat:Int)≤(122:Int)):=u8_ge c 122 (by decide);have es:smallC c=(decide ((97:Int)≤(c.toNat:Int))&&decide ((c.toNat:Int)≤(122:Int))):=by unfold smallC; rw [e1,e2]
 refine Yi ?_ ?_
 ·intro h;have h:(97:Int)≤(c.toNat:Int):=h;refine Yi ?_ ?_
  ·intro h2;have h2:(c.toNat:Int)≤122:=h2;exact .of_eq (congrArg vb (show true=smallC c by rw [es,decide_eq_true h,decide_eq_true h2]; rfl))
  ·intro h2;have h2:¬ (c.toNat:Int)≤122:=h2;exact .of_eq (congrArg vb (show false=smallC c by rw [es,decide_eq_false h2,Bool.and_false]))
 ·intro h;have h:¬ (97:Int)≤(c.toNat:Int):=h;exact .of_eq (congrArg vb (show false=smallC c by rw [es,decide_eq_false h]; rfl))
theorem c218 (c:UInt8):PC 129 [vc c] (vb (digitC c)):=by
 refine Ps pl0 Tryz.func129 rfl (Nz rfl) ?_;have e1:decide ((48:UInt8)≤c)=decide ((48:Int)≤(c.toNat:Int)):=u8_le c 48 (by decide);have e2:decide (c≤(57:UInt8))=decide ((c.toNat:Int)≤(57:Int)):=u8_ge c 57 (by decide);have es:digitC c=(decide ((48:Int)≤(c.toNat:Int))&&decide ((c.toNat:Int)≤(57:Int))):=by unfold digitC; rw [e1,e2]
 refine Yi ?_ ?_
 ·intro h;have h:(48:Int)≤(c.toNat:Int):=h;refine Yi ?_ ?_
  ·intro h2;have h2:(c.toNat:Int)≤57:=h2;exact .of_eq (congrArg vb (show true=digitC c by rw [es,decide_eq_true h,decide_eq_true h2]; rfl))
  ·intro h2;have h2:¬ (c.toNat:Int)≤57:=h2;exact .of_eq (congrArg vb (show false=digitC c by rw [es,decide_eq_false h2,Bool.and_false]))
 ·intro h;have h:¬ (48:Int)≤(c.toNat:Int):=h;exact .of_eq (congrArg vb (show false=digitC c by rw [es,decide_eq_false h]; rfl))
theorem c261 (c:UInt8):PC 266 [vc c] (vb (capC c)):=by
 refine Ps pl0 Tryz.func266 rfl (Nz rfl) ?_;have e1:decide ((65:UInt8)≤c)=decide ((65:Int)≤(c.toNat:Int)):=u8_le c 65 (by decide);have e2:decide (c≤(90:UInt8))=decide ((c.toNat:Int)≤(90:Int)):=u8_ge c 90 (by decide);have es:capC c=(decide ((65:Int)≤(c.toNat:Int))&&decide ((c.toNat:Int)≤(90:Int))):=by unfold capC; rw [e1,e2]
 refine Yi ?_ ?_
 ·intro h;have h:(65:Int)≤(c.toNat:Int):=h;refine Yi ?_ ?_
  ·intro h2;have h2:(c.toNat:Int)≤90:=h2;exact .of_eq (congrArg vb (show true=capC c by rw [es,decide_eq_true h,decide_eq_true h2]; rfl))
  ·intro h2;have h2:¬ (c.toNat:Int)≤90:=h2;exact .of_eq (congrArg vb (show false=capC c by rw [es,decide_eq_false h2,Bool.and_false]))
 ·intro h;have h:¬ (65:Int)≤(c.toNat:Int):=h;exact .of_eq (congrArg vb (show false=capC c by rw [es,decide_eq_false h]; rfl))
abbrev segC (c:UInt8):Bool:=smallC c||digitC c
theorem c216 (c:UInt8):PC 127 [vc c] (vb (segC c)):=by
 have h1:=c217 c;have h2:=c218 c;rcases Bt (smallC c) with e | e
 ·rw [e] at h1;refine Ps pl0 Tryz.func127 rfl (Nz rfl) ?_;refine Xi .pure (Xi _ (Yi (h1) ?_));exact .of_eq (congrArg vb (show true=segC c by unfold segC; rw [e]; rfl))
 ·rw [e] at h1;refine Ps pl0 Tryz.func127 rfl (Nz rfl) ?_;refine Xi .pure (Xi _ (Yi (h1) ?_));refine Xi .pure (Xi _ (Yi (h2) ?_));exact .of_eq (congrArg vb (show digitC c=segC c by unfold segC; rw [e]; rfl))
theorem c243 (c:UInt8):PC 199 [vc c] (vb (wordC c)):=by
 have h1:=c217 c;have h2:=c261 c;have h3:=c218 c;have ew:wordC c=(smallC c||capC c||digitC c||decide (c=95)):=rfl;rcases Bt (smallC c) with e | e
 ·rw [e] at h1;refine Ps pl0 Tryz.func199 rfl (Nz rfl) ?_;refine Xi .pure (Xi _ (Yi (h1) ?_));exact .of_eq (congrArg vb (show true=wordC c by rw [ew,e]; rfl))
 rw [e] at h1;rcases Bt (capC c) with e2 | e2
 ·rw [e2] at h2;refine Ps pl0 Tryz.func199 rfl (Nz rfl) ?_;refine Xi .pure (Xi _ (Yi (h1) ?_));refine Xi .pure (Xi _ (Yi (h2) ?_));exact .of_eq (congrArg vb (show true=wordC c by rw [ew,e,e2]; rfl))
 rw [e2] at h2;rcases Bt (digitC c) with e3 | e3
 ·rw [e3] at h3;refine Ps pl0 Tryz.func199 rfl (Nz rfl) ?_;refine Xi .pure (Xi _ (Yi (h1) ?_));refine Xi .pure (Xi _ (Yi (h2) ?_));refine Xi .pure (Xi _ (Yi (h3) ?_));exact .of_eq (congrArg vb (show true=wordC c by rw [ew,e,e2,e3]; rfl))
 rw [e3] at h3;refine Ps pl0 Tryz.func199 rfl (Nz rfl) ?_;refine Xi .pure (Xi _ (Yi (h1) ?_));refine Xi .pure (Xi _ (Yi (h2) ?_));refine Xi .pure (Xi _ (Yi (h3) ?_));have eb:decide (c=95)=decide ((c.toNat:Int)=95):=by
  rw [Bool.eq_iff_iff,decide_eq_true_eq,decide_eq_true_eq];constructor
  ·intro h; subst h; rfl
  ·intro h; exact UInt8.toNat_inj.1 (by show c.toNat=95; omega)
 refine Yi ?_ ?_
 ·intro h;have h:(c.toNat:Int)=95:=h;exact .of_eq (congrArg vb (show true=wordC c by rw [ew,e,e2,e3,eb,decide_eq_true h]; rfl))
 ·intro h;have h:¬ (c.toNat:Int)=95:=h;exact .of_eq (congrArg vb (show false=wordC c by rw [ew,e,e2,e3,eb,decide_eq_false h]; rfl))
theorem at_data (s:ByteArray) (i:Nat) (h:i<s.data.toList.length):s.data[i]?=some s.data.toList[i]:=by
 rw [← Array.getElem?_toList]; exact Ge h
theorem c215 (s:ByteArray) (f:Nat) (q:UInt8→Bool) (hf:∀ c,PC f [vc c] (vb (q c))) (hs:s.data.toList.length<4611686018427387904):PC 126 [vs s,.v (fnV f)] (vb (s.data.toList.all q)):=by
 have hsz:s.size=s.data.toList.length:=by simp
 refine Ps pl0 Tryz.func126 rfl (Nz rfl) ?_;refine Xi {i:Nat // i≤s.data.toList.length∧∀ j (hj:j<s.data.toList.length),j<i→q s.data.toList[j]=true} (Xi (fun i=>⟨[(0,vs s),(1,.v (fnV f)),(7,vi s.size),(8,vi i.1)],[],hfree⟩) (Xi (fun i=>s.data.toList.length - i.1) (Yi (Xi ⟨0,Nat.zero_le _,fun j _ h=>by omega⟩ ?_) ?_)))
 ·exact ⟨Z4,Tv,Fh,Tv⟩
 intro ⟨i,h1,h2⟩;refine Yi ?_ ?_
 ·intro h;have h:(i:Int)<(s.size:Nat):=h;have h:i<s.data.toList.length:=by omega
  refine Xi s.data.toList[i] (Yi ⟨by show (0:Int)≤i; omega,by show s.data[((i:Nat):Int).toNat]?=_; rw [Int.toNat_natCast]; exact at_data s i h⟩ ?_);have hc:=hf s.data.toList[i];refine Or.elim (Bt (q s.data.toList[i])) (fun e=>?_) (fun e=>?_)
  ·rw [e] at hc;refine Xi .pure (Xi _ (Yi (hc) ?_));refine Yi (Ii i (by omega)) ?_;refine Xi ⟨i+1,by omega,fun j hj hji=>?_⟩ ?_
   ·rcases Nat.lt_or_ge j i with z | z
    ·exact h2 j hj z
    ·have:j=i:=by omega
     subst this; exact e
   ·exact ⟨Dl s.data.toList.length i (by omega),Z4,Tv,Fh,Tv⟩
  ·rw [e] at hc;refine Xi .pure (Xi _ (Yi (hc) ?_));have er:s.data.toList.all q=false:=by
    rw [Bool.eq_false_iff];intro ha
    have:=List.all_eq_true.1 ha _ (List.getElem_mem h)
    rw [e] at this; cases this
   exact .of_eq (congrArg vb er.symm)
 ·intro h;have h:¬ (i:Int)<(s.size:Nat):=h;have er:s.data.toList.all q=true:=List.all_eq_true.2 fun c hc=>by
   obtain ⟨j,hj,rfl⟩:=List.getElem_of_mem hc;exact h2 j hj (by omega)
  exact .of_eq (congrArg vb er.symm)
end Go.Eng

namespace Go.Proofs
open Go.Shelf
def Tryz.laySplit_ren:Go.Shelf.Ren:=⟨fun | 146=>123 | 221=>197 | 268=>263 | 138=>264 | 143=>87 | 195=>318 | 197=>319 | 218=>320 | 219=>153 | 260=>342 | 217=>218 | 225=>219 | 224=>220 | 267=>221 | 266=>277 | 314=>278 | n=>n,fun | 9=>9 | 31=>45 | 3=>3 | 4=>4 | 0=>0 | 105=>318 | 21=>21 | 5=>5 | 46=>159 | 119=>335 | 139=>338 | 138=>337 | 146=>197 | 51=>196 | n=>n,fun | 1=>0 | 3=>6 | 4=>7 | n=>n⟩
theorem Tryz.laySplit:Go.Proofs.Lays.n146 Tryz.prog Tryz.laySplit_ren:={
 mixed:=by kernel_rfl
 f138:=Tryz.func264.trans (congrArg some (by kernel_rfl))
 f143:=Tryz.func87.trans (congrArg some (by kernel_rfl))
 f146:=Tryz.func123.trans (congrArg some (by kernel_rfl))
 f195:=Tryz.func318.trans (congrArg some (by kernel_rfl))
 f197:=Tryz.func319.trans (congrArg some (by kernel_rfl))
 f217:=Tryz.func218.trans (congrArg some (by kernel_rfl))
 f218:=Tryz.func320.trans (congrArg some (by kernel_rfl))
 f219:=Tryz.func153.trans (congrArg some (by kernel_rfl))
 f221:=Tryz.func197.trans (congrArg some (by kernel_rfl))
 f224:=Tryz.func220.trans (congrArg some (by kernel_rfl))
 f225:=Tryz.func219.trans (congrArg some (by kernel_rfl))
 f260:=Tryz.func342.trans (congrArg some (by kernel_rfl))
 f266:=Tryz.func277.trans (congrArg some (by kernel_rfl))
 f267:=Tryz.func221.trans (congrArg some (by kernel_rfl))
 f268:=Tryz.func263.trans (congrArg some (by kernel_rfl))
 f314:=Tryz.func278.trans (congrArg some (by kernel_rfl))
 t0:=Tryz.underlying0
 a0:=Tryz.isAgg0
 z0:=Tryz.sizeOf0
 v0:=Tryz.zeroValue0
 t3:=Tryz.underlying3
 a3:=Tryz.isAgg3
 z3:=Tryz.sizeOf3
 v3:=Tryz.zeroValue3
 t4:=Tryz.underlying4
 a4:=Tryz.isAgg4
 z4:=Tryz.sizeOf4
 v4:=Tryz.zeroValue4
 t5:=Tryz.underlying5
 a5:=Tryz.isAgg5
 z5:=Tryz.sizeOf5
 v5:=Tryz.zeroValue5
 t9:=Tryz.underlying9
 a9:=Tryz.isAgg9
 z9:=Tryz.sizeOf9
 v9:=Tryz.zeroValue9
 t21:=Tryz.underlying21
 a21:=Tryz.isAgg21
 z21:=Tryz.sizeOf21
 v21:=Tryz.zeroValue21
 t31:=Tryz.underlying45
 a31:=Tryz.isAgg45
 z31:=Tryz.sizeOf45
 v31:=Tryz.zeroValue45
 t46:=Tryz.underlying159
 a46:=Tryz.isAgg159
 z46:=Tryz.sizeOf159
 v46:=Tryz.zeroValue159
 t51:=Tryz.underlying196
 a51:=Tryz.isAgg196
 z51:=Tryz.sizeOf196
 v51:=Tryz.zeroValue196
 t105:=Tryz.underlying318
 a105:=Tryz.isAgg318
 z105:=Tryz.sizeOf318
 v105:=Tryz.zeroValue318
 t119:=Tryz.underlying335
 a119:=Tryz.isAgg335
 z119:=Tryz.sizeOf335
 t138:=Tryz.underlying337
 a138:=Tryz.isAgg337
 z138:=Tryz.sizeOf337
 v138:=Tryz.zeroValue337
 t139:=Tryz.underlying338
 a139:=Tryz.isAgg338
 z139:=Tryz.sizeOf338
 v139:=Tryz.zeroValue338
 t146:=Tryz.underlying197
 a146:=Tryz.isAgg197
 z146:=Tryz.sizeOf197
 v146:=Tryz.zeroValue197
 g1:=by kernel_rfl
 g3:=by kernel_rfl
 g4:=by kernel_rfl }
def Tryz.layLast_ren:Go.Shelf.Ren:=⟨fun | 148=>41 | 222=>93 | 223=>94 | 269=>155 | n=>n,fun | 9=>9 | 3=>3 | 4=>4 | 5=>5 | 146=>197 | 51=>196 | 46=>159 | n=>n,fun | n=>n⟩
theorem Tryz.layLast:Go.Proofs.Lays.n148 Tryz.prog Tryz.layLast_ren:={
 mixed:=by kernel_rfl
 f148:=Tryz.func41.trans (congrArg some (by kernel_rfl))
 f222:=Tryz.func93.trans (congrArg some (by kernel_rfl))
 f223:=Tryz.func94.trans (congrArg some (by kernel_rfl))
 f269:=Tryz.func155.trans (congrArg some (by kernel_rfl))
 t3:=Tryz.underlying3
 a3:=Tryz.isAgg3
 z3:=Tryz.sizeOf3
 v3:=Tryz.zeroValue3
 t4:=Tryz.underlying4
 a4:=Tryz.isAgg4
 z4:=Tryz.sizeOf4
 v4:=Tryz.zeroValue4
 t5:=Tryz.underlying5
 a5:=Tryz.isAgg5
 z5:=Tryz.sizeOf5
 v5:=Tryz.zeroValue5
 t9:=Tryz.underlying9
 a9:=Tryz.isAgg9
 z9:=Tryz.sizeOf9
 v9:=Tryz.zeroValue9
 t46:=Tryz.underlying159
 a46:=Tryz.isAgg159
 z46:=Tryz.sizeOf159
 v46:=Tryz.zeroValue159
 t51:=Tryz.underlying196
 a51:=Tryz.isAgg196
 z51:=Tryz.sizeOf196
 v51:=Tryz.zeroValue196
 t146:=Tryz.underlying197
 a146:=Tryz.isAgg197
 z146:=Tryz.sizeOf197
 v146:=Tryz.zeroValue197 }
def Tryz.layCut_ren:Go.Shelf.Ren:=⟨fun | 103=>198 | 210=>265 | 206=>90 | n=>n,fun | 9=>9 | 4=>4 | 24=>241 | 3=>3 | n=>n,fun | n=>n⟩
theorem Tryz.layCut:Go.Proofs.Lays.n103 Tryz.prog Tryz.layCut_ren:={
 mixed:=by kernel_rfl
 f103:=Tryz.func198.trans (congrArg some (by kernel_rfl))
 f206:=Tryz.func90.trans (congrArg some (by kernel_rfl))
 f210:=Tryz.func265.trans (congrArg some (by kernel_rfl))
 t3:=Tryz.underlying3
 a3:=Tryz.isAgg3
 z3:=Tryz.sizeOf3
 v3:=Tryz.zeroValue3
 t4:=Tryz.underlying4
 a4:=Tryz.isAgg4
 z4:=Tryz.sizeOf4
 v4:=Tryz.zeroValue4
 t9:=Tryz.underlying9
 a9:=Tryz.isAgg9
 z9:=Tryz.sizeOf9
 v9:=Tryz.zeroValue9
 t24:=Tryz.underlying241
 a24:=Tryz.isAgg241
 z24:=Tryz.sizeOf241
 v24:=Tryz.zeroValue241 }
def Tryz.layCont_ren:Go.Shelf.Ren:=⟨fun | 144=>36 | 143=>87 | 219=>153 | 217=>218 | 225=>219 | 224=>220 | 267=>221 | 266=>277 | 314=>278 | n=>n,fun | 9=>9 | 4=>4 | 3=>3 | 5=>5 | 46=>159 | 146=>197 | 51=>196 | n=>n,fun | 1=>0 | n=>n⟩
theorem Tryz.layCont:Go.Proofs.Lays.n144 Tryz.prog Tryz.layCont_ren:={
 mixed:=by kernel_rfl
 f143:=Tryz.func87.trans (congrArg some (by kernel_rfl))
 f144:=Tryz.func36.trans (congrArg some (by kernel_rfl))
 f217:=Tryz.func218.trans (congrArg some (by kernel_rfl))
 f219:=Tryz.func153.trans (congrArg some (by kernel_rfl))
 f224:=Tryz.func220.trans (congrArg some (by kernel_rfl))
 f225:=Tryz.func219.trans (congrArg some (by kernel_rfl))
 f266:=Tryz.func277.trans (congrArg some (by kernel_rfl))
 f267:=Tryz.func221.trans (congrArg some (by kernel_rfl))
 f314:=Tryz.func278.trans (congrArg some (by kernel_rfl))
 t3:=Tryz.underlying3
 a3:=Tryz.isAgg3
 z3:=Tryz.sizeOf3
 v3:=Tryz.zeroValue3
 t4:=Tryz.underlying4
 a4:=Tryz.isAgg4
 z4:=Tryz.sizeOf4
 v4:=Tryz.zeroValue4
 t5:=Tryz.underlying5
 a5:=Tryz.isAgg5
 z5:=Tryz.sizeOf5
 v5:=Tryz.zeroValue5
 t9:=Tryz.underlying9
 a9:=Tryz.isAgg9
 z9:=Tryz.sizeOf9
 v9:=Tryz.zeroValue9
 t46:=Tryz.underlying159
 a46:=Tryz.isAgg159
 z46:=Tryz.sizeOf159
 v46:=Tryz.zeroValue159
 t51:=Tryz.underlying196
 a51:=Tryz.isAgg196
 z51:=Tryz.sizeOf196
 v51:=Tryz.zeroValue196
 t146:=Tryz.underlying197
 a146:=Tryz.isAgg197
 z146:=Tryz.sizeOf197
 v146:=Tryz.zeroValue197
 g1:=by kernel_rfl }
end Go.Proofs

namespace Go.Eng
open Go.Proofs
abbrev b47:ByteArray:=⟨#[47]⟩
abbrev partsB (s:ByteArray):List ByteArray:=Go.Lib.splitB b47 0 (Go.Lib.countB s b47) s
theorem parts_eq (s:ByteArray):(partsB s).map (·.data.toList)=splitL 47 s.data.toList:=splitB_eq s 47
abbrev encS (s:ByteArray):List AV:=[vs s]
theorem c212 (s:ByteArray) (hs:FewS s):PC 123 [vs s,vs b47] (sl encS (partsB s)):=by
 unfold FewS at hs;have h:=pcall_new (P:=Tryz.prog) (f:=123) (args:=[vs s,vs b47]) [.string s,.string b47] ((partsB s).map Value.string) 9 (ent 123 Tryz.func123 (by kernel_rfl) rfl) rfl (fun x hx=>by
  obtain ⟨y,_,rfl⟩:=List.mem_map.1 hx; rfl) (fun w hm=>by
  obtain ⟨m,hm⟩:=hm;have hl:(partsB s).length=Go.Lib.countB s b47+1:=Go.Lib.splitB_all b47 (by decide) 0 _ s rfl;refine (Any.strings_Split Tryz.laySplit (by kernel_rfl) s b47 m w (by omega) hm (by decide)).mono ?_
  rintro e w' ⟨rfl,rfl⟩
  exact ⟨by rw [Lm,hl],rfl⟩)
 rw [List.map_map] at h;exact h
theorem c188 (s p:ByteArray) (hs:FewS s):PC 41 [vs s,vs p] (vi (Go.Lib.lastIndex s.data.toList p.data.toList)):=by
 unfold FewS at hs;exact pcall_same [.string s,.string p] (.int .i64 (Go.Lib.lastIndex s.data.toList p.data.toList)) (ent 41 Tryz.func41 (by kernel_rfl) rfl) rfl (fun g w=>.v _ _) fun w _=>Any.strings_LastIndex Tryz.layLast s p (by omega) w
theorem c242 (s p:ByteArray):PC 198 [vs s,vs p] (.tup [vs ⟨(Go.Lib.trimPrefix s.data.toList p.data.toList).toArray⟩,vb (Go.Lib.hasPrefix s.data.toList p.data.toList)]):=by
 exact pcall_same [.string s,.string p] _ (ent 198 Tryz.func198 (by kernel_rfl) rfl) rfl (fun g w=>rep_vals [.string ⟨(Go.Lib.trimPrefix s.data.toList p.data.toList).toArray⟩,.bool (Go.Lib.hasPrefix s.data.toList p.data.toList)]) fun w _=>Any.strings_CutPrefix Tryz.layCut s p w
theorem c262 (s p:ByteArray) (hs:FewS s):PC 36 [vs s,vs p] (vb (Go.Lib.contains s.data.toList p.data.toList)):=by
 unfold FewS at hs;exact pcall_same [.string s,.string p] (.bool (Go.Lib.contains s.data.toList p.data.toList)) (ent 36 Tryz.func36 (by kernel_rfl) rfl) rfl (fun g w=>.v _ _) fun w hm=>by
  obtain ⟨m,hm⟩:=hm;exact Any.strings_Contains Tryz.layCont s p m w (by omega) hm
end Go.Eng

namespace Go.Eng
open Go.Proofs
theorem preL_eq:∀ x y:List UInt8,preL x y=x.isPrefixOf y
 | [],_=>by simp [preL]
 | _ :: _,[]=>rfl
 | a :: x,b :: y=>by
  rw [preL,List.isPrefixOf_cons_cons,preL_eq x y]
  rfl
theorem inL_eq (x:List UInt8):∀ y:List UInt8,inL x y=Go.Lib.contains y x
 | []=>by
  unfold Go.Lib.contains Go.Lib.index;cases x <;> rfl
 | b :: y=>by
  rw [inL,preL_eq,inL_eq x y];unfold Go.Lib.contains;have hg:=Go.Lib.index_ge y x
  conv=>rhs; unfold Go.Lib.index
  cases h:x.isPrefixOf (b :: y) with
  | true=>simp
  | false =>
   simp only [Bool.false_or,Bool.false_eq_true,if_false]
   by_cases h0:Go.Lib.index y x=-1
   ·rw [h0]; rfl
   ·have h1:(Go.Lib.index y x == -1)=false:=by simpa using h0
    rw [h1];simp only [Bool.false_eq_true,if_false];rw [decide_eq_true (by omega),decide_eq_true (by omega)]
theorem headD_zero:∀ (l:List UInt8) (h:0<l.length),l.headD 0=l[0]
 | [],h=>by simp at h
 | _ :: _,_=>rfl
abbrev keyBA:ByteArray:=⟨⟨keyTxt⟩⟩
theorem c244 (s:ByteArray) (hs:FewS s):PC 200 [vs s] (vb (keyB s.data.toList)):=by
 unfold FewS at hs;have hc:=c262 keyBA ((⟨#[32]⟩++s)++⟨#[32]⟩) (Nat.le_of_ble_eq_true (by kernel_rfl));have e:Go.Lib.contains keyBA.data.toList ((⟨#[32]⟩++s:ByteArray)++⟨#[32]⟩).data.toList=keyB s.data.toList:=by
  unfold keyB;rw [inL_eq]
  congr 1
 rw [e] at hc;refine Ps pl0 Tryz.func200 rfl (Nz rfl) ?_;refine Yi (by show (((1+s.size:Nat)):Int)≤_; omega) ?_;refine Yi (by show (((⟨#[32]⟩++s:ByteArray).size+1:Nat):Int)≤_; rw [ByteArray.size_append]; show (((1+s.size)+1:Nat):Int)≤_; omega) ?_;refine Xi .pure (Xi _ (Yi (hc) ?_));exact .refl _
theorem c214 (s:ByteArray) (hs:FewS s):PC 125 [vs s] (vb (isNameL s.data.toList)):=by
 have hk:=c244 s hs;have hw:=c215 s 199 wordC c243 (by unfold FewS at hs; simp; omega);have hsz:s.size=s.data.toList.length:=by simp
 have en:isNameL s.data.toList=(!s.data.toList.isEmpty&&decide (s.data.toList.length≤32)&&smallC (s.data.toList.headD 0)&&s.data.toList.all wordC&&!keyB s.data.toList):=rfl
 by_cases h0:s=⟨#[]⟩
 ·subst h0;refine Ps pl0 Tryz.func125 rfl (Nz rfl) ?_;refine Yi ?_ ?_
  ·intro h; exact absurd rfl (show (⟨#[]⟩ : ByteArray)≠⟨#[]⟩ from h)
  ·intro _; exact .refl _
 have h0' : s.data.toList≠[]:=fun e=>h0 (by
  have:s.data=#[]:=by rw [← Array.toList_inj]; exact e
  cases s; simp_all)
 have hlen:0<s.data.toList.length:=List.length_pos_iff.2 h0';have hemp:s.data.toList.isEmpty=false:=by
  cases hl:s.data.toList with
  | nil=>exact absurd hl h0'
  | cons a l=>rfl
 have hhd:s.data.toList.headD 0=s.data.toList[0]:=headD_zero _ hlen;have hsm:=c217 s.data.toList[0];refine Ps pl0 Tryz.func125 rfl (Nz rfl) ?_;refine Yi ?_ ?_
 rotate_left
 ·intro h; exact absurd h0 h
 intro _;refine Yi ?_ ?_
 rotate_left
 ·intro h;have h:¬ ((s.size:Nat):Int)≤32:=h;exact .of_eq (congrArg vb (show false=isNameL s.data.toList by rw [en,decide_eq_false (by omega:¬ s.data.toList.length≤32)]; simp))
 intro h;have h:((s.size:Nat):Int)≤32:=h;refine Xi s.data.toList[0] (Yi ⟨Int.le_refl _,at_data s 0 hlen⟩ ?_);refine Or.elim (Bt (smallC s.data.toList[0])) (fun e1=>?_) (fun e1=>?_)
 rotate_left
 ·rw [e1] at hsm;refine Xi .pure (Xi _ (Yi (hsm) ?_));exact .of_eq (congrArg vb (show false=isNameL s.data.toList by rw [en,hhd,e1]; simp))
 rw [e1] at hsm;refine Xi .pure (Xi _ (Yi (hsm) ?_));refine Or.elim (Bt (s.data.toList.all wordC)) (fun e2=>?_) (fun e2=>?_)
 rotate_left
 ·rw [e2] at hw;refine Xi .pure (Xi _ (Yi (hw) ?_));exact .of_eq (congrArg vb (show false=isNameL s.data.toList by rw [en,e2]; simp))
 rw [e2] at hw;refine Xi .pure (Xi _ (Yi (hw) ?_));have ef:isNameL s.data.toList=!keyB s.data.toList:=by rw [en,hemp,hhd,e1,e2,decide_eq_true (by omega:s.data.toList.length≤32)]; rfl
 refine Or.elim (Bt (keyB s.data.toList)) (fun e3=>?_) (fun e3=>?_)
 ·rw [e3] at hk;refine Xi .pure (Xi _ (Yi (hk) ?_));exact .of_eq (congrArg vb (show false=isNameL s.data.toList by rw [ef,e3]; rfl))
 ·rw [e3] at hk;refine Xi .pure (Xi _ (Yi (hk) ?_));exact .of_eq (congrArg vb (show true=isNameL s.data.toList by rw [ef,e3]; rfl))
end Go.Eng

namespace Go.Eng
open Go.Proofs
abbrev verV:Option Int→AV
 | some n=>.tup [vi n,vb true]
 | none=>.tup [vi 0,vb false]
theorem wrap_u8 {z:Int} (h0:0≤z) (h1:z<256):IntKind.u8.wrap z=z:=by
 show z % 256=z;omega
theorem digit_rng {c:UInt8} (h:digitC c=true):48≤c.toNat∧c.toNat≤57:=by
 unfold digitC at h;simp only [Bool.and_eq_true,decide_eq_true_eq] at h;exact ⟨UInt8.le_iff_toNat_le.1 h.1,UInt8.le_iff_toNat_le.1 h.2⟩
theorem numL_take (r:List UInt8) (i:Nat) (h:i<r.length):numL (r.take (i+1))=10*numL (r.take i)+((r[i].toNat:Int) - 48):=by
 unfold numL; rw [List.take_add_one,Ge h,List.foldl_append]; rfl
theorem c213 (s:ByteArray) (hs:FewS s):PC 124 [vs s] (verV (verL s.data.toList)):=by
 unfold FewS at hs;have hc:=c242 s ⟨#[118]⟩
 by_cases hp:∃ r,s.data.toList=118 :: r
 ·obtain ⟨r,hr⟩:=hp;have e1:Go.Lib.hasPrefix s.data.toList (⟨#[118]⟩ : ByteArray).data.toList=true:=by rw [hr]; rfl
  have e2:Go.Lib.trimPrefix s.data.toList (⟨#[118]⟩ : ByteArray).data.toList=r:=by unfold Go.Lib.trimPrefix; rw [e1,if_pos rfl,hr]; rfl
  rw [e1,e2] at hc;have hv:verL s.data.toList=if (r.isEmpty||decide (3<r.length)||(decide (1<r.length)&&decide (r.headD 0=48))||!r.all digitC)=true then none else some (numL r):=by rw [hr]; rfl
  have hrl:r.length<s.size:=by
   have:s.size=s.data.toList.length:=by simp
   rw [this,hr]; simp
  generalize hB:(⟨r.toArray⟩ : ByteArray)=rB at hc;have hBl:rB.data.toList=r:=by rw [← hB]
  have hBs:rB.size=r.length:=by rw [← hB]; rfl
  have hw:=c215 rB 129 digitC c218 (by rw [hBl]; omega);rw [hBl] at hw;have no:∀ {b:Bool},b=true→(if b=true then none else some (numL r))=(none:Option Int):=fun h=>if_pos h;refine Ps (plcut [2,4]) Tryz.func124 rfl (Nz rfl) ?_;refine Xi .pure (Xi _ (Yi (hc) ?_));refine Xi ⟨[(0,vs rB),(4,vb true)],[],hfree⟩ (Yi ⟨Z2,Tv,Fh,Tv⟩ ?_)
  refine Yi ?_ ?_
  ·intro h;have h:rB=⟨#[]⟩:=h
   have:r=[]:=by rw [← hBl,h]
   exact .of_eq (congrArg verV (show (none:Option Int)=verL s.data.toList by rw [hv,this]; rfl))
  intro h;have h:¬ rB=⟨#[]⟩:=h;have hne:r≠[]:=fun e=>h (by rw [← hB,e]);have hlen:0<r.length:=List.length_pos_iff.2 hne;have hemp:r.isEmpty=false:=by
   cases hl:r with
   | nil=>exact absurd hl hne
   | cons a l=>rfl
  refine Yi ?_ ?_
  ·intro h2;have h2:(3:Int)<((rB.size:Nat):Int):=h2;exact .of_eq (congrArg verV (show (none:Option Int)=verL s.data.toList by rw [hv,no]; rw [decide_eq_true (by omega:3<r.length)]; simp))
  intro h2;have h2:¬ (3:Int)<((rB.size:Nat):Int):=h2;have hl3:r.length≤3:=by omega
  have d3:decide (3<r.length)=false:=decide_eq_false (by omega);refine Yi ?_ ?_
  ·intro h3;have h3:(1:Int)<((rB.size:Nat):Int):=h3;have hat0:rB.data[(0:Int).toNat]?=some r[0]:=by
    show rB.data[0]?=_;rw [← Array.getElem?_toList,hBl]; exact Ge hlen
   refine Xi r[0] (Yi ⟨Int.le_refl _,hat0⟩ ?_);have hh:=headD_zero r hlen;refine Yi ?_ ?_
   ·intro h4;have h4:(r[0].toNat:Int)=48:=h4
    have:r[0]=48:=UInt8.toNat_inj.1 (by show r[0].toNat=48; omega)
    exact .of_eq (congrArg verV (show (none:Option Int)=verL s.data.toList by rw [hv,hh,this,decide_eq_true (by omega:1<r.length)]; simp))
   intro h4;have h4:¬ (r[0].toNat:Int)=48:=h4;have eo:(decide (1<r.length)&&decide (r.headD 0=48))=false:=by rw [hh,decide_eq_false (show ¬ r[0]=48 from fun e=>h4 (by rw [e]; rfl)),Bool.and_false]
   have hv2:verL s.data.toList=if (!r.all digitC)=true then none else some (numL r):=by rw [hv,hemp,d3,eo]; rfl
   refine Or.elim (Bt (r.all digitC)) (fun e3=>?_) (fun e3=>?_)
   rotate_left
   ·rw [e3] at hw;refine Xi .pure (Xi _ (Yi (hw) ?_));exact .of_eq (congrArg verV (show (none:Option Int)=verL s.data.toList by rw [hv2,e3]; rfl))
   rw [e3] at hw;refine Xi .pure (Xi _ (Yi (hw) ?_));have hv3:verL s.data.toList=some (numL r):=by rw [hv2,e3]; rfl
   refine Xi ⟨[(0,vs rB)],[],hfree⟩ (Yi ⟨Z1,Tv,Fh,Tv⟩ ?_)
   have z0:numL (r.take 0)=0:=rfl;refine Xi {i:Nat // i≤r.length∧0≤numL (r.take i)∧(i=0→numL (r.take i)≤0)∧(i≤1→numL (r.take i)≤9)∧(i≤2→numL (r.take i)≤99)∧numL (r.take i)≤999} (Xi (fun i=>⟨[(0,vs rB),(5,vi (numL (r.take i.1))),(39,vi rB.size),(40,vi i.1)],[],hfree⟩) (Xi (fun i=>r.length - i.1) (Yi (Xi ⟨0,Nat.zero_le _,by omega,fun _=>by omega,fun _=>by omega,fun _=>by omega,by omega⟩ ?_) ?_)))
   ·exact ⟨Z4,Tv,Fh,Tv⟩
   intro ⟨i,i1,i2,i3,i4,i5,i6⟩;refine Yi ?_ ?_
   ·intro h;have h:(i:Int)<(rB.size:Nat):=h;have h:i<r.length:=by omega
    have hdg:digitC r[i]=true:=List.all_eq_true.1 e3 _ (List.getElem_mem h);have hdr:=digit_rng hdg;have hnx:=numL_take r i h;have hwr:IntKind.u8.wrap ((r[i].toNat:Int) - 48)=(r[i].toNat:Int) - 48:=wrap_u8 (by omega) (by omega);have hat:rB.data[((i:Nat):Int).toNat]?=some r[i]:=by rw [Int.toNat_natCast,← Array.getElem?_toList,hBl]; exact Ge h
    refine Yi (by show InI64 (10*numL (r.take i)); unfold InI64; omega) ?_;refine Xi r[i] (Yi ⟨by show (0:Int)≤i; omega,hat⟩ ?_);refine Yi (by show InI64 (IntKind.u8.wrap ((r[i].toNat:Int) - 48)); rw [hwr]; unfold InI64; omega) ?_;refine Yi (by show InI64 (10*numL (r.take i)+IntKind.u8.wrap ((r[i].toNat:Int) - 48)); rw [hwr]; unfold InI64; omega) ?_;refine Yi (Ii i (by omega)) ?_;have e5:vi (10*numL (r.take i)+IntKind.u8.wrap ((r[i].toNat:Int) - 48))=vi (numL (r.take (i+1))):=by rw [hwr,hnx]
    refine Xi ⟨i+1,by omega,by omega,fun _=>by omega,fun _=>by omega,fun _=>by omega,by omega⟩ ?_;exact ⟨Dl r.length i (by omega),⟨Zr,⟨e5,rfl⟩,Zr,Zr,Tv⟩,Tv,Fh,Tv⟩
   ·intro h;have h:¬ (i:Int)<(rB.size:Nat):=h;have e6:AV.tup [vi (numL (r.take i)),vb true]=verV (verL s.data.toList):=by rw [hv3,List.take_of_length_le (by omega)]
    exact .of_eq e6
  ·intro h3;have h3:¬ (1:Int)<((rB.size:Nat):Int):=h3;have eo:(decide (1<r.length)&&decide (r.headD 0=48))=false:=by rw [decide_eq_false (by omega:¬ 1<r.length)]; rfl
   have hv2:verL s.data.toList=if (!r.all digitC)=true then none else some (numL r):=by rw [hv,hemp,d3,eo]; rfl
   refine Or.elim (Bt (r.all digitC)) (fun e3=>?_) (fun e3=>?_)
   rotate_left
   ·rw [e3] at hw;refine Xi .pure (Xi _ (Yi (hw) ?_));exact .of_eq (congrArg verV (show (none:Option Int)=verL s.data.toList by rw [hv2,e3]; rfl))
   rw [e3] at hw;refine Xi .pure (Xi _ (Yi (hw) ?_));have hv3:verL s.data.toList=some (numL r):=by rw [hv2,e3]; rfl
   refine Xi ⟨[(0,vs rB)],[],hfree⟩ (Yi ⟨Z1,Tv,Fh,Tv⟩ ?_)
   have z0:numL (r.take 0)=0:=rfl;refine Xi {i:Nat // i≤r.length∧0≤numL (r.take i)∧(i=0→numL (r.take i)≤0)∧(i≤1→numL (r.take i)≤9)∧(i≤2→numL (r.take i)≤99)∧numL (r.take i)≤999} (Xi (fun i=>⟨[(0,vs rB),(5,vi (numL (r.take i.1))),(39,vi rB.size),(40,vi i.1)],[],hfree⟩) (Xi (fun i=>r.length - i.1) (Yi (Xi ⟨0,Nat.zero_le _,by omega,fun _=>by omega,fun _=>by omega,fun _=>by omega,by omega⟩ ?_) ?_)))
   ·exact ⟨Z4,Tv,Fh,Tv⟩
   intro ⟨i,i1,i2,i3,i4,i5,i6⟩;refine Yi ?_ ?_
   ·intro h;have h:(i:Int)<(rB.size:Nat):=h;have h:i<r.length:=by omega
    have hdg:digitC r[i]=true:=List.all_eq_true.1 e3 _ (List.getElem_mem h);have hdr:=digit_rng hdg;have hnx:=numL_take r i h;have hwr:IntKind.u8.wrap ((r[i].toNat:Int) - 48)=(r[i].toNat:Int) - 48:=wrap_u8 (by omega) (by omega);have hat:rB.data[((i:Nat):Int).toNat]?=some r[i]:=by rw [Int.toNat_natCast,← Array.getElem?_toList,hBl]; exact Ge h
    refine Yi (by show InI64 (10*numL (r.take i)); unfold InI64; omega) ?_;refine Xi r[i] (Yi ⟨by show (0:Int)≤i; omega,hat⟩ ?_);refine Yi (by show InI64 (IntKind.u8.wrap ((r[i].toNat:Int) - 48)); rw [hwr]; unfold InI64; omega) ?_;refine Yi (by show InI64 (10*numL (r.take i)+IntKind.u8.wrap ((r[i].toNat:Int) - 48)); rw [hwr]; unfold InI64; omega) ?_;refine Yi (Ii i (by omega)) ?_;have e5:vi (10*numL (r.take i)+IntKind.u8.wrap ((r[i].toNat:Int) - 48))=vi (numL (r.take (i+1))):=by rw [hwr,hnx]
    refine Xi ⟨i+1,by omega,by omega,fun _=>by omega,fun _=>by omega,fun _=>by omega,by omega⟩ ?_;exact ⟨Dl r.length i (by omega),⟨Zr,⟨e5,rfl⟩,Zr,Zr,Tv⟩,Tv,Fh,Tv⟩
   ·intro h;have h:¬ (i:Int)<(rB.size:Nat):=h;have e6:AV.tup [vi (numL (r.take i)),vb true]=verV (verL s.data.toList):=by rw [hv3,List.take_of_length_le (by omega)]
    exact .of_eq e6
 ·have e1:Go.Lib.hasPrefix s.data.toList (⟨#[118]⟩ : ByteArray).data.toList=false:=by
   cases hl:s.data.toList with
   | nil=>rfl
   | cons a l =>
    have:a≠118:=fun e=>hp ⟨l,by rw [hl,e]⟩
    show (List.isPrefixOf [118] (a :: l))=false;rw [List.isPrefixOf_cons_cons]
    have:((118:UInt8) == a)=false:=by rw [beq_eq_false_iff_ne]; exact fun e=>this e.symm
    rw [this]; rfl
  have hv:verL s.data.toList=none:=by
   cases hl:s.data.toList with
   | nil=>rfl
   | cons a l =>
    have:a≠118:=fun e=>hp ⟨l,by rw [hl,e]⟩
    show (if a=118 then _ else none)=none;rw [if_neg this]
  rw [e1] at hc;refine Ps pl0 Tryz.func124 rfl (Nz rfl) ?_;refine Xi .pure (Xi _ (Yi (hc) ?_));exact .of_eq (congrArg verV hv.symm)
end Go.Eng

namespace Go.Eng
open Go.Proofs
abbrev majV:Option Int→AV
 | some n=>.tup [vi n,vi 0]
 | none=>.tup [vi 0,vi 4]
theorem splitL_len (c:UInt8):∀ (s x:List UInt8),x ∈ splitL c s→x.length≤s.length
 | [],x,h=>by
  rw [splitL] at h; rw [List.mem_singleton.1 h]; exact Nat.le_refl _
 | b :: r,x,h=>by
  have ih:=splitL_len c r;rw [splitL] at h;split at h
  ·rcases List.mem_cons.1 h with rfl | h
   ·exact Nat.zero_le _
   ·have:=ih x h; rw [List.length_cons]; omega
  ·split at h
   ·rw [List.mem_singleton.1 h]; rw [List.length_cons]; simp
   ·rename_i y l e;rcases List.mem_cons.1 h with rfl | h
    ·have:=ih y (by rw [e]; exact List.mem_cons_self ..); rw [List.length_cons,List.length_cons]; omega
    ·have:=ih x (by rw [e]; exact List.mem_cons_of_mem _ h); rw [List.length_cons]; omega
theorem part_few {p x:ByteArray} (hp:FewS p) (hx:x ∈ partsB p):FewS x:=by
 have h:x.data.toList ∈ splitL 47 p.data.toList:=by rw [← parts_eq]; exact List.mem_map.2 ⟨x,hx,rfl⟩
 have:=splitL_len 47 _ _ h
 unfold FewS at *
 have e1:x.size=x.data.toList.length:=by simp
 have e2:p.size=p.data.toList.length:=by simp
 omega
theorem parts_len (p:ByteArray):(partsB p).length=(splitL 47 p.data.toList).length:=by rw [← parts_eq,Lm]
theorem parts_pos (p:ByteArray):0<(partsB p).length:=by
 rw [show (partsB p).length=Go.Lib.countB p b47+1 from Go.Lib.splitB_all b47 (by decide) 0 _ p rfl]; omega
theorem parts_few (p:ByteArray):(partsB p).length≤p.size+1:=by
 rw [show (partsB p).length=Go.Lib.countB p b47+1 from Go.Lib.splitB_all b47 (by decide) 0 _ p rfl]
 have:=Go.Lib.countB_le b47 (by decide) p.size p (Nat.le_refl _); omega
theorem parts_last (p:ByteArray) (h:(partsB p).length - 1<(partsB p).length):(splitL 47 p.data.toList).getLastD []=((partsB p)[(partsB p).length - 1]).data.toList:=by
 rw [← parts_eq,List.getLastD_eq_getLast?,List.getLast?_eq_getElem?,Lm,List.getElem?_map,Ge h]; rfl
theorem parts_all (p:ByteArray):(splitL 47 p.data.toList).all segOk=(partsB p).all fun x=>segOk x.data.toList:=by
 rw [← parts_eq,List.all_map]; rfl
theorem c186 (p:ByteArray) (hp:FewS p):PC 73 [vs p] (majV (pathMajor p)):=by
 have hps:=parts_few p;have hpos:=parts_pos p;have hp1:(partsB p).length - 1<(partsB p).length:=by omega
 have hsz:p.size=p.data.toList.length:=by simp
 have hfp:∀ {x},x ∈ partsB p→FewS x:=fun h=>part_few hp h;unfold FewS at hp;have hg1:((partsB p).map encS)[((((partsB p).map encS).length:Int) - 1).toNat]?=some (encS (partsB p)[(partsB p).length - 1]):=by
  rw [Lm,show (((partsB p).length:Int) - 1).toNat=(partsB p).length - 1 by omega]; exact map_at (Ge hp1)
 have hv:=c213 (partsB p)[(partsB p).length - 1] (hfp (List.getElem_mem hp1));have em:pathMajor p=match verL ((partsB p)[(partsB p).length - 1]).data.toList with
  | none=>none
  | some n=>if (decide (64<p.data.toList.length)||decide ((partsB p).length<2))=true then none else if ((partsB p).all fun x=>segOk x.data.toList)=true then some n else none:=by
  unfold pathMajor majorL;rw [parts_last p hp1,parts_all,← parts_len];cases verL ((partsB p)[(partsB p).length - 1]).data.toList with
  | none=>rfl
  | some n=>rfl
 cases hve:verL ((partsB p)[(partsB p).length - 1]).data.toList with
 | none =>
  rw [hve] at hv em;refine Ps (plcut [2,3]) Tryz.func73 rfl (Nz rfl) ?_;refine Xi .pure (Xi _ (Yi (c212 p hp) ?_));refine Xi ⟨[(0,vs p),(4,sl encS (partsB p))],[],hfree⟩ (Yi ⟨Z2,Tv,Fh,Tv⟩ ?_)
  refine Yi (by show InI64 ((((partsB p).map encS).length:Int) - 1); unfold InI64; rw [Lm]; omega) ?_;refine Xi (encS (partsB p)[(partsB p).length - 1]) (Yi (Yi (by show (0:Int)≤(((partsB p).map encS).length:Int) - 1; rw [Lm]; omega) hg1) (Yi rfl ?_));refine Xi .pure (Xi _ (Yi (hv) ?_));refine Xi ⟨[(0,vs p),(4,sl encS (partsB p)),(5,vi 0),(6,vb false)],[],hfree⟩ (Yi ⟨Z4,Tv,Fh,Tv⟩ ?_)
  exact .of_eq (congrArg majV em.symm)
 | some n =>
  rw [hve] at hv em;have em:pathMajor p=if (decide (64<p.data.toList.length)||decide ((partsB p).length<2))=true then none else if ((partsB p).all fun x=>segOk x.data.toList)=true then some n else none:=em
  refine Ps (plcut [2,3,5]) Tryz.func73 rfl (Nz rfl) ?_;refine Xi .pure (Xi _ (Yi (c212 p hp) ?_));refine Xi ⟨[(0,vs p),(4,sl encS (partsB p))],[],hfree⟩ (Yi ⟨Z2,Tv,Fh,Tv⟩ ?_)
  refine Yi (by show InI64 ((((partsB p).map encS).length:Int) - 1); unfold InI64; rw [Lm]; omega) ?_;refine Xi (encS (partsB p)[(partsB p).length - 1]) (Yi (Yi (by show (0:Int)≤(((partsB p).map encS).length:Int) - 1; rw [Lm]; omega) hg1) (Yi rfl ?_));refine Xi .pure (Xi _ (Yi (hv) ?_));refine Xi ⟨[(0,vs p),(4,sl encS (partsB p)),(5,vi n),(6,vb true)],[],hfree⟩ (Yi ⟨Z4,Tv,Fh,Tv⟩ ?_)
  refine Yi ?_ ?_
  ·intro h;have h:(64:Int)<((p.size:Nat):Int):=h;exact .of_eq (congrArg majV (show (none:Option Int)=pathMajor p by rw [em,decide_eq_true (by omega:64<p.data.toList.length)]; rfl))
  intro h;have h:¬ (64:Int)<((p.size:Nat):Int):=h;have d1:decide (64<p.data.toList.length)=false:=decide_eq_false (by omega);refine Yi ?_ ?_
  ·intro h2;have h2:(((partsB p).map encS).length:Int)<2:=h2;rw [Lm] at h2;exact .of_eq (congrArg majV (show (none:Option Int)=pathMajor p by rw [em,d1,decide_eq_true (by omega:(partsB p).length<2)]; rfl))
  intro h2;have h2:¬ (((partsB p).map encS).length:Int)<2:=h2;have d2:decide ((partsB p).length<2)=false:=decide_eq_false (by rw [Lm] at h2; omega);have em2:pathMajor p=if ((partsB p).all fun x=>segOk x.data.toList)=true then some n else none:=by rw [em,d1,d2]; rfl
  refine Xi ⟨[(4,sl encS (partsB p)),(5,vi n)],[],hfree⟩ (Yi ⟨Z2,Tv,Fh,Tv⟩ ?_)
  refine Xi {i:Nat // i≤(partsB p).length∧∀ j (hj:j<(partsB p).length),j<i→segOk ((partsB p)[j]).data.toList=true} (Xi (fun i=>⟨[(5,vi n),(33,sl encS (partsB p)),(34,vi ((partsB p).map encS).length),(35,vi i.1)],[],hfree⟩) (Xi (fun i=>(partsB p).length - i.1) (Yi (Xi ⟨0,Nat.zero_le _,fun j _ h=>by omega⟩ ?_) ?_)))
  ·exact ⟨Z4,Tv,Fh,Tv⟩
  intro ⟨i,i1,i2⟩;refine Yi ?_ ?_
  ·intro h;have h:(i:Int)<((partsB p).map encS).length:=h;have h:i<(partsB p).length:=by simpa using h
   have hg:(partsB p)[i]?=some (partsB p)[i]:=Ge h;refine Xi (encS (partsB p)[i]) (Yi (Yi (Nn i) (by simp [hg])) (Yi rfl ?_));have hfi:=hfp (List.getElem_mem h);have hn:=c214 (partsB p)[i] hfi;have ha:=c215 (partsB p)[i] 127 segC c216 (by unfold FewS at hfi; have e1:(partsB p)[i].size=(partsB p)[i].data.toList.length:=(by simp); omega);have no:segOk ((partsB p)[i]).data.toList=false→(none:Option Int)=pathMajor p:=fun e=>by
    rw [em2,if_neg];intro hall
    have:=List.all_eq_true.1 hall _ (List.getElem_mem h)
    rw [e] at this; cases this
   refine Or.elim (Bt (isNameL ((partsB p)[i]).data.toList)) (fun e1=>?_) (fun e1=>?_)
   rotate_left
   ·rw [e1] at hn;refine Xi .pure (Xi _ (Yi (hn) ?_));exact .of_eq (congrArg majV (no (by unfold segOk; rw [e1]; rfl)))
   rw [e1] at hn;refine Xi .pure (Xi _ (Yi (hn) ?_));refine Or.elim (Bt (((partsB p)[i]).data.toList.all segC)) (fun e2=>?_) (fun e2=>?_)
   rotate_left
   ·rw [e2] at ha;refine Xi .pure (Xi _ (Yi (ha) ?_));exact .of_eq (congrArg majV (no (by unfold segOk; rw [e1]; exact e2)))
   rw [e2] at ha;refine Xi .pure (Xi _ (Yi (ha) ?_));refine Yi (Ii i (by omega)) ?_;refine Xi ⟨i+1,by omega,fun j hj hji=>?_⟩ ?_
   ·rcases Nat.lt_or_ge j i with z | z
    ·exact i2 j hj z
    ·have:j=i:=by omega
     subst this; unfold segOk; rw [e1]; exact e2
   ·exact ⟨by show (partsB p).length - (i+1)<(partsB p).length - i; omega,Z4,Tv,Fh,Tv⟩
  ·intro h;have h:¬ (i:Int)<((partsB p).map encS).length:=h;have h:¬ i<(partsB p).length:=by simpa using h
   have e:some n=pathMajor p:=by
    rw [em2,if_pos];exact List.all_eq_true.2 fun x hx=>by
     obtain ⟨j,hj,rfl⟩:=List.getElem_of_mem hx;exact i2 j hj (by omega)
   exact .of_eq (congrArg majV e)
end Go.Eng

namespace Go.Eng
open Go.Proofs
theorem c187 (p:ByteArray) (hp:FewS p):PC 74 [vs p] (vb (pathMajor p).isSome):=by
 have hc:=c186 p hp;cases h:pathMajor p with
 | none =>
  rw [h] at hc;refine Ps pl0 Tryz.func74 rfl (Nz rfl) ?_;refine Xi .pure (Xi _ (Yi (hc) ?_));refine Yi ?_ ?_
  ·intro h; exact absurd (show (4:Int)=0 from h) (by decide)
  ·intro _; exact .refl _
 | some n =>
  rw [h] at hc;refine Ps pl0 Tryz.func74 rfl (Nz rfl) ?_;refine Xi .pure (Xi _ (Yi (hc) ?_));refine Yi ?_ ?_
  ·intro _; exact .refl _
  ·intro h; exact absurd rfl h
theorem splitL_mem (c:UInt8):∀ s:List UInt8,2≤(splitL c s).length→c ∈ s
 | [],h=>by rw [splitL] at h; simp at h
 | b :: r,h=>by
  rw [splitL] at h
  by_cases e:b=c
  ·exact e▸List.mem_cons_self ..
  ·rw [if_neg e] at h;refine List.mem_cons_of_mem _ (splitL_mem c r ?_);cases hs:splitL c r with
   | nil=>rw [hs] at h; simp at h
   | cons x l=>rw [hs] at h; simpa using h
theorem last_rng {p:ByteArray} {m:Int} (h:pathMajor p=some m):0≤Go.Lib.lastIndex p.data.toList [47]∧Go.Lib.lastIndex p.data.toList [47]≤p.size:=by
 have h2:2≤(splitL 47 p.data.toList).length:=by
  unfold pathMajor majorL at h;split at h
  ·cases h
  ·split at h
   ·cases h
   ·rename_i hn;simp only [Bool.or_eq_true,decide_eq_true_eq] at hn;omega
 have hm:=splitL_mem 47 _ h2;obtain ⟨i,hi,e⟩:=List.getElem_of_mem hm;have hsz:p.size=p.data.toList.length:=by simp
 unfold Go.Lib.lastIndex;rw [if_pos (by simp only [List.length_singleton]; omega)];have hocc:Go.Lib.occAt p.data.toList [47] i=true:=by
  unfold Go.Lib.occAt;rw [List.drop_eq_getElem_cons hi,e]; simp
 rcases Go.Lib.lastOcc_spec p.data.toList [47] (p.data.toList.length - [(47:UInt8)].length+1) with ⟨_,h3⟩ | ⟨j,h3,h4,_⟩
 ·have:=h3 i (by simp only [List.length_singleton]; omega)
  rw [hocc] at this; cases this
 ·rw [h4]; simp only [List.length_singleton] at h3; omega
abbrev lineNm (p:ByteArray):ByteArray:=p.extract 0 (Go.Lib.lastIndex p.data.toList [47]).toNat
theorem c155:Line lineNm:=by
 intro p hp;have hc:=c186 p hp;have hi:=c187 p hp;unfold lineV;cases h:pathMajor p with
 | none =>
  rw [h] at hc hi;refine Ps pl0 Tryz.func32 rfl (Nz rfl) ?_;refine Xi .pure (Xi _ (Yi (hc) ?_));refine Xi .pure (Xi _ (Yi (hi) ?_));exact .refl _
 | some n =>
  rw [h] at hc hi;obtain ⟨l1,l2⟩:=last_rng h;have hl:PC 41 [vs p,vs b47] (vi (Go.Lib.lastIndex p.data.toList [47])):=c188 p b47 hp;refine Ps pl0 Tryz.func32 rfl (Nz rfl) ?_;refine Xi .pure (Xi _ (Yi (hc) ?_));refine Xi .pure (Xi _ (Yi (hi) ?_));refine Yi ?_ ?_
  ·intro h; exact absurd rfl h
  intro _;refine Xi .pure (Xi _ (Yi (hl) ?_));refine Yi ⟨Int.le_refl _,l1,l2⟩ ?_;exact .refl _
end Go.Eng
