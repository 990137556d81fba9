/- Lemmas for the claims of this seat, without a condition: part 18 (C33, C34, C35, C36, C37, C38, C39, LayStr, C40). -/
import Derived.Test.YtpgfieopnnkpfaaGreatDoorNA17
import Derived.Shelf.Strings.SplitShaped
import Derived.Shelf.Strings.LastIndexAll
import Derived.Shelf.Strings.Search3
import Derived.Shelf.Strings.Cut
import Derived.Shelf.Strings.Prefix
import Derived.Shelf.Strconv.AtoiAll
import Derived.Shelf.Small.Wraps
import Derived.Ground.NamesProg
namespace Go.Eng
open Go.Proofs
theorem c189 (s:ByteArray):PC 301 [vs s] (vb false):=by
 refine Ps pl0 Tryz.func301 rfl (Nz rfl) ?_;refine Yi ?_ ?_
 ·intro h; exact absurd rfl (show s≠s from h)
 ·intro _; exact .refl _
theorem c221 (z:Int):PC 329 [vi z] (vb false):=by
 refine Ps pl0 Tryz.func329 rfl (Nz rfl) ?_;refine Yi ?_ ?_
 ·intro h; exact absurd rfl (show z≠z from h)
 ·intro _; exact .refl _
theorem c157 (a b:ByteArray):PC 246 [vs a,vs b] (vi (cmpB a b)):=by
 refine Ps pl0 Tryz.func246 rfl (Nz rfl) ?_;refine Xi .pure (Xi _ (Yi (c189 a) ?_));refine Xi .pure (Xi _ (Yi (c189 b) ?_));refine Yi ?_ ?_
 ·intro h;have h:Op.bytesLess a.toList b.toList=true:=h;exact .of_eq (congrArg vi (show (-1:Int)=cmpB a b by unfold cmpB; rw [if_pos (by rw [blt_eq]; exact h)]))
 ·intro h;have h:¬ Op.bytesLess a.toList b.toList=true:=h;refine Yi ?_ ?_
  ·intro h2;have h2:Op.bytesLess b.toList a.toList=true:=h2;exact .of_eq (congrArg vi (show (1:Int)=cmpB a b by unfold cmpB; rw [if_neg (by rw [blt_eq]; exact h),if_pos (by rw [blt_eq]; exact h2)]))
  ·intro h2;have h2:¬ Op.bytesLess b.toList a.toList=true:=h2;exact .of_eq (congrArg vi (show (0:Int)=cmpB a b by unfold cmpB; rw [if_neg (by rw [blt_eq]; exact h),if_neg (by rw [blt_eq]; exact h2)]))
theorem c190 (a b:Int):PC 302 [vi a,vi b] (vi (cmpI a b)):=by
 refine Ps pl0 Tryz.func302 rfl (Nz rfl) ?_;refine Xi .pure (Xi _ (Yi (c221 a) ?_));refine Xi .pure (Xi _ (Yi (c221 b) ?_));refine Yi ?_ ?_
 ·intro h;have h:a<b:=h;exact .of_eq (congrArg vi (show (-1:Int)=cmpI a b by unfold cmpI; rw [if_pos h]))
 ·intro h;have h:¬ a<b:=h;refine Yi ?_ ?_
  ·intro h2;have h2:b<a:=h2;exact .of_eq (congrArg vi (show (1:Int)=cmpI a b by unfold cmpI; rw [if_neg h,if_pos h2]))
  ·intro h2;have h2:¬ b<a:=h2;exact .of_eq (congrArg vi (show (0:Int)=cmpI a b by unfold cmpI; rw [if_neg h,if_neg h2]))
theorem c156 (a b:Int):PC 245 [.slice .none [[vi a],[vi b]]] (vi (if a≠0 then a else b)):=by
 refine Ps pl0 Tryz.func245 rfl (Nz rfl) ?_;refine Xi {i:Nat // i≤2∧(0<i→a=0)∧(1<i→b=0)} (Xi (fun i=>⟨[(3,vi 0),(6,.slice .none [[vi a],[vi b]]),(7,vi 2),(8,vi i.1)],[],hfree⟩) (Xi (fun i=>2 - i.1) (Yi (Xi ⟨0,by omega,by omega,by omega⟩ ?_) ?_)))
 ·exact ⟨Z4,Tv,Fh,Tv⟩
 intro ⟨i,h1,h2,h3⟩;refine Yi ?_ ?_
 ·intro h;have h:(i:Int)<2:=h
  match i,h1,h2,h3,h with
  | 0,h1,h2,h3,h =>
   refine Xi [vi a] (Yi (Yi (Int.le_refl _) rfl) (Yi rfl ?_));refine Yi ?_ ?_
   ·intro h4;have h4:a≠0:=h4;exact .of_eq (congrArg vi (if_pos h4).symm)
   ·intro h4;have h4:¬ a≠0:=h4;refine Yi (Ii 0 (by omega)) ?_;refine Xi ⟨1,by omega,fun _=>by omega,fun q=>absurd q (by decide)⟩ ?_;exact ⟨by show 2 - 1<2 - 0; decide,Z4,Tv,Fh,Tv⟩
  | 1,h1,h2,h3,h =>
   have ha:=h2 (by decide);refine Xi [vi b] (Yi (Yi (by show (0:Int)≤1; decide) rfl) (Yi rfl ?_));refine Yi ?_ ?_
   ·intro h4;exact .of_eq (congrArg vi (if_neg (by omega)).symm)
   ·intro h4;have h4:¬ b≠0:=h4;refine Yi (Ii 1 (by omega)) ?_;refine Xi ⟨2,by omega,fun _=>ha,fun q=>by omega⟩ ?_;exact ⟨by show 2 - 2<2 - 1; decide,Z4,Tv,Fh,Tv⟩
  | i+2,h1,h2,h3,h=>omega
 ·intro h;have h:¬ (i:Int)<2:=h;have ha:=h2 (by omega);have hb:=h3 (by omega);exact .of_eq (congrArg vi (show (0:Int)=if a≠0 then a else b by rw [if_neg (by omega),hb]))
theorem cmpV_hit (a b:Ver) (i:Nat) (hi:i<3) (h:∀ j,j<i→cmpI (part a j) (part b j)=0) (hn:cmpI (part a i) (part b i)≠0):cmpV a b=cmpI (part a i) (part b i):=by
 unfold cmpV
 match i,hi,h,hn with
 | 0,_,_,hn=>exact if_pos hn
 | 1,_,h,hn =>
  have h0:cmpI a.a b.a=0:=h 0 (by decide);rw [if_neg (by omega)]; exact if_pos hn
 | 2,_,h,hn =>
  have h0:cmpI a.a b.a=0:=h 0 (by decide);have h1:cmpI a.b b.b=0:=h 1 (by decide);rw [if_neg (by omega),if_neg (by omega)]; rfl
theorem cmpV_all (a b:Ver) (h:∀ j,j<3→cmpI (part a j) (part b j)=0):cmpV a b=0:=by
 unfold cmpV;have h0:cmpI a.a b.a=0:=h 0 (by decide);have h1:cmpI a.b b.b=0:=h 1 (by decide);have h2:cmpI a.c b.c=0:=h 2 (by decide);rw [if_neg (by omega),if_neg (by omega),h2]
theorem c158 (a b:Ver):PC 247 [.agg (encVer a),.agg (encVer b)] (vi (cmpV a b)):=by
 refine Ps pl0 Tryz.func247 rfl (Nz rfl) ?_;refine Yi (Nz rfl) ?_;refine Xi _ (Yi (c138 a) ?_);refine Yi (Nz rfl) ?_;refine Xi _ (Yi (c138 b) ?_);refine Yi (Nz rfl) (Yi (Nz rfl) ?_);refine Yi (by kernel_rfl) ?_;refine Xi {i:Nat // i≤3∧∀ j,j<i→cmpI (part a j) (part b j)=0} (Xi (fun i=>⟨[(5,.ref 5 0),(6,.ref 6 0),(13,vi i.1)],[(5,.cells (encVer a)),(6,.cells (encVer b))],hfree⟩) (Xi (fun i=>3 - i.1) (Yi (Xi ⟨0,by omega,fun j h=>by omega⟩ ?_) ?_)))
 ·exact ⟨Z3,Z2,Fh,Tv⟩
 intro ⟨i,h1,h2⟩;refine Yi ?_ ?_
 ·intro h;have h:(i:Int)<3:=h;have next:cmpI (part a i) (part b i)=0→∀ j,j<i+1→cmpI (part a j) (part b j)=0:=fun hz j hj=>by
   rcases Nat.lt_or_ge j i with q | q
   ·exact h2 j q
   ·have:j=i:=by omega
    subst this; exact hz
  match i,h1,h2,h,next with
  | 0,h1,h2,h,next =>
   refine Yi ⟨by show (0:Int)≤0; decide,by show (0:Int)<3; decide⟩ ?_;refine Yi ⟨by show (0:Int)≤0; decide,by show (0:Int)<3; decide⟩ ?_;refine Xi _ (Yi (c190 (part a 0) (part b 0)) ?_);refine Yi (by kernel_rfl) ?_;refine Yi ?_ ?_
   ·intro h4;have h4:cmpI (part a 0) (part b 0)≠0:=h4;exact .of_eq (congrArg vi (cmpV_hit a b 0 (by decide) h2 h4).symm)
   ·intro h4;have h4:¬ cmpI (part a 0) (part b 0)≠0:=h4;refine Yi (Ii 0 (by omega)) ?_;refine Xi ⟨1,by omega,next (Decidable.of_not_not h4)⟩ ?_
    exact ⟨by show 3 - 1<3 - 0; decide,Z3,Z2,Fh,Tv⟩
  | 1,h1,h2,h,next =>
   refine Yi ⟨by show (0:Int)≤1; decide,by show (1:Int)<3; decide⟩ ?_;refine Yi ⟨by show (0:Int)≤1; decide,by show (1:Int)<3; decide⟩ ?_;refine Xi _ (Yi (c190 (part a 1) (part b 1)) ?_);refine Yi (by kernel_rfl) ?_;refine Yi ?_ ?_
   ·intro h4;have h4:cmpI (part a 1) (part b 1)≠0:=h4;exact .of_eq (congrArg vi (cmpV_hit a b 1 (by decide) h2 h4).symm)
   ·intro h4;have h4:¬ cmpI (part a 1) (part b 1)≠0:=h4;refine Yi (Ii 1 (by omega)) ?_;refine Xi ⟨2,by omega,next (Decidable.of_not_not h4)⟩ ?_
    exact ⟨by show 3 - 2<3 - 1; decide,Z3,Z2,Fh,Tv⟩
  | 2,h1,h2,h,next =>
   refine Yi ⟨by show (0:Int)≤2; decide,by show (2:Int)<3; decide⟩ ?_;refine Yi ⟨by show (0:Int)≤2; decide,by show (2:Int)<3; decide⟩ ?_;refine Xi _ (Yi (c190 (part a 2) (part b 2)) ?_);refine Yi (by kernel_rfl) ?_;refine Yi ?_ ?_
   ·intro h4;have h4:cmpI (part a 2) (part b 2)≠0:=h4;exact .of_eq (congrArg vi (cmpV_hit a b 2 (by decide) h2 h4).symm)
   ·intro h4;have h4:¬ cmpI (part a 2) (part b 2)≠0:=h4;refine Yi (Ii 2 (by omega)) ?_;refine Xi ⟨3,by omega,next (Decidable.of_not_not h4)⟩ ?_
    exact ⟨by show 3 - 3<3 - 2; decide,Z3,Z2,Fh,Tv⟩
  | i+3,h1,h2,h,next=>omega
 ·intro h;have h:¬ (i:Int)<3:=h;exact .of_eq (congrArg vi (cmpV_all a b fun j hj=>h2 j (by omega)).symm)
end Go.Eng

namespace Go.Eng
open Go.Proofs
theorem c109 (a b:Rl):PC 180 [.agg (encRl a),.agg (encRl b)] (vi (cmpR a b)):=by
 refine Ps pl0 Tryz.func180 rfl (Nz rfl) ?_;refine Xi _ (Yi (c157 a.path b.path) ?_);refine Yi (Nz rfl) (Yi (Nz rfl) ?_);refine Xi _ (Yi (c158 a.ver b.ver) ?_);refine Xi _ (Yi (c156 (cmpB a.path b.path) (cmpV a.ver b.ver)) ?_);refine Yi (by kernel_rfl) ?_;exact .refl _
abbrev FewS (s:ByteArray):Prop:=s.size≤1073741824
abbrev FewQ (q:Rq):Prop:=Few q.set∧FewS q.path
abbrev FewR (r:Rl):Prop:=FewS r.path∧∀ q ∈ r.reqs,FewQ q
abbrev lineV (nm:ByteArray→ByteArray) (p:ByteArray):AV:=match pathMajor p with
 | some m=>.tup [vs (nm p),vi m,vi 0]
 | none=>.tup [vs ⟨#[]⟩,vi 0,vi 4]
abbrev Line (nm:ByteArray→ByteArray):Prop:=∀ p:ByteArray,FewS p→PC 32 [vs p] (lineV nm p)
theorem Line.none {nm:ByteArray→ByteArray} (h:Line nm) {p:ByteArray} (hp:FewS p) (e:pathMajor p=.none):PC 32 [vs p] (.tup [vs ⟨#[]⟩,vi 0,vi 4]):=by
 have:=h p hp; unfold lineV at this; rw [e] at this; exact this
theorem Line.some {nm:ByteArray→ByteArray} (h:Line nm) {p:ByteArray} {m:Int} (hp:FewS p) (e:pathMajor p=.some m):PC 32 [vs p] (.tup [vs (nm p),vi m,vi 0]):=by
 have:=h p hp; unfold lineV at this; rw [e] at this; exact this
theorem c110n {nm:ByteArray→ByteArray} (hL:Line nm) (q:Rq) (hq:Few q.set) (hp:FewS q.path):PC 181 [.agg (encRq q),.v (.pointer none)] (vi (rqOk none q)):=by
 cases hpm:pathMajor q.path with
 | none =>
  have e:(4:Int)=rqOk none q:=by unfold rqOk; rw [hpm]; rfl
  have hl:=hL.none hp hpm;refine Ps pl0 Tryz.func181 rfl (Nz rfl) ?_;refine Xi .pure (Xi _ (Yi (hl) ?_));refine Yi ?_ ?_
  ·intro _; exact .of_eq (congrArg vi e)
  ·intro h; exact absurd (show (4:Int)≠0 by decide) h
 | some m =>
  have er:rqOk none q=if (q.set.isEmpty||!decide (q.set=canon q.set)||false)=true then 1 else 0:=by unfold rqOk; rw [hpm]; rfl
  have hl:=hL.some hp hpm;have hc:=c102 q.set hq;have he:=c159 q.set (canon q.set) hq;have hemp:∀ {n:Int},n=(q.set.map encSpan).length→n=0→q.set.isEmpty=true:=fun h1 h2=>by
   rw [Lm] at h1; rw [List.isEmpty_iff]; exact List.eq_nil_of_length_eq_zero (by omega)
  have hnem:¬ ((q.set.map encSpan).length:Int)=0→q.set.isEmpty=false:=fun h=>by
   cases hqs:q.set with
   | nil=>rw [hqs] at h; exact absurd rfl h
   | cons a l=>rfl
  rcases Bt (decide (q.set=canon q.set)) with h2 | h2
  ·rw [h2] at he;refine Ps (plcut [2,4]) Tryz.func181 rfl (Nz rfl) ?_;refine Xi .pure (Xi _ (Yi (hl) ?_));refine Xi ⟨[(1,.v (.pointer none)),(2,.ref 2 0),(7,vi 0)],[(2,.cells (encRq q))],hfree⟩ (Yi ⟨Z3,Z1,Fh,Tv⟩ ?_)
   refine Yi ?_ ?_
   ·intro h; exact absurd rfl h
   intro _;refine Xi ⟨[(1,.v (.pointer none)),(2,.ref 2 0)],[(2,.cells (encRq q))],hfree⟩ (Yi ⟨Z2,Z1,Fh,Tv⟩ ?_)
   refine Yi ?_ ?_
   ·intro h;have h:((q.set.map encSpan).length:Int)=0:=h;have e:(1:Int)=rqOk none q:=by rw [er,hemp rfl h]; rfl
    refine Yi (by kernel_rfl) ?_;exact .of_eq (congrArg vi e)
   intro h;have h:¬ ((q.set.map encSpan).length:Int)=0:=h;have hn:=hnem h;refine Xi _ (Yi (hc) ?_);refine Xi _ (Yi (he) ?_);refine Yi (by kernel_rfl) ?_;have e:(0:Int)=rqOk none q:=by rw [er,hn,h2]; rfl
   exact .of_eq (congrArg vi e)
  ·rw [h2] at he;refine Ps (plcut [2,4]) Tryz.func181 rfl (Nz rfl) ?_;refine Xi .pure (Xi _ (Yi (hl) ?_));refine Xi ⟨[(1,.v (.pointer none)),(2,.ref 2 0),(7,vi 0)],[(2,.cells (encRq q))],hfree⟩ (Yi ⟨Z3,Z1,Fh,Tv⟩ ?_)
   refine Yi ?_ ?_
   ·intro h; exact absurd rfl h
   intro _;refine Xi ⟨[(1,.v (.pointer none)),(2,.ref 2 0)],[(2,.cells (encRq q))],hfree⟩ (Yi ⟨Z2,Z1,Fh,Tv⟩ ?_)
   refine Yi ?_ ?_
   ·intro h;have h:((q.set.map encSpan).length:Int)=0:=h;have e:(1:Int)=rqOk none q:=by rw [er,hemp rfl h]; rfl
    refine Yi (by kernel_rfl) ?_;exact .of_eq (congrArg vi e)
   intro h;have h:¬ ((q.set.map encSpan).length:Int)=0:=h;have hn:=hnem h;refine Xi _ (Yi (hc) ?_);refine Xi _ (Yi (he) ?_);refine Yi (by kernel_rfl) ?_;have e:(1:Int)=rqOk none q:=by rw [er,hn,h2]; rfl
   exact .of_eq (congrArg vi e)
theorem c110s {nm:ByteArray→ByteArray} (hL:Line nm) (q b:Rq) (hq:Few q.set) (hp:FewS q.path):PC 181 [.agg (encRq q),.cptr (encRq b)] (vi (rqOk (some b.path) q)):=by
 cases hpm:pathMajor q.path with
 | none =>
  have e:(4:Int)=rqOk (some b.path) q:=by unfold rqOk; rw [hpm]; rfl
  have hl:=hL.none hp hpm;refine Ps pl0 Tryz.func181 rfl (Nz rfl) ?_;refine Xi .pure (Xi _ (Yi (hl) ?_));refine Yi ?_ ?_
  ·intro _; exact .of_eq (congrArg vi e)
  ·intro h; exact absurd (show (4:Int)≠0 by decide) h
 | some m =>
  have er:rqOk (some b.path) q=if (q.set.isEmpty||!decide (q.set=canon q.set)||!blt b.path q.path)=true then 1 else 0:=by unfold rqOk; rw [hpm]; rfl
  have hl:=hL.some hp hpm;have hc:=c102 q.set hq;have he:=c159 q.set (canon q.set) hq;have hemp:∀ {n:Int},n=(q.set.map encSpan).length→n=0→q.set.isEmpty=true:=fun h1 h2=>by
   rw [Lm] at h1; rw [List.isEmpty_iff]; exact List.eq_nil_of_length_eq_zero (by omega)
  have hnem:¬ ((q.set.map encSpan).length:Int)=0→q.set.isEmpty=false:=fun h=>by
   cases hqs:q.set with
   | nil=>rw [hqs] at h; exact absurd rfl h
   | cons a l=>rfl
  rcases Bt (decide (q.set=canon q.set)) with h2 | h2
  ·rw [h2] at he;refine Ps (plcut [2,4]) Tryz.func181 rfl (Nz rfl) ?_;refine Xi .pure (Xi _ (Yi (hl) ?_));refine Xi ⟨[(1,.cptr (encRq b)),(2,.ref 2 0),(7,vi 0)],[(2,.cells (encRq q))],hfree⟩ (Yi ⟨Z3,Z1,Fh,Tv⟩ ?_)
   refine Yi ?_ ?_
   ·intro h; exact absurd rfl h
   intro _;refine Xi ⟨[(1,.cptr (encRq b)),(2,.ref 2 0)],[(2,.cells (encRq q))],hfree⟩ (Yi ⟨Z2,Z1,Fh,Tv⟩ ?_)
   refine Yi ?_ ?_
   ·intro h;have h:((q.set.map encSpan).length:Int)=0:=h;have e:(1:Int)=rqOk (some b.path) q:=by rw [er,hemp rfl h]; rfl
    refine Yi (by kernel_rfl) ?_;exact .of_eq (congrArg vi e)
   intro h;have h:¬ ((q.set.map encSpan).length:Int)=0:=h;have hn:=hnem h;refine Xi _ (Yi (hc) ?_);refine Xi _ (Yi (he) ?_);refine Yi ?_ ?_
   ·intro h3;have h3:Op.bytesLess b.path.toList q.path.toList=false:=h3;refine Yi (by kernel_rfl) ?_;have e:(1:Int)=rqOk (some b.path) q:=by rw [er,hn,h2,blt_eq,h3]; rfl
    exact .of_eq (congrArg vi e)
   ·intro h3;have h3:¬ Op.bytesLess b.path.toList q.path.toList=false:=h3;have h3:Op.bytesLess b.path.toList q.path.toList=true:=by simpa using h3
    refine Yi (by kernel_rfl) ?_;have e:(0:Int)=rqOk (some b.path) q:=by rw [er,hn,h2,blt_eq,h3]; rfl
    exact .of_eq (congrArg vi e)
  ·rw [h2] at he;refine Ps (plcut [2,4]) Tryz.func181 rfl (Nz rfl) ?_;refine Xi .pure (Xi _ (Yi (hl) ?_));refine Xi ⟨[(1,.cptr (encRq b)),(2,.ref 2 0),(7,vi 0)],[(2,.cells (encRq q))],hfree⟩ (Yi ⟨Z3,Z1,Fh,Tv⟩ ?_)
   refine Yi ?_ ?_
   ·intro h; exact absurd rfl h
   intro _;refine Xi ⟨[(1,.cptr (encRq b)),(2,.ref 2 0)],[(2,.cells (encRq q))],hfree⟩ (Yi ⟨Z2,Z1,Fh,Tv⟩ ?_)
   refine Yi ?_ ?_
   ·intro h;have h:((q.set.map encSpan).length:Int)=0:=h;have e:(1:Int)=rqOk (some b.path) q:=by rw [er,hemp rfl h]; rfl
    refine Yi (by kernel_rfl) ?_;exact .of_eq (congrArg vi e)
   intro h;have h:¬ ((q.set.map encSpan).length:Int)=0:=h;have hn:=hnem h;refine Xi _ (Yi (hc) ?_);refine Xi _ (Yi (he) ?_);refine Yi (by kernel_rfl) ?_;have e:(1:Int)=rqOk (some b.path) q:=by rw [er,hn,h2]; rfl
   exact .of_eq (congrArg vi e)
end Go.Eng

namespace Go.Eng
open Go.Proofs
abbrev cellsAt (l:List Rq) (k:Nat):List AV:=((l.map encRq)[k]?).getD []
abbrev bpAt (l:List Rq):Nat→AV
 | 0=>.v (.pointer none)
 | k+1=>.cptr (cellsAt l k)
abbrev befAt (l:List Rq):Nat→Option ByteArray
 | 0=>none
 | k+1=>(l[k]?).map (·.path)
theorem cellsAt_eq {l:List Rq} {k:Nat} (h:k<l.length):cellsAt l k=encRq l[k]:=by
 unfold cellsAt; rw [List.getElem?_map,Ge h]; rfl
theorem befAt_eq {l:List Rq} {k:Nat} (h:k<l.length):befAt l (k+1)=some l[k].path:=by
 show (l[k]?).map _=_; rw [Ge h]; rfl
theorem c65 {nm:ByteArray→ByteArray} (hL:Line nm) (l:List Rq) (hs:∀ q ∈ l,FewQ q):PC 116 [sl encRq l] (vi (checkRqs l)):=by
 refine Ps (plcut [8]) Tryz.func116 rfl (Nz rfl) ?_;refine Yi ?_ ?_
 ·intro h;have h:(16:Int)<(l.map encRq).length:=h;exact .of_eq (congrArg vi (show (7:Int)=checkRqs l by unfold checkRqs; rw [if_pos (by rw [Lm] at h; omega)]))
 intro h;have h:¬ (16:Int)<(l.map encRq).length:=h;have hl:l.length≤16:=by rw [Lm] at h; omega
 have hck:checkRqs l=checkRqsGo none l:=by unfold checkRqs; rw [if_neg (by omega)]
 refine Xi {i:Nat // i≤l.length∧checkRqsGo none l=checkRqsGo (befAt l i) (l.drop i)} (Xi (fun i=>⟨[(0,sl encRq l),(3,bpAt l i.1),(10,sl encRq l),(11,vi (l.map encRq).length),(12,vi i.1)],[],hfree⟩) (Xi (fun i=>l.length - i.1) (Yi (Xi ⟨0,Nat.zero_le _,rfl⟩ ?_) ?_)))
 ·exact ⟨Z5,Tv,Fh,Tv⟩
 intro ⟨i,h1,h2⟩;refine Yi ?_ ?_
 ·intro h;have h:(i:Int)<(l.map encRq).length:=h;have h:i<l.length:=by simpa using h
  have hg:l[i]?=some l[i]:=Ge h;have hd:l.drop i=l[i] :: l.drop (i+1):=List.drop_eq_getElem_cons h;have hq:=hs l[i] (List.getElem_mem h);have hc:PC 181 [.agg (encRq l[i]),bpAt l i] (vi (rqOk (befAt l i) l[i])):=by
   cases i with
   | zero=>exact c110n hL _ hq.1 hq.2
   | succ k =>
    rw [befAt_eq (by omega:k<l.length)];show PC 181 [_,.cptr (cellsAt l k)] _;rw [cellsAt_eq (by omega:k<l.length)];exact c110s hL _ _ hq.1 hq.2
  have hgo:checkRqsGo none l=if rqOk (befAt l i) l[i]=0 then checkRqsGo (some l[i].path) (l.drop (i+1)) else rqOk (befAt l i) l[i]:=by rw [h2,hd]; rfl
  match i,h1,h2,h,hg,hd,hc,hgo with
  | 0,h1,h2,h,hg,hd,hc,hgo =>
   refine Xi (encRq l[0]) (Yi (Yi (by show (0:Int)≤((0:Nat):Int); omega) (by simp [hg])) (Yi rfl ?_));refine Yi (Nz rfl) (Yi (Nz rfl) (Yi (Nz rfl) ?_));refine Xi .pure (Xi _ (Yi (hc) ?_));refine Xi ⟨[(0,sl encRq l),(4,vi ((0:Nat):Int)),(6,vi (rqOk (befAt l (0)) l[0])),(10,sl encRq l),(11,vi (l.map encRq).length),(12,vi ((0:Nat):Int))],[],hfree⟩ (Yi ⟨Z6,Tv,Fh,Tv⟩ ?_)
   refine Yi ?_ ?_
   ·intro h4;have h4:rqOk (befAt l (0)) l[0]≠0:=h4;exact .of_eq (congrArg vi (show rqOk (befAt l (0)) l[0]=checkRqs l by rw [hck,hgo,if_neg h4]))
   ·intro h4;have h4:¬ rqOk (befAt l (0)) l[0]≠0:=h4;refine Xi (encRq l[0]) (Yi (Yi (by show (0:Int)≤((0:Nat):Int); omega) (by simp [hg])) (Yi rfl ?_));refine Yi (by show InI64 (((0:Nat):Int)+1); unfold InI64; omega) ?_;refine Xi ⟨0+1,by omega,by rw [hgo,if_pos (Decidable.of_not_not h4),befAt_eq h]⟩ ?_;have e1:AV.cptr (encRq l[0])=.cptr (cellsAt l (0)):=by rw [cellsAt_eq h]
    exact ⟨by show l.length - (0+1)<l.length - (0); omega,⟨Zr,⟨e1,rfl⟩,Zr,Zr,Zr,Tv⟩,Tv,Fh,Tv⟩
  | k+1,h1,h2,h,hg,hd,hc,hgo =>
   refine Xi (encRq l[k+1]) (Yi (Yi (by show (0:Int)≤((k+1:Nat):Int); omega) (by simp [hg])) (Yi rfl ?_));refine Yi (Nz rfl) (Yi (Nz rfl) (Yi (Nz rfl) ?_));refine Xi .pure (Xi _ (Yi (hc) ?_));refine Xi ⟨[(0,sl encRq l),(4,vi ((k+1:Nat):Int)),(6,vi (rqOk (befAt l (k+1)) l[k+1])),(10,sl encRq l),(11,vi (l.map encRq).length),(12,vi ((k+1:Nat):Int))],[],hfree⟩ (Yi ⟨Z6,Tv,Fh,Tv⟩ ?_)
   refine Yi ?_ ?_
   ·intro h4;have h4:rqOk (befAt l (k+1)) l[k+1]≠0:=h4;exact .of_eq (congrArg vi (show rqOk (befAt l (k+1)) l[k+1]=checkRqs l by rw [hck,hgo,if_neg h4]))
   ·intro h4;have h4:¬ rqOk (befAt l (k+1)) l[k+1]≠0:=h4;refine Xi (encRq l[k+1]) (Yi (Yi (by show (0:Int)≤((k+1:Nat):Int); omega) (by simp [hg])) (Yi rfl ?_));refine Yi (by show InI64 (((k+1:Nat):Int)+1); unfold InI64; omega) ?_;refine Xi ⟨k+1+1,by omega,by rw [hgo,if_pos (Decidable.of_not_not h4),befAt_eq h]⟩ ?_;have e1:AV.cptr (encRq l[k+1])=.cptr (cellsAt l (k+1)):=by rw [cellsAt_eq h]
    exact ⟨by show l.length - (k+1+1)<l.length - (k+1); omega,⟨Zr,⟨e1,rfl⟩,Zr,Zr,Zr,Tv⟩,Tv,Fh,Tv⟩
 ·intro h;have h:¬ (i:Int)<(l.map encRq).length:=h;have h:¬ i<l.length:=by simpa using h
  have e:(0:Int)=checkRqs l:=by rw [hck,h2,List.drop_eq_nil_of_le (by omega)]; rfl
  exact .of_eq (congrArg vi e)
end Go.Eng

namespace Go.Eng
open Go.Proofs
abbrev dgAt (r:Rl):Nat→ByteArray
 | 0=>r.arch
 | 1=>r.ifc
 | _=>r.cert
theorem dg_all {r:Rl} (h:∀ j,j<3→dgOk (dgAt r j)=true):(dgOk r.arch&&dgOk r.ifc&&dgOk r.cert)=true:=by
 have h0:dgOk r.arch=true:=h 0 (by decide);have h1:dgOk r.ifc=true:=h 1 (by decide);have h2:dgOk r.cert=true:=h 2 (by decide);rw [h0,h1,h2]; rfl
theorem dg_not {r:Rl} {i:Nat} (hi:i<3) (h:dgOk (dgAt r i)=false):(dgOk r.arch&&dgOk r.ifc&&dgOk r.cert)=false:=by
 match i,hi,h with
 | 0,_,h=>have h:dgOk r.arch=false:=h; rw [h]; rfl
 | 1,_,h=>have h:dgOk r.ifc=false:=h; rw [h,Bool.and_false]; rfl
 | 2,_,h=>have h:dgOk r.cert=false:=h; rw [h,Bool.and_false]
theorem c107 {nm:ByteArray→ByteArray} (hL:Line nm) (r:Rl) (hr:FewR r):PC 178 [.agg (encRl r)] (vi (checkRl r)):=by
 cases hpm:pathMajor r.path with
 | none =>
  have e:(4:Int)=checkRl r:=by unfold checkRl; rw [hpm]
  have hl:=hL.none hr.1 hpm;refine Ps pl0 Tryz.func178 rfl (Nz rfl) ?_;refine Xi .pure (Xi _ (Yi (hl) ?_));refine Yi ?_ ?_
  ·intro _; exact .of_eq (congrArg vi e)
  ·intro h; exact absurd (show (4:Int)≠0 by decide) h
 | some m =>
  have er:checkRl r=if (!validB r.ver||!decide (r.ver.a=m))=true then 2 else if checkRqs r.reqs≠0 then checkRqs r.reqs else if (dgOk r.arch&&dgOk r.ifc&&dgOk r.cert)=true then 0 else 1:=by unfold checkRl; rw [hpm]
  have hl:=hL.some hr.1 hpm;have hv:=c100 r.ver;have hc:=c65 hL r.reqs hr.2;rcases Bt (validB r.ver) with h2 | h2
  ·rw [h2] at hv;refine Ps (plcut [2,4,6,7,9]) Tryz.func178 rfl (Nz rfl) ?_;refine Xi .pure (Xi _ (Yi (hl) ?_));refine Xi ⟨[(1,.ref 1 0),(4,vi m),(5,vi 0)],[(1,.cells (encRl r))],hfree⟩ (Yi ⟨Z3,Z1,Fh,Tv⟩ ?_)
   refine Yi ?_ ?_
   ·intro h; exact absurd rfl h
   intro _;refine Xi ⟨[(1,.ref 1 0),(4,vi m)],[(1,.cells (encRl r))],hfree⟩ (Yi ⟨Z2,Z1,Fh,Tv⟩ ?_)
   refine Yi (Nz rfl) ?_;refine Xi .pure (Xi _ (Yi (hv) ?_));refine Yi ?_ ?_
   ·intro h;have h:r.ver.a≠m:=h;have e:(2:Int)=checkRl r:=by rw [er,h2,decide_eq_false h]; rfl
    exact .of_eq (congrArg vi e)
   intro h;have h:¬ r.ver.a≠m:=h;have h3:r.ver.a=m:=Decidable.of_not_not h;have er2:checkRl r=if checkRqs r.reqs≠0 then checkRqs r.reqs else if (dgOk r.arch&&dgOk r.ifc&&dgOk r.cert)=true then 0 else 1:=by rw [er,h2,decide_eq_true h3]; rfl
   refine Xi ⟨[(1,.ref 1 0)],[(1,.cells (encRl r))],hfree⟩ (Yi ⟨Z1,Z1,Fh,Tv⟩ ?_)
   refine Xi .pure (Xi _ (Yi (hc) ?_));refine Xi ⟨[(1,.ref 1 0),(6,vi (checkRqs r.reqs))],[(1,.cells (encRl r))],hfree⟩ (Yi ⟨Z2,Z1,Fh,Tv⟩ ?_)
   refine Yi ?_ ?_
   ·intro h4;have h4:checkRqs r.reqs≠0:=h4;exact .of_eq (congrArg vi (show checkRqs r.reqs=checkRl r by rw [er2,if_pos h4]))
   intro h4;have h4:¬ checkRqs r.reqs≠0:=h4;have er3:checkRl r=if (dgOk r.arch&&dgOk r.ifc&&dgOk r.cert)=true then 0 else 1:=by rw [er2,if_neg h4]
   refine Xi ⟨[(1,.ref 1 0)],[(1,.cells (encRl r))],hfree⟩ (Yi ⟨Z1,Z1,Fh,Tv⟩ ?_)
   refine Xi {i:Nat // i≤3∧∀ j,j<i→dgOk (dgAt r j)=true} (Xi (fun i=>⟨[(41,.slice (.id 41 1) [[vs r.arch],[vs r.ifc],[vs r.cert]]),(42,vi 3),(43,vi i.1)],[(41,.tok 1 3)],hfree⟩) (Xi (fun i=>3 - i.1) (Yi (Xi ⟨0,by omega,fun j h=>by omega⟩ ?_) ?_)))
   ·exact ⟨Z3,Z1,Fh,Tv⟩
   intro ⟨i,i1,i2⟩;refine Yi ?_ ?_
   ·intro h;have h:(i:Int)<3:=h;have next:dgOk (dgAt r i)=true→∀ j,j<i+1→dgOk (dgAt r j)=true:=fun hz j hj=>by
     rcases Nat.lt_or_ge j i with q | q
     ·exact i2 j q
     ·have:j=i:=by omega
      subst this; exact hz
    match i,i1,i2,h,next with
    | 0,i1,i2,h,next =>
     refine Xi [vs r.arch] (Yi (Yi (by show (0:Int)≤0; decide) rfl) (Yi rfl ?_));refine Yi ?_ ?_
     ·intro h5;have h5:((r.arch.size:Nat):Int)≠0:=h5;refine Yi ?_ ?_
      ·intro h6;have h6:((r.arch.size:Nat):Int)≠32:=h6;have e:(1:Int)=checkRl r:=by rw [er3,dg_not (i:=0) (by decide) (show dgOk r.arch=false by unfold dgOk; rw [decide_eq_false (by omega),decide_eq_false (by omega)]; rfl)]; rfl
       exact .of_eq (congrArg vi e)
      ·intro h6;have h6:¬ ((r.arch.size:Nat):Int)≠32:=h6;refine Yi (Ii 0 (by omega)) ?_;refine Xi ⟨1,by omega,next (show dgOk r.arch=true by unfold dgOk; rw [decide_eq_true (by omega:r.arch.size=32),Bool.or_true])⟩ ?_
       exact ⟨by show 3 - 1<3 - 0; decide,Z3,Z1,Fh,Tv⟩
     ·intro h5;have h5:¬ ((r.arch.size:Nat):Int)≠0:=h5;refine Yi (Ii 0 (by omega)) ?_;refine Xi ⟨1,by omega,next (show dgOk r.arch=true by unfold dgOk; rw [decide_eq_true (by omega:r.arch.size=0)]; rfl)⟩ ?_
      exact ⟨by show 3 - 1<3 - 0; decide,Z3,Z1,Fh,Tv⟩
    | 1,i1,i2,h,next =>
     refine Xi [vs r.ifc] (Yi (Yi (by show (0:Int)≤1; decide) rfl) (Yi rfl ?_));refine Yi ?_ ?_
     ·intro h5;have h5:((r.ifc.size:Nat):Int)≠0:=h5;refine Yi ?_ ?_
      ·intro h6;have h6:((r.ifc.size:Nat):Int)≠32:=h6;have e:(1:Int)=checkRl r:=by rw [er3,dg_not (i:=1) (by decide) (show dgOk r.ifc=false by unfold dgOk; rw [decide_eq_false (by omega),decide_eq_false (by omega)]; rfl)]; rfl
       exact .of_eq (congrArg vi e)
      ·intro h6;have h6:¬ ((r.ifc.size:Nat):Int)≠32:=h6;refine Yi (Ii 1 (by omega)) ?_;refine Xi ⟨2,by omega,next (show dgOk r.ifc=true by unfold dgOk; rw [decide_eq_true (by omega:r.ifc.size=32),Bool.or_true])⟩ ?_
       exact ⟨by show 3 - 2<3 - 1; decide,Z3,Z1,Fh,Tv⟩
     ·intro h5;have h5:¬ ((r.ifc.size:Nat):Int)≠0:=h5;refine Yi (Ii 1 (by omega)) ?_;refine Xi ⟨2,by omega,next (show dgOk r.ifc=true by unfold dgOk; rw [decide_eq_true (by omega:r.ifc.size=0)]; rfl)⟩ ?_
      exact ⟨by show 3 - 2<3 - 1; decide,Z3,Z1,Fh,Tv⟩
    | 2,i1,i2,h,next =>
     refine Xi [vs r.cert] (Yi (Yi (by show (0:Int)≤2; decide) rfl) (Yi rfl ?_));refine Yi ?_ ?_
     ·intro h5;have h5:((r.cert.size:Nat):Int)≠0:=h5;refine Yi ?_ ?_
      ·intro h6;have h6:((r.cert.size:Nat):Int)≠32:=h6;have e:(1:Int)=checkRl r:=by rw [er3,dg_not (i:=2) (by decide) (show dgOk r.cert=false by unfold dgOk; rw [decide_eq_false (by omega),decide_eq_false (by omega)]; rfl)]; rfl
       exact .of_eq (congrArg vi e)
      ·intro h6;have h6:¬ ((r.cert.size:Nat):Int)≠32:=h6;refine Yi (Ii 2 (by omega)) ?_;refine Xi ⟨3,by omega,next (show dgOk r.cert=true by unfold dgOk; rw [decide_eq_true (by omega:r.cert.size=32),Bool.or_true])⟩ ?_
       exact ⟨by show 3 - 3<3 - 2; decide,Z3,Z1,Fh,Tv⟩
     ·intro h5;have h5:¬ ((r.cert.size:Nat):Int)≠0:=h5;refine Yi (Ii 2 (by omega)) ?_;refine Xi ⟨3,by omega,next (show dgOk r.cert=true by unfold dgOk; rw [decide_eq_true (by omega:r.cert.size=0)]; rfl)⟩ ?_
      exact ⟨by show 3 - 3<3 - 2; decide,Z3,Z1,Fh,Tv⟩
    | i+3,i1,i2,h,next=>omega
   ·intro h;have h:¬ (i:Int)<3:=h;have e:(0:Int)=checkRl r:=by rw [er3,if_pos (dg_all fun j hj=>i2 j (by omega))]
    exact .of_eq (congrArg vi e)
  ·rw [h2] at hv;have e:(2:Int)=checkRl r:=by rw [er,h2]; rfl
   refine Ps (plcut [2,4]) Tryz.func178 rfl (Nz rfl) ?_;refine Xi .pure (Xi _ (Yi (hl) ?_));refine Xi ⟨[(1,.ref 1 0),(4,vi m),(5,vi 0)],[(1,.cells (encRl r))],hfree⟩ (Yi ⟨Z3,Z1,Fh,Tv⟩ ?_)
   refine Yi ?_ ?_
   ·intro h; exact absurd rfl h
   intro _;refine Xi ⟨[(1,.ref 1 0),(4,vi m)],[(1,.cells (encRl r))],hfree⟩ (Yi ⟨Z2,Z1,Fh,Tv⟩ ?_)
   refine Yi (Nz rfl) ?_;refine Xi .pure (Xi _ (Yi (hv) ?_));exact .of_eq (congrArg vi e)
end Go.Eng

namespace Go.Eng
open Go.Proofs
theorem key_eq {a b:Rl} (h:a.path=b.path∧a.ver.a=b.ver.a∧a.ver.b=b.ver.b∧a.ver.c=b.ver.c):keyR a=keyR b:=by
 unfold keyR;obtain ⟨h1,h2,h3,h4⟩:=h
 have:a.ver=b.ver:=by
  cases ha:a.ver; cases hb:b.ver; rw [ha,hb] at h2 h3 h4; simp_all
 rw [h1,this]
theorem key_parts {a b:Rl} (h:keyR a=keyR b):a.path=b.path∧a.ver.a=b.ver.a∧a.ver.b=b.ver.b∧a.ver.c=b.ver.c:=by
 unfold keyR at h
 injection h with h1 h2
 exact ⟨h1,by rw [h2],by rw [h2],by rw [h2]⟩
abbrev befR (x:List Rl):Nat→Option Rl
 | 0=>none
 | k+1=>x[k]?
theorem c64 {nm:ByteArray→ByteArray} (hL:Line nm) (x:List Rl) (ifs:List (List AV)) (hs:∀ r ∈ x,FewR r):PC 115 [.agg (Ic x ifs)] (vi (checkIx x)):=by
 refine Ps (plcut [7,9,11,13]) Tryz.func115 rfl (Nz rfl) ?_;refine Yi ?_ ?_
 ·intro h;have h:(256:Int)<(x.map encRl).length:=h;exact .of_eq (congrArg vi (show (7:Int)=checkIx x by unfold checkIx; rw [if_pos (by rw [Lm] at h; omega)]))
 intro h;have h:¬ (256:Int)<(x.map encRl).length:=h;have hl:x.length≤256:=by rw [Lm] at h; omega
 have hck:checkIx x=checkIxGo none x:=by unfold checkIx; rw [if_neg (by omega)]
 refine Xi {i:Nat // i≤x.length∧checkIxGo none x=checkIxGo (befR x i) (x.drop i)} (Xi (fun i=>⟨[(1,.ref 1 0),(12,sl encRl x),(13,vi (x.map encRl).length),(14,vi i.1)],[(1,.cells (Ic x ifs))],hfree⟩) (Xi (fun i=>x.length - i.1) (Yi (Xi ⟨0,Nat.zero_le _,rfl⟩ ?_) ?_)))
 ·exact ⟨Z4,Z1,Fh,Tv⟩
 intro ⟨i,h1,h2⟩;refine Yi ?_ ?_
 ·intro h;have h:(i:Int)<(x.map encRl).length:=h;have h:i<x.length:=by simpa using h
  have hg:x[i]?=some x[i]:=Ge h;have hd:x.drop i=x[i] :: x.drop (i+1):=List.drop_eq_getElem_cons h;have hc:=c107 hL x[i] (hs x[i] (List.getElem_mem h));have hgo:checkIxGo none x=if checkRl x[i]≠0 then checkRl x[i] else match befR x i with
   | none=>checkIxGo (some x[i]) (x.drop (i+1))
   | some b=>if keyR b=keyR x[i] then 5 else if 0<cmpR b x[i] then 1 else checkIxGo (some x[i]) (x.drop (i+1)):=by rw [h2,hd]; rfl
  have hnext:befR x (i+1)=some x[i]:=Ge h;refine Xi (encRl x[i]) (Yi (Yi (Nn i) (by simp [hg])) (Yi rfl ?_));refine Yi (Nz rfl) (Yi (Nz rfl) (Yi (Nz rfl) ?_));refine Xi .pure (Xi _ (Yi (hc) ?_));refine Xi ⟨[(1,.ref 1 0),(3,vi i),(4,.ref 4 0),(5,vi (checkRl x[i])),(12,sl encRl x),(13,vi (x.map encRl).length),(14,vi i)],[(1,.cells (Ic x ifs)),(4,.cells (encRl x[i]))],hfree⟩ (Yi ⟨Z7,Z2,Fh,Tv⟩ ?_)
  refine Yi ?_ ?_
  ·intro h4;have h4:checkRl x[i]≠0:=h4;exact .of_eq (congrArg vi (show checkRl x[i]=checkIx x by rw [hck,hgo,if_pos h4]))
  intro h4;have h4:¬ checkRl x[i]≠0:=h4;refine Xi ⟨[(1,.ref 1 0),(3,vi i),(4,.ref 4 0),(12,sl encRl x),(13,vi (x.map encRl).length),(14,vi i)],[(1,.cells (Ic x ifs)),(4,.cells (encRl x[i]))],hfree⟩ (Yi ⟨Z6,Z2,Fh,Tv⟩ ?_)
  refine Yi ?_ ?_
  ·intro h5;have h5:(i:Int)=0:=h5;have h6:i=0:=by omega
   refine Yi (Ii i (by omega)) ?_;refine Xi ⟨i+1,by omega,by rw [hgo,if_neg h4,hnext]; subst h6; rfl⟩ ?_;exact ⟨Dl x.length i (by omega),Z4,Z1,Fh,Tv⟩
  intro h5;have h5:¬ (i:Int)=0:=h5;have hi1:i - 1<x.length:=by omega
  have hb:befR x i=some x[i - 1]:=by
   obtain ⟨k,rfl⟩ : ∃ k,i=k+1:=⟨i - 1,by omega⟩;exact Ge (by omega)
  have hgo2:checkIxGo none x=if keyR x[i - 1]=keyR x[i] then 5 else if 0<cmpR x[i - 1] x[i] then 1 else checkIxGo (some x[i]) (x.drop (i+1)):=by rw [hgo,if_neg h4,hb]
  refine Yi (by show InI64 ((i:Int) - 1); unfold InI64; omega) ?_;have hg1:(x.map encRl)[((i:Int) - 1).toNat]?=some (encRl x[i - 1]):=by rw [show ((i:Int) - 1).toNat=i - 1 by omega]; exact map_at (Ge hi1)
  refine Xi (encRl x[i - 1]) (Yi (Yi (by show (0:Int)≤(i:Int) - 1; omega) hg1) (Yi rfl ?_));refine Yi (Nz rfl) (Yi (Nz rfl) ?_);refine Xi ⟨[(1,.ref 1 0),(4,.ref 4 0),(6,.ref 6 0),(12,sl encRl x),(13,vi (x.map encRl).length),(14,vi i)],[(1,.cells (Ic x ifs)),(4,.cells (encRl x[i])),(6,.cells (encRl x[i - 1]))],hfree⟩ (Yi ⟨Z6,Z3,Fh,Tv⟩ ?_)
  refine Yi (Nz rfl) ?_;refine Xi _ (Yi (c108 x[i - 1]) ?_);refine Yi (Nz rfl) ?_;refine Xi _ (Yi (c108 x[i]) ?_);refine Yi ?_ ?_
  ·intro h6;refine Yi (by kernel_rfl) ?_;have e:(5:Int)=checkIx x:=by rw [hck,hgo2,if_pos (key_eq ⟨h6.1,h6.2.1,h6.2.2.1,h6.2.2.2.1⟩)]
   exact .of_eq (congrArg vi e)
  intro h6;refine Yi (by kernel_rfl) ?_;have h7:¬ keyR x[i - 1]=keyR x[i]:=fun e=>by
   have e:=key_parts e;exact h6 ⟨e.1,e.2.1,e.2.2.1,e.2.2.2,trivial⟩
  refine Xi ⟨[(1,.ref 1 0),(4,.ref 4 0),(6,.ref 6 0),(12,sl encRl x),(13,vi (x.map encRl).length),(14,vi i)],[(1,.cells (Ic x ifs)),(4,.cells (encRl x[i])),(6,.cells (encRl x[i - 1]))],hfree⟩ (Yi ⟨Z6,Z3,Fh,Tv⟩ ?_)
  refine Yi (Nz rfl) (Yi (Nz rfl) ?_);refine Xi .pure (Xi _ (Yi (c109 x[i - 1] x[i]) ?_));refine Yi ?_ ?_
  ·intro h8;have h8:(0:Int)<cmpR x[i - 1] x[i]:=h8;have e:(1:Int)=checkIx x:=by rw [hck,hgo2,if_neg h7,if_pos h8]
   exact .of_eq (congrArg vi e)
  ·intro h8;have h8:¬ (0:Int)<cmpR x[i - 1] x[i]:=h8;refine Yi (Ii i (by omega)) ?_;refine Xi ⟨i+1,by omega,by rw [hgo2,if_neg h7,if_neg h8,hnext]⟩ ?_;exact ⟨Dl x.length i (by omega),Z4,Z1,Fh,Tv⟩
 ·intro h;have h:¬ (i:Int)<(x.map encRl).length:=h;have h:¬ i<x.length:=by simpa using h
  have e:(0:Int)=checkIx x:=by rw [hck,h2,List.drop_eq_nil_of_le (by omega)]; rfl
  exact .of_eq (congrArg vi e)
end Go.Eng

namespace Go.Eng
open Go.Proofs
abbrev rlC (r:Rl) (a:AV):List AV:=[vs r.path,vi r.ver.a,vi r.ver.b,vi r.ver.c,a,vs r.arch,vs r.ifc,vs r.cert,vb r.yanked]
abbrev pl98:Pol:=⟨[],[],[],[],[],[],[],[(9,(1,4,900,2))],[],[],[6,7]⟩
theorem c98 (r:Rl) (hr:r.reqs.length≤1000) (hs:∀ q ∈ r.reqs,Few q.set):PC 213 [.agg (encRl r)] (.agg (encRl r)):=by
 refine Ps pl98 Tryz.func213 rfl (Nz rfl) ?_;refine Yi (Nz rfl) ?_;refine Xi {i:Nat // i≤r.reqs.length} (Xi (fun i=>⟨[(1,.ref 1 0),(2,.ref 2 0),(9,sl encRq r.reqs),(10,vi (r.reqs.map encRq).length),(11,vi i.1)],[(1,.cells (rlC r (.slice (.id 900 2) ((r.reqs.take i.1).map encRq)))),(2,.cells zRl),(900,.tok 2 ((r.reqs.take i.1).map encRq).length)],hfree⟩) (Xi (fun i=>r.reqs.length - i.1) (Yi (Xi ⟨0,Nat.zero_le _⟩ ?_) ?_)))
 ·exact ⟨Z5,Z3,Fh,Tv⟩
 intro ⟨i,h1⟩;refine Yi ?_ ?_
 ·intro h;have h:(i:Int)<(r.reqs.map encRq).length:=h;have h:i<r.reqs.length:=by simpa using h
  have hg:r.reqs[i]?=some r.reqs[i]:=Ge h;refine Xi (encRq r.reqs[i]) (Yi (Yi (Nn i) (by simp [hg])) (Yi rfl ?_));have hq:=hs r.reqs[i] (List.getElem_mem h);refine Yi (Nz rfl) (Yi (Nz rfl) ?_);refine Xi ⟨[(1,.ref 1 0),(2,.ref 2 0),(5,.ref 5 0),(9,sl encRq r.reqs),(10,vi (r.reqs.map encRq).length),(11,vi i)],[(1,.cells (rlC r (.slice (.id 900 2) ((r.reqs.take i).map encRq)))),(2,.cells zRl),(5,.cells (encRq r.reqs[i])),(900,.tok 2 ((r.reqs.take i).map encRq).length)],hfree⟩ (Yi ⟨Z6,Z4,Fh,Tv⟩ ?_)
  refine Xi .pure (Xi _ (Yi (c137 r.reqs[i].set hq) ?_));refine Yi (Nz rfl) ?_;refine Xi ⟨[(1,.ref 1 0),(2,.ref 2 0),(5,.ref 5 0),(9,sl encRq r.reqs),(10,vi (r.reqs.map encRq).length),(11,vi i)],[(1,.cells (rlC r (.slice (.id 900 2) ((r.reqs.take i).map encRq)))),(2,.cells zRl),(5,.cells (encRq r.reqs[i])),(900,.tok 2 ((r.reqs.take i).map encRq).length)],hfree⟩ (Yi ⟨Z6,Z4,Fh,Tv⟩ ?_)
  refine Yi (Nz rfl) ?_;have bulk:AllLen 2 [encRq r.reqs[i]]∧((r.reqs.take i).map encRq).length=((r.reqs.take i).map encRq).length∧(((r.reqs.take i).map encRq).length+[encRq r.reqs[i]].length)*40≤140737488355328∧((r.reqs.take i).map encRq).length+[encRq r.reqs[i]].length≤9223372036854775807 :=
   ⟨⟨rfl,trivial⟩,rfl,by rw [Lm,List.length_take,List.length_singleton]; omega,by rw [Lm,List.length_take,List.length_singleton]; omega⟩
  refine Yi bulk ?_;refine Yi (Nz rfl) ?_;refine Yi (Ii i (by omega)) ?_;refine Xi ⟨i+1,by omega⟩ ?_;have et:(r.reqs.take (i+1)).map encRq=(r.reqs.take i).map encRq++[encRq r.reqs[i]]:=by rw [List.take_add_one,hg,List.map_append]; rfl
  have e1:HO.cells (rlC r (.slice (.id 900 2) ((r.reqs.take i).map encRq++[encRq r.reqs[i]])))=.cells (rlC r (.slice (.id 900 2) ((r.reqs.take (i+1)).map encRq))):=by rw [et]
  have e2:HO.tok 2 (((r.reqs.take i).map encRq).length+[encRq r.reqs[i]].length)=.tok 2 ((r.reqs.take (i+1)).map encRq).length:=by rw [et,List.length_append]
  exact ⟨Dl r.reqs.length i (by omega),Z5,⟨⟨e1,rfl⟩,Zr,⟨e2,rfl⟩,Tv⟩,Fh,Tv⟩
 ·intro h;have h:¬ (i:Int)<(r.reqs.map encRq).length:=h;have h:¬ i<r.reqs.length:=by simpa using h
  refine Yi (Nz rfl) (Yi (Nz rfl) (Yi (Nz rfl) ?_));have e:AV.agg (rlC r (.slice .none ((r.reqs.take i).map encRq)))=.agg (encRl r):=by rw [List.take_of_length_le (by omega)]
  exact .of_eq e
end Go.Eng

namespace Go.Eng
open Go.Proofs
abbrev vc (c:UInt8):AV:=.v (.int .u8 c.toNat)
theorem u8_le (a:UInt8) (n:Nat) (h:n<256):decide (UInt8.ofNat n≤a)=decide ((n:Int)≤(a.toNat:Int)):=by
 rw [Bool.eq_iff_iff,decide_eq_true_eq,decide_eq_true_eq,UInt8.le_iff_toNat_le,show (UInt8.ofNat n).toNat=n by simp; omega]; omega
theorem u8_ge (a:UInt8) (n:Nat) (h:n<256):decide (a≤UInt8.ofNat n)=decide ((a.toNat:Int)≤(n:Int)):=by
 rw [Bool.eq_iff_iff,decide_eq_true_eq,decide_eq_true_eq,UInt8.le_iff_toNat_le,show (UInt8.ofNat n).toNat=n by simp; omega]; omega
theorem c217 (c:UInt8):PC 128 [vc c] (vb (smallC c)):=by
 refine Ps pl0 Tryz.func128 rfl (Nz rfl) ?_;have e1:decide ((97:UInt8)≤c)=decide ((97:Int)≤(c.toNat:Int)):=u8_le c 97 (by decide);have e2:decide (c≤(122:UInt8))=decide ((c.toNat:Int)≤(122:Int)):=u8_ge c 122 (by decide);have es:smallC c=(decide ((97:Int)≤(c.toNat:Int))&&decide ((c.toNat:Int)≤(122:Int))):=by unfold smallC; rw [e1,e2]
 refine Yi ?_ ?_
 ·intro h;have h:(97:Int)≤(c.toNat:Int):=h;refine Yi ?_ ?_
  ·intro h2;have h2:(c.toNat:Int)≤122:=h2;exact .of_eq (congrArg vb (show true=smallC c by rw [es,decide_eq_true h,decide_eq_true h2]; rfl))
  ·intro h2;have h2:¬ (c.toNat:Int)≤122:=h2;exact .of_eq (congrArg vb (show false=smallC c by rw [es,decide_eq_false h2,Bool.and_false]))
 ·intro h;have h:¬ (97:Int)≤(c.toNat:Int):=h;exact .of_eq (congrArg vb (show false=smallC c by rw [es,decide_eq_false h]; rfl))
theorem c218 (c:UInt8):PC 129 [vc c] (vb (digitC c)):=by
 refine Ps pl0 Tryz.func129 rfl (Nz rfl) ?_;have e1:decide ((48:UInt8)≤c)=decide ((48:Int)≤(c.toNat:Int)):=u8_le c 48 (by decide);have e2:decide (c≤(57:UInt8))=decide ((c.toNat:Int)≤(57:Int)):=u8_ge c 57 (by decide);have es:digitC c=(decide ((48:Int)≤(c.toNat:Int))&&decide ((c.toNat:Int)≤(57:Int))):=by unfold digitC; rw [e1,e2]
 refine Yi ?_ ?_
 ·intro h;have h:(48:Int)≤(c.toNat:Int):=h;refine Yi ?_ ?_
  ·intro h2;have h2:(c.toNat:Int)≤57:=h2;exact .of_eq (congrArg vb (show true=digitC c by rw [es,decide_eq_true h,decide_eq_true h2]; rfl))
  ·intro h2;have h2:¬ (c.toNat:Int)≤57:=h2;exact .of_eq (congrArg vb (show false=digitC c by rw [es,decide_eq_false h2,Bool.and_false]))
 ·intro h;have h:¬ (48:Int)≤(c.toNat:Int):=h;exact .of_eq (congrArg vb (show false=digitC c by rw [es,decide_eq_false h]; rfl))
theorem c261 (c:UInt8):PC 266 [vc c] (vb (capC c)):=by
 refine Ps pl0 Tryz.func266 rfl (Nz rfl) ?_;have e1:decide ((65:UInt8)≤c)=decide ((65:Int)≤(c.toNat:Int)):=u8_le c 65 (by decide);have e2:decide (c≤(90:UInt8))=decide ((c.toNat:Int)≤(90:Int)):=u8_ge c 90 (by decide);have es:capC c=(decide ((65:Int)≤(c.toNat:Int))&&decide ((c.toNat:Int)≤(90:Int))):=by unfold capC; rw [e1,e2]
 refine Yi ?_ ?_
 ·intro h;have h:(65:Int)≤(c.toNat:Int):=h;refine Yi ?_ ?_
  ·intro h2;have h2:(c.toNat:Int)≤90:=h2;exact .of_eq (congrArg vb (show true=capC c by rw [es,decide_eq_true h,decide_eq_true h2]; rfl))
  ·intro h2;have h2:¬ (c.toNat:Int)≤90:=h2;exact .of_eq (congrArg vb (show false=capC c by rw [es,decide_eq_false h2,Bool.and_false]))
 ·intro h;have h:¬ (65:Int)≤(c.toNat:Int):=h;exact .of_eq (congrArg vb (show false=capC c by rw [es,decide_eq_false h]; rfl))
abbrev segC (c:UInt8):Bool:=smallC c||digitC c
theorem c216 (c:UInt8):PC 127 [vc c] (vb (segC c)):=by
 have h1:=c217 c;have h2:=c218 c;rcases Bt (smallC c) with e | e
 ·rw [e] at h1;refine Ps pl0 Tryz.func127 rfl (Nz rfl) ?_;refine Xi .pure (Xi _ (Yi (h1) ?_));exact .of_eq (congrArg vb (show true=segC c by unfold segC; rw [e]; rfl))
 ·rw [e] at h1;refine Ps pl0 Tryz.func127 rfl (Nz rfl) ?_;refine Xi .pure (Xi _ (Yi (h1) ?_));refine Xi .pure (Xi _ (Yi (h2) ?_));exact .of_eq (congrArg vb (show digitC c=segC c by unfold segC; rw [e]; rfl))
theorem c243 (c:UInt8):PC 199 [vc c] (vb (wordC c)):=by
 have h1:=c217 c;have h2:=c261 c;have h3:=c218 c;have ew:wordC c=(smallC c||capC c||digitC c||decide (c=95)):=rfl;rcases Bt (smallC c) with e | e
 ·rw [e] at h1;refine Ps pl0 Tryz.func199 rfl (Nz rfl) ?_;refine Xi .pure (Xi _ (Yi (h1) ?_));exact .of_eq (congrArg vb (show true=wordC c by rw [ew,e]; rfl))
 rw [e] at h1;rcases Bt (capC c) with e2 | e2
 ·rw [e2] at h2;refine Ps pl0 Tryz.func199 rfl (Nz rfl) ?_;refine Xi .pure (Xi _ (Yi (h1) ?_));refine Xi .pure (Xi _ (Yi (h2) ?_));exact .of_eq (congrArg vb (show true=wordC c by rw [ew,e,e2]; rfl))
 rw [e2] at h2;rcases Bt (digitC c) with e3 | e3
 ·rw [e3] at h3;refine Ps pl0 Tryz.func199 rfl (Nz rfl) ?_;refine Xi .pure (Xi _ (Yi (h1) ?_));refine Xi .pure (Xi _ (Yi (h2) ?_));refine Xi .pure (Xi _ (Yi (h3) ?_));exact .of_eq (congrArg vb (show true=wordC c by rw [ew,e,e2,e3]; rfl))
 rw [e3] at h3;refine Ps pl0 Tryz.func199 rfl (Nz rfl) ?_;refine Xi .pure (Xi _ (Yi (h1) ?_));refine Xi .pure (Xi _ (Yi (h2) ?_));refine Xi .pure (Xi _ (Yi (h3) ?_));have eb:decide (c=95)=decide ((c.toNat:Int)=95):=by
  rw [Bool.eq_iff_iff,decide_eq_true_eq,decide_eq_true_eq];constructor
  ·intro h; subst h; rfl
  ·intro h; exact UInt8.toNat_inj.1 (by show c.toNat=95; omega)
 refine Yi ?_ ?_
 ·intro h;have h:(c.toNat:Int)=95:=h;exact .of_eq (congrArg vb (show true=wordC c by rw [ew,e,e2,e3,eb,decide_eq_true h]; rfl))
 ·intro h;have h:¬ (c.toNat:Int)=95:=h;exact .of_eq (congrArg vb (show false=wordC c by rw [ew,e,e2,e3,eb,decide_eq_false h]; rfl))
theorem at_data (s:ByteArray) (i:Nat) (h:i<s.data.toList.length):s.data[i]?=some s.data.toList[i]:=by
 rw [← Array.getElem?_toList]; exact Ge h
theorem c215 (s:ByteArray) (f:Nat) (q:UInt8→Bool) (hf:∀ c,PC f [vc c] (vb (q c))) (hs:s.data.toList.length<4611686018427387904):PC 126 [vs s,.v (fnV f)] (vb (s.data.toList.all q)):=by
 have hsz:s.size=s.data.toList.length:=by simp
 refine Ps pl0 Tryz.func126 rfl (Nz rfl) ?_;refine Xi {i:Nat // i≤s.data.toList.length∧∀ j (hj:j<s.data.toList.length),j<i→q s.data.toList[j]=true} (Xi (fun i=>⟨[(0,vs s),(1,.v (fnV f)),(7,vi s.size),(8,vi i.1)],[],hfree⟩) (Xi (fun i=>s.data.toList.length - i.1) (Yi (Xi ⟨0,Nat.zero_le _,fun j _ h=>by omega⟩ ?_) ?_)))
 ·exact ⟨Z4,Tv,Fh,Tv⟩
 intro ⟨i,h1,h2⟩;refine Yi ?_ ?_
 ·intro h;have h:(i:Int)<(s.size:Nat):=h;have h:i<s.data.toList.length:=by omega
  refine Xi s.data.toList[i] (Yi ⟨by show (0:Int)≤i; omega,by show s.data[((i:Nat):Int).toNat]?=_; rw [Int.toNat_natCast]; exact at_data s i h⟩ ?_);have hc:=hf s.data.toList[i];refine Or.elim (Bt (q s.data.toList[i])) (fun e=>?_) (fun e=>?_)
  ·rw [e] at hc;refine Xi .pure (Xi _ (Yi (hc) ?_));refine Yi (Ii i (by omega)) ?_;refine Xi ⟨i+1,by omega,fun j hj hji=>?_⟩ ?_
   ·rcases Nat.lt_or_ge j i with z | z
    ·exact h2 j hj z
    ·have:j=i:=by omega
     subst this; exact e
   ·exact ⟨Dl s.data.toList.length i (by omega),Z4,Tv,Fh,Tv⟩
  ·rw [e] at hc;refine Xi .pure (Xi _ (Yi (hc) ?_));have er:s.data.toList.all q=false:=by
    rw [Bool.eq_false_iff];intro ha
    have:=List.all_eq_true.1 ha _ (List.getElem_mem h)
    rw [e] at this; cases this
   exact .of_eq (congrArg vb er.symm)
 ·intro h;have h:¬ (i:Int)<(s.size:Nat):=h;have er:s.data.toList.all q=true:=List.all_eq_true.2 fun c hc=>by
   obtain ⟨j,hj,rfl⟩:=List.getElem_of_mem hc;exact h2 j hj (by omega)
  exact .of_eq (congrArg vb er.symm)
end Go.Eng

namespace Go.Proofs
open Go.Shelf
def Tryz.laySplit_ren:Go.Shelf.Ren:=⟨fun | 146=>123 | 221=>197 | 268=>263 | 138=>264 | 143=>87 | 195=>318 | 197=>319 | 218=>320 | 219=>153 | 260=>342 | 217=>218 | 225=>219 | 224=>220 | 267=>221 | 266=>277 | 314=>278 | n=>n,fun | 9=>9 | 31=>45 | 3=>3 | 4=>4 | 0=>0 | 105=>318 | 21=>21 | 5=>5 | 46=>159 | 119=>335 | 139=>338 | 138=>337 | 146=>197 | 51=>196 | n=>n,fun | 1=>0 | 3=>6 | 4=>7 | n=>n⟩
theorem Tryz.laySplit:Go.Proofs.Lays.n146 Tryz.prog Tryz.laySplit_ren:={
 mixed:=by kernel_rfl
 f138:=Tryz.func264.trans (congrArg some (by kernel_rfl))
 f143:=Tryz.func87.trans (congrArg some (by kernel_rfl))
 f146:=Tryz.func123.trans (congrArg some (by kernel_rfl))
 f195:=Tryz.func318.trans (congrArg some (by kernel_rfl))
 f197:=Tryz.func319.trans (congrArg some (by kernel_rfl))
 f217:=Tryz.func218.trans (congrArg some (by kernel_rfl))
 f218:=Tryz.func320.trans (congrArg some (by kernel_rfl))
 f219:=Tryz.func153.trans (congrArg some (by kernel_rfl))
 f221:=Tryz.func197.trans (congrArg some (by kernel_rfl))
 f224:=Tryz.func220.trans (congrArg some (by kernel_rfl))
 f225:=Tryz.func219.trans (congrArg some (by kernel_rfl))
 f260:=Tryz.func342.trans (congrArg some (by kernel_rfl))
 f266:=Tryz.func277.trans (congrArg some (by kernel_rfl))
 f267:=Tryz.func221.trans (congrArg some (by kernel_rfl))
 f268:=Tryz.func263.trans (congrArg some (by kernel_rfl))
 f314:=Tryz.func278.trans (congrArg some (by kernel_rfl))
 t0:=Tryz.underlying0
 a0:=Tryz.isAgg0
 z0:=Tryz.sizeOf0
 v0:=Tryz.zeroValue0
 t3:=Tryz.underlying3
 a3:=Tryz.isAgg3
 z3:=Tryz.sizeOf3
 v3:=Tryz.zeroValue3
 t4:=Tryz.underlying4
 a4:=Tryz.isAgg4
 z4:=Tryz.sizeOf4
 v4:=Tryz.zeroValue4
 t5:=Tryz.underlying5
 a5:=Tryz.isAgg5
 z5:=Tryz.sizeOf5
 v5:=Tryz.zeroValue5
 t9:=Tryz.underlying9
 a9:=Tryz.isAgg9
 z9:=Tryz.sizeOf9
 v9:=Tryz.zeroValue9
 t21:=Tryz.underlying21
 a21:=Tryz.isAgg21
 z21:=Tryz.sizeOf21
 v21:=Tryz.zeroValue21
 t31:=Tryz.underlying45
 a31:=Tryz.isAgg45
 z31:=Tryz.sizeOf45
 v31:=Tryz.zeroValue45
 t46:=Tryz.underlying159
 a46:=Tryz.isAgg159
 z46:=Tryz.sizeOf159
 v46:=Tryz.zeroValue159
 t51:=Tryz.underlying196
 a51:=Tryz.isAgg196
 z51:=Tryz.sizeOf196
 v51:=Tryz.zeroValue196
 t105:=Tryz.underlying318
 a105:=Tryz.isAgg318
 z105:=Tryz.sizeOf318
 v105:=Tryz.zeroValue318
 t119:=Tryz.underlying335
 a119:=Tryz.isAgg335
 z119:=Tryz.sizeOf335
 t138:=Tryz.underlying337
 a138:=Tryz.isAgg337
 z138:=Tryz.sizeOf337
 v138:=Tryz.zeroValue337
 t139:=Tryz.underlying338
 a139:=Tryz.isAgg338
 z139:=Tryz.sizeOf338
 v139:=Tryz.zeroValue338
 t146:=Tryz.underlying197
 a146:=Tryz.isAgg197
 z146:=Tryz.sizeOf197
 v146:=Tryz.zeroValue197
 g1:=by kernel_rfl
 g3:=by kernel_rfl
 g4:=by kernel_rfl }
def Tryz.layLast_ren:Go.Shelf.Ren:=⟨fun | 148=>41 | 222=>93 | 223=>94 | 269=>155 | n=>n,fun | 9=>9 | 3=>3 | 4=>4 | 5=>5 | 146=>197 | 51=>196 | 46=>159 | n=>n,fun | n=>n⟩
theorem Tryz.layLast:Go.Proofs.Lays.n148 Tryz.prog Tryz.layLast_ren:={
 mixed:=by kernel_rfl
 f148:=Tryz.func41.trans (congrArg some (by kernel_rfl))
 f222:=Tryz.func93.trans (congrArg some (by kernel_rfl))
 f223:=Tryz.func94.trans (congrArg some (by kernel_rfl))
 f269:=Tryz.func155.trans (congrArg some (by kernel_rfl))
 t3:=Tryz.underlying3
 a3:=Tryz.isAgg3
 z3:=Tryz.sizeOf3
 v3:=Tryz.zeroValue3
 t4:=Tryz.underlying4
 a4:=Tryz.isAgg4
 z4:=Tryz.sizeOf4
 v4:=Tryz.zeroValue4
 t5:=Tryz.underlying5
 a5:=Tryz.isAgg5
 z5:=Tryz.sizeOf5
 v5:=Tryz.zeroValue5
 t9:=Tryz.underlying9
 a9:=Tryz.isAgg9
 z9:=Tryz.sizeOf9
 v9:=Tryz.zeroValue9
 t46:=Tryz.underlying159
 a46:=Tryz.isAgg159
 z46:=Tryz.sizeOf159
 v46:=Tryz.zeroValue159
 t51:=Tryz.underlying196
 a51:=Tryz.isAgg196
 z51:=Tryz.sizeOf196
 v51:=Tryz.zeroValue196
 t146:=Tryz.underlying197
 a146:=Tryz.isAgg197
 z146:=Tryz.sizeOf197
 v146:=Tryz.zeroValue197 }
def Tryz.layCut_ren:Go.Shelf.Ren:=⟨fun | 103=>198 | 210=>265 | 206=>90 | n=>n,fun | 9=>9 | 4=>4 | 24=>241 | 3=>3 | n=>n,fun | n=>n⟩
theorem Tryz.layCut:Go.Proofs.Lays.n103 Tryz.prog Tryz.layCut_ren:={
 mixed:=by kernel_rfl
 f103:=Tryz.func198.trans (congrArg some (by kernel_rfl))
 f206:=Tryz.func90.trans (congrArg some (by kernel_rfl))
 f210:=Tryz.func265.trans (congrArg some (by kernel_rfl))
 t3:=Tryz.underlying3
 a3:=Tryz.isAgg3
 z3:=Tryz.sizeOf3
 v3:=Tryz.zeroValue3
 t4:=Tryz.underlying4
 a4:=Tryz.isAgg4
 z4:=Tryz.sizeOf4
 v4:=Tryz.zeroValue4
 t9:=Tryz.underlying9
 a9:=Tryz.isAgg9
 z9:=Tryz.sizeOf9
 v9:=Tryz.zeroValue9
 t24:=Tryz.underlying241
 a24:=Tryz.isAgg241
 z24:=Tryz.sizeOf241
 v24:=Tryz.zeroValue241 }
def Tryz.layCont_ren:Go.Shelf.Ren:=⟨fun | 144=>36 | 143=>87 | 219=>153 | 217=>218 | 225=>219 | 224=>220 | 267=>221 | 266=>277 | 314=>278 | n=>n,fun | 9=>9 | 4=>4 | 3=>3 | 5=>5 | 46=>159 | 146=>197 | 51=>196 | n=>n,fun | 1=>0 | n=>n⟩
theorem Tryz.layCont:Go.Proofs.Lays.n144 Tryz.prog Tryz.layCont_ren:={
 mixed:=by kernel_rfl
 f143:=Tryz.func87.trans (congrArg some (by kernel_rfl))
 f144:=Tryz.func36.trans (congrArg some (by kernel_rfl))
 f217:=Tryz.func218.trans (congrArg some (by kernel_rfl))
 f219:=Tryz.func153.trans (congrArg some (by kernel_rfl))
 f224:=Tryz.func220.trans (congrArg some (by kernel_rfl))
 f225:=Tryz.func219.trans (congrArg some (by kernel_rfl))
 f266:=Tryz.func277.trans (congrArg some (by kernel_rfl))
 f267:=Tryz.func221.trans (congrArg some (by kernel_rfl))
 f314:=Tryz.func278.trans (congrArg some (by kernel_rfl))
 t3:=Tryz.underlying3
 a3:=Tryz.isAgg3
 z3:=Tryz.sizeOf3
 v3:=Tryz.zeroValue3
 t4:=Tryz.underlying4
 a4:=Tryz.isAgg4
 z4:=Tryz.sizeOf4
 v4:=Tryz.zeroValue4
 t5:=Tryz.underlying5
 a5:=Tryz.isAgg5
 z5:=Tryz.sizeOf5
 v5:=Tryz.zeroValue5
 t9:=Tryz.underlying9
 a9:=Tryz.isAgg9
 z9:=Tryz.sizeOf9
 v9:=Tryz.zeroValue9
 t46:=Tryz.underlying159
 a46:=Tryz.isAgg159
 z46:=Tryz.sizeOf159
 v46:=Tryz.zeroValue159
 t51:=Tryz.underlying196
 a51:=Tryz.isAgg196
 z51:=Tryz.sizeOf196
 v51:=Tryz.zeroValue196
 t146:=Tryz.underlying197
 a146:=Tryz.isAgg197
 z146:=Tryz.sizeOf197
 v146:=Tryz.zeroValue197
 g1:=by kernel_rfl }
def Tryz.layHasS_ren:Go.Shelf.Ren:=⟨fun | 100=>40 | 207=>92 | n=>n,fun | 9=>9 | 4=>4 | 3=>3 | n=>n,fun | n=>n⟩
theorem Tryz.layHasS:Go.Proofs.Lays.n100 Tryz.prog Tryz.layHasS_ren:={
 mixed:=by kernel_rfl
 f100:=Tryz.func40.trans (congrArg some (by kernel_rfl))
 f207:=Tryz.func92.trans (congrArg some (by kernel_rfl))
 t3:=Tryz.underlying3
 a3:=Tryz.isAgg3
 z3:=Tryz.sizeOf3
 v3:=Tryz.zeroValue3
 t4:=Tryz.underlying4
 a4:=Tryz.isAgg4
 z4:=Tryz.sizeOf4
 v4:=Tryz.zeroValue4
 t9:=Tryz.underlying9
 a9:=Tryz.isAgg9
 z9:=Tryz.sizeOf9
 v9:=Tryz.zeroValue9 }
def Tryz.layCut2_ren:Go.Shelf.Ren:=⟨fun | 145=>42 | 220=>95 | 219=>153 | 217=>218 | 225=>219 | 224=>220 | 267=>221 | 266=>277 | 314=>278 | n=>n,fun | 9=>9 | 4=>4 | 59=>76 | 3=>3 | 5=>5 | 46=>159 | 146=>197 | 51=>196 | n=>n,fun | 1=>0 | n=>n⟩
theorem Tryz.layCut2:Go.Proofs.Lays.n145 Tryz.prog Tryz.layCut2_ren:={
 mixed:=by kernel_rfl
 f145:=Tryz.func42.trans (congrArg some (by kernel_rfl))
 f217:=Tryz.func218.trans (congrArg some (by kernel_rfl))
 f219:=Tryz.func153.trans (congrArg some (by kernel_rfl))
 f220:=Tryz.func95.trans (congrArg some (by kernel_rfl))
 f224:=Tryz.func220.trans (congrArg some (by kernel_rfl))
 f225:=Tryz.func219.trans (congrArg some (by kernel_rfl))
 f266:=Tryz.func277.trans (congrArg some (by kernel_rfl))
 f267:=Tryz.func221.trans (congrArg some (by kernel_rfl))
 f314:=Tryz.func278.trans (congrArg some (by kernel_rfl))
 t3:=Tryz.underlying3
 a3:=Tryz.isAgg3
 z3:=Tryz.sizeOf3
 v3:=Tryz.zeroValue3
 t4:=Tryz.underlying4
 a4:=Tryz.isAgg4
 z4:=Tryz.sizeOf4
 v4:=Tryz.zeroValue4
 t5:=Tryz.underlying5
 a5:=Tryz.isAgg5
 z5:=Tryz.sizeOf5
 v5:=Tryz.zeroValue5
 t9:=Tryz.underlying9
 a9:=Tryz.isAgg9
 z9:=Tryz.sizeOf9
 v9:=Tryz.zeroValue9
 t46:=Tryz.underlying159
 a46:=Tryz.isAgg159
 z46:=Tryz.sizeOf159
 v46:=Tryz.zeroValue159
 t51:=Tryz.underlying196
 a51:=Tryz.isAgg196
 z51:=Tryz.sizeOf196
 v51:=Tryz.zeroValue196
 t59:=Tryz.underlying76
 a59:=Tryz.isAgg76
 z59:=Tryz.sizeOf76
 v59:=Tryz.zeroValue76
 t146:=Tryz.underlying197
 a146:=Tryz.isAgg197
 z146:=Tryz.sizeOf197
 v146:=Tryz.zeroValue197
 g1:=by kernel_rfl }
def Tryz.layAtoi_ren:Go.Shelf.Ren:=⟨fun | 172=>43 | 244=>96 | 245=>97 | 247=>156 | 279=>157 | 280=>158 | 281=>159 | 282=>160 | 287=>226 | 316=>227 | 171=>39 | 205=>228 | 321=>283 | 322=>284 | 243=>91 | 246=>154 | 283=>222 | 284=>223 | 285=>224 | 286=>225 | 129=>195 | 317=>279 | 318=>280 | 319=>281 | 320=>282 | 337=>324 | 338=>325 | n=>n,fun | 9=>9 | 3=>3 | 75=>79 | 76=>80 | 4=>4 | 5=>5 | 167=>199 | 37=>144 | 0=>0 | 85=>200 | 2=>2 | 168=>202 | 53=>239 | 175=>259 | 46=>159 | 210=>263 | 127=>208 | 145=>301 | 143=>299 | 21=>21 | 171=>255 | 173=>257 | 212=>296 | 51=>196 | 20=>20 | 213=>297 | 232=>330 | 233=>331 | 80=>148 | n=>n,fun | 15=>1 | 16=>2 | 17=>3 | 18=>4 | 19=>5 | n=>n⟩
theorem Tryz.layAtoi:Go.Proofs.LaysC.n172 Tryz.prog Tryz.layAtoi_ren:={
 mixed:=by kernel_rfl
 f129:=Tryz.func195.trans (congrArg some (by kernel_rfl))
 f171:=Tryz.func39.trans (congrArg some (by kernel_rfl))
 f172:=Tryz.func43.trans (congrArg some (by kernel_rfl))
 f205:=Tryz.func228.trans (congrArg some (by kernel_rfl))
 f243:=Tryz.func91.trans (congrArg some (by kernel_rfl))
 f244:=Tryz.func96.trans (congrArg some (by kernel_rfl))
 f245:=Tryz.func97.trans (congrArg some (by kernel_rfl))
 f246:=Tryz.func154.trans (congrArg some (by kernel_rfl))
 f247:=Tryz.func156.trans (congrArg some (by kernel_rfl))
 f279:=Tryz.func157.trans (congrArg some (by kernel_rfl))
 f280:=Tryz.func158.trans (congrArg some (by kernel_rfl))
 f281:=Tryz.func159.trans (congrArg some (by kernel_rfl))
 f282:=Tryz.func160.trans (congrArg some (by kernel_rfl))
 f283:=Tryz.func222.trans (congrArg some (by kernel_rfl))
 f284:=Tryz.func223.trans (congrArg some (by kernel_rfl))
 f285:=Tryz.func224.trans (congrArg some (by kernel_rfl))
 f286:=Tryz.func225.trans (congrArg some (by kernel_rfl))
 f287:=Tryz.func226.trans (congrArg some (by kernel_rfl))
 f316:=Tryz.func227.trans (congrArg some (by kernel_rfl))
 f317:=Tryz.func279.trans (congrArg some (by kernel_rfl))
 f318:=Tryz.func280.trans (congrArg some (by kernel_rfl))
 f319:=Tryz.func281.trans (congrArg some (by kernel_rfl))
 f320:=Tryz.func282.trans (congrArg some (by kernel_rfl))
 f321:=Tryz.func283.trans (congrArg some (by kernel_rfl))
 f322:=Tryz.func284.trans (congrArg some (by kernel_rfl))
 f337:=Tryz.func324.trans (congrArg some (by kernel_rfl))
 f338:=Tryz.func325.trans (congrArg some (by kernel_rfl))
 t0:=Tryz.underlying0
 a0:=Tryz.isAgg0
 z0:=Tryz.sizeOf0
 v0:=Tryz.zeroValue0
 t2:=Tryz.underlying2
 a2:=Tryz.isAgg2
 z2:=Tryz.sizeOf2
 v2:=Tryz.zeroValue2
 t3:=Tryz.underlying3
 a3:=Tryz.isAgg3
 z3:=Tryz.sizeOf3
 v3:=Tryz.zeroValue3
 t4:=Tryz.underlying4
 a4:=Tryz.isAgg4
 z4:=Tryz.sizeOf4
 v4:=Tryz.zeroValue4
 t5:=Tryz.underlying5
 a5:=Tryz.isAgg5
 z5:=Tryz.sizeOf5
 v5:=Tryz.zeroValue5
 t9:=Tryz.underlying9
 a9:=Tryz.isAgg9
 z9:=Tryz.sizeOf9
 v9:=Tryz.zeroValue9
 t20:=Tryz.underlying20
 a20:=Tryz.isAgg20
 z20:=Tryz.sizeOf20
 v20:=Tryz.zeroValue20
 t21:=Tryz.underlying21
 a21:=Tryz.isAgg21
 z21:=Tryz.sizeOf21
 v21:=Tryz.zeroValue21
 t37:=Tryz.underlying144
 a37:=Tryz.isAgg144
 z37:=Tryz.sizeOf144
 v37:=Tryz.zeroValue144
 t46:=Tryz.underlying159
 a46:=Tryz.isAgg159
 z46:=Tryz.sizeOf159
 v46:=Tryz.zeroValue159
 t51:=Tryz.underlying196
 a51:=Tryz.isAgg196
 z51:=Tryz.sizeOf196
 v51:=Tryz.zeroValue196
 t53:=Tryz.underlying239
 a53:=Tryz.isAgg239
 z53:=Tryz.sizeOf239
 v53:=Tryz.zeroValue239
 t75:=Tryz.underlying79
 a75:=Tryz.isAgg79
 z75:=Tryz.sizeOf79
 v75:=Tryz.zeroValue79
 t76:=Tryz.underlying80
 a76:=Tryz.isAgg80
 z76:=Tryz.sizeOf80
 v76:=Tryz.zeroValue80
 t85:=Tryz.underlying200
 a85:=Tryz.isAgg200
 z85:=Tryz.sizeOf200
 v85:=Tryz.zeroValue200
 t127:=Tryz.underlying208
 a127:=Tryz.isAgg208
 z127:=Tryz.sizeOf208
 v127:=Tryz.zeroValue208
 t143:=Tryz.underlying299
 a143:=Tryz.isAgg299
 z143:=Tryz.sizeOf299
 v143:=Tryz.zeroValue299
 t145:=Tryz.underlying301
 a145:=Tryz.isAgg301
 z145:=Tryz.sizeOf301
 v145:=Tryz.zeroValue301
 t167:=Tryz.underlying199
 a167:=Tryz.isAgg199
 z167:=Tryz.sizeOf199
 v167:=Tryz.zeroValue199
 t168:=Tryz.underlying202
 a168:=Tryz.isAgg202
 z168:=Tryz.sizeOf202
 v168:=Tryz.zeroValue202
 t171:=Tryz.underlying255
 a171:=Tryz.isAgg255
 z171:=Tryz.sizeOf255
 v171:=Tryz.zeroValue255
 t173:=Tryz.underlying257
 a173:=Tryz.isAgg257
 z173:=Tryz.sizeOf257
 v173:=Tryz.zeroValue257
 t175:=Tryz.underlying259
 a175:=Tryz.isAgg259
 z175:=Tryz.sizeOf259
 v175:=Tryz.zeroValue259
 t210:=Tryz.underlying263
 a210:=Tryz.isAgg263
 z210:=Tryz.sizeOf263
 v210:=Tryz.zeroValue263
 t212:=Tryz.underlying296
 a212:=Tryz.isAgg296
 z212:=Tryz.sizeOf296
 v212:=Tryz.zeroValue296
 t213:=Tryz.underlying297
 a213:=Tryz.isAgg297
 z213:=Tryz.sizeOf297
 t232:=Tryz.underlying330
 a232:=Tryz.isAgg330
 z232:=Tryz.sizeOf330
 v232:=Tryz.zeroValue330
 t233:=Tryz.underlying331
 a233:=Tryz.isAgg331
 z233:=Tryz.sizeOf331
 v233:=Tryz.zeroValue331
 g15:=by kernel_rfl
 g16:=by kernel_rfl
 g17:=by kernel_rfl
 g18:=by kernel_rfl
 g19:=by kernel_rfl
 t80:=Tryz.underlying148
 a80:=Tryz.isAgg148
 z80:=Tryz.sizeOf148
 v80:=Tryz.zeroValue148
 i0:=by kernel_rfl
 i2:=by kernel_rfl
 i3:=by kernel_rfl
 i4:=by kernel_rfl
 i5:=by kernel_rfl
 i9:=by kernel_rfl
 i20:=by kernel_rfl
 i21:=by kernel_rfl
 i37:=by kernel_rfl
 i46:=by kernel_rfl
 i51:=by kernel_rfl
 i53:=by kernel_rfl
 i75:=by kernel_rfl
 i76:=by kernel_rfl
 i80:=by kernel_rfl
 i85:=by kernel_rfl
 i127:=by kernel_rfl
 i143:=by kernel_rfl
 i145:=by kernel_rfl
 i167:=by kernel_rfl
 i168:=by kernel_rfl
 i171:=by kernel_rfl
 i173:=by kernel_rfl
 i175:=by kernel_rfl
 i210:=by kernel_rfl
 i212:=by kernel_rfl
 i232:=by kernel_rfl
 i233:=by kernel_rfl
 m15:=by kernel_rfl
 m16:=by kernel_rfl
 m17:=by kernel_rfl
 m18:=by kernel_rfl
 m19:=by kernel_rfl
 c0:=by kernel_rfl
 c2:=by kernel_rfl
 c3:=by kernel_rfl
 c4:=by kernel_rfl
 c5:=by kernel_rfl
 c9:=by kernel_rfl
 c20:=by kernel_rfl
 c21:=by kernel_rfl
 c37:=by kernel_rfl
 c46:=by kernel_rfl
 c51:=by kernel_rfl
 c53:=by kernel_rfl
 c75:=by kernel_rfl
 c76:=by kernel_rfl
 c80:=by kernel_rfl
 c85:=by kernel_rfl
 c127:=by kernel_rfl
 c143:=by kernel_rfl
 c145:=by kernel_rfl
 c167:=by kernel_rfl
 c168:=by kernel_rfl
 c171:=by kernel_rfl
 c173:=by kernel_rfl
 c175:=by kernel_rfl
 c210:=by kernel_rfl
 c212:=by kernel_rfl
 c213:=by kernel_rfl
 c232:=by kernel_rfl
 c233:=by kernel_rfl }
end Go.Proofs

namespace Go.Eng
open Go.Proofs
abbrev b47:ByteArray:=⟨#[47]⟩
abbrev partsB (s:ByteArray):List ByteArray:=Go.Lib.splitB b47 0 (Go.Lib.countB s b47) s
theorem parts_eq (s:ByteArray):(partsB s).map (·.data.toList)=splitL 47 s.data.toList:=splitB_eq s 47
abbrev encS (s:ByteArray):List AV:=[vs s]
theorem c212 (s:ByteArray) (hs:FewS s):PC 123 [vs s,vs b47] (sl encS (partsB s)):=by
 unfold FewS at hs;have h:=pcall_new (P:=Tryz.prog) (f:=123) (args:=[vs s,vs b47]) [.string s,.string b47] ((partsB s).map Value.string) 9 (ent 123 Tryz.func123 (by kernel_rfl) rfl) rfl (fun x hx=>by
  obtain ⟨y,_,rfl⟩:=List.mem_map.1 hx; rfl) (fun w hm=>by
  obtain ⟨m,hm⟩:=hm;have hl:(partsB s).length=Go.Lib.countB s b47+1:=Go.Lib.splitB_all b47 (by decide) 0 _ s rfl;refine (Any.strings_Split Tryz.laySplit (by kernel_rfl) s b47 m w (by omega) hm (by decide)).mono ?_
  rintro e w' ⟨rfl,rfl⟩
  exact ⟨by rw [Lm,hl],rfl⟩)
 rw [List.map_map] at h;exact h
theorem c188 (s p:ByteArray) (hs:FewS s):PC 41 [vs s,vs p] (vi (Go.Lib.lastIndex s.data.toList p.data.toList)):=by
 unfold FewS at hs;exact pcall_same [.string s,.string p] (.int .i64 (Go.Lib.lastIndex s.data.toList p.data.toList)) (ent 41 Tryz.func41 (by kernel_rfl) rfl) rfl (fun g w=>.v _ _) fun w _=>Any.strings_LastIndex Tryz.layLast s p (by omega) w
theorem c242 (s p:ByteArray):PC 198 [vs s,vs p] (.tup [vs ⟨(Go.Lib.trimPrefix s.data.toList p.data.toList).toArray⟩,vb (Go.Lib.hasPrefix s.data.toList p.data.toList)]):=by
 exact pcall_same [.string s,.string p] _ (ent 198 Tryz.func198 (by kernel_rfl) rfl) rfl (fun g w=>rep_vals [.string ⟨(Go.Lib.trimPrefix s.data.toList p.data.toList).toArray⟩,.bool (Go.Lib.hasPrefix s.data.toList p.data.toList)]) fun w _=>Any.strings_CutPrefix Tryz.layCut s p w
theorem c262 (s p:ByteArray) (hs:FewS s):PC 36 [vs s,vs p] (vb (Go.Lib.contains s.data.toList p.data.toList)):=by
 unfold FewS at hs;exact pcall_same [.string s,.string p] (.bool (Go.Lib.contains s.data.toList p.data.toList)) (ent 36 Tryz.func36 (by kernel_rfl) rfl) rfl (fun g w=>.v _ _) fun w hm=>by
  obtain ⟨m,hm⟩:=hm;exact Any.strings_Contains Tryz.layCont s p m w (by omega) hm
end Go.Eng
