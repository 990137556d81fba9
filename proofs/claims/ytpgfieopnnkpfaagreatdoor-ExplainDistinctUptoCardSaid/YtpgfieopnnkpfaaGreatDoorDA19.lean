/- Lemmas for the claims of this seat, without a condition: part 19 (C45, C46, C47, C48, C49, C50, C51, C52, C53, C54, C55). -/
import Derived.Test.YtpgfieopnnkpfaaGreatDoorDA18
namespace Go.Eng
open Go.Proofs
abbrev C165 (x:List Rl) (ifs:List (List AV)) (roots:List Rq):Prop:=∀ (d:List (List Tm)) (i:Nf),
 ACall Tryz.prog 254 [.ref 1000 0,.agg (encNf i)] (heapOf (ckH x ifs roots d) hfree) fun r h'=>r=incV (ne0 (noneT i.path (availP x i.path)))∧h'=heapOf (ckH x ifs roots d) hfree
abbrev Post66 (x:List Rl) (ifs:List (List AV)) (roots:List Rq) (d:List (List Tm)) (i:Nf) (r:AV) (h' : Nat→HO):Prop :=
 r=vb (inferP x roots d i).isSome∧∃ d',h'=heapOf (ckH x ifs roots d') hfree∧∀ t,inferP x roots d i=some t→d'=d++[t]
theorem c66_0 (x:List Rl) (ifs:List (List AV)) (roots:List Rq) (d:List (List Tm)) (p:ByteArray) (pl nu le ri:Int) (hd:d.length≤65536) (hr:∀ q ∈ roots,Few q.set) :
  ACall Tryz.prog 117 [.ref 1000 0,.agg (encNf ⟨0,p,pl,nu,le,ri⟩)] (heapOf (ckH x ifs roots d) hfree) fun r h'=>Post66 x ifs roots d ⟨0,p,pl,nu,le,ri⟩ r h':=by
 have einf0:inferP x roots d ⟨0,p,pl,nu,le,ri⟩=if p=mt∧pl=0∧le=0∧ri=0 then (nthZ roots nu).map rootT else none:=rfl
 by_cases hc:p=mt∧pl=0∧le=0∧ri=0
 ·have einf1:inferP x roots d ⟨0,p,pl,nu,le,ri⟩=(nthZ roots nu).map rootT:=by rw [einf0,if_pos hc]
  have hcal:=c161 x ifs roots d ⟨0,p,pl,nu,le,ri⟩ hr;cases ho:(nthZ roots nu).map rootT with
  | none =>
   have einf:inferP x roots d ⟨0,p,pl,nu,le,ri⟩=none:=by rw [einf1,ho]
   rw [ho] at hcal;refine acall_sub (cxe (plcut [3,4,6])) [(1000,1000),(1001,1001)] rfl tab_ok hm rfl Tryz.func117 (by kernel_rfl) rfl (Nz rfl) (by kernel_rfl) rfl ?_;refine Yi ?_ ?_
   ·intro h; exact absurd (show (0:Int)<0 from h) (by decide)
   intro _;refine Yi ?_ ?_
   ·intro h; exact absurd (show (3:Int)<0 from h) (by decide)
   intro _;refine Xi ⟨[(0,.ref 1000 0),(3,.ref 3 0)],[(3,.cells (encNf ⟨0,p,pl,nu,le,ri⟩)),(1000,ckO x ifs roots d),(1001,tkO d)],hfree⟩ (Yi ⟨Z2,Z3,Fh,ext_dec (by kernel_rfl)⟩ ?_)
   refine Xi _ (Yi (c111) ?_);refine Yi ⟨by show (0:Int)≤0; decide,by show (0:Int)<4; decide⟩ ?_;refine Yi (Nz rfl) (Yi (Nz rfl) ?_);refine Yi (by kernel_rfl) ?_;refine Xi ⟨[(0,.ref 1000 0),(3,.ref 3 0),(5,.ref 5 0)],[(3,.cells (encNf ⟨0,p,pl,nu,le,ri⟩)),(5,.cells [.v (fnV 249),.v (fnV 250)]),(1000,ckO x ifs roots d),(1001,tkO d)],hfree⟩ (Yi ⟨Z3,Z4,Fh,ext_dec (by kernel_rfl)⟩ ?_)
   refine Yi (Nz rfl) ?_;refine Xi _ (Yi (c160 ⟨0,p,pl,nu,le,ri⟩) ?_);refine Yi ?_ ?_
   rotate_left
   ·intro h6;have he:eqL [vi 0,vs p,vi pl,vi 0,vi le,vi ri] [vi 0,vs mt,vi 0,vi 0,vi 0,vi 0]:=⟨rfl,hc.1,hc.2.1,rfl,hc.2.2.1,hc.2.2.2,trivial⟩;exact absurd he h6
   intro _;refine Yi (by kernel_rfl) ?_;refine Xi ⟨[(0,.ref 1000 0),(3,.ref 3 0),(5,.ref 5 0)],[(3,.cells (encNf ⟨0,p,pl,nu,le,ri⟩)),(5,.cells [.v (fnV 249),.v (fnV 250)]),(1000,ckO x ifs roots d),(1001,tkO d)],hfree⟩ (Yi ⟨Z3,Z4,Fh,ext_dec (by kernel_rfl)⟩ ?_)
   refine Yi (Nz rfl) ?_;refine Xi (.gen [(1000,1000),(1001,1001)] 0) (Yi rfl (hcal.imp ?_));intro v1 g1 q1;have q11:=q1.1;have q12:=q1.2;subst q11;subst q12;have bulk:AllLen 1 [encInc []]∧(d.map encInc).length=(d.map encInc).length∧((d.map encInc).length+[encInc []].length)*24≤140737488355328∧(d.map encInc).length+[encInc []].length≤9223372036854775807 :=
    ⟨⟨rfl,trivial⟩,rfl,by rw [Lm,List.length_singleton]; omega,by rw [Lm,List.length_singleton]; omega⟩
   refine Yi bulk ?_;refine Yi (Nz rfl) ?_;have eh:heapOf [(1000,HO.cells [sl encRl x,.slice .none ifs,sl encRq roots,.slice (.id 1001 1) (d.map encInc++[encInc []])]),(1001,.tok 1 ((d.map encInc).length+[encInc []].length))] hfree=heapOf (ckH x ifs roots (d++[[]])) hfree:=by
    simp [ckH,ckO,ckC,tkO]
   have er:vb false=vb (inferP x roots d ⟨0,p,pl,nu,le,ri⟩).isSome:=by rw [einf]; rfl
   exact Xi _ (Yi (.refl _) (Yi er (Xi (d++[[]]) (Yi eh (fun t ht=>by rw [einf] at ht; cases ht)))))
  | some tt =>
   have einf:inferP x roots d ⟨0,p,pl,nu,le,ri⟩=some tt:=by rw [einf1,ho]
   rw [ho] at hcal;refine acall_sub (cxe (plcut [3,4,6])) [(1000,1000),(1001,1001)] rfl tab_ok hm rfl Tryz.func117 (by kernel_rfl) rfl (Nz rfl) (by kernel_rfl) rfl ?_;refine Yi ?_ ?_
   ·intro h; exact absurd (show (0:Int)<0 from h) (by decide)
   intro _;refine Yi ?_ ?_
   ·intro h; exact absurd (show (3:Int)<0 from h) (by decide)
   intro _;refine Xi ⟨[(0,.ref 1000 0),(3,.ref 3 0)],[(3,.cells (encNf ⟨0,p,pl,nu,le,ri⟩)),(1000,ckO x ifs roots d),(1001,tkO d)],hfree⟩ (Yi ⟨Z2,Z3,Fh,ext_dec (by kernel_rfl)⟩ ?_)
   refine Xi _ (Yi (c111) ?_);refine Yi ⟨by show (0:Int)≤0; decide,by show (0:Int)<4; decide⟩ ?_;refine Yi (Nz rfl) (Yi (Nz rfl) ?_);refine Yi (by kernel_rfl) ?_;refine Xi ⟨[(0,.ref 1000 0),(3,.ref 3 0),(5,.ref 5 0)],[(3,.cells (encNf ⟨0,p,pl,nu,le,ri⟩)),(5,.cells [.v (fnV 249),.v (fnV 250)]),(1000,ckO x ifs roots d),(1001,tkO d)],hfree⟩ (Yi ⟨Z3,Z4,Fh,ext_dec (by kernel_rfl)⟩ ?_)
   refine Yi (Nz rfl) ?_;refine Xi _ (Yi (c160 ⟨0,p,pl,nu,le,ri⟩) ?_);refine Yi ?_ ?_
   rotate_left
   ·intro h6;have he:eqL [vi 0,vs p,vi pl,vi 0,vi le,vi ri] [vi 0,vs mt,vi 0,vi 0,vi 0,vi 0]:=⟨rfl,hc.1,hc.2.1,rfl,hc.2.2.1,hc.2.2.2,trivial⟩;exact absurd he h6
   intro _;refine Yi (by kernel_rfl) ?_;refine Xi ⟨[(0,.ref 1000 0),(3,.ref 3 0),(5,.ref 5 0)],[(3,.cells (encNf ⟨0,p,pl,nu,le,ri⟩)),(5,.cells [.v (fnV 249),.v (fnV 250)]),(1000,ckO x ifs roots d),(1001,tkO d)],hfree⟩ (Yi ⟨Z3,Z4,Fh,ext_dec (by kernel_rfl)⟩ ?_)
   refine Yi (Nz rfl) ?_;refine Xi (.gen [(1000,1000),(1001,1001)] 0) (Yi rfl (hcal.imp ?_));intro v1 g1 q1;have q11:=q1.1;have q12:=q1.2;subst q11;subst q12;have bulk:AllLen 1 [encInc tt]∧(d.map encInc).length=(d.map encInc).length∧((d.map encInc).length+[encInc tt].length)*24≤140737488355328∧(d.map encInc).length+[encInc tt].length≤9223372036854775807 :=
    ⟨⟨rfl,trivial⟩,rfl,by rw [Lm,List.length_singleton]; omega,by rw [Lm,List.length_singleton]; omega⟩
   refine Yi bulk ?_;refine Yi (Nz rfl) ?_;have eh:heapOf [(1000,HO.cells [sl encRl x,.slice .none ifs,sl encRq roots,.slice (.id 1001 1) (d.map encInc++[encInc tt])]),(1001,.tok 1 ((d.map encInc).length+[encInc tt].length))] hfree=heapOf (ckH x ifs roots (d++[tt])) hfree:=by
    simp [ckH,ckO,ckC,tkO]
   have er:vb true=vb (inferP x roots d ⟨0,p,pl,nu,le,ri⟩).isSome:=by rw [einf]; rfl
   exact Xi _ (Yi (.refl _) (Yi er (Xi (d++[tt]) (Yi eh (fun t ht=>by rw [einf] at ht; cases ht; rfl)))))
 ·have einf:inferP x roots d ⟨0,p,pl,nu,le,ri⟩=none:=by rw [einf0,if_neg hc]
  refine acall_sub (cxe (plcut [3,4,6])) [(1000,1000),(1001,1001)] rfl tab_ok hm rfl Tryz.func117 (by kernel_rfl) rfl (Nz rfl) (by kernel_rfl) rfl ?_;refine Yi ?_ ?_
  ·intro h; exact absurd (show (0:Int)<0 from h) (by decide)
  intro _;refine Yi ?_ ?_
  ·intro h; exact absurd (show (3:Int)<0 from h) (by decide)
  intro _;refine Xi ⟨[(0,.ref 1000 0),(3,.ref 3 0)],[(3,.cells (encNf ⟨0,p,pl,nu,le,ri⟩)),(1000,ckO x ifs roots d),(1001,tkO d)],hfree⟩ (Yi ⟨Z2,Z3,Fh,ext_dec (by kernel_rfl)⟩ ?_)
  refine Xi _ (Yi (c111) ?_);refine Yi ⟨by show (0:Int)≤0; decide,by show (0:Int)<4; decide⟩ ?_;refine Yi (Nz rfl) (Yi (Nz rfl) ?_);refine Yi (by kernel_rfl) ?_;refine Xi ⟨[(0,.ref 1000 0),(3,.ref 3 0),(5,.ref 5 0)],[(3,.cells (encNf ⟨0,p,pl,nu,le,ri⟩)),(5,.cells [.v (fnV 249),.v (fnV 250)]),(1000,ckO x ifs roots d),(1001,tkO d)],hfree⟩ (Yi ⟨Z3,Z4,Fh,ext_dec (by kernel_rfl)⟩ ?_)
  refine Yi (Nz rfl) ?_;refine Xi _ (Yi (c160 ⟨0,p,pl,nu,le,ri⟩) ?_);refine Yi ?_ ?_
  ·intro h6;exact absurd (show p=mt∧pl=0∧le=0∧ri=0 from ⟨h6.2.1,h6.2.2.1,h6.2.2.2.2.1,h6.2.2.2.2.2.1⟩) hc
  intro _;refine Yi (by kernel_rfl) ?_;have er:vb false=vb (inferP x roots d ⟨0,p,pl,nu,le,ri⟩).isSome:=by rw [einf]; rfl
  exact Xi _ (Yi (.refl _) (Yi er (Xi d (Yi rfl (fun t ht=>by rw [einf] at ht; cases ht)))))
theorem c66_1 (x:List Rl) (ifs:List (List AV)) (roots:List Rq) (d:List (List Tm)) (p:ByteArray) (pl nu le ri:Int) (hd:d.length≤65536) (hx:Few x) (hq:∀ r ∈ x,∀ q ∈ r.reqs,Few q.set) :
  ACall Tryz.prog 117 [.ref 1000 0,.agg (encNf ⟨1,p,pl,nu,le,ri⟩)] (heapOf (ckH x ifs roots d) hfree) fun r h'=>Post66 x ifs roots d ⟨1,p,pl,nu,le,ri⟩ r h':=by
 have einf0:inferP x roots d ⟨1,p,pl,nu,le,ri⟩=if le=0∧ri=0 then reqV x ⟨1,p,pl,nu,le,ri⟩ else none:=rfl
 by_cases hc:le=0∧ri=0
 ·have einf1:inferP x roots d ⟨1,p,pl,nu,le,ri⟩=reqV x ⟨1,p,pl,nu,le,ri⟩:=by rw [einf0,if_pos hc]
  have hcal:=c163 x ifs roots d ⟨1,p,pl,nu,le,ri⟩ hx hq;cases ho:reqV x ⟨1,p,pl,nu,le,ri⟩ with
  | none =>
   have einf:inferP x roots d ⟨1,p,pl,nu,le,ri⟩=none:=by rw [einf1,ho]
   rw [ho] at hcal;refine acall_sub (cxe (plcut [3,4,6])) [(1000,1000),(1001,1001)] rfl tab_ok hm rfl Tryz.func117 (by kernel_rfl) rfl (Nz rfl) (by kernel_rfl) rfl ?_;refine Yi ?_ ?_
   ·intro h; exact absurd (show (1:Int)<0 from h) (by decide)
   intro _;refine Yi ?_ ?_
   ·intro h; exact absurd (show (3:Int)<1 from h) (by decide)
   intro _;refine Xi ⟨[(0,.ref 1000 0),(3,.ref 3 0)],[(3,.cells (encNf ⟨1,p,pl,nu,le,ri⟩)),(1000,ckO x ifs roots d),(1001,tkO d)],hfree⟩ (Yi ⟨Z2,Z3,Fh,ext_dec (by kernel_rfl)⟩ ?_)
   refine Xi _ (Yi (c111) ?_);refine Yi ⟨by show (0:Int)≤1; decide,by show (1:Int)<4; decide⟩ ?_;refine Yi (Nz rfl) (Yi (Nz rfl) ?_);refine Yi (by kernel_rfl) ?_;refine Xi ⟨[(0,.ref 1000 0),(3,.ref 3 0),(5,.ref 5 0)],[(3,.cells (encNf ⟨1,p,pl,nu,le,ri⟩)),(5,.cells [.v (fnV 251),.v (fnV 252)]),(1000,ckO x ifs roots d),(1001,tkO d)],hfree⟩ (Yi ⟨Z3,Z4,Fh,ext_dec (by kernel_rfl)⟩ ?_)
   refine Yi (Nz rfl) ?_;refine Xi _ (Yi (c162 ⟨1,p,pl,nu,le,ri⟩) ?_);refine Yi ?_ ?_
   rotate_left
   ·intro h6;have he:eqL [vi 1,vs mt,vi 0,vi 0,vi le,vi ri] [vi 1,vs mt,vi 0,vi 0,vi 0,vi 0]:=⟨rfl,rfl,rfl,rfl,hc.1,hc.2,trivial⟩;exact absurd he h6
   intro _;refine Yi (by kernel_rfl) ?_;refine Xi ⟨[(0,.ref 1000 0),(3,.ref 3 0),(5,.ref 5 0)],[(3,.cells (encNf ⟨1,p,pl,nu,le,ri⟩)),(5,.cells [.v (fnV 251),.v (fnV 252)]),(1000,ckO x ifs roots d),(1001,tkO d)],hfree⟩ (Yi ⟨Z3,Z4,Fh,ext_dec (by kernel_rfl)⟩ ?_)
   refine Yi (Nz rfl) ?_;refine Xi (.gen [(1000,1000),(1001,1001)] 0) (Yi rfl (hcal.imp ?_));intro v1 g1 q1;have q11:=q1.1;have q12:=q1.2;subst q11;subst q12;have bulk:AllLen 1 [encInc []]∧(d.map encInc).length=(d.map encInc).length∧((d.map encInc).length+[encInc []].length)*24≤140737488355328∧(d.map encInc).length+[encInc []].length≤9223372036854775807 :=
    ⟨⟨rfl,trivial⟩,rfl,by rw [Lm,List.length_singleton]; omega,by rw [Lm,List.length_singleton]; omega⟩
   refine Yi bulk ?_;refine Yi (Nz rfl) ?_;have eh:heapOf [(1000,HO.cells [sl encRl x,.slice .none ifs,sl encRq roots,.slice (.id 1001 1) (d.map encInc++[encInc []])]),(1001,.tok 1 ((d.map encInc).length+[encInc []].length))] hfree=heapOf (ckH x ifs roots (d++[[]])) hfree:=by
    simp [ckH,ckO,ckC,tkO]
   have er:vb false=vb (inferP x roots d ⟨1,p,pl,nu,le,ri⟩).isSome:=by rw [einf]; rfl
   exact Xi _ (Yi (.refl _) (Yi er (Xi (d++[[]]) (Yi eh (fun t ht=>by rw [einf] at ht; cases ht)))))
  | some tt =>
   have einf:inferP x roots d ⟨1,p,pl,nu,le,ri⟩=some tt:=by rw [einf1,ho]
   rw [ho] at hcal;refine acall_sub (cxe (plcut [3,4,6])) [(1000,1000),(1001,1001)] rfl tab_ok hm rfl Tryz.func117 (by kernel_rfl) rfl (Nz rfl) (by kernel_rfl) rfl ?_;refine Yi ?_ ?_
   ·intro h; exact absurd (show (1:Int)<0 from h) (by decide)
   intro _;refine Yi ?_ ?_
   ·intro h; exact absurd (show (3:Int)<1 from h) (by decide)
   intro _;refine Xi ⟨[(0,.ref 1000 0),(3,.ref 3 0)],[(3,.cells (encNf ⟨1,p,pl,nu,le,ri⟩)),(1000,ckO x ifs roots d),(1001,tkO d)],hfree⟩ (Yi ⟨Z2,Z3,Fh,ext_dec (by kernel_rfl)⟩ ?_)
   refine Xi _ (Yi (c111) ?_);refine Yi ⟨by show (0:Int)≤1; decide,by show (1:Int)<4; decide⟩ ?_;refine Yi (Nz rfl) (Yi (Nz rfl) ?_);refine Yi (by kernel_rfl) ?_;refine Xi ⟨[(0,.ref 1000 0),(3,.ref 3 0),(5,.ref 5 0)],[(3,.cells (encNf ⟨1,p,pl,nu,le,ri⟩)),(5,.cells [.v (fnV 251),.v (fnV 252)]),(1000,ckO x ifs roots d),(1001,tkO d)],hfree⟩ (Yi ⟨Z3,Z4,Fh,ext_dec (by kernel_rfl)⟩ ?_)
   refine Yi (Nz rfl) ?_;refine Xi _ (Yi (c162 ⟨1,p,pl,nu,le,ri⟩) ?_);refine Yi ?_ ?_
   rotate_left
   ·intro h6;have he:eqL [vi 1,vs mt,vi 0,vi 0,vi le,vi ri] [vi 1,vs mt,vi 0,vi 0,vi 0,vi 0]:=⟨rfl,rfl,rfl,rfl,hc.1,hc.2,trivial⟩;exact absurd he h6
   intro _;refine Yi (by kernel_rfl) ?_;refine Xi ⟨[(0,.ref 1000 0),(3,.ref 3 0),(5,.ref 5 0)],[(3,.cells (encNf ⟨1,p,pl,nu,le,ri⟩)),(5,.cells [.v (fnV 251),.v (fnV 252)]),(1000,ckO x ifs roots d),(1001,tkO d)],hfree⟩ (Yi ⟨Z3,Z4,Fh,ext_dec (by kernel_rfl)⟩ ?_)
   refine Yi (Nz rfl) ?_;refine Xi (.gen [(1000,1000),(1001,1001)] 0) (Yi rfl (hcal.imp ?_));intro v1 g1 q1;have q11:=q1.1;have q12:=q1.2;subst q11;subst q12;have bulk:AllLen 1 [encInc tt]∧(d.map encInc).length=(d.map encInc).length∧((d.map encInc).length+[encInc tt].length)*24≤140737488355328∧(d.map encInc).length+[encInc tt].length≤9223372036854775807 :=
    ⟨⟨rfl,trivial⟩,rfl,by rw [Lm,List.length_singleton]; omega,by rw [Lm,List.length_singleton]; omega⟩
   refine Yi bulk ?_;refine Yi (Nz rfl) ?_;have eh:heapOf [(1000,HO.cells [sl encRl x,.slice .none ifs,sl encRq roots,.slice (.id 1001 1) (d.map encInc++[encInc tt])]),(1001,.tok 1 ((d.map encInc).length+[encInc tt].length))] hfree=heapOf (ckH x ifs roots (d++[tt])) hfree:=by
    simp [ckH,ckO,ckC,tkO]
   have er:vb true=vb (inferP x roots d ⟨1,p,pl,nu,le,ri⟩).isSome:=by rw [einf]; rfl
   exact Xi _ (Yi (.refl _) (Yi er (Xi (d++[tt]) (Yi eh (fun t ht=>by rw [einf] at ht; cases ht; rfl)))))
 ·have einf:inferP x roots d ⟨1,p,pl,nu,le,ri⟩=none:=by rw [einf0,if_neg hc]
  refine acall_sub (cxe (plcut [3,4,6])) [(1000,1000),(1001,1001)] rfl tab_ok hm rfl Tryz.func117 (by kernel_rfl) rfl (Nz rfl) (by kernel_rfl) rfl ?_;refine Yi ?_ ?_
  ·intro h; exact absurd (show (1:Int)<0 from h) (by decide)
  intro _;refine Yi ?_ ?_
  ·intro h; exact absurd (show (3:Int)<1 from h) (by decide)
  intro _;refine Xi ⟨[(0,.ref 1000 0),(3,.ref 3 0)],[(3,.cells (encNf ⟨1,p,pl,nu,le,ri⟩)),(1000,ckO x ifs roots d),(1001,tkO d)],hfree⟩ (Yi ⟨Z2,Z3,Fh,ext_dec (by kernel_rfl)⟩ ?_)
  refine Xi _ (Yi (c111) ?_);refine Yi ⟨by show (0:Int)≤1; decide,by show (1:Int)<4; decide⟩ ?_;refine Yi (Nz rfl) (Yi (Nz rfl) ?_);refine Yi (by kernel_rfl) ?_;refine Xi ⟨[(0,.ref 1000 0),(3,.ref 3 0),(5,.ref 5 0)],[(3,.cells (encNf ⟨1,p,pl,nu,le,ri⟩)),(5,.cells [.v (fnV 251),.v (fnV 252)]),(1000,ckO x ifs roots d),(1001,tkO d)],hfree⟩ (Yi ⟨Z3,Z4,Fh,ext_dec (by kernel_rfl)⟩ ?_)
  refine Yi (Nz rfl) ?_;refine Xi _ (Yi (c162 ⟨1,p,pl,nu,le,ri⟩) ?_);refine Yi ?_ ?_
  ·intro h6;exact absurd (show le=0∧ri=0 from ⟨h6.2.2.2.2.1,h6.2.2.2.2.2.1⟩) hc
  intro _;refine Yi (by kernel_rfl) ?_;have er:vb false=vb (inferP x roots d ⟨1,p,pl,nu,le,ri⟩).isSome:=by rw [einf]; rfl
  exact Xi _ (Yi (.refl _) (Yi er (Xi d (Yi rfl (fun t ht=>by rw [einf] at ht; cases ht)))))
theorem c66_2 (x:List Rl) (ifs:List (List AV)) (roots:List Rq) (d:List (List Tm)) (p:ByteArray) (pl nu le ri:Int) (hd:d.length≤65536) (h165:C165 x ifs roots) :
  ACall Tryz.prog 117 [.ref 1000 0,.agg (encNf ⟨2,p,pl,nu,le,ri⟩)] (heapOf (ckH x ifs roots d) hfree) fun r h'=>Post66 x ifs roots d ⟨2,p,pl,nu,le,ri⟩ r h':=by
 have einf0:inferP x roots d ⟨2,p,pl,nu,le,ri⟩=if pl=0∧nu=0∧le=0∧ri=0 then ne0 (noneT p (availP x p)) else none:=rfl
 by_cases hc:pl=0∧nu=0∧le=0∧ri=0
 ·have einf1:inferP x roots d ⟨2,p,pl,nu,le,ri⟩=ne0 (noneT p (availP x p)):=by rw [einf0,if_pos hc]
  have hcal:=h165 d ⟨2,p,pl,nu,le,ri⟩;cases ho:ne0 (noneT p (availP x p)) with
  | none =>
   have einf:inferP x roots d ⟨2,p,pl,nu,le,ri⟩=none:=by rw [einf1,ho]
   rw [ho] at hcal;refine acall_sub (cxe (plcut [3,4,6])) [(1000,1000),(1001,1001)] rfl tab_ok hm rfl Tryz.func117 (by kernel_rfl) rfl (Nz rfl) (by kernel_rfl) rfl ?_;refine Yi ?_ ?_
   ·intro h; exact absurd (show (2:Int)<0 from h) (by decide)
   intro _;refine Yi ?_ ?_
   ·intro h; exact absurd (show (3:Int)<2 from h) (by decide)
   intro _;refine Xi ⟨[(0,.ref 1000 0),(3,.ref 3 0)],[(3,.cells (encNf ⟨2,p,pl,nu,le,ri⟩)),(1000,ckO x ifs roots d),(1001,tkO d)],hfree⟩ (Yi ⟨Z2,Z3,Fh,ext_dec (by kernel_rfl)⟩ ?_)
   refine Xi _ (Yi (c111) ?_);refine Yi ⟨by show (0:Int)≤2; decide,by show (2:Int)<4; decide⟩ ?_;refine Yi (Nz rfl) (Yi (Nz rfl) ?_);refine Yi (by kernel_rfl) ?_;refine Xi ⟨[(0,.ref 1000 0),(3,.ref 3 0),(5,.ref 5 0)],[(3,.cells (encNf ⟨2,p,pl,nu,le,ri⟩)),(5,.cells [.v (fnV 253),.v (fnV 254)]),(1000,ckO x ifs roots d),(1001,tkO d)],hfree⟩ (Yi ⟨Z3,Z4,Fh,ext_dec (by kernel_rfl)⟩ ?_)
   refine Yi (Nz rfl) ?_;refine Xi _ (Yi (c164 ⟨2,p,pl,nu,le,ri⟩) ?_);refine Yi ?_ ?_
   rotate_left
   ·intro h6;have he:eqL [vi 2,vs mt,vi pl,vi nu,vi le,vi ri] [vi 2,vs mt,vi 0,vi 0,vi 0,vi 0]:=⟨rfl,rfl,hc.1,hc.2.1,hc.2.2.1,hc.2.2.2,trivial⟩;exact absurd he h6
   intro _;refine Yi (by kernel_rfl) ?_;refine Xi ⟨[(0,.ref 1000 0),(3,.ref 3 0),(5,.ref 5 0)],[(3,.cells (encNf ⟨2,p,pl,nu,le,ri⟩)),(5,.cells [.v (fnV 253),.v (fnV 254)]),(1000,ckO x ifs roots d),(1001,tkO d)],hfree⟩ (Yi ⟨Z3,Z4,Fh,ext_dec (by kernel_rfl)⟩ ?_)
   refine Yi (Nz rfl) ?_;refine Xi (.gen [(1000,1000),(1001,1001)] 0) (Yi rfl (hcal.imp ?_));intro v1 g1 q1;have q11:=q1.1;have q12:=q1.2;subst q11;subst q12;have bulk:AllLen 1 [encInc []]∧(d.map encInc).length=(d.map encInc).length∧((d.map encInc).length+[encInc []].length)*24≤140737488355328∧(d.map encInc).length+[encInc []].length≤9223372036854775807 :=
    ⟨⟨rfl,trivial⟩,rfl,by rw [Lm,List.length_singleton]; omega,by rw [Lm,List.length_singleton]; omega⟩
   refine Yi bulk ?_;refine Yi (Nz rfl) ?_;have eh:heapOf [(1000,HO.cells [sl encRl x,.slice .none ifs,sl encRq roots,.slice (.id 1001 1) (d.map encInc++[encInc []])]),(1001,.tok 1 ((d.map encInc).length+[encInc []].length))] hfree=heapOf (ckH x ifs roots (d++[[]])) hfree:=by
    simp [ckH,ckO,ckC,tkO]
   have er:vb false=vb (inferP x roots d ⟨2,p,pl,nu,le,ri⟩).isSome:=by rw [einf]; rfl
   exact Xi _ (Yi (.refl _) (Yi er (Xi (d++[[]]) (Yi eh (fun t ht=>by rw [einf] at ht; cases ht)))))
  | some tt =>
   have einf:inferP x roots d ⟨2,p,pl,nu,le,ri⟩=some tt:=by rw [einf1,ho]
   rw [ho] at hcal;refine acall_sub (cxe (plcut [3,4,6])) [(1000,1000),(1001,1001)] rfl tab_ok hm rfl Tryz.func117 (by kernel_rfl) rfl (Nz rfl) (by kernel_rfl) rfl ?_;refine Yi ?_ ?_
   ·intro h; exact absurd (show (2:Int)<0 from h) (by decide)
   intro _;refine Yi ?_ ?_
   ·intro h; exact absurd (show (3:Int)<2 from h) (by decide)
   intro _;refine Xi ⟨[(0,.ref 1000 0),(3,.ref 3 0)],[(3,.cells (encNf ⟨2,p,pl,nu,le,ri⟩)),(1000,ckO x ifs roots d),(1001,tkO d)],hfree⟩ (Yi ⟨Z2,Z3,Fh,ext_dec (by kernel_rfl)⟩ ?_)
   refine Xi _ (Yi (c111) ?_);refine Yi ⟨by show (0:Int)≤2; decide,by show (2:Int)<4; decide⟩ ?_;refine Yi (Nz rfl) (Yi (Nz rfl) ?_);refine Yi (by kernel_rfl) ?_;refine Xi ⟨[(0,.ref 1000 0),(3,.ref 3 0),(5,.ref 5 0)],[(3,.cells (encNf ⟨2,p,pl,nu,le,ri⟩)),(5,.cells [.v (fnV 253),.v (fnV 254)]),(1000,ckO x ifs roots d),(1001,tkO d)],hfree⟩ (Yi ⟨Z3,Z4,Fh,ext_dec (by kernel_rfl)⟩ ?_)
   refine Yi (Nz rfl) ?_;refine Xi _ (Yi (c164 ⟨2,p,pl,nu,le,ri⟩) ?_);refine Yi ?_ ?_
   rotate_left
   ·intro h6;have he:eqL [vi 2,vs mt,vi pl,vi nu,vi le,vi ri] [vi 2,vs mt,vi 0,vi 0,vi 0,vi 0]:=⟨rfl,rfl,hc.1,hc.2.1,hc.2.2.1,hc.2.2.2,trivial⟩;exact absurd he h6
   intro _;refine Yi (by kernel_rfl) ?_;refine Xi ⟨[(0,.ref 1000 0),(3,.ref 3 0),(5,.ref 5 0)],[(3,.cells (encNf ⟨2,p,pl,nu,le,ri⟩)),(5,.cells [.v (fnV 253),.v (fnV 254)]),(1000,ckO x ifs roots d),(1001,tkO d)],hfree⟩ (Yi ⟨Z3,Z4,Fh,ext_dec (by kernel_rfl)⟩ ?_)
   refine Yi (Nz rfl) ?_;refine Xi (.gen [(1000,1000),(1001,1001)] 0) (Yi rfl (hcal.imp ?_));intro v1 g1 q1;have q11:=q1.1;have q12:=q1.2;subst q11;subst q12;have bulk:AllLen 1 [encInc tt]∧(d.map encInc).length=(d.map encInc).length∧((d.map encInc).length+[encInc tt].length)*24≤140737488355328∧(d.map encInc).length+[encInc tt].length≤9223372036854775807 :=
    ⟨⟨rfl,trivial⟩,rfl,by rw [Lm,List.length_singleton]; omega,by rw [Lm,List.length_singleton]; omega⟩
   refine Yi bulk ?_;refine Yi (Nz rfl) ?_;have eh:heapOf [(1000,HO.cells [sl encRl x,.slice .none ifs,sl encRq roots,.slice (.id 1001 1) (d.map encInc++[encInc tt])]),(1001,.tok 1 ((d.map encInc).length+[encInc tt].length))] hfree=heapOf (ckH x ifs roots (d++[tt])) hfree:=by
    simp [ckH,ckO,ckC,tkO]
   have er:vb true=vb (inferP x roots d ⟨2,p,pl,nu,le,ri⟩).isSome:=by rw [einf]; rfl
   exact Xi _ (Yi (.refl _) (Yi er (Xi (d++[tt]) (Yi eh (fun t ht=>by rw [einf] at ht; cases ht; rfl)))))
 ·have einf:inferP x roots d ⟨2,p,pl,nu,le,ri⟩=none:=by rw [einf0,if_neg hc]
  refine acall_sub (cxe (plcut [3,4,6])) [(1000,1000),(1001,1001)] rfl tab_ok hm rfl Tryz.func117 (by kernel_rfl) rfl (Nz rfl) (by kernel_rfl) rfl ?_;refine Yi ?_ ?_
  ·intro h; exact absurd (show (2:Int)<0 from h) (by decide)
  intro _;refine Yi ?_ ?_
  ·intro h; exact absurd (show (3:Int)<2 from h) (by decide)
  intro _;refine Xi ⟨[(0,.ref 1000 0),(3,.ref 3 0)],[(3,.cells (encNf ⟨2,p,pl,nu,le,ri⟩)),(1000,ckO x ifs roots d),(1001,tkO d)],hfree⟩ (Yi ⟨Z2,Z3,Fh,ext_dec (by kernel_rfl)⟩ ?_)
  refine Xi _ (Yi (c111) ?_);refine Yi ⟨by show (0:Int)≤2; decide,by show (2:Int)<4; decide⟩ ?_;refine Yi (Nz rfl) (Yi (Nz rfl) ?_);refine Yi (by kernel_rfl) ?_;refine Xi ⟨[(0,.ref 1000 0),(3,.ref 3 0),(5,.ref 5 0)],[(3,.cells (encNf ⟨2,p,pl,nu,le,ri⟩)),(5,.cells [.v (fnV 253),.v (fnV 254)]),(1000,ckO x ifs roots d),(1001,tkO d)],hfree⟩ (Yi ⟨Z3,Z4,Fh,ext_dec (by kernel_rfl)⟩ ?_)
  refine Yi (Nz rfl) ?_;refine Xi _ (Yi (c164 ⟨2,p,pl,nu,le,ri⟩) ?_);refine Yi ?_ ?_
  ·intro h6;exact absurd (show pl=0∧nu=0∧le=0∧ri=0 from ⟨h6.2.2.1,h6.2.2.2.1,h6.2.2.2.2.1,h6.2.2.2.2.2.1⟩) hc
  intro _;refine Yi (by kernel_rfl) ?_;have er:vb false=vb (inferP x roots d ⟨2,p,pl,nu,le,ri⟩).isSome:=by rw [einf]; rfl
  exact Xi _ (Yi (.refl _) (Yi er (Xi d (Yi rfl (fun t ht=>by rw [einf] at ht; cases ht)))))
theorem c66_3 (x:List Rl) (ifs:List (List AV)) (roots:List Rq) (d:List (List Tm)) (p:ByteArray) (pl nu le ri:Int) (hd:d.length≤65536) (hi:∀ t ∈ d,FewI t) :
  ACall Tryz.prog 117 [.ref 1000 0,.agg (encNf ⟨3,p,pl,nu,le,ri⟩)] (heapOf (ckH x ifs roots d) hfree) fun r h'=>Post66 x ifs roots d ⟨3,p,pl,nu,le,ri⟩ r h':=by
 have einf0:inferP x roots d ⟨3,p,pl,nu,le,ri⟩=if pl=0∧nu=0 then resI d ⟨3,p,pl,nu,le,ri⟩ else none:=rfl
 by_cases hc:pl=0∧nu=0
 ·have einf1:inferP x roots d ⟨3,p,pl,nu,le,ri⟩=resI d ⟨3,p,pl,nu,le,ri⟩:=by rw [einf0,if_pos hc]
  have hcal:=c167 x ifs roots d ⟨3,p,pl,nu,le,ri⟩ hi;cases ho:resI d ⟨3,p,pl,nu,le,ri⟩ with
  | none =>
   have einf:inferP x roots d ⟨3,p,pl,nu,le,ri⟩=none:=by rw [einf1,ho]
   rw [ho] at hcal;refine acall_sub (cxe (plcut [3,4,6])) [(1000,1000),(1001,1001)] rfl tab_ok hm rfl Tryz.func117 (by kernel_rfl) rfl (Nz rfl) (by kernel_rfl) rfl ?_;refine Yi ?_ ?_
   ·intro h; exact absurd (show (3:Int)<0 from h) (by decide)
   intro _;refine Yi ?_ ?_
   ·intro h; exact absurd (show (3:Int)<3 from h) (by decide)
   intro _;refine Xi ⟨[(0,.ref 1000 0),(3,.ref 3 0)],[(3,.cells (encNf ⟨3,p,pl,nu,le,ri⟩)),(1000,ckO x ifs roots d),(1001,tkO d)],hfree⟩ (Yi ⟨Z2,Z3,Fh,ext_dec (by kernel_rfl)⟩ ?_)
   refine Xi _ (Yi (c111) ?_);refine Yi ⟨by show (0:Int)≤3; decide,by show (3:Int)<4; decide⟩ ?_;refine Yi (Nz rfl) (Yi (Nz rfl) ?_);refine Yi (by kernel_rfl) ?_;refine Xi ⟨[(0,.ref 1000 0),(3,.ref 3 0),(5,.ref 5 0)],[(3,.cells (encNf ⟨3,p,pl,nu,le,ri⟩)),(5,.cells [.v (fnV 255),.v (fnV 256)]),(1000,ckO x ifs roots d),(1001,tkO d)],hfree⟩ (Yi ⟨Z3,Z4,Fh,ext_dec (by kernel_rfl)⟩ ?_)
   refine Yi (Nz rfl) ?_;refine Xi _ (Yi (c166 ⟨3,p,pl,nu,le,ri⟩) ?_);refine Yi ?_ ?_
   rotate_left
   ·intro h6;have he:eqL [vi 3,vs mt,vi pl,vi nu,vi 0,vi 0] [vi 3,vs mt,vi 0,vi 0,vi 0,vi 0]:=⟨rfl,rfl,hc.1,hc.2,rfl,rfl,trivial⟩;exact absurd he h6
   intro _;refine Yi (by kernel_rfl) ?_;refine Xi ⟨[(0,.ref 1000 0),(3,.ref 3 0),(5,.ref 5 0)],[(3,.cells (encNf ⟨3,p,pl,nu,le,ri⟩)),(5,.cells [.v (fnV 255),.v (fnV 256)]),(1000,ckO x ifs roots d),(1001,tkO d)],hfree⟩ (Yi ⟨Z3,Z4,Fh,ext_dec (by kernel_rfl)⟩ ?_)
   refine Yi (Nz rfl) ?_;refine Xi (.gen [(1000,1000),(1001,1001)] 0) (Yi rfl (hcal.imp ?_));intro v1 g1 q1;have q11:=q1.1;have q12:=q1.2;subst q11;subst q12;have bulk:AllLen 1 [encInc []]∧(d.map encInc).length=(d.map encInc).length∧((d.map encInc).length+[encInc []].length)*24≤140737488355328∧(d.map encInc).length+[encInc []].length≤9223372036854775807 :=
    ⟨⟨rfl,trivial⟩,rfl,by rw [Lm,List.length_singleton]; omega,by rw [Lm,List.length_singleton]; omega⟩
   refine Yi bulk ?_;refine Yi (Nz rfl) ?_;have eh:heapOf [(1000,HO.cells [sl encRl x,.slice .none ifs,sl encRq roots,.slice (.id 1001 1) (d.map encInc++[encInc []])]),(1001,.tok 1 ((d.map encInc).length+[encInc []].length))] hfree=heapOf (ckH x ifs roots (d++[[]])) hfree:=by
    simp [ckH,ckO,ckC,tkO]
   have er:vb false=vb (inferP x roots d ⟨3,p,pl,nu,le,ri⟩).isSome:=by rw [einf]; rfl
   exact Xi _ (Yi (.refl _) (Yi er (Xi (d++[[]]) (Yi eh (fun t ht=>by rw [einf] at ht; cases ht)))))
  | some tt =>
   have einf:inferP x roots d ⟨3,p,pl,nu,le,ri⟩=some tt:=by rw [einf1,ho]
   rw [ho] at hcal;refine acall_sub (cxe (plcut [3,4,6])) [(1000,1000),(1001,1001)] rfl tab_ok hm rfl Tryz.func117 (by kernel_rfl) rfl (Nz rfl) (by kernel_rfl) rfl ?_;refine Yi ?_ ?_
   ·intro h; exact absurd (show (3:Int)<0 from h) (by decide)
   intro _;refine Yi ?_ ?_
   ·intro h; exact absurd (show (3:Int)<3 from h) (by decide)
   intro _;refine Xi ⟨[(0,.ref 1000 0),(3,.ref 3 0)],[(3,.cells (encNf ⟨3,p,pl,nu,le,ri⟩)),(1000,ckO x ifs roots d),(1001,tkO d)],hfree⟩ (Yi ⟨Z2,Z3,Fh,ext_dec (by kernel_rfl)⟩ ?_)
   refine Xi _ (Yi (c111) ?_);refine Yi ⟨by show (0:Int)≤3; decide,by show (3:Int)<4; decide⟩ ?_;refine Yi (Nz rfl) (Yi (Nz rfl) ?_);refine Yi (by kernel_rfl) ?_;refine Xi ⟨[(0,.ref 1000 0),(3,.ref 3 0),(5,.ref 5 0)],[(3,.cells (encNf ⟨3,p,pl,nu,le,ri⟩)),(5,.cells [.v (fnV 255),.v (fnV 256)]),(1000,ckO x ifs roots d),(1001,tkO d)],hfree⟩ (Yi ⟨Z3,Z4,Fh,ext_dec (by kernel_rfl)⟩ ?_)
   refine Yi (Nz rfl) ?_;refine Xi _ (Yi (c166 ⟨3,p,pl,nu,le,ri⟩) ?_);refine Yi ?_ ?_
   rotate_left
   ·intro h6;have he:eqL [vi 3,vs mt,vi pl,vi nu,vi 0,vi 0] [vi 3,vs mt,vi 0,vi 0,vi 0,vi 0]:=⟨rfl,rfl,hc.1,hc.2,rfl,rfl,trivial⟩;exact absurd he h6
   intro _;refine Yi (by kernel_rfl) ?_;refine Xi ⟨[(0,.ref 1000 0),(3,.ref 3 0),(5,.ref 5 0)],[(3,.cells (encNf ⟨3,p,pl,nu,le,ri⟩)),(5,.cells [.v (fnV 255),.v (fnV 256)]),(1000,ckO x ifs roots d),(1001,tkO d)],hfree⟩ (Yi ⟨Z3,Z4,Fh,ext_dec (by kernel_rfl)⟩ ?_)
   refine Yi (Nz rfl) ?_;refine Xi (.gen [(1000,1000),(1001,1001)] 0) (Yi rfl (hcal.imp ?_));intro v1 g1 q1;have q11:=q1.1;have q12:=q1.2;subst q11;subst q12;have bulk:AllLen 1 [encInc tt]∧(d.map encInc).length=(d.map encInc).length∧((d.map encInc).length+[encInc tt].length)*24≤140737488355328∧(d.map encInc).length+[encInc tt].length≤9223372036854775807 :=
    ⟨⟨rfl,trivial⟩,rfl,by rw [Lm,List.length_singleton]; omega,by rw [Lm,List.length_singleton]; omega⟩
   refine Yi bulk ?_;refine Yi (Nz rfl) ?_;have eh:heapOf [(1000,HO.cells [sl encRl x,.slice .none ifs,sl encRq roots,.slice (.id 1001 1) (d.map encInc++[encInc tt])]),(1001,.tok 1 ((d.map encInc).length+[encInc tt].length))] hfree=heapOf (ckH x ifs roots (d++[tt])) hfree:=by
    simp [ckH,ckO,ckC,tkO]
   have er:vb true=vb (inferP x roots d ⟨3,p,pl,nu,le,ri⟩).isSome:=by rw [einf]; rfl
   exact Xi _ (Yi (.refl _) (Yi er (Xi (d++[tt]) (Yi eh (fun t ht=>by rw [einf] at ht; cases ht; rfl)))))
 ·have einf:inferP x roots d ⟨3,p,pl,nu,le,ri⟩=none:=by rw [einf0,if_neg hc]
  refine acall_sub (cxe (plcut [3,4,6])) [(1000,1000),(1001,1001)] rfl tab_ok hm rfl Tryz.func117 (by kernel_rfl) rfl (Nz rfl) (by kernel_rfl) rfl ?_;refine Yi ?_ ?_
  ·intro h; exact absurd (show (3:Int)<0 from h) (by decide)
  intro _;refine Yi ?_ ?_
  ·intro h; exact absurd (show (3:Int)<3 from h) (by decide)
  intro _;refine Xi ⟨[(0,.ref 1000 0),(3,.ref 3 0)],[(3,.cells (encNf ⟨3,p,pl,nu,le,ri⟩)),(1000,ckO x ifs roots d),(1001,tkO d)],hfree⟩ (Yi ⟨Z2,Z3,Fh,ext_dec (by kernel_rfl)⟩ ?_)
  refine Xi _ (Yi (c111) ?_);refine Yi ⟨by show (0:Int)≤3; decide,by show (3:Int)<4; decide⟩ ?_;refine Yi (Nz rfl) (Yi (Nz rfl) ?_);refine Yi (by kernel_rfl) ?_;refine Xi ⟨[(0,.ref 1000 0),(3,.ref 3 0),(5,.ref 5 0)],[(3,.cells (encNf ⟨3,p,pl,nu,le,ri⟩)),(5,.cells [.v (fnV 255),.v (fnV 256)]),(1000,ckO x ifs roots d),(1001,tkO d)],hfree⟩ (Yi ⟨Z3,Z4,Fh,ext_dec (by kernel_rfl)⟩ ?_)
  refine Yi (Nz rfl) ?_;refine Xi _ (Yi (c166 ⟨3,p,pl,nu,le,ri⟩) ?_);refine Yi ?_ ?_
  ·intro h6;exact absurd (show pl=0∧nu=0 from ⟨h6.2.2.1,h6.2.2.2.1⟩) hc
  intro _;refine Yi (by kernel_rfl) ?_;have er:vb false=vb (inferP x roots d ⟨3,p,pl,nu,le,ri⟩).isSome:=by rw [einf]; rfl
  exact Xi _ (Yi (.refl _) (Yi er (Xi d (Yi rfl (fun t ht=>by rw [einf] at ht; cases ht)))))
end Go.Eng

namespace Go.Eng
open Go.Proofs
theorem c66 (x:List Rl) (ifs:List (List AV)) (roots:List Rq) (d:List (List Tm)) (i:Nf) (hd:d.length≤65536) (hr:∀ q ∈ roots,Few q.set) (hx:Few x) (hq:∀ r ∈ x,∀ q ∈ r.reqs,Few q.set) (h165:C165 x ifs roots) (hi:∀ t ∈ d,FewI t) :
  ACall Tryz.prog 117 [.ref 1000 0,.agg (encNf i)] (heapOf (ckH x ifs roots d) hfree) fun r h'=>Post66 x ifs roots d i r h':=by
 obtain ⟨k,p,pl,nu,le,ri⟩:=i
 by_cases h0:k=0
 ·subst h0; exact c66_0 x ifs roots d p pl nu le ri hd hr
 by_cases h1:k=1
 ·subst h1; exact c66_1 x ifs roots d p pl nu le ri hd hx hq
 by_cases h2:k=2
 ·subst h2; exact c66_2 x ifs roots d p pl nu le ri hd h165
 by_cases h3:k=3
 ·subst h3; exact c66_3 x ifs roots d p pl nu le ri hd hi
 have einf:inferP x roots d ⟨k,p,pl,nu,le,ri⟩=none:=by
  show (if k=0 then _ else if k=1 then _ else if k=2 then _ else if k=3 then _ else none)=none;rw [if_neg h0,if_neg h1,if_neg h2,if_neg h3]
 have er:vb false=vb (inferP x roots d ⟨k,p,pl,nu,le,ri⟩).isSome:=by rw [einf]; rfl
 refine acall_sub (cxe pl0) [(1000,1000),(1001,1001)] rfl tab_ok hm rfl Tryz.func117 (by kernel_rfl) rfl (Nz rfl) (by kernel_rfl) rfl ?_;refine Yi ?_ ?_
 ·intro _;exact Xi _ (Yi (.refl _) (Yi er (Xi d (Yi rfl (fun t ht=>by rw [einf] at ht; cases ht)))))
 intro h4;have h4:¬ k<0:=h4;refine Yi ?_ ?_
 ·intro _;exact Xi _ (Yi (.refl _) (Yi er (Xi d (Yi rfl (fun t ht=>by rw [einf] at ht; cases ht)))))
 intro h5;have h5:¬ 3<k:=h5;omega
end Go.Eng

namespace Go.Eng
open Go.Proofs
theorem reqs_few {l:List Rq} (h:checkRqs l=0):l.length≤16:=by
 unfold checkRqs at h;split at h
 ·cases h
 ·omega
theorem ix_few {x:List Rl} (h:checkIx x=0):x.length≤256∧∀ r ∈ x,r.reqs.length≤16:=by
 have h1:x.length≤256:=by
  unfold checkIx at h;split at h
  ·cases h
  ·omega
 exact ⟨h1,fun r hr=>reqs_few ((checkIx_ok h).1 r hr).reqs⟩
theorem flat_few {x:List Rl} (h:∀ r ∈ x,r.reqs.length≤16):((x.map (·.reqs)).flatten).length≤x.length*16:=by
 induction x with
 | nil=>simp
 | cons r x ih =>
  rw [List.map_cons,List.flatten_cons,List.length_append,List.length_cons]
  have:=h r (List.mem_cons_self ..)
  have:=ih fun s hs=>h s (List.mem_cons_of_mem _ hs)
  omega
theorem pathsU_few {x:List Rl} {roots:List Rq} {l:List Nf} (h1:checkIx x=0) (h2:checkRqs roots=0) (h3:l.length≤65536):(pathsU x roots l).length≤100000:=by
 obtain ⟨a,b⟩:=ix_few h1
 have:=flat_few b
 have:=reqs_few h2
 unfold pathsU;simp only [List.length_append,Lm];omega
theorem InU.fewI {U:List ByteArray} {t:List Tm} (h:InU U t) (hu:U.length≤100000):FewI t :=
 ⟨by have:=h.len; omega,fun u hu=>few_can (h.1.canon u hu)⟩
abbrev ckRes (x:List Rl) (ifs:List (List AV)) (roots:List Rq) (l:List Nf):AV :=
 if (deriveP x roots l).2=0 then .tup [.cptr (encCk x (.slice .none ifs) roots (deriveP x roots l).1),vi 0] else .tup [.v (.pointer none),vi (deriveP x roots l).2]
theorem ckRes_err {x:List Rl} {ifs:List (List AV)} {roots:List Rq} {l:List Nf} {e:Int} {d:List (List Tm)} (h:deriveP x roots l=(d,e)) (he:e≠0):AV.tup [.v (.pointer none),vi e]=ckRes x ifs roots l:=by
 unfold ckRes; rw [h,if_neg he]
theorem ckRes_ok {x:List Rl} {ifs:List (List AV)} {roots:List Rq} {l:List Nf} {d:List (List Tm)} (h:deriveP x roots l=(d,0)):AV.tup [.cptr (encCk x (.slice .none ifs) roots d),vi 0]=ckRes x ifs roots l:=by
 unfold ckRes; rw [h,if_pos rfl]
theorem go_take {x:List Rl} {roots:List Rq} {l:List Nf} {d:List (List Tm)} {i:Nat} (h:i<l.length) (hg:deriveGo x roots (l.take i) []=some d) :
  deriveGo x roots (l.take (i+1)) []=match inferP x roots d l[i] with | none=>none | some t=>some (d++[t]):=by
 rw [List.take_add_one,Ge h];show deriveGo x roots (l.take i++[l[i]]) []=_;rw [deriveGo_append,hg]
 rfl
theorem go_none {x:List Rl} {roots:List Rq} {l:List Nf} {i:Nat} (h:deriveGo x roots (l.take i) []=none):deriveGo x roots l []=none:=by
 rw [← List.take_append_drop i l,deriveGo_append,h]
abbrev pl36:Pol:=⟨[],[],[],[],[25],[],[],[(26,(25,3,901,1))],[],[],[3,5,9]⟩
theorem c36 (x:List Rl) (ifs:List (List AV)) (roots:List Rq) (l:List Nf) (hx:∀ r ∈ x,FewR r) (hr:∀ q ∈ roots,FewQ q) (h165:checkIx x=0→C165 x ifs roots):PC 62 [.agg (Ic x ifs),sl encRq roots,sl encNf l] (ckRes x ifs roots l):=by
 have ed:deriveP x roots l=if checkIx x≠0∨checkRqs roots≠0 then ([],(1:Int)) else if 65536<l.length then ([],(7:Int)) else match deriveGo x roots l [] with | none=>([],(18:Int)) | some d=>(d,(0:Int)):=rfl
 refine Ps pl36 Tryz.func62 rfl (Nz rfl) ?_;refine Yi (Nz rfl) ?_;refine Xi .pure (Xi _ (Yi (c64 c155 x ifs hx) ?_));refine Yi ?_ ?_
 ·intro h;have h:checkIx x≠0:=h;exact .of_eq (ckRes_err (by rw [ed,if_pos (.inl h)]) (by decide))
 intro h1;have h1:¬ checkIx x≠0:=h1;refine Xi .pure (Xi _ (Yi (c65 c155 roots hr) ?_));refine Yi ?_ ?_
 ·intro h;have h:checkRqs roots≠0:=h;exact .of_eq (ckRes_err (by rw [ed,if_pos (.inr h)]) (by decide))
 intro h2;have h2:¬ checkRqs roots≠0:=h2;have e1:=Decidable.of_not_not h1;have e2:=Decidable.of_not_not h2;refine Xi ⟨[(1,sl encRq roots),(2,sl encNf l),(3,.ref 3 0)],[(3,.cells (Ic x ifs))],hfree⟩ (Yi ⟨Z3,Z1,Fh,Tv⟩ ?_)
 refine Yi ?_ ?_
 ·intro h;have h:(65536:Int)<(l.map encNf).length:=h;exact .of_eq (ckRes_err (by rw [ed,if_neg (by omega),if_pos (by rw [Lm] at h; omega)]) (by decide))
 intro h;have h:¬ (65536:Int)<(l.map encNf).length:=h;have h3:l.length≤65536:=by rw [Lm] at h; omega
 have ed2:deriveP x roots l=match deriveGo x roots l [] with | none=>([],(18:Int)) | some d=>(d,(0:Int)):=by rw [ed,if_neg (by omega),if_neg (by omega)]
 have hU:=pathsU_few (x:=x) (roots:=roots) (l:=l) e1 e2 h3;have hfew:=ix_few e1;refine Xi ⟨[(1,sl encRq roots),(2,sl encNf l),(3,.ref 3 0)],[(3,.cells (Ic x ifs))],hfree⟩ (Yi ⟨Z3,Z1,Fh,Tv⟩ ?_)
 refine Yi (Nz rfl) ?_;refine Xi {p:Nat × List (List Tm) // p.1≤l.length∧deriveGo x roots (l.take p.1) []=some p.2∧p.2.length=p.1∧∀ t ∈ p.2,InU (pathsU x roots l) t} (Xi (fun p=>⟨[(8,.ref 25 0),(26,sl encNf l),(27,vi (l.map encNf).length),(28,vi p.1.1)],[(25,.cells [sl encRl x,.slice .none ifs,sl encRq roots,.slice (.id 901 1) (p.1.2.map encInc)]),(901,.tok 1 (p.1.2.map encInc).length)],hfree⟩) (Xi (fun p=>l.length - p.1.1) (Yi (Xi ⟨(0,[]),Nat.zero_le _,rfl,rfl,fun t ht=>by cases ht⟩ ?_) ?_)))
 ·exact ⟨Z4,Z2,Fh,Tv⟩
 intro ⟨⟨i,d⟩,i1,i2,i3,i4⟩;have i1:i≤l.length:=i1;have i2:deriveGo x roots (l.take i) []=some d:=i2;have i3:d.length=i:=i3;have i4:∀ t ∈ d,InU (pathsU x roots l) t:=i4;refine Yi ?_ ?_
 ·intro h;have h:(i:Int)<(l.map encNf).length:=h;have h:i<l.length:=by simpa using h
  have hg:l[i]?=some l[i]:=Ge h;refine Xi (encNf l[i]) (Yi (Yi (Nn i) (by simp [hg])) (Yi rfl ?_));refine Yi (Nz rfl) (Yi (Nz rfl) ?_);refine Xi ⟨[(8,.ref 25 0),(10,.ref 10 0),(26,sl encNf l),(27,vi (l.map encNf).length),(28,vi i)],[(10,.cells (encNf l[i])),(25,.cells [sl encRl x,.slice .none ifs,sl encRq roots,.slice (.id 901 1) (d.map encInc)]),(901,.tok 1 (d.map encInc).length)],hfree⟩ (Yi ⟨Z5,Z3,Fh,Tv⟩ ?_)
  refine Yi (Nz rfl) ?_;have hcall:=c66 x ifs roots d l[i] (by omega) (fun q hq=>(hr q hq).1) (by unfold Few; omega) (fun r hr' q hq=>((hx r hr').2 q hq).1) (h165 e1) (fun t ht=>(i4 t ht).fewI hU);have hgt:=go_take h i2;cases hinf:inferP x roots d l[i] with
  | none =>
   refine Xi (.gen [(25,1000),(901,1001)] 0) (Yi rfl (hcall.imp ?_));intro v g q;have q1:v=vb false:=by rw [q.1,hinf]; rfl
   refine Exists.elim q.2 (fun d' q2=>?_);have q21:=q2.1;subst q1;subst q21;rw [hinf] at hgt;have hn:deriveGo x roots l []=none:=go_none hgt;exact .of_eq (ckRes_err (by rw [ed2,hn]) (by decide))
  | some t =>
   refine Xi (.gen [(25,1000),(901,1001)] 0) (Yi rfl (hcall.imp ?_));intro v g q;have q1:v=vb true:=by rw [q.1,hinf]; rfl
   refine Exists.elim q.2 (fun d' q2=>?_);have q21:=q2.1;have q22:=q2.2 t hinf;subst q1;subst q21;rw [hinf] at hgt;refine Yi (Ii i (by omega)) ?_;have hin:=inferP_in (List.getElem_mem h) i4 hinf;refine Xi ⟨(i+1,d'),by show i+1≤_; omega,by rw [q22]; exact hgt,by show d'.length=i+1; rw [q22,List.length_append,List.length_singleton,i3],fun u hu=>?_⟩ ?_
   ·have hu:u ∈ d':=hu;rw [q22] at hu;rcases List.mem_append.1 hu with hu | hu
    ·exact i4 u hu
    ·rw [List.mem_singleton.1 hu]; exact hin
   ·exact ⟨Dl l.length i (by omega),Z4,Z2,Fh,Tv⟩
 ·intro h;have h:¬ (i:Int)<(l.map encNf).length:=h;have h:¬ i<l.length:=by simpa using h
  have hn:deriveGo x roots l []=some d:=by rw [List.take_of_length_le (by omega)] at i2; exact i2
  exact .of_eq (ckRes_ok (by rw [ed2,hn]))
end Go.Eng

namespace Go.Eng
open Go.Proofs
theorem derive_err {x:List Rl} {roots:List Rq} {l:List Nf} (h:(deriveP x roots l).2≠0):(deriveP x roots l).1=[]:=by
 unfold deriveP at h ⊢
 by_cases c:checkIx x≠0∨checkRqs roots≠0
 ·rw [if_pos c]
 ·rw [if_neg c] at h ⊢
  by_cases c2:65536<l.length
  ·rw [if_pos c2]
  ·rw [if_neg c2] at h ⊢;cases e:deriveGo x roots l [] with
   | none=>rfl
   | some d=>rw [e] at h; exact absurd rfl h
abbrev Ck (x:List Rl) (ifs:List (List AV)) (roots:List Rq):Prop:=(∀ r ∈ x,FewR r)∧(∀ q ∈ roots,FewQ q)∧(checkIx x=0→C165 x ifs roots)
abbrev ixV (x:List Rl) (ifs:List (List AV)):AV:=.agg (Ic x ifs)
theorem c12 (x:List Rl) (ifs:List (List AV)) (roots:List Rq) (l:List Nf) (hk:Ck x ifs roots):PC 27 [ixV x ifs,sl encRq roots,sl encNf l] (.tup [sl encInc (deriveP x roots l).1,vi (deriveP x roots l).2]):=by
 have hc:=c36 x ifs roots l hk.1 hk.2.1 hk.2.2;unfold ckRes at hc
 by_cases h:(deriveP x roots l).2=0
 ·rw [if_pos h] at hc;refine Ps pl0 Tryz.func27 rfl (Nz rfl) ?_;refine Yi (Nz rfl) ?_;refine Xi .pure (Xi _ (Yi (hc) ?_));refine Yi ?_ ?_
  ·intro h; exact absurd rfl h
  intro _;exact .of_eq (show AV.tup [sl encInc (deriveP x roots l).1,vi 0]=.tup [sl encInc (deriveP x roots l).1,vi (deriveP x roots l).2] by rw [h])
 ·rw [if_neg h] at hc;have e:AV.tup [.slice .none [],vi (deriveP x roots l).2]=.tup [sl encInc (deriveP x roots l).1,vi (deriveP x roots l).2]:=by rw [derive_err h]; rfl
  have e0:Sub (.tup [.v (.slice none 0 0),vi (deriveP x roots l).2]) (.tup [.slice .none [],vi (deriveP x roots l).2]):=Sub.tup ⟨.nil,.refl _,trivial⟩;refine Ps pl0 Tryz.func27 rfl (Nz rfl) ?_;refine Yi (Nz rfl) ?_;refine Xi .pure (Xi _ (Yi (hc) ?_));refine Yi ?_ ?_
  ·intro _;exact e0.trans (.of_eq e)
  ·intro h2; exact absurd h h2
end Go.Eng

namespace Go.Eng
open Go.Proofs
abbrev shK:Shape:=⟨true,[.str,.int .i64,.int .i64,.int .i64]⟩
abbrev keyVl (y:Sl):Value:=.agg #[.string y.path,.int .i64 y.ver.a,.int .i64 y.ver.b,.int .i64 y.ver.c]
abbrev kvR (r:Rl):Value × AV:=(keyVl (keyR r),.agg (encRl r))
def pathsIx:List Rl→List ByteArray→List ByteArray
 | [],acc=>acc
 | r :: x,acc=>pathsIx x (if acc.any (fun p=>decide (p=r.path)) then acc else acc++[r.path])
abbrev kvP (x:List Rl) (p:ByteArray):Value × AV:=(.string p,sl encRl (x.filter fun r=>decide (r.path=p)))
abbrev tblV (x:List Rl):AV:=if checkIx x=0 then .tup [.agg [.cmap shK (x.map kvR),.cmap shS ((pathsIx x []).map (kvP x))],vi 0] else .tup [.agg [.cmap shK [],.cmap shS []],vi (checkIx x)]
abbrev H84 (x:List Rl) (ifs:List (List AV)):Prop:=PC 138 [ixV x ifs] (tblV x)
theorem key_inj {y z:Sl} (h:keyVl y=keyVl z):y=z:=by
 obtain ⟨p,⟨a,b,c⟩⟩:=y;obtain ⟨q,⟨d,e,f⟩⟩:=z;simp only [keyVl,Value.agg.injEq,Array.mk.injEq,List.cons.injEq,Value.string.injEq,Value.int.injEq,true_and,and_true] at h;obtain ⟨rfl,rfl,rfl,rfl⟩:=h
 rfl
theorem kvR_mem {x:List Rl} {y:Sl} {a:AV} (h:(keyVl y,a) ∈ x.map kvR):∃ r ∈ x,keyR r=y∧a=.agg (encRl r):=by
 obtain ⟨r,h1,h2⟩:=List.mem_map.1 h;simp only [kvR,Prod.mk.injEq] at h2;exact ⟨r,h1,key_inj h2.1,h2.2.symm⟩
end Go.Eng

namespace Go.Eng
open Go.Proofs
abbrev spansA (l:List Rl):SpanL:=(l.filter fun r=>!r.yanked).map fun r=>(plc r.ver,plc r.ver+1)
theorem spansA_len (l:List Rl):(spansA l).length≤l.length:=by
 unfold spansA; rw [Lm]; exact List.length_filter_le _ _
theorem kvP_mem {x:List Rl} {ps:List ByteArray} {p:ByteArray} {a:AV} (h:(Value.string p,a) ∈ ps.map (kvP x)):a=sl encRl (x.filter fun r=>decide (r.path=p)):=by
 obtain ⟨q,_,h2⟩:=List.mem_map.1 h;simp only [kvP,Prod.mk.injEq,Value.string.injEq] at h2;rw [← h2.2,h2.1]
theorem any_path {acc:List ByteArray} {p:ByteArray} : (acc.any fun q=>decide (q=p))=true↔p ∈ acc:=by
 rw [List.any_eq_true];constructor
 ·rintro ⟨q,h1,h2⟩; rw [← of_decide_eq_true h2]; exact h1
 ·intro h; exact ⟨p,h,by simp⟩
theorem pathsIx_mem:∀ (x:List Rl) (acc:List ByteArray) (p:ByteArray),p ∈ pathsIx x acc↔p ∈ acc∨∃ r ∈ x,r.path=p
 | [],acc,p=>by simp [pathsIx]
 | r :: x,acc,p=>by
  rw [pathsIx,pathsIx_mem x];constructor
  ·rintro (h | ⟨s,h1,h2⟩)
   ·split at h
    ·exact .inl h
    ·rcases List.mem_append.1 h with h | h
     ·exact .inl h
     ·exact .inr ⟨r,List.mem_cons_self ..,(List.mem_singleton.1 h).symm⟩
   ·exact .inr ⟨s,List.mem_cons_of_mem _ h1,h2⟩
  ·rintro (h | ⟨s,h1,h2⟩)
   ·left
    split
    ·exact h
    ·exact List.mem_append_left _ h
   ·rcases List.mem_cons.1 h1 with rfl | h1
    ·left
     split
     ·rename_i hh; rw [← h2]; exact any_path.1 hh
     ·rw [← h2]; exact List.mem_append_right _ (List.mem_singleton.2 rfl)
    ·exact .inr ⟨s,h1,h2⟩
abbrev pl195:Pol:=⟨[],[(7,2)],[],[],[],[],[],[],[],[],[2,3,6,7,9]⟩
theorem c195_loop (L:List Rl) (i:Nat) (h:i<L.length):spansA (L.take (i+1))=spansA (L.take i)++(if L[i].yanked then [] else [(plc L[i].ver,plc L[i].ver+1)]):=by
 unfold spansA;rw [List.take_add_one,Ge h,List.filter_append,List.map_append]
 congr 1
 cases hy:L[i].yanked <;> simp [hy]
theorem c195 (x:List Rl) (ifs:List (List AV)) (p:ByteArray) (h84:H84 x ifs):PC 307 [ixV x ifs,vs p] (sl encSpan (availP x p)):=by
 by_cases h0:checkIx x=0
 ·have h84:PC 138 [ixV x ifs] (.tup [.agg [.cmap shK (x.map kvR),.cmap shS ((pathsIx x []).map (kvP x))],vi 0]):=by
   have:=h84; unfold H84 tblV at this; rw [if_pos h0] at this; exact this
  have hxl:=(ix_few h0).1;obtain ⟨L,hLd⟩ : ∃ L,L=x.filter fun r=>decide (r.path=p):=⟨_,rfl⟩;have hL:ofPath x p=L:=by unfold ofPath; rw [if_neg (by omega),hLd]
  have hLl:L.length≤256:=by have:=List.length_filter_le (fun r:Rl=>decide (r.path=p)) x; rw [hLd]; omega
  refine Ps pl195 Tryz.func307 rfl (Nz rfl) ?_;refine Yi (Nz rfl) ?_;refine Xi .pure (Xi _ (Yi (h84) ?_));refine Yi (Nz rfl) ?_;refine Xi ⟨[(1,vs p),(5,.ref 5 0)],[(5,.cells [.cmap shK (x.map kvR),.cmap shS ((pathsIx x []).map (kvP x))])],hfree⟩ (Yi ⟨Z2,Z1,Fh,Tv⟩ ?_)
  refine Xi ⟨[(1,vs p),(5,.ref 5 0),(7,.slice (.id 7 2) [])],[(5,.cells [.cmap shK (x.map kvR),.cmap shS ((pathsIx x []).map (kvP x))]),(7,.tok 2 0)],hfree⟩ (Yi ⟨Z3,Z2,Fh,Tv⟩ ?_)
  refine Yi ?_ ?_
  ·intro a ha;have ea:a=sl encRl L:=by rw [hLd]; exact kvP_mem ha
   subst ea;refine Xi {i:Nat // i≤L.length} (Xi (fun i=>⟨[(7,.slice (.id 7 2) ((spansA (L.take i.1)).map encSpan)),(18,sl encRl L),(19,vi (L.map encRl).length),(20,vi i.1)],[(7,.tok 2 ((spansA (L.take i.1)).map encSpan).length)],hfree⟩) (Xi (fun i=>L.length - i.1) (Yi (Xi ⟨0,Nat.zero_le _⟩ ?_) ?_)))
   ·exact ⟨Z4,Z1,Fh,Tv⟩
   intro ⟨i,i1⟩;have hsl:=spansA_len (L.take i);rw [List.length_take] at hsl;refine Yi ?_ ?_
   ·intro h;have h:(i:Int)<(L.map encRl).length:=h;have h:i<L.length:=by simpa using h
    have hg:L[i]?=some L[i]:=Ge h;refine Xi (encRl L[i]) (Yi (Yi (Nn i) (by simp [hg])) (Yi rfl ?_));refine Yi (Nz rfl) (Yi (Nz rfl) ?_);refine Xi ⟨[(7,.slice (.id 7 2) ((spansA (L.take i)).map encSpan)),(9,.ref 9 0),(18,sl encRl L),(19,vi (L.map encRl).length),(20,vi i)],[(7,.tok 2 ((spansA (L.take i)).map encSpan).length),(9,.cells (encRl L[i]))],hfree⟩ (Yi ⟨Z5,Z2,Fh,Tv⟩ ?_)
    refine Yi ?_ ?_
    ·intro hy;have hy:L[i].yanked=true:=hy;refine Yi (Ii i (by omega)) ?_;have es:spansA (L.take (i+1))=spansA (L.take i):=by rw [c195_loop L i h,hy]; simp
     have e1:AV.slice (.id 7 2) ((spansA (L.take i)).map encSpan)=.slice (.id 7 2) ((spansA (L.take (i+1))).map encSpan):=by rw [es]
     have e2:HO.tok 2 ((spansA (L.take i)).map encSpan).length=.tok 2 ((spansA (L.take (i+1))).map encSpan).length:=by rw [es]
     refine Xi ⟨i+1,by omega⟩ ?_;exact ⟨Dl L.length i (by omega),⟨⟨e1,rfl⟩,Zr,Zr,Zr,Tv⟩,⟨⟨e2,rfl⟩,Tv⟩,Fh,Tv⟩
    ·intro hy;have hy:L[i].yanked=false:=hy;have hpl:=plc_rng L[i].ver;refine Xi ⟨[(7,.slice (.id 7 2) ((spansA (L.take i)).map encSpan)),(9,.ref 9 0),(18,sl encRl L),(19,vi (L.map encRl).length),(20,vi i)],[(7,.tok 2 ((spansA (L.take i)).map encSpan).length),(9,.cells (encRl L[i]))],hfree⟩ (Yi ⟨Z5,Z2,Fh,Tv⟩ ?_)
     refine Yi (Nz rfl) ?_;refine Xi _ (Yi (c88 L[i]) ?_);refine Yi (Nz rfl) ?_;refine Xi _ (Yi (c88 L[i]) ?_);refine Yi (by show InI64 (plc L[i].ver+1); unfold InI64; omega) ?_;have bulk:AllLen 2 [[vi (plc L[i].ver),vi (plc L[i].ver+1)]]∧((spansA (L.take i)).map encSpan).length=((spansA (L.take i)).map encSpan).length∧(((spansA (L.take i)).map encSpan).length+[[vi (plc L[i].ver),vi (plc L[i].ver+1)]].length)*16≤140737488355328∧((spansA (L.take i)).map encSpan).length+[[vi (plc L[i].ver),vi (plc L[i].ver+1)]].length≤9223372036854775807 :=
      ⟨⟨rfl,trivial⟩,rfl,by rw [Lm,List.length_singleton]; omega,by rw [Lm,List.length_singleton]; omega⟩
     refine Yi bulk ?_;refine Yi (by kernel_rfl) ?_;refine Yi (Ii i (by omega)) ?_;have es:spansA (L.take (i+1))=spansA (L.take i)++[(plc L[i].ver,plc L[i].ver+1)]:=by rw [c195_loop L i h,hy]; simp
     have e1:AV.slice (.id 7 2) ((spansA (L.take i)).map encSpan++[[vi (plc L[i].ver),vi (plc L[i].ver+1)]])=.slice (.id 7 2) ((spansA (L.take (i+1))).map encSpan):=by rw [es,List.map_append]; rfl
     have e2:HO.tok 2 (((spansA (L.take i)).map encSpan).length+[[vi (plc L[i].ver),vi (plc L[i].ver+1)]].length)=.tok 2 ((spansA (L.take (i+1))).map encSpan).length:=by rw [es,List.map_append,List.length_append]; rfl
     refine Xi ⟨i+1,by omega⟩ ?_;exact ⟨Dl L.length i (by omega),⟨⟨e1,rfl⟩,Zr,Zr,Zr,Tv⟩,⟨⟨e2,rfl⟩,Tv⟩,Fh,Tv⟩
   ·intro h;have h:¬ (i:Int)<(L.map encRl).length:=h;have h:¬ i<L.length:=by simpa using h
    have et:L.take i=L:=List.take_of_length_le (by omega);refine Xi ⟨[(7,.slice (.id 7 2) ((spansA (L.take i)).map encSpan))],[(7,.tok 2 ((spansA (L.take i)).map encSpan).length)],hfree⟩ (Yi ⟨Z1,Z1,Fh,Tv⟩ ?_)
    have hc:PC 119 [sl encSpan (spansA (L.take i))] (sl encSpan (canon (spansA (L.take i)))):=c102 _ (by unfold Few; omega);refine Xi .pure (Xi _ (Yi (hc) ?_));exact .of_eq (show sl encSpan (canon (spansA (L.take i)))=sl encSpan (availP x p) by rw [et]; unfold availP; rw [hL])
  ·intro hn;have hL:ofPath x p=[]:=by
    rw [hL,hLd,List.filter_eq_nil_iff];intro r hr he;have he:=of_decide_eq_true he;exact hn _ (List.mem_map.2 ⟨p,(pathsIx_mem x [] p).2 (.inr ⟨r,hr,he⟩),rfl⟩)
   refine Xi Unit (Xi (fun _=>⟨[(7,.slice (.id 7 2) []),(19,vi 0),(20,vi 0)],[(7,.tok 2 0)],hfree⟩) (Xi (fun _=>0) (Yi (Xi () ?_) ?_)))
   ·exact ⟨Z3,Z1,Fh,Tv⟩
   intro _;refine Yi ?_ ?_
   ·intro h; exact absurd (show (0:Int)<0 from h) (by decide)
   intro _;refine Xi ⟨[(7,.slice (.id 7 2) [])],[(7,.tok 2 0)],hfree⟩ (Yi ⟨Z1,Z1,Fh,Tv⟩ ?_)
   have hc:PC 119 [sl encSpan []] (sl encSpan (canon [])):=c102 [] (by unfold Few; simp);refine Xi .pure (Xi _ (Yi (hc) ?_));exact .of_eq (show sl encSpan (canon [])=sl encSpan (availP x p) by unfold availP; rw [hL]; rfl)
 ·have h84:PC 138 [ixV x ifs] (.tup [.agg [.cmap shK [],.cmap shS []],vi (checkIx x)]):=by
   have:=h84; unfold H84 tblV at this; rw [if_neg h0] at this; exact this
  have hL:ofPath x p=[]:=by unfold ofPath; rw [if_pos h0]
  refine Ps pl195 Tryz.func307 rfl (Nz rfl) ?_;refine Yi (Nz rfl) ?_;refine Xi .pure (Xi _ (Yi (h84) ?_));refine Yi (Nz rfl) ?_;refine Xi ⟨[(1,vs p),(5,.ref 5 0)],[(5,.cells [.cmap shK [],.cmap shS []])],hfree⟩ (Yi ⟨Z2,Z1,Fh,Tv⟩ ?_)
  refine Xi ⟨[(1,vs p),(5,.ref 5 0),(7,.slice (.id 7 2) [])],[(5,.cells [.cmap shK [],.cmap shS []]),(7,.tok 2 0)],hfree⟩ (Yi ⟨Z3,Z2,Fh,Tv⟩ ?_)
  refine Yi ?_ ?_
  ·intro a ha; cases ha
  ·intro _;refine Xi Unit (Xi (fun _=>⟨[(7,.slice (.id 7 2) []),(19,vi 0),(20,vi 0)],[(7,.tok 2 0)],hfree⟩) (Xi (fun _=>0) (Yi (Xi () ?_) ?_)))
   ·exact ⟨Z3,Z1,Fh,Tv⟩
   intro _;refine Yi ?_ ?_
   ·intro h; exact absurd (show (0:Int)<0 from h) (by decide)
   intro _;refine Xi ⟨[(7,.slice (.id 7 2) [])],[(7,.tok 2 0)],hfree⟩ (Yi ⟨Z1,Z1,Fh,Tv⟩ ?_)
   have hc:PC 119 [sl encSpan []] (sl encSpan (canon [])):=c102 [] (by unfold Few; simp);refine Xi .pure (Xi _ (Yi (hc) ?_));exact .of_eq (show sl encSpan (canon [])=sl encSpan (availP x p) by unfold availP; rw [hL]; rfl)
end Go.Eng

namespace Go.Eng
open Go.Proofs
theorem availP_few (x:List Rl) (p:ByteArray):Few (availP x p):=by
 unfold availP Few
 have:=canon_len (canon_canon (((ofPath x p).filter fun r=>!r.yanked).map fun r=>(plc r.ver,plc r.ver+1))); omega
theorem c165 (x:List Rl) (ifs:List (List AV)) (roots:List Rq) (h84:H84 x ifs):C165 x ifs roots:=by
 intro d i;have h1:=c195 x ifs i.path h84;have h2:=c194 i.path (availP x i.path) (availP_few x i.path);refine acall_sub (cxe (plcut [2])) [(1000,1000),(1001,1001)] rfl tab_ok hm rfl Tryz.func254 (by kernel_rfl) rfl (Nz rfl) (by kernel_rfl) rfl ?_;refine Yi (Nz rfl) ?_;refine Xi _ (Yi (h1) ?_);refine Xi _ (Yi (h2) ?_);refine Yi (by kernel_rfl) ?_;refine Xi ⟨[(6,sl encTm (noneT i.path (availP x i.path)))],[(1000,ckO x ifs roots d),(1001,tkO d)],hfree⟩ (Yi ⟨Z1,Z2,Fh,ext_dec (by kernel_rfl)⟩ ?_)
 refine Yi ?_ ?_
 ·intro h3;have h3:(0:Int)<((noneT i.path (availP x i.path)).map encTm).length:=h3;have e:AV.tup [sl encTm (noneT i.path (availP x i.path)),vb true]=incV (ne0 (noneT i.path (availP x i.path))):=ne0_cons h3;exact Xi _ (Yi (.refl _) (Yi e rfl))
 ·intro h3;have h3:¬ (0:Int)<((noneT i.path (availP x i.path)).map encTm).length:=h3;have e:AV.tup [sl encTm (noneT i.path (availP x i.path)),vb false]=incV (ne0 (noneT i.path (availP x i.path))):=ne0_nil h3;exact Xi _ (Yi (.refl _) (Yi e rfl))
end Go.Eng

namespace Go.Eng
open Go.Proofs
end Go.Eng

namespace Go.Eng
open Go.Proofs
end Go.Eng

namespace Go.Eng
open Go.Proofs
end Go.Eng

namespace Go.Eng
open Go.Proofs
end Go.Eng
