/- Lemmas 18. -/
import Derived.Test.YtkjhcikodmiceaaGreatDoorVA17
namespace Go.Eng
open Go.Proofs Go.Proofs.Tryz
variable {l:List Nf}{i:Nat}{a:AV}(x:List Rl)(ifs:C0)(roots:List Rq)(d:List (List Tm))(y:Sl)(q:Rq)(s:List Sl)(r:Rl)(p:CS)(pl nu le ri:Int)
abbrev oZ:Prop:=∀(d:List (List Tm)) (i:Nf),
 Bg Tryz.prog 319 [.ref 1000 0,.agg (AG i)] (Ai (NQ x ifs roots d) Af) fun r h'=>r=Mc (OE (D7 i.path (A9 x i.path)))/\h'=Ai (NQ x ifs roots d) Af
abbrev Tf(i:Nf)(r:AV)(h' : Nat->HO):Prop:=
 r=vb (AQ x roots d i).isSome/\∃d',h'=Ai (NQ x ifs roots d') Af/\∀t,AQ x roots d i=some t->d'=d++[t]
theorem xq(hd:d.length<=65536)(hr:∀q∈roots,BO q.set) :
  Bg Tryz.prog 182 [.ref 1000 0,.agg (AG ⟨0,p,pl,nu,le,ri⟩)] (Ai (NQ x ifs roots d) Af) fun r h'=>Tf x ifs roots d ⟨0,p,pl,nu,le,ri⟩ r h':=by
 have lp:AQ x roots d ⟨0,p,pl,nu,le,ri⟩=if p=mt/\pl=0/\le=0/\ri=0 then(DN roots nu).map Gy else none:=rfl
 by_cases hc:p=mt/\pl=0/\le=0/\ri=0
 .have lq:AQ x roots d ⟨0,p,pl,nu,le,ri⟩=(DN roots nu).map Gy:=by simp_all
  have J7:=Abm x ifs roots d ⟨0,p,pl,nu,le,ri⟩ hr;cases ho:(DN roots nu).map Gy with
  |none=>
   have GA:AQ x roots d ⟨0,p,pl,nu,le,ri⟩=none:=by simp_all
   rw[ho]at J7;refine Bj (I9 (DB [3,4,6])) [(1000,1000),(1001,1001)] rfl BI hm rfl func182 aa2 rfl (Nz rfl) aa2 rfl (Yi ?_ ?_)
   .intro h;exact absurd (show(0:Int)<0 from h) aa1
   intro _;refine Yi ?_ ?_
   .intro h;exact absurd (show(3:Int)<0 from h) aa1
   intro _;refine cU [(0,.ref 1000 0),(3,.ref 3 0)] [(3,.cells (AG ⟨0,p,pl,nu,le,ri⟩)),(1000,IY x ifs roots d),(1001,I4 d)] Z2 Z3 (C2 (Sp) (Yi ⟨by omega,by omega⟩ ?_));refine Yi (Nz rfl) (yN (Yi aa2 (cU [(0,.ref 1000 0),(3,.ref 3 0),(5,.ref 5 0)] [(3,.cells (AG ⟨0,p,pl,nu,le,ri⟩)),(5,.cells [.v (Hf 314),.v (Hf 315)]),(1000,IY x ifs roots d),(1001,I4 d)] Z3 Z4 (yN (C2 (tE ⟨0,p,pl,nu,le,ri⟩) (Yi ?_ ?_))))))
   rotate_left
   .intro h6;have he:Zt [vi 0,vs p,vi pl,vi 0,vi le,vi ri] [vi 0,vs mt,vi 0,vi 0,vi 0,vi 0]:=⟨rfl,hc.1,hc.2.1,rfl,hc.2.2.1,hc.2.2.2,trivial⟩;exact absurd he h6
   intro _;refine Yi aa2 (cU [(0,.ref 1000 0),(3,.ref 3 0),(5,.ref 5 0)] [(3,.cells (AG ⟨0,p,pl,nu,le,ri⟩)),(5,.cells [.v (Hf 314),.v (Hf 315)]),(1000,IY x ifs roots d),(1001,I4 d)] Z3 Z4 (yN (Xi (.gen [(1000,1000),(1001,1001)] 0) (Yi rfl (J7.imp ?_)))));intro v1 g1 q1;have UY:=q1.1;have Qj:=q1.2;subst UY;subst Qj;have CY:Bh 1 [As []]/\(d.map As).length=(d.map As).length/\((d.map As).length+[As []].length)*24<=140737488355328/\(d.map As).length+[As []].length<=9223372036854775807:=
    ⟨⟨rfl,trivial⟩,rfl,by rw[Lm,A6];omega,by rw[Lm,A6];omega⟩
   refine Yi CY (yN ?_);have eh:Ai [(1000,HO.cells [sl Am x,.slice .none ifs,sl Ad roots,.slice (.id 1001 1) (d.map As++[As []])]),(1001,.tok 1 ((d.map As).length+[As []].length))] Af=Ai (NQ x ifs roots (d++[[]])) Af:=by
    simp[NQ,IY,pD,I4]
   have er:vb false=vb (AQ x roots d ⟨0,p,pl,nu,le,ri⟩).isSome:=by rw[GA];rfl
   exact C2 (.refl _) (Yi er (Xi (d++[[]]) (Yi eh (fun t ht=>by rw[GA]at ht;cases ht))))
  |some tt=>
   have GA:AQ x roots d ⟨0,p,pl,nu,le,ri⟩=some tt:=by simp_all
   rw[ho]at J7;refine Bj (I9 (DB [3,4,6])) [(1000,1000),(1001,1001)] rfl BI hm rfl func182 aa2 rfl (Nz rfl) aa2 rfl (Yi ?_ ?_)
   .intro h;exact absurd (show(0:Int)<0 from h) aa1
   intro _;refine Yi ?_ ?_
   .intro h;exact absurd (show(3:Int)<0 from h) aa1
   intro _;refine cU [(0,.ref 1000 0),(3,.ref 3 0)] [(3,.cells (AG ⟨0,p,pl,nu,le,ri⟩)),(1000,IY x ifs roots d),(1001,I4 d)] Z2 Z3 (C2 (Sp) (Yi ⟨by omega,by omega⟩ ?_));refine Yi (Nz rfl) (yN (Yi aa2 (cU [(0,.ref 1000 0),(3,.ref 3 0),(5,.ref 5 0)] [(3,.cells (AG ⟨0,p,pl,nu,le,ri⟩)),(5,.cells [.v (Hf 314),.v (Hf 315)]),(1000,IY x ifs roots d),(1001,I4 d)] Z3 Z4 (yN (C2 (tE ⟨0,p,pl,nu,le,ri⟩) (Yi ?_ ?_))))))
   rotate_left
   .intro h6;have he:Zt [vi 0,vs p,vi pl,vi 0,vi le,vi ri] [vi 0,vs mt,vi 0,vi 0,vi 0,vi 0]:=⟨rfl,hc.1,hc.2.1,rfl,hc.2.2.1,hc.2.2.2,trivial⟩;exact absurd he h6
   intro _;refine Yi aa2 (cU [(0,.ref 1000 0),(3,.ref 3 0),(5,.ref 5 0)] [(3,.cells (AG ⟨0,p,pl,nu,le,ri⟩)),(5,.cells [.v (Hf 314),.v (Hf 315)]),(1000,IY x ifs roots d),(1001,I4 d)] Z3 Z4 (yN (Xi (.gen [(1000,1000),(1001,1001)] 0) (Yi rfl (J7.imp ?_)))));intro v1 g1 q1;have UY:=q1.1;have Qj:=q1.2;subst UY;subst Qj;have CY:Bh 1 [As tt]/\(d.map As).length=(d.map As).length/\((d.map As).length+[As tt].length)*24<=140737488355328/\(d.map As).length+[As tt].length<=9223372036854775807:=
    ⟨⟨rfl,trivial⟩,rfl,by rw[Lm,A6];omega,by rw[Lm,A6];omega⟩
   refine Yi CY (yN ?_);have eh:Ai [(1000,HO.cells [sl Am x,.slice .none ifs,sl Ad roots,.slice (.id 1001 1) (d.map As++[As tt])]),(1001,.tok 1 ((d.map As).length+[As tt].length))] Af=Ai (NQ x ifs roots (d++[tt])) Af:=by
    simp[NQ,IY,pD,I4]
   have er:vb true=vb (AQ x roots d ⟨0,p,pl,nu,le,ri⟩).isSome:=by rw[GA];rfl
   exact C2 (.refl _) (Yi er (Xi (d++[tt]) (Yi eh (fun t ht=>by rw[GA]at ht;cases ht;rfl))))
 .have GA:AQ x roots d ⟨0,p,pl,nu,le,ri⟩=none:=by simp_all
  refine Bj (I9 (DB [3,4,6])) [(1000,1000),(1001,1001)] rfl BI hm rfl func182 aa2 rfl (Nz rfl) aa2 rfl (Yi ?_ ?_)
  .intro h;exact absurd (show(0:Int)<0 from h) aa1
  intro _;refine Yi ?_ ?_
  .intro h;exact absurd (show(3:Int)<0 from h) aa1
  intro _;refine cU [(0,.ref 1000 0),(3,.ref 3 0)] [(3,.cells (AG ⟨0,p,pl,nu,le,ri⟩)),(1000,IY x ifs roots d),(1001,I4 d)] Z2 Z3 (C2 (Sp) (Yi ⟨by omega,by omega⟩ ?_));refine Yi (Nz rfl) (yN (Yi aa2 (cU [(0,.ref 1000 0),(3,.ref 3 0),(5,.ref 5 0)] [(3,.cells (AG ⟨0,p,pl,nu,le,ri⟩)),(5,.cells [.v (Hf 314),.v (Hf 315)]),(1000,IY x ifs roots d),(1001,I4 d)] Z3 Z4 (yN (C2 (tE ⟨0,p,pl,nu,le,ri⟩) (Yi ?_ ?_))))))
  .intro h6;exact absurd (show p=mt/\pl=0/\le=0/\ri=0 from⟨h6.2.1,h6.2.2.1,h6.2.2.2.2.1,h6.2.2.2.2.2.1⟩) hc
  intro _;refine Yi aa2 ?_;have er:vb false=vb (AQ x roots d ⟨0,p,pl,nu,le,ri⟩).isSome:=by rw[GA];rfl
  exact C2 (.refl _) (Yi er (Xi d (Yi rfl (fun t ht=>by rw[GA]at ht;cases ht))))
theorem xr(hd:d.length<=65536)(hx:BO x)(hq:∀r∈x,∀q∈r.reqs,BO q.set) :
  Bg Tryz.prog 182 [.ref 1000 0,.agg (AG ⟨1,p,pl,nu,le,ri⟩)] (Ai (NQ x ifs roots d) Af) fun r h'=>Tf x ifs roots d ⟨1,p,pl,nu,le,ri⟩ r h':=by
 have lp:AQ x roots d ⟨1,p,pl,nu,le,ri⟩=if le=0/\ri=0 then VQ x ⟨1,p,pl,nu,le,ri⟩else none:=rfl
 by_cases hc:le=0/\ri=0
 .have lq:AQ x roots d ⟨1,p,pl,nu,le,ri⟩=VQ x ⟨1,p,pl,nu,le,ri⟩:=by simp_all
  have J7:=Abn x ifs roots d ⟨1,p,pl,nu,le,ri⟩ hx hq;cases ho:VQ x ⟨1,p,pl,nu,le,ri⟩with
  |none=>
   have GA:AQ x roots d ⟨1,p,pl,nu,le,ri⟩=none:=by simp_all
   rw[ho]at J7;refine Bj (I9 (DB [3,4,6])) [(1000,1000),(1001,1001)] rfl BI hm rfl func182 aa2 rfl (Nz rfl) aa2 rfl (Yi ?_ ?_)
   .intro h;exact absurd (show(1:Int)<0 from h) aa1
   intro _;refine Yi ?_ ?_
   .intro h;exact absurd (show(3:Int)<1 from h) aa1
   intro _;refine cU [(0,.ref 1000 0),(3,.ref 3 0)] [(3,.cells (AG ⟨1,p,pl,nu,le,ri⟩)),(1000,IY x ifs roots d),(1001,I4 d)] Z2 Z3 (C2 (Sp) (Yi ⟨by omega,by omega⟩ ?_));refine Yi (Nz rfl) (yN (Yi aa2 (cU [(0,.ref 1000 0),(3,.ref 3 0),(5,.ref 5 0)] [(3,.cells (AG ⟨1,p,pl,nu,le,ri⟩)),(5,.cells [.v (Hf 316),.v (Hf 317)]),(1000,IY x ifs roots d),(1001,I4 d)] Z3 Z4 (yN (C2 (tG ⟨1,p,pl,nu,le,ri⟩) (Yi ?_ ?_))))))
   rotate_left
   .intro h6;have he:Zt [vi 1,vs mt,vi 0,vi 0,vi le,vi ri] [vi 1,vs mt,vi 0,vi 0,vi 0,vi 0]:=⟨rfl,rfl,rfl,rfl,hc.1,hc.2,trivial⟩;exact absurd he h6
   intro _;refine Yi aa2 (cU [(0,.ref 1000 0),(3,.ref 3 0),(5,.ref 5 0)] [(3,.cells (AG ⟨1,p,pl,nu,le,ri⟩)),(5,.cells [.v (Hf 316),.v (Hf 317)]),(1000,IY x ifs roots d),(1001,I4 d)] Z3 Z4 (yN (Xi (.gen [(1000,1000),(1001,1001)] 0) (Yi rfl (J7.imp ?_)))));intro v1 g1 q1;have UY:=q1.1;have Qj:=q1.2;subst UY;subst Qj;have CY:Bh 1 [As []]/\(d.map As).length=(d.map As).length/\((d.map As).length+[As []].length)*24<=140737488355328/\(d.map As).length+[As []].length<=9223372036854775807:=
    ⟨⟨rfl,trivial⟩,rfl,by rw[Lm,A6];omega,by rw[Lm,A6];omega⟩
   refine Yi CY (yN ?_);have eh:Ai [(1000,HO.cells [sl Am x,.slice .none ifs,sl Ad roots,.slice (.id 1001 1) (d.map As++[As []])]),(1001,.tok 1 ((d.map As).length+[As []].length))] Af=Ai (NQ x ifs roots (d++[[]])) Af:=by
    simp[NQ,IY,pD,I4]
   have er:vb false=vb (AQ x roots d ⟨1,p,pl,nu,le,ri⟩).isSome:=by rw[GA];rfl
   exact C2 (.refl _) (Yi er (Xi (d++[[]]) (Yi eh (fun t ht=>by rw[GA]at ht;cases ht))))
  |some tt=>
   have GA:AQ x roots d ⟨1,p,pl,nu,le,ri⟩=some tt:=by simp_all
   rw[ho]at J7;refine Bj (I9 (DB [3,4,6])) [(1000,1000),(1001,1001)] rfl BI hm rfl func182 aa2 rfl (Nz rfl) aa2 rfl (Yi ?_ ?_)
   .intro h;exact absurd (show(1:Int)<0 from h) aa1
   intro _;refine Yi ?_ ?_
   .intro h;exact absurd (show(3:Int)<1 from h) aa1
   intro _;refine cU [(0,.ref 1000 0),(3,.ref 3 0)] [(3,.cells (AG ⟨1,p,pl,nu,le,ri⟩)),(1000,IY x ifs roots d),(1001,I4 d)] Z2 Z3 (C2 (Sp) (Yi ⟨by omega,by omega⟩ ?_));refine Yi (Nz rfl) (yN (Yi aa2 (cU [(0,.ref 1000 0),(3,.ref 3 0),(5,.ref 5 0)] [(3,.cells (AG ⟨1,p,pl,nu,le,ri⟩)),(5,.cells [.v (Hf 316),.v (Hf 317)]),(1000,IY x ifs roots d),(1001,I4 d)] Z3 Z4 (yN (C2 (tG ⟨1,p,pl,nu,le,ri⟩) (Yi ?_ ?_))))))
   rotate_left
   .intro h6;have he:Zt [vi 1,vs mt,vi 0,vi 0,vi le,vi ri] [vi 1,vs mt,vi 0,vi 0,vi 0,vi 0]:=⟨rfl,rfl,rfl,rfl,hc.1,hc.2,trivial⟩;exact absurd he h6
   intro _;refine Yi aa2 (cU [(0,.ref 1000 0),(3,.ref 3 0),(5,.ref 5 0)] [(3,.cells (AG ⟨1,p,pl,nu,le,ri⟩)),(5,.cells [.v (Hf 316),.v (Hf 317)]),(1000,IY x ifs roots d),(1001,I4 d)] Z3 Z4 (yN (Xi (.gen [(1000,1000),(1001,1001)] 0) (Yi rfl (J7.imp ?_)))));intro v1 g1 q1;have UY:=q1.1;have Qj:=q1.2;subst UY;subst Qj;have CY:Bh 1 [As tt]/\(d.map As).length=(d.map As).length/\((d.map As).length+[As tt].length)*24<=140737488355328/\(d.map As).length+[As tt].length<=9223372036854775807:=
    ⟨⟨rfl,trivial⟩,rfl,by rw[Lm,A6];omega,by rw[Lm,A6];omega⟩
   refine Yi CY (yN ?_);have eh:Ai [(1000,HO.cells [sl Am x,.slice .none ifs,sl Ad roots,.slice (.id 1001 1) (d.map As++[As tt])]),(1001,.tok 1 ((d.map As).length+[As tt].length))] Af=Ai (NQ x ifs roots (d++[tt])) Af:=by
    simp[NQ,IY,pD,I4]
   have er:vb true=vb (AQ x roots d ⟨1,p,pl,nu,le,ri⟩).isSome:=by rw[GA];rfl
   exact C2 (.refl _) (Yi er (Xi (d++[tt]) (Yi eh (fun t ht=>by rw[GA]at ht;cases ht;rfl))))
 .have GA:AQ x roots d ⟨1,p,pl,nu,le,ri⟩=none:=by simp_all
  refine Bj (I9 (DB [3,4,6])) [(1000,1000),(1001,1001)] rfl BI hm rfl func182 aa2 rfl (Nz rfl) aa2 rfl (Yi ?_ ?_)
  .intro h;exact absurd (show(1:Int)<0 from h) aa1
  intro _;refine Yi ?_ ?_
  .intro h;exact absurd (show(3:Int)<1 from h) aa1
  intro _;refine cU [(0,.ref 1000 0),(3,.ref 3 0)] [(3,.cells (AG ⟨1,p,pl,nu,le,ri⟩)),(1000,IY x ifs roots d),(1001,I4 d)] Z2 Z3 (C2 (Sp) (Yi ⟨by omega,by omega⟩ ?_));refine Yi (Nz rfl) (yN (Yi aa2 (cU [(0,.ref 1000 0),(3,.ref 3 0),(5,.ref 5 0)] [(3,.cells (AG ⟨1,p,pl,nu,le,ri⟩)),(5,.cells [.v (Hf 316),.v (Hf 317)]),(1000,IY x ifs roots d),(1001,I4 d)] Z3 Z4 (yN (C2 (tG ⟨1,p,pl,nu,le,ri⟩) (Yi ?_ ?_))))))
  .intro h6;exact absurd (show le=0/\ri=0 from⟨h6.2.2.2.2.1,h6.2.2.2.2.2.1⟩) hc
  intro _;refine Yi aa2 ?_;have er:vb false=vb (AQ x roots d ⟨1,p,pl,nu,le,ri⟩).isSome:=by rw[GA];rfl
  exact C2 (.refl _) (Yi er (Xi d (Yi rfl (fun t ht=>by rw[GA]at ht;cases ht))))
theorem xt(hd:d.length<=65536)(pZ:oZ x ifs roots) :
  Bg Tryz.prog 182 [.ref 1000 0,.agg (AG ⟨2,p,pl,nu,le,ri⟩)] (Ai (NQ x ifs roots d) Af) fun r h'=>Tf x ifs roots d ⟨2,p,pl,nu,le,ri⟩ r h':=by
 have lp:AQ x roots d ⟨2,p,pl,nu,le,ri⟩=if pl=0/\nu=0/\le=0/\ri=0 then OE (D7 p (A9 x p))else none:=rfl
 by_cases hc:pl=0/\nu=0/\le=0/\ri=0
 .have lq:AQ x roots d ⟨2,p,pl,nu,le,ri⟩=OE (D7 p (A9 x p)):=by simp_all
  have J7:=pZ d ⟨2,p,pl,nu,le,ri⟩;cases ho:OE (D7 p (A9 x p))with
  |none=>
   have GA:AQ x roots d ⟨2,p,pl,nu,le,ri⟩=none:=by simp_all
   rw[ho]at J7;refine Bj (I9 (DB [3,4,6])) [(1000,1000),(1001,1001)] rfl BI hm rfl func182 aa2 rfl (Nz rfl) aa2 rfl (Yi ?_ ?_)
   .intro h;exact absurd (show(2:Int)<0 from h) aa1
   intro _;refine Yi ?_ ?_
   .intro h;exact absurd (show(3:Int)<2 from h) aa1
   intro _;refine cU [(0,.ref 1000 0),(3,.ref 3 0)] [(3,.cells (AG ⟨2,p,pl,nu,le,ri⟩)),(1000,IY x ifs roots d),(1001,I4 d)] Z2 Z3 (C2 (Sp) (Yi ⟨by omega,by omega⟩ ?_));refine Yi (Nz rfl) (yN (Yi aa2 (cU [(0,.ref 1000 0),(3,.ref 3 0),(5,.ref 5 0)] [(3,.cells (AG ⟨2,p,pl,nu,le,ri⟩)),(5,.cells [.v (Hf 318),.v (Hf 319)]),(1000,IY x ifs roots d),(1001,I4 d)] Z3 Z4 (yN (C2 (tH ⟨2,p,pl,nu,le,ri⟩) (Yi ?_ ?_))))))
   rotate_left
   .intro h6;have he:Zt [vi 2,vs mt,vi pl,vi nu,vi le,vi ri] [vi 2,vs mt,vi 0,vi 0,vi 0,vi 0]:=⟨rfl,rfl,hc.1,hc.2.1,hc.2.2.1,hc.2.2.2,trivial⟩;exact absurd he h6
   intro _;refine Yi aa2 (cU [(0,.ref 1000 0),(3,.ref 3 0),(5,.ref 5 0)] [(3,.cells (AG ⟨2,p,pl,nu,le,ri⟩)),(5,.cells [.v (Hf 318),.v (Hf 319)]),(1000,IY x ifs roots d),(1001,I4 d)] Z3 Z4 (yN (Xi (.gen [(1000,1000),(1001,1001)] 0) (Yi rfl (J7.imp ?_)))));intro v1 g1 q1;have UY:=q1.1;have Qj:=q1.2;subst UY;subst Qj;have CY:Bh 1 [As []]/\(d.map As).length=(d.map As).length/\((d.map As).length+[As []].length)*24<=140737488355328/\(d.map As).length+[As []].length<=9223372036854775807:=
    ⟨⟨rfl,trivial⟩,rfl,by rw[Lm,A6];omega,by rw[Lm,A6];omega⟩
   refine Yi CY (yN ?_);have eh:Ai [(1000,HO.cells [sl Am x,.slice .none ifs,sl Ad roots,.slice (.id 1001 1) (d.map As++[As []])]),(1001,.tok 1 ((d.map As).length+[As []].length))] Af=Ai (NQ x ifs roots (d++[[]])) Af:=by
    simp[NQ,IY,pD,I4]
   have er:vb false=vb (AQ x roots d ⟨2,p,pl,nu,le,ri⟩).isSome:=by rw[GA];rfl
   exact C2 (.refl _) (Yi er (Xi (d++[[]]) (Yi eh (fun t ht=>by rw[GA]at ht;cases ht))))
  |some tt=>
   have GA:AQ x roots d ⟨2,p,pl,nu,le,ri⟩=some tt:=by simp_all
   rw[ho]at J7;refine Bj (I9 (DB [3,4,6])) [(1000,1000),(1001,1001)] rfl BI hm rfl func182 aa2 rfl (Nz rfl) aa2 rfl (Yi ?_ ?_)
   .intro h;exact absurd (show(2:Int)<0 from h) aa1
   intro _;refine Yi ?_ ?_
   .intro h;exact absurd (show(3:Int)<2 from h) aa1
   intro _;refine cU [(0,.ref 1000 0),(3,.ref 3 0)] [(3,.cells (AG ⟨2,p,pl,nu,le,ri⟩)),(1000,IY x ifs roots d),(1001,I4 d)] Z2 Z3 (C2 (Sp) (Yi ⟨by omega,by omega⟩ ?_));refine Yi (Nz rfl) (yN (Yi aa2 (cU [(0,.ref 1000 0),(3,.ref 3 0),(5,.ref 5 0)] [(3,.cells (AG ⟨2,p,pl,nu,le,ri⟩)),(5,.cells [.v (Hf 318),.v (Hf 319)]),(1000,IY x ifs roots d),(1001,I4 d)] Z3 Z4 (yN (C2 (tH ⟨2,p,pl,nu,le,ri⟩) (Yi ?_ ?_))))))
   rotate_left
   .intro h6;have he:Zt [vi 2,vs mt,vi pl,vi nu,vi le,vi ri] [vi 2,vs mt,vi 0,vi 0,vi 0,vi 0]:=⟨rfl,rfl,hc.1,hc.2.1,hc.2.2.1,hc.2.2.2,trivial⟩;exact absurd he h6
   intro _;refine Yi aa2 (cU [(0,.ref 1000 0),(3,.ref 3 0),(5,.ref 5 0)] [(3,.cells (AG ⟨2,p,pl,nu,le,ri⟩)),(5,.cells [.v (Hf 318),.v (Hf 319)]),(1000,IY x ifs roots d),(1001,I4 d)] Z3 Z4 (yN (Xi (.gen [(1000,1000),(1001,1001)] 0) (Yi rfl (J7.imp ?_)))));intro v1 g1 q1;have UY:=q1.1;have Qj:=q1.2;subst UY;subst Qj;have CY:Bh 1 [As tt]/\(d.map As).length=(d.map As).length/\((d.map As).length+[As tt].length)*24<=140737488355328/\(d.map As).length+[As tt].length<=9223372036854775807:=
    ⟨⟨rfl,trivial⟩,rfl,by rw[Lm,A6];omega,by rw[Lm,A6];omega⟩
   refine Yi CY (yN ?_);have eh:Ai [(1000,HO.cells [sl Am x,.slice .none ifs,sl Ad roots,.slice (.id 1001 1) (d.map As++[As tt])]),(1001,.tok 1 ((d.map As).length+[As tt].length))] Af=Ai (NQ x ifs roots (d++[tt])) Af:=by
    simp[NQ,IY,pD,I4]
   have er:vb true=vb (AQ x roots d ⟨2,p,pl,nu,le,ri⟩).isSome:=by rw[GA];rfl
   exact C2 (.refl _) (Yi er (Xi (d++[tt]) (Yi eh (fun t ht=>by rw[GA]at ht;cases ht;rfl))))
 .have GA:AQ x roots d ⟨2,p,pl,nu,le,ri⟩=none:=by simp_all
  refine Bj (I9 (DB [3,4,6])) [(1000,1000),(1001,1001)] rfl BI hm rfl func182 aa2 rfl (Nz rfl) aa2 rfl (Yi ?_ ?_)
  .intro h;exact absurd (show(2:Int)<0 from h) aa1
  intro _;refine Yi ?_ ?_
  .intro h;exact absurd (show(3:Int)<2 from h) aa1
  intro _;refine cU [(0,.ref 1000 0),(3,.ref 3 0)] [(3,.cells (AG ⟨2,p,pl,nu,le,ri⟩)),(1000,IY x ifs roots d),(1001,I4 d)] Z2 Z3 (C2 (Sp) (Yi ⟨by omega,by omega⟩ ?_));refine Yi (Nz rfl) (yN (Yi aa2 (cU [(0,.ref 1000 0),(3,.ref 3 0),(5,.ref 5 0)] [(3,.cells (AG ⟨2,p,pl,nu,le,ri⟩)),(5,.cells [.v (Hf 318),.v (Hf 319)]),(1000,IY x ifs roots d),(1001,I4 d)] Z3 Z4 (yN (C2 (tH ⟨2,p,pl,nu,le,ri⟩) (Yi ?_ ?_))))))
  .intro h6;exact absurd (show pl=0/\nu=0/\le=0/\ri=0 from⟨h6.2.2.1,h6.2.2.2.1,h6.2.2.2.2.1,h6.2.2.2.2.2.1⟩) hc
  intro _;refine Yi aa2 ?_;have er:vb false=vb (AQ x roots d ⟨2,p,pl,nu,le,ri⟩).isSome:=by rw[GA];rfl
  exact C2 (.refl _) (Yi er (Xi d (Yi rfl (fun t ht=>by rw[GA]at ht;cases ht))))
theorem xu(hd:d.length<=65536)(hi:∀t∈d,Vw t) :
  Bg Tryz.prog 182 [.ref 1000 0,.agg (AG ⟨3,p,pl,nu,le,ri⟩)] (Ai (NQ x ifs roots d) Af) fun r h'=>Tf x ifs roots d ⟨3,p,pl,nu,le,ri⟩ r h':=by
 have lp:AQ x roots d ⟨3,p,pl,nu,le,ri⟩=if pl=0/\nu=0 then U4 d ⟨3,p,pl,nu,le,ri⟩else none:=rfl
 by_cases hc:pl=0/\nu=0
 .have lq:AQ x roots d ⟨3,p,pl,nu,le,ri⟩=U4 d ⟨3,p,pl,nu,le,ri⟩:=by simp_all
  have J7:=Abp x ifs roots d ⟨3,p,pl,nu,le,ri⟩ hi;cases ho:U4 d ⟨3,p,pl,nu,le,ri⟩with
  |none=>
   have GA:AQ x roots d ⟨3,p,pl,nu,le,ri⟩=none:=by simp_all
   rw[ho]at J7;refine Bj (I9 (DB [3,4,6])) [(1000,1000),(1001,1001)] rfl BI hm rfl func182 aa2 rfl (Nz rfl) aa2 rfl (Yi ?_ ?_)
   .intro h;exact absurd (show(3:Int)<0 from h) aa1
   intro _;refine Yi ?_ ?_
   .intro h;exact absurd (show(3:Int)<3 from h) aa1
   intro _;refine cU [(0,.ref 1000 0),(3,.ref 3 0)] [(3,.cells (AG ⟨3,p,pl,nu,le,ri⟩)),(1000,IY x ifs roots d),(1001,I4 d)] Z2 Z3 (C2 (Sp) (Yi ⟨by omega,by omega⟩ ?_));refine Yi (Nz rfl) (yN (Yi aa2 (cU [(0,.ref 1000 0),(3,.ref 3 0),(5,.ref 5 0)] [(3,.cells (AG ⟨3,p,pl,nu,le,ri⟩)),(5,.cells [.v (Hf 320),.v (Hf 321)]),(1000,IY x ifs roots d),(1001,I4 d)] Z3 Z4 (yN (C2 (tJ ⟨3,p,pl,nu,le,ri⟩) (Yi ?_ ?_))))))
   rotate_left
   .intro h6;have he:Zt [vi 3,vs mt,vi pl,vi nu,vi 0,vi 0] [vi 3,vs mt,vi 0,vi 0,vi 0,vi 0]:=⟨rfl,rfl,hc.1,hc.2,rfl,rfl,trivial⟩;exact absurd he h6
   intro _;refine Yi aa2 (cU [(0,.ref 1000 0),(3,.ref 3 0),(5,.ref 5 0)] [(3,.cells (AG ⟨3,p,pl,nu,le,ri⟩)),(5,.cells [.v (Hf 320),.v (Hf 321)]),(1000,IY x ifs roots d),(1001,I4 d)] Z3 Z4 (yN (Xi (.gen [(1000,1000),(1001,1001)] 0) (Yi rfl (J7.imp ?_)))));intro v1 g1 q1;have UY:=q1.1;have Qj:=q1.2;subst UY;subst Qj;have CY:Bh 1 [As []]/\(d.map As).length=(d.map As).length/\((d.map As).length+[As []].length)*24<=140737488355328/\(d.map As).length+[As []].length<=9223372036854775807:=
    ⟨⟨rfl,trivial⟩,rfl,by rw[Lm,A6];omega,by rw[Lm,A6];omega⟩
   refine Yi CY (yN ?_);have eh:Ai [(1000,HO.cells [sl Am x,.slice .none ifs,sl Ad roots,.slice (.id 1001 1) (d.map As++[As []])]),(1001,.tok 1 ((d.map As).length+[As []].length))] Af=Ai (NQ x ifs roots (d++[[]])) Af:=by
    simp[NQ,IY,pD,I4]
   have er:vb false=vb (AQ x roots d ⟨3,p,pl,nu,le,ri⟩).isSome:=by rw[GA];rfl
   exact C2 (.refl _) (Yi er (Xi (d++[[]]) (Yi eh (fun t ht=>by rw[GA]at ht;cases ht))))
  |some tt=>
   have GA:AQ x roots d ⟨3,p,pl,nu,le,ri⟩=some tt:=by simp_all
   rw[ho]at J7;refine Bj (I9 (DB [3,4,6])) [(1000,1000),(1001,1001)] rfl BI hm rfl func182 aa2 rfl (Nz rfl) aa2 rfl (Yi ?_ ?_)
   .intro h;exact absurd (show(3:Int)<0 from h) aa1
   intro _;refine Yi ?_ ?_
   .intro h;exact absurd (show(3:Int)<3 from h) aa1
   intro _;refine cU [(0,.ref 1000 0),(3,.ref 3 0)] [(3,.cells (AG ⟨3,p,pl,nu,le,ri⟩)),(1000,IY x ifs roots d),(1001,I4 d)] Z2 Z3 (C2 (Sp) (Yi ⟨by omega,by omega⟩ ?_));refine Yi (Nz rfl) (yN (Yi aa2 (cU [(0,.ref 1000 0),(3,.ref 3 0),(5,.ref 5 0)] [(3,.cells (AG ⟨3,p,pl,nu,le,ri⟩)),(5,.cells [.v (Hf 320),.v (Hf 321)]),(1000,IY x ifs roots d),(1001,I4 d)] Z3 Z4 (yN (C2 (tJ ⟨3,p,pl,nu,le,ri⟩) (Yi ?_ ?_))))))
   rotate_left
   .intro h6;have he:Zt [vi 3,vs mt,vi pl,vi nu,vi 0,vi 0] [vi 3,vs mt,vi 0,vi 0,vi 0,vi 0]:=⟨rfl,rfl,hc.1,hc.2,rfl,rfl,trivial⟩;exact absurd he h6
   intro _;refine Yi aa2 (cU [(0,.ref 1000 0),(3,.ref 3 0),(5,.ref 5 0)] [(3,.cells (AG ⟨3,p,pl,nu,le,ri⟩)),(5,.cells [.v (Hf 320),.v (Hf 321)]),(1000,IY x ifs roots d),(1001,I4 d)] Z3 Z4 (yN (Xi (.gen [(1000,1000),(1001,1001)] 0) (Yi rfl (J7.imp ?_)))));intro v1 g1 q1;have UY:=q1.1;have Qj:=q1.2;subst UY;subst Qj;have CY:Bh 1 [As tt]/\(d.map As).length=(d.map As).length/\((d.map As).length+[As tt].length)*24<=140737488355328/\(d.map As).length+[As tt].length<=9223372036854775807:=
    ⟨⟨rfl,trivial⟩,rfl,by rw[Lm,A6];omega,by rw[Lm,A6];omega⟩
   refine Yi CY (yN ?_);have eh:Ai [(1000,HO.cells [sl Am x,.slice .none ifs,sl Ad roots,.slice (.id 1001 1) (d.map As++[As tt])]),(1001,.tok 1 ((d.map As).length+[As tt].length))] Af=Ai (NQ x ifs roots (d++[tt])) Af:=by
    simp[NQ,IY,pD,I4]
   have er:vb true=vb (AQ x roots d ⟨3,p,pl,nu,le,ri⟩).isSome:=by rw[GA];rfl
   exact C2 (.refl _) (Yi er (Xi (d++[tt]) (Yi eh (fun t ht=>by rw[GA]at ht;cases ht;rfl))))
 .have GA:AQ x roots d ⟨3,p,pl,nu,le,ri⟩=none:=by simp_all
  refine Bj (I9 (DB [3,4,6])) [(1000,1000),(1001,1001)] rfl BI hm rfl func182 aa2 rfl (Nz rfl) aa2 rfl (Yi ?_ ?_)
  .intro h;exact absurd (show(3:Int)<0 from h) aa1
  intro _;refine Yi ?_ ?_
  .intro h;exact absurd (show(3:Int)<3 from h) aa1
  intro _;refine cU [(0,.ref 1000 0),(3,.ref 3 0)] [(3,.cells (AG ⟨3,p,pl,nu,le,ri⟩)),(1000,IY x ifs roots d),(1001,I4 d)] Z2 Z3 (C2 (Sp) (Yi ⟨by omega,by omega⟩ ?_));refine Yi (Nz rfl) (yN (Yi aa2 (cU [(0,.ref 1000 0),(3,.ref 3 0),(5,.ref 5 0)] [(3,.cells (AG ⟨3,p,pl,nu,le,ri⟩)),(5,.cells [.v (Hf 320),.v (Hf 321)]),(1000,IY x ifs roots d),(1001,I4 d)] Z3 Z4 (yN (C2 (tJ ⟨3,p,pl,nu,le,ri⟩) (Yi ?_ ?_))))))
  .intro h6;exact absurd (show pl=0/\nu=0 from⟨h6.2.2.1,h6.2.2.2.1⟩) hc
  intro _;refine Yi aa2 ?_;have er:vb false=vb (AQ x roots d ⟨3,p,pl,nu,le,ri⟩).isSome:=by rw[GA];rfl
  exact C2 (.refl _) (Yi er (Xi d (Yi rfl (fun t ht=>by rw[GA]at ht;cases ht))))
theorem c66(i:Nf)(hd:d.length<=65536)(hr:∀q∈roots,BO q.set)(hx:BO x)(hq:∀r∈x,∀q∈r.reqs,BO q.set)(pZ:oZ x ifs roots)(hi:∀t∈d,Vw t) :
  Bg Tryz.prog 182 [.ref 1000 0,.agg (AG i)] (Ai (NQ x ifs roots d) Af) fun r h'=>Tf x ifs roots d i r h':=by
 obtain⟨k,p,pl,nu,le,ri⟩:=i
 by_cases h0:k=0
 .grind [xq]
 by_cases h1:k=1
 .grind [xr]
 by_cases h2:k=2
 .grind [xt]
 by_cases h3:k=3
 .grind [xu]
 have GA:AQ x roots d ⟨k,p,pl,nu,le,ri⟩=none:=by
  show(if k=0 then _ else if k=1 then _ else if k=2 then _ else if k=3 then _ else none)=none;simp_all
 have er:vb false=vb (AQ x roots d ⟨k,p,pl,nu,le,ri⟩).isSome:=by simp_all
 refine Bj (I9 CX) [(1000,1000),(1001,1001)] rfl BI hm rfl func182 aa2 rfl (Nz rfl) aa2 rfl (Yi ?_ ?_)
 .intro _;exact C2 (.refl _) (Yi er (Xi d (Yi rfl (fun t ht=>by simp_all))))
 intro h4;have h4:¬k<0:=h4;refine Yi ?_ ?_
 .intro _;exact C2 (.refl _) (Yi er (Xi d (Yi rfl (fun t ht=>by simp_all))))
 intro h5;have h5:¬3<k:=h5;omega
theorem MW{l:List Rq}(h:AH l=0):l.length<=16:=by
 grind [AH]
theorem Fs{x:List Rl}(h:At x=0):x.length<=256/\∀r∈x,r.reqs.length<=16:=by
 have h1:x.length<=256:=by
  grind [At]
 exact⟨h1,fun r hr=>MW ((BB h).1 r hr).reqs⟩
theorem Zz{x:List Rl}(h:∀r∈x,r.reqs.length<=16):((x.map (·.reqs)).flatten).length<=x.length*16:=by
 induction x<;>grind
theorem LD{x:List Rl}{roots:List Rq}(h1:At x=0)(h2:AH roots=0)(h3:l.length<=65536):(Hb x roots l).length<=100000:=by
 grind [Fs,Zz,MW,Hb]
theorem Qy.fewI{U:List CS}{t:List Tm}(h:Qy U t)(hu:U.length<=100000):Vw t:=
 ⟨by have:=h.len;omega,fun u hu=>IB (h.1.canon u hu)⟩
abbrev d7(l:List Nf):AV:=
 if(A1 x roots l).2=0 then .tup [.cptr (Ct x (.slice .none ifs) roots (A1 x roots l).1),vi 0]else .tup [.v (.pointer none),vi (A1 x roots l).2]
theorem Nb{x:List Rl}{ifs:C0}{roots:List Rq}{e:Int}{d:List (List Tm)}(h:A1 x roots l=(d,e))(he:e≠0):AV.tup [.v (.pointer none),vi e]=d7 x ifs roots l:=by
 grind
theorem kX{x:List Rl}{ifs:C0}{roots:List Rq}{d:List (List Tm)}(h:A1 x roots l=(d,0)):AV.tup [.cptr (Ct x (.slice .none ifs) roots d),vi 0]=d7 x ifs roots l:=by
 grind
theorem XX{x:List Rl}{roots:List Rq}{d:List (List Tm)}(h:i<l.length)(hg:BH x roots (l.take i) []=some d) :
  BH x roots (l.take (i+1)) []=match AQ x roots d l[i]with | none=>none | some t=>some (d++[t]):=by
 grind [List.take_add_one,BH,Ft]
theorem eZ{x:List Rl}{roots:List Rq}(h:BH x roots (l.take i) []=none):BH x roots l []=none:=by
 grind [List.take_append_drop,Ft]
abbrev AdR:M5:=⟨[],[],[],[],[25],[],[],[(26,(25,3,901,1))],[],[],[3,5,9]⟩
theorem c36(l:List Nf)(hx:∀r∈x,Fk r)(hr:∀q∈roots,IE q)(pZ:At x=0->oZ x ifs roots):PC 106 [.agg (Ic x ifs),sl Ad roots,sl AG l] (d7 x ifs roots l):=by
 have ed:A1 x roots l=if At x≠0\/AH roots≠0 then([],(1:Int))else if 65536<l.length then([],(7:Int))else match BH x roots l []with | none=>([],(18:Int)) | some d=>(d,(0:Int)):=rfl
 refine Ps AdR func106 rfl (Nz rfl) (yN (C1 (C2 (xp VC x ifs hx) (Yi ?_ ?_))))
 .intro h;have h:At x≠0:=h;exact .of_eq (Nb (by rw[ed,A3 (.inl h)]) aa1)
 intro h1;have h1:¬At x≠0:=h1;refine C1 (C2 (c65 VC roots hr) (Yi ?_ ?_))
 .intro h;have h:AH roots≠0:=h;exact .of_eq (Nb (by rw[ed,A3 (.inr h)]) aa1)
 intro h2;have h2:¬AH roots≠0:=h2;have e1:=GF h1;have e2:=GF h2;refine cU [(1,sl Ad roots),(2,sl AG l),(3,.ref 3 0)] [(3,.cells (Ic x ifs))] Z3 Z1 (Yi ?_ ?_)
 .intro h;have h:(65536:Int)<(l.map AG).length:=h;exact .of_eq (Nb (by rw[ed,AN Wk,A3 (by grind)]) aa1)
 intro h;have h:¬(65536:Int)<(l.map AG).length:=h;have h3:l.length<=65536:=by grind
 have ed2:A1 x roots l=match BH x roots l []with | none=>([],(18:Int)) | some d=>(d,(0:Int)):=by grind
 have hU:=LD (x:=x) (roots:=roots) (l:=l) e1 e2 h3;have uv:=Fs e1;refine cU [(1,sl Ad roots),(2,sl AG l),(3,.ref 3 0)] [(3,.cells (Ic x ifs))] Z3 Z1 (yN (Xi {p:Nat×List (List Tm) // p.1<=l.length/\BH x roots (l.take p.1) []=some p.2/\p.2.length=p.1/\∀t∈p.2,Qy (Hb x roots l) t} (Xi (fun p=>⟨[(8,.ref 25 0),(26,sl AG l),(27,vi (l.map AG).length),(28,vi p.1.1)],[(25,.cells [sl Am x,.slice .none ifs,sl Ad roots,.slice (.id 901 1) (p.1.2.map As)]),(901,.tok 1 (p.1.2.map As).length)],Af⟩) (Xi (fun p=>l.length-p.1.1) (Yi (Xi ⟨(0,[]),Al _,rfl,rfl,fun t ht=>by cases ht⟩ ?_) ?_)))))
 .exact⟨Z4,Z2,Fh,Tv⟩
 intro⟨⟨i,d⟩,i1,i2,i3,i4⟩;have i1:i<=l.length:=i1;have i2:BH x roots (l.take i) []=some d:=i2;have i3:d.length=i:=i3;have i4:∀t∈d,Qy (Hb x roots l) t:=i4;refine Yi ?_ ?_
 .intro h;have h:(i:Int)<(l.map AG).length:=h;have h:i<l.length:=by simp_all
  have hg:l[i]?=some l[i]:=Ge h;refine Xi (AG l[i]) (Yi (Yi Wk (by simp_all)) (Yi rfl ?_));refine Yi (Nz rfl) (yN (cU [(8,.ref 25 0),(10,.ref 10 0),(26,sl AG l),(27,vi (l.map AG).length),(28,vi i)] [(10,.cells (AG l[i])),(25,.cells [sl Am x,.slice .none ifs,sl Ad roots,.slice (.id 901 1) (d.map As)]),(901,.tok 1 (d.map As).length)] Z5 Z3 (yN ?_)));have Co:=c66 x ifs roots d l[i] Wk (fun q hq=>(hr q hq).1) Wk (fun r X7 q hq=>((hx r X7).2 q hq).1) (pZ e1) (fun t ht=>(i4 t ht).fewI hU);have sy:=XX h i2;cases ZP:AQ x roots d l[i]with
  |none=>
   refine Xi (.gen [(25,1000),(901,1001)] 0) (Yi rfl (Co.imp ?_));intro v g q;have q1:v=vb false:=by simp_all
   refine Ao q.2 (fun d' q2=>?_);have vC:=q2.1;subst q1;subst vC;rw[ZP]at sy;have hn:BH x roots l []=none:=eZ sy;exact .of_eq (Nb (by rw[ed2,hn]) aa1)
  |some t=>
   refine Xi (.gen [(25,1000),(901,1001)] 0) (Yi rfl (Co.imp ?_));intro v g q;have q1:v=vb true:=by simp_all
   refine Ao q.2 (fun d' q2=>?_);have vC:=q2.1;have q22:=q2.2 t ZP;subst q1;subst vC;rw[ZP]at sy;refine Yi (Ii i Wk) ?_;have ZO:=Nj (Ah h) i4 ZP;refine Xi ⟨(i+1,d'),by omega,by simp_all,by simp_all,fun u hu=>?_⟩ ?_
   .grind
   .exact⟨Dl l.length i Wk,Z4,Z2,Fh,Tv⟩
 .intro h;have h:¬(i:Int)<(l.map AG).length:=h;have h:¬i<l.length:=by simp_all
  have hn:BH x roots l []=some d:=by grind
  exact .of_eq (kX (by simp_all))
theorem cu{x:List Rl}{roots:List Rq}(h:(A1 x roots l).2≠0):(A1 x roots l).1=[]:=by
 grind [A1]
theorem TE{x:List Rl}{roots:List Rq}:(A1 x roots l).1.length<=65536:=by
 grind [A1,H3,List.length_nil]
abbrev Jf:AV:=.agg (Ic x ifs)
abbrev OV:ES:=⟨true,[.str,.int .i64,.int .i64,.int .i64]⟩
abbrev WI:Value:=.agg #[.string y.path,.int .i64 y.ver.a,.int .i64 y.ver.b,.int .i64 y.ver.c]
abbrev Ow:Value×AV:=(WI (Cp r),.agg (Am r))
def AP:List Rl->List CS->List CS
 | [],acc=>acc
 |r::x,acc=>AP x (if acc.any (fun p=>decide (p=r.path))then acc else acc++[r.path])
abbrev iZ:Value×AV:=(.string p,sl Am (x.filter fun r=>decide (r.path=p)))
abbrev vL:AV:=if At x=0 then .tup [.agg [.cmap OV (x.map Ow),.cmap Cc ((AP x []).map (iZ x))],vi 0]else .tup [.agg [.cmap OV [],.cmap Cc []],vi (At x)]
abbrev kb:Prop:=PC 51 [Jf x ifs] (vL x)
theorem Ac5:PC 86 [.agg YI] (.agg YI):=by
 refine Ps CX func86 rfl (Nz rfl) (yN (Xi Unit (Xi (fun _=>⟨[(1,.ref 1 0),(2,.ref 2 0),(10,vi 0),(11,vi 0)],[(1,.cells YI),(2,.cells YI)],Af⟩) (Xi (fun _=>0) (Yi (Xi () ?_) ?_)))))
 .exact⟨Z4,Z2,Fh,Tv⟩
 intro _;refine Yi ?_ ?_
 .intro h;exact absurd (show(0:Int)<0 from h) aa1
 .intro _;refine Yi (Nz rfl) (Yi (Nz rfl) (yN ?_));exact .refl _
theorem qI{y z:Sl}(h:WI y=WI z):y=z:=by
 obtain⟨p,⟨a,b,c⟩⟩:=y<;>simp_all
theorem Yd{x:List Rl}{y:Sl}(h:(WI y,a)∈x.map Ow):∃r∈x,Cp r=y/\a=.agg (Am r):=by
 grind [qI]
theorem Zy{x:List Rl}(hx:At x=0){r:Rl}(hr:r∈x):AY x (Cp r)=some r:=by
 unfold AY;rw[AN Wk];cases h:x.find? (fun s=>decide (Cp s=Cp r))with
 |none=>
  grind
 |some s=>
  have h1:=FG h;simp only[A4]at h1;have hs:=Br h;have hp:=(BB hx).2
  grind [List.mem_iff_getElem,List.pairwise_iff_getElem,Oz]
theorem c53(v:Ver)(T3:kb x ifs)(hx:∀r∈x,Fk r):PC 40 [Jf x ifs,vs p,.agg (Ej v)] (G5 (AY x ⟨p,v⟩)):=by
 have hz:=Ac5
 by_cases h0:At x=0
 .have T3:PC 51 [Jf x ifs] (.tup [.agg [.cmap OV (x.map Ow),.cmap Cc ((AP x []).map (iZ x))],vi 0]):=by
   grind
  refine Ps (DB []) func40 rfl (Nz rfl) (yN (C1 (C2 (T3) (yN (yN (Yi ?_ ?_))))))
  .intro a ha;refine Ao (Yd (y:=⟨p,v⟩) ha) (fun r hr=>?_);have e:=hr.2.2;subst e;have hf:AY x ⟨p,v⟩=some r:=by grind [Zy]
   have Sw:=(Fs h0).2 r hr.1;have hc:=c98 r Wk (fun q hq=>((hx r hr.1).2 q hq).1);refine yN (yN (C1 (C2 (hc) (Yi (Nz rfl) (yN ?_)))));exact .of_eq (show AV.tup [.agg (Am r),vb true]=G5 (AY x ⟨p,v⟩) by rw[hf])
  .intro hn;have hf:AY x ⟨p,v⟩=none:=by
    cases h:AY x ⟨p,v⟩with
    |none=>rfl
    |some r=>
     obtain⟨_,h2,h3⟩:=Cv h;exact absurd (Ar.2 ⟨r,h2,by simp_all⟩) (hn (.agg (Am r)))
   refine yN (yN (C1 (C2 (hz) (Yi (Nz rfl) (yN ?_)))));exact .of_eq (show AV.tup [.agg YI,vb false]=G5 (AY x ⟨p,v⟩) by rw[hf])
 .have T3:PC 51 [Jf x ifs] (.tup [.agg [.cmap OV [],.cmap Cc []],vi (At x)]):=by
   grind
  have hf:AY x ⟨p,v⟩=none:=by grind [AY]
  refine Ps (DB []) func40 rfl (Nz rfl) (yN (C1 (C2 (T3) (yN (yN (Yi ?_ ?_))))))
  .intro a ha;cases ha
  .intro _;refine yN (yN (C1 (C2 (hz) (Yi (Nz rfl) (yN ?_)))));exact .of_eq (show AV.tup [.agg YI,vb false]=G5 (AY x ⟨p,v⟩) by rw[hf])
abbrev EM(l:List Rl):AL:=(l.filter fun r=>!r.yanked).map fun r=>(plc r.ver,plc r.ver+1)
theorem dN(l:List Rl):(EM l).length<=l.length:=by
 grind
theorem kB{acc:List CS}{p:CS}:(acc.any fun q=>decide (q=p))=true↔p∈acc:=by
 simp_all
theorem HF:∀(x:List Rl) (acc:List CS) (p:CS),p∈AP x acc↔p∈acc\/∃r∈x,r.path=p
 | [],acc,p=>by simp[AP]
 |r::x,acc,p=>by
  rw[AP,HF x]
  grind
abbrev sV:M5:=(pT [] [(7,2)] [])
theorem Wf(L:List Rl)(i:Nat)(h:i<L.length):EM (L.take (i+1))=EM (L.take i)++(if L[i].yanked then []else [(plc L[i].ver,plc L[i].ver+1)]):=by
 unfold EM;rw[Dm,Ge h,HL,Bk]
 grind
theorem xi(T3:kb x ifs):PC 147 [Jf x ifs,vs p] (sl Ab (A9 x p)):=by
 by_cases h0:At x=0
 .have T3:PC 51 [Jf x ifs] (.tup [.agg [.cmap OV (x.map Ow),.cmap Cc ((AP x []).map (iZ x))],vi 0]):=by
   grind
  have L0:=(Fs h0).1;obtain⟨L,hLd⟩:∃L,L=x.filter fun r=>decide (r.path=p):=⟨_,rfl⟩;have hL:It x p=L:=by grind [It]
  have hLl:L.length<=256:=by grind
  refine Ps sV func147 rfl (Nz rfl) (yN (C1 (C2 (T3) (yN (Yi ?_ ?_)))))
  .intro a ha;have ea:a=sl Am L:=by grind
   subst ea;refine Xi {i:Nat // i<=L.length} (Xi (fun i=>⟨[(7,.slice (.id 7 2) ((EM (L.take i.1)).map Ab)),(18,sl Am L),(19,vi (L.map Am).length),(20,vi i.1)],[(7,.tok 2 ((EM (L.take i.1)).map Ab).length)],Af⟩) (Xi (fun i=>L.length-i.1) (Yi (Xi ⟨0,Al _⟩ ?_) ?_)))
   .exact⟨Z4,Z1,Fh,Tv⟩
   intro⟨i,i1⟩;have Uh:=dN (L.take i);rw[BW]at Uh;refine Yi ?_ ?_
   .intro h;have h:i<L.length:=by simp_all
    have hg:L[i]?=some L[i]:=Ge h;refine Xi (Am L[i]) (Yi (Yi Wk (by simp_all)) (Yi rfl ?_));refine Yi (Nz rfl) (yN (Yi ?_ ?_))
    .intro hy;refine Yi (by grind [Au]) ?_;have es:EM (L.take (i+1))=EM (L.take i):=by rw[Wf L i h,hy];simp
     have e1:AV.slice (.id 7 2) ((EM (L.take i)).map Ab)=.slice (.id 7 2) ((EM (L.take (i+1))).map Ab):=by rw[es]
     have e2:HO.tok 2 ((EM (L.take i)).map Ab).length=.tok 2 ((EM (L.take (i+1))).map Ab).length:=by rw[es]
     refine Xi ⟨i+1,by omega⟩ ?_;exact⟨by grind,⟨⟨e1,rfl⟩,Zr,Zr,Zr,Tv⟩,⟨⟨e2,rfl⟩,Tv⟩,Fh,Tv⟩
    .intro hy;have qw:=S0 L[i].ver;refine yN (C2 (c88 L[i]) (yN (C2 (c88 L[i]) (Yi (by grind [Au]) ?_))));have CY:Bh 2 [[vi (plc L[i].ver),vi (plc L[i].ver+1)]]/\((EM (L.take i)).map Ab).length=((EM (L.take i)).map Ab).length/\(((EM (L.take i)).map Ab).length+[[vi (plc L[i].ver),vi (plc L[i].ver+1)]].length)*16<=140737488355328/\((EM (L.take i)).map Ab).length+[[vi (plc L[i].ver),vi (plc L[i].ver+1)]].length<=9223372036854775807:=
      ⟨⟨rfl,trivial⟩,rfl,by grind,by grind⟩
     refine Yi CY (Yi aa2 (Yi (by grind [Au]) ?_));have es:EM (L.take (i+1))=EM (L.take i)++[(plc L[i].ver,plc L[i].ver+1)]:=by rw[Wf L i h,hy];simp
     have e1:AV.slice (.id 7 2) ((EM (L.take i)).map Ab++[[vi (plc L[i].ver),vi (plc L[i].ver+1)]])=.slice (.id 7 2) ((EM (L.take (i+1))).map Ab):=by simp_all
     have e2:HO.tok 2 (((EM (L.take i)).map Ab).length+[[vi (plc L[i].ver),vi (plc L[i].ver+1)]].length)=.tok 2 ((EM (L.take (i+1))).map Ab).length:=by simp_all
     refine Xi ⟨i+1,by omega⟩ ?_;exact⟨by grind,⟨⟨e1,rfl⟩,Zr,Zr,Zr,Tv⟩,⟨⟨e2,rfl⟩,Tv⟩,Fh,Tv⟩
   .intro h;have h:¬i<L.length:=by simp_all
    have et:L.take i=L:=A5 Wk;have hc:PC 221 [sl Ab (EM (L.take i))] (sl Ab (canon (EM (L.take i)))):=Za _ Wk;refine C1 (C2 (hc) ?_);exact .of_eq (show sl Ab (canon (EM (L.take i)))=sl Ab (A9 x p) by grind [A9])
  .intro hn;have hL:It x p=[]:=by
    rw[hL,hLd,List.filter_eq_nil_iff];intro r hr he;have he:=CA he;exact hn _ (Ar.2 ⟨p,(HF x [] p).2 (.inr ⟨r,hr,he⟩),rfl⟩)
   refine Xi Unit (Xi (fun _=>⟨[(7,.slice (.id 7 2) []),(19,vi 0),(20,vi 0)],[(7,.tok 2 0)],Af⟩) (Xi (fun _=>0) (Yi (Xi () ?_) ?_)))
   .exact⟨Z3,Z1,Fh,Tv⟩
   intro _;refine Yi ?_ ?_
   .intro h;exact absurd (show(0:Int)<0 from h) aa1
   intro _;have hc:PC 221 [sl Ab []] (sl Ab (canon [])):=Za [] (by simp_all);refine C1 (C2 (hc) ?_);exact .of_eq (show sl Ab (canon [])=sl Ab (A9 x p) by grind [A9])
 .have T3:PC 51 [Jf x ifs] (.tup [.agg [.cmap OV [],.cmap Cc []],vi (At x)]):=by
   grind
  have hL:It x p=[]:=by grind [It]
  refine Ps sV func147 rfl (Nz rfl) (yN (C1 (C2 (T3) (yN (Yi ?_ ?_)))))
  .intro a ha;cases ha
  .intro _;refine Xi Unit (Xi (fun _=>⟨[(7,.slice (.id 7 2) []),(19,vi 0),(20,vi 0)],[(7,.tok 2 0)],Af⟩) (Xi (fun _=>0) (Yi (Xi () ?_) ?_)))
   .exact⟨Z3,Z1,Fh,Tv⟩
   intro _;refine Yi ?_ ?_
   .intro h;exact absurd (show(0:Int)<0 from h) aa1
   intro _;have hc:PC 221 [sl Ab []] (sl Ab (canon [])):=Za [] (by simp_all);refine C1 (C2 (hc) ?_);exact .of_eq (show sl Ab (canon [])=sl Ab (A9 x p) by grind [A9])
theorem Ob:BO (A9 x p):=by
 grind [A9,E6,BG]
theorem Abo(T3:kb x ifs):oZ x ifs roots:=by
 intro d i;have h1:=xi x ifs i.path T3;have h2:=tM i.path (A9 x i.path) (Ob x i.path);refine Bj (I9 (DB [2])) [(1000,1000),(1001,1001)] rfl BI hm rfl func319 aa2 rfl (Nz rfl) aa2 rfl (yN (C2 (h1) (C2 (h2) (Yi aa2 (cU [(6,sl Ac (D7 i.path (A9 x i.path)))] [(1000,IY x ifs roots d),(1001,I4 d)] Z1 Z2 (Yi ?_ ?_))))))
 .intro h3;have h3:(0:Int)<((D7 i.path (A9 x i.path)).map Ac).length:=h3;have e:AV.tup [sl Ac (D7 i.path (A9 x i.path)),vb true]=Mc (OE (D7 i.path (A9 x i.path))):=aG h3;exact C2 (.refl _) (Yi e rfl)
 .intro h3;have h3:¬(0:Int)<((D7 i.path (A9 x i.path)).map Ac).length:=h3;have e:AV.tup [sl Ac (D7 i.path (A9 x i.path)),vb false]=Mc (OE (D7 i.path (A9 x i.path))):=fK h3;exact C2 (.refl _) (Yi e rfl)
theorem c77:PC 184 [.agg (Ae y),.cptr (Ad q)] (vb (decide (y.path=q.path))):=by
 refine Ps CX func184 rfl (Nz rfl) (Yi ?_ ?_)
 .intro h;have h:y.path=q.path:=h;exact .of_eq (Aa vb (Av h).symm)
 .intro h;have h:¬y.path=q.path:=h;exact .of_eq (Aa vb (Aq h).symm)
theorem c79:PC 186 [.agg (Ae y),.cptr [vs p]] (vb (decide (y.path=p))):=by
 refine Ps CX func186 rfl (Nz rfl) (Yi ?_ ?_)
 .intro h;have h:y.path=p:=h;exact .of_eq (Aa vb (Av h).symm)
 .intro h;have h:¬y.path=p:=h;exact .of_eq (Aa vb (Aq h).symm)
theorem c90(hq:BO q.set):PC 187 [.agg (Ad q),.cptr (Am r),.cptr [vi pl]] (vb (decide (q.path=r.path)&&!has q.set pl)):=by
 have hc:=t6 q.set pl hq;cases hh:has q.set pl with
 |true=>
  rw[hh]at hc;refine Ps CX func187 rfl (Nz rfl) (Yi ?_ ?_)
  .intro h;have h:q.path=r.path:=h;refine C1 (C2 (hc) ?_);exact .of_eq (Aa vb (show false=(decide (q.path=r.path)&&!true) by simp_all))
  .intro h;have h:¬q.path=r.path:=h;exact .of_eq (Aa vb (show false=(decide (q.path=r.path)&&!true) by simp_all))
 |false=>
  rw[hh]at hc;refine Ps CX func187 rfl (Nz rfl) (Yi ?_ ?_)
  .intro h;have h:q.path=r.path:=h;refine C1 (C2 (hc) ?_);exact .of_eq (Aa vb (show true=(decide (q.path=r.path)&&!false) by simp_all))
  .intro h;have h:¬q.path=r.path:=h;exact .of_eq (Aa vb (show false=(decide (q.path=r.path)&&!false) by simp_all))
abbrev jO:AV:=if Bb s=false then .tup [sl Am [],vi 1]else match FK x s with
 |none=>.tup [sl Am [],vi 6]
 |some l=>.tup [sl Am l,vi 0]
abbrev AdV:M5:=(pT [] [(7,9)] [7,11,13])
theorem zk(e:Int):Cj (.tup [nzA,vi e]) (.tup [.slice .none [],vi e]):=Cj.tup ⟨.nil,.refl _,trivial⟩
theorem c85(P:List (Value×AV))(h0:At x=0)(hs:BO s):PC 52 [.agg [.cmap OV (x.map Ow),.cmap Cc P],sl Ae s] (jO x s):=by
 unfold BO at hs;refine Ps AdV func52 rfl (Nz rfl) ?_;refine Xi {i:Nat // 1<=i/\(s=[]\/i<=s.length)/\Bb s=(match s[i-1]? with | none=>true | some y=>KL (some y.path) (s.drop i))} (Xi (fun i=>⟨[(1,sl Ae s),(2,.ref 2 0),(6,vi i.1)],[(2,.cells [.cmap OV (x.map Ow),.cmap Cc P])],Af⟩) (Xi (fun i=>s.length-i.1) (Yi (Xi ⟨1,Ap _,by grind,by cases s<;>rfl⟩ ?_) ?_)))
 .exact⟨Z3,Z1,Fh,Tv⟩
 intro⟨i,h1,h2,h3⟩;refine Yi ?_ ?_
 .intro h;have h:(i:Int)<(s.map Ae).length:=h;have h:i<s.length:=by simp_all
  have hg:s[i]?=some s[i]:=Ge h;have h' : i-1<s.length:=by omega
  have yx : s[i-1]?=some s[i-1]:=Ge h';have e1:((i:Int)-1).toNat=i-1:=by omega
  have mz:Bb s=(Ez s[i-1].path s[i].path&&KL (some s[i].path) (s.drop (i+1))):=by
   grind [ZZ]
  refine Yi (by grind [Au]) (Xi (Ae s[i-1]) (Yi (Yi (by grind) (by simp_all)) (Yi rfl ?_)));refine Xi (Ae s[i]) (Yi (Yi Wk (by simp_all)) (Yi rfl ?_));refine Yi ?_ ?_
  .intro h4;have h4:Op.bytesLess s[i-1].path.toList s[i].path.toList=false:=h4;rw[<-D1]at h4;refine Yi aa2 ?_;have e:AV.tup [.slice .none [],vi 1]=jO x s:=by grind
   exact(zk 1).trans (.of_eq e)
  .intro h4;have h4:¬Op.bytesLess s[i-1].path.toList s[i].path.toList=false:=h4;rw[<-D1,RC]at h4;refine Yi aa2 (Yi (by grind [Au]) (Xi ⟨i+1,by omega,.inr Wk,by simp_all⟩ ?_));exact⟨Dl s.length i Wk,Z3,Z1,Fh,Tv⟩
 intro h;have h:¬(i:Int)<(s.map Ae).length:=h;have h:¬i<s.length:=by simp_all
 have yB:Bb s=true:=by
  rcases h2 with h2 | h2
  .grind
  .have e:i=s.length:=by omega
   rw[h3,e,List.drop_length];cases s[s.length-1]?<;>rfl
 have es:jO x s=match FK x s with
  |none=>.tup [sl Am [],vi 6]
  |some l=>.tup [sl Am l,vi 0]:=by simp_all
 refine cU [(1,sl Ae s),(2,.ref 2 0),(7,.slice (.id 7 9) [])] [(2,.cells [.cmap OV (x.map Ow),.cmap Cc P]),(7,.tok 9 0)] Z3 Z2 (Xi {p:Nat×List Rl // p.1<=s.length/\p.2.length=p.1/\FK x s=(FK x (s.drop p.1)).map (p.2++·)} (Xi (fun p=>⟨[(2,.ref 2 0),(7,.slice (.id 7 9) (p.1.2.map Am)),(30,sl Ae s),(31,vi (s.map Ae).length),(32,vi p.1.1)],[(2,.cells [.cmap OV (x.map Ow),.cmap Cc P]),(7,.tok 9 (p.1.2.map Am).length)],Af⟩) (Xi (fun p=>s.length-p.1.1) (Yi (Xi ⟨(0,[]),Al _,rfl,by simp_all⟩ ?_) ?_))))
 .exact⟨Z5,Z2,Fh,Tv⟩
 intro⟨⟨j,l⟩,j1,j2,j3⟩;have j1:j<=s.length:=j1;have j2:l.length=j:=j2;have j3:FK x s=(FK x (s.drop j)).map (l++·):=j3;refine Yi ?_ ?_
 .intro hj;have hj:(j:Int)<(s.map Ae).length:=hj;have hj:j<s.length:=by simp_all
  have hg:s[j]?=some s[j]:=Ge hj;have hd:s.drop j=s[j]::s.drop (j+1):=Be hj;refine Xi (Ae s[j]) (Yi (Yi Wk (by grind)) (Yi rfl (Yi (Nz rfl) (yN (yN (Yi ?_ ?_))))))
  .intro a ha;refine Ao (Yd (y:=s[j]) ha) (fun r hr=>?_);have e:=hr.2.2;subst e;have hf:AY x s[j]=some r:=by grind [Zy]
   have j4:FK x s=(FK x (s.drop (j+1))).map ((l++[r])++·):=by
    rw[j3,hd,FK,hf]
    grind
   refine yN (cU [(2,.ref 2 0),(7,.slice (.id 7 9) (l.map Am)),(10,.ref 10 0),(11,vb true),(30,sl Ae s),(31,vi (s.map Ae).length),(32,vi j)] [(2,.cells [.cmap OV (x.map Ow),.cmap Cc P]),(7,.tok 9 (l.map Am).length),(10,.cells (Am r))] Z7 Z3 (cU [(2,.ref 2 0),(7,.slice (.id 7 9) (l.map Am)),(10,.ref 10 0),(30,sl Ae s),(31,vi (s.map Ae).length),(32,vi j)] [(2,.cells [.cmap OV (x.map Ow),.cmap Cc P]),(7,.tok 9 (l.map Am).length),(10,.cells (Am r))] Z6 Z3 (yN ?_)));have CY:Bh 9 [Am r]/\(l.map Am).length=(l.map Am).length/\((l.map Am).length+[Am r].length)*120<=140737488355328/\(l.map Am).length+[Am r].length<=9223372036854775807:=
    ⟨⟨rfl,trivial⟩,rfl,by grind,by grind⟩
   refine Yi CY (Yi (Ii j Wk) ?_);have e1:AV.slice (.id 7 9) (l.map Am++[Am r])=.slice (.id 7 9) ((l++[r]).map Am):=by grind
   have e2:HO.tok 9 ((l.map Am).length+[Am r].length)=.tok 9 ((l++[r]).map Am).length:=by grind
   refine Xi ⟨(j+1,l++[r]),by omega,by grind,j4⟩ ?_;exact⟨by grind,⟨Zr,⟨e1,rfl⟩,Zr,Zr,Zr,Tv⟩,⟨Zr,⟨e2,rfl⟩,Tv⟩,Fh,Tv⟩
  .intro hn;have hf:AY x s[j]=none:=by
    cases h:AY x s[j]with
    |none=>rfl
    |some r=>
     obtain⟨_,h2,h3⟩:=Cv h;exact absurd (Ar.2 ⟨r,h2,by grind⟩) (hn (.agg (Am r)))
   have j4:FK x s=none:=by grind [FK]
   refine yN (cU [(11,vb false)] [] Z1 Tv ?_)
   have e:AV.tup [.slice .none [],vi 6]=jO x s:=by grind
   exact(zk 6).trans (.of_eq e)
 .intro hj;have hj:¬(j:Int)<(s.map Ae).length:=hj;have hj:¬j<s.length:=by simp_all
  have j4:FK x s=some l:=by grind [FK]
  have e:AV.tup [sl Am l,vi 0]=jO x s:=by simp_all
  exact .of_eq e
abbrev MI:Value×AV:=(.string r.path,.agg (Am r))
theorem SQ{m:List Rl}{p:CS}(h:(Value.string p,a)∈m.map MI):∃r∈m,r.path=p/\a=.agg (Am r):=by
 grind
theorem HC:∀{m:List Rl},(m.map (·.path)).Nodup->∀{r:Rl},r∈m->m.find? (fun s=>decide (s.path=r.path))=some r
 |a::m,hn,r,hr=>by
  rw[Bo,GE]at hn;rw[HX];rcases AR.1 hr with rfl | hr
  .simp
  .have:¬a.path=r.path:=fun e=>hn.1 (Ar.2 ⟨r,hr,e.symm⟩)
   rw[Aq this];exact HC hn.2 hr
theorem c86(m:List Rl)(hn:(m.map (·.path)).Nodup)(q:Rq)(hq:BO q.set):PC 53 [.agg (Ad q),.cptr [.cmap Cc (m.map MI)]] (vb (B9 m q)):=by
 refine Ps (DB [2]) func53 rfl (Nz rfl) (Yi ?_ ?_)
 .intro a ha;refine Ao (SQ ha) (fun r hr=>?_);have e:=hr.2.2;subst e;have hf:m.find? (fun s=>decide (s.path=q.path))=some r:=by grind [HC]
  have hb:B9 m q=!has q.set (plc r.ver):=by grind [B9]
  have hc:=t6 q.set (plc r.ver) hq;refine yN (cU [(2,.ref 2 0),(4,.ref 4 0),(5,vb true)] [(2,.cells (Ad q)),(4,.cells (Am r))] Z3 Z2 (yN (C2 (c88 r) (Ax (Bt (has q.set (plc r.ver))) (fun e=>?_) (fun e=>?_)))))
  .rw[e]at hc;refine C2 (hc) (Yi aa2 ?_);exact .of_eq (Aa vb (show false=B9 m q by simp_all))
  .rw[e]at hc;refine C2 (hc) (Yi aa2 ?_);exact .of_eq (Aa vb (show true=B9 m q by simp_all))
 .intro PK;have hf:m.find? (fun s=>decide (s.path=q.path))=none:=by
   rw[List.find?_eq_none];intro r hr he;have he:=CA he;exact PK _ (Ar.2 ⟨r,hr,by rw[<-he]⟩)
  have hb:B9 m q=true:=by grind [B9]
  refine yN (cU [(2,.ref 2 0),(4,.ref 4 0),(5,vb false)] [(2,.cells (Ad q)),(4,.cells YI)] Z3 Z2 (Yi aa2 ?_));exact .of_eq (Aa vb hb.symm)
end Go.Eng
