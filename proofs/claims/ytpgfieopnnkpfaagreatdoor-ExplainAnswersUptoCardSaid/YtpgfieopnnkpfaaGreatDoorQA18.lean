/- Lemmas 18. -/
import Derived.Test.YtpgfieopnnkpfaaGreatDoorQA17
namespace Go.Eng
open Go.Proofs
variable {l:List Nf}{i:Nat}{a:AV}(x:List Rl)(ifs:List (List AV))(roots:List Rq)(d:List (List Tm))(y:Sl)(q:Rq)(s:List Sl)(r:Rl)(p:ByteArray)(pl nu le ri:Int)
abbrev gY:Prop:=∀(d:List (List Tm)) (i:Nf),
 Cq Tryz.prog 254 [.ref 1000 0,.agg (Aj i)] (Ar (M1 x ifs roots d) Af) fun r h'=>r=Ls (Rj (Gg i.path (B3 x i.path)))/\h'=Ar (M1 x ifs roots d) Af
abbrev Rw(i:Nf)(r:AV)(h' : Nat->HO):Prop:=
 r=vb (AP x roots d i).isSome/\∃d',h'=Ar (M1 x ifs roots d') Af/\∀t,AP x roots d i=some t->d'=d++[t]
theorem tL(hd:d.length<=65536)(hr:∀q∈roots,BB q.set) :
  Cq Tryz.prog 117 [.ref 1000 0,.agg (Aj ⟨0,p,pl,nu,le,ri⟩)] (Ar (M1 x ifs roots d) Af) fun r h'=>Rw x ifs roots d ⟨0,p,pl,nu,le,ri⟩ r h':=by
 have iV:AP x roots d ⟨0,p,pl,nu,le,ri⟩=if p=mt/\pl=0/\le=0/\ri=0 then(Di roots nu).map Li else none:=rfl
 by_cases hc:p=mt/\pl=0/\le=0/\ri=0
 .have iW:AP x roots d ⟨0,p,pl,nu,le,ri⟩=(Di roots nu).map Li:=by simp_all
  have Jw:=xM x ifs roots d ⟨0,p,pl,nu,le,ri⟩ hr;cases ho:(Di roots nu).map Li with
  |none=>
   have Gl:AP x roots d ⟨0,p,pl,nu,le,ri⟩=none:=by simp_all
   rw[ho]at Jw;refine BO (Mt (Dc [3,4,6])) [(1000,1000),(1001,1001)] rfl B8 hm rfl Tryz.func117 aa3 rfl (Nz rfl) aa3 rfl (Yi ?_ ?_)
   .intro h;exact absurd (show(0:Int)<0 from h) aa2
   intro _;refine Yi ?_ ?_
   .intro h;exact absurd (show(3:Int)<0 from h) aa2
   intro _;refine cU [(0,.ref 1000 0),(3,.ref 3 0)] [(3,.cells (Aj ⟨0,p,pl,nu,le,ri⟩)),(1000,Iq x ifs roots d),(1001,Iw d)] Z2 Z3 (Xi _ (Yi (QU) (Yi ⟨by omega,by omega⟩ ?_)));refine Yi (Nz rfl) (yN (Yi aa3 (cU [(0,.ref 1000 0),(3,.ref 3 0),(5,.ref 5 0)] [(3,.cells (Aj ⟨0,p,pl,nu,le,ri⟩)),(5,.cells [.v (Hc 249),.v (Hc 250)]),(1000,Iq x ifs roots d),(1001,Iw d)] Z3 Z4 (yN (Xi _ (Yi (qi ⟨0,p,pl,nu,le,ri⟩) (Yi ?_ ?_)))))))
   rotate_left
   .intro h6;have he:ZA [vi 0,vs p,vi pl,vi 0,vi le,vi ri] [vi 0,vs mt,vi 0,vi 0,vi 0,vi 0]:=⟨rfl,hc.1,hc.2.1,rfl,hc.2.2.1,hc.2.2.2,trivial⟩;exact absurd he h6
   intro _;refine Yi aa3 (cU [(0,.ref 1000 0),(3,.ref 3 0),(5,.ref 5 0)] [(3,.cells (Aj ⟨0,p,pl,nu,le,ri⟩)),(5,.cells [.v (Hc 249),.v (Hc 250)]),(1000,Iq x ifs roots d),(1001,Iw d)] Z3 Z4 (yN (Xi (.gen [(1000,1000),(1001,1001)] 0) (Yi rfl (Jw.imp ?_)))));intro v1 g1 q1;have Tl:=q1.1;have Tn:=q1.2;subst Tl;subst Tn;have CM:AZ 1 [Ap []]/\(d.map Ap).length=(d.map Ap).length/\((d.map Ap).length+[Ap []].length)*24<=140737488355328/\(d.map Ap).length+[Ap []].length<=9223372036854775807:=
    ⟨⟨rfl,trivial⟩,rfl,by rw[Lm,AS];omega,by rw[Lm,AS];omega⟩
   refine Yi CM (yN ?_);have eh:Ar [(1000,HO.cells [sl Ak x,.slice .none ifs,sl Ad roots,.slice (.id 1001 1) (d.map Ap++[Ap []])]),(1001,.tok 1 ((d.map Ap).length+[Ap []].length))] Af=Ar (M1 x ifs roots (d++[[]])) Af:=by
    simp[M1,Iq,mR,Iw]
   have er:vb false=vb (AP x roots d ⟨0,p,pl,nu,le,ri⟩).isSome:=by rw[Gl];rfl
   exact Xi _ (Yi (.refl _) (Yi er (Xi (d++[[]]) (Yi eh (fun t ht=>by rw[Gl]at ht;cases ht)))))
  |some tt=>
   have Gl:AP x roots d ⟨0,p,pl,nu,le,ri⟩=some tt:=by simp_all
   rw[ho]at Jw;refine BO (Mt (Dc [3,4,6])) [(1000,1000),(1001,1001)] rfl B8 hm rfl Tryz.func117 aa3 rfl (Nz rfl) aa3 rfl (Yi ?_ ?_)
   .intro h;exact absurd (show(0:Int)<0 from h) aa2
   intro _;refine Yi ?_ ?_
   .intro h;exact absurd (show(3:Int)<0 from h) aa2
   intro _;refine cU [(0,.ref 1000 0),(3,.ref 3 0)] [(3,.cells (Aj ⟨0,p,pl,nu,le,ri⟩)),(1000,Iq x ifs roots d),(1001,Iw d)] Z2 Z3 (Xi _ (Yi (QU) (Yi ⟨by omega,by omega⟩ ?_)));refine Yi (Nz rfl) (yN (Yi aa3 (cU [(0,.ref 1000 0),(3,.ref 3 0),(5,.ref 5 0)] [(3,.cells (Aj ⟨0,p,pl,nu,le,ri⟩)),(5,.cells [.v (Hc 249),.v (Hc 250)]),(1000,Iq x ifs roots d),(1001,Iw d)] Z3 Z4 (yN (Xi _ (Yi (qi ⟨0,p,pl,nu,le,ri⟩) (Yi ?_ ?_)))))))
   rotate_left
   .intro h6;have he:ZA [vi 0,vs p,vi pl,vi 0,vi le,vi ri] [vi 0,vs mt,vi 0,vi 0,vi 0,vi 0]:=⟨rfl,hc.1,hc.2.1,rfl,hc.2.2.1,hc.2.2.2,trivial⟩;exact absurd he h6
   intro _;refine Yi aa3 (cU [(0,.ref 1000 0),(3,.ref 3 0),(5,.ref 5 0)] [(3,.cells (Aj ⟨0,p,pl,nu,le,ri⟩)),(5,.cells [.v (Hc 249),.v (Hc 250)]),(1000,Iq x ifs roots d),(1001,Iw d)] Z3 Z4 (yN (Xi (.gen [(1000,1000),(1001,1001)] 0) (Yi rfl (Jw.imp ?_)))));intro v1 g1 q1;have Tl:=q1.1;have Tn:=q1.2;subst Tl;subst Tn;have CM:AZ 1 [Ap tt]/\(d.map Ap).length=(d.map Ap).length/\((d.map Ap).length+[Ap tt].length)*24<=140737488355328/\(d.map Ap).length+[Ap tt].length<=9223372036854775807:=
    ⟨⟨rfl,trivial⟩,rfl,by rw[Lm,AS];omega,by rw[Lm,AS];omega⟩
   refine Yi CM (yN ?_);have eh:Ar [(1000,HO.cells [sl Ak x,.slice .none ifs,sl Ad roots,.slice (.id 1001 1) (d.map Ap++[Ap tt])]),(1001,.tok 1 ((d.map Ap).length+[Ap tt].length))] Af=Ar (M1 x ifs roots (d++[tt])) Af:=by
    simp[M1,Iq,mR,Iw]
   have er:vb true=vb (AP x roots d ⟨0,p,pl,nu,le,ri⟩).isSome:=by rw[Gl];rfl
   exact Xi _ (Yi (.refl _) (Yi er (Xi (d++[tt]) (Yi eh (fun t ht=>by rw[Gl]at ht;cases ht;rfl)))))
 .have Gl:AP x roots d ⟨0,p,pl,nu,le,ri⟩=none:=by simp_all
  refine BO (Mt (Dc [3,4,6])) [(1000,1000),(1001,1001)] rfl B8 hm rfl Tryz.func117 aa3 rfl (Nz rfl) aa3 rfl (Yi ?_ ?_)
  .intro h;exact absurd (show(0:Int)<0 from h) aa2
  intro _;refine Yi ?_ ?_
  .intro h;exact absurd (show(3:Int)<0 from h) aa2
  intro _;refine cU [(0,.ref 1000 0),(3,.ref 3 0)] [(3,.cells (Aj ⟨0,p,pl,nu,le,ri⟩)),(1000,Iq x ifs roots d),(1001,Iw d)] Z2 Z3 (Xi _ (Yi (QU) (Yi ⟨by omega,by omega⟩ ?_)));refine Yi (Nz rfl) (yN (Yi aa3 (cU [(0,.ref 1000 0),(3,.ref 3 0),(5,.ref 5 0)] [(3,.cells (Aj ⟨0,p,pl,nu,le,ri⟩)),(5,.cells [.v (Hc 249),.v (Hc 250)]),(1000,Iq x ifs roots d),(1001,Iw d)] Z3 Z4 (yN (Xi _ (Yi (qi ⟨0,p,pl,nu,le,ri⟩) (Yi ?_ ?_)))))))
  .intro h6;exact absurd (show p=mt/\pl=0/\le=0/\ri=0 from⟨h6.2.1,h6.2.2.1,h6.2.2.2.2.1,h6.2.2.2.2.2.1⟩) hc
  intro _;refine Yi aa3 ?_;have er:vb false=vb (AP x roots d ⟨0,p,pl,nu,le,ri⟩).isSome:=by rw[Gl];rfl
  exact Xi _ (Yi (.refl _) (Yi er (Xi d (Yi rfl (fun t ht=>by rw[Gl]at ht;cases ht)))))
theorem tM(hd:d.length<=65536)(hx:BB x)(hq:∀r∈x,∀q∈r.reqs,BB q.set) :
  Cq Tryz.prog 117 [.ref 1000 0,.agg (Aj ⟨1,p,pl,nu,le,ri⟩)] (Ar (M1 x ifs roots d) Af) fun r h'=>Rw x ifs roots d ⟨1,p,pl,nu,le,ri⟩ r h':=by
 have iV:AP x roots d ⟨1,p,pl,nu,le,ri⟩=if le=0/\ri=0 then Ud x ⟨1,p,pl,nu,le,ri⟩else none:=rfl
 by_cases hc:le=0/\ri=0
 .have iW:AP x roots d ⟨1,p,pl,nu,le,ri⟩=Ud x ⟨1,p,pl,nu,le,ri⟩:=by simp_all
  have Jw:=xN x ifs roots d ⟨1,p,pl,nu,le,ri⟩ hx hq;cases ho:Ud x ⟨1,p,pl,nu,le,ri⟩with
  |none=>
   have Gl:AP x roots d ⟨1,p,pl,nu,le,ri⟩=none:=by simp_all
   rw[ho]at Jw;refine BO (Mt (Dc [3,4,6])) [(1000,1000),(1001,1001)] rfl B8 hm rfl Tryz.func117 aa3 rfl (Nz rfl) aa3 rfl (Yi ?_ ?_)
   .intro h;exact absurd (show(1:Int)<0 from h) aa2
   intro _;refine Yi ?_ ?_
   .intro h;exact absurd (show(3:Int)<1 from h) aa2
   intro _;refine cU [(0,.ref 1000 0),(3,.ref 3 0)] [(3,.cells (Aj ⟨1,p,pl,nu,le,ri⟩)),(1000,Iq x ifs roots d),(1001,Iw d)] Z2 Z3 (Xi _ (Yi (QU) (Yi ⟨by omega,by omega⟩ ?_)));refine Yi (Nz rfl) (yN (Yi aa3 (cU [(0,.ref 1000 0),(3,.ref 3 0),(5,.ref 5 0)] [(3,.cells (Aj ⟨1,p,pl,nu,le,ri⟩)),(5,.cells [.v (Hc 251),.v (Hc 252)]),(1000,Iq x ifs roots d),(1001,Iw d)] Z3 Z4 (yN (Xi _ (Yi (qj ⟨1,p,pl,nu,le,ri⟩) (Yi ?_ ?_)))))))
   rotate_left
   .intro h6;have he:ZA [vi 1,vs mt,vi 0,vi 0,vi le,vi ri] [vi 1,vs mt,vi 0,vi 0,vi 0,vi 0]:=⟨rfl,rfl,rfl,rfl,hc.1,hc.2,trivial⟩;exact absurd he h6
   intro _;refine Yi aa3 (cU [(0,.ref 1000 0),(3,.ref 3 0),(5,.ref 5 0)] [(3,.cells (Aj ⟨1,p,pl,nu,le,ri⟩)),(5,.cells [.v (Hc 251),.v (Hc 252)]),(1000,Iq x ifs roots d),(1001,Iw d)] Z3 Z4 (yN (Xi (.gen [(1000,1000),(1001,1001)] 0) (Yi rfl (Jw.imp ?_)))));intro v1 g1 q1;have Tl:=q1.1;have Tn:=q1.2;subst Tl;subst Tn;have CM:AZ 1 [Ap []]/\(d.map Ap).length=(d.map Ap).length/\((d.map Ap).length+[Ap []].length)*24<=140737488355328/\(d.map Ap).length+[Ap []].length<=9223372036854775807:=
    ⟨⟨rfl,trivial⟩,rfl,by rw[Lm,AS];omega,by rw[Lm,AS];omega⟩
   refine Yi CM (yN ?_);have eh:Ar [(1000,HO.cells [sl Ak x,.slice .none ifs,sl Ad roots,.slice (.id 1001 1) (d.map Ap++[Ap []])]),(1001,.tok 1 ((d.map Ap).length+[Ap []].length))] Af=Ar (M1 x ifs roots (d++[[]])) Af:=by
    simp[M1,Iq,mR,Iw]
   have er:vb false=vb (AP x roots d ⟨1,p,pl,nu,le,ri⟩).isSome:=by rw[Gl];rfl
   exact Xi _ (Yi (.refl _) (Yi er (Xi (d++[[]]) (Yi eh (fun t ht=>by rw[Gl]at ht;cases ht)))))
  |some tt=>
   have Gl:AP x roots d ⟨1,p,pl,nu,le,ri⟩=some tt:=by simp_all
   rw[ho]at Jw;refine BO (Mt (Dc [3,4,6])) [(1000,1000),(1001,1001)] rfl B8 hm rfl Tryz.func117 aa3 rfl (Nz rfl) aa3 rfl (Yi ?_ ?_)
   .intro h;exact absurd (show(1:Int)<0 from h) aa2
   intro _;refine Yi ?_ ?_
   .intro h;exact absurd (show(3:Int)<1 from h) aa2
   intro _;refine cU [(0,.ref 1000 0),(3,.ref 3 0)] [(3,.cells (Aj ⟨1,p,pl,nu,le,ri⟩)),(1000,Iq x ifs roots d),(1001,Iw d)] Z2 Z3 (Xi _ (Yi (QU) (Yi ⟨by omega,by omega⟩ ?_)));refine Yi (Nz rfl) (yN (Yi aa3 (cU [(0,.ref 1000 0),(3,.ref 3 0),(5,.ref 5 0)] [(3,.cells (Aj ⟨1,p,pl,nu,le,ri⟩)),(5,.cells [.v (Hc 251),.v (Hc 252)]),(1000,Iq x ifs roots d),(1001,Iw d)] Z3 Z4 (yN (Xi _ (Yi (qj ⟨1,p,pl,nu,le,ri⟩) (Yi ?_ ?_)))))))
   rotate_left
   .intro h6;have he:ZA [vi 1,vs mt,vi 0,vi 0,vi le,vi ri] [vi 1,vs mt,vi 0,vi 0,vi 0,vi 0]:=⟨rfl,rfl,rfl,rfl,hc.1,hc.2,trivial⟩;exact absurd he h6
   intro _;refine Yi aa3 (cU [(0,.ref 1000 0),(3,.ref 3 0),(5,.ref 5 0)] [(3,.cells (Aj ⟨1,p,pl,nu,le,ri⟩)),(5,.cells [.v (Hc 251),.v (Hc 252)]),(1000,Iq x ifs roots d),(1001,Iw d)] Z3 Z4 (yN (Xi (.gen [(1000,1000),(1001,1001)] 0) (Yi rfl (Jw.imp ?_)))));intro v1 g1 q1;have Tl:=q1.1;have Tn:=q1.2;subst Tl;subst Tn;have CM:AZ 1 [Ap tt]/\(d.map Ap).length=(d.map Ap).length/\((d.map Ap).length+[Ap tt].length)*24<=140737488355328/\(d.map Ap).length+[Ap tt].length<=9223372036854775807:=
    ⟨⟨rfl,trivial⟩,rfl,by rw[Lm,AS];omega,by rw[Lm,AS];omega⟩
   refine Yi CM (yN ?_);have eh:Ar [(1000,HO.cells [sl Ak x,.slice .none ifs,sl Ad roots,.slice (.id 1001 1) (d.map Ap++[Ap tt])]),(1001,.tok 1 ((d.map Ap).length+[Ap tt].length))] Af=Ar (M1 x ifs roots (d++[tt])) Af:=by
    simp[M1,Iq,mR,Iw]
   have er:vb true=vb (AP x roots d ⟨1,p,pl,nu,le,ri⟩).isSome:=by rw[Gl];rfl
   exact Xi _ (Yi (.refl _) (Yi er (Xi (d++[tt]) (Yi eh (fun t ht=>by rw[Gl]at ht;cases ht;rfl)))))
 .have Gl:AP x roots d ⟨1,p,pl,nu,le,ri⟩=none:=by simp_all
  refine BO (Mt (Dc [3,4,6])) [(1000,1000),(1001,1001)] rfl B8 hm rfl Tryz.func117 aa3 rfl (Nz rfl) aa3 rfl (Yi ?_ ?_)
  .intro h;exact absurd (show(1:Int)<0 from h) aa2
  intro _;refine Yi ?_ ?_
  .intro h;exact absurd (show(3:Int)<1 from h) aa2
  intro _;refine cU [(0,.ref 1000 0),(3,.ref 3 0)] [(3,.cells (Aj ⟨1,p,pl,nu,le,ri⟩)),(1000,Iq x ifs roots d),(1001,Iw d)] Z2 Z3 (Xi _ (Yi (QU) (Yi ⟨by omega,by omega⟩ ?_)));refine Yi (Nz rfl) (yN (Yi aa3 (cU [(0,.ref 1000 0),(3,.ref 3 0),(5,.ref 5 0)] [(3,.cells (Aj ⟨1,p,pl,nu,le,ri⟩)),(5,.cells [.v (Hc 251),.v (Hc 252)]),(1000,Iq x ifs roots d),(1001,Iw d)] Z3 Z4 (yN (Xi _ (Yi (qj ⟨1,p,pl,nu,le,ri⟩) (Yi ?_ ?_)))))))
  .intro h6;exact absurd (show le=0/\ri=0 from⟨h6.2.2.2.2.1,h6.2.2.2.2.2.1⟩) hc
  intro _;refine Yi aa3 ?_;have er:vb false=vb (AP x roots d ⟨1,p,pl,nu,le,ri⟩).isSome:=by rw[Gl];rfl
  exact Xi _ (Yi (.refl _) (Yi er (Xi d (Yi rfl (fun t ht=>by rw[Gl]at ht;cases ht)))))
theorem tN(hd:d.length<=65536)(nA:gY x ifs roots) :
  Cq Tryz.prog 117 [.ref 1000 0,.agg (Aj ⟨2,p,pl,nu,le,ri⟩)] (Ar (M1 x ifs roots d) Af) fun r h'=>Rw x ifs roots d ⟨2,p,pl,nu,le,ri⟩ r h':=by
 have iV:AP x roots d ⟨2,p,pl,nu,le,ri⟩=if pl=0/\nu=0/\le=0/\ri=0 then Rj (Gg p (B3 x p))else none:=rfl
 by_cases hc:pl=0/\nu=0/\le=0/\ri=0
 .have iW:AP x roots d ⟨2,p,pl,nu,le,ri⟩=Rj (Gg p (B3 x p)):=by simp_all
  have Jw:=nA d ⟨2,p,pl,nu,le,ri⟩;cases ho:Rj (Gg p (B3 x p))with
  |none=>
   have Gl:AP x roots d ⟨2,p,pl,nu,le,ri⟩=none:=by simp_all
   rw[ho]at Jw;refine BO (Mt (Dc [3,4,6])) [(1000,1000),(1001,1001)] rfl B8 hm rfl Tryz.func117 aa3 rfl (Nz rfl) aa3 rfl (Yi ?_ ?_)
   .intro h;exact absurd (show(2:Int)<0 from h) aa2
   intro _;refine Yi ?_ ?_
   .intro h;exact absurd (show(3:Int)<2 from h) aa2
   intro _;refine cU [(0,.ref 1000 0),(3,.ref 3 0)] [(3,.cells (Aj ⟨2,p,pl,nu,le,ri⟩)),(1000,Iq x ifs roots d),(1001,Iw d)] Z2 Z3 (Xi _ (Yi (QU) (Yi ⟨by omega,by omega⟩ ?_)));refine Yi (Nz rfl) (yN (Yi aa3 (cU [(0,.ref 1000 0),(3,.ref 3 0),(5,.ref 5 0)] [(3,.cells (Aj ⟨2,p,pl,nu,le,ri⟩)),(5,.cells [.v (Hc 253),.v (Hc 254)]),(1000,Iq x ifs roots d),(1001,Iw d)] Z3 Z4 (yN (Xi _ (Yi (qk ⟨2,p,pl,nu,le,ri⟩) (Yi ?_ ?_)))))))
   rotate_left
   .intro h6;have he:ZA [vi 2,vs mt,vi pl,vi nu,vi le,vi ri] [vi 2,vs mt,vi 0,vi 0,vi 0,vi 0]:=⟨rfl,rfl,hc.1,hc.2.1,hc.2.2.1,hc.2.2.2,trivial⟩;exact absurd he h6
   intro _;refine Yi aa3 (cU [(0,.ref 1000 0),(3,.ref 3 0),(5,.ref 5 0)] [(3,.cells (Aj ⟨2,p,pl,nu,le,ri⟩)),(5,.cells [.v (Hc 253),.v (Hc 254)]),(1000,Iq x ifs roots d),(1001,Iw d)] Z3 Z4 (yN (Xi (.gen [(1000,1000),(1001,1001)] 0) (Yi rfl (Jw.imp ?_)))));intro v1 g1 q1;have Tl:=q1.1;have Tn:=q1.2;subst Tl;subst Tn;have CM:AZ 1 [Ap []]/\(d.map Ap).length=(d.map Ap).length/\((d.map Ap).length+[Ap []].length)*24<=140737488355328/\(d.map Ap).length+[Ap []].length<=9223372036854775807:=
    ⟨⟨rfl,trivial⟩,rfl,by rw[Lm,AS];omega,by rw[Lm,AS];omega⟩
   refine Yi CM (yN ?_);have eh:Ar [(1000,HO.cells [sl Ak x,.slice .none ifs,sl Ad roots,.slice (.id 1001 1) (d.map Ap++[Ap []])]),(1001,.tok 1 ((d.map Ap).length+[Ap []].length))] Af=Ar (M1 x ifs roots (d++[[]])) Af:=by
    simp[M1,Iq,mR,Iw]
   have er:vb false=vb (AP x roots d ⟨2,p,pl,nu,le,ri⟩).isSome:=by rw[Gl];rfl
   exact Xi _ (Yi (.refl _) (Yi er (Xi (d++[[]]) (Yi eh (fun t ht=>by rw[Gl]at ht;cases ht)))))
  |some tt=>
   have Gl:AP x roots d ⟨2,p,pl,nu,le,ri⟩=some tt:=by simp_all
   rw[ho]at Jw;refine BO (Mt (Dc [3,4,6])) [(1000,1000),(1001,1001)] rfl B8 hm rfl Tryz.func117 aa3 rfl (Nz rfl) aa3 rfl (Yi ?_ ?_)
   .intro h;exact absurd (show(2:Int)<0 from h) aa2
   intro _;refine Yi ?_ ?_
   .intro h;exact absurd (show(3:Int)<2 from h) aa2
   intro _;refine cU [(0,.ref 1000 0),(3,.ref 3 0)] [(3,.cells (Aj ⟨2,p,pl,nu,le,ri⟩)),(1000,Iq x ifs roots d),(1001,Iw d)] Z2 Z3 (Xi _ (Yi (QU) (Yi ⟨by omega,by omega⟩ ?_)));refine Yi (Nz rfl) (yN (Yi aa3 (cU [(0,.ref 1000 0),(3,.ref 3 0),(5,.ref 5 0)] [(3,.cells (Aj ⟨2,p,pl,nu,le,ri⟩)),(5,.cells [.v (Hc 253),.v (Hc 254)]),(1000,Iq x ifs roots d),(1001,Iw d)] Z3 Z4 (yN (Xi _ (Yi (qk ⟨2,p,pl,nu,le,ri⟩) (Yi ?_ ?_)))))))
   rotate_left
   .intro h6;have he:ZA [vi 2,vs mt,vi pl,vi nu,vi le,vi ri] [vi 2,vs mt,vi 0,vi 0,vi 0,vi 0]:=⟨rfl,rfl,hc.1,hc.2.1,hc.2.2.1,hc.2.2.2,trivial⟩;exact absurd he h6
   intro _;refine Yi aa3 (cU [(0,.ref 1000 0),(3,.ref 3 0),(5,.ref 5 0)] [(3,.cells (Aj ⟨2,p,pl,nu,le,ri⟩)),(5,.cells [.v (Hc 253),.v (Hc 254)]),(1000,Iq x ifs roots d),(1001,Iw d)] Z3 Z4 (yN (Xi (.gen [(1000,1000),(1001,1001)] 0) (Yi rfl (Jw.imp ?_)))));intro v1 g1 q1;have Tl:=q1.1;have Tn:=q1.2;subst Tl;subst Tn;have CM:AZ 1 [Ap tt]/\(d.map Ap).length=(d.map Ap).length/\((d.map Ap).length+[Ap tt].length)*24<=140737488355328/\(d.map Ap).length+[Ap tt].length<=9223372036854775807:=
    ⟨⟨rfl,trivial⟩,rfl,by rw[Lm,AS];omega,by rw[Lm,AS];omega⟩
   refine Yi CM (yN ?_);have eh:Ar [(1000,HO.cells [sl Ak x,.slice .none ifs,sl Ad roots,.slice (.id 1001 1) (d.map Ap++[Ap tt])]),(1001,.tok 1 ((d.map Ap).length+[Ap tt].length))] Af=Ar (M1 x ifs roots (d++[tt])) Af:=by
    simp[M1,Iq,mR,Iw]
   have er:vb true=vb (AP x roots d ⟨2,p,pl,nu,le,ri⟩).isSome:=by rw[Gl];rfl
   exact Xi _ (Yi (.refl _) (Yi er (Xi (d++[tt]) (Yi eh (fun t ht=>by rw[Gl]at ht;cases ht;rfl)))))
 .have Gl:AP x roots d ⟨2,p,pl,nu,le,ri⟩=none:=by simp_all
  refine BO (Mt (Dc [3,4,6])) [(1000,1000),(1001,1001)] rfl B8 hm rfl Tryz.func117 aa3 rfl (Nz rfl) aa3 rfl (Yi ?_ ?_)
  .intro h;exact absurd (show(2:Int)<0 from h) aa2
  intro _;refine Yi ?_ ?_
  .intro h;exact absurd (show(3:Int)<2 from h) aa2
  intro _;refine cU [(0,.ref 1000 0),(3,.ref 3 0)] [(3,.cells (Aj ⟨2,p,pl,nu,le,ri⟩)),(1000,Iq x ifs roots d),(1001,Iw d)] Z2 Z3 (Xi _ (Yi (QU) (Yi ⟨by omega,by omega⟩ ?_)));refine Yi (Nz rfl) (yN (Yi aa3 (cU [(0,.ref 1000 0),(3,.ref 3 0),(5,.ref 5 0)] [(3,.cells (Aj ⟨2,p,pl,nu,le,ri⟩)),(5,.cells [.v (Hc 253),.v (Hc 254)]),(1000,Iq x ifs roots d),(1001,Iw d)] Z3 Z4 (yN (Xi _ (Yi (qk ⟨2,p,pl,nu,le,ri⟩) (Yi ?_ ?_)))))))
  .intro h6;exact absurd (show pl=0/\nu=0/\le=0/\ri=0 from⟨h6.2.2.1,h6.2.2.2.1,h6.2.2.2.2.1,h6.2.2.2.2.2.1⟩) hc
  intro _;refine Yi aa3 ?_;have er:vb false=vb (AP x roots d ⟨2,p,pl,nu,le,ri⟩).isSome:=by rw[Gl];rfl
  exact Xi _ (Yi (.refl _) (Yi er (Xi d (Yi rfl (fun t ht=>by rw[Gl]at ht;cases ht)))))
theorem tO(hd:d.length<=65536)(hi:∀t∈d,Xo t) :
  Cq Tryz.prog 117 [.ref 1000 0,.agg (Aj ⟨3,p,pl,nu,le,ri⟩)] (Ar (M1 x ifs roots d) Af) fun r h'=>Rw x ifs roots d ⟨3,p,pl,nu,le,ri⟩ r h':=by
 have iV:AP x roots d ⟨3,p,pl,nu,le,ri⟩=if pl=0/\nu=0 then Tq d ⟨3,p,pl,nu,le,ri⟩else none:=rfl
 by_cases hc:pl=0/\nu=0
 .have iW:AP x roots d ⟨3,p,pl,nu,le,ri⟩=Tq d ⟨3,p,pl,nu,le,ri⟩:=by simp_all
  have Jw:=xO x ifs roots d ⟨3,p,pl,nu,le,ri⟩ hi;cases ho:Tq d ⟨3,p,pl,nu,le,ri⟩with
  |none=>
   have Gl:AP x roots d ⟨3,p,pl,nu,le,ri⟩=none:=by simp_all
   rw[ho]at Jw;refine BO (Mt (Dc [3,4,6])) [(1000,1000),(1001,1001)] rfl B8 hm rfl Tryz.func117 aa3 rfl (Nz rfl) aa3 rfl (Yi ?_ ?_)
   .intro h;exact absurd (show(3:Int)<0 from h) aa2
   intro _;refine Yi ?_ ?_
   .intro h;exact absurd (show(3:Int)<3 from h) aa2
   intro _;refine cU [(0,.ref 1000 0),(3,.ref 3 0)] [(3,.cells (Aj ⟨3,p,pl,nu,le,ri⟩)),(1000,Iq x ifs roots d),(1001,Iw d)] Z2 Z3 (Xi _ (Yi (QU) (Yi ⟨by omega,by omega⟩ ?_)));refine Yi (Nz rfl) (yN (Yi aa3 (cU [(0,.ref 1000 0),(3,.ref 3 0),(5,.ref 5 0)] [(3,.cells (Aj ⟨3,p,pl,nu,le,ri⟩)),(5,.cells [.v (Hc 255),.v (Hc 256)]),(1000,Iq x ifs roots d),(1001,Iw d)] Z3 Z4 (yN (Xi _ (Yi (ql ⟨3,p,pl,nu,le,ri⟩) (Yi ?_ ?_)))))))
   rotate_left
   .intro h6;have he:ZA [vi 3,vs mt,vi pl,vi nu,vi 0,vi 0] [vi 3,vs mt,vi 0,vi 0,vi 0,vi 0]:=⟨rfl,rfl,hc.1,hc.2,rfl,rfl,trivial⟩;exact absurd he h6
   intro _;refine Yi aa3 (cU [(0,.ref 1000 0),(3,.ref 3 0),(5,.ref 5 0)] [(3,.cells (Aj ⟨3,p,pl,nu,le,ri⟩)),(5,.cells [.v (Hc 255),.v (Hc 256)]),(1000,Iq x ifs roots d),(1001,Iw d)] Z3 Z4 (yN (Xi (.gen [(1000,1000),(1001,1001)] 0) (Yi rfl (Jw.imp ?_)))));intro v1 g1 q1;have Tl:=q1.1;have Tn:=q1.2;subst Tl;subst Tn;have CM:AZ 1 [Ap []]/\(d.map Ap).length=(d.map Ap).length/\((d.map Ap).length+[Ap []].length)*24<=140737488355328/\(d.map Ap).length+[Ap []].length<=9223372036854775807:=
    ⟨⟨rfl,trivial⟩,rfl,by rw[Lm,AS];omega,by rw[Lm,AS];omega⟩
   refine Yi CM (yN ?_);have eh:Ar [(1000,HO.cells [sl Ak x,.slice .none ifs,sl Ad roots,.slice (.id 1001 1) (d.map Ap++[Ap []])]),(1001,.tok 1 ((d.map Ap).length+[Ap []].length))] Af=Ar (M1 x ifs roots (d++[[]])) Af:=by
    simp[M1,Iq,mR,Iw]
   have er:vb false=vb (AP x roots d ⟨3,p,pl,nu,le,ri⟩).isSome:=by rw[Gl];rfl
   exact Xi _ (Yi (.refl _) (Yi er (Xi (d++[[]]) (Yi eh (fun t ht=>by rw[Gl]at ht;cases ht)))))
  |some tt=>
   have Gl:AP x roots d ⟨3,p,pl,nu,le,ri⟩=some tt:=by simp_all
   rw[ho]at Jw;refine BO (Mt (Dc [3,4,6])) [(1000,1000),(1001,1001)] rfl B8 hm rfl Tryz.func117 aa3 rfl (Nz rfl) aa3 rfl (Yi ?_ ?_)
   .intro h;exact absurd (show(3:Int)<0 from h) aa2
   intro _;refine Yi ?_ ?_
   .intro h;exact absurd (show(3:Int)<3 from h) aa2
   intro _;refine cU [(0,.ref 1000 0),(3,.ref 3 0)] [(3,.cells (Aj ⟨3,p,pl,nu,le,ri⟩)),(1000,Iq x ifs roots d),(1001,Iw d)] Z2 Z3 (Xi _ (Yi (QU) (Yi ⟨by omega,by omega⟩ ?_)));refine Yi (Nz rfl) (yN (Yi aa3 (cU [(0,.ref 1000 0),(3,.ref 3 0),(5,.ref 5 0)] [(3,.cells (Aj ⟨3,p,pl,nu,le,ri⟩)),(5,.cells [.v (Hc 255),.v (Hc 256)]),(1000,Iq x ifs roots d),(1001,Iw d)] Z3 Z4 (yN (Xi _ (Yi (ql ⟨3,p,pl,nu,le,ri⟩) (Yi ?_ ?_)))))))
   rotate_left
   .intro h6;have he:ZA [vi 3,vs mt,vi pl,vi nu,vi 0,vi 0] [vi 3,vs mt,vi 0,vi 0,vi 0,vi 0]:=⟨rfl,rfl,hc.1,hc.2,rfl,rfl,trivial⟩;exact absurd he h6
   intro _;refine Yi aa3 (cU [(0,.ref 1000 0),(3,.ref 3 0),(5,.ref 5 0)] [(3,.cells (Aj ⟨3,p,pl,nu,le,ri⟩)),(5,.cells [.v (Hc 255),.v (Hc 256)]),(1000,Iq x ifs roots d),(1001,Iw d)] Z3 Z4 (yN (Xi (.gen [(1000,1000),(1001,1001)] 0) (Yi rfl (Jw.imp ?_)))));intro v1 g1 q1;have Tl:=q1.1;have Tn:=q1.2;subst Tl;subst Tn;have CM:AZ 1 [Ap tt]/\(d.map Ap).length=(d.map Ap).length/\((d.map Ap).length+[Ap tt].length)*24<=140737488355328/\(d.map Ap).length+[Ap tt].length<=9223372036854775807:=
    ⟨⟨rfl,trivial⟩,rfl,by rw[Lm,AS];omega,by rw[Lm,AS];omega⟩
   refine Yi CM (yN ?_);have eh:Ar [(1000,HO.cells [sl Ak x,.slice .none ifs,sl Ad roots,.slice (.id 1001 1) (d.map Ap++[Ap tt])]),(1001,.tok 1 ((d.map Ap).length+[Ap tt].length))] Af=Ar (M1 x ifs roots (d++[tt])) Af:=by
    simp[M1,Iq,mR,Iw]
   have er:vb true=vb (AP x roots d ⟨3,p,pl,nu,le,ri⟩).isSome:=by rw[Gl];rfl
   exact Xi _ (Yi (.refl _) (Yi er (Xi (d++[tt]) (Yi eh (fun t ht=>by rw[Gl]at ht;cases ht;rfl)))))
 .have Gl:AP x roots d ⟨3,p,pl,nu,le,ri⟩=none:=by simp_all
  refine BO (Mt (Dc [3,4,6])) [(1000,1000),(1001,1001)] rfl B8 hm rfl Tryz.func117 aa3 rfl (Nz rfl) aa3 rfl (Yi ?_ ?_)
  .intro h;exact absurd (show(3:Int)<0 from h) aa2
  intro _;refine Yi ?_ ?_
  .intro h;exact absurd (show(3:Int)<3 from h) aa2
  intro _;refine cU [(0,.ref 1000 0),(3,.ref 3 0)] [(3,.cells (Aj ⟨3,p,pl,nu,le,ri⟩)),(1000,Iq x ifs roots d),(1001,Iw d)] Z2 Z3 (Xi _ (Yi (QU) (Yi ⟨by omega,by omega⟩ ?_)));refine Yi (Nz rfl) (yN (Yi aa3 (cU [(0,.ref 1000 0),(3,.ref 3 0),(5,.ref 5 0)] [(3,.cells (Aj ⟨3,p,pl,nu,le,ri⟩)),(5,.cells [.v (Hc 255),.v (Hc 256)]),(1000,Iq x ifs roots d),(1001,Iw d)] Z3 Z4 (yN (Xi _ (Yi (ql ⟨3,p,pl,nu,le,ri⟩) (Yi ?_ ?_)))))))
  .intro h6;exact absurd (show pl=0/\nu=0 from⟨h6.2.2.1,h6.2.2.2.1⟩) hc
  intro _;refine Yi aa3 ?_;have er:vb false=vb (AP x roots d ⟨3,p,pl,nu,le,ri⟩).isSome:=by rw[Gl];rfl
  exact Xi _ (Yi (.refl _) (Yi er (Xi d (Yi rfl (fun t ht=>by rw[Gl]at ht;cases ht)))))
theorem c66(i:Nf)(hd:d.length<=65536)(hr:∀q∈roots,BB q.set)(hx:BB x)(hq:∀r∈x,∀q∈r.reqs,BB q.set)(nA:gY x ifs roots)(hi:∀t∈d,Xo t) :
  Cq Tryz.prog 117 [.ref 1000 0,.agg (Aj i)] (Ar (M1 x ifs roots d) Af) fun r h'=>Rw x ifs roots d i r h':=by
 obtain⟨k,p,pl,nu,le,ri⟩:=i
 by_cases h0:k=0
 .grind [tL]
 by_cases h1:k=1
 .grind [tM]
 by_cases h2:k=2
 .grind [tN]
 by_cases h3:k=3
 .grind [tO]
 have Gl:AP x roots d ⟨k,p,pl,nu,le,ri⟩=none:=by
  show(if k=0 then _ else if k=1 then _ else if k=2 then _ else if k=3 then _ else none)=none;simp_all
 have er:vb false=vb (AP x roots d ⟨k,p,pl,nu,le,ri⟩).isSome:=by simp_all
 refine BO (Mt Cu) [(1000,1000),(1001,1001)] rfl B8 hm rfl Tryz.func117 aa3 rfl (Nz rfl) aa3 rfl (Yi ?_ ?_)
 .intro _;exact Xi _ (Yi (.refl _) (Yi er (Xi d (Yi rfl (fun t ht=>by simp_all)))))
 intro h4;have h4:¬k<0:=h4;refine Yi ?_ ?_
 .intro _;exact Xi _ (Yi (.refl _) (Yi er (Xi d (Yi rfl (fun t ht=>by simp_all)))))
 intro h5;have h5:¬3<k:=h5;omega
theorem O2{l:List Rq}(h:Ba l=0):l.length<=16:=by
 grind [Ba]
theorem Fs{x:List Rl}(h:AD x=0):x.length<=256/\∀r∈x,r.reqs.length<=16:=by
 have h1:x.length<=256:=by
  grind [AD]
 exact⟨h1,fun r hr=>O2 ((D0 h).1 r hr).reqs⟩
theorem X6{x:List Rl}(h:∀r∈x,r.reqs.length<=16):((x.map (·.reqs)).flatten).length<=x.length*16:=by
 induction x<;>grind
theorem Jh{x:List Rl}{roots:List Rq}(h1:AD x=0)(h2:Ba roots=0)(h3:l.length<=65536):(Fk x roots l).length<=100000:=by
 grind [Fs,X6,O2,Fk]
theorem TR.fewI{U:List ByteArray}{t:List Tm}(h:TR U t)(hu:U.length<=100000):Xo t:=
 ⟨by have:=h.len;omega,fun u hu=>GG (h.1.canon u hu)⟩
abbrev Uy(l:List Nf):AV:=
 if(Ax x roots l).2=0 then .tup [.cptr (BF x (.slice .none ifs) roots (Ax x roots l).1),vi 0]else .tup [.v (.pointer none),vi (Ax x roots l).2]
theorem J9{x:List Rl}{ifs:List (List AV)}{roots:List Rq}{e:Int}{d:List (List Tm)}(h:Ax x roots l=(d,e))(he:e≠0):AV.tup [.v (.pointer none),vi e]=Uy x ifs roots l:=by
 grind
theorem XR{x:List Rl}{ifs:List (List AV)}{roots:List Rq}{d:List (List Tm)}(h:Ax x roots l=(d,0)):AV.tup [.cptr (BF x (.slice .none ifs) roots d),vi 0]=Uy x ifs roots l:=by
 grind
theorem Wm{x:List Rl}{roots:List Rq}{d:List (List Tm)}(h:i<l.length)(hg:Bu x roots (l.take i) []=some d) :
  Bu x roots (l.take (i+1)) []=match AP x roots d l[i]with | none=>none | some t=>some (d++[t]):=by
 grind [List.take_add_one,Bu,ET]
theorem cl{x:List Rl}{roots:List Rq}(h:Bu x roots (l.take i) []=none):Bu x roots l []=none:=by
 grind [List.take_append_drop,ET]
abbrev Aav:Nm:=⟨[],[],[],[],[25],[],[],[(26,(25,3,901,1))],[],[],[3,5,9]⟩
theorem yz(l:List Nf)(hx:∀r∈x,F3 r)(hr:∀q∈roots,Lw q)(nA:AD x=0->gY x ifs roots):PC 62 [.agg (Ic x ifs),sl Ad roots,sl Aj l] (Uy x ifs roots l):=by
 have ed:Ax x roots l=if AD x≠0\/Ba roots≠0 then([],(1:Int))else if 65536<l.length then([],(7:Int))else match Bu x roots l []with | none=>([],(18:Int)) | some d=>(d,(0:Int)):=rfl
 refine Ps Aav Tryz.func62 rfl (Nz rfl) (yN (Xi .pure (Xi _ (Yi (yD iz x ifs hx) (Yi ?_ ?_)))))
 .intro h;have h:AD x≠0:=h;exact .of_eq (J9 (by rw[ed,AE (.inl h)]) aa2)
 intro h1;have h1:¬AD x≠0:=h1;refine Xi .pure (Xi _ (Yi (c65 iz roots hr) (Yi ?_ ?_)))
 .intro h;have h:Ba roots≠0:=h;exact .of_eq (J9 (by rw[ed,AE (.inr h)]) aa2)
 intro h2;have h2:¬Ba roots≠0:=h2;have e1:=Gr h1;have e2:=Gr h2;refine cU [(1,sl Ad roots),(2,sl Aj l),(3,.ref 3 0)] [(3,.cells (Ic x ifs))] Z3 Z1 (Yi ?_ ?_)
 .intro h;have h:(65536:Int)<(l.map Aj).length:=h;exact .of_eq (J9 (by rw[ed,Aw aa0,AE (by grind)]) aa2)
 intro h;have h:¬(65536:Int)<(l.map Aj).length:=h;have h3:l.length<=65536:=by grind
 have ed2:Ax x roots l=match Bu x roots l []with | none=>([],(18:Int)) | some d=>(d,(0:Int)):=by grind
 have hU:=Jh (x:=x) (roots:=roots) (l:=l) e1 e2 h3;have qU:=Fs e1;refine cU [(1,sl Ad roots),(2,sl Aj l),(3,.ref 3 0)] [(3,.cells (Ic x ifs))] Z3 Z1 (yN (Xi {p:Nat×List (List Tm) // p.1<=l.length/\Bu x roots (l.take p.1) []=some p.2/\p.2.length=p.1/\∀t∈p.2,TR (Fk x roots l) t} (Xi (fun p=>⟨[(8,.ref 25 0),(26,sl Aj l),(27,vi (l.map Aj).length),(28,vi p.1.1)],[(25,.cells [sl Ak x,.slice .none ifs,sl Ad roots,.slice (.id 901 1) (p.1.2.map Ap)]),(901,.tok 1 (p.1.2.map Ap).length)],Af⟩) (Xi (fun p=>l.length-p.1.1) (Yi (Xi ⟨(0,[]),Ao _,rfl,rfl,fun t ht=>by cases ht⟩ ?_) ?_)))))
 .exact⟨Z4,Z2,Fh,Tv⟩
 intro⟨⟨i,d⟩,i1,i2,i3,i4⟩;have i1:i<=l.length:=i1;have i2:Bu x roots (l.take i) []=some d:=i2;have i3:d.length=i:=i3;have i4:∀t∈d,TR (Fk x roots l) t:=i4;refine Yi ?_ ?_
 .intro h;have h:(i:Int)<(l.map Aj).length:=h;have h:i<l.length:=by simp_all
  have hg:l[i]?=some l[i]:=Ge h;refine Xi (Aj l[i]) (Yi (Yi aa0 (by simp_all)) (Yi rfl ?_));refine Yi (Nz rfl) (yN (cU [(8,.ref 25 0),(10,.ref 10 0),(26,sl Aj l),(27,vi (l.map Aj).length),(28,vi i)] [(10,.cells (Aj l[i])),(25,.cells [sl Ak x,.slice .none ifs,sl Ad roots,.slice (.id 901 1) (d.map Ap)]),(901,.tok 1 (d.map Ap).length)] Z5 Z3 (yN ?_)));have DV:=c66 x ifs roots d l[i] aa0 (fun q hq=>(hr q hq).1) aa0 (fun r Xg q hq=>((hx r Xg).2 q hq).1) (nA e1) (fun t ht=>(i4 t ht).fewI hU);have l5:=Wm h i2;cases eW:AP x roots d l[i]with
  |none=>
   refine Xi (.gen [(25,1000),(901,1001)] 0) (Yi rfl (DV.imp ?_));intro v g q;have q1:v=vb false:=by simp_all
   refine Am q.2 (fun d' q2=>?_);have rW:=q2.1;subst q1;subst rW;rw[eW]at l5;have hn:Bu x roots l []=none:=cl l5;exact .of_eq (J9 (by rw[ed2,hn]) aa2)
  |some t=>
   refine Xi (.gen [(25,1000),(901,1001)] 0) (Yi rfl (DV.imp ?_));intro v g q;have q1:v=vb true:=by simp_all
   refine Am q.2 (fun d' q2=>?_);have rW:=q2.1;have w7:=q2.2 t eW;subst q1;subst rW;rw[eW]at l5;refine Yi (Ii i aa0) ?_;have Pf:=PE (Ah h) i4 eW;refine Xi ⟨(i+1,d'),by omega,by simp_all,by simp_all,fun u hu=>?_⟩ ?_
   .grind
   .exact⟨Dl l.length i aa0,Z4,Z2,Fh,Tv⟩
 .intro h;have h:¬(i:Int)<(l.map Aj).length:=h;have h:¬i<l.length:=by simp_all
  have hn:Bu x roots l []=some d:=by grind
  exact .of_eq (XR (by simp_all))
theorem RU{x:List Rl}{roots:List Rq}(h:(Ax x roots l).2≠0):(Ax x roots l).1=[]:=by
 grind [Ax]
theorem KG{x:List Rl}{roots:List Rq}:(Ax x roots l).1.length<=65536:=by
 grind [Ax,Hv,List.length_nil]
abbrev Ck:Prop:=(∀r∈x,F3 r)/\(∀q∈roots,Lw q)/\(AD x=0->gY x ifs roots)
abbrev Jx:AV:=.agg (Ic x ifs)
theorem c12(l:List Nf)(hk:Ck x ifs roots):PC 27 [Jx x ifs,sl Ad roots,sl Aj l] (.tup [sl Ap (Ax x roots l).1,vi (Ax x roots l).2]):=by
 have hc:=yz x ifs roots l hk.1 hk.2.1 hk.2.2;unfold Uy at hc
 by_cases h:(Ax x roots l).2=0
 .rw[AE h]at hc;refine Ps Cu Tryz.func27 rfl (Nz rfl) (yN (Xi .pure (Xi _ (Yi (hc) (Yi ?_ ?_)))))
  .intro h;exact absurd rfl h
  intro _;exact .of_eq (show AV.tup [sl Ap (Ax x roots l).1,vi 0]=.tup [sl Ap (Ax x roots l).1,vi (Ax x roots l).2] by rw[h])
 .rw[Aw h]at hc;have e:AV.tup [.slice .none [],vi (Ax x roots l).2]=.tup [sl Ap (Ax x roots l).1,vi (Ax x roots l).2]:=by grind [RU]
  have e0:DC (.tup [nzA,vi (Ax x roots l).2]) (.tup [.slice .none [],vi (Ax x roots l).2]):=DC.tup ⟨.nil,.refl _,trivial⟩;refine Ps Cu Tryz.func27 rfl (Nz rfl) (yN (Xi .pure (Xi _ (Yi (hc) (Yi ?_ ?_)))))
  .intro _;exact e0.trans (.of_eq e)
  .intro h2;exact absurd h h2
abbrev N2:EE:=⟨true,[.str,.int .i64,.int .i64,.int .i64]⟩
abbrev UY:Value:=.agg #[.string y.path,.int .i64 y.ver.a,.int .i64 y.ver.b,.int .i64 y.ver.c]
abbrev NH:Value×AV:=(UY (Cn r),.agg (Ak r))
def Bx:List Rl->List ByteArray->List ByteArray
 | [],acc=>acc
 |r::x,acc=>Bx x (if acc.any (fun p=>decide (p=r.path))then acc else acc++[r.path])
abbrev fu:Value×AV:=(.string p,sl Ak (x.filter fun r=>decide (r.path=p)))
abbrev sa:AV:=if AD x=0 then .tup [.agg [.cmap N2 (x.map NH),.cmap Fl ((Bx x []).map (fu x))],vi 0]else .tup [.agg [.cmap N2 [],.cmap Fl []],vi (AD x)]
abbrev bK:Prop:=PC 138 [Jx x ifs] (sa x)
theorem yJ:PC 213 [.agg Xn] (.agg Xn):=by
 refine Ps Cu Tryz.func213 rfl (Nz rfl) (yN (Xi Unit (Xi (fun _=>⟨[(1,.ref 1 0),(2,.ref 2 0),(10,vi 0),(11,vi 0)],[(1,.cells Xn),(2,.cells Xn)],Af⟩) (Xi (fun _=>0) (Yi (Xi () ?_) ?_)))))
 .exact⟨Z4,Z2,Fh,Tv⟩
 intro _;refine Yi ?_ ?_
 .intro h;exact absurd (show(0:Int)<0 from h) aa2
 .intro _;refine Yi (Nz rfl) (Yi (Nz rfl) (yN ?_));exact .refl _
theorem om{y z:Sl}(h:UY y=UY z):y=z:=by
 obtain⟨p,⟨a,b,c⟩⟩:=y<;>simp_all
theorem WG{x:List Rl}{y:Sl}(h:(UY y,a)∈x.map NH):∃r∈x,Cn r=y/\a=.agg (Ak r):=by
 grind [om]
theorem X5{x:List Rl}(hx:AD x=0){r:Rl}(hr:r∈x):Bl x (Cn r)=some r:=by
 unfold Bl;rw[Aw aa0];cases h:x.find? (fun s=>decide (Cn s=Cn r))with
 |none=>
  grind
 |some s=>
  have h1:=Jr h;simp only[Bg]at h1;have hs:=Cw h;have hp:=(D0 hx).2
  grind [List.mem_iff_getElem,List.pairwise_iff_getElem,SY]
theorem c53(v:Ver)(Pe:bK x ifs)(hx:∀r∈x,F3 r):PC 148 [Jx x ifs,vs p,.agg (Dt v)] (Hf (Bl x ⟨p,v⟩)):=by
 have hz:=yJ
 by_cases h0:AD x=0
 .have Pe:PC 138 [Jx x ifs] (.tup [.agg [.cmap N2 (x.map NH),.cmap Fl ((Bx x []).map (fu x))],vi 0]):=by
   grind
  refine Ps (Dc []) Tryz.func148 rfl (Nz rfl) (yN (Xi .pure (Xi _ (Yi (Pe) (yN (yN (Yi ?_ ?_)))))))
  .intro a ha;refine Am (WG (y:=⟨p,v⟩) ha) (fun r hr=>?_);have e:=hr.2.2;subst e;have hf:Bl x ⟨p,v⟩=some r:=by grind [X5]
   have UQ:=(Fs h0).2 r hr.1;have hc:=c98 r aa0 (fun q hq=>((hx r hr.1).2 q hq).1);refine yN (yN (Xi .pure (Xi _ (Yi (hc) (Yi (Nz rfl) (yN ?_))))));exact .of_eq (show AV.tup [.agg (Ak r),vb true]=Hf (Bl x ⟨p,v⟩) by rw[hf])
  .intro hn;have hf:Bl x ⟨p,v⟩=none:=by
    cases h:Bl x ⟨p,v⟩with
    |none=>rfl
    |some r=>
     obtain⟨_,h2,h3⟩:=Cs h;exact absurd (Ay.2 ⟨r,h2,by simp_all⟩) (hn (.agg (Ak r)))
   refine yN (yN (Xi .pure (Xi _ (Yi (hz) (Yi (Nz rfl) (yN ?_))))));exact .of_eq (show AV.tup [.agg Xn,vb false]=Hf (Bl x ⟨p,v⟩) by rw[hf])
 .have Pe:PC 138 [Jx x ifs] (.tup [.agg [.cmap N2 [],.cmap Fl []],vi (AD x)]):=by
   grind
  have hf:Bl x ⟨p,v⟩=none:=by grind [Bl]
  refine Ps (Dc []) Tryz.func148 rfl (Nz rfl) (yN (Xi .pure (Xi _ (Yi (Pe) (yN (yN (Yi ?_ ?_)))))))
  .intro a ha;cases ha
  .intro _;refine yN (yN (Xi .pure (Xi _ (Yi (hz) (Yi (Nz rfl) (yN ?_))))));exact .of_eq (show AV.tup [.agg Xn,vb false]=Hf (Bl x ⟨p,v⟩) by rw[hf])
abbrev Eo(l:List Rl):AF:=(l.filter fun r=>!r.yanked).map fun r=>(plc r.ver,plc r.ver+1)
theorem bD(l:List Rl):(Eo l).length<=l.length:=by
 grind
theorem ig{acc:List ByteArray}{p:ByteArray}:(acc.any fun q=>decide (q=p))=true↔p∈acc:=by
 simp_all
theorem L9:∀(x:List Rl) (acc:List ByteArray) (p:ByteArray),p∈Bx x acc↔p∈acc\/∃r∈x,r.path=p
 | [],acc,p=>by simp[Bx]
 |r::x,acc,p=>by
  rw[Bx,L9 x]
  grind
abbrev pR:Nm:=(pT [] [(7,2)] [])
theorem Uw(L:List Rl)(i:Nat)(h:i<L.length):Eo (L.take (i+1))=Eo (L.take i)++(if L[i].yanked then []else [(plc L[i].ver,plc L[i].ver+1)]):=by
 unfold Eo;rw[B9,Ge h,CG,AB]
 grind
theorem x5(Pe:bK x ifs):PC 307 [Jx x ifs,vs p] (sl Ab (B3 x p)):=by
 by_cases h0:AD x=0
 .have Pe:PC 138 [Jx x ifs] (.tup [.agg [.cmap N2 (x.map NH),.cmap Fl ((Bx x []).map (fu x))],vi 0]):=by
   grind
  have Mw:=(Fs h0).1;obtain⟨L,hLd⟩:∃L,L=x.filter fun r=>decide (r.path=p):=⟨_,rfl⟩;have hL:Jf x p=L:=by grind [Jf]
  have hLl:L.length<=256:=by grind
  refine Ps pR Tryz.func307 rfl (Nz rfl) (yN (Xi .pure (Xi _ (Yi (Pe) (yN (Yi ?_ ?_))))))
  .intro a ha;have ea:a=sl Ak L:=by grind
   subst ea;refine Xi {i:Nat // i<=L.length} (Xi (fun i=>⟨[(7,.slice (.id 7 2) ((Eo (L.take i.1)).map Ab)),(18,sl Ak L),(19,vi (L.map Ak).length),(20,vi i.1)],[(7,.tok 2 ((Eo (L.take i.1)).map Ab).length)],Af⟩) (Xi (fun i=>L.length-i.1) (Yi (Xi ⟨0,Ao _⟩ ?_) ?_)))
   .exact⟨Z4,Z1,Fh,Tv⟩
   intro⟨i,i1⟩;have cB:=bD (L.take i);rw[AC]at cB;refine Yi ?_ ?_
   .intro h;have h:i<L.length:=by simp_all
    have hg:L[i]?=some L[i]:=Ge h;refine Xi (Ak L[i]) (Yi (Yi aa0 (by simp_all)) (Yi rfl ?_));refine Yi (Nz rfl) (yN (Yi ?_ ?_))
    .intro hy;refine Yi (by grind [Al]) ?_;have es:Eo (L.take (i+1))=Eo (L.take i):=by rw[Uw L i h,hy];simp
     have e1:AV.slice (.id 7 2) ((Eo (L.take i)).map Ab)=.slice (.id 7 2) ((Eo (L.take (i+1))).map Ab):=by rw[es]
     have e2:HO.tok 2 ((Eo (L.take i)).map Ab).length=.tok 2 ((Eo (L.take (i+1))).map Ab).length:=by rw[es]
     refine Xi ⟨i+1,by omega⟩ ?_;exact⟨by grind,⟨⟨e1,rfl⟩,Zr,Zr,Zr,Tv⟩,⟨⟨e2,rfl⟩,Tv⟩,Fh,Tv⟩
    .intro hy;have cA:=Rn L[i].ver;refine yN (Xi _ (Yi (yH L[i]) (yN (Xi _ (Yi (yH L[i]) (Yi (by grind [Al]) ?_))))));have CM:AZ 2 [[vi (plc L[i].ver),vi (plc L[i].ver+1)]]/\((Eo (L.take i)).map Ab).length=((Eo (L.take i)).map Ab).length/\(((Eo (L.take i)).map Ab).length+[[vi (plc L[i].ver),vi (plc L[i].ver+1)]].length)*16<=140737488355328/\((Eo (L.take i)).map Ab).length+[[vi (plc L[i].ver),vi (plc L[i].ver+1)]].length<=9223372036854775807:=
      ⟨⟨rfl,trivial⟩,rfl,by grind,by grind⟩
     refine Yi CM (Yi aa3 (Yi (by grind [Al]) ?_));have es:Eo (L.take (i+1))=Eo (L.take i)++[(plc L[i].ver,plc L[i].ver+1)]:=by rw[Uw L i h,hy];simp
     have e1:AV.slice (.id 7 2) ((Eo (L.take i)).map Ab++[[vi (plc L[i].ver),vi (plc L[i].ver+1)]])=.slice (.id 7 2) ((Eo (L.take (i+1))).map Ab):=by simp_all
     have e2:HO.tok 2 (((Eo (L.take i)).map Ab).length+[[vi (plc L[i].ver),vi (plc L[i].ver+1)]].length)=.tok 2 ((Eo (L.take (i+1))).map Ab).length:=by simp_all
     refine Xi ⟨i+1,by omega⟩ ?_;exact⟨by grind,⟨⟨e1,rfl⟩,Zr,Zr,Zr,Tv⟩,⟨⟨e2,rfl⟩,Tv⟩,Fh,Tv⟩
   .intro h;have h:¬i<L.length:=by simp_all
    have et:L.take i=L:=AK aa0;have hc:PC 119 [sl Ab (Eo (L.take i))] (sl Ab (canon (Eo (L.take i)))):=V1 _ aa0;refine Xi .pure (Xi _ (Yi (hc) ?_));exact .of_eq (show sl Ab (canon (Eo (L.take i)))=sl Ab (B3 x p) by grind [B3])
  .intro hn;have hL:Jf x p=[]:=by
    rw[hL,hLd,List.filter_eq_nil_iff];intro r hr he;have he:=DR he;exact hn _ (Ay.2 ⟨p,(L9 x [] p).2 (.inr ⟨r,hr,he⟩),rfl⟩)
   refine Xi Unit (Xi (fun _=>⟨[(7,.slice (.id 7 2) []),(19,vi 0),(20,vi 0)],[(7,.tok 2 0)],Af⟩) (Xi (fun _=>0) (Yi (Xi () ?_) ?_)))
   .exact⟨Z3,Z1,Fh,Tv⟩
   intro _;refine Yi ?_ ?_
   .intro h;exact absurd (show(0:Int)<0 from h) aa2
   intro _;have hc:PC 119 [sl Ab []] (sl Ab (canon [])):=V1 [] (by simp_all);refine Xi .pure (Xi _ (Yi (hc) ?_));exact .of_eq (show sl Ab (canon [])=sl Ab (B3 x p) by grind [B3])
 .have Pe:PC 138 [Jx x ifs] (.tup [.agg [.cmap N2 [],.cmap Fl []],vi (AD x)]):=by
   grind
  have hL:Jf x p=[]:=by grind [Jf]
  refine Ps pR Tryz.func307 rfl (Nz rfl) (yN (Xi .pure (Xi _ (Yi (Pe) (yN (Yi ?_ ?_))))))
  .intro a ha;cases ha
  .intro _;refine Xi Unit (Xi (fun _=>⟨[(7,.slice (.id 7 2) []),(19,vi 0),(20,vi 0)],[(7,.tok 2 0)],Af⟩) (Xi (fun _=>0) (Yi (Xi () ?_) ?_)))
   .exact⟨Z3,Z1,Fh,Tv⟩
   intro _;refine Yi ?_ ?_
   .intro h;exact absurd (show(0:Int)<0 from h) aa2
   intro _;have hc:PC 119 [sl Ab []] (sl Ab (canon [])):=V1 [] (by simp_all);refine Xi .pure (Xi _ (Yi (hc) ?_));exact .of_eq (show sl Ab (canon [])=sl Ab (B3 x p) by grind [B3])
theorem ZP:BB (B3 x p):=by
 grind [B3,CK,Bc]
theorem mK(Pe:bK x ifs):gY x ifs roots:=by
 intro d i;have h1:=x5 x ifs i.path Pe;have h2:=xZ i.path (B3 x i.path) (ZP x i.path);refine BO (Mt (Dc [2])) [(1000,1000),(1001,1001)] rfl B8 hm rfl Tryz.func254 aa3 rfl (Nz rfl) aa3 rfl (yN (Xi _ (Yi (h1) (Xi _ (Yi (h2) (Yi aa3 (cU [(6,sl Ac (Gg i.path (B3 x i.path)))] [(1000,Iq x ifs roots d),(1001,Iw d)] Z1 Z2 (Yi ?_ ?_))))))))
 .intro h3;have h3:(0:Int)<((Gg i.path (B3 x i.path)).map Ac).length:=h3;have e:AV.tup [sl Ac (Gg i.path (B3 x i.path)),vb true]=Ls (Rj (Gg i.path (B3 x i.path))):=YS h3;exact Xi _ (Yi (.refl _) (Yi e rfl))
 .intro h3;have h3:¬(0:Int)<((Gg i.path (B3 x i.path)).map Ac).length:=h3;have e:AV.tup [sl Ac (Gg i.path (B3 x i.path)),vb false]=Ls (Rj (Gg i.path (B3 x i.path))):=cL h3;exact Xi _ (Yi (.refl _) (Yi e rfl))
theorem c77:PC 146 [.agg (Ae y),.cptr (Ad q)] (vb (decide (y.path=q.path))):=by
 refine Ps Cu Tryz.func146 rfl (Nz rfl) (Yi ?_ ?_)
 .intro h;have h:y.path=q.path:=h;exact .of_eq (Aa vb (A4 h).symm)
 .intro h;have h:¬y.path=q.path:=h;exact .of_eq (Aa vb (AU h).symm)
theorem c79:PC 147 [.agg (Ae y),.cptr [vs p]] (vb (decide (y.path=p))):=by
 refine Ps Cu Tryz.func147 rfl (Nz rfl) (Yi ?_ ?_)
 .intro h;have h:y.path=p:=h;exact .of_eq (Aa vb (A4 h).symm)
 .intro h;have h:¬y.path=p:=h;exact .of_eq (Aa vb (AU h).symm)
theorem c90(hq:BB q.set):PC 150 [.agg (Ad q),.cptr (Ak r),.cptr [vi pl]] (vb (decide (q.path=r.path)&&!has q.set pl)):=by
 have hc:=yG q.set pl hq;cases hh:has q.set pl with
 |true=>
  rw[hh]at hc;refine Ps Cu Tryz.func150 rfl (Nz rfl) (Yi ?_ ?_)
  .intro h;have h:q.path=r.path:=h;refine Xi .pure (Xi _ (Yi (hc) ?_));exact .of_eq (Aa vb (show false=(decide (q.path=r.path)&&!true) by simp_all))
  .intro h;have h:¬q.path=r.path:=h;exact .of_eq (Aa vb (show false=(decide (q.path=r.path)&&!true) by simp_all))
 |false=>
  rw[hh]at hc;refine Ps Cu Tryz.func150 rfl (Nz rfl) (Yi ?_ ?_)
  .intro h;have h:q.path=r.path:=h;refine Xi .pure (Xi _ (Yi (hc) ?_));exact .of_eq (Aa vb (show true=(decide (q.path=r.path)&&!false) by simp_all))
  .intro h;have h:¬q.path=r.path:=h;exact .of_eq (Aa vb (show false=(decide (q.path=r.path)&&!false) by simp_all))
abbrev gq:AV:=if Bb s=false then .tup [sl Ak [],vi 1]else match Fy x s with
 |none=>.tup [sl Ak [],vi 6]
 |some l=>.tup [sl Ak l,vi 0]
abbrev Aay:Nm:=(pT [] [(7,9)] [7,11,13])
theorem vP(e:Int):DC (.tup [nzA,vi e]) (.tup [.slice .none [],vi e]):=DC.tup ⟨.nil,.refl _,trivial⟩
theorem c85(P:List (Value×AV))(h0:AD x=0)(hs:BB s):PC 139 [.agg [.cmap N2 (x.map NH),.cmap Fl P],sl Ae s] (gq x s):=by
 unfold BB at hs;refine Ps Aay Tryz.func139 rfl (Nz rfl) ?_;refine Xi {i:Nat // 1<=i/\(s=[]\/i<=s.length)/\Bb s=(match s[i-1]? with | none=>true | some y=>Lg (some y.path) (s.drop i))} (Xi (fun i=>⟨[(1,sl Ae s),(2,.ref 2 0),(6,vi i.1)],[(2,.cells [.cmap N2 (x.map NH),.cmap Fl P])],Af⟩) (Xi (fun i=>s.length-i.1) (Yi (Xi ⟨1,Aq _,by grind,by cases s<;>rfl⟩ ?_) ?_)))
 .exact⟨Z3,Z1,Fh,Tv⟩
 intro⟨i,h1,h2,h3⟩;refine Yi ?_ ?_
 .intro h;have h:(i:Int)<(s.map Ae).length:=h;have h:i<s.length:=by simp_all
  have hg:s[i]?=some s[i]:=Ge h;have h' : i-1<s.length:=by omega
  have nQ : s[i-1]?=some s[i-1]:=Ge h';have e1:((i:Int)-1).toNat=i-1:=by omega
  have pN:Bb s=(G1 s[i-1].path s[i].path&&Lg (some s[i].path) (s.drop (i+1))):=by
   grind [SK]
  refine Yi (by grind [Al]) (Xi (Ae s[i-1]) (Yi (Yi (by grind) (by simp_all)) (Yi rfl ?_)));refine Xi (Ae s[i]) (Yi (Yi aa0 (by simp_all)) (Yi rfl ?_));refine Yi ?_ ?_
  .intro h4;have h4:Op.bytesLess s[i-1].path.toList s[i].path.toList=false:=h4;rw[<-Ed]at h4;refine Yi aa3 ?_;have e:AV.tup [.slice .none [],vi 1]=gq x s:=by grind
   exact(vP 1).trans (.of_eq e)
  .intro h4;have h4:¬Op.bytesLess s[i-1].path.toList s[i].path.toList=false:=h4;rw[<-Ed,Bool.not_eq_false]at h4;refine Yi aa3 (Yi (by grind [Al]) (Xi ⟨i+1,by omega,.inr aa0,by simp_all⟩ ?_));exact⟨Dl s.length i aa0,Z3,Z1,Fh,Tv⟩
 intro h;have h:¬(i:Int)<(s.map Ae).length:=h;have h:¬i<s.length:=by simp_all
 have jU:Bb s=true:=by
  rcases h2 with h2 | h2
  .grind
  .have e:i=s.length:=by omega
   rw[h3,e,List.drop_length];cases s[s.length-1]?<;>rfl
 have es:gq x s=match Fy x s with
  |none=>.tup [sl Ak [],vi 6]
  |some l=>.tup [sl Ak l,vi 0]:=by simp_all
 refine cU [(1,sl Ae s),(2,.ref 2 0),(7,.slice (.id 7 9) [])] [(2,.cells [.cmap N2 (x.map NH),.cmap Fl P]),(7,.tok 9 0)] Z3 Z2 (Xi {p:Nat×List Rl // p.1<=s.length/\p.2.length=p.1/\Fy x s=(Fy x (s.drop p.1)).map (p.2++·)} (Xi (fun p=>⟨[(2,.ref 2 0),(7,.slice (.id 7 9) (p.1.2.map Ak)),(30,sl Ae s),(31,vi (s.map Ae).length),(32,vi p.1.1)],[(2,.cells [.cmap N2 (x.map NH),.cmap Fl P]),(7,.tok 9 (p.1.2.map Ak).length)],Af⟩) (Xi (fun p=>s.length-p.1.1) (Yi (Xi ⟨(0,[]),Ao _,rfl,by simp_all⟩ ?_) ?_))))
 .exact⟨Z5,Z2,Fh,Tv⟩
 intro⟨⟨j,l⟩,j1,j2,j3⟩;have j1:j<=s.length:=j1;have j2:l.length=j:=j2;have j3:Fy x s=(Fy x (s.drop j)).map (l++·):=j3;refine Yi ?_ ?_
 .intro hj;have hj:(j:Int)<(s.map Ae).length:=hj;have hj:j<s.length:=by simp_all
  have hg:s[j]?=some s[j]:=Ge hj;have hd:s.drop j=s[j]::s.drop (j+1):=Bd hj;refine Xi (Ae s[j]) (Yi (Yi aa0 (by grind)) (Yi rfl (Yi (Nz rfl) (yN (yN (Yi ?_ ?_))))))
  .intro a ha;refine Am (WG (y:=s[j]) ha) (fun r hr=>?_);have e:=hr.2.2;subst e;have hf:Bl x s[j]=some r:=by grind [X5]
   have j4:Fy x s=(Fy x (s.drop (j+1))).map ((l++[r])++·):=by
    rw[j3,hd,Fy,hf]
    grind
   refine yN (cU [(2,.ref 2 0),(7,.slice (.id 7 9) (l.map Ak)),(10,.ref 10 0),(11,vb true),(30,sl Ae s),(31,vi (s.map Ae).length),(32,vi j)] [(2,.cells [.cmap N2 (x.map NH),.cmap Fl P]),(7,.tok 9 (l.map Ak).length),(10,.cells (Ak r))] Z7 Z3 (cU [(2,.ref 2 0),(7,.slice (.id 7 9) (l.map Ak)),(10,.ref 10 0),(30,sl Ae s),(31,vi (s.map Ae).length),(32,vi j)] [(2,.cells [.cmap N2 (x.map NH),.cmap Fl P]),(7,.tok 9 (l.map Ak).length),(10,.cells (Ak r))] Z6 Z3 (yN ?_)));have CM:AZ 9 [Ak r]/\(l.map Ak).length=(l.map Ak).length/\((l.map Ak).length+[Ak r].length)*120<=140737488355328/\(l.map Ak).length+[Ak r].length<=9223372036854775807:=
    ⟨⟨rfl,trivial⟩,rfl,by grind,by grind⟩
   refine Yi CM (Yi (Ii j aa0) ?_);have e1:AV.slice (.id 7 9) (l.map Ak++[Ak r])=.slice (.id 7 9) ((l++[r]).map Ak):=by grind
   have e2:HO.tok 9 ((l.map Ak).length+[Ak r].length)=.tok 9 ((l++[r]).map Ak).length:=by grind
   refine Xi ⟨(j+1,l++[r]),by omega,by grind,j4⟩ ?_;exact⟨by grind,⟨Zr,⟨e1,rfl⟩,Zr,Zr,Zr,Tv⟩,⟨Zr,⟨e2,rfl⟩,Tv⟩,Fh,Tv⟩
  .intro hn;have hf:Bl x s[j]=none:=by
    cases h:Bl x s[j]with
    |none=>rfl
    |some r=>
     obtain⟨_,h2,h3⟩:=Cs h;exact absurd (Ay.2 ⟨r,h2,by grind⟩) (hn (.agg (Ak r)))
   have j4:Fy x s=none:=by grind [Fy]
   refine yN (cU [(11,vb false)] [] Z1 Tv ?_)
   have e:AV.tup [.slice .none [],vi 6]=gq x s:=by grind
   exact(vP 6).trans (.of_eq e)
 .intro hj;have hj:¬(j:Int)<(s.map Ae).length:=hj;have hj:¬j<s.length:=by simp_all
  have j4:Fy x s=some l:=by grind [Fy]
  have e:AV.tup [sl Ak l,vi 0]=gq x s:=by simp_all
  exact .of_eq e
abbrev LY:Value×AV:=(.string r.path,.agg (Ak r))
theorem Rh{m:List Rl}{p:ByteArray}(h:(Value.string p,a)∈m.map LY):∃r∈m,r.path=p/\a=.agg (Ak r):=by
 grind
theorem Hb:∀{m:List Rl},(m.map (·.path)).Nodup->∀{r:Rl},r∈m->m.find? (fun s=>decide (s.path=r.path))=some r
 |a::m,hn,r,hr=>by
  rw[BU,Gq]at hn;rw[Ui];rcases AN.1 hr with rfl | hr
  .simp
  .have:¬a.path=r.path:=fun e=>hn.1 (Ay.2 ⟨r,hr,e.symm⟩)
   rw[AU this];exact Hb hn.2 hr
theorem c86(m:List Rl)(hn:(m.map (·.path)).Nodup)(q:Rq)(hq:BB q.set):PC 140 [.agg (Ad q),.cptr [.cmap Fl (m.map LY)]] (vb (B4 m q)):=by
 refine Ps (Dc [2]) Tryz.func140 rfl (Nz rfl) (Yi ?_ ?_)
 .intro a ha;refine Am (Rh ha) (fun r hr=>?_);have e:=hr.2.2;subst e;have hf:m.find? (fun s=>decide (s.path=q.path))=some r:=by grind [Hb]
  have hb:B4 m q=!has q.set (plc r.ver):=by grind [B4]
  have hc:=yG q.set (plc r.ver) hq;refine yN (cU [(2,.ref 2 0),(4,.ref 4 0),(5,vb true)] [(2,.cells (Ad q)),(4,.cells (Ak r))] Z3 Z2 (yN (Xi _ (Yi (yH r) (AG (Bt (has q.set (plc r.ver))) (fun e=>?_) (fun e=>?_))))))
  .rw[e]at hc;refine Xi _ (Yi (hc) (Yi aa3 ?_));exact .of_eq (Aa vb (show false=B4 m q by simp_all))
  .rw[e]at hc;refine Xi _ (Yi (hc) (Yi aa3 ?_));exact .of_eq (Aa vb (show true=B4 m q by simp_all))
 .intro SA;have hf:m.find? (fun s=>decide (s.path=q.path))=none:=by
   rw[List.find?_eq_none];intro r hr he;have he:=DR he;exact SA _ (Ay.2 ⟨r,hr,by rw[<-he]⟩)
  have hb:B4 m q=true:=by grind [B4]
  refine yN (cU [(2,.ref 2 0),(4,.ref 4 0),(5,vb false)] [(2,.cells (Ad q)),(4,.cells Xn)] Z3 Z2 (Yi aa3 ?_));exact .of_eq (Aa vb hb.symm)
end Go.Eng
