/- Lemmas 19. -/
import Derived.Test.YtkmnnpmneamgoaaGreatDoorPA18
namespace Go.Eng
open Go.Proofs
variable {l:List Nf}{i:Nat}{a:AV}(x:List Rl)(ifs:List (List AV))(roots:List Rq)(d:List (List Tm))(y:Sl)(q:Rq)(s:List Sl)(r:Rl)(p:ByteArray)(pl nu le ri:Int)
abbrev ov:Prop:=∀(d:List (List Tm)) (i:Nf),
 A6 Tryz.prog 183 [.ref 1000 0,.agg (AG i)] (Af (ND x ifs roots d) Ae) fun r h'=>r=L9 (Oo (D6 i.path (A4 x i.path)))/\h'=Af (ND x ifs roots d) Ae
abbrev SF(i:Nf)(r:AV)(h' : Nat->HO):Prop:=
 r=vb (AM x roots d i).isSome/\∃d',h'=Af (ND x ifs roots d') Ae/\∀t,AM x roots d i=some t->d'=d++[t]
theorem wy(hd:d.length<=65536)(hr:∀q∈roots,BL q.set) :
  A6 Tryz.prog 79 [.ref 1000 0,.agg (AG ⟨0,p,pl,nu,le,ri⟩)] (Af (ND x ifs roots d) Ae) fun r h'=>SF x ifs roots d ⟨0,p,pl,nu,le,ri⟩ r h':=by
 have kr:AM x roots d ⟨0,p,pl,nu,le,ri⟩=if p=mt/\pl=0/\le=0/\ri=0 then(DG roots nu).map GF else none:=rfl
 by_cases hc:p=mt/\pl=0/\le=0/\ri=0
 .have ks:AM x roots d ⟨0,p,pl,nu,le,ri⟩=(DG roots nu).map GF:=by simp_all
  have JS:=Aao x ifs roots d ⟨0,p,pl,nu,le,ri⟩ hr;cases ho:(DG roots nu).map GF with
  |none=>
   have GH:AM x roots d ⟨0,p,pl,nu,le,ri⟩=none:=by simp_all
   rw[ho]at JS;refine Bi (IB (Dw [3,4,6])) [(1000,1000),(1001,1001)] rfl Bz hm rfl Tryz.func79 aa3 rfl (Nz rfl) aa3 rfl (Yi ?_ ?_)
   .intro h;exact absurd (show(0:Int)<0 from h) aa2
   intro _;refine Yi ?_ ?_
   .intro h;exact absurd (show(3:Int)<0 from h) aa2
   intro _;refine cU [(0,.ref 1000 0),(3,.ref 3 0)] [(3,.cells (AG ⟨0,p,pl,nu,le,ri⟩)),(1000,IP x ifs roots d),(1001,IV d)] Z2 Z3 (Xi _ (Yi (RP) (Yi ⟨by omega,by omega⟩ ?_)));refine Yi (Nz rfl) (yN (Yi aa3 (cU [(0,.ref 1000 0),(3,.ref 3 0),(5,.ref 5 0)] [(3,.cells (AG ⟨0,p,pl,nu,le,ri⟩)),(5,.cells [.v (Hf 178),.v (Hf 179)]),(1000,IP x ifs roots d),(1001,IV d)] Z3 Z4 (yN (Xi _ (Yi (sD ⟨0,p,pl,nu,le,ri⟩) (Yi ?_ ?_)))))))
   rotate_left
   .intro h6;have he:YE [vi 0,vs p,vi pl,vi 0,vi le,vi ri] [vi 0,vs mt,vi 0,vi 0,vi 0,vi 0]:=⟨rfl,hc.1,hc.2.1,rfl,hc.2.2.1,hc.2.2.2,trivial⟩;exact absurd he h6
   intro _;refine Yi aa3 (cU [(0,.ref 1000 0),(3,.ref 3 0),(5,.ref 5 0)] [(3,.cells (AG ⟨0,p,pl,nu,le,ri⟩)),(5,.cells [.v (Hf 178),.v (Hf 179)]),(1000,IP x ifs roots d),(1001,IV d)] Z3 Z4 (yN (Xi (.gen [(1000,1000),(1001,1001)] 0) (Yi rfl (JS.imp ?_)))));intro v1 g1 q1;have Uw:=q1.1;have LB:=q1.2;subst Uw;subst LB;have CO:A7 1 [Aq []]/\(d.map Aq).length=(d.map Aq).length/\((d.map Aq).length+[Aq []].length)*24<=140737488355328/\(d.map Aq).length+[Aq []].length<=9223372036854775807:=
    ⟨⟨rfl,trivial⟩,rfl,by rw[Lm,AO];omega,by rw[Lm,AO];omega⟩
   refine Yi CO (yN ?_);have eh:Af [(1000,HO.cells [sl Am x,.slice .none ifs,sl Ac roots,.slice (.id 1001 1) (d.map Aq++[Aq []])]),(1001,.tok 1 ((d.map Aq).length+[Aq []].length))] Ae=Af (ND x ifs roots (d++[[]])) Ae:=by
    simp[ND,IP,oU,IV]
   have er:vb false=vb (AM x roots d ⟨0,p,pl,nu,le,ri⟩).isSome:=by rw[GH];rfl
   exact Xi _ (Yi (.refl _) (Yi er (Xi (d++[[]]) (Yi eh (fun t ht=>by rw[GH]at ht;cases ht)))))
  |some tt=>
   have GH:AM x roots d ⟨0,p,pl,nu,le,ri⟩=some tt:=by simp_all
   rw[ho]at JS;refine Bi (IB (Dw [3,4,6])) [(1000,1000),(1001,1001)] rfl Bz hm rfl Tryz.func79 aa3 rfl (Nz rfl) aa3 rfl (Yi ?_ ?_)
   .intro h;exact absurd (show(0:Int)<0 from h) aa2
   intro _;refine Yi ?_ ?_
   .intro h;exact absurd (show(3:Int)<0 from h) aa2
   intro _;refine cU [(0,.ref 1000 0),(3,.ref 3 0)] [(3,.cells (AG ⟨0,p,pl,nu,le,ri⟩)),(1000,IP x ifs roots d),(1001,IV d)] Z2 Z3 (Xi _ (Yi (RP) (Yi ⟨by omega,by omega⟩ ?_)));refine Yi (Nz rfl) (yN (Yi aa3 (cU [(0,.ref 1000 0),(3,.ref 3 0),(5,.ref 5 0)] [(3,.cells (AG ⟨0,p,pl,nu,le,ri⟩)),(5,.cells [.v (Hf 178),.v (Hf 179)]),(1000,IP x ifs roots d),(1001,IV d)] Z3 Z4 (yN (Xi _ (Yi (sD ⟨0,p,pl,nu,le,ri⟩) (Yi ?_ ?_)))))))
   rotate_left
   .intro h6;have he:YE [vi 0,vs p,vi pl,vi 0,vi le,vi ri] [vi 0,vs mt,vi 0,vi 0,vi 0,vi 0]:=⟨rfl,hc.1,hc.2.1,rfl,hc.2.2.1,hc.2.2.2,trivial⟩;exact absurd he h6
   intro _;refine Yi aa3 (cU [(0,.ref 1000 0),(3,.ref 3 0),(5,.ref 5 0)] [(3,.cells (AG ⟨0,p,pl,nu,le,ri⟩)),(5,.cells [.v (Hf 178),.v (Hf 179)]),(1000,IP x ifs roots d),(1001,IV d)] Z3 Z4 (yN (Xi (.gen [(1000,1000),(1001,1001)] 0) (Yi rfl (JS.imp ?_)))));intro v1 g1 q1;have Uw:=q1.1;have LB:=q1.2;subst Uw;subst LB;have CO:A7 1 [Aq tt]/\(d.map Aq).length=(d.map Aq).length/\((d.map Aq).length+[Aq tt].length)*24<=140737488355328/\(d.map Aq).length+[Aq tt].length<=9223372036854775807:=
    ⟨⟨rfl,trivial⟩,rfl,by rw[Lm,AO];omega,by rw[Lm,AO];omega⟩
   refine Yi CO (yN ?_);have eh:Af [(1000,HO.cells [sl Am x,.slice .none ifs,sl Ac roots,.slice (.id 1001 1) (d.map Aq++[Aq tt])]),(1001,.tok 1 ((d.map Aq).length+[Aq tt].length))] Ae=Af (ND x ifs roots (d++[tt])) Ae:=by
    simp[ND,IP,oU,IV]
   have er:vb true=vb (AM x roots d ⟨0,p,pl,nu,le,ri⟩).isSome:=by rw[GH];rfl
   exact Xi _ (Yi (.refl _) (Yi er (Xi (d++[tt]) (Yi eh (fun t ht=>by rw[GH]at ht;cases ht;rfl)))))
 .have GH:AM x roots d ⟨0,p,pl,nu,le,ri⟩=none:=by simp_all
  refine Bi (IB (Dw [3,4,6])) [(1000,1000),(1001,1001)] rfl Bz hm rfl Tryz.func79 aa3 rfl (Nz rfl) aa3 rfl (Yi ?_ ?_)
  .intro h;exact absurd (show(0:Int)<0 from h) aa2
  intro _;refine Yi ?_ ?_
  .intro h;exact absurd (show(3:Int)<0 from h) aa2
  intro _;refine cU [(0,.ref 1000 0),(3,.ref 3 0)] [(3,.cells (AG ⟨0,p,pl,nu,le,ri⟩)),(1000,IP x ifs roots d),(1001,IV d)] Z2 Z3 (Xi _ (Yi (RP) (Yi ⟨by omega,by omega⟩ ?_)));refine Yi (Nz rfl) (yN (Yi aa3 (cU [(0,.ref 1000 0),(3,.ref 3 0),(5,.ref 5 0)] [(3,.cells (AG ⟨0,p,pl,nu,le,ri⟩)),(5,.cells [.v (Hf 178),.v (Hf 179)]),(1000,IP x ifs roots d),(1001,IV d)] Z3 Z4 (yN (Xi _ (Yi (sD ⟨0,p,pl,nu,le,ri⟩) (Yi ?_ ?_)))))))
  .intro h6;exact absurd (show p=mt/\pl=0/\le=0/\ri=0 from⟨h6.2.1,h6.2.2.1,h6.2.2.2.2.1,h6.2.2.2.2.2.1⟩) hc
  intro _;refine Yi aa3 ?_;have er:vb false=vb (AM x roots d ⟨0,p,pl,nu,le,ri⟩).isSome:=by rw[GH];rfl
  exact Xi _ (Yi (.refl _) (Yi er (Xi d (Yi rfl (fun t ht=>by rw[GH]at ht;cases ht)))))
theorem wz(hd:d.length<=65536)(hx:BL x)(hq:∀r∈x,∀q∈r.reqs,BL q.set) :
  A6 Tryz.prog 79 [.ref 1000 0,.agg (AG ⟨1,p,pl,nu,le,ri⟩)] (Af (ND x ifs roots d) Ae) fun r h'=>SF x ifs roots d ⟨1,p,pl,nu,le,ri⟩ r h':=by
 have kr:AM x roots d ⟨1,p,pl,nu,le,ri⟩=if le=0/\ri=0 then Vq x ⟨1,p,pl,nu,le,ri⟩else none:=rfl
 by_cases hc:le=0/\ri=0
 .have ks:AM x roots d ⟨1,p,pl,nu,le,ri⟩=Vq x ⟨1,p,pl,nu,le,ri⟩:=by simp_all
  have JS:=Aap x ifs roots d ⟨1,p,pl,nu,le,ri⟩ hx hq;cases ho:Vq x ⟨1,p,pl,nu,le,ri⟩with
  |none=>
   have GH:AM x roots d ⟨1,p,pl,nu,le,ri⟩=none:=by simp_all
   rw[ho]at JS;refine Bi (IB (Dw [3,4,6])) [(1000,1000),(1001,1001)] rfl Bz hm rfl Tryz.func79 aa3 rfl (Nz rfl) aa3 rfl (Yi ?_ ?_)
   .intro h;exact absurd (show(1:Int)<0 from h) aa2
   intro _;refine Yi ?_ ?_
   .intro h;exact absurd (show(3:Int)<1 from h) aa2
   intro _;refine cU [(0,.ref 1000 0),(3,.ref 3 0)] [(3,.cells (AG ⟨1,p,pl,nu,le,ri⟩)),(1000,IP x ifs roots d),(1001,IV d)] Z2 Z3 (Xi _ (Yi (RP) (Yi ⟨by omega,by omega⟩ ?_)));refine Yi (Nz rfl) (yN (Yi aa3 (cU [(0,.ref 1000 0),(3,.ref 3 0),(5,.ref 5 0)] [(3,.cells (AG ⟨1,p,pl,nu,le,ri⟩)),(5,.cells [.v (Hf 180),.v (Hf 181)]),(1000,IP x ifs roots d),(1001,IV d)] Z3 Z4 (yN (Xi _ (Yi (sE ⟨1,p,pl,nu,le,ri⟩) (Yi ?_ ?_)))))))
   rotate_left
   .intro h6;have he:YE [vi 1,vs mt,vi 0,vi 0,vi le,vi ri] [vi 1,vs mt,vi 0,vi 0,vi 0,vi 0]:=⟨rfl,rfl,rfl,rfl,hc.1,hc.2,trivial⟩;exact absurd he h6
   intro _;refine Yi aa3 (cU [(0,.ref 1000 0),(3,.ref 3 0),(5,.ref 5 0)] [(3,.cells (AG ⟨1,p,pl,nu,le,ri⟩)),(5,.cells [.v (Hf 180),.v (Hf 181)]),(1000,IP x ifs roots d),(1001,IV d)] Z3 Z4 (yN (Xi (.gen [(1000,1000),(1001,1001)] 0) (Yi rfl (JS.imp ?_)))));intro v1 g1 q1;have Uw:=q1.1;have LB:=q1.2;subst Uw;subst LB;have CO:A7 1 [Aq []]/\(d.map Aq).length=(d.map Aq).length/\((d.map Aq).length+[Aq []].length)*24<=140737488355328/\(d.map Aq).length+[Aq []].length<=9223372036854775807:=
    ⟨⟨rfl,trivial⟩,rfl,by rw[Lm,AO];omega,by rw[Lm,AO];omega⟩
   refine Yi CO (yN ?_);have eh:Af [(1000,HO.cells [sl Am x,.slice .none ifs,sl Ac roots,.slice (.id 1001 1) (d.map Aq++[Aq []])]),(1001,.tok 1 ((d.map Aq).length+[Aq []].length))] Ae=Af (ND x ifs roots (d++[[]])) Ae:=by
    simp[ND,IP,oU,IV]
   have er:vb false=vb (AM x roots d ⟨1,p,pl,nu,le,ri⟩).isSome:=by rw[GH];rfl
   exact Xi _ (Yi (.refl _) (Yi er (Xi (d++[[]]) (Yi eh (fun t ht=>by rw[GH]at ht;cases ht)))))
  |some tt=>
   have GH:AM x roots d ⟨1,p,pl,nu,le,ri⟩=some tt:=by simp_all
   rw[ho]at JS;refine Bi (IB (Dw [3,4,6])) [(1000,1000),(1001,1001)] rfl Bz hm rfl Tryz.func79 aa3 rfl (Nz rfl) aa3 rfl (Yi ?_ ?_)
   .intro h;exact absurd (show(1:Int)<0 from h) aa2
   intro _;refine Yi ?_ ?_
   .intro h;exact absurd (show(3:Int)<1 from h) aa2
   intro _;refine cU [(0,.ref 1000 0),(3,.ref 3 0)] [(3,.cells (AG ⟨1,p,pl,nu,le,ri⟩)),(1000,IP x ifs roots d),(1001,IV d)] Z2 Z3 (Xi _ (Yi (RP) (Yi ⟨by omega,by omega⟩ ?_)));refine Yi (Nz rfl) (yN (Yi aa3 (cU [(0,.ref 1000 0),(3,.ref 3 0),(5,.ref 5 0)] [(3,.cells (AG ⟨1,p,pl,nu,le,ri⟩)),(5,.cells [.v (Hf 180),.v (Hf 181)]),(1000,IP x ifs roots d),(1001,IV d)] Z3 Z4 (yN (Xi _ (Yi (sE ⟨1,p,pl,nu,le,ri⟩) (Yi ?_ ?_)))))))
   rotate_left
   .intro h6;have he:YE [vi 1,vs mt,vi 0,vi 0,vi le,vi ri] [vi 1,vs mt,vi 0,vi 0,vi 0,vi 0]:=⟨rfl,rfl,rfl,rfl,hc.1,hc.2,trivial⟩;exact absurd he h6
   intro _;refine Yi aa3 (cU [(0,.ref 1000 0),(3,.ref 3 0),(5,.ref 5 0)] [(3,.cells (AG ⟨1,p,pl,nu,le,ri⟩)),(5,.cells [.v (Hf 180),.v (Hf 181)]),(1000,IP x ifs roots d),(1001,IV d)] Z3 Z4 (yN (Xi (.gen [(1000,1000),(1001,1001)] 0) (Yi rfl (JS.imp ?_)))));intro v1 g1 q1;have Uw:=q1.1;have LB:=q1.2;subst Uw;subst LB;have CO:A7 1 [Aq tt]/\(d.map Aq).length=(d.map Aq).length/\((d.map Aq).length+[Aq tt].length)*24<=140737488355328/\(d.map Aq).length+[Aq tt].length<=9223372036854775807:=
    ⟨⟨rfl,trivial⟩,rfl,by rw[Lm,AO];omega,by rw[Lm,AO];omega⟩
   refine Yi CO (yN ?_);have eh:Af [(1000,HO.cells [sl Am x,.slice .none ifs,sl Ac roots,.slice (.id 1001 1) (d.map Aq++[Aq tt])]),(1001,.tok 1 ((d.map Aq).length+[Aq tt].length))] Ae=Af (ND x ifs roots (d++[tt])) Ae:=by
    simp[ND,IP,oU,IV]
   have er:vb true=vb (AM x roots d ⟨1,p,pl,nu,le,ri⟩).isSome:=by rw[GH];rfl
   exact Xi _ (Yi (.refl _) (Yi er (Xi (d++[tt]) (Yi eh (fun t ht=>by rw[GH]at ht;cases ht;rfl)))))
 .have GH:AM x roots d ⟨1,p,pl,nu,le,ri⟩=none:=by simp_all
  refine Bi (IB (Dw [3,4,6])) [(1000,1000),(1001,1001)] rfl Bz hm rfl Tryz.func79 aa3 rfl (Nz rfl) aa3 rfl (Yi ?_ ?_)
  .intro h;exact absurd (show(1:Int)<0 from h) aa2
  intro _;refine Yi ?_ ?_
  .intro h;exact absurd (show(3:Int)<1 from h) aa2
  intro _;refine cU [(0,.ref 1000 0),(3,.ref 3 0)] [(3,.cells (AG ⟨1,p,pl,nu,le,ri⟩)),(1000,IP x ifs roots d),(1001,IV d)] Z2 Z3 (Xi _ (Yi (RP) (Yi ⟨by omega,by omega⟩ ?_)));refine Yi (Nz rfl) (yN (Yi aa3 (cU [(0,.ref 1000 0),(3,.ref 3 0),(5,.ref 5 0)] [(3,.cells (AG ⟨1,p,pl,nu,le,ri⟩)),(5,.cells [.v (Hf 180),.v (Hf 181)]),(1000,IP x ifs roots d),(1001,IV d)] Z3 Z4 (yN (Xi _ (Yi (sE ⟨1,p,pl,nu,le,ri⟩) (Yi ?_ ?_)))))))
  .intro h6;exact absurd (show le=0/\ri=0 from⟨h6.2.2.2.2.1,h6.2.2.2.2.2.1⟩) hc
  intro _;refine Yi aa3 ?_;have er:vb false=vb (AM x roots d ⟨1,p,pl,nu,le,ri⟩).isSome:=by rw[GH];rfl
  exact Xi _ (Yi (.refl _) (Yi er (Xi d (Yi rfl (fun t ht=>by rw[GH]at ht;cases ht)))))
theorem wA(hd:d.length<=65536)(pq:ov x ifs roots) :
  A6 Tryz.prog 79 [.ref 1000 0,.agg (AG ⟨2,p,pl,nu,le,ri⟩)] (Af (ND x ifs roots d) Ae) fun r h'=>SF x ifs roots d ⟨2,p,pl,nu,le,ri⟩ r h':=by
 have kr:AM x roots d ⟨2,p,pl,nu,le,ri⟩=if pl=0/\nu=0/\le=0/\ri=0 then Oo (D6 p (A4 x p))else none:=rfl
 by_cases hc:pl=0/\nu=0/\le=0/\ri=0
 .have ks:AM x roots d ⟨2,p,pl,nu,le,ri⟩=Oo (D6 p (A4 x p)):=by simp_all
  have JS:=pq d ⟨2,p,pl,nu,le,ri⟩;cases ho:Oo (D6 p (A4 x p))with
  |none=>
   have GH:AM x roots d ⟨2,p,pl,nu,le,ri⟩=none:=by simp_all
   rw[ho]at JS;refine Bi (IB (Dw [3,4,6])) [(1000,1000),(1001,1001)] rfl Bz hm rfl Tryz.func79 aa3 rfl (Nz rfl) aa3 rfl (Yi ?_ ?_)
   .intro h;exact absurd (show(2:Int)<0 from h) aa2
   intro _;refine Yi ?_ ?_
   .intro h;exact absurd (show(3:Int)<2 from h) aa2
   intro _;refine cU [(0,.ref 1000 0),(3,.ref 3 0)] [(3,.cells (AG ⟨2,p,pl,nu,le,ri⟩)),(1000,IP x ifs roots d),(1001,IV d)] Z2 Z3 (Xi _ (Yi (RP) (Yi ⟨by omega,by omega⟩ ?_)));refine Yi (Nz rfl) (yN (Yi aa3 (cU [(0,.ref 1000 0),(3,.ref 3 0),(5,.ref 5 0)] [(3,.cells (AG ⟨2,p,pl,nu,le,ri⟩)),(5,.cells [.v (Hf 182),.v (Hf 183)]),(1000,IP x ifs roots d),(1001,IV d)] Z3 Z4 (yN (Xi _ (Yi (sF ⟨2,p,pl,nu,le,ri⟩) (Yi ?_ ?_)))))))
   rotate_left
   .intro h6;have he:YE [vi 2,vs mt,vi pl,vi nu,vi le,vi ri] [vi 2,vs mt,vi 0,vi 0,vi 0,vi 0]:=⟨rfl,rfl,hc.1,hc.2.1,hc.2.2.1,hc.2.2.2,trivial⟩;exact absurd he h6
   intro _;refine Yi aa3 (cU [(0,.ref 1000 0),(3,.ref 3 0),(5,.ref 5 0)] [(3,.cells (AG ⟨2,p,pl,nu,le,ri⟩)),(5,.cells [.v (Hf 182),.v (Hf 183)]),(1000,IP x ifs roots d),(1001,IV d)] Z3 Z4 (yN (Xi (.gen [(1000,1000),(1001,1001)] 0) (Yi rfl (JS.imp ?_)))));intro v1 g1 q1;have Uw:=q1.1;have LB:=q1.2;subst Uw;subst LB;have CO:A7 1 [Aq []]/\(d.map Aq).length=(d.map Aq).length/\((d.map Aq).length+[Aq []].length)*24<=140737488355328/\(d.map Aq).length+[Aq []].length<=9223372036854775807:=
    ⟨⟨rfl,trivial⟩,rfl,by rw[Lm,AO];omega,by rw[Lm,AO];omega⟩
   refine Yi CO (yN ?_);have eh:Af [(1000,HO.cells [sl Am x,.slice .none ifs,sl Ac roots,.slice (.id 1001 1) (d.map Aq++[Aq []])]),(1001,.tok 1 ((d.map Aq).length+[Aq []].length))] Ae=Af (ND x ifs roots (d++[[]])) Ae:=by
    simp[ND,IP,oU,IV]
   have er:vb false=vb (AM x roots d ⟨2,p,pl,nu,le,ri⟩).isSome:=by rw[GH];rfl
   exact Xi _ (Yi (.refl _) (Yi er (Xi (d++[[]]) (Yi eh (fun t ht=>by rw[GH]at ht;cases ht)))))
  |some tt=>
   have GH:AM x roots d ⟨2,p,pl,nu,le,ri⟩=some tt:=by simp_all
   rw[ho]at JS;refine Bi (IB (Dw [3,4,6])) [(1000,1000),(1001,1001)] rfl Bz hm rfl Tryz.func79 aa3 rfl (Nz rfl) aa3 rfl (Yi ?_ ?_)
   .intro h;exact absurd (show(2:Int)<0 from h) aa2
   intro _;refine Yi ?_ ?_
   .intro h;exact absurd (show(3:Int)<2 from h) aa2
   intro _;refine cU [(0,.ref 1000 0),(3,.ref 3 0)] [(3,.cells (AG ⟨2,p,pl,nu,le,ri⟩)),(1000,IP x ifs roots d),(1001,IV d)] Z2 Z3 (Xi _ (Yi (RP) (Yi ⟨by omega,by omega⟩ ?_)));refine Yi (Nz rfl) (yN (Yi aa3 (cU [(0,.ref 1000 0),(3,.ref 3 0),(5,.ref 5 0)] [(3,.cells (AG ⟨2,p,pl,nu,le,ri⟩)),(5,.cells [.v (Hf 182),.v (Hf 183)]),(1000,IP x ifs roots d),(1001,IV d)] Z3 Z4 (yN (Xi _ (Yi (sF ⟨2,p,pl,nu,le,ri⟩) (Yi ?_ ?_)))))))
   rotate_left
   .intro h6;have he:YE [vi 2,vs mt,vi pl,vi nu,vi le,vi ri] [vi 2,vs mt,vi 0,vi 0,vi 0,vi 0]:=⟨rfl,rfl,hc.1,hc.2.1,hc.2.2.1,hc.2.2.2,trivial⟩;exact absurd he h6
   intro _;refine Yi aa3 (cU [(0,.ref 1000 0),(3,.ref 3 0),(5,.ref 5 0)] [(3,.cells (AG ⟨2,p,pl,nu,le,ri⟩)),(5,.cells [.v (Hf 182),.v (Hf 183)]),(1000,IP x ifs roots d),(1001,IV d)] Z3 Z4 (yN (Xi (.gen [(1000,1000),(1001,1001)] 0) (Yi rfl (JS.imp ?_)))));intro v1 g1 q1;have Uw:=q1.1;have LB:=q1.2;subst Uw;subst LB;have CO:A7 1 [Aq tt]/\(d.map Aq).length=(d.map Aq).length/\((d.map Aq).length+[Aq tt].length)*24<=140737488355328/\(d.map Aq).length+[Aq tt].length<=9223372036854775807:=
    ⟨⟨rfl,trivial⟩,rfl,by rw[Lm,AO];omega,by rw[Lm,AO];omega⟩
   refine Yi CO (yN ?_);have eh:Af [(1000,HO.cells [sl Am x,.slice .none ifs,sl Ac roots,.slice (.id 1001 1) (d.map Aq++[Aq tt])]),(1001,.tok 1 ((d.map Aq).length+[Aq tt].length))] Ae=Af (ND x ifs roots (d++[tt])) Ae:=by
    simp[ND,IP,oU,IV]
   have er:vb true=vb (AM x roots d ⟨2,p,pl,nu,le,ri⟩).isSome:=by rw[GH];rfl
   exact Xi _ (Yi (.refl _) (Yi er (Xi (d++[tt]) (Yi eh (fun t ht=>by rw[GH]at ht;cases ht;rfl)))))
 .have GH:AM x roots d ⟨2,p,pl,nu,le,ri⟩=none:=by simp_all
  refine Bi (IB (Dw [3,4,6])) [(1000,1000),(1001,1001)] rfl Bz hm rfl Tryz.func79 aa3 rfl (Nz rfl) aa3 rfl (Yi ?_ ?_)
  .intro h;exact absurd (show(2:Int)<0 from h) aa2
  intro _;refine Yi ?_ ?_
  .intro h;exact absurd (show(3:Int)<2 from h) aa2
  intro _;refine cU [(0,.ref 1000 0),(3,.ref 3 0)] [(3,.cells (AG ⟨2,p,pl,nu,le,ri⟩)),(1000,IP x ifs roots d),(1001,IV d)] Z2 Z3 (Xi _ (Yi (RP) (Yi ⟨by omega,by omega⟩ ?_)));refine Yi (Nz rfl) (yN (Yi aa3 (cU [(0,.ref 1000 0),(3,.ref 3 0),(5,.ref 5 0)] [(3,.cells (AG ⟨2,p,pl,nu,le,ri⟩)),(5,.cells [.v (Hf 182),.v (Hf 183)]),(1000,IP x ifs roots d),(1001,IV d)] Z3 Z4 (yN (Xi _ (Yi (sF ⟨2,p,pl,nu,le,ri⟩) (Yi ?_ ?_)))))))
  .intro h6;exact absurd (show pl=0/\nu=0/\le=0/\ri=0 from⟨h6.2.2.1,h6.2.2.2.1,h6.2.2.2.2.1,h6.2.2.2.2.2.1⟩) hc
  intro _;refine Yi aa3 ?_;have er:vb false=vb (AM x roots d ⟨2,p,pl,nu,le,ri⟩).isSome:=by rw[GH];rfl
  exact Xi _ (Yi (.refl _) (Yi er (Xi d (Yi rfl (fun t ht=>by rw[GH]at ht;cases ht)))))
theorem wB(hd:d.length<=65536)(hi:∀t∈d,U4 t) :
  A6 Tryz.prog 79 [.ref 1000 0,.agg (AG ⟨3,p,pl,nu,le,ri⟩)] (Af (ND x ifs roots d) Ae) fun r h'=>SF x ifs roots d ⟨3,p,pl,nu,le,ri⟩ r h':=by
 have kr:AM x roots d ⟨3,p,pl,nu,le,ri⟩=if pl=0/\nu=0 then UD d ⟨3,p,pl,nu,le,ri⟩else none:=rfl
 by_cases hc:pl=0/\nu=0
 .have ks:AM x roots d ⟨3,p,pl,nu,le,ri⟩=UD d ⟨3,p,pl,nu,le,ri⟩:=by simp_all
  have JS:=Aar x ifs roots d ⟨3,p,pl,nu,le,ri⟩ hi;cases ho:UD d ⟨3,p,pl,nu,le,ri⟩with
  |none=>
   have GH:AM x roots d ⟨3,p,pl,nu,le,ri⟩=none:=by simp_all
   rw[ho]at JS;refine Bi (IB (Dw [3,4,6])) [(1000,1000),(1001,1001)] rfl Bz hm rfl Tryz.func79 aa3 rfl (Nz rfl) aa3 rfl (Yi ?_ ?_)
   .intro h;exact absurd (show(3:Int)<0 from h) aa2
   intro _;refine Yi ?_ ?_
   .intro h;exact absurd (show(3:Int)<3 from h) aa2
   intro _;refine cU [(0,.ref 1000 0),(3,.ref 3 0)] [(3,.cells (AG ⟨3,p,pl,nu,le,ri⟩)),(1000,IP x ifs roots d),(1001,IV d)] Z2 Z3 (Xi _ (Yi (RP) (Yi ⟨by omega,by omega⟩ ?_)));refine Yi (Nz rfl) (yN (Yi aa3 (cU [(0,.ref 1000 0),(3,.ref 3 0),(5,.ref 5 0)] [(3,.cells (AG ⟨3,p,pl,nu,le,ri⟩)),(5,.cells [.v (Hf 184),.v (Hf 185)]),(1000,IP x ifs roots d),(1001,IV d)] Z3 Z4 (yN (Xi _ (Yi (sG ⟨3,p,pl,nu,le,ri⟩) (Yi ?_ ?_)))))))
   rotate_left
   .intro h6;have he:YE [vi 3,vs mt,vi pl,vi nu,vi 0,vi 0] [vi 3,vs mt,vi 0,vi 0,vi 0,vi 0]:=⟨rfl,rfl,hc.1,hc.2,rfl,rfl,trivial⟩;exact absurd he h6
   intro _;refine Yi aa3 (cU [(0,.ref 1000 0),(3,.ref 3 0),(5,.ref 5 0)] [(3,.cells (AG ⟨3,p,pl,nu,le,ri⟩)),(5,.cells [.v (Hf 184),.v (Hf 185)]),(1000,IP x ifs roots d),(1001,IV d)] Z3 Z4 (yN (Xi (.gen [(1000,1000),(1001,1001)] 0) (Yi rfl (JS.imp ?_)))));intro v1 g1 q1;have Uw:=q1.1;have LB:=q1.2;subst Uw;subst LB;have CO:A7 1 [Aq []]/\(d.map Aq).length=(d.map Aq).length/\((d.map Aq).length+[Aq []].length)*24<=140737488355328/\(d.map Aq).length+[Aq []].length<=9223372036854775807:=
    ⟨⟨rfl,trivial⟩,rfl,by rw[Lm,AO];omega,by rw[Lm,AO];omega⟩
   refine Yi CO (yN ?_);have eh:Af [(1000,HO.cells [sl Am x,.slice .none ifs,sl Ac roots,.slice (.id 1001 1) (d.map Aq++[Aq []])]),(1001,.tok 1 ((d.map Aq).length+[Aq []].length))] Ae=Af (ND x ifs roots (d++[[]])) Ae:=by
    simp[ND,IP,oU,IV]
   have er:vb false=vb (AM x roots d ⟨3,p,pl,nu,le,ri⟩).isSome:=by rw[GH];rfl
   exact Xi _ (Yi (.refl _) (Yi er (Xi (d++[[]]) (Yi eh (fun t ht=>by rw[GH]at ht;cases ht)))))
  |some tt=>
   have GH:AM x roots d ⟨3,p,pl,nu,le,ri⟩=some tt:=by simp_all
   rw[ho]at JS;refine Bi (IB (Dw [3,4,6])) [(1000,1000),(1001,1001)] rfl Bz hm rfl Tryz.func79 aa3 rfl (Nz rfl) aa3 rfl (Yi ?_ ?_)
   .intro h;exact absurd (show(3:Int)<0 from h) aa2
   intro _;refine Yi ?_ ?_
   .intro h;exact absurd (show(3:Int)<3 from h) aa2
   intro _;refine cU [(0,.ref 1000 0),(3,.ref 3 0)] [(3,.cells (AG ⟨3,p,pl,nu,le,ri⟩)),(1000,IP x ifs roots d),(1001,IV d)] Z2 Z3 (Xi _ (Yi (RP) (Yi ⟨by omega,by omega⟩ ?_)));refine Yi (Nz rfl) (yN (Yi aa3 (cU [(0,.ref 1000 0),(3,.ref 3 0),(5,.ref 5 0)] [(3,.cells (AG ⟨3,p,pl,nu,le,ri⟩)),(5,.cells [.v (Hf 184),.v (Hf 185)]),(1000,IP x ifs roots d),(1001,IV d)] Z3 Z4 (yN (Xi _ (Yi (sG ⟨3,p,pl,nu,le,ri⟩) (Yi ?_ ?_)))))))
   rotate_left
   .intro h6;have he:YE [vi 3,vs mt,vi pl,vi nu,vi 0,vi 0] [vi 3,vs mt,vi 0,vi 0,vi 0,vi 0]:=⟨rfl,rfl,hc.1,hc.2,rfl,rfl,trivial⟩;exact absurd he h6
   intro _;refine Yi aa3 (cU [(0,.ref 1000 0),(3,.ref 3 0),(5,.ref 5 0)] [(3,.cells (AG ⟨3,p,pl,nu,le,ri⟩)),(5,.cells [.v (Hf 184),.v (Hf 185)]),(1000,IP x ifs roots d),(1001,IV d)] Z3 Z4 (yN (Xi (.gen [(1000,1000),(1001,1001)] 0) (Yi rfl (JS.imp ?_)))));intro v1 g1 q1;have Uw:=q1.1;have LB:=q1.2;subst Uw;subst LB;have CO:A7 1 [Aq tt]/\(d.map Aq).length=(d.map Aq).length/\((d.map Aq).length+[Aq tt].length)*24<=140737488355328/\(d.map Aq).length+[Aq tt].length<=9223372036854775807:=
    ⟨⟨rfl,trivial⟩,rfl,by rw[Lm,AO];omega,by rw[Lm,AO];omega⟩
   refine Yi CO (yN ?_);have eh:Af [(1000,HO.cells [sl Am x,.slice .none ifs,sl Ac roots,.slice (.id 1001 1) (d.map Aq++[Aq tt])]),(1001,.tok 1 ((d.map Aq).length+[Aq tt].length))] Ae=Af (ND x ifs roots (d++[tt])) Ae:=by
    simp[ND,IP,oU,IV]
   have er:vb true=vb (AM x roots d ⟨3,p,pl,nu,le,ri⟩).isSome:=by rw[GH];rfl
   exact Xi _ (Yi (.refl _) (Yi er (Xi (d++[tt]) (Yi eh (fun t ht=>by rw[GH]at ht;cases ht;rfl)))))
 .have GH:AM x roots d ⟨3,p,pl,nu,le,ri⟩=none:=by simp_all
  refine Bi (IB (Dw [3,4,6])) [(1000,1000),(1001,1001)] rfl Bz hm rfl Tryz.func79 aa3 rfl (Nz rfl) aa3 rfl (Yi ?_ ?_)
  .intro h;exact absurd (show(3:Int)<0 from h) aa2
  intro _;refine Yi ?_ ?_
  .intro h;exact absurd (show(3:Int)<3 from h) aa2
  intro _;refine cU [(0,.ref 1000 0),(3,.ref 3 0)] [(3,.cells (AG ⟨3,p,pl,nu,le,ri⟩)),(1000,IP x ifs roots d),(1001,IV d)] Z2 Z3 (Xi _ (Yi (RP) (Yi ⟨by omega,by omega⟩ ?_)));refine Yi (Nz rfl) (yN (Yi aa3 (cU [(0,.ref 1000 0),(3,.ref 3 0),(5,.ref 5 0)] [(3,.cells (AG ⟨3,p,pl,nu,le,ri⟩)),(5,.cells [.v (Hf 184),.v (Hf 185)]),(1000,IP x ifs roots d),(1001,IV d)] Z3 Z4 (yN (Xi _ (Yi (sG ⟨3,p,pl,nu,le,ri⟩) (Yi ?_ ?_)))))))
  .intro h6;exact absurd (show pl=0/\nu=0 from⟨h6.2.2.1,h6.2.2.2.1⟩) hc
  intro _;refine Yi aa3 ?_;have er:vb false=vb (AM x roots d ⟨3,p,pl,nu,le,ri⟩).isSome:=by rw[GH];rfl
  exact Xi _ (Yi (.refl _) (Yi er (Xi d (Yi rfl (fun t ht=>by rw[GH]at ht;cases ht)))))
theorem c66(i:Nf)(hd:d.length<=65536)(hr:∀q∈roots,BL q.set)(hx:BL x)(hq:∀r∈x,∀q∈r.reqs,BL q.set)(pq:ov x ifs roots)(hi:∀t∈d,U4 t) :
  A6 Tryz.prog 79 [.ref 1000 0,.agg (AG i)] (Af (ND x ifs roots d) Ae) fun r h'=>SF x ifs roots d i r h':=by
 obtain⟨k,p,pl,nu,le,ri⟩:=i
 by_cases h0:k=0
 .grind [wy]
 by_cases h1:k=1
 .grind [wz]
 by_cases h2:k=2
 .grind [wA]
 by_cases h3:k=3
 .grind [wB]
 have GH:AM x roots d ⟨k,p,pl,nu,le,ri⟩=none:=by
  show(if k=0 then _ else if k=1 then _ else if k=2 then _ else if k=3 then _ else none)=none;simp_all
 have er:vb false=vb (AM x roots d ⟨k,p,pl,nu,le,ri⟩).isSome:=by simp_all
 refine Bi (IB De) [(1000,1000),(1001,1001)] rfl Bz hm rfl Tryz.func79 aa3 rfl (Nz rfl) aa3 rfl (Yi ?_ ?_)
 .intro _;exact Xi _ (Yi (.refl _) (Yi er (Xi d (Yi rfl (fun t ht=>by simp_all)))))
 intro h4;have h4:¬k<0:=h4;refine Yi ?_ ?_
 .intro _;exact Xi _ (Yi (.refl _) (Yi er (Xi d (Yi rfl (fun t ht=>by simp_all)))))
 intro h5;have h5:¬3<k:=h5;omega
theorem JD{l:List Rq}(h:AL l=0):l.length<=16:=by
 grind [AL]
theorem Fb{x:List Rl}(h:Av x=0):x.length<=256/\∀r∈x,r.reqs.length<=16:=by
 have h1:x.length<=256:=by
  grind [Av]
 exact⟨h1,fun r hr=>JD ((BC h).1 r hr).reqs⟩
theorem YK{x:List Rl}(h:∀r∈x,r.reqs.length<=16):((x.map (·.reqs)).flatten).length<=x.length*16:=by
 induction x<;>grind
theorem Lx{x:List Rl}{roots:List Rq}(h1:Av x=0)(h2:AL roots=0)(h3:l.length<=65536):(Hc x roots l).length<=100000:=by
 grind [Fb,YK,JD,Hc]
theorem PU.fewI{U:List ByteArray}{t:List Tm}(h:PU U t)(hu:U.length<=100000):U4 t:=
 ⟨by have:=h.len;omega,fun u hu=>Is (h.1.canon u hu)⟩
abbrev dp(l:List Nf):AV:=
 if(AZ x roots l).2=0 then .tup [.cptr (Cr x (.slice .none ifs) roots (AZ x roots l).1),vi 0]else .tup [.v (.pointer none),vi (AZ x roots l).2]
theorem M2{x:List Rl}{ifs:List (List AV)}{roots:List Rq}{e:Int}{d:List (List Tm)}(h:AZ x roots l=(d,e))(he:e≠0):AV.tup [.v (.pointer none),vi e]=dp x ifs roots l:=by
 grind
theorem kc{x:List Rl}{ifs:List (List AV)}{roots:List Rq}{d:List (List Tm)}(h:AZ x roots l=(d,0)):AV.tup [.cptr (Cr x (.slice .none ifs) roots d),vi 0]=dp x ifs roots l:=by
 grind
theorem Xq{x:List Rl}{roots:List Rq}{d:List (List Tm)}(h:i<l.length)(hg:BH x roots (l.take i) []=some d) :
  BH x roots (l.take (i+1)) []=match AM x roots d l[i]with | none=>none | some t=>some (d++[t]):=by
 grind [List.take_add_one,BH,Fw]
theorem dF{x:List Rl}{roots:List Rq}(h:BH x roots (l.take i) []=none):BH x roots l []=none:=by
 grind [List.take_append_drop,Fw]
abbrev AcZ:Md:=⟨[],[],[],[],[25],[],[],[(26,(25,3,901,1))],[],[],[3,5,9]⟩
theorem c36(l:List Nf)(hx:∀r∈x,E4 r)(hr:∀q∈roots,HP q)(pq:Av x=0->ov x ifs roots):PC 40 [.agg (Ic x ifs),sl Ac roots,sl AG l] (dp x ifs roots l):=by
 have ed:AZ x roots l=if Av x≠0\/AL roots≠0 then([],(1:Int))else if 65536<l.length then([],(7:Int))else match BH x roots l []with | none=>([],(18:Int)) | some d=>(d,(0:Int)):=rfl
 refine Ps AcZ Tryz.func40 rfl (Nz rfl) (yN (Xi .pure (Xi _ (Yi (zh fS x ifs hx) (Yi ?_ ?_)))))
 .intro h;have h:Av x≠0:=h;exact .of_eq (M2 (by rw[ed,AX (.inl h)]) aa2)
 intro h1;have h1:¬Av x≠0:=h1;refine Xi .pure (Xi _ (Yi (c65 fS roots hr) (Yi ?_ ?_)))
 .intro h;have h:AL roots≠0:=h;exact .of_eq (M2 (by rw[ed,AX (.inr h)]) aa2)
 intro h2;have h2:¬AL roots≠0:=h2;have e1:=GL h1;have e2:=GL h2;refine cU [(1,sl Ac roots),(2,sl AG l),(3,.ref 3 0)] [(3,.cells (Ic x ifs))] Z3 Z1 (Yi ?_ ?_)
 .intro h;have h:(65536:Int)<(l.map AG).length:=h;exact .of_eq (M2 (by rw[ed,AI aa0,AX (by grind)]) aa2)
 intro h;have h:¬(65536:Int)<(l.map AG).length:=h;have h3:l.length<=65536:=by grind
 have ed2:AZ x roots l=match BH x roots l []with | none=>([],(18:Int)) | some d=>(d,(0:Int)):=by grind
 have hU:=Lx (x:=x) (roots:=roots) (l:=l) e1 e2 h3;have tv:=Fb e1;refine cU [(1,sl Ac roots),(2,sl AG l),(3,.ref 3 0)] [(3,.cells (Ic x ifs))] Z3 Z1 (yN (Xi {p:Nat×List (List Tm) // p.1<=l.length/\BH x roots (l.take p.1) []=some p.2/\p.2.length=p.1/\∀t∈p.2,PU (Hc x roots l) t} (Xi (fun p=>⟨[(8,.ref 25 0),(26,sl AG l),(27,vi (l.map AG).length),(28,vi p.1.1)],[(25,.cells [sl Am x,.slice .none ifs,sl Ac roots,.slice (.id 901 1) (p.1.2.map Aq)]),(901,.tok 1 (p.1.2.map Aq).length)],Ae⟩) (Xi (fun p=>l.length-p.1.1) (Yi (Xi ⟨(0,[]),Ap _,rfl,rfl,fun t ht=>by cases ht⟩ ?_) ?_)))))
 .exact⟨Z4,Z2,Fh,Tv⟩
 intro⟨⟨i,d⟩,i1,i2,i3,i4⟩;have i1:i<=l.length:=i1;have i2:BH x roots (l.take i) []=some d:=i2;have i3:d.length=i:=i3;have i4:∀t∈d,PU (Hc x roots l) t:=i4;refine Yi ?_ ?_
 .intro h;have h:(i:Int)<(l.map AG).length:=h;have h:i<l.length:=by simp_all
  have hg:l[i]?=some l[i]:=Ge h;refine Xi (AG l[i]) (Yi (Yi aa0 (by simp_all)) (Yi rfl ?_));refine Yi (Nz rfl) (yN (cU [(8,.ref 25 0),(10,.ref 10 0),(26,sl AG l),(27,vi (l.map AG).length),(28,vi i)] [(10,.cells (AG l[i])),(25,.cells [sl Am x,.slice .none ifs,sl Ac roots,.slice (.id 901 1) (d.map Aq)]),(901,.tok 1 (d.map Aq).length)] Z5 Z3 (yN ?_)));have CV:=c66 x ifs roots d l[i] aa0 (fun q hq=>(hr q hq).1) aa0 (fun r Vh q hq=>((hx r Vh).2 q hq).1) (pq e1) (fun t ht=>(i4 t ht).fewI hU);have rL:=Xq h i2;cases Y3:AM x roots d l[i]with
  |none=>
   refine Xi (.gen [(25,1000),(901,1001)] 0) (Yi rfl (CV.imp ?_));intro v g q;have q1:v=vb false:=by simp_all
   refine Al q.2 (fun d' q2=>?_);have uu:=q2.1;subst q1;subst uu;rw[Y3]at rL;have hn:BH x roots l []=none:=dF rL;exact .of_eq (M2 (by rw[ed2,hn]) aa2)
  |some t=>
   refine Xi (.gen [(25,1000),(901,1001)] 0) (Yi rfl (CV.imp ?_));intro v g q;have q1:v=vb true:=by simp_all
   refine Al q.2 (fun d' q2=>?_);have uu:=q2.1;have zJ:=q2.2 t Y3;subst q1;subst uu;rw[Y3]at rL;refine Yi (Ii i aa0) ?_;have Y2:=M5 (Ak h) i4 Y3;refine Xi ⟨(i+1,d'),by omega,by simp_all,by simp_all,fun u hu=>?_⟩ ?_
   .grind
   .exact⟨Dl l.length i aa0,Z4,Z2,Fh,Tv⟩
 .intro h;have h:¬(i:Int)<(l.map AG).length:=h;have h:¬i<l.length:=by simp_all
  have hn:BH x roots l []=some d:=by grind
  exact .of_eq (kc (by simp_all))
theorem bt{x:List Rl}{roots:List Rq}(h:(AZ x roots l).2≠0):(AZ x roots l).1=[]:=by
 grind [AZ]
theorem Tb{x:List Rl}{roots:List Rq}:(AZ x roots l).1.length<=65536:=by
 grind [AZ,HW,List.length_nil]
abbrev Il:AV:=.agg (Ic x ifs)
abbrev OI:EL:=⟨true,[.str,.int .i64,.int .i64,.int .i64]⟩
abbrev V9:Value:=.agg #[.string y.path,.int .i64 y.ver.a,.int .i64 y.ver.b,.int .i64 y.ver.c]
abbrev Oh:Value×AV:=(V9 (Cq r),.agg (Am r))
def AK:List Rl->List ByteArray->List ByteArray
 | [],acc=>acc
 |r::x,acc=>AK x (if acc.any (fun p=>decide (p=r.path))then acc else acc++[r.path])
abbrev ia:Value×AV:=(.string p,sl Am (x.filter fun r=>decide (r.path=p)))
abbrev uJ:AV:=if Av x=0 then .tup [.agg [.cmap OI (x.map Oh),.cmap Cv ((AK x []).map (ia x))],vi 0]else .tup [.agg [.cmap OI [],.cmap Cv []],vi (Av x)]
abbrev jr:Prop:=PC 95 [Il x ifs] (uJ x)
theorem Aba:PC 130 [.agg X6] (.agg X6):=by
 refine Ps De Tryz.func130 rfl (Nz rfl) (yN (Xi Unit (Xi (fun _=>⟨[(1,.ref 1 0),(2,.ref 2 0),(10,vi 0),(11,vi 0)],[(1,.cells X6),(2,.cells X6)],Ae⟩) (Xi (fun _=>0) (Yi (Xi () ?_) ?_)))))
 .exact⟨Z4,Z2,Fh,Tv⟩
 intro _;refine Yi ?_ ?_
 .intro h;exact absurd (show(0:Int)<0 from h) aa2
 .intro _;refine Yi (Nz rfl) (Yi (Nz rfl) (yN ?_));exact .refl _
theorem qg{y z:Sl}(h:V9 y=V9 z):y=z:=by
 obtain⟨p,⟨a,b,c⟩⟩:=y<;>simp_all
theorem XE{x:List Rl}{y:Sl}(h:(V9 y,a)∈x.map Oh):∃r∈x,Cq r=y/\a=.agg (Am r):=by
 grind [qg]
theorem YJ{x:List Rl}(hx:Av x=0){r:Rl}(hr:r∈x):Bo x (Cq r)=some r:=by
 unfold Bo;rw[AI aa0];cases h:x.find? (fun s=>decide (Cq s=Cq r))with
 |none=>
  grind
 |some s=>
  have h1:=FM h;simp only[A8]at h1;have hs:=Bn h;have hp:=(BC hx).2
  grind [List.mem_iff_getElem,List.pairwise_iff_getElem,Ol]
theorem c53(v:Ver)(TE:jr x ifs)(hx:∀r∈x,E4 r):PC 84 [Il x ifs,vs p,.agg (ES v)] (H4 (Bo x ⟨p,v⟩)):=by
 have hz:=Aba
 by_cases h0:Av x=0
 .have TE:PC 95 [Il x ifs] (.tup [.agg [.cmap OI (x.map Oh),.cmap Cv ((AK x []).map (ia x))],vi 0]):=by
   grind
  refine Ps (Dw []) Tryz.func84 rfl (Nz rfl) (yN (Xi .pure (Xi _ (Yi (TE) (yN (yN (Yi ?_ ?_)))))))
  .intro a ha;refine Al (XE (y:=⟨p,v⟩) ha) (fun r hr=>?_);have e:=hr.2.2;subst e;have hf:Bo x ⟨p,v⟩=some r:=by grind [YJ]
   have Vj:=(Fb h0).2 r hr.1;have hc:=c98 r aa0 (fun q hq=>((hx r hr.1).2 q hq).1);refine yN (yN (Xi .pure (Xi _ (Yi (hc) (Yi (Nz rfl) (yN ?_))))));exact .of_eq (show AV.tup [.agg (Am r),vb true]=H4 (Bo x ⟨p,v⟩) by rw[hf])
  .intro hn;have hf:Bo x ⟨p,v⟩=none:=by
    cases h:Bo x ⟨p,v⟩with
    |none=>rfl
    |some r=>
     obtain⟨_,h2,h3⟩:=CH h;exact absurd (Ar.2 ⟨r,h2,by simp_all⟩) (hn (.agg (Am r)))
   refine yN (yN (Xi .pure (Xi _ (Yi (hz) (Yi (Nz rfl) (yN ?_))))));exact .of_eq (show AV.tup [.agg X6,vb false]=H4 (Bo x ⟨p,v⟩) by rw[hf])
 .have TE:PC 95 [Il x ifs] (.tup [.agg [.cmap OI [],.cmap Cv []],vi (Av x)]):=by
   grind
  have hf:Bo x ⟨p,v⟩=none:=by grind [Bo]
  refine Ps (Dw []) Tryz.func84 rfl (Nz rfl) (yN (Xi .pure (Xi _ (Yi (TE) (yN (yN (Yi ?_ ?_)))))))
  .intro a ha;cases ha
  .intro _;refine yN (yN (Xi .pure (Xi _ (Yi (hz) (Yi (Nz rfl) (yN ?_))))));exact .of_eq (show AV.tup [.agg X6,vb false]=H4 (Bo x ⟨p,v⟩) by rw[hf])
abbrev EG(l:List Rl):AH:=(l.filter fun r=>!r.yanked).map fun r=>(plc r.ver,plc r.ver+1)
theorem cS(l:List Rl):(EG l).length<=l.length:=by
 grind
theorem jL{acc:List ByteArray}{p:ByteArray}:(acc.any fun q=>decide (q=p))=true↔p∈acc:=by
 simp_all
theorem HB:∀(x:List Rl) (acc:List ByteArray) (p:ByteArray),p∈AK x acc↔p∈acc\/∃r∈x,r.path=p
 | [],acc,p=>by simp[AK]
 |r::x,acc,p=>by
  rw[AK,HB x]
  grind
abbrev r4:Md:=(pT [] [(7,2)] [])
theorem VJ(L:List Rl)(i:Nat)(h:i<L.length):EG (L.take (i+1))=EG (L.take i)++(if L[i].yanked then []else [(plc L[i].ver,plc L[i].ver+1)]):=by
 unfold EG;rw[Ck,Ge h,HG,BD]
 grind
theorem wo(TE:jr x ifs):PC 61 [Il x ifs,vs p] (sl Ab (A4 x p)):=by
 by_cases h0:Av x=0
 .have TE:PC 95 [Il x ifs] (.tup [.agg [.cmap OI (x.map Oh),.cmap Cv ((AK x []).map (ia x))],vi 0]):=by
   grind
  have Kl:=(Fb h0).1;obtain⟨L,hLd⟩:∃L,L=x.filter fun r=>decide (r.path=p):=⟨_,rfl⟩;have hL:Io x p=L:=by grind [Io]
  have hLl:L.length<=256:=by grind
  refine Ps r4 Tryz.func61 rfl (Nz rfl) (yN (Xi .pure (Xi _ (Yi (TE) (yN (Yi ?_ ?_))))))
  .intro a ha;have ea:a=sl Am L:=by grind
   subst ea;refine Xi {i:Nat // i<=L.length} (Xi (fun i=>⟨[(7,.slice (.id 7 2) ((EG (L.take i.1)).map Ab)),(18,sl Am L),(19,vi (L.map Am).length),(20,vi i.1)],[(7,.tok 2 ((EG (L.take i.1)).map Ab).length)],Ae⟩) (Xi (fun i=>L.length-i.1) (Yi (Xi ⟨0,Ap _⟩ ?_) ?_)))
   .exact⟨Z4,Z1,Fh,Tv⟩
   intro⟨i,i1⟩;have Zc:=cS (L.take i);rw[Cy]at Zc;refine Yi ?_ ?_
   .intro h;have h:i<L.length:=by simp_all
    have hg:L[i]?=some L[i]:=Ge h;refine Xi (Am L[i]) (Yi (Yi aa0 (by simp_all)) (Yi rfl ?_));refine Yi (Nz rfl) (yN (Yi ?_ ?_))
    .intro hy;refine Yi (by grind [As]) ?_;have es:EG (L.take (i+1))=EG (L.take i):=by rw[VJ L i h,hy];simp
     have e1:AV.slice (.id 7 2) ((EG (L.take i)).map Ab)=.slice (.id 7 2) ((EG (L.take (i+1))).map Ab):=by rw[es]
     have e2:HO.tok 2 ((EG (L.take i)).map Ab).length=.tok 2 ((EG (L.take (i+1))).map Ab).length:=by rw[es]
     refine Xi ⟨i+1,by omega⟩ ?_;exact⟨by grind,⟨⟨e1,rfl⟩,Zr,Zr,Zr,Tv⟩,⟨⟨e2,rfl⟩,Tv⟩,Fh,Tv⟩
    .intro hy;have oa:=Sw L[i].ver;refine yN (Xi _ (Yi (c88 L[i]) (yN (Xi _ (Yi (c88 L[i]) (Yi (by grind [As]) ?_))))));have CO:A7 2 [[vi (plc L[i].ver),vi (plc L[i].ver+1)]]/\((EG (L.take i)).map Ab).length=((EG (L.take i)).map Ab).length/\(((EG (L.take i)).map Ab).length+[[vi (plc L[i].ver),vi (plc L[i].ver+1)]].length)*16<=140737488355328/\((EG (L.take i)).map Ab).length+[[vi (plc L[i].ver),vi (plc L[i].ver+1)]].length<=9223372036854775807:=
      ⟨⟨rfl,trivial⟩,rfl,by grind,by grind⟩
     refine Yi CO (Yi aa3 (Yi (by grind [As]) ?_));have es:EG (L.take (i+1))=EG (L.take i)++[(plc L[i].ver,plc L[i].ver+1)]:=by rw[VJ L i h,hy];simp
     have e1:AV.slice (.id 7 2) ((EG (L.take i)).map Ab++[[vi (plc L[i].ver),vi (plc L[i].ver+1)]])=.slice (.id 7 2) ((EG (L.take (i+1))).map Ab):=by simp_all
     have e2:HO.tok 2 (((EG (L.take i)).map Ab).length+[[vi (plc L[i].ver),vi (plc L[i].ver+1)]].length)=.tok 2 ((EG (L.take (i+1))).map Ab).length:=by simp_all
     refine Xi ⟨i+1,by omega⟩ ?_;exact⟨by grind,⟨⟨e1,rfl⟩,Zr,Zr,Zr,Tv⟩,⟨⟨e2,rfl⟩,Tv⟩,Fh,Tv⟩
   .intro h;have h:¬i<L.length:=by simp_all
    have et:L.take i=L:=Bd aa0;have hc:PC 116 [sl Ab (EG (L.take i))] (sl Ab (canon (EG (L.take i)))):=Yp _ aa0;refine Xi .pure (Xi _ (Yi (hc) ?_));exact .of_eq (show sl Ab (canon (EG (L.take i)))=sl Ab (A4 x p) by grind [A4])
  .intro hn;have hL:Io x p=[]:=by
    rw[hL,hLd,List.filter_eq_nil_iff];intro r hr he;have he:=Ed he;exact hn _ (Ar.2 ⟨p,(HB x [] p).2 (.inr ⟨r,hr,he⟩),rfl⟩)
   refine Xi Unit (Xi (fun _=>⟨[(7,.slice (.id 7 2) []),(19,vi 0),(20,vi 0)],[(7,.tok 2 0)],Ae⟩) (Xi (fun _=>0) (Yi (Xi () ?_) ?_)))
   .exact⟨Z3,Z1,Fh,Tv⟩
   intro _;refine Yi ?_ ?_
   .intro h;exact absurd (show(0:Int)<0 from h) aa2
   intro _;have hc:PC 116 [sl Ab []] (sl Ab (canon [])):=Yp [] (by simp_all);refine Xi .pure (Xi _ (Yi (hc) ?_));exact .of_eq (show sl Ab (canon [])=sl Ab (A4 x p) by grind [A4])
 .have TE:PC 95 [Il x ifs] (.tup [.agg [.cmap OI [],.cmap Cv []],vi (Av x)]):=by
   grind
  have hL:Io x p=[]:=by grind [Io]
  refine Ps r4 Tryz.func61 rfl (Nz rfl) (yN (Xi .pure (Xi _ (Yi (TE) (yN (Yi ?_ ?_))))))
  .intro a ha;cases ha
  .intro _;refine Xi Unit (Xi (fun _=>⟨[(7,.slice (.id 7 2) []),(19,vi 0),(20,vi 0)],[(7,.tok 2 0)],Ae⟩) (Xi (fun _=>0) (Yi (Xi () ?_) ?_)))
   .exact⟨Z3,Z1,Fh,Tv⟩
   intro _;refine Yi ?_ ?_
   .intro h;exact absurd (show(0:Int)<0 from h) aa2
   intro _;have hc:PC 116 [sl Ab []] (sl Ab (canon [])):=Yp [] (by simp_all);refine Xi .pure (Xi _ (Yi (hc) ?_));exact .of_eq (show sl Ab (canon [])=sl Ab (A4 x p) by grind [A4])
theorem NY:BL (A4 x p):=by
 grind [A4,E6,BG]
theorem Aaq(TE:jr x ifs):ov x ifs roots:=by
 intro d i;have h1:=wo x ifs i.path TE;have h2:=sK i.path (A4 x i.path) (NY x i.path);refine Bi (IB (Dw [2])) [(1000,1000),(1001,1001)] rfl Bz hm rfl Tryz.func183 aa3 rfl (Nz rfl) aa3 rfl (yN (Xi _ (Yi (h1) (Xi _ (Yi (h2) (Yi aa3 (cU [(6,sl Ad (D6 i.path (A4 x i.path)))] [(1000,IP x ifs roots d),(1001,IV d)] Z1 Z2 (Yi ?_ ?_))))))))
 .intro h3;have h3:(0:Int)<((D6 i.path (A4 x i.path)).map Ad).length:=h3;have e:AV.tup [sl Ad (D6 i.path (A4 x i.path)),vb true]=L9 (Oo (D6 i.path (A4 x i.path))):=ZK h3;exact Xi _ (Yi (.refl _) (Yi e rfl))
 .intro h3;have h3:¬(0:Int)<((D6 i.path (A4 x i.path)).map Ad).length:=h3;have e:AV.tup [sl Ad (D6 i.path (A4 x i.path)),vb false]=L9 (Oo (D6 i.path (A4 x i.path))):=d6 h3;exact Xi _ (Yi (.refl _) (Yi e rfl))
theorem c77:PC 81 [.agg (Ag y),.cptr (Ac q)] (vb (decide (y.path=q.path))):=by
 refine Ps De Tryz.func81 rfl (Nz rfl) (Yi ?_ ?_)
 .intro h;have h:y.path=q.path:=h;exact .of_eq (Aa vb (Bs h).symm)
 .intro h;have h:¬y.path=q.path:=h;exact .of_eq (Aa vb (AP h).symm)
theorem c79:PC 83 [.agg (Ag y),.cptr [vs p]] (vb (decide (y.path=p))):=by
 refine Ps De Tryz.func83 rfl (Nz rfl) (Yi ?_ ?_)
 .intro h;have h:y.path=p:=h;exact .of_eq (Aa vb (Bs h).symm)
 .intro h;have h:¬y.path=p:=h;exact .of_eq (Aa vb (AP h).symm)
theorem c90(hq:BL q.set):PC 100 [.agg (Ac q),.cptr (Am r),.cptr [vi pl]] (vb (decide (q.path=r.path)&&!has q.set pl)):=by
 have hc:=oO q.set pl hq;cases hh:has q.set pl with
 |true=>
  rw[hh]at hc;refine Ps De Tryz.func100 rfl (Nz rfl) (Yi ?_ ?_)
  .intro h;have h:q.path=r.path:=h;refine Xi .pure (Xi _ (Yi (hc) ?_));exact .of_eq (Aa vb (show false=(decide (q.path=r.path)&&!true) by simp_all))
  .intro h;have h:¬q.path=r.path:=h;exact .of_eq (Aa vb (show false=(decide (q.path=r.path)&&!true) by simp_all))
 |false=>
  rw[hh]at hc;refine Ps De Tryz.func100 rfl (Nz rfl) (Yi ?_ ?_)
  .intro h;have h:q.path=r.path:=h;refine Xi .pure (Xi _ (Yi (hc) ?_));exact .of_eq (Aa vb (show true=(decide (q.path=r.path)&&!false) by simp_all))
  .intro h;have h:¬q.path=r.path:=h;exact .of_eq (Aa vb (show false=(decide (q.path=r.path)&&!false) by simp_all))
abbrev i9:AV:=if Bp s=false then .tup [sl Am [],vi 1]else match FN x s with
 |none=>.tup [sl Am [],vi 6]
 |some l=>.tup [sl Am l,vi 0]
abbrev Ad3:Md:=(pT [] [(7,9)] [7,11,13])
theorem yo(e:Int):Ea (.tup [nzA,vi e]) (.tup [.slice .none [],vi e]):=Ea.tup ⟨.nil,.refl _,trivial⟩
theorem c85(P:List (Value×AV))(h0:Av x=0)(hs:BL s):PC 96 [.agg [.cmap OI (x.map Oh),.cmap Cv P],sl Ag s] (i9 x s):=by
 unfold BL at hs;refine Ps Ad3 Tryz.func96 rfl (Nz rfl) ?_;refine Xi {i:Nat // 1<=i/\(s=[]\/i<=s.length)/\Bp s=(match s[i-1]? with | none=>true | some y=>KK (some y.path) (s.drop i))} (Xi (fun i=>⟨[(1,sl Ag s),(2,.ref 2 0),(6,vi i.1)],[(2,.cells [.cmap OI (x.map Oh),.cmap Cv P])],Ae⟩) (Xi (fun i=>s.length-i.1) (Yi (Xi ⟨1,Ao _,by grind,by cases s<;>rfl⟩ ?_) ?_)))
 .exact⟨Z3,Z1,Fh,Tv⟩
 intro⟨i,h1,h2,h3⟩;refine Yi ?_ ?_
 .intro h;have h:(i:Int)<(s.map Ag).length:=h;have h:i<s.length:=by simp_all
  have hg:s[i]?=some s[i]:=Ge h;have h' : i-1<s.length:=by omega
  have lA : s[i-1]?=some s[i-1]:=Ge h';have e1:((i:Int)-1).toNat=i-1:=by omega
  have lP:Bp s=(Fp s[i-1].path s[i].path&&KK (some s[i].path) (s.drop (i+1))):=by
   grind [Zi]
  refine Yi (by grind [As]) (Xi (Ag s[i-1]) (Yi (Yi (by grind) (by simp_all)) (Yi rfl ?_)));refine Xi (Ag s[i]) (Yi (Yi aa0 (by simp_all)) (Yi rfl ?_));refine Yi ?_ ?_
  .intro h4;have h4:Op.bytesLess s[i-1].path.toList s[i].path.toList=false:=h4;rw[<-Ew]at h4;refine Yi aa3 ?_;have e:AV.tup [.slice .none [],vi 1]=i9 x s:=by grind
   exact(yo 1).trans (.of_eq e)
  .intro h4;have h4:¬Op.bytesLess s[i-1].path.toList s[i].path.toList=false:=h4;rw[<-Ew,Rc]at h4;refine Yi aa3 (Yi (by grind [As]) (Xi ⟨i+1,by omega,.inr aa0,by simp_all⟩ ?_));exact⟨Dl s.length i aa0,Z3,Z1,Fh,Tv⟩
 intro h;have h:¬(i:Int)<(s.map Ag).length:=h;have h:¬i<s.length:=by simp_all
 have xH:Bp s=true:=by
  rcases h2 with h2 | h2
  .grind
  .have e:i=s.length:=by omega
   rw[h3,e,List.drop_length];cases s[s.length-1]?<;>rfl
 have es:i9 x s=match FN x s with
  |none=>.tup [sl Am [],vi 6]
  |some l=>.tup [sl Am l,vi 0]:=by simp_all
 refine cU [(1,sl Ag s),(2,.ref 2 0),(7,.slice (.id 7 9) [])] [(2,.cells [.cmap OI (x.map Oh),.cmap Cv P]),(7,.tok 9 0)] Z3 Z2 (Xi {p:Nat×List Rl // p.1<=s.length/\p.2.length=p.1/\FN x s=(FN x (s.drop p.1)).map (p.2++·)} (Xi (fun p=>⟨[(2,.ref 2 0),(7,.slice (.id 7 9) (p.1.2.map Am)),(30,sl Ag s),(31,vi (s.map Ag).length),(32,vi p.1.1)],[(2,.cells [.cmap OI (x.map Oh),.cmap Cv P]),(7,.tok 9 (p.1.2.map Am).length)],Ae⟩) (Xi (fun p=>s.length-p.1.1) (Yi (Xi ⟨(0,[]),Ap _,rfl,by simp_all⟩ ?_) ?_))))
 .exact⟨Z5,Z2,Fh,Tv⟩
 intro⟨⟨j,l⟩,j1,j2,j3⟩;have j1:j<=s.length:=j1;have j2:l.length=j:=j2;have j3:FN x s=(FN x (s.drop j)).map (l++·):=j3;refine Yi ?_ ?_
 .intro hj;have hj:(j:Int)<(s.map Ag).length:=hj;have hj:j<s.length:=by simp_all
  have hg:s[j]?=some s[j]:=Ge hj;have hd:s.drop j=s[j]::s.drop (j+1):=Ba hj;refine Xi (Ag s[j]) (Yi (Yi aa0 (by grind)) (Yi rfl (Yi (Nz rfl) (yN (yN (Yi ?_ ?_))))))
  .intro a ha;refine Al (XE (y:=s[j]) ha) (fun r hr=>?_);have e:=hr.2.2;subst e;have hf:Bo x s[j]=some r:=by grind [YJ]
   have j4:FN x s=(FN x (s.drop (j+1))).map ((l++[r])++·):=by
    rw[j3,hd,FN,hf]
    grind
   refine yN (cU [(2,.ref 2 0),(7,.slice (.id 7 9) (l.map Am)),(10,.ref 10 0),(11,vb true),(30,sl Ag s),(31,vi (s.map Ag).length),(32,vi j)] [(2,.cells [.cmap OI (x.map Oh),.cmap Cv P]),(7,.tok 9 (l.map Am).length),(10,.cells (Am r))] Z7 Z3 (cU [(2,.ref 2 0),(7,.slice (.id 7 9) (l.map Am)),(10,.ref 10 0),(30,sl Ag s),(31,vi (s.map Ag).length),(32,vi j)] [(2,.cells [.cmap OI (x.map Oh),.cmap Cv P]),(7,.tok 9 (l.map Am).length),(10,.cells (Am r))] Z6 Z3 (yN ?_)));have CO:A7 9 [Am r]/\(l.map Am).length=(l.map Am).length/\((l.map Am).length+[Am r].length)*120<=140737488355328/\(l.map Am).length+[Am r].length<=9223372036854775807:=
    ⟨⟨rfl,trivial⟩,rfl,by grind,by grind⟩
   refine Yi CO (Yi (Ii j aa0) ?_);have e1:AV.slice (.id 7 9) (l.map Am++[Am r])=.slice (.id 7 9) ((l++[r]).map Am):=by grind
   have e2:HO.tok 9 ((l.map Am).length+[Am r].length)=.tok 9 ((l++[r]).map Am).length:=by grind
   refine Xi ⟨(j+1,l++[r]),by omega,by grind,j4⟩ ?_;exact⟨by grind,⟨Zr,⟨e1,rfl⟩,Zr,Zr,Zr,Tv⟩,⟨Zr,⟨e2,rfl⟩,Tv⟩,Fh,Tv⟩
  .intro hn;have hf:Bo x s[j]=none:=by
    cases h:Bo x s[j]with
    |none=>rfl
    |some r=>
     obtain⟨_,h2,h3⟩:=CH h;exact absurd (Ar.2 ⟨r,h2,by grind⟩) (hn (.agg (Am r)))
   have j4:FN x s=none:=by grind [FN]
   refine yN (cU [(11,vb false)] [] Z1 Tv ?_)
   have e:AV.tup [.slice .none [],vi 6]=i9 x s:=by grind
   exact(yo 6).trans (.of_eq e)
 .intro hj;have hj:¬(j:Int)<(s.map Ag).length:=hj;have hj:¬j<s.length:=by simp_all
  have j4:FN x s=some l:=by grind [FN]
  have e:AV.tup [sl Am l,vi 0]=i9 x s:=by simp_all
  exact .of_eq e
abbrev ME:Value×AV:=(.string r.path,.agg (Am r))
theorem Sp{m:List Rl}{p:ByteArray}(h:(Value.string p,a)∈m.map ME):∃r∈m,r.path=p/\a=.agg (Am r):=by
 grind
theorem Hy:∀{m:List Rl},(m.map (·.path)).Nodup->∀{r:Rl},r∈m->m.find? (fun s=>decide (s.path=r.path))=some r
 |a::m,hn,r,hr=>by
  rw[Bv,GK]at hn;rw[HQ];rcases AF.1 hr with rfl | hr
  .simp
  .have:¬a.path=r.path:=fun e=>hn.1 (Ar.2 ⟨r,hr,e.symm⟩)
   rw[AP this];exact Hy hn.2 hr
theorem c86(m:List Rl)(hn:(m.map (·.path)).Nodup)(q:Rq)(hq:BL q.set):PC 97 [.agg (Ac q),.cptr [.cmap Cv (m.map ME)]] (vb (B9 m q)):=by
 refine Ps (Dw [2]) Tryz.func97 rfl (Nz rfl) (Yi ?_ ?_)
 .intro a ha;refine Al (Sp ha) (fun r hr=>?_);have e:=hr.2.2;subst e;have hf:m.find? (fun s=>decide (s.path=q.path))=some r:=by grind [Hy]
  have hb:B9 m q=!has q.set (plc r.ver):=by grind [B9]
  have hc:=oO q.set (plc r.ver) hq;refine yN (cU [(2,.ref 2 0),(4,.ref 4 0),(5,vb true)] [(2,.cells (Ac q)),(4,.cells (Am r))] Z3 Z2 (yN (Xi _ (Yi (c88 r) (AA (Bt (has q.set (plc r.ver))) (fun e=>?_) (fun e=>?_))))))
  .rw[e]at hc;refine Xi _ (Yi (hc) (Yi aa3 ?_));exact .of_eq (Aa vb (show false=B9 m q by simp_all))
  .rw[e]at hc;refine Xi _ (Yi (hc) (Yi aa3 ?_));exact .of_eq (Aa vb (show true=B9 m q by simp_all))
 .intro Me;have hf:m.find? (fun s=>decide (s.path=q.path))=none:=by
   rw[List.find?_eq_none];intro r hr he;have he:=Ed he;exact Me _ (Ar.2 ⟨r,hr,by rw[<-he]⟩)
  have hb:B9 m q=true:=by grind [B9]
  refine yN (cU [(2,.ref 2 0),(4,.ref 4 0),(5,vb false)] [(2,.cells (Ac q)),(4,.cells X6)] Z3 Z2 (Yi aa3 ?_));exact .of_eq (Aa vb hb.symm)
end Go.Eng
