/- Lemmas 18. -/
import Derived.Test.YtkjhcikodmiceaaGreatDoorMA17
namespace Go.Eng
open Go.Proofs Go.Proofs.Tryz
variable {l:List Nf}{i:Nat}{a:AV}(x:List Rl)(ifs:C0)(roots:List Rq)(d:List (List Tm))(y:Sl)(q:Rq)(s:List Sl)(r:Rl)(p:CS)(pl nu le ri:Int)
abbrev qJ:Prop:=∀(d:List (List Tm)) (i:Nf),
 A6 prog 319 [.ref 1000 0,.agg (AG i)] (Ai (Oe x ifs roots d) Af) fun r h'=>r=Mw (Ph (Eh i.path (Ba x i.path)))/\h'=Ai (Oe x ifs roots d) Af
abbrev TV(i:Nf)(r:AV)(h' : Nat->HO):Prop:=
 r=I (AR x roots d i).isSome/\∃d',h'=Ai (Oe x ifs roots d') Af/\∀t,AR x roots d i=some t->d'=d++[t]
theorem zo(hd:d.length<=65536)(hr:∀q∈roots,BF q.set) :
  A6 prog 182 [.ref 1000 0,.agg (AG ⟨0,p,pl,nu,le,ri⟩)] (Ai (Oe x ifs roots d) Af) fun r h'=>TV x ifs roots d ⟨0,p,pl,nu,le,ri⟩ r h':=by
 have mV:AR x roots d ⟨0,p,pl,nu,le,ri⟩=if p=R/\pl=0/\le=0/\ri=0 then(DU roots nu).map GE else none:=rfl
 by_cases hc:p=R/\pl=0/\le=0/\ri=0
 .have mW:AR x roots d ⟨0,p,pl,nu,le,ri⟩=(DU roots nu).map GE:=aa0
  have Kr:=Adt x ifs roots d ⟨0,p,pl,nu,le,ri⟩ hr;cases ho:(DU roots nu).map GE with
  |none=>
   have GG:AR x roots d ⟨0,p,pl,nu,le,ri⟩=none:=aa0
   rw[ho]at Kr;refine Bi (IU (DJ [3,4,6])) [(1000,1000),(1001,1001)] rfl BA hm rfl func182 aa4 rfl C4 aa4 rfl (J ?_ ?_)
   .intro h;exact absurd (show(0:Int)<0 from h) aa3
   intro _;refine J ?_ ?_
   .intro h;exact absurd (show(3:Int)<0 from h) aa3
   intro _;refine cU [(0,.ref 1000 0),(3,.ref 3 0)] [(3,.cells (AG ⟨0,p,pl,nu,le,ri⟩)),(1000,Jk x ifs roots d),(1001,Jq d)] Z2 Z3 (U (S8) (J ⟨by omega,by omega⟩ ?_));refine J C4 (yN (J aa4 (cU [(0,.ref 1000 0),(3,.ref 3 0),(5,.ref 5 0)] [(3,.cells (AG ⟨0,p,pl,nu,le,ri⟩)),(5,.cells [.v (Hs 314),.v (Hs 315)]),(1000,Jk x ifs roots d),(1001,Jq d)] Z3 Z4 (yN (U (vM ⟨0,p,pl,nu,le,ri⟩) (J ?_ ?_))))))
   rotate_left
   .intro h6;have he:aE [G 0,vs p,G pl,G 0,G le,G ri] [G 0,vs R,G 0,G 0,G 0,G 0]:=⟨rfl,hc.1,hc.2.1,rfl,hc.2.2.1,hc.2.2.2,trivial⟩;exact absurd he h6
   intro _;refine J aa4 (cU [(0,.ref 1000 0),(3,.ref 3 0),(5,.ref 5 0)] [(3,.cells (AG ⟨0,p,pl,nu,le,ri⟩)),(5,.cells [.v (Hs 314),.v (Hs 315)]),(1000,Jk x ifs roots d),(1001,Jq d)] Z3 Z4 (yN (Z (.gen [(1000,1000),(1001,1001)] 0) (J rfl (Kr.imp ?_)))));intro v1 g1 q1;have VD:=q1.1;have QO:=q1.2;subst VD;subst QO;have De:A7 1 [F []]/\(d.map F).length=(d.map F).length/\((d.map F).length+[F []].length)*24<=140737488355328/\(d.map F).length+[F []].length<=9223372036854775807:=
    ⟨⟨rfl,trivial⟩,rfl,by rw[Lm,A8];omega,by rw[Lm,A8];omega⟩
   refine J De (yN ?_);have eh:Ai [(1000,HO.cells [sl V x,.slice .none ifs,sl Ac roots,.slice (.id 1001 1) (d.map F++[F []])]),(1001,.tok 1 ((d.map F).length+[F []].length))] Af=Ai (Oe x ifs roots (d++[[]])) Af:=by
    simp[Oe,Jk,rk,Jq]
   have er:I false=I (AR x roots d ⟨0,p,pl,nu,le,ri⟩).isSome:=by rw[GG];rfl
   exact U (.refl _) (J er (Z (d++[[]]) (J eh (fun t ht=>by rw[GG]at ht;cases ht))))
  |some tt=>
   have GG:AR x roots d ⟨0,p,pl,nu,le,ri⟩=some tt:=aa0
   rw[ho]at Kr;refine Bi (IU (DJ [3,4,6])) [(1000,1000),(1001,1001)] rfl BA hm rfl func182 aa4 rfl C4 aa4 rfl (J ?_ ?_)
   .intro h;exact absurd (show(0:Int)<0 from h) aa3
   intro _;refine J ?_ ?_
   .intro h;exact absurd (show(3:Int)<0 from h) aa3
   intro _;refine cU [(0,.ref 1000 0),(3,.ref 3 0)] [(3,.cells (AG ⟨0,p,pl,nu,le,ri⟩)),(1000,Jk x ifs roots d),(1001,Jq d)] Z2 Z3 (U (S8) (J ⟨by omega,by omega⟩ ?_));refine J C4 (yN (J aa4 (cU [(0,.ref 1000 0),(3,.ref 3 0),(5,.ref 5 0)] [(3,.cells (AG ⟨0,p,pl,nu,le,ri⟩)),(5,.cells [.v (Hs 314),.v (Hs 315)]),(1000,Jk x ifs roots d),(1001,Jq d)] Z3 Z4 (yN (U (vM ⟨0,p,pl,nu,le,ri⟩) (J ?_ ?_))))))
   rotate_left
   .intro h6;have he:aE [G 0,vs p,G pl,G 0,G le,G ri] [G 0,vs R,G 0,G 0,G 0,G 0]:=⟨rfl,hc.1,hc.2.1,rfl,hc.2.2.1,hc.2.2.2,trivial⟩;exact absurd he h6
   intro _;refine J aa4 (cU [(0,.ref 1000 0),(3,.ref 3 0),(5,.ref 5 0)] [(3,.cells (AG ⟨0,p,pl,nu,le,ri⟩)),(5,.cells [.v (Hs 314),.v (Hs 315)]),(1000,Jk x ifs roots d),(1001,Jq d)] Z3 Z4 (yN (Z (.gen [(1000,1000),(1001,1001)] 0) (J rfl (Kr.imp ?_)))));intro v1 g1 q1;have VD:=q1.1;have QO:=q1.2;subst VD;subst QO;have De:A7 1 [F tt]/\(d.map F).length=(d.map F).length/\((d.map F).length+[F tt].length)*24<=140737488355328/\(d.map F).length+[F tt].length<=9223372036854775807:=
    ⟨⟨rfl,trivial⟩,rfl,by rw[Lm,A8];omega,by rw[Lm,A8];omega⟩
   refine J De (yN ?_);have eh:Ai [(1000,HO.cells [sl V x,.slice .none ifs,sl Ac roots,.slice (.id 1001 1) (d.map F++[F tt])]),(1001,.tok 1 ((d.map F).length+[F tt].length))] Af=Ai (Oe x ifs roots (d++[tt])) Af:=by
    simp[Oe,Jk,rk,Jq]
   have er:I true=I (AR x roots d ⟨0,p,pl,nu,le,ri⟩).isSome:=by rw[GG];rfl
   exact U (.refl _) (J er (Z (d++[tt]) (J eh (fun t ht=>by rw[GG]at ht;cases ht;rfl))))
 .have GG:AR x roots d ⟨0,p,pl,nu,le,ri⟩=none:=aa0
  refine Bi (IU (DJ [3,4,6])) [(1000,1000),(1001,1001)] rfl BA hm rfl func182 aa4 rfl C4 aa4 rfl (J ?_ ?_)
  .intro h;exact absurd (show(0:Int)<0 from h) aa3
  intro _;refine J ?_ ?_
  .intro h;exact absurd (show(3:Int)<0 from h) aa3
  intro _;refine cU [(0,.ref 1000 0),(3,.ref 3 0)] [(3,.cells (AG ⟨0,p,pl,nu,le,ri⟩)),(1000,Jk x ifs roots d),(1001,Jq d)] Z2 Z3 (U (S8) (J ⟨by omega,by omega⟩ ?_));refine J C4 (yN (J aa4 (cU [(0,.ref 1000 0),(3,.ref 3 0),(5,.ref 5 0)] [(3,.cells (AG ⟨0,p,pl,nu,le,ri⟩)),(5,.cells [.v (Hs 314),.v (Hs 315)]),(1000,Jk x ifs roots d),(1001,Jq d)] Z3 Z4 (yN (U (vM ⟨0,p,pl,nu,le,ri⟩) (J ?_ ?_))))))
  .intro h6;exact absurd (show p=R/\pl=0/\le=0/\ri=0 from⟨h6.2.1,h6.2.2.1,h6.2.2.2.2.1,h6.2.2.2.2.2.1⟩) hc
  intro _;refine J aa4 ?_;have er:I false=I (AR x roots d ⟨0,p,pl,nu,le,ri⟩).isSome:=by rw[GG];rfl
  exact U (.refl _) (J er (Z d (J rfl (fun t ht=>by rw[GG]at ht;cases ht))))
theorem zp(hd:d.length<=65536)(hx:BF x)(hq:∀r∈x,∀q∈r.reqs,BF q.set) :
  A6 prog 182 [.ref 1000 0,.agg (AG ⟨1,p,pl,nu,le,ri⟩)] (Ai (Oe x ifs roots d) Af) fun r h'=>TV x ifs roots d ⟨1,p,pl,nu,le,ri⟩ r h':=by
 have mV:AR x roots d ⟨1,p,pl,nu,le,ri⟩=if le=0/\ri=0 then WA x ⟨1,p,pl,nu,le,ri⟩else none:=rfl
 by_cases hc:le=0/\ri=0
 .have mW:AR x roots d ⟨1,p,pl,nu,le,ri⟩=WA x ⟨1,p,pl,nu,le,ri⟩:=aa0
  have Kr:=Adu x ifs roots d ⟨1,p,pl,nu,le,ri⟩ hx hq;cases ho:WA x ⟨1,p,pl,nu,le,ri⟩with
  |none=>
   have GG:AR x roots d ⟨1,p,pl,nu,le,ri⟩=none:=aa0
   rw[ho]at Kr;refine Bi (IU (DJ [3,4,6])) [(1000,1000),(1001,1001)] rfl BA hm rfl func182 aa4 rfl C4 aa4 rfl (J ?_ ?_)
   .intro h;exact absurd (show(1:Int)<0 from h) aa3
   intro _;refine J ?_ ?_
   .intro h;exact absurd (show(3:Int)<1 from h) aa3
   intro _;refine cU [(0,.ref 1000 0),(3,.ref 3 0)] [(3,.cells (AG ⟨1,p,pl,nu,le,ri⟩)),(1000,Jk x ifs roots d),(1001,Jq d)] Z2 Z3 (U (S8) (J ⟨by omega,by omega⟩ ?_));refine J C4 (yN (J aa4 (cU [(0,.ref 1000 0),(3,.ref 3 0),(5,.ref 5 0)] [(3,.cells (AG ⟨1,p,pl,nu,le,ri⟩)),(5,.cells [.v (Hs 316),.v (Hs 317)]),(1000,Jk x ifs roots d),(1001,Jq d)] Z3 Z4 (yN (U (vN ⟨1,p,pl,nu,le,ri⟩) (J ?_ ?_))))))
   rotate_left
   .intro h6;have he:aE [G 1,vs R,G 0,G 0,G le,G ri] [G 1,vs R,G 0,G 0,G 0,G 0]:=⟨rfl,rfl,rfl,rfl,hc.1,hc.2,trivial⟩;exact absurd he h6
   intro _;refine J aa4 (cU [(0,.ref 1000 0),(3,.ref 3 0),(5,.ref 5 0)] [(3,.cells (AG ⟨1,p,pl,nu,le,ri⟩)),(5,.cells [.v (Hs 316),.v (Hs 317)]),(1000,Jk x ifs roots d),(1001,Jq d)] Z3 Z4 (yN (Z (.gen [(1000,1000),(1001,1001)] 0) (J rfl (Kr.imp ?_)))));intro v1 g1 q1;have VD:=q1.1;have QO:=q1.2;subst VD;subst QO;have De:A7 1 [F []]/\(d.map F).length=(d.map F).length/\((d.map F).length+[F []].length)*24<=140737488355328/\(d.map F).length+[F []].length<=9223372036854775807:=
    ⟨⟨rfl,trivial⟩,rfl,by rw[Lm,A8];omega,by rw[Lm,A8];omega⟩
   refine J De (yN ?_);have eh:Ai [(1000,HO.cells [sl V x,.slice .none ifs,sl Ac roots,.slice (.id 1001 1) (d.map F++[F []])]),(1001,.tok 1 ((d.map F).length+[F []].length))] Af=Ai (Oe x ifs roots (d++[[]])) Af:=by
    simp[Oe,Jk,rk,Jq]
   have er:I false=I (AR x roots d ⟨1,p,pl,nu,le,ri⟩).isSome:=by rw[GG];rfl
   exact U (.refl _) (J er (Z (d++[[]]) (J eh (fun t ht=>by rw[GG]at ht;cases ht))))
  |some tt=>
   have GG:AR x roots d ⟨1,p,pl,nu,le,ri⟩=some tt:=aa0
   rw[ho]at Kr;refine Bi (IU (DJ [3,4,6])) [(1000,1000),(1001,1001)] rfl BA hm rfl func182 aa4 rfl C4 aa4 rfl (J ?_ ?_)
   .intro h;exact absurd (show(1:Int)<0 from h) aa3
   intro _;refine J ?_ ?_
   .intro h;exact absurd (show(3:Int)<1 from h) aa3
   intro _;refine cU [(0,.ref 1000 0),(3,.ref 3 0)] [(3,.cells (AG ⟨1,p,pl,nu,le,ri⟩)),(1000,Jk x ifs roots d),(1001,Jq d)] Z2 Z3 (U (S8) (J ⟨by omega,by omega⟩ ?_));refine J C4 (yN (J aa4 (cU [(0,.ref 1000 0),(3,.ref 3 0),(5,.ref 5 0)] [(3,.cells (AG ⟨1,p,pl,nu,le,ri⟩)),(5,.cells [.v (Hs 316),.v (Hs 317)]),(1000,Jk x ifs roots d),(1001,Jq d)] Z3 Z4 (yN (U (vN ⟨1,p,pl,nu,le,ri⟩) (J ?_ ?_))))))
   rotate_left
   .intro h6;have he:aE [G 1,vs R,G 0,G 0,G le,G ri] [G 1,vs R,G 0,G 0,G 0,G 0]:=⟨rfl,rfl,rfl,rfl,hc.1,hc.2,trivial⟩;exact absurd he h6
   intro _;refine J aa4 (cU [(0,.ref 1000 0),(3,.ref 3 0),(5,.ref 5 0)] [(3,.cells (AG ⟨1,p,pl,nu,le,ri⟩)),(5,.cells [.v (Hs 316),.v (Hs 317)]),(1000,Jk x ifs roots d),(1001,Jq d)] Z3 Z4 (yN (Z (.gen [(1000,1000),(1001,1001)] 0) (J rfl (Kr.imp ?_)))));intro v1 g1 q1;have VD:=q1.1;have QO:=q1.2;subst VD;subst QO;have De:A7 1 [F tt]/\(d.map F).length=(d.map F).length/\((d.map F).length+[F tt].length)*24<=140737488355328/\(d.map F).length+[F tt].length<=9223372036854775807:=
    ⟨⟨rfl,trivial⟩,rfl,by rw[Lm,A8];omega,by rw[Lm,A8];omega⟩
   refine J De (yN ?_);have eh:Ai [(1000,HO.cells [sl V x,.slice .none ifs,sl Ac roots,.slice (.id 1001 1) (d.map F++[F tt])]),(1001,.tok 1 ((d.map F).length+[F tt].length))] Af=Ai (Oe x ifs roots (d++[tt])) Af:=by
    simp[Oe,Jk,rk,Jq]
   have er:I true=I (AR x roots d ⟨1,p,pl,nu,le,ri⟩).isSome:=by rw[GG];rfl
   exact U (.refl _) (J er (Z (d++[tt]) (J eh (fun t ht=>by rw[GG]at ht;cases ht;rfl))))
 .have GG:AR x roots d ⟨1,p,pl,nu,le,ri⟩=none:=aa0
  refine Bi (IU (DJ [3,4,6])) [(1000,1000),(1001,1001)] rfl BA hm rfl func182 aa4 rfl C4 aa4 rfl (J ?_ ?_)
  .intro h;exact absurd (show(1:Int)<0 from h) aa3
  intro _;refine J ?_ ?_
  .intro h;exact absurd (show(3:Int)<1 from h) aa3
  intro _;refine cU [(0,.ref 1000 0),(3,.ref 3 0)] [(3,.cells (AG ⟨1,p,pl,nu,le,ri⟩)),(1000,Jk x ifs roots d),(1001,Jq d)] Z2 Z3 (U (S8) (J ⟨by omega,by omega⟩ ?_));refine J C4 (yN (J aa4 (cU [(0,.ref 1000 0),(3,.ref 3 0),(5,.ref 5 0)] [(3,.cells (AG ⟨1,p,pl,nu,le,ri⟩)),(5,.cells [.v (Hs 316),.v (Hs 317)]),(1000,Jk x ifs roots d),(1001,Jq d)] Z3 Z4 (yN (U (vN ⟨1,p,pl,nu,le,ri⟩) (J ?_ ?_))))))
  .intro h6;exact absurd (show le=0/\ri=0 from⟨h6.2.2.2.2.1,h6.2.2.2.2.2.1⟩) hc
  intro _;refine J aa4 ?_;have er:I false=I (AR x roots d ⟨1,p,pl,nu,le,ri⟩).isSome:=by rw[GG];rfl
  exact U (.refl _) (J er (Z d (J rfl (fun t ht=>by rw[GG]at ht;cases ht))))
theorem zq(hd:d.length<=65536)(rL:qJ x ifs roots) :
  A6 prog 182 [.ref 1000 0,.agg (AG ⟨2,p,pl,nu,le,ri⟩)] (Ai (Oe x ifs roots d) Af) fun r h'=>TV x ifs roots d ⟨2,p,pl,nu,le,ri⟩ r h':=by
 have mV:AR x roots d ⟨2,p,pl,nu,le,ri⟩=if pl=0/\nu=0/\le=0/\ri=0 then Ph (Eh p (Ba x p))else none:=rfl
 by_cases hc:pl=0/\nu=0/\le=0/\ri=0
 .have mW:AR x roots d ⟨2,p,pl,nu,le,ri⟩=Ph (Eh p (Ba x p)):=aa0
  have Kr:=rL d ⟨2,p,pl,nu,le,ri⟩;cases ho:Ph (Eh p (Ba x p))with
  |none=>
   have GG:AR x roots d ⟨2,p,pl,nu,le,ri⟩=none:=aa0
   rw[ho]at Kr;refine Bi (IU (DJ [3,4,6])) [(1000,1000),(1001,1001)] rfl BA hm rfl func182 aa4 rfl C4 aa4 rfl (J ?_ ?_)
   .intro h;exact absurd (show(2:Int)<0 from h) aa3
   intro _;refine J ?_ ?_
   .intro h;exact absurd (show(3:Int)<2 from h) aa3
   intro _;refine cU [(0,.ref 1000 0),(3,.ref 3 0)] [(3,.cells (AG ⟨2,p,pl,nu,le,ri⟩)),(1000,Jk x ifs roots d),(1001,Jq d)] Z2 Z3 (U (S8) (J ⟨by omega,by omega⟩ ?_));refine J C4 (yN (J aa4 (cU [(0,.ref 1000 0),(3,.ref 3 0),(5,.ref 5 0)] [(3,.cells (AG ⟨2,p,pl,nu,le,ri⟩)),(5,.cells [.v (Hs 318),.v (Hs 319)]),(1000,Jk x ifs roots d),(1001,Jq d)] Z3 Z4 (yN (U (vO ⟨2,p,pl,nu,le,ri⟩) (J ?_ ?_))))))
   rotate_left
   .intro h6;have he:aE [G 2,vs R,G pl,G nu,G le,G ri] [G 2,vs R,G 0,G 0,G 0,G 0]:=⟨rfl,rfl,hc.1,hc.2.1,hc.2.2.1,hc.2.2.2,trivial⟩;exact absurd he h6
   intro _;refine J aa4 (cU [(0,.ref 1000 0),(3,.ref 3 0),(5,.ref 5 0)] [(3,.cells (AG ⟨2,p,pl,nu,le,ri⟩)),(5,.cells [.v (Hs 318),.v (Hs 319)]),(1000,Jk x ifs roots d),(1001,Jq d)] Z3 Z4 (yN (Z (.gen [(1000,1000),(1001,1001)] 0) (J rfl (Kr.imp ?_)))));intro v1 g1 q1;have VD:=q1.1;have QO:=q1.2;subst VD;subst QO;have De:A7 1 [F []]/\(d.map F).length=(d.map F).length/\((d.map F).length+[F []].length)*24<=140737488355328/\(d.map F).length+[F []].length<=9223372036854775807:=
    ⟨⟨rfl,trivial⟩,rfl,by rw[Lm,A8];omega,by rw[Lm,A8];omega⟩
   refine J De (yN ?_);have eh:Ai [(1000,HO.cells [sl V x,.slice .none ifs,sl Ac roots,.slice (.id 1001 1) (d.map F++[F []])]),(1001,.tok 1 ((d.map F).length+[F []].length))] Af=Ai (Oe x ifs roots (d++[[]])) Af:=by
    simp[Oe,Jk,rk,Jq]
   have er:I false=I (AR x roots d ⟨2,p,pl,nu,le,ri⟩).isSome:=by rw[GG];rfl
   exact U (.refl _) (J er (Z (d++[[]]) (J eh (fun t ht=>by rw[GG]at ht;cases ht))))
  |some tt=>
   have GG:AR x roots d ⟨2,p,pl,nu,le,ri⟩=some tt:=aa0
   rw[ho]at Kr;refine Bi (IU (DJ [3,4,6])) [(1000,1000),(1001,1001)] rfl BA hm rfl func182 aa4 rfl C4 aa4 rfl (J ?_ ?_)
   .intro h;exact absurd (show(2:Int)<0 from h) aa3
   intro _;refine J ?_ ?_
   .intro h;exact absurd (show(3:Int)<2 from h) aa3
   intro _;refine cU [(0,.ref 1000 0),(3,.ref 3 0)] [(3,.cells (AG ⟨2,p,pl,nu,le,ri⟩)),(1000,Jk x ifs roots d),(1001,Jq d)] Z2 Z3 (U (S8) (J ⟨by omega,by omega⟩ ?_));refine J C4 (yN (J aa4 (cU [(0,.ref 1000 0),(3,.ref 3 0),(5,.ref 5 0)] [(3,.cells (AG ⟨2,p,pl,nu,le,ri⟩)),(5,.cells [.v (Hs 318),.v (Hs 319)]),(1000,Jk x ifs roots d),(1001,Jq d)] Z3 Z4 (yN (U (vO ⟨2,p,pl,nu,le,ri⟩) (J ?_ ?_))))))
   rotate_left
   .intro h6;have he:aE [G 2,vs R,G pl,G nu,G le,G ri] [G 2,vs R,G 0,G 0,G 0,G 0]:=⟨rfl,rfl,hc.1,hc.2.1,hc.2.2.1,hc.2.2.2,trivial⟩;exact absurd he h6
   intro _;refine J aa4 (cU [(0,.ref 1000 0),(3,.ref 3 0),(5,.ref 5 0)] [(3,.cells (AG ⟨2,p,pl,nu,le,ri⟩)),(5,.cells [.v (Hs 318),.v (Hs 319)]),(1000,Jk x ifs roots d),(1001,Jq d)] Z3 Z4 (yN (Z (.gen [(1000,1000),(1001,1001)] 0) (J rfl (Kr.imp ?_)))));intro v1 g1 q1;have VD:=q1.1;have QO:=q1.2;subst VD;subst QO;have De:A7 1 [F tt]/\(d.map F).length=(d.map F).length/\((d.map F).length+[F tt].length)*24<=140737488355328/\(d.map F).length+[F tt].length<=9223372036854775807:=
    ⟨⟨rfl,trivial⟩,rfl,by rw[Lm,A8];omega,by rw[Lm,A8];omega⟩
   refine J De (yN ?_);have eh:Ai [(1000,HO.cells [sl V x,.slice .none ifs,sl Ac roots,.slice (.id 1001 1) (d.map F++[F tt])]),(1001,.tok 1 ((d.map F).length+[F tt].length))] Af=Ai (Oe x ifs roots (d++[tt])) Af:=by
    simp[Oe,Jk,rk,Jq]
   have er:I true=I (AR x roots d ⟨2,p,pl,nu,le,ri⟩).isSome:=by rw[GG];rfl
   exact U (.refl _) (J er (Z (d++[tt]) (J eh (fun t ht=>by rw[GG]at ht;cases ht;rfl))))
 .have GG:AR x roots d ⟨2,p,pl,nu,le,ri⟩=none:=aa0
  refine Bi (IU (DJ [3,4,6])) [(1000,1000),(1001,1001)] rfl BA hm rfl func182 aa4 rfl C4 aa4 rfl (J ?_ ?_)
  .intro h;exact absurd (show(2:Int)<0 from h) aa3
  intro _;refine J ?_ ?_
  .intro h;exact absurd (show(3:Int)<2 from h) aa3
  intro _;refine cU [(0,.ref 1000 0),(3,.ref 3 0)] [(3,.cells (AG ⟨2,p,pl,nu,le,ri⟩)),(1000,Jk x ifs roots d),(1001,Jq d)] Z2 Z3 (U (S8) (J ⟨by omega,by omega⟩ ?_));refine J C4 (yN (J aa4 (cU [(0,.ref 1000 0),(3,.ref 3 0),(5,.ref 5 0)] [(3,.cells (AG ⟨2,p,pl,nu,le,ri⟩)),(5,.cells [.v (Hs 318),.v (Hs 319)]),(1000,Jk x ifs roots d),(1001,Jq d)] Z3 Z4 (yN (U (vO ⟨2,p,pl,nu,le,ri⟩) (J ?_ ?_))))))
  .intro h6;exact absurd (show pl=0/\nu=0/\le=0/\ri=0 from⟨h6.2.2.1,h6.2.2.2.1,h6.2.2.2.2.1,h6.2.2.2.2.2.1⟩) hc
  intro _;refine J aa4 ?_;have er:I false=I (AR x roots d ⟨2,p,pl,nu,le,ri⟩).isSome:=by rw[GG];rfl
  exact U (.refl _) (J er (Z d (J rfl (fun t ht=>by rw[GG]at ht;cases ht))))
theorem zr(hd:d.length<=65536)(hi:∀t∈d,Wg t) :
  A6 prog 182 [.ref 1000 0,.agg (AG ⟨3,p,pl,nu,le,ri⟩)] (Ai (Oe x ifs roots d) Af) fun r h'=>TV x ifs roots d ⟨3,p,pl,nu,le,ri⟩ r h':=by
 have mV:AR x roots d ⟨3,p,pl,nu,le,ri⟩=if pl=0/\nu=0 then VI d ⟨3,p,pl,nu,le,ri⟩else none:=rfl
 by_cases hc:pl=0/\nu=0
 .have mW:AR x roots d ⟨3,p,pl,nu,le,ri⟩=VI d ⟨3,p,pl,nu,le,ri⟩:=aa0
  have Kr:=Adw x ifs roots d ⟨3,p,pl,nu,le,ri⟩ hi;cases ho:VI d ⟨3,p,pl,nu,le,ri⟩with
  |none=>
   have GG:AR x roots d ⟨3,p,pl,nu,le,ri⟩=none:=aa0
   rw[ho]at Kr;refine Bi (IU (DJ [3,4,6])) [(1000,1000),(1001,1001)] rfl BA hm rfl func182 aa4 rfl C4 aa4 rfl (J ?_ ?_)
   .intro h;exact absurd (show(3:Int)<0 from h) aa3
   intro _;refine J ?_ ?_
   .intro h;exact absurd (show(3:Int)<3 from h) aa3
   intro _;refine cU [(0,.ref 1000 0),(3,.ref 3 0)] [(3,.cells (AG ⟨3,p,pl,nu,le,ri⟩)),(1000,Jk x ifs roots d),(1001,Jq d)] Z2 Z3 (U (S8) (J ⟨by omega,by omega⟩ ?_));refine J C4 (yN (J aa4 (cU [(0,.ref 1000 0),(3,.ref 3 0),(5,.ref 5 0)] [(3,.cells (AG ⟨3,p,pl,nu,le,ri⟩)),(5,.cells [.v (Hs 320),.v (Hs 321)]),(1000,Jk x ifs roots d),(1001,Jq d)] Z3 Z4 (yN (U (vP ⟨3,p,pl,nu,le,ri⟩) (J ?_ ?_))))))
   rotate_left
   .intro h6;have he:aE [G 3,vs R,G pl,G nu,G 0,G 0] [G 3,vs R,G 0,G 0,G 0,G 0]:=⟨rfl,rfl,hc.1,hc.2,rfl,rfl,trivial⟩;exact absurd he h6
   intro _;refine J aa4 (cU [(0,.ref 1000 0),(3,.ref 3 0),(5,.ref 5 0)] [(3,.cells (AG ⟨3,p,pl,nu,le,ri⟩)),(5,.cells [.v (Hs 320),.v (Hs 321)]),(1000,Jk x ifs roots d),(1001,Jq d)] Z3 Z4 (yN (Z (.gen [(1000,1000),(1001,1001)] 0) (J rfl (Kr.imp ?_)))));intro v1 g1 q1;have VD:=q1.1;have QO:=q1.2;subst VD;subst QO;have De:A7 1 [F []]/\(d.map F).length=(d.map F).length/\((d.map F).length+[F []].length)*24<=140737488355328/\(d.map F).length+[F []].length<=9223372036854775807:=
    ⟨⟨rfl,trivial⟩,rfl,by rw[Lm,A8];omega,by rw[Lm,A8];omega⟩
   refine J De (yN ?_);have eh:Ai [(1000,HO.cells [sl V x,.slice .none ifs,sl Ac roots,.slice (.id 1001 1) (d.map F++[F []])]),(1001,.tok 1 ((d.map F).length+[F []].length))] Af=Ai (Oe x ifs roots (d++[[]])) Af:=by
    simp[Oe,Jk,rk,Jq]
   have er:I false=I (AR x roots d ⟨3,p,pl,nu,le,ri⟩).isSome:=by rw[GG];rfl
   exact U (.refl _) (J er (Z (d++[[]]) (J eh (fun t ht=>by rw[GG]at ht;cases ht))))
  |some tt=>
   have GG:AR x roots d ⟨3,p,pl,nu,le,ri⟩=some tt:=aa0
   rw[ho]at Kr;refine Bi (IU (DJ [3,4,6])) [(1000,1000),(1001,1001)] rfl BA hm rfl func182 aa4 rfl C4 aa4 rfl (J ?_ ?_)
   .intro h;exact absurd (show(3:Int)<0 from h) aa3
   intro _;refine J ?_ ?_
   .intro h;exact absurd (show(3:Int)<3 from h) aa3
   intro _;refine cU [(0,.ref 1000 0),(3,.ref 3 0)] [(3,.cells (AG ⟨3,p,pl,nu,le,ri⟩)),(1000,Jk x ifs roots d),(1001,Jq d)] Z2 Z3 (U (S8) (J ⟨by omega,by omega⟩ ?_));refine J C4 (yN (J aa4 (cU [(0,.ref 1000 0),(3,.ref 3 0),(5,.ref 5 0)] [(3,.cells (AG ⟨3,p,pl,nu,le,ri⟩)),(5,.cells [.v (Hs 320),.v (Hs 321)]),(1000,Jk x ifs roots d),(1001,Jq d)] Z3 Z4 (yN (U (vP ⟨3,p,pl,nu,le,ri⟩) (J ?_ ?_))))))
   rotate_left
   .intro h6;have he:aE [G 3,vs R,G pl,G nu,G 0,G 0] [G 3,vs R,G 0,G 0,G 0,G 0]:=⟨rfl,rfl,hc.1,hc.2,rfl,rfl,trivial⟩;exact absurd he h6
   intro _;refine J aa4 (cU [(0,.ref 1000 0),(3,.ref 3 0),(5,.ref 5 0)] [(3,.cells (AG ⟨3,p,pl,nu,le,ri⟩)),(5,.cells [.v (Hs 320),.v (Hs 321)]),(1000,Jk x ifs roots d),(1001,Jq d)] Z3 Z4 (yN (Z (.gen [(1000,1000),(1001,1001)] 0) (J rfl (Kr.imp ?_)))));intro v1 g1 q1;have VD:=q1.1;have QO:=q1.2;subst VD;subst QO;have De:A7 1 [F tt]/\(d.map F).length=(d.map F).length/\((d.map F).length+[F tt].length)*24<=140737488355328/\(d.map F).length+[F tt].length<=9223372036854775807:=
    ⟨⟨rfl,trivial⟩,rfl,by rw[Lm,A8];omega,by rw[Lm,A8];omega⟩
   refine J De (yN ?_);have eh:Ai [(1000,HO.cells [sl V x,.slice .none ifs,sl Ac roots,.slice (.id 1001 1) (d.map F++[F tt])]),(1001,.tok 1 ((d.map F).length+[F tt].length))] Af=Ai (Oe x ifs roots (d++[tt])) Af:=by
    simp[Oe,Jk,rk,Jq]
   have er:I true=I (AR x roots d ⟨3,p,pl,nu,le,ri⟩).isSome:=by rw[GG];rfl
   exact U (.refl _) (J er (Z (d++[tt]) (J eh (fun t ht=>by rw[GG]at ht;cases ht;rfl))))
 .have GG:AR x roots d ⟨3,p,pl,nu,le,ri⟩=none:=aa0
  refine Bi (IU (DJ [3,4,6])) [(1000,1000),(1001,1001)] rfl BA hm rfl func182 aa4 rfl C4 aa4 rfl (J ?_ ?_)
  .intro h;exact absurd (show(3:Int)<0 from h) aa3
  intro _;refine J ?_ ?_
  .intro h;exact absurd (show(3:Int)<3 from h) aa3
  intro _;refine cU [(0,.ref 1000 0),(3,.ref 3 0)] [(3,.cells (AG ⟨3,p,pl,nu,le,ri⟩)),(1000,Jk x ifs roots d),(1001,Jq d)] Z2 Z3 (U (S8) (J ⟨by omega,by omega⟩ ?_));refine J C4 (yN (J aa4 (cU [(0,.ref 1000 0),(3,.ref 3 0),(5,.ref 5 0)] [(3,.cells (AG ⟨3,p,pl,nu,le,ri⟩)),(5,.cells [.v (Hs 320),.v (Hs 321)]),(1000,Jk x ifs roots d),(1001,Jq d)] Z3 Z4 (yN (U (vP ⟨3,p,pl,nu,le,ri⟩) (J ?_ ?_))))))
  .intro h6;exact absurd (show pl=0/\nu=0 from⟨h6.2.2.1,h6.2.2.2.1⟩) hc
  intro _;refine J aa4 ?_;have er:I false=I (AR x roots d ⟨3,p,pl,nu,le,ri⟩).isSome:=by rw[GG];rfl
  exact U (.refl _) (J er (Z d (J rfl (fun t ht=>by rw[GG]at ht;cases ht))))
theorem c66(i:Nf)(hd:d.length<=65536)(hr:∀q∈roots,BF q.set)(hx:BF x)(hq:∀r∈x,∀q∈r.reqs,BF q.set)(rL:qJ x ifs roots)(hi:∀t∈d,Wg t) :
  A6 prog 182 [.ref 1000 0,.agg (AG i)] (Ai (Oe x ifs roots d) Af) fun r h'=>TV x ifs roots d i r h':=by
 obtain⟨k,p,pl,nu,le,ri⟩:=i
 by_cases h0:k=0
 .grind [zo]
 by_cases h1:k=1
 .grind [zp]
 by_cases h2:k=2
 .grind [zq]
 by_cases h3:k=3
 .grind [zr]
 have GG:AR x roots d ⟨k,p,pl,nu,le,ri⟩=none:=by
  show(if k=0 then _ else if k=1 then _ else if k=2 then _ else if k=3 then _ else none)=none;simp_all
 have er:I false=I (AR x roots d ⟨k,p,pl,nu,le,ri⟩).isSome:=aa0
 refine Bi (IU Dc) [(1000,1000),(1001,1001)] rfl BA hm rfl func182 aa4 rfl C4 aa4 rfl (J ?_ ?_)
 .intro _;exact U (.refl _) (J er (Z d (J rfl (fun t ht=>by simp_all))))
 intro h4;have h4:¬k<0:=h4;refine J ?_ ?_
 .intro _;exact U (.refl _) (J er (Z d (J rfl (fun t ht=>by simp_all))))
 intro h5;have h5:¬3<k:=h5;omega
theorem Lt{l:List Rq}(h:AK l=0):l.length<=16:=by
 grind [AK]
theorem Fi{x:List Rl}(h:Aw x=0):x.length<=256/\∀r∈x,r.reqs.length<=16:=by
 have h1:x.length<=256:=by
  grind [Aw]
 exact⟨h1,fun r hr=>Lt ((Bp h).1 r hr).reqs⟩
theorem aK{x:List Rl}(h:∀r∈x,r.reqs.length<=16):((x.map (·.reqs)).flatten).length<=x.length*16:=by
 induction x<;>grind
theorem L1{x:List Rl}{roots:List Rq}(h1:Aw x=0)(h2:AK roots=0)(h3:l.length<=65536):(HM x roots l).length<=100000:=by
 grind [Fi,aK,Lt,HM]
theorem Si.fewI{U:List CS}{t:List Tm}(h:Si U t)(hu:U.length<=100000):Wg t:=
 ⟨by have:=h.len;omega,fun u hu=>IX (h.1.canon u hu)⟩
abbrev gy(l:List Nf):AV:=
 if(A5 x roots l).2=0 then .tup [.cptr (Cz x (.slice .none ifs) roots (A5 x roots l).1),G 0]else .tup [.v (.pointer none),G (A5 x roots l).2]
theorem Nx{x:List Rl}{ifs:C0}{roots:List Rq}{e:Int}{d:List (List Tm)}(h:A5 x roots l=(d,e))(he:e≠0):AV.tup [.v (.pointer none),G e]=gy x ifs roots l:=by
 grind
theorem mH{x:List Rl}{ifs:C0}{roots:List Rq}{d:List (List Tm)}(h:A5 x roots l=(d,0)):AV.tup [.cptr (Cz x (.slice .none ifs) roots d),G 0]=gy x ifs roots l:=by
 grind
theorem YI{x:List Rl}{roots:List Rq}{d:List (List Tm)}(h:i<l.length)(hg:BI x roots (l.take i) []=some d) :
  BI x roots (l.take (i+1)) []=match AR x roots d l[i]with | none=>none | some t=>some (d++[t]):=by
 grind [List.take_add_one,BI,Ft]
theorem gM{x:List Rl}{roots:List Rq}(h:BI x roots (l.take i) []=none):BI x roots l []=none:=by
 grind [List.take_append_drop,Ft]
abbrev AfU:Ns:=⟨[],[],[],[],[25],[],[],[(26,(25,3,901,1))],[],[],[3,5,9]⟩
theorem c36(l:List Nf)(hx:∀r∈x,Eo r)(hr:∀q∈roots,G5 q)(rL:Aw x=0->qJ x ifs roots):PC 106 [.agg (Ic x ifs),sl Ac roots,sl AG l] (gy x ifs roots l):=by
 have ed:A5 x roots l=if Aw x≠0\/AK roots≠0 then([],(1:Int))else if 65536<l.length then([],(7:Int))else match BI x roots l []with | none=>([],(18:Int)) | some d=>(d,(0:Int)):=rfl
 refine Ps AfU func106 rfl C4 (yN (C1 (U (zn Wm x ifs hx) (J ?_ ?_))))
 .intro h;exact .of_eq (Nx (by rw[ed,A1 (.inl h)]) aa3)
 intro h1;refine C1 (U (c65 Wm roots hr) (J ?_ ?_))
 .intro h;exact .of_eq (Nx (by rw[ed,A1 (.inr h)]) aa3)
 intro h2;have e1:=GN h1;have e2:=GN h2;refine cU [(1,sl Ac roots),(2,sl AG l),(3,.ref 3 0)] [(3,.cells (Ic x ifs))] Z3 Z1 (J ?_ ?_)
 .intro h;exact .of_eq (Nx (by rw[ed,AL Wk,A1 aa2]) aa3)
 intro h;have h3:l.length<=65536:=aa2
 have ed2:A5 x roots l=match BI x roots l []with | none=>([],(18:Int)) | some d=>(d,(0:Int)):=aa2
 have hU:=L1 (x:=x) (roots:=roots) (l:=l) e1 e2 h3;have wH:=Fi e1;refine cU [(1,sl Ac roots),(2,sl AG l),(3,.ref 3 0)] [(3,.cells (Ic x ifs))] Z3 Z1 (yN (Z {p:Nat×List (List Tm) // p.1<=l.length/\BI x roots (l.take p.1) []=some p.2/\p.2.length=p.1/\∀t∈p.2,Si (HM x roots l) t} (Z (fun p=>⟨[(8,.ref 25 0),(26,sl AG l),(27,G (l.map AG).length),(28,G p.1.1)],[(25,.cells [sl V x,.slice .none ifs,sl Ac roots,.slice (.id 901 1) (p.1.2.map F)]),(901,.tok 1 (p.1.2.map F).length)],Af⟩) (Z (fun p=>l.length-p.1.1) (J (Z ⟨(0,[]),Ak _,rfl,rfl,fun t ht=>by cases ht⟩ ?_) ?_)))))
 .exact⟨Z4,Z2,Fh,W⟩
 intro⟨⟨i,d⟩,i1,i2,i3,i4⟩;have i2:BI x roots (l.take i) []=some d:=i2;have i3:d.length=i:=i3;have i4:∀t∈d,Si (HM x roots l) t:=i4;refine J ?_ ?_
 .intro h;have h:(i:Int)<(l.map AG).length:=h;have h:i<l.length:=aa0
  have hg:l[i]?=some l[i]:=Ge h;refine Z (AG l[i]) (J (J Wk aa0) (J rfl ?_));refine J C4 (yN (cU [(8,.ref 25 0),(10,.ref 10 0),(26,sl AG l),(27,G (l.map AG).length),(28,G i)] [(10,.cells (AG l[i])),(25,.cells [sl V x,.slice .none ifs,sl Ac roots,.slice (.id 901 1) (d.map F)]),(901,.tok 1 (d.map F).length)] Z5 Z3 (yN ?_)));have Cv:=c66 x ifs roots d l[i] Wk (fun q hq=>(hr q hq).1) Wk (fun r YV q hq=>((hx r YV).2 q hq).1) (rL e1) (fun t ht=>(i4 t ht).fewI hU);have uE:=YI h i2;cases aZ:AR x roots d l[i]with
  |none=>
   refine Z (.gen [(25,1000),(901,1001)] 0) (J rfl (Cv.imp ?_));intro v g q;have q1:v=I false:=aa0
   refine Al q.2 (fun d' q2=>?_);have xC:=q2.1;subst q1;subst xC;rw[aZ]at uE;have hn:BI x roots l []=none:=gM uE;exact .of_eq (Nx (by rw[ed2,hn]) aa3)
  |some t=>
   refine Z (.gen [(25,1000),(901,1001)] 0) (J rfl (Cv.imp ?_));intro v g q;have q1:v=I true:=aa0
   refine Al q.2 (fun d' q2=>?_);have xC:=q2.1;have q22:=q2.2 t aZ;subst q1;subst xC;rw[aZ]at uE;refine J (Ii i Wk) ?_;have aY:=NE (Ag h) i4 aZ;refine Z ⟨(i+1,d'),by omega,by simp_all,by simp_all,fun u hu=>?_⟩ ?_
   .grind
   .exact⟨Dl l.length i Wk,Z4,Z2,Fh,W⟩
 .intro h;have h:¬(i:Int)<(l.map AG).length:=h;have h:¬i<l.length:=aa0
  have hn:BI x roots l []=some d:=aa2
  exact .of_eq (mH aa0)
theorem dP{x:List Rl}{roots:List Rq}(h:(A5 x roots l).2≠0):(A5 x roots l).1=[]:=by
 grind [A5]
theorem Ul{x:List Rl}{roots:List Rq}:(A5 x roots l).1.length<=65536:=by
 grind [A5,Il,List.length_nil]
abbrev GM:AV:=.agg (Ic x ifs)
abbrev Px:E0:=⟨true,[.str,.int .i64,.int .i64,.int .i64]⟩
abbrev Xr:Value:=.agg #[.string y.path,.int .i64 y.ver.a,.int .i64 y.ver.b,.int .i64 y.ver.c]
abbrev Pa:Value×AV:=(Xr (Cr r),.agg (V r))
def AQ:List Rl->List CS->List CS
 | [],acc=>acc
 |r::x,acc=>AQ x (if acc.any (fun p=>decide (p=r.path))then acc else acc++[r.path])
abbrev ky:Value×AV:=(.string p,sl V (x.filter fun r=>decide (r.path=p)))
abbrev xM:AV:=if Aw x=0 then .tup [.agg [.cmap Px (x.map Pa),.cmap Ca ((AQ x []).map (ky x))],G 0]else .tup [.agg [.cmap Px [],.cmap Ca []],G (Aw x)]
abbrev lR:Prop:=PC 51 [GM x ifs] (xM x)
theorem Aea:PC 86 [.agg ZM] (.agg ZM):=by
 refine Ps Dc func86 rfl C4 (yN (Z Unit (Z (fun _=>⟨[(1,.ref 1 0),(2,.ref 2 0),(10,G 0),(11,G 0)],[(1,.cells ZM),(2,.cells ZM)],Af⟩) (Z (fun _=>0) (J (Z () ?_) ?_)))))
 .exact⟨Z4,Z2,Fh,W⟩
 intro _;refine J ?_ ?_
 .intro h;exact absurd (show(0:Int)<0 from h) aa3
 .intro _;refine J C4 (J C4 (yN ?_));exact .refl _
theorem sw{y z:Sl}(h:Xr y=Xr z):y=z:=by
 obtain⟨p,⟨a,b,c⟩⟩:=y<;>simp_all
theorem Zb{x:List Rl}{y:Sl}(h:(Xr y,a)∈x.map Pa):∃r∈x,Cr r=y/\a=.agg (V r):=by
 grind [sw]
theorem aJ{x:List Rl}(hx:Aw x=0){r:Rl}(hr:r∈x):AW x (Cr r)=some r:=by
 unfold AW;rw[AL Wk];cases h:x.find? (fun s=>decide (Cr s=Cr r))with
 |none=>
  grind
 |some s=>
  have h1:=FI h;simp only[A4]at h1;have hs:=Bh h;have hp:=(Bp hx).2
  grind [List.mem_iff_getElem,List.pairwise_iff_getElem,Pc]
theorem c53(v:Ver)(UI:lR x ifs)(hx:∀r∈x,Eo r):PC 40 [GM x ifs,vs p,.agg (Ez v)] (Hi (AW x ⟨p,v⟩)):=by
 have hz:=Aea
 by_cases h0:Aw x=0
 .have UI:PC 51 [GM x ifs] (.tup [.agg [.cmap Px (x.map Pa),.cmap Ca ((AQ x []).map (ky x))],G 0]):=by
   grind
  refine Ps (DJ []) func40 rfl C4 (yN (C1 (U (UI) (yN (yN (J ?_ ?_))))))
  .intro a ha;refine Al (Zb (y:=⟨p,v⟩) ha) (fun r hr=>?_);have e:=hr.2.2;subst e;have hf:AW x ⟨p,v⟩=some r:=by grind [aJ]
   have Tu:=(Fi h0).2 r hr.1;have hc:=c98 r Wk (fun q hq=>((hx r hr.1).2 q hq).1);refine yN (yN (C1 (U (hc) (J C4 (yN ?_)))));exact .of_eq (show AV.tup [.agg (V r),I true]=Hi (AW x ⟨p,v⟩) by rw[hf])
  .intro hn;have hf:AW x ⟨p,v⟩=none:=by
    cases h:AW x ⟨p,v⟩with
    |none=>rfl
    |some r=>
     obtain⟨_,h2,h3⟩:=Ce h;exact absurd (Ar.2 ⟨r,h2,by simp_all⟩) (hn (.agg (V r)))
   refine yN (yN (C1 (U (hz) (J C4 (yN ?_)))));exact .of_eq (show AV.tup [.agg ZM,I false]=Hi (AW x ⟨p,v⟩) by rw[hf])
 .have UI:PC 51 [GM x ifs] (.tup [.agg [.cmap Px [],.cmap Ca []],G (Aw x)]):=by
   grind
  have hf:AW x ⟨p,v⟩=none:=by grind [AW]
  refine Ps (DJ []) func40 rfl C4 (yN (C1 (U (UI) (yN (yN (J ?_ ?_))))))
  .intro a ha;cases ha
  .intro _;refine yN (yN (C1 (U (hz) (J C4 (yN ?_)))));exact .of_eq (show AV.tup [.agg ZM,I false]=Hi (AW x ⟨p,v⟩) by rw[hf])
abbrev EW(l:List Rl):AN:=(l.filter fun r=>!r.yanked).map fun r=>(plc r.ver,plc r.ver+1)
theorem fY(l:List Rl):(EW l).length<=l.length:=by
 grind
theorem me{acc:List CS}{p:CS}:(acc.any fun q=>decide (q=p))=true↔p∈acc:=by
 simp_all
theorem HZ:∀(x:List Rl) (acc:List CS) (p:CS),p∈AQ x acc↔p∈acc\/∃r∈x,r.path=p
 | [],acc,p=>by simp[AQ]
 |r::x,acc,p=>by
  rw[AQ,HZ x]
  grind
abbrev u6:Ns:=(pT [] [(7,2)] [])
theorem WT(L:List Rl)(i:Nat)(h:i<L.length):EW (L.take (i+1))=EW (L.take i)++(if L[i].yanked then []else [(plc L[i].ver,plc L[i].ver+1)]):=by
 unfold EW;rw[Dv,Ge h,H5,Bl]
 grind
theorem zg(UI:lR x ifs):PC 147 [GM x ifs,vs p] (sl Y (Ba x p)):=by
 by_cases h0:Aw x=0
 .have UI:PC 51 [GM x ifs] (.tup [.agg [.cmap Px (x.map Pa),.cmap Ca ((AQ x []).map (ky x))],G 0]):=by
   grind
  have Mu:=(Fi h0).1;obtain⟨L,hLd⟩:∃L,L=x.filter fun r=>decide (r.path=p):=⟨_,rfl⟩;have hL:IL x p=L:=by grind [IL]
  have hLl:L.length<=256:=aa2
  refine Ps u6 func147 rfl C4 (yN (C1 (U (UI) (yN (J ?_ ?_)))))
  .intro a ha;have ea:a=sl V L:=aa2
   subst ea;refine Z {i:Nat // i<=L.length} (Z (fun i=>⟨[(7,.slice (.id 7 2) ((EW (L.take i.1)).map Y)),(18,sl V L),(19,G (L.map V).length),(20,G i.1)],[(7,.tok 2 ((EW (L.take i.1)).map Y).length)],Af⟩) (Z (fun i=>L.length-i.1) (J (Z ⟨0,Ak _⟩ ?_) ?_)))
   .exact⟨Z4,Z1,Fh,W⟩
   intro⟨i,i1⟩;have Xk:=fY (L.take i);rw[BX]at Xk;refine J ?_ ?_
   .intro h;have h:i<L.length:=aa0
    have hg:L[i]?=some L[i]:=Ge h;refine Z (V L[i]) (J (J Wk aa0) (J rfl ?_));refine J C4 (yN (J ?_ ?_))
    .intro hy;refine J (by grind [Au]) ?_;have es:EW (L.take (i+1))=EW (L.take i):=by rw[WT L i h,hy];simp
     have e1:AV.slice (.id 7 2) ((EW (L.take i)).map Y)=.slice (.id 7 2) ((EW (L.take (i+1))).map Y):=by rw[es]
     have e2:HO.tok 2 ((EW (L.take i)).map Y).length=.tok 2 ((EW (L.take (i+1))).map Y).length:=by rw[es]
     refine Z ⟨i+1,by omega⟩ ?_;exact⟨by grind,⟨⟨e1,rfl⟩,X,X,X,W⟩,⟨⟨e2,rfl⟩,W⟩,Fh,W⟩
    .intro hy;have qA:=TM L[i].ver;refine yN (U (c88 L[i]) (yN (U (c88 L[i]) (J (by grind [Au]) ?_))));have De:A7 2 [[G (plc L[i].ver),G (plc L[i].ver+1)]]/\((EW (L.take i)).map Y).length=((EW (L.take i)).map Y).length/\(((EW (L.take i)).map Y).length+[[G (plc L[i].ver),G (plc L[i].ver+1)]].length)*16<=140737488355328/\((EW (L.take i)).map Y).length+[[G (plc L[i].ver),G (plc L[i].ver+1)]].length<=9223372036854775807:=
      ⟨⟨rfl,trivial⟩,rfl,by grind,by grind⟩
     refine J De (J aa4 (J (by grind [Au]) ?_));have es:EW (L.take (i+1))=EW (L.take i)++[(plc L[i].ver,plc L[i].ver+1)]:=by rw[WT L i h,hy];simp
     have e1:AV.slice (.id 7 2) ((EW (L.take i)).map Y++[[G (plc L[i].ver),G (plc L[i].ver+1)]])=.slice (.id 7 2) ((EW (L.take (i+1))).map Y):=aa0
     have e2:HO.tok 2 (((EW (L.take i)).map Y).length+[[G (plc L[i].ver),G (plc L[i].ver+1)]].length)=.tok 2 ((EW (L.take (i+1))).map Y).length:=aa0
     refine Z ⟨i+1,by omega⟩ ?_;exact⟨by grind,⟨⟨e1,rfl⟩,X,X,X,W⟩,⟨⟨e2,rfl⟩,W⟩,Fh,W⟩
   .intro h;have h:¬i<L.length:=aa0
    have et:L.take i=L:=A3 Wk;have hc:PC 221 [sl Y (EW (L.take i))] (sl Y (canon (EW (L.take i)))):=af _ Wk;refine C1 (U (hc) ?_);exact .of_eq (show sl Y (canon (EW (L.take i)))=sl Y (Ba x p) by grind [Ba])
  .intro hn;have hL:IL x p=[]:=by
    rw[hL,hLd,List.filter_eq_nil_iff];intro r hr he;have he:=Db he;exact hn _ (Ar.2 ⟨p,(HZ x [] p).2 (.inr ⟨r,hr,he⟩),rfl⟩)
   refine Z Unit (Z (fun _=>⟨[(7,.slice (.id 7 2) []),(19,G 0),(20,G 0)],[(7,.tok 2 0)],Af⟩) (Z (fun _=>0) (J (Z () ?_) ?_)))
   .exact⟨Z3,Z1,Fh,W⟩
   intro _;refine J ?_ ?_
   .intro h;exact absurd (show(0:Int)<0 from h) aa3
   intro _;have hc:PC 221 [sl Y []] (sl Y (canon [])):=af [] aa0;refine C1 (U (hc) ?_);exact .of_eq (show sl Y (canon [])=sl Y (Ba x p) by grind [Ba])
 .have UI:PC 51 [GM x ifs] (.tup [.agg [.cmap Px [],.cmap Ca []],G (Aw x)]):=by
   grind
  have hL:IL x p=[]:=by grind [IL]
  refine Ps u6 func147 rfl C4 (yN (C1 (U (UI) (yN (J ?_ ?_)))))
  .intro a ha;cases ha
  .intro _;refine Z Unit (Z (fun _=>⟨[(7,.slice (.id 7 2) []),(19,G 0),(20,G 0)],[(7,.tok 2 0)],Af⟩) (Z (fun _=>0) (J (Z () ?_) ?_)))
   .exact⟨Z3,Z1,Fh,W⟩
   intro _;refine J ?_ ?_
   .intro h;exact absurd (show(0:Int)<0 from h) aa3
   intro _;have hc:PC 221 [sl Y []] (sl Y (canon [])):=af [] aa0;refine C1 (U (hc) ?_);exact .of_eq (show sl Y (canon [])=sl Y (Ba x p) by grind [Ba])
theorem OG:BF (Ba x p):=by
 grind [Ba,Fb,BE]
theorem Adv(UI:lR x ifs):qJ x ifs roots:=by
 intro d i;have h1:=zg x ifs i.path UI;have h2:=vS i.path (Ba x i.path) (OG x i.path);refine Bi (IU (DJ [2])) [(1000,1000),(1001,1001)] rfl BA hm rfl func319 aa4 rfl C4 aa4 rfl (yN (U (h1) (U (h2) (J aa4 (cU [(6,sl M (Eh i.path (Ba x i.path)))] [(1000,Jk x ifs roots d),(1001,Jq d)] Z1 Z2 (J ?_ ?_))))))
 .intro h3;have h3:(0:Int)<((Eh i.path (Ba x i.path)).map M).length:=h3;have e:AV.tup [sl M (Eh i.path (Ba x i.path)),I true]=Mw (Ph (Eh i.path (Ba x i.path))):=bU h3;exact U (.refl _) (J e rfl)
 .intro h3;have h3:¬(0:Int)<((Eh i.path (Ba x i.path)).map M).length:=h3;have e:AV.tup [sl M (Eh i.path (Ba x i.path)),I false]=Mw (Ph (Eh i.path (Ba x i.path))):=iu h3;exact U (.refl _) (J e rfl)
theorem c77:PC 184 [.agg (Ae y),.cptr (Ac q)] (I (decide (y.path=q.path))):=by
 refine Ps Dc func184 rfl C4 (J ?_ ?_)
 .intro h;have h:y.path=q.path:=h;exact E I (Ax h).symm
 .intro h;have h:¬y.path=q.path:=h;exact E I (At h).symm
theorem c79:PC 186 [.agg (Ae y),.cptr [vs p]] (I (decide (y.path=p))):=by
 refine Ps Dc func186 rfl C4 (J ?_ ?_)
 .intro h;have h:y.path=p:=h;exact E I (Ax h).symm
 .intro h;have h:¬y.path=p:=h;exact E I (At h).symm
theorem c90(hq:BF q.set):PC 187 [.agg (Ac q),.cptr (V r),.cptr [G pl]] (I (decide (q.path=r.path)&&!has q.set pl)):=by
 have hc:=wd q.set pl hq;cases hh:has q.set pl with
 |true=>
  rw[hh]at hc;refine Ps Dc func187 rfl C4 (J ?_ ?_)
  .intro h;have h:q.path=r.path:=h;refine C1 (U (hc) ?_);exact E I (show false=(decide (q.path=r.path)&&!true) by simp_all)
  .intro h;have h:¬q.path=r.path:=h;exact E I (show false=(decide (q.path=r.path)&&!true) by simp_all)
 |false=>
  rw[hh]at hc;refine Ps Dc func187 rfl C4 (J ?_ ?_)
  .intro h;have h:q.path=r.path:=h;refine C1 (U (hc) ?_);exact E I (show true=(decide (q.path=r.path)&&!false) by simp_all)
  .intro h;have h:¬q.path=r.path:=h;exact E I (show false=(decide (q.path=r.path)&&!false) by simp_all)
abbrev lA:AV:=if Be s=false then .tup [sl V [],G 1]else match F9 x s with
 |none=>.tup [sl V [],G 6]
 |some l=>.tup [sl V l,G 0]
abbrev AfY:Ns:=(pT [] [(7,9)] [7,11,13])
theorem Ab8(e:Int):CD (.tup [BY,G e]) (.tup [.slice .none [],G e]):=CD.tup ⟨.nil,.refl _,trivial⟩
theorem c85(P:List (Value×AV))(h0:Aw x=0)(hs:BF s):PC 52 [.agg [.cmap Px (x.map Pa),.cmap Ca P],sl Ae s] (lA x s):=by
 unfold BF at hs;refine Ps AfY func52 rfl C4 ?_;refine Z {i:Nat // 1<=i/\(s=[]\/i<=s.length)/\Be s=(match s[i-1]? with | none=>true | some y=>La (some y.path) (s.drop i))} (Z (fun i=>⟨[(1,sl Ae s),(2,.ref 2 0),(6,G i.1)],[(2,.cells [.cmap Px (x.map Pa),.cmap Ca P])],Af⟩) (Z (fun i=>s.length-i.1) (J (Z ⟨1,Ao _,by grind,by cases s<;>rfl⟩ ?_) ?_)))
 .exact⟨Z3,Z1,Fh,W⟩
 intro⟨i,h1,h2,h3⟩;refine J ?_ ?_
 .intro h;have h:i<s.length:=aa0
  have hg:s[i]?=some s[i]:=Ge h;have h' : i-1<s.length:=Wk
  have hg' : s[i-1]?=some s[i-1]:=Ge h';have e1:((i:Int)-1).toNat=i-1:=Wk
  have ia:Be s=(Ek s[i-1].path s[i].path&&La (some s[i].path) (s.drop (i+1))):=by
   grind [bq]
  refine J (by grind [Au]) (Z (Ae s[i-1]) (J (J aa2 aa0) (J rfl ?_)));refine Z (Ae s[i]) (J (J Wk aa0) (J rfl ?_));refine J ?_ ?_
  .intro h4;rw[<-DZ]at h4;refine J aa4 ?_;have e:AV.tup [.slice .none [],G 1]=lA x s:=aa2
   exact(Ab8 1).trans (.of_eq e)
  .intro h4;rw[<-DZ,Sh]at h4;refine J aa4 (J (by grind [Au]) (Z ⟨i+1,by omega,.inr Wk,by simp_all⟩ ?_));exact⟨Dl s.length i Wk,Z3,Z1,Fh,W⟩
 intro h;have h:¬i<s.length:=aa0
 have Aar:Be s=true:=by
  rcases h2 with h2 | h2
  .grind
  .have e:i=s.length:=Wk
   rw[h3,e,List.drop_length];cases s[s.length-1]?<;>rfl
 have es:lA x s=match F9 x s with
  |none=>.tup [sl V [],G 6]
  |some l=>.tup [sl V l,G 0]:=aa0
 refine cU [(1,sl Ae s),(2,.ref 2 0),(7,.slice (.id 7 9) [])] [(2,.cells [.cmap Px (x.map Pa),.cmap Ca P]),(7,.tok 9 0)] Z3 Z2 (Z {p:Nat×List Rl // p.1<=s.length/\p.2.length=p.1/\F9 x s=(F9 x (s.drop p.1)).map (p.2++·)} (Z (fun p=>⟨[(2,.ref 2 0),(7,.slice (.id 7 9) (p.1.2.map V)),(30,sl Ae s),(31,G (s.map Ae).length),(32,G p.1.1)],[(2,.cells [.cmap Px (x.map Pa),.cmap Ca P]),(7,.tok 9 (p.1.2.map V).length)],Af⟩) (Z (fun p=>s.length-p.1.1) (J (Z ⟨(0,[]),Ak _,rfl,by simp_all⟩ ?_) ?_))))
 .exact⟨Z5,Z2,Fh,W⟩
 intro⟨⟨j,l⟩,j1,j2,j3⟩;refine J ?_ ?_
 .intro hj;have hj:j<s.length:=aa0
  have hg:s[j]?=some s[j]:=Ge hj;have hd:s.drop j=s[j]::s.drop (j+1):=Bf hj;refine Z (Ae s[j]) (J (J Wk aa2) (J rfl (J C4 (yN (yN (J ?_ ?_))))))
  .intro a ha;refine Al (Zb (y:=s[j]) ha) (fun r hr=>?_);have e:=hr.2.2;subst e;have hf:AW x s[j]=some r:=by grind [aJ]
   have j4:F9 x s=(F9 x (s.drop (j+1))).map ((l++[r])++·):=by
    rw[j3,hd,F9,hf]
    grind
   refine yN (cU [(2,.ref 2 0),(7,.slice (.id 7 9) (l.map V)),(10,.ref 10 0),(11,I true),(30,sl Ae s),(31,G (s.map Ae).length),(32,G j)] [(2,.cells [.cmap Px (x.map Pa),.cmap Ca P]),(7,.tok 9 (l.map V).length),(10,.cells (V r))] Z7 Z3 (cU [(2,.ref 2 0),(7,.slice (.id 7 9) (l.map V)),(10,.ref 10 0),(30,sl Ae s),(31,G (s.map Ae).length),(32,G j)] [(2,.cells [.cmap Px (x.map Pa),.cmap Ca P]),(7,.tok 9 (l.map V).length),(10,.cells (V r))] Z6 Z3 (yN ?_)));have De:A7 9 [V r]/\(l.map V).length=(l.map V).length/\((l.map V).length+[V r].length)*120<=140737488355328/\(l.map V).length+[V r].length<=9223372036854775807:=
    ⟨⟨rfl,trivial⟩,rfl,by grind,by grind⟩
   refine J De (J (Ii j Wk) ?_);have e1:AV.slice (.id 7 9) (l.map V++[V r])=.slice (.id 7 9) ((l++[r]).map V):=aa2
   have e2:HO.tok 9 ((l.map V).length+[V r].length)=.tok 9 ((l++[r]).map V).length:=aa2
   refine Z ⟨(j+1,l++[r]),by omega,by grind,j4⟩ ?_;exact⟨by grind,⟨X,⟨e1,rfl⟩,X,X,X,W⟩,⟨X,⟨e2,rfl⟩,W⟩,Fh,W⟩
  .intro hn;have hf:AW x s[j]=none:=by
    cases h:AW x s[j]with
    |none=>rfl
    |some r=>
     obtain⟨_,h2,h3⟩:=Ce h;exact absurd (Ar.2 ⟨r,h2,by grind⟩) (hn (.agg (V r)))
   have j4:F9 x s=none:=by grind [F9]
   refine yN (cU [(11,I false)] [] Z1 W ?_)
   have e:AV.tup [.slice .none [],G 6]=lA x s:=aa2
   exact(Ab8 6).trans (.of_eq e)
 .intro hj;have hj:¬j<s.length:=aa0
  have j4:F9 x s=some l:=by grind [F9]
  have e:AV.tup [sl V l,G 0]=lA x s:=aa0
  exact .of_eq e
abbrev M1:Value×AV:=(.string r.path,.agg (V r))
theorem TC{m:List Rl}{p:CS}(h:(Value.string p,a)∈m.map M1):∃r∈m,r.path=p/\a=.agg (V r):=by
 grind
theorem HT:∀{m:List Rl},(m.map (·.path)).Nodup->∀{r:Rl},r∈m->m.find? (fun s=>decide (s.path=r.path))=some r
 |a::m,hn,r,hr=>by
  rw[Bo,GL]at hn;rw[Ie];rcases AM.1 hr with rfl | hr
  .simp
  .have:¬a.path=r.path:=fun e=>hn.1 (Ar.2 ⟨r,hr,e.symm⟩)
   rw[At this];exact HT hn.2 hr
theorem c86(m:List Rl)(hn:(m.map (·.path)).Nodup)(q:Rq)(hq:BF q.set):PC 53 [.agg (Ac q),.cptr [.cmap Ca (m.map M1)]] (I (Ck m q)):=by
 refine Ps (DJ [2]) func53 rfl C4 (J ?_ ?_)
 .intro a ha;refine Al (TC ha) (fun r hr=>?_);have e:=hr.2.2;subst e;have hf:m.find? (fun s=>decide (s.path=q.path))=some r:=by grind [HT]
  have hb:Ck m q=!has q.set (plc r.ver):=by grind [Ck]
  have hc:=wd q.set (plc r.ver) hq;refine yN (cU [(2,.ref 2 0),(4,.ref 4 0),(5,I true)] [(2,.cells (Ac q)),(4,.cells (V r))] Z3 Z2 (yN (U (c88 r) (Ay (Bt (has q.set (plc r.ver))) (fun e=>?_) (fun e=>?_)))))
  .rw[e]at hc;refine U (hc) (J aa4 ?_);exact E I (show false=Ck m q by simp_all)
  .rw[e]at hc;refine U (hc) (J aa4 ?_);exact E I (show true=Ck m q by simp_all)
 .intro Qq;have hf:m.find? (fun s=>decide (s.path=q.path))=none:=by
   rw[List.find?_eq_none];intro r hr he;have he:=Db he;exact Qq _ (Ar.2 ⟨r,hr,by rw[<-he]⟩)
  have hb:Ck m q=true:=by grind [Ck]
  refine yN (cU [(2,.ref 2 0),(4,.ref 4 0),(5,I false)] [(2,.cells (Ac q)),(4,.cells ZM)] Z3 Z2 (J aa4 ?_));exact E I hb.symm
end Go.Eng
