/- Lemmas 19. -/
import Derived.Test.YtkjhcikodmiceaaGreatDoorRA18
namespace Go.Eng
open Go.Proofs
variable {l:List Nf}{i:Nat}{a:AV}(x:List Rl)(ifs:List (List AV))(roots:List Rq)(d:List (List Tm))(y:Sl)(q:Rq)(s:List Sl)(r:Rl)(p:ByteArray)(pl nu le ri:Int)
abbrev lp:Prop:=∀(d:List (List Tm)) (i:Nf),
 Bd Tryz.prog 319 [.ref 1000 0,.agg (AR i)] (Ag (MW x ifs roots d) Ad) fun r h'=>r=Lj (ne0 (E3 i.path (BC x i.path)))/\h'=Ag (MW x ifs roots d) Ad
abbrev RT(i:Nf)(r:AV)(h' : Nat->HO):Prop:=
 r=vb (BA x roots d i).isSome/\∃d',h'=Ag (MW x ifs roots d') Ad/\∀t,BA x roots d i=some t->d'=d++[t]
theorem sE(hd:d.length<=65536)(hr:∀q∈roots,Cz q.set) :
  Bd Tryz.prog 182 [.ref 1000 0,.agg (AR ⟨0,p,pl,nu,le,ri⟩)] (Ag (MW x ifs roots d) Ad) fun r h'=>RT x ifs roots d ⟨0,p,pl,nu,le,ri⟩ r h':=by
 have ij:BA x roots d ⟨0,p,pl,nu,le,ri⟩=if p=mt/\pl=0/\le=0/\ri=0 then(EH roots nu).map Gt else none:=rfl
 by_cases hc:p=mt/\pl=0/\le=0/\ri=0
 .have ik:BA x roots d ⟨0,p,pl,nu,le,ri⟩=(EH roots nu).map Gt:=Wk
  have Ji:=xq x ifs roots d ⟨0,p,pl,nu,le,ri⟩ hr;cases ho:(EH roots nu).map Gt with
  |none=>
   have FV:BA x roots d ⟨0,p,pl,nu,le,ri⟩=none:=Wk
   rw[ho]at Ji;refine Bm (IF (Eu [3,4,6])) [(1000,1000),(1001,1001)] rfl BB hm rfl Tryz.func182 aa3 rfl (Nz rfl) aa3 rfl (Yi ?_ ?_)
   .intro h;exact absurd (show(0:Int)<0 from h) aa2
   intro _;refine Yi ?_ ?_
   .intro h;exact absurd (show(3:Int)<0 from h) aa2
   intro _;refine cU [(0,.ref 1000 0),(3,.ref 3 0)] [(3,.cells (AR ⟨0,p,pl,nu,le,ri⟩)),(1000,Ik x ifs roots d),(1001,Ir d)] Z2 Z3 (Xi _ (Yi (Rk) (Yi ⟨by omega,by omega⟩ ?_)));refine Yi (Nz rfl) (yN (Yi aa3 (cU [(0,.ref 1000 0),(3,.ref 3 0),(5,.ref 5 0)] [(3,.cells (AR ⟨0,p,pl,nu,le,ri⟩)),(5,.cells [.v (Gz 314),.v (Gz 315)]),(1000,Ik x ifs roots d),(1001,Ir d)] Z3 Z4 (yN (Xi _ (Yi (pK ⟨0,p,pl,nu,le,ri⟩) (Yi ?_ ?_)))))))
   rotate_left
   .intro h6;have he:Zn [vi 0,vs p,vi pl,vi 0,vi le,vi ri] [vi 0,vs mt,vi 0,vi 0,vi 0,vi 0]:=⟨rfl,hc.1,hc.2.1,rfl,hc.2.2.1,hc.2.2.2,trivial⟩;exact absurd he h6
   intro _;refine Yi aa3 (cU [(0,.ref 1000 0),(3,.ref 3 0),(5,.ref 5 0)] [(3,.cells (AR ⟨0,p,pl,nu,le,ri⟩)),(5,.cells [.v (Gz 314),.v (Gz 315)]),(1000,Ik x ifs roots d),(1001,Ir d)] Z3 Z4 (yN (Xi (.gen [(1000,1000),(1001,1001)] 0) (Yi rfl (Ji.imp ?_)))));intro v1 g1 q1;have TG:=q1.1;have OY:=q1.2;subst TG;subst OY;have DG:BX 1 [AD []]/\(d.map AD).length=(d.map AD).length/\((d.map AD).length+[AD []].length)*24<=140737488355328/\(d.map AD).length+[AD []].length<=9223372036854775807:=
    ⟨⟨rfl,trivial⟩,rfl,by rw[Lm,A5];omega,by rw[Lm,A5];omega⟩
   refine Yi DG (yN ?_);have eh:Ag [(1000,HO.cells [sl At x,.slice .none ifs,sl Af roots,.slice (.id 1001 1) (d.map AD++[AD []])]),(1001,.tok 1 ((d.map AD).length+[AD []].length))] Ad=Ag (MW x ifs roots (d++[[]])) Ad:=by
    simp[MW,Ik,lO,Ir]
   have er:vb false=vb (BA x roots d ⟨0,p,pl,nu,le,ri⟩).isSome:=by rw[FV];rfl
   exact Xi _ (Yi (.refl _) (Yi er (Xi (d++[[]]) (Yi eh (fun t ht=>by rw[FV]at ht;cases ht)))))
  |some tt=>
   have FV:BA x roots d ⟨0,p,pl,nu,le,ri⟩=some tt:=Wk
   rw[ho]at Ji;refine Bm (IF (Eu [3,4,6])) [(1000,1000),(1001,1001)] rfl BB hm rfl Tryz.func182 aa3 rfl (Nz rfl) aa3 rfl (Yi ?_ ?_)
   .intro h;exact absurd (show(0:Int)<0 from h) aa2
   intro _;refine Yi ?_ ?_
   .intro h;exact absurd (show(3:Int)<0 from h) aa2
   intro _;refine cU [(0,.ref 1000 0),(3,.ref 3 0)] [(3,.cells (AR ⟨0,p,pl,nu,le,ri⟩)),(1000,Ik x ifs roots d),(1001,Ir d)] Z2 Z3 (Xi _ (Yi (Rk) (Yi ⟨by omega,by omega⟩ ?_)));refine Yi (Nz rfl) (yN (Yi aa3 (cU [(0,.ref 1000 0),(3,.ref 3 0),(5,.ref 5 0)] [(3,.cells (AR ⟨0,p,pl,nu,le,ri⟩)),(5,.cells [.v (Gz 314),.v (Gz 315)]),(1000,Ik x ifs roots d),(1001,Ir d)] Z3 Z4 (yN (Xi _ (Yi (pK ⟨0,p,pl,nu,le,ri⟩) (Yi ?_ ?_)))))))
   rotate_left
   .intro h6;have he:Zn [vi 0,vs p,vi pl,vi 0,vi le,vi ri] [vi 0,vs mt,vi 0,vi 0,vi 0,vi 0]:=⟨rfl,hc.1,hc.2.1,rfl,hc.2.2.1,hc.2.2.2,trivial⟩;exact absurd he h6
   intro _;refine Yi aa3 (cU [(0,.ref 1000 0),(3,.ref 3 0),(5,.ref 5 0)] [(3,.cells (AR ⟨0,p,pl,nu,le,ri⟩)),(5,.cells [.v (Gz 314),.v (Gz 315)]),(1000,Ik x ifs roots d),(1001,Ir d)] Z3 Z4 (yN (Xi (.gen [(1000,1000),(1001,1001)] 0) (Yi rfl (Ji.imp ?_)))));intro v1 g1 q1;have TG:=q1.1;have OY:=q1.2;subst TG;subst OY;have DG:BX 1 [AD tt]/\(d.map AD).length=(d.map AD).length/\((d.map AD).length+[AD tt].length)*24<=140737488355328/\(d.map AD).length+[AD tt].length<=9223372036854775807:=
    ⟨⟨rfl,trivial⟩,rfl,by rw[Lm,A5];omega,by rw[Lm,A5];omega⟩
   refine Yi DG (yN ?_);have eh:Ag [(1000,HO.cells [sl At x,.slice .none ifs,sl Af roots,.slice (.id 1001 1) (d.map AD++[AD tt])]),(1001,.tok 1 ((d.map AD).length+[AD tt].length))] Ad=Ag (MW x ifs roots (d++[tt])) Ad:=by
    simp[MW,Ik,lO,Ir]
   have er:vb true=vb (BA x roots d ⟨0,p,pl,nu,le,ri⟩).isSome:=by rw[FV];rfl
   exact Xi _ (Yi (.refl _) (Yi er (Xi (d++[tt]) (Yi eh (fun t ht=>by rw[FV]at ht;cases ht;rfl)))))
 .have FV:BA x roots d ⟨0,p,pl,nu,le,ri⟩=none:=Wk
  refine Bm (IF (Eu [3,4,6])) [(1000,1000),(1001,1001)] rfl BB hm rfl Tryz.func182 aa3 rfl (Nz rfl) aa3 rfl (Yi ?_ ?_)
  .intro h;exact absurd (show(0:Int)<0 from h) aa2
  intro _;refine Yi ?_ ?_
  .intro h;exact absurd (show(3:Int)<0 from h) aa2
  intro _;refine cU [(0,.ref 1000 0),(3,.ref 3 0)] [(3,.cells (AR ⟨0,p,pl,nu,le,ri⟩)),(1000,Ik x ifs roots d),(1001,Ir d)] Z2 Z3 (Xi _ (Yi (Rk) (Yi ⟨by omega,by omega⟩ ?_)));refine Yi (Nz rfl) (yN (Yi aa3 (cU [(0,.ref 1000 0),(3,.ref 3 0),(5,.ref 5 0)] [(3,.cells (AR ⟨0,p,pl,nu,le,ri⟩)),(5,.cells [.v (Gz 314),.v (Gz 315)]),(1000,Ik x ifs roots d),(1001,Ir d)] Z3 Z4 (yN (Xi _ (Yi (pK ⟨0,p,pl,nu,le,ri⟩) (Yi ?_ ?_)))))))
  .intro h6;exact absurd (show p=mt/\pl=0/\le=0/\ri=0 from⟨h6.2.1,h6.2.2.1,h6.2.2.2.2.1,h6.2.2.2.2.2.1⟩) hc
  intro _;refine Yi aa3 ?_;have er:vb false=vb (BA x roots d ⟨0,p,pl,nu,le,ri⟩).isSome:=by rw[FV];rfl
  exact Xi _ (Yi (.refl _) (Yi er (Xi d (Yi rfl (fun t ht=>by rw[FV]at ht;cases ht)))))
theorem sF(hd:d.length<=65536)(hx:Cz x)(hq:∀r∈x,∀q∈r.reqs,Cz q.set) :
  Bd Tryz.prog 182 [.ref 1000 0,.agg (AR ⟨1,p,pl,nu,le,ri⟩)] (Ag (MW x ifs roots d) Ad) fun r h'=>RT x ifs roots d ⟨1,p,pl,nu,le,ri⟩ r h':=by
 have ij:BA x roots d ⟨1,p,pl,nu,le,ri⟩=if le=0/\ri=0 then Uq x ⟨1,p,pl,nu,le,ri⟩else none:=rfl
 by_cases hc:le=0/\ri=0
 .have ik:BA x roots d ⟨1,p,pl,nu,le,ri⟩=Uq x ⟨1,p,pl,nu,le,ri⟩:=Wk
  have Ji:=xr x ifs roots d ⟨1,p,pl,nu,le,ri⟩ hx hq;cases ho:Uq x ⟨1,p,pl,nu,le,ri⟩with
  |none=>
   have FV:BA x roots d ⟨1,p,pl,nu,le,ri⟩=none:=Wk
   rw[ho]at Ji;refine Bm (IF (Eu [3,4,6])) [(1000,1000),(1001,1001)] rfl BB hm rfl Tryz.func182 aa3 rfl (Nz rfl) aa3 rfl (Yi ?_ ?_)
   .intro h;exact absurd (show(1:Int)<0 from h) aa2
   intro _;refine Yi ?_ ?_
   .intro h;exact absurd (show(3:Int)<1 from h) aa2
   intro _;refine cU [(0,.ref 1000 0),(3,.ref 3 0)] [(3,.cells (AR ⟨1,p,pl,nu,le,ri⟩)),(1000,Ik x ifs roots d),(1001,Ir d)] Z2 Z3 (Xi _ (Yi (Rk) (Yi ⟨by omega,by omega⟩ ?_)));refine Yi (Nz rfl) (yN (Yi aa3 (cU [(0,.ref 1000 0),(3,.ref 3 0),(5,.ref 5 0)] [(3,.cells (AR ⟨1,p,pl,nu,le,ri⟩)),(5,.cells [.v (Gz 316),.v (Gz 317)]),(1000,Ik x ifs roots d),(1001,Ir d)] Z3 Z4 (yN (Xi _ (Yi (pL ⟨1,p,pl,nu,le,ri⟩) (Yi ?_ ?_)))))))
   rotate_left
   .intro h6;have he:Zn [vi 1,vs mt,vi 0,vi 0,vi le,vi ri] [vi 1,vs mt,vi 0,vi 0,vi 0,vi 0]:=⟨rfl,rfl,rfl,rfl,hc.1,hc.2,trivial⟩;exact absurd he h6
   intro _;refine Yi aa3 (cU [(0,.ref 1000 0),(3,.ref 3 0),(5,.ref 5 0)] [(3,.cells (AR ⟨1,p,pl,nu,le,ri⟩)),(5,.cells [.v (Gz 316),.v (Gz 317)]),(1000,Ik x ifs roots d),(1001,Ir d)] Z3 Z4 (yN (Xi (.gen [(1000,1000),(1001,1001)] 0) (Yi rfl (Ji.imp ?_)))));intro v1 g1 q1;have TG:=q1.1;have OY:=q1.2;subst TG;subst OY;have DG:BX 1 [AD []]/\(d.map AD).length=(d.map AD).length/\((d.map AD).length+[AD []].length)*24<=140737488355328/\(d.map AD).length+[AD []].length<=9223372036854775807:=
    ⟨⟨rfl,trivial⟩,rfl,by rw[Lm,A5];omega,by rw[Lm,A5];omega⟩
   refine Yi DG (yN ?_);have eh:Ag [(1000,HO.cells [sl At x,.slice .none ifs,sl Af roots,.slice (.id 1001 1) (d.map AD++[AD []])]),(1001,.tok 1 ((d.map AD).length+[AD []].length))] Ad=Ag (MW x ifs roots (d++[[]])) Ad:=by
    simp[MW,Ik,lO,Ir]
   have er:vb false=vb (BA x roots d ⟨1,p,pl,nu,le,ri⟩).isSome:=by rw[FV];rfl
   exact Xi _ (Yi (.refl _) (Yi er (Xi (d++[[]]) (Yi eh (fun t ht=>by rw[FV]at ht;cases ht)))))
  |some tt=>
   have FV:BA x roots d ⟨1,p,pl,nu,le,ri⟩=some tt:=Wk
   rw[ho]at Ji;refine Bm (IF (Eu [3,4,6])) [(1000,1000),(1001,1001)] rfl BB hm rfl Tryz.func182 aa3 rfl (Nz rfl) aa3 rfl (Yi ?_ ?_)
   .intro h;exact absurd (show(1:Int)<0 from h) aa2
   intro _;refine Yi ?_ ?_
   .intro h;exact absurd (show(3:Int)<1 from h) aa2
   intro _;refine cU [(0,.ref 1000 0),(3,.ref 3 0)] [(3,.cells (AR ⟨1,p,pl,nu,le,ri⟩)),(1000,Ik x ifs roots d),(1001,Ir d)] Z2 Z3 (Xi _ (Yi (Rk) (Yi ⟨by omega,by omega⟩ ?_)));refine Yi (Nz rfl) (yN (Yi aa3 (cU [(0,.ref 1000 0),(3,.ref 3 0),(5,.ref 5 0)] [(3,.cells (AR ⟨1,p,pl,nu,le,ri⟩)),(5,.cells [.v (Gz 316),.v (Gz 317)]),(1000,Ik x ifs roots d),(1001,Ir d)] Z3 Z4 (yN (Xi _ (Yi (pL ⟨1,p,pl,nu,le,ri⟩) (Yi ?_ ?_)))))))
   rotate_left
   .intro h6;have he:Zn [vi 1,vs mt,vi 0,vi 0,vi le,vi ri] [vi 1,vs mt,vi 0,vi 0,vi 0,vi 0]:=⟨rfl,rfl,rfl,rfl,hc.1,hc.2,trivial⟩;exact absurd he h6
   intro _;refine Yi aa3 (cU [(0,.ref 1000 0),(3,.ref 3 0),(5,.ref 5 0)] [(3,.cells (AR ⟨1,p,pl,nu,le,ri⟩)),(5,.cells [.v (Gz 316),.v (Gz 317)]),(1000,Ik x ifs roots d),(1001,Ir d)] Z3 Z4 (yN (Xi (.gen [(1000,1000),(1001,1001)] 0) (Yi rfl (Ji.imp ?_)))));intro v1 g1 q1;have TG:=q1.1;have OY:=q1.2;subst TG;subst OY;have DG:BX 1 [AD tt]/\(d.map AD).length=(d.map AD).length/\((d.map AD).length+[AD tt].length)*24<=140737488355328/\(d.map AD).length+[AD tt].length<=9223372036854775807:=
    ⟨⟨rfl,trivial⟩,rfl,by rw[Lm,A5];omega,by rw[Lm,A5];omega⟩
   refine Yi DG (yN ?_);have eh:Ag [(1000,HO.cells [sl At x,.slice .none ifs,sl Af roots,.slice (.id 1001 1) (d.map AD++[AD tt])]),(1001,.tok 1 ((d.map AD).length+[AD tt].length))] Ad=Ag (MW x ifs roots (d++[tt])) Ad:=by
    simp[MW,Ik,lO,Ir]
   have er:vb true=vb (BA x roots d ⟨1,p,pl,nu,le,ri⟩).isSome:=by rw[FV];rfl
   exact Xi _ (Yi (.refl _) (Yi er (Xi (d++[tt]) (Yi eh (fun t ht=>by rw[FV]at ht;cases ht;rfl)))))
 .have FV:BA x roots d ⟨1,p,pl,nu,le,ri⟩=none:=Wk
  refine Bm (IF (Eu [3,4,6])) [(1000,1000),(1001,1001)] rfl BB hm rfl Tryz.func182 aa3 rfl (Nz rfl) aa3 rfl (Yi ?_ ?_)
  .intro h;exact absurd (show(1:Int)<0 from h) aa2
  intro _;refine Yi ?_ ?_
  .intro h;exact absurd (show(3:Int)<1 from h) aa2
  intro _;refine cU [(0,.ref 1000 0),(3,.ref 3 0)] [(3,.cells (AR ⟨1,p,pl,nu,le,ri⟩)),(1000,Ik x ifs roots d),(1001,Ir d)] Z2 Z3 (Xi _ (Yi (Rk) (Yi ⟨by omega,by omega⟩ ?_)));refine Yi (Nz rfl) (yN (Yi aa3 (cU [(0,.ref 1000 0),(3,.ref 3 0),(5,.ref 5 0)] [(3,.cells (AR ⟨1,p,pl,nu,le,ri⟩)),(5,.cells [.v (Gz 316),.v (Gz 317)]),(1000,Ik x ifs roots d),(1001,Ir d)] Z3 Z4 (yN (Xi _ (Yi (pL ⟨1,p,pl,nu,le,ri⟩) (Yi ?_ ?_)))))))
  .intro h6;exact absurd (show le=0/\ri=0 from⟨h6.2.2.2.2.1,h6.2.2.2.2.2.1⟩) hc
  intro _;refine Yi aa3 ?_;have er:vb false=vb (BA x roots d ⟨1,p,pl,nu,le,ri⟩).isSome:=by rw[FV];rfl
  exact Xi _ (Yi (.refl _) (Yi er (Xi d (Yi rfl (fun t ht=>by rw[FV]at ht;cases ht)))))
theorem sG(hd:d.length<=65536)(mc:lp x ifs roots) :
  Bd Tryz.prog 182 [.ref 1000 0,.agg (AR ⟨2,p,pl,nu,le,ri⟩)] (Ag (MW x ifs roots d) Ad) fun r h'=>RT x ifs roots d ⟨2,p,pl,nu,le,ri⟩ r h':=by
 have ij:BA x roots d ⟨2,p,pl,nu,le,ri⟩=if pl=0/\nu=0/\le=0/\ri=0 then ne0 (E3 p (BC x p))else none:=rfl
 by_cases hc:pl=0/\nu=0/\le=0/\ri=0
 .have ik:BA x roots d ⟨2,p,pl,nu,le,ri⟩=ne0 (E3 p (BC x p)):=Wk
  have Ji:=mc d ⟨2,p,pl,nu,le,ri⟩;cases ho:ne0 (E3 p (BC x p))with
  |none=>
   have FV:BA x roots d ⟨2,p,pl,nu,le,ri⟩=none:=Wk
   rw[ho]at Ji;refine Bm (IF (Eu [3,4,6])) [(1000,1000),(1001,1001)] rfl BB hm rfl Tryz.func182 aa3 rfl (Nz rfl) aa3 rfl (Yi ?_ ?_)
   .intro h;exact absurd (show(2:Int)<0 from h) aa2
   intro _;refine Yi ?_ ?_
   .intro h;exact absurd (show(3:Int)<2 from h) aa2
   intro _;refine cU [(0,.ref 1000 0),(3,.ref 3 0)] [(3,.cells (AR ⟨2,p,pl,nu,le,ri⟩)),(1000,Ik x ifs roots d),(1001,Ir d)] Z2 Z3 (Xi _ (Yi (Rk) (Yi ⟨by omega,by omega⟩ ?_)));refine Yi (Nz rfl) (yN (Yi aa3 (cU [(0,.ref 1000 0),(3,.ref 3 0),(5,.ref 5 0)] [(3,.cells (AR ⟨2,p,pl,nu,le,ri⟩)),(5,.cells [.v (Gz 318),.v (Gz 319)]),(1000,Ik x ifs roots d),(1001,Ir d)] Z3 Z4 (yN (Xi _ (Yi (pM ⟨2,p,pl,nu,le,ri⟩) (Yi ?_ ?_)))))))
   rotate_left
   .intro h6;have he:Zn [vi 2,vs mt,vi pl,vi nu,vi le,vi ri] [vi 2,vs mt,vi 0,vi 0,vi 0,vi 0]:=⟨rfl,rfl,hc.1,hc.2.1,hc.2.2.1,hc.2.2.2,trivial⟩;exact absurd he h6
   intro _;refine Yi aa3 (cU [(0,.ref 1000 0),(3,.ref 3 0),(5,.ref 5 0)] [(3,.cells (AR ⟨2,p,pl,nu,le,ri⟩)),(5,.cells [.v (Gz 318),.v (Gz 319)]),(1000,Ik x ifs roots d),(1001,Ir d)] Z3 Z4 (yN (Xi (.gen [(1000,1000),(1001,1001)] 0) (Yi rfl (Ji.imp ?_)))));intro v1 g1 q1;have TG:=q1.1;have OY:=q1.2;subst TG;subst OY;have DG:BX 1 [AD []]/\(d.map AD).length=(d.map AD).length/\((d.map AD).length+[AD []].length)*24<=140737488355328/\(d.map AD).length+[AD []].length<=9223372036854775807:=
    ⟨⟨rfl,trivial⟩,rfl,by rw[Lm,A5];omega,by rw[Lm,A5];omega⟩
   refine Yi DG (yN ?_);have eh:Ag [(1000,HO.cells [sl At x,.slice .none ifs,sl Af roots,.slice (.id 1001 1) (d.map AD++[AD []])]),(1001,.tok 1 ((d.map AD).length+[AD []].length))] Ad=Ag (MW x ifs roots (d++[[]])) Ad:=by
    simp[MW,Ik,lO,Ir]
   have er:vb false=vb (BA x roots d ⟨2,p,pl,nu,le,ri⟩).isSome:=by rw[FV];rfl
   exact Xi _ (Yi (.refl _) (Yi er (Xi (d++[[]]) (Yi eh (fun t ht=>by rw[FV]at ht;cases ht)))))
  |some tt=>
   have FV:BA x roots d ⟨2,p,pl,nu,le,ri⟩=some tt:=Wk
   rw[ho]at Ji;refine Bm (IF (Eu [3,4,6])) [(1000,1000),(1001,1001)] rfl BB hm rfl Tryz.func182 aa3 rfl (Nz rfl) aa3 rfl (Yi ?_ ?_)
   .intro h;exact absurd (show(2:Int)<0 from h) aa2
   intro _;refine Yi ?_ ?_
   .intro h;exact absurd (show(3:Int)<2 from h) aa2
   intro _;refine cU [(0,.ref 1000 0),(3,.ref 3 0)] [(3,.cells (AR ⟨2,p,pl,nu,le,ri⟩)),(1000,Ik x ifs roots d),(1001,Ir d)] Z2 Z3 (Xi _ (Yi (Rk) (Yi ⟨by omega,by omega⟩ ?_)));refine Yi (Nz rfl) (yN (Yi aa3 (cU [(0,.ref 1000 0),(3,.ref 3 0),(5,.ref 5 0)] [(3,.cells (AR ⟨2,p,pl,nu,le,ri⟩)),(5,.cells [.v (Gz 318),.v (Gz 319)]),(1000,Ik x ifs roots d),(1001,Ir d)] Z3 Z4 (yN (Xi _ (Yi (pM ⟨2,p,pl,nu,le,ri⟩) (Yi ?_ ?_)))))))
   rotate_left
   .intro h6;have he:Zn [vi 2,vs mt,vi pl,vi nu,vi le,vi ri] [vi 2,vs mt,vi 0,vi 0,vi 0,vi 0]:=⟨rfl,rfl,hc.1,hc.2.1,hc.2.2.1,hc.2.2.2,trivial⟩;exact absurd he h6
   intro _;refine Yi aa3 (cU [(0,.ref 1000 0),(3,.ref 3 0),(5,.ref 5 0)] [(3,.cells (AR ⟨2,p,pl,nu,le,ri⟩)),(5,.cells [.v (Gz 318),.v (Gz 319)]),(1000,Ik x ifs roots d),(1001,Ir d)] Z3 Z4 (yN (Xi (.gen [(1000,1000),(1001,1001)] 0) (Yi rfl (Ji.imp ?_)))));intro v1 g1 q1;have TG:=q1.1;have OY:=q1.2;subst TG;subst OY;have DG:BX 1 [AD tt]/\(d.map AD).length=(d.map AD).length/\((d.map AD).length+[AD tt].length)*24<=140737488355328/\(d.map AD).length+[AD tt].length<=9223372036854775807:=
    ⟨⟨rfl,trivial⟩,rfl,by rw[Lm,A5];omega,by rw[Lm,A5];omega⟩
   refine Yi DG (yN ?_);have eh:Ag [(1000,HO.cells [sl At x,.slice .none ifs,sl Af roots,.slice (.id 1001 1) (d.map AD++[AD tt])]),(1001,.tok 1 ((d.map AD).length+[AD tt].length))] Ad=Ag (MW x ifs roots (d++[tt])) Ad:=by
    simp[MW,Ik,lO,Ir]
   have er:vb true=vb (BA x roots d ⟨2,p,pl,nu,le,ri⟩).isSome:=by rw[FV];rfl
   exact Xi _ (Yi (.refl _) (Yi er (Xi (d++[tt]) (Yi eh (fun t ht=>by rw[FV]at ht;cases ht;rfl)))))
 .have FV:BA x roots d ⟨2,p,pl,nu,le,ri⟩=none:=Wk
  refine Bm (IF (Eu [3,4,6])) [(1000,1000),(1001,1001)] rfl BB hm rfl Tryz.func182 aa3 rfl (Nz rfl) aa3 rfl (Yi ?_ ?_)
  .intro h;exact absurd (show(2:Int)<0 from h) aa2
  intro _;refine Yi ?_ ?_
  .intro h;exact absurd (show(3:Int)<2 from h) aa2
  intro _;refine cU [(0,.ref 1000 0),(3,.ref 3 0)] [(3,.cells (AR ⟨2,p,pl,nu,le,ri⟩)),(1000,Ik x ifs roots d),(1001,Ir d)] Z2 Z3 (Xi _ (Yi (Rk) (Yi ⟨by omega,by omega⟩ ?_)));refine Yi (Nz rfl) (yN (Yi aa3 (cU [(0,.ref 1000 0),(3,.ref 3 0),(5,.ref 5 0)] [(3,.cells (AR ⟨2,p,pl,nu,le,ri⟩)),(5,.cells [.v (Gz 318),.v (Gz 319)]),(1000,Ik x ifs roots d),(1001,Ir d)] Z3 Z4 (yN (Xi _ (Yi (pM ⟨2,p,pl,nu,le,ri⟩) (Yi ?_ ?_)))))))
  .intro h6;exact absurd (show pl=0/\nu=0/\le=0/\ri=0 from⟨h6.2.2.1,h6.2.2.2.1,h6.2.2.2.2.1,h6.2.2.2.2.2.1⟩) hc
  intro _;refine Yi aa3 ?_;have er:vb false=vb (BA x roots d ⟨2,p,pl,nu,le,ri⟩).isSome:=by rw[FV];rfl
  exact Xi _ (Yi (.refl _) (Yi er (Xi d (Yi rfl (fun t ht=>by rw[FV]at ht;cases ht)))))
theorem sI(hd:d.length<=65536)(hi:∀t∈d,cZ t) :
  Bd Tryz.prog 182 [.ref 1000 0,.agg (AR ⟨3,p,pl,nu,le,ri⟩)] (Ag (MW x ifs roots d) Ad) fun r h'=>RT x ifs roots d ⟨3,p,pl,nu,le,ri⟩ r h':=by
 have ij:BA x roots d ⟨3,p,pl,nu,le,ri⟩=if pl=0/\nu=0 then TL d ⟨3,p,pl,nu,le,ri⟩else none:=rfl
 by_cases hc:pl=0/\nu=0
 .have ik:BA x roots d ⟨3,p,pl,nu,le,ri⟩=TL d ⟨3,p,pl,nu,le,ri⟩:=Wk
  have Ji:=xu x ifs roots d ⟨3,p,pl,nu,le,ri⟩ hi;cases ho:TL d ⟨3,p,pl,nu,le,ri⟩with
  |none=>
   have FV:BA x roots d ⟨3,p,pl,nu,le,ri⟩=none:=Wk
   rw[ho]at Ji;refine Bm (IF (Eu [3,4,6])) [(1000,1000),(1001,1001)] rfl BB hm rfl Tryz.func182 aa3 rfl (Nz rfl) aa3 rfl (Yi ?_ ?_)
   .intro h;exact absurd (show(3:Int)<0 from h) aa2
   intro _;refine Yi ?_ ?_
   .intro h;exact absurd (show(3:Int)<3 from h) aa2
   intro _;refine cU [(0,.ref 1000 0),(3,.ref 3 0)] [(3,.cells (AR ⟨3,p,pl,nu,le,ri⟩)),(1000,Ik x ifs roots d),(1001,Ir d)] Z2 Z3 (Xi _ (Yi (Rk) (Yi ⟨by omega,by omega⟩ ?_)));refine Yi (Nz rfl) (yN (Yi aa3 (cU [(0,.ref 1000 0),(3,.ref 3 0),(5,.ref 5 0)] [(3,.cells (AR ⟨3,p,pl,nu,le,ri⟩)),(5,.cells [.v (Gz 320),.v (Gz 321)]),(1000,Ik x ifs roots d),(1001,Ir d)] Z3 Z4 (yN (Xi _ (Yi (pN ⟨3,p,pl,nu,le,ri⟩) (Yi ?_ ?_)))))))
   rotate_left
   .intro h6;have he:Zn [vi 3,vs mt,vi pl,vi nu,vi 0,vi 0] [vi 3,vs mt,vi 0,vi 0,vi 0,vi 0]:=⟨rfl,rfl,hc.1,hc.2,rfl,rfl,trivial⟩;exact absurd he h6
   intro _;refine Yi aa3 (cU [(0,.ref 1000 0),(3,.ref 3 0),(5,.ref 5 0)] [(3,.cells (AR ⟨3,p,pl,nu,le,ri⟩)),(5,.cells [.v (Gz 320),.v (Gz 321)]),(1000,Ik x ifs roots d),(1001,Ir d)] Z3 Z4 (yN (Xi (.gen [(1000,1000),(1001,1001)] 0) (Yi rfl (Ji.imp ?_)))));intro v1 g1 q1;have TG:=q1.1;have OY:=q1.2;subst TG;subst OY;have DG:BX 1 [AD []]/\(d.map AD).length=(d.map AD).length/\((d.map AD).length+[AD []].length)*24<=140737488355328/\(d.map AD).length+[AD []].length<=9223372036854775807:=
    ⟨⟨rfl,trivial⟩,rfl,by rw[Lm,A5];omega,by rw[Lm,A5];omega⟩
   refine Yi DG (yN ?_);have eh:Ag [(1000,HO.cells [sl At x,.slice .none ifs,sl Af roots,.slice (.id 1001 1) (d.map AD++[AD []])]),(1001,.tok 1 ((d.map AD).length+[AD []].length))] Ad=Ag (MW x ifs roots (d++[[]])) Ad:=by
    simp[MW,Ik,lO,Ir]
   have er:vb false=vb (BA x roots d ⟨3,p,pl,nu,le,ri⟩).isSome:=by rw[FV];rfl
   exact Xi _ (Yi (.refl _) (Yi er (Xi (d++[[]]) (Yi eh (fun t ht=>by rw[FV]at ht;cases ht)))))
  |some tt=>
   have FV:BA x roots d ⟨3,p,pl,nu,le,ri⟩=some tt:=Wk
   rw[ho]at Ji;refine Bm (IF (Eu [3,4,6])) [(1000,1000),(1001,1001)] rfl BB hm rfl Tryz.func182 aa3 rfl (Nz rfl) aa3 rfl (Yi ?_ ?_)
   .intro h;exact absurd (show(3:Int)<0 from h) aa2
   intro _;refine Yi ?_ ?_
   .intro h;exact absurd (show(3:Int)<3 from h) aa2
   intro _;refine cU [(0,.ref 1000 0),(3,.ref 3 0)] [(3,.cells (AR ⟨3,p,pl,nu,le,ri⟩)),(1000,Ik x ifs roots d),(1001,Ir d)] Z2 Z3 (Xi _ (Yi (Rk) (Yi ⟨by omega,by omega⟩ ?_)));refine Yi (Nz rfl) (yN (Yi aa3 (cU [(0,.ref 1000 0),(3,.ref 3 0),(5,.ref 5 0)] [(3,.cells (AR ⟨3,p,pl,nu,le,ri⟩)),(5,.cells [.v (Gz 320),.v (Gz 321)]),(1000,Ik x ifs roots d),(1001,Ir d)] Z3 Z4 (yN (Xi _ (Yi (pN ⟨3,p,pl,nu,le,ri⟩) (Yi ?_ ?_)))))))
   rotate_left
   .intro h6;have he:Zn [vi 3,vs mt,vi pl,vi nu,vi 0,vi 0] [vi 3,vs mt,vi 0,vi 0,vi 0,vi 0]:=⟨rfl,rfl,hc.1,hc.2,rfl,rfl,trivial⟩;exact absurd he h6
   intro _;refine Yi aa3 (cU [(0,.ref 1000 0),(3,.ref 3 0),(5,.ref 5 0)] [(3,.cells (AR ⟨3,p,pl,nu,le,ri⟩)),(5,.cells [.v (Gz 320),.v (Gz 321)]),(1000,Ik x ifs roots d),(1001,Ir d)] Z3 Z4 (yN (Xi (.gen [(1000,1000),(1001,1001)] 0) (Yi rfl (Ji.imp ?_)))));intro v1 g1 q1;have TG:=q1.1;have OY:=q1.2;subst TG;subst OY;have DG:BX 1 [AD tt]/\(d.map AD).length=(d.map AD).length/\((d.map AD).length+[AD tt].length)*24<=140737488355328/\(d.map AD).length+[AD tt].length<=9223372036854775807:=
    ⟨⟨rfl,trivial⟩,rfl,by rw[Lm,A5];omega,by rw[Lm,A5];omega⟩
   refine Yi DG (yN ?_);have eh:Ag [(1000,HO.cells [sl At x,.slice .none ifs,sl Af roots,.slice (.id 1001 1) (d.map AD++[AD tt])]),(1001,.tok 1 ((d.map AD).length+[AD tt].length))] Ad=Ag (MW x ifs roots (d++[tt])) Ad:=by
    simp[MW,Ik,lO,Ir]
   have er:vb true=vb (BA x roots d ⟨3,p,pl,nu,le,ri⟩).isSome:=by rw[FV];rfl
   exact Xi _ (Yi (.refl _) (Yi er (Xi (d++[tt]) (Yi eh (fun t ht=>by rw[FV]at ht;cases ht;rfl)))))
 .have FV:BA x roots d ⟨3,p,pl,nu,le,ri⟩=none:=Wk
  refine Bm (IF (Eu [3,4,6])) [(1000,1000),(1001,1001)] rfl BB hm rfl Tryz.func182 aa3 rfl (Nz rfl) aa3 rfl (Yi ?_ ?_)
  .intro h;exact absurd (show(3:Int)<0 from h) aa2
  intro _;refine Yi ?_ ?_
  .intro h;exact absurd (show(3:Int)<3 from h) aa2
  intro _;refine cU [(0,.ref 1000 0),(3,.ref 3 0)] [(3,.cells (AR ⟨3,p,pl,nu,le,ri⟩)),(1000,Ik x ifs roots d),(1001,Ir d)] Z2 Z3 (Xi _ (Yi (Rk) (Yi ⟨by omega,by omega⟩ ?_)));refine Yi (Nz rfl) (yN (Yi aa3 (cU [(0,.ref 1000 0),(3,.ref 3 0),(5,.ref 5 0)] [(3,.cells (AR ⟨3,p,pl,nu,le,ri⟩)),(5,.cells [.v (Gz 320),.v (Gz 321)]),(1000,Ik x ifs roots d),(1001,Ir d)] Z3 Z4 (yN (Xi _ (Yi (pN ⟨3,p,pl,nu,le,ri⟩) (Yi ?_ ?_)))))))
  .intro h6;exact absurd (show pl=0/\nu=0 from⟨h6.2.2.1,h6.2.2.2.1⟩) hc
  intro _;refine Yi aa3 ?_;have er:vb false=vb (BA x roots d ⟨3,p,pl,nu,le,ri⟩).isSome:=by rw[FV];rfl
  exact Xi _ (Yi (.refl _) (Yi er (Xi d (Yi rfl (fun t ht=>by rw[FV]at ht;cases ht)))))
theorem c66(i:Nf)(hd:d.length<=65536)(hr:∀q∈roots,Cz q.set)(hx:Cz x)(hq:∀r∈x,∀q∈r.reqs,Cz q.set)(mc:lp x ifs roots)(hi:∀t∈d,cZ t) :
  Bd Tryz.prog 182 [.ref 1000 0,.agg (AR i)] (Ag (MW x ifs roots d) Ad) fun r h'=>RT x ifs roots d i r h':=by
 obtain⟨k,p,pl,nu,le,ri⟩:=i
 by_cases h0:k=0
 .grind [sE]
 by_cases h1:k=1
 .grind [sF]
 by_cases h2:k=2
 .grind [sG]
 by_cases h3:k=3
 .grind [sI]
 have FV:BA x roots d ⟨k,p,pl,nu,le,ri⟩=none:=by
  show(if k=0 then _ else if k=1 then _ else if k=2 then _ else if k=3 then _ else none)=none;simp_all
 have er:vb false=vb (BA x roots d ⟨k,p,pl,nu,le,ri⟩).isSome:=Wk
 refine Bm (IF Ea) [(1000,1000),(1001,1001)] rfl BB hm rfl Tryz.func182 aa3 rfl (Nz rfl) aa3 rfl (Yi ?_ ?_)
 .intro _;exact Xi _ (Yi (.refl _) (Yi er (Xi d (Yi rfl (fun t ht=>by simp_all)))))
 intro h4;have h4:¬k<0:=h4;refine Yi ?_ ?_
 .intro _;exact Xi _ (Yi (.refl _) (Yi er (Xi d (Yi rfl (fun t ht=>by simp_all)))))
 intro h5;have h5:¬3<k:=h5;omega
theorem Me{l:List Rq}(h:Bu l=0):l.length<=16:=by
 grind [Bu]
theorem I3{x:List Rl}(h:AX x=0):x.length<=256/\∀r∈x,r.reqs.length<=16:=by
 have h1:x.length<=256:=by
  grind [AX]
 exact⟨h1,fun r hr=>Me ((BY h).1 r hr).reqs⟩
theorem iu{x:List Rl}(h:∀r∈x,r.reqs.length<=16):((x.map (·.reqs)).flatten).length<=x.length*16:=by
 induction x<;>grind
theorem NP{x:List Rl}{roots:List Rq}(h1:AX x=0)(h2:Bu roots=0)(h3:l.length<=65536):(Hu x roots l).length<=100000:=by
 grind [I3,iu,Me,Hu]
theorem Rh.fewI{U:List ByteArray}{t:List Tm}(h:Rh U t)(hu:U.length<=100000):cZ t:=
 ⟨by have:=h.len;omega,fun u hu=>RD (h.1.canon u hu)⟩
abbrev bv(l:List Nf):AV:=
 if(CK x roots l).2=0 then .tup [.cptr (Ck x (.slice .none ifs) roots (CK x roots l).1),vi 0]else .tup [.v (.pointer none),vi (CK x roots l).2]
theorem Mq{x:List Rl}{ifs:List (List AV)}{roots:List Rq}{e:Int}{d:List (List Tm)}(h:CK x roots l=(d,e))(he:e≠0):AV.tup [.v (.pointer none),vi e]=bv x ifs roots l:=by
 grind
theorem gZ{x:List Rl}{ifs:List (List AV)}{roots:List Rq}{d:List (List Tm)}(h:CK x roots l=(d,0)):AV.tup [.cptr (Ck x (.slice .none ifs) roots d),vi 0]=bv x ifs roots l:=by
 grind
theorem l7{x:List Rl}{roots:List Rq}{d:List (List Tm)}(h:i<l.length)(hg:BP x roots (l.take i) []=some d) :
  BP x roots (l.take (i+1)) []=match BA x roots d l[i]with | none=>none | some t=>some (d++[t]):=by
 grind [List.take_add_one,BP,EW]
theorem l6{x:List Rl}{roots:List Rq}(h:BP x roots (l.take i) []=none):BP x roots l []=none:=by
 grind [List.take_append_drop,EW]
abbrev zP:Nm:=⟨[],[],[],[],[25],[],[],[(26,(25,3,901,1))],[],[],[3,5,9]⟩
theorem c36(l:List Nf)(hx:∀r∈x,IX r)(hr:∀q∈roots,Jz q)(mc:AX x=0->lp x ifs roots):PC 106 [.agg (Ic x ifs),sl Af roots,sl AR l] (bv x ifs roots l):=by
 have ed:CK x roots l=if AX x≠0\/Bu roots≠0 then([],(1:Int))else if 65536<l.length then([],(7:Int))else match BP x roots l []with | none=>([],(18:Int)) | some d=>(d,(0:Int)):=rfl
 refine Ps zP Tryz.func106 rfl (Nz rfl) (yN (Xi .pure (Xi _ (Yi (sD Uh x ifs hx) (Yi ?_ ?_)))))
 .intro h;exact .of_eq (Mq (by rw[ed,As (.inl h)]) aa2)
 intro h1;refine Xi .pure (Xi _ (Yi (vQ Uh roots hr) (Yi ?_ ?_)))
 .intro h;exact .of_eq (Mq (by rw[ed,As (.inr h)]) aa2)
 intro h2;have e1:=FZ h1;have e2:=FZ h2;refine cU [(1,sl Af roots),(2,sl AR l),(3,.ref 3 0)] [(3,.cells (Ic x ifs))] Z3 Z1 (Yi ?_ ?_)
 .intro h;exact .of_eq (Mq (by rw[ed,AB B0,As aa1]) aa2)
 intro h;have h3:l.length<=65536:=aa1
 have ed2:CK x roots l=match BP x roots l []with | none=>([],(18:Int)) | some d=>(d,(0:Int)):=aa1
 have hU:=NP (x:=x) (roots:=roots) (l:=l) e1 e2 h3;have yJ:=I3 e1;refine cU [(1,sl Af roots),(2,sl AR l),(3,.ref 3 0)] [(3,.cells (Ic x ifs))] Z3 Z1 (yN (Xi {p:Nat×List (List Tm) // p.1<=l.length/\BP x roots (l.take p.1) []=some p.2/\p.2.length=p.1/\∀t∈p.2,Rh (Hu x roots l) t} (Xi (fun p=>⟨[(8,.ref 25 0),(26,sl AR l),(27,vi (l.map AR).length),(28,vi p.1.1)],[(25,.cells [sl At x,.slice .none ifs,sl Af roots,.slice (.id 901 1) (p.1.2.map AD)]),(901,.tok 1 (p.1.2.map AD).length)],Ad⟩) (Xi (fun p=>l.length-p.1.1) (Yi (Xi ⟨(0,[]),Ao _,rfl,rfl,fun t ht=>by cases ht⟩ ?_) ?_)))))
 .exact⟨Z4,Z2,Fh,Tv⟩
 intro⟨⟨i,d⟩,i1,i2,i3,i4⟩;have i2:BP x roots (l.take i) []=some d:=i2;have i3:d.length=i:=i3;have i4:∀t∈d,Rh (Hu x roots l) t:=i4;refine Yi ?_ ?_
 .intro h;have h:(i:Int)<(l.map AR).length:=h;have h:i<l.length:=Wk
  have hg:l[i]?=some l[i]:=Ge h;refine Xi (AR l[i]) (Yi (Yi B0 Wk) (Yi rfl ?_));refine Yi (Nz rfl) (yN (cU [(8,.ref 25 0),(10,.ref 10 0),(26,sl AR l),(27,vi (l.map AR).length),(28,vi i)] [(10,.cells (AR l[i])),(25,.cells [sl At x,.slice .none ifs,sl Af roots,.slice (.id 901 1) (d.map AD)]),(901,.tok 1 (d.map AD).length)] Z5 Z3 (yN ?_)));have Cj:=c66 x ifs roots d l[i] B0 (fun q hq=>(hr q hq).1) B0 (fun r Wg q hq=>((hx r Wg).2 q hq).1) (mc e1) (fun t ht=>(i4 t ht).fewI hU);have yO:=l7 h i2;cases XN:BA x roots d l[i]with
  |none=>
   refine Xi (.gen [(25,1000),(901,1001)] 0) (Yi rfl (Cj.imp ?_));intro v g q;have q1:v=vb false:=Wk
   refine A1 q.2 (fun d' q2=>?_);have q8:=q2.1;subst q1;subst q8;rw[XN]at yO;have hn:BP x roots l []=none:=l6 yO;exact .of_eq (Mq (by rw[ed2,hn]) aa2)
  |some t=>
   refine Xi (.gen [(25,1000),(901,1001)] 0) (Yi rfl (Cj.imp ?_));intro v g q;have q1:v=vb true:=Wk
   refine A1 q.2 (fun d' q2=>?_);have q8:=q2.1;have wI:=q2.2 t XN;subst q1;subst q8;rw[XN]at yO;refine Yi (Ii i B0) ?_;have qr:=PI (Am h) i4 XN;refine Xi ⟨(i+1,d'),by omega,by simp_all,by simp_all,fun u hu=>?_⟩ ?_
   .grind
   .exact⟨Dl l.length i B0,Z4,Z2,Fh,Tv⟩
 .intro h;have h:¬(i:Int)<(l.map AR).length:=h;have h:¬i<l.length:=Wk
  have hn:BP x roots l []=some d:=aa1
  exact .of_eq (gZ Wk)
theorem ZS{x:List Rl}{roots:List Rq}:(CK x roots l).1.length<=65536:=by
 grind [CK,He,List.length_nil]
abbrev PK:AV:=.agg (Ic x ifs)
abbrev NW:Er:=⟨true,[.str,.int .i64,.int .i64,.int .i64]⟩
abbrev U7:Value:=.agg #[.string y.path,.int .i64 y.ver.a,.int .i64 y.ver.b,.int .i64 y.ver.c]
abbrev NG:Value×AV:=(U7 (DJ r),.agg (At r))
def AN:List Rl->List ByteArray->List ByteArray
 | [],acc=>acc
 |r::x,acc=>AN x (if acc.any (fun p=>decide (p=r.path))then acc else acc++[r.path])
abbrev eU:Value×AV:=(.string p,sl At (x.filter fun r=>decide (r.path=p)))
abbrev rn:AV:=if AX x=0 then .tup [.agg [.cmap NW (x.map NG),.cmap Cc ((AN x []).map (eU x))],vi 0]else .tup [.agg [.cmap NW [],.cmap Cc []],vi (AX x)]
abbrev gx:Prop:=PC 51 [PK x ifs] (rn x)
theorem xT:PC 86 [.agg gw] (.agg gw):=by
 refine Ps Ea Tryz.func86 rfl (Nz rfl) (yN (Xi Unit (Xi (fun _=>⟨[(1,.ref 1 0),(2,.ref 2 0),(10,vi 0),(11,vi 0)],[(1,.cells gw),(2,.cells gw)],Ad⟩) (Xi (fun _=>0) (Yi (Xi () ?_) ?_)))))
 .exact⟨Z4,Z2,Fh,Tv⟩
 intro _;refine Yi ?_ ?_
 .intro h;exact absurd (show(0:Int)<0 from h) aa2
 .intro _;refine Yi (Nz rfl) (Yi (Nz rfl) (yN ?_));exact .refl _
theorem mP{y z:Sl}(h:U7 y=U7 z):y=z:=by
 obtain⟨p,⟨a,b,c⟩⟩:=y<;>simp_all
theorem Wq{x:List Rl}{y:Sl}(h:(U7 y,a)∈x.map NG):∃r∈x,DJ r=y/\a=.agg (At r):=by
 grind [mP]
theorem Xy{x:List Rl}(hx:AX x=0){r:Rl}(hr:r∈x):BL x (DJ r)=some r:=by
 unfold BL;rw[AB B0];cases h:x.find? (fun s=>decide (DJ s=DJ r))with
 |none=>
  grind
 |some s=>
  have h1:=FW h;simp only[AQ]at h1;have hs:=B9 h;have hp:=(BY hx).2
  grind [List.mem_iff_getElem,List.pairwise_iff_getElem,NK]
theorem xO(v:Ver)(SJ:gx x ifs)(hx:∀r∈x,IX r):PC 40 [PK x ifs,vs p,.agg (Il v)] (M9 (BL x ⟨p,v⟩)):=by
 have hz:=xT
 by_cases h0:AX x=0
 .have SJ:PC 51 [PK x ifs] (.tup [.agg [.cmap NW (x.map NG),.cmap Cc ((AN x []).map (eU x))],vi 0]):=by
   grind
  refine Ps (Eu []) Tryz.func40 rfl (Nz rfl) (yN (Xi .pure (Xi _ (Yi (SJ) (yN (yN (Yi ?_ ?_)))))))
  .intro a ha;refine A1 (Wq (y:=⟨p,v⟩) ha) (fun r hr=>?_);have e:=hr.2.2;subst e;have hf:BL x ⟨p,v⟩=some r:=by grind [Xy]
   have mH:=(I3 h0).2 r hr.1;have hc:=c98 r B0 (fun q hq=>((hx r hr.1).2 q hq).1);refine yN (yN (Xi .pure (Xi _ (Yi (hc) (Yi (Nz rfl) (yN ?_))))));exact .of_eq (show AV.tup [.agg (At r),vb true]=M9 (BL x ⟨p,v⟩) by rw[hf])
  .intro hn;have hf:BL x ⟨p,v⟩=none:=by
    cases h:BL x ⟨p,v⟩with
    |none=>rfl
    |some r=>
     obtain⟨_,h2,h3⟩:=EE h;exact absurd (Ar.2 ⟨r,h2,by simp_all⟩) (hn (.agg (At r)))
   refine yN (yN (Xi .pure (Xi _ (Yi (hz) (Yi (Nz rfl) (yN ?_))))));exact .of_eq (show AV.tup [.agg gw,vb false]=M9 (BL x ⟨p,v⟩) by rw[hf])
 .have SJ:PC 51 [PK x ifs] (.tup [.agg [.cmap NW [],.cmap Cc []],vi (AX x)]):=by
   grind
  have hf:BL x ⟨p,v⟩=none:=by grind [BL]
  refine Ps (Eu []) Tryz.func40 rfl (Nz rfl) (yN (Xi .pure (Xi _ (Yi (SJ) (yN (yN (Yi ?_ ?_)))))))
  .intro a ha;cases ha
  .intro _;refine yN (yN (Xi .pure (Xi _ (Yi (hz) (Yi (Nz rfl) (yN ?_))))));exact .of_eq (show AV.tup [.agg gw,vb false]=M9 (BL x ⟨p,v⟩) by rw[hf])
abbrev El(l:List Rl):Ba:=(l.filter fun r=>!r.yanked).map fun r=>(plc r.ver,plc r.ver+1)
theorem bh(l:List Rl):(El l).length<=l.length:=by
 grind
theorem gI{acc:List ByteArray}{p:ByteArray}:(acc.any fun q=>decide (q=p))=true↔p∈acc:=by
 simp_all
theorem G2:∀(x:List Rl) (acc:List ByteArray) (p:ByteArray),p∈AN x acc↔p∈acc\/∃r∈x,r.path=p
 | [],acc,p=>by simp[AN]
 |r::x,acc,p=>by
  rw[AN,G2 x]
  grind
abbrev pd:Nm:=(pT [] [(7,2)] [])
theorem UD(L:List Rl)(i:Nat)(h:i<L.length):El (L.take (i+1))=El (L.take i)++(if L[i].yanked then []else [(plc L[i].ver,plc L[i].ver+1)]):=by
 unfold El;rw[CE,Ge h,NY,AG]
 grind
theorem sv(SJ:gx x ifs):PC 147 [PK x ifs,vs p] (sl Ap (BC x p)):=by
 by_cases h0:AX x=0
 .have SJ:PC 51 [PK x ifs] (.tup [.agg [.cmap NW (x.map NG),.cmap Cc ((AN x []).map (eU x))],vi 0]):=by
   grind
  have Wh:=(I3 h0).1;obtain⟨L,hLd⟩:∃L,L=x.filter fun r=>decide (r.path=p):=⟨_,rfl⟩;have hL:KJ x p=L:=by grind [KJ]
  have hLl:L.length<=256:=aa1
  refine Ps pd Tryz.func147 rfl (Nz rfl) (yN (Xi .pure (Xi _ (Yi (SJ) (yN (Yi ?_ ?_))))))
  .intro a ha;have ea:a=sl At L:=aa1
   subst ea;refine Xi {i:Nat // i<=L.length} (Xi (fun i=>⟨[(7,.slice (.id 7 2) ((El (L.take i.1)).map Ap)),(18,sl At L),(19,vi (L.map At).length),(20,vi i.1)],[(7,.tok 2 ((El (L.take i.1)).map Ap).length)],Ad⟩) (Xi (fun i=>L.length-i.1) (Yi (Xi ⟨0,Ao _⟩ ?_) ?_)))
   .exact⟨Z4,Z1,Fh,Tv⟩
   intro⟨i,i1⟩;have JZ:=bh (L.take i);rw[Bv]at JZ;refine Yi ?_ ?_
   .intro h;have h:i<L.length:=Wk
    have hg:L[i]?=some L[i]:=Ge h;refine Xi (At L[i]) (Yi (Yi B0 Wk) (Yi rfl ?_));refine Yi (Nz rfl) (yN (Yi ?_ ?_))
    .intro hy;refine Yi (by grind [A8]) ?_;have es:El (L.take (i+1))=El (L.take i):=by rw[UD L i h,hy];simp
     have e1:AV.slice (.id 7 2) ((El (L.take i)).map Ap)=.slice (.id 7 2) ((El (L.take (i+1))).map Ap):=by rw[es]
     have e2:HO.tok 2 ((El (L.take i)).map Ap).length=.tok 2 ((El (L.take (i+1))).map Ap).length:=by rw[es]
     refine Xi ⟨i+1,by omega⟩ ?_;exact⟨by grind,⟨⟨e1,rfl⟩,Zr,Zr,Zr,Tv⟩,⟨⟨e2,rfl⟩,Tv⟩,Fh,Tv⟩
    .intro hy;have wm:=cB L[i].ver;refine yN (Xi _ (Yi (xQ L[i]) (yN (Xi _ (Yi (xQ L[i]) (Yi (by grind [A8]) ?_))))));have DG:BX 2 [[vi (plc L[i].ver),vi (plc L[i].ver+1)]]/\((El (L.take i)).map Ap).length=((El (L.take i)).map Ap).length/\(((El (L.take i)).map Ap).length+[[vi (plc L[i].ver),vi (plc L[i].ver+1)]].length)*16<=140737488355328/\((El (L.take i)).map Ap).length+[[vi (plc L[i].ver),vi (plc L[i].ver+1)]].length<=9223372036854775807:=
      ⟨⟨rfl,trivial⟩,rfl,by grind,by grind⟩
     refine Yi DG (Yi aa3 (Yi (by grind [A8]) ?_));have es:El (L.take (i+1))=El (L.take i)++[(plc L[i].ver,plc L[i].ver+1)]:=by rw[UD L i h,hy];simp
     have e1:AV.slice (.id 7 2) ((El (L.take i)).map Ap++[[vi (plc L[i].ver),vi (plc L[i].ver+1)]])=.slice (.id 7 2) ((El (L.take (i+1))).map Ap):=Wk
     have e2:HO.tok 2 (((El (L.take i)).map Ap).length+[[vi (plc L[i].ver),vi (plc L[i].ver+1)]].length)=.tok 2 ((El (L.take (i+1))).map Ap).length:=Wk
     refine Xi ⟨i+1,by omega⟩ ?_;exact⟨by grind,⟨⟨e1,rfl⟩,Zr,Zr,Zr,Tv⟩,⟨⟨e2,rfl⟩,Tv⟩,Fh,Tv⟩
   .intro h;have h:¬i<L.length:=Wk
    have et:L.take i=L:=Bj B0;have hc:PC 221 [sl Ap (El (L.take i))] (sl Ap (canon (El (L.take i)))):=Xb _ B0;refine Xi .pure (Xi _ (Yi (hc) ?_));exact .of_eq (show sl Ap (canon (El (L.take i)))=sl Ap (BC x p) by grind [BC])
  .intro hn;have hL:KJ x p=[]:=by
    rw[hL,hLd,JL];intro r hr he;have he:=BR he;exact hn _ (Ar.2 ⟨p,(G2 x [] p).2 (.inr ⟨r,hr,he⟩),rfl⟩)
   refine Xi Unit (Xi (fun _=>⟨[(7,.slice (.id 7 2) []),(19,vi 0),(20,vi 0)],[(7,.tok 2 0)],Ad⟩) (Xi (fun _=>0) (Yi (Xi () ?_) ?_)))
   .exact⟨Z3,Z1,Fh,Tv⟩
   intro _;refine Yi ?_ ?_
   .intro h;exact absurd (show(0:Int)<0 from h) aa2
   intro _;have hc:PC 221 [sl Ap []] (sl Ap (canon [])):=Xb [] Wk;refine Xi .pure (Xi _ (Yi (hc) ?_));exact .of_eq (show sl Ap (canon [])=sl Ap (BC x p) by grind [BC])
 .have SJ:PC 51 [PK x ifs] (.tup [.agg [.cmap NW [],.cmap Cc []],vi (AX x)]):=by
   grind
  have hL:KJ x p=[]:=by grind [KJ]
  refine Ps pd Tryz.func147 rfl (Nz rfl) (yN (Xi .pure (Xi _ (Yi (SJ) (yN (Yi ?_ ?_))))))
  .intro a ha;cases ha
  .intro _;refine Xi Unit (Xi (fun _=>⟨[(7,.slice (.id 7 2) []),(19,vi 0),(20,vi 0)],[(7,.tok 2 0)],Ad⟩) (Xi (fun _=>0) (Yi (Xi () ?_) ?_)))
   .exact⟨Z3,Z1,Fh,Tv⟩
   intro _;refine Yi ?_ ?_
   .intro h;exact absurd (show(0:Int)<0 from h) aa2
   intro _;have hc:PC 221 [sl Ap []] (sl Ap (canon [])):=Xb [] Wk;refine Xi .pure (Xi _ (Yi (hc) ?_));exact .of_eq (show sl Ap (canon [])=sl Ap (BC x p) by grind [BC])
theorem Nq:Cz (BC x p):=by
 grind [BC,HG,B6]
theorem xt(SJ:gx x ifs):lp x ifs roots:=by
 intro d i;have h1:=sv x ifs i.path SJ;have h2:=pP i.path (BC x i.path) (Nq x i.path);refine Bm (IF (Eu [2])) [(1000,1000),(1001,1001)] rfl BB hm rfl Tryz.func319 aa3 rfl (Nz rfl) aa3 rfl (yN (Xi _ (Yi (h1) (Xi _ (Yi (h2) (Yi aa3 (cU [(6,sl Az (E3 i.path (BC x i.path)))] [(1000,Ik x ifs roots d),(1001,Ir d)] Z1 Z2 (Yi ?_ ?_))))))))
 .intro h3;have h3:(0:Int)<((E3 i.path (BC x i.path)).map Az).length:=h3;have e:AV.tup [sl Az (E3 i.path (BC x i.path)),vb true]=Lj (ne0 (E3 i.path (BC x i.path))):=Yh h3;exact Xi _ (Yi (.refl _) (Yi e rfl))
 .intro h3;have h3:¬(0:Int)<((E3 i.path (BC x i.path)).map Az).length:=h3;have e:AV.tup [sl Az (E3 i.path (BC x i.path)),vb false]=Lj (ne0 (E3 i.path (BC x i.path))):=cn h3;exact Xi _ (Yi (.refl _) (Yi e rfl))
theorem c77:PC 184 [.agg (Al y),.cptr (Af q)] (vb (decide (y.path=q.path))):=by
 refine Ps Ea Tryz.func184 rfl (Nz rfl) (Yi ?_ ?_)
 .intro h;have h:y.path=q.path:=h;exact .of_eq (Ab vb (Ay h).symm)
 .intro h;have h:¬y.path=q.path:=h;exact .of_eq (Ab vb (Au h).symm)
theorem c79:PC 186 [.agg (Al y),.cptr [vs p]] (vb (decide (y.path=p))):=by
 refine Ps Ea Tryz.func186 rfl (Nz rfl) (Yi ?_ ?_)
 .intro h;have h:y.path=p:=h;exact .of_eq (Ab vb (Ay h).symm)
 .intro h;have h:¬y.path=p:=h;exact .of_eq (Ab vb (Au h).symm)
theorem c90(hq:Cz q.set):PC 187 [.agg (Af q),.cptr (At r),.cptr [vi pl]] (vb (decide (q.path=r.path)&&!has q.set pl)):=by
 have hc:=pZ q.set pl hq;cases hh:has q.set pl with
 |true=>
  rw[hh]at hc;refine Ps Ea Tryz.func187 rfl (Nz rfl) (Yi ?_ ?_)
  .intro h;have h:q.path=r.path:=h;refine Xi .pure (Xi _ (Yi (hc) ?_));exact .of_eq (Ab vb (show false=(decide (q.path=r.path)&&!true) by simp_all))
  .intro h;have h:¬q.path=r.path:=h;exact .of_eq (Ab vb (show false=(decide (q.path=r.path)&&!true) by simp_all))
 |false=>
  rw[hh]at hc;refine Ps Ea Tryz.func187 rfl (Nz rfl) (Yi ?_ ?_)
  .intro h;have h:q.path=r.path:=h;refine Xi .pure (Xi _ (Yi (hc) ?_));exact .of_eq (Ab vb (show true=(decide (q.path=r.path)&&!false) by simp_all))
  .intro h;have h:¬q.path=r.path:=h;exact .of_eq (Ab vb (show false=(decide (q.path=r.path)&&!false) by simp_all))
abbrev fX:AV:=if C3 s=false then .tup [sl At [],vi 1]else match JG x s with
 |none=>.tup [sl At [],vi 6]
 |some l=>.tup [sl At l,vi 0]
abbrev zS:Nm:=(pT [] [(7,9)] [7,11,13])
theorem uw(e:Int):DW (.tup [nzA,vi e]) (.tup [.slice .none [],vi e]):=DW.tup ⟨.nil,.refl _,trivial⟩
theorem c85(P:List (Value×AV))(h0:AX x=0)(hs:Cz s):PC 52 [.agg [.cmap NW (x.map NG),.cmap Cc P],sl Al s] (fX x s):=by
 unfold Cz at hs;refine Ps zS Tryz.func52 rfl (Nz rfl) ?_;refine Xi {i:Nat // 1<=i/\(s=[]\/i<=s.length)/\C3 s=(match s[i-1]? with | none=>true | some y=>LU (some y.path) (s.drop i))} (Xi (fun i=>⟨[(1,sl Al s),(2,.ref 2 0),(6,vi i.1)],[(2,.cells [.cmap NW (x.map NG),.cmap Cc P])],Ad⟩) (Xi (fun i=>s.length-i.1) (Yi (Xi ⟨1,Ai _,by grind,by cases s<;>rfl⟩ ?_) ?_)))
 .exact⟨Z3,Z1,Fh,Tv⟩
 intro⟨i,h1,h2,h3⟩;refine Yi ?_ ?_
 .intro h;have h:i<s.length:=Wk
  have hg:s[i]?=some s[i]:=Ge h;have h' : i-1<s.length:=B0
  have yL : s[i-1]?=some s[i-1]:=Ge h';have e1:((i:Int)-1).toNat=i-1:=B0
  have oW:C3 s=(E0 s[i-1].path s[i].path&&LU (some s[i].path) (s.drop (i+1))):=by
   grind [jg]
  refine Yi (by grind [A8]) (Xi (Al s[i-1]) (Yi (Yi aa1 Wk) (Yi rfl ?_)));refine Xi (Al s[i]) (Yi (Yi B0 Wk) (Yi rfl ?_));refine Yi ?_ ?_
  .intro h4;rw[<-Gw]at h4;refine Yi aa3 ?_;have e:AV.tup [.slice .none [],vi 1]=fX x s:=aa1
   exact(uw 1).trans (.of_eq e)
  .intro h4;rw[<-Gw,Bool.not_eq_false]at h4;refine Yi aa3 (Yi (by grind [A8]) (Xi ⟨i+1,by omega,.inr B0,by simp_all⟩ ?_));exact⟨Dl s.length i B0,Z3,Z1,Fh,Tv⟩
 intro h;have h:¬i<s.length:=Wk
 have AdG:C3 s=true:=by
  rcases h2 with h2 | h2
  .grind
  .have e:i=s.length:=B0
   rw[h3,e,List.drop_length];cases s[s.length-1]?<;>rfl
 have es:fX x s=match JG x s with
  |none=>.tup [sl At [],vi 6]
  |some l=>.tup [sl At l,vi 0]:=Wk
 refine cU [(1,sl Al s),(2,.ref 2 0),(7,.slice (.id 7 9) [])] [(2,.cells [.cmap NW (x.map NG),.cmap Cc P]),(7,.tok 9 0)] Z3 Z2 (Xi {p:Nat×List Rl // p.1<=s.length/\p.2.length=p.1/\JG x s=(JG x (s.drop p.1)).map (p.2++·)} (Xi (fun p=>⟨[(2,.ref 2 0),(7,.slice (.id 7 9) (p.1.2.map At)),(30,sl Al s),(31,vi (s.map Al).length),(32,vi p.1.1)],[(2,.cells [.cmap NW (x.map NG),.cmap Cc P]),(7,.tok 9 (p.1.2.map At).length)],Ad⟩) (Xi (fun p=>s.length-p.1.1) (Yi (Xi ⟨(0,[]),Ao _,rfl,by simp_all⟩ ?_) ?_))))
 .exact⟨Z5,Z2,Fh,Tv⟩
 intro⟨⟨j,l⟩,j1,j2,j3⟩;refine Yi ?_ ?_
 .intro hj;have hj:j<s.length:=Wk
  have hg:s[j]?=some s[j]:=Ge hj;have hd:s.drop j=s[j]::s.drop (j+1):=Bh hj;refine Xi (Al s[j]) (Yi (Yi B0 aa1) (Yi rfl (Yi (Nz rfl) (yN (yN (Yi ?_ ?_))))))
  .intro a ha;refine A1 (Wq (y:=s[j]) ha) (fun r hr=>?_);have e:=hr.2.2;subst e;have hf:BL x s[j]=some r:=by grind [Xy]
   have j4:JG x s=(JG x (s.drop (j+1))).map ((l++[r])++·):=by
    rw[j3,hd,JG,hf]
    grind
   refine yN (cU [(2,.ref 2 0),(7,.slice (.id 7 9) (l.map At)),(10,.ref 10 0),(11,vb true),(30,sl Al s),(31,vi (s.map Al).length),(32,vi j)] [(2,.cells [.cmap NW (x.map NG),.cmap Cc P]),(7,.tok 9 (l.map At).length),(10,.cells (At r))] Z7 Z3 (cU [(2,.ref 2 0),(7,.slice (.id 7 9) (l.map At)),(10,.ref 10 0),(30,sl Al s),(31,vi (s.map Al).length),(32,vi j)] [(2,.cells [.cmap NW (x.map NG),.cmap Cc P]),(7,.tok 9 (l.map At).length),(10,.cells (At r))] Z6 Z3 (yN ?_)));have DG:BX 9 [At r]/\(l.map At).length=(l.map At).length/\((l.map At).length+[At r].length)*120<=140737488355328/\(l.map At).length+[At r].length<=9223372036854775807:=
    ⟨⟨rfl,trivial⟩,rfl,by grind,by grind⟩
   refine Yi DG (Yi (Ii j B0) ?_);have e1:AV.slice (.id 7 9) (l.map At++[At r])=.slice (.id 7 9) ((l++[r]).map At):=aa1
   have e2:HO.tok 9 ((l.map At).length+[At r].length)=.tok 9 ((l++[r]).map At).length:=aa1
   refine Xi ⟨(j+1,l++[r]),by omega,by grind,j4⟩ ?_;exact⟨by grind,⟨Zr,⟨e1,rfl⟩,Zr,Zr,Zr,Tv⟩,⟨Zr,⟨e2,rfl⟩,Tv⟩,Fh,Tv⟩
  .intro hn;have hf:BL x s[j]=none:=by
    cases h:BL x s[j]with
    |none=>rfl
    |some r=>
     obtain⟨_,h2,h3⟩:=EE h;exact absurd (Ar.2 ⟨r,h2,by grind⟩) (hn (.agg (At r)))
   have j4:JG x s=none:=by grind [JG]
   refine yN (cU [(11,vb false)] [] Z1 Tv ?_)
   have e:AV.tup [.slice .none [],vi 6]=fX x s:=aa1
   exact(uw 6).trans (.of_eq e)
 .intro hj;have hj:¬j<s.length:=Wk
  have j4:JG x s=some l:=by grind [JG]
  have e:AV.tup [sl At l,vi 0]=fX x s:=Wk
  exact .of_eq e
abbrev L0:Value×AV:=(.string r.path,.agg (At r))
theorem RJ{m:List Rl}{p:ByteArray}(h:(Value.string p,a)∈m.map L0):∃r∈m,r.path=p/\a=.agg (At r):=by
 grind
theorem JX:∀{m:List Rl},(m.map (·.path)).Nodup->∀{r:Rl},r∈m->m.find? (fun s=>decide (s.path=r.path))=some r
 |a::m,hn,r,hr=>by
  rw[Bb,FY]at hn;rw[Fb];rcases AM.1 hr with rfl | hr
  .simp
  .have:¬a.path=r.path:=fun e=>hn.1 (Ar.2 ⟨r,hr,e.symm⟩)
   rw[Au this];exact JX hn.2 hr
theorem c86(m:List Rl)(hn:(m.map (·.path)).Nodup)(q:Rq)(hq:Cz q.set):PC 53 [.agg (Af q),.cptr [.cmap Cc (m.map L0)]] (vb (Dk m q)):=by
 refine Ps (Eu [2]) Tryz.func53 rfl (Nz rfl) (Yi ?_ ?_)
 .intro a ha;refine A1 (RJ ha) (fun r hr=>?_);have e:=hr.2.2;subst e;have hf:m.find? (fun s=>decide (s.path=q.path))=some r:=by grind [JX]
  have hb:Dk m q=!has q.set (plc r.ver):=by grind [Dk]
  have hc:=pZ q.set (plc r.ver) hq;refine yN (cU [(2,.ref 2 0),(4,.ref 4 0),(5,vb true)] [(2,.cells (Af q)),(4,.cells (At r))] Z3 Z2 (yN (Xi _ (Yi (xQ r) (BK (Bt (has q.set (plc r.ver))) (fun e=>?_) (fun e=>?_))))))
  .rw[e]at hc;refine Xi _ (Yi (hc) (Yi aa3 ?_));exact .of_eq (Ab vb (show false=Dk m q by simp_all))
  .rw[e]at hc;refine Xi _ (Yi (hc) (Yi aa3 ?_));exact .of_eq (Ab vb (show true=Dk m q by simp_all))
 .intro OF;have hf:m.find? (fun s=>decide (s.path=q.path))=none:=by
   rw[NZ];intro r hr he;have he:=BR he;exact OF _ (Ar.2 ⟨r,hr,by rw[<-he]⟩)
  have hb:Dk m q=true:=by grind [Dk]
  refine yN (cU [(2,.ref 2 0),(4,.ref 4 0),(5,vb false)] [(2,.cells (Af q)),(4,.cells gw)] Z3 Z2 (Yi aa3 ?_));exact .of_eq (Ab vb hb.symm)
def KQ:Bool:=decide (q.path.size<=100)&&decide (q.set.length<=8)
def D8(l:List Rq):Bool:=l.all KQ&&decide (l.length<=20)
theorem c35(l:List Rq)(hl:Cz l):PC 37 [sl Af l] (vb (D8 l)):=by
 unfold Cz at hl;refine Ps Ea Tryz.func37 rfl (Nz rfl) (Xi {i:Nat // i<=l.length/\∀j (hj:j<l.length),j<i->KQ l[j]=true} (Xi (fun i=>⟨[(0,sl Af l),(3,vi i.1)],[],Ad⟩) (Xi (fun i=>l.length-i.1) (Yi (Xi ⟨0,Ao _,fun j _ h=>by omega⟩ ?_) ?_))))
 .exact⟨Z2,Tv,Fh,Tv⟩
 intro⟨i,h1,h2⟩;refine Yi ?_ ?_
 .intro h;have h:i<l.length:=Wk
  have hg:l[i]?=some l[i]:=Ge h;have no:KQ l[i]=false->false=D8 l:=fun e=>by
   grind [D8]
  refine Xi (Af l[i]) (Yi (Yi B0 Wk) (Yi rfl ?_));refine Yi ?_ ?_
  .intro h3;exact .of_eq (Ab vb (no (by grind [KQ])))
  intro h3;refine Xi (Af l[i]) (Yi (Yi B0 Wk) (Yi rfl ?_));refine Yi ?_ ?_
  .intro h4;rw[Lm]at h4;exact .of_eq (Ab vb (no (by grind [KQ])))
  intro h4;have h5:l[i].set.length<=8:=aa1
  refine Yi (by grind [A8]) (Xi ⟨i+1,by omega,fun j hj JY=>?_⟩ ?_)
  .grind [KQ]
  .exact⟨Dl l.length i B0,Z2,Tv,Fh,Tv⟩
 .intro h;have h:¬i<l.length:=Wk
  have ha:l.all KQ=true:=A9.2 fun q hq=>by
   grind [List.getElem_of_mem]
  refine Yi ?_ ?_
  .intro h3;rw[Lm]at h3;exact .of_eq (Ab vb (show true=D8 l by grind [D8]))
  .intro h3;rw[Lm]at h3;exact .of_eq (Ab vb (show false=D8 l by grind [D8]))
def rm:Bool:=decide (r.path.size<=100)&&decide (r.arch.size<=100)&&decide (r.ifc.size<=100)&&decide (r.cert.size<=100)&&D8 r.reqs
def Qi(n:Nat):Bool:=x.all rm&&decide (x.length<=n)
abbrev vM:Prop:=PC 21 [PK x ifs,sl Af roots,sl Al s] (vi (GM x roots s))
theorem Uw{n:Nat}:∀{l:List (List AV)},(∀c∈l,c.length=n)->BX n l
 | [],_=>trivial
 |c::_,h=>⟨h c (Ae ..),Uw fun d hd=>h d (Ah _ hd)⟩
abbrev ki(s:Ba)(k:Nat):List (List AV):=((s.map Ap).take (((s.map Ap).length:Nat):Int).toNat).drop ((k:Nat):Int).toNat
abbrev iU(s:Ba)(k:Nat):List (List AV):=((s.map Ap).take ((k:Nat):Int).toNat).drop ((0:Int)).toNat
theorem ot(s:Ba)(x:Int×Int)(k:Nat)(hk:k<=s.length)(h:s.length<=1073741824):BX 2 ([Ap x]++ki s k)/\(iU s k).length=((k:Nat):Int).toNat-((0:Int)).toNat/\((iU s k).length+([Ap x]++ki s k).length)*16<=140737488355328/\(iU s k).length+([Ap x]++ki s k).length<=9223372036854775807:=by
 grind [Uw]
end Go.Eng
