/- Lemmas for the claims of this seat, without a condition: part 29 (V8, V9, V10, V11, V4). -/
import Derived.Test.YtddfphmpfnmknaaGreatDoorA28
set_option maxHeartbeats 4000000
namespace Go.Eng
open Go.Proofs
def Tx(y:Bool)(p:Sl→Bool)(r:Rl):Rl:=if p (Dn r)=true then { r with yanked:=y }else r
theorem Qw{α β:Type}{f:α→β}{N:List α}{i:Nat}{r:α}(h:N[i]?=some r):N.map f=(N.set i r).map f:=by
 obtain⟨hi,rfl⟩:=Ap.1 h;rw[List.set_getElem_self]
theorem QP(r:Rl):PC 40 [.agg (Ag r)] (.agg (Af (Dn r))):=by
 refine Ps ⟨[],[],[],[],[],[],[],[],[],[],[]⟩ Tryz.func40 rfl (Nz rfl) ?_;refine Yi (Nz rfl) ?_;refine Yi (Nz rfl) ?_;refine Yi (Nz rfl) ?_;exact .refl _
theorem nK(N:List Rl)(i:Nat)(r:Rl)(s:Sl)(a b:Bool)(gi:N[i]?=some r)(hs:Dn r=s):A3 Tryz.prog 56 [.eref 1000 N.length 9 i 0,.cptr (Af s),.cptr [vb true],.ref 1001 0,.ref 1002 0] (Aj [(1000,.arr 9 (N.map Ag)),(1001,.cells [vb a]),(1002,.cells [vb b])] Aa) fun r' h'=>r'=.tup []∧h'=Aj [(1000,.arr 9 ((N.set i (Tx true (IG s) r)).map Ag)),(1001,.cells [vb (if Dn r=s then true else a)]),(1002,.cells [vb (if Dn r=s then decide (r.yanked=true)else b)])] Aa:=by
 refine BV (Ll ⟨[],[],[],[],[],[],[],[],[],[],[2]⟩) [(1000,1000),(1001,1001),(1002,1002)] rfl Cn hm rfl Tryz.func56 (by kernel_rfl) rfl (Nz rfl) (by kernel_rfl) rfl ?_;refine Yi (show N.length=(N.map Ag).length by simp) (Xi (Ag r) (Yi (Dp gi) ?_));refine Yi (Nz rfl) ?_;refine Xi _ (Yi (QP r) ?_);refine Yi (Nz rfl) ?_;refine Yi (fun h1=>?_) (fun h1=>?_)
 ·have h1:((Dn r).path:ByteArray)=s.path∧((Dn r).ver.a:Int)=s.ver.a∧((Dn r).ver.b:Int)=s.ver.b∧((Dn r).ver.c:Int)=s.ver.c∧True:=h1;refine Yi (by kernel_rfl) ?_;refine Yi (show N.length=(N.map Ag).length by simp) (Xi (Ag r) (Yi (Dp gi) ?_));refine Yi (fun h2=>?_) (fun h2=>?_)
  ·have h2:r.yanked=true:=h2;refine Yi (fun _=>?_) (fun h=>absurd h (by decide));refine Yi (Nz rfl) ?_;refine Yi (Nz rfl) ?_;refine Yi (by kernel_rfl) ?_;refine Xi ⟨[(0,.eref 1000 N.length 9 i 0),(2,.cptr [vb true])],[(1000,.arr 9 (N.map Ag)),(1001,.cells [vb true]),(1002,.cells [vb true])],Aa⟩ (Yi ⟨Z2,Z3,Fh,Aw (by kernel_rfl)⟩ ?_)
   refine Yi (fun _=>?_) (fun h=>absurd h (by decide));refine Yi (show N.length=(N.map Ag).length by simp) (Xi (Ag r) (Yi (Dp gi) (Yi (Nz rfl) ?_)));have e1:(if Dn r=s then true else a)=true:=Aq hs;have e2:(if Dn r=s then decide (r.yanked=true)else b)=true:=by rw[Aq hs,h2];rfl
   exact Xi _ (Yi (.refl _) ⟨rfl,show Aj [(1000,HO.arr 9 ((N.map Ag).set i [vs r.path,vi r.ver.a,vi r.ver.b,vi r.ver.c,sl AI r.reqs,vs r.arch,vs r.ifc,vs r.cert,vb true])),(1001,.cells [vb true]),(1002,.cells [vb true])] Aa=Aj [(1000,HO.arr 9 ((N.set i (Tx true (IG s) r)).map Ag)),(1001,.cells [vb (if Dn r=s then true else a)]),(1002,.cells [vb (if Dn r=s then decide (r.yanked=true)else b)])] Aa by rw[e1,e2,G7,Tx,Aq (AA hs)]⟩)
  have h2:r.yanked=false:=h2;refine Yi (fun _=>?_) (fun h=>absurd h (by decide));refine Yi (Nz rfl) ?_;refine Yi (Nz rfl) ?_;refine Yi (by kernel_rfl) ?_;refine Xi ⟨[(0,.eref 1000 N.length 9 i 0),(2,.cptr [vb true])],[(1000,.arr 9 (N.map Ag)),(1001,.cells [vb true]),(1002,.cells [vb false])],Aa⟩ (Yi ⟨Z2,Z3,Fh,Aw (by kernel_rfl)⟩ ?_)
  refine Yi (fun _=>?_) (fun h=>absurd h (by decide));refine Yi (show N.length=(N.map Ag).length by simp) (Xi (Ag r) (Yi (Dp gi) (Yi (Nz rfl) ?_)));have e1:(if Dn r=s then true else a)=true:=Aq hs;have e2:(if Dn r=s then decide (r.yanked=true)else b)=false:=by rw[Aq hs,h2];rfl
  exact Xi _ (Yi (.refl _) ⟨rfl,show Aj [(1000,HO.arr 9 ((N.map Ag).set i [vs r.path,vi r.ver.a,vi r.ver.b,vi r.ver.c,sl AI r.reqs,vs r.arch,vs r.ifc,vs r.cert,vb true])),(1001,.cells [vb true]),(1002,.cells [vb false])] Aa=Aj [(1000,HO.arr 9 ((N.set i (Tx true (IG s) r)).map Ag)),(1001,.cells [vb (if Dn r=s then true else a)]),(1002,.cells [vb (if Dn r=s then decide (r.yanked=true)else b)])] Aa by rw[e1,e2,G7,Tx,Aq (AA hs)]⟩)
 have h1:¬(((Dn r).path:ByteArray)=s.path∧((Dn r).ver.a:Int)=s.ver.a∧((Dn r).ver.b:Int)=s.ver.b∧((Dn r).ver.c:Int)=s.ver.c∧True):=h1;exact absurd (show((Dn r).path:ByteArray)=s.path∧((Dn r).ver.a:Int)=s.ver.a∧((Dn r).ver.b:Int)=s.ver.b∧((Dn r).ver.c:Int)=s.ver.c∧True by rw[hs];exact⟨rfl,rfl,rfl,rfl,trivial⟩) h1
theorem nJ(N:List Rl)(i:Nat)(r:Rl)(s:Sl)(a b:Bool)(gi:N[i]?=some r)(hs:¬Dn r=s):A3 Tryz.prog 56 [.eref 1000 N.length 9 i 0,.cptr (Af s),.cptr [vb true],.ref 1001 0,.ref 1002 0] (Aj [(1000,.arr 9 (N.map Ag)),(1001,.cells [vb a]),(1002,.cells [vb b])] Aa) fun r' h'=>r'=.tup []∧h'=Aj [(1000,.arr 9 ((N.set i (Tx true (IG s) r)).map Ag)),(1001,.cells [vb (if Dn r=s then true else a)]),(1002,.cells [vb (if Dn r=s then decide (r.yanked=true)else b)])] Aa:=by
 refine BV (Ll ⟨[],[],[],[],[],[],[],[],[],[],[2]⟩) [(1000,1000),(1001,1001),(1002,1002)] rfl Cn hm rfl Tryz.func56 (by kernel_rfl) rfl (Nz rfl) (by kernel_rfl) rfl ?_;refine Yi (show N.length=(N.map Ag).length by simp) (Xi (Ag r) (Yi (Dp gi) ?_));refine Yi (Nz rfl) ?_;refine Xi _ (Yi (QP r) ?_);refine Yi (Nz rfl) ?_;refine Yi (fun h1=>?_) (fun h1=>?_)
 ·have h1:((Dn r).path:ByteArray)=s.path∧((Dn r).ver.a:Int)=s.ver.a∧((Dn r).ver.b:Int)=s.ver.b∧((Dn r).ver.c:Int)=s.ver.c∧True:=h1;exact absurd (lg h1) hs
 have h1:¬(((Dn r).path:ByteArray)=s.path∧((Dn r).ver.a:Int)=s.ver.a∧((Dn r).ver.b:Int)=s.ver.b∧((Dn r).ver.c:Int)=s.ver.c∧True):=h1;refine Yi (by kernel_rfl) ?_;exact Xi _ (Yi (.refl _) ⟨rfl,show Aj [(1000,HO.arr 9 (N.map Ag)),(1001,.cells [vb a]),(1002,.cells [vb b])] Aa=Aj [(1000,.arr 9 ((N.set i (Tx true (IG s) r)).map Ag)),(1001,.cells [vb (if Dn r=s then true else a)]),(1002,.cells [vb (if Dn r=s then decide (r.yanked=true)else b)])] Aa by rw[Ai hs,Ai hs,Tx,Ai (fun h=>hs (Ba h)),Qw gi]⟩)
theorem rg(N:List Rl)(i:Nat)(r:Rl)(s:Sl)(a b:Bool)(gi:N[i]?=some r):A3 Tryz.prog 56 [.eref 1000 N.length 9 i 0,.cptr (Af s),.cptr [vb true],.ref 1001 0,.ref 1002 0] (Aj [(1000,.arr 9 (N.map Ag)),(1001,.cells [vb a]),(1002,.cells [vb b])] Aa) fun r' h'=>r'=.tup []∧h'=Aj [(1000,.arr 9 ((N.set i (Tx true (IG s) r)).map Ag)),(1001,.cells [vb (if Dn r=s then true else a)]),(1002,.cells [vb (if Dn r=s then decide (r.yanked=true)else b)])] Aa:=by
 by_cases hs:Dn r=s
 ·exact nK N i r s a b gi hs
 ·exact nJ N i r s a b gi hs
theorem nI(N:List Rl)(i:Nat)(r:Rl)(s:Sl)(a b:Bool)(gi:N[i]?=some r)(hs:Dn r=s):A3 Tryz.prog 56 [.eref 1000 N.length 9 i 0,.cptr (Af s),.cptr [vb false],.ref 1001 0,.ref 1002 0] (Aj [(1000,.arr 9 (N.map Ag)),(1001,.cells [vb a]),(1002,.cells [vb b])] Aa) fun r' h'=>r'=.tup []∧h'=Aj [(1000,.arr 9 ((N.set i (Tx false (IG s) r)).map Ag)),(1001,.cells [vb (if Dn r=s then true else a)]),(1002,.cells [vb (if Dn r=s then decide (r.yanked=false)else b)])] Aa:=by
 refine BV (Ll ⟨[],[],[],[],[],[],[],[],[],[],[2]⟩) [(1000,1000),(1001,1001),(1002,1002)] rfl Cn hm rfl Tryz.func56 (by kernel_rfl) rfl (Nz rfl) (by kernel_rfl) rfl ?_;refine Yi (show N.length=(N.map Ag).length by simp) (Xi (Ag r) (Yi (Dp gi) ?_));refine Yi (Nz rfl) ?_;refine Xi _ (Yi (QP r) ?_);refine Yi (Nz rfl) ?_;refine Yi (fun h1=>?_) (fun h1=>?_)
 ·have h1:((Dn r).path:ByteArray)=s.path∧((Dn r).ver.a:Int)=s.ver.a∧((Dn r).ver.b:Int)=s.ver.b∧((Dn r).ver.c:Int)=s.ver.c∧True:=h1;refine Yi (by kernel_rfl) ?_;refine Yi (show N.length=(N.map Ag).length by simp) (Xi (Ag r) (Yi (Dp gi) ?_));refine Yi (fun h2=>?_) (fun h2=>?_)
  ·have h2:r.yanked=true:=h2;refine Yi (fun h=>absurd h (by decide)) (fun _=>?_);refine Yi (Nz rfl) ?_;refine Yi (Nz rfl) ?_;refine Yi (by kernel_rfl) ?_;refine Xi ⟨[(0,.eref 1000 N.length 9 i 0),(2,.cptr [vb false])],[(1000,.arr 9 (N.map Ag)),(1001,.cells [vb true]),(1002,.cells [vb false])],Aa⟩ (Yi ⟨Z2,Z3,Fh,Aw (by kernel_rfl)⟩ ?_)
   refine Yi (fun h=>absurd h (by decide)) (fun _=>?_);refine Yi (show N.length=(N.map Ag).length by simp) (Xi (Ag r) (Yi (Dp gi) (Yi (Nz rfl) ?_)));have e1:(if Dn r=s then true else a)=true:=Aq hs;have e2:(if Dn r=s then decide (r.yanked=false)else b)=false:=by rw[Aq hs,h2];rfl
   exact Xi _ (Yi (.refl _) ⟨rfl,show Aj [(1000,HO.arr 9 ((N.map Ag).set i [vs r.path,vi r.ver.a,vi r.ver.b,vi r.ver.c,sl AI r.reqs,vs r.arch,vs r.ifc,vs r.cert,vb false])),(1001,.cells [vb true]),(1002,.cells [vb false])] Aa=Aj [(1000,HO.arr 9 ((N.set i (Tx false (IG s) r)).map Ag)),(1001,.cells [vb (if Dn r=s then true else a)]),(1002,.cells [vb (if Dn r=s then decide (r.yanked=false)else b)])] Aa by rw[e1,e2,G7,Tx,Aq (AA hs)]⟩)
  have h2:r.yanked=false:=h2;refine Yi (fun h=>absurd h (by decide)) (fun _=>?_);refine Yi (Nz rfl) ?_;refine Yi (Nz rfl) ?_;refine Yi (by kernel_rfl) ?_;refine Xi ⟨[(0,.eref 1000 N.length 9 i 0),(2,.cptr [vb false])],[(1000,.arr 9 (N.map Ag)),(1001,.cells [vb true]),(1002,.cells [vb true])],Aa⟩ (Yi ⟨Z2,Z3,Fh,Aw (by kernel_rfl)⟩ ?_)
  refine Yi (fun h=>absurd h (by decide)) (fun _=>?_);refine Yi (show N.length=(N.map Ag).length by simp) (Xi (Ag r) (Yi (Dp gi) (Yi (Nz rfl) ?_)));have e1:(if Dn r=s then true else a)=true:=Aq hs;have e2:(if Dn r=s then decide (r.yanked=false)else b)=true:=by rw[Aq hs,h2];rfl
  exact Xi _ (Yi (.refl _) ⟨rfl,show Aj [(1000,HO.arr 9 ((N.map Ag).set i [vs r.path,vi r.ver.a,vi r.ver.b,vi r.ver.c,sl AI r.reqs,vs r.arch,vs r.ifc,vs r.cert,vb false])),(1001,.cells [vb true]),(1002,.cells [vb true])] Aa=Aj [(1000,HO.arr 9 ((N.set i (Tx false (IG s) r)).map Ag)),(1001,.cells [vb (if Dn r=s then true else a)]),(1002,.cells [vb (if Dn r=s then decide (r.yanked=false)else b)])] Aa by rw[e1,e2,G7,Tx,Aq (AA hs)]⟩)
 have h1:¬(((Dn r).path:ByteArray)=s.path∧((Dn r).ver.a:Int)=s.ver.a∧((Dn r).ver.b:Int)=s.ver.b∧((Dn r).ver.c:Int)=s.ver.c∧True):=h1;exact absurd (show((Dn r).path:ByteArray)=s.path∧((Dn r).ver.a:Int)=s.ver.a∧((Dn r).ver.b:Int)=s.ver.b∧((Dn r).ver.c:Int)=s.ver.c∧True by rw[hs];exact⟨rfl,rfl,rfl,rfl,trivial⟩) h1
theorem nH(N:List Rl)(i:Nat)(r:Rl)(s:Sl)(a b:Bool)(gi:N[i]?=some r)(hs:¬Dn r=s):A3 Tryz.prog 56 [.eref 1000 N.length 9 i 0,.cptr (Af s),.cptr [vb false],.ref 1001 0,.ref 1002 0] (Aj [(1000,.arr 9 (N.map Ag)),(1001,.cells [vb a]),(1002,.cells [vb b])] Aa) fun r' h'=>r'=.tup []∧h'=Aj [(1000,.arr 9 ((N.set i (Tx false (IG s) r)).map Ag)),(1001,.cells [vb (if Dn r=s then true else a)]),(1002,.cells [vb (if Dn r=s then decide (r.yanked=false)else b)])] Aa:=by
 refine BV (Ll ⟨[],[],[],[],[],[],[],[],[],[],[2]⟩) [(1000,1000),(1001,1001),(1002,1002)] rfl Cn hm rfl Tryz.func56 (by kernel_rfl) rfl (Nz rfl) (by kernel_rfl) rfl ?_;refine Yi (show N.length=(N.map Ag).length by simp) (Xi (Ag r) (Yi (Dp gi) ?_));refine Yi (Nz rfl) ?_;refine Xi _ (Yi (QP r) ?_);refine Yi (Nz rfl) ?_;refine Yi (fun h1=>?_) (fun h1=>?_)
 ·have h1:((Dn r).path:ByteArray)=s.path∧((Dn r).ver.a:Int)=s.ver.a∧((Dn r).ver.b:Int)=s.ver.b∧((Dn r).ver.c:Int)=s.ver.c∧True:=h1;exact absurd (lg h1) hs
 have h1:¬(((Dn r).path:ByteArray)=s.path∧((Dn r).ver.a:Int)=s.ver.a∧((Dn r).ver.b:Int)=s.ver.b∧((Dn r).ver.c:Int)=s.ver.c∧True):=h1;refine Yi (by kernel_rfl) ?_;exact Xi _ (Yi (.refl _) ⟨rfl,show Aj [(1000,HO.arr 9 (N.map Ag)),(1001,.cells [vb a]),(1002,.cells [vb b])] Aa=Aj [(1000,.arr 9 ((N.set i (Tx false (IG s) r)).map Ag)),(1001,.cells [vb (if Dn r=s then true else a)]),(1002,.cells [vb (if Dn r=s then decide (r.yanked=false)else b)])] Aa by rw[Ai hs,Ai hs,Tx,Ai (fun h=>hs (Ba h)),Qw gi]⟩)
theorem rf(N:List Rl)(i:Nat)(r:Rl)(s:Sl)(a b:Bool)(gi:N[i]?=some r):A3 Tryz.prog 56 [.eref 1000 N.length 9 i 0,.cptr (Af s),.cptr [vb false],.ref 1001 0,.ref 1002 0] (Aj [(1000,.arr 9 (N.map Ag)),(1001,.cells [vb a]),(1002,.cells [vb b])] Aa) fun r' h'=>r'=.tup []∧h'=Aj [(1000,.arr 9 ((N.set i (Tx false (IG s) r)).map Ag)),(1001,.cells [vb (if Dn r=s then true else a)]),(1002,.cells [vb (if Dn r=s then decide (r.yanked=false)else b)])] Aa:=by
 by_cases hs:Dn r=s
 ·exact nI N i r s a b gi hs
 ·exact nH N i r s a b gi hs
theorem ll(s:Sl)(y:Bool)(x:List Rl)(ifs:List (List AV))(c:Int)(mu:c≠0)(mj:PC 72 [sl Ag x] (.tup [.v (.slice none 0 0),vi c])):A3 Tryz.prog 50 [.agg (Ic x ifs),.clo 56 [.cptr (Af s),.cptr [vb y],.ref 1000 0,.ref 1001 0]] (Aj [(1000,.cells [vb false]),(1001,.cells [vb false])] Aa) fun r h'=>r=.tup [.agg [.v (.slice none 0 0),.v (.slice none 0 0)],vi 1]∧h'=Aj [(1000,.cells [vb false]),(1001,.cells [vb false])] Aa:=by
 refine BV (Ll ⟨[2],[],[],[],[],[],[],[],[],[],[3,4]⟩) [(1000,1000),(1001,1001)] rfl Cn hm rfl Tryz.func50 (by kernel_rfl) rfl (Nz rfl) (by kernel_rfl) rfl ?_;refine Xi .pure (Xi _ (Yi mj ?_));refine Yi (fun h1=>?_) (fun h1=>?_)
 ·have h1:(c:Int)≠(0:Int):=h1;refine Xi ⟨[(4,.ref 4 0)],[(4,.cells [.v (.slice none 0 0),.v (.slice none 0 0)]),(1000,.cells [vb false]),(1001,.cells [vb false])],Aa⟩ (Yi ⟨Z1,Z3,Fh,Aw (by kernel_rfl)⟩ ?_)
  refine Yi (Nz rfl) ?_;refine Yi (Nz rfl) ?_;exact Xi _ (Yi (.refl _) Zr)
 have h1:(c:Int)=(0:Int):=AR h1;exact absurd h1 mu
theorem lm(s:Sl)(y:Bool)(x:List Rl)(ifs:List (List AV))(es:List (List AV))(mj:A3 Tryz.prog 72 [sl Ag x] Aa fun r h'=>r=.tup [.msl 2000 x.length,vi 0]∧h'=Aj [(2000,.arr 9 es)] Aa)(k:Int)(QG:k≠0)(hk:PC 37 [GP x ifs] (vi k)):A3 Tryz.prog 50 [.agg (Ic x ifs),.clo 56 [.cptr (Af s),.cptr [vb y],.ref 1000 0,.ref 1001 0]] (Aj [(1000,.cells [vb false]),(1001,.cells [vb false])] Aa) fun r h'=>r=.tup [.agg [.v (.slice none 0 0),.v (.slice none 0 0)],vi 1]∧h'=Aj [(1000,.cells [vb false]),(1001,.cells [vb false])] Aa:=by
 refine BV (Ll ⟨[2],[],[],[],[],[],[],[],[],[],[3,4]⟩) [(1000,1000),(1001,1001)] rfl Cn hm rfl Tryz.func50 (by kernel_rfl) rfl (Nz rfl) (by kernel_rfl) rfl ?_;refine Xi (.gen [] 1) (Yi rfl (A3.to2 mj ?_));refine Yi (fun h=>absurd h (by decide)) (fun _=>?_);refine Yi (Nz rfl) ?_;refine Xi .pure (Xi _ (Yi hk ?_));refine Yi (fun h1=>?_) (fun h1=>?_)
 ·have h1:(k:Int)≠(0:Int):=h1;refine Xi ⟨[(4,.ref 4 0)],[(4,.cells [.v (.slice none 0 0),.v (.slice none 0 0)]),(1000,.cells [vb false]),(1001,.cells [vb false])],Aa⟩ (Yi ⟨Z1,Z3,Fh,Aw (by kernel_rfl)⟩ ?_)
  refine Yi (Nz rfl) ?_;refine Yi (Nz rfl) ?_;exact Xi _ (Yi (.refl _) Zr)
 have h1:(k:Int)=(0:Int):=AR h1;exact absurd h1 QG
theorem Rf{y:Bool}{p:Sl→Bool}{x:List Rl}{i:Nat}:(yk y p (x.take i)++x.drop i).length=x.length:=by
 rw[Ad,Mb,AE,Dm];omega
theorem re(s:Sl)(x:List Rl)(ifs:List (List AV))(hx:x.length≤16)(mj:A3 Tryz.prog 72 [sl Ag x] Aa fun r h'=>r=.tup [.msl 2000 x.length,vi 0]∧h'=Aj [(2000,.arr 9 (x.map Ag))] Aa)(hk:PC 37 [GP x ifs] (vi 0))(hcl:PC 73 [.slice .none ifs] (.slice .none ifs)):A3 Tryz.prog 50 [.agg (Ic x ifs),.clo 56 [.cptr (Af s),.cptr [vb true],.ref 1000 0,.ref 1001 0]] (Aj [(1000,.cells [vb false]),(1001,.cells [vb false])] Aa) fun r h'=>r=.tup [GP (yk true (IG s) x) ifs,vi 0]∧h'=Aj [(1000,.cells [vb (fs s true x).1]),(1001,.cells [vb (fs s true x).2])] Aa:=by
 refine BV (Ll ⟨[2],[],[],[],[],[],[],[],[],[(200009,6)],[3,4,5,6,9]⟩) [(1000,1000),(1001,1001)] rfl Cn hm rfl Tryz.func50 (by kernel_rfl) rfl (Nz rfl) (by kernel_rfl) rfl ?_;refine Xi (.gen [] 1) (Yi rfl (A3.to2 mj ?_));refine Yi (fun h=>absurd h (by decide)) (fun _=>?_);refine Yi (Nz rfl) ?_;refine Xi .pure (Xi _ (Yi hk ?_));refine Yi (fun h=>absurd h (by decide)) (fun _=>?_);refine Xi ⟨[(1,.clo 56 [.cptr (Af s),.cptr [vb true],.ref 1000 0,.ref 1001 0]),(2,.ref 2 0),(4,.ref 4 0),(6,.msl 11200 x.length)],[(2,.ro (Ic x ifs)),(4,.cells [.v (.slice none 0 0),.v (.slice none 0 0)]),(1000,.cells [vb false]),(1001,.cells [vb false]),(11200,.arr 9 (x.map Ag))],Aa⟩ (Yi ⟨Z4,Z5,Fh,Aw (by kernel_rfl)⟩ ?_)
 refine Xi {q:Nat // q≤x.length} (Xi (fun q=>⟨[(1,.clo 56 [.cptr (Af s),.cptr [vb true],.ref 1000 0,.ref 1001 0]),(2,.ref 2 0),(4,.ref 4 0),(6,.msl 11200 x.length),(24,vi x.length),(25,vi q.1)],[(2,.ro (Ic x ifs)),(4,.cells [.v (.slice none 0 0),.v (.slice none 0 0)]),(1000,.cells [vb (fs s true (x.take q.1)).1]),(1001,.cells [vb (fs s true (x.take q.1)).2]),(11200,.arr 9 ((yk true (IG s) (x.take q.1)++x.drop q.1).map Ag))],Aa⟩) (Xi (fun q=>x.length-q.1) (Yi (Xi ⟨0,AL _⟩ ?_) ?_)))
 ·exact⟨Z6,Z5,Fh,Aw (by kernel_rfl)⟩
 intro⟨i,i1⟩;have i1:i≤x.length:=i1;refine Xi ⟨[(1,.clo 56 [.cptr (Af s),.cptr [vb true],.ref 1000 0,.ref 1001 0]),(2,.ref 2 0),(4,.ref 4 0),(6,.msl 11200 x.length),(24,vi x.length),(25,vi i)],[(2,.ro (Ic x ifs)),(4,.cells [.v (.slice none 0 0),.v (.slice none 0 0)]),(1000,.cells [vb (fs s true (x.take i)).1]),(1001,.cells [vb (fs s true (x.take i)).2]),(11200,.arr 9 ((yk true (IG s) (x.take i)++x.drop i).map Ag))],Aa⟩ (Yi ⟨Z6,Z5,Fh,Aw (by kernel_rfl)⟩ ?_)
 refine Yi (fun h1=>?_) (fun h1=>?_)
 ·have h1:(i:Int)<(x.length:Int):=h1;have n1:i<x.length:=by omega
  have g1:x[i]?=some x[i]:=Ge n1;have ni:i<x.length:=by omega
  refine Xi ⟨[(1,.clo 56 [.cptr (Af s),.cptr [vb true],.ref 1000 0,.ref 1001 0]),(2,.ref 2 0),(4,.ref 4 0),(6,.msl 11200 x.length),(24,vi x.length),(25,vi i)],[(2,.ro (Ic x ifs)),(4,.cells [.v (.slice none 0 0),.v (.slice none 0 0)]),(1000,.cells [vb (fs s true (x.take i)).1]),(1001,.cells [vb (fs s true (x.take i)).2]),(11200,.arr 9 ((yk true (IG s) (x.take i)++x.drop i).map Ag))],Aa⟩ (Yi ⟨Z6,Z5,Fh,Aw (by kernel_rfl)⟩ ?_)
  refine Yi (by show(0:Int)≤i∧(i:Int)<(x.length:Nat);omega) ?_;refine Xi (.gen [(11200,1000),(1000,1001),(1001,1002)] 0) (Yi rfl (A3.to2 (by have q:=rg (yk true (IG s) (x.take i)++x.drop i) i x[i] s (fs s true (x.take i)).1 (fs s true (x.take i)).2 (lp ni);rw[Rf]at q;exact q) ?_));refine Yi (Ii i (by omega)) ?_;refine Xi ⟨i+1,ni⟩ ?_;exact⟨Dl x.length i (by omega),Z6,⟨Zr,Zr,⟨(show HO.cells [vb (if Dn x[i]=s then true else(fs s true (x.take i)).1)]=.cells [vb (fs s true (x.take (i+1))).1] by rw[QS ni];split<;>rfl),rfl⟩,⟨(show HO.cells [vb (if Dn x[i]=s then decide (x[i].yanked=true)else(fs s true (x.take i)).2)]=.cells [vb (fs s true (x.take (i+1))).2] by rw[QS ni];split<;>rfl),rfl⟩,⟨(show HO.arr 9 (((yk true (IG s) (x.take i)++x.drop i).set i (Tx true (IG s) x[i])).map Ag)=.arr 9 ((yk true (IG s) (x.take (i+1))++x.drop (i+1)).map Ag) by rw[Tx,ai ni]),rfl⟩,Tv⟩,Fh,Aw (by kernel_rfl)⟩
 have h1:¬((i:Int)<(x.length:Int)):=h1;have n1:¬i<x.length:=by omega
 have ei:x.take i=x:=AD (by omega);have ed:x.drop i=[]:=FD (by omega);refine Yi (show x.length=((yk true (IG s) (x.take i)++x.drop i).map Ag).length by rw[Lm,Rf]) ?_;refine Xi ⟨[(2,.ref 2 0),(4,.ref 4 0),(6,sl Ag (yk true (IG s) (x.take i)++x.drop i))],[(2,.ro (Ic x ifs)),(4,.cells [.v (.slice none 0 0),.v (.slice none 0 0)]),(1000,.cells [vb (fs s true (x.take i)).1]),(1001,.cells [vb (fs s true (x.take i)).2])],Aa⟩ (Yi ⟨Z3,Z4,Fh,Aw (by kernel_rfl)⟩ ?_)
 refine Xi .pure (Xi _ (Yi hcl ?_));refine Yi (Nz rfl) ?_;refine Yi (Nz rfl) ?_;exact Xi _ (Yi (.refl _) ⟨show AV.tup [.agg [sl Ag (yk true (IG s) (x.take i)++x.drop i),.slice .none ifs],vi 0]=.tup [GP (yk true (IG s) x) ifs,vi 0] by rw[ei,ed,BT],show Aj [(1000,HO.cells [vb (fs s true (x.take i)).1]),(1001,.cells [vb (fs s true (x.take i)).2])] Aa=Aj [(1000,.cells [vb (fs s true x).1]),(1001,.cells [vb (fs s true x).2])] Aa by rw[ei]⟩)
theorem rd(s:Sl)(x:List Rl)(ifs:List (List AV))(hx:x.length≤16)(mj:A3 Tryz.prog 72 [sl Ag x] Aa fun r h'=>r=.tup [.msl 2000 x.length,vi 0]∧h'=Aj [(2000,.arr 9 (x.map Ag))] Aa)(hk:PC 37 [GP x ifs] (vi 0))(hcl:PC 73 [.slice .none ifs] (.slice .none ifs)):A3 Tryz.prog 50 [.agg (Ic x ifs),.clo 56 [.cptr (Af s),.cptr [vb false],.ref 1000 0,.ref 1001 0]] (Aj [(1000,.cells [vb false]),(1001,.cells [vb false])] Aa) fun r h'=>r=.tup [GP (yk false (IG s) x) ifs,vi 0]∧h'=Aj [(1000,.cells [vb (fs s false x).1]),(1001,.cells [vb (fs s false x).2])] Aa:=by
 refine BV (Ll ⟨[2],[],[],[],[],[],[],[],[],[(200009,6)],[3,4,5,6,9]⟩) [(1000,1000),(1001,1001)] rfl Cn hm rfl Tryz.func50 (by kernel_rfl) rfl (Nz rfl) (by kernel_rfl) rfl ?_;refine Xi (.gen [] 1) (Yi rfl (A3.to2 mj ?_));refine Yi (fun h=>absurd h (by decide)) (fun _=>?_);refine Yi (Nz rfl) ?_;refine Xi .pure (Xi _ (Yi hk ?_));refine Yi (fun h=>absurd h (by decide)) (fun _=>?_);refine Xi ⟨[(1,.clo 56 [.cptr (Af s),.cptr [vb false],.ref 1000 0,.ref 1001 0]),(2,.ref 2 0),(4,.ref 4 0),(6,.msl 11200 x.length)],[(2,.ro (Ic x ifs)),(4,.cells [.v (.slice none 0 0),.v (.slice none 0 0)]),(1000,.cells [vb false]),(1001,.cells [vb false]),(11200,.arr 9 (x.map Ag))],Aa⟩ (Yi ⟨Z4,Z5,Fh,Aw (by kernel_rfl)⟩ ?_)
 refine Xi {q:Nat // q≤x.length} (Xi (fun q=>⟨[(1,.clo 56 [.cptr (Af s),.cptr [vb false],.ref 1000 0,.ref 1001 0]),(2,.ref 2 0),(4,.ref 4 0),(6,.msl 11200 x.length),(24,vi x.length),(25,vi q.1)],[(2,.ro (Ic x ifs)),(4,.cells [.v (.slice none 0 0),.v (.slice none 0 0)]),(1000,.cells [vb (fs s false (x.take q.1)).1]),(1001,.cells [vb (fs s false (x.take q.1)).2]),(11200,.arr 9 ((yk false (IG s) (x.take q.1)++x.drop q.1).map Ag))],Aa⟩) (Xi (fun q=>x.length-q.1) (Yi (Xi ⟨0,AL _⟩ ?_) ?_)))
 ·exact⟨Z6,Z5,Fh,Aw (by kernel_rfl)⟩
 intro⟨i,i1⟩;have i1:i≤x.length:=i1;refine Xi ⟨[(1,.clo 56 [.cptr (Af s),.cptr [vb false],.ref 1000 0,.ref 1001 0]),(2,.ref 2 0),(4,.ref 4 0),(6,.msl 11200 x.length),(24,vi x.length),(25,vi i)],[(2,.ro (Ic x ifs)),(4,.cells [.v (.slice none 0 0),.v (.slice none 0 0)]),(1000,.cells [vb (fs s false (x.take i)).1]),(1001,.cells [vb (fs s false (x.take i)).2]),(11200,.arr 9 ((yk false (IG s) (x.take i)++x.drop i).map Ag))],Aa⟩ (Yi ⟨Z6,Z5,Fh,Aw (by kernel_rfl)⟩ ?_)
 refine Yi (fun h1=>?_) (fun h1=>?_)
 ·have h1:(i:Int)<(x.length:Int):=h1;have n1:i<x.length:=by omega
  have g1:x[i]?=some x[i]:=Ge n1;have ni:i<x.length:=by omega
  refine Xi ⟨[(1,.clo 56 [.cptr (Af s),.cptr [vb false],.ref 1000 0,.ref 1001 0]),(2,.ref 2 0),(4,.ref 4 0),(6,.msl 11200 x.length),(24,vi x.length),(25,vi i)],[(2,.ro (Ic x ifs)),(4,.cells [.v (.slice none 0 0),.v (.slice none 0 0)]),(1000,.cells [vb (fs s false (x.take i)).1]),(1001,.cells [vb (fs s false (x.take i)).2]),(11200,.arr 9 ((yk false (IG s) (x.take i)++x.drop i).map Ag))],Aa⟩ (Yi ⟨Z6,Z5,Fh,Aw (by kernel_rfl)⟩ ?_)
  refine Yi (by show(0:Int)≤i∧(i:Int)<(x.length:Nat);omega) ?_;refine Xi (.gen [(11200,1000),(1000,1001),(1001,1002)] 0) (Yi rfl (A3.to2 (by have q:=rf (yk false (IG s) (x.take i)++x.drop i) i x[i] s (fs s false (x.take i)).1 (fs s false (x.take i)).2 (lp ni);rw[Rf]at q;exact q) ?_));refine Yi (Ii i (by omega)) ?_;refine Xi ⟨i+1,ni⟩ ?_;exact⟨Dl x.length i (by omega),Z6,⟨Zr,Zr,⟨(show HO.cells [vb (if Dn x[i]=s then true else(fs s false (x.take i)).1)]=.cells [vb (fs s false (x.take (i+1))).1] by rw[QS ni];split<;>rfl),rfl⟩,⟨(show HO.cells [vb (if Dn x[i]=s then decide (x[i].yanked=false)else(fs s false (x.take i)).2)]=.cells [vb (fs s false (x.take (i+1))).2] by rw[QS ni];split<;>rfl),rfl⟩,⟨(show HO.arr 9 (((yk false (IG s) (x.take i)++x.drop i).set i (Tx false (IG s) x[i])).map Ag)=.arr 9 ((yk false (IG s) (x.take (i+1))++x.drop (i+1)).map Ag) by rw[Tx,ai ni]),rfl⟩,Tv⟩,Fh,Aw (by kernel_rfl)⟩
 have h1:¬((i:Int)<(x.length:Int)):=h1;have n1:¬i<x.length:=by omega
 have ei:x.take i=x:=AD (by omega);have ed:x.drop i=[]:=FD (by omega);refine Yi (show x.length=((yk false (IG s) (x.take i)++x.drop i).map Ag).length by rw[Lm,Rf]) ?_;refine Xi ⟨[(2,.ref 2 0),(4,.ref 4 0),(6,sl Ag (yk false (IG s) (x.take i)++x.drop i))],[(2,.ro (Ic x ifs)),(4,.cells [.v (.slice none 0 0),.v (.slice none 0 0)]),(1000,.cells [vb (fs s false (x.take i)).1]),(1001,.cells [vb (fs s false (x.take i)).2])],Aa⟩ (Yi ⟨Z3,Z4,Fh,Aw (by kernel_rfl)⟩ ?_)
 refine Xi .pure (Xi _ (Yi hcl ?_));refine Yi (Nz rfl) ?_;refine Yi (Nz rfl) ?_;exact Xi _ (Yi (.refl _) ⟨show AV.tup [.agg [sl Ag (yk false (IG s) (x.take i)++x.drop i),.slice .none ifs],vi 0]=.tup [GP (yk false (IG s) x) ifs,vi 0] by rw[ei,ed,BT],show Aj [(1000,HO.cells [vb (fs s false (x.take i)).1]),(1001,.cells [vb (fs s false (x.take i)).2])] Aa=Aj [(1000,.cells [vb (fs s false x).1]),(1001,.cells [vb (fs s false x).2])] Aa by rw[ei]⟩)
abbrev Jk(x:List Rl)(ifs:List (List AV))(s:Sl)(y:Bool):AV:=.tup [GP (CF x s y) (if Cz x s y=0 then ifs else []),vi (Cz x s y)]
theorem Kz{x:List Rl}{ifs:List (List AV)}{s:Sl}{y:Bool}{c:Int}(h:Cz x s y=c)(hc:c≠0):Hg (.tup [.agg [.v (.slice none 0 0),.v (.slice none 0 0)],vi c]) (Jk x ifs s y):=by
 have e:Jk x ifs s y=.tup [GP [] [],vi c]:=by unfold Jk;rw[h,Ai hc,Td (by rw[h];exact hc)]
 rw[e];exact .tup ⟨.agg ⟨.nil,.nil,trivial⟩,.refl _,trivial⟩
theorem VV{x:List Rl}{ifs:List (List AV)}{s:Sl}{y:Bool}(h:Cz x s y=0):Jk x ifs s y=.tup [GP (yk y (IG s) x) ifs,vi 0]:=by
 unfold Jk;rw[h,Aq rfl,OL h]
theorem nG(x:List Rl)(ifs:List (List AV))(s:Sl)(h0:AU x=0)(mh:A3 Tryz.prog 50 [GP x ifs,.clo 56 [.cptr (Af s),.cptr [vb true],.ref 1000 0,.ref 1001 0]] (Aj [(1000,.cells [vb false]),(1001,.cells [vb false])] Aa) fun r h'=>r=.tup [GP (yk true (IG s) x) ifs,vi 0]∧h'=Aj [(1000,.cells [vb (fs s true x).1]),(1001,.cells [vb (fs s true x).2])] Aa):PC 35 [.agg (Ic x ifs),.agg (Af s),vb true] (Jk x ifs s true):=by
 refine Ps ⟨[3,4,5],[],[],[],[],[],[],[],[],[],[3]⟩ Tryz.func35 rfl (Nz rfl) ?_;refine Yi (Nz rfl) ?_;refine Yi (Nz rfl) ?_;refine Yi (Nz rfl) ?_;refine Xi (.gen [(8,1000),(9,1001)] 0) (Yi rfl (A3.to2 mh ?_));refine Yi (Nz rfl) ?_;refine Xi ⟨[(6,.ref 6 0),(8,.ref 8 0),(9,.ref 9 0),(10,.ref 10 0),(11,vi 0)],[(6,.cells [.v (.slice none 0 0),.v (.slice none 0 0)]),(8,.cells [vb (fs s true x).1]),(9,.cells [vb (fs s true x).2]),(10,.cells [sl Ag (yk true (IG s) x),.slice .none ifs])],Aa⟩ (Yi ⟨Z5,Z4,Fh,Tv⟩ ?_)
 refine Yi (fun h=>absurd h (by decide)) (fun _=>?_);refine Yi (fun h1=>?_) (fun h1=>?_)
 ·have h1:(fs s true x).1=true:=h1;refine Yi (fun h2=>?_) (fun h2=>?_)
  ·have h2:(fs s true x).2=true:=h2;refine Yi (Nz rfl) ?_;refine Yi (Nz rfl) ?_;have e1:Cz x s true=if(fs s true x).2=true then 8 else 0:=(Pg h0 s true).trans (Ai (by rw[h1];decide))
   exact Kz (e1.trans (Aq h2)) (by decide)
  have h2:(fs s true x).2=false:=h2;refine Yi (Nz rfl) ?_;refine Yi (Nz rfl) ?_;refine Yi (Nz rfl) ?_;have e1:Cz x s true=if(fs s true x).2=true then 8 else 0:=(Pg h0 s true).trans (Ai (by rw[h1];decide))
  exact .of_eq (VV (e1.trans (Ai (by rw[h2];decide)))).symm
 have h1:(fs s true x).1=false:=h1;refine Yi (Nz rfl) ?_;refine Yi (Nz rfl) ?_;exact Kz ((Pg h0 s true).trans (Aq h1)) (by decide)
theorem hJ(x:List Rl)(ifs:List (List AV))(s:Sl)(hE:Cz x s true=1)(mh:A3 Tryz.prog 50 [GP x ifs,.clo 56 [.cptr (Af s),.cptr [vb true],.ref 1000 0,.ref 1001 0]] (Aj [(1000,.cells [vb false]),(1001,.cells [vb false])] Aa) fun r h'=>r=.tup [.agg [.v (.slice none 0 0),.v (.slice none 0 0)],vi 1]∧h'=Aj [(1000,.cells [vb false]),(1001,.cells [vb false])] Aa):PC 35 [.agg (Ic x ifs),.agg (Af s),vb true] (Jk x ifs s true):=by
 refine Ps ⟨[3,4,5],[],[],[],[],[],[],[],[],[],[3]⟩ Tryz.func35 rfl (Nz rfl) ?_;refine Yi (Nz rfl) ?_;refine Yi (Nz rfl) ?_;refine Yi (Nz rfl) ?_;refine Xi (.gen [(8,1000),(9,1001)] 0) (Yi rfl (A3.to2 mh ?_));refine Yi (Nz rfl) ?_;refine Xi ⟨[(6,.ref 6 0),(8,.ref 8 0),(9,.ref 9 0),(10,.ref 10 0),(11,vi 1)],[(6,.cells [.v (.slice none 0 0),.v (.slice none 0 0)]),(8,.cells [vb false]),(9,.cells [vb false]),(10,.cells [.v (.slice none 0 0),.v (.slice none 0 0)])],Aa⟩ (Yi ⟨Z5,Z4,Fh,Tv⟩ ?_)
 refine Yi (fun _=>?_) (fun h=>absurd (by decide) h);refine Yi (Nz rfl) ?_;refine Yi (Nz rfl) ?_;exact Kz hE (by decide)
theorem nF(x:List Rl)(ifs:List (List AV))(s:Sl)(h0:AU x=0)(mh:A3 Tryz.prog 50 [GP x ifs,.clo 56 [.cptr (Af s),.cptr [vb false],.ref 1000 0,.ref 1001 0]] (Aj [(1000,.cells [vb false]),(1001,.cells [vb false])] Aa) fun r h'=>r=.tup [GP (yk false (IG s) x) ifs,vi 0]∧h'=Aj [(1000,.cells [vb (fs s false x).1]),(1001,.cells [vb (fs s false x).2])] Aa):PC 35 [.agg (Ic x ifs),.agg (Af s),vb false] (Jk x ifs s false):=by
 refine Ps ⟨[3,4,5],[],[],[],[],[],[],[],[],[],[3]⟩ Tryz.func35 rfl (Nz rfl) ?_;refine Yi (Nz rfl) ?_;refine Yi (Nz rfl) ?_;refine Yi (Nz rfl) ?_;refine Xi (.gen [(8,1000),(9,1001)] 0) (Yi rfl (A3.to2 mh ?_));refine Yi (Nz rfl) ?_;refine Xi ⟨[(6,.ref 6 0),(8,.ref 8 0),(9,.ref 9 0),(10,.ref 10 0),(11,vi 0)],[(6,.cells [.v (.slice none 0 0),.v (.slice none 0 0)]),(8,.cells [vb (fs s false x).1]),(9,.cells [vb (fs s false x).2]),(10,.cells [sl Ag (yk false (IG s) x),.slice .none ifs])],Aa⟩ (Yi ⟨Z5,Z4,Fh,Tv⟩ ?_)
 refine Yi (fun h=>absurd h (by decide)) (fun _=>?_);refine Yi (fun h1=>?_) (fun h1=>?_)
 ·have h1:(fs s false x).1=true:=h1;refine Yi (fun h2=>?_) (fun h2=>?_)
  ·have h2:(fs s false x).2=true:=h2;refine Yi (Nz rfl) ?_;refine Yi (Nz rfl) ?_;have e1:Cz x s false=if(fs s false x).2=true then 8 else 0:=(Pg h0 s false).trans (Ai (by rw[h1];decide))
   exact Kz (e1.trans (Aq h2)) (by decide)
  have h2:(fs s false x).2=false:=h2;refine Yi (Nz rfl) ?_;refine Yi (Nz rfl) ?_;refine Yi (Nz rfl) ?_;have e1:Cz x s false=if(fs s false x).2=true then 8 else 0:=(Pg h0 s false).trans (Ai (by rw[h1];decide))
  exact .of_eq (VV (e1.trans (Ai (by rw[h2];decide)))).symm
 have h1:(fs s false x).1=false:=h1;refine Yi (Nz rfl) ?_;refine Yi (Nz rfl) ?_;exact Kz ((Pg h0 s false).trans (Aq h1)) (by decide)
theorem g9(x:List Rl)(ifs:List (List AV))(s:Sl)(hE:Cz x s false=1)(mh:A3 Tryz.prog 50 [GP x ifs,.clo 56 [.cptr (Af s),.cptr [vb false],.ref 1000 0,.ref 1001 0]] (Aj [(1000,.cells [vb false]),(1001,.cells [vb false])] Aa) fun r h'=>r=.tup [.agg [.v (.slice none 0 0),.v (.slice none 0 0)],vi 1]∧h'=Aj [(1000,.cells [vb false]),(1001,.cells [vb false])] Aa):PC 35 [.agg (Ic x ifs),.agg (Af s),vb false] (Jk x ifs s false):=by
 refine Ps ⟨[3,4,5],[],[],[],[],[],[],[],[],[],[3]⟩ Tryz.func35 rfl (Nz rfl) ?_;refine Yi (Nz rfl) ?_;refine Yi (Nz rfl) ?_;refine Yi (Nz rfl) ?_;refine Xi (.gen [(8,1000),(9,1001)] 0) (Yi rfl (A3.to2 mh ?_));refine Yi (Nz rfl) ?_;refine Xi ⟨[(6,.ref 6 0),(8,.ref 8 0),(9,.ref 9 0),(10,.ref 10 0),(11,vi 1)],[(6,.cells [.v (.slice none 0 0),.v (.slice none 0 0)]),(8,.cells [vb false]),(9,.cells [vb false]),(10,.cells [.v (.slice none 0 0),.v (.slice none 0 0)])],Aa⟩ (Yi ⟨Z5,Z4,Fh,Tv⟩ ?_)
 refine Yi (fun _=>?_) (fun h=>absurd (by decide) h);refine Yi (Nz rfl) ?_;refine Yi (Nz rfl) ?_;exact Kz hE (by decide)
structure J6(x:List Rl):Prop where
 len:x.length≤16
 few:∀r∈x,JL r
theorem qX{x:List Rl}(hf:∀r∈x,JL r):PC 37 [.agg [sl Ag x,.v (.slice none 0 0)]] (vi (AU x)):=(ku Vi x [] hf).args ⟨.agg ⟨.refl _,.nil,trivial⟩,trivial⟩
theorem kk{x:List Rl}(h:J6 x)(hr:∀r∈x,r.reqs.length≤1000)(hc:AU (Er Dy x.length x)=0):A3 Tryz.prog 72 [sl Ag x] Aa fun r h'=>r=.tup [.msl 2000 x.length,vi 0]∧h'=Aj [(2000,.arr 9 ((Er Dy x.length x).map Ag))] Aa:=by
 have hk:=I2.lend (sz:=9) (es:=(Er Dy x.length x).map Ag) (vs:=[.slice none 0 0]) (qX (x:=Er Dy x.length x) fun r hr=>h.few r (Sv Dy _ _ r hr));rw[hc]at hk;have q:=wl x h.len (fun r hm=>tc r (hr r hm) fun q hq=>((h.few r hm).2 q hq).1) hk;rw[show((Er Dy x.length x).map Ag).length=x.length by rw[Lm,LN]]at q;exact q
theorem li{x:List Rl}(h:J6 x)(hr:∀r∈x,r.reqs.length≤1000)(hc:AU (Er Dy x.length x)≠0):PC 72 [sl Ag x] (.tup [.v (.slice none 0 0),vi (AU (Er Dy x.length x))]):=by
 have hk:=I2.lend (sz:=9) (es:=(Er Dy x.length x).map Ag) (vs:=[.slice none 0 0]) (qX (x:=Er Dy x.length x) fun r hr=>h.few r (Sv Dy _ _ r hr));exact wk x h.len (fun r hm=>tc r (hr r hm) fun q hq=>((h.few r hm).2 q hq).1) _ hc hk
theorem lk{x:List Rl}(ifs:List (List AV))(s:Sl)(h:J6 x)(hr:∀r∈x,r.reqs.length≤1000)(hcl:PC 73 [.slice .none ifs] (.slice .none ifs)):PC 35 [GP x ifs,.agg (Af s),vb true] (Jk x ifs s true):=by
 have hk:=ku Vi x ifs h.few
 by_cases h0:AU x=0
 ·rw[h0]at hk;have q:=kk h hr (by rw[JC h0];exact h0);rw[JC h0]at q;exact nG x ifs s h0 (re s x ifs h.len q hk hcl)
 ·have hE:Cz x s true=1:=Aq h0
  by_cases hc:AU (Er Dy x.length x)=0
  ·exact hJ x ifs s hE (lm s true x ifs _ (kk h hr hc) _ h0 hk)
  ·exact hJ x ifs s hE (ll s true x ifs _ hc (li h hr hc))
theorem lj{x:List Rl}(ifs:List (List AV))(s:Sl)(h:J6 x)(hr:∀r∈x,r.reqs.length≤1000)(hcl:PC 73 [.slice .none ifs] (.slice .none ifs)):PC 35 [GP x ifs,.agg (Af s),vb false] (Jk x ifs s false):=by
 have hk:=ku Vi x ifs h.few
 by_cases h0:AU x=0
 ·rw[h0]at hk;have q:=kk h hr (by rw[JC h0];exact h0);rw[JC h0]at q;exact nF x ifs s h0 (rd s x ifs h.len q hk hcl)
 ·have hE:Cz x s false=1:=Aq h0
  by_cases hc:AU (Er Dy x.length x)=0
  ·exact g9 x ifs s hE (lm s false x ifs _ (kk h hr hc) _ h0 hk)
  ·exact g9 x ifs s hE (ll s false x ifs _ hc (li h hr hc))
theorem qY(x:List Rl)(ifs:List (List AV))(s:Sl)(i9:PC 35 [GP x ifs,.agg (Af s),vb true] (Jk x ifs s true)):PC 11 [.agg (Ic x ifs),.agg (Af s)] (Jk x ifs s true):=by
 refine Ps ⟨[],[],[],[],[],[],[],[],[],[],[]⟩ Tryz.func11 rfl (Nz rfl) ?_;refine Yi (Nz rfl) ?_;refine Yi (Nz rfl) ?_;refine Xi .pure (Xi _ (Yi i9 ?_));refine Yi (Nz rfl) ?_;refine Yi (Nz rfl) ?_;exact .refl _
theorem qZ(x:List Rl)(ifs:List (List AV))(s:Sl)(i9:PC 35 [GP x ifs,.agg (Af s),vb false] (Jk x ifs s false)):PC 12 [.agg (Ic x ifs),.agg (Af s)] (Jk x ifs s false):=by
 refine Ps ⟨[],[],[],[],[],[],[],[],[],[],[]⟩ Tryz.func12 rfl (Nz rfl) ?_;refine Yi (Nz rfl) ?_;refine Yi (Nz rfl) ?_;refine Xi .pure (Xi _ (Yi i9 ?_));refine Yi (Nz rfl) ?_;refine Yi (Nz rfl) ?_;exact .refl _
def H3(x:List Rl)(l:List Sl):Bool:=decide (JD x l=0)
theorem LL(l:List Sl):FK l=true↔∀j (h:j<l.length),0<j→Ep (l[j-1]'(by omega)).path l[j].path=true:=by
 constructor
 ·intro h j hj h0;exact(AY.1 (Nk h).1) (j-1) j (by omega) hj (by omega)
 ·intro h;refine ff (AY.2 fun i j hi hj OS=>?_);have key:∀d (hd:i+d+1<l.length),Ep l[i].path (l[i+d+1]'hd).path=true:=fun d=>by
   induction d with
   |zero=>intro hd;exact h (i+1) hd (by omega)
   |succ d ih=>intro hd;exact DP (ih (by omega)) (h (i+d+1+1) hd (by omega))
  have:=key (j-i-1) (by omega)
  simp only[show i+(j-i-1)+1=j by omega]at this;exact this
theorem co{x:List Rl}{l:List Sl}{j:Nat}(hj:j<l.length)(h0:0<j)(h:¬Ep (l[j-1]'(by omega)).path l[j].path=true):H3 x l=false:=by
 refine At fun e=>h ((LL l).1 (Xd e).2 j hj h0)
theorem cn{x:List Rl}{l:List Sl}(h:AU x≠0):H3 x l=false:=At fun e=>h (Xd e).1
theorem cp{x:List Rl}{l:List Sl}(h:AU x=0)(hi:FK l=true):H3 x l=true:=AA (by
 unfold JD;rw[Ai]
 rintro(q | q)
 ·exact q h
 ·rw[hi]at q;cases q)
theorem ws(x:List Rl)(ifs:List (List AV))(l:List Sl)(hl:CJ l)(hk:PC 37 [GP x ifs] (vi (AU x))):PC 46 [.agg (Ic x ifs),sl Af l] (vb (H3 x l)):=by
 have hl:l.length≤1073741824:=hl;refine Ps ⟨[2],[],[],[],[],[],[],[],[],[],[3,5]⟩ Tryz.func46 rfl (Nz rfl) ?_;refine Xi {q:Nat // 1≤q∧∀j (h:j<l.length),0<j→j<q→Ep (l[j-1]'(by omega)).path l[j].path=true} (Xi (fun q=>⟨[(1,sl Af l),(2,.ref 2 0),(5,vi q.1)],[(2,.ro (Ic x ifs))],Aa⟩) (Xi (fun q=>l.length+1-q.1) (Yi (Xi ⟨1,Al _,fun j _ h0 h1=>absurd h1 (by omega)⟩ ?_) ?_)))
 ·exact⟨Z3,Z1,Fh,Tv⟩
 intro⟨i,i1,i2⟩;have i1:1≤i:=i1;have i2:∀j (h:j<l.length),0<j→j<i→Ep (l[j-1]'(by omega)).path l[j].path=true:=i2;refine Yi (fun h1=>?_) (fun h1=>?_)
 ·have h1:(i:Int)<((l.map Af).length:Int):=h1;have n1:=LR h1;refine Yi (by show BK ((i:Int)-(1:Int));unfold BK;omega) ?_;refine Xi (Af (l[i-1]'(by omega))) (Yi (Yi (show(0:Int)≤(i:Int)-1 by omega) (by rw[show((i:Int)-1).toNat=i-1 by omega];exact Dp (Ge (by omega)))) (Yi rfl ?_));refine Xi (Af l[i]) (Yi (Sy n1) (Yi rfl ?_));refine Yi (fun h2=>?_) (fun h2=>?_)
  ·have h2:Ep (l[i-1]'(by omega)).path l[i].path=false:=(GM _ _).trans h2;refine Yi (by kernel_rfl) ?_;refine Xi ⟨[],[],Aa⟩ (Yi ⟨Tv,Tv,Fh,Tv⟩ ?_)
   exact .of_eq (show vb false=vb (H3 x l) by rw[co n1 (by omega) (by rw[h2];decide)])
  have h2:Ep (l[i-1]'(by omega)).path l[i].path=true:=(GM _ _).trans (by simpa using h2);refine Yi (by kernel_rfl) ?_;refine Xi ⟨[(1,sl Af l),(2,.ref 2 0),(5,vi i)],[(2,.ro (Ic x ifs))],Aa⟩ (Yi ⟨Z3,Z1,Fh,Tv⟩ ?_)
  refine Yi (Ii i (by omega)) ?_;refine Xi ⟨i+1,by omega,fun j hj h0 MF=>if e:j<i then i2 j hj h0 e else by
    have e:j=i:=by omega
    subst e;exact h2⟩ ?_
  exact⟨by show l.length+1-(i+1)<l.length+1-i;omega,Z3,Z1,Fh,Tv⟩
 have h1:¬((i:Int)<((l.map Af).length:Int)):=h1;have n1:=LQ h1;refine Yi (Nz rfl) ?_;refine Xi .pure (Xi _ (Yi hk ?_));refine Yi (fun h5=>?_) (fun h5=>?_)
 ·have h5:((AU x):Int)=(0:Int):=h5;exact .of_eq (show vb true=vb (H3 x l) by rw[cp h5 ((LL l).2 fun j hj h0=>i2 j hj h0 (by omega))])
 have h5:¬(((AU x):Int)=(0:Int)):=h5;exact .of_eq (show vb false=vb (H3 x l) by rw[cn h5])
theorem cE{x:List Rl}{l:List Sl}(h:H3 x l=false):AV.tup [sl Af (Tr x l),vi (JD x l)]=.tup [.slice .none [],vi 1]:=by
 have h:=Hc h;have e:JD x l=1:=(bu x l).resolve_left h;unfold Tr;rw[Ai h,e];rfl
theorem gZ{x:List Rl}{l:List Sl}(h:H3 x l=true):AV.tup [sl Af (Tr x l),vi (JD x l)]=.tup [sl Af (l.filter (EJ x)),vi 0]:=by
 have h:=Ba h;unfold Tr;rw[Aq h,h]
theorem wo(x:List Rl)(ifs:List (List AV))(l:List Sl)(hl:CJ l)(wI:PC 46 [GP x ifs,sl Af l] (vb (H3 x l)))(hf:∀z:Sl,PC 15 [GP x ifs,vs z.path,.agg (Gu z.ver)] (XC (DJ x z))):PC 22 [.agg (Ic x ifs),sl Af l] (.tup [sl Af (Tr x l),vi (JD x l)]):=by
 have hl:l.length≤1073741824:=hl;refine Ps ⟨[2,8,9],[(6,4)],[],[],[],[],[],[],[],[],[8]⟩ Tryz.func22 rfl (Nz rfl) ?_;refine Yi (Nz rfl) ?_;refine CQ (Bt (H3 x l)) (fun h1=>?_) (fun h1=>?_)
 ·have h1:(H3 x l)=true:=h1;refine Xi .pure (Xi _ (Yi (cb h1 wI) ?_));refine Xi {q:Nat // q≤l.length} (Xi (fun q=>⟨[(2,.ref 2 0),(6,.slice (.id 6 4) (((l.take q.1).filter (EJ x)).map Af)),(15,sl Af l),(16,vi (l.map Af).length),(17,vi q.1)],[(2,.ro (Ic x ifs)),(6,.tok 4 ((l.take q.1).filter (EJ x)).length)],Aa⟩) (Xi (fun q=>l.length-q.1) (Yi (Xi ⟨0,AL _⟩ ?_) ?_)))
  ·exact⟨Z5,Z2,Fh,Tv⟩
  intro⟨i,i1⟩;have i1:i≤l.length:=i1;have i2:((l.take i).filter (EJ x)).length≤i:=Br (BA ..) (by rw[AE];omega);refine Yi (fun h2=>?_) (fun h2=>?_)
  ·have h2:(i:Int)<((l.map Af).length:Int):=h2;have n2:=LR h2;refine Xi (Af l[i]) (Yi (Sy n2) (Yi rfl ?_));refine Yi (Nz rfl) ?_;refine Yi (Nz rfl) ?_;refine Yi (Nz rfl) ?_;refine Yi (Nz rfl) ?_;refine CQ (bT (DJ x l[i])) (fun h3=>?_) (fun h3=>?_)
   ·refine CC h3 (fun r h3=>?_);have kF:=(hf l[i]);rw[h3]at kF;refine Xi .pure (Xi _ (Yi kF ?_));refine Yi (Nz rfl) ?_;refine Xi ⟨[(2,.ref 2 0),(6,.slice (.id 6 4) (((l.take i).filter (EJ x)).map Af)),(8,.ref 8 0),(9,.ref 9 0),(10,vb true),(15,sl Af l),(16,vi (l.map Af).length),(17,vi i)],[(2,.ro (Ic x ifs)),(6,.tok 4 ((l.take i).filter (EJ x)).length),(8,.ro (Af l[i])),(9,.ro (Ag r))],Aa⟩ (Yi ⟨Z8,Z4,Fh,Tv⟩ ?_)
    refine Yi (fun h4=>?_) (fun h4=>?_)
    ·have h4:r.yanked=true:=h4;refine Yi (Nz rfl) ?_;refine Yi (aB rfl (by omega) (by decide)) ?_;refine Yi (Ii i (by omega)) ?_;have ni:=n2;have hy:EJ x l[i]=true:=(by unfold EJ;rw[h3];exact h4);refine Xi ⟨i+1,ni⟩ ?_;exact⟨Dl l.length i (by omega),⟨Zr,⟨(show AV.slice (.id 6 4) (((l.take i).filter (EJ x)).map Af++[Af l[i]])=.slice (.id 6 4) (((l.take (i+1)).filter (EJ x)).map Af) by rw[E1 ni,De,CT,Aq hy,TZ,Az];rfl),rfl⟩,Zr,Zr,Zr,Tv⟩,⟨Zr,⟨(show HO.tok 4 ((((l.take i).filter (EJ x)).map Af).length+([Af l[i]]:List (List AV)).length)=.tok 4 ((l.take (i+1)).filter (EJ x)).length by rw[E1 ni,De,CT,Aq hy,TZ,Ad,Lm];rfl),rfl⟩,Tv⟩,Fh,Tv⟩
    have h4:r.yanked=false:=h4;refine Yi (Ii i (by omega)) ?_;have ni:=n2;have hy:EJ x l[i]=false:=by unfold EJ;rw[h3];exact h4
    have ef:(l.take (i+1)).filter (EJ x)=(l.take i).filter (EJ x):=by rw[E1 ni,De,CT,Ai (by rw[hy];decide),TZ,BT]
    refine Xi ⟨i+1,ni⟩ ?_;exact⟨Dl l.length i (by omega),⟨Zr,⟨(show AV.slice (.id 6 4) (((l.take i).filter (EJ x)).map Af)=.slice (.id 6 4) (((l.take (i+1)).filter (EJ x)).map Af) by rw[ef]),rfl⟩,Zr,Zr,Zr,Tv⟩,⟨Zr,⟨(show HO.tok 4 ((l.take i).filter (EJ x)).length=.tok 4 ((l.take (i+1)).filter (EJ x)).length by rw[ef]),rfl⟩,Tv⟩,Fh,Tv⟩
   have kF:=(hf l[i]);rw[h3]at kF;refine Xi .pure (Xi _ (Yi kF ?_));refine Yi (Nz rfl) ?_;refine Xi ⟨[(2,.ref 2 0),(6,.slice (.id 6 4) (((l.take i).filter (EJ x)).map Af)),(8,.ref 8 0),(9,.ref 9 0),(10,vb false),(15,sl Af l),(16,vi (l.map Af).length),(17,vi i)],[(2,.ro (Ic x ifs)),(6,.tok 4 ((l.take i).filter (EJ x)).length),(8,.ro (Af l[i])),(9,.ro [vs ⟨#[]⟩,vi 0,vi 0,vi 0,.v (.slice none 0 0),vs ⟨#[]⟩,vs ⟨#[]⟩,vs ⟨#[]⟩,vb false])],Aa⟩ (Yi ⟨Z8,Z4,Fh,Tv⟩ ?_)
   refine Yi (Ii i (by omega)) ?_;have ni:=n2;have hy:EJ x l[i]=false:=by unfold EJ;rw[h3]
   have ef:(l.take (i+1)).filter (EJ x)=(l.take i).filter (EJ x):=by rw[E1 ni,De,CT,Ai (by rw[hy];decide),TZ,BT]
   refine Xi ⟨i+1,ni⟩ ?_;exact⟨Dl l.length i (by omega),⟨Zr,⟨(show AV.slice (.id 6 4) (((l.take i).filter (EJ x)).map Af)=.slice (.id 6 4) (((l.take (i+1)).filter (EJ x)).map Af) by rw[ef]),rfl⟩,Zr,Zr,Zr,Tv⟩,⟨Zr,⟨(show HO.tok 4 ((l.take i).filter (EJ x)).length=.tok 4 ((l.take (i+1)).filter (EJ x)).length by rw[ef]),rfl⟩,Tv⟩,Fh,Tv⟩
  have h2:¬((i:Int)<((l.map Af).length:Int)):=h2;have n2:=LQ h2;have el:l.take i=l:=AD (by omega);exact .of_eq (show AV.tup [sl Af ((l.take i).filter (EJ x)),vi 0]=.tup [sl Af (Tr x l),vi (JD x l)] by rw[el,gZ h1])
 have h1:(H3 x l)=false:=h1;refine Xi .pure (Xi _ (Yi (cb h1 wI) ?_));exact(show Hg (.tup [.v (.slice none 0 0),vi 1]) (.tup [.slice .none [],vi 1])from .tup ⟨.nil,.refl _,trivial⟩).trans (.of_eq (cE h1).symm)
end Go.Eng
namespace Go.Eng
theorem Zy:∀{x y:List UInt8},HX x y=true→x<y
 |x,[],h=>by cases x<;>cases h
 | [],b::y,_=>by simp
 |a::x,b::y,h=>by
  unfold HX at h;rw[List.cons_lt_cons_iff];rcases Ci _ _▸h with h | h
  ·exact .inl (Ba h)
  ·obtain⟨h1,h2⟩:=Bool.and_eq_true_iff.1 h;exact .inr ⟨Ba h1,Zy h2⟩
section
variable {α:Type}[Inhabited α][DecidableEq α]
theorem NX{R:α→α→Prop}(hR:∀a b c,R a b→R b c→R a c)(xs:List α)(hs:∀i j,(hi:i<xs.length)→(hj:j<xs.length)→i<j→xs[i]=xs[j]∨R xs[i] xs[j]):∀m,m≤xs.length →
  (Lib.compactUpTo xs.toArray m).Pairwise R∧(∀a,a∈Lib.compactUpTo xs.toArray m↔a∈xs.take m)
 |0,_=>by simp[Lib.compactUpTo]
 |m+1,h=>by
  obtain⟨h1,h2⟩:=NX hR xs hs m (by omega);have hg:xs.toArray[m]! =xs[m]'(by omega):=by simp[show m<xs.length by omega]
  rw[Lib.compactUpTo_succ,hg,Bi,Ge (by omega)]
  by_cases hk:Lib.keeps xs.toArray m=true
  ·rw[Aq hk];refine⟨?_,fun a=>by rw[AW,AW,h2];simp⟩;rw[List.pairwise_append];refine⟨h1,List.pairwise_singleton _ _,fun a ha b hb=>?_⟩;rw[Am.1 hb];have ha:=(h2 a).1 ha;obtain⟨j,hj,rfl⟩:=CW.1 ha;rw[AE]at hj;rw[HJ];unfold Lib.keeps at hk;have hk:=Ba hk;rcases hk with hk | hk
   ·omega
   ·have cU : xs.toArray[m-1]! =xs[m-1]'(by omega):=by simp[show m-1<xs.length by omega]
    rw[hg,cU]at hk;have s1:R (xs[m-1]'(by omega)) (xs[m]'(by omega)):=(hs (m-1) m (by omega) (by omega) (by omega)).elim (fun e=>absurd e.symm hk) id
    by_cases e:j=m-1
    ·subst e;exact s1
    ·rcases hs j (m-1) (by omega) (by omega) (by omega)with q | q
     ·rw[q];exact s1
     ·exact hR _ _ _ q s1
  ·rw[Ai hk,BT];refine⟨h1,fun a=>?_⟩;rw[h2,AW];refine⟨.inl,fun q=>q.elim id fun q=>?_⟩;have q:a=xs[m]:=by simpa using q
   subst q;have hk:¬(m=0∨xs.toArray[m]! ≠xs.toArray[m-1]!):=fun q=>hk (AA q);have m0:0<m:=Nat.pos_of_ne_zero fun e=>hk (.inl e);have e:xs.toArray[m]! =xs.toArray[m-1]!:=AR fun e=>hk (.inr e);have cU : xs.toArray[m-1]! =xs[m-1]'(by omega):=by simp[show m-1<xs.length by omega]
   rw[hg,cU]at e;rw[e];exact CW.2 ⟨m-1,by rw[AE];omega,by rw[HJ]⟩
end
theorem dD{t:List ByteArray}(ht:(t.map PW).Pairwise fun a b=>a≤b):(BS t).Pairwise (fun a b=>Ep a b=true)∧∀p,p∈BS t↔p∈t:=by
 have hc:=NX (R:=fun a b=>HX a b=true) (fun a b c=>Nr) (t.map PW) (fun i j hi hj OS=>by
  have h:=(AY.1 ht) i j hi hj OS;cases e:HX (t.map PW)[i] (t.map PW)[j]with
  |true=>exact .inr rfl
  |false =>
   cases e2:HX (t.map PW)[j] (t.map PW)[i]with
   |true=>exact absurd (Zy e2) (by simpa using h)
   |false=>exact .inl (SF e e2)) (t.map PW).length (Al _)
 rw[DU]at hc;have e:BS t=(Lib.compactUpTo (t.map PW).toArray (t.map PW).length).map Ze:=rfl;rw[e];refine⟨?_,fun p=>?_⟩
 ·rw[List.pairwise_map];exact hc.1.imp fun {a b} h=>by show HX (Ze a).data.toList (Ze b).data.toList=true;exact h
 ·rw[Ak];constructor
  ·rintro⟨a,ha,rfl⟩
   obtain⟨q,hq,rfl⟩:=Ak.1 ((hc.2 a).1 ha)
   have:Ze (PW q)=q:=by cases q;simp
   rw[this];exact hq
  ·intro hp;exact⟨PW p,(hc.2 _).2 (List.mem_map_of_mem hp),by cases p;simp⟩
abbrev m6(p:ByteArray)(f t:Int):List Mv:=if f≠t then [⟨p,f,t⟩]else []
def rm:List Sl→List Sl→List Mv
 | [],[]=>[]
 |a::l,[]=>m6 a.path (place a.ver) (-1)++rm l []
 | [],b::m=>m6 b.path (-1) (place b.ver)++rm [] m
 |a::l,b::m=>if a.path=b.path then m6 a.path (place a.ver) (place b.ver)++rm l m else if Ep a.path b.path=true then m6 a.path (place a.ver) (-1)++rm l (b::m)else m6 b.path (-1) (place b.ver)++rm (a::l) m
termination_by l m=>l.length+m.length
def mp:List Sl→List Sl→List ByteArray
 | [],[]=>[]
 |a::l,[]=>a.path::mp l []
 | [],b::m=>b.path::mp [] m
 |a::l,b::m=>if a.path=b.path then a.path::mp l m else if Ep a.path b.path=true then a.path::mp l (b::m)else b.path::mp (a::l) m
termination_by l m=>l.length+m.length
theorem FO(a:Sl)(l:List Sl)(p:ByteArray):Kx (a::l) p=if a.path=p then place a.ver else Kx l p:=by
 unfold Kx BX;rw[EE]
 by_cases h:a.path=p
 ·simp[h]
 ·simp[h]
theorem Hv{l l' m m' : List Sl}{ps:List ByteArray}(h1:∀p∈ps,Kx l p=Kx l' p)(h2:∀p∈ps,Kx m p=Kx m' p):Hu l m ps=Hu l' m' ps :=
 (by
  induction ps with
  |nil=>rfl
  |cons p ps ih =>
   show(p::ps).filterMap _=(p::ps).filterMap _;rw[List.filterMap_cons,List.filterMap_cons,show JW l m p=JW l' m' p from by unfold JW;rw[h1 p (Ab ..),h2 p (Ab ..)],show ps.filterMap (JW l m)=ps.filterMap (JW l' m')from ih (fun q hq=>h1 q (Ah _ hq)) (fun q hq=>h2 q (Ah _ hq))])
theorem Io(l m:List Sl)(p:ByteArray)(ps:List ByteArray):Hu l m (p::ps)=m6 p (Kx l p) (Kx m p)++Hu l m ps:=by
 unfold Hu m6;rw[List.filterMap_cons];unfold JW
 by_cases h:Kx l p=Kx m p
 ·simp[h]
 ·simp[h]
theorem ZP{l:List Sl}{p:ByteArray}(h:∀s∈l,s.path≠p):Kx l p=-1:=by
 unfold Kx BX;rw[DO.2 fun s hs=>by simpa using h s hs]
theorem UF(l m:List Sl)(hl:l.Pairwise m5)(hm:m.Pairwise m5):(mp l m).Pairwise (fun a b=>Ep a b=true)∧(∀p,p∈mp l m↔p∈l.map (·.path)∨p∈m.map (·.path))∧rm l m=Hu l m (mp l m):=by
 match l,m with
 | [],[]=>unfold mp rm;simp
 |a::l,[] =>
  obtain⟨a1,a2⟩:=BD.1 hl;obtain⟨h1,h2,h3⟩:=UF l [] a2 hm;have lt:∀p∈mp l [],Ep a.path p=true:=fun p hp=>by
   have:=(h2 p).1 hp
   rcases this with q | q
   ·obtain⟨s,hs,rfl⟩:=Ak.1 q;exact a1 s hs
   ·cases q
  unfold mp rm;refine⟨BD.2 ⟨lt,h1⟩,fun p=>by simp[h2],?_⟩;rw[Io,h3,FO,Aq rfl]
  congr 1
  exact Hv (fun p hp=>by rw[FO,Ai (HQ (lt p hp))]) fun _ _=>rfl
 | [],b::m =>
  obtain⟨a1,a2⟩:=BD.1 hm;obtain⟨h1,h2,h3⟩:=UF [] m hl a2;have lt:∀p∈mp [] m,Ep b.path p=true:=fun p hp=>by
   have:=(h2 p).1 hp
   rcases this with q | q
   ·cases q
   ·obtain⟨s,hs,rfl⟩:=Ak.1 q;exact a1 s hs
  unfold mp rm;refine⟨BD.2 ⟨lt,h1⟩,fun p=>by simp[h2],?_⟩;rw[Io,h3,FO,Aq rfl]
  congr 1
  exact Hv (fun _ _=>rfl) fun p hp=>by rw[FO,Ai (HQ (lt p hp))]
 |a::l,b::m =>
  obtain⟨a1,a2⟩:=BD.1 hl;obtain⟨b1,b2⟩:=BD.1 hm;unfold mp rm
  by_cases e:a.path=b.path
  ·rw[Aq e,Aq e];obtain⟨h1,h2,h3⟩:=UF l m a2 b2;have lt:∀p∈mp l m,Ep a.path p=true:=fun p hp=>by
    rcases(h2 p).1 hp with q | q
    ·obtain⟨s,hs,rfl⟩:=Ak.1 q;exact a1 s hs
    ·obtain⟨s,hs,rfl⟩:=Ak.1 q;rw[e];exact b1 s hs
   refine⟨BD.2 ⟨lt,h1⟩,fun p=>?_,?_⟩
   ·simp only[Av,h2,AK,e];constructor
    ·rintro(q | q | q)
     ·exact .inl (.inl q)
     ·exact .inl (.inr q)
     ·exact .inr (.inr q)
    ·rintro((q | q) | (q | q))
     ·exact .inl q
     ·exact .inr (.inl q)
     ·exact .inl q
     ·exact .inr (.inr q)
   ·rw[Io,h3,FO,Aq rfl,FO,Aq e.symm]
    congr 1
    exact Hv (fun p hp=>by rw[FO,Ai (HQ (lt p hp))]) fun p hp=>by rw[FO,Ai (by rw[←e];exact HQ (lt p hp))]
  ·rw[Ai e,Ai e]
   by_cases c:Ep a.path b.path=true
   ·rw[Aq c,Aq c];obtain⟨h1,h2,h3⟩:=UF l (b::m) a2 hm;have la:∀s∈b::m,Ep a.path s.path=true:=fun s hs=>by
     rcases Av.1 hs with rfl | hs
     ·exact c
     ·exact DP c (b1 s hs)
    have lt:∀p∈mp l (b::m),Ep a.path p=true:=fun p hp=>by
     rcases(h2 p).1 hp with q | q
     ·obtain⟨s,hs,rfl⟩:=Ak.1 q;exact a1 s hs
     ·obtain⟨s,hs,rfl⟩:=Ak.1 q;exact la s hs
    refine⟨BD.2 ⟨lt,h1⟩,fun p=>by rw[Av,h2,AK,Av,AK (l:=l),Av (l:=l.map _),or_assoc],?_⟩;rw[Io,h3,FO,Aq rfl,ZP (l:=b::m) fun s hs=>(HQ (la s hs)).symm]
    congr 1
    exact Hv (fun p hp=>by rw[FO,Ai (HQ (lt p hp))]) fun _ _=>rfl
   ·rw[Ai c,Ai c];have c' : Ep b.path a.path=true:=by
     cases q:Ep b.path a.path with
     |true=>rfl
     |false=>exact absurd (Hi (by simpa using c) q) e
    obtain⟨h1,h2,h3⟩:=UF (a::l) m hl b2;have la:∀s∈a::l,Ep b.path s.path=true:=fun s hs=>by
     rcases Av.1 hs with rfl | hs
     ·exact c'
     ·exact DP c' (a1 s hs)
    have lt:∀p∈mp (a::l) m,Ep b.path p=true:=fun p hp=>by
     rcases(h2 p).1 hp with q | q
     ·obtain⟨s,hs,rfl⟩:=Ak.1 q;exact la s hs
     ·obtain⟨s,hs,rfl⟩:=Ak.1 q;exact b1 s hs
    refine⟨BD.2 ⟨lt,h1⟩,fun p=>?_,?_⟩
    ·rw[Av,h2,AK,AK,Av,Av];constructor
     ·rintro(q | q | q)
      ·exact .inr (.inl q)
      ·exact .inl q
      ·exact .inr (.inr q)
     ·rintro(q | q | q)
      ·exact .inr (.inl q)
      ·exact .inl q
      ·exact .inr (.inr q)
    ·rw[Io,h3,ZP (l:=a::l) fun s hs=>(HQ (la s hs)).symm,FO b m,Aq rfl]
     congr 1
     exact Hv (fun _ _=>rfl) fun p hp=>by rw[FO b m,Ai (HQ (lt p hp))]
termination_by l.length+m.length
theorem fD{l m:List Sl}{t:List ByteArray}(hl:Lv l)(hm:Lv m)(hp:t.Perm ((l++m).map (·.path)))(ht:(t.map PW).Pairwise fun a b=>a≤b):Hu l m (BS t)=rm l m:=by
 obtain⟨h1,h2,h3⟩:=UF l m hl.inc hm.inc;obtain⟨c1,c2⟩:=dD ht;rw[h3]
 congr 1
 refine List.Perm.eq_of_pairwise (le:=fun a b=>Ep a b=true) (fun a b _ _ x y=>?_) c1 h1 ?_
 ·rw[Mf x]at y;cases y
 ·refine(NK (c1.imp fun h=>HQ h) (h1.imp fun h=>HQ h)).2 fun p=>?_;rw[c2,h2,hp.mem_iff,Az,AW]
end Go.Eng
