/- Lemmas for the claims of this seat, without a condition: part 29 (V8, V9, V10, V11, V4). -/
import Derived.Test.YtddfphmpfnmknaaGreatDoorBA28
set_option maxHeartbeats 4000000
namespace Go.Eng
open Go.Proofs
def Tt(y:Bool)(p:Sl→Bool)(r:Rl):Rl:=if p (DJ r)=true then { r with yanked:=y }else r
theorem Qu{α β:Type}{f:α→β}{N:List α}{i:Nat}{r:α}(h:N[i]?=some r):N.map f=(N.set i r).map f:=by
 obtain⟨hi,rfl⟩:=Ap.1 h;rw[List.set_getElem_self]
theorem QN(r:Rl):PC 40 [.agg (Ah r)] (.agg (Ae (DJ r))):=by
 refine Ps ⟨[],[],[],[],[],[],[],[],[],[],[]⟩ Tryz.func40 rfl (Nz rfl) ?_;refine Yi (Nz rfl) ?_;refine Yi (Nz rfl) ?_;refine Yi (Nz rfl) ?_;exact .refl _
theorem nI(N:List Rl)(i:Nat)(r:Rl)(s:Sl)(a b:Bool)(gi:N[i]?=some r)(hs:DJ r=s):A3 Tryz.prog 56 [.eref 1000 N.length 9 i 0,.cptr (Ae s),.cptr [vb true],.ref 1001 0,.ref 1002 0] (Aj [(1000,.arr 9 (N.map Ah)),(1001,.cells [vb a]),(1002,.cells [vb b])] Aa) fun r' h'=>r'=.tup []∧h'=Aj [(1000,.arr 9 ((N.set i (Tt true (JM s) r)).map Ah)),(1001,.cells [vb (if DJ r=s then true else a)]),(1002,.cells [vb (if DJ r=s then decide (r.yanked=true)else b)])] Aa:=by
 refine BV (Lh ⟨[],[],[],[],[],[],[],[],[],[],[2]⟩) [(1000,1000),(1001,1001),(1002,1002)] rfl Cs hm rfl Tryz.func56 (by kernel_rfl) rfl (Nz rfl) (by kernel_rfl) rfl ?_;refine Yi (show N.length=(N.map Ah).length by simp) (Xi (Ah r) (Yi (Dp gi) ?_));refine Yi (Nz rfl) ?_;refine Xi _ (Yi (QN r) ?_);refine Yi (Nz rfl) ?_;refine Yi (fun h1=>?_) (fun h1=>?_)
 ·have h1:((DJ r).path:ByteArray)=s.path∧((DJ r).ver.a:Int)=s.ver.a∧((DJ r).ver.b:Int)=s.ver.b∧((DJ r).ver.c:Int)=s.ver.c∧True:=h1;refine Yi (by kernel_rfl) ?_;refine Yi (show N.length=(N.map Ah).length by simp) (Xi (Ah r) (Yi (Dp gi) ?_));refine Yi (fun h2=>?_) (fun h2=>?_)
  ·have h2:r.yanked=true:=h2;refine Yi (fun _=>?_) (fun h=>absurd h (by decide));refine Yi (Nz rfl) ?_;refine Yi (Nz rfl) ?_;refine Yi (by kernel_rfl) ?_;refine Xi ⟨[(0,.eref 1000 N.length 9 i 0),(2,.cptr [vb true])],[(1000,.arr 9 (N.map Ah)),(1001,.cells [vb true]),(1002,.cells [vb true])],Aa⟩ (Yi ⟨Z2,Z3,Fh,Aw (by kernel_rfl)⟩ ?_)
   refine Yi (fun _=>?_) (fun h=>absurd h (by decide));refine Yi (show N.length=(N.map Ah).length by simp) (Xi (Ah r) (Yi (Dp gi) (Yi (Nz rfl) ?_)));have e1:(if DJ r=s then true else a)=true:=Ao hs;have e2:(if DJ r=s then decide (r.yanked=true)else b)=true:=by rw[Ao hs,h2];rfl
   exact Xi _ (Yi (.refl _) ⟨rfl,show Aj [(1000,HO.arr 9 ((N.map Ah).set i [vs r.path,vi r.ver.a,vi r.ver.b,vi r.ver.c,sl AN r.reqs,vs r.arch,vs r.ifc,vs r.cert,vb true])),(1001,.cells [vb true]),(1002,.cells [vb true])] Aa=Aj [(1000,HO.arr 9 ((N.set i (Tt true (JM s) r)).map Ah)),(1001,.cells [vb (if DJ r=s then true else a)]),(1002,.cells [vb (if DJ r=s then decide (r.yanked=true)else b)])] Aa by rw[e1,e2,G7,Tt,Ao (AE hs)]⟩)
  have h2:r.yanked=false:=h2;refine Yi (fun _=>?_) (fun h=>absurd h (by decide));refine Yi (Nz rfl) ?_;refine Yi (Nz rfl) ?_;refine Yi (by kernel_rfl) ?_;refine Xi ⟨[(0,.eref 1000 N.length 9 i 0),(2,.cptr [vb true])],[(1000,.arr 9 (N.map Ah)),(1001,.cells [vb true]),(1002,.cells [vb false])],Aa⟩ (Yi ⟨Z2,Z3,Fh,Aw (by kernel_rfl)⟩ ?_)
  refine Yi (fun _=>?_) (fun h=>absurd h (by decide));refine Yi (show N.length=(N.map Ah).length by simp) (Xi (Ah r) (Yi (Dp gi) (Yi (Nz rfl) ?_)));have e1:(if DJ r=s then true else a)=true:=Ao hs;have e2:(if DJ r=s then decide (r.yanked=true)else b)=false:=by rw[Ao hs,h2];rfl
  exact Xi _ (Yi (.refl _) ⟨rfl,show Aj [(1000,HO.arr 9 ((N.map Ah).set i [vs r.path,vi r.ver.a,vi r.ver.b,vi r.ver.c,sl AN r.reqs,vs r.arch,vs r.ifc,vs r.cert,vb true])),(1001,.cells [vb true]),(1002,.cells [vb false])] Aa=Aj [(1000,HO.arr 9 ((N.set i (Tt true (JM s) r)).map Ah)),(1001,.cells [vb (if DJ r=s then true else a)]),(1002,.cells [vb (if DJ r=s then decide (r.yanked=true)else b)])] Aa by rw[e1,e2,G7,Tt,Ao (AE hs)]⟩)
 have h1:¬(((DJ r).path:ByteArray)=s.path∧((DJ r).ver.a:Int)=s.ver.a∧((DJ r).ver.b:Int)=s.ver.b∧((DJ r).ver.c:Int)=s.ver.c∧True):=h1;exact absurd (show((DJ r).path:ByteArray)=s.path∧((DJ r).ver.a:Int)=s.ver.a∧((DJ r).ver.b:Int)=s.ver.b∧((DJ r).ver.c:Int)=s.ver.c∧True by rw[hs];exact⟨rfl,rfl,rfl,rfl,trivial⟩) h1
theorem nH(N:List Rl)(i:Nat)(r:Rl)(s:Sl)(a b:Bool)(gi:N[i]?=some r)(hs:¬DJ r=s):A3 Tryz.prog 56 [.eref 1000 N.length 9 i 0,.cptr (Ae s),.cptr [vb true],.ref 1001 0,.ref 1002 0] (Aj [(1000,.arr 9 (N.map Ah)),(1001,.cells [vb a]),(1002,.cells [vb b])] Aa) fun r' h'=>r'=.tup []∧h'=Aj [(1000,.arr 9 ((N.set i (Tt true (JM s) r)).map Ah)),(1001,.cells [vb (if DJ r=s then true else a)]),(1002,.cells [vb (if DJ r=s then decide (r.yanked=true)else b)])] Aa:=by
 refine BV (Lh ⟨[],[],[],[],[],[],[],[],[],[],[2]⟩) [(1000,1000),(1001,1001),(1002,1002)] rfl Cs hm rfl Tryz.func56 (by kernel_rfl) rfl (Nz rfl) (by kernel_rfl) rfl ?_;refine Yi (show N.length=(N.map Ah).length by simp) (Xi (Ah r) (Yi (Dp gi) ?_));refine Yi (Nz rfl) ?_;refine Xi _ (Yi (QN r) ?_);refine Yi (Nz rfl) ?_;refine Yi (fun h1=>?_) (fun h1=>?_)
 ·have h1:((DJ r).path:ByteArray)=s.path∧((DJ r).ver.a:Int)=s.ver.a∧((DJ r).ver.b:Int)=s.ver.b∧((DJ r).ver.c:Int)=s.ver.c∧True:=h1;exact absurd (gG h1) hs
 have h1:¬(((DJ r).path:ByteArray)=s.path∧((DJ r).ver.a:Int)=s.ver.a∧((DJ r).ver.b:Int)=s.ver.b∧((DJ r).ver.c:Int)=s.ver.c∧True):=h1;refine Yi (by kernel_rfl) ?_;exact Xi _ (Yi (.refl _) ⟨rfl,show Aj [(1000,HO.arr 9 (N.map Ah)),(1001,.cells [vb a]),(1002,.cells [vb b])] Aa=Aj [(1000,.arr 9 ((N.set i (Tt true (JM s) r)).map Ah)),(1001,.cells [vb (if DJ r=s then true else a)]),(1002,.cells [vb (if DJ r=s then decide (r.yanked=true)else b)])] Aa by rw[Ai hs,Ai hs,Tt,Ai (fun h=>hs (A8 h)),Qu gi]⟩)
theorem ri(N:List Rl)(i:Nat)(r:Rl)(s:Sl)(a b:Bool)(gi:N[i]?=some r):A3 Tryz.prog 56 [.eref 1000 N.length 9 i 0,.cptr (Ae s),.cptr [vb true],.ref 1001 0,.ref 1002 0] (Aj [(1000,.arr 9 (N.map Ah)),(1001,.cells [vb a]),(1002,.cells [vb b])] Aa) fun r' h'=>r'=.tup []∧h'=Aj [(1000,.arr 9 ((N.set i (Tt true (JM s) r)).map Ah)),(1001,.cells [vb (if DJ r=s then true else a)]),(1002,.cells [vb (if DJ r=s then decide (r.yanked=true)else b)])] Aa:=by
 by_cases hs:DJ r=s
 ·exact nI N i r s a b gi hs
 ·exact nH N i r s a b gi hs
theorem nG(N:List Rl)(i:Nat)(r:Rl)(s:Sl)(a b:Bool)(gi:N[i]?=some r)(hs:DJ r=s):A3 Tryz.prog 56 [.eref 1000 N.length 9 i 0,.cptr (Ae s),.cptr [vb false],.ref 1001 0,.ref 1002 0] (Aj [(1000,.arr 9 (N.map Ah)),(1001,.cells [vb a]),(1002,.cells [vb b])] Aa) fun r' h'=>r'=.tup []∧h'=Aj [(1000,.arr 9 ((N.set i (Tt false (JM s) r)).map Ah)),(1001,.cells [vb (if DJ r=s then true else a)]),(1002,.cells [vb (if DJ r=s then decide (r.yanked=false)else b)])] Aa:=by
 refine BV (Lh ⟨[],[],[],[],[],[],[],[],[],[],[2]⟩) [(1000,1000),(1001,1001),(1002,1002)] rfl Cs hm rfl Tryz.func56 (by kernel_rfl) rfl (Nz rfl) (by kernel_rfl) rfl ?_;refine Yi (show N.length=(N.map Ah).length by simp) (Xi (Ah r) (Yi (Dp gi) ?_));refine Yi (Nz rfl) ?_;refine Xi _ (Yi (QN r) ?_);refine Yi (Nz rfl) ?_;refine Yi (fun h1=>?_) (fun h1=>?_)
 ·have h1:((DJ r).path:ByteArray)=s.path∧((DJ r).ver.a:Int)=s.ver.a∧((DJ r).ver.b:Int)=s.ver.b∧((DJ r).ver.c:Int)=s.ver.c∧True:=h1;refine Yi (by kernel_rfl) ?_;refine Yi (show N.length=(N.map Ah).length by simp) (Xi (Ah r) (Yi (Dp gi) ?_));refine Yi (fun h2=>?_) (fun h2=>?_)
  ·have h2:r.yanked=true:=h2;refine Yi (fun h=>absurd h (by decide)) (fun _=>?_);refine Yi (Nz rfl) ?_;refine Yi (Nz rfl) ?_;refine Yi (by kernel_rfl) ?_;refine Xi ⟨[(0,.eref 1000 N.length 9 i 0),(2,.cptr [vb false])],[(1000,.arr 9 (N.map Ah)),(1001,.cells [vb true]),(1002,.cells [vb false])],Aa⟩ (Yi ⟨Z2,Z3,Fh,Aw (by kernel_rfl)⟩ ?_)
   refine Yi (fun h=>absurd h (by decide)) (fun _=>?_);refine Yi (show N.length=(N.map Ah).length by simp) (Xi (Ah r) (Yi (Dp gi) (Yi (Nz rfl) ?_)));have e1:(if DJ r=s then true else a)=true:=Ao hs;have e2:(if DJ r=s then decide (r.yanked=false)else b)=false:=by rw[Ao hs,h2];rfl
   exact Xi _ (Yi (.refl _) ⟨rfl,show Aj [(1000,HO.arr 9 ((N.map Ah).set i [vs r.path,vi r.ver.a,vi r.ver.b,vi r.ver.c,sl AN r.reqs,vs r.arch,vs r.ifc,vs r.cert,vb false])),(1001,.cells [vb true]),(1002,.cells [vb false])] Aa=Aj [(1000,HO.arr 9 ((N.set i (Tt false (JM s) r)).map Ah)),(1001,.cells [vb (if DJ r=s then true else a)]),(1002,.cells [vb (if DJ r=s then decide (r.yanked=false)else b)])] Aa by rw[e1,e2,G7,Tt,Ao (AE hs)]⟩)
  have h2:r.yanked=false:=h2;refine Yi (fun h=>absurd h (by decide)) (fun _=>?_);refine Yi (Nz rfl) ?_;refine Yi (Nz rfl) ?_;refine Yi (by kernel_rfl) ?_;refine Xi ⟨[(0,.eref 1000 N.length 9 i 0),(2,.cptr [vb false])],[(1000,.arr 9 (N.map Ah)),(1001,.cells [vb true]),(1002,.cells [vb true])],Aa⟩ (Yi ⟨Z2,Z3,Fh,Aw (by kernel_rfl)⟩ ?_)
  refine Yi (fun h=>absurd h (by decide)) (fun _=>?_);refine Yi (show N.length=(N.map Ah).length by simp) (Xi (Ah r) (Yi (Dp gi) (Yi (Nz rfl) ?_)));have e1:(if DJ r=s then true else a)=true:=Ao hs;have e2:(if DJ r=s then decide (r.yanked=false)else b)=true:=by rw[Ao hs,h2];rfl
  exact Xi _ (Yi (.refl _) ⟨rfl,show Aj [(1000,HO.arr 9 ((N.map Ah).set i [vs r.path,vi r.ver.a,vi r.ver.b,vi r.ver.c,sl AN r.reqs,vs r.arch,vs r.ifc,vs r.cert,vb false])),(1001,.cells [vb true]),(1002,.cells [vb true])] Aa=Aj [(1000,HO.arr 9 ((N.set i (Tt false (JM s) r)).map Ah)),(1001,.cells [vb (if DJ r=s then true else a)]),(1002,.cells [vb (if DJ r=s then decide (r.yanked=false)else b)])] Aa by rw[e1,e2,G7,Tt,Ao (AE hs)]⟩)
 have h1:¬(((DJ r).path:ByteArray)=s.path∧((DJ r).ver.a:Int)=s.ver.a∧((DJ r).ver.b:Int)=s.ver.b∧((DJ r).ver.c:Int)=s.ver.c∧True):=h1;exact absurd (show((DJ r).path:ByteArray)=s.path∧((DJ r).ver.a:Int)=s.ver.a∧((DJ r).ver.b:Int)=s.ver.b∧((DJ r).ver.c:Int)=s.ver.c∧True by rw[hs];exact⟨rfl,rfl,rfl,rfl,trivial⟩) h1
theorem nF(N:List Rl)(i:Nat)(r:Rl)(s:Sl)(a b:Bool)(gi:N[i]?=some r)(hs:¬DJ r=s):A3 Tryz.prog 56 [.eref 1000 N.length 9 i 0,.cptr (Ae s),.cptr [vb false],.ref 1001 0,.ref 1002 0] (Aj [(1000,.arr 9 (N.map Ah)),(1001,.cells [vb a]),(1002,.cells [vb b])] Aa) fun r' h'=>r'=.tup []∧h'=Aj [(1000,.arr 9 ((N.set i (Tt false (JM s) r)).map Ah)),(1001,.cells [vb (if DJ r=s then true else a)]),(1002,.cells [vb (if DJ r=s then decide (r.yanked=false)else b)])] Aa:=by
 refine BV (Lh ⟨[],[],[],[],[],[],[],[],[],[],[2]⟩) [(1000,1000),(1001,1001),(1002,1002)] rfl Cs hm rfl Tryz.func56 (by kernel_rfl) rfl (Nz rfl) (by kernel_rfl) rfl ?_;refine Yi (show N.length=(N.map Ah).length by simp) (Xi (Ah r) (Yi (Dp gi) ?_));refine Yi (Nz rfl) ?_;refine Xi _ (Yi (QN r) ?_);refine Yi (Nz rfl) ?_;refine Yi (fun h1=>?_) (fun h1=>?_)
 ·have h1:((DJ r).path:ByteArray)=s.path∧((DJ r).ver.a:Int)=s.ver.a∧((DJ r).ver.b:Int)=s.ver.b∧((DJ r).ver.c:Int)=s.ver.c∧True:=h1;exact absurd (gG h1) hs
 have h1:¬(((DJ r).path:ByteArray)=s.path∧((DJ r).ver.a:Int)=s.ver.a∧((DJ r).ver.b:Int)=s.ver.b∧((DJ r).ver.c:Int)=s.ver.c∧True):=h1;refine Yi (by kernel_rfl) ?_;exact Xi _ (Yi (.refl _) ⟨rfl,show Aj [(1000,HO.arr 9 (N.map Ah)),(1001,.cells [vb a]),(1002,.cells [vb b])] Aa=Aj [(1000,.arr 9 ((N.set i (Tt false (JM s) r)).map Ah)),(1001,.cells [vb (if DJ r=s then true else a)]),(1002,.cells [vb (if DJ r=s then decide (r.yanked=false)else b)])] Aa by rw[Ai hs,Ai hs,Tt,Ai (fun h=>hs (A8 h)),Qu gi]⟩)
theorem rh(N:List Rl)(i:Nat)(r:Rl)(s:Sl)(a b:Bool)(gi:N[i]?=some r):A3 Tryz.prog 56 [.eref 1000 N.length 9 i 0,.cptr (Ae s),.cptr [vb false],.ref 1001 0,.ref 1002 0] (Aj [(1000,.arr 9 (N.map Ah)),(1001,.cells [vb a]),(1002,.cells [vb b])] Aa) fun r' h'=>r'=.tup []∧h'=Aj [(1000,.arr 9 ((N.set i (Tt false (JM s) r)).map Ah)),(1001,.cells [vb (if DJ r=s then true else a)]),(1002,.cells [vb (if DJ r=s then decide (r.yanked=false)else b)])] Aa:=by
 by_cases hs:DJ r=s
 ·exact nG N i r s a b gi hs
 ·exact nF N i r s a b gi hs
theorem li(s:Sl)(y:Bool)(x:List Rl)(ifs:List (List AV))(c:Int)(mo:c≠0)(mg:PC 72 [sl Ah x] (.tup [.v (.slice none 0 0),vi c])):A3 Tryz.prog 50 [.agg (Ic x ifs),.clo 56 [.cptr (Ae s),.cptr [vb y],.ref 1000 0,.ref 1001 0]] (Aj [(1000,.cells [vb false]),(1001,.cells [vb false])] Aa) fun r h'=>r=.tup [.agg [.v (.slice none 0 0),.v (.slice none 0 0)],vi 1]∧h'=Aj [(1000,.cells [vb false]),(1001,.cells [vb false])] Aa:=by
 refine BV (Lh ⟨[2],[],[],[],[],[],[],[],[],[],[3,4]⟩) [(1000,1000),(1001,1001)] rfl Cs hm rfl Tryz.func50 (by kernel_rfl) rfl (Nz rfl) (by kernel_rfl) rfl ?_;refine Xi .pure (Xi _ (Yi mg ?_));refine Yi (fun h1=>?_) (fun h1=>?_)
 ·have h1:(c:Int)≠(0:Int):=h1;refine Xi ⟨[(4,.ref 4 0)],[(4,.cells [.v (.slice none 0 0),.v (.slice none 0 0)]),(1000,.cells [vb false]),(1001,.cells [vb false])],Aa⟩ (Yi ⟨Z1,Z3,Fh,Aw (by kernel_rfl)⟩ ?_)
  refine Yi (Nz rfl) ?_;refine Yi (Nz rfl) ?_;exact Xi _ (Yi (.refl _) Zr)
 have h1:(c:Int)=(0:Int):=AS h1;exact absurd h1 mo
theorem lj(s:Sl)(y:Bool)(x:List Rl)(ifs:List (List AV))(es:List (List AV))(mg:A3 Tryz.prog 72 [sl Ah x] Aa fun r h'=>r=.tup [.msl 2000 x.length,vi 0]∧h'=Aj [(2000,.arr 9 es)] Aa)(k:Int)(QE:k≠0)(hk:PC 37 [Hr x ifs] (vi k)):A3 Tryz.prog 50 [.agg (Ic x ifs),.clo 56 [.cptr (Ae s),.cptr [vb y],.ref 1000 0,.ref 1001 0]] (Aj [(1000,.cells [vb false]),(1001,.cells [vb false])] Aa) fun r h'=>r=.tup [.agg [.v (.slice none 0 0),.v (.slice none 0 0)],vi 1]∧h'=Aj [(1000,.cells [vb false]),(1001,.cells [vb false])] Aa:=by
 refine BV (Lh ⟨[2],[],[],[],[],[],[],[],[],[],[3,4]⟩) [(1000,1000),(1001,1001)] rfl Cs hm rfl Tryz.func50 (by kernel_rfl) rfl (Nz rfl) (by kernel_rfl) rfl ?_;refine Xi (.gen [] 1) (Yi rfl (A3.to2 mg ?_));refine Yi (fun h=>absurd h (by decide)) (fun _=>?_);refine Yi (Nz rfl) ?_;refine Xi .pure (Xi _ (Yi hk ?_));refine Yi (fun h1=>?_) (fun h1=>?_)
 ·have h1:(k:Int)≠(0:Int):=h1;refine Xi ⟨[(4,.ref 4 0)],[(4,.cells [.v (.slice none 0 0),.v (.slice none 0 0)]),(1000,.cells [vb false]),(1001,.cells [vb false])],Aa⟩ (Yi ⟨Z1,Z3,Fh,Aw (by kernel_rfl)⟩ ?_)
  refine Yi (Nz rfl) ?_;refine Yi (Nz rfl) ?_;exact Xi _ (Yi (.refl _) Zr)
 have h1:(k:Int)=(0:Int):=AS h1;exact absurd h1 QE
theorem Rc{y:Bool}{p:Sl→Bool}{x:List Rl}{i:Nat}:(yk y p (x.take i)++x.drop i).length=x.length:=by
 rw[Ac,Tp,AB,Dn];omega
theorem rg(s:Sl)(x:List Rl)(ifs:List (List AV))(hx:x.length≤16)(mg:A3 Tryz.prog 72 [sl Ah x] Aa fun r h'=>r=.tup [.msl 2000 x.length,vi 0]∧h'=Aj [(2000,.arr 9 (x.map Ah))] Aa)(hk:PC 37 [Hr x ifs] (vi 0))(hcl:PC 73 [.slice .none ifs] (.slice .none ifs)):A3 Tryz.prog 50 [.agg (Ic x ifs),.clo 56 [.cptr (Ae s),.cptr [vb true],.ref 1000 0,.ref 1001 0]] (Aj [(1000,.cells [vb false]),(1001,.cells [vb false])] Aa) fun r h'=>r=.tup [Hr (yk true (JM s) x) ifs,vi 0]∧h'=Aj [(1000,.cells [vb (fs s true x).1]),(1001,.cells [vb (fs s true x).2])] Aa:=by
 refine BV (Lh ⟨[2],[],[],[],[],[],[],[],[],[(200009,6)],[3,4,5,6,9]⟩) [(1000,1000),(1001,1001)] rfl Cs hm rfl Tryz.func50 (by kernel_rfl) rfl (Nz rfl) (by kernel_rfl) rfl ?_;refine Xi (.gen [] 1) (Yi rfl (A3.to2 mg ?_));refine Yi (fun h=>absurd h (by decide)) (fun _=>?_);refine Yi (Nz rfl) ?_;refine Xi .pure (Xi _ (Yi hk ?_));refine Yi (fun h=>absurd h (by decide)) (fun _=>?_);refine Xi ⟨[(1,.clo 56 [.cptr (Ae s),.cptr [vb true],.ref 1000 0,.ref 1001 0]),(2,.ref 2 0),(4,.ref 4 0),(6,.msl 11200 x.length)],[(2,.ro (Ic x ifs)),(4,.cells [.v (.slice none 0 0),.v (.slice none 0 0)]),(1000,.cells [vb false]),(1001,.cells [vb false]),(11200,.arr 9 (x.map Ah))],Aa⟩ (Yi ⟨Z4,Z5,Fh,Aw (by kernel_rfl)⟩ ?_)
 refine Xi {q:Nat // q≤x.length} (Xi (fun q=>⟨[(1,.clo 56 [.cptr (Ae s),.cptr [vb true],.ref 1000 0,.ref 1001 0]),(2,.ref 2 0),(4,.ref 4 0),(6,.msl 11200 x.length),(24,vi x.length),(25,vi q.1)],[(2,.ro (Ic x ifs)),(4,.cells [.v (.slice none 0 0),.v (.slice none 0 0)]),(1000,.cells [vb (fs s true (x.take q.1)).1]),(1001,.cells [vb (fs s true (x.take q.1)).2]),(11200,.arr 9 ((yk true (JM s) (x.take q.1)++x.drop q.1).map Ah))],Aa⟩) (Xi (fun q=>x.length-q.1) (Yi (Xi ⟨0,AO _⟩ ?_) ?_)))
 ·exact⟨Z6,Z5,Fh,Aw (by kernel_rfl)⟩
 intro⟨i,i1⟩;have i1:i≤x.length:=i1;refine Xi ⟨[(1,.clo 56 [.cptr (Ae s),.cptr [vb true],.ref 1000 0,.ref 1001 0]),(2,.ref 2 0),(4,.ref 4 0),(6,.msl 11200 x.length),(24,vi x.length),(25,vi i)],[(2,.ro (Ic x ifs)),(4,.cells [.v (.slice none 0 0),.v (.slice none 0 0)]),(1000,.cells [vb (fs s true (x.take i)).1]),(1001,.cells [vb (fs s true (x.take i)).2]),(11200,.arr 9 ((yk true (JM s) (x.take i)++x.drop i).map Ah))],Aa⟩ (Yi ⟨Z6,Z5,Fh,Aw (by kernel_rfl)⟩ ?_)
 refine Yi (fun h1=>?_) (fun h1=>?_)
 ·have h1:(i:Int)<(x.length:Int):=h1;have n1:i<x.length:=by omega
  have g1:x[i]?=some x[i]:=Ge n1;have ni:i<x.length:=by omega
  refine Xi ⟨[(1,.clo 56 [.cptr (Ae s),.cptr [vb true],.ref 1000 0,.ref 1001 0]),(2,.ref 2 0),(4,.ref 4 0),(6,.msl 11200 x.length),(24,vi x.length),(25,vi i)],[(2,.ro (Ic x ifs)),(4,.cells [.v (.slice none 0 0),.v (.slice none 0 0)]),(1000,.cells [vb (fs s true (x.take i)).1]),(1001,.cells [vb (fs s true (x.take i)).2]),(11200,.arr 9 ((yk true (JM s) (x.take i)++x.drop i).map Ah))],Aa⟩ (Yi ⟨Z6,Z5,Fh,Aw (by kernel_rfl)⟩ ?_)
  refine Yi (by show(0:Int)≤i∧(i:Int)<(x.length:Nat);omega) ?_;refine Xi (.gen [(11200,1000),(1000,1001),(1001,1002)] 0) (Yi rfl (A3.to2 (by have q:=ri (yk true (JM s) (x.take i)++x.drop i) i x[i] s (fs s true (x.take i)).1 (fs s true (x.take i)).2 (lk ni);rw[Rc]at q;exact q) ?_));refine Yi (Ii i (by omega)) ?_;refine Xi ⟨i+1,ni⟩ ?_;exact⟨Dl x.length i (by omega),Z6,⟨Zr,Zr,⟨(show HO.cells [vb (if DJ x[i]=s then true else(fs s true (x.take i)).1)]=.cells [vb (fs s true (x.take (i+1))).1] by rw[QP ni];split<;>rfl),rfl⟩,⟨(show HO.cells [vb (if DJ x[i]=s then decide (x[i].yanked=true)else(fs s true (x.take i)).2)]=.cells [vb (fs s true (x.take (i+1))).2] by rw[QP ni];split<;>rfl),rfl⟩,⟨(show HO.arr 9 (((yk true (JM s) (x.take i)++x.drop i).set i (Tt true (JM s) x[i])).map Ah)=.arr 9 ((yk true (JM s) (x.take (i+1))++x.drop (i+1)).map Ah) by rw[Tt,af ni]),rfl⟩,Tv⟩,Fh,Aw (by kernel_rfl)⟩
 have h1:¬((i:Int)<(x.length:Int)):=h1;have n1:¬i<x.length:=by omega
 have ei:x.take i=x:=AD (by omega);have ed:x.drop i=[]:=FB (by omega);refine Yi (show x.length=((yk true (JM s) (x.take i)++x.drop i).map Ah).length by rw[Lm,Rc]) ?_;refine Xi ⟨[(2,.ref 2 0),(4,.ref 4 0),(6,sl Ah (yk true (JM s) (x.take i)++x.drop i))],[(2,.ro (Ic x ifs)),(4,.cells [.v (.slice none 0 0),.v (.slice none 0 0)]),(1000,.cells [vb (fs s true (x.take i)).1]),(1001,.cells [vb (fs s true (x.take i)).2])],Aa⟩ (Yi ⟨Z3,Z4,Fh,Aw (by kernel_rfl)⟩ ?_)
 refine Xi .pure (Xi _ (Yi hcl ?_));refine Yi (Nz rfl) ?_;refine Yi (Nz rfl) ?_;exact Xi _ (Yi (.refl _) ⟨show AV.tup [.agg [sl Ah (yk true (JM s) (x.take i)++x.drop i),.slice .none ifs],vi 0]=.tup [Hr (yk true (JM s) x) ifs,vi 0] by rw[ei,ed,BT],show Aj [(1000,HO.cells [vb (fs s true (x.take i)).1]),(1001,.cells [vb (fs s true (x.take i)).2])] Aa=Aj [(1000,.cells [vb (fs s true x).1]),(1001,.cells [vb (fs s true x).2])] Aa by rw[ei]⟩)
theorem rf(s:Sl)(x:List Rl)(ifs:List (List AV))(hx:x.length≤16)(mg:A3 Tryz.prog 72 [sl Ah x] Aa fun r h'=>r=.tup [.msl 2000 x.length,vi 0]∧h'=Aj [(2000,.arr 9 (x.map Ah))] Aa)(hk:PC 37 [Hr x ifs] (vi 0))(hcl:PC 73 [.slice .none ifs] (.slice .none ifs)):A3 Tryz.prog 50 [.agg (Ic x ifs),.clo 56 [.cptr (Ae s),.cptr [vb false],.ref 1000 0,.ref 1001 0]] (Aj [(1000,.cells [vb false]),(1001,.cells [vb false])] Aa) fun r h'=>r=.tup [Hr (yk false (JM s) x) ifs,vi 0]∧h'=Aj [(1000,.cells [vb (fs s false x).1]),(1001,.cells [vb (fs s false x).2])] Aa:=by
 refine BV (Lh ⟨[2],[],[],[],[],[],[],[],[],[(200009,6)],[3,4,5,6,9]⟩) [(1000,1000),(1001,1001)] rfl Cs hm rfl Tryz.func50 (by kernel_rfl) rfl (Nz rfl) (by kernel_rfl) rfl ?_;refine Xi (.gen [] 1) (Yi rfl (A3.to2 mg ?_));refine Yi (fun h=>absurd h (by decide)) (fun _=>?_);refine Yi (Nz rfl) ?_;refine Xi .pure (Xi _ (Yi hk ?_));refine Yi (fun h=>absurd h (by decide)) (fun _=>?_);refine Xi ⟨[(1,.clo 56 [.cptr (Ae s),.cptr [vb false],.ref 1000 0,.ref 1001 0]),(2,.ref 2 0),(4,.ref 4 0),(6,.msl 11200 x.length)],[(2,.ro (Ic x ifs)),(4,.cells [.v (.slice none 0 0),.v (.slice none 0 0)]),(1000,.cells [vb false]),(1001,.cells [vb false]),(11200,.arr 9 (x.map Ah))],Aa⟩ (Yi ⟨Z4,Z5,Fh,Aw (by kernel_rfl)⟩ ?_)
 refine Xi {q:Nat // q≤x.length} (Xi (fun q=>⟨[(1,.clo 56 [.cptr (Ae s),.cptr [vb false],.ref 1000 0,.ref 1001 0]),(2,.ref 2 0),(4,.ref 4 0),(6,.msl 11200 x.length),(24,vi x.length),(25,vi q.1)],[(2,.ro (Ic x ifs)),(4,.cells [.v (.slice none 0 0),.v (.slice none 0 0)]),(1000,.cells [vb (fs s false (x.take q.1)).1]),(1001,.cells [vb (fs s false (x.take q.1)).2]),(11200,.arr 9 ((yk false (JM s) (x.take q.1)++x.drop q.1).map Ah))],Aa⟩) (Xi (fun q=>x.length-q.1) (Yi (Xi ⟨0,AO _⟩ ?_) ?_)))
 ·exact⟨Z6,Z5,Fh,Aw (by kernel_rfl)⟩
 intro⟨i,i1⟩;have i1:i≤x.length:=i1;refine Xi ⟨[(1,.clo 56 [.cptr (Ae s),.cptr [vb false],.ref 1000 0,.ref 1001 0]),(2,.ref 2 0),(4,.ref 4 0),(6,.msl 11200 x.length),(24,vi x.length),(25,vi i)],[(2,.ro (Ic x ifs)),(4,.cells [.v (.slice none 0 0),.v (.slice none 0 0)]),(1000,.cells [vb (fs s false (x.take i)).1]),(1001,.cells [vb (fs s false (x.take i)).2]),(11200,.arr 9 ((yk false (JM s) (x.take i)++x.drop i).map Ah))],Aa⟩ (Yi ⟨Z6,Z5,Fh,Aw (by kernel_rfl)⟩ ?_)
 refine Yi (fun h1=>?_) (fun h1=>?_)
 ·have h1:(i:Int)<(x.length:Int):=h1;have n1:i<x.length:=by omega
  have g1:x[i]?=some x[i]:=Ge n1;have ni:i<x.length:=by omega
  refine Xi ⟨[(1,.clo 56 [.cptr (Ae s),.cptr [vb false],.ref 1000 0,.ref 1001 0]),(2,.ref 2 0),(4,.ref 4 0),(6,.msl 11200 x.length),(24,vi x.length),(25,vi i)],[(2,.ro (Ic x ifs)),(4,.cells [.v (.slice none 0 0),.v (.slice none 0 0)]),(1000,.cells [vb (fs s false (x.take i)).1]),(1001,.cells [vb (fs s false (x.take i)).2]),(11200,.arr 9 ((yk false (JM s) (x.take i)++x.drop i).map Ah))],Aa⟩ (Yi ⟨Z6,Z5,Fh,Aw (by kernel_rfl)⟩ ?_)
  refine Yi (by show(0:Int)≤i∧(i:Int)<(x.length:Nat);omega) ?_;refine Xi (.gen [(11200,1000),(1000,1001),(1001,1002)] 0) (Yi rfl (A3.to2 (by have q:=rh (yk false (JM s) (x.take i)++x.drop i) i x[i] s (fs s false (x.take i)).1 (fs s false (x.take i)).2 (lk ni);rw[Rc]at q;exact q) ?_));refine Yi (Ii i (by omega)) ?_;refine Xi ⟨i+1,ni⟩ ?_;exact⟨Dl x.length i (by omega),Z6,⟨Zr,Zr,⟨(show HO.cells [vb (if DJ x[i]=s then true else(fs s false (x.take i)).1)]=.cells [vb (fs s false (x.take (i+1))).1] by rw[QP ni];split<;>rfl),rfl⟩,⟨(show HO.cells [vb (if DJ x[i]=s then decide (x[i].yanked=false)else(fs s false (x.take i)).2)]=.cells [vb (fs s false (x.take (i+1))).2] by rw[QP ni];split<;>rfl),rfl⟩,⟨(show HO.arr 9 (((yk false (JM s) (x.take i)++x.drop i).set i (Tt false (JM s) x[i])).map Ah)=.arr 9 ((yk false (JM s) (x.take (i+1))++x.drop (i+1)).map Ah) by rw[Tt,af ni]),rfl⟩,Tv⟩,Fh,Aw (by kernel_rfl)⟩
 have h1:¬((i:Int)<(x.length:Int)):=h1;have n1:¬i<x.length:=by omega
 have ei:x.take i=x:=AD (by omega);have ed:x.drop i=[]:=FB (by omega);refine Yi (show x.length=((yk false (JM s) (x.take i)++x.drop i).map Ah).length by rw[Lm,Rc]) ?_;refine Xi ⟨[(2,.ref 2 0),(4,.ref 4 0),(6,sl Ah (yk false (JM s) (x.take i)++x.drop i))],[(2,.ro (Ic x ifs)),(4,.cells [.v (.slice none 0 0),.v (.slice none 0 0)]),(1000,.cells [vb (fs s false (x.take i)).1]),(1001,.cells [vb (fs s false (x.take i)).2])],Aa⟩ (Yi ⟨Z3,Z4,Fh,Aw (by kernel_rfl)⟩ ?_)
 refine Xi .pure (Xi _ (Yi hcl ?_));refine Yi (Nz rfl) ?_;refine Yi (Nz rfl) ?_;exact Xi _ (Yi (.refl _) ⟨show AV.tup [.agg [sl Ah (yk false (JM s) (x.take i)++x.drop i),.slice .none ifs],vi 0]=.tup [Hr (yk false (JM s) x) ifs,vi 0] by rw[ei,ed,BT],show Aj [(1000,HO.cells [vb (fs s false (x.take i)).1]),(1001,.cells [vb (fs s false (x.take i)).2])] Aa=Aj [(1000,.cells [vb (fs s false x).1]),(1001,.cells [vb (fs s false x).2])] Aa by rw[ei]⟩)
abbrev LX(x:List Rl)(ifs:List (List AV))(s:Sl)(y:Bool):AV:=.tup [Hr (HJ x s y) (if GG x s y=0 then ifs else []),vi (GG x s y)]
theorem Kw{x:List Rl}{ifs:List (List AV)}{s:Sl}{y:Bool}{c:Int}(h:GG x s y=c)(hc:c≠0):Hf (.tup [.agg [.v (.slice none 0 0),.v (.slice none 0 0)],vi c]) (LX x ifs s y):=by
 have e:LX x ifs s y=.tup [Hr [] [],vi c]:=by unfold LX;rw[h,Ai hc,gD (by rw[h];exact hc)]
 rw[e];exact .tup ⟨.agg ⟨.nil,.nil,trivial⟩,.refl _,trivial⟩
theorem VU{x:List Rl}{ifs:List (List AV)}{s:Sl}{y:Bool}(h:GG x s y=0):LX x ifs s y=.tup [Hr (yk y (JM s) x) ifs,vi 0]:=by
 unfold LX;rw[h,Ao rfl,kh h]
theorem nE(x:List Rl)(ifs:List (List AV))(s:Sl)(h0:AX x=0)(me:A3 Tryz.prog 50 [Hr x ifs,.clo 56 [.cptr (Ae s),.cptr [vb true],.ref 1000 0,.ref 1001 0]] (Aj [(1000,.cells [vb false]),(1001,.cells [vb false])] Aa) fun r h'=>r=.tup [Hr (yk true (JM s) x) ifs,vi 0]∧h'=Aj [(1000,.cells [vb (fs s true x).1]),(1001,.cells [vb (fs s true x).2])] Aa):PC 35 [.agg (Ic x ifs),.agg (Ae s),vb true] (LX x ifs s true):=by
 refine Ps ⟨[3,4,5],[],[],[],[],[],[],[],[],[],[3]⟩ Tryz.func35 rfl (Nz rfl) ?_;refine Yi (Nz rfl) ?_;refine Yi (Nz rfl) ?_;refine Yi (Nz rfl) ?_;refine Xi (.gen [(8,1000),(9,1001)] 0) (Yi rfl (A3.to2 me ?_));refine Yi (Nz rfl) ?_;refine Xi ⟨[(6,.ref 6 0),(8,.ref 8 0),(9,.ref 9 0),(10,.ref 10 0),(11,vi 0)],[(6,.cells [.v (.slice none 0 0),.v (.slice none 0 0)]),(8,.cells [vb (fs s true x).1]),(9,.cells [vb (fs s true x).2]),(10,.cells [sl Ah (yk true (JM s) x),.slice .none ifs])],Aa⟩ (Yi ⟨Z5,Z4,Fh,Tv⟩ ?_)
 refine Yi (fun h=>absurd h (by decide)) (fun _=>?_);refine Yi (fun h1=>?_) (fun h1=>?_)
 ·have h1:(fs s true x).1=true:=h1;refine Yi (fun h2=>?_) (fun h2=>?_)
  ·have h2:(fs s true x).2=true:=h2;refine Yi (Nz rfl) ?_;refine Yi (Nz rfl) ?_;have e1:GG x s true=if(fs s true x).2=true then 8 else 0:=(Pd h0 s true).trans (Ai (by rw[h1];decide))
   exact Kw (e1.trans (Ao h2)) (by decide)
  have h2:(fs s true x).2=false:=h2;refine Yi (Nz rfl) ?_;refine Yi (Nz rfl) ?_;refine Yi (Nz rfl) ?_;have e1:GG x s true=if(fs s true x).2=true then 8 else 0:=(Pd h0 s true).trans (Ai (by rw[h1];decide))
  exact .of_eq (VU (e1.trans (Ai (by rw[h2];decide)))).symm
 have h1:(fs s true x).1=false:=h1;refine Yi (Nz rfl) ?_;refine Yi (Nz rfl) ?_;exact Kw ((Pd h0 s true).trans (Ao h1)) (by decide)
theorem ia(x:List Rl)(ifs:List (List AV))(s:Sl)(hE:GG x s true=1)(me:A3 Tryz.prog 50 [Hr x ifs,.clo 56 [.cptr (Ae s),.cptr [vb true],.ref 1000 0,.ref 1001 0]] (Aj [(1000,.cells [vb false]),(1001,.cells [vb false])] Aa) fun r h'=>r=.tup [.agg [.v (.slice none 0 0),.v (.slice none 0 0)],vi 1]∧h'=Aj [(1000,.cells [vb false]),(1001,.cells [vb false])] Aa):PC 35 [.agg (Ic x ifs),.agg (Ae s),vb true] (LX x ifs s true):=by
 refine Ps ⟨[3,4,5],[],[],[],[],[],[],[],[],[],[3]⟩ Tryz.func35 rfl (Nz rfl) ?_;refine Yi (Nz rfl) ?_;refine Yi (Nz rfl) ?_;refine Yi (Nz rfl) ?_;refine Xi (.gen [(8,1000),(9,1001)] 0) (Yi rfl (A3.to2 me ?_));refine Yi (Nz rfl) ?_;refine Xi ⟨[(6,.ref 6 0),(8,.ref 8 0),(9,.ref 9 0),(10,.ref 10 0),(11,vi 1)],[(6,.cells [.v (.slice none 0 0),.v (.slice none 0 0)]),(8,.cells [vb false]),(9,.cells [vb false]),(10,.cells [.v (.slice none 0 0),.v (.slice none 0 0)])],Aa⟩ (Yi ⟨Z5,Z4,Fh,Tv⟩ ?_)
 refine Yi (fun _=>?_) (fun h=>absurd (by decide) h);refine Yi (Nz rfl) ?_;refine Yi (Nz rfl) ?_;exact Kw hE (by decide)
theorem nD(x:List Rl)(ifs:List (List AV))(s:Sl)(h0:AX x=0)(me:A3 Tryz.prog 50 [Hr x ifs,.clo 56 [.cptr (Ae s),.cptr [vb false],.ref 1000 0,.ref 1001 0]] (Aj [(1000,.cells [vb false]),(1001,.cells [vb false])] Aa) fun r h'=>r=.tup [Hr (yk false (JM s) x) ifs,vi 0]∧h'=Aj [(1000,.cells [vb (fs s false x).1]),(1001,.cells [vb (fs s false x).2])] Aa):PC 35 [.agg (Ic x ifs),.agg (Ae s),vb false] (LX x ifs s false):=by
 refine Ps ⟨[3,4,5],[],[],[],[],[],[],[],[],[],[3]⟩ Tryz.func35 rfl (Nz rfl) ?_;refine Yi (Nz rfl) ?_;refine Yi (Nz rfl) ?_;refine Yi (Nz rfl) ?_;refine Xi (.gen [(8,1000),(9,1001)] 0) (Yi rfl (A3.to2 me ?_));refine Yi (Nz rfl) ?_;refine Xi ⟨[(6,.ref 6 0),(8,.ref 8 0),(9,.ref 9 0),(10,.ref 10 0),(11,vi 0)],[(6,.cells [.v (.slice none 0 0),.v (.slice none 0 0)]),(8,.cells [vb (fs s false x).1]),(9,.cells [vb (fs s false x).2]),(10,.cells [sl Ah (yk false (JM s) x),.slice .none ifs])],Aa⟩ (Yi ⟨Z5,Z4,Fh,Tv⟩ ?_)
 refine Yi (fun h=>absurd h (by decide)) (fun _=>?_);refine Yi (fun h1=>?_) (fun h1=>?_)
 ·have h1:(fs s false x).1=true:=h1;refine Yi (fun h2=>?_) (fun h2=>?_)
  ·have h2:(fs s false x).2=true:=h2;refine Yi (Nz rfl) ?_;refine Yi (Nz rfl) ?_;have e1:GG x s false=if(fs s false x).2=true then 8 else 0:=(Pd h0 s false).trans (Ai (by rw[h1];decide))
   exact Kw (e1.trans (Ao h2)) (by decide)
  have h2:(fs s false x).2=false:=h2;refine Yi (Nz rfl) ?_;refine Yi (Nz rfl) ?_;refine Yi (Nz rfl) ?_;have e1:GG x s false=if(fs s false x).2=true then 8 else 0:=(Pd h0 s false).trans (Ai (by rw[h1];decide))
  exact .of_eq (VU (e1.trans (Ai (by rw[h2];decide)))).symm
 have h1:(fs s false x).1=false:=h1;refine Yi (Nz rfl) ?_;refine Yi (Nz rfl) ?_;exact Kw ((Pd h0 s false).trans (Ao h1)) (by decide)
theorem hJ(x:List Rl)(ifs:List (List AV))(s:Sl)(hE:GG x s false=1)(me:A3 Tryz.prog 50 [Hr x ifs,.clo 56 [.cptr (Ae s),.cptr [vb false],.ref 1000 0,.ref 1001 0]] (Aj [(1000,.cells [vb false]),(1001,.cells [vb false])] Aa) fun r h'=>r=.tup [.agg [.v (.slice none 0 0),.v (.slice none 0 0)],vi 1]∧h'=Aj [(1000,.cells [vb false]),(1001,.cells [vb false])] Aa):PC 35 [.agg (Ic x ifs),.agg (Ae s),vb false] (LX x ifs s false):=by
 refine Ps ⟨[3,4,5],[],[],[],[],[],[],[],[],[],[3]⟩ Tryz.func35 rfl (Nz rfl) ?_;refine Yi (Nz rfl) ?_;refine Yi (Nz rfl) ?_;refine Yi (Nz rfl) ?_;refine Xi (.gen [(8,1000),(9,1001)] 0) (Yi rfl (A3.to2 me ?_));refine Yi (Nz rfl) ?_;refine Xi ⟨[(6,.ref 6 0),(8,.ref 8 0),(9,.ref 9 0),(10,.ref 10 0),(11,vi 1)],[(6,.cells [.v (.slice none 0 0),.v (.slice none 0 0)]),(8,.cells [vb false]),(9,.cells [vb false]),(10,.cells [.v (.slice none 0 0),.v (.slice none 0 0)])],Aa⟩ (Yi ⟨Z5,Z4,Fh,Tv⟩ ?_)
 refine Yi (fun _=>?_) (fun h=>absurd (by decide) h);refine Yi (Nz rfl) ?_;refine Yi (Nz rfl) ?_;exact Kw hE (by decide)
structure NG(x:List Rl):Prop where
 len:x.length≤16
 few:∀r∈x,KC r
theorem q8{x:List Rl}(hf:∀r∈x,KC r):PC 37 [.agg [sl Ah x,.v (.slice none 0 0)]] (vi (AX x)):=(ks Vj x [] hf).args ⟨.agg ⟨.refl _,.nil,trivial⟩,trivial⟩
theorem kn{x:List Rl}(h:NG x)(hr:∀r∈x,r.reqs.length≤1000)(hc:AX (Eo DF x.length x)=0):A3 Tryz.prog 72 [sl Ah x] Aa fun r h'=>r=.tup [.msl 2000 x.length,vi 0]∧h'=Aj [(2000,.arr 9 ((Eo DF x.length x).map Ah))] Aa:=by
 have hk:=IZ.lend (sz:=9) (es:=(Eo DF x.length x).map Ah) (vs:=[.slice none 0 0]) (q8 (x:=Eo DF x.length x) fun r hr=>h.few r (Sq DF _ _ r hr));rw[hc]at hk;have q:=wj x h.len (fun r hm=>tb r (hr r hm) fun q hq=>((h.few r hm).2 q hq).1) hk;rw[show((Eo DF x.length x).map Ah).length=x.length by rw[Lm,LI]]at q;exact q
theorem lh{x:List Rl}(h:NG x)(hr:∀r∈x,r.reqs.length≤1000)(hc:AX (Eo DF x.length x)≠0):PC 72 [sl Ah x] (.tup [.v (.slice none 0 0),vi (AX (Eo DF x.length x))]):=by
 have hk:=IZ.lend (sz:=9) (es:=(Eo DF x.length x).map Ah) (vs:=[.slice none 0 0]) (q8 (x:=Eo DF x.length x) fun r hr=>h.few r (Sq DF _ _ r hr));exact wi x h.len (fun r hm=>tb r (hr r hm) fun q hq=>((h.few r hm).2 q hq).1) _ hc hk
theorem re{x:List Rl}(ifs:List (List AV))(s:Sl)(h:NG x)(hr:∀r∈x,r.reqs.length≤1000)(hcl:PC 73 [.slice .none ifs] (.slice .none ifs)):PC 35 [Hr x ifs,.agg (Ae s),vb true] (LX x ifs s true):=by
 have hk:=ks Vj x ifs h.few
 by_cases h0:AX x=0
 ·rw[h0]at hk;have q:=kn h hr (by rw[Jz h0];exact h0);rw[Jz h0]at q;exact nE x ifs s h0 (rg s x ifs h.len q hk hcl)
 ·have hE:GG x s true=1:=Ao h0
  by_cases hc:AX (Eo DF x.length x)=0
  ·exact ia x ifs s hE (lj s true x ifs _ (kn h hr hc) _ h0 hk)
  ·exact ia x ifs s hE (li s true x ifs _ hc (lh h hr hc))
theorem rd{x:List Rl}(ifs:List (List AV))(s:Sl)(h:NG x)(hr:∀r∈x,r.reqs.length≤1000)(hcl:PC 73 [.slice .none ifs] (.slice .none ifs)):PC 35 [Hr x ifs,.agg (Ae s),vb false] (LX x ifs s false):=by
 have hk:=ks Vj x ifs h.few
 by_cases h0:AX x=0
 ·rw[h0]at hk;have q:=kn h hr (by rw[Jz h0];exact h0);rw[Jz h0]at q;exact nD x ifs s h0 (rf s x ifs h.len q hk hcl)
 ·have hE:GG x s false=1:=Ao h0
  by_cases hc:AX (Eo DF x.length x)=0
  ·exact hJ x ifs s hE (lj s false x ifs _ (kn h hr hc) _ h0 hk)
  ·exact hJ x ifs s hE (li s false x ifs _ hc (lh h hr hc))
theorem wl(x:List Rl)(ifs:List (List AV))(s:Sl)(Yr:PC 35 [Hr x ifs,.agg (Ae s),vb true] (LX x ifs s true)):PC 11 [.agg (Ic x ifs),.agg (Ae s)] (LX x ifs s true):=by
 refine Ps ⟨[],[],[],[],[],[],[],[],[],[],[]⟩ Tryz.func11 rfl (Nz rfl) ?_;refine Yi (Nz rfl) ?_;refine Yi (Nz rfl) ?_;refine Xi .pure (Xi _ (Yi Yr ?_));refine Yi (Nz rfl) ?_;refine Yi (Nz rfl) ?_;exact .refl _
theorem wm(x:List Rl)(ifs:List (List AV))(s:Sl)(Yr:PC 35 [Hr x ifs,.agg (Ae s),vb false] (LX x ifs s false)):PC 12 [.agg (Ic x ifs),.agg (Ae s)] (LX x ifs s false):=by
 refine Ps ⟨[],[],[],[],[],[],[],[],[],[],[]⟩ Tryz.func12 rfl (Nz rfl) ?_;refine Yi (Nz rfl) ?_;refine Yi (Nz rfl) ?_;refine Xi .pure (Xi _ (Yi Yr ?_));refine Yi (Nz rfl) ?_;refine Yi (Nz rfl) ?_;exact .refl _
def H1(x:List Rl)(l:List Sl):Bool:=decide (JA x l=0)
theorem LH(l:List Sl):FI l=true↔∀j (h:j<l.length),0<j→En (l[j-1]'(by omega)).path l[j].path=true:=by
 constructor
 ·intro h j hj h0;exact(AT.1 (Nh h).1) (j-1) j (by omega) hj (by omega)
 ·intro h;refine fg (AT.2 fun i j hi hj OO=>?_);have key:∀d (hd:i+d+1<l.length),En l[i].path (l[i+d+1]'hd).path=true:=fun d=>by
   induction d with
   |zero=>intro hd;exact h (i+1) hd (by omega)
   |succ d ih=>intro hd;exact DM (ih (by omega)) (h (i+d+1+1) hd (by omega))
  have:=key (j-i-1) (by omega)
  simp only[show i+(j-i-1)+1=j by omega]at this;exact this
theorem ci{x:List Rl}{l:List Sl}{j:Nat}(hj:j<l.length)(h0:0<j)(h:¬En (l[j-1]'(by omega)).path l[j].path=true):H1 x l=false:=by
 refine AG fun e=>h ((LH l).1 (Xd e).2 j hj h0)
theorem cg{x:List Rl}{l:List Sl}(h:AX x≠0):H1 x l=false:=AG fun e=>h (Xd e).1
theorem cj{x:List Rl}{l:List Sl}(h:AX x=0)(hi:FI l=true):H1 x l=true:=AE (by
 unfold JA;rw[Ai]
 rintro(q | q)
 ·exact q h
 ·rw[hi]at q;cases q)
theorem ws(x:List Rl)(ifs:List (List AV))(l:List Sl)(hl:CU l)(hk:PC 37 [Hr x ifs] (vi (AX x))):PC 46 [.agg (Ic x ifs),sl Ae l] (vb (H1 x l)):=by
 have hl:l.length≤1073741824:=hl;refine Ps ⟨[2],[],[],[],[],[],[],[],[],[],[3,5]⟩ Tryz.func46 rfl (Nz rfl) ?_;refine Xi {q:Nat // 1≤q∧∀j (h:j<l.length),0<j→j<q→En (l[j-1]'(by omega)).path l[j].path=true} (Xi (fun q=>⟨[(1,sl Ae l),(2,.ref 2 0),(5,vi q.1)],[(2,.ro (Ic x ifs))],Aa⟩) (Xi (fun q=>l.length+1-q.1) (Yi (Xi ⟨1,Am _,fun j _ h0 h1=>absurd h1 (by omega)⟩ ?_) ?_)))
 ·exact⟨Z3,Z1,Fh,Tv⟩
 intro⟨i,i1,i2⟩;have i1:1≤i:=i1;have i2:∀j (h:j<l.length),0<j→j<i→En (l[j-1]'(by omega)).path l[j].path=true:=i2;refine Yi (fun h1=>?_) (fun h1=>?_)
 ·have h1:(i:Int)<((l.map Ae).length:Int):=h1;have n1:=MB h1;refine Yi (by show BM ((i:Int)-(1:Int));unfold BM;omega) ?_;refine Xi (Ae (l[i-1]'(by omega))) (Yi (Yi (show(0:Int)≤(i:Int)-1 by omega) (by rw[show((i:Int)-1).toNat=i-1 by omega];exact Dp (Ge (by omega)))) (Yi rfl ?_));refine Xi (Ae l[i]) (Yi (Wj n1) (Yi rfl ?_));refine Yi (fun h2=>?_) (fun h2=>?_)
  ·have h2:En (l[i-1]'(by omega)).path l[i].path=false:=(GM _ _).trans h2;refine Yi (by kernel_rfl) ?_;refine Xi ⟨[],[],Aa⟩ (Yi ⟨Tv,Tv,Fh,Tv⟩ ?_)
   exact .of_eq (show vb false=vb (H1 x l) by rw[ci n1 (by omega) (by rw[h2];decide)])
  have h2:En (l[i-1]'(by omega)).path l[i].path=true:=(GM _ _).trans (by simpa using h2);refine Yi (by kernel_rfl) ?_;refine Xi ⟨[(1,sl Ae l),(2,.ref 2 0),(5,vi i)],[(2,.ro (Ic x ifs))],Aa⟩ (Yi ⟨Z3,Z1,Fh,Tv⟩ ?_)
  refine Yi (Ii i (by omega)) ?_;refine Xi ⟨i+1,by omega,fun j hj h0 Nb=>if e:j<i then i2 j hj h0 e else by
    have e:j=i:=by omega
    subst e;exact h2⟩ ?_
  exact⟨by show l.length+1-(i+1)<l.length+1-i;omega,Z3,Z1,Fh,Tv⟩
 have h1:¬((i:Int)<((l.map Ae).length:Int)):=h1;have n1:=MA h1;refine Yi (Nz rfl) ?_;refine Xi .pure (Xi _ (Yi hk ?_));refine Yi (fun h5=>?_) (fun h5=>?_)
 ·have h5:((AX x):Int)=(0:Int):=h5;exact .of_eq (show vb true=vb (H1 x l) by rw[cj h5 ((LH l).2 fun j hj h0=>i2 j hj h0 (by omega))])
 have h5:¬(((AX x):Int)=(0:Int)):=h5;exact .of_eq (show vb false=vb (H1 x l) by rw[cg h5])
theorem cB{x:List Rl}{l:List Sl}(h:H1 x l=false):AV.tup [sl Ae (Tn x l),vi (JA x l)]=.tup [.slice .none [],vi 1]:=by
 have h:=of_decide_eq_false h;have e:JA x l=1:=(br x l).resolve_left h;unfold Tn;rw[Ai h,e];rfl
theorem g8{x:List Rl}{l:List Sl}(h:H1 x l=true):AV.tup [sl Ae (Tn x l),vi (JA x l)]=.tup [sl Ae (l.filter (EI x)),vi 0]:=by
 have h:=A8 h;unfold Tn;rw[Ao h,h]
theorem wo(x:List Rl)(ifs:List (List AV))(l:List Sl)(hl:CU l)(kD:PC 46 [Hr x ifs,sl Ae l] (vb (H1 x l)))(hf:∀z:Sl,PC 15 [Hr x ifs,vs z.path,.agg (FW z.ver)] (UJ (DV x z))):PC 22 [.agg (Ic x ifs),sl Ae l] (.tup [sl Ae (Tn x l),vi (JA x l)]):=by
 have hl:l.length≤1073741824:=hl;refine Ps ⟨[2,8,9],[(6,4)],[],[],[],[],[],[],[],[],[8]⟩ Tryz.func22 rfl (Nz rfl) ?_;refine Yi (Nz rfl) ?_;refine Dj (Bt (H1 x l)) (fun h1=>?_) (fun h1=>?_)
 ·have h1:(H1 x l)=true:=h1;refine Xi .pure (Xi _ (Yi (cb h1 kD) ?_));refine Xi {q:Nat // q≤l.length} (Xi (fun q=>⟨[(2,.ref 2 0),(6,.slice (.id 6 4) (((l.take q.1).filter (EI x)).map Ae)),(15,sl Ae l),(16,vi (l.map Ae).length),(17,vi q.1)],[(2,.ro (Ic x ifs)),(6,.tok 4 ((l.take q.1).filter (EI x)).length)],Aa⟩) (Xi (fun q=>l.length-q.1) (Yi (Xi ⟨0,AO _⟩ ?_) ?_)))
  ·exact⟨Z5,Z2,Fh,Tv⟩
  intro⟨i,i1⟩;have i1:i≤l.length:=i1;have i2:((l.take i).filter (EI x)).length≤i:=Br (BA ..) (by rw[AB];omega);refine Yi (fun h2=>?_) (fun h2=>?_)
  ·have h2:(i:Int)<((l.map Ae).length:Int):=h2;have n2:=MB h2;refine Xi (Ae l[i]) (Yi (Wj n2) (Yi rfl ?_));refine Yi (Nz rfl) ?_;refine Yi (Nz rfl) ?_;refine Yi (Nz rfl) ?_;refine Yi (Nz rfl) ?_;refine Dj (UK (DV x l[i])) (fun h3=>?_) (fun h3=>?_)
   ·refine B4 h3 (fun r h3=>?_);have kH:=(hf l[i]);rw[h3]at kH;refine Xi .pure (Xi _ (Yi kH ?_));refine Yi (Nz rfl) ?_;refine Xi ⟨[(2,.ref 2 0),(6,.slice (.id 6 4) (((l.take i).filter (EI x)).map Ae)),(8,.ref 8 0),(9,.ref 9 0),(10,vb true),(15,sl Ae l),(16,vi (l.map Ae).length),(17,vi i)],[(2,.ro (Ic x ifs)),(6,.tok 4 ((l.take i).filter (EI x)).length),(8,.ro (Ae l[i])),(9,.ro (Ah r))],Aa⟩ (Yi ⟨Z8,Z4,Fh,Tv⟩ ?_)
    refine Yi (fun h4=>?_) (fun h4=>?_)
    ·have h4:r.yanked=true:=h4;refine Yi (Nz rfl) ?_;refine Yi (az rfl (by omega) (by decide)) ?_;refine Yi (Ii i (by omega)) ?_;have ni:=n2;have hy:EI x l[i]=true:=(by unfold EI;rw[h3];exact h4);refine Xi ⟨i+1,ni⟩ ?_;exact⟨Dl l.length i (by omega),⟨Zr,⟨(show AV.slice (.id 6 4) (((l.take i).filter (EI x)).map Ae++[Ae l[i]])=.slice (.id 6 4) (((l.take (i+1)).filter (EI x)).map Ae) by rw[E0 ni,Dd,CT,Ao hy,TV,Ay];rfl),rfl⟩,Zr,Zr,Zr,Tv⟩,⟨Zr,⟨(show HO.tok 4 ((((l.take i).filter (EI x)).map Ae).length+([Ae l[i]]:List (List AV)).length)=.tok 4 ((l.take (i+1)).filter (EI x)).length by rw[E0 ni,Dd,CT,Ao hy,TV,Ac,Lm];rfl),rfl⟩,Tv⟩,Fh,Tv⟩
    have h4:r.yanked=false:=h4;refine Yi (Ii i (by omega)) ?_;have ni:=n2;have hy:EI x l[i]=false:=by unfold EI;rw[h3];exact h4
    have ef:(l.take (i+1)).filter (EI x)=(l.take i).filter (EI x):=by rw[E0 ni,Dd,CT,Ai (by rw[hy];decide),TV,BT]
    refine Xi ⟨i+1,ni⟩ ?_;exact⟨Dl l.length i (by omega),⟨Zr,⟨(show AV.slice (.id 6 4) (((l.take i).filter (EI x)).map Ae)=.slice (.id 6 4) (((l.take (i+1)).filter (EI x)).map Ae) by rw[ef]),rfl⟩,Zr,Zr,Zr,Tv⟩,⟨Zr,⟨(show HO.tok 4 ((l.take i).filter (EI x)).length=.tok 4 ((l.take (i+1)).filter (EI x)).length by rw[ef]),rfl⟩,Tv⟩,Fh,Tv⟩
   have kH:=(hf l[i]);rw[h3]at kH;refine Xi .pure (Xi _ (Yi kH ?_));refine Yi (Nz rfl) ?_;refine Xi ⟨[(2,.ref 2 0),(6,.slice (.id 6 4) (((l.take i).filter (EI x)).map Ae)),(8,.ref 8 0),(9,.ref 9 0),(10,vb false),(15,sl Ae l),(16,vi (l.map Ae).length),(17,vi i)],[(2,.ro (Ic x ifs)),(6,.tok 4 ((l.take i).filter (EI x)).length),(8,.ro (Ae l[i])),(9,.ro [vs ⟨#[]⟩,vi 0,vi 0,vi 0,.v (.slice none 0 0),vs ⟨#[]⟩,vs ⟨#[]⟩,vs ⟨#[]⟩,vb false])],Aa⟩ (Yi ⟨Z8,Z4,Fh,Tv⟩ ?_)
   refine Yi (Ii i (by omega)) ?_;have ni:=n2;have hy:EI x l[i]=false:=by unfold EI;rw[h3]
   have ef:(l.take (i+1)).filter (EI x)=(l.take i).filter (EI x):=by rw[E0 ni,Dd,CT,Ai (by rw[hy];decide),TV,BT]
   refine Xi ⟨i+1,ni⟩ ?_;exact⟨Dl l.length i (by omega),⟨Zr,⟨(show AV.slice (.id 6 4) (((l.take i).filter (EI x)).map Ae)=.slice (.id 6 4) (((l.take (i+1)).filter (EI x)).map Ae) by rw[ef]),rfl⟩,Zr,Zr,Zr,Tv⟩,⟨Zr,⟨(show HO.tok 4 ((l.take i).filter (EI x)).length=.tok 4 ((l.take (i+1)).filter (EI x)).length by rw[ef]),rfl⟩,Tv⟩,Fh,Tv⟩
  have h2:¬((i:Int)<((l.map Ae).length:Int)):=h2;have n2:=MA h2;have el:l.take i=l:=AD (by omega);exact .of_eq (show AV.tup [sl Ae ((l.take i).filter (EI x)),vi 0]=.tup [sl Ae (Tn x l),vi (JA x l)] by rw[el,g8 h1])
 have h1:(H1 x l)=false:=h1;refine Xi .pure (Xi _ (Yi (cb h1 kD) ?_));exact(show Hf (.tup [.v (.slice none 0 0),vi 1]) (.tup [.slice .none [],vi 1])from .tup ⟨.nil,.refl _,trivial⟩).trans (.of_eq (cB h1).symm)
end Go.Eng
namespace Go.Eng
theorem Zx:∀{x y:List UInt8},HU x y=true→x<y
 |x,[],h=>by cases x<;>cases h
 | [],b::y,_=>by simp
 |a::x,b::y,h=>by
  unfold HU at h;rw[List.cons_lt_cons_iff];rcases Cp _ _▸h with h | h
  ·exact .inl (A8 h)
  ·obtain⟨h1,h2⟩:=Bool.and_eq_true_iff.1 h;exact .inr ⟨A8 h1,Zx h2⟩
section
variable {α:Type}[Inhabited α][DecidableEq α]
theorem NV{R:α→α→Prop}(hR:∀a b c,R a b→R b c→R a c)(xs:List α)(hs:∀i j,(hi:i<xs.length)→(hj:j<xs.length)→i<j→xs[i]=xs[j]∨R xs[i] xs[j]):∀m,m≤xs.length →
  (Lib.compactUpTo xs.toArray m).Pairwise R∧(∀a,a∈Lib.compactUpTo xs.toArray m↔a∈xs.take m)
 |0,_=>by simp[Lib.compactUpTo]
 |m+1,h=>by
  obtain⟨h1,h2⟩:=NV hR xs hs m (by omega);have hg:xs.toArray[m]! = xs[m]'(by omega):=by simp[show m<xs.length by omega]
  rw[Lib.compactUpTo_succ,hg,Bn,Ge (by omega)]
  by_cases hk:Lib.keeps xs.toArray m=true
  ·rw[Ao hk];refine⟨?_,fun a=>by rw[AL,AL,h2];simp⟩;rw[List.pairwise_append];refine⟨h1,List.pairwise_singleton _ _,fun a ha b hb=>?_⟩;rw[Ak.1 hb];have ha:=(h2 a).1 ha;obtain⟨j,hj,rfl⟩:=CD.1 ha;rw[AB]at hj;rw[F1];unfold Lib.keeps at hk;have hk:=A8 hk;rcases hk with hk | hk
   ·omega
   ·have jh : xs.toArray[m-1]! = xs[m-1]'(by omega):=by simp[show m-1<xs.length by omega]
    rw[hg,jh]at hk;have s1:R (xs[m-1]'(by omega)) (xs[m]'(by omega)):=(hs (m-1) m (by omega) (by omega) (by omega)).elim (fun e=>absurd e.symm hk) id
    by_cases e:j=m-1
    ·subst e;exact s1
    ·rcases hs j (m-1) (by omega) (by omega) (by omega)with q | q
     ·rw[q];exact s1
     ·exact hR _ _ _ q s1
  ·rw[Ai hk,BT];refine⟨h1,fun a=>?_⟩;rw[h2,AL];refine⟨.inl,fun q=>q.elim id fun q=>?_⟩;have q:a=xs[m]:=by simpa using q
   subst q;have hk:¬(m=0∨xs.toArray[m]!≠xs.toArray[m-1]!):=fun q=>hk (AE q);have m0:0<m:=Nat.pos_of_ne_zero fun e=>hk (.inl e);have e:xs.toArray[m]! = xs.toArray[m-1]!:=AS fun e=>hk (.inr e);have jh : xs.toArray[m-1]! = xs[m-1]'(by omega):=by simp[show m-1<xs.length by omega]
   rw[hg,jh]at e;rw[e];exact CD.2 ⟨m-1,by rw[AB];omega,by rw[F1]⟩
end
theorem dy{t:List ByteArray}(ht:(t.map PV).Pairwise fun a b=>a≤b):(BS t).Pairwise (fun a b=>En a b=true)∧∀p,p∈BS t↔p∈t:=by
 have hc:=NV (R:=fun a b=>HU a b=true) (fun a b c=>No) (t.map PV) (fun i j hi hj OO=>by
  have h:=(AT.1 ht) i j hi hj OO;cases e:HU (t.map PV)[i] (t.map PV)[j]with
  |true=>exact .inr rfl
  |false =>
   cases e2:HU (t.map PV)[j] (t.map PV)[i]with
   |true=>exact absurd (Zx e2) (by simpa using h)
   |false=>exact .inl (SA e e2)) (t.map PV).length (Am _)
 rw[DA]at hc;have e:BS t=(Lib.compactUpTo (t.map PV).toArray (t.map PV).length).map Zb:=rfl;rw[e];refine⟨?_,fun p=>?_⟩
 ·rw[List.pairwise_map];exact hc.1.imp fun {a b} h=>by show HU (Zb a).data.toList (Zb b).data.toList=true;exact h
 ·rw[Al];constructor
  ·rintro⟨a,ha,rfl⟩
   obtain⟨q,hq,rfl⟩:=Al.1 ((hc.2 a).1 ha)
   have:Zb (PV q)=q:=by cases q;simp
   rw[this];exact hq
  ·intro hp;exact⟨PV p,(hc.2 _).2 (List.mem_map_of_mem hp),by cases p;simp⟩
abbrev mZ(p:ByteArray)(f t:Int):List Mv:=if f≠t then [⟨p,f,t⟩]else []
def rm:List Sl→List Sl→List Mv
 | [],[]=>[]
 |a::l,[]=>mZ a.path (place a.ver) (-1)++rm l []
 | [],b::m=>mZ b.path (-1) (place b.ver)++rm [] m
 |a::l,b::m=>if a.path=b.path then mZ a.path (place a.ver) (place b.ver)++rm l m else if En a.path b.path=true then mZ a.path (place a.ver) (-1)++rm l (b::m)else mZ b.path (-1) (place b.ver)++rm (a::l) m
termination_by l m=>l.length+m.length
def mp:List Sl→List Sl→List ByteArray
 | [],[]=>[]
 |a::l,[]=>a.path::mp l []
 | [],b::m=>b.path::mp [] m
 |a::l,b::m=>if a.path=b.path then a.path::mp l m else if En a.path b.path=true then a.path::mp l (b::m)else b.path::mp (a::l) m
termination_by l m=>l.length+m.length
theorem FN(a:Sl)(l:List Sl)(p:ByteArray):Ku (a::l) p=if a.path=p then place a.ver else Ku l p:=by
 unfold Ku BX;rw[ED]
 by_cases h:a.path=p
 ·simp[h]
 ·simp[h]
theorem Hv{l l' m m' : List Sl}{ps:List ByteArray}(h1:∀p∈ps,Ku l p=Ku l' p)(h2:∀p∈ps,Ku m p=Ku m' p):Hu l m ps=Hu l' m' ps :=
 (by
  induction ps with
  |nil=>rfl
  |cons p ps ih =>
   show(p::ps).filterMap _=(p::ps).filterMap _;rw[List.filterMap_cons,List.filterMap_cons,show JT l m p=JT l' m' p from by unfold JT;rw[h1 p (Ab ..),h2 p (Ab ..)],show ps.filterMap (JT l m)=ps.filterMap (JT l' m')from ih (fun q hq=>h1 q (Ag _ hq)) (fun q hq=>h2 q (Ag _ hq))])
theorem Il(l m:List Sl)(p:ByteArray)(ps:List ByteArray):Hu l m (p::ps)=mZ p (Ku l p) (Ku m p)++Hu l m ps:=by
 unfold Hu mZ;rw[List.filterMap_cons];unfold JT
 by_cases h:Ku l p=Ku m p
 ·simp[h]
 ·simp[h]
theorem ZO{l:List Sl}{p:ByteArray}(h:∀s∈l,s.path≠p):Ku l p=-1:=by
 unfold Ku BX;rw[DL.2 fun s hs=>by simpa using h s hs]
theorem UD(l m:List Sl)(hl:l.Pairwise mY)(hm:m.Pairwise mY):(mp l m).Pairwise (fun a b=>En a b=true)∧(∀p,p∈mp l m↔p∈l.map (·.path)∨p∈m.map (·.path))∧rm l m=Hu l m (mp l m):=by
 match l,m with
 | [],[]=>unfold mp rm;simp
 |a::l,[] =>
  obtain⟨a1,a2⟩:=BE.1 hl;obtain⟨h1,h2,h3⟩:=UD l [] a2 hm;have lt:∀p∈mp l [],En a.path p=true:=fun p hp=>by
   have:=(h2 p).1 hp
   rcases this with q | q
   ·obtain⟨s,hs,rfl⟩:=Al.1 q;exact a1 s hs
   ·cases q
  unfold mp rm;refine⟨BE.2 ⟨lt,h1⟩,fun p=>by simp[h2],?_⟩;rw[Il,h3,FN,Ao rfl]
  congr 1
  exact Hv (fun p hp=>by rw[FN,Ai (HQ (lt p hp))]) fun _ _=>rfl
 | [],b::m =>
  obtain⟨a1,a2⟩:=BE.1 hm;obtain⟨h1,h2,h3⟩:=UD [] m hl a2;have lt:∀p∈mp [] m,En b.path p=true:=fun p hp=>by
   have:=(h2 p).1 hp
   rcases this with q | q
   ·cases q
   ·obtain⟨s,hs,rfl⟩:=Al.1 q;exact a1 s hs
  unfold mp rm;refine⟨BE.2 ⟨lt,h1⟩,fun p=>by simp[h2],?_⟩;rw[Il,h3,FN,Ao rfl]
  congr 1
  exact Hv (fun _ _=>rfl) fun p hp=>by rw[FN,Ai (HQ (lt p hp))]
 |a::l,b::m =>
  obtain⟨a1,a2⟩:=BE.1 hl;obtain⟨b1,b2⟩:=BE.1 hm;unfold mp rm
  by_cases e:a.path=b.path
  ·rw[Ao e,Ao e];obtain⟨h1,h2,h3⟩:=UD l m a2 b2;have lt:∀p∈mp l m,En a.path p=true:=fun p hp=>by
    rcases(h2 p).1 hp with q | q
    ·obtain⟨s,hs,rfl⟩:=Al.1 q;exact a1 s hs
    ·obtain⟨s,hs,rfl⟩:=Al.1 q;rw[e];exact b1 s hs
   refine⟨BE.2 ⟨lt,h1⟩,fun p=>?_,?_⟩
   ·simp only[Au,h2,AJ,e];constructor
    ·rintro(q | q | q)
     ·exact .inl (.inl q)
     ·exact .inl (.inr q)
     ·exact .inr (.inr q)
    ·rintro((q | q) | (q | q))
     ·exact .inl q
     ·exact .inr (.inl q)
     ·exact .inl q
     ·exact .inr (.inr q)
   ·rw[Il,h3,FN,Ao rfl,FN,Ao e.symm]
    congr 1
    exact Hv (fun p hp=>by rw[FN,Ai (HQ (lt p hp))]) fun p hp=>by rw[FN,Ai (by rw[←e];exact HQ (lt p hp))]
  ·rw[Ai e,Ai e]
   by_cases c:En a.path b.path=true
   ·rw[Ao c,Ao c];obtain⟨h1,h2,h3⟩:=UD l (b::m) a2 hm;have la:∀s∈b::m,En a.path s.path=true:=fun s hs=>by
     rcases Au.1 hs with rfl | hs
     ·exact c
     ·exact DM c (b1 s hs)
    have lt:∀p∈mp l (b::m),En a.path p=true:=fun p hp=>by
     rcases(h2 p).1 hp with q | q
     ·obtain⟨s,hs,rfl⟩:=Al.1 q;exact a1 s hs
     ·obtain⟨s,hs,rfl⟩:=Al.1 q;exact la s hs
    refine⟨BE.2 ⟨lt,h1⟩,fun p=>by rw[Au,h2,AJ,Au,AJ (l:=l),Au (l:=l.map _),or_assoc],?_⟩;rw[Il,h3,FN,Ao rfl,ZO (l:=b::m) fun s hs=>(HQ (la s hs)).symm]
    congr 1
    exact Hv (fun p hp=>by rw[FN,Ai (HQ (lt p hp))]) fun _ _=>rfl
   ·rw[Ai c,Ai c];have c' : En b.path a.path=true:=by
     cases q:En b.path a.path with
     |true=>rfl
     |false=>exact absurd (Hh (by simpa using c) q) e
    obtain⟨h1,h2,h3⟩:=UD (a::l) m hl b2;have la:∀s∈a::l,En b.path s.path=true:=fun s hs=>by
     rcases Au.1 hs with rfl | hs
     ·exact c'
     ·exact DM c' (a1 s hs)
    have lt:∀p∈mp (a::l) m,En b.path p=true:=fun p hp=>by
     rcases(h2 p).1 hp with q | q
     ·obtain⟨s,hs,rfl⟩:=Al.1 q;exact la s hs
     ·obtain⟨s,hs,rfl⟩:=Al.1 q;exact b1 s hs
    refine⟨BE.2 ⟨lt,h1⟩,fun p=>?_,?_⟩
    ·rw[Au,h2,AJ,AJ,Au,Au];constructor
     ·rintro(q | q | q)
      ·exact .inr (.inl q)
      ·exact .inl q
      ·exact .inr (.inr q)
     ·rintro(q | q | q)
      ·exact .inr (.inl q)
      ·exact .inl q
      ·exact .inr (.inr q)
    ·rw[Il,h3,ZO (l:=a::l) fun s hs=>(HQ (la s hs)).symm,FN b m,Ao rfl]
     congr 1
     exact Hv (fun _ _=>rfl) fun p hp=>by rw[FN b m,Ai (HQ (lt p hp))]
termination_by l.length+m.length
theorem fG{l m:List Sl}{t:List ByteArray}(hl:Lr l)(hm:Lr m)(hp:t.Perm ((l++m).map (·.path)))(ht:(t.map PV).Pairwise fun a b=>a≤b):Hu l m (BS t)=rm l m:=by
 obtain⟨h1,h2,h3⟩:=UD l m hl.inc hm.inc;obtain⟨c1,c2⟩:=dy ht;rw[h3]
 congr 1
 refine List.Perm.eq_of_pairwise (le:=fun a b=>En a b=true) (fun a b _ _ x y=>?_) c1 h1 ?_
 ·rw[L8 x]at y;cases y
 ·refine(NI (c1.imp fun h=>HQ h) (h1.imp fun h=>HQ h)).2 fun p=>?_;rw[c2,h2,hp.mem_iff,Ay,AL]
end Go.Eng
