/- Lemmas for the claims of this seat, without a condition: part 31 (V8, V9, V10, V11, V4). -/
import Derived.Test.YtddfphmpfnmknaaGreatDoorDA30
set_option maxHeartbeats 4000000
namespace Go.Eng
open Go.Proofs
def Oj(y:Bool)(p:Sl→Bool)(r:Rl):Rl:=if p (DL r)=true then { r with yanked:=y }else r
theorem Mw{α β:Type}{f:α→β}{N:List α}{i:Nat}{r:α}(h:N[i]?=some r):N.map f=(N.set i r).map f:=by
 obtain⟨hi,rfl⟩:=As.1 h;rw[List.set_getElem_self]
theorem PI(r:Rl):PC 40 [.agg (Ag r)] (.agg (Ad (DL r))):=by
 refine Ps ⟨[],[],[],[],[],[],[],[],[],[],[]⟩ Tryz.func40 rfl (Nz rfl) ?_;refine Yi (Nz rfl) ?_;refine Yi (Nz rfl) ?_;refine Yi (Nz rfl) ?_;exact .refl _
theorem pH(N:List Rl)(i:Nat)(r:Rl)(s:Sl)(a b:Bool)(gi:N[i]?=some r)(hs:DL r=s):A6 Tryz.prog 56 [.eref 1000 N.length 9 i 0,.cptr (Ad s),.cptr [vb true],.ref 1001 0,.ref 1002 0] (Ak [(1000,.arr 9 (N.map Ag)),(1001,.cells [vb a]),(1002,.cells [vb b])] Aa) fun r' h'=>r'=.tup []∧h'=Ak [(1000,.arr 9 ((N.set i (Oj true (Jb s) r)).map Ag)),(1001,.cells [vb (if DL r=s then true else a)]),(1002,.cells [vb (if DL r=s then decide (r.yanked=true)else b)])] Aa:=by
 refine BW (Lg ⟨[],[],[],[],[],[],[],[],[],[],[2]⟩) [(1000,1000),(1001,1001),(1002,1002)] rfl Cw hm rfl Tryz.func56 (by kernel_rfl) rfl (Nz rfl) (by kernel_rfl) rfl ?_;refine Yi (show N.length=(N.map Ag).length by simp) (Xi (Ag r) (Yi (CC gi) ?_));refine Yi (Nz rfl) ?_;refine Xi _ (Yi (PI r) ?_);refine Yi (Nz rfl) ?_;refine Yi (fun h1=>?_) (fun h1=>?_)
 ·have h1:((DL r).path:ByteArray)=s.path∧((DL r).ver.a:Int)=s.ver.a∧((DL r).ver.b:Int)=s.ver.b∧((DL r).ver.c:Int)=s.ver.c∧True:=h1;refine Yi (by kernel_rfl) ?_;refine Yi (show N.length=(N.map Ag).length by simp) (Xi (Ag r) (Yi (CC gi) ?_));refine Yi (fun h2=>?_) (fun h2=>?_)
  ·have h2:r.yanked=true:=h2;refine Yi (fun _=>?_) (fun h=>absurd h (by decide));refine Yi (Nz rfl) ?_;refine Yi (Nz rfl) ?_;refine Yi (by kernel_rfl) ?_;refine Xi ⟨[(0,.eref 1000 N.length 9 i 0),(2,.cptr [vb true])],[(1000,.arr 9 (N.map Ag)),(1001,.cells [vb true]),(1002,.cells [vb true])],Aa⟩ (Yi ⟨Z2,Z3,Fh,AB (by kernel_rfl)⟩ ?_)
   refine Yi (fun _=>?_) (fun h=>absurd h (by decide));refine Yi (show N.length=(N.map Ag).length by simp) (Xi (Ag r) (Yi (CC gi) (Yi (Nz rfl) ?_)));have e1:(if DL r=s then true else a)=true:=Ap hs;have e2:(if DL r=s then decide (r.yanked=true)else b)=true:=by rw[Ap hs,h2];rfl
   exact Xi _ (Yi (.refl _) ⟨rfl,show Ak [(1000,HO.arr 9 ((N.map Ag).set i [vs r.path,vi r.ver.a,vi r.ver.b,vi r.ver.c,sl AF r.reqs,vs r.arch,vs r.ifc,vs r.cert,vb true])),(1001,.cells [vb true]),(1002,.cells [vb true])] Aa=Ak [(1000,HO.arr 9 ((N.set i (Oj true (Jb s) r)).map Ag)),(1001,.cells [vb (if DL r=s then true else a)]),(1002,.cells [vb (if DL r=s then decide (r.yanked=true)else b)])] Aa by rw[e1,e2,EQ,Oj,Ap (Ar hs)]⟩)
  have h2:r.yanked=false:=h2;refine Yi (fun _=>?_) (fun h=>absurd h (by decide));refine Yi (Nz rfl) ?_;refine Yi (Nz rfl) ?_;refine Yi (by kernel_rfl) ?_;refine Xi ⟨[(0,.eref 1000 N.length 9 i 0),(2,.cptr [vb true])],[(1000,.arr 9 (N.map Ag)),(1001,.cells [vb true]),(1002,.cells [vb false])],Aa⟩ (Yi ⟨Z2,Z3,Fh,AB (by kernel_rfl)⟩ ?_)
  refine Yi (fun _=>?_) (fun h=>absurd h (by decide));refine Yi (show N.length=(N.map Ag).length by simp) (Xi (Ag r) (Yi (CC gi) (Yi (Nz rfl) ?_)));have e1:(if DL r=s then true else a)=true:=Ap hs;have e2:(if DL r=s then decide (r.yanked=true)else b)=false:=by rw[Ap hs,h2];rfl
  exact Xi _ (Yi (.refl _) ⟨rfl,show Ak [(1000,HO.arr 9 ((N.map Ag).set i [vs r.path,vi r.ver.a,vi r.ver.b,vi r.ver.c,sl AF r.reqs,vs r.arch,vs r.ifc,vs r.cert,vb true])),(1001,.cells [vb true]),(1002,.cells [vb false])] Aa=Ak [(1000,HO.arr 9 ((N.set i (Oj true (Jb s) r)).map Ag)),(1001,.cells [vb (if DL r=s then true else a)]),(1002,.cells [vb (if DL r=s then decide (r.yanked=true)else b)])] Aa by rw[e1,e2,EQ,Oj,Ap (Ar hs)]⟩)
 have h1:¬(((DL r).path:ByteArray)=s.path∧((DL r).ver.a:Int)=s.ver.a∧((DL r).ver.b:Int)=s.ver.b∧((DL r).ver.c:Int)=s.ver.c∧True):=h1;exact absurd (show((DL r).path:ByteArray)=s.path∧((DL r).ver.a:Int)=s.ver.a∧((DL r).ver.b:Int)=s.ver.b∧((DL r).ver.c:Int)=s.ver.c∧True by rw[hs];exact⟨rfl,rfl,rfl,rfl,trivial⟩) h1
theorem pG(N:List Rl)(i:Nat)(r:Rl)(s:Sl)(a b:Bool)(gi:N[i]?=some r)(hs:¬DL r=s):A6 Tryz.prog 56 [.eref 1000 N.length 9 i 0,.cptr (Ad s),.cptr [vb true],.ref 1001 0,.ref 1002 0] (Ak [(1000,.arr 9 (N.map Ag)),(1001,.cells [vb a]),(1002,.cells [vb b])] Aa) fun r' h'=>r'=.tup []∧h'=Ak [(1000,.arr 9 ((N.set i (Oj true (Jb s) r)).map Ag)),(1001,.cells [vb (if DL r=s then true else a)]),(1002,.cells [vb (if DL r=s then decide (r.yanked=true)else b)])] Aa:=by
 refine BW (Lg ⟨[],[],[],[],[],[],[],[],[],[],[2]⟩) [(1000,1000),(1001,1001),(1002,1002)] rfl Cw hm rfl Tryz.func56 (by kernel_rfl) rfl (Nz rfl) (by kernel_rfl) rfl ?_;refine Yi (show N.length=(N.map Ag).length by simp) (Xi (Ag r) (Yi (CC gi) ?_));refine Yi (Nz rfl) ?_;refine Xi _ (Yi (PI r) ?_);refine Yi (Nz rfl) ?_;refine Yi (fun h1=>?_) (fun h1=>?_)
 ·have h1:((DL r).path:ByteArray)=s.path∧((DL r).ver.a:Int)=s.ver.a∧((DL r).ver.b:Int)=s.ver.b∧((DL r).ver.c:Int)=s.ver.c∧True:=h1;exact absurd (YV h1) hs
 have h1:¬(((DL r).path:ByteArray)=s.path∧((DL r).ver.a:Int)=s.ver.a∧((DL r).ver.b:Int)=s.ver.b∧((DL r).ver.c:Int)=s.ver.c∧True):=h1;refine Yi (by kernel_rfl) ?_;exact Xi _ (Yi (.refl _) ⟨rfl,show Ak [(1000,HO.arr 9 (N.map Ag)),(1001,.cells [vb a]),(1002,.cells [vb b])] Aa=Ak [(1000,.arr 9 ((N.set i (Oj true (Jb s) r)).map Ag)),(1001,.cells [vb (if DL r=s then true else a)]),(1002,.cells [vb (if DL r=s then decide (r.yanked=true)else b)])] Aa by rw[Aj hs,Aj hs,Oj,Aj (fun h=>hs (A5 h)),Mw gi]⟩)
theorem tK(N:List Rl)(i:Nat)(r:Rl)(s:Sl)(a b:Bool)(gi:N[i]?=some r):A6 Tryz.prog 56 [.eref 1000 N.length 9 i 0,.cptr (Ad s),.cptr [vb true],.ref 1001 0,.ref 1002 0] (Ak [(1000,.arr 9 (N.map Ag)),(1001,.cells [vb a]),(1002,.cells [vb b])] Aa) fun r' h'=>r'=.tup []∧h'=Ak [(1000,.arr 9 ((N.set i (Oj true (Jb s) r)).map Ag)),(1001,.cells [vb (if DL r=s then true else a)]),(1002,.cells [vb (if DL r=s then decide (r.yanked=true)else b)])] Aa:=by
 by_cases hs:DL r=s
 ·exact pH N i r s a b gi hs
 ·exact pG N i r s a b gi hs
theorem pF(N:List Rl)(i:Nat)(r:Rl)(s:Sl)(a b:Bool)(gi:N[i]?=some r)(hs:DL r=s):A6 Tryz.prog 56 [.eref 1000 N.length 9 i 0,.cptr (Ad s),.cptr [vb false],.ref 1001 0,.ref 1002 0] (Ak [(1000,.arr 9 (N.map Ag)),(1001,.cells [vb a]),(1002,.cells [vb b])] Aa) fun r' h'=>r'=.tup []∧h'=Ak [(1000,.arr 9 ((N.set i (Oj false (Jb s) r)).map Ag)),(1001,.cells [vb (if DL r=s then true else a)]),(1002,.cells [vb (if DL r=s then decide (r.yanked=false)else b)])] Aa:=by
 refine BW (Lg ⟨[],[],[],[],[],[],[],[],[],[],[2]⟩) [(1000,1000),(1001,1001),(1002,1002)] rfl Cw hm rfl Tryz.func56 (by kernel_rfl) rfl (Nz rfl) (by kernel_rfl) rfl ?_;refine Yi (show N.length=(N.map Ag).length by simp) (Xi (Ag r) (Yi (CC gi) ?_));refine Yi (Nz rfl) ?_;refine Xi _ (Yi (PI r) ?_);refine Yi (Nz rfl) ?_;refine Yi (fun h1=>?_) (fun h1=>?_)
 ·have h1:((DL r).path:ByteArray)=s.path∧((DL r).ver.a:Int)=s.ver.a∧((DL r).ver.b:Int)=s.ver.b∧((DL r).ver.c:Int)=s.ver.c∧True:=h1;refine Yi (by kernel_rfl) ?_;refine Yi (show N.length=(N.map Ag).length by simp) (Xi (Ag r) (Yi (CC gi) ?_));refine Yi (fun h2=>?_) (fun h2=>?_)
  ·have h2:r.yanked=true:=h2;refine Yi (fun h=>absurd h (by decide)) (fun _=>?_);refine Yi (Nz rfl) ?_;refine Yi (Nz rfl) ?_;refine Yi (by kernel_rfl) ?_;refine Xi ⟨[(0,.eref 1000 N.length 9 i 0),(2,.cptr [vb false])],[(1000,.arr 9 (N.map Ag)),(1001,.cells [vb true]),(1002,.cells [vb false])],Aa⟩ (Yi ⟨Z2,Z3,Fh,AB (by kernel_rfl)⟩ ?_)
   refine Yi (fun h=>absurd h (by decide)) (fun _=>?_);refine Yi (show N.length=(N.map Ag).length by simp) (Xi (Ag r) (Yi (CC gi) (Yi (Nz rfl) ?_)));have e1:(if DL r=s then true else a)=true:=Ap hs;have e2:(if DL r=s then decide (r.yanked=false)else b)=false:=by rw[Ap hs,h2];rfl
   exact Xi _ (Yi (.refl _) ⟨rfl,show Ak [(1000,HO.arr 9 ((N.map Ag).set i [vs r.path,vi r.ver.a,vi r.ver.b,vi r.ver.c,sl AF r.reqs,vs r.arch,vs r.ifc,vs r.cert,vb false])),(1001,.cells [vb true]),(1002,.cells [vb false])] Aa=Ak [(1000,HO.arr 9 ((N.set i (Oj false (Jb s) r)).map Ag)),(1001,.cells [vb (if DL r=s then true else a)]),(1002,.cells [vb (if DL r=s then decide (r.yanked=false)else b)])] Aa by rw[e1,e2,EQ,Oj,Ap (Ar hs)]⟩)
  have h2:r.yanked=false:=h2;refine Yi (fun h=>absurd h (by decide)) (fun _=>?_);refine Yi (Nz rfl) ?_;refine Yi (Nz rfl) ?_;refine Yi (by kernel_rfl) ?_;refine Xi ⟨[(0,.eref 1000 N.length 9 i 0),(2,.cptr [vb false])],[(1000,.arr 9 (N.map Ag)),(1001,.cells [vb true]),(1002,.cells [vb true])],Aa⟩ (Yi ⟨Z2,Z3,Fh,AB (by kernel_rfl)⟩ ?_)
  refine Yi (fun h=>absurd h (by decide)) (fun _=>?_);refine Yi (show N.length=(N.map Ag).length by simp) (Xi (Ag r) (Yi (CC gi) (Yi (Nz rfl) ?_)));have e1:(if DL r=s then true else a)=true:=Ap hs;have e2:(if DL r=s then decide (r.yanked=false)else b)=true:=by rw[Ap hs,h2];rfl
  exact Xi _ (Yi (.refl _) ⟨rfl,show Ak [(1000,HO.arr 9 ((N.map Ag).set i [vs r.path,vi r.ver.a,vi r.ver.b,vi r.ver.c,sl AF r.reqs,vs r.arch,vs r.ifc,vs r.cert,vb false])),(1001,.cells [vb true]),(1002,.cells [vb true])] Aa=Ak [(1000,HO.arr 9 ((N.set i (Oj false (Jb s) r)).map Ag)),(1001,.cells [vb (if DL r=s then true else a)]),(1002,.cells [vb (if DL r=s then decide (r.yanked=false)else b)])] Aa by rw[e1,e2,EQ,Oj,Ap (Ar hs)]⟩)
 have h1:¬(((DL r).path:ByteArray)=s.path∧((DL r).ver.a:Int)=s.ver.a∧((DL r).ver.b:Int)=s.ver.b∧((DL r).ver.c:Int)=s.ver.c∧True):=h1;exact absurd (show((DL r).path:ByteArray)=s.path∧((DL r).ver.a:Int)=s.ver.a∧((DL r).ver.b:Int)=s.ver.b∧((DL r).ver.c:Int)=s.ver.c∧True by rw[hs];exact⟨rfl,rfl,rfl,rfl,trivial⟩) h1
theorem pE(N:List Rl)(i:Nat)(r:Rl)(s:Sl)(a b:Bool)(gi:N[i]?=some r)(hs:¬DL r=s):A6 Tryz.prog 56 [.eref 1000 N.length 9 i 0,.cptr (Ad s),.cptr [vb false],.ref 1001 0,.ref 1002 0] (Ak [(1000,.arr 9 (N.map Ag)),(1001,.cells [vb a]),(1002,.cells [vb b])] Aa) fun r' h'=>r'=.tup []∧h'=Ak [(1000,.arr 9 ((N.set i (Oj false (Jb s) r)).map Ag)),(1001,.cells [vb (if DL r=s then true else a)]),(1002,.cells [vb (if DL r=s then decide (r.yanked=false)else b)])] Aa:=by
 refine BW (Lg ⟨[],[],[],[],[],[],[],[],[],[],[2]⟩) [(1000,1000),(1001,1001),(1002,1002)] rfl Cw hm rfl Tryz.func56 (by kernel_rfl) rfl (Nz rfl) (by kernel_rfl) rfl ?_;refine Yi (show N.length=(N.map Ag).length by simp) (Xi (Ag r) (Yi (CC gi) ?_));refine Yi (Nz rfl) ?_;refine Xi _ (Yi (PI r) ?_);refine Yi (Nz rfl) ?_;refine Yi (fun h1=>?_) (fun h1=>?_)
 ·have h1:((DL r).path:ByteArray)=s.path∧((DL r).ver.a:Int)=s.ver.a∧((DL r).ver.b:Int)=s.ver.b∧((DL r).ver.c:Int)=s.ver.c∧True:=h1;exact absurd (YV h1) hs
 have h1:¬(((DL r).path:ByteArray)=s.path∧((DL r).ver.a:Int)=s.ver.a∧((DL r).ver.b:Int)=s.ver.b∧((DL r).ver.c:Int)=s.ver.c∧True):=h1;refine Yi (by kernel_rfl) ?_;exact Xi _ (Yi (.refl _) ⟨rfl,show Ak [(1000,HO.arr 9 (N.map Ag)),(1001,.cells [vb a]),(1002,.cells [vb b])] Aa=Ak [(1000,.arr 9 ((N.set i (Oj false (Jb s) r)).map Ag)),(1001,.cells [vb (if DL r=s then true else a)]),(1002,.cells [vb (if DL r=s then decide (r.yanked=false)else b)])] Aa by rw[Aj hs,Aj hs,Oj,Aj (fun h=>hs (A5 h)),Mw gi]⟩)
theorem tJ(N:List Rl)(i:Nat)(r:Rl)(s:Sl)(a b:Bool)(gi:N[i]?=some r):A6 Tryz.prog 56 [.eref 1000 N.length 9 i 0,.cptr (Ad s),.cptr [vb false],.ref 1001 0,.ref 1002 0] (Ak [(1000,.arr 9 (N.map Ag)),(1001,.cells [vb a]),(1002,.cells [vb b])] Aa) fun r' h'=>r'=.tup []∧h'=Ak [(1000,.arr 9 ((N.set i (Oj false (Jb s) r)).map Ag)),(1001,.cells [vb (if DL r=s then true else a)]),(1002,.cells [vb (if DL r=s then decide (r.yanked=false)else b)])] Aa:=by
 by_cases hs:DL r=s
 ·exact pF N i r s a b gi hs
 ·exact pE N i r s a b gi hs
theorem tH(N:List Rl)(i:Nat)(r:Rl)(l:List Sl)(hl:Cp l)(gi:N[i]?=some r)(hs:DL r∈l):A6 Tryz.prog 51 [.eref 1000 N.length 9 i 0,.cptr [sl Ad l]] (Ak [(1000,.arr 9 (N.map Ag))] Aa) fun r' h'=>r'=.tup []∧h'=Ak [(1000,.arr 9 ((N.set i (Oj false (HB l) r)).map Ag))] Aa:=by
 have hc:=o27 l (DL r) hl;rw[Ar hs]at hc;refine BW (Lg ⟨[],[],[],[],[],[],[],[],[],[],[]⟩) [(1000,1000)] rfl Cw hm rfl Tryz.func51 (by kernel_rfl) rfl (Nz rfl) (by kernel_rfl) rfl ?_;refine Yi (show N.length=(N.map Ag).length by simp) (Xi (Ag r) (Yi (CC gi) ?_));refine Yi (Nz rfl) ?_;refine Xi _ (Yi (PI r) ?_);refine Xi _ (Yi hc ?_);refine Yi (by kernel_rfl) ?_;refine Yi (show N.length=(N.map Ag).length by simp) (Xi (Ag r) (Yi (CC gi) (Yi (Nz rfl) ?_)));exact Xi _ (Yi (.refl _) ⟨rfl,show Ak [(1000,HO.arr 9 ((N.map Ag).set i [vs r.path,vi r.ver.a,vi r.ver.b,vi r.ver.c,sl AF r.reqs,vs r.arch,vs r.ifc,vs r.cert,vb false]))] Aa=Ak [(1000,HO.arr 9 ((N.set i (Oj false (HB l) r)).map Ag))] Aa by rw[EQ,Oj,Ap (Ar hs)]⟩)
theorem tG(N:List Rl)(i:Nat)(r:Rl)(l:List Sl)(hl:Cp l)(gi:N[i]?=some r)(hs:¬DL r∈l):A6 Tryz.prog 51 [.eref 1000 N.length 9 i 0,.cptr [sl Ad l]] (Ak [(1000,.arr 9 (N.map Ag))] Aa) fun r' h'=>r'=.tup []∧h'=Ak [(1000,.arr 9 ((N.set i (Oj false (HB l) r)).map Ag))] Aa:=by
 have hc:=o27 l (DL r) hl;rw[Ao hs]at hc;refine BW (Lg ⟨[],[],[],[],[],[],[],[],[],[],[]⟩) [(1000,1000)] rfl Cw hm rfl Tryz.func51 (by kernel_rfl) rfl (Nz rfl) (by kernel_rfl) rfl ?_;refine Yi (show N.length=(N.map Ag).length by simp) (Xi (Ag r) (Yi (CC gi) ?_));refine Yi (Nz rfl) ?_;refine Xi _ (Yi (PI r) ?_);refine Xi _ (Yi hc ?_);refine Yi (by kernel_rfl) ?_;exact Xi _ (Yi (.refl _) ⟨rfl,show Ak [(1000,HO.arr 9 (N.map Ag))] Aa=Ak [(1000,.arr 9 ((N.set i (Oj false (HB l) r)).map Ag))] Aa by rw[Oj,Aj (fun h=>hs (A5 h)),Mw gi]⟩)
theorem yU(N:List Rl)(i:Nat)(r:Rl)(l:List Sl)(hl:Cp l)(gi:N[i]?=some r):A6 Tryz.prog 51 [.eref 1000 N.length 9 i 0,.cptr [sl Ad l]] (Ak [(1000,.arr 9 (N.map Ag))] Aa) fun r' h'=>r'=.tup []∧h'=Ak [(1000,.arr 9 ((N.set i (Oj false (HB l) r)).map Ag))] Aa:=by
 by_cases hs:DL r∈l
 ·exact tH N i r l hl gi hs
 ·exact tG N i r l hl gi hs
theorem mX(s:Sl)(y:Bool)(x:List Rl)(ifs:List (List AV))(c:Int)(og:c≠0)(kE:PC 72 [sl Ag x] (.tup [.v (.slice none 0 0),vi c])):A6 Tryz.prog 50 [.agg (Ic x ifs),.clo 56 [.cptr (Ad s),.cptr [vb y],.ref 1000 0,.ref 1001 0]] (Ak [(1000,.cells [vb false]),(1001,.cells [vb false])] Aa) fun r h'=>r=.tup [.agg [.v (.slice none 0 0),.v (.slice none 0 0)],vi 1]∧h'=Ak [(1000,.cells [vb false]),(1001,.cells [vb false])] Aa:=by
 refine BW (Lg ⟨[2],[],[],[],[],[],[],[],[],[],[3,4]⟩) [(1000,1000),(1001,1001)] rfl Cw hm rfl Tryz.func50 (by kernel_rfl) rfl (Nz rfl) (by kernel_rfl) rfl ?_;refine Xi .pure (Xi _ (Yi kE ?_));refine Yi (fun h1=>?_) (fun h1=>?_)
 ·have h1:(c:Int)≠(0:Int):=h1;refine Xi ⟨[(4,.ref 4 0)],[(4,.cells [.v (.slice none 0 0),.v (.slice none 0 0)]),(1000,.cells [vb false]),(1001,.cells [vb false])],Aa⟩ (Yi ⟨Z1,Z3,Fh,AB (by kernel_rfl)⟩ ?_)
  refine Yi (Nz rfl) ?_;refine Yi (Nz rfl) ?_;exact Xi _ (Yi (.refl _) Zr)
 have h1:(c:Int)=(0:Int):=AN h1;exact absurd h1 og
theorem mY(s:Sl)(y:Bool)(x:List Rl)(ifs:List (List AV))(es:List (List AV))(kE:A6 Tryz.prog 72 [sl Ag x] Aa fun r h'=>r=.tup [.msl 2000 x.length,vi 0]∧h'=Ak [(2000,.arr 9 es)] Aa)(k:Int)(Rf:k≠0)(hk:PC 37 [EV x ifs] (vi k)):A6 Tryz.prog 50 [.agg (Ic x ifs),.clo 56 [.cptr (Ad s),.cptr [vb y],.ref 1000 0,.ref 1001 0]] (Ak [(1000,.cells [vb false]),(1001,.cells [vb false])] Aa) fun r h'=>r=.tup [.agg [.v (.slice none 0 0),.v (.slice none 0 0)],vi 1]∧h'=Ak [(1000,.cells [vb false]),(1001,.cells [vb false])] Aa:=by
 refine BW (Lg ⟨[2],[],[],[],[],[],[],[],[],[],[3,4]⟩) [(1000,1000),(1001,1001)] rfl Cw hm rfl Tryz.func50 (by kernel_rfl) rfl (Nz rfl) (by kernel_rfl) rfl ?_;refine Xi (.gen [] 1) (Yi rfl (A6.to2 kE ?_));refine Yi (fun h=>absurd h (by decide)) (fun _=>?_);refine Yi (Nz rfl) ?_;refine Xi .pure (Xi _ (Yi hk ?_));refine Yi (fun h1=>?_) (fun h1=>?_)
 ·have h1:(k:Int)≠(0:Int):=h1;refine Xi ⟨[(4,.ref 4 0)],[(4,.cells [.v (.slice none 0 0),.v (.slice none 0 0)]),(1000,.cells [vb false]),(1001,.cells [vb false])],Aa⟩ (Yi ⟨Z1,Z3,Fh,AB (by kernel_rfl)⟩ ?_)
  refine Yi (Nz rfl) ?_;refine Yi (Nz rfl) ?_;exact Xi _ (Yi (.refl _) Zr)
 have h1:(k:Int)=(0:Int):=AN h1;exact absurd h1 Rf
theorem M5{y:Bool}{p:Sl→Bool}{x:List Rl}{i:Nat}:(yk y p (x.take i)++x.drop i).length=x.length:=by
 rw[Ae,Ok,AC,Cu];omega
theorem tE(s:Sl)(x:List Rl)(ifs:List (List AV))(hx:x.length≤16)(kE:A6 Tryz.prog 72 [sl Ag x] Aa fun r h'=>r=.tup [.msl 2000 x.length,vi 0]∧h'=Ak [(2000,.arr 9 (x.map Ag))] Aa)(hk:PC 37 [EV x ifs] (vi 0))(hcl:PC 73 [.slice .none ifs] (.slice .none ifs)):A6 Tryz.prog 50 [.agg (Ic x ifs),.clo 56 [.cptr (Ad s),.cptr [vb true],.ref 1000 0,.ref 1001 0]] (Ak [(1000,.cells [vb false]),(1001,.cells [vb false])] Aa) fun r h'=>r=.tup [EV (yk true (Jb s) x) ifs,vi 0]∧h'=Ak [(1000,.cells [vb (fs s true x).1]),(1001,.cells [vb (fs s true x).2])] Aa:=by
 refine BW (Lg ⟨[2],[],[],[],[],[],[],[],[],[(200009,6)],[3,4,5,6,9]⟩) [(1000,1000),(1001,1001)] rfl Cw hm rfl Tryz.func50 (by kernel_rfl) rfl (Nz rfl) (by kernel_rfl) rfl ?_;refine Xi (.gen [] 1) (Yi rfl (A6.to2 kE ?_));refine Yi (fun h=>absurd h (by decide)) (fun _=>?_);refine Yi (Nz rfl) ?_;refine Xi .pure (Xi _ (Yi hk ?_));refine Yi (fun h=>absurd h (by decide)) (fun _=>?_);refine Xi ⟨[(1,.clo 56 [.cptr (Ad s),.cptr [vb true],.ref 1000 0,.ref 1001 0]),(2,.ref 2 0),(4,.ref 4 0),(6,.msl 11200 x.length)],[(2,.ro (Ic x ifs)),(4,.cells [.v (.slice none 0 0),.v (.slice none 0 0)]),(1000,.cells [vb false]),(1001,.cells [vb false]),(11200,.arr 9 (x.map Ag))],Aa⟩ (Yi ⟨Z4,Z5,Fh,AB (by kernel_rfl)⟩ ?_)
 refine Xi {q:Nat // q≤x.length} (Xi (fun q=>⟨[(1,.clo 56 [.cptr (Ad s),.cptr [vb true],.ref 1000 0,.ref 1001 0]),(2,.ref 2 0),(4,.ref 4 0),(6,.msl 11200 x.length),(24,vi x.length),(25,vi q.1)],[(2,.ro (Ic x ifs)),(4,.cells [.v (.slice none 0 0),.v (.slice none 0 0)]),(1000,.cells [vb (fs s true (x.take q.1)).1]),(1001,.cells [vb (fs s true (x.take q.1)).2]),(11200,.arr 9 ((yk true (Jb s) (x.take q.1)++x.drop q.1).map Ag))],Aa⟩) (Xi (fun q=>x.length-q.1) (Yi (Xi ⟨0,AD _⟩ ?_) ?_)))
 ·exact⟨Z6,Z5,Fh,AB (by kernel_rfl)⟩
 intro⟨i,i1⟩;have i1:i≤x.length:=i1;refine Xi ⟨[(1,.clo 56 [.cptr (Ad s),.cptr [vb true],.ref 1000 0,.ref 1001 0]),(2,.ref 2 0),(4,.ref 4 0),(6,.msl 11200 x.length),(24,vi x.length),(25,vi i)],[(2,.ro (Ic x ifs)),(4,.cells [.v (.slice none 0 0),.v (.slice none 0 0)]),(1000,.cells [vb (fs s true (x.take i)).1]),(1001,.cells [vb (fs s true (x.take i)).2]),(11200,.arr 9 ((yk true (Jb s) (x.take i)++x.drop i).map Ag))],Aa⟩ (Yi ⟨Z6,Z5,Fh,AB (by kernel_rfl)⟩ ?_)
 refine Yi (fun h1=>?_) (fun h1=>?_)
 ·have h1:(i:Int)<(x.length:Int):=h1;have n1:i<x.length:=by omega
  have g1:x[i]?=some x[i]:=Ge n1;have ni:i<x.length:=by omega
  refine Xi ⟨[(1,.clo 56 [.cptr (Ad s),.cptr [vb true],.ref 1000 0,.ref 1001 0]),(2,.ref 2 0),(4,.ref 4 0),(6,.msl 11200 x.length),(24,vi x.length),(25,vi i)],[(2,.ro (Ic x ifs)),(4,.cells [.v (.slice none 0 0),.v (.slice none 0 0)]),(1000,.cells [vb (fs s true (x.take i)).1]),(1001,.cells [vb (fs s true (x.take i)).2]),(11200,.arr 9 ((yk true (Jb s) (x.take i)++x.drop i).map Ag))],Aa⟩ (Yi ⟨Z6,Z5,Fh,AB (by kernel_rfl)⟩ ?_)
  refine Yi (by show(0:Int)≤i∧(i:Int)<(x.length:Nat);omega) ?_;refine Xi (.gen [(11200,1000),(1000,1001),(1001,1002)] 0) (Yi rfl (A6.to2 (by have q:=tK (yk true (Jb s) (x.take i)++x.drop i) i x[i] s (fs s true (x.take i)).1 (fs s true (x.take i)).2 (jE ni);rw[M5]at q;exact q) ?_));refine Yi (Ii i (by omega)) ?_;refine Xi ⟨i+1,ni⟩ ?_;exact⟨Dl x.length i (by omega),Z6,⟨Zr,Zr,⟨(show HO.cells [vb (if DL x[i]=s then true else(fs s true (x.take i)).1)]=.cells [vb (fs s true (x.take (i+1))).1] by rw[RV ni];split<;>rfl),rfl⟩,⟨(show HO.cells [vb (if DL x[i]=s then decide (x[i].yanked=true)else(fs s true (x.take i)).2)]=.cells [vb (fs s true (x.take (i+1))).2] by rw[RV ni];split<;>rfl),rfl⟩,⟨(show HO.arr 9 (((yk true (Jb s) (x.take i)++x.drop i).set i (Oj true (Jb s) x[i])).map Ag)=.arr 9 ((yk true (Jb s) (x.take (i+1))++x.drop (i+1)).map Ag) by rw[Oj,Xg ni]),rfl⟩,Tv⟩,Fh,AB (by kernel_rfl)⟩
 have h1:¬((i:Int)<(x.length:Int)):=h1;have n1:¬i<x.length:=by omega
 have ei:x.take i=x:=Aw (by omega);have ed:x.drop i=[]:=EP (by omega);refine Yi (show x.length=((yk true (Jb s) (x.take i)++x.drop i).map Ag).length by rw[Lm,M5]) ?_;refine Xi ⟨[(2,.ref 2 0),(4,.ref 4 0),(6,sl Ag (yk true (Jb s) (x.take i)++x.drop i))],[(2,.ro (Ic x ifs)),(4,.cells [.v (.slice none 0 0),.v (.slice none 0 0)]),(1000,.cells [vb (fs s true (x.take i)).1]),(1001,.cells [vb (fs s true (x.take i)).2])],Aa⟩ (Yi ⟨Z3,Z4,Fh,AB (by kernel_rfl)⟩ ?_)
 refine Xi .pure (Xi _ (Yi hcl ?_));refine Yi (Nz rfl) ?_;refine Yi (Nz rfl) ?_;exact Xi _ (Yi (.refl _) ⟨show AV.tup [.agg [sl Ag (yk true (Jb s) (x.take i)++x.drop i),.slice .none ifs],vi 0]=.tup [EV (yk true (Jb s) x) ifs,vi 0] by rw[ei,ed,BN],show Ak [(1000,HO.cells [vb (fs s true (x.take i)).1]),(1001,.cells [vb (fs s true (x.take i)).2])] Aa=Ak [(1000,.cells [vb (fs s true x).1]),(1001,.cells [vb (fs s true x).2])] Aa by rw[ei]⟩)
theorem tC(s:Sl)(x:List Rl)(ifs:List (List AV))(hx:x.length≤16)(kE:A6 Tryz.prog 72 [sl Ag x] Aa fun r h'=>r=.tup [.msl 2000 x.length,vi 0]∧h'=Ak [(2000,.arr 9 (x.map Ag))] Aa)(hk:PC 37 [EV x ifs] (vi 0))(hcl:PC 73 [.slice .none ifs] (.slice .none ifs)):A6 Tryz.prog 50 [.agg (Ic x ifs),.clo 56 [.cptr (Ad s),.cptr [vb false],.ref 1000 0,.ref 1001 0]] (Ak [(1000,.cells [vb false]),(1001,.cells [vb false])] Aa) fun r h'=>r=.tup [EV (yk false (Jb s) x) ifs,vi 0]∧h'=Ak [(1000,.cells [vb (fs s false x).1]),(1001,.cells [vb (fs s false x).2])] Aa:=by
 refine BW (Lg ⟨[2],[],[],[],[],[],[],[],[],[(200009,6)],[3,4,5,6,9]⟩) [(1000,1000),(1001,1001)] rfl Cw hm rfl Tryz.func50 (by kernel_rfl) rfl (Nz rfl) (by kernel_rfl) rfl ?_;refine Xi (.gen [] 1) (Yi rfl (A6.to2 kE ?_));refine Yi (fun h=>absurd h (by decide)) (fun _=>?_);refine Yi (Nz rfl) ?_;refine Xi .pure (Xi _ (Yi hk ?_));refine Yi (fun h=>absurd h (by decide)) (fun _=>?_);refine Xi ⟨[(1,.clo 56 [.cptr (Ad s),.cptr [vb false],.ref 1000 0,.ref 1001 0]),(2,.ref 2 0),(4,.ref 4 0),(6,.msl 11200 x.length)],[(2,.ro (Ic x ifs)),(4,.cells [.v (.slice none 0 0),.v (.slice none 0 0)]),(1000,.cells [vb false]),(1001,.cells [vb false]),(11200,.arr 9 (x.map Ag))],Aa⟩ (Yi ⟨Z4,Z5,Fh,AB (by kernel_rfl)⟩ ?_)
 refine Xi {q:Nat // q≤x.length} (Xi (fun q=>⟨[(1,.clo 56 [.cptr (Ad s),.cptr [vb false],.ref 1000 0,.ref 1001 0]),(2,.ref 2 0),(4,.ref 4 0),(6,.msl 11200 x.length),(24,vi x.length),(25,vi q.1)],[(2,.ro (Ic x ifs)),(4,.cells [.v (.slice none 0 0),.v (.slice none 0 0)]),(1000,.cells [vb (fs s false (x.take q.1)).1]),(1001,.cells [vb (fs s false (x.take q.1)).2]),(11200,.arr 9 ((yk false (Jb s) (x.take q.1)++x.drop q.1).map Ag))],Aa⟩) (Xi (fun q=>x.length-q.1) (Yi (Xi ⟨0,AD _⟩ ?_) ?_)))
 ·exact⟨Z6,Z5,Fh,AB (by kernel_rfl)⟩
 intro⟨i,i1⟩;have i1:i≤x.length:=i1;refine Xi ⟨[(1,.clo 56 [.cptr (Ad s),.cptr [vb false],.ref 1000 0,.ref 1001 0]),(2,.ref 2 0),(4,.ref 4 0),(6,.msl 11200 x.length),(24,vi x.length),(25,vi i)],[(2,.ro (Ic x ifs)),(4,.cells [.v (.slice none 0 0),.v (.slice none 0 0)]),(1000,.cells [vb (fs s false (x.take i)).1]),(1001,.cells [vb (fs s false (x.take i)).2]),(11200,.arr 9 ((yk false (Jb s) (x.take i)++x.drop i).map Ag))],Aa⟩ (Yi ⟨Z6,Z5,Fh,AB (by kernel_rfl)⟩ ?_)
 refine Yi (fun h1=>?_) (fun h1=>?_)
 ·have h1:(i:Int)<(x.length:Int):=h1;have n1:i<x.length:=by omega
  have g1:x[i]?=some x[i]:=Ge n1;have ni:i<x.length:=by omega
  refine Xi ⟨[(1,.clo 56 [.cptr (Ad s),.cptr [vb false],.ref 1000 0,.ref 1001 0]),(2,.ref 2 0),(4,.ref 4 0),(6,.msl 11200 x.length),(24,vi x.length),(25,vi i)],[(2,.ro (Ic x ifs)),(4,.cells [.v (.slice none 0 0),.v (.slice none 0 0)]),(1000,.cells [vb (fs s false (x.take i)).1]),(1001,.cells [vb (fs s false (x.take i)).2]),(11200,.arr 9 ((yk false (Jb s) (x.take i)++x.drop i).map Ag))],Aa⟩ (Yi ⟨Z6,Z5,Fh,AB (by kernel_rfl)⟩ ?_)
  refine Yi (by show(0:Int)≤i∧(i:Int)<(x.length:Nat);omega) ?_;refine Xi (.gen [(11200,1000),(1000,1001),(1001,1002)] 0) (Yi rfl (A6.to2 (by have q:=tJ (yk false (Jb s) (x.take i)++x.drop i) i x[i] s (fs s false (x.take i)).1 (fs s false (x.take i)).2 (jE ni);rw[M5]at q;exact q) ?_));refine Yi (Ii i (by omega)) ?_;refine Xi ⟨i+1,ni⟩ ?_;exact⟨Dl x.length i (by omega),Z6,⟨Zr,Zr,⟨(show HO.cells [vb (if DL x[i]=s then true else(fs s false (x.take i)).1)]=.cells [vb (fs s false (x.take (i+1))).1] by rw[RV ni];split<;>rfl),rfl⟩,⟨(show HO.cells [vb (if DL x[i]=s then decide (x[i].yanked=false)else(fs s false (x.take i)).2)]=.cells [vb (fs s false (x.take (i+1))).2] by rw[RV ni];split<;>rfl),rfl⟩,⟨(show HO.arr 9 (((yk false (Jb s) (x.take i)++x.drop i).set i (Oj false (Jb s) x[i])).map Ag)=.arr 9 ((yk false (Jb s) (x.take (i+1))++x.drop (i+1)).map Ag) by rw[Oj,Xg ni]),rfl⟩,Tv⟩,Fh,AB (by kernel_rfl)⟩
 have h1:¬((i:Int)<(x.length:Int)):=h1;have n1:¬i<x.length:=by omega
 have ei:x.take i=x:=Aw (by omega);have ed:x.drop i=[]:=EP (by omega);refine Yi (show x.length=((yk false (Jb s) (x.take i)++x.drop i).map Ag).length by rw[Lm,M5]) ?_;refine Xi ⟨[(2,.ref 2 0),(4,.ref 4 0),(6,sl Ag (yk false (Jb s) (x.take i)++x.drop i))],[(2,.ro (Ic x ifs)),(4,.cells [.v (.slice none 0 0),.v (.slice none 0 0)]),(1000,.cells [vb (fs s false (x.take i)).1]),(1001,.cells [vb (fs s false (x.take i)).2])],Aa⟩ (Yi ⟨Z3,Z4,Fh,AB (by kernel_rfl)⟩ ?_)
 refine Xi .pure (Xi _ (Yi hcl ?_));refine Yi (Nz rfl) ?_;refine Yi (Nz rfl) ?_;exact Xi _ (Yi (.refl _) ⟨show AV.tup [.agg [sl Ag (yk false (Jb s) (x.take i)++x.drop i),.slice .none ifs],vi 0]=.tup [EV (yk false (Jb s) x) ifs,vi 0] by rw[ei,ed,BN],show Ak [(1000,HO.cells [vb (fs s false (x.take i)).1]),(1001,.cells [vb (fs s false (x.take i)).2])] Aa=Ak [(1000,.cells [vb (fs s false x).1]),(1001,.cells [vb (fs s false x).2])] Aa by rw[ei]⟩)
abbrev H4(x:List Rl)(ifs:List (List AV))(s:Sl)(y:Bool):AV:=.tup [EV (Fw x s y) (if DZ x s y=0 then ifs else []),vi (DZ x s y)]
theorem Gd{x:List Rl}{ifs:List (List AV)}{s:Sl}{y:Bool}{c:Int}(h:DZ x s y=c)(hc:c≠0):G1 (.tup [.agg [.v (.slice none 0 0),.v (.slice none 0 0)],vi c]) (H4 x ifs s y):=by
 have e:H4 x ifs s y=.tup [EV [] [],vi c]:=by unfold H4;rw[h,Aj hc,jf (by rw[h];exact hc)]
 rw[e];exact .tup ⟨.agg ⟨.nil,.nil,trivial⟩,.refl _,trivial⟩
theorem PA{x:List Rl}{ifs:List (List AV)}{s:Sl}{y:Bool}(h:DZ x s y=0):H4 x ifs s y=.tup [EV (yk y (Jb s) x) ifs,vi 0]:=by
 unfold H4;rw[h,Ap rfl,l5 h]
theorem pC(x:List Rl)(ifs:List (List AV))(s:Sl)(h0:AQ x=0)(kD:A6 Tryz.prog 50 [EV x ifs,.clo 56 [.cptr (Ad s),.cptr [vb true],.ref 1000 0,.ref 1001 0]] (Ak [(1000,.cells [vb false]),(1001,.cells [vb false])] Aa) fun r h'=>r=.tup [EV (yk true (Jb s) x) ifs,vi 0]∧h'=Ak [(1000,.cells [vb (fs s true x).1]),(1001,.cells [vb (fs s true x).2])] Aa):PC 35 [.agg (Ic x ifs),.agg (Ad s),vb true] (H4 x ifs s true):=by
 refine Ps ⟨[3,4,5],[],[],[],[],[],[],[],[],[],[3]⟩ Tryz.func35 rfl (Nz rfl) ?_;refine Yi (Nz rfl) ?_;refine Yi (Nz rfl) ?_;refine Yi (Nz rfl) ?_;refine Xi (.gen [(8,1000),(9,1001)] 0) (Yi rfl (A6.to2 kD ?_));refine Yi (Nz rfl) ?_;refine Xi ⟨[(6,.ref 6 0),(8,.ref 8 0),(9,.ref 9 0),(10,.ref 10 0),(11,vi 0)],[(6,.cells [.v (.slice none 0 0),.v (.slice none 0 0)]),(8,.cells [vb (fs s true x).1]),(9,.cells [vb (fs s true x).2]),(10,.cells [sl Ag (yk true (Jb s) x),.slice .none ifs])],Aa⟩ (Yi ⟨Z5,Z4,Fh,Tv⟩ ?_)
 refine Yi (fun h=>absurd h (by decide)) (fun _=>?_);refine Yi (fun h1=>?_) (fun h1=>?_)
 ·have h1:(fs s true x).1=true:=h1;refine Yi (fun h2=>?_) (fun h2=>?_)
  ·have h2:(fs s true x).2=true:=h2;refine Yi (Nz rfl) ?_;refine Yi (Nz rfl) ?_;have e1:DZ x s true=if(fs s true x).2=true then 8 else 0:=(P0 h0 s true).trans (Aj (by rw[h1];decide))
   exact Gd (e1.trans (Ap h2)) (by decide)
  have h2:(fs s true x).2=false:=h2;refine Yi (Nz rfl) ?_;refine Yi (Nz rfl) ?_;refine Yi (Nz rfl) ?_;have e1:DZ x s true=if(fs s true x).2=true then 8 else 0:=(P0 h0 s true).trans (Aj (by rw[h1];decide))
  exact .of_eq (PA (e1.trans (Aj (by rw[h2];decide)))).symm
 have h1:(fs s true x).1=false:=h1;refine Yi (Nz rfl) ?_;refine Yi (Nz rfl) ?_;exact Gd ((P0 h0 s true).trans (Ap h1)) (by decide)
theorem jD(x:List Rl)(ifs:List (List AV))(s:Sl)(hE:DZ x s true=1)(kD:A6 Tryz.prog 50 [EV x ifs,.clo 56 [.cptr (Ad s),.cptr [vb true],.ref 1000 0,.ref 1001 0]] (Ak [(1000,.cells [vb false]),(1001,.cells [vb false])] Aa) fun r h'=>r=.tup [.agg [.v (.slice none 0 0),.v (.slice none 0 0)],vi 1]∧h'=Ak [(1000,.cells [vb false]),(1001,.cells [vb false])] Aa):PC 35 [.agg (Ic x ifs),.agg (Ad s),vb true] (H4 x ifs s true):=by
 refine Ps ⟨[3,4,5],[],[],[],[],[],[],[],[],[],[3]⟩ Tryz.func35 rfl (Nz rfl) ?_;refine Yi (Nz rfl) ?_;refine Yi (Nz rfl) ?_;refine Yi (Nz rfl) ?_;refine Xi (.gen [(8,1000),(9,1001)] 0) (Yi rfl (A6.to2 kD ?_));refine Yi (Nz rfl) ?_;refine Xi ⟨[(6,.ref 6 0),(8,.ref 8 0),(9,.ref 9 0),(10,.ref 10 0),(11,vi 1)],[(6,.cells [.v (.slice none 0 0),.v (.slice none 0 0)]),(8,.cells [vb false]),(9,.cells [vb false]),(10,.cells [.v (.slice none 0 0),.v (.slice none 0 0)])],Aa⟩ (Yi ⟨Z5,Z4,Fh,Tv⟩ ?_)
 refine Yi (fun _=>?_) (fun h=>absurd (by decide) h);refine Yi (Nz rfl) ?_;refine Yi (Nz rfl) ?_;exact Gd hE (by decide)
theorem pB(x:List Rl)(ifs:List (List AV))(s:Sl)(h0:AQ x=0)(kD:A6 Tryz.prog 50 [EV x ifs,.clo 56 [.cptr (Ad s),.cptr [vb false],.ref 1000 0,.ref 1001 0]] (Ak [(1000,.cells [vb false]),(1001,.cells [vb false])] Aa) fun r h'=>r=.tup [EV (yk false (Jb s) x) ifs,vi 0]∧h'=Ak [(1000,.cells [vb (fs s false x).1]),(1001,.cells [vb (fs s false x).2])] Aa):PC 35 [.agg (Ic x ifs),.agg (Ad s),vb false] (H4 x ifs s false):=by
 refine Ps ⟨[3,4,5],[],[],[],[],[],[],[],[],[],[3]⟩ Tryz.func35 rfl (Nz rfl) ?_;refine Yi (Nz rfl) ?_;refine Yi (Nz rfl) ?_;refine Yi (Nz rfl) ?_;refine Xi (.gen [(8,1000),(9,1001)] 0) (Yi rfl (A6.to2 kD ?_));refine Yi (Nz rfl) ?_;refine Xi ⟨[(6,.ref 6 0),(8,.ref 8 0),(9,.ref 9 0),(10,.ref 10 0),(11,vi 0)],[(6,.cells [.v (.slice none 0 0),.v (.slice none 0 0)]),(8,.cells [vb (fs s false x).1]),(9,.cells [vb (fs s false x).2]),(10,.cells [sl Ag (yk false (Jb s) x),.slice .none ifs])],Aa⟩ (Yi ⟨Z5,Z4,Fh,Tv⟩ ?_)
 refine Yi (fun h=>absurd h (by decide)) (fun _=>?_);refine Yi (fun h1=>?_) (fun h1=>?_)
 ·have h1:(fs s false x).1=true:=h1;refine Yi (fun h2=>?_) (fun h2=>?_)
  ·have h2:(fs s false x).2=true:=h2;refine Yi (Nz rfl) ?_;refine Yi (Nz rfl) ?_;have e1:DZ x s false=if(fs s false x).2=true then 8 else 0:=(P0 h0 s false).trans (Aj (by rw[h1];decide))
   exact Gd (e1.trans (Ap h2)) (by decide)
  have h2:(fs s false x).2=false:=h2;refine Yi (Nz rfl) ?_;refine Yi (Nz rfl) ?_;refine Yi (Nz rfl) ?_;have e1:DZ x s false=if(fs s false x).2=true then 8 else 0:=(P0 h0 s false).trans (Aj (by rw[h1];decide))
  exact .of_eq (PA (e1.trans (Aj (by rw[h2];decide)))).symm
 have h1:(fs s false x).1=false:=h1;refine Yi (Nz rfl) ?_;refine Yi (Nz rfl) ?_;exact Gd ((P0 h0 s false).trans (Ap h1)) (by decide)
theorem jC(x:List Rl)(ifs:List (List AV))(s:Sl)(hE:DZ x s false=1)(kD:A6 Tryz.prog 50 [EV x ifs,.clo 56 [.cptr (Ad s),.cptr [vb false],.ref 1000 0,.ref 1001 0]] (Ak [(1000,.cells [vb false]),(1001,.cells [vb false])] Aa) fun r h'=>r=.tup [.agg [.v (.slice none 0 0),.v (.slice none 0 0)],vi 1]∧h'=Ak [(1000,.cells [vb false]),(1001,.cells [vb false])] Aa):PC 35 [.agg (Ic x ifs),.agg (Ad s),vb false] (H4 x ifs s false):=by
 refine Ps ⟨[3,4,5],[],[],[],[],[],[],[],[],[],[3]⟩ Tryz.func35 rfl (Nz rfl) ?_;refine Yi (Nz rfl) ?_;refine Yi (Nz rfl) ?_;refine Yi (Nz rfl) ?_;refine Xi (.gen [(8,1000),(9,1001)] 0) (Yi rfl (A6.to2 kD ?_));refine Yi (Nz rfl) ?_;refine Xi ⟨[(6,.ref 6 0),(8,.ref 8 0),(9,.ref 9 0),(10,.ref 10 0),(11,vi 1)],[(6,.cells [.v (.slice none 0 0),.v (.slice none 0 0)]),(8,.cells [vb false]),(9,.cells [vb false]),(10,.cells [.v (.slice none 0 0),.v (.slice none 0 0)])],Aa⟩ (Yi ⟨Z5,Z4,Fh,Tv⟩ ?_)
 refine Yi (fun _=>?_) (fun h=>absurd (by decide) h);refine Yi (Nz rfl) ?_;refine Yi (Nz rfl) ?_;exact Gd hE (by decide)
structure Lv(x:List Rl):Prop where
 len:x.length≤16
 few:∀r∈x,JM r
theorem tj{x:List Rl}(hf:∀r∈x,JM r):PC 37 [.agg [sl Ag x,.v (.slice none 0 0)]] (vi (AQ x)):=(jG SH x [] hf).args ⟨.agg ⟨.refl _,.nil,trivial⟩,trivial⟩
theorem jA{x:List Rl}(h:Lv x)(hr:∀r∈x,r.reqs.length≤1000)(hc:AQ (EI Dh x.length x)=0):A6 Tryz.prog 72 [sl Ag x] Aa fun r h'=>r=.tup [.msl 2000 x.length,vi 0]∧h'=Ak [(2000,.arr 9 ((EI Dh x.length x).map Ag))] Aa:=by
 have hk:=Jq.lend (sz:=9) (es:=(EI Dh x.length x).map Ag) (vs:=[.slice none 0 0]) (tj (x:=EI Dh x.length x) fun r hr=>h.few r (TC Dh _ _ r hr));rw[hc]at hk;have q:=yO x h.len (fun r hm=>vZ r (hr r hm) fun q hq=>((h.few r hm).2 q hq).1) hk;rw[show((EI Dh x.length x).map Ag).length=x.length by rw[Lm,Mg]]at q;exact q
theorem mU{x:List Rl}(h:Lv x)(hr:∀r∈x,r.reqs.length≤1000)(hc:AQ (EI Dh x.length x)≠0):PC 72 [sl Ag x] (.tup [.v (.slice none 0 0),vi (AQ (EI Dh x.length x))]):=by
 have hk:=Jq.lend (sz:=9) (es:=(EI Dh x.length x).map Ag) (vs:=[.slice none 0 0]) (tj (x:=EI Dh x.length x) fun r hr=>h.few r (TC Dh _ _ r hr));exact yN x h.len (fun r hm=>vZ r (hr r hm) fun q hq=>((h.few r hm).2 q hq).1) _ hc hk
theorem mW{x:List Rl}(ifs:List (List AV))(s:Sl)(h:Lv x)(hr:∀r∈x,r.reqs.length≤1000)(hcl:PC 73 [.slice .none ifs] (.slice .none ifs)):PC 35 [EV x ifs,.agg (Ad s),vb true] (H4 x ifs s true):=by
 have hk:=jG SH x ifs h.few
 by_cases h0:AQ x=0
 ·rw[h0]at hk;have q:=jA h hr (by rw[Hr h0];exact h0);rw[Hr h0]at q;exact pC x ifs s h0 (tE s x ifs h.len q hk hcl)
 ·have hE:DZ x s true=1:=Ap h0
  by_cases hc:AQ (EI Dh x.length x)=0
  ·exact jD x ifs s hE (mY s true x ifs _ (jA h hr hc) _ h0 hk)
  ·exact jD x ifs s hE (mX s true x ifs _ hc (mU h hr hc))
theorem mV{x:List Rl}(ifs:List (List AV))(s:Sl)(h:Lv x)(hr:∀r∈x,r.reqs.length≤1000)(hcl:PC 73 [.slice .none ifs] (.slice .none ifs)):PC 35 [EV x ifs,.agg (Ad s),vb false] (H4 x ifs s false):=by
 have hk:=jG SH x ifs h.few
 by_cases h0:AQ x=0
 ·rw[h0]at hk;have q:=jA h hr (by rw[Hr h0];exact h0);rw[Hr h0]at q;exact pB x ifs s h0 (tC s x ifs h.len q hk hcl)
 ·have hE:DZ x s false=1:=Ap h0
  by_cases hc:AQ (EI Dh x.length x)=0
  ·exact jC x ifs s hE (mY s false x ifs _ (jA h hr hc) _ h0 hk)
  ·exact jC x ifs s hE (mX s false x ifs _ hc (mU h hr hc))
theorem tn(x:List Rl)(ifs:List (List AV))(s:Sl)(ky:PC 35 [EV x ifs,.agg (Ad s),vb true] (H4 x ifs s true)):PC 11 [.agg (Ic x ifs),.agg (Ad s)] (H4 x ifs s true):=by
 refine Ps ⟨[],[],[],[],[],[],[],[],[],[],[]⟩ Tryz.func11 rfl (Nz rfl) ?_;refine Yi (Nz rfl) ?_;refine Yi (Nz rfl) ?_;refine Xi .pure (Xi _ (Yi ky ?_));refine Yi (Nz rfl) ?_;refine Yi (Nz rfl) ?_;exact .refl _
theorem tp(x:List Rl)(ifs:List (List AV))(s:Sl)(ky:PC 35 [EV x ifs,.agg (Ad s),vb false] (H4 x ifs s false)):PC 12 [.agg (Ic x ifs),.agg (Ad s)] (H4 x ifs s false):=by
 refine Ps ⟨[],[],[],[],[],[],[],[],[],[],[]⟩ Tryz.func12 rfl (Nz rfl) ?_;refine Yi (Nz rfl) ?_;refine Yi (Nz rfl) ?_;refine Xi .pure (Xi _ (Yi ky ?_));refine Yi (Nz rfl) ?_;refine Yi (Nz rfl) ?_;exact .refl _
def Gn(x:List Rl)(l:List Sl):Bool:=decide (EU x l=0)
theorem Mf(l:List Sl):CO l=true↔∀j (h:j<l.length),0<j→Eg (l[j-1]'(by omega)).path l[j].path=true:=by
 constructor
 ·intro h j hj h0;exact(AZ.1 (NW h).1) (j-1) j (by omega) hj (by omega)
 ·intro h;refine gX (AZ.2 fun i j hi hj PK=>?_);have key:∀d (hd:i+d+1<l.length),Eg l[i].path (l[i+d+1]'hd).path=true:=fun d=>by
   induction d with
   |zero=>intro hd;exact h (i+1) hd (by omega)
   |succ d ih=>intro hd;exact DX (ih (by omega)) (h (i+d+1+1) hd (by omega))
  have:=key (j-i-1) (by omega)
  simp only[show i+(j-i-1)+1=j by omega]at this;exact this
theorem dH{x:List Rl}{l:List Sl}{j:Nat}(hj:j<l.length)(h0:0<j)(h:¬Eg (l[j-1]'(by omega)).path l[j].path=true):Gn x l=false:=by
 refine Ao fun e=>h ((Mf l).1 (Mi e).2 j hj h0)
theorem Qx{x:List Rl}{l:List Sl}(h:AQ x≠0):Gn x l=false:=Ao fun e=>h (Mi e).1
theorem Qy{x:List Rl}{l:List Sl}(h:AQ x=0)(hi:CO l=true):Gn x l=true:=Ar (by
 unfold EU;rw[Aj]
 rintro(q | q)
 ·exact q h
 ·rw[hi]at q;cases q)
theorem pD(x:List Rl)(ifs:List (List AV))(l:List Sl)(hl:Cp l)(hk:PC 37 [EV x ifs] (vi (AQ x))):PC 46 [.agg (Ic x ifs),sl Ad l] (vb (Gn x l)):=by
 have hl:l.length≤1073741824:=hl;refine Ps ⟨[2],[],[],[],[],[],[],[],[],[],[3,5]⟩ Tryz.func46 rfl (Nz rfl) ?_;refine Xi {q:Nat // 1≤q∧∀j (h:j<l.length),0<j→j<q→Eg (l[j-1]'(by omega)).path l[j].path=true} (Xi (fun q=>⟨[(1,sl Ad l),(2,.ref 2 0),(5,vi q.1)],[(2,.ro (Ic x ifs))],Aa⟩) (Xi (fun q=>l.length+1-q.1) (Yi (Xi ⟨1,Al _,fun j _ h0 h1=>absurd h1 (by omega)⟩ ?_) ?_)))
 ·exact⟨Z3,Z1,Fh,Tv⟩
 intro⟨i,i1,i2⟩;have i1:1≤i:=i1;have i2:∀j (h:j<l.length),0<j→j<i→Eg (l[j-1]'(by omega)).path l[j].path=true:=i2;refine Yi (fun h1=>?_) (fun h1=>?_)
 ·have h1:(i:Int)<((l.map Ad).length:Int):=h1;have n1:=JT h1;refine Yi (by show Bi ((i:Int)-(1:Int));unfold Bi;omega) ?_;refine Xi (Ad (l[i-1]'(by omega))) (Yi (Yi (show(0:Int)≤(i:Int)-1 by omega) (by rw[show((i:Int)-1).toNat=i-1 by omega];exact CC (Ge (by omega)))) (Yi rfl ?_));refine Xi (Ad l[i]) (Yi (Ns n1) (Yi rfl ?_));refine Yi (fun h2=>?_) (fun h2=>?_)
  ·have h2:Eg (l[i-1]'(by omega)).path l[i].path=false:=(EX _ _).trans h2;refine Yi (by kernel_rfl) ?_;refine Xi ⟨[],[],Aa⟩ (Yi ⟨Tv,Tv,Fh,Tv⟩ ?_)
   exact .of_eq (show vb false=vb (Gn x l) by rw[dH n1 (by omega) (by rw[h2];decide)])
  have h2:Eg (l[i-1]'(by omega)).path l[i].path=true:=(EX _ _).trans (by simpa using h2);refine Yi (by kernel_rfl) ?_;refine Xi ⟨[(1,sl Ad l),(2,.ref 2 0),(5,vi i)],[(2,.ro (Ic x ifs))],Aa⟩ (Yi ⟨Z3,Z1,Fh,Tv⟩ ?_)
  refine Yi (Ii i (by omega)) ?_;refine Xi ⟨i+1,by omega,fun j hj h0 Je=>if e:j<i then i2 j hj h0 e else by
    have e:j=i:=by omega
    subst e;exact h2⟩ ?_
  exact⟨by show l.length+1-(i+1)<l.length+1-i;omega,Z3,Z1,Fh,Tv⟩
 have h1:¬((i:Int)<((l.map Ad).length:Int)):=h1;have n1:=JS h1;refine Yi (Nz rfl) ?_;refine Xi .pure (Xi _ (Yi hk ?_));refine Yi (fun h5=>?_) (fun h5=>?_)
 ·have h5:((AQ x):Int)=(0:Int):=h5;exact .of_eq (show vb true=vb (Gn x l) by rw[Qy h5 ((Mf l).2 fun j hj h0=>i2 j hj h0 (by omega))])
 have h5:¬(((AQ x):Int)=(0:Int)):=h5;exact .of_eq (show vb false=vb (Gn x l) by rw[Qx h5])
theorem QN{x:List Rl}{l:List Sl}(h:Gn x l=false):AV.tup [sl Ad (Hx x l),vi (EU x l)]=.tup [.slice .none [],vi 1]:=by
 have h:=Gb h;have e:EU x l=1:=(Vt x l).resolve_left h;unfold Hx;rw[Aj h,e];rfl
theorem Y1{x:List Rl}{l:List Sl}(h:Gn x l=true):AV.tup [sl Ad (Hx x l),vi (EU x l)]=.tup [sl Ad (l.filter (Ct x)),vi 0]:=by
 have h:=A5 h;unfold Hx;rw[Ap h,h]
theorem tw(x:List Rl)(ifs:List (List AV))(l:List Sl)(hl:Cp l)(gp:PC 46 [EV x ifs,sl Ad l] (vb (Gn x l)))(hf:∀z:Sl,PC 15 [EV x ifs,vs z.path,.agg (Ea z.ver)] (J9 (CK x z))):PC 22 [.agg (Ic x ifs),sl Ad l] (.tup [sl Ad (Hx x l),vi (EU x l)]):=by
 have hl:l.length≤1073741824:=hl;refine Ps ⟨[2,8,9],[(6,4)],[],[],[],[],[],[],[],[],[8]⟩ Tryz.func22 rfl (Nz rfl) ?_;refine Yi (Nz rfl) ?_;refine BT (Bt (Gn x l)) (fun h1=>?_) (fun h1=>?_)
 ·have h1:(Gn x l)=true:=h1;refine Xi .pure (Xi _ (Yi (cb h1 gp) ?_));refine Xi {q:Nat // q≤l.length} (Xi (fun q=>⟨[(2,.ref 2 0),(6,.slice (.id 6 4) (((l.take q.1).filter (Ct x)).map Ad)),(15,sl Ad l),(16,vi (l.map Ad).length),(17,vi q.1)],[(2,.ro (Ic x ifs)),(6,.tok 4 ((l.take q.1).filter (Ct x)).length)],Aa⟩) (Xi (fun q=>l.length-q.1) (Yi (Xi ⟨0,AD _⟩ ?_) ?_)))
  ·exact⟨Z5,Z2,Fh,Tv⟩
  intro⟨i,i1⟩;have i1:i≤l.length:=i1;have i2:((l.take i).filter (Ct x)).length≤i:=Bx (Bv ..) (by rw[AC];omega);refine Yi (fun h2=>?_) (fun h2=>?_)
  ·have h2:(i:Int)<((l.map Ad).length:Int):=h2;have n2:=JT h2;refine Xi (Ad l[i]) (Yi (Ns n2) (Yi rfl ?_));refine Yi (Nz rfl) ?_;refine Yi (Nz rfl) ?_;refine Yi (Nz rfl) ?_;refine Yi (Nz rfl) ?_;refine BT (MZ (CK x l[i])) (fun h3=>?_) (fun h3=>?_)
   ·refine Br h3 (fun r h3=>?_);have Vl:=(hf l[i]);rw[h3]at Vl;refine Xi .pure (Xi _ (Yi Vl ?_));refine Yi (Nz rfl) ?_;refine Xi ⟨[(2,.ref 2 0),(6,.slice (.id 6 4) (((l.take i).filter (Ct x)).map Ad)),(8,.ref 8 0),(9,.ref 9 0),(10,vb true),(15,sl Ad l),(16,vi (l.map Ad).length),(17,vi i)],[(2,.ro (Ic x ifs)),(6,.tok 4 ((l.take i).filter (Ct x)).length),(8,.ro (Ad l[i])),(9,.ro (Ag r))],Aa⟩ (Yi ⟨Z8,Z4,Fh,Tv⟩ ?_)
    refine Yi (fun h4=>?_) (fun h4=>?_)
    ·have h4:r.yanked=true:=h4;refine Yi (Nz rfl) ?_;refine Yi (Zi rfl (by omega) (by decide)) ?_;refine Yi (Ii i (by omega)) ?_;have ni:=n2;have hy:Ct x l[i]=true:=(by unfold Ct;rw[h3];exact h4);refine Xi ⟨i+1,ni⟩ ?_;exact⟨Dl l.length i (by omega),⟨Zr,⟨(show AV.slice (.id 6 4) (((l.take i).filter (Ct x)).map Ad++[Ad l[i]])=.slice (.id 6 4) (((l.take (i+1)).filter (Ct x)).map Ad) by rw[DA ni,Cf,Ch,Ap hy,Gw,Ay];rfl),rfl⟩,Zr,Zr,Zr,Tv⟩,⟨Zr,⟨(show HO.tok 4 ((((l.take i).filter (Ct x)).map Ad).length+([Ad l[i]]:List (List AV)).length)=.tok 4 ((l.take (i+1)).filter (Ct x)).length by rw[DA ni,Cf,Ch,Ap hy,Gw,Ae,Lm];rfl),rfl⟩,Tv⟩,Fh,Tv⟩
    have h4:r.yanked=false:=h4;refine Yi (Ii i (by omega)) ?_;have ni:=n2;have hy:Ct x l[i]=false:=by unfold Ct;rw[h3];exact h4
    have ef:(l.take (i+1)).filter (Ct x)=(l.take i).filter (Ct x):=by rw[DA ni,Cf,Ch,Aj (by rw[hy];decide),Gw,BN]
    refine Xi ⟨i+1,ni⟩ ?_;exact⟨Dl l.length i (by omega),⟨Zr,⟨(show AV.slice (.id 6 4) (((l.take i).filter (Ct x)).map Ad)=.slice (.id 6 4) (((l.take (i+1)).filter (Ct x)).map Ad) by rw[ef]),rfl⟩,Zr,Zr,Zr,Tv⟩,⟨Zr,⟨(show HO.tok 4 ((l.take i).filter (Ct x)).length=.tok 4 ((l.take (i+1)).filter (Ct x)).length by rw[ef]),rfl⟩,Tv⟩,Fh,Tv⟩
   have Vl:=(hf l[i]);rw[h3]at Vl;refine Xi .pure (Xi _ (Yi Vl ?_));refine Yi (Nz rfl) ?_;refine Xi ⟨[(2,.ref 2 0),(6,.slice (.id 6 4) (((l.take i).filter (Ct x)).map Ad)),(8,.ref 8 0),(9,.ref 9 0),(10,vb false),(15,sl Ad l),(16,vi (l.map Ad).length),(17,vi i)],[(2,.ro (Ic x ifs)),(6,.tok 4 ((l.take i).filter (Ct x)).length),(8,.ro (Ad l[i])),(9,.ro [vs ⟨#[]⟩,vi 0,vi 0,vi 0,.v (.slice none 0 0),vs ⟨#[]⟩,vs ⟨#[]⟩,vs ⟨#[]⟩,vb false])],Aa⟩ (Yi ⟨Z8,Z4,Fh,Tv⟩ ?_)
   refine Yi (Ii i (by omega)) ?_;have ni:=n2;have hy:Ct x l[i]=false:=by unfold Ct;rw[h3]
   have ef:(l.take (i+1)).filter (Ct x)=(l.take i).filter (Ct x):=by rw[DA ni,Cf,Ch,Aj (by rw[hy];decide),Gw,BN]
   refine Xi ⟨i+1,ni⟩ ?_;exact⟨Dl l.length i (by omega),⟨Zr,⟨(show AV.slice (.id 6 4) (((l.take i).filter (Ct x)).map Ad)=.slice (.id 6 4) (((l.take (i+1)).filter (Ct x)).map Ad) by rw[ef]),rfl⟩,Zr,Zr,Zr,Tv⟩,⟨Zr,⟨(show HO.tok 4 ((l.take i).filter (Ct x)).length=.tok 4 ((l.take (i+1)).filter (Ct x)).length by rw[ef]),rfl⟩,Tv⟩,Fh,Tv⟩
  have h2:¬((i:Int)<((l.map Ad).length:Int)):=h2;have n2:=JS h2;have el:l.take i=l:=Aw (by omega);exact .of_eq (show AV.tup [sl Ad ((l.take i).filter (Ct x)),vi 0]=.tup [sl Ad (Hx x l),vi (EU x l)] by rw[el,Y1 h1])
 have h1:(Gn x l)=false:=h1;refine Xi .pure (Xi _ (Yi (cb h1 gp) ?_));exact(show G1 (.tup [.v (.slice none 0 0),vi 1]) (.tup [.slice .none [],vi 1])from .tup ⟨.nil,.refl _,trivial⟩).trans (.of_eq (QN h1).symm)
end Go.Eng
namespace Go.Eng
theorem aX:∀{x y:List UInt8},Ip x y=true→x<y
 |x,[],h=>by cases x<;>cases h
 | [],b::y,_=>by simp
 |a::x,b::y,h=>by
  unfold Ip at h;rw[List.cons_lt_cons_iff];rcases Cj _ _▸h with h | h
  ·exact .inl (A5 h)
  ·obtain⟨h1,h2⟩:=Bool.and_eq_true_iff.1 h;exact .inr ⟨A5 h1,aX h2⟩
section
variable {α:Type}[Inhabited α][DecidableEq α]
theorem OF{R:α→α→Prop}(hR:∀a b c,R a b→R b c→R a c)(xs:List α)(hs:∀i j,(hi:i<xs.length)→(hj:j<xs.length)→i<j→xs[i]=xs[j]∨R xs[i] xs[j]):∀m,m≤xs.length →
  (Lib.compactUpTo xs.toArray m).Pairwise R∧(∀a,a∈Lib.compactUpTo xs.toArray m↔a∈xs.take m)
 |0,_=>by simp[Lib.compactUpTo]
 |m+1,h=>by
  obtain⟨h1,h2⟩:=OF hR xs hs m (by omega);have hg:xs.toArray[m]! = xs[m]'(by omega):=by simp[show m<xs.length by omega]
  rw[Lib.compactUpTo_succ,hg,Bk,Ge (by omega)]
  by_cases hk:Lib.keeps xs.toArray m=true
  ·rw[Ap hk];refine⟨?_,fun a=>by rw[A1,A1,h2];simp⟩;rw[List.pairwise_append];refine⟨h1,List.pairwise_singleton _ _,fun a ha b hb=>?_⟩;rw[Aq.1 hb];have ha:=(h2 a).1 ha;obtain⟨j,hj,rfl⟩:=Dm.1 ha;rw[AC]at hj;rw[GA];unfold Lib.keeps at hk;have hk:=A5 hk;rcases hk with hk | hk
   ·omega
   ·have ZF : xs.toArray[m-1]! = xs[m-1]'(by omega):=by simp[show m-1<xs.length by omega]
    rw[hg,ZF]at hk;have s1:R (xs[m-1]'(by omega)) (xs[m]'(by omega)):=(hs (m-1) m (by omega) (by omega) (by omega)).elim (fun e=>absurd e.symm hk) id
    by_cases e:j=m-1
    ·subst e;exact s1
    ·rcases hs j (m-1) (by omega) (by omega) (by omega)with q | q
     ·rw[q];exact s1
     ·exact hR _ _ _ q s1
  ·rw[Aj hk,BN];refine⟨h1,fun a=>?_⟩;rw[h2,A1];refine⟨.inl,fun q=>q.elim id fun q=>?_⟩;have q:a=xs[m]:=by simpa using q
   subst q;have hk:¬(m=0∨xs.toArray[m]!≠xs.toArray[m-1]!):=fun q=>hk (Ar q);have m0:0<m:=Nat.pos_of_ne_zero fun e=>hk (.inl e);have e:xs.toArray[m]! = xs.toArray[m-1]!:=AN fun e=>hk (.inr e);have ZF : xs.toArray[m-1]! = xs[m-1]'(by omega):=by simp[show m-1<xs.length by omega]
   rw[hg,ZF]at e;rw[e];exact Dm.2 ⟨m-1,by rw[AC];omega,by rw[GA]⟩
end
theorem fC{t:List ByteArray}(ht:(t.map QX).Pairwise fun a b=>a≤b):(B1 t).Pairwise (fun a b=>Eg a b=true)∧∀p,p∈B1 t↔p∈t:=by
 have hc:=OF (R:=fun a b=>Ip a b=true) (fun a b c=>N2) (t.map QX) (fun i j hi hj PK=>by
  have h:=(AZ.1 ht) i j hi hj PK;cases e:Ip (t.map QX)[i] (t.map QX)[j]with
  |true=>exact .inr rfl
  |false =>
   cases e2:Ip (t.map QX)[j] (t.map QX)[i]with
   |true=>exact absurd (aX e2) (by simpa using h)
   |false=>exact .inl (TO e e2)) (t.map QX).length (Al _)
 rw[DM]at hc;have e:B1 t=(Lib.compactUpTo (t.map QX).toArray (t.map QX).length).map aC:=rfl;rw[e];refine⟨?_,fun p=>?_⟩
 ·rw[List.pairwise_map];exact hc.1.imp fun {a b} h=>by show Ip (aC a).data.toList (aC b).data.toList=true;exact h
 ·rw[Am];constructor
  ·rintro⟨a,ha,rfl⟩
   obtain⟨q,hq,rfl⟩:=Am.1 ((hc.2 a).1 ha)
   have:aC (QX q)=q:=by cases q;simp
   rw[this];exact hq
  ·intro hp;exact⟨QX p,(hc.2 _).2 (List.mem_map_of_mem hp),by cases p;simp⟩
abbrev o5(p:ByteArray)(f t:Int):List Mv:=if f≠t then [⟨p,f,t⟩]else []
def rm:List Sl→List Sl→List Mv
 | [],[]=>[]
 |a::l,[]=>o5 a.path (place a.ver) (-1)++rm l []
 | [],b::m=>o5 b.path (-1) (place b.ver)++rm [] m
 |a::l,b::m=>if a.path=b.path then o5 a.path (place a.ver) (place b.ver)++rm l m else if Eg a.path b.path=true then o5 a.path (place a.ver) (-1)++rm l (b::m)else o5 b.path (-1) (place b.ver)++rm (a::l) m
termination_by l m=>l.length+m.length
def mp:List Sl→List Sl→List ByteArray
 | [],[]=>[]
 |a::l,[]=>a.path::mp l []
 | [],b::m=>b.path::mp [] m
 |a::l,b::m=>if a.path=b.path then a.path::mp l m else if Eg a.path b.path=true then a.path::mp l (b::m)else b.path::mp (a::l) m
termination_by l m=>l.length+m.length
theorem Gc(a:Sl)(l:List Sl)(p:ByteArray):KV (a::l) p=if a.path=p then place a.ver else KV l p:=by
 unfold KV B4;rw[E0]
 by_cases h:a.path=p
 ·simp[h]
 ·simp[h]
theorem HW{l l' m m' : List Sl}{ps:List ByteArray}(h1:∀p∈ps,KV l p=KV l' p)(h2:∀p∈ps,KV m p=KV m' p):HU l m ps=HU l' m' ps :=
 (by
  induction ps with
  |nil=>rfl
  |cons p ps ih =>
   show(p::ps).filterMap _=(p::ps).filterMap _;rw[List.filterMap_cons,List.filterMap_cons,show Kl l m p=Kl l' m' p from by unfold Kl;rw[h1 p (Ab ..),h2 p (Ab ..)],show ps.filterMap (Kl l m)=ps.filterMap (Kl l' m')from ih (fun q hq=>h1 q (Ai _ hq)) (fun q hq=>h2 q (Ai _ hq))])
theorem II(l m:List Sl)(p:ByteArray)(ps:List ByteArray):HU l m (p::ps)=o5 p (KV l p) (KV m p)++HU l m ps:=by
 unfold HU o5;rw[List.filterMap_cons];unfold Kl
 by_cases h:KV l p=KV m p
 ·simp[h]
 ·simp[h]
theorem bt{l:List Sl}{p:ByteArray}(h:∀s∈l,s.path≠p):KV l p=-1:=by
 unfold KV B4;rw[DC.2 fun s hs=>by simpa using h s hs]
theorem VB(l m:List Sl)(hl:l.Pairwise o0)(hm:m.Pairwise o0):(mp l m).Pairwise (fun a b=>Eg a b=true)∧(∀p,p∈mp l m↔p∈l.map (·.path)∨p∈m.map (·.path))∧rm l m=HU l m (mp l m):=by
 match l,m with
 | [],[]=>unfold mp rm;simp
 |a::l,[] =>
  obtain⟨a1,a2⟩:=BG.1 hl;obtain⟨h1,h2,h3⟩:=VB l [] a2 hm;have lt:∀p∈mp l [],Eg a.path p=true:=fun p hp=>by
   have:=(h2 p).1 hp
   rcases this with q | q
   ·obtain⟨s,hs,rfl⟩:=Am.1 q;exact a1 s hs
   ·cases q
  unfold mp rm;refine⟨BG.2 ⟨lt,h1⟩,fun p=>by simp[h2],?_⟩;rw[II,h3,Gc,Ap rfl]
  congr 1
  exact HW (fun p hp=>by rw[Gc,Aj (Ik (lt p hp))]) fun _ _=>rfl
 | [],b::m =>
  obtain⟨a1,a2⟩:=BG.1 hm;obtain⟨h1,h2,h3⟩:=VB [] m hl a2;have lt:∀p∈mp [] m,Eg b.path p=true:=fun p hp=>by
   have:=(h2 p).1 hp
   rcases this with q | q
   ·cases q
   ·obtain⟨s,hs,rfl⟩:=Am.1 q;exact a1 s hs
  unfold mp rm;refine⟨BG.2 ⟨lt,h1⟩,fun p=>by simp[h2],?_⟩;rw[II,h3,Gc,Ap rfl]
  congr 1
  exact HW (fun _ _=>rfl) fun p hp=>by rw[Gc,Aj (Ik (lt p hp))]
 |a::l,b::m =>
  obtain⟨a1,a2⟩:=BG.1 hl;obtain⟨b1,b2⟩:=BG.1 hm;unfold mp rm
  by_cases e:a.path=b.path
  ·rw[Ap e,Ap e];obtain⟨h1,h2,h3⟩:=VB l m a2 b2;have lt:∀p∈mp l m,Eg a.path p=true:=fun p hp=>by
    rcases(h2 p).1 hp with q | q
    ·obtain⟨s,hs,rfl⟩:=Am.1 q;exact a1 s hs
    ·obtain⟨s,hs,rfl⟩:=Am.1 q;rw[e];exact b1 s hs
   refine⟨BG.2 ⟨lt,h1⟩,fun p=>?_,?_⟩
   ·simp only[AA,h2,AP,e];constructor
    ·rintro(q | q | q)
     ·exact .inl (.inl q)
     ·exact .inl (.inr q)
     ·exact .inr (.inr q)
    ·rintro((q | q) | (q | q))
     ·exact .inl q
     ·exact .inr (.inl q)
     ·exact .inl q
     ·exact .inr (.inr q)
   ·rw[II,h3,Gc,Ap rfl,Gc,Ap e.symm]
    congr 1
    exact HW (fun p hp=>by rw[Gc,Aj (Ik (lt p hp))]) fun p hp=>by rw[Gc,Aj (by rw[←e];exact Ik (lt p hp))]
  ·rw[Aj e,Aj e]
   by_cases c:Eg a.path b.path=true
   ·rw[Ap c,Ap c];obtain⟨h1,h2,h3⟩:=VB l (b::m) a2 hm;have la:∀s∈b::m,Eg a.path s.path=true:=fun s hs=>by
     rcases AA.1 hs with rfl | hs
     ·exact c
     ·exact DX c (b1 s hs)
    have lt:∀p∈mp l (b::m),Eg a.path p=true:=fun p hp=>by
     rcases(h2 p).1 hp with q | q
     ·obtain⟨s,hs,rfl⟩:=Am.1 q;exact a1 s hs
     ·obtain⟨s,hs,rfl⟩:=Am.1 q;exact la s hs
    refine⟨BG.2 ⟨lt,h1⟩,fun p=>by rw[AA,h2,AP,AA,AP (l:=l),AA (l:=l.map _),or_assoc],?_⟩;rw[II,h3,Gc,Ap rfl,bt (l:=b::m) fun s hs=>(Ik (la s hs)).symm]
    congr 1
    exact HW (fun p hp=>by rw[Gc,Aj (Ik (lt p hp))]) fun _ _=>rfl
   ·rw[Aj c,Aj c];have c' : Eg b.path a.path=true:=by
     cases q:Eg b.path a.path with
     |true=>rfl
     |false=>exact absurd (HH (by simpa using c) q) e
    obtain⟨h1,h2,h3⟩:=VB (a::l) m hl b2;have la:∀s∈a::l,Eg b.path s.path=true:=fun s hs=>by
     rcases AA.1 hs with rfl | hs
     ·exact c'
     ·exact DX c' (a1 s hs)
    have lt:∀p∈mp (a::l) m,Eg b.path p=true:=fun p hp=>by
     rcases(h2 p).1 hp with q | q
     ·obtain⟨s,hs,rfl⟩:=Am.1 q;exact la s hs
     ·obtain⟨s,hs,rfl⟩:=Am.1 q;exact b1 s hs
    refine⟨BG.2 ⟨lt,h1⟩,fun p=>?_,?_⟩
    ·rw[AA,h2,AP,AP,AA,AA];constructor
     ·rintro(q | q | q)
      ·exact .inr (.inl q)
      ·exact .inl q
      ·exact .inr (.inr q)
     ·rintro(q | q | q)
      ·exact .inr (.inl q)
      ·exact .inl q
      ·exact .inr (.inr q)
    ·rw[II,h3,bt (l:=a::l) fun s hs=>(Ik (la s hs)).symm,Gc b m,Ap rfl]
     congr 1
     exact HW (fun _ _=>rfl) fun p hp=>by rw[Gc b m,Aj (Ik (lt p hp))]
termination_by l.length+m.length
theorem im{l m:List Sl}{t:List ByteArray}(hl:LV l)(hm:LV m)(hp:t.Perm ((l++m).map (·.path)))(ht:(t.map QX).Pairwise fun a b=>a≤b):HU l m (B1 t)=rm l m:=by
 obtain⟨h1,h2,h3⟩:=VB l m hl.inc hm.inc;obtain⟨c1,c2⟩:=fC ht;rw[h3]
 congr 1
 refine List.Perm.eq_of_pairwise (le:=fun a b=>Eg a b=true) (fun a b _ _ x y=>?_) c1 h1 ?_
 ·rw[MG x]at y;cases y
 ·refine(Oq (c1.imp fun h=>Ik h) (h1.imp fun h=>Ik h)).2 fun p=>?_;rw[c2,h2,hp.mem_iff,Ay,A1]
end Go.Eng
