/- Lemmas for the claims of this seat, without a condition: part 31 (V8, V9, V10, V11, V4). -/
import Derived.Test.YtddfphmpfnmknaaGreatDoorGA30
set_option maxHeartbeats 4000000
namespace Go.Eng
open Go.Proofs
variable (N:List Rl)(i:Nat)(x:List Rl)(r:Rl)(ifs:List (List AV))(s:Sl)(l:List Sl)(a b:Bool)
def Pk(y:Bool)(p:Sl→Bool)(r:Rl):Rl:=if p (D2 r)=true then { r with yanked:=y }else r
theorem Nq{α β:Type}{f:α→β}{N:List α}{i:Nat}{r:α}(h:N[i]?=some r):N.map f=(N.set i r).map f:=by
 obtain⟨hi,rfl⟩:=Aw.1 h;rw[List.set_getElem_self]
theorem QS:PC 40 [.agg (At r)] (.agg (Ac (D2 r))):=by
 refine Ps D3 Tryz.func40 rfl (Nz rfl) (yN (yN (yN ?_)));exact .refl _
theorem tw(gi:N[i]?=some r)(hs:D2 r=s):A1 Tryz.prog 56 [.eref 1000 N.length 9 i 0,.cptr (Ac s),.cptr [vb true],.ref 1001 0,.ref 1002 0] (Ak [(1000,.arr 9 (N.map At)),(1001,.cells [vb a]),(1002,.cells [vb b])] Af) fun r' h'=>r'=.tup []∧h'=Ak [(1000,.arr 9 ((N.set i (Pk true (Kv s) r)).map At)),(1001,.cells [vb (if D2 r=s then true else a)]),(1002,.cells [vb (if D2 r=s then decide (r.yanked=true)else b)])] Af:=by
 refine BW (KV D3) [(1000,1000),(1001,1001),(1002,1002)] rfl Co hm rfl Tryz.func56 Wk rfl (Nz rfl) Wk rfl (Yi (show N.length=(N.map At).length by simp) (Xi (At r) (Yi (CR gi) (yN (Xi _ (Yi (QS r) (yN (Yi (fun h1=>?_) (fun h1=>?_)))))))))
 ·have h1:((D2 r).path:ByteArray)=s.path∧((D2 r).ver.a:Int)=s.ver.a∧((D2 r).ver.b:Int)=s.ver.b∧((D2 r).ver.c:Int)=s.ver.c∧True:=h1;refine Yi Wk (Yi (show N.length=(N.map At).length by simp) (Xi (At r) (Yi (CR gi) (Yi (fun h2=>?_) (fun h2=>?_)))))
  ·have h2:r.yanked=true:=h2;refine Yi (fun _=>?_) (fun h=>absurd h Cl);refine yN (yN (Yi Wk (Yi (fun _=>?_) (fun h=>absurd h Cl))));refine Yi (show N.length=(N.map At).length by simp) (Xi (At r) (Yi (CR gi) (yN ?_)));have e1:(if D2 r=s then true else a)=true:=Al hs;have e2:(if D2 r=s then decide (r.yanked=true)else b)=true:=by rw[Al hs,h2];rfl
   exact Xi _ (Yi (.refl _) ⟨rfl,show Ak [(1000,HO.arr 9 ((N.map At).set i [vs r.path,vi r.ver.a,vi r.ver.b,vi r.ver.c,sl AH r.reqs,vs r.arch,vs r.ifc,vs r.cert,vb true])),(1001,.cells [vb true]),(1002,.cells [vb true])] Af=Ak [(1000,HO.arr 9 ((N.set i (Pk true (Kv s) r)).map At)),(1001,.cells [vb (if D2 r=s then true else a)]),(1002,.cells [vb (if D2 r=s then decide (r.yanked=true)else b)])] Af by rw[e1,e2,E5,Pk,Al (Aq hs)]⟩)
  have h2:r.yanked=false:=h2;refine Yi (fun _=>?_) (fun h=>absurd h Cl);refine yN (yN (Yi Wk (Yi (fun _=>?_) (fun h=>absurd h Cl))));refine Yi (show N.length=(N.map At).length by simp) (Xi (At r) (Yi (CR gi) (yN ?_)));have e1:(if D2 r=s then true else a)=true:=Al hs;have e2:(if D2 r=s then decide (r.yanked=true)else b)=false:=by rw[Al hs,h2];rfl
  exact Xi _ (Yi (.refl _) ⟨rfl,show Ak [(1000,HO.arr 9 ((N.map At).set i [vs r.path,vi r.ver.a,vi r.ver.b,vi r.ver.c,sl AH r.reqs,vs r.arch,vs r.ifc,vs r.cert,vb true])),(1001,.cells [vb true]),(1002,.cells [vb false])] Af=Ak [(1000,HO.arr 9 ((N.set i (Pk true (Kv s) r)).map At)),(1001,.cells [vb (if D2 r=s then true else a)]),(1002,.cells [vb (if D2 r=s then decide (r.yanked=true)else b)])] Af by rw[e1,e2,E5,Pk,Al (Aq hs)]⟩)
 have h1:¬(((D2 r).path:ByteArray)=s.path∧((D2 r).ver.a:Int)=s.ver.a∧((D2 r).ver.b:Int)=s.ver.b∧((D2 r).ver.c:Int)=s.ver.c∧True):=h1;exact absurd (show((D2 r).path:ByteArray)=s.path∧((D2 r).ver.a:Int)=s.ver.a∧((D2 r).ver.b:Int)=s.ver.b∧((D2 r).ver.c:Int)=s.ver.c∧True by rw[hs];exact⟨rfl,rfl,rfl,rfl,trivial⟩) h1
theorem tv(gi:N[i]?=some r)(hs:¬D2 r=s):A1 Tryz.prog 56 [.eref 1000 N.length 9 i 0,.cptr (Ac s),.cptr [vb true],.ref 1001 0,.ref 1002 0] (Ak [(1000,.arr 9 (N.map At)),(1001,.cells [vb a]),(1002,.cells [vb b])] Af) fun r' h'=>r'=.tup []∧h'=Ak [(1000,.arr 9 ((N.set i (Pk true (Kv s) r)).map At)),(1001,.cells [vb (if D2 r=s then true else a)]),(1002,.cells [vb (if D2 r=s then decide (r.yanked=true)else b)])] Af:=by
 refine BW (KV D3) [(1000,1000),(1001,1001),(1002,1002)] rfl Co hm rfl Tryz.func56 Wk rfl (Nz rfl) Wk rfl (Yi (show N.length=(N.map At).length by simp) (Xi (At r) (Yi (CR gi) (yN (Xi _ (Yi (QS r) (yN (Yi (fun h1=>?_) (fun h1=>?_)))))))))
 ·have h1:((D2 r).path:ByteArray)=s.path∧((D2 r).ver.a:Int)=s.ver.a∧((D2 r).ver.b:Int)=s.ver.b∧((D2 r).ver.c:Int)=s.ver.c∧True:=h1;exact absurd (bf h1) hs
 have h1:¬(((D2 r).path:ByteArray)=s.path∧((D2 r).ver.a:Int)=s.ver.a∧((D2 r).ver.b:Int)=s.ver.b∧((D2 r).ver.c:Int)=s.ver.c∧True):=h1;refine Yi Wk ?_;exact Xi _ (Yi (.refl _) ⟨rfl,show Ak [(1000,HO.arr 9 (N.map At)),(1001,.cells [vb a]),(1002,.cells [vb b])] Af=Ak [(1000,.arr 9 ((N.set i (Pk true (Kv s) r)).map At)),(1001,.cells [vb (if D2 r=s then true else a)]),(1002,.cells [vb (if D2 r=s then decide (r.yanked=true)else b)])] Af by rw[Ae hs,Ae hs,Pk,Ae (fun h=>hs (A4 h)),Nq gi]⟩)
theorem xG(gi:N[i]?=some r):A1 Tryz.prog 56 [.eref 1000 N.length 9 i 0,.cptr (Ac s),.cptr [vb true],.ref 1001 0,.ref 1002 0] (Ak [(1000,.arr 9 (N.map At)),(1001,.cells [vb a]),(1002,.cells [vb b])] Af) fun r' h'=>r'=.tup []∧h'=Ak [(1000,.arr 9 ((N.set i (Pk true (Kv s) r)).map At)),(1001,.cells [vb (if D2 r=s then true else a)]),(1002,.cells [vb (if D2 r=s then decide (r.yanked=true)else b)])] Af:=by
 by_cases hs:D2 r=s
 ·exact tw N i r s a b gi hs
 ·exact tv N i r s a b gi hs
theorem tu(gi:N[i]?=some r)(hs:D2 r=s):A1 Tryz.prog 56 [.eref 1000 N.length 9 i 0,.cptr (Ac s),.cptr [vb false],.ref 1001 0,.ref 1002 0] (Ak [(1000,.arr 9 (N.map At)),(1001,.cells [vb a]),(1002,.cells [vb b])] Af) fun r' h'=>r'=.tup []∧h'=Ak [(1000,.arr 9 ((N.set i (Pk false (Kv s) r)).map At)),(1001,.cells [vb (if D2 r=s then true else a)]),(1002,.cells [vb (if D2 r=s then decide (r.yanked=false)else b)])] Af:=by
 refine BW (KV D3) [(1000,1000),(1001,1001),(1002,1002)] rfl Co hm rfl Tryz.func56 Wk rfl (Nz rfl) Wk rfl (Yi (show N.length=(N.map At).length by simp) (Xi (At r) (Yi (CR gi) (yN (Xi _ (Yi (QS r) (yN (Yi (fun h1=>?_) (fun h1=>?_)))))))))
 ·have h1:((D2 r).path:ByteArray)=s.path∧((D2 r).ver.a:Int)=s.ver.a∧((D2 r).ver.b:Int)=s.ver.b∧((D2 r).ver.c:Int)=s.ver.c∧True:=h1;refine Yi Wk (Yi (show N.length=(N.map At).length by simp) (Xi (At r) (Yi (CR gi) (Yi (fun h2=>?_) (fun h2=>?_)))))
  ·have h2:r.yanked=true:=h2;refine Yi (fun h=>absurd h Cl) (fun _=>?_);refine yN (yN (Yi Wk (Yi (fun h=>absurd h Cl) (fun _=>?_))));refine Yi (show N.length=(N.map At).length by simp) (Xi (At r) (Yi (CR gi) (yN ?_)));have e1:(if D2 r=s then true else a)=true:=Al hs;have e2:(if D2 r=s then decide (r.yanked=false)else b)=false:=by rw[Al hs,h2];rfl
   exact Xi _ (Yi (.refl _) ⟨rfl,show Ak [(1000,HO.arr 9 ((N.map At).set i [vs r.path,vi r.ver.a,vi r.ver.b,vi r.ver.c,sl AH r.reqs,vs r.arch,vs r.ifc,vs r.cert,vb false])),(1001,.cells [vb true]),(1002,.cells [vb false])] Af=Ak [(1000,HO.arr 9 ((N.set i (Pk false (Kv s) r)).map At)),(1001,.cells [vb (if D2 r=s then true else a)]),(1002,.cells [vb (if D2 r=s then decide (r.yanked=false)else b)])] Af by rw[e1,e2,E5,Pk,Al (Aq hs)]⟩)
  have h2:r.yanked=false:=h2;refine Yi (fun h=>absurd h Cl) (fun _=>?_);refine yN (yN (Yi Wk (Yi (fun h=>absurd h Cl) (fun _=>?_))));refine Yi (show N.length=(N.map At).length by simp) (Xi (At r) (Yi (CR gi) (yN ?_)));have e1:(if D2 r=s then true else a)=true:=Al hs;have e2:(if D2 r=s then decide (r.yanked=false)else b)=true:=by rw[Al hs,h2];rfl
  exact Xi _ (Yi (.refl _) ⟨rfl,show Ak [(1000,HO.arr 9 ((N.map At).set i [vs r.path,vi r.ver.a,vi r.ver.b,vi r.ver.c,sl AH r.reqs,vs r.arch,vs r.ifc,vs r.cert,vb false])),(1001,.cells [vb true]),(1002,.cells [vb true])] Af=Ak [(1000,HO.arr 9 ((N.set i (Pk false (Kv s) r)).map At)),(1001,.cells [vb (if D2 r=s then true else a)]),(1002,.cells [vb (if D2 r=s then decide (r.yanked=false)else b)])] Af by rw[e1,e2,E5,Pk,Al (Aq hs)]⟩)
 have h1:¬(((D2 r).path:ByteArray)=s.path∧((D2 r).ver.a:Int)=s.ver.a∧((D2 r).ver.b:Int)=s.ver.b∧((D2 r).ver.c:Int)=s.ver.c∧True):=h1;exact absurd (show((D2 r).path:ByteArray)=s.path∧((D2 r).ver.a:Int)=s.ver.a∧((D2 r).ver.b:Int)=s.ver.b∧((D2 r).ver.c:Int)=s.ver.c∧True by rw[hs];exact⟨rfl,rfl,rfl,rfl,trivial⟩) h1
theorem tt(gi:N[i]?=some r)(hs:¬D2 r=s):A1 Tryz.prog 56 [.eref 1000 N.length 9 i 0,.cptr (Ac s),.cptr [vb false],.ref 1001 0,.ref 1002 0] (Ak [(1000,.arr 9 (N.map At)),(1001,.cells [vb a]),(1002,.cells [vb b])] Af) fun r' h'=>r'=.tup []∧h'=Ak [(1000,.arr 9 ((N.set i (Pk false (Kv s) r)).map At)),(1001,.cells [vb (if D2 r=s then true else a)]),(1002,.cells [vb (if D2 r=s then decide (r.yanked=false)else b)])] Af:=by
 refine BW (KV D3) [(1000,1000),(1001,1001),(1002,1002)] rfl Co hm rfl Tryz.func56 Wk rfl (Nz rfl) Wk rfl (Yi (show N.length=(N.map At).length by simp) (Xi (At r) (Yi (CR gi) (yN (Xi _ (Yi (QS r) (yN (Yi (fun h1=>?_) (fun h1=>?_)))))))))
 ·have h1:((D2 r).path:ByteArray)=s.path∧((D2 r).ver.a:Int)=s.ver.a∧((D2 r).ver.b:Int)=s.ver.b∧((D2 r).ver.c:Int)=s.ver.c∧True:=h1;exact absurd (bf h1) hs
 have h1:¬(((D2 r).path:ByteArray)=s.path∧((D2 r).ver.a:Int)=s.ver.a∧((D2 r).ver.b:Int)=s.ver.b∧((D2 r).ver.c:Int)=s.ver.c∧True):=h1;refine Yi Wk ?_;exact Xi _ (Yi (.refl _) ⟨rfl,show Ak [(1000,HO.arr 9 (N.map At)),(1001,.cells [vb a]),(1002,.cells [vb b])] Af=Ak [(1000,.arr 9 ((N.set i (Pk false (Kv s) r)).map At)),(1001,.cells [vb (if D2 r=s then true else a)]),(1002,.cells [vb (if D2 r=s then decide (r.yanked=false)else b)])] Af by rw[Ae hs,Ae hs,Pk,Ae (fun h=>hs (A4 h)),Nq gi]⟩)
theorem xF(gi:N[i]?=some r):A1 Tryz.prog 56 [.eref 1000 N.length 9 i 0,.cptr (Ac s),.cptr [vb false],.ref 1001 0,.ref 1002 0] (Ak [(1000,.arr 9 (N.map At)),(1001,.cells [vb a]),(1002,.cells [vb b])] Af) fun r' h'=>r'=.tup []∧h'=Ak [(1000,.arr 9 ((N.set i (Pk false (Kv s) r)).map At)),(1001,.cells [vb (if D2 r=s then true else a)]),(1002,.cells [vb (if D2 r=s then decide (r.yanked=false)else b)])] Af:=by
 by_cases hs:D2 r=s
 ·exact tu N i r s a b gi hs
 ·exact tt N i r s a b gi hs
theorem xE(hl:Cy l)(gi:N[i]?=some r)(hs:D2 r∈l):A1 Tryz.prog 51 [.eref 1000 N.length 9 i 0,.cptr [sl Ac l]] (Ak [(1000,.arr 9 (N.map At))] Af) fun r' h'=>r'=.tup []∧h'=Ak [(1000,.arr 9 ((N.set i (Pk false (JY l) r)).map At))] Af:=by
 have hc:=o27 l (D2 r) hl;rw[Aq hs]at hc;refine BW (KV D3) [(1000,1000)] rfl Co hm rfl Tryz.func51 Wk rfl (Nz rfl) Wk rfl (Yi (show N.length=(N.map At).length by simp) (Xi (At r) (Yi (CR gi) (yN (Xi _ (Yi (QS r) (Xi _ (Yi hc (Yi Wk (Yi (show N.length=(N.map At).length by simp) (Xi (At r) (Yi (CR gi) (yN ?_)))))))))))));exact Xi _ (Yi (.refl _) ⟨rfl,show Ak [(1000,HO.arr 9 ((N.map At).set i [vs r.path,vi r.ver.a,vi r.ver.b,vi r.ver.c,sl AH r.reqs,vs r.arch,vs r.ifc,vs r.cert,vb false]))] Af=Ak [(1000,HO.arr 9 ((N.set i (Pk false (JY l) r)).map At))] Af by rw[E5,Pk,Al (Aq hs)]⟩)
theorem xD(hl:Cy l)(gi:N[i]?=some r)(hs:¬D2 r∈l):A1 Tryz.prog 51 [.eref 1000 N.length 9 i 0,.cptr [sl Ac l]] (Ak [(1000,.arr 9 (N.map At))] Af) fun r' h'=>r'=.tup []∧h'=Ak [(1000,.arr 9 ((N.set i (Pk false (JY l) r)).map At))] Af:=by
 have hc:=o27 l (D2 r) hl;rw[Ap hs]at hc;refine BW (KV D3) [(1000,1000)] rfl Co hm rfl Tryz.func51 Wk rfl (Nz rfl) Wk rfl (Yi (show N.length=(N.map At).length by simp) (Xi (At r) (Yi (CR gi) (yN (Xi _ (Yi (QS r) (Xi _ (Yi hc (Yi Wk ?_)))))))));exact Xi _ (Yi (.refl _) ⟨rfl,show Ak [(1000,HO.arr 9 (N.map At))] Af=Ak [(1000,.arr 9 ((N.set i (Pk false (JY l) r)).map At))] Af by rw[Pk,Ae (fun h=>hs (A4 h)),Nq gi]⟩)
theorem Acw(hl:Cy l)(gi:N[i]?=some r):A1 Tryz.prog 51 [.eref 1000 N.length 9 i 0,.cptr [sl Ac l]] (Ak [(1000,.arr 9 (N.map At))] Af) fun r' h'=>r'=.tup []∧h'=Ak [(1000,.arr 9 ((N.set i (Pk false (JY l) r)).map At))] Af:=by
 by_cases hs:D2 r∈l
 ·exact xE N i r l hl gi hs
 ·exact xD N i r l hl gi hs
theorem qN(y:Bool)(x:List Rl)(ifs:List (List AV))(c:Int)(oo:c≠0)(ku:PC 72 [sl At x] (.tup [Ce,vi c])):A1 Tryz.prog 50 [.agg (Ic x ifs),.clo 56 [.cptr (Ac s),.cptr [vb y],.ref 1000 0,.ref 1001 0]] (Ak [(1000,.cells [vb false]),(1001,.cells [vb false])] Af) fun r h'=>r=.tup [.agg [Ce,Ce],vi 1]∧h'=Ak [(1000,.cells [vb false]),(1001,.cells [vb false])] Af:=by
 refine BW (KV (pC [2] [])) [(1000,1000),(1001,1001)] rfl Co hm rfl Tryz.func50 Wk rfl (Nz rfl) Wk rfl (Xi .pure (Xi _ (Yi ku (Yi (fun h1=>?_) (fun h1=>?_)))))
 ·have h1:(c:Int)≠(0:Int):=h1;refine yN (yN ?_);exact Xi _ (Yi (.refl _) Zr)
 have h1:(c:Int)=(0:Int):=AC h1;exact absurd h1 oo
theorem qO(y:Bool)(x:List Rl)(ifs:List (List AV))(es:List (List AV))(ku:A1 Tryz.prog 72 [sl At x] Af fun r h'=>r=.tup [.msl 2000 x.length,vi 0]∧h'=Ak [(2000,.arr 9 es)] Af)(k:Int)(QW:k≠0)(hk:PC 37 [EZ x ifs] (vi k)):A1 Tryz.prog 50 [.agg (Ic x ifs),.clo 56 [.cptr (Ac s),.cptr [vb y],.ref 1000 0,.ref 1001 0]] (Ak [(1000,.cells [vb false]),(1001,.cells [vb false])] Af) fun r h'=>r=.tup [.agg [Ce,Ce],vi 1]∧h'=Ak [(1000,.cells [vb false]),(1001,.cells [vb false])] Af:=by
 refine BW (KV (pC [2] [])) [(1000,1000),(1001,1001)] rfl Co hm rfl Tryz.func50 Wk rfl (Nz rfl) Wk rfl (Xi (.gen [] 1) (Yi rfl (A1.to2 ku ?_)));refine Yi (fun h=>absurd h Cl) (fun _=>?_);refine yN (Xi .pure (Xi _ (Yi hk (Yi (fun h1=>?_) (fun h1=>?_)))))
 ·have h1:(k:Int)≠(0:Int):=h1;refine yN (yN ?_);exact Xi _ (Yi (.refl _) Zr)
 have h1:(k:Int)=(0:Int):=AC h1;exact absurd h1 QW
theorem NW{y:Bool}{p:Sl→Bool}{x:List Rl}{i:Nat}:(yk y p (x.take i)++x.drop i).length=x.length:=by
 rw[Ad,K9,AB,B3];omega
theorem xC(x:List Rl)(ifs:List (List AV))(hx:x.length≤16)(ku:A1 Tryz.prog 72 [sl At x] Af fun r h'=>r=.tup [.msl 2000 x.length,vi 0]∧h'=Ak [(2000,.arr 9 (x.map At))] Af)(hk:PC 37 [EZ x ifs] (vi 0))(hcl:PC 73 [.slice .none ifs] (.slice .none ifs)):A1 Tryz.prog 50 [.agg (Ic x ifs),.clo 56 [.cptr (Ac s),.cptr [vb true],.ref 1000 0,.ref 1001 0]] (Ak [(1000,.cells [vb false]),(1001,.cells [vb false])] Af) fun r h'=>r=.tup [EZ (yk true (Kv s) x) ifs,vi 0]∧h'=Ak [(1000,.cells [vb (fs s true x).1]),(1001,.cells [vb (fs s true x).2])] Af:=by
 refine BW (KV ⟨[2],[],[],[],[],[],[],[],[],[(200009,6)],[5,6,9]⟩) [(1000,1000),(1001,1001)] rfl Co hm rfl Tryz.func50 Wk rfl (Nz rfl) Wk rfl (Xi (.gen [] 1) (Yi rfl (A1.to2 ku ?_)));refine Yi (fun h=>absurd h Cl) (fun _=>?_);refine yN (Xi .pure (Xi _ (Yi hk (Yi (fun h=>absurd h Cl) (fun _=>?_)))));refine Xi {q:Nat // q≤x.length} (Xi (fun q=>⟨[(1,.clo 56 [.cptr (Ac s),.cptr [vb true],.ref 1000 0,.ref 1001 0]),(2,.ref 2 0),(4,.ref 4 0),(6,.msl 11200 x.length),(24,vi x.length),(25,vi q.1)],[(2,.ro (Ic x ifs)),(4,.cells [Ce,Ce]),(1000,.cells [vb (fs s true (x.take q.1)).1]),(1001,.cells [vb (fs s true (x.take q.1)).2]),(11200,.arr 9 ((yk true (Kv s) (x.take q.1)++x.drop q.1).map At))],Af⟩) (Xi (fun q=>x.length-q.1) (Yi (Xi ⟨0,AA _⟩ ?_) ?_)))
 ·exact⟨Z6,Z5,Fh,Bo Wk⟩
 intro⟨i,i1⟩;have i1:i≤x.length:=i1;refine cU [(1,.clo 56 [.cptr (Ac s),.cptr [vb true],.ref 1000 0,.ref 1001 0]),(2,.ref 2 0),(4,.ref 4 0),(6,.msl 11200 x.length),(24,vi x.length),(25,vi i)] [(2,.ro (Ic x ifs)),(4,.cells [Ce,Ce]),(1000,.cells [vb (fs s true (x.take i)).1]),(1001,.cells [vb (fs s true (x.take i)).2]),(11200,.arr 9 ((yk true (Kv s) (x.take i)++x.drop i).map At))] Z6 Z5 (Yi (fun h1=>?_) (fun h1=>?_))
 ·have h1:(i:Int)<(x.length:Int):=h1;have n1:i<x.length:=by omega
  have g1:x[i]?=some x[i]:=Ge n1;have ni:i<x.length:=by omega
  refine cU [(1,.clo 56 [.cptr (Ac s),.cptr [vb true],.ref 1000 0,.ref 1001 0]),(2,.ref 2 0),(4,.ref 4 0),(6,.msl 11200 x.length),(24,vi x.length),(25,vi i)] [(2,.ro (Ic x ifs)),(4,.cells [Ce,Ce]),(1000,.cells [vb (fs s true (x.take i)).1]),(1001,.cells [vb (fs s true (x.take i)).2]),(11200,.arr 9 ((yk true (Kv s) (x.take i)++x.drop i).map At))] Z6 Z5 (Yi (by show(0:Int)≤i∧(i:Int)<(x.length:Nat);omega) (Xi (.gen [(11200,1000),(1000,1001),(1001,1002)] 0) (Yi rfl (A1.to2 (by have q:=xG (yk true (Kv s) (x.take i)++x.drop i) i x[i] s (fs s true (x.take i)).1 (fs s true (x.take i)).2 (mW ni);rw[NW]at q;exact q) ?_))));refine Yi (Ii i ch) (Xi ⟨i+1,ni⟩ ?_);exact⟨Dl x.length i ch,Z6,⟨Zr,Zr,⟨(show HO.cells [vb (if D2 x[i]=s then true else(fs s true (x.take i)).1)]=.cells [vb (fs s true (x.take (i+1))).1] by rw[Tp ni];split<;>rfl),rfl⟩,⟨(show HO.cells [vb (if D2 x[i]=s then decide (x[i].yanked=true)else(fs s true (x.take i)).2)]=.cells [vb (fs s true (x.take (i+1))).2] by rw[Tp ni];split<;>rfl),rfl⟩,⟨(show HO.arr 9 (((yk true (Kv s) (x.take i)++x.drop i).set i (Pk true (Kv s) x[i])).map At)=.arr 9 ((yk true (Kv s) (x.take (i+1))++x.drop (i+1)).map At) by rw[Pk,YN ni]),rfl⟩,Tv⟩,Fh,Bo Wk⟩
 have h1:¬((i:Int)<(x.length:Int)):=h1;have n1:¬i<x.length:=by omega
 have ei:x.take i=x:=Au ch;have ed:x.drop i=[]:=CK ch;refine Yi (show x.length=((yk true (Kv s) (x.take i)++x.drop i).map At).length by rw[Lm,NW]) ?_;refine cU [(2,.ref 2 0),(4,.ref 4 0),(6,sl At (yk true (Kv s) (x.take i)++x.drop i))] [(2,.ro (Ic x ifs)),(4,.cells [Ce,Ce]),(1000,.cells [vb (fs s true (x.take i)).1]),(1001,.cells [vb (fs s true (x.take i)).2])] Z3 Z4 (Xi .pure (Xi _ (Yi hcl (yN (yN ?_)))));exact Xi _ (Yi (.refl _) ⟨show AV.tup [.agg [sl At (yk true (Kv s) (x.take i)++x.drop i),.slice .none ifs],vi 0]=.tup [EZ (yk true (Kv s) x) ifs,vi 0] by rw[ei,ed,BL],show Ak [(1000,HO.cells [vb (fs s true (x.take i)).1]),(1001,.cells [vb (fs s true (x.take i)).2])] Af=Ak [(1000,.cells [vb (fs s true x).1]),(1001,.cells [vb (fs s true x).2])] Af by rw[ei]⟩)
theorem xA(x:List Rl)(ifs:List (List AV))(hx:x.length≤16)(ku:A1 Tryz.prog 72 [sl At x] Af fun r h'=>r=.tup [.msl 2000 x.length,vi 0]∧h'=Ak [(2000,.arr 9 (x.map At))] Af)(hk:PC 37 [EZ x ifs] (vi 0))(hcl:PC 73 [.slice .none ifs] (.slice .none ifs)):A1 Tryz.prog 50 [.agg (Ic x ifs),.clo 56 [.cptr (Ac s),.cptr [vb false],.ref 1000 0,.ref 1001 0]] (Ak [(1000,.cells [vb false]),(1001,.cells [vb false])] Af) fun r h'=>r=.tup [EZ (yk false (Kv s) x) ifs,vi 0]∧h'=Ak [(1000,.cells [vb (fs s false x).1]),(1001,.cells [vb (fs s false x).2])] Af:=by
 refine BW (KV ⟨[2],[],[],[],[],[],[],[],[],[(200009,6)],[5,6,9]⟩) [(1000,1000),(1001,1001)] rfl Co hm rfl Tryz.func50 Wk rfl (Nz rfl) Wk rfl (Xi (.gen [] 1) (Yi rfl (A1.to2 ku ?_)));refine Yi (fun h=>absurd h Cl) (fun _=>?_);refine yN (Xi .pure (Xi _ (Yi hk (Yi (fun h=>absurd h Cl) (fun _=>?_)))));refine Xi {q:Nat // q≤x.length} (Xi (fun q=>⟨[(1,.clo 56 [.cptr (Ac s),.cptr [vb false],.ref 1000 0,.ref 1001 0]),(2,.ref 2 0),(4,.ref 4 0),(6,.msl 11200 x.length),(24,vi x.length),(25,vi q.1)],[(2,.ro (Ic x ifs)),(4,.cells [Ce,Ce]),(1000,.cells [vb (fs s false (x.take q.1)).1]),(1001,.cells [vb (fs s false (x.take q.1)).2]),(11200,.arr 9 ((yk false (Kv s) (x.take q.1)++x.drop q.1).map At))],Af⟩) (Xi (fun q=>x.length-q.1) (Yi (Xi ⟨0,AA _⟩ ?_) ?_)))
 ·exact⟨Z6,Z5,Fh,Bo Wk⟩
 intro⟨i,i1⟩;have i1:i≤x.length:=i1;refine cU [(1,.clo 56 [.cptr (Ac s),.cptr [vb false],.ref 1000 0,.ref 1001 0]),(2,.ref 2 0),(4,.ref 4 0),(6,.msl 11200 x.length),(24,vi x.length),(25,vi i)] [(2,.ro (Ic x ifs)),(4,.cells [Ce,Ce]),(1000,.cells [vb (fs s false (x.take i)).1]),(1001,.cells [vb (fs s false (x.take i)).2]),(11200,.arr 9 ((yk false (Kv s) (x.take i)++x.drop i).map At))] Z6 Z5 (Yi (fun h1=>?_) (fun h1=>?_))
 ·have h1:(i:Int)<(x.length:Int):=h1;have n1:i<x.length:=by omega
  have g1:x[i]?=some x[i]:=Ge n1;have ni:i<x.length:=by omega
  refine cU [(1,.clo 56 [.cptr (Ac s),.cptr [vb false],.ref 1000 0,.ref 1001 0]),(2,.ref 2 0),(4,.ref 4 0),(6,.msl 11200 x.length),(24,vi x.length),(25,vi i)] [(2,.ro (Ic x ifs)),(4,.cells [Ce,Ce]),(1000,.cells [vb (fs s false (x.take i)).1]),(1001,.cells [vb (fs s false (x.take i)).2]),(11200,.arr 9 ((yk false (Kv s) (x.take i)++x.drop i).map At))] Z6 Z5 (Yi (by show(0:Int)≤i∧(i:Int)<(x.length:Nat);omega) (Xi (.gen [(11200,1000),(1000,1001),(1001,1002)] 0) (Yi rfl (A1.to2 (by have q:=xF (yk false (Kv s) (x.take i)++x.drop i) i x[i] s (fs s false (x.take i)).1 (fs s false (x.take i)).2 (mW ni);rw[NW]at q;exact q) ?_))));refine Yi (Ii i ch) (Xi ⟨i+1,ni⟩ ?_);exact⟨Dl x.length i ch,Z6,⟨Zr,Zr,⟨(show HO.cells [vb (if D2 x[i]=s then true else(fs s false (x.take i)).1)]=.cells [vb (fs s false (x.take (i+1))).1] by rw[Tp ni];split<;>rfl),rfl⟩,⟨(show HO.cells [vb (if D2 x[i]=s then decide (x[i].yanked=false)else(fs s false (x.take i)).2)]=.cells [vb (fs s false (x.take (i+1))).2] by rw[Tp ni];split<;>rfl),rfl⟩,⟨(show HO.arr 9 (((yk false (Kv s) (x.take i)++x.drop i).set i (Pk false (Kv s) x[i])).map At)=.arr 9 ((yk false (Kv s) (x.take (i+1))++x.drop (i+1)).map At) by rw[Pk,YN ni]),rfl⟩,Tv⟩,Fh,Bo Wk⟩
 have h1:¬((i:Int)<(x.length:Int)):=h1;have n1:¬i<x.length:=by omega
 have ei:x.take i=x:=Au ch;have ed:x.drop i=[]:=CK ch;refine Yi (show x.length=((yk false (Kv s) (x.take i)++x.drop i).map At).length by rw[Lm,NW]) ?_;refine cU [(2,.ref 2 0),(4,.ref 4 0),(6,sl At (yk false (Kv s) (x.take i)++x.drop i))] [(2,.ro (Ic x ifs)),(4,.cells [Ce,Ce]),(1000,.cells [vb (fs s false (x.take i)).1]),(1001,.cells [vb (fs s false (x.take i)).2])] Z3 Z4 (Xi .pure (Xi _ (Yi hcl (yN (yN ?_)))));exact Xi _ (Yi (.refl _) ⟨show AV.tup [.agg [sl At (yk false (Kv s) (x.take i)++x.drop i),.slice .none ifs],vi 0]=.tup [EZ (yk false (Kv s) x) ifs,vi 0] by rw[ei,ed,BL],show Ak [(1000,HO.cells [vb (fs s false (x.take i)).1]),(1001,.cells [vb (fs s false (x.take i)).2])] Af=Ak [(1000,.cells [vb (fs s false x).1]),(1001,.cells [vb (fs s false x).2])] Af by rw[ei]⟩)
abbrev Kq(y:Bool):AV:=.tup [EZ (Fy x s y) (if F5 x s y=0 then ifs else []),vi (F5 x s y)]
theorem IF{x:List Rl}{ifs:List (List AV)}{s:Sl}{y:Bool}{c:Int}(h:F5 x s y=c)(hc:c≠0):GF (.tup [.agg [Ce,Ce],vi c]) (Kq x ifs s y):=by
 have e:Kq x ifs s y=.tup [EZ [] [],vi c]:=by unfold Kq;rw[h,Ae hc,mu (by rw[h];exact hc)]
 rw[e];exact .tup ⟨.agg ⟨.nil,.nil,trivial⟩,.refl _,trivial⟩
theorem TE{x:List Rl}{ifs:List (List AV)}{s:Sl}{y:Bool}(h:F5 x s y=0):Kq x ifs s y=.tup [EZ (yk y (Kv s) x) ifs,vi 0]:=by
 unfold Kq;rw[h,Al rfl,pN h]
theorem tq(h0:AN x=0)(og:A1 Tryz.prog 50 [EZ x ifs,.clo 56 [.cptr (Ac s),.cptr [vb true],.ref 1000 0,.ref 1001 0]] (Ak [(1000,.cells [vb false]),(1001,.cells [vb false])] Af) fun r h'=>r=.tup [EZ (yk true (Kv s) x) ifs,vi 0]∧h'=Ak [(1000,.cells [vb (fs s true x).1]),(1001,.cells [vb (fs s true x).2])] Af):PC 35 [.agg (Ic x ifs),.agg (Ac s),vb true] (Kq x ifs s true):=by
 refine Ps (pC [3,4,5] []) Tryz.func35 rfl (Nz rfl) (yN (yN (yN (Xi (.gen [(8,1000),(9,1001)] 0) (Yi rfl (A1.to2 og ?_))))));refine yN (Yi (fun h=>absurd h Cl) (fun _=>?_));refine Yi (fun h1=>?_) (fun h1=>?_)
 ·have h1:(fs s true x).1=true:=h1;refine Yi (fun h2=>?_) (fun h2=>?_)
  ·have h2:(fs s true x).2=true:=h2;refine yN (yN ?_);have e1:F5 x s true=if(fs s true x).2=true then 8 else 0:=(Rp h0 s true).trans (Ae (by rw[h1];decide))
   exact IF (e1.trans (Al h2)) Cl
  have h2:(fs s true x).2=false:=h2;refine yN (yN (yN ?_));have e1:F5 x s true=if(fs s true x).2=true then 8 else 0:=(Rp h0 s true).trans (Ae (by rw[h1];decide))
  exact .of_eq (TE (e1.trans (Ae (by rw[h2];decide)))).symm
 have h1:(fs s true x).1=false:=h1;refine yN (yN ?_);exact IF ((Rp h0 s true).trans (Al h1)) Cl
theorem mV(hE:F5 x s true=1)(og:A1 Tryz.prog 50 [EZ x ifs,.clo 56 [.cptr (Ac s),.cptr [vb true],.ref 1000 0,.ref 1001 0]] (Ak [(1000,.cells [vb false]),(1001,.cells [vb false])] Af) fun r h'=>r=.tup [.agg [Ce,Ce],vi 1]∧h'=Ak [(1000,.cells [vb false]),(1001,.cells [vb false])] Af):PC 35 [.agg (Ic x ifs),.agg (Ac s),vb true] (Kq x ifs s true):=by
 refine Ps (pC [3,4,5] []) Tryz.func35 rfl (Nz rfl) (yN (yN (yN (Xi (.gen [(8,1000),(9,1001)] 0) (Yi rfl (A1.to2 og ?_))))));refine yN (Yi (fun _=>?_) (fun h=>absurd Cl h));refine yN (yN ?_);exact IF hE Cl
theorem tp(h0:AN x=0)(og:A1 Tryz.prog 50 [EZ x ifs,.clo 56 [.cptr (Ac s),.cptr [vb false],.ref 1000 0,.ref 1001 0]] (Ak [(1000,.cells [vb false]),(1001,.cells [vb false])] Af) fun r h'=>r=.tup [EZ (yk false (Kv s) x) ifs,vi 0]∧h'=Ak [(1000,.cells [vb (fs s false x).1]),(1001,.cells [vb (fs s false x).2])] Af):PC 35 [.agg (Ic x ifs),.agg (Ac s),vb false] (Kq x ifs s false):=by
 refine Ps (pC [3,4,5] []) Tryz.func35 rfl (Nz rfl) (yN (yN (yN (Xi (.gen [(8,1000),(9,1001)] 0) (Yi rfl (A1.to2 og ?_))))));refine yN (Yi (fun h=>absurd h Cl) (fun _=>?_));refine Yi (fun h1=>?_) (fun h1=>?_)
 ·have h1:(fs s false x).1=true:=h1;refine Yi (fun h2=>?_) (fun h2=>?_)
  ·have h2:(fs s false x).2=true:=h2;refine yN (yN ?_);have e1:F5 x s false=if(fs s false x).2=true then 8 else 0:=(Rp h0 s false).trans (Ae (by rw[h1];decide))
   exact IF (e1.trans (Al h2)) Cl
  have h2:(fs s false x).2=false:=h2;refine yN (yN (yN ?_));have e1:F5 x s false=if(fs s false x).2=true then 8 else 0:=(Rp h0 s false).trans (Ae (by rw[h1];decide))
  exact .of_eq (TE (e1.trans (Ae (by rw[h2];decide)))).symm
 have h1:(fs s false x).1=false:=h1;refine yN (yN ?_);exact IF ((Rp h0 s false).trans (Al h1)) Cl
theorem mU(hE:F5 x s false=1)(og:A1 Tryz.prog 50 [EZ x ifs,.clo 56 [.cptr (Ac s),.cptr [vb false],.ref 1000 0,.ref 1001 0]] (Ak [(1000,.cells [vb false]),(1001,.cells [vb false])] Af) fun r h'=>r=.tup [.agg [Ce,Ce],vi 1]∧h'=Ak [(1000,.cells [vb false]),(1001,.cells [vb false])] Af):PC 35 [.agg (Ic x ifs),.agg (Ac s),vb false] (Kq x ifs s false):=by
 refine Ps (pC [3,4,5] []) Tryz.func35 rfl (Nz rfl) (yN (yN (yN (Xi (.gen [(8,1000),(9,1001)] 0) (Yi rfl (A1.to2 og ?_))))));refine yN (Yi (fun _=>?_) (fun h=>absurd Cl h));refine yN (yN ?_);exact IF hE Cl
structure Jc(x:List Rl):Prop where
 len:x.length≤16
 few:∀r∈x,Gv r
theorem xl{x:List Rl}(hf:∀r∈x,Gv r):PC 37 [.agg [sl At x,Ce]] (vi (AN x)):=(nN VQ x [] hf).args ⟨.agg ⟨.refl _,.nil,trivial⟩,trivial⟩
theorem mS{x:List Rl}(h:Jc x)(hr:∀r∈x,r.reqs.length≤1000)(hc:AN (E9 Dv x.length x)=0):A1 Tryz.prog 72 [sl At x] Af fun r h'=>r=.tup [.msl 2000 x.length,vi 0]∧h'=Ak [(2000,.arr 9 ((E9 Dv x.length x).map At))] Af:=by
 have hk:=J9.lend (sz:=9) (es:=(E9 Dv x.length x).map At) (vs:=[.slice none 0 0]) (xl (x:=E9 Dv x.length x) fun r hr=>h.few r (UI Dv _ _ r hr));rw[hc]at hk;have q:=Acm x h.len (fun r hm=>zR r (hr r hm) fun q hq=>((h.few r hm).2 q hq).1) hk;rw[show((E9 Dv x.length x).map At).length=x.length by rw[Lm,M7]]at q;exact q
theorem qK{x:List Rl}(h:Jc x)(hr:∀r∈x,r.reqs.length≤1000)(hc:AN (E9 Dv x.length x)≠0):PC 72 [sl At x] (.tup [Ce,vi (AN (E9 Dv x.length x))]):=by
 have hk:=J9.lend (sz:=9) (es:=(E9 Dv x.length x).map At) (vs:=[.slice none 0 0]) (xl (x:=E9 Dv x.length x) fun r hr=>h.few r (UI Dv _ _ r hr));exact Acl x h.len (fun r hm=>zR r (hr r hm) fun q hq=>((h.few r hm).2 q hq).1) _ hc hk
theorem qM{x:List Rl}(h:Jc x)(hr:∀r∈x,r.reqs.length≤1000)(hcl:PC 73 [.slice .none ifs] (.slice .none ifs)):PC 35 [EZ x ifs,.agg (Ac s),vb true] (Kq x ifs s true):=by
 have hk:=nN VQ x ifs h.few
 by_cases h0:AN x=0
 ·rw[h0]at hk;have q:=mS h hr (by rw[HU h0];exact h0);rw[HU h0]at q;exact tq x ifs s h0 (xC s x ifs h.len q hk hcl)
 ·have hE:F5 x s true=1:=Al h0
  by_cases hc:AN (E9 Dv x.length x)=0
  ·exact mV x ifs s hE (qO s true x ifs _ (mS h hr hc) _ h0 hk)
  ·exact mV x ifs s hE (qN s true x ifs _ hc (qK h hr hc))
theorem qL{x:List Rl}(h:Jc x)(hr:∀r∈x,r.reqs.length≤1000)(hcl:PC 73 [.slice .none ifs] (.slice .none ifs)):PC 35 [EZ x ifs,.agg (Ac s),vb false] (Kq x ifs s false):=by
 have hk:=nN VQ x ifs h.few
 by_cases h0:AN x=0
 ·rw[h0]at hk;have q:=mS h hr (by rw[HU h0];exact h0);rw[HU h0]at q;exact tp x ifs s h0 (xA s x ifs h.len q hk hcl)
 ·have hE:F5 x s false=1:=Al h0
  by_cases hc:AN (E9 Dv x.length x)=0
  ·exact mU x ifs s hE (qO s false x ifs _ (mS h hr hc) _ h0 hk)
  ·exact mU x ifs s hE (qN s false x ifs _ hc (qK h hr hc))
theorem xo(oc:PC 35 [EZ x ifs,.agg (Ac s),vb true] (Kq x ifs s true)):PC 11 [.agg (Ic x ifs),.agg (Ac s)] (Kq x ifs s true):=by
 refine Ps D3 Tryz.func11 rfl (Nz rfl) (yN (yN (Xi .pure (Xi _ (Yi oc (yN (yN ?_)))))));exact .refl _
theorem xp(oc:PC 35 [EZ x ifs,.agg (Ac s),vb false] (Kq x ifs s false)):PC 12 [.agg (Ic x ifs),.agg (Ac s)] (Kq x ifs s false):=by
 refine Ps D3 Tryz.func12 rfl (Nz rfl) (yN (yN (Xi .pure (Xi _ (Yi oc (yN (yN ?_)))))));exact .refl _
def GJ:Bool:=decide (Fl x l=0)
theorem M6:DG l=true↔∀j (h:j<l.length),0<j→DL (l[j-1]' ch).path l[j].path=true:=by
 constructor
 ·intro h j hj h0;exact(AS.1 (OR h).1) (j-1) j ch hj ch
 ·intro h;refine cr (AS.2 fun i j hi hj QV=>?_);have key:∀d (hd:i+d+1<l.length),DL l[i].path (l[i+d+1]'hd).path=true:=fun d=>by
   induction d with
   |zero=>intro hd;exact h (i+1) hd ch
   |succ d ih=>intro hd;exact DQ (ih ch) (h (i+d+1+1) hd ch)
  have:=key (j-i-1) ch
  simp only[show i+(j-i-1)+1=j by omega]at this;exact this
theorem iF{x:List Rl}{l:List Sl}{j:Nat}(hj:j<l.length)(h0:0<j)(h:¬DL (l[j-1]' ch).path l[j].path=true):GJ x l=false:=by
 refine Ap fun e=>h ((M6 l).1 (Qk e).2 j hj h0)
theorem Xk{x:List Rl}{l:List Sl}(h:AN x≠0):GJ x l=false:=Ap fun e=>h (Qk e).1
theorem Xl{x:List Rl}{l:List Sl}(h:AN x=0)(hi:DG l=true):GJ x l=true:=Aq (by
 unfold Fl;rw[Ae]
 rintro(q | q)
 ·exact q h
 ·rw[hi]at q;cases q)
theorem xz(hl:Cy l)(hk:PC 37 [EZ x ifs] (vi (AN x))):PC 46 [.agg (Ic x ifs),sl Ac l] (vb (GJ x l)):=by
 have hl:l.length≤1073741824:=hl;refine Ps (pC [2] []) Tryz.func46 rfl (Nz rfl) (Xi {q:Nat // 1≤q∧∀j (h:j<l.length),0<j→j<q→DL (l[j-1]' ch).path l[j].path=true} (Xi (fun q=>⟨[(1,sl Ac l),(2,.ref 2 0),(5,vi q.1)],[(2,.ro (Ic x ifs))],Af⟩) (Xi (fun q=>l.length+1-q.1) (Yi (Xi ⟨1,Ao _,fun j _ h0 h1=>absurd h1 ch⟩ ?_) ?_))))
 ·exact⟨Z3,Z1,Fh,Tv⟩
 intro⟨i,i1,i2⟩;have i1:1≤i:=i1;have i2:∀j (h:j<l.length),0<j→j<i→DL (l[j-1]' ch).path l[j].path=true:=i2;refine Yi (fun h1=>?_) (fun h1=>?_)
 ·have h1:(i:Int)<((l.map Ac).length:Int):=h1;have n1:=GI h1;refine Yi (by show Bc ((i:Int)-(1:Int));unfold Bc;omega) (Xi (Ac (l[i-1]' ch)) (Yi (Yi (show(0:Int)≤(i:Int)-1 by omega) (by rw[show((i:Int)-1).toNat=i-1 by omega];exact CR (Ge ch))) (Yi rfl ?_)));refine Xi (Ac l[i]) (Yi (Hb n1) (Yi rfl (Yi (fun h2=>?_) (fun h2=>?_))))
  ·have h2:DL (l[i-1]' ch).path l[i].path=false:=(Ed _ _).trans h2;refine Yi Wk ?_;exact .of_eq (show vb false=vb (GJ x l) by rw[iF n1 ch (by rw[h2];decide)])
  have h2:DL (l[i-1]' ch).path l[i].path=true:=(Ed _ _).trans (by simpa using h2);refine Yi Wk (Yi (Ii i ch) ?_);refine Xi ⟨i+1,by omega,fun j hj h0 Iq=>if e:j<i then i2 j hj h0 e else by
    have e:j=i:=by omega
    subst e;exact h2⟩ ?_
  exact⟨by show l.length+1-(i+1)<l.length+1-i;omega,Z3,Z1,Fh,Tv⟩
 have h1:¬((i:Int)<((l.map Ac).length:Int)):=h1;have n1:=GH h1;refine yN (Xi .pure (Xi _ (Yi hk (Yi (fun h5=>?_) (fun h5=>?_)))))
 ·have h5:((AN x):Int)=(0:Int):=h5;exact .of_eq (show vb true=vb (GJ x l) by rw[Xl h5 ((M6 l).2 fun j hj h0=>i2 j hj h0 ch)])
 have h5:¬(((AN x):Int)=(0:Int)):=h5;exact .of_eq (show vb false=vb (GJ x l) by rw[Xk h5])
theorem iR{x:List Rl}{l:List Sl}(h:GJ x l=false):AV.tup [sl Ac (VD x l),vi (Fl x l)]=.tup [.slice .none [],vi 1]:=by
 have h:=of_decide_eq_false h;have e:Fl x l=1:=(WY x l).resolve_left h;unfold VD;rw[Ae h,e];rfl
theorem mR{x:List Rl}{l:List Sl}(h:GJ x l=true):AV.tup [sl Ac (VD x l),vi (Fl x l)]=.tup [sl Ac (l.filter (EL x)),vi 0]:=by
 have h:=A4 h;unfold VD;rw[Al h,h]
theorem Acs(hl:Cy l)(ks:PC 46 [EZ x ifs,sl Ac l] (vb (GJ x l)))(hf:∀z:Sl,PC 15 [EZ x ifs,vs z.path,.agg (Fu z.ver)] (My (CY x z))):PC 22 [.agg (Ic x ifs),sl Ac l] (.tup [sl Ac (VD x l),vi (Fl x l)]):=by
 have hl:l.length≤1073741824:=hl;refine Ps (pT [2,8,9] [(6,4)] [9,10]) Tryz.func22 rfl (Nz rfl) (yN (BF (Bt (GJ x l)) (fun h1=>?_) (fun h1=>?_)))
 ·have h1:(GJ x l)=true:=h1;refine Xi .pure (Xi _ (Yi (cb h1 ks) (Xi {q:Nat // q≤l.length} (Xi (fun q=>⟨[(2,.ref 2 0),(6,.slice (.id 6 4) (((l.take q.1).filter (EL x)).map Ac)),(15,sl Ac l),(16,vi (l.map Ac).length),(17,vi q.1)],[(2,.ro (Ic x ifs)),(6,.tok 4 ((l.take q.1).filter (EL x)).length)],Af⟩) (Xi (fun q=>l.length-q.1) (Yi (Xi ⟨0,AA _⟩ ?_) ?_))))))
  ·exact⟨Z5,Z2,Fh,Tv⟩
  intro⟨i,i1⟩;have i1:i≤l.length:=i1;have i2:((l.take i).filter (EL x)).length≤i:=Bf (BC ..) (by rw[AB];omega);refine Yi (fun h2=>?_) (fun h2=>?_)
  ·have h2:(i:Int)<((l.map Ac).length:Int):=h2;have n2:=GI h2;refine Xi (Ac l[i]) (Yi (Hb n2) (Yi rfl (yN (yN (yN (yN (BF (RJ (CY x l[i])) (fun h3=>?_) (fun h3=>?_))))))))
   ·refine Ba h3 (fun r h3=>?_);have WP:=(hf l[i]);rw[h3]at WP;refine Xi .pure (Xi _ (Yi WP (yN (Yi (fun h4=>?_) (fun h4=>?_)))))
    ·have h4:r.yanked=true:=h4;refine cU [(2,.ref 2 0),(6,.slice (.id 6 4) (((l.take i).filter (EL x)).map Ac)),(8,.ref 8 0),(15,sl Ac l),(16,vi (l.map Ac).length),(17,vi i)] [(2,.ro (Ic x ifs)),(6,.tok 4 ((l.take i).filter (EL x)).length),(8,.ro (Ac l[i]))] Z6 Z3 (yN (Yi (Wt rfl ch Cl) (cU [(2,.ref 2 0),(6,.slice (.id 6 4) ((((l.take i).filter (EL x)).map Ac)++[(Ac l[i])])),(15,sl Ac l),(16,vi (l.map Ac).length),(17,vi i)] [(2,.ro (Ic x ifs)),(6,.tok 4 ((((l.take i).filter (EL x)).map Ac).length+([(Ac l[i])]:List (List AV)).length))] Z5 Z2 (Yi (Ii i ch) ?_))));have ni:=n2;have hy:EL x l[i]=true:=(by unfold EL;rw[h3];exact h4);refine Xi ⟨i+1,ni⟩ ?_;exact⟨Dl l.length i ch,⟨Zr,⟨(show AV.slice (.id 6 4) (((l.take i).filter (EL x)).map Ac++[Ac l[i]])=.slice (.id 6 4) (((l.take (i+1)).filter (EL x)).map Ac) by rw[Ep ni,DB,CE,Al hy,Wg,As];rfl),rfl⟩,Zr,Zr,Zr,Tv⟩,⟨Zr,⟨(show HO.tok 4 ((((l.take i).filter (EL x)).map Ac).length+([Ac l[i]]:List (List AV)).length)=.tok 4 ((l.take (i+1)).filter (EL x)).length by rw[Ep ni,DB,CE,Al hy,Wg,Ad,Lm];rfl),rfl⟩,Tv⟩,Fh,Tv⟩
    have h4:r.yanked=false:=h4;refine cU [(2,.ref 2 0),(6,.slice (.id 6 4) (((l.take i).filter (EL x)).map Ac)),(15,sl Ac l),(16,vi (l.map Ac).length),(17,vi i)] [(2,.ro (Ic x ifs)),(6,.tok 4 ((l.take i).filter (EL x)).length)] Z5 Z2 (Yi (Ii i ch) ?_);have ni:=n2;have hy:EL x l[i]=false:=by unfold EL;rw[h3];exact h4
    have ef:(l.take (i+1)).filter (EL x)=(l.take i).filter (EL x):=by rw[Ep ni,DB,CE,Ae (by rw[hy];decide),Wg,BL]
    refine Xi ⟨i+1,ni⟩ ?_;exact⟨Dl l.length i ch,⟨Zr,⟨(show AV.slice (.id 6 4) (((l.take i).filter (EL x)).map Ac)=.slice (.id 6 4) (((l.take (i+1)).filter (EL x)).map Ac) by rw[ef]),rfl⟩,Zr,Zr,Zr,Tv⟩,⟨Zr,⟨(show HO.tok 4 ((l.take i).filter (EL x)).length=.tok 4 ((l.take (i+1)).filter (EL x)).length by rw[ef]),rfl⟩,Tv⟩,Fh,Tv⟩
   have WP:=(hf l[i]);rw[h3]at WP;refine Xi .pure (Xi _ (Yi WP (yN (cU [(2,.ref 2 0),(6,.slice (.id 6 4) (((l.take i).filter (EL x)).map Ac)),(15,sl Ac l),(16,vi (l.map Ac).length),(17,vi i)] [(2,.ro (Ic x ifs)),(6,.tok 4 ((l.take i).filter (EL x)).length)] Z5 Z2 (Yi (Ii i ch) ?_)))));have ni:=n2;have hy:EL x l[i]=false:=by unfold EL;rw[h3]
   have ef:(l.take (i+1)).filter (EL x)=(l.take i).filter (EL x):=by rw[Ep ni,DB,CE,Ae (by rw[hy];decide),Wg,BL]
   refine Xi ⟨i+1,ni⟩ ?_;exact⟨Dl l.length i ch,⟨Zr,⟨(show AV.slice (.id 6 4) (((l.take i).filter (EL x)).map Ac)=.slice (.id 6 4) (((l.take (i+1)).filter (EL x)).map Ac) by rw[ef]),rfl⟩,Zr,Zr,Zr,Tv⟩,⟨Zr,⟨(show HO.tok 4 ((l.take i).filter (EL x)).length=.tok 4 ((l.take (i+1)).filter (EL x)).length by rw[ef]),rfl⟩,Tv⟩,Fh,Tv⟩
  have h2:¬((i:Int)<((l.map Ac).length:Int)):=h2;have n2:=GH h2;have el:l.take i=l:=Au ch;exact .of_eq (show AV.tup [sl Ac ((l.take i).filter (EL x)),vi 0]=.tup [sl Ac (VD x l),vi (Fl x l)] by rw[el,mR h1])
 have h1:(GJ x l)=false:=h1;refine Xi .pure (Xi _ (Yi (cb h1 ks) ?_));exact(show GF (.tup [Ce,vi 1]) (.tup [.slice .none [],vi 1])from .tup ⟨.nil,.refl _,trivial⟩).trans (.of_eq (iR h1).symm)
end Go.Eng
namespace Go.Eng
variable {t:List ByteArray}{l m:List Sl}
theorem dY:∀{x y:List UInt8},IY x y=true→x<y
 |x,[],h=>by cases x<;>cases h
 | [],b::y,_=>by simp
 |a::x,b::y,h=>by
  unfold IY at h;rw[List.cons_lt_cons_iff];rcases Cq _ _▸h with h | h
  ·exact .inl (A4 h)
  ·obtain⟨h1,h2⟩:=Bool.and_eq_true_iff.1 h;exact .inr ⟨A4 h1,dY h2⟩
section
variable {α:Type}[Inhabited α][DecidableEq α]
theorem PJ{R:α→α→Prop}(hR:∀a b c,R a b→R b c→R a c)(xs:List α)(hs:∀i j,(hi:i<xs.length)→(hj:j<xs.length)→i<j→xs[i]=xs[j]∨R xs[i] xs[j]):∀m,m≤xs.length →
  (Lib.compactUpTo xs.toArray m).Pairwise R∧(∀a,a∈Lib.compactUpTo xs.toArray m↔a∈xs.take m)
 |0,_=>by simp[Lib.compactUpTo]
 |m+1,h=>by
  obtain⟨h1,h2⟩:=PJ hR xs hs m ch;have hg:xs.toArray[m]! = xs[m]' ch:=by simp[show m<xs.length by omega]
  rw[Lib.compactUpTo_succ,hg,Be,Ge ch]
  by_cases hk:Lib.keeps xs.toArray m=true
  ·rw[Al hk];refine⟨?_,fun a=>by rw[AY,AY,h2];simp⟩;rw[List.pairwise_append];refine⟨h1,List.pairwise_singleton _ _,fun a ha b hb=>?_⟩;rw[Ar.1 hb];have ha:=(h2 a).1 ha;obtain⟨j,hj,rfl⟩:=BR.1 ha;rw[AB]at hj;rw[E4];unfold Lib.keeps at hk;have hk:=A4 hk;rcases hk with hk | hk
   ·omega
   ·have ci : xs.toArray[m-1]! = xs[m-1]' ch:=by simp[show m-1<xs.length by omega]
    rw[hg,ci]at hk;have s1:R (xs[m-1]' ch) (xs[m]' ch):=(hs (m-1) m ch ch ch).elim (fun e=>absurd e.symm hk) id
    by_cases e:j=m-1
    ·subst e;exact s1
    ·rcases hs j (m-1) ch ch ch with q | q
     ·rw[q];exact s1
     ·exact hR _ _ _ q s1
  ·rw[Ae hk,BL];refine⟨h1,fun a=>?_⟩;rw[h2,AY];refine⟨.inl,fun q=>q.elim id fun q=>?_⟩;have q:a=xs[m]:=by simpa using q
   subst q;have hk:¬(m=0∨xs.toArray[m]!≠xs.toArray[m-1]!):=fun q=>hk (Aq q);have m0:0<m:=Nat.pos_of_ne_zero fun e=>hk (.inl e);have e:xs.toArray[m]! = xs.toArray[m-1]!:=AC fun e=>hk (.inr e);have ci : xs.toArray[m-1]! = xs[m-1]' ch:=by simp[show m-1<xs.length by omega]
   rw[hg,ci]at e;rw[e];exact BR.2 ⟨m-1,by rw[AB];omega,by rw[E4]⟩
end
theorem jP(ht:(t.map MN).Pairwise fun a b=>a≤b):(B5 t).Pairwise (fun a b=>DL a b=true)∧∀p,p∈B5 t↔p∈t:=by
 have hc:=PJ (R:=fun a b=>IY a b=true) (fun a b c=>OU) (t.map MN) (fun i j hi hj QV=>by
  have h:=(AS.1 ht) i j hi hj QV;cases e:IY (t.map MN)[i] (t.map MN)[j]with
  |true=>exact .inr rfl
  |false =>
   cases e2:IY (t.map MN)[j] (t.map MN)[i]with
   |true=>exact absurd (dY e2) (by simpa using h)
   |false=>exact .inl (US e e2)) (t.map MN).length (Ao _)
 rw[Dp]at hc;have e:B5 t=(Lib.compactUpTo (t.map MN).toArray (t.map MN).length).map Wv:=rfl;rw[e];refine⟨?_,fun p=>?_⟩
 ·rw[Sj];exact hc.1.imp fun {a b} h=>by show IY (Wv a).data.toList (Wv b).data.toList=true;exact h
 ·rw[Am];constructor
  ·rintro⟨a,ha,rfl⟩
   obtain⟨q,hq,rfl⟩:=Am.1 ((hc.2 a).1 ha)
   have:Wv (MN q)=q:=by cases q;simp
   rw[this];exact hq
  ·intro hp;exact⟨MN p,(hc.2 _).2 (List.mem_map_of_mem hp),by cases p;simp⟩
abbrev d6(p:ByteArray)(f t:Int):List Mv:=if f≠t then [⟨p,f,t⟩]else []
def rm:List Sl→List Sl→List Mv
 | [],[]=>[]
 |a::l,[]=>d6 a.path (place a.ver) (-1)++rm l []
 | [],b::m=>d6 b.path (-1) (place b.ver)++rm [] m
 |a::l,b::m=>if a.path=b.path then d6 a.path (place a.ver) (place b.ver)++rm l m else if DL a.path b.path=true then d6 a.path (place a.ver) (-1)++rm l (b::m)else d6 b.path (-1) (place b.ver)++rm (a::l) m
termination_by l m=>l.length+m.length
def mp:List Sl→List Sl→List ByteArray
 | [],[]=>[]
 |a::l,[]=>a.path::mp l []
 | [],b::m=>b.path::mp [] m
 |a::l,b::m=>if a.path=b.path then a.path::mp l m else if DL a.path b.path=true then a.path::mp l (b::m)else b.path::mp (a::l) m
termination_by l m=>l.length+m.length
theorem Gy(a:Sl)(l:List Sl)(p:ByteArray):LG (a::l) p=if a.path=p then place a.ver else LG l p:=by
 unfold LG Bv;rw[ED]
 by_cases h:a.path=p
 ·simp[h]
 ·simp[h]
theorem Iw{l' m':List Sl}{ps:List ByteArray}(h1:∀p∈ps,LG l p=LG l' p)(h2:∀p∈ps,LG m p=LG m' p):Iv l m ps=Iv l' m' ps :=
 (by
  induction ps with
  |nil=>rfl
  |cons p ps ih =>
   show(p::ps).filterMap _=(p::ps).filterMap _;rw[List.filterMap_cons,List.filterMap_cons,show K4 l m p=K4 l' m' p from by unfold K4;rw[h1 p (Aa ..),h2 p (Aa ..)],show ps.filterMap (K4 l m)=ps.filterMap (K4 l' m')from ih (fun q hq=>h1 q (Ah _ hq)) (fun q hq=>h2 q (Ah _ hq))])
theorem Jm(l m:List Sl)(p:ByteArray)(ps:List ByteArray):Iv l m (p::ps)=d6 p (LG l p) (LG m p)++Iv l m ps:=by
 unfold Iv d6;rw[List.filterMap_cons];unfold K4
 by_cases h:LG l p=LG m p
 ·simp[h]
 ·simp[h]
theorem eJ{p:ByteArray}(h:∀s∈l,s.path≠p):LG l p=-1:=by
 unfold LG Bv;rw[DC.2 fun s hs=>by simpa using h s hs]
theorem W7(l m:List Sl)(hl:l.Pairwise sK)(hm:m.Pairwise sK):(mp l m).Pairwise (fun a b=>DL a b=true)∧(∀p,p∈mp l m↔p∈l.map (·.path)∨p∈m.map (·.path))∧rm l m=Iv l m (mp l m):=by
 match l,m with
 | [],[]=>unfold mp rm;simp
 |a::l,[] =>
  obtain⟨a1,a2⟩:=Bz.1 hl;obtain⟨h1,h2,h3⟩:=W7 l [] a2 hm;have lt:∀p∈mp l [],DL a.path p=true:=fun p hp=>by
   have:=(h2 p).1 hp
   rcases this with q | q
   ·obtain⟨s,hs,rfl⟩:=Am.1 q;exact a1 s hs
   ·cases q
  unfold mp rm;refine⟨Bz.2 ⟨lt,h1⟩,fun p=>by simp[h2],?_⟩;rw[Jm,h3,Gy,Al rfl]
  congr 1
  exact Iw (fun p hp=>by rw[Gy,Ae (IS (lt p hp))]) fun _ _=>rfl
 | [],b::m =>
  obtain⟨a1,a2⟩:=Bz.1 hm;obtain⟨h1,h2,h3⟩:=W7 [] m hl a2;have lt:∀p∈mp [] m,DL b.path p=true:=fun p hp=>by
   have:=(h2 p).1 hp
   rcases this with q | q
   ·cases q
   ·obtain⟨s,hs,rfl⟩:=Am.1 q;exact a1 s hs
  unfold mp rm;refine⟨Bz.2 ⟨lt,h1⟩,fun p=>by simp[h2],?_⟩;rw[Jm,h3,Gy,Al rfl]
  congr 1
  exact Iw (fun _ _=>rfl) fun p hp=>by rw[Gy,Ae (IS (lt p hp))]
 |a::l,b::m =>
  obtain⟨a1,a2⟩:=Bz.1 hl;obtain⟨b1,b2⟩:=Bz.1 hm;unfold mp rm
  by_cases e:a.path=b.path
  ·rw[Al e,Al e];obtain⟨h1,h2,h3⟩:=W7 l m a2 b2;have lt:∀p∈mp l m,DL a.path p=true:=fun p hp=>by
    rcases(h2 p).1 hp with q | q
    ·obtain⟨s,hs,rfl⟩:=Am.1 q;exact a1 s hs
    ·obtain⟨s,hs,rfl⟩:=Am.1 q;rw[e];exact b1 s hs
   refine⟨Bz.2 ⟨lt,h1⟩,fun p=>?_,?_⟩
   ·simp only[AF,h2,AJ,e];constructor
    ·rintro(q | q | q)
     ·exact .inl (.inl q)
     ·exact .inl (.inr q)
     ·exact .inr (.inr q)
    ·rintro((q | q) | (q | q))
     ·exact .inl q
     ·exact .inr (.inl q)
     ·exact .inl q
     ·exact .inr (.inr q)
   ·rw[Jm,h3,Gy,Al rfl,Gy,Al e.symm]
    congr 1
    exact Iw (fun p hp=>by rw[Gy,Ae (IS (lt p hp))]) fun p hp=>by rw[Gy,Ae (by rw[←e];exact IS (lt p hp))]
  ·rw[Ae e,Ae e]
   by_cases c:DL a.path b.path=true
   ·rw[Al c,Al c];obtain⟨h1,h2,h3⟩:=W7 l (b::m) a2 hm;have la:∀s∈b::m,DL a.path s.path=true:=fun s hs=>by
     rcases AF.1 hs with rfl | hs
     ·exact c
     ·exact DQ c (b1 s hs)
    have lt:∀p∈mp l (b::m),DL a.path p=true:=fun p hp=>by
     rcases(h2 p).1 hp with q | q
     ·obtain⟨s,hs,rfl⟩:=Am.1 q;exact a1 s hs
     ·obtain⟨s,hs,rfl⟩:=Am.1 q;exact la s hs
    refine⟨Bz.2 ⟨lt,h1⟩,fun p=>by rw[AF,h2,AJ,AF,AJ (l:=l),AF (l:=l.map _),or_assoc],?_⟩;rw[Jm,h3,Gy,Al rfl,eJ (l:=b::m) fun s hs=>(IS (la s hs)).symm]
    congr 1
    exact Iw (fun p hp=>by rw[Gy,Ae (IS (lt p hp))]) fun _ _=>rfl
   ·rw[Ae c,Ae c];have c' : DL b.path a.path=true:=by
     cases q:DL b.path a.path with
     |true=>rfl
     |false=>exact absurd (G6 (by simpa using c) q) e
    obtain⟨h1,h2,h3⟩:=W7 (a::l) m hl b2;have la:∀s∈a::l,DL b.path s.path=true:=fun s hs=>by
     rcases AF.1 hs with rfl | hs
     ·exact c'
     ·exact DQ c' (a1 s hs)
    have lt:∀p∈mp (a::l) m,DL b.path p=true:=fun p hp=>by
     rcases(h2 p).1 hp with q | q
     ·obtain⟨s,hs,rfl⟩:=Am.1 q;exact la s hs
     ·obtain⟨s,hs,rfl⟩:=Am.1 q;exact b1 s hs
    refine⟨Bz.2 ⟨lt,h1⟩,fun p=>?_,?_⟩
    ·rw[AF,h2,AJ,AJ,AF,AF];constructor
     ·rintro(q | q | q)
      ·exact .inr (.inl q)
      ·exact .inl q
      ·exact .inr (.inr q)
     ·rintro(q | q | q)
      ·exact .inr (.inl q)
      ·exact .inl q
      ·exact .inr (.inr q)
    ·rw[Jm,h3,eJ (l:=a::l) fun s hs=>(IS (la s hs)).symm,Gy b m,Al rfl]
     congr 1
     exact Iw (fun _ _=>rfl) fun p hp=>by rw[Gy b m,Ae (IS (lt p hp))]
termination_by l.length+m.length
theorem UZ(hl:Hf l)(hm:Hf m)(hp:t.Perm ((l++m).map (·.path)))(ht:(t.map MN).Pairwise fun a b=>a≤b):Iv l m (B5 t)=rm l m:=by
 obtain⟨h1,h2,h3⟩:=W7 l m hl.inc hm.inc;obtain⟨c1,c2⟩:=jP ht;rw[h3]
 congr 1
 refine List.Perm.eq_of_pairwise (le:=fun a b=>DL a b=true) (fun a b _ _ x y=>?_) c1 h1 ?_
 ·rw[Lo x]at y;cases y
 ·refine(Pt (c1.imp fun h=>IS h) (h1.imp fun h=>IS h)).2 fun p=>?_;rw[c2,h2,hp.mem_iff,As,AY]
end Go.Eng
