/- Lemmas 35. -/
import Derived.Test.YtkjhcikodmiceaaGreatDoorMA34
import Derived.Shelf.Slices.Delete
namespace Go.Eng
open Go.Proofs
abbrev pn:CS:=⟨#[99,47,118,49]⟩
abbrev e39:List Lo:=[⟨pa,tX 0,R,R⟩,⟨pb,tX 1,R,R⟩]
abbrev o39:List Sl:=[⟨pa,tX 0⟩,⟨pn,tX 2⟩]
abbrev m39:List Mv:=[⟨pb,1000,-1⟩,⟨pn,-1,2000⟩]
abbrev yC:Lk:=⟨QP,e39,(Cq Ra QP).infs,(Cq Ra QP).skips⟩
theorem xh:Vk Ra QP (Cq Ra QP)=yC:=Aa (fun e=>Lk.mk QP e (Cq Ra QP).infs (Cq Ra QP).skips) (show(Cq Ra QP).sel.map (GW Ra)=e39 by kernel_rfl)
theorem zC:ZN yC:=⟨by kernel_rfl,by kernel_rfl,by kernel_rfl,by kernel_rfl,by decide,Et aa4,Et aa4⟩
theorem tC:MG o39:=
 ⟨by decide,By.2 ⟨by decide,By.2 ⟨by decide,CR _⟩⟩,.cons (By.2 ⟨by show Ek pa pn=true;kernel_rfl,CR _⟩) (.cons (CR _) .nil)⟩
theorem xW(m:Int):PC 33 [G m] (.agg [G 1,G m,G 0]):=by
 refine Ps Dc Tryz.func33 rfl C4 (yN (yN ?_));exact .refl _
set_option maxHeartbeats 4000000 in
theorem ub  : PC 9 [] (I true):=by
 have hq:∀q∈QP,G5 q:=By.2 ⟨⟨by decide,by decide⟩,CR _⟩;have oe:∀r∈Ra,BF r.reqs:=By.2 ⟨by decide,By.2 ⟨by decide,By.2 ⟨by decide,By.2 ⟨by decide,CR _⟩⟩⟩⟩;have L:cV Ra QP:=⟨by decide,by decide,fun r hr=>⟨oe r hr,zD r hr⟩,hq⟩;have hx:Ra.length<=16:=aa3
 have hs:(Ga Ra 16&&EG QP)=true:=by kernel_rfl
 have c0:Jo Ra QP=0:=by kernel_rfl
 obtain⟨u1,u2,u3,u4⟩:=oM hx c0;have yB:=s16 Ra [] QP L.x L.rq;rw[c0]at yB;have k38:PC 38 [GM Ra [],sl Ac QP] (.tup [.agg (Gl (Cq Ra QP)),G 0]):=by have q:=s21 Ra [] QP L.x L.rq;unfold ZA at q;rw[u1]at q;exact q
 have uQ:=(vf Ra [] QP (Cq Ra QP) _ yB k38 (fun p v=>c53 Ra [] p v (L.c84 []) L.x) u3 (fun q hq=>(L.rq q hq).1) (Tr hs) Wk).args (args':=[.agg xU,sl Ac QP]) ⟨iZ,.refl _,trivial⟩;rw[xh]at uQ;have k18:=(AaU (ifs:=[]) (l:=yC) L hs zC).args (args':=[.agg xU,.agg (Ea yC)]) ⟨iZ,.refl _,trivial⟩;rw[show ZG Ra yC=0 by kernel_rfl]at k18;have k20:=vg yC aa3;have k34:=o75 a40 o39 [pa,pa,pb,pn] (tD 1 (.inl rfl)) tC aa3 aa3 (.cons _ (.swap _ _ _)) aa3;rw[show Pg a40 o39 (Cj [pa,pa,pb,pn])=m39 by kernel_rfl]at k34;have k35:=o35 m39 m39 aa3;rw[Ax rfl]at k35;refine Ps (pC [3,4] [4,5,7,8]) Tryz.func9 rfl C4 (C1 (U (xW 0) (C1 (U (xW 0) (C1 (U (xW 1) (C1 (U (xW 2) (yN (cU [(1,.v (.func (.func 33) #[] #[])),(3,.ref 3 0)] [(3,.ro [.slice .none [[vs ⟨#[97,47,118,49]⟩,G 1,G 0,G 0,.slice .none [[vs ⟨#[98,47,118,49]⟩,.slice .none [[G 1000,G 1000000]]]],vs ⟨#[]⟩,vs ⟨#[]⟩,vs ⟨#[]⟩,I false],[vs ⟨#[98,47,118,49]⟩,G 1,G 0,G 0,BY,vs ⟨#[]⟩,vs ⟨#[]⟩,vs ⟨#[]⟩,I false],[vs ⟨#[98,47,118,49]⟩,G 1,G 1,G 0,BY,vs ⟨#[]⟩,vs ⟨#[]⟩,vs ⟨#[]⟩,I false],[vs ⟨#[98,47,118,49]⟩,G 1,G 2,G 0,BY,vs ⟨#[]⟩,vs ⟨#[]⟩,vs ⟨#[]⟩,I true]],BY])] Z2 Z1 (yN (C1 (U uQ (yN (cU [(1,.v (.func (.func 33) #[] #[])),(3,.ref 3 0),(4,.ref 4 0),(5,G 0)] [(3,.ro [.slice .none [[vs ⟨#[97,47,118,49]⟩,G 1,G 0,G 0,.slice .none [[vs ⟨#[98,47,118,49]⟩,.slice .none [[G 1000,G 1000000]]]],vs ⟨#[]⟩,vs ⟨#[]⟩,vs ⟨#[]⟩,I false],[vs ⟨#[98,47,118,49]⟩,G 1,G 0,G 0,BY,vs ⟨#[]⟩,vs ⟨#[]⟩,vs ⟨#[]⟩,I false],[vs ⟨#[98,47,118,49]⟩,G 1,G 1,G 0,BY,vs ⟨#[]⟩,vs ⟨#[]⟩,vs ⟨#[]⟩,I false],[vs ⟨#[98,47,118,49]⟩,G 1,G 2,G 0,BY,vs ⟨#[]⟩,vs ⟨#[]⟩,vs ⟨#[]⟩,I true]],BY]),(4,.ro [sl Ac QP,.slice .none [[vs pa,G 1,G 0,G 0,vs R,vs R],[vs pb,G 1,G 1,G 0,vs R,vs R]],sl AG (Cq Ra QP).infs,sl N (Cq Ra QP).skips])] Z4 Z2 (C1 (U ye_enc0 (C1 (U (xW 0) (C1 (U (xW 2) (cU [(1,.v (.func (.func 33) #[] #[])),(3,.ref 3 0),(4,.ref 4 0),(5,G 0),(6,vs ⟨#[0,0,0,0]⟩),(7,G 0),(8,.slice (.id 50 4) [[vs ⟨#[97,47,118,49]⟩,G 1,G 0,G 0],[vs ⟨#[99,47,118,49]⟩,G 1,G 2,G 0]])] [(3,.ro [.slice .none [[vs ⟨#[97,47,118,49]⟩,G 1,G 0,G 0,.slice .none [[vs ⟨#[98,47,118,49]⟩,.slice .none [[G 1000,G 1000000]]]],vs ⟨#[]⟩,vs ⟨#[]⟩,vs ⟨#[]⟩,I false],[vs ⟨#[98,47,118,49]⟩,G 1,G 0,G 0,BY,vs ⟨#[]⟩,vs ⟨#[]⟩,vs ⟨#[]⟩,I false],[vs ⟨#[98,47,118,49]⟩,G 1,G 1,G 0,BY,vs ⟨#[]⟩,vs ⟨#[]⟩,vs ⟨#[]⟩,I false],[vs ⟨#[98,47,118,49]⟩,G 1,G 2,G 0,BY,vs ⟨#[]⟩,vs ⟨#[]⟩,vs ⟨#[]⟩,I true]],BY]),(4,.ro [sl Ac QP,.slice .none [[vs pa,G 1,G 0,G 0,vs R,vs R],[vs pb,G 1,G 1,G 0,vs R,vs R]],sl AG (Cq Ra QP).infs,sl N (Cq Ra QP).skips]),(50,.tok 4 2)] Z7 Z3 (yN (C1 (U k20 (C1 (U k34 (cU [(1,.v (.func (.func 33) #[] #[])),(3,.ref 3 0),(4,.ref 4 0),(5,G 0),(6,vs ⟨#[0,0,0,0]⟩),(7,G 0),(9,sl GA m39),(10,G 0)] [(3,.ro [.slice .none [[vs ⟨#[97,47,118,49]⟩,G 1,G 0,G 0,.slice .none [[vs ⟨#[98,47,118,49]⟩,.slice .none [[G 1000,G 1000000]]]],vs ⟨#[]⟩,vs ⟨#[]⟩,vs ⟨#[]⟩,I false],[vs ⟨#[98,47,118,49]⟩,G 1,G 0,G 0,BY,vs ⟨#[]⟩,vs ⟨#[]⟩,vs ⟨#[]⟩,I false],[vs ⟨#[98,47,118,49]⟩,G 1,G 1,G 0,BY,vs ⟨#[]⟩,vs ⟨#[]⟩,vs ⟨#[]⟩,I false],[vs ⟨#[98,47,118,49]⟩,G 1,G 2,G 0,BY,vs ⟨#[]⟩,vs ⟨#[]⟩,vs ⟨#[]⟩,I true]],BY]),(4,.ro [sl Ac QP,.slice .none [[vs pa,G 1,G 0,G 0,vs R,vs R],[vs pb,G 1,G 1,G 0,vs R,vs R]],sl AG (Cq Ra QP).infs,sl N (Cq Ra QP).skips])] Z8 Z2 (J (fun _=>?_) (fun h=>absurd aa3 h))))))))))))))))))))))))))))));refine J (fun _=>?_) (fun h=>absurd aa3 h);refine Z [vs pb,G 1,G 1,G 0,vs R,vs R] (J ⟨by decide,rfl⟩ (J rfl ?_));refine yN (U (xW 1) (J (fun h1=>?_) (fun h1=>?_)))
 .have h1:(1:Int)=1/\(1:Int)=1/\(0:Int)=0/\True:=h1;refine yN (yN (U k18 (J (fun _=>?_) (fun h=>absurd aa3 h))));refine J (fun _=>?_) (fun h=>absurd aa3 h);refine J (fun h2=>?_) (fun h2=>?_)
  .have h2:(⟨#[0,0,0,0]⟩:CS)=⟨#[0,0,0,0]⟩:=h2;refine J (fun _=>?_) (fun h=>absurd aa3 h);refine U k35 (J aa4 ?_);exact .refl _
  have h2:¬(⟨#[0,0,0,0]⟩:CS)=⟨#[0,0,0,0]⟩:=h2;refine J aa4 ?_;exact absurd rfl h2
 have h1:¬((1:Int)=1/\(1:Int)=1/\(0:Int)=0/\True):=h1;refine J aa4 ?_;exact absurd ⟨rfl,rfl,rfl,trivial⟩ h1
end Go.Eng
namespace Go.Eng
open Go.Proofs Go.Shelf Go.RowKit Go.Lib Go.Sort
end Go.Eng
namespace Go.Eng
open Go.Proofs
theorem AaW(x:List Rl)(ifs:C0)(roots:List Rq)(L:cV x roots):PC 3 [GM x ifs,sl Ac roots] (I true):=AfM x ifs roots L ub
end Go.Eng
