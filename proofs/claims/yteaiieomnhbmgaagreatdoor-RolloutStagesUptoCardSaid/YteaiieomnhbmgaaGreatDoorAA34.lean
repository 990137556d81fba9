/- Lemmas 34. -/
import Derived.Test.YteaiieomnhbmgaaGreatDoorAA33
import Derived.Test.YteaiieomnhbmgaaGreatDoorCards
import Derived.Test.YteaiieomnhbmgaaGreatDoorTie
import Derived.ProofKit
import Derived.OpenShut
import Derived.Deep.DeepHandedRow
import Derived.Lib.LaidTab
import Derived.Stop.LaidErr
namespace Go.Eng
open Go.Proofs
variable (p:ByteArray)
abbrev nR:ByteArray:=⟨#[99,47,118,49]⟩
abbrev jN:ByteArray:=⟨#[97,47,118,49]⟩
abbrev ZG:ByteArray:=⟨#[98,47,118,49]⟩
abbrev v45(m:Int):Ver:=⟨1,m,0⟩
abbrev Ms(m:Int):List (Int×Int):=[(1000*m,1000*m+1)]
abbrev bU(m:Int)(q:List Rq):Rl:=⟨p,v45 m,q,mt,mt,mt,false⟩
abbrev zw:List Rq:=[⟨ZG,Ms 0⟩]
abbrev zx:List Rq:=[⟨ZG,Ms 1⟩,⟨nR,[(0,1000000)]⟩]
abbrev ZK:List Rl:=[bU jN 0 zw,bU jN 1 zx,bU ZG 0 [],bU ZG 1 [],bU nR 0 []]
abbrev UG:List Sl:=[⟨jN,v45 0⟩,⟨ZG,v45 0⟩]
abbrev t45:List Sl:=[⟨jN,v45 1⟩,⟨ZG,v45 1⟩,⟨nR,v45 0⟩]
abbrev WN:List Ud:=[⟨5,10⟩,⟨20,100⟩]
abbrev XU:Ro:=⟨⟨#[117,112]⟩,[⟨[nR],WN⟩,⟨[jN,ZG],WN⟩]⟩
abbrev a45:Ad:=⟨⟨#[65]⟩,ZG,Ms 1,[⟨#[102]⟩],mt⟩
abbrev xE:List (List Rq):=[[⟨jN,Ms 1⟩],[⟨ZG,[(1000,1000000)]⟩]]
abbrev b45:List Bk:=[⟨0,⟨1,1,1⟩,false⟩,⟨1,⟨1,1,1⟩,true⟩]
theorem YI:J3 WN 4=0/\J3 WN 19=10/\BI WN=0/\I3 WN 4=0/\I3 WN 20=100:=⟨by kernel_rfl,by kernel_rfl,by kernel_rfl,by kernel_rfl,by kernel_rfl⟩
theorem Acb:Sj ZK UG t45=0:=by kernel_rfl
theorem Ac8:JM UG t45=[jN,ZG,nR]:=by simp[JM];unfold rm;kernel_rfl
theorem Aca:p6 ZK a45 xE=0:=by kernel_rfl
theorem Ac7:xp ZK a45 xE=b45:=by kernel_rfl
theorem Ac9:Mz [nR,jN,ZG]=[jN,ZG,nR]:=by unfold Mz;simp[KP,List.mergeSort,List.MergeSort.Internal.splitInTwo,List.splitAt,List.splitAt.go,List.merge];rw[Aj Cl];simp[List.merge];rw[Al Cl,Aj Cl];kernel_rfl
theorem Acd:eY ZK UG t45 [[nR],[jN,ZG]]=true:=by kernel_rfl
theorem lV:Po ZK UG t45 XU=0:=by
 have h:HD ZK UG t45 (ZI XU)=0:=by
  unfold HD;rw[Al Acb,Al (show(ZI XU).all gx=true by kernel_rfl),Al (show Mz (ZI XU).flatten=JM UG t45 by rw[Ac8];exact Ac9),Al (show eY ZK UG t45 (ZI XU)=true from Acd)]
 have k:(if 65536<XU.name.size then(7:Int)else KA XU.waves)=0:=by kernel_rfl
 show(if HD ZK UG t45 (ZI XU)=0 then(if 65536<XU.name.size then(7:Int)else KA XU.waves)else HD ZK UG t45 (ZI XU))=0;exact(Al h).trans k
abbrev gI(b:Int):List AV:=[vs p,vi 1,vi b,vi 0,nzA,vs mt,vs mt,vs mt,vb false]
abbrev ph:List AV:=[.slice .none [AF (bU jN 0 zw),AF (bU jN 1 zx),gI ZG 0,gI ZG 1,gI nR 0],nzA]
theorem T0:CV (.agg ph) (MU ZK []):=
 have h (p:ByteArray) (b:Int):Lb (gI p b) (AF (bU p b [])):=⟨.refl _,.refl _,.refl _,.refl _,.nil,.refl _,.refl _,.refl _,.refl _,trivial⟩
 CV.agg ⟨CV.slice ⟨.refl _,.refl _,h ZG 0,h ZG 1,h nR 0,trivial⟩,.nil,trivial⟩
theorem YO(s:List (Int×Int))(hp:Gp p)(hs:Cb s):∀q∈[(⟨p,s⟩:Rq)],Kd q:=Bc.2 ⟨⟨hs,hp⟩,Ci _⟩
theorem fD:T5 ZK:=
 have a:Gp jN:=by decide
 have b:Gp ZG:=by decide
 have c:Gp nR:=by decide
 ⟨show 5<=16 by decide,Bc.2 ⟨⟨a,YO _ _ b (show 1<=1073741824 by decide)⟩,Bc.2 ⟨⟨a,Bc.2 ⟨⟨show 1<=1073741824 by decide,b⟩,YO _ _ c (show 1<=1073741824 by decide)⟩⟩,Bc.2 ⟨⟨b,Ci _⟩,Bc.2 ⟨⟨b,Ci _⟩,Bc.2 ⟨⟨c,Ci _⟩,Ci _⟩⟩⟩⟩⟩⟩
theorem vE:∀r∈ZK,r.reqs.length<=1000:=
 Bc.2 ⟨show 1<=1000 by decide,Bc.2 ⟨show 2<=1000 by decide,Bc.2 ⟨Ax _,Bc.2 ⟨Ax _,Bc.2 ⟨Ax _,Ci _⟩⟩⟩⟩⟩
theorem Zm:Uc XU:=⟨show 2<=1000 by decide,Bc.2 ⟨show 2<=1073741824 by decide,Bc.2 ⟨show 2<=1073741824 by decide,Ci _⟩⟩,Bc.2 ⟨show 1<=1000 by decide,Bc.2 ⟨show 2<=1000 by decide,Ci _⟩⟩⟩
theorem pN:M0 a45:=⟨show 1<=1073741824 by decide,show 4<=1073741824 by decide,show 1<=1073741824 by decide,show 1<=1073741824 by decide,Bc.2 ⟨show 1<=1073741824 by decide,Ci _⟩,show 0<=1073741824 by decide⟩
theorem Ac4:∀q∈xE,∀z∈q,Kd z:=Bc.2 ⟨YO _ _ (show 4<=1073741824 by decide) (show 1<=1073741824 by decide),Bc.2 ⟨YO _ _ (show 4<=1073741824 by decide) (show 1<=1073741824 by decide),Ci _⟩⟩
theorem xk(u:ByteArray):ir ZK UG t45 XU u 4=.tup [sl Am UG,vi 0]/\ir ZK UG t45 XU u 20=.tup [sl Am t45,vi 0]:=by
 unfold ir;rw[(fo u 4 lV).2.1,(fo u 20 lV).2.1,pU lV (Bc.2 ⟨by rw[YI.2.2.2.1];exact Bu _,Bc.2 ⟨by rw[YI.2.2.2.1];exact Bu _,Ci _⟩⟩),tQ lV (show 2<=1073741824 by decide) (show 3<=1073741824 by decide) (Bc.2 ⟨by rw[YI.2.2.2.2];exact Bu _,Bc.2 ⟨by rw[YI.2.2.2.2];exact Bu _,Ci _⟩⟩)];exact Zr
theorem WP(m:Int):PC 45 [vi m] (.agg [vi 1,vi m,vi 0]):=by
 refine Ps El Tryz.func45 rfl (Nz rfl) (yN (yN ?_));exact .refl _
theorem rW(m:Int)(h0:0<=m)(h1:m<=1):PC 46 [vi m] (sl AE (Ms m)):=by
 refine Ps El Tryz.func46 rfl (Nz rfl) (Yi (by show AX ((1000:Int)*(m:Int));unfold AX;omega) (Yi (by show AX ((1000:Int)*(m:Int));unfold AX;omega) (Yi (by show AX ((1000*m:Int)+(1:Int));unfold AX;omega) ?_)));exact .refl _
set_option maxHeartbeats 4000000 in
theorem rX  : PC 10 [] (vb true):=by
 have hcl:=o46 [] Cl (Ci _);have KV:=gT WN 4 (show 2<=1073741824 by decide);have g11:=gT WN 19 (show 2<=1073741824 by decide);rw[YI.1,YI.2.2.1]at KV;rw[YI.2.1,YI.2.2.1]at g11;have du:=(Aa6 ZK [] UG t45 XU ⟨#[109,101]⟩ 4 fD.few (show 2<=16 by decide) (show 3<=16 by decide) Zm (show 2<=10000000 by decide) (show 2<=100000000 by decide)).args (args':=[.agg ph,sl Am UG,sl Am t45,.agg (Ji XU),vs ⟨#[109,101]⟩,vi 4]) ⟨T0,.refl _,.refl _,.refl _,.refl _,.refl _,trivial⟩;rw[(xk _).1]at du;have g21:=(Aa6 ZK [] UG t45 XU ⟨#[109,101]⟩ 20 fD.few (show 2<=16 by decide) (show 3<=16 by decide) Zm (show 2<=10000000 by decide) (show 2<=100000000 by decide)).args (args':=[.agg ph,sl Am UG,sl Am t45,.agg (Ji XU),vs ⟨#[109,101]⟩,vi 20]) ⟨T0,.refl _,.refl _,.refl _,.refl _,.refl _,trivial⟩;rw[(xk _).2]at g21;have h31:=(vZ ZK [] a45 xE fD vE pN (show 2<=1073741824 by decide) Ac4 hcl).args (args':=[.agg ph,.agg (Dc a45),sl DL xE]) ⟨T0,.refl _,.refl _,trivial⟩;rw[Ac7,Aca]at h31;have SI:=NF WN (show 2<=1073741824 by decide);rw[YI.2.2.1]at SI;have h23:=(gW ZK [] UG t45 XU fD.few (show 2<=16 by decide) (show 3<=16 by decide) Zm).args (args':=[.agg ph,sl Am UG,sl Am t45,.agg (Ji XU)]) ⟨T0,.refl _,.refl _,.refl _,trivial⟩;rw[lV]at h23;have h25:=c27 UG UG (show 2<=1073741824 by decide);rw[Ay rfl]at h25;have g25:=c27 t45 t45 (show 3<=1073741824 by decide);rw[Ay rfl]at g25;have h33:=z33 b45 b45 (show 2<=1073741824 by decide);rw[Ay rfl]at h33;refine Ps (pC [3,7] [4,5,7,9,10,11,12]) Tryz.func10 rfl (Nz rfl) (Xi .pure (Xi _ (Yi (WP 0) (Xi .pure (Xi _ (Yi (rW 0 Cl Cl) (Xi .pure (Xi _ (Yi (WP 1) (Xi .pure (Xi _ (Yi (rW 1 Cl Cl) (Xi .pure (Xi _ (Yi (WP 0) (Xi .pure (Xi _ (Yi (WP 1) (Xi .pure (Xi _ (Yi (WP 0) (yN (cU [(1,.v (.func (.func 45) #[] #[])),(2,.v (.func (.func 46) #[] #[])),(3,.ref 3 0)] [(3,.ro [.slice .none [[vs ⟨#[97,47,118,49]⟩,vi 1,vi 0,vi 0,.slice .none [[vs ⟨#[98,47,118,49]⟩,sl AE (Ms 0)]],vs ⟨#[]⟩,vs ⟨#[]⟩,vs ⟨#[]⟩,vb false],[vs ⟨#[97,47,118,49]⟩,vi 1,vi 1,vi 0,.slice .none [[vs ⟨#[98,47,118,49]⟩,sl AE (Ms 1)],[vs ⟨#[99,47,118,49]⟩,.slice .none [[vi 0,vi 1000000]]]],vs ⟨#[]⟩,vs ⟨#[]⟩,vs ⟨#[]⟩,vb false],[vs ⟨#[98,47,118,49]⟩,vi 1,vi 0,vi 0,nzA,vs ⟨#[]⟩,vs ⟨#[]⟩,vs ⟨#[]⟩,vb false],[vs ⟨#[98,47,118,49]⟩,vi 1,vi 1,vi 0,nzA,vs ⟨#[]⟩,vs ⟨#[]⟩,vs ⟨#[]⟩,vb false],[vs ⟨#[99,47,118,49]⟩,vi 1,vi 0,vi 0,nzA,vs ⟨#[]⟩,vs ⟨#[]⟩,vs ⟨#[]⟩,vb false]],nzA])] Z3 Z1 (Xi .pure (Xi _ (Yi (WP 0) (Xi .pure (Xi _ (Yi (WP 0) (Xi .pure (Xi _ (Yi (WP 1) (Xi .pure (Xi _ (Yi (WP 1) (Xi .pure (Xi _ (Yi (WP 0) (cU [(2,.v (.func (.func 46) #[] #[])),(3,.ref 3 0),(4,.slice (.id 52 4) [[vs ⟨#[97,47,118,49]⟩,vi 1,vi 0,vi 0],[vs ⟨#[98,47,118,49]⟩,vi 1,vi 0,vi 0]]),(5,.slice (.id 62 4) [[vs ⟨#[97,47,118,49]⟩,vi 1,vi 1,vi 0],[vs ⟨#[98,47,118,49]⟩,vi 1,vi 1,vi 0],[vs ⟨#[99,47,118,49]⟩,vi 1,vi 0,vi 0]])] [(3,.ro [.slice .none [[vs ⟨#[97,47,118,49]⟩,vi 1,vi 0,vi 0,.slice .none [[vs ⟨#[98,47,118,49]⟩,sl AE (Ms 0)]],vs ⟨#[]⟩,vs ⟨#[]⟩,vs ⟨#[]⟩,vb false],[vs ⟨#[97,47,118,49]⟩,vi 1,vi 1,vi 0,.slice .none [[vs ⟨#[98,47,118,49]⟩,sl AE (Ms 1)],[vs ⟨#[99,47,118,49]⟩,.slice .none [[vi 0,vi 1000000]]]],vs ⟨#[]⟩,vs ⟨#[]⟩,vs ⟨#[]⟩,vb false],[vs ⟨#[98,47,118,49]⟩,vi 1,vi 0,vi 0,nzA,vs ⟨#[]⟩,vs ⟨#[]⟩,vs ⟨#[]⟩,vb false],[vs ⟨#[98,47,118,49]⟩,vi 1,vi 1,vi 0,nzA,vs ⟨#[]⟩,vs ⟨#[]⟩,vs ⟨#[]⟩,vb false],[vs ⟨#[99,47,118,49]⟩,vi 1,vi 0,vi 0,nzA,vs ⟨#[]⟩,vs ⟨#[]⟩,vs ⟨#[]⟩,vb false]],nzA]),(52,.tok 4 2),(62,.tok 4 3)] Z4 Z3 (yN (cU [(2,.v (.func (.func 46) #[] #[])),(3,.ref 3 0),(4,.slice (.id 52 4) [[vs ⟨#[97,47,118,49]⟩,vi 1,vi 0,vi 0],[vs ⟨#[98,47,118,49]⟩,vi 1,vi 0,vi 0]]),(5,.slice (.id 62 4) [[vs ⟨#[97,47,118,49]⟩,vi 1,vi 1,vi 0],[vs ⟨#[98,47,118,49]⟩,vi 1,vi 1,vi 0],[vs ⟨#[99,47,118,49]⟩,vi 1,vi 0,vi 0]]),(6,.slice (.id 65 2) [[vi 5,vi 10],[vi 20,vi 100]]),(7,.ref 7 0)] [(3,.ro [.slice .none [[vs ⟨#[97,47,118,49]⟩,vi 1,vi 0,vi 0,.slice .none [[vs ⟨#[98,47,118,49]⟩,sl AE (Ms 0)]],vs ⟨#[]⟩,vs ⟨#[]⟩,vs ⟨#[]⟩,vb false],[vs ⟨#[97,47,118,49]⟩,vi 1,vi 1,vi 0,.slice .none [[vs ⟨#[98,47,118,49]⟩,sl AE (Ms 1)],[vs ⟨#[99,47,118,49]⟩,.slice .none [[vi 0,vi 1000000]]]],vs ⟨#[]⟩,vs ⟨#[]⟩,vs ⟨#[]⟩,vb false],[vs ⟨#[98,47,118,49]⟩,vi 1,vi 0,vi 0,nzA,vs ⟨#[]⟩,vs ⟨#[]⟩,vs ⟨#[]⟩,vb false],[vs ⟨#[98,47,118,49]⟩,vi 1,vi 1,vi 0,nzA,vs ⟨#[]⟩,vs ⟨#[]⟩,vs ⟨#[]⟩,vb false],[vs ⟨#[99,47,118,49]⟩,vi 1,vi 0,vi 0,nzA,vs ⟨#[]⟩,vs ⟨#[]⟩,vs ⟨#[]⟩,vb false]],nzA]),(7,.ro [vs ⟨#[117,112]⟩,.slice .none [[.slice .none [[vs ⟨#[99,47,118,49]⟩]],.slice .none [[vi 5,vi 10],[vi 20,vi 100]]],[.slice .none [[vs ⟨#[97,47,118,49]⟩],[vs ⟨#[98,47,118,49]⟩]],.slice .none [[vi 5,vi 10],[vi 20,vi 100]]]]]),(52,.tok 4 2),(62,.tok 4 3),(65,.tok 2 2)] Z6 Z5 (Xi .pure (Xi _ (Yi KV (Xi .pure (Xi _ (Yi g11 (cU [(2,.v (.func (.func 46) #[] #[])),(3,.ref 3 0),(4,.slice (.id 52 4) [[vs ⟨#[97,47,118,49]⟩,vi 1,vi 0,vi 0],[vs ⟨#[98,47,118,49]⟩,vi 1,vi 0,vi 0]]),(5,.slice (.id 62 4) [[vs ⟨#[97,47,118,49]⟩,vi 1,vi 1,vi 0],[vs ⟨#[98,47,118,49]⟩,vi 1,vi 1,vi 0],[vs ⟨#[99,47,118,49]⟩,vi 1,vi 0,vi 0]]),(6,.slice (.id 65 2) [[vi 5,vi 10],[vi 20,vi 100]]),(7,.ref 7 0),(8,vi 0),(9,vi 0),(10,vi 10),(11,vi 0)] [(3,.ro [.slice .none [[vs ⟨#[97,47,118,49]⟩,vi 1,vi 0,vi 0,.slice .none [[vs ⟨#[98,47,118,49]⟩,sl AE (Ms 0)]],vs ⟨#[]⟩,vs ⟨#[]⟩,vs ⟨#[]⟩,vb false],[vs ⟨#[97,47,118,49]⟩,vi 1,vi 1,vi 0,.slice .none [[vs ⟨#[98,47,118,49]⟩,sl AE (Ms 1)],[vs ⟨#[99,47,118,49]⟩,.slice .none [[vi 0,vi 1000000]]]],vs ⟨#[]⟩,vs ⟨#[]⟩,vs ⟨#[]⟩,vb false],[vs ⟨#[98,47,118,49]⟩,vi 1,vi 0,vi 0,nzA,vs ⟨#[]⟩,vs ⟨#[]⟩,vs ⟨#[]⟩,vb false],[vs ⟨#[98,47,118,49]⟩,vi 1,vi 1,vi 0,nzA,vs ⟨#[]⟩,vs ⟨#[]⟩,vs ⟨#[]⟩,vb false],[vs ⟨#[99,47,118,49]⟩,vi 1,vi 0,vi 0,nzA,vs ⟨#[]⟩,vs ⟨#[]⟩,vs ⟨#[]⟩,vb false]],nzA]),(7,.ro [vs ⟨#[117,112]⟩,.slice .none [[.slice .none [[vs ⟨#[99,47,118,49]⟩]],.slice .none [[vi 5,vi 10],[vi 20,vi 100]]],[.slice .none [[vs ⟨#[97,47,118,49]⟩],[vs ⟨#[98,47,118,49]⟩]],.slice .none [[vi 5,vi 10],[vi 20,vi 100]]]]]),(52,.tok 4 2),(62,.tok 4 3),(65,.tok 2 2)] Z10 Z5 (yN (yN (Xi .pure (Xi _ (Yi du (cU [(2,.v (.func (.func 46) #[] #[])),(3,.ref 3 0),(4,.slice (.id 52 4) [[vs ⟨#[97,47,118,49]⟩,vi 1,vi 0,vi 0],[vs ⟨#[98,47,118,49]⟩,vi 1,vi 0,vi 0]]),(5,.slice (.id 62 4) [[vs ⟨#[97,47,118,49]⟩,vi 1,vi 1,vi 0],[vs ⟨#[98,47,118,49]⟩,vi 1,vi 1,vi 0],[vs ⟨#[99,47,118,49]⟩,vi 1,vi 0,vi 0]]),(6,.slice (.id 65 2) [[vi 5,vi 10],[vi 20,vi 100]]),(7,.ref 7 0),(8,vi 0),(9,vi 0),(10,vi 10),(11,vi 0),(12,sl Am UG),(13,vi 0)] [(3,.ro [.slice .none [[vs ⟨#[97,47,118,49]⟩,vi 1,vi 0,vi 0,.slice .none [[vs ⟨#[98,47,118,49]⟩,sl AE (Ms 0)]],vs ⟨#[]⟩,vs ⟨#[]⟩,vs ⟨#[]⟩,vb false],[vs ⟨#[97,47,118,49]⟩,vi 1,vi 1,vi 0,.slice .none [[vs ⟨#[98,47,118,49]⟩,sl AE (Ms 1)],[vs ⟨#[99,47,118,49]⟩,.slice .none [[vi 0,vi 1000000]]]],vs ⟨#[]⟩,vs ⟨#[]⟩,vs ⟨#[]⟩,vb false],[vs ⟨#[98,47,118,49]⟩,vi 1,vi 0,vi 0,nzA,vs ⟨#[]⟩,vs ⟨#[]⟩,vs ⟨#[]⟩,vb false],[vs ⟨#[98,47,118,49]⟩,vi 1,vi 1,vi 0,nzA,vs ⟨#[]⟩,vs ⟨#[]⟩,vs ⟨#[]⟩,vb false],[vs ⟨#[99,47,118,49]⟩,vi 1,vi 0,vi 0,nzA,vs ⟨#[]⟩,vs ⟨#[]⟩,vs ⟨#[]⟩,vb false]],nzA]),(7,.ro [vs ⟨#[117,112]⟩,.slice .none [[.slice .none [[vs ⟨#[99,47,118,49]⟩]],.slice .none [[vi 5,vi 10],[vi 20,vi 100]]],[.slice .none [[vs ⟨#[97,47,118,49]⟩],[vs ⟨#[98,47,118,49]⟩]],.slice .none [[vi 5,vi 10],[vi 20,vi 100]]]]]),(52,.tok 4 2),(62,.tok 4 3),(65,.tok 2 2)] Z12 Z5 (yN (yN ?_))))))))))))))))))))))))))))))))))))))))))))))))))))))));refine Xi .pure (Xi _ (Yi g21 (cU [(2,.v (.func (.func 46) #[] #[])),(3,.ref 3 0),(4,.slice (.id 52 4) [[vs ⟨#[97,47,118,49]⟩,vi 1,vi 0,vi 0],[vs ⟨#[98,47,118,49]⟩,vi 1,vi 0,vi 0]]),(5,.slice (.id 62 4) [[vs ⟨#[97,47,118,49]⟩,vi 1,vi 1,vi 0],[vs ⟨#[98,47,118,49]⟩,vi 1,vi 1,vi 0],[vs ⟨#[99,47,118,49]⟩,vi 1,vi 0,vi 0]]),(6,.slice (.id 65 2) [[vi 5,vi 10],[vi 20,vi 100]]),(7,.ref 7 0),(8,vi 0),(9,vi 0),(10,vi 10),(11,vi 0),(12,sl Am UG),(13,vi 0),(14,sl Am t45),(15,vi 0)] [(3,.ro [.slice .none [[vs ⟨#[97,47,118,49]⟩,vi 1,vi 0,vi 0,.slice .none [[vs ⟨#[98,47,118,49]⟩,sl AE (Ms 0)]],vs ⟨#[]⟩,vs ⟨#[]⟩,vs ⟨#[]⟩,vb false],[vs ⟨#[97,47,118,49]⟩,vi 1,vi 1,vi 0,.slice .none [[vs ⟨#[98,47,118,49]⟩,sl AE (Ms 1)],[vs ⟨#[99,47,118,49]⟩,.slice .none [[vi 0,vi 1000000]]]],vs ⟨#[]⟩,vs ⟨#[]⟩,vs ⟨#[]⟩,vb false],[vs ⟨#[98,47,118,49]⟩,vi 1,vi 0,vi 0,nzA,vs ⟨#[]⟩,vs ⟨#[]⟩,vs ⟨#[]⟩,vb false],[vs ⟨#[98,47,118,49]⟩,vi 1,vi 1,vi 0,nzA,vs ⟨#[]⟩,vs ⟨#[]⟩,vs ⟨#[]⟩,vb false],[vs ⟨#[99,47,118,49]⟩,vi 1,vi 0,vi 0,nzA,vs ⟨#[]⟩,vs ⟨#[]⟩,vs ⟨#[]⟩,vb false]],nzA]),(7,.ro [vs ⟨#[117,112]⟩,.slice .none [[.slice .none [[vs ⟨#[99,47,118,49]⟩]],.slice .none [[vi 5,vi 10],[vi 20,vi 100]]],[.slice .none [[vs ⟨#[97,47,118,49]⟩],[vs ⟨#[98,47,118,49]⟩]],.slice .none [[vi 5,vi 10],[vi 20,vi 100]]]]]),(52,.tok 4 2),(62,.tok 4 3),(65,.tok 2 2)] ⟨Zr,Zr,Zr,Zr,Zr,Zr,Zr,Zr,Zr,Zr,Zr,Zr,Zr,Zr,Tv⟩ Z5 (yN (Xi _ (Yi (rW 1 Cl Cl) (Xi _ (Yi (rW 1 Cl Cl) (Xi _ (Yi h31 (Yi Wk (cU [(3,.ref 3 0),(4,.slice (.id 52 4) [[vs ⟨#[97,47,118,49]⟩,vi 1,vi 0,vi 0],[vs ⟨#[98,47,118,49]⟩,vi 1,vi 0,vi 0]]),(5,.slice (.id 62 4) [[vs ⟨#[97,47,118,49]⟩,vi 1,vi 1,vi 0],[vs ⟨#[98,47,118,49]⟩,vi 1,vi 1,vi 0],[vs ⟨#[99,47,118,49]⟩,vi 1,vi 0,vi 0]]),(6,.slice (.id 65 2) [[vi 5,vi 10],[vi 20,vi 100]]),(7,.ref 7 0),(8,vi 0),(9,vi 0),(10,vi 10),(11,vi 0),(12,sl Am UG),(13,vi 0),(14,sl Am t45),(15,vi 0),(16,sl B4 b45),(17,vi 0)] [(3,.ro [.slice .none [[vs ⟨#[97,47,118,49]⟩,vi 1,vi 0,vi 0,.slice .none [[vs ⟨#[98,47,118,49]⟩,sl AE (Ms 0)]],vs ⟨#[]⟩,vs ⟨#[]⟩,vs ⟨#[]⟩,vb false],[vs ⟨#[97,47,118,49]⟩,vi 1,vi 1,vi 0,.slice .none [[vs ⟨#[98,47,118,49]⟩,sl AE (Ms 1)],[vs ⟨#[99,47,118,49]⟩,.slice .none [[vi 0,vi 1000000]]]],vs ⟨#[]⟩,vs ⟨#[]⟩,vs ⟨#[]⟩,vb false],[vs ⟨#[98,47,118,49]⟩,vi 1,vi 0,vi 0,nzA,vs ⟨#[]⟩,vs ⟨#[]⟩,vs ⟨#[]⟩,vb false],[vs ⟨#[98,47,118,49]⟩,vi 1,vi 1,vi 0,nzA,vs ⟨#[]⟩,vs ⟨#[]⟩,vs ⟨#[]⟩,vb false],[vs ⟨#[99,47,118,49]⟩,vi 1,vi 0,vi 0,nzA,vs ⟨#[]⟩,vs ⟨#[]⟩,vs ⟨#[]⟩,vb false]],nzA]),(7,.ro [vs ⟨#[117,112]⟩,.slice .none [[.slice .none [[vs ⟨#[99,47,118,49]⟩]],.slice .none [[vi 5,vi 10],[vi 20,vi 100]]],[.slice .none [[vs ⟨#[97,47,118,49]⟩],[vs ⟨#[98,47,118,49]⟩]],.slice .none [[vi 5,vi 10],[vi 20,vi 100]]]]]),(52,.tok 4 2),(62,.tok 4 3),(65,.tok 2 2)] ⟨Zr,Zr,Zr,Zr,Zr,Zr,Zr,Zr,Zr,Zr,Zr,Zr,Zr,Zr,Zr,Tv⟩ Z5 (Xi .pure (Xi _ (Yi SI (Yi (fun _=>?_) (fun h=>absurd Cl h)))))))))))))))));refine yN (yN (Xi .pure (Xi _ (Yi h23 (Yi (fun _=>?_) (fun h=>absurd Cl h))))));refine Yi (fun _=>?_) (fun h=>absurd Cl h);refine Yi (fun _=>?_) (fun h=>absurd Cl h);refine Yi (fun _=>?_) (fun h=>absurd Cl h);refine Yi (fun _=>?_) (fun h=>absurd Cl h);refine Yi (fun _=>?_) (fun h=>absurd Cl h);refine Xi .pure (Xi _ (Yi h25 (Yi (fun _=>?_) (fun h=>absurd Cl h))));refine Xi .pure (Xi _ (Yi g25 (Yi (fun _=>?_) (fun h=>absurd Cl h))));refine Xi .pure (Xi _ (Yi h33 ?_));exact .refl _
structure Abg(l m:List Sl)(r:Ro)(user:ByteArray):Prop where
 l:l.length<=1048576
 m:m.length<=1048576
 wv:r.waves.length<=1048576
 st:∀v∈r.waves,v.stages.length<=1048576
 pt:∀v∈r.waves,v.paths.length<=1048576
 name:r.name.size<=1048576
 user:user.size<=1048576
structure Abf(a:Ad)(cl:List (List Rq)):Prop where
 ad:M0 a
 len:Cb cl
 q:∀q∈cl,Cb q/\∀z∈q,Kd z
end Go.Eng
namespace Go.Proofs.YteaiieomnhbmgaaGreatDoor.joins
open Go Go.Eng Go.Proofs Go.ChangeShapes Go.WideShapes Go.ChangeAt Go.RowKit
section
variable {H:Type}{enc:TypeId×Value->H}{w:World}
theorem all_le{d:DataW H}{l:List (DataW H)}(h:d∈l):Rows.uptoBulk d<=Rows.uptoBulkAll l:=by
 induction l with
 |nil=>cases h
 |cons x r ih=>
  simp only[Rows.uptoBulkAll]
  cases AA.1 h with
  |inl e=>subst e;omega
  |inr e=>have:=ih e;omega
theorem one_le(d:DataW H):1<=Rows.uptoBulk d:=by
 cases d with
 |lit l=>cases l<;>simp[Rows.uptoBulk]
 |nil=>simp[Rows.uptoBulk]
 |ptr d=>simp[Rows.uptoBulk]
 |slice sv spare=>simp[Rows.uptoBulk]
 |agg parts=>simp[Rows.uptoBulk]
 |iface t d=>simp[Rows.uptoBulk]
 |map entries=>simp[Rows.uptoBulk]
 |held h=>simp[Rows.uptoBulk]
theorem len_le(l:List (DataW H)):l.length<=Rows.uptoBulkAll l:=by
 induction l with
 |nil=>simp[Rows.uptoBulkAll]
 |cons x r ih=>have:=one_le x;simp only[Rows.uptoBulkAll,Ag];omega
theorem bulk_ok:Yh (H:=H) Rows.uptoBulk where
 slice es sp:=by
  have h1:=len_le es
  refine⟨by simp only[Rows.uptoBulk];omega,fun d hd=>?_⟩
  have:=all_le hd
  simp only[Rows.uptoBulk];omega
 agg ps d hd:=by
  have:=all_le hd
  simp only[Rows.uptoBulk];omega
 str b:=by simp only[Rows.uptoBulk];omega
theorem app_all(l r:List (DataW H)):Rows.uptoBulkAll (l++r)=Rows.uptoBulkAll l+Rows.uptoBulkAll r:=by
 induction l with
 |nil=>simp[Rows.uptoBulkAll]
 |cons x l ih=>simp only[Hx,Rows.uptoBulkAll,ih];omega
abbrev NB:Nat:=1048576
abbrev Op(enc:TypeId×Value->H)(w:World)(t:TypeId){α:Type}(e:α->List AV)(ok:α->Prop):Prop:=LA enc Tryz.prog w Rows.uptoBulk NB t e ok
theorem oI:Op enc w 3 (fun n:Int=>[vi n]) (fun _=>True):=(RS Tryz.underlying3).to id (fun _ _=>⟨rfl,trivial⟩)
theorem oB:Op enc w 4 (fun b:Bool=>[vb b]) (fun _=>True):=dX Tryz.underlying4
theorem oS:Op enc w 9 (fun s:ByteArray=>[vs s]) (fun s=>s.size<=NB):=Ze bulk_ok Tryz.underlying9
theorem oVer:Op enc w 46 DO (fun _=>True):=
 (Et bulk_ok Tryz.underlying46 (L:=3) Wk (BK rfl (n:=1) Wk oI (BK rfl (n:=1) Wk oI (BK rfl (n:=1) Wk oI Fz)))).to
  (fun p=>(⟨p.1,p.2.1,p.2.2.1⟩:Ver)) (fun _ _=>⟨rfl,trivial⟩)
theorem oSpan:Op enc w 92 AE (fun _=>True):=
 (Et bulk_ok Tryz.underlying92 (L:=2) Wk (BK rfl (n:=1) Wk oI (BK rfl (n:=1) Wk oI Fz))).to
  (fun p=>(p.1,p.2.1)) (fun _ _=>⟨rfl,trivial⟩)
theorem oSet:Op enc w 51 (fun l:By=>[sl AE l]) (fun l=>l.length<=NB):=
 (FP bulk_ok Tryz.underlying51 (m:=1) Wk (fun _=>rfl) oSpan).to id (fun _ h=>⟨rfl,h.1⟩)
abbrev OkRq(q:Rq):Prop:=q.path.size<=NB/\q.set.length<=NB
theorem oRq:Op enc w 95 Bb OkRq:=
 (Et bulk_ok Tryz.underlying95 (L:=2) Wk (BK rfl (n:=1) Wk oS (BK rfl (n:=1) Wk oSet Fz))).to
  (fun p=>(⟨p.1,p.2.1⟩:Rq)) (fun _ h=>⟨rfl,h.1,h.2.1⟩)
abbrev OkRqs(l:List Rq):Prop:=l.length<=NB/\∀q∈l,OkRq q
theorem oRqs:Op enc w 60 (fun l:List Rq=>[sl Bb l]) OkRqs:=
 FP bulk_ok Tryz.underlying60 (m:=1) Wk (fun _=>rfl) oRq
abbrev OkRl(r:Rl):Prop:=r.path.size<=NB/\OkRqs r.reqs
theorem oRl:Op enc w 78 AF OkRl:=
 (Et bulk_ok Tryz.underlying78 (L:=9) Wk (BK rfl (n:=1) Wk oS (BK rfl (n:=3) Wk oVer (BK rfl (n:=1) Wk oRqs
  (BK rfl (n:=1) Wk oS (BK rfl (n:=1) Wk oS (BK rfl (n:=1) Wk oS (BK rfl (n:=1) Wk oB Fz)))))))).to
  (fun p=>(⟨p.1,p.2.1,p.2.2.1,p.2.2.2.1,p.2.2.2.2.1,p.2.2.2.2.2.1,p.2.2.2.2.2.2.1⟩:Rl)) (fun _ h=>⟨rfl,h.1,h.2.2.1⟩)
theorem oRls:Op enc w 30 (fun l:List Rl=>[sl AF l]) (fun l=>l.length<=NB/\∀r∈l,OkRl r):=
 FP bulk_ok Tryz.underlying30 (m:=8) Wk (fun _=>rfl) oRl
theorem oIfc:Op enc w 182 (fun s:ByteArray=>[vs s,.junk,.junk,.junk,.junk]) (fun _=>True):=
 (Et bulk_ok Tryz.underlying182 (L:=5) Wk (BK rfl (n:=1) Wk oS (BK rfl (n:=1) Wk (N3 Tryz.underlying177) (BK rfl (n:=1) Wk (N3 Tryz.underlying178)
  (BK rfl (n:=1) Wk (N3 Tryz.underlying179) (BK rfl (n:=1) Wk (N3 Tryz.underlying180) Fz)))))).to (fun p=>p.1) (fun _ _=>⟨rfl,trivial⟩)
theorem oIfs:Op enc w 31 (fun l:List ByteArray=>[sl (fun s=>[vs s,.junk,.junk,.junk,.junk]) l]) (fun l=>l.length<=NB):=
 (FP bulk_ok Tryz.underlying31 (m:=4) Wk (fun _=>rfl) oIfc).to id (fun _ h=>⟨rfl,h.1⟩)
theorem oIx:Op enc w 33 (fun p:List Rl×List (List AV)=>[sl AF p.1,.slice .none p.2]) (fun p=>(p.1.length<=NB/\∀r∈p.1,OkRl r)/\p.2.length<=NB/\∀c∈p.2,c.length=5):=
 (Et bulk_ok Tryz.underlying33 (L:=2) Wk (BK rfl (n:=1) Wk oRls (BK rfl (n:=1) Wk oIfs Fz))).to
  (fun p=>(p.1,p.2.1.map (fun s=>[vs s,.junk,.junk,.junk,.junk]))) (fun _ h=>⟨rfl,h.1,by rw[A8];exact h.2.1,fun c hc=>by obtain⟨s,_,rfl⟩:=Ai.1 hc;rfl⟩)
theorem oSl:Op enc w 48 Am (fun y=>y.path.size<=NB):=
 (Et bulk_ok Tryz.underlying48 (L:=4) Wk (BK rfl (n:=1) Wk oS (BK rfl (n:=3) Wk oVer Fz))).to
  (fun p=>(⟨p.1,p.2.1⟩:Sl)) (fun _ h=>⟨rfl,h.1⟩)
theorem oSls:Op enc w 34 (fun l:List Sl=>[sl Am l]) (fun l=>l.length<=NB/\∀y∈l,y.path.size<=NB):=
 FP bulk_ok Tryz.underlying34 (m:=3) Wk (fun _=>rfl) oSl
theorem oInt:Op enc w 3 (fun n:Int=>[vi n]) AX:=(RS Tryz.underlying3).to id (fun x h=>⟨rfl,by
  have h1:(-9223372036854775808:Int)<=x:=h.1
  have h2:x<=(9223372036854775807:Int):=h.2
  show -9223372036854775808<=x/\x<9223372036854775808
  omega⟩)
theorem oU8:Op enc w 5 (fun n:Int=>[.v (.int .u8 n)]) (fun n=>0<=n/\n<=255):=(RS Tryz.underlying5).to id (fun _ h=>⟨rfl,h⟩)
theorem oStg:Op enc w 74 Cr (fun _=>True):=
 (Et bulk_ok Tryz.underlying74 (L:=2) Wk (BK rfl (n:=1) Wk oI (BK rfl (n:=1) Wk oI Fz))).to
  (fun p=>(⟨p.1,p.2.1⟩:Ud)) (fun _ _=>⟨rfl,trivial⟩)
theorem oStgs:Op enc w 22 (fun l:List Ud=>[sl Cr l]) (fun l=>l.length<=NB):=
 (FP bulk_ok Tryz.underlying22 (m:=1) Wk (fun _=>rfl) oStg).to id (fun _ h=>⟨rfl,h.1⟩)
theorem oStr:Op enc w 9 Go.Eng.AB (fun s:ByteArray=>s.size<=NB):=oS
theorem oStrs:Op enc w 52 (fun l:List ByteArray=>[sl Go.Eng.AB l]) (fun l=>l.length<=NB/\∀s∈l,s.size<=NB):=
 FP bulk_ok Tryz.underlying52 (m:=0) Wk (fun _=>rfl) oStr
abbrev OkWv(v:Wv):Prop:=v.paths.length<=NB/\v.stages.length<=NB
theorem oWv:Op enc w 72 G0 OkWv:=
 (Et bulk_ok Tryz.underlying72 (L:=2) Wk (BK rfl (n:=1) Wk oStrs (BK rfl (n:=1) Wk oStgs Fz))).to
  (fun p=>(⟨p.1,p.2.1⟩:Wv)) (fun _ h=>⟨rfl,h.1.1,h.2.1⟩)
theorem oWvs:Op enc w 35 (fun l:List Wv=>[sl G0 l]) (fun l=>l.length<=NB/\∀v∈l,OkWv v):=
 FP bulk_ok Tryz.underlying35 (m:=1) Wk (fun _=>rfl) oWv
theorem oRo:Op enc w 37 Ji (fun r=>r.name.size<=NB/\r.waves.length<=NB/\∀v∈r.waves,OkWv v):=
 (Et bulk_ok Tryz.underlying37 (L:=2) Wk (BK rfl (n:=1) Wk oS (BK rfl (n:=1) Wk oWvs Fz))).to
  (fun p=>(⟨p.1,p.2.1⟩:Ro)) (fun _ h=>⟨rfl,h.1,h.2.1⟩)
abbrev OkAd(a:Ad):Prop:=a.id.size<=NB/\a.path.size<=NB/\a.set.length<=NB/\(a.syms.length<=NB/\∀s∈a.syms,s.size<=NB)/\a.note.size<=NB
theorem oAd:Op enc w 54 Dc OkAd:=
 (Et bulk_ok Tryz.underlying54 (L:=5) Wk (BK rfl (n:=1) Wk oS (BK rfl (n:=1) Wk oS (BK rfl (n:=1) Wk oSet (BK rfl (n:=1) Wk oStrs (BK rfl (n:=1) Wk oS Fz)))))).to
  (fun p=>(⟨p.1,p.2.1,p.2.2.1,p.2.2.2.1,p.2.2.2.2.1⟩:Ad)) (fun _ h=>⟨rfl,h.1,h.2.1,h.2.2.1,h.2.2.2.1,h.2.2.2.2.1⟩)
theorem oCl:Op enc w 55 (fun l:List (List Rq)=>[sl DL l]) (fun l=>l.length<=NB/\∀q∈l,OkRqs q):=
 FP bulk_ok Tryz.underlying55 (m:=0) Wk (fun _=>rfl) oRqs
theorem few_of{n:Nat}(h:n<=NB):n<=1073741824:=AI h Cl
theorem lim_of{x:List Rl}{roots:List Rq}(h:x.length<=NB/\∀r∈x,OkRl r)(k:OkRqs roots):Lim x roots where
 ix:=few_of h.1
 rs:=few_of k.1
 rel r hr:=⟨few_of (h.2 r hr).2.1,few_of (h.2 r hr).1,fun q hq=>⟨few_of ((h.2 r hr).2.2 q hq).2,few_of ((h.2 r hr).2.2 q hq).1⟩⟩
 rq q hq:=⟨few_of (k.2 q hq).2,few_of (k.2 q hq).1⟩
theorem lim0_of{x:List Rl}(h:x.length<=NB/\∀r∈x,OkRl r):Lim x []:=lim_of h ⟨Ax _,fun q hq=>by cases hq⟩
theorem limr_of{l m:List Sl}{r:Ro}{user:ByteArray}(h1:l.length<=NB/\∀y∈l,y.path.size<=NB)(h2:m.length<=NB/\∀y∈m,y.path.size<=NB)(h3:r.name.size<=NB/\r.waves.length<=NB/\∀v∈r.waves,OkWv v)(h4:user.size<=NB):Abg l m r user:=
 ⟨h1.1,h2.1,h3.2.1,fun v hv=>(h3.2.2 v hv).2,fun v hv=>(h3.2.2 v hv).1,h3.1,h4⟩
theorem lima_of{a:Ad}{cl:List (List Rq)}(h:OkAd a)(k:cl.length<=NB/\∀q∈cl,OkRqs q):Abf a cl:=
 ⟨⟨few_of h.1,few_of h.2.1,few_of h.2.2.1,few_of h.2.2.2.1.1,fun s hs=>few_of (h.2.2.2.1.2 s hs),few_of h.2.2.2.2⟩,few_of k.1,fun q hq=>⟨few_of (k.2 q hq).1,fun z hz=>⟨few_of ((k.2 q hq).2 z hz).2,few_of ((k.2 q hq).2 z hz).1⟩⟩⟩
theorem clone_of{ifs:List (List AV)}(h:ifs.length<=NB/\∀c∈ifs,c.length=5):PC 103 [.slice .none ifs] (.slice .none ifs):=o46 ifs (few_of h.1) h.2
end
theorem ok_agg{P:Program}{W:World}{base:Nat}{t:TypeId}{v:Value}{fs:Array Field}(hu:P.underlying t=some (.struct fs))(h:Value.okWide P W .any base t v):∃cs,v=.agg cs:=by
 unfold Value.okWide at h
 rw[hu]at h
 obtain⟨cs,e,_⟩:=h
 exact⟨cs,e⟩
theorem ok_slice{P:Program}{W:World}{base:Nat}{t e:TypeId}{v:Value}(hu:P.underlying t=some (.slice e))(h:Value.okWide P W .any base t v):v.oneCell'=true:=by
 unfold Value.okWide at h
 rw[hu]at h
 unfold Cell.okWide Cell.ok at h
 rw[hu]at h
 cases v<;>first | rfl | simp at h
theorem ok_int{P:Program}{W:World}{base:Nat}{t:TypeId}{k:IntKind}{v:Value}(hu:P.underlying t=some (.int k))(h:Value.okWide P W .any base t v):v.oneCell'=true:=by
 unfold Value.okWide at h
 rw[hu]at h
 unfold Cell.okWide Cell.ok at h
 rw[hu]at h
 cases v<;>first | rfl | simp at h
theorem ok_string{P:Program}{W:World}{base:Nat}{t:TypeId}{v:Value}(hu:P.underlying t=some .string)(h:Value.okWide P W .any base t v):v.oneCell'=true:=by
 unfold Value.okWide at h
 rw[hu]at h
 unfold Cell.okWide Cell.ok at h
 rw[hu]at h
 cases v<;>first | rfl | simp at h
theorem int_of_shape{P:Program}{w:World}{g:Nat}{t:TypeId}{k:IntKind}{zero:Array Value}(h:w.ShapedOpen P)(hg:g<P.globals.size)
  (h0:((begin P (fun _ _=>0) default).world.heap[g]?).bind Obj.row?=some (zero,t)) (hz:zero.size=1)
  (hb:P.buildable t=true) (hc:P.cellTypes P.depth t=some [t]) (hu:P.underlying t=some (.int k)):∃p,w.cell? ⟨g,0,none⟩=some (.int k p):=by
 obtain⟨cs,hh,hs,hr⟩:=h.1 g zero t hg h0
 obtain⟨ts,hts,_,GL⟩:=hr hb
 rw[hc]at hts
 cases hts
 have h1:0<cs.size:=by omega
 obtain⟨u,mO,GM⟩:=GL 0 cs[0] (by simp[h1])
 have:u=t:=by simpa using mO.symm
 subst this
 have DY:w.cell? ⟨g,0,none⟩=some cs[0]:=by simp[World.cell?,hh,h1]
 rw[DY]
 unfold Cell.ok at GM
 rw[hu]at GM
 cases hv:cs[0]<;>rw[hv]at GM<;>simp at GM
 obtain⟨rfl,_⟩:=GM
 exact⟨_,rfl⟩
theorem maxLen_cell{W:World}(h:W.ShapedOpen Tryz.prog):∃m,W.cell? ⟨0,0,none⟩=some (.int .i64 m):=
 int_of_shape (t:=3) (zero:=#[.int .i64 0]) h (AU Wk) Wk rfl Wk Wk Tryz.underlying3
def Start(W:World):Prop:=(∃m,W.cell? ⟨0,0,none⟩=some (.int .i64 m))/\∀x∈me,x.1<W.heap.size/\W.cell? ⟨x.1,x.2.1,none⟩=x.2.2
theorem start_of {W : World} {r : List (String × DataW Unit)} {a b : String × DataW Unit} (h : W.ShapedOpen Tryz.prog) (hl : laidMet Tryz.prog (a :: b :: ("internal/strconv.uint64pow10", Rows.laid_internal_strconv_uint64pow10) :: r) W) : Start W := by
 refine⟨maxLen_cell h,?_⟩
 have ht : Go.Lib.TabIs Tryz.prog W "internal/strconv.uint64pow10" .u64 ((List.range 20).map fun i => ((10 ^ i : Nat) : Int)):=
  Go.Lib.tabIs_of_head (g:=1) (t:=355) (e:=98) (n:=20) Wk Wk Wk Wk Wk Wk hl.tail.tail
 have hc := fun i => World.var?_cell (P := Tryz.prog) (n := "internal/strconv.uint64pow10") (g := 1) Wk ht i
 have h0:1<W.heap.size:=YF (v:=.int .u64 1) ((hc 0).trans rfl)
 intro x hx
 rcases AA.1 hx with rfl | hx
 .exact⟨h0,(hc 20).trans rfl⟩
 .obtain⟨i,hi,rfl⟩:=Ai.1 hx
  have hi:=Gy.1 hi
  refine⟨h0,(hc i).trans ?_⟩
  simp[hi]
def Still(W W' : World):Prop:=W'.os=W.os/\W'.output=W.output/\W.heap.size<=W'.heap.size/\∀b,b<W.heap.size->W'.heap[b]?=W.heap[b]?
theorem run_true{f:Nat}{args:List AV}{vals:Array Value}{W:World}(hc:PC f args (vb true))(hM:Start W)(hs:vals.size=args.length)
  (hr:∀(i:Nat) (av:AV) (x:Value),args[i]?=some av->vals[i]?=some x->BS (po W) W FK av x):Calls Tryz.prog f vals W fun e W'=>e=.returned (.bool true)/\Still W W':=by
 refine(hc.2 (po W) W vals hs (fun i av x q1 q2=>(hr i av x q1 q2).up _) (zf hM.1 hM.2)).mono fun e W' ⟨v,r,h',g',e1,e2,e3,e4,_⟩=>?_
 subst e1
 obtain⟨rfl,rfl⟩:=e2
 obtain rfl:=e3.v_eq
 exact⟨rfl,e4.os,e4.output,e4.size,fun b hb=>e4.frame b hb (fun r h=>h.elim)⟩
theorem Still.kept{W W' : World}(h:Still W W')(may:MemPlace->Prop):W.keptBut W' may:=by
 refine⟨h.1,h.2.1,fun i hi=>?_⟩
 rw[h.2.2.2 i hi]
 cases hh:W.heap[i]? with
 |none=>rfl
 |some o=>cases o<;>simp
theorem Still.same{W W' : World}(h:Still W W'){p:MemPlace}(hp:p.block<W.heap.size):W.sameAt W' p:=by
 cases p with
 |cell b off=>
  show W'.cell? ⟨b,off,none⟩=W.cell? ⟨b,off,none⟩
  unfold World.cell?
  rw[h.2.2.2 b hp]
 |map b=>exact h.2.2.2 b hp
theorem kids:Kids Tryz.prog (· < Tryz.prog.types.size):=kids_rows Wk Wk
theorem full:∀t e,t<Tryz.prog.types.size->Tryz.prog.underlying t=some (.slice e)->0<Tryz.prog.cellsOf e:=slices_full_of Tryz.prog Wk
theorem carry{H:Type}{enc:TypeId×Value->H}{W W' : World}(h:Still W W'):∀{ts:List TypeId} {vs:List Value} {ds:List (DataW H)} {ps:List MemPlace},DataW.TrodAll enc Tryz.prog W 0 (fun _=>true) true ts vs ds ps->DataW.TrodAll enc Tryz.prog W' 0 (fun _=>true) true ts vs ds ps
 | [],[],[],_,e=>e
 |t::ts,v::vs,d::ds,ps,k=>by
  have Du:=k.lt
  obtain⟨p,q,⟨n,h1⟩,h2,rfl⟩:=k
  exact⟨p,q,⟨n,DataW.trod_carry n _ _ _ h1 (fun x hx=>h.same (Du x (BE _ hx)))⟩,carry h h2,rfl⟩
 | [],[],_::_,_,k=>k.elim
 | [],_::_,_,_,k=>k.elim
 |_::_,[],_,_,k=>k.elim
 |_::_,_::_,[],_,k=>k.elim
theorem post_true{H:Type}{enc:TypeId×Value->H}{W W' : World}{f:Func}{s:ChangeSpec}{args:Array Value}{ds:List (DataW H)}{before:List MemPlace}(KL:Still W W')(hv:s.vars=[])
  (hW:DataW.Whole enc Tryz.prog f.params.toList s.vars false W args.toList ds [] before) (hr:f.resultTypes=#[4]) (hT:∀t∈f.params.toList,t<Tryz.prog.types.size) (hs:s.fn H ds={ results:=[.lit (.bool true)],args:=ds }) :
  s.post enc Tryz.prog f false true false false W args (.bool true) W':=by
 have hW0:=hW
 obtain⟨p,q,hA,hV,rfl,hz,_⟩:=hW
 rw[hv]at hV
 have hq:q=[]:=hV
 subst hq
 have Du:=hW0.lt
 have uO:s.fn H (ds++[])={ results:=[.lit (.bool true)],args:=ds }:=by rw[BP];exact hs
 refine⟨ds,[],p++[],[],p,[],hW0,?_,?_,?_,KL.kept _,fun h=>by cases h⟩
 .rw[uO,hr]
  exact⟨[],[],⟨1,by rw[show(Value.bool true).cells.toList=[.bool true]from rfl,DataW.trod_step];unfold DataW.trodStep;rw[Tryz.underlying4]⟩,rfl,rfl⟩
 .rw[uO]
  exact(carry KL hA).respare kids full hT (fun x hx=>by simpa using Du x (BE _ hx))
 .rw[uO,hv];rfl
end Go.Proofs.YteaiieomnhbmgaaGreatDoor.joins
namespace Go.Proofs.YteaiieomnhbmgaaGreatDoor.joins
open Go Go.Eng Go.Proofs Go.ChangeShapes Go.WideShapes Go.ChangeAt Go.RowKit
theorem own:ownKnob Tryz.prog.godebug=none:=by kernel_rfl
def flatD:Nat->DataW Unit->List Value
 |0,_=>[]
 |n+1,.agg l=>l.flatMap (flatD n)
 |_+1,.lit (.int k i)=>[.int k i]
 |_+1,_=>[]
def layIn(d:DataW Unit):Obj->Obj
 |.cells _ t frozen=>.cells (flatD 4 d).toArray t frozen
 |o=>o
noncomputable def laidWorld(os:Os):World:=
 { World.holding Tryz.prog os ⟨#[],#[],[]⟩with heap:=((((((World.holding Tryz.prog os ⟨#[],#[],[]⟩).heap.modify 2 (layIn Rows.laid_math_bits_deBruijn32tab)).modify 3 (layIn Rows.laid_math_bits_deBruijn64tab)).modify 4 (layIn Rows.laid_unicode_utf8_first)).modify 5 (layIn Rows.laid_unicode_utf8_acceptRanges)).modify 1 (layIn Rows.laid_internal_strconv_uint64pow10)) }
abbrev nilV:Value:=.slice none 0 0
theorem arr1{args:Array Value}{a:Value}(h:args.toList=[a]):args=#[a]:=by
 cases args;simp_all
theorem arr2{args:Array Value}{a b:Value}(h:args.toList=[a,b]):args=#[a,b]:=by
 cases args;simp_all
theorem arr3{args:Array Value}{a b c:Value}(h:args.toList=[a,b,c]):args=#[a,b,c]:=by
 cases args;simp_all
theorem arr4{args:Array Value}{a b c d:Value}(h:args.toList=[a,b,c,d]):args=#[a,b,c,d]:=by
 cases args;simp_all
theorem arr5{args:Array Value}{a b c d e:Value}(h:args.toList=[a,b,c,d,e]):args=#[a,b,c,d,e]:=by
 cases args;simp_all
theorem arr6{args:Array Value}{a b c d e f:Value}(h:args.toList=[a,b,c,d,e,f]):args=#[a,b,c,d,e,f]:=by
 cases args;simp_all
theorem arr7{args:Array Value}{a b c d e f g:Value}(h:args.toList=[a,b,c,d,e,f,g]):args=#[a,b,c,d,e,f,g]:=by
 cases args;simp_all
theorem looksOff:false=Tryz.pinned.checked.prog.looks []:=by kernel_rfl
theorem noStand:∀t∈([3,5,9,22,33,34,37,54,55]:List Nat),Tryz.pinned.checked.prog.wantsStandIn t=false:=by
 intro t ht
 simp only[AA,MR,or_false]at ht
 rcases ht with rfl | rfl | rfl | rfl | rfl | rfl | rfl | rfl | rfl<;>exact(show Tryz.prog.wantsStandIn _=false by kernel_rfl)
end Go.Proofs.YteaiieomnhbmgaaGreatDoor.joins
namespace Go.Eng
open Go.Proofs
variable {l:List ByteArray}{p:ByteArray}{n:Int}{v:S8}(s a t:ByteArray)(k:Nat)(b:ByteArray)
abbrev DK(x:Int):List AV:=[E4 x]
theorem nO(k:IntKind)(a b:Int):CW .or k a b=CW .or k b a:=by
 show k.wrap ((BitVec.ofInt k.bits a ||| BitVec.ofInt k.bits b).toNat:Int)=k.wrap ((BitVec.ofInt k.bits b ||| BitVec.ofInt k.bits a).toNat:Int);rw[BitVec.or_comm]
theorem vI{x:Int}(e1:CW .and .u64 (IntKind.wrap .u64 (-n)) 31=32-n)(e2:IntKind.wrap .u64 (32-(32-n))=n):CW .or .u32 (CZ .shr .u32 x n) (CZ .shl .u32 x (32-n))=Il x (-n):=by
 rw[Il,e1,e2,nO]
theorem VA(z:Int):BitVec.ofInt 32 (IntKind.wrap .u32 z)=BitVec.ofInt 32 z:=by
 apply BitVec.eq_of_toNat_eq;show(BitVec.ofInt 32 (z % 4294967296)).toNat=_;rw[Gx,Gx];show(z % 4294967296 % 4294967296).toNat=(z % 4294967296).toNat;rw[Int.emod_emod]
theorem RP(a:Int)(n:Nat)(h:n<=32):BitVec.ofInt 32 (CZ .shl .u32 a n)=BitVec.ofInt 32 a <<< n:=by
 show BitVec.ofInt 32 (IntKind.wrap .u32 (a*2 ^ min (n:Int).toNat 32))=_;rw[VA,BL,KD h];apply BitVec.eq_of_toNat_eq;rw[BitVec.toNat_shiftLeft,Gx,Gx,Nat.shiftLeft_eq];have h1:0<=a % ((2 ^ 32:Nat):Int):=In _ Cl;apply Int.ofNat_inj.1;generalize hm:((2 ^ 32:Nat):Int)=m at *
 have e1:(((a % m).toNat*2 ^ n % 2 ^ 32:Nat):Int)=(a % m*(2 ^ n:Int)) % m:=by
  rw[T6,Int.natCast_mul,Oj h1,hm,Int.natCast_pow];rfl
 have e2:a*2 ^ n % m=a % m*2 ^ n % m:=by
  conv=>rhs;rw[Int.mul_emod,Int.emod_emod,<-Int.mul_emod]
 rw[e1,Oj (In _ (by rw[<-hm];decide)),e2]
theorem nJ(a b:Int):BitVec.ofInt 32 (CW .or .u32 a b)=BitVec.ofInt 32 a ||| BitVec.ofInt 32 b:=by
 show BitVec.ofInt 32 (IntKind.wrap .u32 ((BitVec.ofInt 32 a ||| BitVec.ofInt 32 b).toNat:Int))=_;rw[VA];apply BitVec.eq_of_toNat_eq;rw[Gx,<-T6,BL,Jy (BitVec.isLt _)]
theorem zt{a b c d:Int}(h:BitVec.ofInt 32 a ||| BitVec.ofInt 32 b=BitVec.ofInt 32 c ||| BitVec.ofInt 32 d):CW .or .u32 a b=CW .or .u32 c d:=by
 show IntKind.wrap .u32 ((BitVec.ofInt 32 a ||| BitVec.ofInt 32 b).toNat:Int)=IntKind.wrap .u32 ((BitVec.ofInt 32 c ||| BitVec.ofInt 32 d).toNat:Int);rw[h]
theorem sc:CW .or .u32 (CW .or .u32 (CW .or .u32 (CZ .shl .u32 (IntKind.wrap .u32 ((DB s (4*k)).toNat:Int)) 24) (CZ .shl .u32 (IntKind.wrap .u32 ((DB s (4*k+1)).toNat:Int)) 16)) (CZ .shl .u32 (IntKind.wrap .u32 ((DB s (4*k+2)).toNat:Int)) 8)) (IntKind.wrap .u32 ((DB s (4*k+3)).toNat:Int))=OL s k 4:=by
 have s24:∀a,BitVec.ofInt 32 (CZ .shl .u32 a 24)=BitVec.ofInt 32 a <<< 24:=fun a=>RP a 24 Cl;have zY:∀a,BitVec.ofInt 32 (CZ .shl .u32 a 16)=BitVec.ofInt 32 a <<< 16:=fun a=>RP a 16 Cl;have s8:∀a,BitVec.ofInt 32 (CZ .shl .u32 a 8)=BitVec.ofInt 32 a <<< 8:=fun a=>RP a 8 Cl;refine zt ?_;simp only[OL,nJ,s24,zY,s8,BitVec.shiftLeft_or_distrib,<-BitVec.shiftLeft_add,Gi];simp[BitVec.or_assoc]
theorem xN{n:Nat}(h:n<=a.size):(a++b).extract 0 n=a.extract 0 n:=by
 apply MY;simp only[Ig,MC];rw[Array.extract_append];have h' : n<=a.data.size:=h;have z:b.data.extract (0-a.data.size) (n-a.data.size)=#[]:=by rw[show n-a.data.size=0 by omega];simp
 rw[z];simp
theorem xO{n:Nat}(h:n<=a.size):(a++b).extract n (a++b).size=a.extract n a.size++b:=by
 apply MY;simp only[Ig,MC];rw[Array.extract_append];have h' : n<=a.data.size:=h;have e:(a++b).size=a.data.size+b.data.size:=by rw[A2];rfl
 rw[e,show n-a.data.size=0 by omega,show a.data.size+b.data.size-a.data.size=b.data.size by omega];have x1:a.data.extract n (a.data.size+b.data.size)=a.data.extract n a.size:=by
  apply KE;rw[Array.toList_extract,Array.toList_extract,List.extract_eq_take_drop,List.extract_eq_take_drop,At (by rw[CK,Br];omega),At (by rw[CK,Br];show _<=a.data.size-n;omega)]
 have x2:b.data.extract 0 b.data.size=b.data:=by simp
 rw[x1,x2]
theorem OO:∀(n:Nat) (v:S8) (a b:ByteArray),a.size<=n->Dv v (a++b)=Dv (Dv v a).1 ((Dv v a).2++b)
 |n,v,a,b,h=>by
  rw[Dv.eq_1 v a];split
  .rename_i kJ;rw[Dv.eq_1 v (a++b),Al (by rw[A2];omega),xN a b kJ,xO a b kJ]
   match n,h with
   |n+1,h=>exact OO n _ _ _ (by rw[CP];omega)
   |0,h=>omega
  .rfl
theorem Sw:∀(n:Nat) (v:S8) (b:ByteArray),b.size<=n->(Dv v b).2.size=b.size % 64
 |n,v,b,h=>by
  rw[Dv.eq_1 v b];split
  .rename_i kJ
   match n,h with
   |n+1,h=>rw[Sw n _ _ (by rw[CP];omega),CP];omega
   |0,h=>omega
  .rename_i kJ;show b.size=_;omega
def fQ:HS:=⟨(Dv bh t).1,(Dv bh t).2,(t.size:Nat)⟩
theorem TZ(h0:0<=n)(h1:n<18446744073709551616):IntKind.wrap .u64 n=n:=Int.emod_eq_of_lt h0 h1
theorem pe{t s:ByteArray}(h:t.size+s.size<9223372036854775808):G9 (fQ t) s=fQ (t++s):=by
 unfold G9 fQ;rw[<-OO _ bh t s (Ak _)];have e:IntKind.wrap .u64 (((t.size:Nat):Int)+IntKind.wrap .u64 (s.size:Int))=((t++s).size:Nat):=by
  rw[TZ (n:=(s.size:Int)) ch ch,TZ ch ch,A2];rfl
 rw[e]
theorem vg:QE=fQ ⟨#[]⟩:=by
 unfold QE fQ;have e:Dv bh ⟨#[]⟩=(bh,⟨#[]⟩):=by rw[Dv.eq_1,Aj Cl]
 rw[e];rfl
def Pt(l:List ByteArray):ByteArray:=l.foldl (fun t s=>(t++Fl (IntKind.wrap .u64 (s.size:Int)))++s) t
theorem GC(n:Int):(Fl n).size=8:=by show(List.map _ (List.range 8)).toArray.size=8;simp
theorem gO:∀{l:List ByteArray} {t:ByteArray},(∀s∈l,s.size<=100000000)->t.size+l.length*100000008<9223372036854775808->Oh (fQ t) l=fQ (Pt t l)
 | [],_,_,_=>rfl
 |s::l,t,h,hb=>by
  have h1:=h s (Ab ..);rw[Ag,EU]at hb;show Oh (G9 (G9 (fQ t) (Fl (IntKind.wrap .u64 (s.size:Int)))) s) l=_;rw[pe (by rw[GC];omega),pe (by rw[A2,GC];omega),gO (fun u hu=>h u (Ah _ hu)) (by rw[A2,A2,GC];omega)]
  rfl
def WL:ByteArray:=((t++⟨#[128]⟩)++kS ((119-(t.size:Int)) % 64).toNat)++Fl (IntKind.wrap .u64 (8*(t.size:Int)))
def Zs:ByteArray:=⟨(((Dv bh (WL t)).1.l).flatMap Ev).toArray⟩
theorem vM:kn (fQ t)=Zs t:=by
 have e:ER (fQ t)=(⟨#[128]⟩++kS ((119-(t.size:Int)) % 64).toNat)++Fl (IntKind.wrap .u64 (8*(t.size:Int))):=by
  unfold ER;have r:(((fQ t).rest.size:Nat):Int)=(t.size:Int) % 64:=by
   show(((Dv bh t).2.size:Nat):Int)=_;rw[Sw _ bh t (Ak _)];omega
  rw[r,show(119-(t.size:Int) % 64) % 64=(119-(t.size:Int)) % 64 by omega]
  rfl
 have e2:(G9 (fQ t) (ER (fQ t))).v=(Dv bh (WL t)).1:=by
  show(Dv (Dv bh t).1 ((Dv bh t).2++ER (fQ t))).1=_;rw[<-OO _ bh t _ (Ak _),e,WL,Wo,Wo,Wo]
 unfold kn Zs;rw[e2]
theorem ku{tag:ByteArray}(ht:tag.size<=100000000)(hl:∀s∈l,s.size<=100000000)(hn:l.length<=1000000):Rc tag l=Zs (Pt (Fl (IntKind.wrap .u64 (tag.size:Int))++tag) l):=by
 unfold Rc;rw[vg,pe (by rw[A2,GC];show 0+_<_;omega),gO hl (by rw[A2,A2,GC];show 0+_+_<_;have:=A9 100000008 hn;omega),vM]
 congr 2
theorem vt{a b:Int}(h0:0<=b)(h1:b<256):CW .or .u64 (CZ .shl .u64 a 8) b=IntKind.wrap .u64 (IntKind.wrap .u64 (a*256)+b):=by
 have e:CZ .shl .u64 a 8=IntKind.wrap .u64 (a*256):=rfl;rw[e];have w:∀z:Int,IntKind.wrap .u64 z=z % 18446744073709551616:=fun _=>rfl;obtain⟨k,hk,IQ⟩:∃k:Nat,IntKind.wrap .u64 (a*256)=((k*256:Nat):Int)/\k<72057594037927936:=by
  refine⟨(IntKind.wrap .u64 (a*256)).toNat / 256,?_,?_⟩
  .rw[w];omega
  .rw[w];omega
 obtain⟨c,rfl⟩:∃c:Nat,b=(c:Int):=⟨b.toNat,by omega⟩;rw[hk];have hc:c<2 ^ 8:=by omega
 show IntKind.wrap .u64 ((BitVec.ofInt 64 ((k*256:Nat):Int) ||| BitVec.ofInt 64 (c:Int)).toNat:Int)=_;rw[BitVec.toNat_or,Gx,Gx];have e1:(((k*256:Nat):Int) % ((2 ^ 64:Nat):Int)).toNat=k*256:=by
  rw[<-T6,BL,Jy ch]
 have e2:((c:Int) % ((2 ^ 64:Nat):Int)).toNat=c:=by
  rw[<-T6,BL,Jy ch]
 rw[e1,e2,show k*256=k <<< 8 by rw[Nat.shiftLeft_eq],<-Nat.shiftLeft_add_eq_or_of_lt hc k,Nat.shiftLeft_eq]
 rfl
theorem xb{ws:List Int}{i:Nat}(h:i<ws.length):(0:Int)<=((i:Nat):Int)/\(ws.map DK)[((i:Nat):Int).toNat]?=some (DK (FD ws i)):=by
 refine⟨KG _,?_⟩;rw[BL,AG,We h];rfl
def HX:List UInt8:=(s.data.toList++[128])++List.replicate k 0
theorem VF:(HX s k).length=s.size+1+k:=by
 rw[HX,Ac,Ac,BQ,Br];rfl
theorem jP:HX s k++[0]=HX s (k+1):=by
 rw[HX,HX,BA,List.replicate_succ']
theorem rp:(⟨(HX s k).toArray⟩:ByteArray)=(s++⟨#[128]⟩)++kS k:=by
 apply MY;rw[MC,MC];show(HX s k).toArray=s.data++#[128]++(List.replicate k (0:UInt8)).toArray;apply KE;simp[HX]
theorem sm(n:Nat):(kS n).size=n:=by show(List.replicate n (0:UInt8)).toArray.size=n;simp
theorem XR:(WL t).size % 64=0/\(WL t).size<=t.size+80:=by
 rw[WL,A2,A2,A2,sm,GC];show(t.size+1+_+8) % 64=0/\t.size+1+_+8<=t.size+80;omega
theorem ZR{k:Nat}(h:64*k+64<=p.size):Dv v (p.extract (64*k) p.size)=Dv (bY v (p.extract (64*k) (64*k+64))) (p.extract (64*(k+1)) p.size):=by
 have hp:p.size=p.data.size:=rfl;have e1:(p.extract (64*k) p.size).extract 0 64=p.extract (64*k) (64*k+64):=by
  apply MY;simp only[Ig,Array.extract_extract];rw[Gi,KD h]
 have e2:(p.extract (64*k) p.size).extract 64 (p.extract (64*k) p.size).size=p.extract (64*(k+1)) p.size:=by
  apply MY;simp only[Ig,Array.extract_extract,CP];rw[show 64*k+64=64*(k+1) by omega,show min (64*k+(min p.size p.size-64*k)) p.size=p.size by omega]
 rw[Dv.eq_1 v,Al (by rw[CP];omega),e1,e2]
theorem cH{k:Nat}(h:p.size<=64*k):(Dv v (p.extract (64*k) p.size)).1=v:=by
 rw[Dv.eq_1,Aj (by rw[CP];omega)]
theorem kp{i:Nat}(h:i<l.length):Pt t (l.take (i+1))=(Pt t (l.take i)++Fl (IntKind.wrap .u64 (l[i].size:Int)))++l[i]:=by
 rw[Pt,BM h,Ef];rfl
theorem kq:∀{l:List ByteArray},(∀s∈l,s.size<=100000000)->(Pt t l).size<=t.size+l.length*100000008:=fun {l} h=>by
 induction l generalizing t with
 |nil=>show t.size<=t.size+0*_;omega
 |cons s l ih=>
  have h1:=h s (Ab ..);have h2:=ih ((t++Fl (IntKind.wrap .u64 (s.size:Int)))++s) fun u hu=>h u (Ah _ hu);rw[A2,A2,GC]at h2;rw[Ag,EU];show(Pt ((t++Fl (IntKind.wrap .u64 (s.size:Int)))++s) l).size<=_;omega
def LN(n:Int)(i:Nat):List UInt8:=(List.range i).map fun(j:Nat)=>UInt8.ofNat (IntKind.wrap .u8 (CZ .shr .i64 n (8*(7-(j:Int))))).toNat
theorem jr(n:Int)(i:Nat):(LN n i).map CX++[[AV.v (.int .u8 (IntKind.wrap .u8 (CZ .shr .i64 n (8*(7-(i:Int))))))]]=(LN n (i+1)).map CX:=by
 rw[LN,LN,List.range_succ,As,As]
 congr 1
 show _=[CX _];rw[CX,pf]
theorem na(h0:0<=n)(h1:n<18446744073709551616):(⟨(LN n 8).toArray⟩:ByteArray)=Fl (IntKind.wrap .u64 n):=by
 rw[TZ h0 h1,Fl,LN]
 congr 2
theorem lL(d:ByteArray)(i:Nat):IntKind.wrap .u64 (IntKind.wrap .u64 (LH d i*256)+IntKind.wrap .u64 ((DB d i).toNat:Int))=LH d (i+1):=by
 have h:=(DB d i).toNat_lt;rw[LH,TZ (n:=((DB d i).toNat:Int)) ch ch,vt ch ch]
end Go.Eng
