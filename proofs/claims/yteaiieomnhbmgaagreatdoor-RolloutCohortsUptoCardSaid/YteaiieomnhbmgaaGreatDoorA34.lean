/- Lemmas for the claims of this seat, without a condition: part 34 (W35, W38, W42, J1, J2, W36). -/
import Derived.Test.YteaiieomnhbmgaaGreatDoorA33
import Derived.Test.YteaiieomnhbmgaaGreatDoorCards
import Derived.Test.YteaiieomnhbmgaaGreatDoorTie
import Derived.ProofKit
import Derived.OpenShut
import Derived.Deep.DeepHandedRow
import Derived.Lib.LaidTab
import Derived.Stop.LaidErr
set_option maxHeartbeats 4000000
namespace Go.Eng
open Go.Proofs
variable (p:ByteArray)
abbrev mL:ByteArray:=⟨#[99,47,118,49]⟩
abbrev Vx:ByteArray:=⟨#[97,47,118,49]⟩
abbrev Y0:ByteArray:=⟨#[98,47,118,49]⟩
abbrev v45(m:Int):Ver:=⟨1,m,0⟩
abbrev L7(m:Int):List (Int×Int):=[(1000*m,1000*m+1)]
abbrev aX(m:Int)(q:List Rq):Rl:=⟨p,v45 m,q,mt,mt,mt,false⟩
abbrev ya:List Rq:=[⟨Y0,L7 0⟩]
abbrev yb:List Rq:=[⟨Y0,L7 1⟩,⟨mL,[(0,1000000)]⟩]
abbrev Y4:List Rl:=[aX Vx 0 ya,aX Vx 1 yb,aX Y0 0 [],aX Y0 1 [],aX mL 0 []]
abbrev T8:List Sl:=[⟨Vx,v45 0⟩,⟨Y0,v45 0⟩]
abbrev t45:List Sl:=[⟨Vx,v45 1⟩,⟨Y0,v45 1⟩,⟨mL,v45 0⟩]
abbrev VV:List Y8:=[⟨5,10⟩,⟨20,100⟩]
abbrev Xf:Ro:=⟨⟨#[117,112]⟩,[⟨[mL],VV⟩,⟨[Vx,Y0],VV⟩]⟩
abbrev a45:Ad:=⟨⟨#[65]⟩,Y0,L7 1,[⟨#[102]⟩],mt⟩
abbrev wt:List (List Rq):=[[⟨Vx,L7 1⟩],[⟨Y0,[(1000,1000000)]⟩]]
abbrev zp:List Bk:=[⟨0,⟨1,1,1⟩,false⟩,⟨1,⟨1,1,1⟩,true⟩]
theorem X3:dg VV 4=0/\dg VV 19=10/\Dw VV=0/\Kd VV 4=0/\Kd VV 20=100:=⟨by kernel_rfl,by kernel_rfl,by kernel_rfl,by kernel_rfl,by kernel_rfl⟩
theorem Ab0:QC Y4 T8 t45=0:=by kernel_rfl
theorem AaX:I8 T8 t45=[Vx,Y0,mL]:=by simp[I8];unfold rm;kernel_rfl
theorem AaZ:oT Y4 a45 wt=0:=by kernel_rfl
theorem AaW:wa Y4 a45 wt=zp:=by kernel_rfl
theorem AaY:Kx [mL,Vx,Y0]=[Vx,Y0,mL]:=by unfold Kx;simp[Kr,List.mergeSort,List.MergeSort.Internal.splitInTwo,List.splitAt,List.splitAt.go,List.merge];rw[Ai Cl];simp[List.merge];rw[Al Cl,Ai Cl];kernel_rfl
theorem Ab1:bu Y4 T8 t45 [[mL],[Vx,Y0]]=true:=by kernel_rfl
theorem kO:NR Y4 T8 t45 Xf=0:=by
 have h:GY Y4 T8 t45 (Vy Xf)=0:=by
  unfold GY;rw[Al Ab0,Al (show(Vy Xf).all cZ=true by kernel_rfl),Al (show Kx (Vy Xf).flatten=I8 T8 t45 by rw[AaX];exact AaY),Al (show bu Y4 T8 t45 (Vy Xf)=true from Ab1)]
 have k:(if 65536<Xf.name.size then(7:Int)else IC Xf.waves)=0:=by kernel_rfl
 show(if GY Y4 T8 t45 (Vy Xf)=0 then(if 65536<Xf.name.size then(7:Int)else IC Xf.waves)else GY Y4 T8 t45 (Vy Xf))=0;exact(Al h).trans k
abbrev fI(b:Int):List AV:=[vs p,vi 1,vi b,vi 0,nzA,vs mt,vs mt,vs mt,vb false]
abbrev nY:List AV:=[.slice .none [AF (aX Vx 0 ya),AF (aX Vx 1 yb),fI Y0 0,fI Y0 1,fI mL 0],nzA]
theorem Tr:CZ (.agg nY) (Mo Y4 []) :=
 have h (p:ByteArray) (b:Int):KP (fI p b) (AF (aX p b [])):=⟨.refl _,.refl _,.refl _,.refl _,.nil,.refl _,.refl _,.refl _,.refl _,trivial⟩
 CZ.agg ⟨CZ.slice ⟨.refl _,.refl _,h Y0 0,h Y0 1,h mL 0,trivial⟩,.nil,trivial⟩
theorem X9(s:List (Int×Int))(hp:F7 p)(hs:B9 s):∀q∈[(⟨p,s⟩:Rq)],JT q:=A1.2 ⟨⟨hs,hp⟩,Bx _⟩
theorem d4:Tx Y4 :=
 have a:F7 Vx:=by decide
 have b:F7 Y0:=by decide
 have c:F7 mL:=by decide
 ⟨show 5<=16 by decide,A1.2 ⟨⟨a,X9 _ _ b (show 1<=1073741824 by decide)⟩,A1.2 ⟨⟨a,A1.2 ⟨⟨show 1<=1073741824 by decide,b⟩,X9 _ _ c (show 1<=1073741824 by decide)⟩⟩,A1.2 ⟨⟨b,Bx _⟩,A1.2 ⟨⟨b,Bx _⟩,A1.2 ⟨⟨c,Bx _⟩,Bx _⟩⟩⟩⟩⟩⟩
theorem um:∀r∈Y4,r.reqs.length<=1000 :=
 A1.2 ⟨show 1<=1000 by decide,A1.2 ⟨show 2<=1000 by decide,A1.2 ⟨AE _,A1.2 ⟨AE _,A1.2 ⟨AE _,Bx _⟩⟩⟩⟩⟩
theorem YI:TE Xf:=⟨show 2<=1000 by decide,A1.2 ⟨show 2<=1073741824 by decide,A1.2 ⟨show 2<=1073741824 by decide,Bx _⟩⟩,A1.2 ⟨show 1<=1000 by decide,A1.2 ⟨show 2<=1000 by decide,Bx _⟩⟩⟩
theorem oE:MD a45:=⟨show 1<=1073741824 by decide,show 4<=1073741824 by decide,show 1<=1073741824 by decide,show 1<=1073741824 by decide,A1.2 ⟨show 1<=1073741824 by decide,Bx _⟩,show 0<=1073741824 by decide⟩
theorem AaT:∀q∈wt,∀z∈q,JT z:=A1.2 ⟨X9 _ _ (show 4<=1073741824 by decide) (show 1<=1073741824 by decide),A1.2 ⟨X9 _ _ (show 4<=1073741824 by decide) (show 1<=1073741824 by decide),Bx _⟩⟩
theorem vW(u:ByteArray):gx Y4 T8 t45 Xf u 4=.tup [sl Am T8,vi 0]/\gx Y4 T8 t45 Xf u 20=.tup [sl Am t45,vi 0]:=by
 unfold gx;rw[(dQ u 4 kO).2.1,(dQ u 20 kO).2.1,oL kO (A1.2 ⟨by rw[X3.2.2.2.1];exact Bs _,A1.2 ⟨by rw[X3.2.2.2.1];exact Bs _,Bx _⟩⟩),sD kO (show 2<=1073741824 by decide) (show 3<=1073741824 by decide) (A1.2 ⟨by rw[X3.2.2.2.2];exact Bs _,A1.2 ⟨by rw[X3.2.2.2.2];exact Bs _,Bx _⟩⟩)];exact Zr
theorem VX(m:Int):PC 45 [vi m] (.agg [vi 1,vi m,vi 0]):=by
 refine Ps Ee Tryz.func45 rfl (Nz rfl) (yN (yN ?_));exact .refl _
theorem qQ(m:Int)(h0:0<=m)(h1:m<=1):PC 46 [vi m] (sl AC (L7 m)):=by
 refine Ps Ee Tryz.func46 rfl (Nz rfl) (Yi (by show A7 ((1000:Int)*(m:Int));unfold A7;omega) (Yi (by show A7 ((1000:Int)*(m:Int));unfold A7;omega) (Yi (by show A7 ((1000*m:Int)+(1:Int));unfold A7;omega) ?_)));exact .refl _
theorem YQ  : PC 10 [] (vb true):=by
 have hcl:=o46 [] Cl (Bx _);have Mk:=rU VV 4 (show 2<=1073741824 by decide);have g11:=rU VV 19 (show 2<=1073741824 by decide);rw[X3.1,X3.2.2.1]at Mk;rw[X3.2.1,X3.2.2.1]at g11;have rl:=(yS Y4 [] T8 t45 Xf ⟨#[109,101]⟩ 4 d4.few (show 2<=16 by decide) (show 3<=16 by decide) YI (show 2<=10000000 by decide) (show 2<=100000000 by decide)).args (args':=[.agg nY,sl Am T8,sl Am t45,.agg (Ia Xf),vs ⟨#[109,101]⟩,vi 4]) ⟨Tr,.refl _,.refl _,.refl _,.refl _,.refl _,trivial⟩;rw[(vW _).1]at rl;have g21:=(yS Y4 [] T8 t45 Xf ⟨#[109,101]⟩ 20 d4.few (show 2<=16 by decide) (show 3<=16 by decide) YI (show 2<=10000000 by decide) (show 2<=100000000 by decide)).args (args':=[.agg nY,sl Am T8,sl Am t45,.agg (Ia Xf),vs ⟨#[109,101]⟩,vi 20]) ⟨Tr,.refl _,.refl _,.refl _,.refl _,.refl _,trivial⟩;rw[(vW _).2]at g21;have h31:=(uI Y4 [] a45 wt d4 um oE (show 2<=1073741824 by decide) AaT hcl).args (args':=[.agg nY,.agg (CT a45),sl DC wt]) ⟨Tr,.refl _,.refl _,trivial⟩;rw[AaW,AaZ]at h31;have RV:=Vr VV (show 2<=1073741824 by decide);rw[X3.2.2.1]at RV;have h23:=(fW Y4 [] T8 t45 Xf d4.few (show 2<=16 by decide) (show 3<=16 by decide) YI).args (args':=[.agg nY,sl Am T8,sl Am t45,.agg (Ia Xf)]) ⟨Tr,.refl _,.refl _,.refl _,trivial⟩;rw[kO]at h23;have h25:=c27 T8 T8 (show 2<=1073741824 by decide);rw[Ax rfl]at h25;have g25:=c27 t45 t45 (show 3<=1073741824 by decide);rw[Ax rfl]at g25;have h33:=z33 zp zp (show 2<=1073741824 by decide);rw[Ax rfl]at h33;refine Ps (pC [3,7] [4,5,7,9,10,11,12]) Tryz.func10 rfl (Nz rfl) (Xi .pure (Xi _ (Yi (VX 0) (Xi .pure (Xi _ (Yi (qQ 0 Cl Cl) (Xi .pure (Xi _ (Yi (VX 1) (Xi .pure (Xi _ (Yi (qQ 1 Cl Cl) (Xi .pure (Xi _ (Yi (VX 0) (Xi .pure (Xi _ (Yi (VX 1) (Xi .pure (Xi _ (Yi (VX 0) (yN (cU [(1,.v (.func (.func 45) #[] #[])),(2,.v (.func (.func 46) #[] #[])),(3,.ref 3 0)] [(3,.ro [.slice .none [[vs ⟨#[97,47,118,49]⟩,vi 1,vi 0,vi 0,.slice .none [[vs ⟨#[98,47,118,49]⟩,sl AC (L7 0)]],vs ⟨#[]⟩,vs ⟨#[]⟩,vs ⟨#[]⟩,vb false],[vs ⟨#[97,47,118,49]⟩,vi 1,vi 1,vi 0,.slice .none [[vs ⟨#[98,47,118,49]⟩,sl AC (L7 1)],[vs ⟨#[99,47,118,49]⟩,.slice .none [[vi 0,vi 1000000]]]],vs ⟨#[]⟩,vs ⟨#[]⟩,vs ⟨#[]⟩,vb false],[vs ⟨#[98,47,118,49]⟩,vi 1,vi 0,vi 0,nzA,vs ⟨#[]⟩,vs ⟨#[]⟩,vs ⟨#[]⟩,vb false],[vs ⟨#[98,47,118,49]⟩,vi 1,vi 1,vi 0,nzA,vs ⟨#[]⟩,vs ⟨#[]⟩,vs ⟨#[]⟩,vb false],[vs ⟨#[99,47,118,49]⟩,vi 1,vi 0,vi 0,nzA,vs ⟨#[]⟩,vs ⟨#[]⟩,vs ⟨#[]⟩,vb false]],nzA])] Z3 Z1 (Xi .pure (Xi _ (Yi (VX 0) (Xi .pure (Xi _ (Yi (VX 0) (Xi .pure (Xi _ (Yi (VX 1) (Xi .pure (Xi _ (Yi (VX 1) (Xi .pure (Xi _ (Yi (VX 0) (cU [(2,.v (.func (.func 46) #[] #[])),(3,.ref 3 0),(4,.slice (.id 52 4) [[vs ⟨#[97,47,118,49]⟩,vi 1,vi 0,vi 0],[vs ⟨#[98,47,118,49]⟩,vi 1,vi 0,vi 0]]),(5,.slice (.id 62 4) [[vs ⟨#[97,47,118,49]⟩,vi 1,vi 1,vi 0],[vs ⟨#[98,47,118,49]⟩,vi 1,vi 1,vi 0],[vs ⟨#[99,47,118,49]⟩,vi 1,vi 0,vi 0]])] [(3,.ro [.slice .none [[vs ⟨#[97,47,118,49]⟩,vi 1,vi 0,vi 0,.slice .none [[vs ⟨#[98,47,118,49]⟩,sl AC (L7 0)]],vs ⟨#[]⟩,vs ⟨#[]⟩,vs ⟨#[]⟩,vb false],[vs ⟨#[97,47,118,49]⟩,vi 1,vi 1,vi 0,.slice .none [[vs ⟨#[98,47,118,49]⟩,sl AC (L7 1)],[vs ⟨#[99,47,118,49]⟩,.slice .none [[vi 0,vi 1000000]]]],vs ⟨#[]⟩,vs ⟨#[]⟩,vs ⟨#[]⟩,vb false],[vs ⟨#[98,47,118,49]⟩,vi 1,vi 0,vi 0,nzA,vs ⟨#[]⟩,vs ⟨#[]⟩,vs ⟨#[]⟩,vb false],[vs ⟨#[98,47,118,49]⟩,vi 1,vi 1,vi 0,nzA,vs ⟨#[]⟩,vs ⟨#[]⟩,vs ⟨#[]⟩,vb false],[vs ⟨#[99,47,118,49]⟩,vi 1,vi 0,vi 0,nzA,vs ⟨#[]⟩,vs ⟨#[]⟩,vs ⟨#[]⟩,vb false]],nzA]),(52,.tok 4 2),(62,.tok 4 3)] Z4 Z3 (yN (cU [(2,.v (.func (.func 46) #[] #[])),(3,.ref 3 0),(4,.slice (.id 52 4) [[vs ⟨#[97,47,118,49]⟩,vi 1,vi 0,vi 0],[vs ⟨#[98,47,118,49]⟩,vi 1,vi 0,vi 0]]),(5,.slice (.id 62 4) [[vs ⟨#[97,47,118,49]⟩,vi 1,vi 1,vi 0],[vs ⟨#[98,47,118,49]⟩,vi 1,vi 1,vi 0],[vs ⟨#[99,47,118,49]⟩,vi 1,vi 0,vi 0]]),(6,.slice (.id 65 2) [[vi 5,vi 10],[vi 20,vi 100]]),(7,.ref 7 0)] [(3,.ro [.slice .none [[vs ⟨#[97,47,118,49]⟩,vi 1,vi 0,vi 0,.slice .none [[vs ⟨#[98,47,118,49]⟩,sl AC (L7 0)]],vs ⟨#[]⟩,vs ⟨#[]⟩,vs ⟨#[]⟩,vb false],[vs ⟨#[97,47,118,49]⟩,vi 1,vi 1,vi 0,.slice .none [[vs ⟨#[98,47,118,49]⟩,sl AC (L7 1)],[vs ⟨#[99,47,118,49]⟩,.slice .none [[vi 0,vi 1000000]]]],vs ⟨#[]⟩,vs ⟨#[]⟩,vs ⟨#[]⟩,vb false],[vs ⟨#[98,47,118,49]⟩,vi 1,vi 0,vi 0,nzA,vs ⟨#[]⟩,vs ⟨#[]⟩,vs ⟨#[]⟩,vb false],[vs ⟨#[98,47,118,49]⟩,vi 1,vi 1,vi 0,nzA,vs ⟨#[]⟩,vs ⟨#[]⟩,vs ⟨#[]⟩,vb false],[vs ⟨#[99,47,118,49]⟩,vi 1,vi 0,vi 0,nzA,vs ⟨#[]⟩,vs ⟨#[]⟩,vs ⟨#[]⟩,vb false]],nzA]),(7,.ro [vs ⟨#[117,112]⟩,.slice .none [[.slice .none [[vs ⟨#[99,47,118,49]⟩]],.slice .none [[vi 5,vi 10],[vi 20,vi 100]]],[.slice .none [[vs ⟨#[97,47,118,49]⟩],[vs ⟨#[98,47,118,49]⟩]],.slice .none [[vi 5,vi 10],[vi 20,vi 100]]]]]),(52,.tok 4 2),(62,.tok 4 3),(65,.tok 2 2)] Z6 Z5 (Xi .pure (Xi _ (Yi Mk (Xi .pure (Xi _ (Yi g11 (cU [(2,.v (.func (.func 46) #[] #[])),(3,.ref 3 0),(4,.slice (.id 52 4) [[vs ⟨#[97,47,118,49]⟩,vi 1,vi 0,vi 0],[vs ⟨#[98,47,118,49]⟩,vi 1,vi 0,vi 0]]),(5,.slice (.id 62 4) [[vs ⟨#[97,47,118,49]⟩,vi 1,vi 1,vi 0],[vs ⟨#[98,47,118,49]⟩,vi 1,vi 1,vi 0],[vs ⟨#[99,47,118,49]⟩,vi 1,vi 0,vi 0]]),(6,.slice (.id 65 2) [[vi 5,vi 10],[vi 20,vi 100]]),(7,.ref 7 0),(8,vi 0),(9,vi 0),(10,vi 10),(11,vi 0)] [(3,.ro [.slice .none [[vs ⟨#[97,47,118,49]⟩,vi 1,vi 0,vi 0,.slice .none [[vs ⟨#[98,47,118,49]⟩,sl AC (L7 0)]],vs ⟨#[]⟩,vs ⟨#[]⟩,vs ⟨#[]⟩,vb false],[vs ⟨#[97,47,118,49]⟩,vi 1,vi 1,vi 0,.slice .none [[vs ⟨#[98,47,118,49]⟩,sl AC (L7 1)],[vs ⟨#[99,47,118,49]⟩,.slice .none [[vi 0,vi 1000000]]]],vs ⟨#[]⟩,vs ⟨#[]⟩,vs ⟨#[]⟩,vb false],[vs ⟨#[98,47,118,49]⟩,vi 1,vi 0,vi 0,nzA,vs ⟨#[]⟩,vs ⟨#[]⟩,vs ⟨#[]⟩,vb false],[vs ⟨#[98,47,118,49]⟩,vi 1,vi 1,vi 0,nzA,vs ⟨#[]⟩,vs ⟨#[]⟩,vs ⟨#[]⟩,vb false],[vs ⟨#[99,47,118,49]⟩,vi 1,vi 0,vi 0,nzA,vs ⟨#[]⟩,vs ⟨#[]⟩,vs ⟨#[]⟩,vb false]],nzA]),(7,.ro [vs ⟨#[117,112]⟩,.slice .none [[.slice .none [[vs ⟨#[99,47,118,49]⟩]],.slice .none [[vi 5,vi 10],[vi 20,vi 100]]],[.slice .none [[vs ⟨#[97,47,118,49]⟩],[vs ⟨#[98,47,118,49]⟩]],.slice .none [[vi 5,vi 10],[vi 20,vi 100]]]]]),(52,.tok 4 2),(62,.tok 4 3),(65,.tok 2 2)] Z10 Z5 (yN (yN (Xi .pure (Xi _ (Yi rl (cU [(2,.v (.func (.func 46) #[] #[])),(3,.ref 3 0),(4,.slice (.id 52 4) [[vs ⟨#[97,47,118,49]⟩,vi 1,vi 0,vi 0],[vs ⟨#[98,47,118,49]⟩,vi 1,vi 0,vi 0]]),(5,.slice (.id 62 4) [[vs ⟨#[97,47,118,49]⟩,vi 1,vi 1,vi 0],[vs ⟨#[98,47,118,49]⟩,vi 1,vi 1,vi 0],[vs ⟨#[99,47,118,49]⟩,vi 1,vi 0,vi 0]]),(6,.slice (.id 65 2) [[vi 5,vi 10],[vi 20,vi 100]]),(7,.ref 7 0),(8,vi 0),(9,vi 0),(10,vi 10),(11,vi 0),(12,sl Am T8),(13,vi 0)] [(3,.ro [.slice .none [[vs ⟨#[97,47,118,49]⟩,vi 1,vi 0,vi 0,.slice .none [[vs ⟨#[98,47,118,49]⟩,sl AC (L7 0)]],vs ⟨#[]⟩,vs ⟨#[]⟩,vs ⟨#[]⟩,vb false],[vs ⟨#[97,47,118,49]⟩,vi 1,vi 1,vi 0,.slice .none [[vs ⟨#[98,47,118,49]⟩,sl AC (L7 1)],[vs ⟨#[99,47,118,49]⟩,.slice .none [[vi 0,vi 1000000]]]],vs ⟨#[]⟩,vs ⟨#[]⟩,vs ⟨#[]⟩,vb false],[vs ⟨#[98,47,118,49]⟩,vi 1,vi 0,vi 0,nzA,vs ⟨#[]⟩,vs ⟨#[]⟩,vs ⟨#[]⟩,vb false],[vs ⟨#[98,47,118,49]⟩,vi 1,vi 1,vi 0,nzA,vs ⟨#[]⟩,vs ⟨#[]⟩,vs ⟨#[]⟩,vb false],[vs ⟨#[99,47,118,49]⟩,vi 1,vi 0,vi 0,nzA,vs ⟨#[]⟩,vs ⟨#[]⟩,vs ⟨#[]⟩,vb false]],nzA]),(7,.ro [vs ⟨#[117,112]⟩,.slice .none [[.slice .none [[vs ⟨#[99,47,118,49]⟩]],.slice .none [[vi 5,vi 10],[vi 20,vi 100]]],[.slice .none [[vs ⟨#[97,47,118,49]⟩],[vs ⟨#[98,47,118,49]⟩]],.slice .none [[vi 5,vi 10],[vi 20,vi 100]]]]]),(52,.tok 4 2),(62,.tok 4 3),(65,.tok 2 2)] Z12 Z5 (yN (yN ?_))))))))))))))))))))))))))))))))))))))))))))))))))))))));refine Xi .pure (Xi _ (Yi g21 (cU [(2,.v (.func (.func 46) #[] #[])),(3,.ref 3 0),(4,.slice (.id 52 4) [[vs ⟨#[97,47,118,49]⟩,vi 1,vi 0,vi 0],[vs ⟨#[98,47,118,49]⟩,vi 1,vi 0,vi 0]]),(5,.slice (.id 62 4) [[vs ⟨#[97,47,118,49]⟩,vi 1,vi 1,vi 0],[vs ⟨#[98,47,118,49]⟩,vi 1,vi 1,vi 0],[vs ⟨#[99,47,118,49]⟩,vi 1,vi 0,vi 0]]),(6,.slice (.id 65 2) [[vi 5,vi 10],[vi 20,vi 100]]),(7,.ref 7 0),(8,vi 0),(9,vi 0),(10,vi 10),(11,vi 0),(12,sl Am T8),(13,vi 0),(14,sl Am t45),(15,vi 0)] [(3,.ro [.slice .none [[vs ⟨#[97,47,118,49]⟩,vi 1,vi 0,vi 0,.slice .none [[vs ⟨#[98,47,118,49]⟩,sl AC (L7 0)]],vs ⟨#[]⟩,vs ⟨#[]⟩,vs ⟨#[]⟩,vb false],[vs ⟨#[97,47,118,49]⟩,vi 1,vi 1,vi 0,.slice .none [[vs ⟨#[98,47,118,49]⟩,sl AC (L7 1)],[vs ⟨#[99,47,118,49]⟩,.slice .none [[vi 0,vi 1000000]]]],vs ⟨#[]⟩,vs ⟨#[]⟩,vs ⟨#[]⟩,vb false],[vs ⟨#[98,47,118,49]⟩,vi 1,vi 0,vi 0,nzA,vs ⟨#[]⟩,vs ⟨#[]⟩,vs ⟨#[]⟩,vb false],[vs ⟨#[98,47,118,49]⟩,vi 1,vi 1,vi 0,nzA,vs ⟨#[]⟩,vs ⟨#[]⟩,vs ⟨#[]⟩,vb false],[vs ⟨#[99,47,118,49]⟩,vi 1,vi 0,vi 0,nzA,vs ⟨#[]⟩,vs ⟨#[]⟩,vs ⟨#[]⟩,vb false]],nzA]),(7,.ro [vs ⟨#[117,112]⟩,.slice .none [[.slice .none [[vs ⟨#[99,47,118,49]⟩]],.slice .none [[vi 5,vi 10],[vi 20,vi 100]]],[.slice .none [[vs ⟨#[97,47,118,49]⟩],[vs ⟨#[98,47,118,49]⟩]],.slice .none [[vi 5,vi 10],[vi 20,vi 100]]]]]),(52,.tok 4 2),(62,.tok 4 3),(65,.tok 2 2)] ⟨Zr,Zr,Zr,Zr,Zr,Zr,Zr,Zr,Zr,Zr,Zr,Zr,Zr,Zr,Tv⟩ Z5 (yN (Xi _ (Yi (qQ 1 Cl Cl) (Xi _ (Yi (qQ 1 Cl Cl) (Xi _ (Yi h31 (Yi Wk (cU [(3,.ref 3 0),(4,.slice (.id 52 4) [[vs ⟨#[97,47,118,49]⟩,vi 1,vi 0,vi 0],[vs ⟨#[98,47,118,49]⟩,vi 1,vi 0,vi 0]]),(5,.slice (.id 62 4) [[vs ⟨#[97,47,118,49]⟩,vi 1,vi 1,vi 0],[vs ⟨#[98,47,118,49]⟩,vi 1,vi 1,vi 0],[vs ⟨#[99,47,118,49]⟩,vi 1,vi 0,vi 0]]),(6,.slice (.id 65 2) [[vi 5,vi 10],[vi 20,vi 100]]),(7,.ref 7 0),(8,vi 0),(9,vi 0),(10,vi 10),(11,vi 0),(12,sl Am T8),(13,vi 0),(14,sl Am t45),(15,vi 0),(16,sl B2 zp),(17,vi 0)] [(3,.ro [.slice .none [[vs ⟨#[97,47,118,49]⟩,vi 1,vi 0,vi 0,.slice .none [[vs ⟨#[98,47,118,49]⟩,sl AC (L7 0)]],vs ⟨#[]⟩,vs ⟨#[]⟩,vs ⟨#[]⟩,vb false],[vs ⟨#[97,47,118,49]⟩,vi 1,vi 1,vi 0,.slice .none [[vs ⟨#[98,47,118,49]⟩,sl AC (L7 1)],[vs ⟨#[99,47,118,49]⟩,.slice .none [[vi 0,vi 1000000]]]],vs ⟨#[]⟩,vs ⟨#[]⟩,vs ⟨#[]⟩,vb false],[vs ⟨#[98,47,118,49]⟩,vi 1,vi 0,vi 0,nzA,vs ⟨#[]⟩,vs ⟨#[]⟩,vs ⟨#[]⟩,vb false],[vs ⟨#[98,47,118,49]⟩,vi 1,vi 1,vi 0,nzA,vs ⟨#[]⟩,vs ⟨#[]⟩,vs ⟨#[]⟩,vb false],[vs ⟨#[99,47,118,49]⟩,vi 1,vi 0,vi 0,nzA,vs ⟨#[]⟩,vs ⟨#[]⟩,vs ⟨#[]⟩,vb false]],nzA]),(7,.ro [vs ⟨#[117,112]⟩,.slice .none [[.slice .none [[vs ⟨#[99,47,118,49]⟩]],.slice .none [[vi 5,vi 10],[vi 20,vi 100]]],[.slice .none [[vs ⟨#[97,47,118,49]⟩],[vs ⟨#[98,47,118,49]⟩]],.slice .none [[vi 5,vi 10],[vi 20,vi 100]]]]]),(52,.tok 4 2),(62,.tok 4 3),(65,.tok 2 2)] ⟨Zr,Zr,Zr,Zr,Zr,Zr,Zr,Zr,Zr,Zr,Zr,Zr,Zr,Zr,Zr,Tv⟩ Z5 (Xi .pure (Xi _ (Yi RV (Yi (fun _=>?_) (fun h=>absurd Cl h)))))))))))))))));refine yN (yN (Xi .pure (Xi _ (Yi h23 (Yi (fun _=>?_) (fun h=>absurd Cl h))))));refine Yi (fun _=>?_) (fun h=>absurd Cl h);refine Yi (fun _=>?_) (fun h=>absurd Cl h);refine Yi (fun _=>?_) (fun h=>absurd Cl h);refine Yi (fun _=>?_) (fun h=>absurd Cl h);refine Yi (fun _=>?_) (fun h=>absurd Cl h);refine Xi .pure (Xi _ (Yi h25 (Yi (fun _=>?_) (fun h=>absurd Cl h))));refine Xi .pure (Xi _ (Yi g25 (Yi (fun _=>?_) (fun h=>absurd Cl h))));refine Xi .pure (Xi _ (Yi h33 ?_));exact .refl _
structure Aa5(l m:List Sl)(r:Ro)(user:ByteArray):Prop where
 l:l.length<=1048576
 m:m.length<=1048576
 wv:r.waves.length<=1048576
 st:∀v∈r.waves,v.stages.length<=1048576
 pt:∀v∈r.waves,v.paths.length<=1048576
 name:r.name.size<=1048576
 user:user.size<=1048576
structure Aa4(a:Ad)(cl:List (List Rq)):Prop where
 ad:MD a
 len:B9 cl
 q:∀q∈cl,B9 q/\∀z∈q,JT z
end Go.Eng
namespace Go.Proofs.YteaiieomnhbmgaaGreatDoor.joins
open Go Go.Eng Go.Proofs Go.ChangeShapes Go.WideShapes Go.ChangeAt Go.RowKit
section
variable {H:Type}{enc:TypeId×Value->H}{w:World}
theorem all_le{d:DataW H}{l:List (DataW H)}(h:d∈l):Rows.uptoBulk d<=Rows.uptoBulkAll l:=by
 induction l with
 |nil=>cases h
 |cons x r ih =>
  simp only[Rows.uptoBulkAll]
  cases Az.1 h with
  |inl e=>subst e;omega
  |inr e=>have:=ih e;omega
theorem one_le(d:DataW H):1<=Rows.uptoBulk d:=by
 cases d with
 |lit l=>cases l<;>simp[Rows.uptoBulk]
 |nil=>simp[Rows.uptoBulk]
 |ptr d=>simp[Rows.uptoBulk]
 |slice ri spare=>simp[Rows.uptoBulk]
 |agg parts=>simp[Rows.uptoBulk]
 |iface t d=>simp[Rows.uptoBulk]
 |map entries=>simp[Rows.uptoBulk]
 |held h=>simp[Rows.uptoBulk]
theorem len_le(l:List (DataW H)):l.length<=Rows.uptoBulkAll l:=by
 induction l with
 |nil=>simp[Rows.uptoBulkAll]
 |cons x r ih=>have:=one_le x;simp only[Rows.uptoBulkAll,Ak];omega
theorem bulk_ok:XC (H:=H) Rows.uptoBulk where
 slice es sp:=by
  have h1:=len_le es
  refine⟨by simp only[Rows.uptoBulk];omega,fun d hd=>?_⟩
  have:=all_le hd
  simp only[Rows.uptoBulk];omega
 agg ps d hd:=by
  have:=all_le hd
  simp only[Rows.uptoBulk];omega
 str b:=by simp only[Rows.uptoBulk];omega
theorem app_all(l r:List (DataW H)):Rows.uptoBulkAll (l++r)=Rows.uptoBulkAll l+Rows.uptoBulkAll r:=by
 induction l with
 |nil=>simp[Rows.uptoBulkAll]
 |cons x l ih=>simp only[Hi,Rows.uptoBulkAll,ih];omega
abbrev NB:Nat:=1048576
abbrev Op(enc:TypeId×Value->H)(w:World)(t:TypeId){α:Type}(e:α->List AV)(ok:α->Prop):Prop:=Lh enc Tryz.prog w Rows.uptoBulk NB t e ok
theorem oI:Op enc w 3 (fun n:Int=>[vi n]) (fun _=>True):=(Rh Tryz.underlying3).to id (fun _ _=>⟨rfl,trivial⟩)
theorem oB:Op enc w 4 (fun b:Bool=>[vb b]) (fun _=>True):=c8 Tryz.underlying4
theorem oS:Op enc w 9 (fun s:ByteArray=>[vs s]) (fun s=>s.size<=NB):=YA bulk_ok Tryz.underlying9
theorem oVer:Op enc w 46 DF (fun _=>True) :=
 (Ei bulk_ok Tryz.underlying46 (L:=3) Wk (BH rfl (n:=1) Wk oI (BH rfl (n:=1) Wk oI (BH rfl (n:=1) Wk oI Fk)))).to
  (fun p=>(⟨p.1,p.2.1,p.2.2.1⟩:Ver)) (fun _ _=>⟨rfl,trivial⟩)
theorem oSpan:Op enc w 92 AC (fun _=>True) :=
 (Ei bulk_ok Tryz.underlying92 (L:=2) Wk (BH rfl (n:=1) Wk oI (BH rfl (n:=1) Wk oI Fk))).to
  (fun p=>(p.1,p.2.1)) (fun _ _=>⟨rfl,trivial⟩)
theorem oSet:Op enc w 51 (fun l:Bu=>[sl AC l]) (fun l=>l.length<=NB) :=
 (FA bulk_ok Tryz.underlying51 (m:=1) Wk (fun _=>rfl) oSpan).to id (fun _ h=>⟨rfl,h.1⟩)
abbrev OkRq(q:Rq):Prop:=q.path.size<=NB/\q.set.length<=NB
theorem oRq:Op enc w 95 Ba OkRq :=
 (Ei bulk_ok Tryz.underlying95 (L:=2) Wk (BH rfl (n:=1) Wk oS (BH rfl (n:=1) Wk oSet Fk))).to
  (fun p=>(⟨p.1,p.2.1⟩:Rq)) (fun _ h=>⟨rfl,h.1,h.2.1⟩)
abbrev OkRqs(l:List Rq):Prop:=l.length<=NB/\∀q∈l,OkRq q
theorem oRqs:Op enc w 60 (fun l:List Rq=>[sl Ba l]) OkRqs :=
 FA bulk_ok Tryz.underlying60 (m:=1) Wk (fun _=>rfl) oRq
abbrev OkRl(r:Rl):Prop:=r.path.size<=NB/\OkRqs r.reqs
theorem oRl:Op enc w 78 AF OkRl :=
 (Ei bulk_ok Tryz.underlying78 (L:=9) Wk (BH rfl (n:=1) Wk oS (BH rfl (n:=3) Wk oVer (BH rfl (n:=1) Wk oRqs
  (BH rfl (n:=1) Wk oS (BH rfl (n:=1) Wk oS (BH rfl (n:=1) Wk oS (BH rfl (n:=1) Wk oB Fk)))))))).to
  (fun p=>(⟨p.1,p.2.1,p.2.2.1,p.2.2.2.1,p.2.2.2.2.1,p.2.2.2.2.2.1,p.2.2.2.2.2.2.1⟩:Rl)) (fun _ h=>⟨rfl,h.1,h.2.2.1⟩)
theorem oRls:Op enc w 30 (fun l:List Rl=>[sl AF l]) (fun l=>l.length<=NB/\∀r∈l,OkRl r) :=
 FA bulk_ok Tryz.underlying30 (m:=8) Wk (fun _=>rfl) oRl
theorem oIfc:Op enc w 182 (fun s:ByteArray=>[vs s,.junk,.junk,.junk,.junk]) (fun _=>True) :=
 (Ei bulk_ok Tryz.underlying182 (L:=5) Wk (BH rfl (n:=1) Wk oS (BH rfl (n:=1) Wk (NF Tryz.underlying177) (BH rfl (n:=1) Wk (NF Tryz.underlying178)
  (BH rfl (n:=1) Wk (NF Tryz.underlying179) (BH rfl (n:=1) Wk (NF Tryz.underlying180) Fk)))))).to (fun p=>p.1) (fun _ _=>⟨rfl,trivial⟩)
theorem oIfs:Op enc w 31 (fun l:List ByteArray=>[sl (fun s=>[vs s,.junk,.junk,.junk,.junk]) l]) (fun l=>l.length<=NB) :=
 (FA bulk_ok Tryz.underlying31 (m:=4) Wk (fun _=>rfl) oIfc).to id (fun _ h=>⟨rfl,h.1⟩)
theorem oIx:Op enc w 33 (fun p:List Rl×List (List AV)=>[sl AF p.1,.slice .none p.2]) (fun p=>(p.1.length<=NB/\∀r∈p.1,OkRl r)/\p.2.length<=NB/\∀c∈p.2,c.length=5) :=
 (Ei bulk_ok Tryz.underlying33 (L:=2) Wk (BH rfl (n:=1) Wk oRls (BH rfl (n:=1) Wk oIfs Fk))).to
  (fun p=>(p.1,p.2.1.map (fun s=>[vs s,.junk,.junk,.junk,.junk]))) (fun _ h=>⟨rfl,h.1,by rw[A8];exact h.2.1,fun c hc=>by obtain⟨s,_,rfl⟩:=Ag.1 hc;rfl⟩)
theorem oSl:Op enc w 48 Am (fun y=>y.path.size<=NB) :=
 (Ei bulk_ok Tryz.underlying48 (L:=4) Wk (BH rfl (n:=1) Wk oS (BH rfl (n:=3) Wk oVer Fk))).to
  (fun p=>(⟨p.1,p.2.1⟩:Sl)) (fun _ h=>⟨rfl,h.1⟩)
theorem oSls:Op enc w 34 (fun l:List Sl=>[sl Am l]) (fun l=>l.length<=NB/\∀y∈l,y.path.size<=NB) :=
 FA bulk_ok Tryz.underlying34 (m:=3) Wk (fun _=>rfl) oSl
theorem oInt:Op enc w 3 (fun n:Int=>[vi n]) A7:=(Rh Tryz.underlying3).to id (fun x h=>⟨rfl,by
  have h1:(-9223372036854775808:Int)<=x:=h.1
  have h2:x<=(9223372036854775807:Int):=h.2
  show -9223372036854775808<=x/\x<9223372036854775808
  omega⟩)
theorem oU8:Op enc w 5 (fun n:Int=>[.v (.int .u8 n)]) (fun n=>0<=n/\n<=255):=(Rh Tryz.underlying5).to id (fun _ h=>⟨rfl,h⟩)
theorem oStg:Op enc w 74 Gv (fun _=>True) :=
 (Ei bulk_ok Tryz.underlying74 (L:=2) Wk (BH rfl (n:=1) Wk oI (BH rfl (n:=1) Wk oI Fk))).to
  (fun p=>(⟨p.1,p.2.1⟩:Y8)) (fun _ _=>⟨rfl,trivial⟩)
theorem oStgs:Op enc w 22 (fun l:List Y8=>[sl Gv l]) (fun l=>l.length<=NB) :=
 (FA bulk_ok Tryz.underlying22 (m:=1) Wk (fun _=>rfl) oStg).to id (fun _ h=>⟨rfl,h.1⟩)
theorem oStr:Op enc w 9 Go.Eng.AD (fun s:ByteArray=>s.size<=NB):=oS
theorem oStrs:Op enc w 52 (fun l:List ByteArray=>[sl Go.Eng.AD l]) (fun l=>l.length<=NB/\∀s∈l,s.size<=NB) :=
 FA bulk_ok Tryz.underlying52 (m:=0) Wk (fun _=>rfl) oStr
abbrev OkWv(v:Wv):Prop:=v.paths.length<=NB/\v.stages.length<=NB
theorem oWv:Op enc w 72 GJ OkWv :=
 (Ei bulk_ok Tryz.underlying72 (L:=2) Wk (BH rfl (n:=1) Wk oStrs (BH rfl (n:=1) Wk oStgs Fk))).to
  (fun p=>(⟨p.1,p.2.1⟩:Wv)) (fun _ h=>⟨rfl,h.1.1,h.2.1⟩)
theorem oWvs:Op enc w 35 (fun l:List Wv=>[sl GJ l]) (fun l=>l.length<=NB/\∀v∈l,OkWv v) :=
 FA bulk_ok Tryz.underlying35 (m:=1) Wk (fun _=>rfl) oWv
theorem oRo:Op enc w 37 Ia (fun r=>r.name.size<=NB/\r.waves.length<=NB/\∀v∈r.waves,OkWv v) :=
 (Ei bulk_ok Tryz.underlying37 (L:=2) Wk (BH rfl (n:=1) Wk oS (BH rfl (n:=1) Wk oWvs Fk))).to
  (fun p=>(⟨p.1,p.2.1⟩:Ro)) (fun _ h=>⟨rfl,h.1,h.2.1⟩)
abbrev OkAd(a:Ad):Prop:=a.id.size<=NB/\a.path.size<=NB/\a.set.length<=NB/\(a.syms.length<=NB/\∀s∈a.syms,s.size<=NB)/\a.note.size<=NB
theorem oAd:Op enc w 54 CT OkAd :=
 (Ei bulk_ok Tryz.underlying54 (L:=5) Wk (BH rfl (n:=1) Wk oS (BH rfl (n:=1) Wk oS (BH rfl (n:=1) Wk oSet (BH rfl (n:=1) Wk oStrs (BH rfl (n:=1) Wk oS Fk)))))).to
  (fun p=>(⟨p.1,p.2.1,p.2.2.1,p.2.2.2.1,p.2.2.2.2.1⟩:Ad)) (fun _ h=>⟨rfl,h.1,h.2.1,h.2.2.1,h.2.2.2.1,h.2.2.2.2.1⟩)
theorem oCl:Op enc w 55 (fun l:List (List Rq)=>[sl DC l]) (fun l=>l.length<=NB/\∀q∈l,OkRqs q) :=
 FA bulk_ok Tryz.underlying55 (m:=0) Wk (fun _=>rfl) oRqs
theorem few_of{n:Nat}(h:n<=NB):n<=1073741824:=AJ h Cl
theorem lim_of{x:List Rl}{roots:List Rq}(h:x.length<=NB/\∀r∈x,OkRl r)(k:OkRqs roots):Lim x roots where
 ix:=few_of h.1
 rs:=few_of k.1
 rel r hr:=⟨few_of (h.2 r hr).2.1,few_of (h.2 r hr).1,fun q hq=>⟨few_of ((h.2 r hr).2.2 q hq).2,few_of ((h.2 r hr).2.2 q hq).1⟩⟩
 rq q hq:=⟨few_of (k.2 q hq).2,few_of (k.2 q hq).1⟩
theorem lim0_of{x:List Rl}(h:x.length<=NB/\∀r∈x,OkRl r):Lim x []:=lim_of h ⟨AE _,fun q hq=>by cases hq⟩
theorem limr_of{l m:List Sl}{r:Ro}{user:ByteArray}(h1:l.length<=NB/\∀y∈l,y.path.size<=NB)(h2:m.length<=NB/\∀y∈m,y.path.size<=NB)(h3:r.name.size<=NB/\r.waves.length<=NB/\∀v∈r.waves,OkWv v)(h4:user.size<=NB):Aa5 l m r user :=
 ⟨h1.1,h2.1,h3.2.1,fun v hv=>(h3.2.2 v hv).2,fun v hv=>(h3.2.2 v hv).1,h3.1,h4⟩
theorem lima_of{a:Ad}{cl:List (List Rq)}(h:OkAd a)(k:cl.length<=NB/\∀q∈cl,OkRqs q):Aa4 a cl :=
 ⟨⟨few_of h.1,few_of h.2.1,few_of h.2.2.1,few_of h.2.2.2.1.1,fun s hs=>few_of (h.2.2.2.1.2 s hs),few_of h.2.2.2.2⟩,few_of k.1,fun q hq=>⟨few_of (k.2 q hq).1,fun z hz=>⟨few_of ((k.2 q hq).2 z hz).2,few_of ((k.2 q hq).2 z hz).1⟩⟩⟩
theorem clone_of{ifs:List (List AV)}(h:ifs.length<=NB/\∀c∈ifs,c.length=5):PC 103 [.slice .none ifs] (.slice .none ifs):=o46 ifs (few_of h.1) h.2
end
theorem ok_agg{P:Program}{W:World}{base:Nat}{t:TypeId}{v:Value}{fs:Array Field}(hu:P.underlying t=some (.struct fs))(h:Value.okWide P W .any base t v):∃cs,v=.agg cs:=by
 unfold Value.okWide at h
 rw[hu]at h
 obtain⟨cs,e,_⟩:=h
 exact⟨cs,e⟩
theorem ok_slice{P:Program}{W:World}{base:Nat}{t e:TypeId}{v:Value}(hu:P.underlying t=some (.slice e))(h:Value.okWide P W .any base t v):v.oneCell'=true:=by
 unfold Value.okWide at h
 rw[hu]at h
 unfold Cell.okWide Cell.ok at h
 rw[hu]at h
 cases v<;>first | rfl | simp at h
theorem ok_int{P:Program}{W:World}{base:Nat}{t:TypeId}{k:IntKind}{v:Value}(hu:P.underlying t=some (.int k))(h:Value.okWide P W .any base t v):v.oneCell'=true:=by
 unfold Value.okWide at h
 rw[hu]at h
 unfold Cell.okWide Cell.ok at h
 rw[hu]at h
 cases v<;>first | rfl | simp at h
theorem ok_string{P:Program}{W:World}{base:Nat}{t:TypeId}{v:Value}(hu:P.underlying t=some .string)(h:Value.okWide P W .any base t v):v.oneCell'=true:=by
 unfold Value.okWide at h
 rw[hu]at h
 unfold Cell.okWide Cell.ok at h
 rw[hu]at h
 cases v<;>first | rfl | simp at h
theorem int_of_shape{P:Program}{w:World}{g:Nat}{t:TypeId}{k:IntKind}{zero:Array Value}(h:w.ShapedOpen P)(hg:g<P.globals.size)
  (h0:((begin P (fun _ _=>0) default).world.heap[g]?).bind Obj.row?=some (zero,t)) (hz:zero.size=1)
  (hb:P.buildable t=true) (hc:P.cellTypes P.depth t=some [t]) (hu:P.underlying t=some (.int k)):∃p,w.cell? ⟨g,0,none⟩=some (.int k p):=by
 obtain⟨cs,hh,hs,hr⟩:=h.1 g zero t hg h0
 obtain⟨ts,hts,_,Gw⟩:=hr hb
 rw[hc]at hts
 cases hts
 have h1:0<cs.size:=by omega
 obtain⟨u,lM,GM⟩:=Gw 0 cs[0] (by simp[h1])
 have:u=t:=by simpa using lM.symm
 subst this
 have DN:w.cell? ⟨g,0,none⟩=some cs[0]:=by simp[World.cell?,hh,h1]
 rw[DN]
 unfold Cell.ok at GM
 rw[hu]at GM
 cases hv:cs[0]<;>rw[hv]at GM<;>simp at GM
 obtain⟨rfl,_⟩:=GM
 exact⟨_,rfl⟩
theorem maxLen_cell{W:World}(h:W.ShapedOpen Tryz.prog):∃m,W.cell? ⟨0,0,none⟩=some (.int .i64 m) :=
 int_of_shape (t:=3) (zero:=#[.int .i64 0]) h (AU Wk) Wk rfl Wk Wk Tryz.underlying3
def Start(W:World):Prop:=(∃m,W.cell? ⟨0,0,none⟩=some (.int .i64 m))/\∀x∈lc,x.1<W.heap.size/\W.cell? ⟨x.1,x.2.1,none⟩=x.2.2
theorem start_of {W : World} {r : List (String × DataW Unit)} {a b : String × DataW Unit} (h : W.ShapedOpen Tryz.prog) (hl : laidMet Tryz.prog (a :: b :: ("internal/strconv.uint64pow10", Rows.laid_internal_strconv_uint64pow10) :: r) W) : Start W := by
 refine⟨maxLen_cell h,?_⟩
 have ht : Go.Lib.TabIs Tryz.prog W "internal/strconv.uint64pow10" .u64 ((List.range 20).map fun i => ((10 ^ i : Nat) : Int)) :=
  Go.Lib.tabIs_of_head (g:=1) (t:=355) (e:=98) (n:=20) Wk Wk Wk Wk Wk Wk hl.tail.tail
 have hc := fun i => World.var?_cell (P := Tryz.prog) (n := "internal/strconv.uint64pow10") (g := 1) Wk ht i
 have h0:1<W.heap.size:=XZ (v:=.int .u64 1) ((hc 0).trans rfl)
 intro x hx
 rcases Az.1 hx with rfl | hx
 .exact⟨h0,(hc 20).trans rfl⟩
 .obtain⟨i,hi,rfl⟩:=Ag.1 hx
  have hi:=Gi.1 hi
  refine⟨h0,(hc i).trans ?_⟩
  simp[hi]
def Still(W W' : World):Prop:=W'.os=W.os/\W'.output=W.output/\W.heap.size<=W'.heap.size/\∀b,b<W.heap.size->W'.heap[b]?=W.heap[b]?
theorem run_true{f:Nat}{args:List AV}{vals:Array Value}{W:World}(hc:PC f args (vb true))(hM:Start W)(hs:vals.size=args.length)
  (hr:∀(i:Nat) (av:AV) (x:Value),args[i]?=some av->vals[i]?=some x->BM (oc W) W Fw av x):Calls Tryz.prog f vals W fun e W'=>e=.returned (.bool true)/\Still W W':=by
 refine(hc.2 (oc W) W vals hs (fun i av x q1 q2=>(hr i av x q1 q2).up _) (xQ hM.1 hM.2)).mono fun e W' ⟨v,r,h',g',e1,e2,e3,e4,_⟩=>?_
 subst e1
 obtain⟨rfl,rfl⟩:=e2
 obtain rfl:=e3.v_eq
 exact⟨rfl,e4.os,e4.output,e4.size,fun b hb=>e4.frame b hb (fun r h=>h.elim)⟩
theorem Still.kept{W W' : World}(h:Still W W')(may:MemPlace->Prop):W.keptBut W' may:=by
 refine⟨h.1,h.2.1,fun i hi=>?_⟩
 rw[h.2.2.2 i hi]
 cases hh:W.heap[i]? with
 |none=>rfl
 |some o=>cases o<;>simp
theorem Still.same{W W' : World}(h:Still W W'){p:MemPlace}(hp:p.block<W.heap.size):W.sameAt W' p:=by
 cases p with
 |cell b off =>
  show W'.cell? ⟨b,off,none⟩=W.cell? ⟨b,off,none⟩
  unfold World.cell?
  rw[h.2.2.2 b hp]
 |map b=>exact h.2.2.2 b hp
theorem kids:Kids Tryz.prog (· < Tryz.prog.types.size):=kids_rows Wk Wk
theorem full:∀t e,t<Tryz.prog.types.size->Tryz.prog.underlying t=some (.slice e)->0<Tryz.prog.cellsOf e:=slices_full_of Tryz.prog Wk
theorem carry{H:Type}{enc:TypeId×Value->H}{W W' : World}(h:Still W W'):∀{ts:List TypeId} {vs:List Value} {ds:List (DataW H)} {ps:List MemPlace},DataW.TrodAll enc Tryz.prog W 0 (fun _=>true) true ts vs ds ps->DataW.TrodAll enc Tryz.prog W' 0 (fun _=>true) true ts vs ds ps
 | [],[],[],_,e=>e
 |t::ts,v::vs,d::ds,ps,k=>by
  have Dz:=k.lt
  obtain⟨p,q,⟨n,h1⟩,h2,rfl⟩:=k
  exact⟨p,q,⟨n,DataW.trod_carry n _ _ _ h1 (fun x hx=>h.same (Dz x (BC _ hx)))⟩,carry h h2,rfl⟩
 | [],[],_::_,_,k=>k.elim
 | [],_::_,_,_,k=>k.elim
 |_::_,[],_,_,k=>k.elim
 |_::_,_::_,[],_,k=>k.elim
theorem post_true{H:Type}{enc:TypeId×Value->H}{W W' : World}{f:Func}{s:ChangeSpec}{args:Array Value}{ds:List (DataW H)}{before:List MemPlace}(Ku:Still W W')(hv:s.vars=[])
  (hW:DataW.Whole enc Tryz.prog f.params.toList s.vars false W args.toList ds [] before) (hr:f.resultTypes=#[4]) (hT:∀t∈f.params.toList,t<Tryz.prog.types.size) (hs:s.fn H ds={ results:=[.lit (.bool true)],args:=ds }) :
  s.post enc Tryz.prog f false true false false W args (.bool true) W':=by
 have hW0:=hW
 obtain⟨p,q,hA,hV,rfl,hz,_⟩:=hW
 rw[hv]at hV
 have hq:q=[]:=hV
 subst hq
 have Dz:=hW0.lt
 have pD:s.fn H (ds++[])={ results:=[.lit (.bool true)],args:=ds }:=by rw[BP];exact hs
 refine⟨ds,[],p++[],[],p,[],hW0,?_,?_,?_,Ku.kept _,fun h=>by cases h⟩
 .rw[pD,hr]
  exact⟨[],[],⟨1,by rw[show(Value.bool true).cells.toList=[.bool true]from rfl,DataW.trod_step];unfold DataW.trodStep;rw[Tryz.underlying4]⟩,rfl,rfl⟩
 .rw[pD]
  exact(carry Ku hA).respare kids full hT (fun x hx=>by simpa using Dz x (BC _ hx))
 .rw[pD,hv];rfl
end Go.Proofs.YteaiieomnhbmgaaGreatDoor.joins
namespace Go.Proofs.YteaiieomnhbmgaaGreatDoor.joins
open Go Go.Eng Go.Proofs Go.ChangeShapes Go.WideShapes Go.ChangeAt Go.RowKit
theorem own:ownKnob Tryz.prog.godebug=none:=by kernel_rfl
def flatD:Nat->DataW Unit->List Value
 |0,_=>[]
 |n+1,.agg l=>l.flatMap (flatD n)
 |_+1,.lit (.int k i)=>[.int k i]
 |_+1,_=>[]
def layIn(d:DataW Unit):Obj->Obj
 |.cells _ t frozen=>.cells (flatD 4 d).toArray t frozen
 |o=>o
noncomputable def laidWorld(os:Os):World :=
 { World.holding Tryz.prog os ⟨#[],#[],[]⟩with heap:=((((((World.holding Tryz.prog os ⟨#[],#[],[]⟩).heap.modify 2 (layIn Rows.laid_math_bits_deBruijn32tab)).modify 3 (layIn Rows.laid_math_bits_deBruijn64tab)).modify 4 (layIn Rows.laid_unicode_utf8_first)).modify 5 (layIn Rows.laid_unicode_utf8_acceptRanges)).modify 1 (layIn Rows.laid_internal_strconv_uint64pow10)) }
abbrev nilV:Value:=.slice none 0 0
theorem arr1{args:Array Value}{a:Value}(h:args.toList=[a]):args=#[a]:=by
 cases args;simp_all
theorem arr2{args:Array Value}{a b:Value}(h:args.toList=[a,b]):args=#[a,b]:=by
 cases args;simp_all
theorem arr3{args:Array Value}{a b c:Value}(h:args.toList=[a,b,c]):args=#[a,b,c]:=by
 cases args;simp_all
theorem arr4{args:Array Value}{a b c d:Value}(h:args.toList=[a,b,c,d]):args=#[a,b,c,d]:=by
 cases args;simp_all
theorem arr5{args:Array Value}{a b c d e:Value}(h:args.toList=[a,b,c,d,e]):args=#[a,b,c,d,e]:=by
 cases args;simp_all
theorem arr6{args:Array Value}{a b c d e f:Value}(h:args.toList=[a,b,c,d,e,f]):args=#[a,b,c,d,e,f]:=by
 cases args;simp_all
theorem arr7{args:Array Value}{a b c d e f g:Value}(h:args.toList=[a,b,c,d,e,f,g]):args=#[a,b,c,d,e,f,g]:=by
 cases args;simp_all
theorem looksOff:false=Tryz.pinned.checked.prog.looks []:=by kernel_rfl
theorem noStand:∀t∈([3,5,9,22,33,34,37,54,55]:List Nat),Tryz.pinned.checked.prog.wantsStandIn t=false:=by
 intro t ht
 simp only[Az,Mu,or_false]at ht
 rcases ht with rfl | rfl | rfl | rfl | rfl | rfl | rfl | rfl | rfl<;>exact(show Tryz.prog.wantsStandIn _=false by kernel_rfl)
end Go.Proofs.YteaiieomnhbmgaaGreatDoor.joins
namespace Go.Eng
open Go.Proofs
variable (name user:ByteArray)(k p:Int)
abbrev u6:List Rl:=[⟨Vx,⟨1,0,0⟩,[],mt,mt,mt,false⟩]
abbrev oz:List Sl:=[⟨Vx,⟨1,0,0⟩⟩]
abbrev jO:Ro:=⟨name,[⟨[Vx],[⟨0,k⟩]⟩]⟩
theorem Ach:I8 [] oz=[Vx]:=by unfold I8 rm;kernel_rfl
theorem yf(h:name.size<=100)(h0:0<=k)(h1:k<=100):NR u6 [] oz (jO name k)=0:=by
 have hs:Kx [Vx]=[Vx]:=by simp[Kx,Kr,QJ]
 have h:GY u6 [] oz (Vy (jO name k))=0:=by
  unfold GY;rw[Al (show QC u6 [] oz=0 by kernel_rfl),Al (show(Vy (jO name k)).all cZ=true by kernel_rfl),Al (show Kx (Vy (jO name k)).flatten=I8 [] oz by rw[Ach];exact hs),Al (show bu u6 [] oz (Vy (jO name k))=true by kernel_rfl)]
 unfold NR;rw[Al h,Ai (show ¬65536<name.size by omega)];have e:Dw [⟨0,k⟩]=0:=by
  unfold Dw;rw[Ai (show ¬1024<([⟨0,k⟩]:List Y8).length by rw[Bb];decide),Rx,Ai (by show ¬((0:Int)<=-1\/k<0\/100<k);omega),Rx]
 show IC [⟨[Vx],[⟨0,k⟩]⟩]=0;rw[IC,Al e,IC]
theorem ze:Vz (jO name k) user 0=if k<=Hp (name++⟨#[47,48]⟩) user then 0 else 1:=by
 have e:(name++(⟨#[47]⟩:ByteArray))++eJ ((0:Nat):Int)=name++⟨#[47,48]⟩:=by
  rw[ByteArray.append_assoc];exact Aa (name++·) (show(⟨#[47]⟩:ByteArray)++eJ ((0:Nat):Int)=⟨#[47,48]⟩ by kernel_rfl)
 have p:Kd [⟨0,k⟩] 0=k:=rfl;show MA (jO name k) user 0 0 [⟨[Vx],[⟨0,k⟩]⟩]=_;rw[MA,SN];show(if decide (Kd [⟨0,k⟩] 0<=Hp ((name++(⟨#[47]⟩:ByteArray))++eJ ((0:Nat):Int)) user)=true then 0 else MA (jO name k) user 0 (0+1) [])=_;rw[p,e,MA]
 by_cases c:k<=Hp (name++⟨#[47,48]⟩) user
 .rw[Al c,Al (Ax c)]
 .rw[Ai c,Ai (by rw[decide_eq_true_iff];exact c)]
abbrev x0C:List AV:=[.slice .none [[vs Vx,vi 1,vi 0,vi 0,nzA,vs mt,vs mt,vs mt,vb false]],nzA]
theorem nX:CZ (.agg x0C) (Mo u6 []):=CZ.agg ⟨CZ.slice ⟨⟨.refl _,.refl _,.refl _,.refl _,.nil,.refl _,.refl _,.refl _,.refl _,trivial⟩,trivial⟩,.nil,trivial⟩
theorem qW(hp:0<=p/\p<=255)(lJ:name.size<=100)(pD:user.size<=100)(hk:p % 101<=Hp (name++⟨#[47,48]⟩) user):PC 8 [vs name,vs user,.v (.int .u8 p)] (vb true):=by
 have hc:=SW (name++(⟨#[47,48]⟩:ByteArray)) user;have ly:0<=p % 101/\p % 101<=100:=by omega
 have tc:=(br u6 [] [] oz (jO name (p % 101)) user 0 (A1.2 ⟨⟨show 4<=1073741824 by decide,Bx _⟩,Bx _⟩) (show 0<=16 by decide) (show 1<=16 by decide) ⟨show 1<=1000 by decide,A1.2 ⟨show 1<=1073741824 by decide,Bx _⟩,A1.2 ⟨show 1<=1000 by decide,Bx _⟩⟩ (show name.size<=10000000 by omega) (show user.size<=100000000 by omega)).args (args':=[.agg x0C,nzA,sl Am oz,.agg (Ia (jO name (p % 101))),vs user,vi 0]) ⟨nX,.nil,.refl _,.refl _,.refl _,.refl _,trivial⟩;rw[jQ,Al (yf name _ lJ ly.1 ly.2),ze,Al hk]at tc;refine Ps (pC [8,9,11] [4,5,7,9,10,11]) Tryz.func8 rfl (Nz rfl) (Xi .pure (Xi _ (Yi YQ (Yi (fun h1=>?_) (fun h1=>?_)))))
 .have h1:(100:Int)<(name.size:Int):=h1;refine cU [] [] Tv Tv ?_
  exact .refl _
 have h1:¬((100:Int)<(name.size:Int)):=h1;refine Yi (fun h3=>?_) (fun h3=>?_)
 .have h3:(100:Int)<(user.size:Int):=h3;refine cU [] [] Tv Tv ?_
  exact .refl _
 have h3:¬((100:Int)<(user.size:Int)):=h3;refine cU [(0,vs name),(1,vs user),(2,.v (.int .u8 p))] [] Z3 Tv (Yi (show((name.size+(⟨#[47,48]⟩:ByteArray).size:Nat):Int)<=9223372036854775807 by have q:(⟨#[47,48]⟩:ByteArray).size=2:=rfl;omega) ?_);refine Xi .pure (Xi _ (Yi (nJ (name++(⟨#[47,48]⟩:ByteArray)) user (by have q:(⟨#[47,48]⟩:ByteArray).size=2:=rfl;rw[Cj];omega) ch) ?_));refine yN (cU [(0,vs name),(1,vs user),(2,.v (.int .u8 p)),(7,vi (Hp (name++(⟨#[47,48]⟩:ByteArray)) user)),(8,.ref 8 0)] [(8,.ro [vi 1,vi 0,vi 0])] Z5 Z1 (yN (yN (Yi (by show A7 p;unfold A7;omega) (Yi ⟨by omega,by omega⟩ ?_)))));refine cU [(0,vs name),(1,vs user),(7,vi (Hp (name++(⟨#[47,48]⟩:ByteArray)) user)),(8,.ref 8 0),(9,.ref 9 0),(10,vi (p % 101))] [(8,.ro [vi 1,vi 0,vi 0]),(9,.ro [.slice .none [[vs ⟨#[97,47,118,49]⟩,vi 1,vi 0,vi 0,nzA,vs ⟨#[]⟩,vs ⟨#[]⟩,vs ⟨#[]⟩,vb false]],nzA])] Z6 Z2 (yN (cU [(1,vs user),(7,vi (Hp (name++(⟨#[47,48]⟩:ByteArray)) user)),(8,.ref 8 0),(9,.ref 9 0),(10,vi (p % 101)),(11,.ref 11 0)] [(8,.ro [vi 1,vi 0,vi 0]),(9,.ro [.slice .none [[vs ⟨#[97,47,118,49]⟩,vi 1,vi 0,vi 0,nzA,vs ⟨#[]⟩,vs ⟨#[]⟩,vs ⟨#[]⟩,vb false]],nzA]),(11,.ro [vs name,.slice .none [[.slice .none [[vs ⟨#[97,47,118,49]⟩]],.slice .none [[vi 0,vi (p % 101)]]]]])] Z6 Z3 (yN (yN (yN (Xi .pure (Xi _ (Yi tc (cU [(7,vi (Hp (name++(⟨#[47,48]⟩:ByteArray)) user)),(10,vi (p % 101)),(12,vi 0),(13,vi 0)] [] Z4 Tv (Yi (fun h5=>?_) (fun h5=>?_)))))))))))
 .have h5:(0:Int)<=((Hp (name++(⟨#[47,48]⟩:ByteArray)) user):Int):=h5;refine Yi (fun h6=>?_) (fun h6=>?_)
  .have h6:((Hp (name++(⟨#[47,48]⟩:ByteArray)) user):Int)<(100:Int):=h6;refine Yi (fun _=>?_) (fun h=>absurd Cl h);refine Yi (fun h=>absurd h Cl) (fun _=>?_);refine Yi (fun h7=>?_) (fun h7=>?_)
   .have h7:((Hp (name++(⟨#[47,48]⟩:ByteArray)) user):Int)<(p % 101:Int):=h7;exact absurd h7 ch
   have h7:¬(((Hp (name++(⟨#[47,48]⟩:ByteArray)) user):Int)<(p % 101:Int)):=h7;exact .refl _
  have h6:¬(((Hp (name++(⟨#[47,48]⟩:ByteArray)) user):Int)<(100:Int)):=h6;exact absurd h6 ch
 have h5:¬((0:Int)<=((Hp (name++(⟨#[47,48]⟩:ByteArray)) user):Int)):=h5;exact absurd h5 ch
theorem qX(hp:0<=p/\p<=255)(lJ:name.size<=100)(pD:user.size<=100)(hk:¬p % 101<=Hp (name++⟨#[47,48]⟩) user):PC 8 [vs name,vs user,.v (.int .u8 p)] (vb true):=by
 have hc:=SW (name++(⟨#[47,48]⟩:ByteArray)) user;have ly:0<=p % 101/\p % 101<=100:=by omega
 have tc:=(br u6 [] [] oz (jO name (p % 101)) user 0 (A1.2 ⟨⟨show 4<=1073741824 by decide,Bx _⟩,Bx _⟩) (show 0<=16 by decide) (show 1<=16 by decide) ⟨show 1<=1000 by decide,A1.2 ⟨show 1<=1073741824 by decide,Bx _⟩,A1.2 ⟨show 1<=1000 by decide,Bx _⟩⟩ (show name.size<=10000000 by omega) (show user.size<=100000000 by omega)).args (args':=[.agg x0C,nzA,sl Am oz,.agg (Ia (jO name (p % 101))),vs user,vi 0]) ⟨nX,.nil,.refl _,.refl _,.refl _,.refl _,trivial⟩;rw[jQ,Al (yf name _ lJ ly.1 ly.2),ze,Ai hk]at tc;refine Ps (pC [8,9,11] [4,5,7,9,10,11]) Tryz.func8 rfl (Nz rfl) (Xi .pure (Xi _ (Yi YQ (Yi (fun h1=>?_) (fun h1=>?_)))))
 .have h1:(100:Int)<(name.size:Int):=h1;refine cU [] [] Tv Tv ?_
  exact .refl _
 have h1:¬((100:Int)<(name.size:Int)):=h1;refine Yi (fun h3=>?_) (fun h3=>?_)
 .have h3:(100:Int)<(user.size:Int):=h3;refine cU [] [] Tv Tv ?_
  exact .refl _
 have h3:¬((100:Int)<(user.size:Int)):=h3;refine cU [(0,vs name),(1,vs user),(2,.v (.int .u8 p))] [] Z3 Tv (Yi (show((name.size+(⟨#[47,48]⟩:ByteArray).size:Nat):Int)<=9223372036854775807 by have q:(⟨#[47,48]⟩:ByteArray).size=2:=rfl;omega) ?_);refine Xi .pure (Xi _ (Yi (nJ (name++(⟨#[47,48]⟩:ByteArray)) user (by have q:(⟨#[47,48]⟩:ByteArray).size=2:=rfl;rw[Cj];omega) ch) ?_));refine yN (cU [(0,vs name),(1,vs user),(2,.v (.int .u8 p)),(7,vi (Hp (name++(⟨#[47,48]⟩:ByteArray)) user)),(8,.ref 8 0)] [(8,.ro [vi 1,vi 0,vi 0])] Z5 Z1 (yN (yN (Yi (by show A7 p;unfold A7;omega) (Yi ⟨by omega,by omega⟩ ?_)))));refine cU [(0,vs name),(1,vs user),(7,vi (Hp (name++(⟨#[47,48]⟩:ByteArray)) user)),(8,.ref 8 0),(9,.ref 9 0),(10,vi (p % 101))] [(8,.ro [vi 1,vi 0,vi 0]),(9,.ro [.slice .none [[vs ⟨#[97,47,118,49]⟩,vi 1,vi 0,vi 0,nzA,vs ⟨#[]⟩,vs ⟨#[]⟩,vs ⟨#[]⟩,vb false]],nzA])] Z6 Z2 (yN (cU [(1,vs user),(7,vi (Hp (name++(⟨#[47,48]⟩:ByteArray)) user)),(8,.ref 8 0),(9,.ref 9 0),(10,vi (p % 101)),(11,.ref 11 0)] [(8,.ro [vi 1,vi 0,vi 0]),(9,.ro [.slice .none [[vs ⟨#[97,47,118,49]⟩,vi 1,vi 0,vi 0,nzA,vs ⟨#[]⟩,vs ⟨#[]⟩,vs ⟨#[]⟩,vb false]],nzA]),(11,.ro [vs name,.slice .none [[.slice .none [[vs ⟨#[97,47,118,49]⟩]],.slice .none [[vi 0,vi (p % 101)]]]]])] Z6 Z3 (yN (yN (yN (Xi .pure (Xi _ (Yi tc (cU [(7,vi (Hp (name++(⟨#[47,48]⟩:ByteArray)) user)),(10,vi (p % 101)),(12,vi 1),(13,vi 0)] [] Z4 Tv (Yi (fun h5=>?_) (fun h5=>?_)))))))))))
 .have h5:(0:Int)<=((Hp (name++(⟨#[47,48]⟩:ByteArray)) user):Int):=h5;refine Yi (fun h6=>?_) (fun h6=>?_)
  .have h6:((Hp (name++(⟨#[47,48]⟩:ByteArray)) user):Int)<(100:Int):=h6;refine Yi (fun _=>?_) (fun h=>absurd Cl h);refine Yi (fun _=>?_) (fun h=>absurd Cl h);refine Yi (fun h7=>?_) (fun h7=>?_)
   .have h7:((Hp (name++(⟨#[47,48]⟩:ByteArray)) user):Int)<(p % 101:Int):=h7;exact .refl _
   have h7:¬(((Hp (name++(⟨#[47,48]⟩:ByteArray)) user):Int)<(p % 101:Int)):=h7;exact absurd h7 ch
  have h6:¬(((Hp (name++(⟨#[47,48]⟩:ByteArray)) user):Int)<(100:Int)):=h6;exact absurd h6 ch
 have h5:¬((0:Int)<=((Hp (name++(⟨#[47,48]⟩:ByteArray)) user):Int)):=h5;exact absurd h5 ch
theorem fU(hb:100<name.size\/100<user.size):PC 8 [vs name,vs user,.v (.int .u8 p)] (vb true):=by
 refine Ps (pC [8,9,11] [4,5,7,9,10,11]) Tryz.func8 rfl (Nz rfl) (Xi .pure (Xi _ (Yi YQ (Yi (fun h1=>?_) (fun h1=>?_)))))
 .have h1:(100:Int)<(name.size:Int):=h1;refine cU [] [] Tv Tv ?_
  exact .refl _
 have h1:¬((100:Int)<(name.size:Int)):=h1;refine Yi (fun h3=>?_) (fun h3=>?_)
 .have h3:(100:Int)<(user.size:Int):=h3;refine cU [] [] Tv Tv ?_
  exact .refl _
 have h3:¬((100:Int)<(user.size:Int)):=h3;exact absurd hb ch
theorem Acg(hp:0<=p/\p<=255):PC 8 [vs name,vs user,.v (.int .u8 p)] (vb true):=by
 by_cases h1:name.size<=100
 .by_cases h2:user.size<=100
  .by_cases hk:p % 101<=Hp (name++⟨#[47,48]⟩) user
   .exact qW name user p hp h1 h2 hk
   .exact qX name user p hp h1 h2 hk
  .exact fU name user p (.inr ch)
 .exact fU name user p (.inl ch)
end Go.Eng
