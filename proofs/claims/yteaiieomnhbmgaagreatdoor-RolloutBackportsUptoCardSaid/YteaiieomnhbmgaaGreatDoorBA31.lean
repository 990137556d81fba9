/- Lemmas 31. -/
import Derived.Test.YteaiieomnhbmgaaGreatDoorBA30
import Derived.Test.YteaiieomnhbmgaaGreatDoorCards
import Derived.Test.YteaiieomnhbmgaaGreatDoorTie
import Derived.ProofKit
import Derived.OpenShut
import Derived.Deep.DeepHandedRow
import Derived.Lib.LaidTab
import Derived.Stop.LaidErr
set_option maxHeartbeats 4000000
namespace Go.Eng
open Go.Proofs
variable {x:List Rl}{a b:Rl}(p:CS)
theorem ME:BU a b<0↔YZ a b:=MF (a:=OY a) (b:=OY b)
theorem sC(h:YZ a b):¬BU b a<0:=fun c=>Hi (Q0 h (ME.1 c)) rfl
theorem sD(h:¬BU a b<0)(hk:EL b≠EL a):YZ b a:=sE (a:=OY a) (b:=OY b) (fun c=>h (ME.2 c)) fun e=>hk e.symm
theorem po{r:Rl}(h:CI r=0):(∃m,A5 r.path=some m/\r.ver.a=m)/\Be r.ver=true/\AR r.reqs=0:=by
 unfold CI at h;split at h
 .exact absurd h Cl
 .rename_i m hm;split at h
  .exact absurd h Cl
  .rename_i h1;split at h
   .rename_i h2;exact absurd h h2
   .rename_i h2;cases e1:Be r.ver with
    |false=>rw[e1]at h1;exact absurd rfl h1
    |true=>
     rw[e1]at h1;exact⟨⟨m,hm,Aq fun c=>h1 (by rw[Aj c];rfl)⟩,rfl,B8.1 h2⟩
abbrev o7:CS:=⟨#[99,47,118,49]⟩
abbrev kB:CS:=⟨#[97,47,118,49]⟩
abbrev ZF:CS:=⟨#[98,47,118,49]⟩
abbrev v45(m:Int):Ver:=⟨1,m,0⟩
abbrev LU(m:Int):List (Int×Int):=[(1000*m,1000*m+1)]
abbrev ce(m:Int)(q:List Rq):Rl:=⟨p,v45 m,q,mt,mt,mt,false⟩
abbrev Abc:List Rq:=[⟨ZF,LU 0⟩]
abbrev Abd:List Rq:=[⟨ZF,LU 1⟩,⟨o7,[(0,1000000)]⟩]
abbrev ZJ:List Rl:=[ce kB 0 Abc,ce kB 1 Abd,ce ZF 0 [],ce ZF 1 [],ce o7 0 []]
abbrev Ub:List Sl:=[⟨kB,v45 0⟩,⟨ZF,v45 0⟩]
abbrev t45:List Sl:=[⟨kB,v45 1⟩,⟨ZF,v45 1⟩,⟨o7,v45 0⟩]
abbrev Wn:List cH:=[⟨5,10⟩,⟨20,100⟩]
abbrev XE:Ro:=⟨⟨#[117,112]⟩,[⟨[o7],Wn⟩,⟨[kB,ZF],Wn⟩]⟩
abbrev a45:Ad:=⟨⟨#[65]⟩,ZF,LU 1,[⟨#[102]⟩],mt⟩
abbrev zH:List (List Rq):=[[⟨kB,LU 1⟩],[⟨ZF,[(1000,1000000)]⟩]]
abbrev b45:List Bk:=[⟨0,⟨1,1,1⟩,false⟩,⟨1,⟨1,1,1⟩,true⟩]
theorem Yv:eZ Wn 4=0/\eZ Wn 19=10/\Do Wn=0/\KP Wn 4=0/\KP Wn 20=100:=⟨by kernel_rfl,by kernel_rfl,by kernel_rfl,by kernel_rfl,by kernel_rfl⟩
theorem Aeq:RD ZJ Ub t45=0:=by kernel_rfl
theorem Aen:Jt Ub t45=[kB,ZF,o7]:=by simp[Jt];unfold rm;kernel_rfl
theorem Aep:cJ ZJ a45 zH=0:=by kernel_rfl
theorem Aem:fU ZJ a45 zH=b45:=by kernel_rfl
theorem Aeo:L1 [o7,kB,ZF]=[kB,ZF,o7]:=by unfold L1;simp[K4,List.mergeSort,List.MergeSort.Internal.splitInTwo,List.splitAt,List.splitAt.go,List.merge];rw[Az Cl];simp[List.merge];rw[Ay Cl,Az Cl];kernel_rfl
theorem Aer:fN ZJ Ub t45 [[o7],[kB,ZF]]=true:=by kernel_rfl
theorem mM:OL ZJ Ub t45 XE=0:=by
 have h:G3 ZJ Ub t45 (ZG XE)=0:=by
  unfold G3;rw[Ay Aeq,Ay (show(ZG XE).all gY=true by kernel_rfl),Ay (show L1 (ZG XE).flatten=Jt Ub t45 by rw[Aen];exact Aeo),Ay (show fN ZJ Ub t45 (ZG XE)=true from Aer)]
 have k:(if 65536<XE.name.size then(7:Int)else J7 XE.waves)=0:=by kernel_rfl
 show(if G3 ZJ Ub t45 (ZG XE)=0 then(if 65536<XE.name.size then(7:Int)else J7 XE.waves)else G3 ZJ Ub t45 (ZG XE))=0;exact(Ay h).trans k
abbrev ij(b:Int):List AV:=[vs p,vi 1,vi b,vi 0,BE,vs mt,vs mt,vs mt,vb false]
abbrev qt:List AV:=[.slice .none [Ah (ce kB 0 Abc),Ah (ce kB 1 Abd),ij ZF 0,ij ZF 1,ij o7 0],BE]
theorem Tq:BM (.agg qt) (Fr ZJ []):=
 have h (p:CS) (b:Int):Il (ij p b) (Ah (ce p b [])):=⟨.refl _,.refl _,.refl _,.refl _,.nil,.refl _,.refl _,.refl _,.refl _,trivial⟩
 BM.agg ⟨BM.slice ⟨.refl _,.refl _,h ZF 0,h ZF 1,h o7 0,trivial⟩,.nil,trivial⟩
theorem YB(s:List (Int×Int))(hp:ED p)(hs:BJ s):∀q∈[(⟨p,s⟩:Rq)],FA q:=A8.2 ⟨⟨hs,hp⟩,Cq _⟩
theorem gj:G1 ZJ:=
 have a:ED kB:=by decide
 have b:ED ZF:=by decide
 have c:ED o7:=by decide
 ⟨show 5<=16 by decide,A8.2 ⟨⟨a,YB _ _ b (show 1<=1073741824 by decide)⟩,A8.2 ⟨⟨a,A8.2 ⟨⟨show 1<=1073741824 by decide,b⟩,YB _ _ c (show 1<=1073741824 by decide)⟩⟩,A8.2 ⟨⟨b,Cq _⟩,A8.2 ⟨⟨b,Cq _⟩,A8.2 ⟨⟨c,Cq _⟩,Cq _⟩⟩⟩⟩⟩⟩
theorem xH:∀r∈ZJ,r.reqs.length<=1000:=
 A8.2 ⟨show 1<=1000 by decide,A8.2 ⟨show 2<=1000 by decide,A8.2 ⟨Al _,A8.2 ⟨Al _,A8.2 ⟨Al _,Cq _⟩⟩⟩⟩⟩
theorem Zi:TA XE:=⟨show 2<=1000 by decide,A8.2 ⟨show 2<=1073741824 by decide,A8.2 ⟨show 2<=1073741824 by decide,Cq _⟩⟩,A8.2 ⟨show 1<=1000 by decide,A8.2 ⟨show 2<=1000 by decide,Cq _⟩⟩⟩
theorem qT:FL a45:=⟨show 1<=1073741824 by decide,show 4<=1073741824 by decide,show 1<=1073741824 by decide,show 1<=1073741824 by decide,A8.2 ⟨show 1<=1073741824 by decide,Cq _⟩,show 0<=1073741824 by decide⟩
theorem Aej:∀q∈zH,∀z∈q,FA z:=A8.2 ⟨YB _ _ (show 4<=1073741824 by decide) (show 1<=1073741824 by decide),A8.2 ⟨YB _ _ (show 4<=1073741824 by decide) (show 1<=1073741824 by decide),Cq _⟩⟩
theorem zm(u:CS):ja ZJ Ub t45 XE u 4=.tup [sl Ab Ub,vi 0]/\ja ZJ Ub t45 XE u 20=.tup [sl Ab t45,vi 0]:=by
 unfold ja;rw[(fS u 4 mM).2.1,(fS u 20 mM).2.1,rb mM (A8.2 ⟨by rw[Yv.2.2.2.1];exact Bv _,A8.2 ⟨by rw[Yv.2.2.2.1];exact Bv _,Cq _⟩⟩),vO mM (show 2<=1073741824 by decide) (show 3<=1073741824 by decide) (A8.2 ⟨by rw[Yv.2.2.2.2];exact Bv _,A8.2 ⟨by rw[Yv.2.2.2.2];exact Bv _,Cq _⟩⟩)];exact Zr
theorem Wp(m:Int):PC 45 [vi m] (.agg [vi 1,vi m,vi 0]):=by
 refine Ps C3 Tryz.func45 rfl (Nz rfl) (yN (yN ?_));exact .refl _
theorem tT(m:Int)(h0:0<=m)(h1:m<=1):PC 46 [vi m] (sl Ag (LU m)):=by
 refine Ps C3 Tryz.func46 rfl (Nz rfl) (Yi (by show Av ((1000:Int)*(m:Int));unfold Av;omega) (Yi (by show Av ((1000:Int)*(m:Int));unfold Av;omega) (Yi (by show Av ((1000*m:Int)+(1:Int));unfold Av;omega) ?_)));exact .refl _
theorem iD  : PC 10 [] (vb true):=by
 have hcl:=o46 [] Cl (Cq _);have FH:=vh Wn 4 (show 2<=1073741824 by decide);have g11:=vh Wn 19 (show 2<=1073741824 by decide);rw[Yv.1,Yv.2.2.1]at FH;rw[Yv.2.1,Yv.2.2.1]at g11;have cK:=(AbS ZJ [] Ub t45 XE ⟨#[109,101]⟩ 4 gj.few (show 2<=16 by decide) (show 3<=16 by decide) Zi (show 2<=10000000 by decide) (show 2<=100000000 by decide)).args (args':=[.agg qt,sl Ab Ub,sl Ab t45,.agg (IK XE),vs ⟨#[109,101]⟩,vi 4]) ⟨Tq,.refl _,.refl _,.refl _,.refl _,.refl _,trivial⟩;rw[(zm _).1]at cK;have g21:=(AbS ZJ [] Ub t45 XE ⟨#[109,101]⟩ 20 gj.few (show 2<=16 by decide) (show 3<=16 by decide) Zi (show 2<=10000000 by decide) (show 2<=100000000 by decide)).args (args':=[.agg qt,sl Ab Ub,sl Ab t45,.agg (IK XE),vs ⟨#[109,101]⟩,vi 20]) ⟨Tq,.refl _,.refl _,.refl _,.refl _,.refl _,trivial⟩;rw[(zm _).2]at g21;have lw:=(p9 ZJ [] a45 zH gj xH qT (show 2<=1073741824 by decide) Aej hcl).args (args':=[.agg qt,.agg (AM a45),sl BD zH]) ⟨Tq,.refl _,.refl _,trivial⟩;rw[Aem,Aep]at lw;have K9:=VK Wn (show 2<=1073741824 by decide);rw[Yv.2.2.1]at K9;have h23:=(iG ZJ [] Ub t45 XE gj.few (show 2<=16 by decide) (show 3<=16 by decide) Zi).args (args':=[.agg qt,sl Ab Ub,sl Ab t45,.agg (IK XE)]) ⟨Tq,.refl _,.refl _,.refl _,trivial⟩;rw[mM]at h23;have h25:=c27 Ub Ub (show 2<=1073741824 by decide);rw[At rfl]at h25;have g25:=c27 t45 t45 (show 3<=1073741824 by decide);rw[At rfl]at g25;have wz:=z33 b45 b45 (show 2<=1073741824 by decide);rw[At rfl]at wz;refine Ps (pC [3,7] [4,5,7,9,10,11,12]) Tryz.func10 rfl (Nz rfl) (C1 (C2 (Wp 0) (C1 (C2 (tT 0 Cl Cl) (C1 (C2 (Wp 1) (C1 (C2 (tT 1 Cl Cl) (C1 (C2 (Wp 0) (C1 (C2 (Wp 1) (C1 (C2 (Wp 0) (yN (cU [(1,.v (.func (.func 45) #[] #[])),(2,.v (.func (.func 46) #[] #[])),(3,.ref 3 0)] [(3,.ro [.slice .none [[vs ⟨#[97,47,118,49]⟩,vi 1,vi 0,vi 0,.slice .none [[vs ⟨#[98,47,118,49]⟩,sl Ag (LU 0)]],vs ⟨#[]⟩,vs ⟨#[]⟩,vs ⟨#[]⟩,vb false],[vs ⟨#[97,47,118,49]⟩,vi 1,vi 1,vi 0,.slice .none [[vs ⟨#[98,47,118,49]⟩,sl Ag (LU 1)],[vs ⟨#[99,47,118,49]⟩,.slice .none [[vi 0,vi 1000000]]]],vs ⟨#[]⟩,vs ⟨#[]⟩,vs ⟨#[]⟩,vb false],[vs ⟨#[98,47,118,49]⟩,vi 1,vi 0,vi 0,BE,vs ⟨#[]⟩,vs ⟨#[]⟩,vs ⟨#[]⟩,vb false],[vs ⟨#[98,47,118,49]⟩,vi 1,vi 1,vi 0,BE,vs ⟨#[]⟩,vs ⟨#[]⟩,vs ⟨#[]⟩,vb false],[vs ⟨#[99,47,118,49]⟩,vi 1,vi 0,vi 0,BE,vs ⟨#[]⟩,vs ⟨#[]⟩,vs ⟨#[]⟩,vb false]],BE])] Z3 Z1 (C1 (C2 (Wp 0) (C1 (C2 (Wp 0) (C1 (C2 (Wp 1) (C1 (C2 (Wp 1) (C1 (C2 (Wp 0) (cU [(2,.v (.func (.func 46) #[] #[])),(3,.ref 3 0),(4,.slice (.id 52 4) [[vs ⟨#[97,47,118,49]⟩,vi 1,vi 0,vi 0],[vs ⟨#[98,47,118,49]⟩,vi 1,vi 0,vi 0]]),(5,.slice (.id 62 4) [[vs ⟨#[97,47,118,49]⟩,vi 1,vi 1,vi 0],[vs ⟨#[98,47,118,49]⟩,vi 1,vi 1,vi 0],[vs ⟨#[99,47,118,49]⟩,vi 1,vi 0,vi 0]])] [(3,.ro [.slice .none [[vs ⟨#[97,47,118,49]⟩,vi 1,vi 0,vi 0,.slice .none [[vs ⟨#[98,47,118,49]⟩,sl Ag (LU 0)]],vs ⟨#[]⟩,vs ⟨#[]⟩,vs ⟨#[]⟩,vb false],[vs ⟨#[97,47,118,49]⟩,vi 1,vi 1,vi 0,.slice .none [[vs ⟨#[98,47,118,49]⟩,sl Ag (LU 1)],[vs ⟨#[99,47,118,49]⟩,.slice .none [[vi 0,vi 1000000]]]],vs ⟨#[]⟩,vs ⟨#[]⟩,vs ⟨#[]⟩,vb false],[vs ⟨#[98,47,118,49]⟩,vi 1,vi 0,vi 0,BE,vs ⟨#[]⟩,vs ⟨#[]⟩,vs ⟨#[]⟩,vb false],[vs ⟨#[98,47,118,49]⟩,vi 1,vi 1,vi 0,BE,vs ⟨#[]⟩,vs ⟨#[]⟩,vs ⟨#[]⟩,vb false],[vs ⟨#[99,47,118,49]⟩,vi 1,vi 0,vi 0,BE,vs ⟨#[]⟩,vs ⟨#[]⟩,vs ⟨#[]⟩,vb false]],BE]),(52,.tok 4 2),(62,.tok 4 3)] Z4 Z3 (yN (cU [(2,.v (.func (.func 46) #[] #[])),(3,.ref 3 0),(4,.slice (.id 52 4) [[vs ⟨#[97,47,118,49]⟩,vi 1,vi 0,vi 0],[vs ⟨#[98,47,118,49]⟩,vi 1,vi 0,vi 0]]),(5,.slice (.id 62 4) [[vs ⟨#[97,47,118,49]⟩,vi 1,vi 1,vi 0],[vs ⟨#[98,47,118,49]⟩,vi 1,vi 1,vi 0],[vs ⟨#[99,47,118,49]⟩,vi 1,vi 0,vi 0]]),(6,.slice (.id 65 2) [[vi 5,vi 10],[vi 20,vi 100]]),(7,.ref 7 0)] [(3,.ro [.slice .none [[vs ⟨#[97,47,118,49]⟩,vi 1,vi 0,vi 0,.slice .none [[vs ⟨#[98,47,118,49]⟩,sl Ag (LU 0)]],vs ⟨#[]⟩,vs ⟨#[]⟩,vs ⟨#[]⟩,vb false],[vs ⟨#[97,47,118,49]⟩,vi 1,vi 1,vi 0,.slice .none [[vs ⟨#[98,47,118,49]⟩,sl Ag (LU 1)],[vs ⟨#[99,47,118,49]⟩,.slice .none [[vi 0,vi 1000000]]]],vs ⟨#[]⟩,vs ⟨#[]⟩,vs ⟨#[]⟩,vb false],[vs ⟨#[98,47,118,49]⟩,vi 1,vi 0,vi 0,BE,vs ⟨#[]⟩,vs ⟨#[]⟩,vs ⟨#[]⟩,vb false],[vs ⟨#[98,47,118,49]⟩,vi 1,vi 1,vi 0,BE,vs ⟨#[]⟩,vs ⟨#[]⟩,vs ⟨#[]⟩,vb false],[vs ⟨#[99,47,118,49]⟩,vi 1,vi 0,vi 0,BE,vs ⟨#[]⟩,vs ⟨#[]⟩,vs ⟨#[]⟩,vb false]],BE]),(7,.ro [vs ⟨#[117,112]⟩,.slice .none [[.slice .none [[vs ⟨#[99,47,118,49]⟩]],.slice .none [[vi 5,vi 10],[vi 20,vi 100]]],[.slice .none [[vs ⟨#[97,47,118,49]⟩],[vs ⟨#[98,47,118,49]⟩]],.slice .none [[vi 5,vi 10],[vi 20,vi 100]]]]]),(52,.tok 4 2),(62,.tok 4 3),(65,.tok 2 2)] Z6 Z5 (C1 (C2 FH (C1 (C2 g11 (cU [(2,.v (.func (.func 46) #[] #[])),(3,.ref 3 0),(4,.slice (.id 52 4) [[vs ⟨#[97,47,118,49]⟩,vi 1,vi 0,vi 0],[vs ⟨#[98,47,118,49]⟩,vi 1,vi 0,vi 0]]),(5,.slice (.id 62 4) [[vs ⟨#[97,47,118,49]⟩,vi 1,vi 1,vi 0],[vs ⟨#[98,47,118,49]⟩,vi 1,vi 1,vi 0],[vs ⟨#[99,47,118,49]⟩,vi 1,vi 0,vi 0]]),(6,.slice (.id 65 2) [[vi 5,vi 10],[vi 20,vi 100]]),(7,.ref 7 0),(8,vi 0),(9,vi 0),(10,vi 10),(11,vi 0)] [(3,.ro [.slice .none [[vs ⟨#[97,47,118,49]⟩,vi 1,vi 0,vi 0,.slice .none [[vs ⟨#[98,47,118,49]⟩,sl Ag (LU 0)]],vs ⟨#[]⟩,vs ⟨#[]⟩,vs ⟨#[]⟩,vb false],[vs ⟨#[97,47,118,49]⟩,vi 1,vi 1,vi 0,.slice .none [[vs ⟨#[98,47,118,49]⟩,sl Ag (LU 1)],[vs ⟨#[99,47,118,49]⟩,.slice .none [[vi 0,vi 1000000]]]],vs ⟨#[]⟩,vs ⟨#[]⟩,vs ⟨#[]⟩,vb false],[vs ⟨#[98,47,118,49]⟩,vi 1,vi 0,vi 0,BE,vs ⟨#[]⟩,vs ⟨#[]⟩,vs ⟨#[]⟩,vb false],[vs ⟨#[98,47,118,49]⟩,vi 1,vi 1,vi 0,BE,vs ⟨#[]⟩,vs ⟨#[]⟩,vs ⟨#[]⟩,vb false],[vs ⟨#[99,47,118,49]⟩,vi 1,vi 0,vi 0,BE,vs ⟨#[]⟩,vs ⟨#[]⟩,vs ⟨#[]⟩,vb false]],BE]),(7,.ro [vs ⟨#[117,112]⟩,.slice .none [[.slice .none [[vs ⟨#[99,47,118,49]⟩]],.slice .none [[vi 5,vi 10],[vi 20,vi 100]]],[.slice .none [[vs ⟨#[97,47,118,49]⟩],[vs ⟨#[98,47,118,49]⟩]],.slice .none [[vi 5,vi 10],[vi 20,vi 100]]]]]),(52,.tok 4 2),(62,.tok 4 3),(65,.tok 2 2)] Z10 Z5 (yN (yN (C1 (C2 cK (cU [(2,.v (.func (.func 46) #[] #[])),(3,.ref 3 0),(4,.slice (.id 52 4) [[vs ⟨#[97,47,118,49]⟩,vi 1,vi 0,vi 0],[vs ⟨#[98,47,118,49]⟩,vi 1,vi 0,vi 0]]),(5,.slice (.id 62 4) [[vs ⟨#[97,47,118,49]⟩,vi 1,vi 1,vi 0],[vs ⟨#[98,47,118,49]⟩,vi 1,vi 1,vi 0],[vs ⟨#[99,47,118,49]⟩,vi 1,vi 0,vi 0]]),(6,.slice (.id 65 2) [[vi 5,vi 10],[vi 20,vi 100]]),(7,.ref 7 0),(8,vi 0),(9,vi 0),(10,vi 10),(11,vi 0),(12,sl Ab Ub),(13,vi 0)] [(3,.ro [.slice .none [[vs ⟨#[97,47,118,49]⟩,vi 1,vi 0,vi 0,.slice .none [[vs ⟨#[98,47,118,49]⟩,sl Ag (LU 0)]],vs ⟨#[]⟩,vs ⟨#[]⟩,vs ⟨#[]⟩,vb false],[vs ⟨#[97,47,118,49]⟩,vi 1,vi 1,vi 0,.slice .none [[vs ⟨#[98,47,118,49]⟩,sl Ag (LU 1)],[vs ⟨#[99,47,118,49]⟩,.slice .none [[vi 0,vi 1000000]]]],vs ⟨#[]⟩,vs ⟨#[]⟩,vs ⟨#[]⟩,vb false],[vs ⟨#[98,47,118,49]⟩,vi 1,vi 0,vi 0,BE,vs ⟨#[]⟩,vs ⟨#[]⟩,vs ⟨#[]⟩,vb false],[vs ⟨#[98,47,118,49]⟩,vi 1,vi 1,vi 0,BE,vs ⟨#[]⟩,vs ⟨#[]⟩,vs ⟨#[]⟩,vb false],[vs ⟨#[99,47,118,49]⟩,vi 1,vi 0,vi 0,BE,vs ⟨#[]⟩,vs ⟨#[]⟩,vs ⟨#[]⟩,vb false]],BE]),(7,.ro [vs ⟨#[117,112]⟩,.slice .none [[.slice .none [[vs ⟨#[99,47,118,49]⟩]],.slice .none [[vi 5,vi 10],[vi 20,vi 100]]],[.slice .none [[vs ⟨#[97,47,118,49]⟩],[vs ⟨#[98,47,118,49]⟩]],.slice .none [[vi 5,vi 10],[vi 20,vi 100]]]]]),(52,.tok 4 2),(62,.tok 4 3),(65,.tok 2 2)] Z12 Z5 (yN (yN ?_)))))))))))))))))))))))))))))))))))))))));refine C1 (C2 g21 (cU [(2,.v (.func (.func 46) #[] #[])),(3,.ref 3 0),(4,.slice (.id 52 4) [[vs ⟨#[97,47,118,49]⟩,vi 1,vi 0,vi 0],[vs ⟨#[98,47,118,49]⟩,vi 1,vi 0,vi 0]]),(5,.slice (.id 62 4) [[vs ⟨#[97,47,118,49]⟩,vi 1,vi 1,vi 0],[vs ⟨#[98,47,118,49]⟩,vi 1,vi 1,vi 0],[vs ⟨#[99,47,118,49]⟩,vi 1,vi 0,vi 0]]),(6,.slice (.id 65 2) [[vi 5,vi 10],[vi 20,vi 100]]),(7,.ref 7 0),(8,vi 0),(9,vi 0),(10,vi 10),(11,vi 0),(12,sl Ab Ub),(13,vi 0),(14,sl Ab t45),(15,vi 0)] [(3,.ro [.slice .none [[vs ⟨#[97,47,118,49]⟩,vi 1,vi 0,vi 0,.slice .none [[vs ⟨#[98,47,118,49]⟩,sl Ag (LU 0)]],vs ⟨#[]⟩,vs ⟨#[]⟩,vs ⟨#[]⟩,vb false],[vs ⟨#[97,47,118,49]⟩,vi 1,vi 1,vi 0,.slice .none [[vs ⟨#[98,47,118,49]⟩,sl Ag (LU 1)],[vs ⟨#[99,47,118,49]⟩,.slice .none [[vi 0,vi 1000000]]]],vs ⟨#[]⟩,vs ⟨#[]⟩,vs ⟨#[]⟩,vb false],[vs ⟨#[98,47,118,49]⟩,vi 1,vi 0,vi 0,BE,vs ⟨#[]⟩,vs ⟨#[]⟩,vs ⟨#[]⟩,vb false],[vs ⟨#[98,47,118,49]⟩,vi 1,vi 1,vi 0,BE,vs ⟨#[]⟩,vs ⟨#[]⟩,vs ⟨#[]⟩,vb false],[vs ⟨#[99,47,118,49]⟩,vi 1,vi 0,vi 0,BE,vs ⟨#[]⟩,vs ⟨#[]⟩,vs ⟨#[]⟩,vb false]],BE]),(7,.ro [vs ⟨#[117,112]⟩,.slice .none [[.slice .none [[vs ⟨#[99,47,118,49]⟩]],.slice .none [[vi 5,vi 10],[vi 20,vi 100]]],[.slice .none [[vs ⟨#[97,47,118,49]⟩],[vs ⟨#[98,47,118,49]⟩]],.slice .none [[vi 5,vi 10],[vi 20,vi 100]]]]]),(52,.tok 4 2),(62,.tok 4 3),(65,.tok 2 2)] ⟨Zr,Zr,Zr,Zr,Zr,Zr,Zr,Zr,Zr,Zr,Zr,Zr,Zr,Zr,Tv⟩ Z5 (yN (C2 (tT 1 Cl Cl) (C2 (tT 1 Cl Cl) (C2 lw (Yi Wk (cU [(3,.ref 3 0),(4,.slice (.id 52 4) [[vs ⟨#[97,47,118,49]⟩,vi 1,vi 0,vi 0],[vs ⟨#[98,47,118,49]⟩,vi 1,vi 0,vi 0]]),(5,.slice (.id 62 4) [[vs ⟨#[97,47,118,49]⟩,vi 1,vi 1,vi 0],[vs ⟨#[98,47,118,49]⟩,vi 1,vi 1,vi 0],[vs ⟨#[99,47,118,49]⟩,vi 1,vi 0,vi 0]]),(6,.slice (.id 65 2) [[vi 5,vi 10],[vi 20,vi 100]]),(7,.ref 7 0),(8,vi 0),(9,vi 0),(10,vi 10),(11,vi 0),(12,sl Ab Ub),(13,vi 0),(14,sl Ab t45),(15,vi 0),(16,sl A9 b45),(17,vi 0)] [(3,.ro [.slice .none [[vs ⟨#[97,47,118,49]⟩,vi 1,vi 0,vi 0,.slice .none [[vs ⟨#[98,47,118,49]⟩,sl Ag (LU 0)]],vs ⟨#[]⟩,vs ⟨#[]⟩,vs ⟨#[]⟩,vb false],[vs ⟨#[97,47,118,49]⟩,vi 1,vi 1,vi 0,.slice .none [[vs ⟨#[98,47,118,49]⟩,sl Ag (LU 1)],[vs ⟨#[99,47,118,49]⟩,.slice .none [[vi 0,vi 1000000]]]],vs ⟨#[]⟩,vs ⟨#[]⟩,vs ⟨#[]⟩,vb false],[vs ⟨#[98,47,118,49]⟩,vi 1,vi 0,vi 0,BE,vs ⟨#[]⟩,vs ⟨#[]⟩,vs ⟨#[]⟩,vb false],[vs ⟨#[98,47,118,49]⟩,vi 1,vi 1,vi 0,BE,vs ⟨#[]⟩,vs ⟨#[]⟩,vs ⟨#[]⟩,vb false],[vs ⟨#[99,47,118,49]⟩,vi 1,vi 0,vi 0,BE,vs ⟨#[]⟩,vs ⟨#[]⟩,vs ⟨#[]⟩,vb false]],BE]),(7,.ro [vs ⟨#[117,112]⟩,.slice .none [[.slice .none [[vs ⟨#[99,47,118,49]⟩]],.slice .none [[vi 5,vi 10],[vi 20,vi 100]]],[.slice .none [[vs ⟨#[97,47,118,49]⟩],[vs ⟨#[98,47,118,49]⟩]],.slice .none [[vi 5,vi 10],[vi 20,vi 100]]]]]),(52,.tok 4 2),(62,.tok 4 3),(65,.tok 2 2)] ⟨Zr,Zr,Zr,Zr,Zr,Zr,Zr,Zr,Zr,Zr,Zr,Zr,Zr,Zr,Zr,Tv⟩ Z5 (C1 (C2 K9 (Yi (fun _=>?_) (fun h=>absurd Cl h))))))))))));refine yN (yN (C1 (C2 h23 (Yi (fun _=>?_) (fun h=>absurd Cl h)))));refine Yi (fun _=>?_) (fun h=>absurd Cl h);refine Yi (fun _=>?_) (fun h=>absurd Cl h);refine Yi (fun _=>?_) (fun h=>absurd Cl h);refine Yi (fun _=>?_) (fun h=>absurd Cl h);refine Yi (fun _=>?_) (fun h=>absurd Cl h);refine C1 (C2 h25 (Yi (fun _=>?_) (fun h=>absurd Cl h)));refine C1 (C2 g25 (Yi (fun _=>?_) (fun h=>absurd Cl h)));refine C1 (C2 wz ?_);exact .refl _
structure Adc(l m:List Sl)(r:Ro)(user:CS):Prop where
 l:l.length<=1048576
 m:m.length<=1048576
 wv:r.waves.length<=1048576
 st:∀v∈r.waves,v.stages.length<=1048576
 pt:∀v∈r.waves,v.paths.length<=1048576
 name:r.name.size<=1048576
 user:user.size<=1048576
structure zh(a:Ad)(cl:List (List Rq)):Prop where
 ad:FL a
 len:BJ cl
 q:∀q∈cl,BJ q/\∀z∈q,FA z
theorem pK(h:Gg x 16=true):∀r∈x,r.reqs.length<=1000:=fun r hr=>by
 simp only[Gg,Am,A3]at h;have q:=h.1 r hr;simp only[J5,Et,Am,Bd]at q;omega
abbrev nwR(a:Ad)(v:Ver)(R:Rl):Rl:=⟨a.path,v,R.reqs,⟨#[]⟩,⟨#[]⟩,⟨#[]⟩,false⟩
theorem tC(x:List Rl):(GZ x).length<=x.length:=by
 rw[GZ];split
 .rw[JR];exact Ap _
 .exact Al _
theorem Vv(q:List Rq):(Cf x q).length<=x.length:=by
 by_cases h:DD x q=0
 .exact(Lp h).2.1
 .unfold Cf;rw[Az h];exact Al _
end Go.Eng
namespace Go.Proofs.YteaiieomnhbmgaaGreatDoor.joins
open Go Go.Eng Go.Proofs Go.ChangeShapes Go.WideShapes Go.ChangeAt Go.RowKit
section
variable {H:Type}{enc:TypeId×Value->H}{w:World}
theorem all_le{d:DataW H}{l:List (DataW H)}(h:d∈l):Rows.uptoBulk d<=Rows.uptoBulkAll l:=by
 induction l with
 |nil=>cases h
 |cons x r ih=>
  simp only[Rows.uptoBulkAll]
  cases AU.1 h with
  |inl e=>subst e;omega
  |inr e=>have:=ih e;omega
theorem one_le(d:DataW H):1<=Rows.uptoBulk d:=by
 cases d with
 |lit l=>cases l<;>simp[Rows.uptoBulk]
 |nil=>simp[Rows.uptoBulk]
 |ptr d=>simp[Rows.uptoBulk]
 |slice uy spare=>simp[Rows.uptoBulk]
 |agg parts=>simp[Rows.uptoBulk]
 |iface t d=>simp[Rows.uptoBulk]
 |map entries=>simp[Rows.uptoBulk]
 |held h=>simp[Rows.uptoBulk]
theorem len_le(l:List (DataW H)):l.length<=Rows.uptoBulkAll l:=by
 induction l with
 |nil=>simp[Rows.uptoBulkAll]
 |cons x r ih=>have:=one_le x;simp only[Rows.uptoBulkAll,AA];omega
theorem bulk_ok:X1 (H:=H) Rows.uptoBulk where
 slice es sp:=by
  have h1:=len_le es
  refine⟨by simp only[Rows.uptoBulk];omega,fun d hd=>?_⟩
  have:=all_le hd
  simp only[Rows.uptoBulk];omega
 agg ps d hd:=by
  have:=all_le hd
  simp only[Rows.uptoBulk];omega
 str b:=by simp only[Rows.uptoBulk];omega
theorem app_all(l r:List (DataW H)):Rows.uptoBulkAll (l++r)=Rows.uptoBulkAll l+Rows.uptoBulkAll r:=by
 induction l with
 |nil=>simp[Rows.uptoBulkAll]
 |cons x l ih=>simp only[FO,Rows.uptoBulkAll,ih];omega
abbrev NB:Nat:=1048576
abbrev Op(enc:TypeId×Value->H)(w:World)(t:TypeId){α:Type}(e:α->List AV)(ok:α->Prop):Prop:=Ko enc Tryz.prog w Rows.uptoBulk NB t e ok
theorem oI:Op enc w 3 (fun n:Int=>[vi n]) (fun _=>True):=(Rh Tryz.underlying3).to id (fun _ _=>⟨rfl,trivial⟩)
theorem oB:Op enc w 4 (fun b:Bool=>[vb b]) (fun _=>True):=eP Tryz.underlying4
theorem oS:Op enc w 9 (fun s:ByteArray=>[vs s]) (fun s=>s.size<=NB):=Y9 bulk_ok Tryz.underlying9
theorem oVer:Op enc w 46 CC (fun _=>True):=
 (D5 bulk_ok Tryz.underlying46 (L:=3) Wk (Bm rfl (n:=1) Wk oI (Bm rfl (n:=1) Wk oI (Bm rfl (n:=1) Wk oI E6)))).to
  (fun p=>(⟨p.1,p.2.1,p.2.2.1⟩:Ver)) (fun _ _=>⟨rfl,trivial⟩)
theorem oSpan:Op enc w 92 Ag (fun _=>True):=
 (D5 bulk_ok Tryz.underlying92 (L:=2) Wk (Bm rfl (n:=1) Wk oI (Bm rfl (n:=1) Wk oI E6))).to
  (fun p=>(p.1,p.2.1)) (fun _ _=>⟨rfl,trivial⟩)
theorem oSet:Op enc w 51 (fun l:A1=>[sl Ag l]) (fun l=>l.length<=NB):=
 (Fj bulk_ok Tryz.underlying51 (m:=1) Wk (fun _=>rfl) oSpan).to id (fun _ h=>⟨rfl,h.1⟩)
abbrev OkRq(q:Rq):Prop:=q.path.size<=NB/\q.set.length<=NB
theorem oRq:Op enc w 95 As OkRq:=
 (D5 bulk_ok Tryz.underlying95 (L:=2) Wk (Bm rfl (n:=1) Wk oS (Bm rfl (n:=1) Wk oSet E6))).to
  (fun p=>(⟨p.1,p.2.1⟩:Rq)) (fun _ h=>⟨rfl,h.1,h.2.1⟩)
abbrev OkRqs(l:List Rq):Prop:=l.length<=NB/\∀q∈l,OkRq q
theorem oRqs:Op enc w 60 (fun l:List Rq=>[sl As l]) OkRqs:=
 Fj bulk_ok Tryz.underlying60 (m:=1) Wk (fun _=>rfl) oRq
abbrev OkRl(r:Rl):Prop:=r.path.size<=NB/\OkRqs r.reqs
theorem oRl:Op enc w 78 Ah OkRl:=
 (D5 bulk_ok Tryz.underlying78 (L:=9) Wk (Bm rfl (n:=1) Wk oS (Bm rfl (n:=3) Wk oVer (Bm rfl (n:=1) Wk oRqs
  (Bm rfl (n:=1) Wk oS (Bm rfl (n:=1) Wk oS (Bm rfl (n:=1) Wk oS (Bm rfl (n:=1) Wk oB E6)))))))).to
  (fun p=>(⟨p.1,p.2.1,p.2.2.1,p.2.2.2.1,p.2.2.2.2.1,p.2.2.2.2.2.1,p.2.2.2.2.2.2.1⟩:Rl)) (fun _ h=>⟨rfl,h.1,h.2.2.1⟩)
theorem oRls:Op enc w 30 (fun l:List Rl=>[sl Ah l]) (fun l=>l.length<=NB/\∀r∈l,OkRl r):=
 Fj bulk_ok Tryz.underlying30 (m:=8) Wk (fun _=>rfl) oRl
theorem oIfc:Op enc w 182 (fun s:ByteArray=>[vs s,.junk,.junk,.junk,.junk]) (fun _=>True):=
 (D5 bulk_ok Tryz.underlying182 (L:=5) Wk (Bm rfl (n:=1) Wk oS (Bm rfl (n:=1) Wk (NA Tryz.underlying177) (Bm rfl (n:=1) Wk (NA Tryz.underlying178)
  (Bm rfl (n:=1) Wk (NA Tryz.underlying179) (Bm rfl (n:=1) Wk (NA Tryz.underlying180) E6)))))).to (fun p=>p.1) (fun _ _=>⟨rfl,trivial⟩)
theorem oIfs:Op enc w 31 (fun l:List ByteArray=>[sl (fun s=>[vs s,.junk,.junk,.junk,.junk]) l]) (fun l=>l.length<=NB):=
 (Fj bulk_ok Tryz.underlying31 (m:=4) Wk (fun _=>rfl) oIfc).to id (fun _ h=>⟨rfl,h.1⟩)
theorem oIx:Op enc w 33 (fun p:List Rl×List (List AV)=>[sl Ah p.1,.slice .none p.2]) (fun p=>(p.1.length<=NB/\∀r∈p.1,OkRl r)/\p.2.length<=NB/\∀c∈p.2,c.length=5):=
 (D5 bulk_ok Tryz.underlying33 (L:=2) Wk (Bm rfl (n:=1) Wk oRls (Bm rfl (n:=1) Wk oIfs E6))).to
  (fun p=>(p.1,p.2.1.map (fun s=>[vs s,.junk,.junk,.junk,.junk]))) (fun _ h=>⟨rfl,h.1,by rw[BK];exact h.2.1,fun c hc=>by obtain⟨s,_,rfl⟩:=Ax.1 hc;rfl⟩)
theorem oSl:Op enc w 48 Ab (fun y=>y.path.size<=NB):=
 (D5 bulk_ok Tryz.underlying48 (L:=4) Wk (Bm rfl (n:=1) Wk oS (Bm rfl (n:=3) Wk oVer E6))).to
  (fun p=>(⟨p.1,p.2.1⟩:Sl)) (fun _ h=>⟨rfl,h.1⟩)
theorem oSls:Op enc w 34 (fun l:List Sl=>[sl Ab l]) (fun l=>l.length<=NB/\∀y∈l,y.path.size<=NB):=
 Fj bulk_ok Tryz.underlying34 (m:=3) Wk (fun _=>rfl) oSl
theorem oInt:Op enc w 3 (fun n:Int=>[vi n]) Av:=(Rh Tryz.underlying3).to id (fun x h=>⟨rfl,by
  have h1:(-9223372036854775808:Int)<=x:=h.1
  have h2:x<=(9223372036854775807:Int):=h.2
  show -9223372036854775808<=x/\x<9223372036854775808
  omega⟩)
theorem oU8:Op enc w 5 (fun n:Int=>[.v (.int .u8 n)]) (fun n=>0<=n/\n<=255):=(Rh Tryz.underlying5).to id (fun _ h=>⟨rfl,h⟩)
theorem oStg:Op enc w 74 Gc (fun _=>True):=
 (D5 bulk_ok Tryz.underlying74 (L:=2) Wk (Bm rfl (n:=1) Wk oI (Bm rfl (n:=1) Wk oI E6))).to
  (fun p=>(⟨p.1,p.2.1⟩:cH)) (fun _ _=>⟨rfl,trivial⟩)
theorem oStgs:Op enc w 22 (fun l:List cH=>[sl Gc l]) (fun l=>l.length<=NB):=
 (Fj bulk_ok Tryz.underlying22 (m:=1) Wk (fun _=>rfl) oStg).to id (fun _ h=>⟨rfl,h.1⟩)
theorem oStr:Op enc w 9 Go.Eng.Ar (fun s:ByteArray=>s.size<=NB):=oS
theorem oStrs:Op enc w 52 (fun l:List ByteArray=>[sl Go.Eng.Ar l]) (fun l=>l.length<=NB/\∀s∈l,s.size<=NB):=
 Fj bulk_ok Tryz.underlying52 (m:=0) Wk (fun _=>rfl) oStr
abbrev OkWv(v:Wv):Prop:=v.paths.length<=NB/\v.stages.length<=NB
theorem oWv:Op enc w 72 Gu OkWv:=
 (D5 bulk_ok Tryz.underlying72 (L:=2) Wk (Bm rfl (n:=1) Wk oStrs (Bm rfl (n:=1) Wk oStgs E6))).to
  (fun p=>(⟨p.1,p.2.1⟩:Wv)) (fun _ h=>⟨rfl,h.1.1,h.2.1⟩)
theorem oWvs:Op enc w 35 (fun l:List Wv=>[sl Gu l]) (fun l=>l.length<=NB/\∀v∈l,OkWv v):=
 Fj bulk_ok Tryz.underlying35 (m:=1) Wk (fun _=>rfl) oWv
theorem oRo:Op enc w 37 IK (fun r=>r.name.size<=NB/\r.waves.length<=NB/\∀v∈r.waves,OkWv v):=
 (D5 bulk_ok Tryz.underlying37 (L:=2) Wk (Bm rfl (n:=1) Wk oS (Bm rfl (n:=1) Wk oWvs E6))).to
  (fun p=>(⟨p.1,p.2.1⟩:Ro)) (fun _ h=>⟨rfl,h.1,h.2.1⟩)
abbrev OkAd(a:Ad):Prop:=a.id.size<=NB/\a.path.size<=NB/\a.set.length<=NB/\(a.syms.length<=NB/\∀s∈a.syms,s.size<=NB)/\a.note.size<=NB
theorem oAd:Op enc w 54 AM OkAd:=
 (D5 bulk_ok Tryz.underlying54 (L:=5) Wk (Bm rfl (n:=1) Wk oS (Bm rfl (n:=1) Wk oS (Bm rfl (n:=1) Wk oSet (Bm rfl (n:=1) Wk oStrs (Bm rfl (n:=1) Wk oS E6)))))).to
  (fun p=>(⟨p.1,p.2.1,p.2.2.1,p.2.2.2.1,p.2.2.2.2.1⟩:Ad)) (fun _ h=>⟨rfl,h.1,h.2.1,h.2.2.1,h.2.2.2.1,h.2.2.2.2.1⟩)
theorem oCl:Op enc w 55 (fun l:List (List Rq)=>[sl BD l]) (fun l=>l.length<=NB/\∀q∈l,OkRqs q):=
 Fj bulk_ok Tryz.underlying55 (m:=0) Wk (fun _=>rfl) oRqs
theorem few_of{n:Nat}(h:n<=NB):n<=1073741824:=AH h Cl
theorem lim_of{x:List Rl}{roots:List Rq}(h:x.length<=NB/\∀r∈x,OkRl r)(k:OkRqs roots):um x roots where
 ix:=few_of h.1
 rs:=few_of k.1
 rel r hr:=⟨few_of (h.2 r hr).2.1,few_of (h.2 r hr).1,fun q hq=>⟨few_of ((h.2 r hr).2.2 q hq).2,few_of ((h.2 r hr).2.2 q hq).1⟩⟩
 rq q hq:=⟨few_of (k.2 q hq).2,few_of (k.2 q hq).1⟩
theorem lim0_of{x:List Rl}(h:x.length<=NB/\∀r∈x,OkRl r):um x []:=lim_of h ⟨Al _,fun q hq=>by cases hq⟩
theorem limr_of{l m:List Sl}{r:Ro}{user:ByteArray}(h1:l.length<=NB/\∀y∈l,y.path.size<=NB)(h2:m.length<=NB/\∀y∈m,y.path.size<=NB)(h3:r.name.size<=NB/\r.waves.length<=NB/\∀v∈r.waves,OkWv v)(h4:user.size<=NB):Adc l m r user:=
 ⟨h1.1,h2.1,h3.2.1,fun v hv=>(h3.2.2 v hv).2,fun v hv=>(h3.2.2 v hv).1,h3.1,h4⟩
theorem lima_of{a:Ad}{cl:List (List Rq)}(h:OkAd a)(k:cl.length<=NB/\∀q∈cl,OkRqs q):zh a cl:=
 ⟨⟨few_of h.1,few_of h.2.1,few_of h.2.2.1,few_of h.2.2.2.1.1,fun s hs=>few_of (h.2.2.2.1.2 s hs),few_of h.2.2.2.2⟩,few_of k.1,fun q hq=>⟨few_of (k.2 q hq).1,fun z hz=>⟨few_of ((k.2 q hq).2 z hz).2,few_of ((k.2 q hq).2 z hz).1⟩⟩⟩
theorem clone_of{ifs:List (List AV)}(h:ifs.length<=NB/\∀c∈ifs,c.length=5):PC 103 [.slice .none ifs] (.slice .none ifs):=o46 ifs (few_of h.1) h.2
end
theorem ok_agg{P:Program}{W:World}{base:Nat}{t:TypeId}{v:Value}{fs:Array Field}(hu:P.underlying t=some (.struct fs))(h:Value.okWide P W .any base t v):∃cs,v=.agg cs:=by
 unfold Value.okWide at h
 rw[hu]at h
 obtain⟨cs,e,_⟩:=h
 exact⟨cs,e⟩
theorem ok_slice{P:Program}{W:World}{base:Nat}{t e:TypeId}{v:Value}(hu:P.underlying t=some (.slice e))(h:Value.okWide P W .any base t v):v.oneCell'=true:=by
 unfold Value.okWide at h
 rw[hu]at h
 unfold Cell.okWide Cell.ok at h
 rw[hu]at h
 cases v<;>first | rfl | simp at h
theorem ok_int{P:Program}{W:World}{base:Nat}{t:TypeId}{k:IntKind}{v:Value}(hu:P.underlying t=some (.int k))(h:Value.okWide P W .any base t v):v.oneCell'=true:=by
 unfold Value.okWide at h
 rw[hu]at h
 unfold Cell.okWide Cell.ok at h
 rw[hu]at h
 cases v<;>first | rfl | simp at h
theorem ok_string{P:Program}{W:World}{base:Nat}{t:TypeId}{v:Value}(hu:P.underlying t=some .string)(h:Value.okWide P W .any base t v):v.oneCell'=true:=by
 unfold Value.okWide at h
 rw[hu]at h
 unfold Cell.okWide Cell.ok at h
 rw[hu]at h
 cases v<;>first | rfl | simp at h
theorem int_of_shape{P:Program}{w:World}{g:Nat}{t:TypeId}{k:IntKind}{zero:Array Value}(h:w.ShapedOpen P)(hg:g<P.globals.size)
  (h0:((begin P (fun _ _=>0) default).world.heap[g]?).bind Obj.row?=some (zero,t)) (hz:zero.size=1)
  (hb:P.buildable t=true) (hc:P.cellTypes P.depth t=some [t]) (hu:P.underlying t=some (.int k)):∃p,w.cell? ⟨g,0,none⟩=some (.int k p):=by
 obtain⟨cs,hh,hs,hr⟩:=h.1 g zero t hg h0
 obtain⟨ts,hts,_,Gd⟩:=hr hb
 rw[hc]at hts
 cases hts
 have h1:0<cs.size:=by omega
 obtain⟨u,nN,GG⟩:=Gd 0 cs[0] (by simp[h1])
 have:u=t:=by simpa using nN.symm
 subst this
 have DN:w.cell? ⟨g,0,none⟩=some cs[0]:=by simp[World.cell?,hh,h1]
 rw[DN]
 unfold Cell.ok at GG
 rw[hu]at GG
 cases hv:cs[0]<;>rw[hv]at GG<;>simp at GG
 obtain⟨rfl,_⟩:=GG
 exact⟨_,rfl⟩
theorem maxLen_cell{W:World}(h:W.ShapedOpen Tryz.prog):∃m,W.cell? ⟨0,0,none⟩=some (.int .i64 m):=
 int_of_shape (t:=3) (zero:=#[.int .i64 0]) h (AW Wk) Wk rfl Wk Wk Tryz.underlying3
def Start(W:World):Prop:=(∃m,W.cell? ⟨0,0,none⟩=some (.int .i64 m))/\∀x∈m6,x.1<W.heap.size/\W.cell? ⟨x.1,x.2.1,none⟩=x.2.2
theorem start_of {W : World} {r : List (String × DataW Unit)} {a b : String × DataW Unit} (h : W.ShapedOpen Tryz.prog) (hl : laidMet Tryz.prog (a :: b :: ("internal/strconv.uint64pow10", Rows.laid_internal_strconv_uint64pow10) :: r) W) : Start W := by
 refine⟨maxLen_cell h,?_⟩
 have ht : Go.Lib.TabIs Tryz.prog W "internal/strconv.uint64pow10" .u64 ((List.range 20).map fun i => ((10 ^ i : Nat) : Int)):=
  Go.Lib.tabIs_of_head (g:=1) (t:=355) (e:=98) (n:=20) Wk Wk Wk Wk Wk Wk hl.tail.tail
 have hc := fun i => World.var?_cell (P := Tryz.prog) (n := "internal/strconv.uint64pow10") (g := 1) Wk ht i
 have h0:1<W.heap.size:=Yr (v:=.int .u64 1) ((hc 0).trans rfl)
 intro x hx
 rcases AU.1 hx with rfl | hx
 .exact⟨h0,(hc 20).trans rfl⟩
 .obtain⟨i,hi,rfl⟩:=Ax.1 hx
  have hi:=KX.1 hi
  refine⟨h0,(hc i).trans ?_⟩
  simp[hi]
def Still(W W' : World):Prop:=W'.os=W.os/\W'.output=W.output/\W.heap.size<=W'.heap.size/\∀b,b<W.heap.size->W'.heap[b]?=W.heap[b]?
theorem run_true{f:Nat}{args:List AV}{vals:Array Value}{W:World}(hc:PC f args (vb true))(hM:Start W)(hs:vals.size=args.length)
  (hr:∀(i:Nat) (av:AV) (x:Value),args[i]?=some av->vals[i]?=some x->Ba (m5 W) W Fp av x):Calls Tryz.prog f vals W fun e W'=>e=.returned (.bool true)/\Still W W':=by
 refine(hc.2 (m5 W) W vals hs (fun i av x q1 q2=>(hr i av x q1 q2).up _) (AaQ hM.1 hM.2)).mono fun e W' ⟨v,r,h',g',e1,e2,e3,e4,_⟩=>?_
 subst e1
 obtain⟨rfl,rfl⟩:=e2
 obtain rfl:=e3.v_eq
 exact⟨rfl,e4.os,e4.output,e4.size,fun b hb=>e4.frame b hb (fun r h=>h.elim)⟩
theorem Still.kept{W W' : World}(h:Still W W')(may:MemPlace->Prop):W.keptBut W' may:=by
 refine⟨h.1,h.2.1,fun i hi=>?_⟩
 rw[h.2.2.2 i hi]
 cases hh:W.heap[i]? with
 |none=>rfl
 |some o=>cases o<;>simp
theorem Still.same{W W' : World}(h:Still W W'){p:MemPlace}(hp:p.block<W.heap.size):W.sameAt W' p:=by
 cases p with
 |cell b off=>
  show W'.cell? ⟨b,off,none⟩=W.cell? ⟨b,off,none⟩
  unfold World.cell?
  rw[h.2.2.2 b hp]
 |map b=>exact h.2.2.2 b hp
theorem kids:Kids Tryz.prog (· < Tryz.prog.types.size):=kids_rows Wk Wk
theorem full:∀t e,t<Tryz.prog.types.size->Tryz.prog.underlying t=some (.slice e)->0<Tryz.prog.cellsOf e:=slices_full_of Tryz.prog Wk
theorem carry{H:Type}{enc:TypeId×Value->H}{W W' : World}(h:Still W W'):∀{ts:List TypeId} {vs:List Value} {ds:List (DataW H)} {ps:List MemPlace},DataW.TrodAll enc Tryz.prog W 0 (fun _=>true) true ts vs ds ps->DataW.TrodAll enc Tryz.prog W' 0 (fun _=>true) true ts vs ds ps
 | [],[],[],_,e=>e
 |t::ts,v::vs,d::ds,ps,k=>by
  have E3:=k.lt
  obtain⟨p,q,⟨n,h1⟩,h2,rfl⟩:=k
  exact⟨p,q,⟨n,DataW.trod_carry n _ _ _ h1 (fun x hx=>h.same (E3 x (Cv _ hx)))⟩,carry h h2,rfl⟩
 | [],[],_::_,_,k=>k.elim
 | [],_::_,_,_,k=>k.elim
 |_::_,[],_,_,k=>k.elim
 |_::_,_::_,[],_,k=>k.elim
theorem post_true{H:Type}{enc:TypeId×Value->H}{W W' : World}{f:Func}{s:ChangeSpec}{args:Array Value}{ds:List (DataW H)}{before:List MemPlace}(KR:Still W W')(hv:s.vars=[])
  (hW:DataW.Whole enc Tryz.prog f.params.toList s.vars false W args.toList ds [] before) (hr:f.resultTypes=#[4]) (hT:∀t∈f.params.toList,t<Tryz.prog.types.size) (hs:s.fn H ds={ results:=[.lit (.bool true)],args:=ds }) :
  s.post enc Tryz.prog f false true false false W args (.bool true) W':=by
 have hW0:=hW
 obtain⟨p,q,hA,hV,rfl,hz,_⟩:=hW
 rw[hv]at hV
 have hq:q=[]:=hV
 subst hq
 have E3:=hW0.lt
 have wX:s.fn H (ds++[])={ results:=[.lit (.bool true)],args:=ds }:=by rw[BG];exact hs
 refine⟨ds,[],p++[],[],p,[],hW0,?_,?_,?_,KR.kept _,fun h=>by cases h⟩
 .rw[wX,hr]
  exact⟨[],[],⟨1,by rw[show(Value.bool true).cells.toList=[.bool true]from rfl,DataW.trod_step];unfold DataW.trodStep;rw[Tryz.underlying4]⟩,rfl,rfl⟩
 .rw[wX]
  exact(carry KR hA).respare kids full hT (fun x hx=>by simpa using E3 x (Cv _ hx))
 .rw[wX,hv];rfl
end Go.Proofs.YteaiieomnhbmgaaGreatDoor.joins
namespace Go.Proofs.YteaiieomnhbmgaaGreatDoor.joins
open Go Go.Eng Go.Proofs Go.ChangeShapes Go.WideShapes Go.ChangeAt Go.RowKit
theorem own:ownKnob Tryz.prog.godebug=none:=by kernel_rfl
def flatD:Nat->DataW Unit->List Value
 |0,_=>[]
 |n+1,.agg l=>l.flatMap (flatD n)
 |_+1,.lit (.int k i)=>[.int k i]
 |_+1,_=>[]
def layIn(d:DataW Unit):Obj->Obj
 |.cells _ t frozen=>.cells (flatD 4 d).toArray t frozen
 |o=>o
noncomputable def laidWorld(os:Os):World:=
 { World.holding Tryz.prog os ⟨#[],#[],[]⟩with heap:=((((((World.holding Tryz.prog os ⟨#[],#[],[]⟩).heap.modify 2 (layIn Rows.laid_math_bits_deBruijn32tab)).modify 3 (layIn Rows.laid_math_bits_deBruijn64tab)).modify 4 (layIn Rows.laid_unicode_utf8_first)).modify 5 (layIn Rows.laid_unicode_utf8_acceptRanges)).modify 1 (layIn Rows.laid_internal_strconv_uint64pow10)) }
abbrev nilV:Value:=.slice none 0 0
theorem arr1{args:Array Value}{a:Value}(h:args.toList=[a]):args=#[a]:=by
 cases args;simp_all
theorem arr2{args:Array Value}{a b:Value}(h:args.toList=[a,b]):args=#[a,b]:=by
 cases args;simp_all
theorem arr3{args:Array Value}{a b c:Value}(h:args.toList=[a,b,c]):args=#[a,b,c]:=by
 cases args;simp_all
theorem arr4{args:Array Value}{a b c d:Value}(h:args.toList=[a,b,c,d]):args=#[a,b,c,d]:=by
 cases args;simp_all
theorem arr5{args:Array Value}{a b c d e:Value}(h:args.toList=[a,b,c,d,e]):args=#[a,b,c,d,e]:=by
 cases args;simp_all
theorem arr6{args:Array Value}{a b c d e f:Value}(h:args.toList=[a,b,c,d,e,f]):args=#[a,b,c,d,e,f]:=by
 cases args;simp_all
theorem arr7{args:Array Value}{a b c d e f g:Value}(h:args.toList=[a,b,c,d,e,f,g]):args=#[a,b,c,d,e,f,g]:=by
 cases args;simp_all
theorem looksOff:false=Tryz.pinned.checked.prog.looks []:=by kernel_rfl
theorem noStand:∀t∈([3,5,9,22,33,34,37,54,55]:List Nat),Tryz.pinned.checked.prog.wantsStandIn t=false:=by
 intro t ht
 simp only[AU,Mi,or_false]at ht
 rcases ht with rfl | rfl | rfl | rfl | rfl | rfl | rfl | rfl | rfl<;>exact(show Tryz.prog.wantsStandIn _=false by kernel_rfl)
end Go.Proofs.YteaiieomnhbmgaaGreatDoor.joins
namespace Go.Eng
open Go.Proofs Go.Proofs.Tryz
variable {l:List CS}{i:Nat}(p:CS)(a:Ad)(v:Ver)(s:List (Int×Int))(r:Rl)
theorem Acp(h:Be v=true):PC 125 [.agg (CC v)] (vi (plc v)):=by
 have h1:=h;unfold Be at h1;simp only[Am]at h1;have a2:okPart v.b:=AW h1.1.2;have a3:okPart v.c:=AW h1.2;unfold okPart at a2 a3;refine Ps (pC [1] []) func125 rfl (Nz rfl) (Yi (by show Av ((1000:Int)*(v.b:Int));unfold Av;omega) (Yi (by show Av ((1000*v.b:Int)+(v.c:Int));unfold Av;omega) ?_));exact .of_eq (show vi (1000*v.b+v.c)=vi (plc v) by unfold plc;rw[Ay h];rfl)
theorem Tr(s:CS)(hs:ED s):PC 239 [vs s] (vb (KB s)):=by
 refine Ps C3 func239 rfl (Nz rfl) (Yi (fun h1=>?_) (fun h1=>?_))
 .have h1:(1:Int)<=(s.size:Int):=h1;refine Yi (fun h2=>?_) (fun h2=>?_)
  .have h2:(s.size:Int)<=(32:Int):=h2;exact BM.of_eq (Aa vb (show true=KB s by rw[KB,At (p:=1<=s.size) (by have q:=h1;omega),At (p:=s.size<=32) (by have q:=h2;omega)];rfl))
  have h2:¬((s.size:Int)<=(32:Int)):=h2;exact BM.of_eq (Aa vb (show false=KB s by rw[KB,At (p:=1<=s.size) (by have q:=h1;omega),Aj (p:=s.size<=32) (by have q:=h2;omega)];rfl))
 have h1:¬((1:Int)<=(s.size:Int)):=h1;exact BM.of_eq (Aa vb (show false=KB s by rw[KB,Aj (p:=1<=s.size) (by have q:=h1;omega)];rfl))
theorem OJ(h:∀j (hj:j<l.length),j<i->KB l[j]=true)(hi:l.length<=i):(l.any fun s=>!KB s)=false:=by
 rw[qW,da h hi];rfl
theorem Ab1(h:i<l.length)(k:KB l[i]=false):(l.any fun s=>!KB s)=true:=by
 rw[qW,TC h k];rfl
theorem Acg(ha:FL a)(c0:A5 a.path=none):PC 174 [.agg (AM a)] (vi (KI a)):=by
 refine Ps (pC [1] []) func174 rfl (Nz rfl) (C1 (C2 (by have q:=vY a.path ha.path;rw[show PS QZ a.path=.tup [vs ⟨#[]⟩,vi 0,vi 4] by rw[PS,c0]]at q;exact q) ?_));refine Yi (fun _=>?_) (fun h=>absurd Cl h);exact BM.of_eq (Aa vi (show 4=KI a from(Nh (by rw[Mc,c0];rfl)).symm))
theorem Ach(ha:FL a)(m:Int)(c0:A5 a.path=some m):PC 174 [.agg (AM a)] (vi (KI a)):=by
 have hf1:a.id.size<=1073741824:=ha.id;have hf2:a.set.length<=1073741824:=ha.set;have uJ:a.syms.length<=1073741824:=ha.syms;have hf4:a.note.size<=1073741824:=ha.note;refine Ps (pC [1] [3,4,10,11,13,15]) func174 rfl (Nz rfl) (C1 (C2 (by have q:=vY a.path ha.path;rw[show PS QZ a.path=.tup [vs (QZ a.path),vi m,vi 0] by rw[PS,c0]]at q;exact q) ?_));refine Yi (fun h=>absurd h Cl) (fun _=>?_);refine AN (Bt (KB a.id)) (fun h1=>?_) (fun h1=>?_)
 .have h1:(KB a.id)=true:=h1;refine C1 (C2 (cb h1 (Tr a.id ha.id)) (cU [(1,.ref 1 0)] [(1,.ro (AM a))] Z1 Z1 (Xi {q:Nat // q<=a.syms.length/\∀j (hj:j<a.syms.length),j<q->KB a.syms[j]=true} (Xi (fun q=>⟨[(1,.ref 1 0),(6,vi q.1)],[(1,.ro (AM a))],Ac⟩) (Xi (fun q=>a.syms.length-q.1) (Yi (Xi ⟨0,Al _,fun _ _ h=>absurd h (DB _)⟩ ?_) ?_))))))
  .exact⟨Z2,Z1,Fh,Tv⟩
  intro⟨k,k1,k2⟩;have k1:k<=a.syms.length:=k1;have k2:∀j (hj:j<a.syms.length),j<k->KB a.syms[j]=true:=k2;refine Yi (fun h2=>?_) (fun h2=>?_)
  .have h2:(k:Int)<((a.syms.map Ar).length:Int):=h2;have n2:=DK h2;have hsk:=ha.sym _ (Ae n2);refine Xi (Ar a.syms[k]) (Yi (FJ n2) (Yi rfl (AN (Bt (KB a.syms[k])) (fun h3=>?_) (fun h3=>?_))))
   .have h3:(KB a.syms[k])=true:=h3;refine C1 (C2 (cb h3 (Tr a.syms[k] (ha.sym _ (Ae n2)))) (Yi (Ii k ch) ?_));refine Xi ⟨k+1,n2,fun j hj FI=>by
      rcases B2 j k with e | e
      .exact k2 j hj e
      .have e:j=k:=by omega
       subst e;exact h3⟩ ?_
    exact⟨Dl a.syms.length k ch,Z2,Z1,Fh,Tv⟩
   have h3:(KB a.syms[k])=false:=h3;refine C1 (C2 (cb h3 (Tr a.syms[k] (ha.sym _ (Ae n2)))) ?_);exact BM.of_eq (Aa vi (show 4=KI a from(Nh (lJ (Ab1 n2 h3))).symm))
  have h2:¬((k:Int)<((a.syms.map Ar).length:Int)):=h2;have n2:=B5 h2;refine Yi (fun h6=>?_) (fun h6=>?_)
  .have h6:((a.set.map Ag).length:Int)=(0:Int):=h6;refine Yi Wk (cU [] [] Tv Tv ?_)
   exact BM.of_eq (Aa vi (show 1=KI a from(KJ (Kp c0 h1 (OJ k2 (AO (B5 h2)))) (.inl (by have q:=h6;rw[Lm]at q;omega))).symm))
  have h6:¬(((a.set.map Ag).length:Int)=(0:Int)):=h6;refine C2 (rl a.set ha.set) (AN (Bt (decide (a.set=canon a.set))) (fun h8=>?_) (fun h8=>?_))
  .have h8:(decide (a.set=canon a.set))=true:=h8;refine C2 (cb h8 (c75 a.set (canon a.set) ha.set)) (Yi (fun h9=>?_) (fun h9=>?_))
   .have h9:((a.syms.map Ar).length:Int)=(0:Int):=h9;refine Yi Wk (cU [] [] Tv Tv ?_)
    exact BM.of_eq (Aa vi (show 1=KI a from(KJ (Kp c0 h1 (OJ k2 (AO (B5 h2)))) (.inr (.inr (.inl (by have q:=h9;rw[Lm]at q;omega))))).symm))
   have h9:¬(((a.syms.map Ar).length:Int)=(0:Int)):=h9;refine Yi (fun FH=>?_) (fun FH=>?_)
   .have FH:(1024:Int)<((a.syms.map Ar).length:Int):=FH;have n11:1024<a.syms.length:=by have q:=FH;rw[Lm]at q;omega
    refine Yi Wk (cU [] [] Tv Tv ?_)
    exact BM.of_eq (Aa vi (show 1=KI a from(KJ (Kp c0 h1 (OJ k2 (AO (B5 h2)))) (.inr (.inr (.inr (.inl (by have q:=FH;rw[Lm]at q;omega)))))).symm))
   have FH:¬((1024:Int)<((a.syms.map Ar).length:Int)):=FH;have n11:¬1024<a.syms.length:=by have q:=FH;rw[Lm]at q;omega
   refine Yi (fun K9=>?_) (fun K9=>?_)
   .have K9:(65536:Int)<(a.note.size:Int):=K9;refine Yi Wk (cU [] [] Tv Tv ?_)
    exact BM.of_eq (Aa vi (show 1=KI a from(KJ (Kp c0 h1 (OJ k2 (AO (B5 h2)))) (.inr (.inr (.inr (.inr (by have q:=K9;omega)))))).symm))
   have K9:¬((65536:Int)<(a.note.size:Int)):=K9;refine Yi Wk (cU [(1,.ref 1 0)] [(1,.ro (AM a))] Z1 Z1 (Xi {q:Nat // 1<=q/\∀j (hj:j+1<a.syms.length),j+1<q->Dz a.syms[j] a.syms[j+1]=true} (Xi (fun q=>⟨[(1,.ref 1 0),(7,vi q.1)],[(1,.ro (AM a))],Ac⟩) (Xi (fun q=>a.syms.length-q.1) (Yi (Xi ⟨1,Ap _,fun j hj h=>absurd h ch⟩ ?_) ?_)))))
   .exact⟨Z2,Z1,Fh,Tv⟩
   intro⟨i,i1,i2⟩;have i1:1<=i:=i1;have i2:∀j (hj:j+1<a.syms.length),j+1<i->Dz a.syms[j] a.syms[j+1]=true:=i2;refine Yi (fun Tb=>?_) (fun Tb=>?_)
   .have Tb:(i:Int)<((a.syms.map Ar).length:Int):=Tb;have n15:=DK Tb;refine Xi (Ar (a.syms[i]' ch)) (Yi (FJ n15) (Yi rfl (Yi (by show Av ((i:Int)-(1:Int));unfold Av;omega) (Xi (Ar (a.syms[i-1]' ch)) (Yi (Yi (show(0:Int)<=(i:Int)-1 by omega) (by rw[show((i:Int)-1).toNat=i-1 by omega];exact Ed (Ge ch))) (Yi rfl ?_))))));refine Yi (fun Ha=>?_) (fun Ha=>?_)
    .have Ha:Dz (a.syms[i-1]' ch) (a.syms[i]' ch)=false:=(Ec _ _).trans Ha;refine Yi Wk (cU [] [] Tv Tv ?_)
     exact BM.of_eq (Aa vi (show 1=KI a from((X7 (Kp c0 h1 (OJ k2 (AO (B5 h2)))) (by have q:=h6;rw[Lm]at q;omega) (AW h8) (by have q:=h9;rw[Lm]at q;omega) (by have q:=FH;rw[Lm]at q;omega) (by have q:=K9;omega)).trans (Az (by rw[Yg (i:=i-1) (by rw[Pf ch];simp only[show i-1+1=i by omega,Ha];rfl)];decide))).symm))
    have Ha:Dz (a.syms[i-1]' ch) (a.syms[i]' ch)=true:=(Ec _ _).trans (by simpa using Ha);refine Yi Wk (cU [(1,.ref 1 0),(7,vi i)] [(1,.ro (AM a))] Z2 Z1 (Yi (Ii i ch) ?_));have hi:i<a.syms.length:=n15;refine Xi ⟨i+1,by omega,ZV hi i1 i2 Ha⟩ ?_;exact⟨Dl a.syms.length i ch,Z2,Z1,Fh,Tv⟩
   have Tb:¬((i:Int)<((a.syms.map Ar).length:Int)):=Tb;have n15:=B5 Tb;exact BM.of_eq (Aa vi (show 0=KI a from((X7 (Kp c0 h1 (OJ k2 (AO (B5 h2)))) (by have q:=h6;rw[Lm]at q;omega) (AW h8) (by have q:=h9;rw[Lm]at q;omega) (by have q:=FH;rw[Lm]at q;omega) (by have q:=K9;omega)).trans (Ay (Yf (fun j hj=>i2 j hj (by have q:=B5 Tb;omega)) _ 0 (ET _)))).symm))
  have h8:(decide (a.set=canon a.set))=false:=h8;refine C2 (cb h8 (c75 a.set (canon a.set) ha.set)) (Yi Wk (cU [] [] Tv Tv ?_))
  exact BM.of_eq (Aa vi (show 1=KI a from(KJ (Kp c0 h1 (OJ k2 (AO (B5 h2)))) (.inr (.inl (Km h8)))).symm))
 have h1:(KB a.id)=false:=h1;refine C1 (C2 (cb h1 (Tr a.id ha.id)) (cU [] [] Tv Tv ?_))
 exact BM.of_eq (Aa vi (show 4=KI a from(Nh (by rw[Mc,h1,Eg];rfl)).symm))
theorem Ahb(ha:FL a):PC 174 [.agg (AM a)] (vi (KI a)):=by
 cases c0:A5 a.path with
 |none=>exact Acg a ha c0
 |some m=>exact Ach a ha m c0
theorem iK(l:List Ad)(hl:BJ l)(SI:∀a∈l,FL a):PC 114 [sl AM l] (vi (Gj l)):=by
 have hl:l.length<=1073741824:=hl;refine Ps C3 func114 rfl (Nz rfl) (Xi {q:Nat // q<=l.length/\Gj (l.drop q)=Gj l} (Xi (fun q=>⟨[(0,sl AM l),(3,vi q.1)],[],Ac⟩) (Xi (fun q=>l.length-q.1) (Yi (Xi ⟨0,Al _,rfl⟩ ?_) ?_))))
 .exact⟨Z2,Tv,Fh,Tv⟩
 intro⟨i,i1,i2⟩;have i1:i<=l.length:=i1;have i2:Gj (l.drop i)=Gj l:=i2;refine Yi (fun h1=>?_) (fun h1=>?_)
 .have h1:(i:Int)<((l.map AM).length:Int):=h1;have n1:=DK h1;refine Xi (AM l[i]) (Yi (FJ n1) (Yi rfl (yN (C1 (C2 (Ahb l[i] (SI _ (Ae n1))) (Yi (fun h2=>?_) (fun h2=>?_)))))))
  .have h2:((KI l[i]):Int)≠(0:Int):=h2;exact BM.of_eq (Aa vi (show(KI l[i])=Gj l by rw[<-i2,lK n1 h2]))
  have h2:((KI l[i]):Int)=(0:Int):=Aq h2;refine Yi (Ii i ch) (Xi ⟨i+1,n1,by rw[<-i2,lL n1 h2]⟩ ?_);exact⟨Dl l.length i ch,Z2,Tv,Fh,Tv⟩
 have h1:¬((i:Int)<((l.map AM).length:Int)):=h1;have n1:=B5 h1;exact BM.of_eq (Aa vi (show 0=Gj l by rw[<-i2,Bq (AO (B5 h1))];rfl))
def fj:Bool:=decide (p=r.path)&&has s (plc r.ver)
theorem iM(hs:BJ s)(hv:Be r.ver=true):PC 175 [.agg [vs p,sl Ag s],.agg (Ah r)] (vb (fj p s r)):=by
 refine Ps (pC [2,3] []) func175 rfl (Nz rfl) (Yi (fun h1=>?_) (fun h1=>?_))
 .have h1:(p:CS)=r.path:=h1;refine yN (C2 (Acp r.ver hv) (AN (Bt (has s (plc r.ver))) (fun h2=>?_) (fun h2=>?_)))
  .have h2:(has s (plc r.ver))=true:=h2;refine C2 (cb h2 (VX s (plc r.ver) hs)) (Yi Wk ?_);exact BM.of_eq (Aa vb (show true=fj p s r by rw[fj,At h1,h2];rfl))
  have h2:(has s (plc r.ver))=false:=h2;refine C2 (cb h2 (VX s (plc r.ver) hs)) (Yi Wk ?_);exact BM.of_eq (Aa vb (show false=fj p s r by rw[fj,At h1,h2];rfl))
 have h1:¬(p:CS)=r.path:=h1;refine Yi Wk ?_;exact BM.of_eq (Aa vb (show false=fj p s r by rw[fj,Aj h1];rfl))
theorem vf{a:Ad}{r:Rl}(hv:Be r.ver=true):fj a.path a.set r=Hg a (OY r):=by
 have hp:plc r.ver=place r.ver:=by rw[plc,hv];rfl
 show(decide (a.path=r.path)&&has a.set (plc r.ver))=(Be r.ver&&decide (r.path=a.path)&&has a.set (place r.ver));rw[hv,hp,Bool.true_and,show decide (a.path=r.path)=decide (r.path=a.path)from decide_eq_decide.2 ⟨Eq.symm,Eq.symm⟩]
theorem AbK{l:List Ad}{r:Rl}(hv:Be r.ver=true)(h:∀j (hj:j<l.length),j<i->fj l[j].path l[j].set r=false)(hi:l.length<=i):IT l (OY r)=false:=Gn.2 fun a ha=>by
 obtain⟨j,hj,rfl⟩:=Cw.1 ha;rw[<-vf hv,h j hj ch];exact B7
theorem xN{l:List Ad}{r:Rl}(hv:Be r.ver=true)(hi:i<l.length)(h:fj l[i].path l[i].set r=true):IT l (OY r)=true:=BC.2 ⟨l[i],Ae hi,by rw[<-vf hv];exact h⟩
theorem iL(l:List Ad)(hl:BJ l)(SI:∀a∈l,FL a)(hv:Be r.ver=true):PC 115 [.agg (Ah r),sl AM l] (vb (IT l (OY r))):=by
 have hl:l.length<=1073741824:=hl;refine Ps (pC [2] []) func115 rfl (Nz rfl) (Xi {q:Nat // q<=l.length/\∀j (hj:j<l.length),j<q->fj l[j].path l[j].set r=false} (Xi (fun q=>⟨[(1,sl AM l),(2,.ref 2 0),(5,vi q.1)],[(2,.ro (Ah r))],Ac⟩) (Xi (fun q=>l.length-q.1) (Yi (Xi ⟨0,Al _,fun _ _ h=>absurd h (DB _)⟩ ?_) ?_))))
 .exact⟨Z3,Z1,Fh,Tv⟩
 intro⟨i,i1,i2⟩;have i1:i<=l.length:=i1;have i2:∀j (hj:j<l.length),j<i->fj l[j].path l[j].set r=false:=i2;refine Yi (fun h1=>?_) (fun h1=>?_)
 .have h1:(i:Int)<((l.map AM).length:Int):=h1;have n1:=DK h1;refine Xi (AM l[i]) (Yi (FJ n1) (Yi rfl (Xi (AM l[i]) (Yi (FJ n1) (Yi rfl (yN (AN (Bt (fj l[i].path l[i].set r)) (fun h2=>?_) (fun h2=>?_))))))))
  .have h2:(fj l[i].path l[i].set r)=true:=h2;refine C2 (cb h2 (iM l[i].path l[i].set r (SI _ (Ae n1)).set hv)) (Yi Wk ?_);exact BM.of_eq (Aa vb (show true=IT l (OY r)from(xN hv n1 h2).symm))
  have h2:(fj l[i].path l[i].set r)=false:=h2;refine C2 (cb h2 (iM l[i].path l[i].set r (SI _ (Ae n1)).set hv)) (Yi Wk (Yi (Ii i ch) ?_));refine Xi ⟨i+1,n1,fun j hj FI=>by
    rcases B2 j i with e | e
    .exact i2 j hj e
    .have e:j=i:=by omega
     subst e;exact h2⟩ ?_
  exact⟨Dl l.length i ch,Z3,Z1,Fh,Tv⟩
 have h1:¬((i:Int)<((l.map AM).length:Int)):=h1;have n1:=B5 h1;exact BM.of_eq (Aa vb (show false=IT l (OY r)from(AbK hv i2 (AO (B5 h1))).symm))
theorem uf:PC 178 [.agg (CC v)] (.tup [vi (plc v),vi (if Be v then 0 else 2)]):=by
 refine Ps (pC [1] []) func178 rfl (Nz rfl) (yN (AN (Bt (Be v)) (fun h1=>?_) (fun h1=>?_)))
 .have h1:(Be v)=true:=h1;have hvp:=E2 h1;refine C1 (C2 (cb h1 (md v)) (Yi (by show Av ((1000:Int)*(v.b:Int));unfold Av;omega) (Yi (by show Av ((1000*v.b:Int)+(v.c:Int));unfold Av;omega) ?_)));exact BM.of_eq (show AV.tup [vi ((1000*v.b)+v.c),vi 0]=_ by rw[plc,h1];rfl)
 have h1:(Be v)=false:=h1;refine C1 (C2 (cb h1 (md v)) ?_);exact BM.of_eq (show AV.tup [vi 0,vi 2]=_ by rw[plc,h1];rfl)
theorem ZA(s:List Sl)(ha:BJ a.set)(hs:BJ s):PC 120 [.agg (AM a),sl Ab s] (vb (s.any (Hg a))):=by
 have hs:s.length<=1073741824:=hs;refine Ps (pC [2] []) func120 rfl (Nz rfl) (Xi {q:Nat // q<=s.length/\∀j (hj:j<s.length),j<q->Hg a s[j]=false} (Xi (fun q=>⟨[(1,sl Ab s),(2,.ref 2 0),(5,vi q.1)],[(2,.ro (AM a))],Ac⟩) (Xi (fun q=>s.length-q.1) (Yi (Xi ⟨0,Al _,fun _ _ h=>absurd h (DB _)⟩ ?_) ?_))))
 .exact⟨Z3,Z1,Fh,Tv⟩
 intro⟨i,i1,i2⟩;have i1:i<=s.length:=i1;have i2:∀j (hj:j<s.length),j<i->Hg a s[j]=false:=i2;refine Yi (fun h1=>?_) (fun h1=>?_)
 .have h1:(i:Int)<((s.map Ab).length:Int):=h1;have n1:=DK h1;refine Xi (Ab s[i]) (Yi (FJ n1) (Yi rfl (yN (C1 (C2 (uf s[i].ver) (Yi (fun h2=>?_) (fun h2=>?_)))))))
  .have h2:((if Be s[i].ver then 0 else 2):Int)=(0:Int):=h2;refine Xi (Ab s[i]) (Yi (FJ n1) (Yi rfl (Yi (fun h3=>?_) (fun h3=>?_))))
   .have h3:(s[i].path:CS)=a.path:=h3;refine AN (Bt (has a.set (plc s[i].ver))) (fun h4=>?_) (fun h4=>?_)
    .have h4:(has a.set (plc s[i].ver))=true:=h4;refine C2 (cb h4 (VX a.set (plc s[i].ver) ha)) (Yi Wk ?_);exact BM.of_eq (Aa vb (show true=s.any (Hg a)from(BC.2 ⟨s[i],Ae n1,(by rw[Hg,y9 h2,At h3,show place s[i].ver=plc s[i].ver by rw[plc,y9 h2];rfl,h4];rfl)⟩).symm))
    have h4:(has a.set (plc s[i].ver))=false:=h4;refine C2 (cb h4 (VX a.set (plc s[i].ver) ha)) (Yi Wk (Yi (Ii i ch) ?_));refine Xi ⟨i+1,n1,fun j hj FI=>by
      rcases B2 j i with e | e
      .exact i2 j hj e
      .have e:j=i:=by omega
       have c:Hg a s[i]=false:=(by rw[Hg,y9 h2,At h3,show place s[i].ver=plc s[i].ver by rw[plc,y9 h2];rfl,h4];rfl);subst e;exact c⟩ ?_
    exact⟨Dl s.length i ch,Z3,Z1,Fh,Tv⟩
   have h3:¬(s[i].path:CS)=a.path:=h3;refine Yi Wk (Yi (Ii i ch) ?_);refine Xi ⟨i+1,n1,fun j hj FI=>by
     rcases B2 j i with e | e
     .exact i2 j hj e
     .have e:j=i:=by omega
      have c:Hg a s[i]=false:=(by rw[Hg,Aj h3,Eg];rfl);subst e;exact c⟩ ?_
   exact⟨Dl s.length i ch,Z3,Z1,Fh,Tv⟩
  have h2:¬(((if Be s[i].ver then 0 else 2):Int)=(0:Int)):=h2;refine Yi Wk (Yi (Ii i ch) ?_);refine Xi ⟨i+1,n1,fun j hj FI=>by
    rcases B2 j i with e | e
    .exact i2 j hj e
    .have e:j=i:=by omega
     have c:Hg a s[i]=false:=(by rw[Hg,Ab2 h2];rfl);subst e;exact c⟩ ?_
  exact⟨Dl s.length i ch,Z3,Z1,Fh,Tv⟩
 have h1:¬((i:Int)<((s.map Ab).length:Int)):=h1;have n1:=B5 h1;exact BM.of_eq (Aa vb (show false=s.any (Hg a)from(Gn.2 fun y hy=>by obtain⟨j,hj,rfl⟩:=Cw.1 hy;rw[i2 j hj (by have q:=B5 h1;omega)];exact B7).symm))
end Go.Eng
