/- Lemmas 30. -/
import Derived.Test.YteaiieomnhbmgaaGreatDoorAA29
import Derived.Test.YteaiieomnhbmgaaGreatDoorCards
import Derived.Test.YteaiieomnhbmgaaGreatDoorTie
import Derived.ProofKit
import Derived.OpenShut
import Derived.Deep.DeepHandedRow
import Derived.Lib.LaidTab
import Derived.Stop.LaidErr
set_option maxHeartbeats 4000000
namespace Go.Eng
open Go.Proofs Go.Proofs.Tryz
variable (p:CS)
deriving instance DecidableEq for Bk
theorem uJ{x y:Bk}:qD (BH x) (BH y)↔x=y:=by
 obtain⟨c,⟨a1,a2,a3⟩,e⟩:=x;obtain⟨c',⟨b1,b2,b3⟩,e'⟩:=y;constructor
 .intro h;have h:((c:Nat):Int)=(c' : Nat)/\a1=b1/\a2=b2/\a3=b3/\e=e'/\True:=h;obtain⟨h1,h2,h3,h4,h5,_⟩:=h;rw[Int.natCast_inj.1 h1,h2,h3,h4,h5]
 .intro h;cases h;exact⟨rfl,rfl,rfl,rfl,rfl,trivial⟩
theorem z33(l m:List (Bk))(hl:BD l):PC 33 [sl BH l,sl BH m] (vb (decide (l=m))):=by
 refine Ps CQ func33 rfl C4 (J ?_ ?_)
 .intro h;have h:¬((l.map BH).length:Int)=(m.map BH).length:=h
  have:l≠m:=fun e=>h (by rw[e])
  rw[Aw this];exact .refl _
 .intro h;have h:¬((l.map BH).length:Int)≠(m.map BH).length:=h;have Dr:l.length=m.length:=by simp at h;omega
  refine I {i:Nat // i<=l.length/\l.take i=m.take i} (I (fun i=>⟨[(0,sl BH l),(1,sl BH m),(12,vi (l.map BH).length),(13,vi i.1)],[],Ae⟩) (I (fun i=>l.length-i.1) (J (I ⟨0,by simp⟩ ?_) ?_)))
  .exact⟨Z4,C,Fh,C⟩
  .intro⟨i,h1,h2⟩;refine J ?_ ?_
   .intro h;have h:(i:Int)<(l.map BH).length:=h;have h:i<l.length:=by simpa using h
    have h' : i<m.length:=ch
    have hg:l[i]?=some l[i]:=Ge h;have ly : m[i]?=some m[i]:=Ge h';refine I (BH l[i]) (J (J (Nn i) (by simp[hg])) (J rfl (yN ?_)));refine I (BH m[i]) (J (J (Nn i) (by simp[ly])) (J rfl (yN ?_)));refine J ?_ ?_
    .intro h5;have e:l[i]=m[i]:=uJ.1 h5;refine J aa1 (J (by show Az ((i:Int)+1);unfold BD at hl;unfold Az;omega) (I ⟨i+1,by omega,?_⟩ ?_))
     .rw[DI,DI,h2,hg,ly,e]
     .exact⟨Dl l.length i ch,Z4,C,Fh,C⟩
    .intro h5;refine J aa1 ?_
     have:l≠m:=fun e=>h5 (uJ.2 (by subst e;rfl))
     rw[Aw this];exact .refl _
   .intro h;have h:¬(i:Int)<(l.map BH).length:=h;have h:¬i<l.length:=by simpa using h
    have e:l=m:=by
     rw[<-As (l:=l) (i:=i) ch,h2,As ch]
    rw[AB e];exact .refl _
theorem z39{fF:Nat}{caps:List AV}(hs:Cc caps)(l:List (Bk))(p:Bk->Bool)(hF:∀x∈l,PC fF ([.agg (BH x)]++caps) (vb (p x)))(hl:l.length<9223372036854775807) :
  PC 39 [sl BH l,.clo fF caps] (vi (I7 p l 0)):=by
 refine Ps CQ func39 rfl C4 (I {i:Nat // i<=l.length/\∀j (hj:j<l.length),j<i->p l[j]=false} (I (fun i=>⟨[(0,sl BH l),(1,.clo fF caps),(7,vi (l.map BH).length),(8,vi i.1)],[],Ae⟩) (I (fun i=>l.length-i.1) (J (I ⟨0,by simp⟩ ?_) ?_))))
 .exact⟨⟨B,⟨rfl,hs.ids _⟩,B,B,C⟩,C,Fh,C⟩
 .intro⟨i,h1,h2⟩;refine J ?_ ?_
  .intro h;have h:i<l.length:=by simpa using h
   have hg:l[i]?=some l[i]:=Ge h;refine I (BH l[i]) (J (J (Nn i) (by simp[hg])) (J rfl (yN ?_)));have BQ:∀h,PC fF ([.agg (BH l[i])]++caps.map (str0 h)) (vb (p l[i])):=fun h=>by rw[hs.map];exact hF l[i] (Ai _)
   cases hp:p l[i]with
   |true=>
    rw[hp]at BQ;refine I .pure (I (vb true) (J (BQ _) ?_));rw[Hl h (fun j hj G8=>h2 j hj G8) hp,Ev];exact .refl _
   |false=>
    rw[hp]at BQ;refine I .pure (I (vb false) (J (BQ _) (J (Ii i ch) (I ⟨i+1,by omega,fun j hj G8=>?_⟩ ?_))))
    .by_cases e:j=i
     .subst e;exact hp
     .exact h2 j hj ch
    .exact⟨Dl l.length i ch,⟨B,⟨rfl,hs.ids _⟩,B,B,C⟩,C,Fh,C⟩
  .intro h;have h:¬i<l.length:=by simpa using h
   rw[F8 fun j hj=>h2 j hj ch];exact .refl _
abbrev pe:CS:=⟨#[99,47,118,49]⟩
abbrev kp:CS:=⟨#[97,47,118,49]⟩
abbrev Zm:CS:=⟨#[98,47,118,49]⟩
abbrev v45(m:Int):Ver:=⟨1,m,0⟩
abbrev LG(m:Int):List (Int×Int):=[(1000*m,1000*m+1)]
abbrev bP(m:Int)(q:List Rq):Rl:=⟨p,v45 m,q,mt,mt,mt,false⟩
abbrev AbJ:List Rq:=[⟨Zm,LG 0⟩]
abbrev AbK:List Rq:=[⟨Zm,LG 1⟩,⟨pe,[(0,1000000)]⟩]
abbrev Zo:List Rl:=[bP kp 0 AbJ,bP kp 1 AbK,bP Zm 0 [],bP Zm 1 [],bP pe 0 []]
abbrev TW:List Sl:=[⟨kp,v45 0⟩,⟨Zm,v45 0⟩]
abbrev t45:List Sl:=[⟨kp,v45 1⟩,⟨Zm,v45 1⟩,⟨pe,v45 0⟩]
abbrev VT:List Vt:=[⟨5,10⟩,⟨20,100⟩]
abbrev Xf:Ro:=⟨⟨#[117,112]⟩,[⟨[pe],VT⟩,⟨[kp,Zm],VT⟩]⟩
abbrev a45:Ad:=⟨⟨#[65]⟩,Zm,LG 1,[⟨#[102]⟩],mt⟩
abbrev c45:List (List Rq):=[[⟨kp,LG 1⟩],[⟨Zm,[(1000,1000000)]⟩]]
abbrev b45:List Bk:=[⟨0,⟨1,1,1⟩,false⟩,⟨1,⟨1,1,1⟩,true⟩]
theorem X6:UU VT 4=0/\UU VT 19=10/\BA VT=0/\HH VT 4=0/\HH VT 20=100:=⟨by kernel_rfl,by kernel_rfl,by kernel_rfl,by kernel_rfl,by kernel_rfl⟩
theorem AeW:Ix Zo TW t45=0:=by kernel_rfl
theorem AeT:D2 TW t45=[kp,Zm,pe]:=by simp[D2];unfold rm;kernel_rfl
theorem AeV:rj Zo a45 c45=0:=by kernel_rfl
theorem AeS:zZ Zo a45 c45=b45:=by kernel_rfl
theorem AeU:Iq [pe,kp,Zm]=[kp,Zm,pe]:=by unfold Iq;simp[Ks,List.mergeSort,List.MergeSort.Internal.splitInTwo,List.splitAt,List.splitAt.go,List.merge];rw[AA Wk];simp[List.merge];rw[Ax Wk,AA Wk];kernel_rfl
theorem AeX:fj Zo TW t45 [[pe],[kp,Zm]]=true:=by kernel_rfl
theorem mN:Iv Zo TW t45 Xf=0:=by
 have h:Fm Zo TW t45 (L3 Xf)=0:=by
  unfold Fm;rw[Ax AeW,Ax (show(L3 Xf).all VO=true by kernel_rfl),Ax (show Iq (L3 Xf).flatten=D2 TW t45 by rw[AeT];exact AeU),Ax (show fj Zo TW t45 (L3 Xf)=true from AeX)]
 have k:(if 65536<Xf.name.size then(7:Int)else Ha Xf.waves)=0:=by kernel_rfl
 show(if Fm Zo TW t45 (L3 Xf)=0 then(if 65536<Xf.name.size then(7:Int)else Ha Xf.waves)else Fm Zo TW t45 (L3 Xf))=0;exact(Ax h).trans k
abbrev gW(b:Int):List AV:=[vs p,vi 1,vi b,vi 0,nzA,vs mt,vs mt,vs mt,vb false]
abbrev qw:List AV:=[.slice .none [Au (bP kp 0 AbJ),Au (bP kp 1 AbK),gW Zm 0,gW Zm 1,gW pe 0],nzA]
theorem S7:BC (.agg qw) (HZ Zo []):=
 have h (p:CS) (b:Int):Jx (gW p b) (Au (bP p b [])):=⟨.refl _,.refl _,.refl _,.refl _,.nil,.refl _,.refl _,.refl _,.refl _,trivial⟩
 BC.agg ⟨BC.slice ⟨.refl _,.refl _,h Zm 0,h Zm 1,h pe 0,trivial⟩,.nil,trivial⟩
theorem Yc(s:List (Int×Int))(hp:ES p)(hs:BD s):∀q∈[(⟨p,s⟩:Rq)],Jb q:=A4.2 ⟨⟨hs,hp⟩,B2 _⟩
theorem fR:Te Zo:=
 have a:ES kp:=Wk
 have b:ES Zm:=Wk
 have c:ES pe:=Wk
 ⟨show 5<=16 by decide,A4.2 ⟨⟨a,Yc _ _ b (show 1<=1073741824 by decide)⟩,A4.2 ⟨⟨a,A4.2 ⟨⟨show 1<=1073741824 by decide,b⟩,Yc _ _ c (show 1<=1073741824 by decide)⟩⟩,A4.2 ⟨⟨b,B2 _⟩,A4.2 ⟨⟨b,B2 _⟩,A4.2 ⟨⟨c,B2 _⟩,B2 _⟩⟩⟩⟩⟩⟩
theorem xY:∀r∈Zo,r.reqs.length<=1000:=
 A4.2 ⟨show 1<=1000 by decide,A4.2 ⟨show 2<=1000 by decide,A4.2 ⟨Aj _,A4.2 ⟨Aj _,A4.2 ⟨Aj _,B2 _⟩⟩⟩⟩⟩
theorem YT:IC Xf:=⟨show 2<=1000 by decide,A4.2 ⟨show 2<=1073741824 by decide,A4.2 ⟨show 2<=1073741824 by decide,B2 _⟩⟩,A4.2 ⟨show 1<=1000 by decide,A4.2 ⟨show 2<=1000 by decide,B2 _⟩⟩⟩
theorem qV:Mi a45:=⟨show 1<=1073741824 by decide,show 4<=1073741824 by decide,show 1<=1073741824 by decide,show 1<=1073741824 by decide,A4.2 ⟨show 1<=1073741824 by decide,B2 _⟩,show 0<=1073741824 by decide⟩
theorem AeP:∀q∈c45,∀z∈q,Jb z:=A4.2 ⟨Yc _ _ (show 4<=1073741824 by decide) (show 1<=1073741824 by decide),A4.2 ⟨Yc _ _ (show 4<=1073741824 by decide) (show 1<=1073741824 by decide),B2 _⟩⟩
theorem zU(u:CS):Tu Zo TW t45 Xf u 4=.tup [sl Ab TW,vi 0]/\Tu Zo TW t45 Xf u 20=.tup [sl Ab t45,vi 0]:=by
 unfold Tu;rw[(fD u 4 mN).2.1,(fD u 20 mN).2.1,ra mN (A4.2 ⟨by rw[X6.2.2.2.1];exact Bs _,A4.2 ⟨by rw[X6.2.2.2.1];exact Bs _,B2 _⟩⟩),vZ mN (show 2<=1073741824 by decide) (show 3<=1073741824 by decide) (A4.2 ⟨by rw[X6.2.2.2.2];exact Bs _,A4.2 ⟨by rw[X6.2.2.2.2];exact Bs _,B2 _⟩⟩)];exact B
theorem VV(m:Int):PC 45 [vi m] (.agg [vi 1,vi m,vi 0]):=by
 refine Ps CQ func45 rfl C4 (yN (yN ?_));exact .refl _
theorem ub(m:Int)(h0:0<=m)(h1:m<=1):PC 46 [vi m] (sl Ag (LG m)):=by
 refine Ps CQ func46 rfl C4 (J (by show Az ((1000:Int)*(m:Int));unfold Az;omega) (J (by show Az ((1000:Int)*(m:Int));unfold Az;omega) (J (by show Az ((1000*m:Int)+(1:Int));unfold Az;omega) ?_)));exact .refl _
theorem io  : PC 10 [] (vb true):=by
 have hcl:=o46 [] Wk (B2 _);have IM:=vv VT 4 (show 2<=1073741824 by decide);have g11:=vv VT 19 (show 2<=1073741824 by decide);rw[X6.1,X6.2.2.1]at IM;rw[X6.2.1,X6.2.2.1]at g11;have Uc:=(yv Zo [] TW t45 Xf ⟨#[109,101]⟩ 4 fR.few (show 2<=16 by decide) (show 3<=16 by decide) YT (show 2<=10000000 by decide) (show 2<=100000000 by decide)).args (args':=[.agg qw,sl Ab TW,sl Ab t45,.agg (CR Xf),vs ⟨#[109,101]⟩,vi 4]) ⟨S7,.refl _,.refl _,.refl _,.refl _,.refl _,trivial⟩;rw[(zU _).1]at Uc;have g21:=(yv Zo [] TW t45 Xf ⟨#[109,101]⟩ 20 fR.few (show 2<=16 by decide) (show 3<=16 by decide) YT (show 2<=10000000 by decide) (show 2<=100000000 by decide)).args (args':=[.agg qw,sl Ab TW,sl Ab t45,.agg (CR Xf),vs ⟨#[109,101]⟩,vi 20]) ⟨S7,.refl _,.refl _,.refl _,.refl _,.refl _,trivial⟩;rw[(zU _).2]at g21;have jw:=(yx Zo [] a45 c45 fR xY qV (show 2<=1073741824 by decide) AeP hcl).args (args':=[.agg qw,.agg (Cy a45),sl Dm c45]) ⟨S7,.refl _,.refl _,trivial⟩;rw[AeS,AeV]at jw;have J6:=Vn VT (show 2<=1073741824 by decide);rw[X6.2.2.1]at J6;have Ym:=(Y8 Zo [] TW t45 Xf fR.few (show 2<=16 by decide) (show 3<=16 by decide) YT).args (args':=[.agg qw,sl Ab TW,sl Ab t45,.agg (CR Xf)]) ⟨S7,.refl _,.refl _,.refl _,trivial⟩;rw[mN]at Ym;have Zj:=c27 TW TW (show 2<=1073741824 by decide);rw[AB rfl]at Zj;have g25:=c27 t45 t45 (show 3<=1073741824 by decide);rw[AB rfl]at g25;have cw:=z33 b45 b45 (show 2<=1073741824 by decide);rw[AB rfl]at cw;refine Ps (pC [3,7] [4,5,7,9,10,11,12]) func10 rfl C4 (C1 (C2 (VV 0) (C1 (C2 (ub 0 Wk Wk) (C1 (C2 (VV 1) (C1 (C2 (ub 1 Wk Wk) (C1 (C2 (VV 0) (C1 (C2 (VV 1) (C1 (C2 (VV 0) (yN (cU [(1,.v (.func (.func 45) #[] #[])),(2,.v (.func (.func 46) #[] #[])),(3,.ref 3 0)] [(3,.ro [.slice .none [[vs ⟨#[97,47,118,49]⟩,vi 1,vi 0,vi 0,.slice .none [[vs ⟨#[98,47,118,49]⟩,sl Ag (LG 0)]],vs ⟨#[]⟩,vs ⟨#[]⟩,vs ⟨#[]⟩,vb false],[vs ⟨#[97,47,118,49]⟩,vi 1,vi 1,vi 0,.slice .none [[vs ⟨#[98,47,118,49]⟩,sl Ag (LG 1)],[vs ⟨#[99,47,118,49]⟩,.slice .none [[vi 0,vi 1000000]]]],vs ⟨#[]⟩,vs ⟨#[]⟩,vs ⟨#[]⟩,vb false],[vs ⟨#[98,47,118,49]⟩,vi 1,vi 0,vi 0,nzA,vs ⟨#[]⟩,vs ⟨#[]⟩,vs ⟨#[]⟩,vb false],[vs ⟨#[98,47,118,49]⟩,vi 1,vi 1,vi 0,nzA,vs ⟨#[]⟩,vs ⟨#[]⟩,vs ⟨#[]⟩,vb false],[vs ⟨#[99,47,118,49]⟩,vi 1,vi 0,vi 0,nzA,vs ⟨#[]⟩,vs ⟨#[]⟩,vs ⟨#[]⟩,vb false]],nzA])] Z3 Z1 (C1 (C2 (VV 0) (C1 (C2 (VV 0) (C1 (C2 (VV 1) (C1 (C2 (VV 1) (C1 (C2 (VV 0) (cU [(2,.v (.func (.func 46) #[] #[])),(3,.ref 3 0),(4,.slice (.id 52 4) [[vs ⟨#[97,47,118,49]⟩,vi 1,vi 0,vi 0],[vs ⟨#[98,47,118,49]⟩,vi 1,vi 0,vi 0]]),(5,.slice (.id 62 4) [[vs ⟨#[97,47,118,49]⟩,vi 1,vi 1,vi 0],[vs ⟨#[98,47,118,49]⟩,vi 1,vi 1,vi 0],[vs ⟨#[99,47,118,49]⟩,vi 1,vi 0,vi 0]])] [(3,.ro [.slice .none [[vs ⟨#[97,47,118,49]⟩,vi 1,vi 0,vi 0,.slice .none [[vs ⟨#[98,47,118,49]⟩,sl Ag (LG 0)]],vs ⟨#[]⟩,vs ⟨#[]⟩,vs ⟨#[]⟩,vb false],[vs ⟨#[97,47,118,49]⟩,vi 1,vi 1,vi 0,.slice .none [[vs ⟨#[98,47,118,49]⟩,sl Ag (LG 1)],[vs ⟨#[99,47,118,49]⟩,.slice .none [[vi 0,vi 1000000]]]],vs ⟨#[]⟩,vs ⟨#[]⟩,vs ⟨#[]⟩,vb false],[vs ⟨#[98,47,118,49]⟩,vi 1,vi 0,vi 0,nzA,vs ⟨#[]⟩,vs ⟨#[]⟩,vs ⟨#[]⟩,vb false],[vs ⟨#[98,47,118,49]⟩,vi 1,vi 1,vi 0,nzA,vs ⟨#[]⟩,vs ⟨#[]⟩,vs ⟨#[]⟩,vb false],[vs ⟨#[99,47,118,49]⟩,vi 1,vi 0,vi 0,nzA,vs ⟨#[]⟩,vs ⟨#[]⟩,vs ⟨#[]⟩,vb false]],nzA]),(52,.tok 4 2),(62,.tok 4 3)] Z4 Z3 (yN (cU [(2,.v (.func (.func 46) #[] #[])),(3,.ref 3 0),(4,.slice (.id 52 4) [[vs ⟨#[97,47,118,49]⟩,vi 1,vi 0,vi 0],[vs ⟨#[98,47,118,49]⟩,vi 1,vi 0,vi 0]]),(5,.slice (.id 62 4) [[vs ⟨#[97,47,118,49]⟩,vi 1,vi 1,vi 0],[vs ⟨#[98,47,118,49]⟩,vi 1,vi 1,vi 0],[vs ⟨#[99,47,118,49]⟩,vi 1,vi 0,vi 0]]),(6,.slice (.id 65 2) [[vi 5,vi 10],[vi 20,vi 100]]),(7,.ref 7 0)] [(3,.ro [.slice .none [[vs ⟨#[97,47,118,49]⟩,vi 1,vi 0,vi 0,.slice .none [[vs ⟨#[98,47,118,49]⟩,sl Ag (LG 0)]],vs ⟨#[]⟩,vs ⟨#[]⟩,vs ⟨#[]⟩,vb false],[vs ⟨#[97,47,118,49]⟩,vi 1,vi 1,vi 0,.slice .none [[vs ⟨#[98,47,118,49]⟩,sl Ag (LG 1)],[vs ⟨#[99,47,118,49]⟩,.slice .none [[vi 0,vi 1000000]]]],vs ⟨#[]⟩,vs ⟨#[]⟩,vs ⟨#[]⟩,vb false],[vs ⟨#[98,47,118,49]⟩,vi 1,vi 0,vi 0,nzA,vs ⟨#[]⟩,vs ⟨#[]⟩,vs ⟨#[]⟩,vb false],[vs ⟨#[98,47,118,49]⟩,vi 1,vi 1,vi 0,nzA,vs ⟨#[]⟩,vs ⟨#[]⟩,vs ⟨#[]⟩,vb false],[vs ⟨#[99,47,118,49]⟩,vi 1,vi 0,vi 0,nzA,vs ⟨#[]⟩,vs ⟨#[]⟩,vs ⟨#[]⟩,vb false]],nzA]),(7,.ro [vs ⟨#[117,112]⟩,.slice .none [[.slice .none [[vs ⟨#[99,47,118,49]⟩]],.slice .none [[vi 5,vi 10],[vi 20,vi 100]]],[.slice .none [[vs ⟨#[97,47,118,49]⟩],[vs ⟨#[98,47,118,49]⟩]],.slice .none [[vi 5,vi 10],[vi 20,vi 100]]]]]),(52,.tok 4 2),(62,.tok 4 3),(65,.tok 2 2)] Z6 Z5 (C1 (C2 IM (C1 (C2 g11 (cU [(2,.v (.func (.func 46) #[] #[])),(3,.ref 3 0),(4,.slice (.id 52 4) [[vs ⟨#[97,47,118,49]⟩,vi 1,vi 0,vi 0],[vs ⟨#[98,47,118,49]⟩,vi 1,vi 0,vi 0]]),(5,.slice (.id 62 4) [[vs ⟨#[97,47,118,49]⟩,vi 1,vi 1,vi 0],[vs ⟨#[98,47,118,49]⟩,vi 1,vi 1,vi 0],[vs ⟨#[99,47,118,49]⟩,vi 1,vi 0,vi 0]]),(6,.slice (.id 65 2) [[vi 5,vi 10],[vi 20,vi 100]]),(7,.ref 7 0),(8,vi 0),(9,vi 0),(10,vi 10),(11,vi 0)] [(3,.ro [.slice .none [[vs ⟨#[97,47,118,49]⟩,vi 1,vi 0,vi 0,.slice .none [[vs ⟨#[98,47,118,49]⟩,sl Ag (LG 0)]],vs ⟨#[]⟩,vs ⟨#[]⟩,vs ⟨#[]⟩,vb false],[vs ⟨#[97,47,118,49]⟩,vi 1,vi 1,vi 0,.slice .none [[vs ⟨#[98,47,118,49]⟩,sl Ag (LG 1)],[vs ⟨#[99,47,118,49]⟩,.slice .none [[vi 0,vi 1000000]]]],vs ⟨#[]⟩,vs ⟨#[]⟩,vs ⟨#[]⟩,vb false],[vs ⟨#[98,47,118,49]⟩,vi 1,vi 0,vi 0,nzA,vs ⟨#[]⟩,vs ⟨#[]⟩,vs ⟨#[]⟩,vb false],[vs ⟨#[98,47,118,49]⟩,vi 1,vi 1,vi 0,nzA,vs ⟨#[]⟩,vs ⟨#[]⟩,vs ⟨#[]⟩,vb false],[vs ⟨#[99,47,118,49]⟩,vi 1,vi 0,vi 0,nzA,vs ⟨#[]⟩,vs ⟨#[]⟩,vs ⟨#[]⟩,vb false]],nzA]),(7,.ro [vs ⟨#[117,112]⟩,.slice .none [[.slice .none [[vs ⟨#[99,47,118,49]⟩]],.slice .none [[vi 5,vi 10],[vi 20,vi 100]]],[.slice .none [[vs ⟨#[97,47,118,49]⟩],[vs ⟨#[98,47,118,49]⟩]],.slice .none [[vi 5,vi 10],[vi 20,vi 100]]]]]),(52,.tok 4 2),(62,.tok 4 3),(65,.tok 2 2)] Z10 Z5 (yN (yN (C1 (C2 Uc (cU [(2,.v (.func (.func 46) #[] #[])),(3,.ref 3 0),(4,.slice (.id 52 4) [[vs ⟨#[97,47,118,49]⟩,vi 1,vi 0,vi 0],[vs ⟨#[98,47,118,49]⟩,vi 1,vi 0,vi 0]]),(5,.slice (.id 62 4) [[vs ⟨#[97,47,118,49]⟩,vi 1,vi 1,vi 0],[vs ⟨#[98,47,118,49]⟩,vi 1,vi 1,vi 0],[vs ⟨#[99,47,118,49]⟩,vi 1,vi 0,vi 0]]),(6,.slice (.id 65 2) [[vi 5,vi 10],[vi 20,vi 100]]),(7,.ref 7 0),(8,vi 0),(9,vi 0),(10,vi 10),(11,vi 0),(12,sl Ab TW),(13,vi 0)] [(3,.ro [.slice .none [[vs ⟨#[97,47,118,49]⟩,vi 1,vi 0,vi 0,.slice .none [[vs ⟨#[98,47,118,49]⟩,sl Ag (LG 0)]],vs ⟨#[]⟩,vs ⟨#[]⟩,vs ⟨#[]⟩,vb false],[vs ⟨#[97,47,118,49]⟩,vi 1,vi 1,vi 0,.slice .none [[vs ⟨#[98,47,118,49]⟩,sl Ag (LG 1)],[vs ⟨#[99,47,118,49]⟩,.slice .none [[vi 0,vi 1000000]]]],vs ⟨#[]⟩,vs ⟨#[]⟩,vs ⟨#[]⟩,vb false],[vs ⟨#[98,47,118,49]⟩,vi 1,vi 0,vi 0,nzA,vs ⟨#[]⟩,vs ⟨#[]⟩,vs ⟨#[]⟩,vb false],[vs ⟨#[98,47,118,49]⟩,vi 1,vi 1,vi 0,nzA,vs ⟨#[]⟩,vs ⟨#[]⟩,vs ⟨#[]⟩,vb false],[vs ⟨#[99,47,118,49]⟩,vi 1,vi 0,vi 0,nzA,vs ⟨#[]⟩,vs ⟨#[]⟩,vs ⟨#[]⟩,vb false]],nzA]),(7,.ro [vs ⟨#[117,112]⟩,.slice .none [[.slice .none [[vs ⟨#[99,47,118,49]⟩]],.slice .none [[vi 5,vi 10],[vi 20,vi 100]]],[.slice .none [[vs ⟨#[97,47,118,49]⟩],[vs ⟨#[98,47,118,49]⟩]],.slice .none [[vi 5,vi 10],[vi 20,vi 100]]]]]),(52,.tok 4 2),(62,.tok 4 3),(65,.tok 2 2)] Z12 Z5 (yN (yN ?_)))))))))))))))))))))))))))))))))))))))));refine C1 (C2 g21 (cU [(2,.v (.func (.func 46) #[] #[])),(3,.ref 3 0),(4,.slice (.id 52 4) [[vs ⟨#[97,47,118,49]⟩,vi 1,vi 0,vi 0],[vs ⟨#[98,47,118,49]⟩,vi 1,vi 0,vi 0]]),(5,.slice (.id 62 4) [[vs ⟨#[97,47,118,49]⟩,vi 1,vi 1,vi 0],[vs ⟨#[98,47,118,49]⟩,vi 1,vi 1,vi 0],[vs ⟨#[99,47,118,49]⟩,vi 1,vi 0,vi 0]]),(6,.slice (.id 65 2) [[vi 5,vi 10],[vi 20,vi 100]]),(7,.ref 7 0),(8,vi 0),(9,vi 0),(10,vi 10),(11,vi 0),(12,sl Ab TW),(13,vi 0),(14,sl Ab t45),(15,vi 0)] [(3,.ro [.slice .none [[vs ⟨#[97,47,118,49]⟩,vi 1,vi 0,vi 0,.slice .none [[vs ⟨#[98,47,118,49]⟩,sl Ag (LG 0)]],vs ⟨#[]⟩,vs ⟨#[]⟩,vs ⟨#[]⟩,vb false],[vs ⟨#[97,47,118,49]⟩,vi 1,vi 1,vi 0,.slice .none [[vs ⟨#[98,47,118,49]⟩,sl Ag (LG 1)],[vs ⟨#[99,47,118,49]⟩,.slice .none [[vi 0,vi 1000000]]]],vs ⟨#[]⟩,vs ⟨#[]⟩,vs ⟨#[]⟩,vb false],[vs ⟨#[98,47,118,49]⟩,vi 1,vi 0,vi 0,nzA,vs ⟨#[]⟩,vs ⟨#[]⟩,vs ⟨#[]⟩,vb false],[vs ⟨#[98,47,118,49]⟩,vi 1,vi 1,vi 0,nzA,vs ⟨#[]⟩,vs ⟨#[]⟩,vs ⟨#[]⟩,vb false],[vs ⟨#[99,47,118,49]⟩,vi 1,vi 0,vi 0,nzA,vs ⟨#[]⟩,vs ⟨#[]⟩,vs ⟨#[]⟩,vb false]],nzA]),(7,.ro [vs ⟨#[117,112]⟩,.slice .none [[.slice .none [[vs ⟨#[99,47,118,49]⟩]],.slice .none [[vi 5,vi 10],[vi 20,vi 100]]],[.slice .none [[vs ⟨#[97,47,118,49]⟩],[vs ⟨#[98,47,118,49]⟩]],.slice .none [[vi 5,vi 10],[vi 20,vi 100]]]]]),(52,.tok 4 2),(62,.tok 4 3),(65,.tok 2 2)] ⟨B,B,B,B,B,B,B,B,B,B,B,B,B,B,C⟩ Z5 (yN (C2 (ub 1 Wk Wk) (C2 (ub 1 Wk Wk) (C2 jw (J aa1 (cU [(3,.ref 3 0),(4,.slice (.id 52 4) [[vs ⟨#[97,47,118,49]⟩,vi 1,vi 0,vi 0],[vs ⟨#[98,47,118,49]⟩,vi 1,vi 0,vi 0]]),(5,.slice (.id 62 4) [[vs ⟨#[97,47,118,49]⟩,vi 1,vi 1,vi 0],[vs ⟨#[98,47,118,49]⟩,vi 1,vi 1,vi 0],[vs ⟨#[99,47,118,49]⟩,vi 1,vi 0,vi 0]]),(6,.slice (.id 65 2) [[vi 5,vi 10],[vi 20,vi 100]]),(7,.ref 7 0),(8,vi 0),(9,vi 0),(10,vi 10),(11,vi 0),(12,sl Ab TW),(13,vi 0),(14,sl Ab t45),(15,vi 0),(16,sl BH b45),(17,vi 0)] [(3,.ro [.slice .none [[vs ⟨#[97,47,118,49]⟩,vi 1,vi 0,vi 0,.slice .none [[vs ⟨#[98,47,118,49]⟩,sl Ag (LG 0)]],vs ⟨#[]⟩,vs ⟨#[]⟩,vs ⟨#[]⟩,vb false],[vs ⟨#[97,47,118,49]⟩,vi 1,vi 1,vi 0,.slice .none [[vs ⟨#[98,47,118,49]⟩,sl Ag (LG 1)],[vs ⟨#[99,47,118,49]⟩,.slice .none [[vi 0,vi 1000000]]]],vs ⟨#[]⟩,vs ⟨#[]⟩,vs ⟨#[]⟩,vb false],[vs ⟨#[98,47,118,49]⟩,vi 1,vi 0,vi 0,nzA,vs ⟨#[]⟩,vs ⟨#[]⟩,vs ⟨#[]⟩,vb false],[vs ⟨#[98,47,118,49]⟩,vi 1,vi 1,vi 0,nzA,vs ⟨#[]⟩,vs ⟨#[]⟩,vs ⟨#[]⟩,vb false],[vs ⟨#[99,47,118,49]⟩,vi 1,vi 0,vi 0,nzA,vs ⟨#[]⟩,vs ⟨#[]⟩,vs ⟨#[]⟩,vb false]],nzA]),(7,.ro [vs ⟨#[117,112]⟩,.slice .none [[.slice .none [[vs ⟨#[99,47,118,49]⟩]],.slice .none [[vi 5,vi 10],[vi 20,vi 100]]],[.slice .none [[vs ⟨#[97,47,118,49]⟩],[vs ⟨#[98,47,118,49]⟩]],.slice .none [[vi 5,vi 10],[vi 20,vi 100]]]]]),(52,.tok 4 2),(62,.tok 4 3),(65,.tok 2 2)] ⟨B,B,B,B,B,B,B,B,B,B,B,B,B,B,B,C⟩ Z5 (C1 (C2 J6 (J (fun _=>?_) (fun h=>absurd Wk h))))))))))));refine yN (yN (C1 (C2 Ym (J (fun _=>?_) (fun h=>absurd Wk h)))));refine J (fun _=>?_) (fun h=>absurd Wk h);refine J (fun _=>?_) (fun h=>absurd Wk h);refine J (fun _=>?_) (fun h=>absurd Wk h);refine J (fun _=>?_) (fun h=>absurd Wk h);refine J (fun _=>?_) (fun h=>absurd Wk h);refine C1 (C2 Zj (J (fun _=>?_) (fun h=>absurd Wk h)));refine C1 (C2 g25 (J (fun _=>?_) (fun h=>absurd Wk h)));refine C1 (C2 cw ?_);exact .refl _
structure vJ(l m:List Sl)(r:Ro)(user:CS):Prop where
 l:l.length<=1048576
 m:m.length<=1048576
 wv:r.waves.length<=1048576
 st:∀v∈r.waves,v.stages.length<=1048576
 pt:∀v∈r.waves,v.paths.length<=1048576
 name:r.name.size<=1048576
 user:user.size<=1048576
theorem rN{x:List Rl}{l m:List Sl}(h:TY x l m=true):x.length<=16/\l.length<=12/\m.length<=12:=by
 obtain⟨h1,h2⟩:=Dt.1 h;obtain⟨h2,h3⟩:=Dt.1 h2;exact⟨eT h1,AT h2,AT h3⟩
theorem x7{l m:List Sl}{r:Ro}{user:CS}(hr:vJ l m r user)(h:kM r=true):IC r/\(L3 r).length<=20/\∀p∈L3 r,p.length<=20:=by
 obtain⟨_,h2⟩:=Dt.1 h;obtain⟨h2,_⟩:=Dt.1 h2;obtain⟨h3,h4⟩:=Dt.1 h2;have h4:(L3 r).length<=20:=AT h4;have h5:∀p∈L3 r,p.length<=20:=fun p hp=>AT (Dt.1 (AS.1 h3 p hp)).1;refine⟨⟨?_,fun v hv=>Av (hr.st v hv) Wk,fun v hv=>Av (h5 v.paths (List.mem_map_of_mem hv)) Wk⟩,h4,h5⟩;rw[L3,Lm]at h4;omega
structure AdF(a:Ad)(cl:List (List Rq)):Prop where
 ad:Mi a
 len:BD cl
 q:∀q∈cl,BD q/\∀z∈q,Jb z
end Go.Eng
namespace Go.Proofs.YteaiieomnhbmgaaGreatDoor.joins
open Go Go.Eng Go.Proofs Go.ChangeShapes Go.WideShapes Go.ChangeAt Go.RowKit
section
variable {H:Type}{enc:TypeId×Value->H}{w:World}
theorem all_le{d:DataW H}{l:List (DataW H)}(h:d∈l):Rows.uptoBulk d<=Rows.uptoBulkAll l:=by
 induction l with
 |nil=>cases h
 |cons x r ih=>
  simp only[Rows.uptoBulkAll]
  cases AZ.1 h with
  |inl e=>subst e;omega
  |inr e=>have:=ih e;omega
theorem one_le(d:DataW H):1<=Rows.uptoBulk d:=by
 cases d with
 |lit l=>cases l<;>simp[Rows.uptoBulk]
 |nil=>simp[Rows.uptoBulk]
 |ptr d=>simp[Rows.uptoBulk]
 |slice uI spare=>simp[Rows.uptoBulk]
 |agg parts=>simp[Rows.uptoBulk]
 |iface t d=>simp[Rows.uptoBulk]
 |map entries=>simp[Rows.uptoBulk]
 |held h=>simp[Rows.uptoBulk]
theorem len_le(l:List (DataW H)):l.length<=Rows.uptoBulkAll l:=by
 induction l with
 |nil=>simp[Rows.uptoBulkAll]
 |cons x r ih=>have:=one_le x;simp only[Rows.uptoBulkAll,Ap];omega
theorem bulk_ok:XE (H:=H) Rows.uptoBulk where
 slice es sp:=by
  have h1:=len_le es
  refine⟨by simp only[Rows.uptoBulk];omega,fun d hd=>?_⟩
  have:=all_le hd
  simp only[Rows.uptoBulk];omega
 agg ps d hd:=by
  have:=all_le hd
  simp only[Rows.uptoBulk];omega
 str b:=by simp only[Rows.uptoBulk];omega
theorem app_all(l r:List (DataW H)):Rows.uptoBulkAll (l++r)=Rows.uptoBulkAll l+Rows.uptoBulkAll r:=by
 induction l with
 |nil=>simp[Rows.uptoBulkAll]
 |cons x l ih=>simp only[G0,Rows.uptoBulkAll,ih];omega
abbrev NB:Nat:=1048576
abbrev Op(enc:TypeId×Value->H)(w:World)(t:TypeId){α:Type}(e:α->List AV)(ok:α->Prop):Prop:=J8 enc Tryz.prog w Rows.uptoBulk NB t e ok
theorem oI:Op enc w 3 (fun n:Int=>[vi n]) (fun _=>True):=(Ra Tryz.underlying3).to id (fun _ _=>⟨rfl,trivial⟩)
theorem oB:Op enc w 4 (fun b:Bool=>[vb b]) (fun _=>True):=dY Tryz.underlying4
theorem oS:Op enc w 9 (fun s:ByteArray=>[vs s]) (fun s=>s.size<=NB):=YJ bulk_ok Tryz.underlying9
theorem oVer:Op enc w 46 CK (fun _=>True):=
 (Ec bulk_ok Tryz.underlying46 (L:=3) aa1 (Bp rfl (n:=1) aa1 oI (Bp rfl (n:=1) aa1 oI (Bp rfl (n:=1) aa1 oI Fe)))).to
  (fun p=>(⟨p.1,p.2.1,p.2.2.1⟩:Ver)) (fun _ _=>⟨rfl,trivial⟩)
theorem oSpan:Op enc w 92 Ag (fun _=>True):=
 (Ec bulk_ok Tryz.underlying92 (L:=2) aa1 (Bp rfl (n:=1) aa1 oI (Bp rfl (n:=1) aa1 oI Fe))).to
  (fun p=>(p.1,p.2.1)) (fun _ _=>⟨rfl,trivial⟩)
theorem oSet:Op enc w 51 (fun l:A7=>[sl Ag l]) (fun l=>l.length<=NB):=
 (Fw bulk_ok Tryz.underlying51 (m:=1) aa1 (fun _=>rfl) oSpan).to id (fun _ h=>⟨rfl,h.1⟩)
abbrev OkRq(q:Rq):Prop:=q.path.size<=NB/\q.set.length<=NB
theorem oRq:Op enc w 95 AI OkRq:=
 (Ec bulk_ok Tryz.underlying95 (L:=2) aa1 (Bp rfl (n:=1) aa1 oS (Bp rfl (n:=1) aa1 oSet Fe))).to
  (fun p=>(⟨p.1,p.2.1⟩:Rq)) (fun _ h=>⟨rfl,h.1,h.2.1⟩)
abbrev OkRqs(l:List Rq):Prop:=l.length<=NB/\∀q∈l,OkRq q
theorem oRqs:Op enc w 60 (fun l:List Rq=>[sl AI l]) OkRqs:=
 Fw bulk_ok Tryz.underlying60 (m:=1) aa1 (fun _=>rfl) oRq
abbrev OkRl(r:Rl):Prop:=r.path.size<=NB/\OkRqs r.reqs
theorem oRl:Op enc w 78 Au OkRl:=
 (Ec bulk_ok Tryz.underlying78 (L:=9) aa1 (Bp rfl (n:=1) aa1 oS (Bp rfl (n:=3) aa1 oVer (Bp rfl (n:=1) aa1 oRqs
  (Bp rfl (n:=1) aa1 oS (Bp rfl (n:=1) aa1 oS (Bp rfl (n:=1) aa1 oS (Bp rfl (n:=1) aa1 oB Fe)))))))).to
  (fun p=>(⟨p.1,p.2.1,p.2.2.1,p.2.2.2.1,p.2.2.2.2.1,p.2.2.2.2.2.1,p.2.2.2.2.2.2.1⟩:Rl)) (fun _ h=>⟨rfl,h.1,h.2.2.1⟩)
theorem oRls:Op enc w 30 (fun l:List Rl=>[sl Au l]) (fun l=>l.length<=NB/\∀r∈l,OkRl r):=
 Fw bulk_ok Tryz.underlying30 (m:=8) aa1 (fun _=>rfl) oRl
theorem oIfc:Op enc w 182 (fun s:ByteArray=>[vs s,.junk,.junk,.junk,.junk]) (fun _=>True):=
 (Ec bulk_ok Tryz.underlying182 (L:=5) aa1 (Bp rfl (n:=1) aa1 oS (Bp rfl (n:=1) aa1 (Nm Tryz.underlying177) (Bp rfl (n:=1) aa1 (Nm Tryz.underlying178)
  (Bp rfl (n:=1) aa1 (Nm Tryz.underlying179) (Bp rfl (n:=1) aa1 (Nm Tryz.underlying180) Fe)))))).to (fun p=>p.1) (fun _ _=>⟨rfl,trivial⟩)
theorem oIfs:Op enc w 31 (fun l:List ByteArray=>[sl (fun s=>[vs s,.junk,.junk,.junk,.junk]) l]) (fun l=>l.length<=NB):=
 (Fw bulk_ok Tryz.underlying31 (m:=4) aa1 (fun _=>rfl) oIfc).to id (fun _ h=>⟨rfl,h.1⟩)
theorem oIx:Op enc w 33 (fun p:List Rl×List (List AV)=>[sl Au p.1,.slice .none p.2]) (fun p=>(p.1.length<=NB/\∀r∈p.1,OkRl r)/\p.2.length<=NB/\∀c∈p.2,c.length=5):=
 (Ec bulk_ok Tryz.underlying33 (L:=2) aa1 (Bp rfl (n:=1) aa1 oRls (Bp rfl (n:=1) aa1 oIfs Fe))).to
  (fun p=>(p.1,p.2.1.map (fun s=>[vs s,.junk,.junk,.junk,.junk]))) (fun _ h=>⟨rfl,h.1,by rw[BO];exact h.2.1,fun c hc=>by obtain⟨s,_,rfl⟩:=Ay.1 hc;rfl⟩)
theorem oSl:Op enc w 48 Ab (fun y=>y.path.size<=NB):=
 (Ec bulk_ok Tryz.underlying48 (L:=4) aa1 (Bp rfl (n:=1) aa1 oS (Bp rfl (n:=3) aa1 oVer Fe))).to
  (fun p=>(⟨p.1,p.2.1⟩:Sl)) (fun _ h=>⟨rfl,h.1⟩)
theorem oSls:Op enc w 34 (fun l:List Sl=>[sl Ab l]) (fun l=>l.length<=NB/\∀y∈l,y.path.size<=NB):=
 Fw bulk_ok Tryz.underlying34 (m:=3) aa1 (fun _=>rfl) oSl
theorem oInt:Op enc w 3 (fun n:Int=>[vi n]) Az:=(Ra Tryz.underlying3).to id (fun x h=>⟨rfl,by
  have h1:(-9223372036854775808:Int)<=x:=h.1
  have h2:x<=(9223372036854775807:Int):=h.2
  show -9223372036854775808<=x/\x<9223372036854775808
  omega⟩)
theorem oU8:Op enc w 5 (fun n:Int=>[.v (.int .u8 n)]) (fun n=>0<=n/\n<=255):=(Ra Tryz.underlying5).to id (fun _ h=>⟨rfl,h⟩)
theorem oStg:Op enc w 74 CG (fun _=>True):=
 (Ec bulk_ok Tryz.underlying74 (L:=2) aa1 (Bp rfl (n:=1) aa1 oI (Bp rfl (n:=1) aa1 oI Fe))).to
  (fun p=>(⟨p.1,p.2.1⟩:Vt)) (fun _ _=>⟨rfl,trivial⟩)
theorem oStgs:Op enc w 22 (fun l:List Vt=>[sl CG l]) (fun l=>l.length<=NB):=
 (Fw bulk_ok Tryz.underlying22 (m:=1) aa1 (fun _=>rfl) oStg).to id (fun _ h=>⟨rfl,h.1⟩)
theorem oStr:Op enc w 9 Go.Eng.Af (fun s:ByteArray=>s.size<=NB):=oS
theorem oStrs:Op enc w 52 (fun l:List ByteArray=>[sl Go.Eng.Af l]) (fun l=>l.length<=NB/\∀s∈l,s.size<=NB):=
 Fw bulk_ok Tryz.underlying52 (m:=0) aa1 (fun _=>rfl) oStr
abbrev OkWv(v:Wv):Prop:=v.paths.length<=NB/\v.stages.length<=NB
theorem oWv:Op enc w 72 Es OkWv:=
 (Ec bulk_ok Tryz.underlying72 (L:=2) aa1 (Bp rfl (n:=1) aa1 oStrs (Bp rfl (n:=1) aa1 oStgs Fe))).to
  (fun p=>(⟨p.1,p.2.1⟩:Wv)) (fun _ h=>⟨rfl,h.1.1,h.2.1⟩)
theorem oWvs:Op enc w 35 (fun l:List Wv=>[sl Es l]) (fun l=>l.length<=NB/\∀v∈l,OkWv v):=
 Fw bulk_ok Tryz.underlying35 (m:=1) aa1 (fun _=>rfl) oWv
theorem oRo:Op enc w 37 CR (fun r=>r.name.size<=NB/\r.waves.length<=NB/\∀v∈r.waves,OkWv v):=
 (Ec bulk_ok Tryz.underlying37 (L:=2) aa1 (Bp rfl (n:=1) aa1 oS (Bp rfl (n:=1) aa1 oWvs Fe))).to
  (fun p=>(⟨p.1,p.2.1⟩:Ro)) (fun _ h=>⟨rfl,h.1,h.2.1⟩)
abbrev OkAd(a:Ad):Prop:=a.id.size<=NB/\a.path.size<=NB/\a.set.length<=NB/\(a.syms.length<=NB/\∀s∈a.syms,s.size<=NB)/\a.note.size<=NB
theorem oAd:Op enc w 54 Cy OkAd:=
 (Ec bulk_ok Tryz.underlying54 (L:=5) aa1 (Bp rfl (n:=1) aa1 oS (Bp rfl (n:=1) aa1 oS (Bp rfl (n:=1) aa1 oSet (Bp rfl (n:=1) aa1 oStrs (Bp rfl (n:=1) aa1 oS Fe)))))).to
  (fun p=>(⟨p.1,p.2.1,p.2.2.1,p.2.2.2.1,p.2.2.2.2.1⟩:Ad)) (fun _ h=>⟨rfl,h.1,h.2.1,h.2.2.1,h.2.2.2.1,h.2.2.2.2.1⟩)
theorem oCl:Op enc w 55 (fun l:List (List Rq)=>[sl Dm l]) (fun l=>l.length<=NB/\∀q∈l,OkRqs q):=
 Fw bulk_ok Tryz.underlying55 (m:=0) aa1 (fun _=>rfl) oRqs
theorem few_of{n:Nat}(h:n<=NB):n<=1073741824:=Av h Wk
theorem lim_of{x:List Rl}{roots:List Rq}(h:x.length<=NB/\∀r∈x,OkRl r)(k:OkRqs roots):qT x roots where
 ix:=few_of h.1
 rs:=few_of k.1
 rel r hr:=⟨few_of (h.2 r hr).2.1,few_of (h.2 r hr).1,fun q hq=>⟨few_of ((h.2 r hr).2.2 q hq).2,few_of ((h.2 r hr).2.2 q hq).1⟩⟩
 rq q hq:=⟨few_of (k.2 q hq).2,few_of (k.2 q hq).1⟩
theorem lim0_of{x:List Rl}(h:x.length<=NB/\∀r∈x,OkRl r):qT x []:=lim_of h ⟨Aj _,fun q hq=>by cases hq⟩
theorem limr_of{l m:List Sl}{r:Ro}{user:ByteArray}(h1:l.length<=NB/\∀y∈l,y.path.size<=NB)(h2:m.length<=NB/\∀y∈m,y.path.size<=NB)(h3:r.name.size<=NB/\r.waves.length<=NB/\∀v∈r.waves,OkWv v)(h4:user.size<=NB):vJ l m r user:=
 ⟨h1.1,h2.1,h3.2.1,fun v hv=>(h3.2.2 v hv).2,fun v hv=>(h3.2.2 v hv).1,h3.1,h4⟩
theorem lima_of{a:Ad}{cl:List (List Rq)}(h:OkAd a)(k:cl.length<=NB/\∀q∈cl,OkRqs q):AdF a cl:=
 ⟨⟨few_of h.1,few_of h.2.1,few_of h.2.2.1,few_of h.2.2.2.1.1,fun s hs=>few_of (h.2.2.2.1.2 s hs),few_of h.2.2.2.2⟩,few_of k.1,fun q hq=>⟨few_of (k.2 q hq).1,fun z hz=>⟨few_of ((k.2 q hq).2 z hz).2,few_of ((k.2 q hq).2 z hz).1⟩⟩⟩
theorem clone_of{ifs:List (List AV)}(h:ifs.length<=NB/\∀c∈ifs,c.length=5):PC 103 [.slice .none ifs] (.slice .none ifs):=o46 ifs (few_of h.1) h.2
end
theorem ok_agg{P:Program}{W:World}{base:Nat}{t:TypeId}{v:Value}{fs:Array Field}(hu:P.underlying t=some (.struct fs))(h:Value.okWide P W .any base t v):∃cs,v=.agg cs:=by
 unfold Value.okWide at h
 rw[hu]at h
 obtain⟨cs,e,_⟩:=h
 exact⟨cs,e⟩
theorem ok_slice{P:Program}{W:World}{base:Nat}{t e:TypeId}{v:Value}(hu:P.underlying t=some (.slice e))(h:Value.okWide P W .any base t v):v.oneCell'=true:=by
 unfold Value.okWide at h
 rw[hu]at h
 unfold Cell.okWide Cell.ok at h
 rw[hu]at h
 cases v<;>first | rfl | simp at h
theorem ok_int{P:Program}{W:World}{base:Nat}{t:TypeId}{k:IntKind}{v:Value}(hu:P.underlying t=some (.int k))(h:Value.okWide P W .any base t v):v.oneCell'=true:=by
 unfold Value.okWide at h
 rw[hu]at h
 unfold Cell.okWide Cell.ok at h
 rw[hu]at h
 cases v<;>first | rfl | simp at h
theorem ok_string{P:Program}{W:World}{base:Nat}{t:TypeId}{v:Value}(hu:P.underlying t=some .string)(h:Value.okWide P W .any base t v):v.oneCell'=true:=by
 unfold Value.okWide at h
 rw[hu]at h
 unfold Cell.okWide Cell.ok at h
 rw[hu]at h
 cases v<;>first | rfl | simp at h
theorem int_of_shape{P:Program}{w:World}{g:Nat}{t:TypeId}{k:IntKind}{zero:Array Value}(h:w.ShapedOpen P)(hg:g<P.globals.size)
  (h0:((begin P (fun _ _=>0) default).world.heap[g]?).bind Obj.row?=some (zero,t)) (hz:zero.size=1)
  (hb:P.buildable t=true) (hc:P.cellTypes P.depth t=some [t]) (hu:P.underlying t=some (.int k)):∃p,w.cell? ⟨g,0,none⟩=some (.int k p):=by
 obtain⟨cs,hh,hs,hr⟩:=h.1 g zero t hg h0
 obtain⟨ts,hts,_,Gl⟩:=hr hb
 rw[hc]at hts
 cases hts
 have h1:0<cs.size:=ch
 obtain⟨u,nS,GX⟩:=Gl 0 cs[0] (by simp[h1])
 have:u=t:=by simpa using nS.symm
 subst this
 have DM:w.cell? ⟨g,0,none⟩=some cs[0]:=by simp[World.cell?,hh,h1]
 rw[DM]
 unfold Cell.ok at GX
 rw[hu]at GX
 cases hv:cs[0]<;>rw[hv]at GX<;>simp at GX
 obtain⟨rfl,_⟩:=GX
 exact⟨_,rfl⟩
theorem maxLen_cell{W:World}(h:W.ShapedOpen Tryz.prog):∃m,W.cell? ⟨0,0,none⟩=some (.int .i64 m):=
 int_of_shape (t:=3) (zero:=#[.int .i64 0]) h (AT aa1) aa1 rfl aa1 aa1 Tryz.underlying3
def Start(W:World):Prop:=(∃m,W.cell? ⟨0,0,none⟩=some (.int .i64 m))/\∀x∈m9,x.1<W.heap.size/\W.cell? ⟨x.1,x.2.1,none⟩=x.2.2
theorem start_of {W : World} {r : List (String × DataW Unit)} {a b : String × DataW Unit} (h : W.ShapedOpen Tryz.prog) (hl : laidMet Tryz.prog (a :: b :: ("internal/strconv.uint64pow10", Rows.laid_internal_strconv_uint64pow10) :: r) W) : Start W:=by
 refine⟨maxLen_cell h,?_⟩
 have ht : Go.Lib.TabIs Tryz.prog W "internal/strconv.uint64pow10" .u64 ((List.range 20).map fun i => ((10 ^ i : Nat) : Int)):=
  Go.Lib.tabIs_of_head (g:=1) (t:=355) (e:=98) (n:=20) aa1 aa1 aa1 aa1 aa1 aa1 hl.tail.tail
 have hc:=fun i => World.var?_cell (P:=Tryz.prog) (n:="internal/strconv.uint64pow10") (g:=1) aa1 ht i
 have h0:1<W.heap.size:=X2 (v:=.int .u64 1) ((hc 0).trans rfl)
 intro x hx
 rcases AZ.1 hx with rfl | hx
 .exact⟨h0,(hc 20).trans rfl⟩
 .obtain⟨i,hi,rfl⟩:=Ay.1 hx
  have hi:=G3.1 hi
  refine⟨h0,(hc i).trans ?_⟩
  simp[hi]
def Still(W W' : World):Prop:=W'.os=W.os/\W'.output=W.output/\W.heap.size<=W'.heap.size/\∀b,b<W.heap.size->W'.heap[b]?=W.heap[b]?
theorem run_true{f:Nat}{args:List AV}{vals:Array Value}{W:World}(hc:PC f args (vb true))(hM:Start W)(hs:vals.size=args.length)
  (hr:∀(i:Nat) (av:AV) (x:Value),args[i]?=some av->vals[i]?=some x->Ba (m8 W) W FD av x):Calls Tryz.prog f vals W fun e W'=>e=.returned (.bool true)/\Still W W':=by
 refine(hc.2 (m8 W) W vals hs (fun i av x q1 q2=>(hr i av x q1 q2).up _) (Abq hM.1 hM.2)).mono fun e W' ⟨v,r,h',g',e1,e2,e3,e4,_⟩=>?_
 subst e1
 obtain⟨rfl,rfl⟩:=e2
 obtain rfl:=e3.v_eq
 exact⟨rfl,e4.os,e4.output,e4.size,fun b hb=>e4.frame b hb (fun r h=>h.elim)⟩
theorem Still.kept{W W' : World}(h:Still W W')(may:MemPlace->Prop):W.keptBut W' may:=by
 refine⟨h.1,h.2.1,fun i hi=>?_⟩
 rw[h.2.2.2 i hi]
 cases hh:W.heap[i]? with
 |none=>rfl
 |some o=>cases o<;>simp
theorem Still.same{W W' : World}(h:Still W W'){p:MemPlace}(hp:p.block<W.heap.size):W.sameAt W' p:=by
 cases p with
 |cell b off=>
  show W'.cell? ⟨b,off,none⟩=W.cell? ⟨b,off,none⟩
  unfold World.cell?
  rw[h.2.2.2 b hp]
 |map b=>exact h.2.2.2 b hp
theorem kids:Kids Tryz.prog (· < Tryz.prog.types.size):=kids_rows aa1 aa1
theorem full:∀t e,t<Tryz.prog.types.size->Tryz.prog.underlying t=some (.slice e)->0<Tryz.prog.cellsOf e:=slices_full_of Tryz.prog aa1
theorem carry{H:Type}{enc:TypeId×Value->H}{W W' : World}(h:Still W W'):∀{ts:List TypeId} {vs:List Value} {ds:List (DataW H)} {ps:List MemPlace},DataW.TrodAll enc Tryz.prog W 0 (fun _=>true) true ts vs ds ps->DataW.TrodAll enc Tryz.prog W' 0 (fun _=>true) true ts vs ds ps
 | [],[],[],_,e=>e
 |t::ts,v::vs,d::ds,ps,k=>by
  have EU:=k.lt
  obtain⟨p,q,⟨n,h1⟩,h2,rfl⟩:=k
  exact⟨p,q,⟨n,DataW.trod_carry n _ _ _ h1 (fun x hx=>h.same (EU x (CE _ hx)))⟩,carry h h2,rfl⟩
 | [],[],_::_,_,k=>k.elim
 | [],_::_,_,_,k=>k.elim
 |_::_,[],_,_,k=>k.elim
 |_::_,_::_,[],_,k=>k.elim
theorem post_true{H:Type}{enc:TypeId×Value->H}{W W' : World}{f:Func}{s:ChangeSpec}{args:Array Value}{ds:List (DataW H)}{before:List MemPlace}(KP:Still W W')(hv:s.vars=[])
  (hW:DataW.Whole enc Tryz.prog f.params.toList s.vars false W args.toList ds [] before) (hr:f.resultTypes=#[4]) (hT:∀t∈f.params.toList,t<Tryz.prog.types.size) (hs:s.fn H ds={ results:=[.lit (.bool true)],args:=ds }) :
  s.post enc Tryz.prog f false true false false W args (.bool true) W':=by
 have hW0:=hW
 obtain⟨p,q,hA,hV,rfl,hz,_⟩:=hW
 rw[hv]at hV
 have hq:q=[]:=hV
 subst hq
 have EU:=hW0.lt
 have xh:s.fn H (ds++[])={ results:=[.lit (.bool true)],args:=ds }:=by rw[Bg];exact hs
 refine⟨ds,[],p++[],[],p,[],hW0,?_,?_,?_,KP.kept _,fun h=>by cases h⟩
 .rw[xh,hr]
  exact⟨[],[],⟨1,by rw[show(Value.bool true).cells.toList=[.bool true]from rfl,DataW.trod_step];unfold DataW.trodStep;rw[Tryz.underlying4]⟩,rfl,rfl⟩
 .rw[xh]
  exact(carry KP hA).respare kids full hT (fun x hx=>by simpa using EU x (CE _ hx))
 .rw[xh,hv];rfl
end Go.Proofs.YteaiieomnhbmgaaGreatDoor.joins
namespace Go.Proofs.YteaiieomnhbmgaaGreatDoor.joins
open Go Go.Eng Go.Proofs Go.ChangeShapes Go.WideShapes Go.ChangeAt Go.RowKit
theorem own:ownKnob Tryz.prog.godebug=none:=by kernel_rfl
def flatD:Nat->DataW Unit->List Value
 |0,_=>[]
 |n+1,.agg l=>l.flatMap (flatD n)
 |_+1,.lit (.int k i)=>[.int k i]
 |_+1,_=>[]
def layIn(d:DataW Unit):Obj->Obj
 |.cells _ t frozen=>.cells (flatD 4 d).toArray t frozen
 |o=>o
noncomputable def laidWorld(os:Os):World:=
 { World.holding Tryz.prog os ⟨#[],#[],[]⟩with heap:=((((((World.holding Tryz.prog os ⟨#[],#[],[]⟩).heap.modify 2 (layIn Rows.laid_math_bits_deBruijn32tab)).modify 3 (layIn Rows.laid_math_bits_deBruijn64tab)).modify 4 (layIn Rows.laid_unicode_utf8_first)).modify 5 (layIn Rows.laid_unicode_utf8_acceptRanges)).modify 1 (layIn Rows.laid_internal_strconv_uint64pow10)) }
abbrev nilV:Value:=.slice none 0 0
theorem arr1{args:Array Value}{a:Value}(h:args.toList=[a]):args=#[a]:=by
 cases args;simp_all
theorem arr2{args:Array Value}{a b:Value}(h:args.toList=[a,b]):args=#[a,b]:=by
 cases args;simp_all
theorem arr3{args:Array Value}{a b c:Value}(h:args.toList=[a,b,c]):args=#[a,b,c]:=by
 cases args;simp_all
theorem arr4{args:Array Value}{a b c d:Value}(h:args.toList=[a,b,c,d]):args=#[a,b,c,d]:=by
 cases args;simp_all
theorem arr5{args:Array Value}{a b c d e:Value}(h:args.toList=[a,b,c,d,e]):args=#[a,b,c,d,e]:=by
 cases args;simp_all
theorem arr6{args:Array Value}{a b c d e f:Value}(h:args.toList=[a,b,c,d,e,f]):args=#[a,b,c,d,e,f]:=by
 cases args;simp_all
theorem arr7{args:Array Value}{a b c d e f g:Value}(h:args.toList=[a,b,c,d,e,f,g]):args=#[a,b,c,d,e,f,g]:=by
 cases args;simp_all
theorem looksOff:false=Tryz.pinned.checked.prog.looks []:=by kernel_rfl
theorem noStand:∀t∈([3,5,9,22,33,34,37,54,55]:List Nat),Tryz.pinned.checked.prog.wantsStandIn t=false:=by
 intro t ht
 simp only[AZ,L8,or_false]at ht
 rcases ht with rfl | rfl | rfl | rfl | rfl | rfl | rfl | rfl | rfl<;>exact(show Tryz.prog.wantsStandIn _=false by kernel_rfl)
end Go.Proofs.YteaiieomnhbmgaaGreatDoor.joins
namespace Go.Eng
open Go.Proofs
variable {α:Type}{f:α->Bool}{i:Nat}{l:List α}(s:List Sl)(p:CS)(y:Sl)
theorem fw(h:i<l.length):(l.drop i).any f=(f l[i]||(l.drop (i+1)).any f):=by rw[AD h,DW]
theorem To(h:i<l.length)(e:f l[i]=false)(q:(l.drop i).any f=l.any f):(l.drop (i+1)).any f=l.any f:=by rw[<-q,fw h,e,Bool.false_or]
theorem Tp(h:i<l.length)(e:f l[i]=true)(q:(l.drop i).any f=l.any f):l.any f=true:=by rw[<-q,fw h,e,Bool.true_or]
theorem Tn(h:l.length<=i)(q:(l.drop i).any f=l.any f):l.any f=false:=by rw[<-q,AN h];rfl
def K8(q:Rq)(y:Sl):Bool:=decide (y.path=q.path)&&has q.set (place y.ver)
theorem Ze(rq:Rq)(s:List Sl)(hq:BD rq.set)(hs:BD s)(hv:∀y∈s,BN y.ver=true):PC 164 [.agg (AI rq),sl Ab s] (vb (s.any (K8 rq))):=by
 have hs:s.length<=1073741824:=hs;refine Ps (pC [2] []) Tryz.func164 rfl C4 (I {q:Nat // q<=s.length/\(s.drop q).any (K8 rq)=s.any (K8 rq)} (I (fun q=>⟨[(1,sl Ab s),(2,.ref 2 0),(5,vi q.1)],[(2,.ro (AI rq))],Ae⟩) (I (fun q=>s.length-q.1) (J (I ⟨0,Aj _,rfl⟩ ?_) ?_))))
 .exact⟨Z3,Z1,Fh,C⟩
 intro⟨i,i1,i2⟩;have i1:i<=s.length:=i1;have i2:(s.drop i).any (K8 rq)=s.any (K8 rq):=i2;refine J (fun h1=>?_) (fun h1=>?_)
 .have h1:(i:Int)<((s.map Ab).length:Int):=h1;have n1:=Dh h1;refine I (Ab s[i]) (J (DC n1) (J rfl (J (fun h2=>?_) (fun h2=>?_))))
  .have h2:(s[i].path:CS)=rq.path:=h2;refine I (Ab s[i]) (J (DC n1) (J rfl (yN (C2 (wz s[i].ver (hv _ (Ai n1))) (A1 (Bt (has rq.set (place s[i].ver))) (fun h3=>?_) (fun h3=>?_))))))
   .have h3:(has rq.set (place s[i].ver))=true:=h3;refine C2 (cb h3 (Aa4 rq.set (place s[i].ver) hq)) (J aa1 ?_);exact BC.of_eq (Aa vb (show true=s.any (K8 rq)from(Tp n1 (by rw[K8,AB h2,h3];rfl) i2).symm))
   have h3:(has rq.set (place s[i].ver))=false:=h3;refine C2 (cb h3 (Aa4 rq.set (place s[i].ver) hq)) (J aa1 (J (Ii i ch) (I ⟨i+1,n1,To n1 (by rw[K8,AB h2,h3];rfl) i2⟩ ?_)));exact⟨Dl s.length i ch,Z3,Z1,Fh,C⟩
  have h2:¬(s[i].path:CS)=rq.path:=h2;refine J aa1 (J (Ii i ch) (I ⟨i+1,n1,To n1 (by rw[K8,Aw h2];rfl) i2⟩ ?_));exact⟨Dl s.length i ch,Z3,Z1,Fh,C⟩
 have h1:¬((i:Int)<((s.map Ab).length:Int)):=h1;have n1:=BB h1;exact BC.of_eq (Aa vb (show false=s.any (K8 rq)from(Tn (AE (BB h1)) i2).symm))
def Vx:Bool:=decide (y.path=p)
def Dn:List Sl:=(s.find? (Vx p)).toList
theorem ye{s:List Sl}{p:CS}(h:i<s.length)(e:¬s[i].path=p)(q:Dn (s.drop i) p=Dn s p):Dn (s.drop (i+1)) p=Dn s p:=by
 rw[<-q];show _=Dn (s.drop i) p;rw[AD h];unfold Dn;rw[List.find?_cons_of_neg (by unfold Vx;rw[Aw e];exact EC)]
theorem tT{s:List Sl}{p:CS}(h:i<s.length)(e:s[i].path=p)(q:Dn (s.drop i) p=Dn s p):[s[i]]=Dn s p:=by
 rw[<-q,AD h];unfold Dn;rw[List.find?_cons_of_pos (by unfold Vx;exact AB e)];rfl
theorem tR{s:List Sl}{p:CS}(h:s.length<=i)(q:Dn (s.drop i) p=Dn s p):[]=Dn s p:=by
 rw[<-q,AN h];rfl
theorem Hi(hs:BD s):PC 158 [sl Ab s,vs p] (sl Ab (Dn s p)):=by
 have hs:s.length<=1073741824:=hs;refine Ps CQ Tryz.func158 rfl C4 (I {q:Nat // q<=s.length/\Dn (s.drop q) p=Dn s p} (I (fun q=>⟨[(0,sl Ab s),(1,vs p),(5,vi q.1)],[],Ae⟩) (I (fun q=>s.length-q.1) (J (I ⟨0,Aj _,rfl⟩ ?_) ?_))))
 .exact⟨Z3,C,Fh,C⟩
 intro⟨i,i1,i2⟩;have i1:i<=s.length:=i1;have i2:Dn (s.drop i) p=Dn s p:=i2;refine J (fun h1=>?_) (fun h1=>?_)
 .have h1:(i:Int)<((s.map Ab).length:Int):=h1;have n1:=Dh h1;refine I (Ab s[i]) (J (DC n1) (J rfl (J (fun h2=>?_) (fun h2=>?_))))
  .have h2:(s[i].path:CS)=p:=h2;refine I (Ab s[i]) (J (DC n1) (J rfl (yN ?_)));exact BC.of_eq (Aa (sl Ab) (tT n1 h2 i2))
  have h2:¬(s[i].path:CS)=p:=h2;refine J (Ii i ch) (I ⟨i+1,n1,ye n1 h2 i2⟩ ?_);exact⟨Dl s.length i ch,Z3,C,Fh,C⟩
 have h1:¬((i:Int)<((s.map Ab).length:Int)):=h1;have n1:=BB h1;exact BC.trans BC.nil (BC.of_eq (Aa (sl Ab) (tR (AE (BB h1)) i2)))
theorem Gn(l:List CS)(p:CS)(hs:BD l):PC 96 [sl Af l,vs p] (vb (CV l p)):=by
 have hs:l.length<=1073741824:=hs;refine Ps CQ Tryz.func96 rfl C4 (I {q:Nat // q<=l.length/\(l.drop q).any (fun z=>decide (z=p))=l.any (fun z=>decide (z=p))} (I (fun q=>⟨[(0,sl Af l),(1,vs p),(5,vi q.1)],[],Ae⟩) (I (fun q=>l.length-q.1) (J (I ⟨0,Aj _,rfl⟩ ?_) ?_))))
 .exact⟨Z3,C,Fh,C⟩
 intro⟨i,i1,i2⟩;have i1:i<=l.length:=i1;have i2:(l.drop i).any (fun z=>decide (z=p))=l.any (fun z=>decide (z=p)):=i2;refine J (fun h1=>?_) (fun h1=>?_)
 .have h1:(i:Int)<((l.map Af).length:Int):=h1;have n1:=Dh h1;refine I (Af l[i]) (J (DC n1) (J rfl (J (fun h2=>?_) (fun h2=>?_))))
  .have h2:(l[i]:CS)=p:=h2;exact BC.of_eq (Aa vb (show true=CV l p from(Tp n1 (AB h2) i2).symm))
  have h2:¬(l[i]:CS)=p:=h2;refine J (Ii i ch) (I ⟨i+1,n1,To n1 (Aw h2) i2⟩ ?_);exact⟨Dl l.length i ch,Z3,C,Fh,C⟩
 have h1:¬((i:Int)<((l.map Af).length:Int)):=h1;have n1:=BB h1;exact BC.of_eq (Aa vb (show false=CV l p from(Tn (AE (BB h1)) i2).symm))
end Go.Eng
