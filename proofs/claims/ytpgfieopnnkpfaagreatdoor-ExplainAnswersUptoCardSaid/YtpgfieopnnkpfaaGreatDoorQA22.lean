/- Lemmas 22. -/
import Derived.Test.YtpgfieopnnkpfaaGreatDoorQA21
set_option maxHeartbeats 4000000
namespace Go.Eng
open Go.Proofs
variable {u:List Bool}{l:List Nf}{i:Int}{u2:List Bool}{target m:Int}(p:ByteArray)(y:Nf)(c:List Tm)(n:Nat)(pl:Int)(j:Nat)
theorem G5{a b:ByteArray}(ha:a.size<=4000000000000000000)(hb:b.size<=4000000000000000000):((a.size+b.size:Nat):Int)<=9223372036854775807:=by omega
theorem dR:∀{l:AF} {lo:Int},D7 lo l->∀x∈l,x.1<x.2:=by
 intro l
 induction l with
 |nil=>intro lo _ x hx;cases hx
 |cons y l ih=>
  intro lo h x hx;obtain⟨h1,h2,h3,h4⟩:=h;rcases AN.1 hx with rfl | hx
  .omega
  .exact ih h4 x hx
theorem XO(s:AF)(i:Nat)(h:i<(canon s).length):(0<=(canon s)[i].1/\(canon s)[i].1<(canon s)[i].2)/\(canon s)[i].2<=1000000:=by
 have h1:=Mq (Bc s) _ (Ah h);have h2:=dR (Bc s) _ (Ah h);omega
theorem Nx{p:Int}(hm:0<=m/\m<=999)(hp:0<=p/\p<1000000):Dj (Hu m p)=Lt m p:=by
 have hv:Bo ⟨m,p / 1000,p % 1000⟩=true:=by
  have h1:okPart m:=hm;have h2:okPart (p / 1000):=by unfold okPart;omega
  have h3:okPart (p % 1000):=by unfold okPart;omega
  unfold Bo;rw[A4 h1,A4 h2,A4 h3];rfl
 unfold Hu;rw[AE ⟨hp.1,hp.2,hv⟩];unfold Dj;rw[AE hv];rfl
theorem LJ{p:Int}(hm:0<=m/\m<=999)(hp:0<=p/\p<1000000):(Dj (Hu m p)).size<=65:=by rw[Nx hm hp];exact I0 hm aa0
theorem bC(hm:0<=m/\m<=999)(s:AF):Qy GD ((canon s).map (Dn m))<=281474976710656:=by
 have h:=El GD 132 ((canon s).map (Dn m)) (fun x hx=>by
  obtain⟨y,hy,rfl⟩:=Ay.1 hx
  have:=Mq (Bc s) y hy
  exact H3 hm this.1 this.2)
 have hl:=CK (Bc s);rw[Lm]at h;have e:GD.size=3:=rfl;rw[e]at h;show(Bk GD ((canon s).map (Dn m))).size<=_;omega
abbrev Fv(m:Int)(s:AF)(i:Nat):List ByteArray:=((canon s).take i).map (Dn m)
theorem Mi(m:Int)(s:AF)(i:Nat)(h:i<(canon s).length):Fv m s (i+1)=Fv m s i++[Dn m (canon s)[i]]:=by
 unfold Fv;rw[A6 h,AB];rfl
theorem e98(m:Int)(s:AF)(hM:0<=m/\m<=999)(hs:BB s):PC 98 [sl Ab s,vi m] (.tup [vs (MZ m s),vi 0]):=by
 have hM:0<=m/\m<=999:=hM;have TY:=CK (Bc s);refine Ps (pT [3] [(7,1)] [2,3,8,9,10,11,12,13,14,15,16,17,19,20]) Tryz.func98 rfl (Nz rfl) (Yi (fun hf=>absurd hf (show ¬m<0 by omega)) (fun _=>?_));refine Yi (fun hf=>absurd hf (show ¬(999:Int)<m by omega)) (fun _=>?_);refine cU [(0,sl Ab s),(3,.ref 3 0)] [(3,.ro [vi m])] Z2 Z1 (Xi .pure (Xi _ (Yi (V1 s hs) (Xi {i:Nat // i<=(canon s).length} (Xi (fun q=>⟨[(6,.clo 161 [.cptr [vi m]]),(7,.slice (.id 7 1) ((Fv m s q.1).map Ag)),(18,sl Ab (canon s)),(19,vi ((canon s).map Ab).length),(20,vi q.1)],[(7,.tok 1 q.1)],Af⟩) (Xi (fun q=>(canon s).length-q.1) (Yi (Xi ⟨0,Ao _⟩ ?_) ?_)))))))
 .exact⟨Z5,Z1,Fh,Tv⟩
 intro⟨i,i1⟩;have i1:i<=(canon s).length:=i1;have GH:(Fv m s i).length=i:=by unfold Fv;rw[Lm,AC];omega
 have vz:((canon s).take i).length=i:=by rw[AC];omega
 refine Yi (fun h1=>?_) (fun h1=>?_)
 .have h1:(i:Int)<(((canon s).map Ab).length:Int):=h1;have n1:i<(canon s).length:=by have q:=h1;rw[Lm]at q;omega
  have g1:(canon s)[i]?=some (canon s)[i]:=Ge n1;have zA:=XO s i n1;refine Xi (Ab ((canon s)[i])) (Yi (Yi (Nn i) (AM g1)) (Yi rfl (yN (yN (cU [(6,.clo 161 [.cptr [vi m]]),(7,.slice (.id 7 1) ((Fv m s i).map Ag)),(9,.ref 9 0),(18,sl Ab (canon s)),(19,vi ((canon s).map Ab).length),(20,vi i)] [(7,.tok 1 i),(9,.cells (Ab ((canon s)[i])))] Z6 Z2 (yN (Yi (fun h2=>?_) (fun h2=>?_))))))))
  .have h2:(((canon s)[i]).1:Int)=0/\(((canon s)[i]).2:Int)=1000000/\True:=h2;refine cU [(6,.clo 161 [.cptr [vi m]]),(7,.slice (.id 7 1) ((Fv m s i).map Ag)),(18,sl Ab (canon s)),(19,vi ((canon s).map Ab).length),(20,vi i)] [(7,.tok 1 i)] Z5 Z1 ?_
   have b3:AZ 1 [[vs ⟨#[42]⟩]]/\((Fv m s i).map Ag).length=i/\(((Fv m s i).map Ag).length+([[vs ⟨#[42]⟩]]:List (List AV)).length)*16<=140737488355328/\((Fv m s i).map Ag).length+([[vs ⟨#[42]⟩]]:List (List AV)).length<=9223372036854775807:=⟨⟨rfl,trivial⟩,(by first | (simp;done) | (rw[Lm];assumption)),(by simp only[Lm,Av,AA];omega),(by simp only[Lm,Av,AA];omega)⟩
   refine Yi b3 (cU [(6,.clo 161 [.cptr [vi m]]),(7,.slice (.id 7 1) (((Fv m s i).map Ag)++[[vs ⟨#[42]⟩]])),(18,sl Ab (canon s)),(19,vi ((canon s).map Ab).length),(20,vi i)] [(7,.tok 1 (((Fv m s i).map Ag).length+([[vs ⟨#[42]⟩]]:List (List AV)).length))] Z5 Z1 (Yi (Ii i aa0) ?_));have cC:Dn m ((canon s)[i])=⟨#[42]⟩:=by unfold Dn;(try dsimp only);rw[AE ⟨h2.1,h2.2.1⟩]
   refine Xi ⟨i+1,by omega⟩ ?_;exact⟨by show(canon s).length-(i+1)<(canon s).length-i;omega,⟨Zr,⟨(show AV.slice (.id 7 1) ((Fv m s i).map Ag++[[vs ⟨#[42]⟩]])=.slice (.id 7 1) ((Fv m s (i+1)).map Ag) by rw[Mi m s i n1,AB,<-cC];rfl),rfl⟩,Zr,Zr,Zr,Tv⟩,⟨⟨(show HO.tok 1 (((Fv m s i).map Ag).length+([[vs ⟨#[42]⟩]]:List (List AV)).length)=.tok 1 (i+1) by rw[Lm,GH];rfl),rfl⟩,Tv⟩,Fh,Tv⟩
  have h2:¬((((canon s)[i]).1:Int)=0/\(((canon s)[i]).2:Int)=1000000/\True):=h2;refine cU [(6,.clo 161 [.cptr [vi m]]),(7,.slice (.id 7 1) ((Fv m s i).map Ag)),(9,.ref 9 0),(18,sl Ab (canon s)),(19,vi ((canon s).map Ab).length),(20,vi i)] [(7,.tok 1 i),(9,.cells (Ab ((canon s)[i])))] Z6 Z2 (Yi (by show Al ((((canon s)[i]).1:Int)+(1:Int));unfold Al;omega) ?_);refine Yi (fun h5=>?_) (fun h5=>?_)
  .have h5:(((canon s)[i]).2:Int)=(((canon s)[i]).1+1:Int):=h5;refine cU [(6,.clo 161 [.cptr [vi m]]),(7,.slice (.id 7 1) ((Fv m s i).map Ag)),(9,.ref 9 0),(18,sl Ab (canon s)),(19,vi ((canon s).map Ab).length),(20,vi i)] [(7,.tok 1 i),(9,.cells (Ab ((canon s)[i])))] Z6 Z2 (Xi .pure (Xi _ (Yi (iT m ((canon s)[i]).1 (by unfold Al;omega)) ?_)));have b6:AZ 1 [[vs (Dj (Hu m ((canon s)[i]).1))]]/\((Fv m s i).map Ag).length=i/\(((Fv m s i).map Ag).length+([[vs (Dj (Hu m ((canon s)[i]).1))]]:List (List AV)).length)*16<=140737488355328/\((Fv m s i).map Ag).length+([[vs (Dj (Hu m ((canon s)[i]).1))]]:List (List AV)).length<=9223372036854775807:=⟨⟨rfl,trivial⟩,(by first | (simp;done) | (rw[Lm];assumption)),(by simp only[Lm,Av,AA];omega),(by simp only[Lm,Av,AA];omega)⟩
   refine Yi b6 (cU [(6,.clo 161 [.cptr [vi m]]),(7,.slice (.id 7 1) (((Fv m s i).map Ag)++[[vs (Dj (Hu m ((canon s)[i]).1))]])),(18,sl Ab (canon s)),(19,vi ((canon s).map Ab).length),(20,vi i)] [(7,.tok 1 (((Fv m s i).map Ag).length+([[vs (Dj (Hu m ((canon s)[i]).1))]]:List (List AV)).length))] Z5 Z1 (Yi (Ii i aa0) ?_));have cC:Dn m ((canon s)[i])=(Dj (Hu m ((canon s)[i]).1)):=by unfold Dn;(try dsimp only);rw[Aw (fun h=>h2 ⟨h.1,h.2,trivial⟩)];rw[AE h5,Nx hM aa0]
   refine Xi ⟨i+1,by omega⟩ ?_;exact⟨by show(canon s).length-(i+1)<(canon s).length-i;omega,⟨Zr,⟨(show AV.slice (.id 7 1) ((Fv m s i).map Ag++[[vs (Dj (Hu m ((canon s)[i]).1))]])=.slice (.id 7 1) ((Fv m s (i+1)).map Ag) by rw[Mi m s i n1,AB,<-cC];rfl),rfl⟩,Zr,Zr,Zr,Tv⟩,⟨⟨(show HO.tok 1 (((Fv m s i).map Ag).length+([[vs (Dj (Hu m ((canon s)[i]).1))]]:List (List AV)).length)=.tok 1 (i+1) by rw[Lm,GH];rfl),rfl⟩,Tv⟩,Fh,Tv⟩
  have h5:¬((((canon s)[i]).2:Int)=(((canon s)[i]).1+1:Int)):=h5;refine cU [(6,.clo 161 [.cptr [vi m]]),(7,.slice (.id 7 1) ((Fv m s i).map Ag)),(9,.ref 9 0),(18,sl Ab (canon s)),(19,vi ((canon s).map Ab).length),(20,vi i)] [(7,.tok 1 i),(9,.cells (Ab ((canon s)[i])))] Z6 Z2 (Yi (fun h8=>?_) (fun h8=>?_))
  .have h8:(((canon s)[i]).2:Int)=(1000000:Int):=h8;refine cU [(6,.clo 161 [.cptr [vi m]]),(7,.slice (.id 7 1) ((Fv m s i).map Ag)),(9,.ref 9 0),(18,sl Ab (canon s)),(19,vi ((canon s).map Ab).length),(20,vi i)] [(7,.tok 1 i),(9,.cells (Ab ((canon s)[i])))] Z6 Z2 (Xi .pure (Xi _ (Yi (iT m ((canon s)[i]).1 (by unfold Al;omega)) (Yi (G5 (AL (LJ hM (p:=((canon s)[i]).1) aa0) aa2) aa2) ?_))));have b9:AZ 1 [[vs ((Dj (Hu m ((canon s)[i]).1))++⟨#[46,46]⟩)]]/\((Fv m s i).map Ag).length=i/\(((Fv m s i).map Ag).length+([[vs ((Dj (Hu m ((canon s)[i]).1))++⟨#[46,46]⟩)]]:List (List AV)).length)*16<=140737488355328/\((Fv m s i).map Ag).length+([[vs ((Dj (Hu m ((canon s)[i]).1))++⟨#[46,46]⟩)]]:List (List AV)).length<=9223372036854775807:=⟨⟨rfl,trivial⟩,(by first | (simp;done) | (rw[Lm];assumption)),(by simp only[Lm,Av,AA];omega),(by simp only[Lm,Av,AA];omega)⟩
   refine Yi b9 (cU [(6,.clo 161 [.cptr [vi m]]),(7,.slice (.id 7 1) (((Fv m s i).map Ag)++[[vs ((Dj (Hu m ((canon s)[i]).1))++⟨#[46,46]⟩)]])),(18,sl Ab (canon s)),(19,vi ((canon s).map Ab).length),(20,vi i)] [(7,.tok 1 (((Fv m s i).map Ag).length+([[vs ((Dj (Hu m ((canon s)[i]).1))++⟨#[46,46]⟩)]]:List (List AV)).length))] Z5 Z1 (Yi (Ii i aa0) ?_));have cC:Dn m ((canon s)[i])=((Dj (Hu m ((canon s)[i]).1))++⟨#[46,46]⟩):=by unfold Dn;(try dsimp only);rw[Aw (fun h=>h2 ⟨h.1,h.2,trivial⟩)];rw[Aw h5];rw[AE h8,Nx hM aa0]
   refine Xi ⟨i+1,by omega⟩ ?_;exact⟨by show(canon s).length-(i+1)<(canon s).length-i;omega,⟨Zr,⟨(show AV.slice (.id 7 1) ((Fv m s i).map Ag++[[vs ((Dj (Hu m ((canon s)[i]).1))++⟨#[46,46]⟩)]])=.slice (.id 7 1) ((Fv m s (i+1)).map Ag) by rw[Mi m s i n1,AB,<-cC];rfl),rfl⟩,Zr,Zr,Zr,Tv⟩,⟨⟨(show HO.tok 1 (((Fv m s i).map Ag).length+([[vs ((Dj (Hu m ((canon s)[i]).1))++⟨#[46,46]⟩)]]:List (List AV)).length)=.tok 1 (i+1) by rw[Lm,GH];rfl),rfl⟩,Tv⟩,Fh,Tv⟩
  have h8:¬((((canon s)[i]).2:Int)=(1000000:Int)):=h8;refine cU [(6,.clo 161 [.cptr [vi m]]),(7,.slice (.id 7 1) ((Fv m s i).map Ag)),(9,.ref 9 0),(18,sl Ab (canon s)),(19,vi ((canon s).map Ab).length),(20,vi i)] [(7,.tok 1 i),(9,.cells (Ab ((canon s)[i])))] Z6 Z2 (Yi (fun Hd=>?_) (fun Hd=>?_))
  .have Hd:(((canon s)[i]).1:Int)=(0:Int):=Hd;refine cU [(6,.clo 161 [.cptr [vi m]]),(7,.slice (.id 7 1) ((Fv m s i).map Ag)),(9,.ref 9 0),(18,sl Ab (canon s)),(19,vi ((canon s).map Ab).length),(20,vi i)] [(7,.tok 1 i),(9,.cells (Ab ((canon s)[i])))] Z6 Z2 (Xi .pure (Xi _ (Yi (iT m ((canon s)[i]).2 (by unfold Al;omega)) (Yi (G5 aa2 (AL (LJ hM (p:=((canon s)[i]).2) aa0) aa2)) ?_))));have so:AZ 1 [[vs (⟨#[46,46]⟩++(Dj (Hu m ((canon s)[i]).2)))]]/\((Fv m s i).map Ag).length=i/\(((Fv m s i).map Ag).length+([[vs (⟨#[46,46]⟩++(Dj (Hu m ((canon s)[i]).2)))]]:List (List AV)).length)*16<=140737488355328/\((Fv m s i).map Ag).length+([[vs (⟨#[46,46]⟩++(Dj (Hu m ((canon s)[i]).2)))]]:List (List AV)).length<=9223372036854775807:=⟨⟨rfl,trivial⟩,(by first | (simp;done) | (rw[Lm];assumption)),(by simp only[Lm,Av,AA];omega),(by simp only[Lm,Av,AA];omega)⟩
   refine Yi so (cU [(6,.clo 161 [.cptr [vi m]]),(7,.slice (.id 7 1) (((Fv m s i).map Ag)++[[vs (⟨#[46,46]⟩++(Dj (Hu m ((canon s)[i]).2)))]])),(18,sl Ab (canon s)),(19,vi ((canon s).map Ab).length),(20,vi i)] [(7,.tok 1 (((Fv m s i).map Ag).length+([[vs (⟨#[46,46]⟩++(Dj (Hu m ((canon s)[i]).2)))]]:List (List AV)).length))] Z5 Z1 (Yi (Ii i aa0) ?_));have cC:Dn m ((canon s)[i])=(⟨#[46,46]⟩++(Dj (Hu m ((canon s)[i]).2))):=by unfold Dn;(try dsimp only);rw[Aw (fun h=>h2 ⟨h.1,h.2,trivial⟩)];rw[Aw h5];rw[Aw h8];rw[AE Hd,Nx hM aa0]
   refine Xi ⟨i+1,by omega⟩ ?_;exact⟨by show(canon s).length-(i+1)<(canon s).length-i;omega,⟨Zr,⟨(show AV.slice (.id 7 1) ((Fv m s i).map Ag++[[vs (⟨#[46,46]⟩++(Dj (Hu m ((canon s)[i]).2)))]])=.slice (.id 7 1) ((Fv m s (i+1)).map Ag) by rw[Mi m s i n1,AB,<-cC];rfl),rfl⟩,Zr,Zr,Zr,Tv⟩,⟨⟨(show HO.tok 1 (((Fv m s i).map Ag).length+([[vs (⟨#[46,46]⟩++(Dj (Hu m ((canon s)[i]).2)))]]:List (List AV)).length)=.tok 1 (i+1) by rw[Lm,GH];rfl),rfl⟩,Tv⟩,Fh,Tv⟩
  have Hd:¬((((canon s)[i]).1:Int)=(0:Int)):=Hd;refine cU [(6,.clo 161 [.cptr [vi m]]),(7,.slice (.id 7 1) ((Fv m s i).map Ag)),(9,.ref 9 0),(18,sl Ab (canon s)),(19,vi ((canon s).map Ab).length),(20,vi i)] [(7,.tok 1 i),(9,.cells (Ab ((canon s)[i])))] Z6 Z2 (Xi _ (Yi (iT m ((canon s)[i]).1 (by unfold Al;omega)) (Yi (G5 (AL (LJ hM (p:=((canon s)[i]).1) aa0) aa2) aa2) (Xi _ (Yi (iT m ((canon s)[i]).2 (by unfold Al;omega)) (Yi (G5 (by have q:=LJ hM (p:=(canon s)[i].1) aa0;rw[AY];show _+2<=_;omega) (AL (LJ hM (p:=((canon s)[i]).2) aa0) aa2)) ?_))))));have b14:AZ 1 [[vs (((Dj (Hu m ((canon s)[i]).1))++⟨#[46,46]⟩)++(Dj (Hu m ((canon s)[i]).2)))]]/\((Fv m s i).map Ag).length=i/\(((Fv m s i).map Ag).length+([[vs (((Dj (Hu m ((canon s)[i]).1))++⟨#[46,46]⟩)++(Dj (Hu m ((canon s)[i]).2)))]]:List (List AV)).length)*16<=140737488355328/\((Fv m s i).map Ag).length+([[vs (((Dj (Hu m ((canon s)[i]).1))++⟨#[46,46]⟩)++(Dj (Hu m ((canon s)[i]).2)))]]:List (List AV)).length<=9223372036854775807:=⟨⟨rfl,trivial⟩,(by first | (simp;done) | (rw[Lm];assumption)),(by simp only[Lm,Av,AA];omega),(by simp only[Lm,Av,AA];omega)⟩
  refine Yi b14 (Yi aa3 (cU [(6,.clo 161 [.cptr [vi m]]),(7,.slice (.id 7 1) (((Fv m s i).map Ag)++[[vs (((Dj (Hu m ((canon s)[i]).1))++⟨#[46,46]⟩)++(Dj (Hu m ((canon s)[i]).2)))]])),(18,sl Ab (canon s)),(19,vi ((canon s).map Ab).length),(20,vi i)] [(7,.tok 1 (((Fv m s i).map Ag).length+([[vs (((Dj (Hu m ((canon s)[i]).1))++⟨#[46,46]⟩)++(Dj (Hu m ((canon s)[i]).2)))]]:List (List AV)).length))] Z5 Z1 (Yi (Ii i aa0) ?_)));have cC:Dn m ((canon s)[i])=(((Dj (Hu m ((canon s)[i]).1))++⟨#[46,46]⟩)++(Dj (Hu m ((canon s)[i]).2))):=by unfold Dn;(try dsimp only);rw[Aw (fun h=>h2 ⟨h.1,h.2,trivial⟩)];rw[Aw h5];rw[Aw h8];rw[Aw Hd,Nx hM aa0,Nx hM aa0]
  refine Xi ⟨i+1,by omega⟩ ?_;exact⟨by show(canon s).length-(i+1)<(canon s).length-i;omega,⟨Zr,⟨(show AV.slice (.id 7 1) ((Fv m s i).map Ag++[[vs (((Dj (Hu m ((canon s)[i]).1))++⟨#[46,46]⟩)++(Dj (Hu m ((canon s)[i]).2)))]])=.slice (.id 7 1) ((Fv m s (i+1)).map Ag) by rw[Mi m s i n1,AB,<-cC];rfl),rfl⟩,Zr,Zr,Zr,Tv⟩,⟨⟨(show HO.tok 1 (((Fv m s i).map Ag).length+([[vs (((Dj (Hu m ((canon s)[i]).1))++⟨#[46,46]⟩)++(Dj (Hu m ((canon s)[i]).2)))]]:List (List AV)).length)=.tok 1 (i+1) by rw[Lm,GH];rfl),rfl⟩,Tv⟩,Fh,Tv⟩
 have h1:¬((i:Int)<(((canon s).map Ab).length:Int)):=h1;have n1:¬i<(canon s).length:=by have q:=h1;rw[Lm]at q;omega
 refine Yi (fun PA=>?_) (fun PA=>?_)
 .have PA:(((Fv m s i).map Ag).length:Int)=(0:Int):=PA;refine cU [] [] Tv Tv ?_
  exact .of_eq (show AV.tup [vs iq,vi 0]=.tup [vs (MZ m s),vi 0] by unfold MZ;rw[AE (Az (by have q:=PA;rw[Lm,GH]at q;omega))])
 have PA:¬((((Fv m s i).map Ag).length:Int)=(0:Int)):=PA;refine cU [(7,.slice (.id 7 1) ((Fv m s i).map Ag))] [(7,.tok 1 i)] Z1 Z1 ?_
 have m5:=t7 ((canon s).map (Dn m)) GD (by rw[Lm];have:=CK (Bc s);omega) (bC hM s);have ej:(canon s).take i=canon s:=AK aa0;refine Xi .pure (Xi _ (Yi (show PC 49 [sl Ag (Fv m s i),vs GD] (vs (Bk GD ((canon s).map (Dn m)))) by unfold Fv;rw[ej];exact m5) ?_));exact .of_eq (show AV.tup [vs (Bk GD ((canon s).map (Dn m))),vi 0]=.tup [vs (MZ m s),vi 0] by unfold MZ;rw[Aw (fun h=>by have q:=PA;rw[Lm,GH]at q;rw[h]at i1;simp at i1;omega)])
def sT:ByteArray:=match A8 p with | none=>⟨#[]⟩ | some _=>PH p
def me:Int:=match A8 p with | none=>4 | some _=>0
theorem e32(hp:Ew p):PC 32 [vs p] (.tup [vs (sT p),vi (Ft p),vi (me p)]):=by
 have h:=iz p hp;have e:OL PH p=.tup [vs (sT p),vi (Ft p),vi (me p)]:=by
  unfold OL sT me Ft;cases A8 p<;>rfl
 rwa [e]at h
theorem xi:Dj (Hu (Ft p) pl)=Pk p pl:=by
 unfold Pk;split
 .rename_i h;exact Nx (HY p) h
 .rename_i h
  have:Hu (Ft p) pl=⟨0,0,0⟩:=by unfold Hu;rw[Aw (fun q=>h ⟨q.1,q.2.1⟩)]
  rw[this];rfl
theorem RD:(Pk p pl).size<=65:=by
 unfold Pk;split
 .exact I0 (HY p) aa0
 .exact MO aa2 aa2 aa2
theorem EH{B:Nat}{l:List ByteArray}(h:∀x∈l,x.size<=B)(hl:l.length*(B+1)<=281474976710656):Qy BE l<=281474976710656:=by
 have:=El BE B l h
 show(Bk BE l).size<=_;have e:BE.size=1:=rfl;rw[e]at this;omega
theorem TK(s:ByteArray):CP [p,s]=p++BE++s:=by unfold CP;rw[D2,Df]
abbrev H8:Prop:=p.size<=1048576
theorem H8.s{p:ByteArray}(h:H8 p):Ew p:=by unfold Ew;unfold H8 at h;omega
theorem F1(s:AF):(MY p s).size<=135000004:=Vp (HY p) s
theorem Vy{p:ByteArray}(hp:H8 p)(s:AF):Qy BE [p,MY p s]<=281474976710656:=EH (B:=136000000) (fun x hx=>by
 unfold H8 at hp;rcases AN.1 hx with rfl | hx
 .omega
 .rw[A9.1 hx];have:=F1 p s;omega) aa1
theorem e99(hp:Ew p):PC 99 [vs p] (vi (Ft p)):=by
 refine Ps Cu Tryz.func99 rfl (Nz rfl) (Xi .pure (Xi _ (Yi (e32 p hp) ?_)));exact .refl _
theorem e45(s:AF)(hp:Ew p)(hs:BB s):PC 45 [vs p,sl Ab s] (vs (MY p s)):=by
 refine Ps Cu Tryz.func45 rfl (Nz rfl) (Xi .pure (Xi _ (Yi (e99 p hp) (Xi .pure (Xi _ (Yi (e98 (Ft p) s (HY p) hs) ?_))))));exact .refl _
theorem e75(hp:Ew p)(cA:Al pl):PC 75 [vs p,vi pl] (vs (Pk p pl)):=by
 obtain⟨m,gS⟩:∃m,m=Ft p:=⟨_,rfl⟩;have h99:=e99 p hp;rw[<-gS]at h99;refine Ps Cu Tryz.func75 rfl (Nz rfl) (Xi .pure (Xi _ (Yi h99 (Xi .pure (Xi _ (Yi (tY m pl cA) (yN (yN (Xi .pure (Xi _ (Yi (yV (Hu m pl)) ?_)))))))))));exact .of_eq (show vs (Dj (Hu m pl))=vs (Pk p pl) by rw[gS,xi])
theorem d8(l:List ByteArray)(hl:l.length<=1073741824)(hj:Qy BE l<=281474976710656):PC 44 [sl Ag l] (vs (CP l)):=by
 refine Ps Cu Tryz.func44 rfl (Nz rfl) (Xi .pure (Xi _ (Yi (t7 l BE hl hj) ?_)));exact .refl _
theorem e13(t:Tm)(hp:H8 t.path)(hs:BB t.set):PC 13 [.agg (Ac t)] (vs (CZ t)):=by
 have OE:BB (BJ t.set):=by have:=CK (E0 t.set);unfold BB;omega
 refine Ps Cu Tryz.func13 rfl (Nz rfl) (Yi (fun h1=>?_) (fun h1=>?_))
 .have h1:t.absent=true:=h1;refine Xi _ (Yi (mH t.set hs) (Xi _ (Yi (e45 t.path (BJ t.set) hp.s OE) (Xi _ (Yi (d8 [t.path,(MY t.path (BJ t.set))] aa1 (Vy hp (BJ t.set))) ?_)))));refine Yi aa3 ?_;exact .of_eq (show vs (CP [t.path,(MY t.path (BJ t.set))])=vs (CZ t) by rw[TK];unfold CZ;rw[h1];rfl)
 have h1:t.absent=false:=h1;refine Xi _ (Yi (e45 t.path t.set hp.s hs) (Xi _ (Yi (d8 [t.path,(MY t.path t.set)] aa1 (Vy hp t.set)) ?_)));refine Yi aa3 ?_;exact .of_eq (show vs (CP [t.path,(MY t.path t.set)])=vs (CZ t) by rw[TK];unfold CZ;rw[h1];rfl)
theorem Dx{l:List Tm}(h:(AW l).isSome=true):BD l=Yr (BM l):=by
 unfold BD BM;cases e:AW l with
 |none=>rw[e]at h;cases h
 |some c=>rfl
theorem OG{l:List Tm}(h:(AW l).isSome=false):BD l=Ob:=by
 unfold BD;cases e:AW l with
 |none=>rfl
 |some c=>rw[e]at h;cases h
theorem cQ{l:List Tm}(h:(AW l).isSome=true):AW l=some (BM l):=by
 unfold BM;cases e:AW l with
 |none=>rw[e]at h;cases h
 |some c=>rfl
def Ys:ByteArray:=
 if c.length=0 then bU else if(Br c).length=0/\(A7 c).length=1 then CP [Bk IJ (A7 c),⟨#[105,115,32,105,109,112,111,115,115,105,98,108,101]⟩]else if(Br c).length=0 then CP [Bk IJ (A7 c),⟨#[100,111,32,110,111,116,32,103,111,32,116,111,103,101,116,104,101,114]⟩]
 else if(A7 c).length=0 then CP [Bk VW (Br c),⟨#[105,115,32,110,101,101,100,101,100]⟩]else if(A7 c).length=1 then CP [Bk IJ (A7 c),⟨#[110,101,101,100,115]⟩,Bk VW (Br c)]else CP [Bk IJ (A7 c),⟨#[110,101,101,100]⟩,Bk VW (Br c)]
theorem Wy:(A7 c).length+(Br c).length=c.length:=by
 unfold A7 Br;rw[Lm,Lm]
 induction c with
 |nil=>rfl
 |cons t c ih=>cases h:t.absent<;>simp only[List.filter_cons,h,Bool.not_true,Bool.not_false,Qx,LU,Av,D4]<;>omega
theorem wx(a b:ByteArray):CP [a,b]=a++(BE++b):=by unfold CP;rw[D2]
theorem pi(a b c:ByteArray):CP [a,b,c]=a++(BE++b++BE)++c:=by unfold CP;rw[CF,D2];simp only[Df]
theorem UV:Ys c=Yr c:=by
 have hl:=Wy c;unfold Ys Yr;have z1:(Br c=[])↔(Br c).length=0:=by rw[Jz]
 have z2:(A7 c=[])↔(A7 c).length=0:=by rw[Jz]
 have b1:BE++(⟨#[105,115,32,105,109,112,111,115,115,105,98,108,101]⟩:ByteArray)=mB:=JU (by decide +kernel);have b2:BE++(⟨#[100,111,32,110,111,116,32,103,111,32,116,111,103,101,116,104,101,114]⟩:ByteArray)=wA:=JU (by decide +kernel);have b3:BE++(⟨#[105,115,32,110,101,101,100,101,100]⟩:ByteArray)=Q6:=JU (by decide +kernel);have b4:BE++(⟨#[110,101,101,100,115]⟩:ByteArray)++BE=VV:=JU (by decide +kernel);have b5:BE++(⟨#[110,101,101,100]⟩:ByteArray)++BE=bS:=JU (by decide +kernel);simp only[z1,z2,wx,pi,b1,b2,b3,b4,b5]
 by_cases h1:(Br c).length=0<;>by_cases h2:(A7 c).length=0<;>by_cases h3:(A7 c).length=1<;>by_cases h4:c.length=0<;>first | omega | simp[h1,h2,h3,h4]
theorem Mv(i:Nat)(h:i<c.length):A7 (c.take (i+1))=if c[i].absent then A7 (c.take i)else A7 (c.take i)++[CZ c[i]]:=by
 unfold A7;rw[A6 h,CG,AB];cases e:c[i].absent<;>simp[e]
theorem MG(i:Nat)(h:i<c.length):Br (c.take (i+1))=if c[i].absent then Br (c.take i)++[CZ c[i]]else Br (c.take i):=by
 unfold Br;rw[A6 h,CG,AB];cases e:c[i].absent<;>simp[e]
theorem GA{sep:ByteArray}(hs:sep.size<=5){c:List Tm}{l:List ByteArray}(hp:∀t∈c,H8 t.path)(hl:∀x∈l,∃t∈c,x=CZ t)(hn:l.length<=500000):(Bk sep l).size<=70000100000000:=by
 have:=El sep 140000000 l (fun x hx=>by
  obtain⟨t,ht,rfl⟩:=hl x hx;exact Jm (hp t ht))
 have h2:l.length*(140000000+sep.size)<=500000*(140000000+5):=FP hn aa0;omega
theorem Ke:∀x∈A7 c,∃t∈c,x=CZ t:=fun x hx=>by
 obtain⟨t,ht,rfl⟩:=Ay.1 hx;exact⟨t,(DF.1 ht).1,rfl⟩
theorem Kn:∀x∈Br c,∃t∈c,x=CZ t:=fun x hx=>by
 obtain⟨t,ht,rfl⟩:=Ay.1 hx;exact⟨t,(DF.1 ht).1,rfl⟩
theorem KC{l c:List Tm}(h:AW l=some c):∀t∈c,∃u∈l,t.path=u.path:=fun t ht=>by
 have:=(Mp (U:=l.map (·.path)) h fun u hu=>Ay.2 ⟨u,hu,rfl⟩).2 t ht
 obtain⟨u,hu,e⟩:=Ay.1 this;exact⟨u,hu,e.symm⟩
theorem e15(l:List Tm)(hl:l.length<=500000)(hs:∀t∈l,BB t.set)(hp:∀t∈l,H8 t.path):PC 15 [sl Ac l] (vs (BD l)):=by
 have hl:l.length<=500000:=hl;have wI:=tJ l (by unfold BB;omega) hs;unfold G4 at wI;obtain⟨c,Wu⟩:∃c,c=BM l:=⟨_,rfl⟩;rw[<-Wu]at wI;refine Ps (pT [] [(5,1),(6,1)] [2,5,8,11,13,14,15,16,17,18,19,20,21,22,23]) Tryz.func15 rfl (Nz rfl) (AG (Bt (AW l).isSome) (fun h1=>?_) (fun h1=>?_))
 .have h1:(AW l).isSome=true:=h1;have OE:(AW l).isSome=true:=h1;have UO:c=BM l:=Wu;have nM:AW l=some c:=by rw[UO];exact cQ OE
  have TY:c.length<=500000:=AL (Oe nM) hl;have eU:∀t∈c,H8 t.path:=fun t ht=>by
   obtain⟨u,hu,e⟩:=KC nM t ht;rw[e];exact hp u hu
  have uS:∀t∈c,BB t.set:=fun t ht=>GG ((F0 nM).canon t ht);obtain⟨PP,cp⟩:∃PP,PP=Bk IJ (A7 c):=⟨_,rfl⟩;obtain⟨NN,eP⟩:∃NN,NN=Bk VW (Br c):=⟨_,rfl⟩;have eR:(A7 c).length<=500000->PP.size<=70000100000000:=fun h=>by rw[cp];exact GA aa2 eU (Ke c) h
  have eQ:(Br c).length<=500000->NN.size<=70000100000000:=fun h=>by rw[eP];exact GA aa2 eU (Kn c) h
  have OC:=wI;rw[show(AW l).isSome=true from h1]at OC;refine Xi .pure (Xi _ (Yi OC (cU [(3,sl Ac c),(4,vb true)] [] Z2 Tv (cU [(3,sl Ac c),(5,.slice (.id 5 1) []),(6,.slice (.id 6 1) [])] [(5,.tok 1 0),(6,.tok 1 0)] Z3 Z2 (Xi {i:Nat // i<=c.length} (Xi (fun q=>⟨[(3,sl Ac c),(5,.slice (.id 5 1) ((A7 (c.take q.1)).map Ag)),(6,.slice (.id 6 1) ((Br (c.take q.1)).map Ag)),(18,sl Ac c),(19,vi (c.map Ac).length),(20,vi q.1)],[(5,.tok 1 (A7 (c.take q.1)).length),(6,.tok 1 (Br (c.take q.1)).length)],Af⟩) (Xi (fun q=>c.length-q.1) (Yi (Xi ⟨0,Ao _⟩ ?_) ?_))))))))
  .exact⟨Z6,Z2,Fh,Tv⟩
  intro⟨i,i1⟩;have i1:i<=c.length:=i1;have rb:=Wy (c.take i);rw[AC,Nat.min_eq_left i1]at rb;have Xk:(A7 (c.take i)).length<=500000:=by omega
  have Xl:(Br (c.take i)).length<=500000:=by omega
  refine Yi (fun h3=>?_) (fun h3=>?_)
  .have h3:(i:Int)<((c.map Ac).length:Int):=h3;have n3:i<c.length:=by have q:=h3;rw[Lm]at q;omega
   have g3:c[i]?=some c[i]:=Ge n3;refine Xi (Ac c[i]) (Yi (Yi (Nn i) (AM g3)) (Yi rfl (yN (yN (cU [(3,sl Ac c),(5,.slice (.id 5 1) ((A7 (c.take i)).map Ag)),(6,.slice (.id 6 1) ((Br (c.take i)).map Ag)),(8,.ref 8 0),(18,sl Ac c),(19,vi (c.map Ac).length),(20,vi i)] [(5,.tok 1 (A7 (c.take i)).length),(6,.tok 1 (Br (c.take i)).length),(8,.cells (Ac c[i]))] Z7 Z3 (Yi (fun h4=>?_) (fun h4=>?_)))))))
   .have h4:c[i].absent=true:=h4;refine yN (Xi .pure (Xi _ (Yi (e13 c[i] (eU _ (Ah n3)) (uS _ (Ah n3))) ?_)));have b5:AZ 1 [[vs (CZ c[i])]]/\((Br (c.take i)).map Ag).length=(Br (c.take i)).length/\(((Br (c.take i)).map Ag).length+([[vs (CZ c[i])]]:List (List AV)).length)*16<=140737488355328/\((Br (c.take i)).map Ag).length+([[vs (CZ c[i])]]:List (List AV)).length<=9223372036854775807:=⟨⟨rfl,trivial⟩,(by rw[Lm]),(by simp only[Lm,Av,AA];omega),(by simp only[Lm,Av,AA];omega)⟩;refine Yi b5 (cU [(3,sl Ac c),(5,.slice (.id 5 1) ((A7 (c.take i)).map Ag)),(6,.slice (.id 6 1) (((Br (c.take i)).map Ag)++[[vs (CZ c[i])]])),(18,sl Ac c),(19,vi (c.map Ac).length),(20,vi i)] [(5,.tok 1 (A7 (c.take i)).length),(6,.tok 1 (((Br (c.take i)).map Ag).length+([[vs (CZ c[i])]]:List (List AV)).length))] Z6 Z2 (Yi (Ii i aa0) ?_));have SB:=Mv c i n3;have QZ:=MG c i n3;rw[show c[i].absent=true from h4]at SB QZ;simp only[Qx]at SB QZ;refine Xi ⟨i+1,by omega⟩ ?_;exact⟨Dl c.length i aa0,⟨Zr,⟨(show AV.slice (.id 5 1) ((A7 (c.take i)).map Ag)=.slice (.id 5 1) ((A7 (c.take (i+1))).map Ag) by rw[SB]),rfl⟩,⟨(show AV.slice (.id 6 1) ((Br (c.take i)).map Ag++[[vs (CZ c[i])]])=.slice (.id 6 1) ((Br (c.take (i+1))).map Ag) by rw[QZ,AB];rfl),rfl⟩,Zr,Zr,Zr,Tv⟩,⟨⟨(show HO.tok 1 (A7 (c.take i)).length=.tok 1 (A7 (c.take (i+1))).length by rw[SB]),rfl⟩,⟨(show HO.tok 1 (((Br (c.take i)).map Ag).length+([[vs (CZ c[i])]]:List (List AV)).length)=.tok 1 (Br (c.take (i+1))).length by rw[QZ,As,Lm];rfl),rfl⟩,Tv⟩,Fh,Tv⟩
   have h4:c[i].absent=false:=h4;refine yN (Xi .pure (Xi _ (Yi (e13 c[i] (eU _ (Ah n3)) (uS _ (Ah n3))) ?_)));have b7:AZ 1 [[vs (CZ c[i])]]/\((A7 (c.take i)).map Ag).length=(A7 (c.take i)).length/\(((A7 (c.take i)).map Ag).length+([[vs (CZ c[i])]]:List (List AV)).length)*16<=140737488355328/\((A7 (c.take i)).map Ag).length+([[vs (CZ c[i])]]:List (List AV)).length<=9223372036854775807:=⟨⟨rfl,trivial⟩,(by rw[Lm]),(by simp only[Lm,Av,AA];omega),(by simp only[Lm,Av,AA];omega)⟩;refine Yi b7 (cU [(3,sl Ac c),(5,.slice (.id 5 1) (((A7 (c.take i)).map Ag)++[[vs (CZ c[i])]])),(6,.slice (.id 6 1) ((Br (c.take i)).map Ag)),(18,sl Ac c),(19,vi (c.map Ac).length),(20,vi i)] [(5,.tok 1 (((A7 (c.take i)).map Ag).length+([[vs (CZ c[i])]]:List (List AV)).length)),(6,.tok 1 (Br (c.take i)).length)] Z6 Z2 (Yi (Ii i aa0) ?_));have SB:=Mv c i n3;have QZ:=MG c i n3;rw[show c[i].absent=false from h4]at SB QZ;simp only[D4,LU]at SB QZ;refine Xi ⟨i+1,by omega⟩ ?_;exact⟨Dl c.length i aa0,⟨Zr,⟨(show AV.slice (.id 5 1) ((A7 (c.take i)).map Ag++[[vs (CZ c[i])]])=.slice (.id 5 1) ((A7 (c.take (i+1))).map Ag) by rw[SB,AB];rfl),rfl⟩,⟨(show AV.slice (.id 6 1) ((Br (c.take i)).map Ag)=.slice (.id 6 1) ((Br (c.take (i+1))).map Ag) by rw[QZ]),rfl⟩,Zr,Zr,Zr,Tv⟩,⟨⟨(show HO.tok 1 (((A7 (c.take i)).map Ag).length+([[vs (CZ c[i])]]:List (List AV)).length)=.tok 1 (A7 (c.take (i+1))).length by rw[SB,As,Lm];rfl),rfl⟩,⟨(show HO.tok 1 (Br (c.take i)).length=.tok 1 (Br (c.take (i+1))).length by rw[QZ]),rfl⟩,Tv⟩,Fh,Tv⟩
  have h3:¬((i:Int)<((c.map Ac).length:Int)):=h3;have n3:¬i<c.length:=by have q:=h3;rw[Lm]at q;omega
  have ej:c.take i=c:=AK aa0;rw[ej]at Xk Xl;refine Xi .pure (Xi _ (Yi (show PC 49 [sl Ag (A7 (c.take i)),vs IJ] (vs PP) by rw[ej,cp];exact t7 (A7 c) IJ aa0 (AL (GA aa2 eU (Ke c) Xk) aa2)) ?_));refine Xi .pure (Xi _ (Yi (show PC 49 [sl Ag (Br (c.take i)),vs VW] (vs NN) by rw[ej,eP];exact t7 (Br c) VW aa0 (AL (GA aa2 eU (Kn c) Xl) aa2)) ?_));refine cU [(3,sl Ac c),(5,.slice (.id 5 1) ((A7 (c.take i)).map Ag)),(6,.slice (.id 6 1) ((Br (c.take i)).map Ag)),(9,vs PP),(10,vs NN)] [(5,.tok 1 (A7 (c.take i)).length),(6,.tok 1 (Br (c.take i)).length)] Z5 Z2 (Yi (fun h9=>?_) (fun h9=>?_))
  .have h9:((c.map Ac).length:Int)=(0:Int):=h9;refine cU [] [] Tv Tv ?_
   exact .of_eq (show vs ⟨#[116,104,105,115,32,105,115,32,105,109,112,111,115,115,105,98,108,101]⟩=vs (BD l) by rw[Dx OE,<-UO,<-UV];unfold Ys;rw[AE (by have q:=h9;rw[Lm]at q;omega)])
  have h9:¬(((c.map Ac).length:Int)=(0:Int)):=h9;refine cU [(5,.slice (.id 5 1) ((A7 (c.take i)).map Ag)),(6,.slice (.id 6 1) ((Br (c.take i)).map Ag)),(9,vs PP),(10,vs NN)] [(5,.tok 1 (A7 (c.take i)).length),(6,.tok 1 (Br (c.take i)).length)] Z4 Z2 (Yi (fun Hd=>?_) (fun Hd=>?_))
  .have Hd:(((Br (c.take i)).map Ag).length:Int)=(0:Int):=Hd;refine Yi (fun HX=>?_) (fun HX=>?_)
   .have HX:(((A7 (c.take i)).map Ag).length:Int)=(1:Int):=HX;refine cU [(9,vs PP)] [] Z1 Tv ?_;refine Xi .pure (Xi _ (Yi (d8 [PP,⟨#[105,115,32,105,109,112,111,115,115,105,98,108,101]⟩] aa1 (EH (B:=70000100000000) (by intro x hx;simp only[AN,Eb,L7]at hx;rcases hx with rfl | rfl<;>first | exact(eR Xk) | exact(eQ Xl) | decide) aa1)) ?_))
    exact .of_eq (show vs (CP [PP,⟨#[105,115,32,105,109,112,111,115,115,105,98,108,101]⟩])=vs (BD l) by rw[Dx OE,<-UO,<-UV];unfold Ys;rw[<-cp,<-eP];rw[Aw (by have q:=h9;rw[Lm]at q;omega)];rw[AE ⟨by have q:=Hd;rw[Lm,ej]at q;omega,by have q:=HX;rw[Lm,ej]at q;omega⟩])
   have HX:¬((((A7 (c.take i)).map Ag).length:Int)=(1:Int)):=HX;refine cU [(5,.slice (.id 5 1) ((A7 (c.take i)).map Ag)),(6,.slice (.id 6 1) ((Br (c.take i)).map Ag)),(9,vs PP),(10,vs NN)] [(5,.tok 1 (A7 (c.take i)).length),(6,.tok 1 (Br (c.take i)).length)] Z4 Z2 (Yi (fun _=>?_) (fun hf=>absurd Hd hf));refine cU [(9,vs PP)] [] Z1 Tv ?_;refine Xi .pure (Xi _ (Yi (d8 [PP,⟨#[100,111,32,110,111,116,32,103,111,32,116,111,103,101,116,104,101,114]⟩] aa1 (EH (B:=70000100000000) (by intro x hx;simp only[AN,Eb,L7]at hx;rcases hx with rfl | rfl<;>first | exact(eR Xk) | exact(eQ Xl) | decide) aa1)) ?_))
   exact .of_eq (show vs (CP [PP,⟨#[100,111,32,110,111,116,32,103,111,32,116,111,103,101,116,104,101,114]⟩])=vs (BD l) by rw[Dx OE,<-UO,<-UV];unfold Ys;rw[<-cp,<-eP];rw[Aw (by have q:=h9;rw[Lm]at q;omega)];rw[Aw (fun h=>by have q:=HX;rw[Lm,ej]at q;omega),AE (by have q:=Hd;rw[Lm,ej]at q;omega)])
  have Hd:¬((((Br (c.take i)).map Ag).length:Int)=(0:Int)):=Hd;refine cU [(5,.slice (.id 5 1) ((A7 (c.take i)).map Ag)),(6,.slice (.id 6 1) ((Br (c.take i)).map Ag)),(9,vs PP),(10,vs NN)] [(5,.tok 1 (A7 (c.take i)).length),(6,.tok 1 (Br (c.take i)).length)] Z4 Z2 (Yi (fun hf=>absurd hf Hd) (fun _=>?_));refine cU [(5,.slice (.id 5 1) ((A7 (c.take i)).map Ag)),(9,vs PP),(10,vs NN)] [(5,.tok 1 (A7 (c.take i)).length)] Z3 Z1 (Yi (fun Js=>?_) (fun Js=>?_))
  .have Js:(((A7 (c.take i)).map Ag).length:Int)=(0:Int):=Js;refine cU [(10,vs NN)] [] Z1 Tv ?_;refine Xi .pure (Xi _ (Yi (d8 [NN,⟨#[105,115,32,110,101,101,100,101,100]⟩] aa1 (EH (B:=70000100000000) (by intro x hx;simp only[AN,Eb,L7]at hx;rcases hx with rfl | rfl<;>first | exact(eR Xk) | exact(eQ Xl) | decide) aa1)) ?_))
   exact .of_eq (show vs (CP [NN,⟨#[105,115,32,110,101,101,100,101,100]⟩])=vs (BD l) by rw[Dx OE,<-UO,<-UV];unfold Ys;rw[<-cp,<-eP];rw[Aw (by have q:=h9;rw[Lm]at q;omega)];rw[Aw (fun h=>by have q:=Hd;rw[Lm,ej]at q;omega),Aw (by have q:=Hd;rw[Lm,ej]at q;omega)];rw[AE (by have q:=Js;rw[Lm,ej]at q;omega)])
  have Js:¬((((A7 (c.take i)).map Ag).length:Int)=(0:Int)):=Js;refine cU [(5,.slice (.id 5 1) ((A7 (c.take i)).map Ag)),(9,vs PP),(10,vs NN)] [(5,.tok 1 (A7 (c.take i)).length)] Z3 Z1 (Yi (fun NZ=>?_) (fun NZ=>?_))
  .have NZ:(((A7 (c.take i)).map Ag).length:Int)=(1:Int):=NZ;refine cU [(9,vs PP),(10,vs NN)] [] Z2 Tv ?_;refine Xi .pure (Xi _ (Yi (d8 [PP,⟨#[110,101,101,100,115]⟩,NN] aa1 (EH (B:=70000100000000) (by intro x hx;simp only[AN,Eb,L7]at hx;rcases hx with rfl | rfl | rfl<;>first | exact(eR Xk) | exact(eQ Xl) | decide) aa1)) ?_))
   exact .of_eq (show vs (CP [PP,⟨#[110,101,101,100,115]⟩,NN])=vs (BD l) by rw[Dx OE,<-UO,<-UV];unfold Ys;rw[<-cp,<-eP];rw[Aw (by have q:=h9;rw[Lm]at q;omega)];rw[Aw (fun h=>by have q:=Hd;rw[Lm,ej]at q;omega),Aw (by have q:=Hd;rw[Lm,ej]at q;omega)];rw[Aw (by have q:=Js;rw[Lm,ej]at q;omega)];rw[AE (by have q:=NZ;rw[Lm,ej]at q;omega)])
  have NZ:¬((((A7 (c.take i)).map Ag).length:Int)=(1:Int)):=NZ;refine cU [(9,vs PP),(10,vs NN)] [] Z2 Tv ?_;refine Xi .pure (Xi _ (Yi (d8 [PP,⟨#[110,101,101,100]⟩,NN] aa1 (EH (B:=70000100000000) (by intro x hx;simp only[AN,Eb,L7]at hx;rcases hx with rfl | rfl | rfl<;>first | exact(eR Xk) | exact(eQ Xl) | decide) aa1)) ?_))
  exact .of_eq (show vs (CP [PP,⟨#[110,101,101,100]⟩,NN])=vs (BD l) by rw[Dx OE,<-UO,<-UV];unfold Ys;rw[<-cp,<-eP];rw[Aw (by have q:=h9;rw[Lm]at q;omega)];rw[Aw (fun h=>by have q:=Hd;rw[Lm,ej]at q;omega),Aw (by have q:=Hd;rw[Lm,ej]at q;omega)];rw[Aw (by have q:=Js;rw[Lm,ej]at q;omega)];rw[Aw (by have q:=NZ;rw[Lm,ej]at q;omega)])
 have h1:(AW l).isSome=false:=h1;have Yh:=wI;rw[show(AW l).isSome=false from h1]at Yh;refine Xi .pure (Xi _ (Yi Yh (cU [(3,sl Ac c),(4,vb false)] [] Z2 Tv ?_)))
 exact .of_eq (show vs Ob=vs (BD l) by rw[OG h1])
abbrev CT(b:Bool):List AV:=[vb b]
abbrev A0:List AV:=[vi n]
abbrev u0(l:List Nf)(target:Int):List Bool:=(List.replicate l.length false).set target.toNat true
theorem ME(h0:0<=i)(hl:i.toNat<l.length)(hu:i.toNat<u.length)(h:u[i.toNat]=false\/¬l[i.toNat].kind=3):DT l (i+1).toNat u=DT l (i-1+1).toNat u:=by
 have e1:(i+1).toNat=i.toNat+1:=by omega
 have e2:(i-1+1).toNat=i.toNat:=by omega
 rw[e1,e2];show(if u.getD i.toNat false&&decide ((l.getD i.toNat BL).kind=3)then _ else _)=_;rw[Bq,Bq,Ge hl,Ge hu];simp only[CB];rcases h with h | h
 .rw[h];rfl
 .rw[AU h,Bool.and_false];rfl
theorem cK(h0:0<=i)(hl:i.toNat<l.length)(hu:i.toNat<u.length)(h1:u[i.toNat]=true)(h2:l[i.toNat].kind=3) :
  DT l (i+1).toNat u=if FE i.toNat l[i.toNat]then none else DT l (i-1+1).toNat ((u.set l[i.toNat].left.toNat true).set l[i.toNat].right.toNat true):=by
 have e1:(i+1).toNat=i.toNat+1:=by omega
 have e2:(i-1+1).toNat=i.toNat:=by omega
 rw[e1,e2];show(if u.getD i.toNat false&&decide ((l.getD i.toNat BL).kind=3)then(if FE i.toNat (l.getD i.toNat BL)then none else DT l i.toNat ((u.set (l.getD i.toNat BL).left.toNat true).set (l.getD i.toNat BL).right.toNat true))else _)=_;rw[Bq,Bq,Ge hl,Ge hu];simp only[CB];rw[h1,A4 h2];rfl
def kk:Int:=if j=0 then y.left else y.right
theorem vL(h:j<2):([[vi y.left],[vi y.right]]:List (List AV))[((j:Nat):Int).toNat]?=some [vi (kk y j)]:=by
 match j,h with
 |0,_=>rfl
 |1,_=>rfl
 |_+2,h=>omega
def K7(i:Int)(u:List Bool)(j:Nat)(u2:List Bool):Prop:=
 u2.length=u.length/\((j=0/\u2=u)\/(j=1/\(0<=y.left/\y.left<i)/\u2=u.set y.left.toNat true)\/(j=2/\(0<=y.left/\y.left<i)/\(0<=y.right/\y.right<i)/\u2=(u.set y.left.toNat true).set y.right.toNat true))
theorem K7.next{y:Nf}{j:Nat}(h:K7 y i u j u2)(hj:j<2)(h0:¬kk y j<0)(h1:¬i<=kk y j):K7 y i u (j+1) (u2.set (kk y j).toNat true):=by
 obtain⟨hl,h | h | h⟩:=h
 .obtain⟨rfl,rfl⟩:=h;have e:kk y 0=y.left:=rfl;rw[e]at h0 h1⊢;exact⟨by simp,.inr (.inl ⟨rfl,by omega,rfl⟩)⟩
 .obtain⟨rfl,h2,rfl⟩:=h;have e:kk y 1=y.right:=rfl;rw[e]at h0 h1⊢;exact⟨by simp,.inr (.inr ⟨rfl,h2,by omega,rfl⟩)⟩
 .omega
theorem K7.bad{y:Nf}{j:Nat}(hi:0<=i)(h:K7 y i u j u2)(hj:j<2)(hb:kk y j<0\/i<=kk y j):FE i.toNat y=true:=by
 unfold FE;have ei:((i.toNat:Nat):Int)=i:=IG hi;rw[ei];obtain⟨hl,h | h | h⟩:=h
 .obtain⟨rfl,rfl⟩:=h;have e:kk y 0=y.left:=rfl;rw[e]at hb;rcases hb with hb | hb<;>simp[hb]
 .obtain⟨rfl,h2,rfl⟩:=h;have e:kk y 1=y.right:=rfl;rw[e]at hb;rcases hb with hb | hb<;>simp[hb]
 .omega
theorem K7.done{y:Nf}{j:Nat}(hi:0<=i)(h:K7 y i u j u2)(hj:¬j<2):FE i.toNat y=false/\u2=(u.set y.left.toNat true).set y.right.toNat true:=by
 obtain⟨hl,h | h | h⟩:=h
 .omega
 .omega
 .obtain⟨_,h2,h3,h4⟩:=h;refine⟨?_,h4⟩;unfold FE;have ei:((i.toNat:Nat):Int)=i:=IG hi;rw[ei];simp only[Bool.or_eq_false_iff,JC];omega
theorem Kl(h0:0<=i)(hl:i.toNat<l.length)(hu:i.toNat<u.length)(h1:u[i.toNat]=true)(h2:l[i.toNat].kind=3)(hb:FE i.toNat l[i.toNat]=true):DT l (i+1).toNat u=none:=by
 rw[cK h0 hl hu h1 h2,AE hb]
theorem YN(h0:0<=i)(hl:i.toNat<l.length)(hu:i.toNat<u.length)(h1:u[i.toNat]=true)(h2:l[i.toNat].kind=3)(hb:FE i.toNat l[i.toNat]=false) :
  DT l (i+1).toNat u=DT l (i-1+1).toNat ((u.set l[i.toNat].left.toNat true).set l[i.toNat].right.toNat true):=by
 rw[cK h0 hl hu h1 h2,Aw (by rw[hb];decide)]
theorem Pc(h:target<0\/(l.length:Int)<=target):Dv l target=[]:=by unfold Dv;rw[AE h]
theorem Qe(h:Ez l target.toNat=none):Dv l target=[]:=by
 unfold Dv;rw[h];simp
theorem VB(h0:¬(target<0\/(l.length:Int)<=target))(h:Ez l target.toNat=some u):Dv l target=HS u:=by
 unfold Dv;rw[Aw h0,h]
abbrev IS(u:List Bool)(k:Nat):List Nat:=(List.range k).filter fun i=>u.getD i false
theorem O9(u:List Bool)(k:Nat)(h:k<u.length):IS u (k+1)=if u[k]then IS u k++[k]else IS u k:=by
 unfold IS;rw[List.range_succ,CG];have hk:u.getD k false=u[k]:=by rw[Bq,Ge h];rfl
 cases e:u[k]with
 |false=>rw[GT (by rw[hk,e];decide),MR,BC];rfl
 |true=>rw[Jy (by rw[hk,e]),MR];rfl
theorem W7(u:List Bool)(k:Nat):(IS u k).length<=k:=by
 have:=Ca (fun i=>u.getD i false) (List.range k)
 rw[Es]at this;exact this
theorem lm(k:Nat)(h:k<n):(List.replicate n [vb false])[k]?=some [vb false]:=by simp[h]
theorem da(l:List Nf)(target:Int):(List.replicate (((l.map Aj).length:Nat):Int).toNat [vb false]).set (target:Int).toNat [vb true]=(u0 l target).map CT:=by
 rw[Cj,Lm];unfold u0;rw[J5,List.map_replicate]
theorem Zp(h:0<=target):DT l (target+1).toNat (u0 l target)=Ez l target.toNat:=by
 have:(target+1).toNat=target.toNat+1:=by omega
 rw[this];rfl
theorem ON(u:List Bool)(k:Nat):(u.map CT).set k [vb true]=(u.set k true).map CT:=by rw[J5]
theorem U5(h1:-1<=i)(h:¬0<=i):DT l (i+1).toNat u=some u:=by
 have:(i+1).toNat=0:=by omega
 rw[this];rfl
theorem yP(l:List Nf)(target:Int)(hl:BB l)(ht:Al target):PC 18 [sl Aj l,vi (target:Int)] (sl A0 (Dv l target)):=by
 have ZC:(l.map Aj).length=l.length:=Lm _;have hl:l.length<=1073741824:=hl;have ht:-9223372036854775808<=target/\target<9223372036854775808:=ht;refine Ps ⟨[],[(9,1)],[(22,1)],[],[],[],[],[],[],[],[2,3,4,5,9,12,13,14,15,20,22]⟩ Tryz.func18 rfl (Nz rfl) (Yi (fun h1=>?_) (fun h1=>?_))
 .have h1:((target:Int):Int)<(0:Int):=h1;refine cU [] [] Tv Tv ?_
  exact(show DC nzA (.slice .none [])from .nil).trans (.of_eq (show AV.slice .none []=sl A0 (Dv l target) by rw[Pc (.inl h1)];rfl))
 have h1:¬(((target:Int):Int)<(0:Int)):=h1;refine Yi (fun h3=>?_) (fun h3=>?_)
 .have h3:((l.map Aj).length:Int)<=((target:Int):Int):=h3;refine cU [] [] Tv Tv ?_
  exact(show DC nzA (.slice .none [])from .nil).trans (.of_eq (show AV.slice .none []=sl A0 (Dv l target) by rw[Pc (.inr (by have q:=h3;rw[ZC]at q;exact q))];rfl))
 have h3:¬(((l.map Aj).length:Int)<=((target:Int):Int)):=h3;refine cU [(0,sl Aj l),(1,vi (target:Int))] [] Z2 Tv (Yi (show(0:Int)<=((l.map Aj).length:Nat)/\(((l.map Aj).length:Nat):Int)<=((l.map Aj).length:Nat)/\(((l.map Aj).length:Nat):Int)*1<=140737488355328/\(((l.map Aj).length:Nat):Int)<=9223372036854775807 by rw[Lm];omega) ?_);refine cU [(0,sl Aj l),(1,vi (target:Int)),(5,.msl 22 ((List.replicate ((l.map Aj).length:Int).toNat [vb false]):List (List AV)).length)] [(22,.arr 1 (List.replicate ((l.map Aj).length:Int).toNat [vb false]))] Z3 Z1 (Yi (show(0:Int)<=target/\target<(((List.replicate (((l.map Aj).length:Nat):Int).toNat [vb false]):List (List AV)).length:Nat) by rw[FY,Cj,Lm];omega) ?_);refine Yi rfl (Xi [vb false] (Yi (show(List.replicate (((l.map Aj).length:Nat):Int).toNat [vb false])[(target:Int).toNat]?=some [vb false]from lm _ _ (by rw[Cj,Lm];omega)) (yN ?_)));refine cU [(0,sl Aj l),(1,vi (target:Int)),(5,.msl 22 ((List.replicate ((l.map Aj).length:Int).toNat [vb false]):List (List AV)).length)] [(22,.arr 1 ((List.replicate ((l.map Aj).length:Int).toNat [vb false]).set (target:Int).toNat [vb true]))] Z3 Z1 (Xi {q:Int×List Bool // (-1<=q.1/\q.1<=target)/\q.2.length=l.length/\DT l (q.1+1).toNat q.2=Ez l target.toNat} (Xi (fun q=>⟨[(0,sl Aj l),(5,.msl 22 q.1.2.length),(6,vi (q.1.1:Int))],[(22,.arr 1 (q.1.2.map CT))],Af⟩) (Xi (fun q=>(q.1.1+1).toNat) (Yi (Xi ⟨(target,u0 l target),⟨by omega,Cg _⟩,by simp,Zp aa0⟩ ?_) ?_))))
 .exact⟨⟨Zr,⟨(show AV.msl 22 ((List.replicate ((l.map Aj).length:Int).toNat [vb false]):List (List AV)).length=.msl 22 (u0 l target).length by simp),rfl⟩,Zr,Tv⟩,⟨⟨(show HO.arr 1 ((List.replicate ((l.map Aj).length:Int).toNat [vb false]).set (target:Int).toNat [vb true])=.arr 1 ((u0 l target).map CT) by rw[<-da]),rfl⟩,Tv⟩,Fh,Tv⟩
 intro⟨⟨i,u⟩,i1,i2,i3⟩;have i1:-1<=i/\i<=target:=i1;have i2:u.length=l.length:=i2;have i3:DT l (i+1).toNat u=Ez l target.toNat:=i3;refine Yi (fun h5=>?_) (fun h5=>?_)
 .have h5:(0:Int)<=((i:Int):Int):=h5;have MW:0<=i:=h5;have TZ:i.toNat<l.length:=by omega
  have Xe:i.toNat<u.length:=by omega
  have gl:l[i.toNat]?=some l[i.toNat]:=Ge TZ;have gu:u[i.toNat]?=some u[i.toNat]:=Ge Xe;refine Yi (by show(0:Int)<=(i:Int)/\((i:Int):Int)<(u.length:Nat);omega) (Yi (show u.length=(u.map CT).length by simp) (Xi (CT u[i.toNat]) (Yi (AM gu) (Yi (fun h6=>?_) (fun h6=>?_)))))
  .have h6:u[i.toNat]=true:=h6;refine Xi (Aj l[i.toNat]) (Yi (Yi MW (AM gl)) (Yi rfl (Yi (fun h7=>?_) (fun h7=>?_))))
   .have h7:(l[i.toNat].kind:Int)≠(3:Int):=h7;refine Yi (by show Al (((i:Int):Int)-(1:Int));unfold Al;omega) ?_;refine Xi ⟨(i-1,u),⟨by omega,by omega⟩,i2,by rw[<-i3,ME MW TZ Xe (.inr (fun hq=>h7 hq))]⟩ ?_;exact⟨by show(i-1+1).toNat<(i+1).toNat;omega,Z3,Z1,Fh,Tv⟩
   have h7:(l[i.toNat].kind:Int)=(3:Int):=AQ h7;refine cU [(0,sl Aj l),(5,.msl 22 u.length),(6,vi (i:Int))] [(22,.arr 1 (u.map CT))] Z3 Z1 (Xi (Aj l[i.toNat]) (Yi (Yi MW (AM gl)) (Yi rfl (Xi (Aj l[i.toNat]) (Yi (Yi MW (AM gl)) (Yi rfl (Yi aa3 (Xi {q:Nat×List Bool // K7 l[i.toNat] i u q.1 q.2} (Xi (fun q=>⟨[(0,sl Aj l),(5,.msl 22 q.1.2.length),(6,vi (i:Int)),(54,.slice (.id 54 1) [[vi l[i.toNat].left],[vi l[i.toNat].right]]),(55,vi 2),(56,vi q.1.1)],[(22,.arr 1 (q.1.2.map CT)),(54,.tok 1 2)],Af⟩) (Xi (fun q=>2-q.1.1) (Yi (Xi ⟨(0,u),⟨rfl,.inl ⟨rfl,rfl⟩⟩⟩ ?_) ?_)))))))))))
   .exact⟨Z6,Z2,Fh,Tv⟩
   intro⟨⟨j,u2⟩,hj0⟩;have hj:K7 l[i.toNat] i u j u2:=hj0;have hjl:u2.length=u.length:=hj.1;refine Yi (fun h9=>?_) (fun h9=>?_)
   .have h9:(j:Int)<(2:Int):=h9;have eX:j<2:=by omega
    refine Xi [vi (kk l[i.toNat] j)] (Yi (Yi (Nn j) (vL l[i.toNat] j eX)) (Yi rfl (cU [(0,sl Aj l),(5,.msl 22 u2.length),(6,vi (i:Int)),(8,vi (kk l[i.toNat] j)),(54,.slice (.id 54 1) [[vi l[i.toNat].left],[vi l[i.toNat].right]]),(55,vi 2),(56,vi j)] [(22,.arr 1 (u2.map CT)),(54,.tok 1 2)] Z7 Z2 (Yi (fun I8=>?_) (fun I8=>?_)))))
    .have I8:((kk l[i.toNat] j):Int)<(0:Int):=I8;refine cU [] [] Tv Tv ?_
     have zv:=K7.bad MW hj eX (.inl I8);have z8:Ez l target.toNat=none:=by rw[<-i3];exact Kl MW TZ Xe h6 h7 zv
     exact(show DC nzA (.slice .none [])from .nil).trans (.of_eq (show AV.slice .none []=sl A0 (Dv l target) by rw[Qe z8];rfl))
    have I8:¬(((kk l[i.toNat] j):Int)<(0:Int)):=I8;refine Yi (fun HX=>?_) (fun HX=>?_)
    .have HX:((i:Int):Int)<=((kk l[i.toNat] j):Int):=HX;refine cU [] [] Tv Tv ?_
     have zv:=K7.bad MW hj eX (.inr HX);have z8:Ez l target.toNat=none:=by rw[<-i3];exact Kl MW TZ Xe h6 h7 zv
     exact(show DC nzA (.slice .none [])from .nil).trans (.of_eq (show AV.slice .none []=sl A0 (Dv l target) by rw[Qe z8];rfl))
    have HX:¬(((i:Int):Int)<=((kk l[i.toNat] j):Int)):=HX;have N1:(kk l[i.toNat] j).toNat<u2.length:=by omega
    have gk:u2[(kk l[i.toNat] j).toNat]?=some u2[(kk l[i.toNat] j).toNat]:=Ge N1;refine cU [(0,sl Aj l),(5,.msl 22 u2.length),(6,vi (i:Int)),(8,vi (kk l[i.toNat] j)),(54,.slice (.id 54 1) [[vi l[i.toNat].left],[vi l[i.toNat].right]]),(55,vi 2),(56,vi j)] [(22,.arr 1 (u2.map CT)),(54,.tok 1 2)] Z7 Z2 (Yi (by show(0:Int)<=(kk l[i.toNat] j)/\((kk l[i.toNat] j):Int)<(u2.length:Nat);omega) (Yi (show u2.length=(u2.map CT).length by simp) (Xi (CT (u2[(kk l[i.toNat] j).toNat])) (Yi (AM gk) (yN (cU [(0,sl Aj l),(5,.msl 22 u2.length),(6,vi (i:Int)),(54,.slice (.id 54 1) [[vi l[i.toNat].left],[vi l[i.toNat].right]]),(55,vi 2),(56,vi j)] [(22,.arr 1 ((u2.map CT).set ((kk l[i.toNat] j):Int).toNat [vb true])),(54,.tok 1 2)] Z6 Z2 (Yi (Ii j aa0) (Xi ⟨(j+1,u2.set (kk l[i.toNat] j).toNat true),hj.next eX I8 HX⟩ ?_))))))))
    exact⟨Dl 2 j aa0,⟨Zr,⟨(show AV.msl 22 u2.length=.msl 22 (u2.set (kk l[i.toNat] j).toNat true).length by simp),rfl⟩,Zr,Zr,Zr,Zr,Tv⟩,⟨⟨(show HO.arr 1 ((u2.map CT).set (kk l[i.toNat] j).toNat [vb true])=.arr 1 ((u2.set (kk l[i.toNat] j).toNat true).map CT) by rw[ON]),rfl⟩,Zr,Tv⟩,Fh,Tv⟩
   have h9:¬((j:Int)<(2:Int)):=h9;refine Yi (by show Al (((i:Int):Int)-(1:Int));unfold Al;omega) ?_;have hdn:=K7.done MW hj aa0;have hu2:u2.length=l.length:=hj.1.trans i2;refine Xi ⟨(i-1,u2),⟨by omega,by omega⟩,hu2,by rw[<-i3,YN MW TZ Xe h6 h7 hdn.1,hdn.2]⟩ ?_;exact⟨by show(i-1+1).toNat<(i+1).toNat;omega,Z3,Z1,Fh,Tv⟩
  have h6:u[i.toNat]=false:=h6;refine Yi (by show Al (((i:Int):Int)-(1:Int));unfold Al;omega) ?_;refine Xi ⟨(i-1,u),⟨by omega,by omega⟩,i2,by rw[<-i3,ME MW TZ Xe (.inl h6)]⟩ ?_;exact⟨by show(i-1+1).toNat<(i+1).toNat;omega,Z3,Z1,Fh,Tv⟩
 have h5:¬((0:Int)<=((i:Int):Int)):=h5;refine Xi {k:Nat // k<=u.length} (Xi (fun q=>⟨[(9,.slice (.id 9 1) ((IS u q.1).map A0)),(71,.msl 22 u.length),(72,vi u.length),(73,vi q.1)],[(9,.tok 1 (IS u q.1).length),(22,.arr 1 (u.map CT))],Af⟩) (Xi (fun q=>u.length-q.1) (Yi (Xi ⟨0,Ao _⟩ ?_) ?_)))
 .exact⟨Z4,Z2,Fh,Tv⟩
 intro⟨k,k1⟩;have k1:k<=u.length:=k1;have pF:=W7 u k;refine Yi (fun NZ=>?_) (fun NZ=>?_)
 .have NZ:(k:Int)<(u.length:Int):=NZ;have n17:k<u.length:=by omega
  have g17:u[k]?=some u[k]:=Ge n17;have ra:k<u.length:=by omega
  have guk:u[k]?=some u[k]:=Ge ra;refine Yi (by show(0:Int)<=k/\(k:Int)<(u.length:Nat);omega) (Yi (show u.length=(u.map CT).length by simp) (Xi (CT u[k]) (Yi (AM guk) (Yi (fun QX=>?_) (fun QX=>?_)))))
  .have QX:u[k]=true:=QX;refine cU [(9,.slice (.id 9 1) ((IS u k).map A0)),(10,vi k),(11,vb true),(71,.msl 22 u.length),(72,vi u.length),(73,vi k)] [(9,.tok 1 (IS u k).length),(22,.arr 1 (u.map CT))] Z6 Z2 ?_
   have b19:AZ 1 [[vi k]]/\((IS u k).map A0).length=(IS u k).length/\(((IS u k).map A0).length+([[vi k]]:List (List AV)).length)*8<=140737488355328/\((IS u k).map A0).length+([[vi k]]:List (List AV)).length<=9223372036854775807:=⟨⟨rfl,trivial⟩,(by rw[Lm]),(by simp only[Lm,Av,AA];omega),(by simp only[Lm,Av,AA];omega)⟩;refine Yi b19 (cU [(9,.slice (.id 9 1) (((IS u k).map A0)++[[vi k]])),(71,.msl 22 u.length),(72,vi u.length),(73,vi k)] [(9,.tok 1 (((IS u k).map A0).length+([[vi k]]:List (List AV)).length)),(22,.arr 1 (u.map CT))] Z4 Z2 (Yi (Ii k aa0) ?_));have Ij:=O9 u k ra;rw[QX]at Ij;simp only[Qx]at Ij;refine Xi ⟨k+1,by omega⟩ ?_;exact⟨Dl u.length k aa0,⟨⟨(show AV.slice (.id 9 1) ((IS u k).map A0++[[vi k]])=.slice (.id 9 1) ((IS u (k+1)).map A0) by rw[Ij,AB];rfl),rfl⟩,Zr,Zr,Zr,Tv⟩,⟨⟨(show HO.tok 1 (((IS u k).map A0).length+([[vi k]]:List (List AV)).length)=.tok 1 (IS u (k+1)).length by rw[Ij,As,Lm];rfl),rfl⟩,Zr,Tv⟩,Fh,Tv⟩
  have QX:u[k]=false:=QX;refine cU [(9,.slice (.id 9 1) ((IS u k).map A0)),(10,vi k),(11,vb false),(71,.msl 22 u.length),(72,vi u.length),(73,vi k)] [(9,.tok 1 (IS u k).length),(22,.arr 1 (u.map CT))] Z6 Z2 (cU [(9,.slice (.id 9 1) ((IS u k).map A0)),(71,.msl 22 u.length),(72,vi u.length),(73,vi k)] [(9,.tok 1 (IS u k).length),(22,.arr 1 (u.map CT))] Z4 Z2 (Yi (Ii k aa0) ?_));have Ij:=O9 u k ra;rw[QX]at Ij;simp only[D4,LU]at Ij;refine Xi ⟨k+1,by omega⟩ ?_;exact⟨Dl u.length k aa0,⟨⟨(show AV.slice (.id 9 1) ((IS u k).map A0)=.slice (.id 9 1) ((IS u (k+1)).map A0) by rw[Ij]),rfl⟩,Zr,Zr,Zr,Tv⟩,⟨⟨(show HO.tok 1 (IS u k).length=.tok 1 (IS u (k+1)).length by rw[Ij]),rfl⟩,Zr,Tv⟩,Fh,Tv⟩
 have NZ:¬((k:Int)<(u.length:Int)):=NZ;have n17:¬k<u.length:=by omega
 have hms:Ez l target.toNat=some u:=by rw[<-i3];exact U5 i1.1 aa0
 have ra:k=u.length:=by omega
 exact .of_eq (show sl A0 (IS u k)=sl A0 (Dv l target) by rw[VB aa0 hms,ra];rfl)
end Go.Eng
