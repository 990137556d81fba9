/- Lemmas 24. -/
import Derived.Test.YtpgfieopnnkpfaaGreatDoorQA23
namespace Go.Eng
open Go.Proofs
variable {l:List UInt8}(d:List (List Tm))(x:List Rl)(sel:List Sl)(c:UInt8)(skips:List Sk)(q:Rq)(ifs:List (List AV))(roots:List Rq)(s p:ByteArray)(O:List ByteArray)(j k:Nat)
theorem gM(v:Ver):(Dj v).size<=65:=by
 unfold Dj;split
 .rename_i hv;unfold Bo at hv;simp only[Au,Bg]at hv;obtain⟨⟨h1,h2⟩,h3⟩:=hv;unfold okPart at h1 h2 h3;exact MO aa0 aa0 aa0
 .decide
theorem vI(a b c d:ByteArray):(Bk BE [a,b,c,d]).size=a.size+b.size+c.size+d.size+3:=by
 have e:BE.size=1:=rfl;rw[CF,CF,D2];simp only[AY,e];omega
theorem vH(a b c:ByteArray):(Bk BE [a,b,c]).size=a.size+b.size+c.size+2:=by
 have e:BE.size=1:=rfl;rw[CF,D2];simp only[AY,e];omega
abbrev VQ(a:An):AV:=.tup [sl Ag (KA x roots a).1,vi (KA x roots a).2]
theorem mo{x:List Rl}{roots:List Rq}{a:An}{e:Int}(h:KA x roots a=([],e)):DC (.tup [nzA,vi e]) (VQ x roots a):=
 (show DC (.tup [nzA,vi e]) (.tup [.slice .none [],vi e])from DC.tup ⟨.nil,.refl _,trivial⟩).trans (.of_eq (show AV.tup [.slice .none [],vi e]=VQ x roots a by unfold VQ;rw[h];rfl))
def HN:List ByteArray:=(O.take j).flatMap (Jg d sel skips)
def Iu:List ByteArray:=((skips.take k).filter fun s=>decide (s.path=p)).map (Nh d p)
theorem Zl(h:k<skips.length):Iu d skips p (k+1)=if skips[k].path=p then Iu d skips p k++[Nh d p skips[k]]else Iu d skips p k:=by
 unfold Iu;rw[A6 h,CG,AB]
 by_cases e:skips[k].path=p
 .rw[AE e,Jy (by simp[e])];rfl
 .rw[Aw e,GT (by simp[e]),MR,Fx,BC]
theorem i7(h:j<O.length){y:Sl}(hy:A3 sel O[j]=some y):HN d sel skips O (j+1)=HN d sel skips O j++Iu d skips O[j] skips.length++[Ue O[j] y.ver]:=by
 unfold HN Iu;rw[A6 h,List.flatMap_append,Ec];show _++(Jg d sel skips O[j]++[])=_;unfold Jg;rw[hy,BC,CB,CQ]
theorem oX:(Iu d skips p k).length<=k:=by
 unfold Iu;rw[Lm];have h1:=Ca (fun s:Sk=>decide (s.path=p)) (skips.take k);rw[AC]at h1;omega
theorem cg:∀j,(HN d sel skips O j).length<=j*(skips.length+1):=fun j=>by
 unfold HN;have h1:∀L:List ByteArray,(L.flatMap (Jg d sel skips)).length<=L.length*(skips.length+1):=fun L=>by
  induction L with
  |nil=>simp
  |cons p L ih=>
   rw[List.flatMap_cons,As,Av];have h2:(Jg d sel skips p).length<=skips.length+1:=by
    unfold Jg;rw[As,Lm]
    have:=Ca (fun s:Sk=>decide (s.path=p)) skips
    simp only[Av,AA];omega
   rw[Nat.succ_mul];omega
 have h3:=h1 (O.take j);have h4:(O.take j).length*(skips.length+1)<=j*(skips.length+1):=FP (by rw[AC];omega) (Aq _);omega
theorem e77(y:Sl)(p:ByteArray):PC 77 ([.agg (Ae y)]++[.cptr [vs p]]) (vb (decide (y.path=p))):=by
 refine Ps Cu Tryz.func77 rfl (Nz rfl) (Yi (fun h1=>?_) (fun h1=>?_))
 .have h1:(y.path:ByteArray)=p:=h1;exact .of_eq (show vb true=vb (decide (y.path=p)) by rw[A4 h1])
 have h1:¬(y.path:ByteArray)=p:=h1;exact .of_eq (show vb false=vb (decide (y.path=p)) by rw[AU h1])
theorem r4{s:List Sl}{p:ByteArray}(h:∃y,A3 s p=some y):∃(i:Nat) (y:Sl),Pg (fun y:Sl=>decide (y.path=p)) s 0=(i:Nat)/\s[i]?=some y/\A3 s p=some y:=by
 rcases PD s p with h1 | h1
 .obtain⟨y,hy⟩:=h;rw[h1.2]at hy;cases hy
 .exact h1
theorem YX{α:Type}{d:List α}{i:Int}{t:α}(h:Di d i=some t):0<=i/\d[i.toNat]?=some t:=by
 unfold Di at h;split at h
 .cases h
 .exact⟨by omega,h⟩
set_option maxHeartbeats 4000000 in
theorem e33(a:An)(L:Xr x roots)(hx:(FJ x 16&&D6 roots)=true)(Xj:QO a=true)(hP:I2 x roots a.infs):PC 33 [.agg (Ic x ifs),sl Ad roots,.agg [vb a.found,sl Ae a.sel,sl Aj a.infs,sl A1 a.skips]] (VQ x roots a):=by
 have ZC:(a.infs.map Aj).length=a.infs.length:=Lm _;obtain⟨SB,QZ,hs3⟩:=I1 Xj;obtain⟨ck,Wu⟩:∃c,c=CW x roots a:=⟨_,rfl⟩;have k35:=L.c21 ifs hx a Xj;rw[<-Wu]at k35;have vJ:=e24 x ifs roots a.infs ((a.infs.length:Int)-1) (L.ck ifs) (by unfold BB;omega) (by unfold Al;omega) L.rs hP;have vJ:PC 24 [Jx x ifs,sl Ad roots,sl Aj a.infs,vi (((a.infs.map Aj).length:Int)-1)] (WI x roots a.infs ((a.infs.length:Int)-1)):=by rw[Lm];exact vJ
 unfold WI at vJ;obtain⟨LL,uu⟩:∃l,l=(FH x roots a.infs ((a.infs.length:Int)-1)).1:=⟨_,rfl⟩;obtain⟨le,HB⟩:∃l,l=(FH x roots a.infs ((a.infs.length:Int)-1)).2:=⟨_,rfl⟩;rw[<-uu,<-HB]at vJ;have k27:=c12 x ifs roots a.infs (L.ck ifs);obtain⟨d,hd⟩:∃d,d=(Ax x roots a.infs).1:=⟨_,rfl⟩;obtain⟨de,zF⟩:∃d,d=(Ax x roots a.infs).2:=⟨_,rfl⟩;rw[<-hd,<-zF]at k27;have k37:=c18 x ifs roots a.sel (L.c84 ifs) L.x L.rq aa0;unfold af at k37;obtain⟨O,hO⟩:∃d,d=(Bw x roots a.sel).1:=⟨_,rfl⟩;obtain⟨oe,hoe⟩:∃d,d=(Bw x roots a.sel).2:=⟨_,rfl⟩;rw[<-hO,<-hoe]at k37;refine Ps (pT [15] [(13,1)] [1,2,4,6,7,8,12,15,16,17,19,20,21]) Tryz.func33 rfl (Nz rfl) (cU [(1,sl Ad roots),(3,.ref 3 0),(5,.ref 5 0)] [(3,.cells (Ic x ifs)),(5,.cells [vb a.found,sl Ae a.sel,sl Aj a.infs,sl A1 a.skips])] Z3 Z2 (yN (yN (Xi .pure (Xi _ (Yi k35 (cU [(1,sl Ad roots),(3,.ref 3 0),(5,.ref 5 0),(8,vi ck)] [(3,.cells (Ic x ifs)),(5,.cells [vb a.found,sl Ae a.sel,sl Aj a.infs,sl A1 a.skips])] Z4 Z2 (Yi (fun h1=>?_) (fun h1=>?_)))))))))
 .have h1:(ck:Int)≠(0:Int):=h1;exact mo (by unfold KA Rz;rw[AE (by rw[<-Wu];exact h1),<-Wu])
 have h1:(ck:Int)=(0:Int):=AQ h1;have M8:CW x roots a=0:=by rw[<-Wu];exact h1
 refine cU [(1,sl Ad roots),(3,.ref 3 0),(5,.ref 5 0)] [(3,.cells (Ic x ifs)),(5,.cells [vb a.found,sl Ae a.sel,sl Aj a.infs,sl A1 a.skips])] Z3 Z2 (Yi (fun h3=>?_) (fun h3=>?_))
 .have h3:a.found=true:=h3;have gR:a.found=true:=h3;obtain⟨aF,vC,he0,nW⟩:=Um M8 gR;rw[<-hd]at vC;have rf:∀p∈O,H8 p/\∃y,A3 a.sel p=some y:=fun p hp=>by
   rw[hO]at hp;obtain⟨h1,h2⟩:=nW p hp;exact⟨hP p (by unfold Fk;exact Bh _ h1),h2⟩
  have uV:∀t∈d,Np t:=by rw[hd];exact JE hP aF
  have hOl:O.length<=16:=by rw[hO,(Zs M8 gR).2.2.1];exact SB
  refine cU [(1,sl Ad roots),(3,.ref 3 0),(5,.ref 5 0)] [(3,.cells (Ic x ifs)),(5,.cells [vb a.found,sl Ae a.sel,sl Aj a.infs,sl A1 a.skips])] Z3 Z2 (yN (Xi .pure (Xi _ (Yi k27 (cU [(1,sl Ad roots),(3,.ref 3 0),(5,.ref 5 0),(9,sl Ap d)] [(3,.cells (Ic x ifs)),(5,.cells [vb a.found,sl Ae a.sel,sl Aj a.infs,sl A1 a.skips])] Z4 Z2 (yN (Xi .pure (Xi _ (Yi k37 (cU [(5,.ref 5 0),(9,sl Ap d),(11,sl Ag O)] [(5,.cells [vb a.found,sl Ae a.sel,sl Aj a.infs,sl A1 a.skips])] Z3 Z1 (Xi {j:Nat // j<=O.length} (Xi (fun q=>⟨[(5,.ref 5 0),(9,sl Ap d),(13,.slice (.id 13 1) ((HN d a.sel a.skips O q.1).map Ag)),(58,sl Ag O),(59,vi (O.map Ag).length),(60,vi q.1)],[(5,.cells [vb a.found,sl Ae a.sel,sl Aj a.infs,sl A1 a.skips]),(13,.tok 1 (HN d a.sel a.skips O q.1).length)],Af⟩) (Xi (fun q=>O.length-q.1) (Yi (Xi ⟨0,Ao _⟩ ?_) ?_))))))))))))))
  .exact⟨Z6,Z2,Fh,Tv⟩
  intro⟨j,j1⟩;have j1:j<=O.length:=j1;have hfl:=cg d a.sel a.skips O j;have zK:j*(a.skips.length+1)<=16*101:=FP aa0 aa0;refine Yi (fun h4=>?_) (fun h4=>?_)
  .have h4:(j:Int)<((O.map Ag).length:Int):=h4;have n4:j<O.length:=by have q:=h4;rw[Lm]at q;omega
   have g4:O[j]?=some O[j]:=Ge n4;have wN:=rf O[j] (Ah n4);have sE:H8 O[j]:=wN.1;obtain⟨i,y,hix,hsy,hfy⟩:=r4 wN.2;have hvz:=gM y.ver;refine Xi (Ag O[j]) (Yi (Yi (Nn j) (AM g4)) (Yi rfl (yN (cU [(5,.ref 5 0),(9,sl Ap d),(13,.slice (.id 13 1) ((HN d a.sel a.skips O j).map Ag)),(15,.ref 15 0),(58,sl Ag O),(59,vi (O.map Ag).length),(60,vi j)] [(5,.cells [vb a.found,sl Ae a.sel,sl Aj a.infs,sl A1 a.skips]),(13,.tok 1 (HN d a.sel a.skips O j).length),(15,.ro [vs O[j]])] Z7 Z3 (Xi {k:Nat // k<=a.skips.length} (Xi (fun q=>⟨[(5,.ref 5 0),(9,sl Ap d),(13,.slice (.id 13 1) ((HN d a.sel a.skips O j++Iu d a.skips O[j] q.1).map Ag)),(15,.ref 15 0),(58,sl Ag O),(59,vi (O.map Ag).length),(60,vi j),(65,sl A1 a.skips),(66,vi (a.skips.map A1).length),(67,vi q.1)],[(5,.cells [vb a.found,sl Ae a.sel,sl Aj a.infs,sl A1 a.skips]),(13,.tok 1 (HN d a.sel a.skips O j++Iu d a.skips O[j] q.1).length),(15,.ro [vs O[j]])],Af⟩) (Xi (fun q=>a.skips.length-q.1) (Yi (Xi ⟨0,Ao _⟩ ?_) ?_))))))))
   .exact⟨⟨Zr,Zr,⟨(show AV.slice (.id 13 1) ((HN d a.sel a.skips O j).map Ag)=.slice (.id 13 1) ((HN d a.sel a.skips O j++Iu d a.skips O[j] 0).map Ag) by rw[show Iu d a.skips O[j] 0=[]from rfl,BC]),rfl⟩,Zr,Zr,Zr,Zr,Zr,Zr,Zr,Tv⟩,⟨Zr,⟨(show HO.tok 1 (HN d a.sel a.skips O j).length=.tok 1 (HN d a.sel a.skips O j++Iu d a.skips O[j] 0).length by rw[show Iu d a.skips O[j] 0=[]from rfl,BC]),rfl⟩,Zr,Tv⟩,Fh,Tv⟩
   intro⟨k,k1⟩;have k1:k<=a.skips.length:=k1;have cB:=oX d a.skips O[j] k;have TZ:(HN d a.sel a.skips O j++Iu d a.skips O[j] k).length<=2000:=by rw[As];omega
   refine Yi (fun h5=>?_) (fun h5=>?_)
   .have h5:(k:Int)<((a.skips.map A1).length:Int):=h5;have n5:k<a.skips.length:=by have q:=h5;rw[Lm]at q;omega
    have g5:a.skips[k]?=some a.skips[k]:=Ge n5;obtain⟨cA,tt,pO⟩:=vC a.skips[k] (Ah n5);have Pf:=YX pO;have ue:d[a.skips[k].inf.toNat]?=some (d.getD a.skips[k].inf.toNat []):=by rw[Bq,Pf.2];rfl
    have SD:Np (d.getD a.skips[k].inf.toNat []):=uV _ (AO ue);have hz1:=IP SD;have sQ:=RD O[j] a.skips[k].place;refine Xi (A1 a.skips[k]) (Yi (Yi (Nn k) (AM g5)) (Yi rfl (yN (yN (cU [(5,.ref 5 0),(9,sl Ap d),(13,.slice (.id 13 1) ((HN d a.sel a.skips O j++Iu d a.skips O[j] k).map Ag)),(15,.ref 15 0),(17,.ref 17 0),(58,sl Ag O),(59,vi (O.map Ag).length),(60,vi j),(65,sl A1 a.skips),(66,vi (a.skips.map A1).length),(67,vi k)] [(5,.cells [vb a.found,sl Ae a.sel,sl Aj a.infs,sl A1 a.skips]),(13,.tok 1 (HN d a.sel a.skips O j++Iu d a.skips O[j] k).length),(15,.ro [vs O[j]]),(17,.cells (A1 a.skips[k]))] Z11 Z4 (Yi (fun h6=>?_) (fun h6=>?_)))))))
    .have h6:(a.skips[k].path:ByteArray)=O[j]:=h6;refine cU [(5,.ref 5 0),(9,sl Ap d),(13,.slice (.id 13 1) ((HN d a.sel a.skips O j++Iu d a.skips O[j] k).map Ag)),(15,.ref 15 0),(17,.ref 17 0),(58,sl Ag O),(59,vi (O.map Ag).length),(60,vi j),(65,sl A1 a.skips),(66,vi (a.skips.map A1).length),(67,vi k)] [(5,.cells [vb a.found,sl Ae a.sel,sl Aj a.infs,sl A1 a.skips]),(13,.tok 1 (HN d a.sel a.skips O j++Iu d a.skips O[j] k).length),(15,.ro [vs O[j]]),(17,.cells (A1 a.skips[k]))] Z11 Z4 (Xi _ (Yi (e75 O[j] a.skips[k].place sE.s (by unfold Al;omega)) (Yi (G5 (AL sQ aa2) aa2) (Xi (Ap (d.getD a.skips[k].inf.toNat [])) (Yi (Yi Pf.1 (AM ue)) (Yi rfl (Xi _ (Yi (e15 (d.getD a.skips[k].inf.toNat []) SD.len SD.few SD.path) (Xi _ (Yi (d8 [(⟨#[115,107,105,112]⟩:ByteArray),O[j],(Pk O[j] a.skips[k].place)++(⟨#[58]⟩:ByteArray),(BD (d.getD a.skips[k].inf.toNat []))] aa1 (show(Bk BE [(⟨#[115,107,105,112]⟩:ByteArray),O[j],(Pk O[j] a.skips[k].place)++(⟨#[58]⟩:ByteArray),(BD (d.getD a.skips[k].inf.toNat []))]).size<=281474976710656 by have q1:O[j].size<=1048576:=sE;have q2:=hz1;have q3:=sQ;have q4:=AY (Pk O[j] a.skips[k].place) ⟨#[58]⟩;have q5:(⟨#[58]⟩:ByteArray).size=1:=rfl;have q6:(⟨#[115,107,105,112]⟩:ByteArray).size=4:=rfl;have q9:=vI ((⟨#[115,107,105,112]⟩:ByteArray)) (O[j]) ((Pk O[j] a.skips[k].place)++(⟨#[58]⟩:ByteArray)) ((BD (d.getD a.skips[k].inf.toNat [])));omega)) ?_))))))))));have b7:AZ 1 [[vs (CP [(⟨#[115,107,105,112]⟩:ByteArray),O[j],(Pk O[j] a.skips[k].place)++(⟨#[58]⟩:ByteArray),(BD (d.getD a.skips[k].inf.toNat []))])]]/\((HN d a.sel a.skips O j++Iu d a.skips O[j] k).map Ag).length=(HN d a.sel a.skips O j++Iu d a.skips O[j] k).length/\(((HN d a.sel a.skips O j++Iu d a.skips O[j] k).map Ag).length+([[vs (CP [(⟨#[115,107,105,112]⟩:ByteArray),O[j],(Pk O[j] a.skips[k].place)++(⟨#[58]⟩:ByteArray),(BD (d.getD a.skips[k].inf.toNat []))])]]:List (List AV)).length)*16<=140737488355328/\((HN d a.sel a.skips O j++Iu d a.skips O[j] k).map Ag).length+([[vs (CP [(⟨#[115,107,105,112]⟩:ByteArray),O[j],(Pk O[j] a.skips[k].place)++(⟨#[58]⟩:ByteArray),(BD (d.getD a.skips[k].inf.toNat []))])]]:List (List AV)).length<=9223372036854775807:=⟨⟨rfl,trivial⟩,(by rw[Lm]),(by simp only[Lm,As,Av,AA];omega),(by simp only[Lm,As,Av,AA];omega)⟩;refine Yi b7 (Yi aa3 (cU [(5,.ref 5 0),(9,sl Ap d),(13,.slice (.id 13 1) (((HN d a.sel a.skips O j++Iu d a.skips O[j] k).map Ag)++[[vs (CP [(⟨#[115,107,105,112]⟩:ByteArray),O[j],(Pk O[j] a.skips[k].place)++(⟨#[58]⟩:ByteArray),(BD (d.getD a.skips[k].inf.toNat []))])]])),(15,.ref 15 0),(58,sl Ag O),(59,vi (O.map Ag).length),(60,vi j),(65,sl A1 a.skips),(66,vi (a.skips.map A1).length),(67,vi k)] [(5,.cells [vb a.found,sl Ae a.sel,sl Aj a.infs,sl A1 a.skips]),(13,.tok 1 (((HN d a.sel a.skips O j++Iu d a.skips O[j] k).map Ag).length+([[vs (CP [(⟨#[115,107,105,112]⟩:ByteArray),O[j],(Pk O[j] a.skips[k].place)++(⟨#[58]⟩:ByteArray),(BD (d.getD a.skips[k].inf.toNat []))])]]:List (List AV)).length)),(15,.ro [vs O[j]])] Z10 Z3 (Yi (Ii k aa0) ?_)));have Rd:=Zl d a.skips O[j] k n5;rw[AE h6]at Rd;refine Xi ⟨k+1,by omega⟩ ?_;exact⟨Dl a.skips.length k aa0,⟨Zr,Zr,⟨(show AV.slice (.id 13 1) ((HN d a.sel a.skips O j++Iu d a.skips O[j] k).map Ag++[[vs (CP [bT,O[j],Pk O[j] a.skips[k].place++RE,BD (d.getD a.skips[k].inf.toNat [])])]])=.slice (.id 13 1) ((HN d a.sel a.skips O j++Iu d a.skips O[j] (k+1)).map Ag) by rw[Rd,<-CQ,AB (l₁:=(HN d a.sel a.skips O j++Iu d a.skips O[j] k))];rfl),rfl⟩,Zr,Zr,Zr,Zr,Zr,Zr,Zr,Tv⟩,⟨Zr,⟨(show HO.tok 1 (((HN d a.sel a.skips O j++Iu d a.skips O[j] k).map Ag).length+([[vs (CP [bT,O[j],Pk O[j] a.skips[k].place++RE,BD (d.getD a.skips[k].inf.toNat [])])]]:List (List AV)).length)=.tok 1 (HN d a.sel a.skips O j++Iu d a.skips O[j] (k+1)).length by rw[Rd,<-CQ,show((HN d a.sel a.skips O j++Iu d a.skips O[j] k)++[Nh d O[j] a.skips[k]]).length=_ from As ..,Lm];rfl),rfl⟩,Zr,Tv⟩,Fh,Tv⟩
    have h6:¬(a.skips[k].path:ByteArray)=O[j]:=h6;refine cU [(5,.ref 5 0),(9,sl Ap d),(13,.slice (.id 13 1) ((HN d a.sel a.skips O j++Iu d a.skips O[j] k).map Ag)),(15,.ref 15 0),(58,sl Ag O),(59,vi (O.map Ag).length),(60,vi j),(65,sl A1 a.skips),(66,vi (a.skips.map A1).length),(67,vi k)] [(5,.cells [vb a.found,sl Ae a.sel,sl Aj a.infs,sl A1 a.skips]),(13,.tok 1 (HN d a.sel a.skips O j++Iu d a.skips O[j] k).length),(15,.ro [vs O[j]])] Z10 Z3 (Yi (Ii k aa0) ?_);have Rd:=Zl d a.skips O[j] k n5;rw[Aw h6]at Rd;refine Xi ⟨k+1,by omega⟩ ?_;exact⟨Dl a.skips.length k aa0,⟨Zr,Zr,⟨(show AV.slice (.id 13 1) ((HN d a.sel a.skips O j++Iu d a.skips O[j] k).map Ag)=.slice (.id 13 1) ((HN d a.sel a.skips O j++Iu d a.skips O[j] (k+1)).map Ag) by rw[Rd]),rfl⟩,Zr,Zr,Zr,Zr,Zr,Zr,Zr,Tv⟩,⟨Zr,⟨(show HO.tok 1 (HN d a.sel a.skips O j++Iu d a.skips O[j] k).length=.tok 1 (HN d a.sel a.skips O j++Iu d a.skips O[j] (k+1)).length by rw[Rd]),rfl⟩,Zr,Tv⟩,Fh,Tv⟩
   have h5:¬((k:Int)<((a.skips.map A1).length:Int)):=h5;have n5:¬k<a.skips.length:=by have q:=h5;rw[Lm]at q;omega
   refine Xi .pure (Xi _ (Yi (show PC 76 [sl Ae a.sel,.clo 77 [.cptr [vs O[j]]]] (vi (i:Nat)) by rw[<-hix];exact tQ (DZ.ptr [vs O[j]]) a.sel (fun y=>decide (y.path=O[j])) (fun y _=>e77 y O[j]) aa0) (cU [(5,.ref 5 0),(9,sl Ap d),(13,.slice (.id 13 1) ((HN d a.sel a.skips O j++Iu d a.skips O[j] k).map Ag)),(15,.ref 15 0),(18,vi i),(58,sl Ag O),(59,vi (O.map Ag).length),(60,vi j)] [(5,.cells [vb a.found,sl Ae a.sel,sl Aj a.infs,sl A1 a.skips]),(13,.tok 1 (HN d a.sel a.skips O j++Iu d a.skips O[j] k).length),(15,.ro [vs O[j]])] Z8 Z3 (Xi (Ae y) (Yi (Yi (show(0:Int)<=(i:Nat) by omega) (AM hsy)) (Yi rfl (yN (Xi .pure (Xi _ (Yi (yV y.ver) (cU [(5,.ref 5 0),(9,sl Ap d),(13,.slice (.id 13 1) ((HN d a.sel a.skips O j++Iu d a.skips O[j] k).map Ag)),(15,.ref 15 0),(19,vs (Dj y.ver)),(58,sl Ag O),(59,vi (O.map Ag).length),(60,vi j)] [(5,.cells [vb a.found,sl Ae a.sel,sl Aj a.infs,sl A1 a.skips]),(13,.tok 1 (HN d a.sel a.skips O j++Iu d a.skips O[j] k).length),(15,.ro [vs O[j]])] Z8 Z3 (Xi .pure (Xi _ (Yi (d8 [(⟨#[115,101,108,101,99,116]⟩:ByteArray),O[j],(Dj y.ver)] aa1 (show(Bk BE [(⟨#[115,101,108,101,99,116]⟩:ByteArray),O[j],(Dj y.ver)]).size<=281474976710656 by have q1:O[j].size<=1048576:=sE;have q2:=hvz;have q6:(⟨#[115,101,108,101,99,116]⟩:ByteArray).size=6:=rfl;have q9:=vH ((⟨#[115,101,108,101,99,116]⟩:ByteArray)) (O[j]) ((Dj y.ver));omega)) ?_))))))))))))));have Xd:AZ 1 [[vs (CP [(⟨#[115,101,108,101,99,116]⟩:ByteArray),O[j],(Dj y.ver)])]]/\((HN d a.sel a.skips O j++Iu d a.skips O[j] k).map Ag).length=(HN d a.sel a.skips O j++Iu d a.skips O[j] k).length/\(((HN d a.sel a.skips O j++Iu d a.skips O[j] k).map Ag).length+([[vs (CP [(⟨#[115,101,108,101,99,116]⟩:ByteArray),O[j],(Dj y.ver)])]]:List (List AV)).length)*16<=140737488355328/\((HN d a.sel a.skips O j++Iu d a.skips O[j] k).map Ag).length+([[vs (CP [(⟨#[115,101,108,101,99,116]⟩:ByteArray),O[j],(Dj y.ver)])]]:List (List AV)).length<=9223372036854775807:=⟨⟨rfl,trivial⟩,(by rw[Lm]),(by simp only[Lm,As,Av,AA];omega),(by simp only[Lm,As,Av,AA];omega)⟩;refine Yi Xd (cU [(5,.ref 5 0),(9,sl Ap d),(13,.slice (.id 13 1) (((HN d a.sel a.skips O j++Iu d a.skips O[j] k).map Ag)++[[vs (CP [(⟨#[115,101,108,101,99,116]⟩:ByteArray),O[j],(Dj y.ver)])]])),(58,sl Ag O),(59,vi (O.map Ag).length),(60,vi j)] [(5,.cells [vb a.found,sl Ae a.sel,sl Aj a.infs,sl A1 a.skips]),(13,.tok 1 (((HN d a.sel a.skips O j++Iu d a.skips O[j] k).map Ag).length+([[vs (CP [(⟨#[115,101,108,101,99,116]⟩:ByteArray),O[j],(Dj y.ver)])]]:List (List AV)).length))] Z6 Z2 (Yi (Ii j aa0) ?_));have sL:k=a.skips.length:=by omega
   have sG:=i7 d a.sel a.skips O j n4 hfy;rw[<-sL]at sG;refine Xi ⟨j+1,by omega⟩ ?_;exact⟨Dl O.length j aa0,⟨Zr,Zr,⟨(show AV.slice (.id 13 1) (((HN d a.sel a.skips O j++Iu d a.skips O[j] k).map Ag)++[[vs (CP [Q7,O[j],Dj y.ver])]])=.slice (.id 13 1) ((HN d a.sel a.skips O (j+1)).map Ag) by rw[sG,AB (l₁:=HN d a.sel a.skips O j++Iu d a.skips O[j] k)];rfl),rfl⟩,Zr,Zr,Zr,Tv⟩,⟨Zr,⟨(show HO.tok 1 (((HN d a.sel a.skips O j++Iu d a.skips O[j] k).map Ag).length+([[vs (CP [Q7,O[j],Dj y.ver])]]:List (List AV)).length)=.tok 1 (HN d a.sel a.skips O (j+1)).length by rw[sG,show(HN d a.sel a.skips O j++Iu d a.skips O[j] k++[Ue O[j] y.ver]).length=_ from As ..,Lm];rfl),rfl⟩,Tv⟩,Fh,Tv⟩
  have h4:¬((j:Int)<((O.map Ag).length:Int)):=h4;have n4:¬j<O.length:=by have q:=h4;rw[Lm]at q;omega
  exact .of_eq (show AV.tup [sl Ag (HN d a.sel a.skips O j),vi 0]=VQ x roots a by unfold VQ KA Rz HN;rw[Aw (fun h=>h M8),Aw (by rw[gR];decide),<-hd,<-hO,AK aa0])
 have h3:a.found=false:=h3;refine yN (Yi (by show Al (((a.infs.map Aj).length:Int)-(1:Int));unfold Al;omega) ?_);refine Xi .pure (Xi _ (Yi vJ ?_));exact .of_eq (show AV.tup [sl Ag LL,vi le]=VQ x roots a by unfold VQ KA Rz;rw[Aw (fun h=>h M8),AE h3,uu,HB])
theorem qw:PC 294 [vc c] (vb (Eg c)):=by
 refine Ps Cu Tryz.func294 rfl (Nz rfl) ?_;have e1:decide ((97:UInt8)<=c)=decide ((97:Int)<=(c.toNat:Int)):=VA c 97 aa2;have e2:decide (c<=(122:UInt8))=decide ((c.toNat:Int)<=(122:Int)):=Vz c 122 aa2;have es:Eg c=(decide ((97:Int)<=(c.toNat:Int))&&decide ((c.toNat:Int)<=(122:Int))):=by grind [Eg]
 refine Yi ?_ ?_
 .intro h;refine Yi ?_ ?_
  .intro h2;exact .of_eq (Aa vb (show true=Eg c by simp_all))
  .intro h2;exact .of_eq (Aa vb (show false=Eg c by simp_all))
 .intro h;exact .of_eq (Aa vb (show false=Eg c by simp_all))
theorem mM:PC 295 [vc c] (vb (BZ c)):=by
 refine Ps Cu Tryz.func295 rfl (Nz rfl) ?_;have e1:decide ((48:UInt8)<=c)=decide ((48:Int)<=(c.toNat:Int)):=VA c 48 aa2;have e2:decide (c<=(57:UInt8))=decide ((c.toNat:Int)<=(57:Int)):=Vz c 57 aa2;have es:BZ c=(decide ((48:Int)<=(c.toNat:Int))&&decide ((c.toNat:Int)<=(57:Int))):=by grind [BZ]
 refine Yi ?_ ?_
 .intro h;refine Yi ?_ ?_
  .intro h2;exact .of_eq (Aa vb (show true=BZ c by simp_all))
  .intro h2;exact .of_eq (Aa vb (show false=BZ c by simp_all))
 .intro h;exact .of_eq (Aa vb (show false=BZ c by simp_all))
theorem yx:PC 351 [vc c] (vb (LA c)):=by
 refine Ps Cu Tryz.func351 rfl (Nz rfl) ?_;have e1:decide ((65:UInt8)<=c)=decide ((65:Int)<=(c.toNat:Int)):=VA c 65 aa2;have e2:decide (c<=(90:UInt8))=decide ((c.toNat:Int)<=(90:Int)):=Vz c 90 aa2;have es:LA c=(decide ((65:Int)<=(c.toNat:Int))&&decide ((c.toNat:Int)<=(90:Int))):=by grind [LA]
 refine Yi ?_ ?_
 .intro h;refine Yi ?_ ?_
  .intro h2;exact .of_eq (Aa vb (show true=LA c by simp_all))
  .intro h2;exact .of_eq (Aa vb (show false=LA c by simp_all))
 .intro h;exact .of_eq (Aa vb (show false=LA c by simp_all))
theorem yw:PC 345 [vc c] (vb (Fu c)):=by
 have h1:=qw c;have h2:=yx c;have h3:=mM c;have ew:Fu c=(Eg c||LA c||BZ c||decide (c=95)):=rfl;rcases Bt (Eg c)with e | e
 .rw[e]at h1;refine Ps Cu Tryz.func345 rfl (Nz rfl) (Xi .pure (Xi _ (Yi (h1) ?_)));exact .of_eq (Aa vb (show true=Fu c by simp_all))
 rw[e]at h1;rcases Bt (LA c)with e2 | e2
 .rw[e2]at h2;refine Ps Cu Tryz.func345 rfl (Nz rfl) (Xi .pure (Xi _ (Yi (h1) (Xi .pure (Xi _ (Yi (h2) ?_))))));exact .of_eq (Aa vb (show true=Fu c by simp_all))
 rw[e2]at h2;rcases Bt (BZ c)with e3 | e3
 .rw[e3]at h3;refine Ps Cu Tryz.func345 rfl (Nz rfl) (Xi .pure (Xi _ (Yi (h1) (Xi .pure (Xi _ (Yi (h2) (Xi .pure (Xi _ (Yi (h3) ?_)))))))));exact .of_eq (Aa vb (show true=Fu c by simp_all))
 rw[e3]at h3;refine Ps Cu Tryz.func345 rfl (Nz rfl) (Xi .pure (Xi _ (Yi (h1) (Xi .pure (Xi _ (Yi (h2) (Xi .pure (Xi _ (Yi (h3) ?_)))))))));have eb:decide (c=95)=decide ((c.toNat:Int)=95):=by
  rw[Gn,Bg,Bg];constructor
  .simp_all
  .intro h;exact Hr.1 (by grind)
 refine Yi ?_ ?_
 .intro h;exact .of_eq (Aa vb (show true=Fu c by simp_all))
 .intro h;exact .of_eq (Aa vb (show false=Fu c by simp_all))
theorem yt(hs:s.data.toList.length<4611686018427387904):PC 330 [vs s] (vb (s.data.toList.all Fu)):=by
 have FM:s.size=s.data.toList.length:=by simp
 refine Ps Cu Tryz.func330 rfl (Nz rfl) (Xi {i:Nat // i<=s.data.toList.length/\∀j (hj:j<s.data.toList.length),j<i->Fu s.data.toList[j]=true} (Xi (fun i=>⟨[(0,vs s),(3,vi i.1)],[],Af⟩) (Xi (fun i=>s.data.toList.length-i.1) (Yi (Xi ⟨0,Ao _,fun j _ h=>by omega⟩ ?_) ?_))))
 .exact⟨Z2,Tv,Fh,Tv⟩
 intro⟨i,h1,h2⟩;refine Yi ?_ ?_
 .intro h;have h:(i:Int)<(s.size:Nat):=h;have h:i<s.data.toList.length:=by omega
  refine Xi s.data.toList[i] (Yi ⟨by omega,by grind⟩ ?_);have hc:=yw s.data.toList[i];refine AG (Bt (Fu s.data.toList[i])) (fun e=>?_) (fun e=>?_)
  .rw[e]at hc;refine Xi .pure (Xi _ (Yi (hc) (Yi (by grind [Al]) (Xi ⟨i+1,by omega,fun j hj He=>?_⟩ ?_))))
   .grind
   .exact⟨by grind,Z2,Tv,Fh,Tv⟩
  .rw[e]at hc;refine Xi .pure (Xi _ (Yi (hc) ?_));have er:s.data.toList.all Fu=false:=by
    grind
   exact .of_eq (Aa vb er.symm)
 .intro h;have h:¬(i:Int)<(s.size:Nat):=h;have er:s.data.toList.all Fu=true:=BI.2 fun c hc=>by
   grind [List.getElem_of_mem]
  exact .of_eq (Aa vb er.symm)
abbrev kwB:List ByteArray:=rH.map bs
theorem yv:PC 332 [] (sl Ag kwB):=by
 refine Ps Cu Tryz.func332 rfl (Nz rfl) ?_;exact .refl _
theorem yu(l:List ByteArray)(s:ByteArray)(hl:BB l):PC 331 [sl Ag l,vs s] (vb (l.any fun q=>decide (q=s))):=by
 unfold BB at hl;refine Ps Cu Tryz.func331 rfl (Nz rfl) (Xi {i:Nat // i<=l.length/\∀j (hj:j<l.length),j<i->l[j]≠s} (Xi (fun i=>⟨[(0,sl Ag l),(1,vs s),(5,vi i.1)],[],Af⟩) (Xi (fun i=>l.length-i.1) (Yi (Xi ⟨0,Ao _,fun j _ h=>by omega⟩ ?_) ?_))))
 .exact⟨Z3,Tv,Fh,Tv⟩
 intro⟨i,h1,h2⟩;refine Yi ?_ ?_
 .intro h;have h:i<l.length:=by simp_all
  have hg:l[i]?=some l[i]:=Ge h;refine Xi (Ag l[i]) (Yi (Yi aa0 (by simp_all)) (Yi rfl ?_));refine Yi ?_ ?_
  .intro he;exact .of_eq (Aa vb (show true=_ from(BQ.2 ⟨l[i],Ah h,by simp_all⟩).symm))
  .intro he;refine Yi (by grind [Al]) (Xi ⟨i+1,by omega,fun j hj He=>?_⟩ ?_)
   .grind
   .exact⟨by grind,Z3,Tv,Fh,Tv⟩
 .intro h;have h:¬i<l.length:=by simp_all
  have er:(l.any fun q=>decide (q=s))=false:=by
   grind [List.getElem_of_mem]
  exact .of_eq (Aa vb er.symm)
theorem te{w:List UInt8}{s:ByteArray}:bs w=s↔w=s.data.toList:=by
 constructor
 .intro h;rw[<-h];rfl
 .intro h;rw[h];rfl
theorem rJ:(kwB.any fun q=>decide (q=s))=rH.any (fun w=>decide (w=s.data.toList)):=by
 grind [te]
theorem yn(hs:s.data.toList.length<4611686018427387904):PC 296 [vs s] (vb (Gf s.data.toList)):=by
 have FM:s.size=s.data.toList.length:=by simp
 obtain⟨N,hN⟩:∃N,N=Gf s.data.toList:=⟨_,rfl⟩;rw[<-hN];unfold Gf at hN;have nD:=yt s hs;have js:=yu kwB s aa2;rw[rJ]at js;refine Ps Cu Tryz.func296 rfl (Nz rfl) (Yi (fun h=>?_) (fun h=>?_))
 rotate_left
 .have e:s.data.toList=[]:=Az aa0;exact .of_eq (Aa vb (show false=N by simp_all))
 have he:s.data.toList.isEmpty=false:=by
  grind
 refine Yi (fun h2=>?_) (fun h2=>?_)
 rotate_left
 .exact .of_eq (Aa vb (show false=N by grind))
 refine Am (show ∃c l,s.data.toList=c::l by cases e:s.data.toList with | nil=>simp_all | cons c l=>simp_all) (fun c hc=>?_);refine Am hc (fun l hc=>?_);refine Xi c (Yi ⟨by decide,by show s.data[(0:Int).toNat]?=_;rw[<-Co,hc];rfl⟩ ?_);have nC:=qw c;have hN:N=(Eg c&&s.data.toList.all Fu&&!T6 s.data.toList):=by
  grind
 refine AG (Bt (Eg c)).symm (fun e=>?_) (fun e=>?_)
 .rw[e]at nC;refine Xi .pure (Xi _ (Yi (nC) ?_));exact .of_eq (Aa vb (show false=N by simp_all))
 rw[e]at nC;refine Xi .pure (Xi _ (Yi (nC) (AG (Bt (s.data.toList.all Fu)).symm (fun e2=>?_) (fun e2=>?_))))
 .rw[e2]at nD;refine Xi .pure (Xi _ (Yi (nD) ?_));exact .of_eq (Aa vb (show false=N by grind))
 rw[e2]at nD;refine Xi .pure (Xi _ (Yi (nD) (Xi .pure (Xi _ (Yi (yv) ?_)))));rw[aU e2]at hN;refine AG (Bt (rH.any (fun w=>decide (w=s.data.toList)))) (fun e3=>?_) (fun e3=>?_)
 .rw[e3]at js;refine Xi .pure (Xi _ (Yi (js) ?_));exact .of_eq (Aa vb (show false=N by grind))
 .rw[e3]at js;refine Xi .pure (Xi _ (Yi (js) ?_));exact .of_eq (Aa vb (show true=N by grind))
theorem lA{s:ByteArray}:Hh s.data.toList=(s.data.toList.all Tx&&Gf s.data.toList):=by
 grind [Hh]
theorem yf(hs:s.data.toList.length<4611686018427387904):PC 231 [vs s] (vb (Hh s.data.toList)):=by
 have FM:s.size=s.data.toList.length:=by simp
 have y4:=yn s hs;rw[lA];refine Ps Cu Tryz.func231 rfl (Nz rfl) (Xi {i:Nat // i<=s.data.toList.length/\∀j (hj:j<s.data.toList.length),j<i->Tx s.data.toList[j]=true} (Xi (fun i=>⟨[(0,vs s),(3,vi i.1)],[],Af⟩) (Xi (fun i=>s.data.toList.length-i.1) (Yi (Xi ⟨0,Ao _,fun j _ h=>by omega⟩ ?_) ?_))))
 .exact⟨Z2,Tv,Fh,Tv⟩
 intro⟨i,h1,h2⟩;refine Yi ?_ ?_
 .intro h;have h:(i:Int)<(s.size:Nat):=h;have h:i<s.data.toList.length:=by omega
  have Mu:(0:Int)<=i/\s.data[((i:Nat):Int).toNat]?=some s.data.toList[i]:=⟨by omega,by grind⟩;have nx:Tx s.data.toList[i]=true->∀j (hj:j<s.data.toList.length),j<i+1->Tx s.data.toList[j]=true:=fun e j hj He=>by
   grind
  refine Xi s.data.toList[i] (Yi Mu ?_);have h3:=qw s.data.toList[i];have h4:=mM s.data.toList[i];refine AG (Bt (Eg s.data.toList[i])) (fun e=>?_) (fun e=>?_)
  .rw[e]at h3;refine Xi .pure (Xi _ (Yi (h3) (Yi (by grind [Al]) (Xi ⟨i+1,by omega,nx (by grind)⟩ ?_))));exact⟨by grind,Z2,Tv,Fh,Tv⟩
  rw[e]at h3;refine Xi .pure (Xi _ (Yi (h3) (Xi s.data.toList[i] (Yi Mu (AG (Bt (BZ s.data.toList[i])) (fun e2=>?_) (fun e2=>?_))))))
  .rw[e2]at h4;refine Xi .pure (Xi _ (Yi (h4) (Yi (by grind [Al]) (Xi ⟨i+1,by omega,nx (by grind)⟩ ?_))));exact⟨by grind,Z2,Tv,Fh,Tv⟩
  rw[e2]at h4;refine Xi .pure (Xi _ (Yi (h4) ?_));have er:s.data.toList.all Tx=false:=by
   grind
  exact .of_eq (Aa vb (by grind))
 .intro h;have h:¬(i:Int)<(s.size:Nat):=h;have er:s.data.toList.all Tx=true:=BI.2 fun c hc=>by
   grind [List.getElem_of_mem]
  refine Xi .pure (Xi _ (Yi (y4) ?_));exact .of_eq (Aa vb (by grind))
abbrev Uh:Option Int->AV
 |some n=>vi n
 |none=>vi (-1)
theorem yg(hs:s.data.toList.length<4611686018427387904):PC 232 [vs s] (Uh (Fz s.data.toList)):=by
 have FM:s.size=s.data.toList.length:=by simp
 refine Ps (Dc [3]) Tryz.func232 rfl (Nz rfl) (Yi (fun h=>?_) (fun h=>?_))
 .exact .of_eq (Aa Uh (show(none:Option Int)=Fz s.data.toList by
   cases hs:s.data.toList with
   |nil=>rfl
   |cons c r=>
    cases r<;>grind [Fz]))
 refine Am (show ∃c r,s.data.toList=c::r by
  cases e:s.data.toList<;>simp_all) (fun c hc=>?_)
 refine Am hc (fun r sN=>?_);have GH:s.size=r.length+1:=by simp_all
 have hv0:Fz s.data.toList=if c=118 then(if(r.isEmpty||decide (3<r.length)||(decide (1<r.length)&&decide (r.headD 0=48))||!r.all BZ)=true then none else some (Dy r))else none:=by rw[sN];rfl
 refine Yi (fun h2=>?_) (fun h2=>?_)
 .exact .of_eq (Aa Uh (show(none:Option Int)=Fz s.data.toList by grind))
 refine Xi c (Yi ⟨by decide,by show s.data[(0:Int).toNat]?=_;rw[<-Co,sN];rfl⟩ ?_);refine Yi (fun h3=>?_) (fun h3=>?_)
 .have h3:¬c=118:=fun e=>h3 (by simp_all);exact .of_eq (Aa Uh (show(none:Option Int)=Fz s.data.toList by simp_all))
 have h3:c=118:=Hr.1 (by grind);have hr:s.data.toList=118::r:=by simp_all
 have hv:Fz s.data.toList=if(r.isEmpty||decide (3<r.length)||(decide (1<r.length)&&decide (r.headD 0=48))||!r.all BZ)=true then none else some (Dy r):=by simp_all
 have Cy:0<r.length:=by omega
 have nP:r.isEmpty=false:=by
  grind
 have u9:r.length<=3:=by omega
 have d3:decide (3<r.length)=false:=AU aa0;have z0:Dy (r.take 0)=0:=rfl;have hh:=ND r Cy;refine Xi r[0] (Yi ⟨by decide,by show s.data[(1:Int).toNat]?=_;rw[<-Co,sN];simp_all⟩ ?_);refine Yi (fun h4=>?_) (fun h4=>?_)
 .have h4:r[0]=48:=Hr.1 (by grind);refine Yi (fun h5=>?_) (fun h5=>?_)
  .exact .of_eq (Aa Uh (show(none:Option Int)=Fz s.data.toList by grind))
  have eo:(decide (1<r.length)&&decide (r.headD 0=48))=false:=by grind
  refine cU [(0,vs s)] [] Z1 Tv (Xi {i:Nat // i<=r.length/\(∀j (hj:j<r.length),j<i->BZ r[j]=true)/\0<=Dy (r.take i)/\(i=0->Dy (r.take i)<=0)/\(i<=1->Dy (r.take i)<=9)/\(i<=2->Dy (r.take i)<=99)/\Dy (r.take i)<=999} (Xi (fun i=>⟨[(0,vs s),(3,vi (Dy (r.take i.1))),(4,vi (1+(i.1:Int)))],[],Af⟩) (Xi (fun i=>r.length-i.1) (Yi (Xi ⟨0,Ao _,fun j _ h=>by omega,by omega,fun _=>by omega,fun _=>by omega,fun _=>by omega,by omega⟩ ?_) ?_))))
  .exact⟨Z3,Tv,Fh,Tv⟩
  intro⟨i,i1,i0,i2,i3,i4,i5,i6⟩;refine Yi ?_ ?_
  .intro h;have h:1+(i:Int)<(s.size:Nat):=h;have h:i<r.length:=by omega
   have Mu:(0:Int)<=1+(i:Int)/\s.data[(1+(i:Int)).toNat]?=some r[i]:=⟨by omega,by rw[show(1+(i:Int)).toNat=i+1 by omega,<-Co,hr,Rt];simp_all⟩;refine Xi r[i] (Yi Mu ?_);have hc:=mM r[i];refine AG (Bt (BZ r[i])).symm (fun e=>?_) (fun e=>?_)
   .rw[e]at hc;refine Xi .pure (Xi _ (Yi (hc) ?_));have Hy:r.all BZ=false:=by
     grind
    exact .of_eq (Aa Uh (show(none:Option Int)=Fz s.data.toList by simp_all))
   rw[e]at hc;refine Xi .pure (Xi _ (Yi (hc) ?_));have zG:=IW e;have Xf:=Kr r i h;have mc:IntKind.u8.wrap ((r[i].toNat:Int)-48)=(r[i].toNat:Int)-48:=Rp aa0 aa0;refine Yi (by show Al (10*Dy (r.take i));unfold Al;omega) (Xi r[i] (Yi Mu (Yi (by show Al (IntKind.u8.wrap ((r[i].toNat:Int)-48));rw[mc];unfold Al;omega) ?_)));refine Yi (by show Al (10*Dy (r.take i)+IntKind.u8.wrap ((r[i].toNat:Int)-48));rw[mc];unfold Al;omega) ?_;refine Yi (by show Al (1+(i:Int)+1);unfold Al;omega) ?_;have e5:vi (10*Dy (r.take i)+IntKind.u8.wrap ((r[i].toNat:Int)-48))=vi (Dy (r.take (i+1))):=by simp_all
   have e6:vi (1+(i:Int)+1)=vi (1+((i+1:Nat):Int)):=Aa vi aa0;refine Xi ⟨i+1,by omega,fun j hj He=>?_,by omega,fun _=>by omega,fun _=>by omega,fun _=>by omega,by omega⟩ ?_
   .grind
   .exact⟨Dl r.length i aa0,⟨Zr,⟨e5,rfl⟩,⟨e6,rfl⟩,Tv⟩,Tv,Fh,Tv⟩
  .intro h;have h:¬1+(i:Int)<(s.size:Nat):=h;have e3:r.all BZ=true:=BI.2 fun c hc=>by
    grind [List.getElem_of_mem]
   have e6:vi (Dy (r.take i))=Uh (Fz s.data.toList):=by grind
   exact .of_eq e6
 have eo:(decide (1<r.length)&&decide (r.headD 0=48))=false:=by rw[hh,AU (show ¬r[0]=48 from fun e=>h4 (by simp_all)),Bool.and_false]
 refine cU [(0,vs s)] [] Z1 Tv (Xi {i:Nat // i<=r.length/\(∀j (hj:j<r.length),j<i->BZ r[j]=true)/\0<=Dy (r.take i)/\(i=0->Dy (r.take i)<=0)/\(i<=1->Dy (r.take i)<=9)/\(i<=2->Dy (r.take i)<=99)/\Dy (r.take i)<=999} (Xi (fun i=>⟨[(0,vs s),(3,vi (Dy (r.take i.1))),(4,vi (1+(i.1:Int)))],[],Af⟩) (Xi (fun i=>r.length-i.1) (Yi (Xi ⟨0,Ao _,fun j _ h=>by omega,by omega,fun _=>by omega,fun _=>by omega,fun _=>by omega,by omega⟩ ?_) ?_))))
 .exact⟨Z3,Tv,Fh,Tv⟩
 intro⟨i,i1,i0,i2,i3,i4,i5,i6⟩;refine Yi ?_ ?_
 .intro h;have h:1+(i:Int)<(s.size:Nat):=h;have h:i<r.length:=by omega
  have Mu:(0:Int)<=1+(i:Int)/\s.data[(1+(i:Int)).toNat]?=some r[i]:=⟨by omega,by rw[show(1+(i:Int)).toNat=i+1 by omega,<-Co,hr,Rt];simp_all⟩;refine Xi r[i] (Yi Mu ?_);have hc:=mM r[i];refine AG (Bt (BZ r[i])).symm (fun e=>?_) (fun e=>?_)
  .rw[e]at hc;refine Xi .pure (Xi _ (Yi (hc) ?_));have Hy:r.all BZ=false:=by
    grind
   exact .of_eq (Aa Uh (show(none:Option Int)=Fz s.data.toList by simp_all))
  rw[e]at hc;refine Xi .pure (Xi _ (Yi (hc) ?_));have zG:=IW e;have Xf:=Kr r i h;have mc:IntKind.u8.wrap ((r[i].toNat:Int)-48)=(r[i].toNat:Int)-48:=Rp aa0 aa0;refine Yi (by grind [Al]) (Xi r[i] (Yi Mu (Yi (by grind [Al]) (Yi (by show Al (10*Dy (r.take i)+IntKind.u8.wrap ((r[i].toNat:Int)-48));rw[mc];unfold Al;omega) ?_))));refine Yi (by grind [Al]) ?_;have e5:vi (10*Dy (r.take i)+IntKind.u8.wrap ((r[i].toNat:Int)-48))=vi (Dy (r.take (i+1))):=by simp_all
  have e6:vi (1+(i:Int)+1)=vi (1+((i+1:Nat):Int)):=Aa vi aa0;refine Xi ⟨i+1,by omega,fun j hj He=>?_,by omega,fun _=>by omega,fun _=>by omega,fun _=>by omega,by omega⟩ ?_
  .grind
  .exact⟨Dl r.length i aa0,⟨Zr,⟨e5,rfl⟩,⟨e6,rfl⟩,Tv⟩,Tv,Fh,Tv⟩
 .intro h;have h:¬1+(i:Int)<(s.size:Nat):=h;have e3:r.all BZ=true:=BI.2 fun c hc=>by
   grind [List.getElem_of_mem]
  have e6:vi (Dy (r.take i))=Uh (Fz s.data.toList):=by grind
  exact .of_eq e6
abbrev ZF(l:List UInt8):List ByteArray:=(Ci 47 l).map bs
def Vh:List (List UInt8)->UInt8->List (List UInt8)
 | [],_=>[]
 | [x],b=>[x++[b]]
 |x::l,b=>x::Vh l b
theorem Ky(s:List UInt8):Ci c s≠[]:=by
 cases s<;>grind [Ci]
theorem TJ(c:UInt8):∀s:List UInt8,Ci c (s++[c])=Ci c s++[[]]
 | []=>by simp[Ci]
 |b::r=>by
  rw[D8,Ci,TJ c r,Ci]
  by_cases e:b=c
  all_goals grind [Ky]
theorem Tj(x:List UInt8){l:List (List UInt8)}(b:UInt8)(h:l≠[]):Vh (x::l) b=x::Vh l b:=by
 cases l with
 |nil=>simp_all
 |cons y l=>rfl
theorem QP(c b:UInt8)(hb:b≠c):∀s:List UInt8,Ci c (s++[b])=Vh (Ci c s) b
 | []=>by grind [Ci,Vh]
 |a::r=>by
  rw[D8,Ci,QP c b hb r,Ci]
  by_cases e:a=c
  .grind [Tj,Ky]
  .rw[Aw e,Aw e];cases h:Ci c r with
   |nil=>grind [Ky]
   |cons x l=>
    cases l with
    |nil=>rfl
    |cons y l=>rfl
theorem Vi(b:UInt8):∀(l:List (List UInt8)) (x:List UInt8),l[l.length-1]?=some x->l.set (l.length-1) (x++[b])=Vh l b
 | [],_,h=>by cases h
 | [y],x,h=>by
  have h:some y=some x:=h;rw[DY h];rfl
 |y::z::l,x,h=>by
  have h:(z::l)[(z::l).length-1]?=some x:=h;rw[Tj y b (List.cons_ne_nil _ _),<-Vi b (z::l) x h];rfl
theorem TH(s:List UInt8):(Ci c s).length<=s.length+1:=by
 induction s<;>grind [Ci]
abbrev vT:Nm:=⟨[],[],[(5,1)],[],[],[],[],[],[],[(36,3)],[4]⟩
theorem kU{c:UInt8}(hc:c≠47){x:ByteArray}(h:(ZF l)[(ZF l).length-1]?=some x):(ZF l).set ((ZF l).length-1) (x++bs [c])=ZF (l++[c]):=by
 have h2:=h;rw[BX,Lm]at h;obtain⟨y,hy,e⟩:=CD.1 h;subst e;show _=(Ci 47 (l++[c])).map bs;rw[QP 47 c hc l,<-Vi c (Ci 47 l) y hy,J5,Lm]
 congr 1
theorem ye(hs:Ew s):PC 230 [vs s] (sl Gv (ZF s.data.toList)):=by
 unfold Ew at hs;have FM:s.size=s.data.toList.length:=by simp
 refine Ps vT Tryz.func230 rfl (Nz rfl) (Xi {p:Nat×List ByteArray // p.1<=s.data.toList.length/\p.2=ZF (s.data.toList.take p.1)} (Xi (fun p=>⟨[(0,vs s),(3,.msl 5 p.1.2.length),(4,vi p.1.1)],[(5,.arr 1 (p.1.2.map Gv))],Af⟩) (Xi (fun p=>s.data.toList.length-p.1.1) (Yi (Xi ⟨(0,[bs []]),Ao _,rfl⟩ ?_) ?_))))
 .exact⟨Z3,Z1,Fh,Tv⟩
 intro⟨⟨i,A⟩,h1,hA⟩;have hA:A=ZF (s.data.toList.take i):=hA;have cA:A.length<=i+1:=by
  grind [TH]
 have ZD:0<A.length:=by
  grind [Ky]
 refine Yi (fun h=>?_) (fun h=>?_)
 .have h:(i:Int)<(s.size:Nat):=h;have h:i<s.data.toList.length:=by omega
  have Mu:(0:Int)<=i/\s.data[((i:Nat):Int).toNat]?=some s.data.toList[i]:=⟨by omega,by grind⟩;have rx:s.data.toList.take (i+1)=s.data.toList.take i++[s.data.toList[i]]:=by grind [List.take_add_one]
  refine Xi s.data.toList[i] (Yi Mu (Yi (fun h2=>?_) (fun h2=>?_)))
  .have h2:s.data.toList[i]=47:=Hr.1 (by grind);have CM:AZ 1 [[vs (bs [])]]/\(A.map Gv).length=A.length/\((A.map Gv).length+[[vs (bs [])]].length)*16<=140737488355328/\(A.map Gv).length+[[vs (bs [])]].length<=9223372036854775807:=
    ⟨⟨rfl,trivial⟩,by grind,by grind,by grind⟩
   refine Yi CM (Xi ⟨[(0,vs s),(3,.msl 5 (A++[bs []]).length),(4,vi i)],[(5,.arr 1 ((A++[bs []]).map Gv))],Af⟩ (Yi ?_ ?_))
   .have e1:AV.msl 5 ((A.map Gv).length+[[vs (bs [])]].length)=.msl 5 (A++[bs []]).length:=by simp
    have e2:HO.arr 1 (A.map Gv++[[vs (bs [])]])=.arr 1 ((A++[bs []]).map Gv):=by grind
    exact⟨⟨Zr,⟨e1,rfl⟩,Zr,Tv⟩,⟨⟨e2,rfl⟩,Tv⟩,Fh,Tv⟩
   refine Yi (by grind [Al]) ?_;have eA:A++[bs []]=ZF (s.data.toList.take (i+1)):=by
    rw[hA,rx,h2];show _=(Ci 47 _).map bs;rw[TJ,AB];rfl
   refine Xi ⟨(i+1,A++[bs []]),by omega,eA⟩ ?_;exact⟨by grind,Z3,Z1,Fh,Tv⟩
  have h2:¬(s.data.toList[i].toNat:Int)=47:=h2;have h2:s.data.toList[i]≠47:=fun e=>h2 (by rw[e];rfl);have qX:Al ((A.length:Int)-1):=by grind [Al]
  have Fp:A.length-1<A.length:=by omega
  have hn:((A.length:Int)-1).toNat=A.length-1:=by omega
  have hg:A[A.length-1]?=some A[A.length-1]:=Ge Fp;have qU:Ew A[A.length-1]:=by
   have gS:∀x∈A,x∈ZF (s.data.toList.take i):=fun x hx=>hA▸hx;obtain⟨y,hy,e⟩:=Ay.1 (gS _ (Ah Fp));have h5:=K3 47 _ y hy;rw[AC]at h5;unfold Ew;rw[<-e,show(bs y).size=y.length from rfl];omega
  have aM:((A[A.length-1].size+(⟨[s.data.toList[i]].toArray⟩:ByteArray).size:Nat):Int)<=9223372036854775807:=by
   unfold Ew at qU
   have:(⟨[s.data.toList[i]].toArray⟩:ByteArray).size=1:=rfl
   omega
  refine Yi qX (Yi qX (Yi (show(0:Int)<=(A.length:Int)-1/\(A.length:Int)-1<(A.length:Int) by omega) (Yi (by grind) ?_)));have sI:(A.map Gv)[((A.length:Int)-1).toNat]?=some (Gv A[A.length-1]):=by rw[hn];grind
  refine Xi (Gv A[A.length-1]) (Yi sI (Xi s.data.toList[i] (Yi Mu (Xi [s.data.toList[i]] (Yi rfl (Yi aM (Yi (show(0:Int)<=(A.length:Int)-1/\(A.length:Int)-1<(A.length:Int) by omega) (Yi (by grind) (Xi (Gv A[A.length-1]) (Yi sI (yN (Yi aa3 (Am (show ∃B,B=A.set (A.length-1) (A[A.length-1]++bs [s.data.toList[i]])from⟨_,rfl⟩) (fun B hB=>?_))))))))))))));have ur:B.length=A.length:=by rw[hB,Hq]
  have e2:HO.arr 1 ((A.map Gv).set ((A.length:Int)-1).toNat [vs (A[A.length-1]++⟨[s.data.toList[i]].toArray⟩)])=.arr 1 (B.map Gv):=by rw[hn,hB,J5];rfl
  refine cU [(0,vs s),(3,.msl 5 B.length),(4,vi i)] [(5,.arr 1 (B.map Gv))] ⟨Zr,⟨Aa (AV.msl 5) ur.symm,rfl⟩,Zr,Tv⟩ ⟨⟨e2,rfl⟩,Tv⟩ (Yi (Ii i aa0) ?_);have eB:B=ZF (s.data.toList.take (i+1)):=by
   rw[rx,hB];subst hA;exact kU h2 hg
  refine Xi ⟨(i+1,B),by omega,eB⟩ ?_;exact⟨by grind,Z3,Z1,Fh,Tv⟩
 .have h:¬(i:Int)<(s.size:Nat):=h;refine Yi (by grind) ?_;exact .of_eq (Aa (sl Gv) (show A=ZF s.data.toList by grind))
theorem Zy{s:List UInt8}{n:Int}(h:Fz s=some n):0<=n:=by
 cases s with
 |nil=>grind [Fz]
 |cons c r=>
  have h:(if c=118 then(if(r.isEmpty||decide (3<r.length)||(decide (1<r.length)&&decide (r.headD 0=48))||!r.all BZ)=true then none else some (Dy r))else none)=some n:=h
  by_cases hc:c=118
  .rw[AE hc]at h
   by_cases hb:(r.isEmpty||decide (3<r.length)||(decide (1<r.length)&&decide (r.headD 0=48))||!r.all BZ)=true
   .grind
   .rw[Aw hb]at h;have ha:r.all BZ=true:=by
     simp_all
    rw[<-DY h]
    suffices hh:∀i,i<=r.length->0<=Dy (r.take i) by
     grind [List.take_length]
    intro i
    induction i with
    |zero=>intro _;exact Cg _
    |succ i ih=>
     grind [IW,Kr]
  simp_all
theorem kT{x:ByteArray}(h:(ZF l)[(ZF l).length-1]?=some x):(Ci 47 l).getLastD []=x.data.toList:=by
 rw[Lm,BX,<-List.getLast?_eq_getElem?]at h;obtain⟨y,hy,e⟩:=CD.1 h;rw[List.getLastD_eq_getLast?,hy,<-e];rfl
theorem tC(hp:Ew p):PC 164 [vs p] (PI (A8 p)):=by
 have FM:p.size=p.data.toList.length:=by simp
 have hc:=ye p hp;unfold Ew at hp;obtain⟨A,hA⟩:∃A,A=ZF p.data.toList:=⟨_,rfl⟩;rw[<-hA]at hc;have uq:A.length=(Ci 47 p.data.toList).length:=by grind
 have cA:=TH 47 p.data.toList;have ZD:0<A.length:=by grind [Ky]
 have vf:∀x∈A,x.data.toList.length<4611686018427387904:=fun x hx=>by
  obtain⟨y,hy,e⟩:=Ay.1 (hA▸hx:x∈ZF p.data.toList);have h5:=K3 47 _ y hy;rw[<-e];show y.length<_;omega
 have Hy:(Ci 47 p.data.toList).all Hh=A.all fun x=>Hh x.data.toList:=by rw[hA,List.all_map];rfl
 have Fp:A.length-1<A.length:=by omega
 have hg:A[A.length-1]?=some A[A.length-1]:=Ge Fp;have Yl:(Ci 47 p.data.toList).getLastD []=A[A.length-1].data.toList:=by
  grind [kT]
 have em:A8 p=match Fz A[A.length-1].data.toList with
  |none=>none
  |some n=>if(decide (64<p.data.toList.length)||decide (A.length<2))=true then none else if(A.all fun x=>Hh x.data.toList)=true then some n else none:=by
  grind [A8,NJ]
 clear Hy Yl
 have hv:=yg A[A.length-1] (vf _ (Ah Fp));obtain⟨o,ho⟩:∃o,o=Fz A[A.length-1].data.toList:=⟨_,rfl⟩;rw[<-ho]at hv em;have hz:∀n,o=some n->0<=n:=fun n e=>by
  rw[e]at ho;exact Zy ho.symm
 refine Ps (Dc [4,9,10]) Tryz.func164 rfl (Nz rfl) (Yi (fun h=>?_) (fun h=>?_))
 .exact .of_eq (Aa PI (show(none:Option Int)=A8 p by grind))
 have d1:decide (64<p.data.toList.length)=false:=AU aa0;refine Xi .pure (Xi _ (Yi (hc) (cU [(4,sl Gv A)] [] Z1 Tv (Xi {i:Nat // i<=A.length/\∀j (hj:j<A.length),j<i->Hh (A[j]).data.toList=true} (Xi (fun i=>⟨[(4,sl Gv A),(5,vi i.1)],[],Af⟩) (Xi (fun i=>A.length-i.1) (Yi (Xi ⟨0,Ao _,fun j _ h=>by omega⟩ ?_) ?_)))))))
 .exact⟨Z2,Tv,Fh,Tv⟩
 intro⟨i,i1,i2⟩;refine Yi (fun h2=>?_) (fun h2=>?_)
 .have h2:i<A.length:=by grind
  have hg:A[i]?=some A[i]:=Ge h2;refine Xi (Gv A[i]) (Yi (Yi aa0 (by grind)) (Yi rfl ?_));have hn:=yf A[i] (vf _ (Ah h2));refine AG (Bt (Hh A[i].data.toList)).symm (fun e1=>?_) (fun e1=>?_)
  .rw[e1]at hn;refine Xi .pure (Xi _ (Yi (hn) ?_));have e2:(A.all fun x=>Hh x.data.toList)=false:=by
    grind
   exact .of_eq (Aa PI (show(none:Option Int)=A8 p by
    grind))
  rw[e1]at hn;refine Xi .pure (Xi _ (Yi (hn) (Yi (by grind [Al]) (Xi ⟨i+1,by omega,fun j hj He=>?_⟩ ?_))))
  .grind
  .exact⟨by grind,Z2,Tv,Fh,Tv⟩
 have h2:¬i<A.length:=by grind
 have e2:(A.all fun x=>Hh x.data.toList)=true:=BI.2 fun x hx=>by
  grind [List.getElem_of_mem]
 have em:A8 p=match(generalizing:=false) o with
  |none=>none
  |some n=>if decide (A.length<2)=true then none else some n:=by
  grind
 refine cU [(4,sl Gv A)] [] Z1 Tv ?_
 have Pf:(((A.map Gv).length:Int)-1).toNat=A.length-1:=by grind
 refine Yi (by grind [Al]) (Xi (Gv A[A.length-1]) (Yi (Yi (by grind) (by rw[Pf];grind)) (Yi rfl ?_)));refine Xi .pure (Xi _ (Yi (hv) ?_));refine Am (show ∃z:Int,Uh o=vi z/\(z<0↔o=none)/\∀n,o=some n->z=n by
  grind) (fun z sQ=>?_)
 refine cU [(4,sl Gv A),(6,vi z)] [] ⟨Zr,⟨sQ.1,rfl⟩,Tv⟩ Tv (Yi (fun h3=>?_) (fun h3=>?_))
 .rw[Lm]at h3;exact .of_eq (Aa PI (show(none:Option Int)=A8 p by grind))
 rw[Lm]at h3;refine Yi (fun h4=>?_) (fun h4=>?_)
 .exact .of_eq (Aa PI (show(none:Option Int)=A8 p by grind))
 refine Am (show ∃n,o=some n by
  grind) (fun n hn=>?_)
 exact .of_eq (show AV.tup [vi z,vi 0]=PI (A8 p) by grind)
theorem x7(hp:Ew p):PC 163 [vs p] (vb (A8 p).isSome):=by
 have hc:=tC p hp;cases h:A8 p with
 |none=>
  rw[h]at hc;refine Ps Cu Tryz.func163 rfl (Nz rfl) (Xi .pure (Xi _ (Yi (hc) (Yi ?_ ?_))))
  .intro h;exact absurd (show(4:Int)=0 from h) aa2
  .intro _;exact .refl _
 |some n=>
  rw[h]at hc;refine Ps Cu Tryz.func163 rfl (Nz rfl) (Xi .pure (Xi _ (Yi (hc) (Yi ?_ ?_))))
  .intro _;exact .refl _
  .intro h;exact absurd rfl h
theorem wC(pl:Int)(hx:BB x)(hv:∀r∈x,Bo r.ver=true):PC 173 [Jx x ifs,vs p,vi pl] (Hf (Dd x p pl)):=by
 unfold BB at hx;refine Ps (Dc [5]) Tryz.func173 rfl (Nz rfl) (Xi {i:Nat // i<=x.length/\∀j (hj:j<x.length),j<i->(decide (x[j].path=p)&&decide (plc x[j].ver=pl))=false} (Xi (fun i=>⟨[(1,vs p),(2,vi pl),(3,.ref 3 0),(6,.ref 6 0),(8,vi i.1)],[(3,.cells (Ic x ifs)),(6,.cells Xn)],Af⟩) (Xi (fun i=>x.length-i.1) (Yi (Xi ⟨0,Ao _,fun j _ h=>by omega⟩ ?_) ?_))))
 .exact⟨Z5,Z2,Fh,Tv⟩
 intro⟨i,h1,h2⟩;refine Yi ?_ ?_
 .intro h;have h:(i:Int)<(x.map Ak).length:=h;have h:i<x.length:=by simp_all
  have hg:x[i]?=some x[i]:=Ge h;refine Xi (Ak x[i]) (Yi (Yi aa0 (by simp_all)) (Yi rfl ?_));have cA:place x[i].ver=plc x[i].ver:=by grind [plc]
  refine Yi (Nz rfl) (yN (cU [(1,vs p),(2,vi pl),(3,.ref 3 0),(6,.ref 6 0),(8,vi i),(9,.ref 9 0)] [(3,.cells (Ic x ifs)),(6,.cells Xn),(9,.cells (Ak x[i]))] Z6 Z3 ?_))
  have next:(decide (x[i].path=p)&&decide (plc x[i].ver=pl))=false->∀j (hj:j<x.length),j<i+1->(decide (x[j].path=p)&&decide (plc x[j].ver=pl))=false:=fun hf j hj He=>by
   grind
  refine Yi ?_ ?_
  .intro hp;have hp:x[i].path=p:=hp;refine yN (Xi .pure (Xi _ (Yi (qz x[i].ver (hv _ (Ah h))) (Yi ?_ ?_))))
   .intro hq;have hq:place x[i].ver=pl:=hq;have hr:Dd x p pl=some x[i]:=Sh h (fun j hj He=>h2 j hj He) (by simp_all);refine Yi (Nz rfl) (Yi (Nz rfl) (yN ?_));exact .of_eq (show AV.tup [.agg (Ak x[i]),vb true]=Hf (Dd x p pl) by rw[hr])
   .intro hq;have hq:¬place x[i].ver=pl:=hq;refine Yi (by grind [Al]) (Xi ⟨i+1,by omega,next (by simp_all)⟩ ?_)
    exact⟨Dl x.length i aa0,Z5,Z2,Fh,Tv⟩
  .intro hp;have hp:¬x[i].path=p:=hp;refine Yi (by grind [Al]) (Xi ⟨i+1,by omega,next (by simp_all)⟩ ?_)
   exact⟨by grind,Z5,Z2,Fh,Tv⟩
 .intro h;have h:¬(i:Int)<(x.map Ak).length:=h;have h:¬i<x.length:=by simp_all
  have hr:Dd x p pl=none:=Px fun j hj=>h2 j hj aa0;refine Yi (Nz rfl) (yN ?_);exact .of_eq (show AV.tup [.agg Xn,vb false]=Hf (Dd x p pl) by rw[hr])
theorem wD(s:List Sl)(hs:BB s):PC 201 [sl Ae s] (vb (Bb s)):=by
 unfold BB at hs;refine Ps Cu Tryz.func201 rfl (Nz rfl) ?_;refine Xi {i:Nat // 1<=i/\(s=[]\/i<=s.length)/\Bb s=(match s[i-1]? with | none=>true | some y=>Lg (some y.path) (s.drop i))} (Xi (fun i=>⟨[(0,sl Ae s),(3,vi i.1)],[],Af⟩) (Xi (fun i=>s.length-i.1) (Yi (Xi ⟨1,Aq _,by grind,by cases s<;>rfl⟩ ?_) ?_)))
 .exact⟨Z2,Tv,Fh,Tv⟩
 intro⟨i,h1,h2,h3⟩;refine Yi ?_ ?_
 .intro h;have h:i<s.length:=by simp_all
  have hg:s[i]?=some s[i]:=Ge h;have h' : i-1<s.length:=by omega
  have nQ : s[i-1]?=some s[i-1]:=Ge h';have e1:((i:Int)-1).toNat=i-1:=by omega
  have pN:Bb s=(G1 s[i-1].path s[i].path&&Lg (some s[i].path) (s.drop (i+1))):=by
   grind [SK]
  refine Xi (Ae s[i]) (Yi (Yi aa0 (by simp_all)) (Yi rfl ?_));refine Yi (by grind [Al]) (Xi (Ae s[i-1]) (Yi (Yi (by grind) (by simp_all)) (Yi rfl ?_)));refine Yi ?_ ?_
  .intro h4;rw[<-Ed]at h4;refine Yi aa3 ?_;exact .of_eq (Aa vb (show false=Bb s by simp_all))
  .intro h4;rw[<-Ed,Bool.not_eq_false]at h4;refine Yi aa3 (Yi (by grind [Al]) (Xi ⟨i+1,by omega,.inr aa0,by simp_all⟩ ?_));exact⟨Dl s.length i aa0,Z2,Tv,Fh,Tv⟩
 .intro h;have h:¬i<s.length:=by simp_all
  have jU:Bb s=true:=by
   rcases h2 with h2 | h2
   .grind
   .have e:i=s.length:=by omega
    rw[h3,e,List.drop_length];cases s[s.length-1]?<;>rfl
  exact .of_eq (Aa vb jU.symm)
abbrev Q3(s:List Sl):Bool:=s.any fun y=>decide (y.path=q.path)&&has q.set (place y.ver)
theorem c92(s:List Sl)(hq:BB q.set)(hs:BB s)(hv:∀y∈s,Bo y.ver=true):PC 203 [.agg (Ad q),sl Ae s] (vb (Q3 q s)):=by
 unfold BB at hs;refine Ps Cu Tryz.func203 rfl (Nz rfl) (Xi {i:Nat // i<=s.length/\∀j (hj:j<s.length),j<i->(decide (s[j].path=q.path)&&has q.set (place s[j].ver))=false} (Xi (fun i=>⟨[(1,sl Ae s),(2,.ref 2 0),(5,vi i.1)],[(2,.cells (Ad q))],Af⟩) (Xi (fun i=>s.length-i.1) (Yi (Xi ⟨0,Ao _,fun j _ h=>by omega⟩ ?_) ?_))))
 .exact⟨Z3,Z1,Fh,Tv⟩
 intro⟨i,h1,h2⟩;refine Yi ?_ ?_
 .intro h;have h:(i:Int)<(s.map Ae).length:=h;have h:i<s.length:=by simp_all
  have hg:s[i]?=some s[i]:=Ge h;have next:(decide (s[i].path=q.path)&&has q.set (place s[i].ver))=false->∀j (hj:j<s.length),j<i+1->(decide (s[j].path=q.path)&&has q.set (place s[j].ver))=false:=fun hf j hj He=>by
   grind
  have hc:=dN q.set (place s[i].ver) hq;refine Xi (Ae s[i]) (Yi (Yi aa0 (by simp_all)) (Yi rfl ?_));refine Yi ?_ ?_
  .intro hp;have hp:s[i].path=q.path:=hp;refine Xi (Ae s[i]) (Yi (Yi aa0 (by simp_all)) (Yi rfl ?_));refine yN (Xi _ (Yi (qz s[i].ver (hv _ (Ah h))) (AG (Bt (has q.set (place s[i].ver))) (fun e=>?_) (fun e=>?_))))
   .rw[e]at hc;refine Xi _ (Yi (hc) (Yi aa3 ?_));exact .of_eq (Aa vb (show true=Q3 q s from(BQ.2 ⟨s[i],Ah h,by simp_all⟩).symm))
   .rw[e]at hc;refine Xi _ (Yi (hc) (Yi aa3 (Yi (by grind [Al]) (Xi ⟨i+1,by omega,next (by simp_all)⟩ ?_))))
    exact⟨by grind,Z3,Z1,Fh,Tv⟩
  .intro hp;have hp:¬s[i].path=q.path:=hp;refine Yi aa3 (Yi (by grind [Al]) (Xi ⟨i+1,by omega,next (by simp_all)⟩ ?_))
   exact⟨by grind,Z3,Z1,Fh,Tv⟩
 .intro h;have h:¬(i:Int)<(s.map Ae).length:=h;have h:¬i<s.length:=by simp_all
  have e:Q3 q s=false:=by
   grind [List.getElem_of_mem]
  exact .of_eq (Aa vb e.symm)
end Go.Eng
