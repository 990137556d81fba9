/- Lemmas 31. -/
import Derived.Test.YtpgfieopnnkpfaaGreatDoorQA30
set_option maxHeartbeats 4000000
namespace Go.Eng
open Go.Proofs
variable (d:List (List Tm))(sel:List Sl)(x:List Rl)(skips:List Sk)(ifs:List (List AV))(p:ByteArray)(roots:List Rq)(O:List ByteArray)(a:An)(j k:Nat)
abbrev N7:AV:=.tup [sl Ag (TT x roots a).1,vi (TT x roots a).2]
theorem ib{x:List Rl}{roots:List Rq}{a:An}{e:Int}(h:TT x roots a=([],e)):DC (.tup [nzA,vi e]) (N7 x roots a):=
 (show DC (.tup [nzA,vi e]) (.tup [.slice .none [],vi e])from DC.tup ⟨.nil,.refl _,trivial⟩).trans (.of_eq (show AV.tup [.slice .none [],vi e]=N7 x roots a by unfold N7;rw[h];rfl))
def HW:List ByteArray:=(O.take j).flatMap (QG d sel skips)
def Il:List ByteArray:=((skips.take k).filter fun s=>decide (s.path=p)).map (QN d)
def NU:List ByteArray:=((sel.take k).filter fun s=>decide (s.path=p)).map Zj
theorem Zm(h:k<skips.length):Il d skips p (k+1)=if skips[k].path=p then Il d skips p k++[QN d skips[k]]else Il d skips p k:=by
 unfold Il;rw[A6 h,CG,AB]
 by_cases e:skips[k].path=p
 .rw[AE e,Jy (by simp[e])];rfl
 .rw[Aw e,GT (by simp[e]),MR,Fx,BC]
theorem Zo(h:k<sel.length):NU sel p (k+1)=if sel[k].path=p then NU sel p k++[Zj sel[k]]else NU sel p k:=by
 unfold NU;rw[A6 h,CG,AB]
 by_cases e:sel[k].path=p
 .rw[AE e,Jy (by simp[e])];rfl
 .rw[Aw e,GT (by simp[e]),MR,Fx,BC]
theorem ja(h:j<O.length):HW d sel skips O (j+1)=HW d sel skips O j++Il d skips O[j] skips.length++NU sel O[j] sel.length:=by
 unfold HW Il NU;rw[A6 h,List.flatMap_append,Ec,Ec];show _++(QG d sel skips O[j]++[])=_;unfold QG;rw[BC,CQ]
theorem db:(Il d skips p k).length<=k:=by
 unfold Il;rw[Lm];have h1:=Ca (fun s:Sk=>decide (s.path=p)) (skips.take k);rw[AC]at h1;omega
theorem o0:(NU sel p k).length<=k:=by
 unfold NU;rw[Lm];have h1:=Ca (fun s:Sl=>decide (s.path=p)) (sel.take k);rw[AC]at h1;omega
theorem ns:∀j,(HW d sel skips O j).length<=j*(skips.length+sel.length):=fun j=>by
 unfold HW;have h1:∀L:List ByteArray,(L.flatMap (QG d sel skips)).length<=L.length*(skips.length+sel.length):=fun L=>by
  induction L with
  |nil=>simp
  |cons p L ih=>
   rw[List.flatMap_cons,As,Av];have h2:(QG d sel skips p).length<=skips.length+sel.length:=by
    unfold QG;rw[As,Lm,Lm]
    have:=Ca (fun s:Sk=>decide (s.path=p)) skips
    have:=Ca (fun s:Sl=>decide (s.path=p)) sel
    omega
   rw[Nat.succ_mul];omega
 have h3:=h1 (O.take j);have h4:(O.take j).length*(skips.length+sel.length)<=j*(skips.length+sel.length):=FP (by rw[AC];omega) (Aq _);omega
theorem oT{x:List Rl}{roots:List Rq}{a:An}(h:CW x roots a=0)(hf:a.found=true):∀y∈a.sel,Bo y.ver=true:=by
 obtain⟨_,h1 | ⟨_,⟨l,hR⟩,_,_⟩⟩:=Ms h
 .rw[hf]at h1;exact absurd h1.1 aa2
 .intro y hy;obtain⟨_,_,e3⟩:=Gj hR.sol0.sel;obtain⟨r,_,hr⟩:=e3 y hy;have q:=Cs hr;rw[<-q.2.2];exact((D0 hR.sol0.ix).1 r q.2.1).val
theorem fZ{v:Ver}(h:Bo v=true):0<=place v/\place v<1000000:=by have:=Fg h;unfold place;omega
theorem nr{x:List Rl}{roots:List Rq}(h:(FJ x 16&&D6 roots)=true):roots.length<=1000000:=AL (UG h) aa2
theorem e34(L:Xr x roots)(hx:(FJ x 16&&D6 roots)=true)(Xj:QO a=true)(hP:I2 x roots a.infs):PC 34 [.agg (Ic x ifs),sl Ad roots,.agg [vb a.found,sl Ae a.sel,sl Aj a.infs,sl A1 a.skips]] (N7 x roots a):=by
 have ZC:(a.infs.map Aj).length=a.infs.length:=Lm _;obtain⟨SB,QZ,hs3⟩:=I1 Xj;obtain⟨ck,Wu⟩:∃c,c=CW x roots a:=⟨_,rfl⟩;have GH:roots.length<=1000000:=nr hx;have k79:=c22 x ifs roots a L.x L.ix L.rq GH aa0 aa0;rw[<-Wu]at k79;have vK:=e25 x ifs roots a.infs ((a.infs.length:Int)-1) L (by unfold BB;omega) (by unfold Al;omega) hP;have vK:PC 25 [Jx x ifs,sl Ad roots,sl Aj a.infs,vi (((a.infs.map Aj).length:Int)-1)] (YH x roots a.infs ((a.infs.length:Int)-1)):=by rw[Lm];exact vK
 unfold YH at vK;obtain⟨LL,uu⟩:∃l,l=(HC x roots a.infs ((a.infs.length:Int)-1)).1:=⟨_,rfl⟩;obtain⟨le,HB⟩:∃l,l=(HC x roots a.infs ((a.infs.length:Int)-1)).2:=⟨_,rfl⟩;rw[<-uu,<-HB]at vK;have rD:=tp x ifs roots a.infs L.x L.rq;unfold dZ at rD;obtain⟨d,hd⟩:∃d,d=(Ax x roots a.infs).1:=⟨_,rfl⟩;obtain⟨de,zF⟩:∃d,d=(Ax x roots a.infs).2:=⟨_,rfl⟩;rw[<-hd,<-zF]at rD;have k80:PC 80 [Jx x ifs,sl Ad roots,sl Ae a.sel] (.tup [sl Ag (Bw x roots a.sel).1,vi (Bw x roots a.sel).2]):=c19 x ifs roots a.sel L.x L.ix L.rq GH aa0;obtain⟨O,hO⟩:∃d,d=(Bw x roots a.sel).1:=⟨_,rfl⟩;obtain⟨oe,hoe⟩:∃d,d=(Bw x roots a.sel).2:=⟨_,rfl⟩;rw[<-hO,<-hoe]at k80;refine Ps (pC [3,5] [2,5,6,7,8,14,16,20,22]) Tryz.func34 rfl (Nz rfl) (yN (yN (Xi .pure (Xi _ (Yi k79 (cU [(1,sl Ad roots),(3,.ref 3 0),(5,.ref 5 0),(8,vi ck)] [(3,.ro (Ic x ifs)),(5,.ro [vb a.found,sl Ae a.sel,sl Aj a.infs,sl A1 a.skips])] Z4 Z2 (Yi (fun h1=>?_) (fun h1=>?_))))))))
 .have h1:(ck:Int)≠(0:Int):=h1;exact ib (by unfold TT Rz;rw[AE (by rw[<-Wu];exact h1),<-Wu])
 have h1:(ck:Int)=(0:Int):=AQ h1;have M8:CW x roots a=0:=by rw[<-Wu];exact h1
 refine Yi (fun h3=>?_) (fun h3=>?_)
 .have h3:a.found=true:=h3;have gR:a.found=true:=h3;obtain⟨aF,vC,he0,nW⟩:=Um M8 gR;rw[<-hd]at vC;have wX:=oT M8 gR;have rf:∀p∈O,H8 p/\∃y,A3 a.sel p=some y:=fun p hp=>by
   rw[hO]at hp;obtain⟨h1,h2⟩:=nW p hp;exact⟨hP p (by unfold Fk;exact Bh _ h1),h2⟩
  have uV:∀t∈d,Np t:=by rw[hd];exact JE hP aF
  have hOl:O.length<=16:=by rw[hO,(Zs M8 gR).2.2.1];exact SB
  refine cU [(1,sl Ad roots),(3,.ref 3 0),(5,.ref 5 0)] [(3,.ro (Ic x ifs)),(5,.ro [vb a.found,sl Ae a.sel,sl Aj a.infs,sl A1 a.skips])] Z3 Z2 (yN (Xi .pure (Xi _ (Yi rD (cU [(1,sl Ad roots),(3,.ref 3 0),(5,.ref 5 0),(9,sl Ap d)] [(3,.ro (Ic x ifs)),(5,.ro [vb a.found,sl Ae a.sel,sl Aj a.infs,sl A1 a.skips])] Z4 Z2 (yN (Xi .pure (Xi _ (Yi k80 (cU [(5,.ref 5 0),(9,sl Ap d),(11,sl Ag O)] [(5,.ro [vb a.found,sl Ae a.sel,sl Aj a.infs,sl A1 a.skips])] Z3 Z1 (Xi {j:Nat // j<=O.length} (Xi (fun q=>⟨[(5,.ref 5 0),(9,sl Ap d),(11,sl Ag O),(13,.slice (.id 56 1) ((HW d a.sel a.skips O q.1).map Ag)),(14,vi q.1)],[(5,.ro [vb a.found,sl Ae a.sel,sl Aj a.infs,sl A1 a.skips]),(56,.tok 1 (HW d a.sel a.skips O q.1).length)],Af⟩) (Xi (fun q=>O.length-q.1) (Yi (Xi ⟨0,Ao _⟩ ?_) ?_))))))))))))))
  .exact⟨Z5,Z2,Fh,Tv⟩
  intro⟨j,j1⟩;have j1:j<=O.length:=j1;have hfl:=ns d a.sel a.skips O j;have zK:j*(a.skips.length+a.sel.length)<=16*116:=FP aa0 aa0;refine Yi (fun h4=>?_) (fun h4=>?_)
  .have h4:(j:Int)<((O.map Ag).length:Int):=h4;have n4:=T8 h4;have wN:=rf O[j] (Ah n4);have sE:H8 O[j]:=wN.1;refine Xi {k:Nat // k<=a.skips.length} (Xi (fun q=>⟨[(5,.ref 5 0),(9,sl Ap d),(11,sl Ag O),(13,.slice (.id 56 1) ((HW d a.sel a.skips O j++Il d a.skips O[j] q.1).map Ag)),(14,vi j),(15,vi q.1)],[(5,.ro [vb a.found,sl Ae a.sel,sl Aj a.infs,sl A1 a.skips]),(56,.tok 1 (HW d a.sel a.skips O j++Il d a.skips O[j] q.1).length)],Af⟩) (Xi (fun q=>a.skips.length-q.1) (Yi (Xi ⟨0,Ao _⟩ ?_) ?_)))
   .exact⟨⟨Zr,Zr,Zr,⟨(Aa (fun E:List ByteArray=>AV.slice (.id 56 1) (E.map Ag)) (show(HW d a.sel a.skips O j)=HW d a.sel a.skips O j++Il d a.skips O[j] 0 by rw[show Il d a.skips O[j] 0=[]from rfl,BC])),rfl⟩,Zr,Zr,Tv⟩,⟨Zr,⟨(Aa (fun E:List ByteArray=>HO.tok 1 E.length) (show(HW d a.sel a.skips O j)=HW d a.sel a.skips O j++Il d a.skips O[j] 0 by rw[show Il d a.skips O[j] 0=[]from rfl,BC])),rfl⟩,Tv⟩,Fh,Tv⟩
   intro⟨k,k1⟩;have k1:k<=a.skips.length:=k1;have cB:=db d a.skips O[j] k;have TZ:(HW d a.sel a.skips O j++Il d a.skips O[j] k).length<=4000:=by rw[As];omega
   refine Yi (fun h5=>?_) (fun h5=>?_)
   .have h5:(k:Int)<((a.skips.map A1).length:Int):=h5;have n5:=T8 h5;obtain⟨cA,tt,pO⟩:=vC a.skips[k] (Ah n5);have Pf:=YX pO;have ue:d[a.skips[k].inf.toNat]?=some (d.getD a.skips[k].inf.toNat []):=by rw[Bq,Pf.2];rfl
    have SD:Np (d.getD a.skips[k].inf.toNat []):=uV _ (AO ue);have hz1:=IP SD;have sQ:=Ht a.skips[k].path a.skips[k].place;refine Xi (A1 a.skips[k]) (Yi (WE n5) (Yi rfl (yN (yN (cU [(5,.ref 5 0),(9,sl Ap d),(11,sl Ag O),(13,.slice (.id 56 1) ((HW d a.sel a.skips O j++Il d a.skips O[j] k).map Ag)),(14,vi j),(15,vi k),(16,.ref 16 0)] [(5,.ro [vb a.found,sl Ae a.sel,sl Aj a.infs,sl A1 a.skips]),(16,.cells (A1 a.skips[k])),(56,.tok 1 (HW d a.sel a.skips O j++Il d a.skips O[j] k).length)] Z7 Z3 (Xi (Ag O[j]) (Yi (WE n4) (Yi rfl (Yi (fun h6=>?_) (fun h6=>?_))))))))))
    .have h6:(a.skips[k].path:ByteArray)=O[j]:=h6;have ZD:H8 a.skips[k].path:=h6.symm▸sE;have hpz:a.skips[k].path.size<=1048576:=ZD;refine Yi aa3 (Yi (show(((⟨#[115,107,105,112,32]⟩:ByteArray).size+(a.skips[k].path:ByteArray).size:Nat):Int)<=9223372036854775807 by(try simp only[AY]);have q1:(⟨#[32]⟩:ByteArray).size=1:=rfl;have q2:(⟨#[58,32]⟩:ByteArray).size=2:=rfl;have q3:(⟨#[115,107,105,112,32]⟩:ByteArray).size=5:=rfl;have q4:(⟨#[115,101,108,101,99,116,32]⟩:ByteArray).size=7:=rfl;omega) ?_)
     refine Yi (show(((⟨#[115,107,105,112,32]⟩++a.skips[k].path:ByteArray).size+(⟨#[32]⟩:ByteArray).size:Nat):Int)<=9223372036854775807 by(try simp only[AY]);have q1:(⟨#[32]⟩:ByteArray).size=1:=rfl;have q2:(⟨#[58,32]⟩:ByteArray).size=2:=rfl;have q3:(⟨#[115,107,105,112,32]⟩:ByteArray).size=5:=rfl;have q4:(⟨#[115,101,108,101,99,116,32]⟩:ByteArray).size=7:=rfl;omega) ?_
     refine Xi _ (Yi (yW a.skips[k].path a.skips[k].place ZD.s aa0) (Yi (show((((⟨#[115,107,105,112,32]⟩++a.skips[k].path)++⟨#[32]⟩:ByteArray).size+((XF a.skips[k].path a.skips[k].place):ByteArray).size:Nat):Int)<=9223372036854775807 by(try simp only[AY]);have q1:(⟨#[32]⟩:ByteArray).size=1:=rfl;have q2:(⟨#[58,32]⟩:ByteArray).size=2:=rfl;have q3:(⟨#[115,107,105,112,32]⟩:ByteArray).size=5:=rfl;have q4:(⟨#[115,101,108,101,99,116,32]⟩:ByteArray).size=7:=rfl;omega) ?_))
     refine Yi (show(((((⟨#[115,107,105,112,32]⟩++a.skips[k].path)++⟨#[32]⟩)++(XF a.skips[k].path a.skips[k].place):ByteArray).size+(⟨#[58,32]⟩:ByteArray).size:Nat):Int)<=9223372036854775807 by(try simp only[AY]);have q1:(⟨#[32]⟩:ByteArray).size=1:=rfl;have q2:(⟨#[58,32]⟩:ByteArray).size=2:=rfl;have q3:(⟨#[115,107,105,112,32]⟩:ByteArray).size=5:=rfl;have q4:(⟨#[115,101,108,101,99,116,32]⟩:ByteArray).size=7:=rfl;omega) ?_
     refine Xi (Ap (d.getD a.skips[k].inf.toNat [])) (Yi (Yi Pf.1 (AM ue)) (Yi rfl (Xi _ (Yi (e16 (d.getD a.skips[k].inf.toNat []) SD.len SD.few SD.path) (Yi (show((((((⟨#[115,107,105,112,32]⟩++a.skips[k].path)++⟨#[32]⟩)++(XF a.skips[k].path a.skips[k].place))++⟨#[58,32]⟩:ByteArray).size+((BD (d.getD a.skips[k].inf.toNat [])):ByteArray).size:Nat):Int)<=9223372036854775807 by(try simp only[AY]);have q1:(⟨#[32]⟩:ByteArray).size=1:=rfl;have q2:(⟨#[58,32]⟩:ByteArray).size=2:=rfl;have q3:(⟨#[115,107,105,112,32]⟩:ByteArray).size=5:=rfl;have q4:(⟨#[115,101,108,101,99,116,32]⟩:ByteArray).size=7:=rfl;omega) ?_)))))
     refine Yi (xm rfl aa0 aa2) (Yi aa3 (cU [(5,.ref 5 0),(9,sl Ap d),(11,sl Ag O),(13,.slice (.id 56 1) (((HW d a.sel a.skips O j++Il d a.skips O[j] k).map Ag)++[[vs (((((⟨#[115,107,105,112,32]⟩++a.skips[k].path)++⟨#[32]⟩)++(XF a.skips[k].path a.skips[k].place))++⟨#[58,32]⟩)++(BD (d.getD a.skips[k].inf.toNat [])))]])),(14,vi j),(15,vi k)] [(5,.ro [vb a.found,sl Ae a.sel,sl Aj a.infs,sl A1 a.skips]),(56,.tok 1 (((HW d a.sel a.skips O j++Il d a.skips O[j] k).map Ag).length+([[vs (((((⟨#[115,107,105,112,32]⟩++a.skips[k].path)++⟨#[32]⟩)++(XF a.skips[k].path a.skips[k].place))++⟨#[58,32]⟩)++(BD (d.getD a.skips[k].inf.toNat [])))]]:List (List AV)).length))] Z6 Z2 (Yi (Ii k aa0) ?_)));have Rd:=Zm d a.skips O[j] k n5;rw[AE h6]at Rd;refine Xi ⟨k+1,by omega⟩ ?_;exact⟨Dl a.skips.length k aa0,⟨Zr,Zr,Zr,⟨(Aa (AV.slice (.id 56 1)) (show(HW d a.sel a.skips O j++Il d a.skips O[j] k).map Ag++[[vs (QN d a.skips[k])]]=(HW d a.sel a.skips O j++Il d a.skips O[j] (k+1)).map Ag by rw[Rd,<-CQ];exact(AB (f:=Ag) (l₁:=(HW d a.sel a.skips O j++Il d a.skips O[j] k)) (l₂:=[QN d a.skips[k]])).symm)),rfl⟩,Zr,Zr,Tv⟩,⟨Zr,⟨(Aa (HO.tok 1) (show((HW d a.sel a.skips O j++Il d a.skips O[j] k).map Ag).length+([[vs (QN d a.skips[k])]]:List (List AV)).length=(HW d a.sel a.skips O j++Il d a.skips O[j] (k+1)).length by rw[Rd,<-CQ];simp only[Lm,As,Av,AA])),rfl⟩,Tv⟩,Fh,Tv⟩
    have h6:¬(a.skips[k].path:ByteArray)=O[j]:=h6;refine Yi aa3 (cU [(5,.ref 5 0),(9,sl Ap d),(11,sl Ag O),(13,.slice (.id 56 1) ((HW d a.sel a.skips O j++Il d a.skips O[j] k).map Ag)),(14,vi j),(15,vi k)] [(5,.ro [vb a.found,sl Ae a.sel,sl Aj a.infs,sl A1 a.skips]),(56,.tok 1 (HW d a.sel a.skips O j++Il d a.skips O[j] k).length)] Z6 Z2 (Yi (Ii k aa0) ?_));have Rd:=Zm d a.skips O[j] k n5;rw[Aw h6]at Rd;refine Xi ⟨k+1,by omega⟩ ?_;exact⟨Dl a.skips.length k aa0,⟨Zr,Zr,Zr,⟨(Aa (fun E:List ByteArray=>AV.slice (.id 56 1) (E.map Ag)) (show(HW d a.sel a.skips O j++Il d a.skips O[j] k)=(HW d a.sel a.skips O j++Il d a.skips O[j] (k+1)) by rw[Rd])),rfl⟩,Zr,Zr,Tv⟩,⟨Zr,⟨(Aa (fun E:List ByteArray=>HO.tok 1 E.length) (show(HW d a.sel a.skips O j++Il d a.skips O[j] k)=(HW d a.sel a.skips O j++Il d a.skips O[j] (k+1)) by rw[Rd])),rfl⟩,Tv⟩,Fh,Tv⟩
   have h5:¬((k:Int)<((a.skips.map A1).length:Int)):=h5;have n5:=T7 h5;refine Xi {i:Nat // i<=a.sel.length} (Xi (fun q=>⟨[(5,.ref 5 0),(9,sl Ap d),(11,sl Ag O),(13,.slice (.id 56 1) ((HW d a.sel a.skips O j++Il d a.skips O[j] a.skips.length++NU a.sel O[j] q.1).map Ag)),(14,vi j),(17,vi q.1)],[(5,.ro [vb a.found,sl Ae a.sel,sl Aj a.infs,sl A1 a.skips]),(56,.tok 1 (HW d a.sel a.skips O j++Il d a.skips O[j] a.skips.length++NU a.sel O[j] q.1).length)],Af⟩) (Xi (fun q=>a.sel.length-q.1) (Yi (Xi ⟨0,Ao _⟩ ?_) ?_)))
   .exact⟨⟨Zr,Zr,Zr,⟨(Aa (fun E:List ByteArray=>AV.slice (.id 56 1) (E.map Ag)) (show(HW d a.sel a.skips O j++Il d a.skips O[j] k)=HW d a.sel a.skips O j++Il d a.skips O[j] a.skips.length++NU a.sel O[j] 0 by rw[show NU a.sel O[j] 0=[]from rfl,BC,show k=a.skips.length by omega])),rfl⟩,Zr,Zr,Tv⟩,⟨Zr,⟨(Aa (fun E:List ByteArray=>HO.tok 1 E.length) (show(HW d a.sel a.skips O j++Il d a.skips O[j] k)=HW d a.sel a.skips O j++Il d a.skips O[j] a.skips.length++NU a.sel O[j] 0 by rw[show NU a.sel O[j] 0=[]from rfl,BC,show k=a.skips.length by omega])),rfl⟩,Tv⟩,Fh,Tv⟩
   intro⟨i,i1⟩;have i1:i<=a.sel.length:=i1;have Afw:=db d a.skips O[j] a.skips.length;have Afx:=o0 a.sel O[j] i;have TZ:(HW d a.sel a.skips O j++Il d a.skips O[j] a.skips.length++NU a.sel O[j] i).length<=4000:=by rw[As,As];omega
   refine Yi (fun I8=>?_) (fun I8=>?_)
   .have I8:(i:Int)<((a.sel.map Ae).length:Int):=I8;have n10:=T8 I8;have Lr:=wX a.sel[i] (Ah n10);have sQ:=Ht a.sel[i].path (place a.sel[i].ver);have hpv:=fZ Lr;refine Xi (Ae a.sel[i]) (Yi (WE n10) (Yi rfl (yN (yN (cU [(5,.ref 5 0),(9,sl Ap d),(11,sl Ag O),(13,.slice (.id 56 1) ((HW d a.sel a.skips O j++Il d a.skips O[j] a.skips.length++NU a.sel O[j] i).map Ag)),(14,vi j),(17,vi i),(18,.ref 18 0)] [(5,.ro [vb a.found,sl Ae a.sel,sl Aj a.infs,sl A1 a.skips]),(18,.cells (Ae a.sel[i])),(56,.tok 1 (HW d a.sel a.skips O j++Il d a.skips O[j] a.skips.length++NU a.sel O[j] i).length)] Z7 Z3 (Xi (Ag O[j]) (Yi (WE n4) (Yi rfl (Yi (fun Hd=>?_) (fun Hd=>?_))))))))))
    .have Hd:(a.sel[i].path:ByteArray)=O[j]:=Hd;have ZD:H8 a.sel[i].path:=Hd.symm▸sE;have hpz:a.sel[i].path.size<=1048576:=ZD;refine Yi aa3 (Yi (show(((⟨#[115,101,108,101,99,116,32]⟩:ByteArray).size+(a.sel[i].path:ByteArray).size:Nat):Int)<=9223372036854775807 by(try simp only[AY]);have q1:(⟨#[32]⟩:ByteArray).size=1:=rfl;have q2:(⟨#[58,32]⟩:ByteArray).size=2:=rfl;have q3:(⟨#[115,107,105,112,32]⟩:ByteArray).size=5:=rfl;have q4:(⟨#[115,101,108,101,99,116,32]⟩:ByteArray).size=7:=rfl;omega) ?_)
     refine Yi (show(((⟨#[115,101,108,101,99,116,32]⟩++a.sel[i].path:ByteArray).size+(⟨#[32]⟩:ByteArray).size:Nat):Int)<=9223372036854775807 by(try simp only[AY]);have q1:(⟨#[32]⟩:ByteArray).size=1:=rfl;have q2:(⟨#[58,32]⟩:ByteArray).size=2:=rfl;have q3:(⟨#[115,107,105,112,32]⟩:ByteArray).size=5:=rfl;have q4:(⟨#[115,101,108,101,99,116,32]⟩:ByteArray).size=7:=rfl;omega) ?_
     refine yN (Xi _ (Yi (qz a.sel[i].ver Lr) (Xi _ (Yi (yW a.sel[i].path (place a.sel[i].ver) ZD.s aa0) (Yi (show((((⟨#[115,101,108,101,99,116,32]⟩++a.sel[i].path)++⟨#[32]⟩:ByteArray).size+((XF a.sel[i].path (place a.sel[i].ver)):ByteArray).size:Nat):Int)<=9223372036854775807 by(try simp only[AY]);have q1:(⟨#[32]⟩:ByteArray).size=1:=rfl;have q2:(⟨#[58,32]⟩:ByteArray).size=2:=rfl;have q3:(⟨#[115,107,105,112,32]⟩:ByteArray).size=5:=rfl;have q4:(⟨#[115,101,108,101,99,116,32]⟩:ByteArray).size=7:=rfl;omega) ?_)))))
     refine Yi (xm rfl aa0 aa2) (Yi aa3 (cU [(5,.ref 5 0),(9,sl Ap d),(11,sl Ag O),(13,.slice (.id 56 1) (((HW d a.sel a.skips O j++Il d a.skips O[j] a.skips.length++NU a.sel O[j] i).map Ag)++[[vs (((⟨#[115,101,108,101,99,116,32]⟩++a.sel[i].path)++⟨#[32]⟩)++(XF a.sel[i].path (place a.sel[i].ver)))]])),(14,vi j),(17,vi i)] [(5,.ro [vb a.found,sl Ae a.sel,sl Aj a.infs,sl A1 a.skips]),(56,.tok 1 (((HW d a.sel a.skips O j++Il d a.skips O[j] a.skips.length++NU a.sel O[j] i).map Ag).length+([[vs (((⟨#[115,101,108,101,99,116,32]⟩++a.sel[i].path)++⟨#[32]⟩)++(XF a.sel[i].path (place a.sel[i].ver)))]]:List (List AV)).length))] Z6 Z2 (Yi (Ii i aa0) ?_)));have Rd:=Zo a.sel O[j] i n10;rw[AE Hd]at Rd;refine Xi ⟨i+1,by omega⟩ ?_;exact⟨Dl a.sel.length i aa0,⟨Zr,Zr,Zr,⟨(Aa (AV.slice (.id 56 1)) (show(HW d a.sel a.skips O j++Il d a.skips O[j] a.skips.length++NU a.sel O[j] i).map Ag++[[vs (Zj a.sel[i])]]=(HW d a.sel a.skips O j++Il d a.skips O[j] a.skips.length++NU a.sel O[j] (i+1)).map Ag by rw[Rd,<-CQ];exact(AB (f:=Ag) (l₁:=(HW d a.sel a.skips O j++Il d a.skips O[j] a.skips.length++NU a.sel O[j] i)) (l₂:=[Zj a.sel[i]])).symm)),rfl⟩,Zr,Zr,Tv⟩,⟨Zr,⟨(Aa (HO.tok 1) (show((HW d a.sel a.skips O j++Il d a.skips O[j] a.skips.length++NU a.sel O[j] i).map Ag).length+([[vs (Zj a.sel[i])]]:List (List AV)).length=(HW d a.sel a.skips O j++Il d a.skips O[j] a.skips.length++NU a.sel O[j] (i+1)).length by rw[Rd,<-CQ];simp only[Lm,As,Av,AA])),rfl⟩,Tv⟩,Fh,Tv⟩
    have Hd:¬(a.sel[i].path:ByteArray)=O[j]:=Hd;refine Yi aa3 (cU [(5,.ref 5 0),(9,sl Ap d),(11,sl Ag O),(13,.slice (.id 56 1) ((HW d a.sel a.skips O j++Il d a.skips O[j] a.skips.length++NU a.sel O[j] i).map Ag)),(14,vi j),(17,vi i)] [(5,.ro [vb a.found,sl Ae a.sel,sl Aj a.infs,sl A1 a.skips]),(56,.tok 1 (HW d a.sel a.skips O j++Il d a.skips O[j] a.skips.length++NU a.sel O[j] i).length)] Z6 Z2 (Yi (Ii i aa0) ?_));have Rd:=Zo a.sel O[j] i n10;rw[Aw Hd]at Rd;refine Xi ⟨i+1,by omega⟩ ?_;exact⟨Dl a.sel.length i aa0,⟨Zr,Zr,Zr,⟨(Aa (fun E:List ByteArray=>AV.slice (.id 56 1) (E.map Ag)) (show(HW d a.sel a.skips O j++Il d a.skips O[j] a.skips.length++NU a.sel O[j] i)=(HW d a.sel a.skips O j++Il d a.skips O[j] a.skips.length++NU a.sel O[j] (i+1)) by rw[Rd])),rfl⟩,Zr,Zr,Tv⟩,⟨Zr,⟨(Aa (fun E:List ByteArray=>HO.tok 1 E.length) (show(HW d a.sel a.skips O j++Il d a.skips O[j] a.skips.length++NU a.sel O[j] i)=(HW d a.sel a.skips O j++Il d a.skips O[j] a.skips.length++NU a.sel O[j] (i+1)) by rw[Rd])),rfl⟩,Tv⟩,Fh,Tv⟩
   have I8:¬((i:Int)<((a.sel.map Ae).length:Int)):=I8;have n10:=T7 I8;refine Yi (Ii j aa0) ?_;have hii:i=a.sel.length:=by omega
   have sG:(HW d a.sel a.skips O j++Il d a.skips O[j] a.skips.length++NU a.sel O[j] i)=HW d a.sel a.skips O (j+1):=by rw[hii,ja d a.sel a.skips O j n4]
   refine Xi ⟨j+1,by omega⟩ ?_;exact⟨Dl O.length j aa0,⟨Zr,Zr,Zr,⟨(Aa (fun E:List ByteArray=>AV.slice (.id 56 1) (E.map Ag)) sG),rfl⟩,Zr,Tv⟩,⟨Zr,⟨(Aa (fun E:List ByteArray=>HO.tok 1 E.length) sG),rfl⟩,Tv⟩,Fh,Tv⟩
  have h4:¬((j:Int)<((O.map Ag).length:Int)):=h4;have n4:=T7 h4;exact .of_eq (show AV.tup [sl Ag (HW d a.sel a.skips O j),vi 0]=N7 x roots a by unfold N7 TT Rz HW;rw[Aw (fun h=>h M8),Aw (by rw[gR];decide),<-hd,<-hO,AK aa0])
 have h3:a.found=false:=h3;refine cU [(1,sl Ad roots),(3,.ref 3 0),(5,.ref 5 0)] [(3,.ro (Ic x ifs)),(5,.ro [vb a.found,sl Ae a.sel,sl Aj a.infs,sl A1 a.skips])] Z3 Z2 (yN (Yi (by show Al (((a.infs.map Aj).length:Int)-(1:Int));unfold Al;omega) ?_));refine Xi .pure (Xi _ (Yi vK ?_));exact .of_eq (show AV.tup [sl Ag LL,vi le]=N7 x roots a by unfold N7 TT Rz;rw[Aw (fun h=>h M8),AE h3,uu,HB])
theorem mZ(s:List Sl):(Bw x roots s).1.length<=s.length:=by
 grind [ah,V7]
theorem mp{x:List Rl}{roots:List Rq}{a:An}(h:QO a=true){A:List ByteArray}(e:(KA x roots a).1=A):BB A:=by
 obtain⟨h1,h2,h3⟩:=I1 h;rw[<-e];unfold KA Rz;split
 .exact Ao _
 .split
  .rw[YI];have q:=fw (x:=x) (roots:=roots) (l:=a.infs) (target:=(a.infs.length:Int)-1);show _<=_;omega
  .have q:=cg (Ax x roots a.infs).1 a.sel a.skips (Bw x roots a.sel).1 (Bw x roots a.sel).1.length;unfold HN at q;rw[Ec]at q;have q2:=mZ x roots a.sel;have q3:(Bw x roots a.sel).1.length*(a.skips.length+1)<=16*101:=FP (AL q2 h1) aa0;show(List.flatMap _ _).length<=1073741824;omega
theorem Aar(L:Xr x roots)(hP:I2 x roots a.infs):PC 8 [.agg (Ic x ifs),sl Ad roots,.agg [vb a.found,sl Ae a.sel,sl Aj a.infs,sl A1 a.skips]] (vb true):=by
 have k23:=L.c11 ifs;obtain⟨A,hA⟩:∃l,(KA x roots a).1=l:=⟨_,rfl⟩;obtain⟨ae,hB⟩:∃l,(KA x roots a).2=l:=⟨_,rfl⟩;refine Ps (pC [3,5] []) Tryz.func8 rfl (Nz rfl) (Xi .pure (Xi _ (Yi e11 (yN (AG (Bt (FJ x 16&&D6 roots)) (fun h1=>?_) (fun h1=>?_))))))
 .have h1:(FJ x 16&&D6 roots)=true:=h1;refine Xi .pure (Xi _ (Yi (cb h1 k23) (Yi (fun h2=>?_) (fun h2=>?_))))
  .have h2:(400:Int)<((a.infs.map Aj).length:Int):=h2;have n2:400<a.infs.length:=by have q:=h2;rw[Lm]at q;omega
   exact .refl _
  have h2:¬((400:Int)<((a.infs.map Aj).length:Int)):=h2;have n2:¬400<a.infs.length:=by have q:=h2;rw[Lm]at q;omega
  refine Yi (fun h4=>?_) (fun h4=>?_)
  .have h4:(16:Int)<((a.sel.map Ae).length:Int):=h4;have n4:16<a.sel.length:=by have q:=h4;rw[Lm]at q;omega
   exact .refl _
  have h4:¬((16:Int)<((a.sel.map Ae).length:Int)):=h4;have n4:¬16<a.sel.length:=by have q:=h4;rw[Lm]at q;omega
  refine Yi (fun h6=>?_) (fun h6=>?_)
  .have h6:(100:Int)<((a.skips.map A1).length:Int):=h6;have n6:100<a.skips.length:=by have q:=h6;rw[Lm]at q;omega
   exact .refl _
  have h6:¬((100:Int)<((a.skips.map A1).length:Int)):=h6;have n6:¬100<a.skips.length:=by have q:=h6;rw[Lm]at q;omega
  have Xj:QO a=true:=by
   unfold QO;rw[A4 (by have q:=h2;rw[Lm]at q;omega),A4 (by have q:=h4;rw[Lm]at q;omega),A4 (by have q:=h6;rw[Lm]at q;omega)];rfl
  have k33:=e33 x ifs roots a L h1 Xj hP;have k34:=e34 x ifs roots a L h1 Xj hP;rw[show VQ x roots a=.tup [sl Ag (KA x roots a).1,vi (KA x roots a).2]from rfl,hA,hB]at k33;rw[show N7 x roots a=.tup [sl Ag (TT x roots a).1,vi (TT x roots a).2]from rfl,<-p8,hA,hB]at k34;have uq:=mp Xj hA;refine yN (yN (Xi .pure (Xi _ (Yi k33 (yN (yN (Xi .pure (Xi _ (Yi k34 (Xi .pure (Xi _ (Yi (show PC 26 [sl Ag A,sl Ag A] (vb true)from by have q:=c20 A A uq;rw[A4 rfl]at q;exact q) (Yi (fun h8=>?_) (fun h8=>?_))))))))))))))
  .have h8:(ae:Int)=(ae:Int):=h8;exact .refl _
  have h8:¬((ae:Int)=(ae:Int)):=h8;exact absurd rfl h8
 have h1:(FJ x 16&&D6 roots)=false:=h1;refine Xi .pure (Xi _ (Yi (cb h1 k23) ?_));exact .refl _
end Go.Eng
