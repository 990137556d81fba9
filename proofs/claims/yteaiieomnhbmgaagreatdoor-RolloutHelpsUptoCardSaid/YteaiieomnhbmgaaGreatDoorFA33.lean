/- Lemmas 33. -/
import Derived.Test.YteaiieomnhbmgaaGreatDoorFA32
set_option maxHeartbeats 4000000
namespace Go.Eng
open Go.Proofs
attribute [local irreducible] EV B9 BO In Hm CV
theorem wU(x sx:List Rl)(ifs:List (List AV))(a:Ad)(cl:List (List Rq))(hx:∀r∈x,Ey r)(lw:∀r∈sx,Ey r)(GQ:x.length<=16)(ha:B8 a.set)(hl:B8 cl)(hcl:∀q∈cl,∀z∈q,JH z):PC 65 [.agg (Ic x ifs),.agg (Ic sx ifs),.agg (BA a),sl BF cl] (sl CC (Kb x sx a cl)):=by
 have hl:cl.length<=1073741824:=hl;have OF:∀q,(B9 x q).length<=1073741824:=fun q=>YZ q GQ;refine Ps (pT [4,5,6] [(9,10)] [6,7,8,11]) Tryz.func65 rfl (Nz rfl) (Xi {q:Nat // q<=cl.length} (Xi (fun q=>⟨[(4,.ref 4 0),(5,.ref 5 0),(6,.ref 6 0),(9,.slice (.id 9 10) ((Kb x sx a (cl.take q.1)).map CC)),(19,sl BF cl),(20,vi (cl.map BF).length),(21,vi q.1)],[(4,.ro (Ic x ifs)),(5,.ro (Ic sx ifs)),(6,.ro (BA a)),(9,.tok 10 ((Kb x sx a (cl.take q.1)).map CC).length)],Ag⟩) (Xi (fun q=>cl.length-q.1) (Yi (Xi ⟨0,AB _⟩ ?_) ?_))))
 .exact⟨Z7,Z4,Fh,Tv⟩
 intro⟨i,i1⟩;have i1:i<=cl.length:=i1;have hq:(Kb x sx a (cl.take i)).length<=1073741824:=AK (Qk _ _ _ _ _) (by rw[Ax];omega);refine Yi (fun h1=>?_) (fun h1=>?_)
 .have h1:(i:Int)<((cl.map BF).length:Int):=h1;have n1:=FJ h1;refine Xi (BF cl[i]) (Yi (Lv n1) (Yi rfl (yN (Xi .pure (Xi _ (Yi (s16 x ifs cl[i] hx (hcl _ (Ao n1))) (cU [(4,.ref 4 0),(5,.ref 5 0),(6,.ref 6 0),(9,.slice (.id 9 10) ((Kb x sx a (cl.take i)).map CC)),(10,vi i),(11,sl AW cl[i]),(12,sl Aq (B9 x cl[i])),(13,vi (EV x cl[i])),(19,sl BF cl),(20,vi (cl.map BF).length),(21,vi i)] [(4,.ro (Ic x ifs)),(5,.ro (Ic sx ifs)),(6,.ro (BA a)),(9,.tok 10 ((Kb x sx a (cl.take i)).map CC).length)] Z11 Z4 (Yi (fun h2=>?_) (fun h2=>?_)))))))))
  .have h2:((EV x cl[i]):Int)≠(0:Int):=h2;refine Yi (Ii i ch) ?_;have ew:((Kb x sx a (cl.take i)).map CC)=((Kb x sx a (cl.take (i+1))).map CC):=by rw[TN n1,Aj (by rw[In,Ae h2];exact Fy),BQ]
   refine Xi ⟨i+1,n1⟩ ?_;exact⟨Dl cl.length i ch,⟨Zr,Zr,Zr,⟨(Aa (AV.slice (.id 9 10)) ew),rfl⟩,Zr,Zr,Zr,Tv⟩,⟨Zr,Zr,Zr,⟨(show HO.tok 10 ((Kb x sx a (cl.take i)).map CC).length=.tok 10 ((Kb x sx a (cl.take (i+1))).map CC).length from Aa (HO.tok 10) (Aa List.length ew)),rfl⟩,Tv⟩,Fh,Tv⟩
  have h2:((EV x cl[i]):Int)=(0:Int):=AH h2;refine yN (BX (Bt ((B9 x cl[i]).any (Hm a))) (fun h4=>?_) (fun h4=>?_))
  .have h4:((B9 x cl[i]).any (Hm a))=true:=h4;refine Xi .pure (Xi _ (Yi (cb h4 (GB a (B9 x cl[i]) ha (YZ cl[i] GQ))) (cU [(4,.ref 4 0),(5,.ref 5 0),(6,.ref 6 0),(9,.slice (.id 9 10) ((Kb x sx a (cl.take i)).map CC)),(10,vi i),(11,sl AW cl[i]),(12,sl Aq (B9 x cl[i])),(19,sl BF cl),(20,vi (cl.map BF).length),(21,vi i)] [(4,.ro (Ic x ifs)),(5,.ro (Ic sx ifs)),(6,.ro (BA a)),(9,.tok 10 ((Kb x sx a (cl.take i)).map CC).length)] Z10 Z4 (yN (Xi .pure (Xi _ (Yi (s16 sx ifs cl[i] lw (hcl _ (Ao n1))) (cU [(4,.ref 4 0),(5,.ref 5 0),(6,.ref 6 0),(9,.slice (.id 9 10) ((Kb x sx a (cl.take i)).map CC)),(10,vi i),(12,sl Aq (B9 x cl[i])),(15,vi (EV sx cl[i])),(19,sl BF cl),(20,vi (cl.map BF).length),(21,vi i)] [(4,.ro (Ic x ifs)),(5,.ro (Ic sx ifs)),(6,.ro (BA a)),(9,.tok 10 ((Kb x sx a (cl.take i)).map CC).length)] Z10 Z4 (Yi (fun h5=>?_) (fun h5=>?_))))))))))
   .have h5:((EV sx cl[i]):Int)=(0:Int):=h5;refine Yi (Ii i ch) ?_;have ew:((Kb x sx a (cl.take i)).map CC)=((Kb x sx a (cl.take (i+1))).map CC):=by rw[TN n1,Aj (by rw[In,Ak h5,Bool.not_true,Cp];exact Fy),BQ]
    refine Xi ⟨i+1,n1⟩ ?_;exact⟨Dl cl.length i ch,⟨Zr,Zr,Zr,⟨(Aa (AV.slice (.id 9 10)) ew),rfl⟩,Zr,Zr,Zr,Tv⟩,⟨Zr,Zr,Zr,⟨(show HO.tok 10 ((Kb x sx a (cl.take i)).map CC).length=.tok 10 ((Kb x sx a (cl.take (i+1))).map CC).length from Aa (HO.tok 10) (Aa List.length ew)),rfl⟩,Tv⟩,Fh,Tv⟩
   have h5:¬(((EV sx cl[i]):Int)=(0:Int)):=h5;obtain⟨k,hk,zj,I7⟩:=Wn h2 h4;refine Xi .pure (Xi _ (Yi (show PC 108 [sl Aq (B9 x cl[i]),.clo 109 [.cptr (BA a)]] (vi ((k:Nat):Int))from zj▸o70 (fF:=109) (CU.ptr _) (B9 x cl[i]) (Ti a) (fun y _=>AaN y a) (Nat.lt_of_le_of_lt (OF cl[i]) Cl)) (yN (Xi (Aq ((B9 x cl[i])[k])) (Yi (Lv hk) (Yi rfl (Xi (Aq ((B9 x cl[i])[k])) (Yi (Lv hk) (Yi rfl (yN (Xi _ (Yi (by have q:=yo x ifs (B9 x cl[i])[k].path (B9 x cl[i])[k].ver (c84 x ifs hx) hx;rw[I7]at q;exact q) ?_))))))))))));refine yN (Yi Wk (cU [(4,.ref 4 0),(5,.ref 5 0),(6,.ref 6 0),(9,.slice (.id 9 10) ((Kb x sx a (cl.take i)).map CC)),(10,vi i),(17,.ref 17 0),(19,sl BF cl),(20,vi (cl.map BF).length),(21,vi i)] [(4,.ro (Ic x ifs)),(5,.ro (Ic sx ifs)),(6,.ro (BA a)),(9,.tok 10 ((Kb x sx a (cl.take i)).map CC).length),(17,.cells (AC (BO x a cl[i])))] Z9 Z5 (yN ?_)));have b7:Cr 10 [[vi i,vs (BO x a cl[i]).path,vi (BO x a cl[i]).ver.a,vi (BO x a cl[i]).ver.b,vi (BO x a cl[i]).ver.c,sl AW (BO x a cl[i]).reqs,vs (BO x a cl[i]).arch,vs (BO x a cl[i]).ifc,vs (BO x a cl[i]).cert,vb (BO x a cl[i]).yanked]]/\((Kb x sx a (cl.take i)).map CC).length=((Kb x sx a (cl.take i)).map CC).length/\(((Kb x sx a (cl.take i)).map CC).length+([[vi i,vs (BO x a cl[i]).path,vi (BO x a cl[i]).ver.a,vi (BO x a cl[i]).ver.b,vi (BO x a cl[i]).ver.c,sl AW (BO x a cl[i]).reqs,vs (BO x a cl[i]).arch,vs (BO x a cl[i]).ifc,vs (BO x a cl[i]).cert,vb (BO x a cl[i]).yanked]]:List (List AV)).length)*128<=140737488355328/\((Kb x sx a (cl.take i)).map CC).length+([[vi i,vs (BO x a cl[i]).path,vi (BO x a cl[i]).ver.a,vi (BO x a cl[i]).ver.b,vi (BO x a cl[i]).ver.c,sl AW (BO x a cl[i]).reqs,vs (BO x a cl[i]).arch,vs (BO x a cl[i]).ifc,vs (BO x a cl[i]).cert,vb (BO x a cl[i]).yanked]]:List (List AV)).length<=9223372036854775807:=⟨⟨rfl,trivial⟩,rfl,(by simp only[Lm,Al,Au];omega),(by simp only[Lm,Al,Au];omega)⟩;refine Yi b7 (Yi (Ii i ch) ?_);have ew:(((Kb x sx a (cl.take i)).map CC)++[[vi i,vs (BO x a cl[i]).path,vi (BO x a cl[i]).ver.a,vi (BO x a cl[i]).ver.b,vi (BO x a cl[i]).ver.c,sl AW (BO x a cl[i]).reqs,vs (BO x a cl[i]).arch,vs (BO x a cl[i]).ifc,vs (BO x a cl[i]).cert,vb (BO x a cl[i]).yanked]])=((Kb x sx a (cl.take (i+1))).map CC):=by rw[TN n1,Ap (by rw[In,Ak h2,h4,Ae h5];rfl),At];rfl
   refine Xi ⟨i+1,n1⟩ ?_;exact⟨Dl cl.length i ch,⟨Zr,Zr,Zr,⟨(Aa (AV.slice (.id 9 10)) ew),rfl⟩,Zr,Zr,Zr,Tv⟩,⟨Zr,Zr,Zr,⟨(show HO.tok 10 (((Kb x sx a (cl.take i)).map CC).length+([[vi i,vs (BO x a cl[i]).path,vi (BO x a cl[i]).ver.a,vi (BO x a cl[i]).ver.b,vi (BO x a cl[i]).ver.c,sl AW (BO x a cl[i]).reqs,vs (BO x a cl[i]).arch,vs (BO x a cl[i]).ifc,vs (BO x a cl[i]).cert,vb (BO x a cl[i]).yanked]]:List (List AV)).length)=.tok 10 ((Kb x sx a (cl.take (i+1))).map CC).length from Aa (HO.tok 10) (Ac.symm.trans (Aa List.length ew))),rfl⟩,Tv⟩,Fh,Tv⟩
  have h4:((B9 x cl[i]).any (Hm a))=false:=h4;refine Xi .pure (Xi _ (Yi (cb h4 (GB a (B9 x cl[i]) ha (YZ cl[i] GQ))) (Yi (Ii i ch) ?_)));have ew:((Kb x sx a (cl.take i)).map CC)=((Kb x sx a (cl.take (i+1))).map CC):=by rw[TN n1,Aj (by rw[In,h4,Cp];exact Fy),BQ]
  refine Xi ⟨i+1,n1⟩ ?_;exact⟨Dl cl.length i ch,⟨Zr,Zr,Zr,⟨(Aa (AV.slice (.id 9 10)) ew),rfl⟩,Zr,Zr,Zr,Tv⟩,⟨Zr,Zr,Zr,⟨(show HO.tok 10 ((Kb x sx a (cl.take i)).map CC).length=.tok 10 ((Kb x sx a (cl.take (i+1))).map CC).length from Aa (HO.tok 10) (Aa List.length ew)),rfl⟩,Tv⟩,Fh,Tv⟩
 have h1:¬((i:Int)<((cl.map BF).length:Int)):=h1;have n1:=DP h1;exact CX.of_eq (show sl CC (Kb x sx a (cl.take i))=sl CC (Kb x sx a cl) by rw[Av (l:=cl) (i:=i) (Bl (DP h1))])
end Go.Eng
namespace Go.Eng
open Go.Proofs
variable {q:List Rq}{caps:List AV}{i n fF k:Nat}(x sx:List Rl)(ifs:List (List AV))(a:Ad)(v:Ver)(cl:List (List Rq))(w:Wd)
abbrev ce(p:ByteArray):List Rl:=x.filter fun r=>decide (r.path=p)
def Jm(l:List Rl):List Ver:=l.map (·.ver)
theorem sw{l:List Rl}(h:i<l.length):Jm (l.take (i+1))=Jm (l.take i)++[l[i].ver]:=by
 rw[BN h,Jm,At];rfl
theorem xa(p:ByteArray)(L:List Rl)(dV:L=ce x p)(hx:∀r∈x,Ey r)(h0:A0 x=0)(GQ:x.length<=16)(DJ:∃r∈x,r.path=p):PC 66 [.agg (Ic x ifs),vs p] (sl DE (Jm L)):=by
 have dU:PC 82 [Iu x ifs] (.tup [.agg [.cmap ZZ (x.map Wt),.cmap Cu ((AZ x []).map (rt x))],vi 0]):=by have q:=c84 x ifs hx;unfold li WV at q;rw[Ap h0]at q;exact q
 have hLl:L.length<=16:=by have q:=Bx (fun r:Rl=>decide (r.path=p)) x;rw[dV];exact AK q GQ
 refine Ps (pT [2] [(7,3)] [2,7]) Tryz.func66 rfl (Nz rfl) (yN (Xi .pure (Xi _ (Yi dU (yN (cU [(1,vs p),(5,.ref 5 0)] [(5,.cells [.cmap ZZ (x.map Wt),.cmap Cu ((AZ x []).map (rt x))])] Z2 Z1 (Yi (fun a ha=>?_) (fun Ok=>absurd (Ai.2 ⟨p,(G6 x [] p).2 (.inr DJ),rfl⟩) (Ok _)))))))));have ea:a=sl AC L:=by rw[dV];exact gI ha
 subst ea;refine Xi {q:Nat // q<=L.length} (Xi (fun q=>⟨[(7,.slice (.id 7 3) ((Jm (L.take q.1)).map DE)),(18,sl AC L),(19,vi (L.map AC).length),(20,vi q.1)],[(7,.tok 3 ((Jm (L.take q.1)).map DE).length)],Ag⟩) (Xi (fun q=>L.length-q.1) (Yi (Xi ⟨0,AB _⟩ ?_) ?_)))
 .exact⟨Z4,Z1,Fh,Tv⟩
 intro⟨i,i1⟩;have i1:i<=L.length:=i1;have hq:(Jm (L.take i)).length<=1073741824:=by rw[Jm,Lm,Ax];omega
 refine Yi (fun h1=>?_) (fun h1=>?_)
 .have h1:(i:Int)<((L.map AC).length:Int):=h1;have n1:=FJ h1;refine Xi (AC L[i]) (Yi (Lv n1) (Yi rfl (yN (yN (yN ?_)))));have b2:Cr 3 [[vi L[i].ver.a,vi L[i].ver.b,vi L[i].ver.c]]/\((Jm (L.take i)).map DE).length=((Jm (L.take i)).map DE).length/\(((Jm (L.take i)).map DE).length+([[vi L[i].ver.a,vi L[i].ver.b,vi L[i].ver.c]]:List (List AV)).length)*24<=140737488355328/\((Jm (L.take i)).map DE).length+([[vi L[i].ver.a,vi L[i].ver.b,vi L[i].ver.c]]:List (List AV)).length<=9223372036854775807:=⟨⟨rfl,trivial⟩,rfl,(by simp only[Lm,Al,Au];omega),(by simp only[Lm,Al,Au];omega)⟩;refine Yi b2 (cU [(7,.slice (.id 7 3) (((Jm (L.take i)).map DE)++[[vi L[i].ver.a,vi L[i].ver.b,vi L[i].ver.c]])),(18,sl AC L),(19,vi (L.map AC).length),(20,vi i)] [(7,.tok 3 (((Jm (L.take i)).map DE).length+([[vi L[i].ver.a,vi L[i].ver.b,vi L[i].ver.c]]:List (List AV)).length))] Z4 Z1 (Yi (Ii i ch) ?_));have ew:(((Jm (L.take i)).map DE)++[[vi L[i].ver.a,vi L[i].ver.b,vi L[i].ver.c]])=((Jm (L.take (i+1))).map DE):=by rw[sw n1,At];rfl
  refine Xi ⟨i+1,n1⟩ ?_;exact⟨Dl L.length i ch,⟨⟨(Aa (AV.slice (.id 7 3)) ew),rfl⟩,Zr,Zr,Zr,Tv⟩,⟨⟨(show HO.tok 3 (((Jm (L.take i)).map DE).length+([[vi L[i].ver.a,vi L[i].ver.b,vi L[i].ver.c]]:List (List AV)).length)=.tok 3 ((Jm (L.take (i+1))).map DE).length from Aa (HO.tok 3) (Ac.symm.trans (Aa List.length ew))),rfl⟩,Tv⟩,Fh,Tv⟩
 have h1:¬((i:Int)<((L.map AC).length:Int)):=h1;have n1:=DP h1;exact CX.of_eq (show sl DE (Jm (L.take i))=sl DE (Jm L) by rw[Av (l:=L) (i:=i) (Bl (DP h1))])
theorem AaJ(q:List Rq)(hq:∀z∈q,JH z):PC 63 [sl AW q] (vb (!decide (BH q=0))):=by
 refine Ps Ej Tryz.func63 rfl (Nz rfl) (Xi .pure (Xi _ (Yi (c65 WF q hq) (Yi (fun h1=>?_) (fun h1=>?_)))))
 .have h1:((BH q):Int)≠(0:Int):=h1;exact CX.of_eq (Aa vb (show true=!decide (BH q=0) by rw[Ae h1];rfl))
 have h1:((BH q):Int)=(0:Int):=AH h1;exact CX.of_eq (Aa vb (show false=!decide (BH q=0) by rw[Ak h1];rfl))
theorem z61(hs:CU caps)(l:List (List Rq))(p:List Rq->Bool)(hF:∀x∈l,PC fF ([sl AW x]++caps) (vb (p x)))(hl:l.length<9223372036854775807) :
  PC 61 [sl BF l,.clo fF caps] (vi (FS p l 0)):=by
 refine Ps Ej Tryz.func61 rfl (Nz rfl) (Xi {i:Nat // i<=l.length/\∀j (hj:j<l.length),j<i->p l[j]=false} (Xi (fun i=>⟨[(0,sl BF l),(1,.clo fF caps),(7,vi (l.map BF).length),(8,vi i.1)],[],Ag⟩) (Xi (fun i=>l.length-i.1) (Yi (Xi ⟨0,by simp⟩ ?_) ?_))))
 .exact⟨⟨Zr,⟨rfl,hs.ids _⟩,Zr,Zr,Tv⟩,Tv,Fh,Tv⟩
 .intro⟨i,h1,h2⟩;refine Yi ?_ ?_
  .intro h;have h:(i:Int)<(l.map BF).length:=h;have h:i<l.length:=by simpa using h
   have hg:l[i]?=some l[i]:=Ge h;refine Xi (BF l[i]) (Yi (Yi (Nn i) (by simp[hg])) (Yi rfl ?_));have Ck:∀h,PC fF ([sl AW l[i]]++caps.map (str0 h)) (vb (p l[i])):=fun h=>by rw[hs.map];exact hF l[i] (Ao _)
   cases hp:p l[i]with
   |true=>
    rw[hp]at Ck;refine Xi .pure (Xi (vb true) (Yi (Ck _) ?_));rw[H2 h (fun j hj I6=>h2 j hj I6) hp,EF];exact .refl _
   |false=>
    rw[hp]at Ck;refine Xi .pure (Xi (vb false) (Yi (Ck _) (Yi (Ii i ch) (Xi ⟨i+1,by omega,fun j hj I6=>?_⟩ ?_))))
    .by_cases e:j=i
     .subst e;exact hp
     .exact h2 j hj ch
    .exact⟨Dl l.length i ch,⟨Zr,⟨rfl,hs.ids _⟩,Zr,Zr,Tv⟩,Tv,Fh,Tv⟩
  .intro h;have h:¬(i:Int)<(l.map BF).length:=h;have h:¬i<l.length:=by simpa using h
   rw[F9 fun j hj=>h2 j hj ch];exact .refl _
theorem z28(hs:CU caps)(l:List (List Rq))(p:List Rq->Bool)(hF:∀x∈l,PC fF ([sl AW x]++caps) (vb (p x)))(hl:B8 l) :
  PC 28 [sl BF l,.clo fF caps] (vb (l.any p)):=by
 refine Ps Ej Tryz.func28 rfl (Nz rfl) ?_;have hi:=z61 hs l p hF (by unfold B8 at hl;omega);have Ck:∀h,PC 61 [sl BF l,.clo fF (caps.map (str0 h))] (vi (FS p l 0)):=fun h=>by rw[hs.map];exact hi
 refine Xi .pure (Xi _ (Yi (Ck _) ?_));have ha:=HW (p:=p) l 0 (Bs 0);refine Yi ?_ ?_
 .intro h;have h:(0:Int)<=FS p l 0:=h;rw[<-ha,Ak h];exact .refl _
 .intro h;have h:¬(0:Int)<=FS p l 0:=h;rw[<-ha,Ae h];exact .refl _
theorem fL(hl:B8 cl)(h:∀q∈cl,∀z∈q,JH z):PC 28 [sl BF cl,.v (.func (.func 63) #[] #[])] (vb (cl.any fun q=>!decide (BH q=0))):=
 (z28 (fF:=63) CU.nil cl (fun q=>!decide (BH q=0)) (fun q hq=>AaJ q (h q hq)) hl).args ⟨.refl _,.fn _,trivial⟩
theorem sO(hx:x.length<=19)(hc:∀r∈x,PC 83 [.agg (AC r)] (.agg (AC r)))(hk:A9 Tryz.prog 86 [.agg [.msl 1000 ((DW CY x.length x).map AC).length,nzA]] (As [(1000,.arr 9 ((DW CY x.length x).map AC))] Ag) fun r h'=>r=vi 0/\h'=As [(1000,.arr 9 ((DW CY x.length x).map AC))] Ag):PC 43 [sl AC x] (.tup [sl AC (DW CY x.length x),vi 0]):=by
 refine Ps ⟨[],[],[(4,9)],[],[],[],[],[],[],[(200011,4)],[7,8,11]⟩ Tryz.func43 rfl (Nz rfl) (Xi {q:Nat // q<=x.length} (Xi (fun q=>⟨[(4,.msl 4 (x.take q.1).length),(8,sl AC x),(9,vi (x.map AC).length),(10,vi q.1)],[(4,.arr 9 ((x.take q.1).map AC))],Ag⟩) (Xi (fun q=>x.length-q.1) (Yi (Xi ⟨0,AB _⟩ ?_) ?_))))
 .exact⟨Z4,Z1,Fh,Tv⟩
 intro⟨i,i1⟩;have i1:i<=x.length:=i1;refine Yi (fun h1=>?_) (fun h1=>?_)
 .have h1:(i:Int)<((x.map AC).length:Int):=h1;have n1:=FJ h1;refine Xi (AC x[i]) (Yi (Lv n1) (Yi rfl (yN (yN (yN (Xi .pure (Xi _ (Yi (hc x[i] (Ao n1)) ?_))))))));have b2:Cr 9 [(AC x[i])]/\((x.take i).map AC).length=(x.take i).length/\(((x.take i).map AC).length+([(AC x[i])]:List (List AV)).length)*120<=140737488355328/\((x.take i).map AC).length+([(AC x[i])]:List (List AV)).length<=9223372036854775807:=⟨⟨rfl,trivial⟩,(by rw[Lm]),(by simp only[Lm,Al,Au,Ax];omega),(by simp only[Lm,Al,Au,Ax];omega)⟩;refine Yi b2 (Yi (Ii i ch) (Xi ⟨i+1,n1⟩ ?_));exact⟨Dl x.length i ch,⟨⟨(show AV.msl 4 (((x.take i).map AC).length+([AC x[i]]:List (List AV)).length)=.msl 4 (x.take (i+1)).length by rw[Ep n1,Ac,Lm];rfl),rfl⟩,Zr,Zr,Zr,Tv⟩,⟨⟨(show HO.arr 9 ((x.take i).map AC++[AC x[i]])=.arr 9 ((x.take (i+1)).map AC) by rw[Ep n1,At];rfl),rfl⟩,Tv⟩,Fh,Tv⟩
 have h1:¬((i:Int)<((x.map AC).length:Int)):=h1;have n1:=DP h1;have ei:x.take i=x:=Av ch;refine cU [(4,.msl 4 x.length)] [(4,.arr 9 (x.map AC))] ⟨⟨(show AV.msl 4 (x.take i).length=.msl 4 x.length by rw[ei]),rfl⟩,Tv⟩ ⟨⟨(show HO.arr 9 ((x.take i).map AC)=.arr 9 (x.map AC) by rw[ei]),rfl⟩,Tv⟩ ?_
 refine Xi (.gen [(4,1000)] 0) (Yi rfl (A9.to2 (v105 x hx) ?_));refine cU [(4,.msl 4 ((DW CY x.length x).map AC).length)] [(4,.arr 9 ((DW CY x.length x).map AC))] ⟨⟨(show AV.msl 4 x.length=.msl 4 ((DW CY x.length x).map AC).length by rw[Lm,JA]),rfl⟩,Tv⟩ Z1 ?_
 refine Xi (.gen [(4,1000)] 0) (Yi rfl (A9.to2 hk ?_));refine Yi (fun h=>absurd h Cl) (fun _=>?_);refine Yi rfl (cU [(4,sl AC (DW CY x.length x))] [] Z1 Tv ?_)
 exact .refl _
theorem pL{x:List Rl}(h:x.length<=19)(hf:∀r∈x,Ey r)(hr:∀r∈x,r.reqs.length<=1000)(hc:A0 (DW CY x.length x)=0):PC 43 [sl AC x] (.tup [sl AC (DW CY x.length x),vi 0]):=by
 have hk:=Jp.lend (sz:=9) (es:=(DW CY x.length x).map AC) (vs:=[.slice none 0 0]) (xd (x:=DW CY x.length x) fun r hr=>hf r (KG CY _ _ r hr));rw[hc]at hk;exact sO x h (fun r hm=>c98 r (hr r hm) fun q hq=>((hf r hm).2 q hq).1) hk
theorem ld{x:List Rl}(h:x.length<=19)(hf:∀r∈x,Ey r)(hr:∀r∈x,r.reqs.length<=1000)(hc:A0 (DW CY x.length x)≠0):PC 43 [sl AC x] (.tup [nzA,vi (A0 (DW CY x.length x))]):=by
 have hk:=Jp.lend (sz:=9) (es:=(DW CY x.length x).map AC) (vs:=[.slice none 0 0]) (xd (x:=DW CY x.length x) fun r hr=>hf r (KG CY _ _ r hr));exact Af6 x h (fun r hm=>c98 r (hr r hm) fun q hq=>((hf r hm).2 q hq).1) _ hc hk
def Fv:List Rl:=if A0 (DW CY x.length x)=0 then DW CY x.length x else []
theorem iH{x:List Rl}(h:x.length<=19)(hf:∀r∈x,Ey r)(hr:∀r∈x,r.reqs.length<=1000):PC 43 [sl AC x] (.tup [sl AC (Fv x),vi (A0 (DW CY x.length x))]):=by
 by_cases hc:A0 (DW CY x.length x)=0
 .have q:=pL h hf hr hc;rw[Fv,Ap hc,hc];exact q
 .have q:=ld h hf hr hc;rw[Fv,Aj hc];exact A9.mono q fun _ _ ⟨e1,e2⟩=>⟨_,e1▸CX.tup (show KX [nzA,vi _] [sl AC [],vi _]from⟨CX.nil,CX.refl _,trivial⟩),rfl,e2⟩
theorem cS(l:List Rl)(hl:l.length<=256)(DJ:l≠[]):A9 Tryz.prog 44 [sl AC l] Ag fun r h'=>r=.slice (.id 2000 9) (l.map AC)/\h'=As [(2000,.tok 9 (l.map AC).length)] Ag:=by
 show A9 Tryz.prog _ _ (As [] Ag) _;refine Cz (No Ej) [(5,2000)] rfl C3 hm rfl Tryz.func44 Wk rfl (Nz rfl) Wk rfl ?_;have HG:Cr 9 (l.map AC)/\([]:List (List AV)).length=0/\(([]:List (List AV)).length+(l.map AC).length)*120<=140737488355328/\([]:List (List AV)).length+(l.map AC).length<=9223372036854775807:=by
  refine⟨D5 (enc:=AC) (n:=9) (fun _=>rfl) l,rfl,?_,?_⟩<;>simp only[Au,Lm]<;>omega
 refine Yi ?_ ?_
 .intro _;refine Yi HG ?_;exact Xi _ (Yi (.refl _) ⟨rfl,Eq.trans (b:=As [(2000,.tok 9 (([]:List (List AV)).length+(l.map AC).length))] Ag) rfl (by rw[Au,Bb])⟩)
 .intro h;have h:l.map AC=[]:=h;exact absurd (DO.1 h) DJ
structure Bk where
 client:Nat
 ver:Ver
 enough:Bool
abbrev Bu(b:Bk):List AV:=[vi ((b.client:Nat):Int),vi b.ver.a,vi b.ver.b,vi b.ver.c,vb b.enough]
def bT(b:Int)(c:Int)(v:Ver):Int:=if v.b=b then max c v.c else c
def Gw(L:List Rl)(v:Ver)(n:Nat):Int:=((Jm L).take n).foldl (bT v.b) v.c
def ZW:Int:=(Jm (ce x a.path)).foldl (bT v.b) v.c
def Wu:Ver:=⟨v.a,v.b,ZW x a v+1⟩
def QO:Rl:=⟨a.path,Wu x a w.rel.ver,w.rel.reqs,⟨#[]⟩,⟨#[]⟩,⟨#[]⟩,false⟩
def XW:List Rl:=Fv (sx++[QO x a w])
def GU:Bk:=⟨w.client,Wu x a w.rel.ver,decide (EV (XW x sx a w) (cl.getD w.client [])=0)&&!has a.set (plc (Wu x a w.rel.ver))⟩
def au(x:List Rl)(a:Ad):List Wd->Int
 | []=>0
 |w::r=>if 999<ZW x a w.rel.ver+1 then 2 else au x a r
theorem lS{x:List Rl}{a:Ad}{l:List Wd}(h:i<l.length)(k:¬999<ZW x a l[i].rel.ver+1):au x a (l.drop i)=au x a (l.drop (i+1)):=by rw[AI h,au,Aj k]
theorem x9{x:List Rl}{a:Ad}{l:List Wd}(h:i<l.length)(k:999<ZW x a l[i].rel.ver+1):au x a (l.drop i)=2:=by rw[AI h,au,Ap k]
theorem gR{L:List Rl}{v:Ver}(h:n<(Jm L).length):Gw L v (n+1)=bT v.b (Gw L v n) (Jm L)[n]:=by
 rw[Gw,BN h,Et];rfl
theorem Zu{L:List Rl}{v:Ver}(h:(Jm L).length<=n):Gw L v n=(Jm L).foldl (bT v.b) v.c:=by rw[Gw,Av h]
theorem Ql{x sx:List Rl}{a:Ad}{w:Wd}:∀{l:List (List Rq)} {i:Nat},w∈Nr x sx a l i->i<=w.client/\w.client<i+l.length/\In x sx a (l.getD (w.client-i) [])=true/\w.rel=BO x a (l.getD (w.client-i) [])
 | [],i,h=>by cases h
 |q::l,i,h=>by
  have tail:w∈Nr x sx a l (i+1)->i<=w.client/\w.client<i+(q::l).length/\In x sx a ((q::l).getD (w.client-i) [])=true/\w.rel=BO x a ((q::l).getD (w.client-i) []):=fun h=>by
   obtain⟨h1,h2,h3,h4⟩:=Ql h;have e:w.client-i=(w.client-(i+1))+1:=by omega
   refine⟨by omega,by rw[Al];omega,?_,?_⟩
   .rw[e,List.getD_cons_succ];exact h3
   .rw[e,List.getD_cons_succ];exact h4
  rw[Nr]at h;split at h
  .rename_i hw;rcases Ay.1 h with rfl|h
   .refine⟨Am _,(by rw[Al];show i<i+(l.length+1);omega),?_,?_⟩
    .show In x sx a ((q::l).getD (i-i) [])=true;rw[E7];exact hw
    .show BO x a q=BO x a ((q::l).getD (i-i) []);rw[E7];rfl
   .exact tail h
  .exact tail h
theorem ig{x:List Rl}{a:Ad}(h:EV x q=0)(hc:(B9 x q).any (Hm a)=true):BO x a q∈x/\(BO x a q).path=a.path/\A0 x=0:=by
 obtain⟨k,hk,h1,h2⟩:=Wn h hc;have h0:=(L8 h).2.2;rw[CV,Aj (by rw[h0];decide)]at h2;have hm:=BI h2;have hp:=Dy h2;have hp:=AP hp;refine⟨hm,?_,h0⟩;have e1:(BO x a q).path=(B9 x q)[k].path:=Aa Sl.path hp;rw[e1];have hi:FS (Ti a) (B9 x q) 0=((k:Nat):Int):=h1;have DF:(B9 x q).findIdx (Ti a)<(B9 x q).length:=by
  obtain⟨y,hy,hb⟩:=Ba.1 hc;simp only[Hm,Af]at hb;exact List.findIdx_lt_length_of_exists ⟨y,hy,hb.1.2⟩
 have WL:Ti a (B9 x q)[(B9 x q).findIdx (Ti a)]=true:=List.findIdx_getElem (w:=DF);have Rr:∀j (hj:j<(B9 x q).length),j<(B9 x q).findIdx (Ti a)->Ti a (B9 x q)[j]=false:=fun j hj I6=>by
  have q:=List.not_of_lt_findIdx I6;simpa using q
 rw[H2 DF Rr WL]at hi
 have:k=(B9 x q).findIdx (Ti a):=by omega
 subst this;exact AP WL
theorem yA{x sx:List Rl}{a:Ad}{cl:List (List Rq)}{w:Wd}(h:w∈Kb x sx a cl):w.client<cl.length/\w.rel∈x/\w.rel.path=a.path/\A0 x=0:=by
 obtain⟨_,h2,h3,h4⟩:=Ql h;rw[In]at h3;simp only[Af]at h3;have q:=ig (AP h3.1.1) h3.1.2;rw[h4];exact⟨by omega,q⟩
theorem yB{cl:List (List Rq)}(h:k<cl.length):(cl.map BF)[k]?=some (BF (cl.getD k [])):=by rw[AG,Ge h];simp[List.getD,h]
theorem uR{cl:List (List Rq)}(h:k<cl.length):cl.getD k []∈cl:=by
 have e:cl.getD k []=cl[k]:=by simp[List.getD,h]
 rw[e];exact Ao h
theorem QL{sx:List Rl}{p:ByteArray}{v:Ver}(h:∀r∈sx,Ey r)(hp:Gq p)(hq:∀z∈q,JH z):∀r∈sx++[(⟨p,v,q,⟨#[]⟩,⟨#[]⟩,⟨#[]⟩,false⟩:Rl)],Ey r:=fun r hr=>by
 rcases AN.1 hr with k|k
 .exact h r k
 .rw[Ar.1 k];exact⟨hp,hq⟩
theorem Zt{sx:List Rl}{p:ByteArray}{v:Ver}(h:∀r∈sx,r.reqs.length<=1000)(hq:q.length<=1000):∀r∈sx++[(⟨p,v,q,⟨#[]⟩,⟨#[]⟩,⟨#[]⟩,false⟩:Rl)],r.reqs.length<=1000:=fun r hr=>by
 rcases AN.1 hr with k|k
 .exact h r k
 .rw[Ar.1 k];exact hq
theorem ir{x:List Rl}(h:∀r∈x,Ey r):∀r∈Fv x,Ey r:=fun r hr=>by
 rw[Fv]at hr;split at hr
 .exact h r (KG CY _ _ r hr)
 .cases hr
theorem Aa3{r:Rl}(h:Dq r=0):0<=r.ver.c/\r.ver.c<=999:=by
 unfold Dq at h;split at h
 .cases h
 .by_cases hv:Ci r.ver=true
  .rw[Ci]at hv;simp only[Af,AA]at hv;exact hv.2
  .rw[T9]at hv;rw[hv]at h;exact absurd (show(2:Int)=0 from h) Cl
theorem aZ{b:Int}:∀(l:List Ver) (c:Int),(∀v∈l,0<=v.c/\v.c<=999)->0<=c/\c<=999->0<=l.foldl (bT b) c/\l.foldl (bT b) c<=999
 | [],c,_,h=>h
 |v::l,c,hl,h=>aZ l (bT b c v) (fun u hu=>hl u (Ah _ hu)) (by have q:=hl v (Ab ..);unfold bT;split<;>omega)
theorem Afa(WD:List Wd)(L:List Rl)(dV:L=ce x a.path)(hx:PI x)(lw:PI sx)(xK:∀r∈sx,r.reqs.length<=1000)(np:∀r∈x,r.reqs.length<=1000)(ha:Ks a)(hl:B8 cl)(hcl:∀q∈cl,∀z∈q,JH z)(OF:sx.length=x.length)(hW:∀w∈WD,w.client<cl.length/\w.rel∈x/\w.rel.path=a.path/\A0 x=0)(hWl:B8 WD)(c1:(cl.any fun q=>!decide (BH q=0))=false)(Wr:PC 62 [Iu x ifs,sl BA [a]] (.tup [Iu sx ifs,vi 0]))(h65:PC 65 [Iu x ifs,Iu sx ifs,.agg (BA a),sl BF cl] (sl CC WD)):PC 31 [.agg (Ic x ifs),.agg (BA a),sl BF cl] (.tup [sl Bu (if au x a WD=0 then WD.map (GU x sx a cl)else []),vi (au x a WD)]):=by
 have rg:x.length<=16:=hx.len;have AdO:sx.length<=16:=lw.len;have AcY:L.length<=16:=by have q:=Bx (fun r:Rl=>decide (r.path=a.path)) x;rw[dV];exact AK q rg
 have Aif:(Jm L).length<=16:=by rw[Jm,Lm];exact AcY
 have na:∀w∈WD,∀j,Gw L w.rel.ver j<=999/\0<=Gw L w.rel.ver j:=fun w hw j=>by
  have h0:=(Jt.1 (hW w hw).2.2.2).2.1;have q:=aZ (b:=w.rel.ver.b) ((Jm L).take j) w.rel.ver.c (fun v hv=>by obtain⟨r,hr,rfl⟩:=Ai.1 (Df hv);exact Aa3 (h0 r (Br.1 (dV▸hr)).1)) (Aa3 (h0 _ (hW w hw).2.1));exact⟨q.2,q.1⟩
 refine Ps ⟨[3,4],[(10,5)],[],[],[],[],[],[],[(87,3)],[],[2,6,11,15,16,20,23,25,26,27]⟩ Tryz.func31 rfl (Nz rfl) (yN (yN (Xi .pure (Xi _ (Yi Wr (yN (cU [(2,sl BF cl),(3,.ref 3 0),(4,.ref 4 0),(8,.ref 8 0),(9,vi 0)] [(3,.ro (Ic x ifs)),(4,.ro (BA a)),(8,.cells (Ic sx ifs))] Z5 Z3 (Yi (fun h=>absurd h Cl) (fun _=>?_)))))))));refine BX (Bt (cl.any fun q=>!decide (BH q=0))) (fun h1=>?_) (fun h1=>?_)
 .refine Xi .pure (Xi _ (Yi (cb h1 (fL cl hl hcl)) ?_));exact absurd (h1.symm.trans c1) Cl
 refine Xi .pure (Xi _ (Yi (cb h1 (fL cl hl hcl)) (cU [(2,sl BF cl),(3,.ref 3 0),(4,.ref 4 0),(8,.ref 8 0)] [(3,.ro (Ic x ifs)),(4,.ro (BA a)),(8,.cells (Ic sx ifs))] Z4 Z3 (yN (yN (yN (Xi .pure (Xi _ (Yi h65 (Xi {q:Nat // q<=WD.length/\au x a (WD.drop q)=au x a WD} (Xi (fun q=>⟨[(2,sl BF cl),(3,.ref 3 0),(4,.ref 4 0),(8,.ref 8 0),(10,.slice (.id 10 5) (((WD.take q.1).map (GU x sx a cl)).map Bu)),(37,sl CC WD),(38,vi (WD.map CC).length),(39,vi q.1)],[(3,.ro (Ic x ifs)),(4,.ro (BA a)),(8,.cells (Ic sx ifs)),(10,.tok 5 (((WD.take q.1).map (GU x sx a cl)).map Bu).length)],Ag⟩) (Xi (fun q=>WD.length-q.1) (Yi (Xi ⟨0,AB _,rfl⟩ ?_) ?_)))))))))))))
 .exact⟨Z8,Z4,Fh,Tv⟩
 intro⟨i,i1,i2⟩;refine Yi (fun h3=>?_) (fun h3=>?_)
 .have h3:(i:Int)<((WD.map CC).length:Int):=h3;have n3:=FJ h3;refine Xi (CC WD[i]) (Yi (Lv n3) (Yi rfl (yN (yN (yN (yN (cU [(2,sl BF cl),(3,.ref 3 0),(4,.ref 4 0),(8,.ref 8 0),(10,.slice (.id 10 5) (((WD.take i).map (GU x sx a cl)).map Bu)),(12,.ref 12 0),(13,.ref 13 0),(37,sl CC WD),(38,vi (WD.map CC).length),(39,vi i)] [(3,.ro (Ic x ifs)),(4,.ro (BA a)),(8,.cells (Ic sx ifs)),(10,.tok 5 (((WD.take i).map (GU x sx a cl)).map Bu).length),(12,.cells (CC WD[i])),(13,.cells [vi WD[i].rel.ver.a,vi WD[i].rel.ver.b,vi WD[i].rel.ver.c])] Z10 Z6 (yN (Xi .pure (Xi _ (Yi (xa x ifs a.path L dV hx.few (hW _ (Ao n3)).2.2.2 hx.len ⟨_,(hW _ (Ao n3)).2.1,(hW _ (Ao n3)).2.2.1⟩) (Xi {q:Nat // q<=(Jm L).length} (Xi (fun q=>⟨[(2,sl BF cl),(3,.ref 3 0),(4,.ref 4 0),(8,.ref 8 0),(10,.slice (.id 10 5) (((WD.take i).map (GU x sx a cl)).map Bu)),(12,.ref 12 0),(13,.ref 13 0),(37,sl CC WD),(38,vi (WD.map CC).length),(39,vi i),(49,sl DE (Jm L)),(50,vi ((Jm L).map DE).length),(51,vi q.1)],[(3,.ro (Ic x ifs)),(4,.ro (BA a)),(8,.cells (Ic sx ifs)),(10,.tok 5 (((WD.take i).map (GU x sx a cl)).map Bu).length),(12,.cells (CC WD[i])),(13,.cells [vi WD[i].rel.ver.a,vi WD[i].rel.ver.b,vi (Gw L WD[i].rel.ver q.1)])],Ag⟩) (Xi (fun q=>(Jm L).length-q.1) (Yi (Xi ⟨0,AB _⟩ ?_) ?_)))))))))))))))
  .exact⟨Z13,Z6,Fh,Tv⟩
  intro⟨j,j1⟩;have j1:j<=(Jm L).length:=j1;have jm:=na WD[i] (Ao ch) j;refine Yi (fun h4=>?_) (fun h4=>?_)
  .have h4:(j:Int)<(((Jm L).map DE).length:Int):=h4;have n4:=FJ h4;refine Xi (DE ((Jm L)[j])) (Yi (Lv n4) (Yi rfl (yN (yN (Yi (fun h5=>?_) (fun h5=>?_))))))
   .have h5:(((Jm L)[j]).b:Int)=(WD[i].rel.ver.b:Int):=h5;refine cU [(2,sl BF cl),(3,.ref 3 0),(4,.ref 4 0),(8,.ref 8 0),(10,.slice (.id 10 5) (((WD.take i).map (GU x sx a cl)).map Bu)),(12,.ref 12 0),(13,.ref 13 0),(15,.ref 15 0),(37,sl CC WD),(38,vi (WD.map CC).length),(39,vi i),(49,sl DE (Jm L)),(50,vi ((Jm L).map DE).length),(51,vi j)] [(3,.ro (Ic x ifs)),(4,.ro (BA a)),(8,.cells (Ic sx ifs)),(10,.tok 5 (((WD.take i).map (GU x sx a cl)).map Bu).length),(12,.cells (CC WD[i])),(13,.cells [vi WD[i].rel.ver.a,vi WD[i].rel.ver.b,vi (Gw L WD[i].rel.ver j)]),(15,.cells (DE ((Jm L)[j])))] ⟨Zr,Zr,Zr,Zr,Zr,Zr,Zr,Zr,Zr,Zr,Zr,Zr,Zr,Zr,Tv⟩ Z7 (yN (cU [(2,sl BF cl),(3,.ref 3 0),(4,.ref 4 0),(8,.ref 8 0),(10,.slice (.id 10 5) (((WD.take i).map (GU x sx a cl)).map Bu)),(12,.ref 12 0),(13,.ref 13 0),(37,sl CC WD),(38,vi (WD.map CC).length),(39,vi i),(49,sl DE (Jm L)),(50,vi ((Jm L).map DE).length),(51,vi j)] [(3,.ro (Ic x ifs)),(4,.ro (BA a)),(8,.cells (Ic sx ifs)),(10,.tok 5 (((WD.take i).map (GU x sx a cl)).map Bu).length),(12,.cells (CC WD[i])),(13,.cells [vi WD[i].rel.ver.a,vi WD[i].rel.ver.b,vi (max (Gw L WD[i].rel.ver j) ((Jm L)[j]).c)])] Z13 Z6 (Yi (Ii j ch) (Xi ⟨j+1,n4⟩ ?_))));exact⟨by show(Jm L).length-(j+1)<(Jm L).length-j;omega,Z13,⟨Zr,Zr,Zr,Zr,Zr,⟨(show HO.cells [vi WD[i].rel.ver.a,vi WD[i].rel.ver.b,vi (max (Gw L WD[i].rel.ver j) ((Jm L)[j]).c)]=.cells [vi WD[i].rel.ver.a,vi WD[i].rel.ver.b,vi (Gw L WD[i].rel.ver (j+1))] by rw[gR n4,bT,Ap h5]),rfl⟩,Tv⟩,Fh,Tv⟩
   have h5:¬((((Jm L)[j]).b:Int)=(WD[i].rel.ver.b:Int)):=h5;refine cU [(2,sl BF cl),(3,.ref 3 0),(4,.ref 4 0),(8,.ref 8 0),(10,.slice (.id 10 5) (((WD.take i).map (GU x sx a cl)).map Bu)),(12,.ref 12 0),(13,.ref 13 0),(37,sl CC WD),(38,vi (WD.map CC).length),(39,vi i),(49,sl DE (Jm L)),(50,vi ((Jm L).map DE).length),(51,vi j)] [(3,.ro (Ic x ifs)),(4,.ro (BA a)),(8,.cells (Ic sx ifs)),(10,.tok 5 (((WD.take i).map (GU x sx a cl)).map Bu).length),(12,.cells (CC WD[i])),(13,.cells [vi WD[i].rel.ver.a,vi WD[i].rel.ver.b,vi (Gw L WD[i].rel.ver j)])] Z13 Z6 (Yi (Ii j ch) (Xi ⟨j+1,n4⟩ ?_));exact⟨by show(Jm L).length-(j+1)<(Jm L).length-j;omega,Z13,⟨Zr,Zr,Zr,Zr,Zr,⟨(show HO.cells [vi WD[i].rel.ver.a,vi WD[i].rel.ver.b,vi (Gw L WD[i].rel.ver j)]=.cells [vi WD[i].rel.ver.a,vi WD[i].rel.ver.b,vi (Gw L WD[i].rel.ver (j+1))] by rw[gR n4,bT,Aj h5]),rfl⟩,Tv⟩,Fh,Tv⟩
  have h4:¬((j:Int)<(((Jm L).map DE).length:Int)):=h4;have n4:=DP h4;refine Yi (fun h8=>?_) (fun h8=>?_)
  .have h8:(256:Int)<=((x.map AC).length:Int):=h8;exact absurd h8 (by rw[Lm];omega)
  have h8:¬((256:Int)<=((x.map AC).length:Int)):=h8;refine Yi (by show Bc (((Gw L WD[i].rel.ver j):Int)+(1:Int));unfold Bc;omega) ?_;refine yN (cU [(2,sl BF cl),(3,.ref 3 0),(4,.ref 4 0),(8,.ref 8 0),(10,.slice (.id 10 5) (((WD.take i).map (GU x sx a cl)).map Bu)),(12,.ref 12 0),(13,.ref 13 0),(37,sl CC WD),(38,vi (WD.map CC).length),(39,vi i)] [(3,.ro (Ic x ifs)),(4,.ro (BA a)),(8,.cells (Ic sx ifs)),(10,.tok 5 (((WD.take i).map (GU x sx a cl)).map Bu).length),(12,.cells (CC WD[i])),(13,.cells [vi WD[i].rel.ver.a,vi WD[i].rel.ver.b,vi ((Gw L WD[i].rel.ver j)+1)])] Z10 Z6 (Yi (fun UZ=>?_) (fun UZ=>?_)))
  .have UZ:(999:Int)<((Gw L WD[i].rel.ver j)+1:Int):=UZ;have em:Gw L WD[i].rel.ver j=ZW x a WD[i].rel.ver:=by rw[ZW,<-dV,Zu (Bl (DP h4))]
   have eb:au x a WD=2:=by rw[<-i2,x9 n3 ch]
   exact CX.trans (show CX _ (.tup [sl Bu [],vi 2])from CX.tup (show KX [nzA,vi 2] [sl Bu [],vi 2]from⟨CX.nil,CX.refl _,trivial⟩)) (CX.of_eq (by rw[eb];rfl))
  have UZ:¬((999:Int)<((Gw L WD[i].rel.ver j)+1:Int)):=UZ;refine yN (Xi .pure (Xi _ (Yi (xh (⟨WD[i].rel.ver.a,WD[i].rel.ver.b,Gw L WD[i].rel.ver j+1⟩:Ver)) (cU [(2,sl BF cl),(3,.ref 3 0),(4,.ref 4 0),(8,.ref 8 0),(10,.slice (.id 10 5) (((WD.take i).map (GU x sx a cl)).map Bu)),(12,.ref 12 0),(13,.ref 13 0),(16,vi (plc (⟨WD[i].rel.ver.a,WD[i].rel.ver.b,Gw L WD[i].rel.ver j+1⟩:Ver))),(37,sl CC WD),(38,vi (WD.map CC).length),(39,vi i)] [(3,.ro (Ic x ifs)),(4,.ro (BA a)),(8,.cells (Ic sx ifs)),(10,.tok 5 (((WD.take i).map (GU x sx a cl)).map Bu).length),(12,.cells (CC WD[i])),(13,.cells [vi WD[i].rel.ver.a,vi WD[i].rel.ver.b,vi ((Gw L WD[i].rel.ver j)+1)])] Z11 Z6 (yN (yN (Xi _ (Xi _ (Yi Wk (Yi (cS sx (AK AdO Cl) (fun e=>by have q:=List.length_pos_of_mem (hW _ (Ao n3)).2.1;rw[e]at OF;exact absurd OF (Nat.ne_of_lt q))) (yN ?_)))))))))));have xm:Cr 9 [[vs a.path,vi WD[i].rel.ver.a,vi WD[i].rel.ver.b,vi ((Gw L WD[i].rel.ver j)+1),sl AW WD[i].rel.reqs,vs ⟨#[]⟩,vs ⟨#[]⟩,vs ⟨#[]⟩,vb false]]/\(sx.map AC).length=(sx.map AC).length/\((sx.map AC).length+([[vs a.path,vi WD[i].rel.ver.a,vi WD[i].rel.ver.b,vi ((Gw L WD[i].rel.ver j)+1),sl AW WD[i].rel.reqs,vs ⟨#[]⟩,vs ⟨#[]⟩,vs ⟨#[]⟩,vb false]]:List (List AV)).length)*120<=140737488355328/\(sx.map AC).length+([[vs a.path,vi WD[i].rel.ver.a,vi WD[i].rel.ver.b,vi ((Gw L WD[i].rel.ver j)+1),sl AW WD[i].rel.reqs,vs ⟨#[]⟩,vs ⟨#[]⟩,vs ⟨#[]⟩,vb false]]:List (List AV)).length<=9223372036854775807:=⟨⟨rfl,trivial⟩,rfl,(by simp only[Lm,Al,Au];omega),(by simp only[Lm,Al,Au];omega)⟩;refine Yi xm (Xi _ (Yi (show PC 43 [.slice .none ((sx.map AC)++[[vs a.path,vi WD[i].rel.ver.a,vi WD[i].rel.ver.b,vi ((Gw L WD[i].rel.ver j)+1),sl AW WD[i].rel.reqs,vs ⟨#[]⟩,vs ⟨#[]⟩,vs ⟨#[]⟩,vb false]])] (.tup [sl AC (Fv (sx++[(⟨a.path,(⟨WD[i].rel.ver.a,WD[i].rel.ver.b,Gw L WD[i].rel.ver j+1⟩:Ver),WD[i].rel.reqs,⟨#[]⟩,⟨#[]⟩,⟨#[]⟩,false⟩:Rl)])),vi (A0 (DW CY ((sx++[(⟨a.path,(⟨WD[i].rel.ver.a,WD[i].rel.ver.b,Gw L WD[i].rel.ver j+1⟩:Ver),WD[i].rel.reqs,⟨#[]⟩,⟨#[]⟩,⟨#[]⟩,false⟩:Rl)])).length ((sx++[(⟨a.path,(⟨WD[i].rel.ver.a,WD[i].rel.ver.b,Gw L WD[i].rel.ver j+1⟩:Ver),WD[i].rel.reqs,⟨#[]⟩,⟨#[]⟩,⟨#[]⟩,false⟩:Rl)]))))]) by rw[<-show sl AC ((sx++[(⟨a.path,(⟨WD[i].rel.ver.a,WD[i].rel.ver.b,Gw L WD[i].rel.ver j+1⟩:Ver),WD[i].rel.reqs,⟨#[]⟩,⟨#[]⟩,⟨#[]⟩,false⟩:Rl)]))=.slice .none ((sx.map AC)++[[vs a.path,vi WD[i].rel.ver.a,vi WD[i].rel.ver.b,vi ((Gw L WD[i].rel.ver j)+1),sl AW WD[i].rel.reqs,vs ⟨#[]⟩,vs ⟨#[]⟩,vs ⟨#[]⟩,vb false]])from(show AV.slice .none (List.map AC ((sx++[(⟨a.path,(⟨WD[i].rel.ver.a,WD[i].rel.ver.b,Gw L WD[i].rel.ver j+1⟩:Ver),WD[i].rel.reqs,⟨#[]⟩,⟨#[]⟩,⟨#[]⟩,false⟩:Rl)])))=_ by rw[At];rfl)];exact iH (x:=(sx++[(⟨a.path,(⟨WD[i].rel.ver.a,WD[i].rel.ver.b,Gw L WD[i].rel.ver j+1⟩:Ver),WD[i].rel.reqs,⟨#[]⟩,⟨#[]⟩,⟨#[]⟩,false⟩:Rl)])) (by rw[Ac];show sx.length+1<=19;omega) (QL lw.few ha.path (hx.few _ (hW _ (Ao n3)).2.1).2) (Zt xK (np _ (hW _ (Ao n3)).2.1))) ?_));refine yN (Yi Wk (cU [(2,sl BF cl),(3,.ref 3 0),(4,.ref 4 0),(8,.ref 8 0),(10,.slice (.id 10 5) (((WD.take i).map (GU x sx a cl)).map Bu)),(12,.ref 12 0),(13,.ref 13 0),(16,vi (plc (⟨WD[i].rel.ver.a,WD[i].rel.ver.b,Gw L WD[i].rel.ver j+1⟩:Ver))),(18,.ref 18 0),(37,sl CC WD),(38,vi (WD.map CC).length),(39,vi i)] [(3,.ro (Ic x ifs)),(4,.ro (BA a)),(8,.cells (Ic sx ifs)),(10,.tok 5 (((WD.take i).map (GU x sx a cl)).map Bu).length),(12,.cells (CC WD[i])),(13,.cells [vi WD[i].rel.ver.a,vi WD[i].rel.ver.b,vi ((Gw L WD[i].rel.ver j)+1)]),(18,.cells [sl AC (Fv (sx++[(⟨a.path,(⟨WD[i].rel.ver.a,WD[i].rel.ver.b,Gw L WD[i].rel.ver j+1⟩:Ver),WD[i].rel.reqs,⟨#[]⟩,⟨#[]⟩,⟨#[]⟩,false⟩:Rl)])),.slice .none ifs])] Z12 Z7 (yN (Xi (BF (cl.getD WD[i].client [])) (Yi (Yi (Ip _) (yB (hW _ (Ao n3)).1)) (Yi rfl (Xi _ (Yi (s16 (Fv (sx++[(⟨a.path,(⟨WD[i].rel.ver.a,WD[i].rel.ver.b,Gw L WD[i].rel.ver j+1⟩:Ver),WD[i].rel.reqs,⟨#[]⟩,⟨#[]⟩,⟨#[]⟩,false⟩:Rl)])) ifs (cl.getD WD[i].client []) (ir (QL lw.few ha.path (hx.few _ (hW _ (Ao n3)).2.1).2)) (hcl _ (uR (hW _ (Ao n3)).1))) (Yi Wk (cU [(2,sl BF cl),(3,.ref 3 0),(4,.ref 4 0),(8,.ref 8 0),(10,.slice (.id 10 5) (((WD.take i).map (GU x sx a cl)).map Bu)),(12,.ref 12 0),(13,.ref 13 0),(16,vi (plc (⟨WD[i].rel.ver.a,WD[i].rel.ver.b,Gw L WD[i].rel.ver j+1⟩:Ver))),(20,vi (EV (Fv (sx++[(⟨a.path,(⟨WD[i].rel.ver.a,WD[i].rel.ver.b,Gw L WD[i].rel.ver j+1⟩:Ver),WD[i].rel.reqs,⟨#[]⟩,⟨#[]⟩,⟨#[]⟩,false⟩:Rl)])) (cl.getD WD[i].client []))),(37,sl CC WD),(38,vi (WD.map CC).length),(39,vi i)] [(3,.ro (Ic x ifs)),(4,.ro (BA a)),(8,.cells (Ic sx ifs)),(10,.tok 5 (((WD.take i).map (GU x sx a cl)).map Bu).length),(12,.cells (CC WD[i])),(13,.cells [vi WD[i].rel.ver.a,vi WD[i].rel.ver.b,vi ((Gw L WD[i].rel.ver j)+1)])] Z12 Z6 (yN (Yi (fun SM=>?_) (fun SM=>?_)))))))))))))
  .have SM:((EV (Fv (sx++[(⟨a.path,(⟨WD[i].rel.ver.a,WD[i].rel.ver.b,Gw L WD[i].rel.ver j+1⟩:Ver),WD[i].rel.reqs,⟨#[]⟩,⟨#[]⟩,⟨#[]⟩,false⟩:Rl)])) (cl.getD WD[i].client [])):Int)=(0:Int):=SM;refine BX (Bt (has a.set (plc (⟨WD[i].rel.ver.a,WD[i].rel.ver.b,Gw L WD[i].rel.ver j+1⟩:Ver)))) (fun PF=>?_) (fun PF=>?_)
   .have PF:(has a.set (plc (⟨WD[i].rel.ver.a,WD[i].rel.ver.b,Gw L WD[i].rel.ver j+1⟩:Ver)))=true:=PF;refine Xi _ (Yi (cb PF (lZ a.set (plc (⟨WD[i].rel.ver.a,WD[i].rel.ver.b,Gw L WD[i].rel.ver j+1⟩:Ver)) ha.set)) ?_);have b15:Cr 5 [[vi ((WD[i].client:Nat):Int),vi WD[i].rel.ver.a,vi WD[i].rel.ver.b,vi ((Gw L WD[i].rel.ver j)+1),vb false]]/\(((WD.take i).map (GU x sx a cl)).map Bu).length=(((WD.take i).map (GU x sx a cl)).map Bu).length/\((((WD.take i).map (GU x sx a cl)).map Bu).length+([[vi ((WD[i].client:Nat):Int),vi WD[i].rel.ver.a,vi WD[i].rel.ver.b,vi ((Gw L WD[i].rel.ver j)+1),vb false]]:List (List AV)).length)*40<=140737488355328/\(((WD.take i).map (GU x sx a cl)).map Bu).length+([[vi ((WD[i].client:Nat):Int),vi WD[i].rel.ver.a,vi WD[i].rel.ver.b,vi ((Gw L WD[i].rel.ver j)+1),vb false]]:List (List AV)).length<=9223372036854775807:=⟨⟨rfl,trivial⟩,rfl,(by simp only[Lm,Al,Au,Ax];omega),(by simp only[Lm,Al,Au,Ax];omega)⟩;refine Yi b15 (Yi Wk (cU [(2,sl BF cl),(3,.ref 3 0),(4,.ref 4 0),(8,.ref 8 0),(10,.slice (.id 10 5) ((((WD.take i).map (GU x sx a cl)).map Bu)++[[vi ((WD[i].client:Nat):Int),vi WD[i].rel.ver.a,vi WD[i].rel.ver.b,vi ((Gw L WD[i].rel.ver j)+1),vb false]])),(37,sl CC WD),(38,vi (WD.map CC).length),(39,vi i)] [(3,.ro (Ic x ifs)),(4,.ro (BA a)),(8,.cells (Ic sx ifs)),(10,.tok 5 ((((WD.take i).map (GU x sx a cl)).map Bu).length+([[vi ((WD[i].client:Nat):Int),vi WD[i].rel.ver.a,vi WD[i].rel.ver.b,vi ((Gw L WD[i].rel.ver j)+1),vb false]]:List (List AV)).length))] Z8 Z4 (Yi (Ii i ch) ?_)));have em:(⟨WD[i].rel.ver.a,WD[i].rel.ver.b,Gw L WD[i].rel.ver j+1⟩:Ver)=Wu x a WD[i].rel.ver:=by rw[Wu,ZW,<-dV,Zu (Bl (DP h4))]
    have eb:GU x sx a cl WD[i]=⟨WD[i].client,⟨WD[i].rel.ver.a,WD[i].rel.ver.b,Gw L WD[i].rel.ver j+1⟩,false⟩:=by rw[GU,XW,QO,<-em];congr 1;rw[Ak SM,PF];rfl
    have ew:((((WD.take i).map (GU x sx a cl)).map Bu)++[[vi ((WD[i].client:Nat):Int),vi WD[i].rel.ver.a,vi WD[i].rel.ver.b,vi ((Gw L WD[i].rel.ver j)+1),vb false]])=(((WD.take (i+1)).map (GU x sx a cl)).map Bu):=by rw[Ep n3,At,At];show _=_++[Bu (GU x sx a cl WD[i])];rw[eb]
    refine Xi ⟨i+1,n3,by rw[<-i2,lS n3 (by have q:=Aa Ver.c em;have q:Gw L WD[i].rel.ver j+1=ZW x a WD[i].rel.ver+1:=q;omega)]⟩ ?_;exact⟨Dl WD.length i ch,⟨Zr,Zr,Zr,Zr,⟨(Aa (AV.slice (.id 10 5)) ew),rfl⟩,Zr,Zr,Zr,Tv⟩,⟨Zr,Zr,Zr,⟨(show HO.tok 5 ((((WD.take i).map (GU x sx a cl)).map Bu).length+([[vi ((WD[i].client:Nat):Int),vi WD[i].rel.ver.a,vi WD[i].rel.ver.b,vi ((Gw L WD[i].rel.ver j)+1),vb false]]:List (List AV)).length)=.tok 5 (((WD.take (i+1)).map (GU x sx a cl)).map Bu).length from Aa (HO.tok 5) (Ac.symm.trans (Aa List.length ew))),rfl⟩,Tv⟩,Fh,Tv⟩
   have PF:(has a.set (plc (⟨WD[i].rel.ver.a,WD[i].rel.ver.b,Gw L WD[i].rel.ver j+1⟩:Ver)))=false:=PF;refine Xi _ (Yi (cb PF (lZ a.set (plc (⟨WD[i].rel.ver.a,WD[i].rel.ver.b,Gw L WD[i].rel.ver j+1⟩:Ver)) ha.set)) ?_);have b17:Cr 5 [[vi ((WD[i].client:Nat):Int),vi WD[i].rel.ver.a,vi WD[i].rel.ver.b,vi ((Gw L WD[i].rel.ver j)+1),vb true]]/\(((WD.take i).map (GU x sx a cl)).map Bu).length=(((WD.take i).map (GU x sx a cl)).map Bu).length/\((((WD.take i).map (GU x sx a cl)).map Bu).length+([[vi ((WD[i].client:Nat):Int),vi WD[i].rel.ver.a,vi WD[i].rel.ver.b,vi ((Gw L WD[i].rel.ver j)+1),vb true]]:List (List AV)).length)*40<=140737488355328/\(((WD.take i).map (GU x sx a cl)).map Bu).length+([[vi ((WD[i].client:Nat):Int),vi WD[i].rel.ver.a,vi WD[i].rel.ver.b,vi ((Gw L WD[i].rel.ver j)+1),vb true]]:List (List AV)).length<=9223372036854775807:=⟨⟨rfl,trivial⟩,rfl,(by simp only[Lm,Al,Au,Ax];omega),(by simp only[Lm,Al,Au,Ax];omega)⟩;refine Yi b17 (Yi Wk (cU [(2,sl BF cl),(3,.ref 3 0),(4,.ref 4 0),(8,.ref 8 0),(10,.slice (.id 10 5) ((((WD.take i).map (GU x sx a cl)).map Bu)++[[vi ((WD[i].client:Nat):Int),vi WD[i].rel.ver.a,vi WD[i].rel.ver.b,vi ((Gw L WD[i].rel.ver j)+1),vb true]])),(37,sl CC WD),(38,vi (WD.map CC).length),(39,vi i)] [(3,.ro (Ic x ifs)),(4,.ro (BA a)),(8,.cells (Ic sx ifs)),(10,.tok 5 ((((WD.take i).map (GU x sx a cl)).map Bu).length+([[vi ((WD[i].client:Nat):Int),vi WD[i].rel.ver.a,vi WD[i].rel.ver.b,vi ((Gw L WD[i].rel.ver j)+1),vb true]]:List (List AV)).length))] Z8 Z4 (Yi (Ii i ch) ?_)));have em:(⟨WD[i].rel.ver.a,WD[i].rel.ver.b,Gw L WD[i].rel.ver j+1⟩:Ver)=Wu x a WD[i].rel.ver:=by rw[Wu,ZW,<-dV,Zu (Bl (DP h4))]
   have eb:GU x sx a cl WD[i]=⟨WD[i].client,⟨WD[i].rel.ver.a,WD[i].rel.ver.b,Gw L WD[i].rel.ver j+1⟩,true⟩:=by rw[GU,XW,QO,<-em];congr 1;rw[Ak SM,PF];rfl
   have ew:((((WD.take i).map (GU x sx a cl)).map Bu)++[[vi ((WD[i].client:Nat):Int),vi WD[i].rel.ver.a,vi WD[i].rel.ver.b,vi ((Gw L WD[i].rel.ver j)+1),vb true]])=(((WD.take (i+1)).map (GU x sx a cl)).map Bu):=by rw[Ep n3,At,At];show _=_++[Bu (GU x sx a cl WD[i])];rw[eb]
   refine Xi ⟨i+1,n3,by rw[<-i2,lS n3 (by have q:=Aa Ver.c em;have q:Gw L WD[i].rel.ver j+1=ZW x a WD[i].rel.ver+1:=q;omega)]⟩ ?_;exact⟨Dl WD.length i ch,⟨Zr,Zr,Zr,Zr,⟨(Aa (AV.slice (.id 10 5)) ew),rfl⟩,Zr,Zr,Zr,Tv⟩,⟨Zr,Zr,Zr,⟨(show HO.tok 5 ((((WD.take i).map (GU x sx a cl)).map Bu).length+([[vi ((WD[i].client:Nat):Int),vi WD[i].rel.ver.a,vi WD[i].rel.ver.b,vi ((Gw L WD[i].rel.ver j)+1),vb true]]:List (List AV)).length)=.tok 5 (((WD.take (i+1)).map (GU x sx a cl)).map Bu).length from Aa (HO.tok 5) (Ac.symm.trans (Aa List.length ew))),rfl⟩,Tv⟩,Fh,Tv⟩
  have SM:¬(((EV (Fv (sx++[(⟨a.path,(⟨WD[i].rel.ver.a,WD[i].rel.ver.b,Gw L WD[i].rel.ver j+1⟩:Ver),WD[i].rel.reqs,⟨#[]⟩,⟨#[]⟩,⟨#[]⟩,false⟩:Rl)])) (cl.getD WD[i].client [])):Int)=(0:Int)):=SM;have b19:Cr 5 [[vi ((WD[i].client:Nat):Int),vi WD[i].rel.ver.a,vi WD[i].rel.ver.b,vi ((Gw L WD[i].rel.ver j)+1),vb false]]/\(((WD.take i).map (GU x sx a cl)).map Bu).length=(((WD.take i).map (GU x sx a cl)).map Bu).length/\((((WD.take i).map (GU x sx a cl)).map Bu).length+([[vi ((WD[i].client:Nat):Int),vi WD[i].rel.ver.a,vi WD[i].rel.ver.b,vi ((Gw L WD[i].rel.ver j)+1),vb false]]:List (List AV)).length)*40<=140737488355328/\(((WD.take i).map (GU x sx a cl)).map Bu).length+([[vi ((WD[i].client:Nat):Int),vi WD[i].rel.ver.a,vi WD[i].rel.ver.b,vi ((Gw L WD[i].rel.ver j)+1),vb false]]:List (List AV)).length<=9223372036854775807:=⟨⟨rfl,trivial⟩,rfl,(by simp only[Lm,Al,Au,Ax];omega),(by simp only[Lm,Al,Au,Ax];omega)⟩;refine Yi b19 (Yi Wk (cU [(2,sl BF cl),(3,.ref 3 0),(4,.ref 4 0),(8,.ref 8 0),(10,.slice (.id 10 5) ((((WD.take i).map (GU x sx a cl)).map Bu)++[[vi ((WD[i].client:Nat):Int),vi WD[i].rel.ver.a,vi WD[i].rel.ver.b,vi ((Gw L WD[i].rel.ver j)+1),vb false]])),(37,sl CC WD),(38,vi (WD.map CC).length),(39,vi i)] [(3,.ro (Ic x ifs)),(4,.ro (BA a)),(8,.cells (Ic sx ifs)),(10,.tok 5 ((((WD.take i).map (GU x sx a cl)).map Bu).length+([[vi ((WD[i].client:Nat):Int),vi WD[i].rel.ver.a,vi WD[i].rel.ver.b,vi ((Gw L WD[i].rel.ver j)+1),vb false]]:List (List AV)).length))] Z8 Z4 (Yi (Ii i ch) ?_)));have em:(⟨WD[i].rel.ver.a,WD[i].rel.ver.b,Gw L WD[i].rel.ver j+1⟩:Ver)=Wu x a WD[i].rel.ver:=by rw[Wu,ZW,<-dV,Zu (Bl (DP h4))]
  have eb:GU x sx a cl WD[i]=⟨WD[i].client,⟨WD[i].rel.ver.a,WD[i].rel.ver.b,Gw L WD[i].rel.ver j+1⟩,false⟩:=by rw[GU,XW,QO,<-em];congr 1;rw[Ae SM];rfl
  have ew:((((WD.take i).map (GU x sx a cl)).map Bu)++[[vi ((WD[i].client:Nat):Int),vi WD[i].rel.ver.a,vi WD[i].rel.ver.b,vi ((Gw L WD[i].rel.ver j)+1),vb false]])=(((WD.take (i+1)).map (GU x sx a cl)).map Bu):=by rw[Ep n3,At,At];show _=_++[Bu (GU x sx a cl WD[i])];rw[eb]
  refine Xi ⟨i+1,n3,by rw[<-i2,lS n3 (by have q:=Aa Ver.c em;have q:Gw L WD[i].rel.ver j+1=ZW x a WD[i].rel.ver+1:=q;omega)]⟩ ?_;exact⟨Dl WD.length i ch,⟨Zr,Zr,Zr,Zr,⟨(Aa (AV.slice (.id 10 5)) ew),rfl⟩,Zr,Zr,Zr,Tv⟩,⟨Zr,Zr,Zr,⟨(show HO.tok 5 ((((WD.take i).map (GU x sx a cl)).map Bu).length+([[vi ((WD[i].client:Nat):Int),vi WD[i].rel.ver.a,vi WD[i].rel.ver.b,vi ((Gw L WD[i].rel.ver j)+1),vb false]]:List (List AV)).length)=.tok 5 (((WD.take (i+1)).map (GU x sx a cl)).map Bu).length from Aa (HO.tok 5) (Ac.symm.trans (Aa List.length ew))),rfl⟩,Tv⟩,Fh,Tv⟩
 have h3:¬((i:Int)<((WD.map CC).length:Int)):=h3;have n3:=DP h3;have eb:au x a WD=0:=by rw[<-i2,CA (Bl (DP h3))];rfl
 exact CX.of_eq (show AV.tup [sl Bu ((WD.take i).map (GU x sx a cl)),vi 0]=_ by rw[eb,Ap rfl,Av (Bl (DP h3))])
theorem AaI(c0:¬Mf x [a]=0)(Wr:PC 62 [Iu x ifs,sl BA [a]] (.tup [.agg [nzA,nzA],vi (Mf x [a])])):PC 31 [.agg (Ic x ifs),.agg (BA a),sl BF cl] (.tup [sl Bu [],vi (Mf x [a])]):=by
 refine Ps (pT [3,4] [(10,5)] [2,6,11,15,16,20,23,25,26,27]) Tryz.func31 rfl (Nz rfl) (yN (yN (Xi .pure (Xi _ (Yi Wr (yN (cU [(2,sl BF cl),(3,.ref 3 0),(4,.ref 4 0),(8,.ref 8 0),(9,vi (Mf x [a]))] [(3,.ro (Ic x ifs)),(4,.ro (BA a)),(8,.cells [nzA,nzA])] Z5 Z3 (Yi (fun h1=>?_) (fun h1=>?_)))))))))
 .have h1:((Mf x [a]):Int)≠(0:Int):=h1;exact CX.tup (show KX [nzA,vi (Mf x [a])] [sl Bu [],vi (Mf x [a])]from⟨CX.nil,CX.refl _,trivial⟩)
 have h1:((Mf x [a]):Int)=(0:Int):=AH h1;exact absurd h1 c0
theorem wN(hl:B8 cl)(hcl:∀q∈cl,∀z∈q,JH z)(c1:(cl.any fun q=>!decide (BH q=0))=true)(Wr:PC 62 [Iu x ifs,sl BA [a]] (.tup [Iu sx ifs,vi 0])):PC 31 [.agg (Ic x ifs),.agg (BA a),sl BF cl] (.tup [sl Bu [],vi 1]):=by
 refine Ps (pT [3,4] [(10,5)] [2,6,11,15,16,20,23,25,26,27]) Tryz.func31 rfl (Nz rfl) (yN (yN (Xi .pure (Xi _ (Yi Wr (yN (cU [(2,sl BF cl),(3,.ref 3 0),(4,.ref 4 0),(8,.ref 8 0),(9,vi 0)] [(3,.ro (Ic x ifs)),(4,.ro (BA a)),(8,.cells (Ic sx ifs))] Z5 Z3 (Yi (fun h=>absurd h Cl) (fun _=>?_)))))))));refine Xi .pure (Xi _ (Yi (c1▸fL cl hl hcl) ?_));exact CX.tup (show KX [nzA,vi 1] [sl Bu [],vi 1]from⟨CX.nil,CX.refl _,trivial⟩)
abbrev Tn:List Rl:=yk true (VX [a]) x
def cZ:Int:=if Mf x [a]=0 then if(cl.any fun q=>!decide (BH q=0))=true then 1 else au x a (Kb x (Tn x a) a cl)else Mf x [a]
def HR:List Bk:=if cZ x a cl=0 then(Kb x (Tn x a) a cl).map (GU x (Tn x a) a cl)else []
theorem Ab2{y:Bool}{p:Sl->Bool}{x:List Rl}(h:∀r∈x,r.reqs.length<=n):∀r∈yk y p x,r.reqs.length<=n:=pX fun r hr=>⟨h r hr,h r hr⟩
theorem pz(hx:PI x)(np:∀r∈x,r.reqs.length<=1000)(ha:Ks a)(hl:B8 cl)(hcl:∀q∈cl,∀z∈q,JH z)(mX:PC 103 [.slice .none ifs] (.slice .none ifs)) :
  PC 31 [Iu x ifs,.agg (BA a),sl BF cl] (.tup [sl Bu (HR x a cl),vi (cZ x a cl)]):=by
 have Wr:=pK x ifs [a] hx.to19 np (show [a].length<=1073741824 from(Nz rfl)) (fun b hb=>by rw[Ar.1 hb];exact ha) mX;rw[sf]at Wr
 by_cases c0:Mf x [a]=0
 .rw[Ap c0]at Wr;have lw:PI (Tn x a):=⟨by rw[KU];exact hx.len,iL hx.few⟩;cases c1:cl.any fun q=>!decide (BH q=0)with
  |true=>
   have q:=wN x (Tn x a) ifs a cl hl hcl c1 Wr;have e:cZ x a cl=1:=by rw[cZ,Ap c0,Ap c1]
   rw[HR,e];exact q
  |false=>
   have q:=Afa x (Tn x a) ifs a cl (Kb x (Tn x a) a cl) _ rfl hx lw (Ab2 np) np ha hl hcl KU (fun w hw=>yA hw) (AK (Qk ..) hl) c1 Wr (wU x (Tn x a) ifs a cl hx.few lw.few hx.len ha.set hl hcl);have e:cZ x a cl=au x a (Kb x (Tn x a) a cl):=by rw[cZ,Ap c0,Aj (by rw[c1];exact Fy)]
   rw[HR,e];exact q
 .rw[Aj c0]at Wr;have q:=AaI x ifs a cl c0 Wr;have e:cZ x a cl=Mf x [a]:=by rw[cZ,Aj c0]
  rw[HR,e,Aj c0];exact q
deriving instance DecidableEq for Bk
theorem s5{x y:Bk}:pY (Bu x) (Bu y)↔x=y:=by
 obtain⟨c,⟨a1,a2,a3⟩,e⟩:=x;obtain⟨c',⟨b1,b2,b3⟩,e'⟩:=y;constructor
 .intro h;have h:((c:Nat):Int)=(c' : Nat)/\a1=b1/\a2=b2/\a3=b3/\e=e'/\True:=h;obtain⟨h1,h2,h3,h4,h5,_⟩:=h;rw[Int.natCast_inj.1 h1,h2,h3,h4,h5]
 .intro h;cases h;exact⟨rfl,rfl,rfl,rfl,rfl,trivial⟩
theorem z33(l m:List (Bk))(hl:B8 l):PC 33 [sl Bu l,sl Bu m] (vb (decide (l=m))):=by
 refine Ps Ej Tryz.func33 rfl (Nz rfl) (Yi ?_ ?_)
 .intro h;have h:¬((l.map Bu).length:Int)=(m.map Bu).length:=h
  have:l≠m:=fun e=>h (by rw[e])
  rw[Ae this];exact .refl _
 .intro h;have h:¬((l.map Bu).length:Int)≠(m.map Bu).length:=h;have CH:l.length=m.length:=by simp at h;omega
  refine Xi {i:Nat // i<=l.length/\l.take i=m.take i} (Xi (fun i=>⟨[(0,sl Bu l),(1,sl Bu m),(12,vi (l.map Bu).length),(13,vi i.1)],[],Ag⟩) (Xi (fun i=>l.length-i.1) (Yi (Xi ⟨0,by simp⟩ ?_) ?_)))
  .exact⟨Z4,Tv,Fh,Tv⟩
  .intro⟨i,h1,h2⟩;refine Yi ?_ ?_
   .intro h;have h:(i:Int)<(l.map Bu).length:=h;have h:i<l.length:=by simpa using h
    have h' : i<m.length:=by omega
    have hg:l[i]?=some l[i]:=Ge h;have TS:m[i]?=some m[i]:=Ge h';refine Xi (Bu l[i]) (Yi (Yi (Nn i) (by simp[hg])) (Yi rfl (yN ?_)));refine Xi (Bu m[i]) (Yi (Yi (Nn i) (by simp[TS])) (Yi rfl (yN ?_)));refine Yi ?_ ?_
    .intro h5;have e:l[i]=m[i]:=s5.1 h5;refine Yi Wk (Yi (by show Bc ((i:Int)+1);unfold B8 at hl;unfold Bc;omega) (Xi ⟨i+1,by omega,?_⟩ ?_))
     .rw[Bh,Bh,h2,hg,TS,e]
     .exact⟨Dl l.length i ch,Z4,Tv,Fh,Tv⟩
    .intro h5;refine Yi Wk ?_
     have:l≠m:=fun e=>h5 (s5.2 (by subst e;rfl))
     rw[Ae this];exact .refl _
   .intro h;have h:¬(i:Int)<(l.map Bu).length:=h;have h:¬i<l.length:=by simpa using h
    have e:l=m:=by
     rw[<-Av (l:=l) (i:=i) ch,h2,Av ch]
    rw[Ak e];exact .refl _
end Go.Eng
