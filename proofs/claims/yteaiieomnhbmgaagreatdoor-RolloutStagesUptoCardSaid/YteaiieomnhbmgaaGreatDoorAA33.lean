/- Lemmas 33. -/
import Derived.Test.YteaiieomnhbmgaaGreatDoorAA32
set_option maxHeartbeats 4000000
namespace Go.Eng
open Go.Proofs
attribute [local irreducible] KM ES Ez NG Mf Dj
theorem wh(x sx:List Rl)(ifs:List (List AV))(a:Ad)(cl:List (List Rq))(hx:∀r∈x,EG r)(pD:∀r∈sx,EG r)(Jn:x.length<=16)(ha:Cb a.set)(hl:Cb cl)(hcl:∀q∈cl,∀z∈q,Kd z):PC 65 [.agg (Ic x ifs),.agg (Ic sx ifs),.agg (Dc a),sl DL cl] (sl Cy (Lt x sx a cl)):=by
 have hl:cl.length<=1073741824:=hl;have SN:∀q,(ES x q).length<=1073741824:=fun q=>YN q Jn;refine Ps (pT [4,5,6] [(9,10)] [6,7,8,11]) Tryz.func65 rfl (Nz rfl) (Xi {q:Nat // q<=cl.length} (Xi (fun q=>⟨[(4,.ref 4 0),(5,.ref 5 0),(6,.ref 6 0),(9,.slice (.id 9 10) ((Lt x sx a (cl.take q.1)).map Cy)),(19,sl DL cl),(20,vi (cl.map DL).length),(21,vi q.1)],[(4,.ro (Ic x ifs)),(5,.ro (Ic sx ifs)),(6,.ro (Dc a)),(9,.tok 10 ((Lt x sx a (cl.take q.1)).map Cy).length)],Ae⟩) (Xi (fun q=>cl.length-q.1) (Yi (Xi ⟨0,Ax _⟩ ?_) ?_))))
 .exact⟨Z7,Z4,Fh,Tv⟩
 intro⟨i,i1⟩;have i1:i<=cl.length:=i1;have hq:(Lt x sx a (cl.take i)).length<=1073741824:=AI (UH _ _ _ _ _) (by rw[Au];omega);refine Yi (fun h1=>?_) (fun h1=>?_)
 .have h1:(i:Int)<((cl.map DL).length:Int):=h1;have n1:=FO h1;refine Xi (DL cl[i]) (Yi (JL n1) (Yi rfl (yN (Xi .pure (Xi _ (Yi (zY x ifs cl[i] hx (hcl _ (Aq n1))) (cU [(4,.ref 4 0),(5,.ref 5 0),(6,.ref 6 0),(9,.slice (.id 9 10) ((Lt x sx a (cl.take i)).map Cy)),(10,vi i),(11,sl Bb cl[i]),(12,sl Am (ES x cl[i])),(13,vi (KM x cl[i])),(19,sl DL cl),(20,vi (cl.map DL).length),(21,vi i)] [(4,.ro (Ic x ifs)),(5,.ro (Ic sx ifs)),(6,.ro (Dc a)),(9,.tok 10 ((Lt x sx a (cl.take i)).map Cy).length)] Z11 Z4 (Yi (fun h2=>?_) (fun h2=>?_)))))))))
  .have h2:((KM x cl[i]):Int)≠(0:Int):=h2;refine Yi (Ii i ch) ?_;have ew:((Lt x sx a (cl.take i)).map Cy)=((Lt x sx a (cl.take (i+1))).map Cy):=by rw[TF n1,Aj (by rw[NG,AD h2];exact KF),BP]
   refine Xi ⟨i+1,n1⟩ ?_;exact⟨Dl cl.length i ch,⟨Zr,Zr,Zr,⟨(Aa (AV.slice (.id 9 10)) ew),rfl⟩,Zr,Zr,Zr,Tv⟩,⟨Zr,Zr,Zr,⟨(show HO.tok 10 ((Lt x sx a (cl.take i)).map Cy).length=.tok 10 ((Lt x sx a (cl.take (i+1))).map Cy).length from Aa (HO.tok 10) (Aa List.length ew)),rfl⟩,Tv⟩,Fh,Tv⟩
  have h2:((KM x cl[i]):Int)=(0:Int):=AJ h2;refine yN (Cf (Bt ((ES x cl[i]).any (Mf a))) (fun h4=>?_) (fun h4=>?_))
  .have h4:((ES x cl[i]).any (Mf a))=true:=h4;refine Xi .pure (Xi _ (Yi (cb h4 (cj a (ES x cl[i]) ha (YN cl[i] Jn))) (cU [(4,.ref 4 0),(5,.ref 5 0),(6,.ref 6 0),(9,.slice (.id 9 10) ((Lt x sx a (cl.take i)).map Cy)),(10,vi i),(11,sl Bb cl[i]),(12,sl Am (ES x cl[i])),(19,sl DL cl),(20,vi (cl.map DL).length),(21,vi i)] [(4,.ro (Ic x ifs)),(5,.ro (Ic sx ifs)),(6,.ro (Dc a)),(9,.tok 10 ((Lt x sx a (cl.take i)).map Cy).length)] Z10 Z4 (yN (Xi .pure (Xi _ (Yi (zY sx ifs cl[i] pD (hcl _ (Aq n1))) (cU [(4,.ref 4 0),(5,.ref 5 0),(6,.ref 6 0),(9,.slice (.id 9 10) ((Lt x sx a (cl.take i)).map Cy)),(10,vi i),(12,sl Am (ES x cl[i])),(15,vi (KM sx cl[i])),(19,sl DL cl),(20,vi (cl.map DL).length),(21,vi i)] [(4,.ro (Ic x ifs)),(5,.ro (Ic sx ifs)),(6,.ro (Dc a)),(9,.tok 10 ((Lt x sx a (cl.take i)).map Cy).length)] Z10 Z4 (Yi (fun h5=>?_) (fun h5=>?_))))))))))
   .have h5:((KM sx cl[i]):Int)=(0:Int):=h5;refine Yi (Ii i ch) ?_;have ew:((Lt x sx a (cl.take i)).map Cy)=((Lt x sx a (cl.take (i+1))).map Cy):=by rw[TF n1,Aj (by rw[NG,Ay h5,Bool.not_true,Dw];exact KF),BP]
    refine Xi ⟨i+1,n1⟩ ?_;exact⟨Dl cl.length i ch,⟨Zr,Zr,Zr,⟨(Aa (AV.slice (.id 9 10)) ew),rfl⟩,Zr,Zr,Zr,Tv⟩,⟨Zr,Zr,Zr,⟨(show HO.tok 10 ((Lt x sx a (cl.take i)).map Cy).length=.tok 10 ((Lt x sx a (cl.take (i+1))).map Cy).length from Aa (HO.tok 10) (Aa List.length ew)),rfl⟩,Tv⟩,Fh,Tv⟩
   have h5:¬(((KM sx cl[i]):Int)=(0:Int)):=h5;obtain⟨k,hk,yB,IQ⟩:=cp h2 h4;refine Xi .pure (Xi _ (Yi (show PC 108 [sl Am (ES x cl[i]),.clo 109 [.cptr (Dc a)]] (vi ((k:Nat):Int))from yB▸o70 (fF:=109) (De.ptr _) (ES x cl[i]) (ZH a) (fun y _=>Aae y a) (Nat.lt_of_le_of_lt (SN cl[i]) Cl)) (yN (Xi (Am ((ES x cl[i])[k])) (Yi (JL hk) (Yi rfl (Xi (Am ((ES x cl[i])[k])) (Yi (JL hk) (Yi rfl (yN (Xi _ (Yi (by have q:=c53 x ifs (ES x cl[i])[k].path (ES x cl[i])[k].ver (c84 x ifs hx) hx;rw[IQ]at q;exact q) ?_))))))))))));refine yN (Yi Wk (cU [(4,.ref 4 0),(5,.ref 5 0),(6,.ref 6 0),(9,.slice (.id 9 10) ((Lt x sx a (cl.take i)).map Cy)),(10,vi i),(17,.ref 17 0),(19,sl DL cl),(20,vi (cl.map DL).length),(21,vi i)] [(4,.ro (Ic x ifs)),(5,.ro (Ic sx ifs)),(6,.ro (Dc a)),(9,.tok 10 ((Lt x sx a (cl.take i)).map Cy).length),(17,.cells (AF (Ez x a cl[i])))] Z9 Z5 (yN ?_)));have b7:B5 10 [[vi i,vs (Ez x a cl[i]).path,vi (Ez x a cl[i]).ver.a,vi (Ez x a cl[i]).ver.b,vi (Ez x a cl[i]).ver.c,sl Bb (Ez x a cl[i]).reqs,vs (Ez x a cl[i]).arch,vs (Ez x a cl[i]).ifc,vs (Ez x a cl[i]).cert,vb (Ez x a cl[i]).yanked]]/\((Lt x sx a (cl.take i)).map Cy).length=((Lt x sx a (cl.take i)).map Cy).length/\(((Lt x sx a (cl.take i)).map Cy).length+([[vi i,vs (Ez x a cl[i]).path,vi (Ez x a cl[i]).ver.a,vi (Ez x a cl[i]).ver.b,vi (Ez x a cl[i]).ver.c,sl Bb (Ez x a cl[i]).reqs,vs (Ez x a cl[i]).arch,vs (Ez x a cl[i]).ifc,vs (Ez x a cl[i]).cert,vb (Ez x a cl[i]).yanked]]:List (List AV)).length)*128<=140737488355328/\((Lt x sx a (cl.take i)).map Cy).length+([[vi i,vs (Ez x a cl[i]).path,vi (Ez x a cl[i]).ver.a,vi (Ez x a cl[i]).ver.b,vi (Ez x a cl[i]).ver.c,sl Bb (Ez x a cl[i]).reqs,vs (Ez x a cl[i]).arch,vs (Ez x a cl[i]).ifc,vs (Ez x a cl[i]).cert,vb (Ez x a cl[i]).yanked]]:List (List AV)).length<=9223372036854775807:=⟨⟨rfl,trivial⟩,rfl,(by simp only[Lm,Ag,Ao];omega),(by simp only[Lm,Ag,Ao];omega)⟩;refine Yi b7 (Yi (Ii i ch) ?_);have ew:(((Lt x sx a (cl.take i)).map Cy)++[[vi i,vs (Ez x a cl[i]).path,vi (Ez x a cl[i]).ver.a,vi (Ez x a cl[i]).ver.b,vi (Ez x a cl[i]).ver.c,sl Bb (Ez x a cl[i]).reqs,vs (Ez x a cl[i]).arch,vs (Ez x a cl[i]).ifc,vs (Ez x a cl[i]).cert,vb (Ez x a cl[i]).yanked]])=((Lt x sx a (cl.take (i+1))).map Cy):=by rw[TF n1,Al (by rw[NG,Ay h2,h4,AD h5];rfl),As];rfl
   refine Xi ⟨i+1,n1⟩ ?_;exact⟨Dl cl.length i ch,⟨Zr,Zr,Zr,⟨(Aa (AV.slice (.id 9 10)) ew),rfl⟩,Zr,Zr,Zr,Tv⟩,⟨Zr,Zr,Zr,⟨(show HO.tok 10 (((Lt x sx a (cl.take i)).map Cy).length+([[vi i,vs (Ez x a cl[i]).path,vi (Ez x a cl[i]).ver.a,vi (Ez x a cl[i]).ver.b,vi (Ez x a cl[i]).ver.c,sl Bb (Ez x a cl[i]).reqs,vs (Ez x a cl[i]).arch,vs (Ez x a cl[i]).ifc,vs (Ez x a cl[i]).cert,vb (Ez x a cl[i]).yanked]]:List (List AV)).length)=.tok 10 ((Lt x sx a (cl.take (i+1))).map Cy).length from Aa (HO.tok 10) (Ac.symm.trans (Aa List.length ew))),rfl⟩,Tv⟩,Fh,Tv⟩
  have h4:((ES x cl[i]).any (Mf a))=false:=h4;refine Xi .pure (Xi _ (Yi (cb h4 (cj a (ES x cl[i]) ha (YN cl[i] Jn))) (Yi (Ii i ch) ?_)));have ew:((Lt x sx a (cl.take i)).map Cy)=((Lt x sx a (cl.take (i+1))).map Cy):=by rw[TF n1,Aj (by rw[NG,h4,Dw];exact KF),BP]
  refine Xi ⟨i+1,n1⟩ ?_;exact⟨Dl cl.length i ch,⟨Zr,Zr,Zr,⟨(Aa (AV.slice (.id 9 10)) ew),rfl⟩,Zr,Zr,Zr,Tv⟩,⟨Zr,Zr,Zr,⟨(show HO.tok 10 ((Lt x sx a (cl.take i)).map Cy).length=.tok 10 ((Lt x sx a (cl.take (i+1))).map Cy).length from Aa (HO.tok 10) (Aa List.length ew)),rfl⟩,Tv⟩,Fh,Tv⟩
 have h1:¬((i:Int)<((cl.map DL).length:Int)):=h1;have n1:=DP h1;exact CV.of_eq (show sl Cy (Lt x sx a (cl.take i))=sl Cy (Lt x sx a cl) by rw[At (l:=cl) (i:=i) (Bm (DP h1))])
end Go.Eng
namespace Go.Eng
open Go.Proofs
variable {caps:List AV}{q:List Rq}{i fF n k:Nat}(x sx:List Rl)(ifs:List (List AV))(a:Ad)(v:Ver)(cl:List (List Rq))(w:Wd)
abbrev nK(p:ByteArray):List Rl:=x.filter fun r=>decide (r.path=p)
def Ju(l:List Rl):List Ver:=l.map (·.ver)
theorem rT{l:List Rl}(h:i<l.length):Ju (l.take (i+1))=Ju (l.take i)++[l[i].ver]:=by
 rw[BM h,Ju,As];rfl
theorem wu(p:ByteArray)(L:List Rl)(dx:L=nK x p)(hx:∀r∈x,EG r)(h0:A5 x=0)(Jn:x.length<=16)(DH:∃r∈x,r.path=p):PC 66 [.agg (Ic x ifs),vs p] (sl DO (Ju L)):=by
 have dw:PC 82 [MU x ifs] (.tup [.agg [.cmap ZJ (x.map Wm),.cmap Cq ((AW x []).map (qQ x))],vi 0]):=by have q:=c84 x ifs hx;unfold kE WO at q;rw[Al h0]at q;exact q
 have hLl:L.length<=16:=by have q:=Bw (fun r:Rl=>decide (r.path=p)) x;rw[dx];exact AI q Jn
 refine Ps (pT [2] [(7,3)] [2,7]) Tryz.func66 rfl (Nz rfl) (yN (Xi .pure (Xi _ (Yi dw (yN (cU [(1,vs p),(5,.ref 5 0)] [(5,.cells [.cmap ZJ (x.map Wm),.cmap Cq ((AW x []).map (qQ x))])] Z2 Z1 (Yi (fun a ha=>?_) (fun Od=>absurd (Ai.2 ⟨p,(G6 x [] p).2 (.inr DH),rfl⟩) (Od _)))))))));have ea:a=sl AF L:=by rw[dx];exact fV ha
 subst ea;refine Xi {q:Nat // q<=L.length} (Xi (fun q=>⟨[(7,.slice (.id 7 3) ((Ju (L.take q.1)).map DO)),(18,sl AF L),(19,vi (L.map AF).length),(20,vi q.1)],[(7,.tok 3 ((Ju (L.take q.1)).map DO).length)],Ae⟩) (Xi (fun q=>L.length-q.1) (Yi (Xi ⟨0,Ax _⟩ ?_) ?_)))
 .exact⟨Z4,Z1,Fh,Tv⟩
 intro⟨i,i1⟩;have i1:i<=L.length:=i1;have hq:(Ju (L.take i)).length<=1073741824:=by rw[Ju,Lm,Au];omega
 refine Yi (fun h1=>?_) (fun h1=>?_)
 .have h1:(i:Int)<((L.map AF).length:Int):=h1;have n1:=FO h1;refine Xi (AF L[i]) (Yi (JL n1) (Yi rfl (yN (yN (yN ?_)))));have b2:B5 3 [[vi L[i].ver.a,vi L[i].ver.b,vi L[i].ver.c]]/\((Ju (L.take i)).map DO).length=((Ju (L.take i)).map DO).length/\(((Ju (L.take i)).map DO).length+([[vi L[i].ver.a,vi L[i].ver.b,vi L[i].ver.c]]:List (List AV)).length)*24<=140737488355328/\((Ju (L.take i)).map DO).length+([[vi L[i].ver.a,vi L[i].ver.b,vi L[i].ver.c]]:List (List AV)).length<=9223372036854775807:=⟨⟨rfl,trivial⟩,rfl,(by simp only[Lm,Ag,Ao];omega),(by simp only[Lm,Ag,Ao];omega)⟩;refine Yi b2 (cU [(7,.slice (.id 7 3) (((Ju (L.take i)).map DO)++[[vi L[i].ver.a,vi L[i].ver.b,vi L[i].ver.c]])),(18,sl AF L),(19,vi (L.map AF).length),(20,vi i)] [(7,.tok 3 (((Ju (L.take i)).map DO).length+([[vi L[i].ver.a,vi L[i].ver.b,vi L[i].ver.c]]:List (List AV)).length))] Z4 Z1 (Yi (Ii i ch) ?_));have ew:(((Ju (L.take i)).map DO)++[[vi L[i].ver.a,vi L[i].ver.b,vi L[i].ver.c]])=((Ju (L.take (i+1))).map DO):=by rw[rT n1,As];rfl
  refine Xi ⟨i+1,n1⟩ ?_;exact⟨Dl L.length i ch,⟨⟨(Aa (AV.slice (.id 7 3)) ew),rfl⟩,Zr,Zr,Zr,Tv⟩,⟨⟨(show HO.tok 3 (((Ju (L.take i)).map DO).length+([[vi L[i].ver.a,vi L[i].ver.b,vi L[i].ver.c]]:List (List AV)).length)=.tok 3 ((Ju (L.take (i+1))).map DO).length from Aa (HO.tok 3) (Ac.symm.trans (Aa List.length ew))),rfl⟩,Tv⟩,Fh,Tv⟩
 have h1:¬((i:Int)<((L.map AF).length:Int)):=h1;have n1:=DP h1;exact CV.of_eq (show sl DO (Ju (L.take i))=sl DO (Ju L) by rw[At (l:=L) (i:=i) (Bm (DP h1))])
theorem Aab(q:List Rq)(hq:∀z∈q,Kd z):PC 63 [sl Bb q] (vb (!decide (BN q=0))):=by
 refine Ps El Tryz.func63 rfl (Nz rfl) (Xi .pure (Xi _ (Yi (c65 Ww q hq) (Yi (fun h1=>?_) (fun h1=>?_)))))
 .have h1:((BN q):Int)≠(0:Int):=h1;exact CV.of_eq (Aa vb (show true=!decide (BN q=0) by rw[AD h1];rfl))
 have h1:((BN q):Int)=(0:Int):=AJ h1;exact CV.of_eq (Aa vb (show false=!decide (BN q=0) by rw[Ay h1];rfl))
theorem z61(hs:De caps)(l:List (List Rq))(p:List Rq->Bool)(hF:∀x∈l,PC fF ([sl Bb x]++caps) (vb (p x)))(hl:l.length<9223372036854775807) :
  PC 61 [sl DL l,.clo fF caps] (vi (JK p l 0)):=by
 refine Ps El Tryz.func61 rfl (Nz rfl) (Xi {i:Nat // i<=l.length/\∀j (hj:j<l.length),j<i->p l[j]=false} (Xi (fun i=>⟨[(0,sl DL l),(1,.clo fF caps),(7,vi (l.map DL).length),(8,vi i.1)],[],Ae⟩) (Xi (fun i=>l.length-i.1) (Yi (Xi ⟨0,by simp⟩ ?_) ?_))))
 .exact⟨⟨Zr,⟨rfl,hs.ids _⟩,Zr,Zr,Tv⟩,Tv,Fh,Tv⟩
 .intro⟨i,h1,h2⟩;refine Yi ?_ ?_
  .intro h;have h:(i:Int)<(l.map DL).length:=h;have h:i<l.length:=by simpa using h
   have hg:l[i]?=some l[i]:=Ge h;refine Xi (DL l[i]) (Yi (Yi (Nn i) (by simp[hg])) (Yi rfl ?_));have Cg:∀h,PC fF ([sl Bb l[i]]++caps.map (str0 h)) (vb (p l[i])):=fun h=>by rw[hs.map];exact hF l[i] (Aq _)
   cases hp:p l[i]with
   |true=>
    rw[hp]at Cg;refine Xi .pure (Xi (vb true) (Yi (Cg _) ?_));rw[HT h (fun j hj JX=>h2 j hj JX) hp,EI];exact .refl _
   |false=>
    rw[hp]at Cg;refine Xi .pure (Xi (vb false) (Yi (Cg _) (Yi (Ii i ch) (Xi ⟨i+1,by omega,fun j hj JX=>?_⟩ ?_))))
    .by_cases e:j=i
     .subst e;exact hp
     .exact h2 j hj ch
    .exact⟨Dl l.length i ch,⟨Zr,⟨rfl,hs.ids _⟩,Zr,Zr,Tv⟩,Tv,Fh,Tv⟩
  .intro h;have h:¬(i:Int)<(l.map DL).length:=h;have h:¬i<l.length:=by simpa using h
   rw[GA fun j hj=>h2 j hj ch];exact .refl _
theorem z28(hs:De caps)(l:List (List Rq))(p:List Rq->Bool)(hF:∀x∈l,PC fF ([sl Bb x]++caps) (vb (p x)))(hl:Cb l) :
  PC 28 [sl DL l,.clo fF caps] (vb (l.any p)):=by
 refine Ps El Tryz.func28 rfl (Nz rfl) ?_;have hi:=z61 hs l p hF (by unfold Cb at hl;omega);have Cg:∀h,PC 61 [sl DL l,.clo fF (caps.map (str0 h))] (vi (JK p l 0)):=fun h=>by rw[hs.map];exact hi
 refine Xi .pure (Xi _ (Yi (Cg _) ?_));have ha:=HN (p:=p) l 0 (Bu 0);refine Yi ?_ ?_
 .intro h;have h:(0:Int)<=JK p l 0:=h;rw[<-ha,Ay h];exact .refl _
 .intro h;have h:¬(0:Int)<=JK p l 0:=h;rw[<-ha,AD h];exact .refl _
theorem eX(hl:Cb cl)(h:∀q∈cl,∀z∈q,Kd z):PC 28 [sl DL cl,.v (.func (.func 63) #[] #[])] (vb (cl.any fun q=>!decide (BN q=0))):=
 (z28 (fF:=63) De.nil cl (fun q=>!decide (BN q=0)) (fun q hq=>Aab q (h q hq)) hl).args ⟨.refl _,.fn _,trivial⟩
theorem sb(hx:x.length<=19)(hc:∀r∈x,PC 83 [.agg (AF r)] (.agg (AF r)))(hk:Ba Tryz.prog 86 [.agg [.msl 1000 ((Ei DC x.length x).map AF).length,nzA]] (Ap [(1000,.arr 9 ((Ei DC x.length x).map AF))] Ae) fun r h'=>r=vi 0/\h'=Ap [(1000,.arr 9 ((Ei DC x.length x).map AF))] Ae):PC 43 [sl AF x] (.tup [sl AF (Ei DC x.length x),vi 0]):=by
 refine Ps ⟨[],[],[(4,9)],[],[],[],[],[],[],[(200011,4)],[7,8,11]⟩ Tryz.func43 rfl (Nz rfl) (Xi {q:Nat // q<=x.length} (Xi (fun q=>⟨[(4,.msl 4 (x.take q.1).length),(8,sl AF x),(9,vi (x.map AF).length),(10,vi q.1)],[(4,.arr 9 ((x.take q.1).map AF))],Ae⟩) (Xi (fun q=>x.length-q.1) (Yi (Xi ⟨0,Ax _⟩ ?_) ?_))))
 .exact⟨Z4,Z1,Fh,Tv⟩
 intro⟨i,i1⟩;have i1:i<=x.length:=i1;refine Yi (fun h1=>?_) (fun h1=>?_)
 .have h1:(i:Int)<((x.map AF).length:Int):=h1;have n1:=FO h1;refine Xi (AF x[i]) (Yi (JL n1) (Yi rfl (yN (yN (yN (Xi .pure (Xi _ (Yi (hc x[i] (Aq n1)) ?_))))))));have b2:B5 9 [(AF x[i])]/\((x.take i).map AF).length=(x.take i).length/\(((x.take i).map AF).length+([(AF x[i])]:List (List AV)).length)*120<=140737488355328/\((x.take i).map AF).length+([(AF x[i])]:List (List AV)).length<=9223372036854775807:=⟨⟨rfl,trivial⟩,(by rw[Lm]),(by simp only[Lm,Ag,Ao,Au];omega),(by simp only[Lm,Ag,Ao,Au];omega)⟩;refine Yi b2 (Yi (Ii i ch) (Xi ⟨i+1,n1⟩ ?_));exact⟨Dl x.length i ch,⟨⟨(show AV.msl 4 (((x.take i).map AF).length+([AF x[i]]:List (List AV)).length)=.msl 4 (x.take (i+1)).length by rw[Ew n1,Ac,Lm];rfl),rfl⟩,Zr,Zr,Zr,Tv⟩,⟨⟨(show HO.arr 9 ((x.take i).map AF++[AF x[i]])=.arr 9 ((x.take (i+1)).map AF) by rw[Ew n1,As];rfl),rfl⟩,Tv⟩,Fh,Tv⟩
 have h1:¬((i:Int)<((x.map AF).length:Int)):=h1;have n1:=DP h1;have ei:x.take i=x:=At ch;refine cU [(4,.msl 4 x.length)] [(4,.arr 9 (x.map AF))] ⟨⟨(show AV.msl 4 (x.take i).length=.msl 4 x.length by rw[ei]),rfl⟩,Tv⟩ ⟨⟨(show HO.arr 9 ((x.take i).map AF)=.arr 9 (x.map AF) by rw[ei]),rfl⟩,Tv⟩ ?_
 refine Xi (.gen [(4,1000)] 0) (Yi rfl (Ba.to2 (v105 x hx) ?_));refine cU [(4,.msl 4 ((Ei DC x.length x).map AF).length)] [(4,.arr 9 ((Ei DC x.length x).map AF))] ⟨⟨(show AV.msl 4 x.length=.msl 4 ((Ei DC x.length x).map AF).length by rw[Lm,LL]),rfl⟩,Tv⟩ Z1 ?_
 refine Xi (.gen [(4,1000)] 0) (Yi rfl (Ba.to2 hk ?_));refine Yi (fun h=>absurd h Cl) (fun _=>?_);refine Yi rfl (cU [(4,sl AF (Ei DC x.length x))] [] Z1 Tv ?_)
 exact .refl _
theorem o8{x:List Rl}(h:x.length<=19)(hf:∀r∈x,EG r)(hr:∀r∈x,r.reqs.length<=1000)(hc:A5 (Ei DC x.length x)=0):PC 43 [sl AF x] (.tup [sl AF (Ei DC x.length x),vi 0]):=by
 have hk:=Jd.lend (sz:=9) (es:=(Ei DC x.length x).map AF) (vs:=[.slice none 0 0]) (wC (x:=Ei DC x.length x) fun r hr=>hf r (Nl DC _ _ r hr));rw[hc]at hk;exact sb x h (fun r hm=>c98 r (hr r hm) fun q hq=>((hf r hm).2 q hq).1) hk
theorem kz{x:List Rl}(h:x.length<=19)(hf:∀r∈x,EG r)(hr:∀r∈x,r.reqs.length<=1000)(hc:A5 (Ei DC x.length x)≠0):PC 43 [sl AF x] (.tup [nzA,vi (A5 (Ei DC x.length x))]):=by
 have hk:=Jd.lend (sz:=9) (es:=(Ei DC x.length x).map AF) (vs:=[.slice none 0 0]) (wC (x:=Ei DC x.length x) fun r hr=>hf r (Nl DC _ _ r hr));exact Aew x h (fun r hm=>c98 r (hr r hm) fun q hq=>((hf r hm).2 q hq).1) _ hc hk
def TA:List Rl:=if A5 (Ei DC x.length x)=0 then Ei DC x.length x else []
theorem sa{x:List Rl}(h:x.length<=19)(hf:∀r∈x,EG r)(hr:∀r∈x,r.reqs.length<=1000):PC 43 [sl AF x] (.tup [sl AF (TA x),vi (A5 (Ei DC x.length x))]):=by
 by_cases hc:A5 (Ei DC x.length x)=0
 .have q:=o8 h hf hr hc;rw[TA,Al hc,hc];exact q
 .have q:=kz h hf hr hc;rw[TA,Aj hc];exact Ba.mono q fun _ _ ⟨e1,e2⟩=>⟨_,e1▸CV.tup (show Lb [nzA,vi _] [sl AF [],vi _]from⟨CV.nil,CV.refl _,trivial⟩),rfl,e2⟩
theorem oV(l:List Rl)(hl:l.length<=256)(DH:l≠[]):Ba Tryz.prog 44 [sl AF l] Ae fun r h'=>r=.slice (.id 2000 9) (l.map AF)/\h'=Ap [(2000,.tok 9 (l.map AF).length)] Ae:=by
 show Ba Tryz.prog _ _ (Ap [] Ae) _;refine Cu (M7 El) [(5,2000)] rfl Da hm rfl Tryz.func44 Wk rfl (Nz rfl) Wk rfl ?_;have HC:B5 9 (l.map AF)/\([]:List (List AV)).length=0/\(([]:List (List AV)).length+(l.map AF).length)*120<=140737488355328/\([]:List (List AV)).length+(l.map AF).length<=9223372036854775807:=by
  refine⟨Ea (enc:=AF) (n:=9) (fun _=>rfl) l,rfl,?_,?_⟩<;>simp only[Ao,Lm]<;>omega
 refine Yi ?_ ?_
 .intro _;refine Yi HC ?_;exact Xi _ (Yi (.refl _) ⟨rfl,Eq.trans (b:=Ap [(2000,.tok 9 (([]:List (List AV)).length+(l.map AF).length))] Ae) rfl (by rw[Ao,Bg])⟩)
 .intro h;have h:l.map AF=[]:=h;exact absurd (DN.1 h) DH
structure Bk where
 client:Nat
 ver:Ver
 enough:Bool
abbrev B4(b:Bk):List AV:=[vi ((b.client:Nat):Int),vi b.ver.a,vi b.ver.b,vi b.ver.c,vb b.enough]
def pF(b:Int)(c:Int)(v:Ver):Int:=if v.b=b then max c v.c else c
def Gw(L:List Rl)(v:Ver)(n:Nat):Int:=((Ju L).take n).foldl (pF v.b) v.c
def kQ:Int:=(Ju (nK x a.path)).foldl (pF v.b) v.c
def re:Ver:=⟨v.a,v.b,kQ x a v+1⟩
def qY:Rl:=⟨a.path,re x a w.rel.ver,w.rel.reqs,⟨#[]⟩,⟨#[]⟩,⟨#[]⟩,false⟩
def gi:List Rl:=TA (sx++[qY x a w])
def H5:Bk:=⟨w.client,re x a w.rel.ver,decide (KM (gi x sx a w) (cl.getD w.client [])=0)&&!has a.set (plc (re x a w.rel.ver))⟩
def fq(x:List Rl)(a:Ad):List Wd->Int
 | []=>0
 |w::r=>if 999<kQ x a w.rel.ver+1 then 2 else fq x a r
theorem lq{x:List Rl}{a:Ad}{l:List Wd}(h:i<l.length)(k:¬999<kQ x a l[i].rel.ver+1):fq x a (l.drop i)=fq x a (l.drop (i+1)):=by rw[AH h,fq,Aj k]
theorem xq{x:List Rl}{a:Ad}{l:List Wd}(h:i<l.length)(k:999<kQ x a l[i].rel.ver+1):fq x a (l.drop i)=2:=by rw[AH h,fq,Al k]
theorem gm{L:List Rl}{v:Ver}(h:n<(Ju L).length):Gw L v (n+1)=pF v.b (Gw L v n) (Ju L)[n]:=by
 rw[Gw,BM h,Ef];rfl
theorem Zc{L:List Rl}{v:Ver}(h:(Ju L).length<=n):Gw L v n=(Ju L).foldl (pF v.b) v.c:=by rw[Gw,At h]
theorem aC{x sx:List Rl}{a:Ad}{w:Wd}:∀{l:List (List Rq)} {i:Nat},w∈Rz x sx a l i->i<=w.client/\w.client<i+l.length/\NG x sx a (l.getD (w.client-i) [])=true/\w.rel=Ez x a (l.getD (w.client-i) [])
 | [],i,h=>by cases h
 |q::l,i,h=>by
  have tail:w∈Rz x sx a l (i+1)->i<=w.client/\w.client<i+(q::l).length/\NG x sx a ((q::l).getD (w.client-i) [])=true/\w.rel=Ez x a ((q::l).getD (w.client-i) []):=fun h=>by
   obtain⟨h1,h2,h3,h4⟩:=aC h;have e:w.client-i=(w.client-(i+1))+1:=by omega
   refine⟨by omega,by rw[Ag];omega,?_,?_⟩
   .rw[e,List.getD_cons_succ];exact h3
   .rw[e,List.getD_cons_succ];exact h4
  rw[Rz]at h;split at h
  .rename_i hw;rcases AA.1 h with rfl | h
   .refine⟨Ak _,(by rw[Ag];show i<i+(l.length+1);omega),?_,?_⟩
    .show NG x sx a ((q::l).getD (i-i) [])=true;rw[Ff];exact hw
    .show Ez x a q=Ez x a ((q::l).getD (i-i) []);rw[Ff];rfl
   .exact tail h
  .exact tail h
theorem rC{x:List Rl}{a:Ad}(h:KM x q=0)(hc:(ES x q).any (Mf a)=true):Ez x a q∈x/\(Ez x a q).path=a.path/\A5 x=0:=by
 obtain⟨k,hk,h1,h2⟩:=cp h hc;have h0:=(QZ h).2.2;rw[Dj,Aj (by rw[h0];decide)]at h2;have hm:=BG h2;have hp:=DT h2;have hp:=AU hp;refine⟨hm,?_,h0⟩;have e1:(Ez x a q).path=(ES x q)[k].path:=Aa Sl.path hp;rw[e1];have hi:JK (ZH a) (ES x q) 0=((k:Nat):Int):=h1;have Du:(ES x q).findIdx (ZH a)<(ES x q).length:=by
  obtain⟨y,hy,hb⟩:=Be.1 hc;simp only[Mf,Af]at hb;exact List.findIdx_lt_length_of_exists ⟨y,hy,hb.1.2⟩
 have ZD:ZH a (ES x q)[(ES x q).findIdx (ZH a)]=true:=List.findIdx_getElem (w:=Du);have Ri:∀j (hj:j<(ES x q).length),j<(ES x q).findIdx (ZH a)->ZH a (ES x q)[j]=false:=fun j hj JX=>by
  have q:=List.not_of_lt_findIdx JX;simpa using q
 rw[HT Du Ri ZD]at hi
 have:k=(ES x q).findIdx (ZH a):=by omega
 subst this;exact AU ZD
theorem xP{x sx:List Rl}{a:Ad}{cl:List (List Rq)}{w:Wd}(h:w∈Lt x sx a cl):w.client<cl.length/\w.rel∈x/\w.rel.path=a.path/\A5 x=0:=by
 obtain⟨_,h2,h3,h4⟩:=aC h;rw[NG]at h3;simp only[Af]at h3;have q:=rC (AU h3.1.1) h3.1.2;rw[h4];exact⟨by omega,q⟩
theorem xQ{cl:List (List Rq)}(h:k<cl.length):(cl.map DL)[k]?=some (DL (cl.getD k [])):=by rw[AG,Ge h];simp[List.getD,h]
theorem uo{cl:List (List Rq)}(h:k<cl.length):cl.getD k []∈cl:=by
 have e:cl.getD k []=cl[k]:=by simp[List.getD,h]
 rw[e];exact Aq h
theorem bv{sx:List Rl}{p:ByteArray}{v:Ver}(h:∀r∈sx,EG r)(hp:Gp p)(hq:∀z∈q,Kd z):∀r∈sx++[(⟨p,v,q,⟨#[]⟩,⟨#[]⟩,⟨#[]⟩,false⟩:Rl)],EG r:=fun r hr=>by
 rcases AO.1 hr with k | k
 .exact h r k
 .rw[Ar.1 k];exact⟨hp,hq⟩
theorem qW{sx:List Rl}{p:ByteArray}{v:Ver}(h:∀r∈sx,r.reqs.length<=1000)(hq:q.length<=1000):∀r∈sx++[(⟨p,v,q,⟨#[]⟩,⟨#[]⟩,⟨#[]⟩,false⟩:Rl)],r.reqs.length<=1000:=fun r hr=>by
 rcases AO.1 hr with k | k
 .exact h r k
 .rw[Ar.1 k];exact hq
theorem rO{x:List Rl}(h:∀r∈x,EG r):∀r∈TA x,EG r:=fun r hr=>by
 rw[TA]at hr;split at hr
 .exact h r (Nl DC _ _ r hr)
 .cases hr
theorem zz{r:Rl}(h:D3 r=0):0<=r.ver.c/\r.ver.c<=999:=by
 unfold D3 at h;split at h
 .cases h
 .by_cases hv:Cw r.ver=true
  .rw[Cw]at hv;simp only[Af,AC]at hv;exact hv.2
  .rw[T2]at hv;rw[hv]at h;exact absurd (show(2:Int)=0 from h) Cl
theorem aI{b:Int}:∀(l:List Ver) (c:Int),(∀v∈l,0<=v.c/\v.c<=999)->0<=c/\c<=999->0<=l.foldl (pF b) c/\l.foldl (pF b) c<=999
 | [],c,_,h=>h
 |v::l,c,hl,h=>aI l (pF b c v) (fun u hu=>hl u (Ah _ hu)) (by have q:=hl v (Ab ..);unfold pF;split<;>omega)
theorem Aez(WD:List Wd)(L:List Rl)(dx:L=nK x a.path)(hx:T5 x)(pD:T5 sx)(w7:∀r∈sx,r.reqs.length<=1000)(yZ:∀r∈x,r.reqs.length<=1000)(ha:M0 a)(hl:Cb cl)(hcl:∀q∈cl,∀z∈q,Kd z)(SN:sx.length=x.length)(hW:∀w∈WD,w.client<cl.length/\w.rel∈x/\w.rel.path=a.path/\A5 x=0)(hWl:Cb WD)(c1:(cl.any fun q=>!decide (BN q=0))=false)(kH:PC 62 [MU x ifs,sl Dc [a]] (.tup [MU sx ifs,vi 0]))(h65:PC 65 [MU x ifs,MU sx ifs,.agg (Dc a),sl DL cl] (sl Cy WD)):PC 31 [.agg (Ic x ifs),.agg (Dc a),sl DL cl] (.tup [sl B4 (if fq x a WD=0 then WD.map (H5 x sx a cl)else []),vi (fq x a WD)]):=by
 have za:x.length<=16:=hx.len;have Adf:sx.length<=16:=pD.len;have Acp:L.length<=16:=by have q:=Bw (fun r:Rl=>decide (r.path=a.path)) x;rw[dx];exact AI q za
 have AhI:(Ju L).length<=16:=by rw[Ju,Lm];exact Acp
 have mF:∀w∈WD,∀j,Gw L w.rel.ver j<=999/\0<=Gw L w.rel.ver j:=fun w hw j=>by
  have h0:=(ZZ.1 (hW w hw).2.2.2).2.1;have q:=aI (b:=w.rel.ver.b) ((Ju L).take j) w.rel.ver.c (fun v hv=>by obtain⟨r,hr,rfl⟩:=Ai.1 (CU hv);exact zz (h0 r (Bz.1 (dx▸hr)).1)) (zz (h0 _ (hW w hw).2.1));exact⟨q.2,q.1⟩
 refine Ps ⟨[3,4],[(10,5)],[],[],[],[],[],[],[(87,3)],[],[2,6,11,15,16,20,23,25,26,27]⟩ Tryz.func31 rfl (Nz rfl) (yN (yN (Xi .pure (Xi _ (Yi kH (yN (cU [(2,sl DL cl),(3,.ref 3 0),(4,.ref 4 0),(8,.ref 8 0),(9,vi 0)] [(3,.ro (Ic x ifs)),(4,.ro (Dc a)),(8,.cells (Ic sx ifs))] Z5 Z3 (Yi (fun h=>absurd h Cl) (fun _=>?_)))))))));refine Cf (Bt (cl.any fun q=>!decide (BN q=0))) (fun h1=>?_) (fun h1=>?_)
 .refine Xi .pure (Xi _ (Yi (cb h1 (eX cl hl hcl)) ?_));exact absurd (h1.symm.trans c1) Cl
 refine Xi .pure (Xi _ (Yi (cb h1 (eX cl hl hcl)) (cU [(2,sl DL cl),(3,.ref 3 0),(4,.ref 4 0),(8,.ref 8 0)] [(3,.ro (Ic x ifs)),(4,.ro (Dc a)),(8,.cells (Ic sx ifs))] Z4 Z3 (yN (yN (yN (Xi .pure (Xi _ (Yi h65 (Xi {q:Nat // q<=WD.length/\fq x a (WD.drop q)=fq x a WD} (Xi (fun q=>⟨[(2,sl DL cl),(3,.ref 3 0),(4,.ref 4 0),(8,.ref 8 0),(10,.slice (.id 10 5) (((WD.take q.1).map (H5 x sx a cl)).map B4)),(37,sl Cy WD),(38,vi (WD.map Cy).length),(39,vi q.1)],[(3,.ro (Ic x ifs)),(4,.ro (Dc a)),(8,.cells (Ic sx ifs)),(10,.tok 5 (((WD.take q.1).map (H5 x sx a cl)).map B4).length)],Ae⟩) (Xi (fun q=>WD.length-q.1) (Yi (Xi ⟨0,Ax _,rfl⟩ ?_) ?_)))))))))))))
 .exact⟨Z8,Z4,Fh,Tv⟩
 intro⟨i,i1,i2⟩;refine Yi (fun h3=>?_) (fun h3=>?_)
 .have h3:(i:Int)<((WD.map Cy).length:Int):=h3;have n3:=FO h3;refine Xi (Cy WD[i]) (Yi (JL n3) (Yi rfl (yN (yN (yN (yN (cU [(2,sl DL cl),(3,.ref 3 0),(4,.ref 4 0),(8,.ref 8 0),(10,.slice (.id 10 5) (((WD.take i).map (H5 x sx a cl)).map B4)),(12,.ref 12 0),(13,.ref 13 0),(37,sl Cy WD),(38,vi (WD.map Cy).length),(39,vi i)] [(3,.ro (Ic x ifs)),(4,.ro (Dc a)),(8,.cells (Ic sx ifs)),(10,.tok 5 (((WD.take i).map (H5 x sx a cl)).map B4).length),(12,.cells (Cy WD[i])),(13,.cells [vi WD[i].rel.ver.a,vi WD[i].rel.ver.b,vi WD[i].rel.ver.c])] Z10 Z6 (yN (Xi .pure (Xi _ (Yi (wu x ifs a.path L dx hx.few (hW _ (Aq n3)).2.2.2 hx.len ⟨_,(hW _ (Aq n3)).2.1,(hW _ (Aq n3)).2.2.1⟩) (Xi {q:Nat // q<=(Ju L).length} (Xi (fun q=>⟨[(2,sl DL cl),(3,.ref 3 0),(4,.ref 4 0),(8,.ref 8 0),(10,.slice (.id 10 5) (((WD.take i).map (H5 x sx a cl)).map B4)),(12,.ref 12 0),(13,.ref 13 0),(37,sl Cy WD),(38,vi (WD.map Cy).length),(39,vi i),(49,sl DO (Ju L)),(50,vi ((Ju L).map DO).length),(51,vi q.1)],[(3,.ro (Ic x ifs)),(4,.ro (Dc a)),(8,.cells (Ic sx ifs)),(10,.tok 5 (((WD.take i).map (H5 x sx a cl)).map B4).length),(12,.cells (Cy WD[i])),(13,.cells [vi WD[i].rel.ver.a,vi WD[i].rel.ver.b,vi (Gw L WD[i].rel.ver q.1)])],Ae⟩) (Xi (fun q=>(Ju L).length-q.1) (Yi (Xi ⟨0,Ax _⟩ ?_) ?_)))))))))))))))
  .exact⟨Z13,Z6,Fh,Tv⟩
  intro⟨j,j1⟩;have j1:j<=(Ju L).length:=j1;have jm:=mF WD[i] (Aq ch) j;refine Yi (fun h4=>?_) (fun h4=>?_)
  .have h4:(j:Int)<(((Ju L).map DO).length:Int):=h4;have n4:=FO h4;refine Xi (DO ((Ju L)[j])) (Yi (JL n4) (Yi rfl (yN (yN (Yi (fun h5=>?_) (fun h5=>?_))))))
   .have h5:(((Ju L)[j]).b:Int)=(WD[i].rel.ver.b:Int):=h5;refine cU [(2,sl DL cl),(3,.ref 3 0),(4,.ref 4 0),(8,.ref 8 0),(10,.slice (.id 10 5) (((WD.take i).map (H5 x sx a cl)).map B4)),(12,.ref 12 0),(13,.ref 13 0),(15,.ref 15 0),(37,sl Cy WD),(38,vi (WD.map Cy).length),(39,vi i),(49,sl DO (Ju L)),(50,vi ((Ju L).map DO).length),(51,vi j)] [(3,.ro (Ic x ifs)),(4,.ro (Dc a)),(8,.cells (Ic sx ifs)),(10,.tok 5 (((WD.take i).map (H5 x sx a cl)).map B4).length),(12,.cells (Cy WD[i])),(13,.cells [vi WD[i].rel.ver.a,vi WD[i].rel.ver.b,vi (Gw L WD[i].rel.ver j)]),(15,.cells (DO ((Ju L)[j])))] ⟨Zr,Zr,Zr,Zr,Zr,Zr,Zr,Zr,Zr,Zr,Zr,Zr,Zr,Zr,Tv⟩ Z7 (yN (cU [(2,sl DL cl),(3,.ref 3 0),(4,.ref 4 0),(8,.ref 8 0),(10,.slice (.id 10 5) (((WD.take i).map (H5 x sx a cl)).map B4)),(12,.ref 12 0),(13,.ref 13 0),(37,sl Cy WD),(38,vi (WD.map Cy).length),(39,vi i),(49,sl DO (Ju L)),(50,vi ((Ju L).map DO).length),(51,vi j)] [(3,.ro (Ic x ifs)),(4,.ro (Dc a)),(8,.cells (Ic sx ifs)),(10,.tok 5 (((WD.take i).map (H5 x sx a cl)).map B4).length),(12,.cells (Cy WD[i])),(13,.cells [vi WD[i].rel.ver.a,vi WD[i].rel.ver.b,vi (max (Gw L WD[i].rel.ver j) ((Ju L)[j]).c)])] Z13 Z6 (Yi (Ii j ch) (Xi ⟨j+1,n4⟩ ?_))));exact⟨by show(Ju L).length-(j+1)<(Ju L).length-j;omega,Z13,⟨Zr,Zr,Zr,Zr,Zr,⟨(show HO.cells [vi WD[i].rel.ver.a,vi WD[i].rel.ver.b,vi (max (Gw L WD[i].rel.ver j) ((Ju L)[j]).c)]=.cells [vi WD[i].rel.ver.a,vi WD[i].rel.ver.b,vi (Gw L WD[i].rel.ver (j+1))] by rw[gm n4,pF,Al h5]),rfl⟩,Tv⟩,Fh,Tv⟩
   have h5:¬((((Ju L)[j]).b:Int)=(WD[i].rel.ver.b:Int)):=h5;refine cU [(2,sl DL cl),(3,.ref 3 0),(4,.ref 4 0),(8,.ref 8 0),(10,.slice (.id 10 5) (((WD.take i).map (H5 x sx a cl)).map B4)),(12,.ref 12 0),(13,.ref 13 0),(37,sl Cy WD),(38,vi (WD.map Cy).length),(39,vi i),(49,sl DO (Ju L)),(50,vi ((Ju L).map DO).length),(51,vi j)] [(3,.ro (Ic x ifs)),(4,.ro (Dc a)),(8,.cells (Ic sx ifs)),(10,.tok 5 (((WD.take i).map (H5 x sx a cl)).map B4).length),(12,.cells (Cy WD[i])),(13,.cells [vi WD[i].rel.ver.a,vi WD[i].rel.ver.b,vi (Gw L WD[i].rel.ver j)])] Z13 Z6 (Yi (Ii j ch) (Xi ⟨j+1,n4⟩ ?_));exact⟨by show(Ju L).length-(j+1)<(Ju L).length-j;omega,Z13,⟨Zr,Zr,Zr,Zr,Zr,⟨(show HO.cells [vi WD[i].rel.ver.a,vi WD[i].rel.ver.b,vi (Gw L WD[i].rel.ver j)]=.cells [vi WD[i].rel.ver.a,vi WD[i].rel.ver.b,vi (Gw L WD[i].rel.ver (j+1))] by rw[gm n4,pF,Aj h5]),rfl⟩,Tv⟩,Fh,Tv⟩
  have h4:¬((j:Int)<(((Ju L).map DO).length:Int)):=h4;have n4:=DP h4;refine Yi (fun h8=>?_) (fun h8=>?_)
  .have h8:(256:Int)<=((x.map AF).length:Int):=h8;exact absurd h8 (by rw[Lm];omega)
  have h8:¬((256:Int)<=((x.map AF).length:Int)):=h8;refine Yi (by show AX (((Gw L WD[i].rel.ver j):Int)+(1:Int));unfold AX;omega) ?_;refine yN (cU [(2,sl DL cl),(3,.ref 3 0),(4,.ref 4 0),(8,.ref 8 0),(10,.slice (.id 10 5) (((WD.take i).map (H5 x sx a cl)).map B4)),(12,.ref 12 0),(13,.ref 13 0),(37,sl Cy WD),(38,vi (WD.map Cy).length),(39,vi i)] [(3,.ro (Ic x ifs)),(4,.ro (Dc a)),(8,.cells (Ic sx ifs)),(10,.tok 5 (((WD.take i).map (H5 x sx a cl)).map B4).length),(12,.cells (Cy WD[i])),(13,.cells [vi WD[i].rel.ver.a,vi WD[i].rel.ver.b,vi ((Gw L WD[i].rel.ver j)+1)])] Z10 Z6 (Yi (fun Wz=>?_) (fun Wz=>?_)))
  .have Wz:(999:Int)<((Gw L WD[i].rel.ver j)+1:Int):=Wz;have em:Gw L WD[i].rel.ver j=kQ x a WD[i].rel.ver:=by rw[kQ,<-dx,Zc (Bm (DP h4))]
   have eb:fq x a WD=2:=by rw[<-i2,xq n3 ch]
   exact CV.trans (show CV _ (.tup [sl B4 [],vi 2])from CV.tup (show Lb [nzA,vi 2] [sl B4 [],vi 2]from⟨CV.nil,CV.refl _,trivial⟩)) (CV.of_eq (by rw[eb];rfl))
  have Wz:¬((999:Int)<((Gw L WD[i].rel.ver j)+1:Int)):=Wz;refine yN (Xi .pure (Xi _ (Yi (wD (⟨WD[i].rel.ver.a,WD[i].rel.ver.b,Gw L WD[i].rel.ver j+1⟩:Ver)) (cU [(2,sl DL cl),(3,.ref 3 0),(4,.ref 4 0),(8,.ref 8 0),(10,.slice (.id 10 5) (((WD.take i).map (H5 x sx a cl)).map B4)),(12,.ref 12 0),(13,.ref 13 0),(16,vi (plc (⟨WD[i].rel.ver.a,WD[i].rel.ver.b,Gw L WD[i].rel.ver j+1⟩:Ver))),(37,sl Cy WD),(38,vi (WD.map Cy).length),(39,vi i)] [(3,.ro (Ic x ifs)),(4,.ro (Dc a)),(8,.cells (Ic sx ifs)),(10,.tok 5 (((WD.take i).map (H5 x sx a cl)).map B4).length),(12,.cells (Cy WD[i])),(13,.cells [vi WD[i].rel.ver.a,vi WD[i].rel.ver.b,vi ((Gw L WD[i].rel.ver j)+1)])] Z11 Z6 (yN (yN (Xi _ (Xi _ (Yi Wk (Yi (oV sx (AI Adf Cl) (fun e=>by have q:=List.length_pos_of_mem (hW _ (Aq n3)).2.1;rw[e]at SN;exact absurd SN (Nat.ne_of_lt q))) (yN ?_)))))))))));have wJ:B5 9 [[vs a.path,vi WD[i].rel.ver.a,vi WD[i].rel.ver.b,vi ((Gw L WD[i].rel.ver j)+1),sl Bb WD[i].rel.reqs,vs ⟨#[]⟩,vs ⟨#[]⟩,vs ⟨#[]⟩,vb false]]/\(sx.map AF).length=(sx.map AF).length/\((sx.map AF).length+([[vs a.path,vi WD[i].rel.ver.a,vi WD[i].rel.ver.b,vi ((Gw L WD[i].rel.ver j)+1),sl Bb WD[i].rel.reqs,vs ⟨#[]⟩,vs ⟨#[]⟩,vs ⟨#[]⟩,vb false]]:List (List AV)).length)*120<=140737488355328/\(sx.map AF).length+([[vs a.path,vi WD[i].rel.ver.a,vi WD[i].rel.ver.b,vi ((Gw L WD[i].rel.ver j)+1),sl Bb WD[i].rel.reqs,vs ⟨#[]⟩,vs ⟨#[]⟩,vs ⟨#[]⟩,vb false]]:List (List AV)).length<=9223372036854775807:=⟨⟨rfl,trivial⟩,rfl,(by simp only[Lm,Ag,Ao];omega),(by simp only[Lm,Ag,Ao];omega)⟩;refine Yi wJ (Xi _ (Yi (show PC 43 [.slice .none ((sx.map AF)++[[vs a.path,vi WD[i].rel.ver.a,vi WD[i].rel.ver.b,vi ((Gw L WD[i].rel.ver j)+1),sl Bb WD[i].rel.reqs,vs ⟨#[]⟩,vs ⟨#[]⟩,vs ⟨#[]⟩,vb false]])] (.tup [sl AF (TA (sx++[(⟨a.path,(⟨WD[i].rel.ver.a,WD[i].rel.ver.b,Gw L WD[i].rel.ver j+1⟩:Ver),WD[i].rel.reqs,⟨#[]⟩,⟨#[]⟩,⟨#[]⟩,false⟩:Rl)])),vi (A5 (Ei DC ((sx++[(⟨a.path,(⟨WD[i].rel.ver.a,WD[i].rel.ver.b,Gw L WD[i].rel.ver j+1⟩:Ver),WD[i].rel.reqs,⟨#[]⟩,⟨#[]⟩,⟨#[]⟩,false⟩:Rl)])).length ((sx++[(⟨a.path,(⟨WD[i].rel.ver.a,WD[i].rel.ver.b,Gw L WD[i].rel.ver j+1⟩:Ver),WD[i].rel.reqs,⟨#[]⟩,⟨#[]⟩,⟨#[]⟩,false⟩:Rl)]))))]) by rw[<-show sl AF ((sx++[(⟨a.path,(⟨WD[i].rel.ver.a,WD[i].rel.ver.b,Gw L WD[i].rel.ver j+1⟩:Ver),WD[i].rel.reqs,⟨#[]⟩,⟨#[]⟩,⟨#[]⟩,false⟩:Rl)]))=.slice .none ((sx.map AF)++[[vs a.path,vi WD[i].rel.ver.a,vi WD[i].rel.ver.b,vi ((Gw L WD[i].rel.ver j)+1),sl Bb WD[i].rel.reqs,vs ⟨#[]⟩,vs ⟨#[]⟩,vs ⟨#[]⟩,vb false]])from(show AV.slice .none (List.map AF ((sx++[(⟨a.path,(⟨WD[i].rel.ver.a,WD[i].rel.ver.b,Gw L WD[i].rel.ver j+1⟩:Ver),WD[i].rel.reqs,⟨#[]⟩,⟨#[]⟩,⟨#[]⟩,false⟩:Rl)])))=_ by rw[As];rfl)];exact sa (x:=(sx++[(⟨a.path,(⟨WD[i].rel.ver.a,WD[i].rel.ver.b,Gw L WD[i].rel.ver j+1⟩:Ver),WD[i].rel.reqs,⟨#[]⟩,⟨#[]⟩,⟨#[]⟩,false⟩:Rl)])) (by rw[Ac];show sx.length+1<=19;omega) (bv pD.few ha.path (hx.few _ (hW _ (Aq n3)).2.1).2) (qW w7 (yZ _ (hW _ (Aq n3)).2.1))) ?_));refine yN (Yi Wk (cU [(2,sl DL cl),(3,.ref 3 0),(4,.ref 4 0),(8,.ref 8 0),(10,.slice (.id 10 5) (((WD.take i).map (H5 x sx a cl)).map B4)),(12,.ref 12 0),(13,.ref 13 0),(16,vi (plc (⟨WD[i].rel.ver.a,WD[i].rel.ver.b,Gw L WD[i].rel.ver j+1⟩:Ver))),(18,.ref 18 0),(37,sl Cy WD),(38,vi (WD.map Cy).length),(39,vi i)] [(3,.ro (Ic x ifs)),(4,.ro (Dc a)),(8,.cells (Ic sx ifs)),(10,.tok 5 (((WD.take i).map (H5 x sx a cl)).map B4).length),(12,.cells (Cy WD[i])),(13,.cells [vi WD[i].rel.ver.a,vi WD[i].rel.ver.b,vi ((Gw L WD[i].rel.ver j)+1)]),(18,.cells [sl AF (TA (sx++[(⟨a.path,(⟨WD[i].rel.ver.a,WD[i].rel.ver.b,Gw L WD[i].rel.ver j+1⟩:Ver),WD[i].rel.reqs,⟨#[]⟩,⟨#[]⟩,⟨#[]⟩,false⟩:Rl)])),.slice .none ifs])] Z12 Z7 (yN (Xi (DL (cl.getD WD[i].client [])) (Yi (Yi (KG _) (xQ (hW _ (Aq n3)).1)) (Yi rfl (Xi _ (Yi (zY (TA (sx++[(⟨a.path,(⟨WD[i].rel.ver.a,WD[i].rel.ver.b,Gw L WD[i].rel.ver j+1⟩:Ver),WD[i].rel.reqs,⟨#[]⟩,⟨#[]⟩,⟨#[]⟩,false⟩:Rl)])) ifs (cl.getD WD[i].client []) (rO (bv pD.few ha.path (hx.few _ (hW _ (Aq n3)).2.1).2)) (hcl _ (uo (hW _ (Aq n3)).1))) (Yi Wk (cU [(2,sl DL cl),(3,.ref 3 0),(4,.ref 4 0),(8,.ref 8 0),(10,.slice (.id 10 5) (((WD.take i).map (H5 x sx a cl)).map B4)),(12,.ref 12 0),(13,.ref 13 0),(16,vi (plc (⟨WD[i].rel.ver.a,WD[i].rel.ver.b,Gw L WD[i].rel.ver j+1⟩:Ver))),(20,vi (KM (TA (sx++[(⟨a.path,(⟨WD[i].rel.ver.a,WD[i].rel.ver.b,Gw L WD[i].rel.ver j+1⟩:Ver),WD[i].rel.reqs,⟨#[]⟩,⟨#[]⟩,⟨#[]⟩,false⟩:Rl)])) (cl.getD WD[i].client []))),(37,sl Cy WD),(38,vi (WD.map Cy).length),(39,vi i)] [(3,.ro (Ic x ifs)),(4,.ro (Dc a)),(8,.cells (Ic sx ifs)),(10,.tok 5 (((WD.take i).map (H5 x sx a cl)).map B4).length),(12,.cells (Cy WD[i])),(13,.cells [vi WD[i].rel.ver.a,vi WD[i].rel.ver.b,vi ((Gw L WD[i].rel.ver j)+1)])] Z12 Z6 (yN (Yi (fun SI=>?_) (fun SI=>?_)))))))))))))
  .have SI:((KM (TA (sx++[(⟨a.path,(⟨WD[i].rel.ver.a,WD[i].rel.ver.b,Gw L WD[i].rel.ver j+1⟩:Ver),WD[i].rel.reqs,⟨#[]⟩,⟨#[]⟩,⟨#[]⟩,false⟩:Rl)])) (cl.getD WD[i].client [])):Int)=(0:Int):=SI;refine Cf (Bt (has a.set (plc (⟨WD[i].rel.ver.a,WD[i].rel.ver.b,Gw L WD[i].rel.ver j+1⟩:Ver)))) (fun US=>?_) (fun US=>?_)
   .have US:(has a.set (plc (⟨WD[i].rel.ver.a,WD[i].rel.ver.b,Gw L WD[i].rel.ver j+1⟩:Ver)))=true:=US;refine Xi _ (Yi (cb US (lz a.set (plc (⟨WD[i].rel.ver.a,WD[i].rel.ver.b,Gw L WD[i].rel.ver j+1⟩:Ver)) ha.set)) ?_);have b15:B5 5 [[vi ((WD[i].client:Nat):Int),vi WD[i].rel.ver.a,vi WD[i].rel.ver.b,vi ((Gw L WD[i].rel.ver j)+1),vb false]]/\(((WD.take i).map (H5 x sx a cl)).map B4).length=(((WD.take i).map (H5 x sx a cl)).map B4).length/\((((WD.take i).map (H5 x sx a cl)).map B4).length+([[vi ((WD[i].client:Nat):Int),vi WD[i].rel.ver.a,vi WD[i].rel.ver.b,vi ((Gw L WD[i].rel.ver j)+1),vb false]]:List (List AV)).length)*40<=140737488355328/\(((WD.take i).map (H5 x sx a cl)).map B4).length+([[vi ((WD[i].client:Nat):Int),vi WD[i].rel.ver.a,vi WD[i].rel.ver.b,vi ((Gw L WD[i].rel.ver j)+1),vb false]]:List (List AV)).length<=9223372036854775807:=⟨⟨rfl,trivial⟩,rfl,(by simp only[Lm,Ag,Ao,Au];omega),(by simp only[Lm,Ag,Ao,Au];omega)⟩;refine Yi b15 (Yi Wk (cU [(2,sl DL cl),(3,.ref 3 0),(4,.ref 4 0),(8,.ref 8 0),(10,.slice (.id 10 5) ((((WD.take i).map (H5 x sx a cl)).map B4)++[[vi ((WD[i].client:Nat):Int),vi WD[i].rel.ver.a,vi WD[i].rel.ver.b,vi ((Gw L WD[i].rel.ver j)+1),vb false]])),(37,sl Cy WD),(38,vi (WD.map Cy).length),(39,vi i)] [(3,.ro (Ic x ifs)),(4,.ro (Dc a)),(8,.cells (Ic sx ifs)),(10,.tok 5 ((((WD.take i).map (H5 x sx a cl)).map B4).length+([[vi ((WD[i].client:Nat):Int),vi WD[i].rel.ver.a,vi WD[i].rel.ver.b,vi ((Gw L WD[i].rel.ver j)+1),vb false]]:List (List AV)).length))] Z8 Z4 (Yi (Ii i ch) ?_)));have em:(⟨WD[i].rel.ver.a,WD[i].rel.ver.b,Gw L WD[i].rel.ver j+1⟩:Ver)=re x a WD[i].rel.ver:=by rw[re,kQ,<-dx,Zc (Bm (DP h4))]
    have eb:H5 x sx a cl WD[i]=⟨WD[i].client,⟨WD[i].rel.ver.a,WD[i].rel.ver.b,Gw L WD[i].rel.ver j+1⟩,false⟩:=by rw[H5,gi,qY,<-em];congr 1;rw[Ay SI,US];rfl
    have ew:((((WD.take i).map (H5 x sx a cl)).map B4)++[[vi ((WD[i].client:Nat):Int),vi WD[i].rel.ver.a,vi WD[i].rel.ver.b,vi ((Gw L WD[i].rel.ver j)+1),vb false]])=(((WD.take (i+1)).map (H5 x sx a cl)).map B4):=by rw[Ew n3,As,As];show _=_++[B4 (H5 x sx a cl WD[i])];rw[eb]
    refine Xi ⟨i+1,n3,by rw[<-i2,lq n3 (by have q:=Aa Ver.c em;have q:Gw L WD[i].rel.ver j+1=kQ x a WD[i].rel.ver+1:=q;omega)]⟩ ?_;exact⟨Dl WD.length i ch,⟨Zr,Zr,Zr,Zr,⟨(Aa (AV.slice (.id 10 5)) ew),rfl⟩,Zr,Zr,Zr,Tv⟩,⟨Zr,Zr,Zr,⟨(show HO.tok 5 ((((WD.take i).map (H5 x sx a cl)).map B4).length+([[vi ((WD[i].client:Nat):Int),vi WD[i].rel.ver.a,vi WD[i].rel.ver.b,vi ((Gw L WD[i].rel.ver j)+1),vb false]]:List (List AV)).length)=.tok 5 (((WD.take (i+1)).map (H5 x sx a cl)).map B4).length from Aa (HO.tok 5) (Ac.symm.trans (Aa List.length ew))),rfl⟩,Tv⟩,Fh,Tv⟩
   have US:(has a.set (plc (⟨WD[i].rel.ver.a,WD[i].rel.ver.b,Gw L WD[i].rel.ver j+1⟩:Ver)))=false:=US;refine Xi _ (Yi (cb US (lz a.set (plc (⟨WD[i].rel.ver.a,WD[i].rel.ver.b,Gw L WD[i].rel.ver j+1⟩:Ver)) ha.set)) ?_);have b17:B5 5 [[vi ((WD[i].client:Nat):Int),vi WD[i].rel.ver.a,vi WD[i].rel.ver.b,vi ((Gw L WD[i].rel.ver j)+1),vb true]]/\(((WD.take i).map (H5 x sx a cl)).map B4).length=(((WD.take i).map (H5 x sx a cl)).map B4).length/\((((WD.take i).map (H5 x sx a cl)).map B4).length+([[vi ((WD[i].client:Nat):Int),vi WD[i].rel.ver.a,vi WD[i].rel.ver.b,vi ((Gw L WD[i].rel.ver j)+1),vb true]]:List (List AV)).length)*40<=140737488355328/\(((WD.take i).map (H5 x sx a cl)).map B4).length+([[vi ((WD[i].client:Nat):Int),vi WD[i].rel.ver.a,vi WD[i].rel.ver.b,vi ((Gw L WD[i].rel.ver j)+1),vb true]]:List (List AV)).length<=9223372036854775807:=⟨⟨rfl,trivial⟩,rfl,(by simp only[Lm,Ag,Ao,Au];omega),(by simp only[Lm,Ag,Ao,Au];omega)⟩;refine Yi b17 (Yi Wk (cU [(2,sl DL cl),(3,.ref 3 0),(4,.ref 4 0),(8,.ref 8 0),(10,.slice (.id 10 5) ((((WD.take i).map (H5 x sx a cl)).map B4)++[[vi ((WD[i].client:Nat):Int),vi WD[i].rel.ver.a,vi WD[i].rel.ver.b,vi ((Gw L WD[i].rel.ver j)+1),vb true]])),(37,sl Cy WD),(38,vi (WD.map Cy).length),(39,vi i)] [(3,.ro (Ic x ifs)),(4,.ro (Dc a)),(8,.cells (Ic sx ifs)),(10,.tok 5 ((((WD.take i).map (H5 x sx a cl)).map B4).length+([[vi ((WD[i].client:Nat):Int),vi WD[i].rel.ver.a,vi WD[i].rel.ver.b,vi ((Gw L WD[i].rel.ver j)+1),vb true]]:List (List AV)).length))] Z8 Z4 (Yi (Ii i ch) ?_)));have em:(⟨WD[i].rel.ver.a,WD[i].rel.ver.b,Gw L WD[i].rel.ver j+1⟩:Ver)=re x a WD[i].rel.ver:=by rw[re,kQ,<-dx,Zc (Bm (DP h4))]
   have eb:H5 x sx a cl WD[i]=⟨WD[i].client,⟨WD[i].rel.ver.a,WD[i].rel.ver.b,Gw L WD[i].rel.ver j+1⟩,true⟩:=by rw[H5,gi,qY,<-em];congr 1;rw[Ay SI,US];rfl
   have ew:((((WD.take i).map (H5 x sx a cl)).map B4)++[[vi ((WD[i].client:Nat):Int),vi WD[i].rel.ver.a,vi WD[i].rel.ver.b,vi ((Gw L WD[i].rel.ver j)+1),vb true]])=(((WD.take (i+1)).map (H5 x sx a cl)).map B4):=by rw[Ew n3,As,As];show _=_++[B4 (H5 x sx a cl WD[i])];rw[eb]
   refine Xi ⟨i+1,n3,by rw[<-i2,lq n3 (by have q:=Aa Ver.c em;have q:Gw L WD[i].rel.ver j+1=kQ x a WD[i].rel.ver+1:=q;omega)]⟩ ?_;exact⟨Dl WD.length i ch,⟨Zr,Zr,Zr,Zr,⟨(Aa (AV.slice (.id 10 5)) ew),rfl⟩,Zr,Zr,Zr,Tv⟩,⟨Zr,Zr,Zr,⟨(show HO.tok 5 ((((WD.take i).map (H5 x sx a cl)).map B4).length+([[vi ((WD[i].client:Nat):Int),vi WD[i].rel.ver.a,vi WD[i].rel.ver.b,vi ((Gw L WD[i].rel.ver j)+1),vb true]]:List (List AV)).length)=.tok 5 (((WD.take (i+1)).map (H5 x sx a cl)).map B4).length from Aa (HO.tok 5) (Ac.symm.trans (Aa List.length ew))),rfl⟩,Tv⟩,Fh,Tv⟩
  have SI:¬(((KM (TA (sx++[(⟨a.path,(⟨WD[i].rel.ver.a,WD[i].rel.ver.b,Gw L WD[i].rel.ver j+1⟩:Ver),WD[i].rel.reqs,⟨#[]⟩,⟨#[]⟩,⟨#[]⟩,false⟩:Rl)])) (cl.getD WD[i].client [])):Int)=(0:Int)):=SI;have b19:B5 5 [[vi ((WD[i].client:Nat):Int),vi WD[i].rel.ver.a,vi WD[i].rel.ver.b,vi ((Gw L WD[i].rel.ver j)+1),vb false]]/\(((WD.take i).map (H5 x sx a cl)).map B4).length=(((WD.take i).map (H5 x sx a cl)).map B4).length/\((((WD.take i).map (H5 x sx a cl)).map B4).length+([[vi ((WD[i].client:Nat):Int),vi WD[i].rel.ver.a,vi WD[i].rel.ver.b,vi ((Gw L WD[i].rel.ver j)+1),vb false]]:List (List AV)).length)*40<=140737488355328/\(((WD.take i).map (H5 x sx a cl)).map B4).length+([[vi ((WD[i].client:Nat):Int),vi WD[i].rel.ver.a,vi WD[i].rel.ver.b,vi ((Gw L WD[i].rel.ver j)+1),vb false]]:List (List AV)).length<=9223372036854775807:=⟨⟨rfl,trivial⟩,rfl,(by simp only[Lm,Ag,Ao,Au];omega),(by simp only[Lm,Ag,Ao,Au];omega)⟩;refine Yi b19 (Yi Wk (cU [(2,sl DL cl),(3,.ref 3 0),(4,.ref 4 0),(8,.ref 8 0),(10,.slice (.id 10 5) ((((WD.take i).map (H5 x sx a cl)).map B4)++[[vi ((WD[i].client:Nat):Int),vi WD[i].rel.ver.a,vi WD[i].rel.ver.b,vi ((Gw L WD[i].rel.ver j)+1),vb false]])),(37,sl Cy WD),(38,vi (WD.map Cy).length),(39,vi i)] [(3,.ro (Ic x ifs)),(4,.ro (Dc a)),(8,.cells (Ic sx ifs)),(10,.tok 5 ((((WD.take i).map (H5 x sx a cl)).map B4).length+([[vi ((WD[i].client:Nat):Int),vi WD[i].rel.ver.a,vi WD[i].rel.ver.b,vi ((Gw L WD[i].rel.ver j)+1),vb false]]:List (List AV)).length))] Z8 Z4 (Yi (Ii i ch) ?_)));have em:(⟨WD[i].rel.ver.a,WD[i].rel.ver.b,Gw L WD[i].rel.ver j+1⟩:Ver)=re x a WD[i].rel.ver:=by rw[re,kQ,<-dx,Zc (Bm (DP h4))]
  have eb:H5 x sx a cl WD[i]=⟨WD[i].client,⟨WD[i].rel.ver.a,WD[i].rel.ver.b,Gw L WD[i].rel.ver j+1⟩,false⟩:=by rw[H5,gi,qY,<-em];congr 1;rw[AD SI];rfl
  have ew:((((WD.take i).map (H5 x sx a cl)).map B4)++[[vi ((WD[i].client:Nat):Int),vi WD[i].rel.ver.a,vi WD[i].rel.ver.b,vi ((Gw L WD[i].rel.ver j)+1),vb false]])=(((WD.take (i+1)).map (H5 x sx a cl)).map B4):=by rw[Ew n3,As,As];show _=_++[B4 (H5 x sx a cl WD[i])];rw[eb]
  refine Xi ⟨i+1,n3,by rw[<-i2,lq n3 (by have q:=Aa Ver.c em;have q:Gw L WD[i].rel.ver j+1=kQ x a WD[i].rel.ver+1:=q;omega)]⟩ ?_;exact⟨Dl WD.length i ch,⟨Zr,Zr,Zr,Zr,⟨(Aa (AV.slice (.id 10 5)) ew),rfl⟩,Zr,Zr,Zr,Tv⟩,⟨Zr,Zr,Zr,⟨(show HO.tok 5 ((((WD.take i).map (H5 x sx a cl)).map B4).length+([[vi ((WD[i].client:Nat):Int),vi WD[i].rel.ver.a,vi WD[i].rel.ver.b,vi ((Gw L WD[i].rel.ver j)+1),vb false]]:List (List AV)).length)=.tok 5 (((WD.take (i+1)).map (H5 x sx a cl)).map B4).length from Aa (HO.tok 5) (Ac.symm.trans (Aa List.length ew))),rfl⟩,Tv⟩,Fh,Tv⟩
 have h3:¬((i:Int)<((WD.map Cy).length:Int)):=h3;have n3:=DP h3;have eb:fq x a WD=0:=by rw[<-i2,Ce (Bm (DP h3))];rfl
 exact CV.of_eq (show AV.tup [sl B4 ((WD.take i).map (H5 x sx a cl)),vi 0]=_ by rw[eb,Al rfl,At (Bm (DP h3))])
theorem Aaa(c0:¬Pn x [a]=0)(kH:PC 62 [MU x ifs,sl Dc [a]] (.tup [.agg [nzA,nzA],vi (Pn x [a])])):PC 31 [.agg (Ic x ifs),.agg (Dc a),sl DL cl] (.tup [sl B4 [],vi (Pn x [a])]):=by
 refine Ps (pT [3,4] [(10,5)] [2,6,11,15,16,20,23,25,26,27]) Tryz.func31 rfl (Nz rfl) (yN (yN (Xi .pure (Xi _ (Yi kH (yN (cU [(2,sl DL cl),(3,.ref 3 0),(4,.ref 4 0),(8,.ref 8 0),(9,vi (Pn x [a]))] [(3,.ro (Ic x ifs)),(4,.ro (Dc a)),(8,.cells [nzA,nzA])] Z5 Z3 (Yi (fun h1=>?_) (fun h1=>?_)))))))))
 .have h1:((Pn x [a]):Int)≠(0:Int):=h1;exact CV.tup (show Lb [nzA,vi (Pn x [a])] [sl B4 [],vi (Pn x [a])]from⟨CV.nil,CV.refl _,trivial⟩)
 have h1:((Pn x [a]):Int)=(0:Int):=AJ h1;exact absurd h1 c0
theorem vY(hl:Cb cl)(hcl:∀q∈cl,∀z∈q,Kd z)(c1:(cl.any fun q=>!decide (BN q=0))=true)(kH:PC 62 [MU x ifs,sl Dc [a]] (.tup [MU sx ifs,vi 0])):PC 31 [.agg (Ic x ifs),.agg (Dc a),sl DL cl] (.tup [sl B4 [],vi 1]):=by
 refine Ps (pT [3,4] [(10,5)] [2,6,11,15,16,20,23,25,26,27]) Tryz.func31 rfl (Nz rfl) (yN (yN (Xi .pure (Xi _ (Yi kH (yN (cU [(2,sl DL cl),(3,.ref 3 0),(4,.ref 4 0),(8,.ref 8 0),(9,vi 0)] [(3,.ro (Ic x ifs)),(4,.ro (Dc a)),(8,.cells (Ic sx ifs))] Z5 Z3 (Yi (fun h=>absurd h Cl) (fun _=>?_)))))))));refine Xi .pure (Xi _ (Yi (c1▸eX cl hl hcl) ?_));exact CV.tup (show Lb [nzA,vi 1] [sl B4 [],vi 1]from⟨CV.nil,CV.refl _,trivial⟩)
abbrev rL:List Rl:=yk true (cy [a]) x
def p6:Int:=if Pn x [a]=0 then if(cl.any fun q=>!decide (BN q=0))=true then 1 else fq x a (Lt x (rL x a) a cl)else Pn x [a]
def xp:List Bk:=if p6 x a cl=0 then(Lt x (rL x a) a cl).map (H5 x (rL x a) a cl)else []
theorem Aau{y:Bool}{p:Sl->Bool}{x:List Rl}(h:∀r∈x,r.reqs.length<=n):∀r∈yk y p x,r.reqs.length<=n:=pm fun r hr=>⟨h r hr,h r hr⟩
theorem vZ(hx:T5 x)(yZ:∀r∈x,r.reqs.length<=1000)(ha:M0 a)(hl:Cb cl)(hcl:∀q∈cl,∀z∈q,Kd z)(wS:PC 103 [.slice .none ifs] (.slice .none ifs)) :
  PC 31 [MU x ifs,.agg (Dc a),sl DL cl] (.tup [sl B4 (xp x a cl),vi (p6 x a cl)]):=by
 have kH:=wm x ifs [a] hx.to19 yZ (show [a].length<=1073741824 from(Nz rfl)) (fun b hb=>by rw[Ar.1 hb];exact ha) wS;rw[ta]at kH
 by_cases c0:Pn x [a]=0
 .rw[Al c0]at kH;have pD:T5 (rL x a):=⟨by rw[Px];exact hx.len,si hx.few⟩;cases c1:cl.any fun q=>!decide (BN q=0)with
  |true=>
   have q:=vY x (rL x a) ifs a cl hl hcl c1 kH;have e:p6 x a cl=1:=by rw[p6,Al c0,Al c1]
   rw[xp,e];exact q
  |false=>
   have q:=Aez x (rL x a) ifs a cl (Lt x (rL x a) a cl) _ rfl hx pD (Aau yZ) yZ ha hl hcl Px (fun w hw=>xP hw) (AI (UH ..) hl) c1 kH (wh x (rL x a) ifs a cl hx.few pD.few hx.len ha.set hl hcl);have e:p6 x a cl=fq x a (Lt x (rL x a) a cl):=by rw[p6,Al c0,Aj (by rw[c1];exact KF)]
   rw[xp,e];exact q
 .rw[Aj c0]at kH;have q:=Aaa x ifs a cl c0 kH;have e:p6 x a cl=Pn x [a]:=by rw[p6,Aj c0]
  rw[xp,e,Aj c0];exact q
deriving instance DecidableEq for Bk
theorem sw{x y:Bk}:pn (B4 x) (B4 y)↔x=y:=by
 obtain⟨c,⟨a1,a2,a3⟩,e⟩:=x;obtain⟨c',⟨b1,b2,b3⟩,e'⟩:=y;constructor
 .intro h;have h:((c:Nat):Int)=(c' : Nat)/\a1=b1/\a2=b2/\a3=b3/\e=e'/\True:=h;obtain⟨h1,h2,h3,h4,h5,_⟩:=h;rw[Int.natCast_inj.1 h1,h2,h3,h4,h5]
 .intro h;cases h;exact⟨rfl,rfl,rfl,rfl,rfl,trivial⟩
theorem z33(l m:List (Bk))(hl:Cb l):PC 33 [sl B4 l,sl B4 m] (vb (decide (l=m))):=by
 refine Ps El Tryz.func33 rfl (Nz rfl) (Yi ?_ ?_)
 .intro h;have h:¬((l.map B4).length:Int)=(m.map B4).length:=h
  have:l≠m:=fun e=>h (by rw[e])
  rw[AD this];exact .refl _
 .intro h;have h:¬((l.map B4).length:Int)≠(m.map B4).length:=h;have CQ:l.length=m.length:=by simp at h;omega
  refine Xi {i:Nat // i<=l.length/\l.take i=m.take i} (Xi (fun i=>⟨[(0,sl B4 l),(1,sl B4 m),(12,vi (l.map B4).length),(13,vi i.1)],[],Ae⟩) (Xi (fun i=>l.length-i.1) (Yi (Xi ⟨0,by simp⟩ ?_) ?_)))
  .exact⟨Z4,Tv,Fh,Tv⟩
  .intro⟨i,h1,h2⟩;refine Yi ?_ ?_
   .intro h;have h:(i:Int)<(l.map B4).length:=h;have h:i<l.length:=by simpa using h
    have h' : i<m.length:=by omega
    have hg:l[i]?=some l[i]:=Ge h;have TL : m[i]?=some m[i]:=Ge h';refine Xi (B4 l[i]) (Yi (Yi (Nn i) (by simp[hg])) (Yi rfl (yN ?_)));refine Xi (B4 m[i]) (Yi (Yi (Nn i) (by simp[TL])) (Yi rfl (yN ?_)));refine Yi ?_ ?_
    .intro h5;have e:l[i]=m[i]:=sw.1 h5;refine Yi Wk (Yi (by show AX ((i:Int)+1);unfold Cb at hl;unfold AX;omega) (Xi ⟨i+1,by omega,?_⟩ ?_))
     .rw[Bj,Bj,h2,hg,TL,e]
     .exact⟨Dl l.length i ch,Z4,Tv,Fh,Tv⟩
    .intro h5;refine Yi Wk ?_
     have:l≠m:=fun e=>h5 (sw.2 (by subst e;rfl))
     rw[AD this];exact .refl _
   .intro h;have h:¬(i:Int)<(l.map B4).length:=h;have h:¬i<l.length:=by simpa using h
    have e:l=m:=by
     rw[<-At (l:=l) (i:=i) ch,h2,At ch]
    rw[Ay e];exact .refl _
theorem z39(hs:De caps)(l:List (Bk))(p:Bk->Bool)(hF:∀x∈l,PC fF ([.agg (B4 x)]++caps) (vb (p x)))(hl:l.length<9223372036854775807) :
  PC 39 [sl B4 l,.clo fF caps] (vi (JK p l 0)):=by
 refine Ps El Tryz.func39 rfl (Nz rfl) (Xi {i:Nat // i<=l.length/\∀j (hj:j<l.length),j<i->p l[j]=false} (Xi (fun i=>⟨[(0,sl B4 l),(1,.clo fF caps),(7,vi (l.map B4).length),(8,vi i.1)],[],Ae⟩) (Xi (fun i=>l.length-i.1) (Yi (Xi ⟨0,by simp⟩ ?_) ?_))))
 .exact⟨⟨Zr,⟨rfl,hs.ids _⟩,Zr,Zr,Tv⟩,Tv,Fh,Tv⟩
 .intro⟨i,h1,h2⟩;refine Yi ?_ ?_
  .intro h;have h:i<l.length:=by simpa using h
   have hg:l[i]?=some l[i]:=Ge h;refine Xi (B4 l[i]) (Yi (Yi (Nn i) (by simp[hg])) (Yi rfl (yN ?_)));have Cg:∀h,PC fF ([.agg (B4 l[i])]++caps.map (str0 h)) (vb (p l[i])):=fun h=>by rw[hs.map];exact hF l[i] (Aq _)
   cases hp:p l[i]with
   |true=>
    rw[hp]at Cg;refine Xi .pure (Xi (vb true) (Yi (Cg _) ?_));rw[HT h (fun j hj JX=>h2 j hj JX) hp,EI];exact .refl _
   |false=>
    rw[hp]at Cg;refine Xi .pure (Xi (vb false) (Yi (Cg _) (Yi (Ii i ch) (Xi ⟨i+1,by omega,fun j hj JX=>?_⟩ ?_))))
    .by_cases e:j=i
     .subst e;exact hp
     .exact h2 j hj ch
    .exact⟨Dl l.length i ch,⟨Zr,⟨rfl,hs.ids _⟩,Zr,Zr,Tv⟩,Tv,Fh,Tv⟩
  .intro h;have h:¬i<l.length:=by simpa using h
   rw[GA fun j hj=>h2 j hj ch];exact .refl _
end Go.Eng
