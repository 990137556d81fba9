/- Lemmas for the claims of this seat, without a condition: part 33 (W26, W27, W28, W29, W30, W31, W32, W33, W40, W41). -/
import Derived.Test.YteaiieomnhbmgaaGreatDoorA32
set_option maxHeartbeats 4000000
namespace Go.Eng
open Go.Proofs
attribute [local irreducible] Kw EG El Nc LU Db
theorem uP(x sx:List Rl)(ifs:List (List AV))(a:Ad)(cl:List (List Rq))(hx:∀r∈x,Eu r)(oq:∀r∈sx,Eu r)(J0:x.length<=16)(ha:B9 a.set)(hl:B9 cl)(hcl:∀q∈cl,∀z∈q,JT z):PC 65 [.agg (Ic x ifs),.agg (Ic sx ifs),.agg (CT a),sl DC cl] (sl Cu (K7 x sx a cl)):=by
 have hl:cl.length<=1073741824:=hl;have Sa:∀q,(EG x q).length<=1073741824:=fun q=>X8 q J0;refine Ps (pT [4,5,6] [(9,10)] [6,7,8,11]) Tryz.func65 rfl (Nz rfl) (Xi {q:Nat // q<=cl.length} (Xi (fun q=>⟨[(4,.ref 4 0),(5,.ref 5 0),(6,.ref 6 0),(9,.slice (.id 9 10) ((K7 x sx a (cl.take q.1)).map Cu)),(19,sl DC cl),(20,vi (cl.map DC).length),(21,vi q.1)],[(4,.ro (Ic x ifs)),(5,.ro (Ic sx ifs)),(6,.ro (CT a)),(9,.tok 10 ((K7 x sx a (cl.take q.1)).map Cu).length)],Af⟩) (Xi (fun q=>cl.length-q.1) (Yi (Xi ⟨0,AE _⟩ ?_) ?_))))
 .exact⟨Z7,Z4,Fh,Tv⟩
 intro⟨i,i1⟩;have i1:i<=cl.length:=i1;have hq:(K7 x sx a (cl.take i)).length<=1073741824:=AJ (T9 _ _ _ _ _) (by rw[Av];omega);refine Yi (fun h1=>?_) (fun h1=>?_)
 .have h1:(i:Int)<((cl.map DC).length:Int):=h1;have n1:=FW h1;refine Xi (DC cl[i]) (Yi (LH n1) (Yi rfl (yN (Xi .pure (Xi _ (Yi (s16 x ifs cl[i] hx (hcl _ (Aq n1))) (cU [(4,.ref 4 0),(5,.ref 5 0),(6,.ref 6 0),(9,.slice (.id 9 10) ((K7 x sx a (cl.take i)).map Cu)),(10,vi i),(11,sl Ba cl[i]),(12,sl Am (EG x cl[i])),(13,vi (Kw x cl[i])),(19,sl DC cl),(20,vi (cl.map DC).length),(21,vi i)] [(4,.ro (Ic x ifs)),(5,.ro (Ic sx ifs)),(6,.ro (CT a)),(9,.tok 10 ((K7 x sx a (cl.take i)).map Cu).length)] Z11 Z4 (Yi (fun h2=>?_) (fun h2=>?_)))))))))
  .have h2:((Kw x cl[i]):Int)≠(0:Int):=h2;refine Yi (Ii i ch) ?_;have ew:((K7 x sx a (cl.take i)).map Cu)=((K7 x sx a (cl.take (i+1))).map Cu):=by rw[SX n1,Ai (by rw[Nc,AB h2];exact Ko),BP]
   refine Xi ⟨i+1,n1⟩ ?_;exact⟨Dl cl.length i ch,⟨Zr,Zr,Zr,⟨(Aa (AV.slice (.id 9 10)) ew),rfl⟩,Zr,Zr,Zr,Tv⟩,⟨Zr,Zr,Zr,⟨(show HO.tok 10 ((K7 x sx a (cl.take i)).map Cu).length=.tok 10 ((K7 x sx a (cl.take (i+1))).map Cu).length from Aa (HO.tok 10) (Aa List.length ew)),rfl⟩,Tv⟩,Fh,Tv⟩
  have h2:((Kw x cl[i]):Int)=(0:Int):=AL h2;refine yN (B8 (Bt ((EG x cl[i]).any (LU a))) (fun h4=>?_) (fun h4=>?_))
  .have h4:((EG x cl[i]).any (LU a))=true:=h4;refine Xi .pure (Xi _ (Yi (cb h4 (bo a (EG x cl[i]) ha (X8 cl[i] J0))) (cU [(4,.ref 4 0),(5,.ref 5 0),(6,.ref 6 0),(9,.slice (.id 9 10) ((K7 x sx a (cl.take i)).map Cu)),(10,vi i),(11,sl Ba cl[i]),(12,sl Am (EG x cl[i])),(19,sl DC cl),(20,vi (cl.map DC).length),(21,vi i)] [(4,.ro (Ic x ifs)),(5,.ro (Ic sx ifs)),(6,.ro (CT a)),(9,.tok 10 ((K7 x sx a (cl.take i)).map Cu).length)] Z10 Z4 (yN (Xi .pure (Xi _ (Yi (s16 sx ifs cl[i] oq (hcl _ (Aq n1))) (cU [(4,.ref 4 0),(5,.ref 5 0),(6,.ref 6 0),(9,.slice (.id 9 10) ((K7 x sx a (cl.take i)).map Cu)),(10,vi i),(12,sl Am (EG x cl[i])),(15,vi (Kw sx cl[i])),(19,sl DC cl),(20,vi (cl.map DC).length),(21,vi i)] [(4,.ro (Ic x ifs)),(5,.ro (Ic sx ifs)),(6,.ro (CT a)),(9,.tok 10 ((K7 x sx a (cl.take i)).map Cu).length)] Z10 Z4 (Yi (fun h5=>?_) (fun h5=>?_))))))))))
   .have h5:((Kw sx cl[i]):Int)=(0:Int):=h5;refine Yi (Ii i ch) ?_;have ew:((K7 x sx a (cl.take i)).map Cu)=((K7 x sx a (cl.take (i+1))).map Cu):=by rw[SX n1,Ai (by rw[Nc,Ax h5,Bool.not_true,Dn];exact Ko),BP]
    refine Xi ⟨i+1,n1⟩ ?_;exact⟨Dl cl.length i ch,⟨Zr,Zr,Zr,⟨(Aa (AV.slice (.id 9 10)) ew),rfl⟩,Zr,Zr,Zr,Tv⟩,⟨Zr,Zr,Zr,⟨(show HO.tok 10 ((K7 x sx a (cl.take i)).map Cu).length=.tok 10 ((K7 x sx a (cl.take (i+1))).map Cu).length from Aa (HO.tok 10) (Aa List.length ew)),rfl⟩,Tv⟩,Fh,Tv⟩
   have h5:¬(((Kw sx cl[i]):Int)=(0:Int)):=h5;obtain⟨k,hk,ly,IH⟩:=bt h2 h4;refine Xi .pure (Xi _ (Yi (show PC 108 [sl Am (EG x cl[i]),.clo 109 [.cptr (CT a)]] (vi ((k:Nat):Int))from ly▸o70 (fF:=109) (CV.ptr _) (EG x cl[i]) (Y1 a) (fun y _=>y0 y a) (Nat.lt_of_le_of_lt (Sa cl[i]) Cl)) (yN (Xi (Am ((EG x cl[i])[k])) (Yi (LH hk) (Yi rfl (Xi (Am ((EG x cl[i])[k])) (Yi (LH hk) (Yi rfl (yN (Xi _ (Yi (by have q:=c53 x ifs (EG x cl[i])[k].path (EG x cl[i])[k].ver (c84 x ifs hx) hx;rw[IH]at q;exact q) ?_))))))))))));refine yN (Yi Wk (cU [(4,.ref 4 0),(5,.ref 5 0),(6,.ref 6 0),(9,.slice (.id 9 10) ((K7 x sx a (cl.take i)).map Cu)),(10,vi i),(17,.ref 17 0),(19,sl DC cl),(20,vi (cl.map DC).length),(21,vi i)] [(4,.ro (Ic x ifs)),(5,.ro (Ic sx ifs)),(6,.ro (CT a)),(9,.tok 10 ((K7 x sx a (cl.take i)).map Cu).length),(17,.cells (AF (El x a cl[i])))] Z9 Z5 (yN ?_)));have b7:Cn 10 [[vi i,vs (El x a cl[i]).path,vi (El x a cl[i]).ver.a,vi (El x a cl[i]).ver.b,vi (El x a cl[i]).ver.c,sl Ba (El x a cl[i]).reqs,vs (El x a cl[i]).arch,vs (El x a cl[i]).ifc,vs (El x a cl[i]).cert,vb (El x a cl[i]).yanked]]/\((K7 x sx a (cl.take i)).map Cu).length=((K7 x sx a (cl.take i)).map Cu).length/\(((K7 x sx a (cl.take i)).map Cu).length+([[vi i,vs (El x a cl[i]).path,vi (El x a cl[i]).ver.a,vi (El x a cl[i]).ver.b,vi (El x a cl[i]).ver.c,sl Ba (El x a cl[i]).reqs,vs (El x a cl[i]).arch,vs (El x a cl[i]).ifc,vs (El x a cl[i]).cert,vb (El x a cl[i]).yanked]]:List (List AV)).length)*128<=140737488355328/\((K7 x sx a (cl.take i)).map Cu).length+([[vi i,vs (El x a cl[i]).path,vi (El x a cl[i]).ver.a,vi (El x a cl[i]).ver.b,vi (El x a cl[i]).ver.c,sl Ba (El x a cl[i]).reqs,vs (El x a cl[i]).arch,vs (El x a cl[i]).ifc,vs (El x a cl[i]).cert,vb (El x a cl[i]).yanked]]:List (List AV)).length<=9223372036854775807:=⟨⟨rfl,trivial⟩,rfl,(by simp only[Lm,Ak,At];omega),(by simp only[Lm,Ak,At];omega)⟩;refine Yi b7 (Yi (Ii i ch) ?_);have ew:(((K7 x sx a (cl.take i)).map Cu)++[[vi i,vs (El x a cl[i]).path,vi (El x a cl[i]).ver.a,vi (El x a cl[i]).ver.b,vi (El x a cl[i]).ver.c,sl Ba (El x a cl[i]).reqs,vs (El x a cl[i]).arch,vs (El x a cl[i]).ifc,vs (El x a cl[i]).cert,vb (El x a cl[i]).yanked]])=((K7 x sx a (cl.take (i+1))).map Cu):=by rw[SX n1,Al (by rw[Nc,Ax h2,h4,AB h5];rfl),Ar];rfl
   refine Xi ⟨i+1,n1⟩ ?_;exact⟨Dl cl.length i ch,⟨Zr,Zr,Zr,⟨(Aa (AV.slice (.id 9 10)) ew),rfl⟩,Zr,Zr,Zr,Tv⟩,⟨Zr,Zr,Zr,⟨(show HO.tok 10 (((K7 x sx a (cl.take i)).map Cu).length+([[vi i,vs (El x a cl[i]).path,vi (El x a cl[i]).ver.a,vi (El x a cl[i]).ver.b,vi (El x a cl[i]).ver.c,sl Ba (El x a cl[i]).reqs,vs (El x a cl[i]).arch,vs (El x a cl[i]).ifc,vs (El x a cl[i]).cert,vb (El x a cl[i]).yanked]]:List (List AV)).length)=.tok 10 ((K7 x sx a (cl.take (i+1))).map Cu).length from Aa (HO.tok 10) (Ac.symm.trans (Aa List.length ew))),rfl⟩,Tv⟩,Fh,Tv⟩
  have h4:((EG x cl[i]).any (LU a))=false:=h4;refine Xi .pure (Xi _ (Yi (cb h4 (bo a (EG x cl[i]) ha (X8 cl[i] J0))) (Yi (Ii i ch) ?_)));have ew:((K7 x sx a (cl.take i)).map Cu)=((K7 x sx a (cl.take (i+1))).map Cu):=by rw[SX n1,Ai (by rw[Nc,h4,Dn];exact Ko),BP]
  refine Xi ⟨i+1,n1⟩ ?_;exact⟨Dl cl.length i ch,⟨Zr,Zr,Zr,⟨(Aa (AV.slice (.id 9 10)) ew),rfl⟩,Zr,Zr,Zr,Tv⟩,⟨Zr,Zr,Zr,⟨(show HO.tok 10 ((K7 x sx a (cl.take i)).map Cu).length=.tok 10 ((K7 x sx a (cl.take (i+1))).map Cu).length from Aa (HO.tok 10) (Aa List.length ew)),rfl⟩,Tv⟩,Fh,Tv⟩
 have h1:¬((i:Int)<((cl.map DC).length:Int)):=h1;have n1:=DT h1;exact CZ.of_eq (show sl Cu (K7 x sx a (cl.take i))=sl Cu (K7 x sx a cl) by rw[As (l:=cl) (i:=i) (Bz (DT h1))])
end Go.Eng
namespace Go.Eng
open Go.Proofs
variable {caps:List AV}{q:List Rq}{i fF n k:Nat}(x sx:List Rl)(ifs:List (List AV))(a:Ad)(v:Ver)(cl:List (List Rq))(w:Wd)
abbrev mF(p:ByteArray):List Rl:=x.filter fun r=>decide (r.path=p)
def Je(l:List Rl):List Ver:=l.map (·.ver)
theorem qN{l:List Rl}(h:i<l.length):Je (l.take (i+1))=Je (l.take i)++[l[i].ver]:=by
 rw[BW h,Je,Ar];rfl
theorem uY(p:ByteArray)(L:List Rl)(cu:L=mF x p)(hx:∀r∈x,Eu r)(h0:A4 x=0)(J0:x.length<=16)(Dy:∃r∈x,r.path=p):PC 66 [.agg (Ic x ifs),vs p] (sl DF (Je L)):=by
 have ct:PC 82 [Mo x ifs] (.tup [.agg [.cmap Y2 (x.map Vw),.cmap Cm ((AW x []).map (pP x))],vi 0]):=by have q:=c84 x ifs hx;unfold jE VW at q;rw[Al h0]at q;exact q
 have hLl:L.length<=16:=by have q:=Bq (fun r:Rl=>decide (r.path=p)) x;rw[cu];exact AJ q J0
 refine Ps (pT [2] [(7,3)] [2,7]) Tryz.func66 rfl (Nz rfl) (yN (Xi .pure (Xi _ (Yi ct (yN (cU [(1,vs p),(5,.ref 5 0)] [(5,.cells [.cmap Y2 (x.map Vw),.cmap Cm ((AW x []).map (pP x))])] Z2 Z1 (Yi (fun a ha=>?_) (fun NO=>absurd (Ag.2 ⟨p,(GQ x [] p).2 (.inr Dy),rfl⟩) (NO _)))))))));have ea:a=sl AF L:=by rw[cu];exact eQ ha
 subst ea;refine Xi {q:Nat // q<=L.length} (Xi (fun q=>⟨[(7,.slice (.id 7 3) ((Je (L.take q.1)).map DF)),(18,sl AF L),(19,vi (L.map AF).length),(20,vi q.1)],[(7,.tok 3 ((Je (L.take q.1)).map DF).length)],Af⟩) (Xi (fun q=>L.length-q.1) (Yi (Xi ⟨0,AE _⟩ ?_) ?_)))
 .exact⟨Z4,Z1,Fh,Tv⟩
 intro⟨i,i1⟩;have i1:i<=L.length:=i1;have hq:(Je (L.take i)).length<=1073741824:=by rw[Je,Lm,Av];omega
 refine Yi (fun h1=>?_) (fun h1=>?_)
 .have h1:(i:Int)<((L.map AF).length:Int):=h1;have n1:=FW h1;refine Xi (AF L[i]) (Yi (LH n1) (Yi rfl (yN (yN (yN ?_)))));have b2:Cn 3 [[vi L[i].ver.a,vi L[i].ver.b,vi L[i].ver.c]]/\((Je (L.take i)).map DF).length=((Je (L.take i)).map DF).length/\(((Je (L.take i)).map DF).length+([[vi L[i].ver.a,vi L[i].ver.b,vi L[i].ver.c]]:List (List AV)).length)*24<=140737488355328/\((Je (L.take i)).map DF).length+([[vi L[i].ver.a,vi L[i].ver.b,vi L[i].ver.c]]:List (List AV)).length<=9223372036854775807:=⟨⟨rfl,trivial⟩,rfl,(by simp only[Lm,Ak,At];omega),(by simp only[Lm,Ak,At];omega)⟩;refine Yi b2 (cU [(7,.slice (.id 7 3) (((Je (L.take i)).map DF)++[[vi L[i].ver.a,vi L[i].ver.b,vi L[i].ver.c]])),(18,sl AF L),(19,vi (L.map AF).length),(20,vi i)] [(7,.tok 3 (((Je (L.take i)).map DF).length+([[vi L[i].ver.a,vi L[i].ver.b,vi L[i].ver.c]]:List (List AV)).length))] Z4 Z1 (Yi (Ii i ch) ?_));have ew:(((Je (L.take i)).map DF)++[[vi L[i].ver.a,vi L[i].ver.b,vi L[i].ver.c]])=((Je (L.take (i+1))).map DF):=by rw[qN n1,Ar];rfl
  refine Xi ⟨i+1,n1⟩ ?_;exact⟨Dl L.length i ch,⟨⟨(Aa (AV.slice (.id 7 3)) ew),rfl⟩,Zr,Zr,Zr,Tv⟩,⟨⟨(show HO.tok 3 (((Je (L.take i)).map DF).length+([[vi L[i].ver.a,vi L[i].ver.b,vi L[i].ver.c]]:List (List AV)).length)=.tok 3 ((Je (L.take (i+1))).map DF).length from Aa (HO.tok 3) (Ac.symm.trans (Aa List.length ew))),rfl⟩,Tv⟩,Fh,Tv⟩
 have h1:¬((i:Int)<((L.map AF).length:Int)):=h1;have n1:=DT h1;exact CZ.of_eq (show sl DF (Je (L.take i))=sl DF (Je L) by rw[As (l:=L) (i:=i) (Bz (DT h1))])
theorem yX(q:List Rq)(hq:∀z∈q,JT z):PC 63 [sl Ba q] (vb (!decide (BI q=0))):=by
 refine Ps Ee Tryz.func63 rfl (Nz rfl) (Xi .pure (Xi _ (Yi (c65 VH q hq) (Yi (fun h1=>?_) (fun h1=>?_)))))
 .have h1:((BI q):Int)≠(0:Int):=h1;exact CZ.of_eq (Aa vb (show true=!decide (BI q=0) by rw[AB h1];rfl))
 have h1:((BI q):Int)=(0:Int):=AL h1;exact CZ.of_eq (Aa vb (show false=!decide (BI q=0) by rw[Ax h1];rfl))
theorem z61(hs:CV caps)(l:List (List Rq))(p:List Rq->Bool)(hF:∀x∈l,PC fF ([sl Ba x]++caps) (vb (p x)))(hl:l.length<9223372036854775807) :
  PC 61 [sl DC l,.clo fF caps] (vi (Jv p l 0)):=by
 refine Ps Ee Tryz.func61 rfl (Nz rfl) (Xi {i:Nat // i<=l.length/\∀j (hj:j<l.length),j<i->p l[j]=false} (Xi (fun i=>⟨[(0,sl DC l),(1,.clo fF caps),(7,vi (l.map DC).length),(8,vi i.1)],[],Af⟩) (Xi (fun i=>l.length-i.1) (Yi (Xi ⟨0,by simp⟩ ?_) ?_))))
 .exact⟨⟨Zr,⟨rfl,hs.ids _⟩,Zr,Zr,Tv⟩,Tv,Fh,Tv⟩
 .intro⟨i,h1,h2⟩;refine Yi ?_ ?_
  .intro h;have h:(i:Int)<(l.map DC).length:=h;have h:i<l.length:=by simpa using h
   have hg:l[i]?=some l[i]:=Ge h;refine Xi (DC l[i]) (Yi (Yi (Nn i) (by simp[hg])) (Yi rfl ?_));have Ca:∀h,PC fF ([sl Ba l[i]]++caps.map (str0 h)) (vb (p l[i])):=fun h=>by rw[hs.map];exact hF l[i] (Aq _)
   cases hp:p l[i]with
   |true =>
    rw[hp]at Ca;refine Xi .pure (Xi (vb true) (Yi (Ca _) ?_));rw[HC h (fun j hj JG=>h2 j hj JG) hp,Ew];exact .refl _
   |false =>
    rw[hp]at Ca;refine Xi .pure (Xi (vb false) (Yi (Ca _) (Yi (Ii i ch) (Xi ⟨i+1,by omega,fun j hj JG=>?_⟩ ?_))))
    .by_cases e:j=i
     .subst e;exact hp
     .exact h2 j hj ch
    .exact⟨Dl l.length i ch,⟨Zr,⟨rfl,hs.ids _⟩,Zr,Zr,Tv⟩,Tv,Fh,Tv⟩
  .intro h;have h:¬(i:Int)<(l.map DC).length:=h;have h:¬i<l.length:=by simpa using h
   rw[Gk fun j hj=>h2 j hj ch];exact .refl _
theorem z28(hs:CV caps)(l:List (List Rq))(p:List Rq->Bool)(hF:∀x∈l,PC fF ([sl Ba x]++caps) (vb (p x)))(hl:B9 l) :
  PC 28 [sl DC l,.clo fF caps] (vb (l.any p)):=by
 refine Ps Ee Tryz.func28 rfl (Nz rfl) ?_;have hi:=z61 hs l p hF (by unfold B9 at hl;omega);have Ca:∀h,PC 61 [sl DC l,.clo fF (caps.map (str0 h))] (vi (Jv p l 0)):=fun h=>by rw[hs.map];exact hi
 refine Xi .pure (Xi _ (Yi (Ca _) ?_));have ha:=Hy (p:=p) l 0 (Bs 0);refine Yi ?_ ?_
 .intro h;have h:(0:Int)<=Jv p l 0:=h;rw[<-ha,Ax h];exact .refl _
 .intro h;have h:¬(0:Int)<=Jv p l 0:=h;rw[<-ha,AB h];exact .refl _
theorem dG(hl:B9 cl)(h:∀q∈cl,∀z∈q,JT z):PC 28 [sl DC cl,.v (.func (.func 63) #[] #[])] (vb (cl.any fun q=>!decide (BI q=0))) :=
 (z28 (fF:=63) CV.nil cl (fun q=>!decide (BI q=0)) (fun q hq=>yX q (h q hq)) hl).args ⟨.refl _,.fn _,trivial⟩
theorem q9(hx:x.length<=19)(hc:∀r∈x,PC 83 [.agg (AF r)] (.agg (AF r)))(hk:A9 Tryz.prog 86 [.agg [.msl 1000 ((D7 Ds x.length x).map AF).length,nzA]] (Ao [(1000,.arr 9 ((D7 Ds x.length x).map AF))] Af) fun r h'=>r=vi 0/\h'=Ao [(1000,.arr 9 ((D7 Ds x.length x).map AF))] Af):PC 43 [sl AF x] (.tup [sl AF (D7 Ds x.length x),vi 0]):=by
 refine Ps ⟨[],[],[(4,9)],[],[],[],[],[],[],[(200011,4)],[7,8,11]⟩ Tryz.func43 rfl (Nz rfl) (Xi {q:Nat // q<=x.length} (Xi (fun q=>⟨[(4,.msl 4 (x.take q.1).length),(8,sl AF x),(9,vi (x.map AF).length),(10,vi q.1)],[(4,.arr 9 ((x.take q.1).map AF))],Af⟩) (Xi (fun q=>x.length-q.1) (Yi (Xi ⟨0,AE _⟩ ?_) ?_))))
 .exact⟨Z4,Z1,Fh,Tv⟩
 intro⟨i,i1⟩;have i1:i<=x.length:=i1;refine Yi (fun h1=>?_) (fun h1=>?_)
 .have h1:(i:Int)<((x.map AF).length:Int):=h1;have n1:=FW h1;refine Xi (AF x[i]) (Yi (LH n1) (Yi rfl (yN (yN (yN (Xi .pure (Xi _ (Yi (hc x[i] (Aq n1)) ?_))))))));have b2:Cn 9 [(AF x[i])]/\((x.take i).map AF).length=(x.take i).length/\(((x.take i).map AF).length+([(AF x[i])]:List (List AV)).length)*120<=140737488355328/\((x.take i).map AF).length+([(AF x[i])]:List (List AV)).length<=9223372036854775807:=⟨⟨rfl,trivial⟩,(by rw[Lm]),(by simp only[Lm,Ak,At,Av];omega),(by simp only[Lm,Ak,At,Av];omega)⟩;refine Yi b2 (Yi (Ii i ch) (Xi ⟨i+1,n1⟩ ?_));exact⟨Dl x.length i ch,⟨⟨(show AV.msl 4 (((x.take i).map AF).length+([AF x[i]]:List (List AV)).length)=.msl 4 (x.take (i+1)).length by rw[Ej n1,Ac,Lm];rfl),rfl⟩,Zr,Zr,Zr,Tv⟩,⟨⟨(show HO.arr 9 ((x.take i).map AF++[AF x[i]])=.arr 9 ((x.take (i+1)).map AF) by rw[Ej n1,Ar];rfl),rfl⟩,Tv⟩,Fh,Tv⟩
 have h1:¬((i:Int)<((x.map AF).length:Int)):=h1;have n1:=DT h1;have ei:x.take i=x:=As ch;refine cU [(4,.msl 4 x.length)] [(4,.arr 9 (x.map AF))] ⟨⟨(show AV.msl 4 (x.take i).length=.msl 4 x.length by rw[ei]),rfl⟩,Tv⟩ ⟨⟨(show HO.arr 9 ((x.take i).map AF)=.arr 9 (x.map AF) by rw[ei]),rfl⟩,Tv⟩ ?_
 refine Xi (.gen [(4,1000)] 0) (Yi rfl (A9.to2 (v105 x hx) ?_));refine cU [(4,.msl 4 ((D7 Ds x.length x).map AF).length)] [(4,.arr 9 ((D7 Ds x.length x).map AF))] ⟨⟨(show AV.msl 4 x.length=.msl 4 ((D7 Ds x.length x).map AF).length by rw[Lm,Lr]),rfl⟩,Tv⟩ Z1 ?_
 refine Xi (.gen [(4,1000)] 0) (Yi rfl (A9.to2 hk ?_));refine Yi (fun h=>absurd h Cl) (fun _=>?_);refine Yi rfl (cU [(4,sl AF (D7 Ds x.length x))] [] Z1 Tv ?_)
 exact .refl _
theorem nR{x:List Rl}(h:x.length<=19)(hf:∀r∈x,Eu r)(hr:∀r∈x,r.reqs.length<=1000)(hc:A4 (D7 Ds x.length x)=0):PC 43 [sl AF x] (.tup [sl AF (D7 Ds x.length x),vi 0]):=by
 have hk:=IY.lend (sz:=9) (es:=(D7 Ds x.length x).map AF) (vs:=[.slice none 0 0]) (u7 (x:=D7 Ds x.length x) fun r hr=>hf r (MV Ds _ _ r hr));rw[hc]at hk;exact q9 x h (fun r hm=>zr r (hr r hm) fun q hq=>((hf r hm).2 q hq).1) hk
theorem jB{x:List Rl}(h:x.length<=19)(hf:∀r∈x,Eu r)(hr:∀r∈x,r.reqs.length<=1000)(hc:A4 (D7 Ds x.length x)≠0):PC 43 [sl AF x] (.tup [nzA,vi (A4 (D7 Ds x.length x))]):=by
 have hk:=IY.lend (sz:=9) (es:=(D7 Ds x.length x).map AF) (vs:=[.slice none 0 0]) (u7 (x:=D7 Ds x.length x) fun r hr=>hf r (MV Ds _ _ r hr));exact Adp x h (fun r hm=>zr r (hr r hm) fun q hq=>((hf r hm).2 q hq).1) _ hc hk
def SP:List Rl:=if A4 (D7 Ds x.length x)=0 then D7 Ds x.length x else []
theorem q8{x:List Rl}(h:x.length<=19)(hf:∀r∈x,Eu r)(hr:∀r∈x,r.reqs.length<=1000):PC 43 [sl AF x] (.tup [sl AF (SP x),vi (A4 (D7 Ds x.length x))]):=by
 by_cases hc:A4 (D7 Ds x.length x)=0
 .have q:=nR h hf hr hc;rw[SP,Al hc,hc];exact q
 .have q:=jB h hf hr hc;rw[SP,Ai hc];exact A9.mono q fun _ _ ⟨e1,e2⟩=>⟨_,e1▸CZ.tup (show KP [nzA,vi _] [sl AF [],vi _]from⟨CZ.nil,CZ.refl _,trivial⟩),rfl,e2⟩
theorem nI(l:List Rl)(hl:l.length<=256)(Dy:l≠[]):A9 Tryz.prog 44 [sl AF l] Af fun r h'=>r=.slice (.id 2000 9) (l.map AF)/\h'=Ao [(2000,.tok 9 (l.map AF).length)] Af:=by
 show A9 Tryz.prog _ _ (Ao [] Af) _;refine Cq (MK Ee) [(5,2000)] rfl CQ hm rfl Tryz.func44 Wk rfl (Nz rfl) Wk rfl ?_;have Ho:Cn 9 (l.map AF)/\([]:List (List AV)).length=0/\(([]:List (List AV)).length+(l.map AF).length)*120<=140737488355328/\([]:List (List AV)).length+(l.map AF).length<=9223372036854775807:=by
  refine⟨DZ (enc:=AF) (n:=9) (fun _=>rfl) l,rfl,?_,?_⟩<;>simp only[At,Lm]<;>omega
 refine Yi ?_ ?_
 .intro _;refine Yi Ho ?_;exact Xi _ (Yi (.refl _) ⟨rfl,Eq.trans (b:=Ao [(2000,.tok 9 (([]:List (List AV)).length+(l.map AF).length))] Af) rfl (by rw[At,Bf])⟩)
 .intro h;have h:l.map AF=[]:=h;exact absurd (DE.1 h) Dy
structure Bk where
 client:Nat
 ver:Ver
 enough:Bool
abbrev B2(b:Bk):List AV:=[vi ((b.client:Nat):Int),vi b.ver.a,vi b.ver.b,vi b.ver.c,vb b.enough]
def ov(b:Int)(c:Int)(v:Ver):Int:=if v.b=b then max c v.c else c
def Gg(L:List Rl)(v:Ver)(n:Nat):Int:=((Je L).take n).foldl (ov v.b) v.c
def jN:Int:=(Je (mF x a.path)).foldl (ov v.b) v.c
def qb:Ver:=⟨v.a,v.b,jN x a v+1⟩
def pY:Rl:=⟨a.path,qb x a w.rel.ver,w.rel.reqs,⟨#[]⟩,⟨#[]⟩,⟨#[]⟩,false⟩
def fc:List Rl:=SP (sx++[pY x a w])
def HM:Bk:=⟨w.client,qb x a w.rel.ver,decide (Kw (fc x sx a w) (cl.getD w.client [])=0)&&!has a.set (plc (qb x a w.rel.ver))⟩
def dS(x:List Rl)(a:Ad):List Wd->Int
 | []=>0
 |w::r=>if 999<jN x a w.rel.ver+1 then 2 else dS x a r
theorem kg{x:List Rl}{a:Ad}{l:List Wd}(h:i<l.length)(k:¬999<jN x a l[i].rel.ver+1):dS x a (l.drop i)=dS x a (l.drop (i+1)):=by rw[AH h,dS,Ai k]
theorem wb{x:List Rl}{a:Ad}{l:List Wd}(h:i<l.length)(k:999<jN x a l[i].rel.ver+1):dS x a (l.drop i)=2:=by rw[AH h,dS,Al k]
theorem fg{L:List Rl}{v:Ver}(h:n<(Je L).length):Gg L v (n+1)=ov v.b (Gg L v n) (Je L)[n]:=by
 rw[Gg,BW h,Em];rfl
theorem Yy{L:List Rl}{v:Ver}(h:(Je L).length<=n):Gg L v n=(Je L).foldl (ov v.b) v.c:=by rw[Gg,As h]
theorem ZF{x sx:List Rl}{a:Ad}{w:Wd}:∀{l:List (List Rq)} {i:Nat},w∈QQ x sx a l i->i<=w.client/\w.client<i+l.length/\Nc x sx a (l.getD (w.client-i) [])=true/\w.rel=El x a (l.getD (w.client-i) [])
 | [],i,h=>by cases h
 |q::l,i,h=>by
  have tail:w∈QQ x sx a l (i+1)->i<=w.client/\w.client<i+(q::l).length/\Nc x sx a ((q::l).getD (w.client-i) [])=true/\w.rel=El x a ((q::l).getD (w.client-i) []):=fun h=>by
   obtain⟨h1,h2,h3,h4⟩:=ZF h;have e:w.client-i=(w.client-(i+1))+1:=by omega
   refine⟨by omega,by rw[Ak];omega,?_,?_⟩
   .rw[e,List.getD_cons_succ];exact h3
   .rw[e,List.getD_cons_succ];exact h4
  rw[QQ]at h;split at h
  .rename_i hw;rcases Az.1 h with rfl | h
   .refine⟨Aj _,(by rw[Ak];show i<i+(l.length+1);omega),?_,?_⟩
    .show Nc x sx a ((q::l).getD (i-i) [])=true;rw[E1];exact hw
    .show El x a q=El x a ((q::l).getD (i-i) []);rw[E1];rfl
   .exact tail h
  .exact tail h
theorem qu{x:List Rl}{a:Ad}(h:Kw x q=0)(hc:(EG x q).any (LU a)=true):El x a q∈x/\(El x a q).path=a.path/\A4 x=0:=by
 obtain⟨k,hk,h1,h2⟩:=bt h hc;have h0:=(Qq h).2.2;rw[Db,Ai (by rw[h0];decide)]at h2;have hm:=BE h2;have hp:=DJ h2;have hp:=AU hp;refine⟨hm,?_,h0⟩;have e1:(El x a q).path=(EG x q)[k].path:=Aa Sl.path hp;rw[e1];have hi:Jv (Y1 a) (EG x q) 0=((k:Nat):Int):=h1;have Dz:(EG x q).findIdx (Y1 a)<(EG x q).length:=by
  obtain⟨y,hy,hb⟩:=Bd.1 hc;simp only[LU,Ae]at hb;exact List.findIdx_lt_length_of_exists ⟨y,hy,hb.1.2⟩
 have YX:Y1 a (EG x q)[(EG x q).findIdx (Y1 a)]=true:=List.findIdx_getElem (w:=Dz);have QA:∀j (hj:j<(EG x q).length),j<(EG x q).findIdx (Y1 a)->Y1 a (EG x q)[j]=false:=fun j hj JG=>by
  have q:=List.not_of_lt_findIdx JG;simpa using q
 rw[HC Dz QA YX]at hi
 have:k=(EG x q).findIdx (Y1 a):=by omega
 subst this;exact AU YX
theorem wD{x sx:List Rl}{a:Ad}{cl:List (List Rq)}{w:Wd}(h:w∈K7 x sx a cl):w.client<cl.length/\w.rel∈x/\w.rel.path=a.path/\A4 x=0:=by
 obtain⟨_,h2,h3,h4⟩:=ZF h;rw[Nc]at h3;simp only[Ae]at h3;have q:=qu (AU h3.1.1) h3.1.2;rw[h4];exact⟨by omega,q⟩
theorem wE{cl:List (List Rq)}(h:k<cl.length):(cl.map DC)[k]?=some (DC (cl.getD k [])):=by rw[AG,Ge h];simp[List.getD,h]
theorem ta{cl:List (List Rq)}(h:k<cl.length):cl.getD k []∈cl:=by
 have e:cl.getD k []=cl[k]:=by simp[List.getD,h]
 rw[e];exact Aq h
theorem ay{sx:List Rl}{p:ByteArray}{v:Ver}(h:∀r∈sx,Eu r)(hp:F7 p)(hq:∀z∈q,JT z):∀r∈sx++[(⟨p,v,q,⟨#[]⟩,⟨#[]⟩,⟨#[]⟩,false⟩:Rl)],Eu r:=fun r hr=>by
 rcases AO.1 hr with k | k
 .exact h r k
 .rw[Ap.1 k];exact⟨hp,hq⟩
theorem pW{sx:List Rl}{p:ByteArray}{v:Ver}(h:∀r∈sx,r.reqs.length<=1000)(hq:q.length<=1000):∀r∈sx++[(⟨p,v,q,⟨#[]⟩,⟨#[]⟩,⟨#[]⟩,false⟩:Rl)],r.reqs.length<=1000:=fun r hr=>by
 rcases AO.1 hr with k | k
 .exact h r k
 .rw[Ap.1 k];exact hq
theorem qG{x:List Rl}(h:∀r∈x,Eu r):∀r∈SP x,Eu r:=fun r hr=>by
 rw[SP]at hr;split at hr
 .exact h r (MV Ds _ _ r hr)
 .cases hr
theorem yd{r:Rl}(h:DS r=0):0<=r.ver.c/\r.ver.c<=999:=by
 unfold DS at h;split at h
 .cases h
 .by_cases hv:Ct r.ver=true
  .rw[Ct]at hv;simp only[Ae,AA]at hv;exact hv.2
  .rw[Tt]at hv;rw[hv]at h;exact absurd (show(2:Int)=0 from h) Cl
theorem ZL{b:Int}:∀(l:List Ver) (c:Int),(∀v∈l,0<=v.c/\v.c<=999)->0<=c/\c<=999->0<=l.foldl (ov b) c/\l.foldl (ov b) c<=999
 | [],c,_,h=>h
 |v::l,c,hl,h=>ZL l (ov b c v) (fun u hu=>hl u (Ah _ hu)) (by have q:=hl v (Ab ..);unfold ov;split<;>omega)
theorem Ads(WD:List Wd)(L:List Rl)(cu:L=mF x a.path)(hx:Tx x)(oq:Tx sx)(vJ:∀r∈sx,r.reqs.length<=1000)(xH:∀r∈x,r.reqs.length<=1000)(ha:MD a)(hl:B9 cl)(hcl:∀q∈cl,∀z∈q,JT z)(Sa:sx.length=x.length)(hW:∀w∈WD,w.client<cl.length/\w.rel∈x/\w.rel.path=a.path/\A4 x=0)(hWl:B9 WD)(c1:(cl.any fun q=>!decide (BI q=0))=false)(jH:PC 62 [Mo x ifs,sl CT [a]] (.tup [Mo sx ifs,vi 0]))(h65:PC 65 [Mo x ifs,Mo sx ifs,.agg (CT a),sl DC cl] (sl Cu WD)):PC 31 [.agg (Ic x ifs),.agg (CT a),sl DC cl] (.tup [sl B2 (if dS x a WD=0 then WD.map (HM x sx a cl)else []),vi (dS x a WD)]):=by
 have xM:x.length<=16:=hx.len;have Ac2:sx.length<=16:=oq.len;have Abd:L.length<=16:=by have q:=Bq (fun r:Rl=>decide (r.path=a.path)) x;rw[cu];exact AJ q xM
 have Agy:(Je L).length<=16:=by rw[Je,Lm];exact Abd
 have lB:∀w∈WD,∀j,Gg L w.rel.ver j<=999/\0<=Gg L w.rel.ver j:=fun w hw j=>by
  have h0:=(Zj.1 (hW w hw).2.2.2).2.1;have q:=ZL (b:=w.rel.ver.b) ((Je L).take j) w.rel.ver.c (fun v hv=>by obtain⟨r,hr,rfl⟩:=Ag.1 (CY hv);exact yd (h0 r (Bv.1 (cu▸hr)).1)) (yd (h0 _ (hW w hw).2.1));exact⟨q.2,q.1⟩
 refine Ps ⟨[3,4],[(10,5)],[],[],[],[],[],[],[(87,3)],[],[2,6,11,15,16,20,23,25,26,27]⟩ Tryz.func31 rfl (Nz rfl) (yN (yN (Xi .pure (Xi _ (Yi jH (yN (cU [(2,sl DC cl),(3,.ref 3 0),(4,.ref 4 0),(8,.ref 8 0),(9,vi 0)] [(3,.ro (Ic x ifs)),(4,.ro (CT a)),(8,.cells (Ic sx ifs))] Z5 Z3 (Yi (fun h=>absurd h Cl) (fun _=>?_)))))))));refine B8 (Bt (cl.any fun q=>!decide (BI q=0))) (fun h1=>?_) (fun h1=>?_)
 .refine Xi .pure (Xi _ (Yi (cb h1 (dG cl hl hcl)) ?_));exact absurd (h1.symm.trans c1) Cl
 refine Xi .pure (Xi _ (Yi (cb h1 (dG cl hl hcl)) (cU [(2,sl DC cl),(3,.ref 3 0),(4,.ref 4 0),(8,.ref 8 0)] [(3,.ro (Ic x ifs)),(4,.ro (CT a)),(8,.cells (Ic sx ifs))] Z4 Z3 (yN (yN (yN (Xi .pure (Xi _ (Yi h65 (Xi {q:Nat // q<=WD.length/\dS x a (WD.drop q)=dS x a WD} (Xi (fun q=>⟨[(2,sl DC cl),(3,.ref 3 0),(4,.ref 4 0),(8,.ref 8 0),(10,.slice (.id 10 5) (((WD.take q.1).map (HM x sx a cl)).map B2)),(37,sl Cu WD),(38,vi (WD.map Cu).length),(39,vi q.1)],[(3,.ro (Ic x ifs)),(4,.ro (CT a)),(8,.cells (Ic sx ifs)),(10,.tok 5 (((WD.take q.1).map (HM x sx a cl)).map B2).length)],Af⟩) (Xi (fun q=>WD.length-q.1) (Yi (Xi ⟨0,AE _,rfl⟩ ?_) ?_)))))))))))))
 .exact⟨Z8,Z4,Fh,Tv⟩
 intro⟨i,i1,i2⟩;refine Yi (fun h3=>?_) (fun h3=>?_)
 .have h3:(i:Int)<((WD.map Cu).length:Int):=h3;have n3:=FW h3;refine Xi (Cu WD[i]) (Yi (LH n3) (Yi rfl (yN (yN (yN (yN (cU [(2,sl DC cl),(3,.ref 3 0),(4,.ref 4 0),(8,.ref 8 0),(10,.slice (.id 10 5) (((WD.take i).map (HM x sx a cl)).map B2)),(12,.ref 12 0),(13,.ref 13 0),(37,sl Cu WD),(38,vi (WD.map Cu).length),(39,vi i)] [(3,.ro (Ic x ifs)),(4,.ro (CT a)),(8,.cells (Ic sx ifs)),(10,.tok 5 (((WD.take i).map (HM x sx a cl)).map B2).length),(12,.cells (Cu WD[i])),(13,.cells [vi WD[i].rel.ver.a,vi WD[i].rel.ver.b,vi WD[i].rel.ver.c])] Z10 Z6 (yN (Xi .pure (Xi _ (Yi (uY x ifs a.path L cu hx.few (hW _ (Aq n3)).2.2.2 hx.len ⟨_,(hW _ (Aq n3)).2.1,(hW _ (Aq n3)).2.2.1⟩) (Xi {q:Nat // q<=(Je L).length} (Xi (fun q=>⟨[(2,sl DC cl),(3,.ref 3 0),(4,.ref 4 0),(8,.ref 8 0),(10,.slice (.id 10 5) (((WD.take i).map (HM x sx a cl)).map B2)),(12,.ref 12 0),(13,.ref 13 0),(37,sl Cu WD),(38,vi (WD.map Cu).length),(39,vi i),(49,sl DF (Je L)),(50,vi ((Je L).map DF).length),(51,vi q.1)],[(3,.ro (Ic x ifs)),(4,.ro (CT a)),(8,.cells (Ic sx ifs)),(10,.tok 5 (((WD.take i).map (HM x sx a cl)).map B2).length),(12,.cells (Cu WD[i])),(13,.cells [vi WD[i].rel.ver.a,vi WD[i].rel.ver.b,vi (Gg L WD[i].rel.ver q.1)])],Af⟩) (Xi (fun q=>(Je L).length-q.1) (Yi (Xi ⟨0,AE _⟩ ?_) ?_)))))))))))))))
  .exact⟨Z13,Z6,Fh,Tv⟩
  intro⟨j,j1⟩;have j1:j<=(Je L).length:=j1;have jm:=lB WD[i] (Aq ch) j;refine Yi (fun h4=>?_) (fun h4=>?_)
  .have h4:(j:Int)<(((Je L).map DF).length:Int):=h4;have n4:=FW h4;refine Xi (DF ((Je L)[j])) (Yi (LH n4) (Yi rfl (yN (yN (Yi (fun h5=>?_) (fun h5=>?_))))))
   .have h5:(((Je L)[j]).b:Int)=(WD[i].rel.ver.b:Int):=h5;refine cU [(2,sl DC cl),(3,.ref 3 0),(4,.ref 4 0),(8,.ref 8 0),(10,.slice (.id 10 5) (((WD.take i).map (HM x sx a cl)).map B2)),(12,.ref 12 0),(13,.ref 13 0),(15,.ref 15 0),(37,sl Cu WD),(38,vi (WD.map Cu).length),(39,vi i),(49,sl DF (Je L)),(50,vi ((Je L).map DF).length),(51,vi j)] [(3,.ro (Ic x ifs)),(4,.ro (CT a)),(8,.cells (Ic sx ifs)),(10,.tok 5 (((WD.take i).map (HM x sx a cl)).map B2).length),(12,.cells (Cu WD[i])),(13,.cells [vi WD[i].rel.ver.a,vi WD[i].rel.ver.b,vi (Gg L WD[i].rel.ver j)]),(15,.cells (DF ((Je L)[j])))] ⟨Zr,Zr,Zr,Zr,Zr,Zr,Zr,Zr,Zr,Zr,Zr,Zr,Zr,Zr,Tv⟩ Z7 (yN (cU [(2,sl DC cl),(3,.ref 3 0),(4,.ref 4 0),(8,.ref 8 0),(10,.slice (.id 10 5) (((WD.take i).map (HM x sx a cl)).map B2)),(12,.ref 12 0),(13,.ref 13 0),(37,sl Cu WD),(38,vi (WD.map Cu).length),(39,vi i),(49,sl DF (Je L)),(50,vi ((Je L).map DF).length),(51,vi j)] [(3,.ro (Ic x ifs)),(4,.ro (CT a)),(8,.cells (Ic sx ifs)),(10,.tok 5 (((WD.take i).map (HM x sx a cl)).map B2).length),(12,.cells (Cu WD[i])),(13,.cells [vi WD[i].rel.ver.a,vi WD[i].rel.ver.b,vi (max (Gg L WD[i].rel.ver j) ((Je L)[j]).c)])] Z13 Z6 (Yi (Ii j ch) (Xi ⟨j+1,n4⟩ ?_))));exact⟨by show(Je L).length-(j+1)<(Je L).length-j;omega,Z13,⟨Zr,Zr,Zr,Zr,Zr,⟨(show HO.cells [vi WD[i].rel.ver.a,vi WD[i].rel.ver.b,vi (max (Gg L WD[i].rel.ver j) ((Je L)[j]).c)]=.cells [vi WD[i].rel.ver.a,vi WD[i].rel.ver.b,vi (Gg L WD[i].rel.ver (j+1))] by rw[fg n4,ov,Al h5]),rfl⟩,Tv⟩,Fh,Tv⟩
   have h5:¬((((Je L)[j]).b:Int)=(WD[i].rel.ver.b:Int)):=h5;refine cU [(2,sl DC cl),(3,.ref 3 0),(4,.ref 4 0),(8,.ref 8 0),(10,.slice (.id 10 5) (((WD.take i).map (HM x sx a cl)).map B2)),(12,.ref 12 0),(13,.ref 13 0),(37,sl Cu WD),(38,vi (WD.map Cu).length),(39,vi i),(49,sl DF (Je L)),(50,vi ((Je L).map DF).length),(51,vi j)] [(3,.ro (Ic x ifs)),(4,.ro (CT a)),(8,.cells (Ic sx ifs)),(10,.tok 5 (((WD.take i).map (HM x sx a cl)).map B2).length),(12,.cells (Cu WD[i])),(13,.cells [vi WD[i].rel.ver.a,vi WD[i].rel.ver.b,vi (Gg L WD[i].rel.ver j)])] Z13 Z6 (Yi (Ii j ch) (Xi ⟨j+1,n4⟩ ?_));exact⟨by show(Je L).length-(j+1)<(Je L).length-j;omega,Z13,⟨Zr,Zr,Zr,Zr,Zr,⟨(show HO.cells [vi WD[i].rel.ver.a,vi WD[i].rel.ver.b,vi (Gg L WD[i].rel.ver j)]=.cells [vi WD[i].rel.ver.a,vi WD[i].rel.ver.b,vi (Gg L WD[i].rel.ver (j+1))] by rw[fg n4,ov,Ai h5]),rfl⟩,Tv⟩,Fh,Tv⟩
  have h4:¬((j:Int)<(((Je L).map DF).length:Int)):=h4;have n4:=DT h4;refine Yi (fun h8=>?_) (fun h8=>?_)
  .have h8:(256:Int)<=((x.map AF).length:Int):=h8;exact absurd h8 (by rw[Lm];omega)
  have h8:¬((256:Int)<=((x.map AF).length:Int)):=h8;refine Yi (by show A7 (((Gg L WD[i].rel.ver j):Int)+(1:Int));unfold A7;omega) ?_;refine yN (cU [(2,sl DC cl),(3,.ref 3 0),(4,.ref 4 0),(8,.ref 8 0),(10,.slice (.id 10 5) (((WD.take i).map (HM x sx a cl)).map B2)),(12,.ref 12 0),(13,.ref 13 0),(37,sl Cu WD),(38,vi (WD.map Cu).length),(39,vi i)] [(3,.ro (Ic x ifs)),(4,.ro (CT a)),(8,.cells (Ic sx ifs)),(10,.tok 5 (((WD.take i).map (HM x sx a cl)).map B2).length),(12,.cells (Cu WD[i])),(13,.cells [vi WD[i].rel.ver.a,vi WD[i].rel.ver.b,vi ((Gg L WD[i].rel.ver j)+1)])] Z10 Z6 (Yi (fun d8=>?_) (fun d8=>?_)))
  .have d8:(999:Int)<((Gg L WD[i].rel.ver j)+1:Int):=d8;have em:Gg L WD[i].rel.ver j=jN x a WD[i].rel.ver:=by rw[jN,<-cu,Yy (Bz (DT h4))]
   have eb:dS x a WD=2:=by rw[<-i2,wb n3 ch]
   exact CZ.trans (show CZ _ (.tup [sl B2 [],vi 2])from CZ.tup (show KP [nzA,vi 2] [sl B2 [],vi 2]from⟨CZ.nil,CZ.refl _,trivial⟩)) (CZ.of_eq (by rw[eb];rfl))
  have d8:¬((999:Int)<((Gg L WD[i].rel.ver j)+1:Int)):=d8;refine yN (Xi .pure (Xi _ (Yi (u9 (⟨WD[i].rel.ver.a,WD[i].rel.ver.b,Gg L WD[i].rel.ver j+1⟩:Ver)) (cU [(2,sl DC cl),(3,.ref 3 0),(4,.ref 4 0),(8,.ref 8 0),(10,.slice (.id 10 5) (((WD.take i).map (HM x sx a cl)).map B2)),(12,.ref 12 0),(13,.ref 13 0),(16,vi (plc (⟨WD[i].rel.ver.a,WD[i].rel.ver.b,Gg L WD[i].rel.ver j+1⟩:Ver))),(37,sl Cu WD),(38,vi (WD.map Cu).length),(39,vi i)] [(3,.ro (Ic x ifs)),(4,.ro (CT a)),(8,.cells (Ic sx ifs)),(10,.tok 5 (((WD.take i).map (HM x sx a cl)).map B2).length),(12,.cells (Cu WD[i])),(13,.cells [vi WD[i].rel.ver.a,vi WD[i].rel.ver.b,vi ((Gg L WD[i].rel.ver j)+1)])] Z11 Z6 (yN (yN (Xi _ (Xi _ (Yi Wk (Yi (nI sx (AJ Ac2 Cl) (fun e=>by have q:=List.length_pos_of_mem (hW _ (Aq n3)).2.1;rw[e]at Sa;exact absurd Sa (Nat.ne_of_lt q))) (yN ?_)))))))))));have vl:Cn 9 [[vs a.path,vi WD[i].rel.ver.a,vi WD[i].rel.ver.b,vi ((Gg L WD[i].rel.ver j)+1),sl Ba WD[i].rel.reqs,vs ⟨#[]⟩,vs ⟨#[]⟩,vs ⟨#[]⟩,vb false]]/\(sx.map AF).length=(sx.map AF).length/\((sx.map AF).length+([[vs a.path,vi WD[i].rel.ver.a,vi WD[i].rel.ver.b,vi ((Gg L WD[i].rel.ver j)+1),sl Ba WD[i].rel.reqs,vs ⟨#[]⟩,vs ⟨#[]⟩,vs ⟨#[]⟩,vb false]]:List (List AV)).length)*120<=140737488355328/\(sx.map AF).length+([[vs a.path,vi WD[i].rel.ver.a,vi WD[i].rel.ver.b,vi ((Gg L WD[i].rel.ver j)+1),sl Ba WD[i].rel.reqs,vs ⟨#[]⟩,vs ⟨#[]⟩,vs ⟨#[]⟩,vb false]]:List (List AV)).length<=9223372036854775807:=⟨⟨rfl,trivial⟩,rfl,(by simp only[Lm,Ak,At];omega),(by simp only[Lm,Ak,At];omega)⟩;refine Yi vl (Xi _ (Yi (show PC 43 [.slice .none ((sx.map AF)++[[vs a.path,vi WD[i].rel.ver.a,vi WD[i].rel.ver.b,vi ((Gg L WD[i].rel.ver j)+1),sl Ba WD[i].rel.reqs,vs ⟨#[]⟩,vs ⟨#[]⟩,vs ⟨#[]⟩,vb false]])] (.tup [sl AF (SP (sx++[(⟨a.path,(⟨WD[i].rel.ver.a,WD[i].rel.ver.b,Gg L WD[i].rel.ver j+1⟩:Ver),WD[i].rel.reqs,⟨#[]⟩,⟨#[]⟩,⟨#[]⟩,false⟩:Rl)])),vi (A4 (D7 Ds ((sx++[(⟨a.path,(⟨WD[i].rel.ver.a,WD[i].rel.ver.b,Gg L WD[i].rel.ver j+1⟩:Ver),WD[i].rel.reqs,⟨#[]⟩,⟨#[]⟩,⟨#[]⟩,false⟩:Rl)])).length ((sx++[(⟨a.path,(⟨WD[i].rel.ver.a,WD[i].rel.ver.b,Gg L WD[i].rel.ver j+1⟩:Ver),WD[i].rel.reqs,⟨#[]⟩,⟨#[]⟩,⟨#[]⟩,false⟩:Rl)]))))]) by rw[<-show sl AF ((sx++[(⟨a.path,(⟨WD[i].rel.ver.a,WD[i].rel.ver.b,Gg L WD[i].rel.ver j+1⟩:Ver),WD[i].rel.reqs,⟨#[]⟩,⟨#[]⟩,⟨#[]⟩,false⟩:Rl)]))=.slice .none ((sx.map AF)++[[vs a.path,vi WD[i].rel.ver.a,vi WD[i].rel.ver.b,vi ((Gg L WD[i].rel.ver j)+1),sl Ba WD[i].rel.reqs,vs ⟨#[]⟩,vs ⟨#[]⟩,vs ⟨#[]⟩,vb false]])from(show AV.slice .none (List.map AF ((sx++[(⟨a.path,(⟨WD[i].rel.ver.a,WD[i].rel.ver.b,Gg L WD[i].rel.ver j+1⟩:Ver),WD[i].rel.reqs,⟨#[]⟩,⟨#[]⟩,⟨#[]⟩,false⟩:Rl)])))=_ by rw[Ar];rfl)];exact q8 (x:=(sx++[(⟨a.path,(⟨WD[i].rel.ver.a,WD[i].rel.ver.b,Gg L WD[i].rel.ver j+1⟩:Ver),WD[i].rel.reqs,⟨#[]⟩,⟨#[]⟩,⟨#[]⟩,false⟩:Rl)])) (by rw[Ac];show sx.length+1<=19;omega) (ay oq.few ha.path (hx.few _ (hW _ (Aq n3)).2.1).2) (pW vJ (xH _ (hW _ (Aq n3)).2.1))) ?_));refine yN (Yi Wk (cU [(2,sl DC cl),(3,.ref 3 0),(4,.ref 4 0),(8,.ref 8 0),(10,.slice (.id 10 5) (((WD.take i).map (HM x sx a cl)).map B2)),(12,.ref 12 0),(13,.ref 13 0),(16,vi (plc (⟨WD[i].rel.ver.a,WD[i].rel.ver.b,Gg L WD[i].rel.ver j+1⟩:Ver))),(18,.ref 18 0),(37,sl Cu WD),(38,vi (WD.map Cu).length),(39,vi i)] [(3,.ro (Ic x ifs)),(4,.ro (CT a)),(8,.cells (Ic sx ifs)),(10,.tok 5 (((WD.take i).map (HM x sx a cl)).map B2).length),(12,.cells (Cu WD[i])),(13,.cells [vi WD[i].rel.ver.a,vi WD[i].rel.ver.b,vi ((Gg L WD[i].rel.ver j)+1)]),(18,.cells [sl AF (SP (sx++[(⟨a.path,(⟨WD[i].rel.ver.a,WD[i].rel.ver.b,Gg L WD[i].rel.ver j+1⟩:Ver),WD[i].rel.reqs,⟨#[]⟩,⟨#[]⟩,⟨#[]⟩,false⟩:Rl)])),.slice .none ifs])] Z12 Z7 (yN (Xi (DC (cl.getD WD[i].client [])) (Yi (Yi (OV _) (wE (hW _ (Aq n3)).1)) (Yi rfl (Xi _ (Yi (s16 (SP (sx++[(⟨a.path,(⟨WD[i].rel.ver.a,WD[i].rel.ver.b,Gg L WD[i].rel.ver j+1⟩:Ver),WD[i].rel.reqs,⟨#[]⟩,⟨#[]⟩,⟨#[]⟩,false⟩:Rl)])) ifs (cl.getD WD[i].client []) (qG (ay oq.few ha.path (hx.few _ (hW _ (Aq n3)).2.1).2)) (hcl _ (ta (hW _ (Aq n3)).1))) (Yi Wk (cU [(2,sl DC cl),(3,.ref 3 0),(4,.ref 4 0),(8,.ref 8 0),(10,.slice (.id 10 5) (((WD.take i).map (HM x sx a cl)).map B2)),(12,.ref 12 0),(13,.ref 13 0),(16,vi (plc (⟨WD[i].rel.ver.a,WD[i].rel.ver.b,Gg L WD[i].rel.ver j+1⟩:Ver))),(20,vi (Kw (SP (sx++[(⟨a.path,(⟨WD[i].rel.ver.a,WD[i].rel.ver.b,Gg L WD[i].rel.ver j+1⟩:Ver),WD[i].rel.reqs,⟨#[]⟩,⟨#[]⟩,⟨#[]⟩,false⟩:Rl)])) (cl.getD WD[i].client []))),(37,sl Cu WD),(38,vi (WD.map Cu).length),(39,vi i)] [(3,.ro (Ic x ifs)),(4,.ro (CT a)),(8,.cells (Ic sx ifs)),(10,.tok 5 (((WD.take i).map (HM x sx a cl)).map B2).length),(12,.cells (Cu WD[i])),(13,.cells [vi WD[i].rel.ver.a,vi WD[i].rel.ver.b,vi ((Gg L WD[i].rel.ver j)+1)])] Z12 Z6 (yN (Yi (fun RV=>?_) (fun RV=>?_)))))))))))))
  .have RV:((Kw (SP (sx++[(⟨a.path,(⟨WD[i].rel.ver.a,WD[i].rel.ver.b,Gg L WD[i].rel.ver j+1⟩:Ver),WD[i].rel.reqs,⟨#[]⟩,⟨#[]⟩,⟨#[]⟩,false⟩:Rl)])) (cl.getD WD[i].client [])):Int)=(0:Int):=RV;refine B8 (Bt (has a.set (plc (⟨WD[i].rel.ver.a,WD[i].rel.ver.b,Gg L WD[i].rel.ver j+1⟩:Ver)))) (fun ZS=>?_) (fun ZS=>?_)
   .have ZS:(has a.set (plc (⟨WD[i].rel.ver.a,WD[i].rel.ver.b,Gg L WD[i].rel.ver j+1⟩:Ver)))=true:=ZS;refine Xi _ (Yi (cb ZS (km a.set (plc (⟨WD[i].rel.ver.a,WD[i].rel.ver.b,Gg L WD[i].rel.ver j+1⟩:Ver)) ha.set)) ?_);have b15:Cn 5 [[vi ((WD[i].client:Nat):Int),vi WD[i].rel.ver.a,vi WD[i].rel.ver.b,vi ((Gg L WD[i].rel.ver j)+1),vb false]]/\(((WD.take i).map (HM x sx a cl)).map B2).length=(((WD.take i).map (HM x sx a cl)).map B2).length/\((((WD.take i).map (HM x sx a cl)).map B2).length+([[vi ((WD[i].client:Nat):Int),vi WD[i].rel.ver.a,vi WD[i].rel.ver.b,vi ((Gg L WD[i].rel.ver j)+1),vb false]]:List (List AV)).length)*40<=140737488355328/\(((WD.take i).map (HM x sx a cl)).map B2).length+([[vi ((WD[i].client:Nat):Int),vi WD[i].rel.ver.a,vi WD[i].rel.ver.b,vi ((Gg L WD[i].rel.ver j)+1),vb false]]:List (List AV)).length<=9223372036854775807:=⟨⟨rfl,trivial⟩,rfl,(by simp only[Lm,Ak,At,Av];omega),(by simp only[Lm,Ak,At,Av];omega)⟩;refine Yi b15 (Yi Wk (cU [(2,sl DC cl),(3,.ref 3 0),(4,.ref 4 0),(8,.ref 8 0),(10,.slice (.id 10 5) ((((WD.take i).map (HM x sx a cl)).map B2)++[[vi ((WD[i].client:Nat):Int),vi WD[i].rel.ver.a,vi WD[i].rel.ver.b,vi ((Gg L WD[i].rel.ver j)+1),vb false]])),(37,sl Cu WD),(38,vi (WD.map Cu).length),(39,vi i)] [(3,.ro (Ic x ifs)),(4,.ro (CT a)),(8,.cells (Ic sx ifs)),(10,.tok 5 ((((WD.take i).map (HM x sx a cl)).map B2).length+([[vi ((WD[i].client:Nat):Int),vi WD[i].rel.ver.a,vi WD[i].rel.ver.b,vi ((Gg L WD[i].rel.ver j)+1),vb false]]:List (List AV)).length))] Z8 Z4 (Yi (Ii i ch) ?_)));have em:(⟨WD[i].rel.ver.a,WD[i].rel.ver.b,Gg L WD[i].rel.ver j+1⟩:Ver)=qb x a WD[i].rel.ver:=by rw[qb,jN,<-cu,Yy (Bz (DT h4))]
    have eb:HM x sx a cl WD[i]=⟨WD[i].client,⟨WD[i].rel.ver.a,WD[i].rel.ver.b,Gg L WD[i].rel.ver j+1⟩,false⟩:=by rw[HM,fc,pY,<-em];congr 1;rw[Ax RV,ZS];rfl
    have ew:((((WD.take i).map (HM x sx a cl)).map B2)++[[vi ((WD[i].client:Nat):Int),vi WD[i].rel.ver.a,vi WD[i].rel.ver.b,vi ((Gg L WD[i].rel.ver j)+1),vb false]])=(((WD.take (i+1)).map (HM x sx a cl)).map B2):=by rw[Ej n3,Ar,Ar];show _=_++[B2 (HM x sx a cl WD[i])];rw[eb]
    refine Xi ⟨i+1,n3,by rw[<-i2,kg n3 (by have q:=Aa Ver.c em;have q:Gg L WD[i].rel.ver j+1=jN x a WD[i].rel.ver+1:=q;omega)]⟩ ?_;exact⟨Dl WD.length i ch,⟨Zr,Zr,Zr,Zr,⟨(Aa (AV.slice (.id 10 5)) ew),rfl⟩,Zr,Zr,Zr,Tv⟩,⟨Zr,Zr,Zr,⟨(show HO.tok 5 ((((WD.take i).map (HM x sx a cl)).map B2).length+([[vi ((WD[i].client:Nat):Int),vi WD[i].rel.ver.a,vi WD[i].rel.ver.b,vi ((Gg L WD[i].rel.ver j)+1),vb false]]:List (List AV)).length)=.tok 5 (((WD.take (i+1)).map (HM x sx a cl)).map B2).length from Aa (HO.tok 5) (Ac.symm.trans (Aa List.length ew))),rfl⟩,Tv⟩,Fh,Tv⟩
   have ZS:(has a.set (plc (⟨WD[i].rel.ver.a,WD[i].rel.ver.b,Gg L WD[i].rel.ver j+1⟩:Ver)))=false:=ZS;refine Xi _ (Yi (cb ZS (km a.set (plc (⟨WD[i].rel.ver.a,WD[i].rel.ver.b,Gg L WD[i].rel.ver j+1⟩:Ver)) ha.set)) ?_);have b17:Cn 5 [[vi ((WD[i].client:Nat):Int),vi WD[i].rel.ver.a,vi WD[i].rel.ver.b,vi ((Gg L WD[i].rel.ver j)+1),vb true]]/\(((WD.take i).map (HM x sx a cl)).map B2).length=(((WD.take i).map (HM x sx a cl)).map B2).length/\((((WD.take i).map (HM x sx a cl)).map B2).length+([[vi ((WD[i].client:Nat):Int),vi WD[i].rel.ver.a,vi WD[i].rel.ver.b,vi ((Gg L WD[i].rel.ver j)+1),vb true]]:List (List AV)).length)*40<=140737488355328/\(((WD.take i).map (HM x sx a cl)).map B2).length+([[vi ((WD[i].client:Nat):Int),vi WD[i].rel.ver.a,vi WD[i].rel.ver.b,vi ((Gg L WD[i].rel.ver j)+1),vb true]]:List (List AV)).length<=9223372036854775807:=⟨⟨rfl,trivial⟩,rfl,(by simp only[Lm,Ak,At,Av];omega),(by simp only[Lm,Ak,At,Av];omega)⟩;refine Yi b17 (Yi Wk (cU [(2,sl DC cl),(3,.ref 3 0),(4,.ref 4 0),(8,.ref 8 0),(10,.slice (.id 10 5) ((((WD.take i).map (HM x sx a cl)).map B2)++[[vi ((WD[i].client:Nat):Int),vi WD[i].rel.ver.a,vi WD[i].rel.ver.b,vi ((Gg L WD[i].rel.ver j)+1),vb true]])),(37,sl Cu WD),(38,vi (WD.map Cu).length),(39,vi i)] [(3,.ro (Ic x ifs)),(4,.ro (CT a)),(8,.cells (Ic sx ifs)),(10,.tok 5 ((((WD.take i).map (HM x sx a cl)).map B2).length+([[vi ((WD[i].client:Nat):Int),vi WD[i].rel.ver.a,vi WD[i].rel.ver.b,vi ((Gg L WD[i].rel.ver j)+1),vb true]]:List (List AV)).length))] Z8 Z4 (Yi (Ii i ch) ?_)));have em:(⟨WD[i].rel.ver.a,WD[i].rel.ver.b,Gg L WD[i].rel.ver j+1⟩:Ver)=qb x a WD[i].rel.ver:=by rw[qb,jN,<-cu,Yy (Bz (DT h4))]
   have eb:HM x sx a cl WD[i]=⟨WD[i].client,⟨WD[i].rel.ver.a,WD[i].rel.ver.b,Gg L WD[i].rel.ver j+1⟩,true⟩:=by rw[HM,fc,pY,<-em];congr 1;rw[Ax RV,ZS];rfl
   have ew:((((WD.take i).map (HM x sx a cl)).map B2)++[[vi ((WD[i].client:Nat):Int),vi WD[i].rel.ver.a,vi WD[i].rel.ver.b,vi ((Gg L WD[i].rel.ver j)+1),vb true]])=(((WD.take (i+1)).map (HM x sx a cl)).map B2):=by rw[Ej n3,Ar,Ar];show _=_++[B2 (HM x sx a cl WD[i])];rw[eb]
   refine Xi ⟨i+1,n3,by rw[<-i2,kg n3 (by have q:=Aa Ver.c em;have q:Gg L WD[i].rel.ver j+1=jN x a WD[i].rel.ver+1:=q;omega)]⟩ ?_;exact⟨Dl WD.length i ch,⟨Zr,Zr,Zr,Zr,⟨(Aa (AV.slice (.id 10 5)) ew),rfl⟩,Zr,Zr,Zr,Tv⟩,⟨Zr,Zr,Zr,⟨(show HO.tok 5 ((((WD.take i).map (HM x sx a cl)).map B2).length+([[vi ((WD[i].client:Nat):Int),vi WD[i].rel.ver.a,vi WD[i].rel.ver.b,vi ((Gg L WD[i].rel.ver j)+1),vb true]]:List (List AV)).length)=.tok 5 (((WD.take (i+1)).map (HM x sx a cl)).map B2).length from Aa (HO.tok 5) (Ac.symm.trans (Aa List.length ew))),rfl⟩,Tv⟩,Fh,Tv⟩
  have RV:¬(((Kw (SP (sx++[(⟨a.path,(⟨WD[i].rel.ver.a,WD[i].rel.ver.b,Gg L WD[i].rel.ver j+1⟩:Ver),WD[i].rel.reqs,⟨#[]⟩,⟨#[]⟩,⟨#[]⟩,false⟩:Rl)])) (cl.getD WD[i].client [])):Int)=(0:Int)):=RV;have b19:Cn 5 [[vi ((WD[i].client:Nat):Int),vi WD[i].rel.ver.a,vi WD[i].rel.ver.b,vi ((Gg L WD[i].rel.ver j)+1),vb false]]/\(((WD.take i).map (HM x sx a cl)).map B2).length=(((WD.take i).map (HM x sx a cl)).map B2).length/\((((WD.take i).map (HM x sx a cl)).map B2).length+([[vi ((WD[i].client:Nat):Int),vi WD[i].rel.ver.a,vi WD[i].rel.ver.b,vi ((Gg L WD[i].rel.ver j)+1),vb false]]:List (List AV)).length)*40<=140737488355328/\(((WD.take i).map (HM x sx a cl)).map B2).length+([[vi ((WD[i].client:Nat):Int),vi WD[i].rel.ver.a,vi WD[i].rel.ver.b,vi ((Gg L WD[i].rel.ver j)+1),vb false]]:List (List AV)).length<=9223372036854775807:=⟨⟨rfl,trivial⟩,rfl,(by simp only[Lm,Ak,At,Av];omega),(by simp only[Lm,Ak,At,Av];omega)⟩;refine Yi b19 (Yi Wk (cU [(2,sl DC cl),(3,.ref 3 0),(4,.ref 4 0),(8,.ref 8 0),(10,.slice (.id 10 5) ((((WD.take i).map (HM x sx a cl)).map B2)++[[vi ((WD[i].client:Nat):Int),vi WD[i].rel.ver.a,vi WD[i].rel.ver.b,vi ((Gg L WD[i].rel.ver j)+1),vb false]])),(37,sl Cu WD),(38,vi (WD.map Cu).length),(39,vi i)] [(3,.ro (Ic x ifs)),(4,.ro (CT a)),(8,.cells (Ic sx ifs)),(10,.tok 5 ((((WD.take i).map (HM x sx a cl)).map B2).length+([[vi ((WD[i].client:Nat):Int),vi WD[i].rel.ver.a,vi WD[i].rel.ver.b,vi ((Gg L WD[i].rel.ver j)+1),vb false]]:List (List AV)).length))] Z8 Z4 (Yi (Ii i ch) ?_)));have em:(⟨WD[i].rel.ver.a,WD[i].rel.ver.b,Gg L WD[i].rel.ver j+1⟩:Ver)=qb x a WD[i].rel.ver:=by rw[qb,jN,<-cu,Yy (Bz (DT h4))]
  have eb:HM x sx a cl WD[i]=⟨WD[i].client,⟨WD[i].rel.ver.a,WD[i].rel.ver.b,Gg L WD[i].rel.ver j+1⟩,false⟩:=by rw[HM,fc,pY,<-em];congr 1;rw[AB RV];rfl
  have ew:((((WD.take i).map (HM x sx a cl)).map B2)++[[vi ((WD[i].client:Nat):Int),vi WD[i].rel.ver.a,vi WD[i].rel.ver.b,vi ((Gg L WD[i].rel.ver j)+1),vb false]])=(((WD.take (i+1)).map (HM x sx a cl)).map B2):=by rw[Ej n3,Ar,Ar];show _=_++[B2 (HM x sx a cl WD[i])];rw[eb]
  refine Xi ⟨i+1,n3,by rw[<-i2,kg n3 (by have q:=Aa Ver.c em;have q:Gg L WD[i].rel.ver j+1=jN x a WD[i].rel.ver+1:=q;omega)]⟩ ?_;exact⟨Dl WD.length i ch,⟨Zr,Zr,Zr,Zr,⟨(Aa (AV.slice (.id 10 5)) ew),rfl⟩,Zr,Zr,Zr,Tv⟩,⟨Zr,Zr,Zr,⟨(show HO.tok 5 ((((WD.take i).map (HM x sx a cl)).map B2).length+([[vi ((WD[i].client:Nat):Int),vi WD[i].rel.ver.a,vi WD[i].rel.ver.b,vi ((Gg L WD[i].rel.ver j)+1),vb false]]:List (List AV)).length)=.tok 5 (((WD.take (i+1)).map (HM x sx a cl)).map B2).length from Aa (HO.tok 5) (Ac.symm.trans (Aa List.length ew))),rfl⟩,Tv⟩,Fh,Tv⟩
 have h3:¬((i:Int)<((WD.map Cu).length:Int)):=h3;have n3:=DT h3;have eb:dS x a WD=0:=by rw[<-i2,Cr (Bz (DT h3))];rfl
 exact CZ.of_eq (show AV.tup [sl B2 ((WD.take i).map (HM x sx a cl)),vi 0]=_ by rw[eb,Al rfl,As (Bz (DT h3))])
theorem yW(c0:¬OL x [a]=0)(jH:PC 62 [Mo x ifs,sl CT [a]] (.tup [.agg [nzA,nzA],vi (OL x [a])])):PC 31 [.agg (Ic x ifs),.agg (CT a),sl DC cl] (.tup [sl B2 [],vi (OL x [a])]):=by
 refine Ps (pT [3,4] [(10,5)] [2,6,11,15,16,20,23,25,26,27]) Tryz.func31 rfl (Nz rfl) (yN (yN (Xi .pure (Xi _ (Yi jH (yN (cU [(2,sl DC cl),(3,.ref 3 0),(4,.ref 4 0),(8,.ref 8 0),(9,vi (OL x [a]))] [(3,.ro (Ic x ifs)),(4,.ro (CT a)),(8,.cells [nzA,nzA])] Z5 Z3 (Yi (fun h1=>?_) (fun h1=>?_)))))))))
 .have h1:((OL x [a]):Int)≠(0:Int):=h1;exact CZ.tup (show KP [nzA,vi (OL x [a])] [sl B2 [],vi (OL x [a])]from⟨CZ.nil,CZ.refl _,trivial⟩)
 have h1:((OL x [a]):Int)=(0:Int):=AL h1;exact absurd h1 c0
theorem uH(hl:B9 cl)(hcl:∀q∈cl,∀z∈q,JT z)(c1:(cl.any fun q=>!decide (BI q=0))=true)(jH:PC 62 [Mo x ifs,sl CT [a]] (.tup [Mo sx ifs,vi 0])):PC 31 [.agg (Ic x ifs),.agg (CT a),sl DC cl] (.tup [sl B2 [],vi 1]):=by
 refine Ps (pT [3,4] [(10,5)] [2,6,11,15,16,20,23,25,26,27]) Tryz.func31 rfl (Nz rfl) (yN (yN (Xi .pure (Xi _ (Yi jH (yN (cU [(2,sl DC cl),(3,.ref 3 0),(4,.ref 4 0),(8,.ref 8 0),(9,vi 0)] [(3,.ro (Ic x ifs)),(4,.ro (CT a)),(8,.cells (Ic sx ifs))] Z5 Z3 (Yi (fun h=>absurd h Cl) (fun _=>?_)))))))));refine Xi .pure (Xi _ (Yi (c1▸dG cl hl hcl) ?_));exact CZ.tup (show KP [nzA,vi 1] [sl B2 [],vi 1]from⟨CZ.nil,CZ.refl _,trivial⟩)
abbrev qD:List Rl:=yk true (bz [a]) x
def oT:Int:=if OL x [a]=0 then if(cl.any fun q=>!decide (BI q=0))=true then 1 else dS x a (K7 x (qD x a) a cl)else OL x [a]
def wa:List Bk:=if oT x a cl=0 then(K7 x (qD x a) a cl).map (HM x (qD x a) a cl)else []
theorem zk{y:Bool}{p:Sl->Bool}{x:List Rl}(h:∀r∈x,r.reqs.length<=n):∀r∈yk y p x,r.reqs.length<=n:=n6 fun r hr=>⟨h r hr,h r hr⟩
theorem uI(hx:Tx x)(xH:∀r∈x,r.reqs.length<=1000)(ha:MD a)(hl:B9 cl)(hcl:∀q∈cl,∀z∈q,JT z)(vA:PC 103 [.slice .none ifs] (.slice .none ifs)) :
  PC 31 [Mo x ifs,.agg (CT a),sl DC cl] (.tup [sl B2 (wa x a cl),vi (oT x a cl)]):=by
 have jH:=uU x ifs [a] hx.to19 xH (show [a].length<=1073741824 from(Nz rfl)) (fun b hb=>by rw[Ap.1 hb];exact ha) vA;rw[rS]at jH
 by_cases c0:OL x [a]=0
 .rw[Al c0]at jH;have oq:Tx (qD x a):=⟨by rw[OR];exact hx.len,rb hx.few⟩;cases c1:cl.any fun q=>!decide (BI q=0)with
  |true =>
   have q:=uH x (qD x a) ifs a cl hl hcl c1 jH;have e:oT x a cl=1:=by rw[oT,Al c0,Al c1]
   rw[wa,e];exact q
  |false =>
   have q:=Ads x (qD x a) ifs a cl (K7 x (qD x a) a cl) _ rfl hx oq (zk xH) xH ha hl hcl OR (fun w hw=>wD hw) (AJ (T9 ..) hl) c1 jH (uP x (qD x a) ifs a cl hx.few oq.few hx.len ha.set hl hcl);have e:oT x a cl=dS x a (K7 x (qD x a) a cl):=by rw[oT,Al c0,Ai (by rw[c1];exact Ko)]
   rw[wa,e];exact q
 .rw[Ai c0]at jH;have q:=yW x ifs a cl c0 jH;have e:oT x a cl=OL x [a]:=by rw[oT,Ai c0]
  rw[wa,e,Ai c0];exact q
deriving instance DecidableEq for Bk
theorem rj{x y:Bk}:oa (B2 x) (B2 y)↔x=y:=by
 obtain⟨c,⟨a1,a2,a3⟩,e⟩:=x;obtain⟨c',⟨b1,b2,b3⟩,e'⟩:=y;constructor
 .intro h;have h:((c:Nat):Int)=(c' : Nat)/\a1=b1/\a2=b2/\a3=b3/\e=e'/\True:=h;obtain⟨h1,h2,h3,h4,h5,_⟩:=h;rw[Int.natCast_inj.1 h1,h2,h3,h4,h5]
 .intro h;cases h;exact⟨rfl,rfl,rfl,rfl,rfl,trivial⟩
theorem z33(l m:List (Bk))(hl:B9 l):PC 33 [sl B2 l,sl B2 m] (vb (decide (l=m))):=by
 refine Ps Ee Tryz.func33 rfl (Nz rfl) (Yi ?_ ?_)
 .intro h;have h:¬((l.map B2).length:Int)=(m.map B2).length:=h
  have:l≠m:=fun e=>h (by rw[e])
  rw[AB this];exact .refl _
 .intro h;have h:¬((l.map B2).length:Int)≠(m.map B2).length:=h;have CL:l.length=m.length:=by simp at h;omega
  refine Xi {i:Nat // i<=l.length/\l.take i=m.take i} (Xi (fun i=>⟨[(0,sl B2 l),(1,sl B2 m),(12,vi (l.map B2).length),(13,vi i.1)],[],Af⟩) (Xi (fun i=>l.length-i.1) (Yi (Xi ⟨0,by simp⟩ ?_) ?_)))
  .exact⟨Z4,Tv,Fh,Tv⟩
  .intro⟨i,h1,h2⟩;refine Yi ?_ ?_
   .intro h;have h:(i:Int)<(l.map B2).length:=h;have h:i<l.length:=by simpa using h
    have h' : i<m.length:=by omega
    have hg:l[i]?=some l[i]:=Ge h;have Ta : m[i]?=some m[i]:=Ge h';refine Xi (B2 l[i]) (Yi (Yi (Nn i) (by simp[hg])) (Yi rfl (yN ?_)));refine Xi (B2 m[i]) (Yi (Yi (Nn i) (by simp[Ta])) (Yi rfl (yN ?_)));refine Yi ?_ ?_
    .intro h5;have e:l[i]=m[i]:=rj.1 h5;refine Yi Wk (Yi (by show A7 ((i:Int)+1);unfold B9 at hl;unfold A7;omega) (Xi ⟨i+1,by omega,?_⟩ ?_))
     .rw[Bi,Bi,h2,hg,Ta,e]
     .exact⟨Dl l.length i ch,Z4,Tv,Fh,Tv⟩
    .intro h5;refine Yi Wk ?_
     have:l≠m:=fun e=>h5 (rj.2 (by subst e;rfl))
     rw[AB this];exact .refl _
   .intro h;have h:¬(i:Int)<(l.map B2).length:=h;have h:¬i<l.length:=by simpa using h
    have e:l=m:=by
     rw[<-As (l:=l) (i:=i) ch,h2,As ch]
    rw[Ax e];exact .refl _
theorem z39(hs:CV caps)(l:List (Bk))(p:Bk->Bool)(hF:∀x∈l,PC fF ([.agg (B2 x)]++caps) (vb (p x)))(hl:l.length<9223372036854775807) :
  PC 39 [sl B2 l,.clo fF caps] (vi (Jv p l 0)):=by
 refine Ps Ee Tryz.func39 rfl (Nz rfl) (Xi {i:Nat // i<=l.length/\∀j (hj:j<l.length),j<i->p l[j]=false} (Xi (fun i=>⟨[(0,sl B2 l),(1,.clo fF caps),(7,vi (l.map B2).length),(8,vi i.1)],[],Af⟩) (Xi (fun i=>l.length-i.1) (Yi (Xi ⟨0,by simp⟩ ?_) ?_))))
 .exact⟨⟨Zr,⟨rfl,hs.ids _⟩,Zr,Zr,Tv⟩,Tv,Fh,Tv⟩
 .intro⟨i,h1,h2⟩;refine Yi ?_ ?_
  .intro h;have h:i<l.length:=by simpa using h
   have hg:l[i]?=some l[i]:=Ge h;refine Xi (B2 l[i]) (Yi (Yi (Nn i) (by simp[hg])) (Yi rfl (yN ?_)));have Ca:∀h,PC fF ([.agg (B2 l[i])]++caps.map (str0 h)) (vb (p l[i])):=fun h=>by rw[hs.map];exact hF l[i] (Aq _)
   cases hp:p l[i]with
   |true =>
    rw[hp]at Ca;refine Xi .pure (Xi (vb true) (Yi (Ca _) ?_));rw[HC h (fun j hj JG=>h2 j hj JG) hp,Ew];exact .refl _
   |false =>
    rw[hp]at Ca;refine Xi .pure (Xi (vb false) (Yi (Ca _) (Yi (Ii i ch) (Xi ⟨i+1,by omega,fun j hj JG=>?_⟩ ?_))))
    .by_cases e:j=i
     .subst e;exact hp
     .exact h2 j hj ch
    .exact⟨Dl l.length i ch,⟨Zr,⟨rfl,hs.ids _⟩,Zr,Zr,Tv⟩,Tv,Fh,Tv⟩
  .intro h;have h:¬i<l.length:=by simpa using h
   rw[Gk fun j hj=>h2 j hj ch];exact .refl _
end Go.Eng
