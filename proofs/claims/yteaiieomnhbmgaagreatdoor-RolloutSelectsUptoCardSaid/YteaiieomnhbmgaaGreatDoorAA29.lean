/- Lemmas 29. -/
import Derived.Test.YteaiieomnhbmgaaGreatDoorAA28
set_option maxHeartbeats 4000000
namespace Go.Eng
open Go.Proofs Go.Proofs.Tryz
variable (x sx:List Rl)(a:Ad)(q:List Rq)
theorem qg(s:Sl)(a:Ad)(ha:BD a.set):PC 80 [.agg (Ab s),.cptr (Cy a)] (vb (Lp a s)):=by
 refine Ps (pC [2] []) func80 rfl C4 (yN (yN (A1 (Bt (Lp a s)) (fun h1=>?_) (fun h1=>?_))))
 .have h1:(Lp a s)=true:=h1;refine C1 (C2 (cb h1 (Y6 a s ha)) ?_);exact BC.of_eq (Aa vb (show true=Lp a s from h1.symm))
 have h1:(Lp a s)=false:=h1;refine C1 (C2 (cb h1 (Y6 a s ha)) ?_);exact BC.of_eq (Aa vb (show false=Lp a s from h1.symm))
theorem cg(s:List Sl)(ha:BD a.set)(hs:BD s):PC 41 [.agg (Cy a),sl Ab s] (vb (s.any (Lp a))):=by
 refine Ps (pC [2] []) func41 rfl C4 (A1 (Bt (s.any (Lp a))) (fun h1=>?_) (fun h1=>?_))
 .have h1:(s.any (Lp a))=true:=h1;refine C1 (C2 (cb h1 (o25 (fF:=80) (Cc.ptr _) s (Lp a) (fun y _=>qg y a ha) hs)) ?_);exact BC.of_eq (Aa vb (show true=s.any (Lp a)from h1.symm))
 have h1:(s.any (Lp a))=false:=h1;refine C1 (C2 (cb h1 (o25 (fF:=80) (Cc.ptr _) s (Lp a) (fun y _=>qg y a ha) hs)) ?_);exact BC.of_eq (Aa vb (show false=s.any (Lp a)from h1.symm))
theorem Acw(y:Sl)(a:Ad):PC 109 [.agg (Ab y),.cptr (Cy a)] (vb (decide (y.path=a.path))):=by
 refine Ps (pC [2] []) func109 rfl C4 (J (fun h1=>?_) (fun h1=>?_))
 .have h1:(y.path:CS)=a.path:=h1;exact BC.of_eq (Aa vb (show true=decide (y.path=a.path)from(AB h1).symm))
 have h1:¬(y.path:CS)=a.path:=h1;exact BC.of_eq (Aa vb (show false=decide (y.path=a.path)from(Aw h1).symm))
structure Wd where
 client:Nat
 rel:Rl
abbrev B4(w:Wd):List AV:=vi ((w.client:Nat):Int)::Au w.rel
abbrev Dm:List AV:=[sl AI q]
def gT:Sl->Bool:=fun y=>decide (y.path=a.path)
def Ad0:Rl:=⟨⟨#[]⟩,⟨0,0,0⟩,[],⟨#[]⟩,⟨#[]⟩,⟨#[]⟩,false⟩
def Et:Rl:=(((Ff x q).find? (gT a)).bind (By x)).getD Ad0
def N0:Bool:=decide (Ky x q=0)&&(Ff x q).any (Lp a)&&!decide (Ky sx q=0)
def QJ(x sx:List Rl)(a:Ad):List (List Rq)->Nat->List Wd
 | [],_=>[]
 |q::r,i=>if N0 x sx a q=true then⟨i,Et x a q⟩::QJ x sx a r (i+1)else QJ x sx a r (i+1)
def KB(cl:List (List Rq)):List Wd:=QJ x sx a cl 0
theorem ac(x sx:List Rl)(a:Ad):∀(l m:List (List Rq)) (i:Nat),QJ x sx a (l++m) i=QJ x sx a l i++QJ x sx a m (i+l.length)
 | [],m,i=>rfl
 |q::l,m,i=>by
  rw[G0,QJ,QJ,ac x sx a l m (i+1),Ap,show i+1+l.length=i+(l.length+1) by omega];split
  .rfl
  .rfl
theorem SK{x sx:List Rl}{a:Ad}{cl:List (List Rq)}{i:Nat}(h:i<cl.length):KB x sx a (cl.take (i+1))=KB x sx a (cl.take i)++if N0 x sx a cl[i]=true then [⟨i,Et x a cl[i]⟩]else []:=by
 rw[A6 h,KB,ac,AF,Nat.min_eq_left ch,Fq]
 rfl
theorem TX(x sx:List Rl)(a:Ad):∀(l:List (List Rq)) (i:Nat),(QJ x sx a l i).length<=l.length
 | [],i=>Ao _
 |q::l,i=>by
  have q1:=TX x sx a l (i+1);rw[QJ];split
  .simp only[Ap];omega
  .simp only[Ap];omega
theorem cn{x:List Rl}{a:Ad}{q:List Rq}(h:Ky x q=0)(hc:(Ff x q).any (Lp a)=true):∃k,∃hk:k<(Ff x q).length,I7 (gT a) (Ff x q) 0=((k:Nat):Int)/\By x ⟨(Ff x q)[k].path,(Ff x q)[k].ver⟩=some (Et x a q):=by
 obtain⟨y,hy,hb⟩:=Ce.1 hc;have hp:gT a y=true:=by
  simp only[Lp,At]at hb;exact hb.1.2
 have hk:(Ff x q).findIdx (gT a)<(Ff x q).length:=List.findIdx_lt_length_of_exists ⟨y,hy,hp⟩;have dD:gT a (Ff x q)[(Ff x q).findIdx (gT a)]=true:=List.findIdx_getElem (w:=hk);have dz:∀j (hj:j<(Ff x q).length),j<(Ff x q).findIdx (gT a)->gT a (Ff x q)[j]=false:=fun j hj G8=>by
  have q:=List.not_of_lt_findIdx G8;simpa using q
 refine⟨_,hk,by rw[Hl hk dz dD,Ev],?_⟩;have hf:=aj hk dz dD;obtain⟨r,hr,he⟩:=(Qh h).1 _ (Ai hk);rw[Et,hf];show By x _=some ((By x _).getD Ad0);have hs:(By x ((Ff x q)[(Ff x q).findIdx (gT a)])).isSome=true:=by
  rw[By,AA (by rw[(Qh h).2.2];decide),List.find?_isSome];exact⟨r,hr,AB he⟩
 obtain⟨r',xe⟩:=Sp.1 hs;show By x ((Ff x q)[(Ff x q).findIdx (gT a)])=_;rw[xe];rfl
attribute [local irreducible] Ky Ff Et N0 Lp By
theorem yE(ifs:C0)(a:Ad)(cl:List (List Rq))(hx:∀r∈x,CX r)(qJ:∀r∈sx,CX r)(Ei:x.length<=16)(ha:BD a.set)(hl:BD cl)(hcl:∀q∈cl,∀z∈q,Jb z):PC 65 [.agg (Ic x ifs),.agg (Ic sx ifs),.agg (Cy a),sl Dm cl] (sl B4 (KB x sx a cl)):=by
 have hl:cl.length<=1073741824:=hl;have VH:∀q,(Ff x q).length<=1073741824:=fun q=>Yb q Ei;refine Ps (pT [4,5,6] [(9,10)] [6,7,8,11]) func65 rfl C4 (I {q:Nat // q<=cl.length} (I (fun q=>⟨[(4,.ref 4 0),(5,.ref 5 0),(6,.ref 6 0),(9,.slice (.id 9 10) ((KB x sx a (cl.take q.1)).map B4)),(19,sl Dm cl),(20,vi (cl.map Dm).length),(21,vi q.1)],[(4,.ro (Ic x ifs)),(5,.ro (Ic sx ifs)),(6,.ro (Cy a)),(9,.tok 10 ((KB x sx a (cl.take q.1)).map B4).length)],Ae⟩) (I (fun q=>cl.length-q.1) (J (I ⟨0,Aj _⟩ ?_) ?_))))
 .exact⟨Z7,Z4,Fh,C⟩
 intro⟨i,i1⟩;have i1:i<=cl.length:=i1;have hq:(KB x sx a (cl.take i)).length<=1073741824:=Av (TX _ _ _ _ _) (by rw[AF];omega);refine J (fun h1=>?_) (fun h1=>?_)
 .have h1:(i:Int)<((cl.map Dm).length:Int):=h1;have n1:=Dh h1;refine I (Dm cl[i]) (J (DC n1) (J rfl (yN (C1 (C2 (s16 x ifs cl[i] hx (hcl _ (Ai n1))) (cU [(4,.ref 4 0),(5,.ref 5 0),(6,.ref 6 0),(9,.slice (.id 9 10) ((KB x sx a (cl.take i)).map B4)),(10,vi i),(11,sl AI cl[i]),(12,sl Ab (Ff x cl[i])),(13,vi (Ky x cl[i])),(19,sl Dm cl),(20,vi (cl.map Dm).length),(21,vi i)] [(4,.ro (Ic x ifs)),(5,.ro (Ic sx ifs)),(6,.ro (Cy a)),(9,.tok 10 ((KB x sx a (cl.take i)).map B4).length)] Z11 Z4 (J (fun h2=>?_) (fun h2=>?_))))))))
  .have h2:((Ky x cl[i]):Int)≠(0:Int):=h2;refine J (Ii i ch) ?_;have ew:((KB x sx a (cl.take i)).map B4)=((KB x sx a (cl.take (i+1))).map B4):=by rw[SK n1,AA (by rw[N0,Aw h2];exact EC),Bg]
   refine I ⟨i+1,n1⟩ ?_;exact⟨Dl cl.length i ch,⟨B,B,B,⟨(Aa (AV.slice (.id 9 10)) ew),rfl⟩,B,B,B,C⟩,⟨B,B,B,⟨(show HO.tok 10 ((KB x sx a (cl.take i)).map B4).length=.tok 10 ((KB x sx a (cl.take (i+1))).map B4).length from Aa (HO.tok 10) (Aa List.length ew)),rfl⟩,C⟩,Fh,C⟩
  have h2:((Ky x cl[i]):Int)=(0:Int):=Aq h2;refine yN (A1 (Bt ((Ff x cl[i]).any (Lp a))) (fun h4=>?_) (fun h4=>?_))
  .have h4:((Ff x cl[i]).any (Lp a))=true:=h4;refine C1 (C2 (cb h4 (cg a (Ff x cl[i]) ha (Yb cl[i] Ei))) (cU [(4,.ref 4 0),(5,.ref 5 0),(6,.ref 6 0),(9,.slice (.id 9 10) ((KB x sx a (cl.take i)).map B4)),(10,vi i),(11,sl AI cl[i]),(12,sl Ab (Ff x cl[i])),(19,sl Dm cl),(20,vi (cl.map Dm).length),(21,vi i)] [(4,.ro (Ic x ifs)),(5,.ro (Ic sx ifs)),(6,.ro (Cy a)),(9,.tok 10 ((KB x sx a (cl.take i)).map B4).length)] Z10 Z4 (yN (C1 (C2 (s16 sx ifs cl[i] qJ (hcl _ (Ai n1))) (cU [(4,.ref 4 0),(5,.ref 5 0),(6,.ref 6 0),(9,.slice (.id 9 10) ((KB x sx a (cl.take i)).map B4)),(10,vi i),(12,sl Ab (Ff x cl[i])),(15,vi (Ky sx cl[i])),(19,sl Dm cl),(20,vi (cl.map Dm).length),(21,vi i)] [(4,.ro (Ic x ifs)),(5,.ro (Ic sx ifs)),(6,.ro (Cy a)),(9,.tok 10 ((KB x sx a (cl.take i)).map B4).length)] Z10 Z4 (J (fun h5=>?_) (fun h5=>?_))))))))
   .have h5:((Ky sx cl[i]):Int)=(0:Int):=h5;refine J (Ii i ch) ?_;have ew:((KB x sx a (cl.take i)).map B4)=((KB x sx a (cl.take (i+1))).map B4):=by rw[SK n1,AA (by rw[N0,AB h5,Bool.not_true,Eo];exact EC),Bg]
    refine I ⟨i+1,n1⟩ ?_;exact⟨Dl cl.length i ch,⟨B,B,B,⟨(Aa (AV.slice (.id 9 10)) ew),rfl⟩,B,B,B,C⟩,⟨B,B,B,⟨(show HO.tok 10 ((KB x sx a (cl.take i)).map B4).length=.tok 10 ((KB x sx a (cl.take (i+1))).map B4).length from Aa (HO.tok 10) (Aa List.length ew)),rfl⟩,C⟩,Fh,C⟩
   have h5:¬(((Ky sx cl[i]):Int)=(0:Int)):=h5;obtain⟨k,hk,hk1,Qr⟩:=cn h2 h4;refine C1 (C2 (show PC 108 [sl Ab (Ff x cl[i]),.clo 109 [.cptr (Cy a)]] (vi ((k:Nat):Int))from hk1▸o70 (fF:=109) (Cc.ptr _) (Ff x cl[i]) (gT a) (fun y _=>Acw y a) (Nat.lt_of_le_of_lt (VH cl[i]) Wk)) (yN (I (Ab ((Ff x cl[i])[k])) (J (DC hk) (J rfl (I (Ab ((Ff x cl[i])[k])) (J (DC hk) (J rfl (yN (C2 (by have q:=c53 x ifs (Ff x cl[i])[k].path (Ff x cl[i])[k].ver (c84 x ifs hx) hx;rw[Qr]at q;exact q) ?_))))))))));refine yN (J aa1 (cU [(4,.ref 4 0),(5,.ref 5 0),(6,.ref 6 0),(9,.slice (.id 9 10) ((KB x sx a (cl.take i)).map B4)),(10,vi i),(17,.ref 17 0),(19,sl Dm cl),(20,vi (cl.map Dm).length),(21,vi i)] [(4,.ro (Ic x ifs)),(5,.ro (Ic sx ifs)),(6,.ro (Cy a)),(9,.tok 10 ((KB x sx a (cl.take i)).map B4).length),(17,.cells (Au (Et x a cl[i])))] Z9 Z5 (yN ?_)));have b7:Bi 10 [[vi i,vs (Et x a cl[i]).path,vi (Et x a cl[i]).ver.a,vi (Et x a cl[i]).ver.b,vi (Et x a cl[i]).ver.c,sl AI (Et x a cl[i]).reqs,vs (Et x a cl[i]).arch,vs (Et x a cl[i]).ifc,vs (Et x a cl[i]).cert,vb (Et x a cl[i]).yanked]]/\((KB x sx a (cl.take i)).map B4).length=((KB x sx a (cl.take i)).map B4).length/\(((KB x sx a (cl.take i)).map B4).length+([[vi i,vs (Et x a cl[i]).path,vi (Et x a cl[i]).ver.a,vi (Et x a cl[i]).ver.b,vi (Et x a cl[i]).ver.c,sl AI (Et x a cl[i]).reqs,vs (Et x a cl[i]).arch,vs (Et x a cl[i]).ifc,vs (Et x a cl[i]).cert,vb (Et x a cl[i]).yanked]]:C0).length)*128<=140737488355328/\((KB x sx a (cl.take i)).map B4).length+([[vi i,vs (Et x a cl[i]).path,vi (Et x a cl[i]).ver.a,vi (Et x a cl[i]).ver.b,vi (Et x a cl[i]).ver.c,sl AI (Et x a cl[i]).reqs,vs (Et x a cl[i]).arch,vs (Et x a cl[i]).ifc,vs (Et x a cl[i]).cert,vb (Et x a cl[i]).yanked]]:C0).length<=9223372036854775807:=⟨⟨rfl,trivial⟩,rfl,(by simp only[Lm,Ap,AC];omega),(by simp only[Lm,Ap,AC];omega)⟩;refine J b7 (J (Ii i ch) ?_);have ew:(((KB x sx a (cl.take i)).map B4)++[[vi i,vs (Et x a cl[i]).path,vi (Et x a cl[i]).ver.a,vi (Et x a cl[i]).ver.b,vi (Et x a cl[i]).ver.c,sl AI (Et x a cl[i]).reqs,vs (Et x a cl[i]).arch,vs (Et x a cl[i]).ifc,vs (Et x a cl[i]).cert,vb (Et x a cl[i]).yanked]])=((KB x sx a (cl.take (i+1))).map B4):=by rw[SK n1,Ax (by rw[N0,AB h2,h4,Aw h5];rfl),Ar];rfl
   refine I ⟨i+1,n1⟩ ?_;exact⟨Dl cl.length i ch,⟨B,B,B,⟨(Aa (AV.slice (.id 9 10)) ew),rfl⟩,B,B,B,C⟩,⟨B,B,B,⟨(show HO.tok 10 (((KB x sx a (cl.take i)).map B4).length+([[vi i,vs (Et x a cl[i]).path,vi (Et x a cl[i]).ver.a,vi (Et x a cl[i]).ver.b,vi (Et x a cl[i]).ver.c,sl AI (Et x a cl[i]).reqs,vs (Et x a cl[i]).arch,vs (Et x a cl[i]).ifc,vs (Et x a cl[i]).cert,vb (Et x a cl[i]).yanked]]:C0).length)=.tok 10 ((KB x sx a (cl.take (i+1))).map B4).length from Aa (HO.tok 10) (Ac.symm.trans (Aa List.length ew))),rfl⟩,C⟩,Fh,C⟩
  have h4:((Ff x cl[i]).any (Lp a))=false:=h4;refine C1 (C2 (cb h4 (cg a (Ff x cl[i]) ha (Yb cl[i] Ei))) (J (Ii i ch) ?_));have ew:((KB x sx a (cl.take i)).map B4)=((KB x sx a (cl.take (i+1))).map B4):=by rw[SK n1,AA (by rw[N0,h4,Eo];exact EC),Bg]
  refine I ⟨i+1,n1⟩ ?_;exact⟨Dl cl.length i ch,⟨B,B,B,⟨(Aa (AV.slice (.id 9 10)) ew),rfl⟩,B,B,B,C⟩,⟨B,B,B,⟨(show HO.tok 10 ((KB x sx a (cl.take i)).map B4).length=.tok 10 ((KB x sx a (cl.take (i+1))).map B4).length from Aa (HO.tok 10) (Aa List.length ew)),rfl⟩,C⟩,Fh,C⟩
 have h1:¬((i:Int)<((cl.map Dm).length:Int)):=h1;have n1:=BB h1;exact BC.of_eq (show sl B4 (KB x sx a (cl.take i))=sl B4 (KB x sx a cl) by rw[As (l:=cl) (i:=i) (AE (BB h1))])
end Go.Eng
namespace Go.Eng
open Go.Proofs Go.Proofs.Tryz
variable {q:List Rq}{caps:List AV}{i n fF k:Nat}(x sx:List Rl)(ifs:C0)(a:Ad)(v:Ver)(cl:List (List Rq))(w:Wd)
abbrev oX(p:CS):List Rl:=x.filter fun r=>decide (r.path=p)
def IQ(l:List Rl):List Ver:=l.map (·.ver)
theorem t7{l:List Rl}(h:i<l.length):IQ (l.take (i+1))=IQ (l.take i)++[l[i].ver]:=by
 rw[A6 h,IQ,Ar];rfl
theorem yO(p:CS)(L:List Rl)(lx:L=oX x p)(hx:∀r∈x,CX r)(h0:AL x=0)(Ei:x.length<=16)(Ef:∃r∈x,r.path=p):PC 66 [.agg (Ic x ifs),vs p] (sl CK (IQ L)):=by
 have nv:PC 82 [HZ x ifs] (.tup [.agg [.cmap Zn (x.map WQ),.cmap BW ((AW x []).map (ve x))],vi 0]):=by have q:=c84 x ifs hx;unfold uA tV at q;rw[Ax h0]at q;exact q
 have hLl:L.length<=16:=by have q:=Em (fun r:Rl=>decide (r.path=p)) x;rw[lx];exact Av q Ei
 refine Ps (pT [2] [(7,3)] [2,7]) func66 rfl C4 (yN (C1 (C2 nv (yN (cU [(1,vs p),(5,.ref 5 0)] [(5,.cells [.cmap Zn (x.map WQ),.cmap BW ((AW x []).map (ve x))])] Z2 Z1 (J (fun a ha=>?_) (fun Qs=>absurd (Ay.2 ⟨p,(GE x [] p).2 (.inr Ef),rfl⟩) (Qs _))))))));have ea:a=sl Au L:=by rw[lx];exact sJ ha
 subst ea;refine I {q:Nat // q<=L.length} (I (fun q=>⟨[(7,.slice (.id 7 3) ((IQ (L.take q.1)).map CK)),(18,sl Au L),(19,vi (L.map Au).length),(20,vi q.1)],[(7,.tok 3 ((IQ (L.take q.1)).map CK).length)],Ae⟩) (I (fun q=>L.length-q.1) (J (I ⟨0,Aj _⟩ ?_) ?_)))
 .exact⟨Z4,Z1,Fh,C⟩
 intro⟨i,i1⟩;have i1:i<=L.length:=i1;have hq:(IQ (L.take i)).length<=1073741824:=by rw[IQ,Lm,AF];omega
 refine J (fun h1=>?_) (fun h1=>?_)
 .have h1:(i:Int)<((L.map Au).length:Int):=h1;have n1:=Dh h1;refine I (Au L[i]) (J (DC n1) (J rfl (yN (yN (yN ?_)))));have b2:Bi 3 [[vi L[i].ver.a,vi L[i].ver.b,vi L[i].ver.c]]/\((IQ (L.take i)).map CK).length=((IQ (L.take i)).map CK).length/\(((IQ (L.take i)).map CK).length+([[vi L[i].ver.a,vi L[i].ver.b,vi L[i].ver.c]]:C0).length)*24<=140737488355328/\((IQ (L.take i)).map CK).length+([[vi L[i].ver.a,vi L[i].ver.b,vi L[i].ver.c]]:C0).length<=9223372036854775807:=⟨⟨rfl,trivial⟩,rfl,(by simp only[Lm,Ap,AC];omega),(by simp only[Lm,Ap,AC];omega)⟩;refine J b2 (cU [(7,.slice (.id 7 3) (((IQ (L.take i)).map CK)++[[vi L[i].ver.a,vi L[i].ver.b,vi L[i].ver.c]])),(18,sl Au L),(19,vi (L.map Au).length),(20,vi i)] [(7,.tok 3 (((IQ (L.take i)).map CK).length+([[vi L[i].ver.a,vi L[i].ver.b,vi L[i].ver.c]]:C0).length))] Z4 Z1 (J (Ii i ch) ?_));have ew:(((IQ (L.take i)).map CK)++[[vi L[i].ver.a,vi L[i].ver.b,vi L[i].ver.c]])=((IQ (L.take (i+1))).map CK):=by rw[t7 n1,Ar];rfl
  refine I ⟨i+1,n1⟩ ?_;exact⟨Dl L.length i ch,⟨⟨(Aa (AV.slice (.id 7 3)) ew),rfl⟩,B,B,B,C⟩,⟨⟨(show HO.tok 3 (((IQ (L.take i)).map CK).length+([[vi L[i].ver.a,vi L[i].ver.b,vi L[i].ver.c]]:C0).length)=.tok 3 ((IQ (L.take (i+1))).map CK).length from Aa (HO.tok 3) (Ac.symm.trans (Aa List.length ew))),rfl⟩,C⟩,Fh,C⟩
 have h1:¬((i:Int)<((L.map Au).length:Int)):=h1;have n1:=BB h1;exact BC.of_eq (show sl CK (IQ (L.take i))=sl CK (IQ L) by rw[As (l:=L) (i:=i) (AE (BB h1))])
theorem Acr(q:List Rq)(hq:∀z∈q,Jb z):PC 63 [sl AI q] (vb (!decide (A8 q=0))):=by
 refine Ps CQ func63 rfl C4 (C1 (C2 (c65 VD q hq) (J (fun h1=>?_) (fun h1=>?_))))
 .have h1:((A8 q):Int)≠(0:Int):=h1;exact BC.of_eq (Aa vb (show true=!decide (A8 q=0) by rw[Aw h1];rfl))
 have h1:((A8 q):Int)=(0:Int):=Aq h1;exact BC.of_eq (Aa vb (show false=!decide (A8 q=0) by rw[AB h1];rfl))
theorem z61(hs:Cc caps)(l:List (List Rq))(p:List Rq->Bool)(hF:∀x∈l,PC fF ([sl AI x]++caps) (vb (p x)))(hl:l.length<9223372036854775807) :
  PC 61 [sl Dm l,.clo fF caps] (vi (I7 p l 0)):=by
 refine Ps CQ func61 rfl C4 (I {i:Nat // i<=l.length/\∀j (hj:j<l.length),j<i->p l[j]=false} (I (fun i=>⟨[(0,sl Dm l),(1,.clo fF caps),(7,vi (l.map Dm).length),(8,vi i.1)],[],Ae⟩) (I (fun i=>l.length-i.1) (J (I ⟨0,by simp⟩ ?_) ?_))))
 .exact⟨⟨B,⟨rfl,hs.ids _⟩,B,B,C⟩,C,Fh,C⟩
 .intro⟨i,h1,h2⟩;refine J ?_ ?_
  .intro h;have h:(i:Int)<(l.map Dm).length:=h;have h:i<l.length:=by simpa using h
   have hg:l[i]?=some l[i]:=Ge h;refine I (Dm l[i]) (J (J (Nn i) (by simp[hg])) (J rfl ?_));have BQ:∀h,PC fF ([sl AI l[i]]++caps.map (str0 h)) (vb (p l[i])):=fun h=>by rw[hs.map];exact hF l[i] (Ai _)
   cases hp:p l[i]with
   |true=>
    rw[hp]at BQ;refine I .pure (I (vb true) (J (BQ _) ?_));rw[Hl h (fun j hj G8=>h2 j hj G8) hp,Ev];exact .refl _
   |false=>
    rw[hp]at BQ;refine I .pure (I (vb false) (J (BQ _) (J (Ii i ch) (I ⟨i+1,by omega,fun j hj G8=>?_⟩ ?_))))
    .by_cases e:j=i
     .subst e;exact hp
     .exact h2 j hj ch
    .exact⟨Dl l.length i ch,⟨B,⟨rfl,hs.ids _⟩,B,B,C⟩,C,Fh,C⟩
  .intro h;have h:¬(i:Int)<(l.map Dm).length:=h;have h:¬i<l.length:=by simpa using h
   rw[F8 fun j hj=>h2 j hj ch];exact .refl _
theorem z28(hs:Cc caps)(l:List (List Rq))(p:List Rq->Bool)(hF:∀x∈l,PC fF ([sl AI x]++caps) (vb (p x)))(hl:BD l) :
  PC 28 [sl Dm l,.clo fF caps] (vb (l.any p)):=by
 refine Ps CQ func28 rfl C4 ?_;have hi:=z61 hs l p hF (by unfold BD at hl;omega);have BQ:∀h,PC 61 [sl Dm l,.clo fF (caps.map (str0 h))] (vi (I7 p l 0)):=fun h=>by rw[hs.map];exact hi
 refine C1 (C2 (BQ _) ?_);have ha:=Hg (p:=p) l 0 (Bs 0);refine J ?_ ?_
 .intro h;have h:(0:Int)<=I7 p l 0:=h;rw[<-ha,AB h];exact .refl _
 .intro h;have h:¬(0:Int)<=I7 p l 0:=h;rw[<-ha,Aw h];exact .refl _
theorem fg(hl:BD cl)(h:∀q∈cl,∀z∈q,Jb z):PC 28 [sl Dm cl,.v (.func (.func 63) #[] #[])] (vb (cl.any fun q=>!decide (A8 q=0))):=
 (z28 (fF:=63) Cc.nil cl (fun q=>!decide (A8 q=0)) (fun q hq=>Acr q (h q hq)) hl).args ⟨.refl _,.fn _,trivial⟩
theorem ul(hx:x.length<=19)(hc:∀r∈x,PC 83 [.agg (Au r)] (.agg (Au r)))(hk:AU Tryz.prog 86 [.agg [.msl 1000 ((DN CB x.length x).map Au).length,nzA]] (Ak [(1000,.arr 9 ((DN CB x.length x).map Au))] Ae) fun r h'=>r=vi 0/\h'=Ak [(1000,.arr 9 ((DN CB x.length x).map Au))] Ae):PC 43 [sl Au x] (.tup [sl Au (DN CB x.length x),vi 0]):=by
 refine Ps ⟨[],[],[(4,9)],[],[],[],[],[],[],[(200011,4)],[7,8,11]⟩ func43 rfl C4 (I {q:Nat // q<=x.length} (I (fun q=>⟨[(4,.msl 4 (x.take q.1).length),(8,sl Au x),(9,vi (x.map Au).length),(10,vi q.1)],[(4,.arr 9 ((x.take q.1).map Au))],Ae⟩) (I (fun q=>x.length-q.1) (J (I ⟨0,Aj _⟩ ?_) ?_))))
 .exact⟨Z4,Z1,Fh,C⟩
 intro⟨i,i1⟩;have i1:i<=x.length:=i1;refine J (fun h1=>?_) (fun h1=>?_)
 .have h1:(i:Int)<((x.map Au).length:Int):=h1;have n1:=Dh h1;refine I (Au x[i]) (J (DC n1) (J rfl (yN (yN (yN (C1 (C2 (hc x[i] (Ai n1)) ?_)))))));have b2:Bi 9 [(Au x[i])]/\((x.take i).map Au).length=(x.take i).length/\(((x.take i).map Au).length+([(Au x[i])]:C0).length)*120<=140737488355328/\((x.take i).map Au).length+([(Au x[i])]:C0).length<=9223372036854775807:=⟨⟨rfl,trivial⟩,(by rw[Lm]),(by simp only[Lm,Ap,AC,AF];omega),(by simp only[Lm,Ap,AC,AF];omega)⟩;refine J b2 (J (Ii i ch) (I ⟨i+1,n1⟩ ?_));exact⟨Dl x.length i ch,⟨⟨(show AV.msl 4 (((x.take i).map Au).length+([Au x[i]]:C0).length)=.msl 4 (x.take (i+1)).length by rw[DV n1,Ac,Lm];rfl),rfl⟩,B,B,B,C⟩,⟨⟨(show HO.arr 9 ((x.take i).map Au++[Au x[i]])=.arr 9 ((x.take (i+1)).map Au) by rw[DV n1,Ar];rfl),rfl⟩,C⟩,Fh,C⟩
 have h1:¬((i:Int)<((x.map Au).length:Int)):=h1;have n1:=BB h1;have ei:x.take i=x:=As ch;refine cU [(4,.msl 4 x.length)] [(4,.arr 9 (x.map Au))] ⟨⟨(show AV.msl 4 (x.take i).length=.msl 4 x.length by rw[ei]),rfl⟩,C⟩ ⟨⟨(show HO.arr 9 ((x.take i).map Au)=.arr 9 (x.map Au) by rw[ei]),rfl⟩,C⟩ ?_
 refine I (.gen [(4,1000)] 0) (J rfl (AU.to2 (v105 x hx) ?_));refine cU [(4,.msl 4 ((DN CB x.length x).map Au).length)] [(4,.arr 9 ((DN CB x.length x).map Au))] ⟨⟨(show AV.msl 4 x.length=.msl 4 ((DN CB x.length x).map Au).length by rw[Lm,KQ]),rfl⟩,C⟩ Z1 ?_
 refine I (.gen [(4,1000)] 0) (J rfl (AU.to2 hk ?_));refine J (fun h=>absurd h Wk) (fun _=>?_);refine J rfl (cU [(4,sl Au (DN CB x.length x))] [] Z1 C ?_)
 exact .refl _
theorem qo{x:List Rl}(h:x.length<=19)(hf:∀r∈x,CX r)(hr:∀r∈x,r.reqs.length<=1000)(hc:AL (DN CB x.length x)=0):PC 43 [sl Au x] (.tup [sl Au (DN CB x.length x),vi 0]):=by
 have hk:=IB.lend (sz:=9) (es:=(DN CB x.length x).map Au) (vs:=[.slice none 0 0]) (y8 (x:=DN CB x.length x) fun r hr=>hf r (MC CB _ _ r hr));rw[hc]at hk;exact ul x h (fun r hm=>c98 r (hr r hm) fun q hq=>((hf r hm).2 q hq).1) hk
theorem lm{x:List Rl}(h:x.length<=19)(hf:∀r∈x,CX r)(hr:∀r∈x,r.reqs.length<=1000)(hc:AL (DN CB x.length x)≠0):PC 43 [sl Au x] (.tup [nzA,vi (AL (DN CB x.length x))]):=by
 have hk:=IB.lend (sz:=9) (es:=(DN CB x.length x).map Au) (vs:=[.slice none 0 0]) (y8 (x:=DN CB x.length x) fun r hr=>hf r (MC CB _ _ r hr));exact Ahe x h (fun r hm=>c98 r (hr r hm) fun q hq=>((hf r hm).2 q hq).1) _ hc hk
def SF:List Rl:=if AL (DN CB x.length x)=0 then DN CB x.length x else []
theorem uk{x:List Rl}(h:x.length<=19)(hf:∀r∈x,CX r)(hr:∀r∈x,r.reqs.length<=1000):PC 43 [sl Au x] (.tup [sl Au (SF x),vi (AL (DN CB x.length x))]):=by
 by_cases hc:AL (DN CB x.length x)=0
 .have q:=qo h hf hr hc;rw[SF,Ax hc,hc];exact q
 .have q:=lm h hf hr hc;rw[SF,AA hc];exact AU.mono q fun _ _ ⟨e1,e2⟩=>⟨_,e1▸BC.tup (show Jx [nzA,vi _] [sl Au [],vi _]from⟨BC.nil,BC.refl _,trivial⟩),rfl,e2⟩
theorem qf(l:List Rl)(hl:l.length<=256)(Ef:l≠[]):AU Tryz.prog 44 [sl Au l] Ae fun r h'=>r=.slice (.id 2000 9) (l.map Au)/\h'=Ak [(2000,.tok 9 (l.map Au).length)] Ae:=by
 show AU Tryz.prog _ _ (Ak [] Ae) _;refine BX (Ms CQ) [(5,2000)] rfl Ct hm rfl func44 aa1 rfl C4 aa1 rfl ?_;have F5:Bi 9 (l.map Au)/\([]:C0).length=0/\(([]:C0).length+(l.map Au).length)*120<=140737488355328/\([]:C0).length+(l.map Au).length<=9223372036854775807:=by
  refine⟨BV (enc:=Au) (n:=9) (fun _=>rfl) l,rfl,?_,?_⟩<;>simp only[AC,Lm]<;>omega
 refine J ?_ ?_
 .intro _;refine J F5 ?_;exact C2 (.refl _) ⟨rfl,Eq.trans (b:=Ak [(2000,.tok 9 (([]:C0).length+(l.map Au).length))] Ae) rfl (by rw[AC,Fq])⟩
 .intro h;have h:l.map Au=[]:=h;exact absurd (Eg.1 h) Ef
structure Bk where
 client:Nat
 ver:Ver
 enough:Bool
abbrev BH(b:Bk):List AV:=[vi ((b.client:Nat):Int),vi b.ver.a,vi b.ver.b,vi b.ver.c,vb b.enough]
def qM(b:Int)(c:Int)(v:Ver):Int:=if v.b=b then max c v.c else c
def F0(L:List Rl)(v:Ver)(n:Nat):Int:=((IQ L).take n).foldl (qM v.b) v.c
def lA:Int:=(IQ (oX x a.path)).foldl (qM v.b) v.c
def ta:Ver:=⟨v.a,v.b,lA x a v+1⟩
def sT:Rl:=⟨a.path,ta x a w.rel.ver,w.rel.reqs,⟨#[]⟩,⟨#[]⟩,⟨#[]⟩,false⟩
def gA:List Rl:=SF (sx++[sT x a w])
def Hr:Bk:=⟨w.client,ta x a w.rel.ver,decide (Ky (gA x sx a w) (cl.getD w.client [])=0)&&!has a.set (plc (ta x a w.rel.ver))⟩
def fG(x:List Rl)(a:Ad):List Wd->Int
 | []=>0
 |w::r=>if 999<lA x a w.rel.ver+1 then 2 else fG x a r
theorem lZ{x:List Rl}{a:Ad}{l:List Wd}(h:i<l.length)(k:¬999<lA x a l[i].rel.ver+1):fG x a (l.drop i)=fG x a (l.drop (i+1)):=by grind [List.drop_eq_getElem_cons,fG]
theorem z6{x:List Rl}{a:Ad}{l:List Wd}(h:i<l.length)(k:999<lA x a l[i].rel.ver+1):fG x a (l.drop i)=2:=by grind [List.drop_eq_getElem_cons,fG]
theorem gF{L:List Rl}{v:Ver}(h:n<(IQ L).length):F0 L v (n+1)=qM v.b (F0 L v n) (IQ L)[n]:=by
 grind [F0,List.take_succ_eq_append_getElem]
theorem YG{L:List Rl}{v:Ver}(h:(IQ L).length<=n):F0 L v n=(IQ L).foldl (qM v.b) v.c:=by rw[F0,As h]
theorem ae{x sx:List Rl}{a:Ad}{w:Wd}:∀{l:List (List Rq)} {i:Nat},w∈QJ x sx a l i->i<=w.client/\w.client<i+l.length/\N0 x sx a (l.getD (w.client-i) [])=true/\w.rel=Et x a (l.getD (w.client-i) [])
 | [],i,h=>by cases h
 |q::l,i,h=>by
  have tail:w∈QJ x sx a l (i+1)->i<=w.client/\w.client<i+(q::l).length/\N0 x sx a ((q::l).getD (w.client-i) [])=true/\w.rel=Et x a ((q::l).getD (w.client-i) []):=fun h=>by
   obtain⟨h1,h2,h3,h4⟩:=ae h<;>grind
  grind [QJ]
theorem tA{x:List Rl}{a:Ad}(h:Ky x q=0)(hc:(Ff x q).any (Lp a)=true):Et x a q∈x/\(Et x a q).path=a.path/\AL x=0:=by
 obtain⟨k,hk,h1,h2⟩:=cn h hc;have h0:=(Qh h).2.2;rw[By,AA ch]at h2;have hm:=AX h2;have hp:=DA h2;have hp:=AT hp;refine⟨hm,?_,h0⟩;have e1:(Et x a q).path=(Ff x q)[k].path:=Aa Sl.path hp;rw[e1];have hi:I7 (gT a) (Ff x q) 0=((k:Nat):Int):=h1;have EU:(Ff x q).findIdx (gT a)<(Ff x q).length:=by
  obtain⟨y,hy,hb⟩:=Ce.1 hc;simp only[Lp,At]at hb;exact List.findIdx_lt_length_of_exists ⟨y,hy,hb.1.2⟩
 grind [gT,Hl]
theorem Aan{x sx:List Rl}{a:Ad}{cl:List (List Rq)}{w:Wd}(h:w∈KB x sx a cl):w.client<cl.length/\w.rel∈x/\w.rel.path=a.path/\AL x=0:=by
 obtain⟨_,h2,h3,h4⟩:=ae h<;>grind [N0,tA]
theorem Aap{cl:List (List Rq)}(h:k<cl.length):(cl.map Dm)[k]?=some (Dm (cl.getD k [])):=by rw[B1,Ge h];simp[List.getD,h]
theorem wK{cl:List (List Rq)}(h:k<cl.length):cl.getD k []∈cl:=by
 have e:cl.getD k []=cl[k]:=by simp[List.getD,h]
 rw[e];exact Ai h
theorem bl{sx:List Rl}{p:CS}{v:Ver}(h:∀r∈sx,CX r)(hp:ES p)(hq:∀z∈q,Jb z):∀r∈sx++[(⟨p,v,q,⟨#[]⟩,⟨#[]⟩,⟨#[]⟩,false⟩:Rl)],CX r:=fun r hr=>by
 rcases Bh.1 hr with k | k
 .exact h r k
 .rw[AQ.1 k];exact⟨hp,hq⟩
theorem sP{sx:List Rl}{p:CS}{v:Ver}(h:∀r∈sx,r.reqs.length<=1000)(hq:q.length<=1000):∀r∈sx++[(⟨p,v,q,⟨#[]⟩,⟨#[]⟩,⟨#[]⟩,false⟩:Rl)],r.reqs.length<=1000:=fun r hr=>by
 rcases Bh.1 hr with k | k
 .exact h r k
 .rw[AQ.1 k];exact hq
theorem tQ{x:List Rl}(h:∀r∈x,CX r):∀r∈SF x,CX r:=fun r hr=>by
 rw[SF]at hr;split at hr
 .exact h r (MC CB _ _ r hr)
 .cases hr
theorem AbN{r:Rl}(h:CM r=0):0<=r.ver.c/\r.ver.c<=999:=by
 unfold CM at h;split at h
 .cases h
 .by_cases hv:BN r.ver=true
  .rw[BN]at hv;simp only[At,Bj]at hv;exact hv.2
  .rw[Bool.not_eq_true]at hv;rw[hv]at h;exact absurd (show(2:Int)=0 from h) Wk
theorem ap{b:Int}:∀(l:List Ver) (c:Int),(∀v∈l,0<=v.c/\v.c<=999)->0<=c/\c<=999->0<=l.foldl (qM b) c/\l.foldl (qM b) c<=999
 | [],c,_,h=>h
 |v::l,c,hl,h=>ap l (qM b c v) (fun u hu=>hl u (Am _ hu)) (by have q:=hl v (Ah ..);unfold qM;split<;>omega)
theorem Ahh(WD:List Wd)(L:List Rl)(lx:L=oX x a.path)(hx:Te x)(qJ:Te sx)(hrs:∀r∈sx,r.reqs.length<=1000)(hrx:∀r∈x,r.reqs.length<=1000)(ha:Mi a)(hl:BD cl)(hcl:∀q∈cl,∀z∈q,Jb z)(VH:sx.length=x.length)(hW:∀w∈WD,w.client<cl.length/\w.rel∈x/\w.rel.path=a.path/\AL x=0)(hWl:BD WD)(c1:(cl.any fun q=>!decide (A8 q=0))=false)(lw:PC 62 [HZ x ifs,sl Cy [a]] (.tup [HZ sx ifs,vi 0]))(h65:PC 65 [HZ x ifs,HZ sx ifs,.agg (Cy a),sl Dm cl] (sl B4 WD)):PC 31 [.agg (Ic x ifs),.agg (Cy a),sl Dm cl] (.tup [sl BH (if fG x a WD=0 then WD.map (Hr x sx a cl)else []),vi (fG x a WD)]):=by
 have Abn:x.length<=16:=hx.len;have AfW:sx.length<=16:=qJ.len;have Afa:L.length<=16:=by have q:=Em (fun r:Rl=>decide (r.path=a.path)) x;rw[lx];exact Av q Abn
 have AkS:(IQ L).length<=16:=by rw[IQ,Lm];exact Afa
 have qF:∀w∈WD,∀j,F0 L w.rel.ver j<=999/\0<=F0 L w.rel.ver j:=fun w hw j=>by
  have h0:=(ZI.1 (hW w hw).2.2.2).2.1;have q:=ap (b:=w.rel.ver.b) ((IQ L).take j) w.rel.ver.c (fun v hv=>by obtain⟨r,hr,rfl⟩:=Ay.1 (CF hv);exact AbN (h0 r (CY.1 (lx▸hr)).1)) (AbN (h0 _ (hW w hw).2.1));exact⟨q.2,q.1⟩
 refine Ps ⟨[3,4],[(10,5)],[],[],[],[],[],[],[(87,3)],[],[2,6,11,15,16,20,23,25,26,27]⟩ func31 rfl C4 (yN (yN (C1 (C2 lw (yN (cU [(2,sl Dm cl),(3,.ref 3 0),(4,.ref 4 0),(8,.ref 8 0),(9,vi 0)] [(3,.ro (Ic x ifs)),(4,.ro (Cy a)),(8,.cells (Ic sx ifs))] Z5 Z3 (J (fun h=>absurd h Wk) (fun _=>?_))))))));refine A1 (Bt (cl.any fun q=>!decide (A8 q=0))) (fun h1=>?_) (fun h1=>?_)
 .refine C1 (C2 (cb h1 (fg cl hl hcl)) ?_);exact absurd (h1.symm.trans c1) Wk
 refine C1 (C2 (cb h1 (fg cl hl hcl)) (cU [(2,sl Dm cl),(3,.ref 3 0),(4,.ref 4 0),(8,.ref 8 0)] [(3,.ro (Ic x ifs)),(4,.ro (Cy a)),(8,.cells (Ic sx ifs))] Z4 Z3 (yN (yN (yN (C1 (C2 h65 (I {q:Nat // q<=WD.length/\fG x a (WD.drop q)=fG x a WD} (I (fun q=>⟨[(2,sl Dm cl),(3,.ref 3 0),(4,.ref 4 0),(8,.ref 8 0),(10,.slice (.id 10 5) (((WD.take q.1).map (Hr x sx a cl)).map BH)),(37,sl B4 WD),(38,vi (WD.map B4).length),(39,vi q.1)],[(3,.ro (Ic x ifs)),(4,.ro (Cy a)),(8,.cells (Ic sx ifs)),(10,.tok 5 (((WD.take q.1).map (Hr x sx a cl)).map BH).length)],Ae⟩) (I (fun q=>WD.length-q.1) (J (I ⟨0,Aj _,rfl⟩ ?_) ?_)))))))))))
 .exact⟨Z8,Z4,Fh,C⟩
 intro⟨i,i1,i2⟩;refine J (fun h3=>?_) (fun h3=>?_)
 .have h3:(i:Int)<((WD.map B4).length:Int):=h3;have n3:=Dh h3;refine I (B4 WD[i]) (J (DC n3) (J rfl (yN (yN (yN (yN (cU [(2,sl Dm cl),(3,.ref 3 0),(4,.ref 4 0),(8,.ref 8 0),(10,.slice (.id 10 5) (((WD.take i).map (Hr x sx a cl)).map BH)),(12,.ref 12 0),(13,.ref 13 0),(37,sl B4 WD),(38,vi (WD.map B4).length),(39,vi i)] [(3,.ro (Ic x ifs)),(4,.ro (Cy a)),(8,.cells (Ic sx ifs)),(10,.tok 5 (((WD.take i).map (Hr x sx a cl)).map BH).length),(12,.cells (B4 WD[i])),(13,.cells [vi WD[i].rel.ver.a,vi WD[i].rel.ver.b,vi WD[i].rel.ver.c])] Z10 Z6 (yN (C1 (C2 (yO x ifs a.path L lx hx.few (hW _ (Ai n3)).2.2.2 hx.len ⟨_,(hW _ (Ai n3)).2.1,(hW _ (Ai n3)).2.2.1⟩) (I {q:Nat // q<=(IQ L).length} (I (fun q=>⟨[(2,sl Dm cl),(3,.ref 3 0),(4,.ref 4 0),(8,.ref 8 0),(10,.slice (.id 10 5) (((WD.take i).map (Hr x sx a cl)).map BH)),(12,.ref 12 0),(13,.ref 13 0),(37,sl B4 WD),(38,vi (WD.map B4).length),(39,vi i),(49,sl CK (IQ L)),(50,vi ((IQ L).map CK).length),(51,vi q.1)],[(3,.ro (Ic x ifs)),(4,.ro (Cy a)),(8,.cells (Ic sx ifs)),(10,.tok 5 (((WD.take i).map (Hr x sx a cl)).map BH).length),(12,.cells (B4 WD[i])),(13,.cells [vi WD[i].rel.ver.a,vi WD[i].rel.ver.b,vi (F0 L WD[i].rel.ver q.1)])],Ae⟩) (I (fun q=>(IQ L).length-q.1) (J (I ⟨0,Aj _⟩ ?_) ?_))))))))))))))
  .exact⟨Z13,Z6,Fh,C⟩
  intro⟨j,j1⟩;have j1:j<=(IQ L).length:=j1;have jm:=qF WD[i] (Ai ch) j;refine J (fun h4=>?_) (fun h4=>?_)
  .have h4:(j:Int)<(((IQ L).map CK).length:Int):=h4;have n4:=Dh h4;refine I (CK ((IQ L)[j])) (J (DC n4) (J rfl (yN (yN (J (fun h5=>?_) (fun h5=>?_))))))
   .have h5:(((IQ L)[j]).b:Int)=(WD[i].rel.ver.b:Int):=h5;refine cU [(2,sl Dm cl),(3,.ref 3 0),(4,.ref 4 0),(8,.ref 8 0),(10,.slice (.id 10 5) (((WD.take i).map (Hr x sx a cl)).map BH)),(12,.ref 12 0),(13,.ref 13 0),(15,.ref 15 0),(37,sl B4 WD),(38,vi (WD.map B4).length),(39,vi i),(49,sl CK (IQ L)),(50,vi ((IQ L).map CK).length),(51,vi j)] [(3,.ro (Ic x ifs)),(4,.ro (Cy a)),(8,.cells (Ic sx ifs)),(10,.tok 5 (((WD.take i).map (Hr x sx a cl)).map BH).length),(12,.cells (B4 WD[i])),(13,.cells [vi WD[i].rel.ver.a,vi WD[i].rel.ver.b,vi (F0 L WD[i].rel.ver j)]),(15,.cells (CK ((IQ L)[j])))] ⟨B,B,B,B,B,B,B,B,B,B,B,B,B,B,C⟩ Z7 (yN (cU [(2,sl Dm cl),(3,.ref 3 0),(4,.ref 4 0),(8,.ref 8 0),(10,.slice (.id 10 5) (((WD.take i).map (Hr x sx a cl)).map BH)),(12,.ref 12 0),(13,.ref 13 0),(37,sl B4 WD),(38,vi (WD.map B4).length),(39,vi i),(49,sl CK (IQ L)),(50,vi ((IQ L).map CK).length),(51,vi j)] [(3,.ro (Ic x ifs)),(4,.ro (Cy a)),(8,.cells (Ic sx ifs)),(10,.tok 5 (((WD.take i).map (Hr x sx a cl)).map BH).length),(12,.cells (B4 WD[i])),(13,.cells [vi WD[i].rel.ver.a,vi WD[i].rel.ver.b,vi (max (F0 L WD[i].rel.ver j) ((IQ L)[j]).c)])] Z13 Z6 (J (Ii j ch) (I ⟨j+1,n4⟩ ?_))));exact⟨by show(IQ L).length-(j+1)<(IQ L).length-j;omega,Z13,⟨B,B,B,B,B,⟨(show HO.cells [vi WD[i].rel.ver.a,vi WD[i].rel.ver.b,vi (max (F0 L WD[i].rel.ver j) ((IQ L)[j]).c)]=.cells [vi WD[i].rel.ver.a,vi WD[i].rel.ver.b,vi (F0 L WD[i].rel.ver (j+1))] by rw[gF n4,qM,Ax h5]),rfl⟩,C⟩,Fh,C⟩
   have h5:¬((((IQ L)[j]).b:Int)=(WD[i].rel.ver.b:Int)):=h5;refine cU [(2,sl Dm cl),(3,.ref 3 0),(4,.ref 4 0),(8,.ref 8 0),(10,.slice (.id 10 5) (((WD.take i).map (Hr x sx a cl)).map BH)),(12,.ref 12 0),(13,.ref 13 0),(37,sl B4 WD),(38,vi (WD.map B4).length),(39,vi i),(49,sl CK (IQ L)),(50,vi ((IQ L).map CK).length),(51,vi j)] [(3,.ro (Ic x ifs)),(4,.ro (Cy a)),(8,.cells (Ic sx ifs)),(10,.tok 5 (((WD.take i).map (Hr x sx a cl)).map BH).length),(12,.cells (B4 WD[i])),(13,.cells [vi WD[i].rel.ver.a,vi WD[i].rel.ver.b,vi (F0 L WD[i].rel.ver j)])] Z13 Z6 (J (Ii j ch) (I ⟨j+1,n4⟩ ?_));exact⟨by show(IQ L).length-(j+1)<(IQ L).length-j;omega,Z13,⟨B,B,B,B,B,⟨(show HO.cells [vi WD[i].rel.ver.a,vi WD[i].rel.ver.b,vi (F0 L WD[i].rel.ver j)]=.cells [vi WD[i].rel.ver.a,vi WD[i].rel.ver.b,vi (F0 L WD[i].rel.ver (j+1))] by rw[gF n4,qM,AA h5]),rfl⟩,C⟩,Fh,C⟩
  have h4:¬((j:Int)<(((IQ L).map CK).length:Int)):=h4;have n4:=BB h4;refine J (fun h8=>?_) (fun h8=>?_)
  .have h8:(256:Int)<=((x.map Au).length:Int):=h8;exact absurd h8 (by rw[Lm];omega)
  have h8:¬((256:Int)<=((x.map Au).length:Int)):=h8;refine J (by show Az (((F0 L WD[i].rel.ver j):Int)+(1:Int));unfold Az;omega) ?_;refine yN (cU [(2,sl Dm cl),(3,.ref 3 0),(4,.ref 4 0),(8,.ref 8 0),(10,.slice (.id 10 5) (((WD.take i).map (Hr x sx a cl)).map BH)),(12,.ref 12 0),(13,.ref 13 0),(37,sl B4 WD),(38,vi (WD.map B4).length),(39,vi i)] [(3,.ro (Ic x ifs)),(4,.ro (Cy a)),(8,.cells (Ic sx ifs)),(10,.tok 5 (((WD.take i).map (Hr x sx a cl)).map BH).length),(12,.cells (B4 WD[i])),(13,.cells [vi WD[i].rel.ver.a,vi WD[i].rel.ver.b,vi ((F0 L WD[i].rel.ver j)+1)])] Z10 Z6 (J (fun Is=>?_) (fun Is=>?_)))
  .have Is:(999:Int)<((F0 L WD[i].rel.ver j)+1:Int):=Is;have em:F0 L WD[i].rel.ver j=lA x a WD[i].rel.ver:=by rw[lA,<-lx,YG (AE (BB h4))]
   have eb:fG x a WD=2:=by rw[<-i2,z6 n3 ch]
   exact BC.trans (show BC _ (.tup [sl BH [],vi 2])from BC.tup (show Jx [nzA,vi 2] [sl BH [],vi 2]from⟨BC.nil,BC.refl _,trivial⟩)) (BC.of_eq (by rw[eb];rfl))
  have Is:¬((999:Int)<((F0 L WD[i].rel.ver j)+1:Int)):=Is;refine yN (C1 (C2 (y9 (⟨WD[i].rel.ver.a,WD[i].rel.ver.b,F0 L WD[i].rel.ver j+1⟩:Ver)) (cU [(2,sl Dm cl),(3,.ref 3 0),(4,.ref 4 0),(8,.ref 8 0),(10,.slice (.id 10 5) (((WD.take i).map (Hr x sx a cl)).map BH)),(12,.ref 12 0),(13,.ref 13 0),(16,vi (plc (⟨WD[i].rel.ver.a,WD[i].rel.ver.b,F0 L WD[i].rel.ver j+1⟩:Ver))),(37,sl B4 WD),(38,vi (WD.map B4).length),(39,vi i)] [(3,.ro (Ic x ifs)),(4,.ro (Cy a)),(8,.cells (Ic sx ifs)),(10,.tok 5 (((WD.take i).map (Hr x sx a cl)).map BH).length),(12,.cells (B4 WD[i])),(13,.cells [vi WD[i].rel.ver.a,vi WD[i].rel.ver.b,vi ((F0 L WD[i].rel.ver j)+1)])] Z11 Z6 (yN (yN (I _ (C2 aa1 (J (qf sx (Av AfW Wk) (fun e=>by have q:=List.length_pos_of_mem (hW _ (Ai n3)).2.1;rw[e]at VH;exact absurd VH (Nat.ne_of_lt q))) (yN ?_)))))))));have ze:Bi 9 [[vs a.path,vi WD[i].rel.ver.a,vi WD[i].rel.ver.b,vi ((F0 L WD[i].rel.ver j)+1),sl AI WD[i].rel.reqs,vs ⟨#[]⟩,vs ⟨#[]⟩,vs ⟨#[]⟩,vb false]]/\(sx.map Au).length=(sx.map Au).length/\((sx.map Au).length+([[vs a.path,vi WD[i].rel.ver.a,vi WD[i].rel.ver.b,vi ((F0 L WD[i].rel.ver j)+1),sl AI WD[i].rel.reqs,vs ⟨#[]⟩,vs ⟨#[]⟩,vs ⟨#[]⟩,vb false]]:C0).length)*120<=140737488355328/\(sx.map Au).length+([[vs a.path,vi WD[i].rel.ver.a,vi WD[i].rel.ver.b,vi ((F0 L WD[i].rel.ver j)+1),sl AI WD[i].rel.reqs,vs ⟨#[]⟩,vs ⟨#[]⟩,vs ⟨#[]⟩,vb false]]:C0).length<=9223372036854775807:=⟨⟨rfl,trivial⟩,rfl,(by simp only[Lm,Ap,AC];omega),(by simp only[Lm,Ap,AC];omega)⟩;refine J ze (C2 (show PC 43 [.slice .none ((sx.map Au)++[[vs a.path,vi WD[i].rel.ver.a,vi WD[i].rel.ver.b,vi ((F0 L WD[i].rel.ver j)+1),sl AI WD[i].rel.reqs,vs ⟨#[]⟩,vs ⟨#[]⟩,vs ⟨#[]⟩,vb false]])] (.tup [sl Au (SF (sx++[(⟨a.path,(⟨WD[i].rel.ver.a,WD[i].rel.ver.b,F0 L WD[i].rel.ver j+1⟩:Ver),WD[i].rel.reqs,⟨#[]⟩,⟨#[]⟩,⟨#[]⟩,false⟩:Rl)])),vi (AL (DN CB ((sx++[(⟨a.path,(⟨WD[i].rel.ver.a,WD[i].rel.ver.b,F0 L WD[i].rel.ver j+1⟩:Ver),WD[i].rel.reqs,⟨#[]⟩,⟨#[]⟩,⟨#[]⟩,false⟩:Rl)])).length ((sx++[(⟨a.path,(⟨WD[i].rel.ver.a,WD[i].rel.ver.b,F0 L WD[i].rel.ver j+1⟩:Ver),WD[i].rel.reqs,⟨#[]⟩,⟨#[]⟩,⟨#[]⟩,false⟩:Rl)]))))]) by rw[<-show sl Au ((sx++[(⟨a.path,(⟨WD[i].rel.ver.a,WD[i].rel.ver.b,F0 L WD[i].rel.ver j+1⟩:Ver),WD[i].rel.reqs,⟨#[]⟩,⟨#[]⟩,⟨#[]⟩,false⟩:Rl)]))=.slice .none ((sx.map Au)++[[vs a.path,vi WD[i].rel.ver.a,vi WD[i].rel.ver.b,vi ((F0 L WD[i].rel.ver j)+1),sl AI WD[i].rel.reqs,vs ⟨#[]⟩,vs ⟨#[]⟩,vs ⟨#[]⟩,vb false]])from(show AV.slice .none (List.map Au ((sx++[(⟨a.path,(⟨WD[i].rel.ver.a,WD[i].rel.ver.b,F0 L WD[i].rel.ver j+1⟩:Ver),WD[i].rel.reqs,⟨#[]⟩,⟨#[]⟩,⟨#[]⟩,false⟩:Rl)])))=_ by rw[Ar];rfl)];exact uk (x:=(sx++[(⟨a.path,(⟨WD[i].rel.ver.a,WD[i].rel.ver.b,F0 L WD[i].rel.ver j+1⟩:Ver),WD[i].rel.reqs,⟨#[]⟩,⟨#[]⟩,⟨#[]⟩,false⟩:Rl)])) (by rw[Ac];show sx.length+1<=19;omega) (bl qJ.few ha.path (hx.few _ (hW _ (Ai n3)).2.1).2) (sP hrs (hrx _ (hW _ (Ai n3)).2.1))) ?_);refine yN (J aa1 (cU [(2,sl Dm cl),(3,.ref 3 0),(4,.ref 4 0),(8,.ref 8 0),(10,.slice (.id 10 5) (((WD.take i).map (Hr x sx a cl)).map BH)),(12,.ref 12 0),(13,.ref 13 0),(16,vi (plc (⟨WD[i].rel.ver.a,WD[i].rel.ver.b,F0 L WD[i].rel.ver j+1⟩:Ver))),(18,.ref 18 0),(37,sl B4 WD),(38,vi (WD.map B4).length),(39,vi i)] [(3,.ro (Ic x ifs)),(4,.ro (Cy a)),(8,.cells (Ic sx ifs)),(10,.tok 5 (((WD.take i).map (Hr x sx a cl)).map BH).length),(12,.cells (B4 WD[i])),(13,.cells [vi WD[i].rel.ver.a,vi WD[i].rel.ver.b,vi ((F0 L WD[i].rel.ver j)+1)]),(18,.cells [sl Au (SF (sx++[(⟨a.path,(⟨WD[i].rel.ver.a,WD[i].rel.ver.b,F0 L WD[i].rel.ver j+1⟩:Ver),WD[i].rel.reqs,⟨#[]⟩,⟨#[]⟩,⟨#[]⟩,false⟩:Rl)])),.slice .none ifs])] Z12 Z7 (yN (I (Dm (cl.getD WD[i].client [])) (J (J (OL _) (Aap (hW _ (Ai n3)).1)) (J rfl (C2 (s16 (SF (sx++[(⟨a.path,(⟨WD[i].rel.ver.a,WD[i].rel.ver.b,F0 L WD[i].rel.ver j+1⟩:Ver),WD[i].rel.reqs,⟨#[]⟩,⟨#[]⟩,⟨#[]⟩,false⟩:Rl)])) ifs (cl.getD WD[i].client []) (tQ (bl qJ.few ha.path (hx.few _ (hW _ (Ai n3)).2.1).2)) (hcl _ (wK (hW _ (Ai n3)).1))) (J aa1 (cU [(2,sl Dm cl),(3,.ref 3 0),(4,.ref 4 0),(8,.ref 8 0),(10,.slice (.id 10 5) (((WD.take i).map (Hr x sx a cl)).map BH)),(12,.ref 12 0),(13,.ref 13 0),(16,vi (plc (⟨WD[i].rel.ver.a,WD[i].rel.ver.b,F0 L WD[i].rel.ver j+1⟩:Ver))),(20,vi (Ky (SF (sx++[(⟨a.path,(⟨WD[i].rel.ver.a,WD[i].rel.ver.b,F0 L WD[i].rel.ver j+1⟩:Ver),WD[i].rel.reqs,⟨#[]⟩,⟨#[]⟩,⟨#[]⟩,false⟩:Rl)])) (cl.getD WD[i].client []))),(37,sl B4 WD),(38,vi (WD.map B4).length),(39,vi i)] [(3,.ro (Ic x ifs)),(4,.ro (Cy a)),(8,.cells (Ic sx ifs)),(10,.tok 5 (((WD.take i).map (Hr x sx a cl)).map BH).length),(12,.cells (B4 WD[i])),(13,.cells [vi WD[i].rel.ver.a,vi WD[i].rel.ver.b,vi ((F0 L WD[i].rel.ver j)+1)])] Z12 Z6 (yN (J (fun J6=>?_) (fun J6=>?_))))))))))))
  .have J6:((Ky (SF (sx++[(⟨a.path,(⟨WD[i].rel.ver.a,WD[i].rel.ver.b,F0 L WD[i].rel.ver j+1⟩:Ver),WD[i].rel.reqs,⟨#[]⟩,⟨#[]⟩,⟨#[]⟩,false⟩:Rl)])) (cl.getD WD[i].client [])):Int)=(0:Int):=J6;refine A1 (Bt (has a.set (plc (⟨WD[i].rel.ver.a,WD[i].rel.ver.b,F0 L WD[i].rel.ver j+1⟩:Ver)))) (fun Ny=>?_) (fun Ny=>?_)
   .have Ny:(has a.set (plc (⟨WD[i].rel.ver.a,WD[i].rel.ver.b,F0 L WD[i].rel.ver j+1⟩:Ver)))=true:=Ny;refine C2 (cb Ny (mg a.set (plc (⟨WD[i].rel.ver.a,WD[i].rel.ver.b,F0 L WD[i].rel.ver j+1⟩:Ver)) ha.set)) ?_;have b15:Bi 5 [[vi ((WD[i].client:Nat):Int),vi WD[i].rel.ver.a,vi WD[i].rel.ver.b,vi ((F0 L WD[i].rel.ver j)+1),vb false]]/\(((WD.take i).map (Hr x sx a cl)).map BH).length=(((WD.take i).map (Hr x sx a cl)).map BH).length/\((((WD.take i).map (Hr x sx a cl)).map BH).length+([[vi ((WD[i].client:Nat):Int),vi WD[i].rel.ver.a,vi WD[i].rel.ver.b,vi ((F0 L WD[i].rel.ver j)+1),vb false]]:C0).length)*40<=140737488355328/\(((WD.take i).map (Hr x sx a cl)).map BH).length+([[vi ((WD[i].client:Nat):Int),vi WD[i].rel.ver.a,vi WD[i].rel.ver.b,vi ((F0 L WD[i].rel.ver j)+1),vb false]]:C0).length<=9223372036854775807:=⟨⟨rfl,trivial⟩,rfl,(by simp only[Lm,Ap,AC,AF];omega),(by simp only[Lm,Ap,AC,AF];omega)⟩;refine J b15 (J aa1 (cU [(2,sl Dm cl),(3,.ref 3 0),(4,.ref 4 0),(8,.ref 8 0),(10,.slice (.id 10 5) ((((WD.take i).map (Hr x sx a cl)).map BH)++[[vi ((WD[i].client:Nat):Int),vi WD[i].rel.ver.a,vi WD[i].rel.ver.b,vi ((F0 L WD[i].rel.ver j)+1),vb false]])),(37,sl B4 WD),(38,vi (WD.map B4).length),(39,vi i)] [(3,.ro (Ic x ifs)),(4,.ro (Cy a)),(8,.cells (Ic sx ifs)),(10,.tok 5 ((((WD.take i).map (Hr x sx a cl)).map BH).length+([[vi ((WD[i].client:Nat):Int),vi WD[i].rel.ver.a,vi WD[i].rel.ver.b,vi ((F0 L WD[i].rel.ver j)+1),vb false]]:C0).length))] Z8 Z4 (J (Ii i ch) ?_)));have em:(⟨WD[i].rel.ver.a,WD[i].rel.ver.b,F0 L WD[i].rel.ver j+1⟩:Ver)=ta x a WD[i].rel.ver:=by rw[ta,lA,<-lx,YG (AE (BB h4))]
    have eb:Hr x sx a cl WD[i]=⟨WD[i].client,⟨WD[i].rel.ver.a,WD[i].rel.ver.b,F0 L WD[i].rel.ver j+1⟩,false⟩:=by rw[Hr,gA,sT,<-em];congr 1;rw[AB J6,Ny];rfl
    have ew:((((WD.take i).map (Hr x sx a cl)).map BH)++[[vi ((WD[i].client:Nat):Int),vi WD[i].rel.ver.a,vi WD[i].rel.ver.b,vi ((F0 L WD[i].rel.ver j)+1),vb false]])=(((WD.take (i+1)).map (Hr x sx a cl)).map BH):=by rw[DV n3,Ar,Ar];show _=_++[BH (Hr x sx a cl WD[i])];rw[eb]
    refine I ⟨i+1,n3,by rw[<-i2,lZ n3 (by have q:=Aa Ver.c em;have q:F0 L WD[i].rel.ver j+1=lA x a WD[i].rel.ver+1:=q;omega)]⟩ ?_;exact⟨Dl WD.length i ch,⟨B,B,B,B,⟨(Aa (AV.slice (.id 10 5)) ew),rfl⟩,B,B,B,C⟩,⟨B,B,B,⟨(show HO.tok 5 ((((WD.take i).map (Hr x sx a cl)).map BH).length+([[vi ((WD[i].client:Nat):Int),vi WD[i].rel.ver.a,vi WD[i].rel.ver.b,vi ((F0 L WD[i].rel.ver j)+1),vb false]]:C0).length)=.tok 5 (((WD.take (i+1)).map (Hr x sx a cl)).map BH).length from Aa (HO.tok 5) (Ac.symm.trans (Aa List.length ew))),rfl⟩,C⟩,Fh,C⟩
   have Ny:(has a.set (plc (⟨WD[i].rel.ver.a,WD[i].rel.ver.b,F0 L WD[i].rel.ver j+1⟩:Ver)))=false:=Ny;refine C2 (cb Ny (mg a.set (plc (⟨WD[i].rel.ver.a,WD[i].rel.ver.b,F0 L WD[i].rel.ver j+1⟩:Ver)) ha.set)) ?_;have b17:Bi 5 [[vi ((WD[i].client:Nat):Int),vi WD[i].rel.ver.a,vi WD[i].rel.ver.b,vi ((F0 L WD[i].rel.ver j)+1),vb true]]/\(((WD.take i).map (Hr x sx a cl)).map BH).length=(((WD.take i).map (Hr x sx a cl)).map BH).length/\((((WD.take i).map (Hr x sx a cl)).map BH).length+([[vi ((WD[i].client:Nat):Int),vi WD[i].rel.ver.a,vi WD[i].rel.ver.b,vi ((F0 L WD[i].rel.ver j)+1),vb true]]:C0).length)*40<=140737488355328/\(((WD.take i).map (Hr x sx a cl)).map BH).length+([[vi ((WD[i].client:Nat):Int),vi WD[i].rel.ver.a,vi WD[i].rel.ver.b,vi ((F0 L WD[i].rel.ver j)+1),vb true]]:C0).length<=9223372036854775807:=⟨⟨rfl,trivial⟩,rfl,(by simp only[Lm,Ap,AC,AF];omega),(by simp only[Lm,Ap,AC,AF];omega)⟩;refine J b17 (J aa1 (cU [(2,sl Dm cl),(3,.ref 3 0),(4,.ref 4 0),(8,.ref 8 0),(10,.slice (.id 10 5) ((((WD.take i).map (Hr x sx a cl)).map BH)++[[vi ((WD[i].client:Nat):Int),vi WD[i].rel.ver.a,vi WD[i].rel.ver.b,vi ((F0 L WD[i].rel.ver j)+1),vb true]])),(37,sl B4 WD),(38,vi (WD.map B4).length),(39,vi i)] [(3,.ro (Ic x ifs)),(4,.ro (Cy a)),(8,.cells (Ic sx ifs)),(10,.tok 5 ((((WD.take i).map (Hr x sx a cl)).map BH).length+([[vi ((WD[i].client:Nat):Int),vi WD[i].rel.ver.a,vi WD[i].rel.ver.b,vi ((F0 L WD[i].rel.ver j)+1),vb true]]:C0).length))] Z8 Z4 (J (Ii i ch) ?_)));have em:(⟨WD[i].rel.ver.a,WD[i].rel.ver.b,F0 L WD[i].rel.ver j+1⟩:Ver)=ta x a WD[i].rel.ver:=by rw[ta,lA,<-lx,YG (AE (BB h4))]
   have eb:Hr x sx a cl WD[i]=⟨WD[i].client,⟨WD[i].rel.ver.a,WD[i].rel.ver.b,F0 L WD[i].rel.ver j+1⟩,true⟩:=by rw[Hr,gA,sT,<-em];congr 1;rw[AB J6,Ny];rfl
   have ew:((((WD.take i).map (Hr x sx a cl)).map BH)++[[vi ((WD[i].client:Nat):Int),vi WD[i].rel.ver.a,vi WD[i].rel.ver.b,vi ((F0 L WD[i].rel.ver j)+1),vb true]])=(((WD.take (i+1)).map (Hr x sx a cl)).map BH):=by rw[DV n3,Ar,Ar];show _=_++[BH (Hr x sx a cl WD[i])];rw[eb]
   refine I ⟨i+1,n3,by rw[<-i2,lZ n3 (by have q:=Aa Ver.c em;have q:F0 L WD[i].rel.ver j+1=lA x a WD[i].rel.ver+1:=q;omega)]⟩ ?_;exact⟨Dl WD.length i ch,⟨B,B,B,B,⟨(Aa (AV.slice (.id 10 5)) ew),rfl⟩,B,B,B,C⟩,⟨B,B,B,⟨(show HO.tok 5 ((((WD.take i).map (Hr x sx a cl)).map BH).length+([[vi ((WD[i].client:Nat):Int),vi WD[i].rel.ver.a,vi WD[i].rel.ver.b,vi ((F0 L WD[i].rel.ver j)+1),vb true]]:C0).length)=.tok 5 (((WD.take (i+1)).map (Hr x sx a cl)).map BH).length from Aa (HO.tok 5) (Ac.symm.trans (Aa List.length ew))),rfl⟩,C⟩,Fh,C⟩
  have J6:¬(((Ky (SF (sx++[(⟨a.path,(⟨WD[i].rel.ver.a,WD[i].rel.ver.b,F0 L WD[i].rel.ver j+1⟩:Ver),WD[i].rel.reqs,⟨#[]⟩,⟨#[]⟩,⟨#[]⟩,false⟩:Rl)])) (cl.getD WD[i].client [])):Int)=(0:Int)):=J6;have b19:Bi 5 [[vi ((WD[i].client:Nat):Int),vi WD[i].rel.ver.a,vi WD[i].rel.ver.b,vi ((F0 L WD[i].rel.ver j)+1),vb false]]/\(((WD.take i).map (Hr x sx a cl)).map BH).length=(((WD.take i).map (Hr x sx a cl)).map BH).length/\((((WD.take i).map (Hr x sx a cl)).map BH).length+([[vi ((WD[i].client:Nat):Int),vi WD[i].rel.ver.a,vi WD[i].rel.ver.b,vi ((F0 L WD[i].rel.ver j)+1),vb false]]:C0).length)*40<=140737488355328/\(((WD.take i).map (Hr x sx a cl)).map BH).length+([[vi ((WD[i].client:Nat):Int),vi WD[i].rel.ver.a,vi WD[i].rel.ver.b,vi ((F0 L WD[i].rel.ver j)+1),vb false]]:C0).length<=9223372036854775807:=⟨⟨rfl,trivial⟩,rfl,(by simp only[Lm,Ap,AC,AF];omega),(by simp only[Lm,Ap,AC,AF];omega)⟩;refine J b19 (J aa1 (cU [(2,sl Dm cl),(3,.ref 3 0),(4,.ref 4 0),(8,.ref 8 0),(10,.slice (.id 10 5) ((((WD.take i).map (Hr x sx a cl)).map BH)++[[vi ((WD[i].client:Nat):Int),vi WD[i].rel.ver.a,vi WD[i].rel.ver.b,vi ((F0 L WD[i].rel.ver j)+1),vb false]])),(37,sl B4 WD),(38,vi (WD.map B4).length),(39,vi i)] [(3,.ro (Ic x ifs)),(4,.ro (Cy a)),(8,.cells (Ic sx ifs)),(10,.tok 5 ((((WD.take i).map (Hr x sx a cl)).map BH).length+([[vi ((WD[i].client:Nat):Int),vi WD[i].rel.ver.a,vi WD[i].rel.ver.b,vi ((F0 L WD[i].rel.ver j)+1),vb false]]:C0).length))] Z8 Z4 (J (Ii i ch) ?_)));have em:(⟨WD[i].rel.ver.a,WD[i].rel.ver.b,F0 L WD[i].rel.ver j+1⟩:Ver)=ta x a WD[i].rel.ver:=by rw[ta,lA,<-lx,YG (AE (BB h4))]
  have eb:Hr x sx a cl WD[i]=⟨WD[i].client,⟨WD[i].rel.ver.a,WD[i].rel.ver.b,F0 L WD[i].rel.ver j+1⟩,false⟩:=by rw[Hr,gA,sT,<-em];congr 1;rw[Aw J6];rfl
  have ew:((((WD.take i).map (Hr x sx a cl)).map BH)++[[vi ((WD[i].client:Nat):Int),vi WD[i].rel.ver.a,vi WD[i].rel.ver.b,vi ((F0 L WD[i].rel.ver j)+1),vb false]])=(((WD.take (i+1)).map (Hr x sx a cl)).map BH):=by rw[DV n3,Ar,Ar];show _=_++[BH (Hr x sx a cl WD[i])];rw[eb]
  refine I ⟨i+1,n3,by rw[<-i2,lZ n3 (by have q:=Aa Ver.c em;have q:F0 L WD[i].rel.ver j+1=lA x a WD[i].rel.ver+1:=q;omega)]⟩ ?_;exact⟨Dl WD.length i ch,⟨B,B,B,B,⟨(Aa (AV.slice (.id 10 5)) ew),rfl⟩,B,B,B,C⟩,⟨B,B,B,⟨(show HO.tok 5 ((((WD.take i).map (Hr x sx a cl)).map BH).length+([[vi ((WD[i].client:Nat):Int),vi WD[i].rel.ver.a,vi WD[i].rel.ver.b,vi ((F0 L WD[i].rel.ver j)+1),vb false]]:C0).length)=.tok 5 (((WD.take (i+1)).map (Hr x sx a cl)).map BH).length from Aa (HO.tok 5) (Ac.symm.trans (Aa List.length ew))),rfl⟩,C⟩,Fh,C⟩
 have h3:¬((i:Int)<((WD.map B4).length:Int)):=h3;have n3:=BB h3;have eb:fG x a WD=0:=by rw[<-i2,AN (AE (BB h3))];rfl
 exact BC.of_eq (show AV.tup [sl BH ((WD.take i).map (Hr x sx a cl)),vi 0]=_ by rw[eb,Ax rfl,As (AE (BB h3))])
theorem Acq(c0:¬Ov x [a]=0)(lw:PC 62 [HZ x ifs,sl Cy [a]] (.tup [.agg [nzA,nzA],vi (Ov x [a])])):PC 31 [.agg (Ic x ifs),.agg (Cy a),sl Dm cl] (.tup [sl BH [],vi (Ov x [a])]):=by
 refine Ps (pT [3,4] [(10,5)] [2,6,11,15,16,20,23,25,26,27]) func31 rfl C4 (yN (yN (C1 (C2 lw (yN (cU [(2,sl Dm cl),(3,.ref 3 0),(4,.ref 4 0),(8,.ref 8 0),(9,vi (Ov x [a]))] [(3,.ro (Ic x ifs)),(4,.ro (Cy a)),(8,.cells [nzA,nzA])] Z5 Z3 (J (fun h1=>?_) (fun h1=>?_))))))))
 .have h1:((Ov x [a]):Int)≠(0:Int):=h1;exact BC.tup (show Jx [nzA,vi (Ov x [a])] [sl BH [],vi (Ov x [a])]from⟨BC.nil,BC.refl _,trivial⟩)
 have h1:((Ov x [a]):Int)=(0:Int):=Aq h1;exact absurd h1 c0
theorem yw(hl:BD cl)(hcl:∀q∈cl,∀z∈q,Jb z)(c1:(cl.any fun q=>!decide (A8 q=0))=true)(lw:PC 62 [HZ x ifs,sl Cy [a]] (.tup [HZ sx ifs,vi 0])):PC 31 [.agg (Ic x ifs),.agg (Cy a),sl Dm cl] (.tup [sl BH [],vi 1]):=by
 refine Ps (pT [3,4] [(10,5)] [2,6,11,15,16,20,23,25,26,27]) func31 rfl C4 (yN (yN (C1 (C2 lw (yN (cU [(2,sl Dm cl),(3,.ref 3 0),(4,.ref 4 0),(8,.ref 8 0),(9,vi 0)] [(3,.ro (Ic x ifs)),(4,.ro (Cy a)),(8,.cells (Ic sx ifs))] Z5 Z3 (J (fun h=>absurd h Wk) (fun _=>?_))))))));refine C1 (C2 (c1▸fg cl hl hcl) ?_);exact BC.tup (show Jx [nzA,vi 1] [sl BH [],vi 1]from⟨BC.nil,BC.refl _,trivial⟩)
abbrev tM:List Rl:=yk true (cC [a]) x
def rj:Int:=if Ov x [a]=0 then if(cl.any fun q=>!decide (A8 q=0))=true then 1 else fG x a (KB x (tM x a) a cl)else Ov x [a]
def zZ:List Bk:=if rj x a cl=0 then(KB x (tM x a) a cl).map (Hr x (tM x a) a cl)else []
theorem AcX{y:Bool}{p:Sl->Bool}{x:List Rl}(h:∀r∈x,r.reqs.length<=n):∀r∈yk y p x,r.reqs.length<=n:=qC fun r hr=>⟨h r hr,h r hr⟩
theorem yx(hx:Te x)(hrx:∀r∈x,r.reqs.length<=1000)(ha:Mi a)(hl:BD cl)(hcl:∀q∈cl,∀z∈q,Jb z)(zt:PC 103 [.slice .none ifs] (.slice .none ifs)) :
  PC 31 [HZ x ifs,.agg (Cy a),sl Dm cl] (.tup [sl BH (zZ x a cl),vi (rj x a cl)]):=by
 have lw:=yJ x ifs [a] hx.to19 hrx (show [a].length<=1073741824 from C4) (fun b hb=>by rw[AQ.1 hb];exact ha) zt;rw[vr]at lw
 by_cases c0:Ov x [a]=0
 .rw[Ax c0]at lw;have qJ:Te (tM x a):=⟨by rw[Zg];exact hx.len,uw hx.few⟩;cases c1:cl.any fun q=>!decide (A8 q=0)with
  |true=>
   have q:=yw x (tM x a) ifs a cl hl hcl c1 lw;have e:rj x a cl=1:=by rw[rj,Ax c0,Ax c1]
   rw[zZ,e];exact q
  |false=>
   have q:=Ahh x (tM x a) ifs a cl (KB x (tM x a) a cl) _ rfl hx qJ (AcX hrx) hrx ha hl hcl Zg (fun w hw=>Aan hw) (Av (TX ..) hl) c1 lw (yE x (tM x a) ifs a cl hx.few qJ.few hx.len ha.set hl hcl);have e:rj x a cl=fG x a (KB x (tM x a) a cl):=by rw[rj,Ax c0,AA (by rw[c1];exact EC)]
   rw[zZ,e];exact q
 .rw[AA c0]at lw;have q:=Acq x ifs a cl c0 lw;have e:rj x a cl=Ov x [a]:=by rw[rj,AA c0]
  rw[zZ,e,AA c0];exact q
end Go.Eng
