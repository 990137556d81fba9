/- Lemmas 33. -/
import Derived.Test.YteaiieomnhbmgaaGreatDoorEA32
set_option maxHeartbeats 4000000
namespace Go.Eng
open Go.Proofs
variable (x sx:List Rl)(ifs:List (List AV))(a:Ad)(q:List Rq)(cl:List (List Rq))(l:List Ad)
abbrev co:Sl->Bool:=fun s=>l.any fun a=>Ma a s
def td:AV:=if Pk x l=0 then .tup [HH (yk true (co l) x) ifs,vi 0]else .tup [.agg [nzA,nzA],vi (Pk x l)]
theorem zq{x:List Rl}{l:List Ad}(h:Pk x l=0):A6 x=0:=by
 unfold Pk at h;split at h
 .assumption
 .exact absurd h Cl
theorem wu{x:List Rl}(h:WF x)(hr:∀r∈x,r.reqs.length<=1000)(hc:A6 x=0):Bc Tryz.prog 43 [sl AF x] Af fun r h'=>r=.tup [.msl 2000 x.length,vi 0]/\h'=Ap [(2000,.arr 9 (x.map AF))] Af:=by
 have q:=AeF h hr (by rw[SK hc];exact hc)
 rwa [SK hc]at q
theorem sf(hx:WF x)(_hrq:∀r∈x,r.reqs.length<=1000)(hl:B8 l)(kH:∀a∈l,MT a)(_hcl:PC 103 [.slice .none ifs] (.slice .none ifs))(c0:¬Pk x l=0):PC 62 [.agg (Ic x ifs),sl C3 l] (td x ifs l):=by
 refine Ps (pC [2] []) Tryz.func62 rfl (Nz rfl) (yN (Xi .pure (Xi _ (Yi (gY x ifs l hx.few hl kH) (Yi (fun h1=>?_) (fun h1=>?_))))))
 .have h1:((Pk x l):Int)≠(0:Int):=h1;refine yN (yN ?_);exact CY.of_eq (show AV.tup [.agg [nzA,nzA],vi (Pk x l)]=td x ifs l by rw[td,Aj c0])
 have h1:((Pk x l):Int)=(0:Int):=AJ h1;exact absurd h1 c0
theorem si(hx:WF x)(yT:∀r∈x,r.reqs.length<=1000)(hl:B8 l)(kH:∀a∈l,MT a)(hcl:PC 103 [.slice .none ifs] (.slice .none ifs))(c0:Pk x l=0):PC 62 [.agg (Ic x ifs),sl C3 l] (td x ifs l):=by
 have h72:=wu hx yT (zq c0);have yZ:x.length<=19:=hx.len;refine Ps ⟨[2,11],[],[],[],[],[],[],[],[],[(100012,9)],[12]⟩ Tryz.func62 rfl (Nz rfl) (yN (Xi .pure (Xi _ (Yi (gY x ifs l hx.few hl kH) (Yi (fun h1=>?_) (fun h1=>?_))))))
 .have h1:((Pk x l):Int)≠(0:Int):=h1;refine yN (yN ?_);exact absurd c0 h1
 have h1:((Pk x l):Int)=(0:Int):=AJ h1;refine Xi (.gen [] 1) (Yi rfl (Bc.to2 h72 ?_));refine Xi .pure (Xi _ (Yi hcl (yN (Xi {q:Nat // q<=x.length} (Xi (fun q=>⟨[(1,sl C3 l),(4,.ref 4 0),(9,.ref 9 0),(31,.msl 12200 x.length),(32,vi x.length),(33,vi q.1)],[(4,.cells [nzA,nzA]),(9,.cells [.msl 12200 x.length,.slice .none ifs]),(12200,.arr 9 ((yk true (co l) (x.take q.1)++x.drop q.1).map AF))],Af⟩) (Xi (fun q=>x.length-q.1) (Yi (Xi ⟨0,AA _⟩ ?_) ?_)))))))
 .exact⟨Z6,Z3,Fh,Tv⟩
 intro⟨i,i1⟩;have i1:i<=x.length:=i1;refine Yi (fun h3=>?_) (fun h3=>?_)
 .have h3:(i:Int)<(x.length:Int):=h3;have n3:i<x.length:=by omega
  have g3:x[i]?=some x[i]:=Ge n3;have ni:i<x.length:=by omega
  refine Yi (by show(0:Int)<=i/\(i:Int)<(x.length:Nat);omega) (Yi (show x.length=((yk true (co l) (x.take i)++x.drop i).map AF).length by rw[Lm,Zv]) (Xi (AF x[i]) (Yi (Ed (pf ni)) ?_)));refine yN (yN (BN (Bt (co l (cn x[i]))) (fun h4=>?_) (fun h4=>?_)))
  .have h4:(co l (cn x[i]))=true:=h4;refine Xi .pure (Xi _ (Yi (cb h4 (Aal (fF:=105) (Db.ptr _) l (fun a=>Ma a (cn x[i])) (fun a ha=>gZ a x[i] (kH a ha).set) hl)) (Yi (by show(0:Int)<=i/\(i:Int)<(x.length:Nat);omega) (Yi (show x.length=((yk true (co l) (x.take i)++x.drop i).map AF).length by rw[Lm,Zv]) (Xi (AF x[i]) (Yi (Ed (pf ni)) (yN ?_)))))));refine Yi (Ii i ch) (Xi ⟨i+1,ni⟩ ?_);exact⟨Dl x.length i ch,Z6,⟨Zr,Zr,⟨(show HO.arr 9 (((yk true (co l) (x.take i)++x.drop i).map AF).set i [vs x[i].path,vi x[i].ver.a,vi x[i].ver.b,vi x[i].ver.c,sl A8 x[i].reqs,vs x[i].arch,vs x[i].ifc,vs x[i].cert,vb true])=.arr 9 ((yk true (co l) (x.take (i+1))++x.drop (i+1)).map AF) by rw[<-ib ni,Ao h4,OJ]),rfl⟩,Tv⟩,Fh,Tv⟩
  have h4:(co l (cn x[i]))=false:=h4;refine Xi .pure (Xi _ (Yi (cb h4 (Aal (fF:=105) (Db.ptr _) l (fun a=>Ma a (cn x[i])) (fun a ha=>gZ a x[i] (kH a ha).set) hl)) (Yi (Ii i ch) (Xi ⟨i+1,ni⟩ ?_))));exact⟨Dl x.length i ch,Z6,⟨Zr,Zr,⟨(show HO.arr 9 ((yk true (co l) (x.take i)++x.drop i).map AF)=.arr 9 ((yk true (co l) (x.take (i+1))++x.drop (i+1)).map AF) by rw[<-ib ni,Aj (by rw[h4];decide),bT (pf ni)]),rfl⟩,Tv⟩,Fh,Tv⟩
 have h3:¬((i:Int)<(x.length:Int)):=h3;have n3:¬i<x.length:=by omega
 refine Yi (show x.length=((yk true (co l) (x.take i)++x.drop i).map AF).length by rw[Lm,Zv]) ?_;refine cU [(4,.ref 4 0),(9,.ref 9 0)] [(4,.cells [nzA,nzA]),(9,.cells [.slice (.id 12200 9) ((yk true (co l) (x.take i)++x.drop i).map AF),.slice .none ifs]),(12200,.tok 9 ((yk true (co l) (x.take i)++x.drop i).map AF).length)] Z2 Z3 (yN (yN (yN ?_)));exact CY.of_eq (show AV.tup [HH (yk true (co l) (x.take i)++x.drop i) ifs,vi 0]=td x ifs l by rw[td,Ao c0,At ch,Cv ch,BM])
theorem wo(hx:WF x)(yT:∀r∈x,r.reqs.length<=1000)(hl:B8 l)(kH:∀a∈l,MT a)(hcl:PC 103 [.slice .none ifs] (.slice .none ifs)):PC 62 [HH x ifs,sl C3 l] (td x ifs l):=by
 by_cases c0:Pk x l=0
 .exact si x ifs l hx yT hl kH hcl c0
 .exact sf x ifs l hx yT hl kH hcl c0
theorem oW(s:Sl)(a:Ad)(ha:B8 a.set):PC 80 [.agg (Ae s),.cptr (C3 a)] (vb (Ma a s)):=by
 refine Ps (pC [2] []) Tryz.func80 rfl (Nz rfl) (yN (yN (BN (Bt (Ma a s)) (fun h1=>?_) (fun h1=>?_))))
 .have h1:(Ma a s)=true:=h1;refine Xi .pure (Xi _ (Yi (cb h1 (Zo a s ha)) ?_));exact CY.of_eq (Aa vb (show true=Ma a s from h1.symm))
 have h1:(Ma a s)=false:=h1;refine Xi .pure (Xi _ (Yi (cb h1 (Zo a s ha)) ?_));exact CY.of_eq (Aa vb (show false=Ma a s from h1.symm))
theorem ca(s:List Sl)(ha:B8 a.set)(hs:B8 s):PC 41 [.agg (C3 a),sl Ae s] (vb (s.any (Ma a))):=by
 refine Ps (pC [2] []) Tryz.func41 rfl (Nz rfl) (BN (Bt (s.any (Ma a))) (fun h1=>?_) (fun h1=>?_))
 .have h1:(s.any (Ma a))=true:=h1;refine Xi .pure (Xi _ (Yi (cb h1 (o25 (fF:=80) (Db.ptr _) s (Ma a) (fun y _=>oW y a ha) hs)) ?_));exact CY.of_eq (Aa vb (show true=s.any (Ma a)from h1.symm))
 have h1:(s.any (Ma a))=false:=h1;refine Xi .pure (Xi _ (Yi (cb h1 (o25 (fF:=80) (Db.ptr _) s (Ma a) (fun y _=>oW y a ha) hs)) ?_));exact CY.of_eq (Aa vb (show false=s.any (Ma a)from h1.symm))
theorem Aa6(y:Sl)(a:Ad):PC 109 [.agg (Ae y),.cptr (C3 a)] (vb (decide (y.path=a.path))):=by
 refine Ps (pC [2] []) Tryz.func109 rfl (Nz rfl) (Yi (fun h1=>?_) (fun h1=>?_))
 .have h1:(y.path:ByteArray)=a.path:=h1;exact CY.of_eq (Aa vb (show true=decide (y.path=a.path)from(Ar h1).symm))
 have h1:¬(y.path:ByteArray)=a.path:=h1;exact CY.of_eq (Aa vb (show false=decide (y.path=a.path)from(Av h1).symm))
structure Wd where
 client:Nat
 rel:Rl
abbrev CA(w:Wd):List AV:=vi ((w.client:Nat):Int)::AF w.rel
abbrev DH:List AV:=[sl A8 q]
def ZA:Sl->Bool:=fun y=>decide (y.path=a.path)
def Aam:Rl:=⟨⟨#[]⟩,⟨0,0,0⟩,[],⟨#[]⟩,⟨#[]⟩,⟨#[]⟩,false⟩
def Es:Rl:=(((EM x q).find? (ZA a)).bind (Dh x)).getD Aam
def NE:Bool:=decide (KF x q=0)&&(EM x q).any (Ma a)&&!decide (KF sx q=0)
def Ru(x sx:List Rl)(a:Ad):List (List Rq)->Nat->List Wd
 | [],_=>[]
 |q::r,i=>if NE x sx a q=true then⟨i,Es x a q⟩::Ru x sx a r (i+1)else Ru x sx a r (i+1)
def Lp:List Wd:=Ru x sx a cl 0
theorem aq(x sx:List Rl)(a:Ad):∀(l m:List (List Rq)) (i:Nat),Ru x sx a (l++m) i=Ru x sx a l i++Ru x sx a m (i+l.length)
 | [],m,i=>rfl
 |q::l,m,i=>by
  rw[Hr,Ru,Ru,aq x sx a l m (i+1),Am,show i+1+l.length=i+(l.length+1) by omega];split
  .rfl
  .rfl
theorem TC{x sx:List Rl}{a:Ad}{cl:List (List Rq)}{i:Nat}(h:i<cl.length):Lp x sx a (cl.take (i+1))=Lp x sx a (cl.take i)++if NE x sx a cl[i]=true then [⟨i,Es x a cl[i]⟩]else []:=by
 rw[BY h,Lp,aq,Aw,WJ ch,Bf]
 rfl
theorem UF(x sx:List Rl)(a:Ad):∀(l:List (List Rq)) (i:Nat),(Ru x sx a l i).length<=l.length
 | [],i=>Ak _
 |q::l,i=>by
  have q1:=UF x sx a l (i+1);rw[Ru];split
  .simp only[Am];omega
  .simp only[Am];omega
theorem ce{x:List Rl}{a:Ad}{q:List Rq}(h:KF x q=0)(hc:(EM x q).any (Ma a)=true):∃k,∃hk:k<(EM x q).length,JI (ZA a) (EM x q) 0=((k:Nat):Int)/\Dh x ⟨(EM x q)[k].path,(EM x q)[k].ver⟩=some (Es x a q):=by
 obtain⟨y,hy,hb⟩:=Bd.1 hc;have hp:ZA a y=true:=by
  simp only[Ma,Ag]at hb;exact hb.1.2
 have hk:(EM x q).findIdx (ZA a)<(EM x q).length:=List.findIdx_lt_length_of_exists ⟨y,hy,hp⟩;have Xs:ZA a (EM x q)[(EM x q).findIdx (ZA a)]=true:=List.findIdx_getElem (w:=hk);have Ou:∀j (hj:j<(EM x q).length),j<(EM x q).findIdx (ZA a)->ZA a (EM x q)[j]=false:=fun j hj IG=>by
  have q:=List.not_of_lt_findIdx IG;simpa using q
 refine⟨_,hk,by rw[HM hk Ou Xs,EC],?_⟩;have hf:=lX hk Ou Xs;obtain⟨r,hr,he⟩:=(QU h).1 _ (Al hk);rw[Es,hf];show Dh x _=some ((Dh x _).getD Aam);have hs:(Dh x ((EM x q)[(EM x q).findIdx (ZA a)])).isSome=true:=by
  rw[Dh,Aj (by rw[(QU h).2.2];decide),List.find?_isSome];exact⟨r,hr,Ar he⟩
 obtain⟨r',qz⟩:=Option.isSome_iff_exists.1 hs;show Dh x ((EM x q)[(EM x q).findIdx (ZA a)])=_;rw[qz];rfl
attribute [local irreducible] KF EM Es NE Ma Dh
theorem wh(hx:∀r∈x,En r)(pv:∀r∈sx,En r)(JS:x.length<=16)(ha:B8 a.set)(hl:B8 cl)(hcl:∀q∈cl,∀z∈q,J7 z):PC 65 [.agg (Ic x ifs),.agg (Ic sx ifs),.agg (C3 a),sl DH cl] (sl CA (Lp x sx a cl)):=by
 have hl:cl.length<=1073741824:=hl;have SH:∀q,(EM x q).length<=1073741824:=fun q=>YH q JS;refine Ps (pT [4,5,6] [(9,10)] [6,7,8,11]) Tryz.func65 rfl (Nz rfl) (Xi {q:Nat // q<=cl.length} (Xi (fun q=>⟨[(4,.ref 4 0),(5,.ref 5 0),(6,.ref 6 0),(9,.slice (.id 9 10) ((Lp x sx a (cl.take q.1)).map CA)),(19,sl DH cl),(20,vi (cl.map DH).length),(21,vi q.1)],[(4,.ro (Ic x ifs)),(5,.ro (Ic sx ifs)),(6,.ro (C3 a)),(9,.tok 10 ((Lp x sx a (cl.take q.1)).map CA).length)],Af⟩) (Xi (fun q=>cl.length-q.1) (Yi (Xi ⟨0,AA _⟩ ?_) ?_))))
 .exact⟨Z7,Z4,Fh,Tv⟩
 intro⟨i,i1⟩;have i1:i<=cl.length:=i1;have hq:(Lp x sx a (cl.take i)).length<=1073741824:=AG (UF _ _ _ _ _) (by rw[Aw];omega);refine Yi (fun h1=>?_) (fun h1=>?_)
 .have h1:(i:Int)<((cl.map DH).length:Int):=h1;have n1:=EE h1;refine Xi (DH cl[i]) (Yi (IU n1) (Yi rfl (yN (Xi .pure (Xi _ (Yi (s16 x ifs cl[i] hx (hcl _ (Al n1))) (cU [(4,.ref 4 0),(5,.ref 5 0),(6,.ref 6 0),(9,.slice (.id 9 10) ((Lp x sx a (cl.take i)).map CA)),(10,vi i),(11,sl A8 cl[i]),(12,sl Ae (EM x cl[i])),(13,vi (KF x cl[i])),(19,sl DH cl),(20,vi (cl.map DH).length),(21,vi i)] [(4,.ro (Ic x ifs)),(5,.ro (Ic sx ifs)),(6,.ro (C3 a)),(9,.tok 10 ((Lp x sx a (cl.take i)).map CA).length)] Z11 Z4 (Yi (fun h2=>?_) (fun h2=>?_)))))))))
  .have h2:((KF x cl[i]):Int)≠(0:Int):=h2;refine Yi (Ii i ch) ?_;have ew:((Lp x sx a (cl.take i)).map CA)=((Lp x sx a (cl.take (i+1))).map CA):=by rw[TC n1,Aj (by rw[NE,Av h2];exact CL),BM]
   refine Xi ⟨i+1,n1⟩ ?_;exact⟨Dl cl.length i ch,⟨Zr,Zr,Zr,⟨(Aa (AV.slice (.id 9 10)) ew),rfl⟩,Zr,Zr,Zr,Tv⟩,⟨Zr,Zr,Zr,⟨(show HO.tok 10 ((Lp x sx a (cl.take i)).map CA).length=.tok 10 ((Lp x sx a (cl.take (i+1))).map CA).length from Aa (HO.tok 10) (Aa List.length ew)),rfl⟩,Tv⟩,Fh,Tv⟩
  have h2:((KF x cl[i]):Int)=(0:Int):=AJ h2;refine yN (BN (Bt ((EM x cl[i]).any (Ma a))) (fun h4=>?_) (fun h4=>?_))
  .have h4:((EM x cl[i]).any (Ma a))=true:=h4;refine Xi .pure (Xi _ (Yi (cb h4 (ca a (EM x cl[i]) ha (YH cl[i] JS))) (cU [(4,.ref 4 0),(5,.ref 5 0),(6,.ref 6 0),(9,.slice (.id 9 10) ((Lp x sx a (cl.take i)).map CA)),(10,vi i),(11,sl A8 cl[i]),(12,sl Ae (EM x cl[i])),(19,sl DH cl),(20,vi (cl.map DH).length),(21,vi i)] [(4,.ro (Ic x ifs)),(5,.ro (Ic sx ifs)),(6,.ro (C3 a)),(9,.tok 10 ((Lp x sx a (cl.take i)).map CA).length)] Z10 Z4 (yN (Xi .pure (Xi _ (Yi (s16 sx ifs cl[i] pv (hcl _ (Al n1))) (cU [(4,.ref 4 0),(5,.ref 5 0),(6,.ref 6 0),(9,.slice (.id 9 10) ((Lp x sx a (cl.take i)).map CA)),(10,vi i),(12,sl Ae (EM x cl[i])),(15,vi (KF sx cl[i])),(19,sl DH cl),(20,vi (cl.map DH).length),(21,vi i)] [(4,.ro (Ic x ifs)),(5,.ro (Ic sx ifs)),(6,.ro (C3 a)),(9,.tok 10 ((Lp x sx a (cl.take i)).map CA).length)] Z10 Z4 (Yi (fun h5=>?_) (fun h5=>?_))))))))))
   .have h5:((KF sx cl[i]):Int)=(0:Int):=h5;refine Yi (Ii i ch) ?_;have ew:((Lp x sx a (cl.take i)).map CA)=((Lp x sx a (cl.take (i+1))).map CA):=by rw[TC n1,Aj (by rw[NE,Ar h5,Bool.not_true,Ck];exact CL),BM]
    refine Xi ⟨i+1,n1⟩ ?_;exact⟨Dl cl.length i ch,⟨Zr,Zr,Zr,⟨(Aa (AV.slice (.id 9 10)) ew),rfl⟩,Zr,Zr,Zr,Tv⟩,⟨Zr,Zr,Zr,⟨(show HO.tok 10 ((Lp x sx a (cl.take i)).map CA).length=.tok 10 ((Lp x sx a (cl.take (i+1))).map CA).length from Aa (HO.tok 10) (Aa List.length ew)),rfl⟩,Tv⟩,Fh,Tv⟩
   have h5:¬(((KF sx cl[i]):Int)=(0:Int)):=h5;obtain⟨k,hk,yx,IT⟩:=ce h2 h4;refine Xi .pure (Xi _ (Yi (show PC 108 [sl Ae (EM x cl[i]),.clo 109 [.cptr (C3 a)]] (vi ((k:Nat):Int))from yx▸o70 (fF:=109) (Db.ptr _) (EM x cl[i]) (ZA a) (fun y _=>Aa6 y a) (Nat.lt_of_le_of_lt (SH cl[i]) Cl)) (yN (Xi (Ae ((EM x cl[i])[k])) (Yi (IU hk) (Yi rfl (Xi (Ae ((EM x cl[i])[k])) (Yi (IU hk) (Yi rfl (yN (Xi _ (Yi (by have q:=c53 x ifs (EM x cl[i])[k].path (EM x cl[i])[k].ver (c84 x ifs hx) hx;rw[IT]at q;exact q) ?_))))))))))));refine yN (Yi Wk (cU [(4,.ref 4 0),(5,.ref 5 0),(6,.ref 6 0),(9,.slice (.id 9 10) ((Lp x sx a (cl.take i)).map CA)),(10,vi i),(17,.ref 17 0),(19,sl DH cl),(20,vi (cl.map DH).length),(21,vi i)] [(4,.ro (Ic x ifs)),(5,.ro (Ic sx ifs)),(6,.ro (C3 a)),(9,.tok 10 ((Lp x sx a (cl.take i)).map CA).length),(17,.cells (AF (Es x a cl[i])))] Z9 Z5 (yN ?_)));have b7:Cf 10 [[vi i,vs (Es x a cl[i]).path,vi (Es x a cl[i]).ver.a,vi (Es x a cl[i]).ver.b,vi (Es x a cl[i]).ver.c,sl A8 (Es x a cl[i]).reqs,vs (Es x a cl[i]).arch,vs (Es x a cl[i]).ifc,vs (Es x a cl[i]).cert,vb (Es x a cl[i]).yanked]]/\((Lp x sx a (cl.take i)).map CA).length=((Lp x sx a (cl.take i)).map CA).length/\(((Lp x sx a (cl.take i)).map CA).length+([[vi i,vs (Es x a cl[i]).path,vi (Es x a cl[i]).ver.a,vi (Es x a cl[i]).ver.b,vi (Es x a cl[i]).ver.c,sl A8 (Es x a cl[i]).reqs,vs (Es x a cl[i]).arch,vs (Es x a cl[i]).ifc,vs (Es x a cl[i]).cert,vb (Es x a cl[i]).yanked]]:List (List AV)).length)*128<=140737488355328/\((Lp x sx a (cl.take i)).map CA).length+([[vi i,vs (Es x a cl[i]).path,vi (Es x a cl[i]).ver.a,vi (Es x a cl[i]).ver.b,vi (Es x a cl[i]).ver.c,sl A8 (Es x a cl[i]).reqs,vs (Es x a cl[i]).arch,vs (Es x a cl[i]).ifc,vs (Es x a cl[i]).cert,vb (Es x a cl[i]).yanked]]:List (List AV)).length<=9223372036854775807:=⟨⟨rfl,trivial⟩,rfl,(by simp only[Lm,Am,Au];omega),(by simp only[Lm,Am,Au];omega)⟩;refine Yi b7 (Yi (Ii i ch) ?_);have ew:(((Lp x sx a (cl.take i)).map CA)++[[vi i,vs (Es x a cl[i]).path,vi (Es x a cl[i]).ver.a,vi (Es x a cl[i]).ver.b,vi (Es x a cl[i]).ver.c,sl A8 (Es x a cl[i]).reqs,vs (Es x a cl[i]).arch,vs (Es x a cl[i]).ifc,vs (Es x a cl[i]).cert,vb (Es x a cl[i]).yanked]])=((Lp x sx a (cl.take (i+1))).map CA):=by rw[TC n1,Ao (by rw[NE,Ar h2,h4,Av h5];rfl),As];rfl
   refine Xi ⟨i+1,n1⟩ ?_;exact⟨Dl cl.length i ch,⟨Zr,Zr,Zr,⟨(Aa (AV.slice (.id 9 10)) ew),rfl⟩,Zr,Zr,Zr,Tv⟩,⟨Zr,Zr,Zr,⟨(show HO.tok 10 (((Lp x sx a (cl.take i)).map CA).length+([[vi i,vs (Es x a cl[i]).path,vi (Es x a cl[i]).ver.a,vi (Es x a cl[i]).ver.b,vi (Es x a cl[i]).ver.c,sl A8 (Es x a cl[i]).reqs,vs (Es x a cl[i]).arch,vs (Es x a cl[i]).ifc,vs (Es x a cl[i]).cert,vb (Es x a cl[i]).yanked]]:List (List AV)).length)=.tok 10 ((Lp x sx a (cl.take (i+1))).map CA).length from Aa (HO.tok 10) (Ac.symm.trans (Aa List.length ew))),rfl⟩,Tv⟩,Fh,Tv⟩
  have h4:((EM x cl[i]).any (Ma a))=false:=h4;refine Xi .pure (Xi _ (Yi (cb h4 (ca a (EM x cl[i]) ha (YH cl[i] JS))) (Yi (Ii i ch) ?_)));have ew:((Lp x sx a (cl.take i)).map CA)=((Lp x sx a (cl.take (i+1))).map CA):=by rw[TC n1,Aj (by rw[NE,h4,Ck];exact CL),BM]
  refine Xi ⟨i+1,n1⟩ ?_;exact⟨Dl cl.length i ch,⟨Zr,Zr,Zr,⟨(Aa (AV.slice (.id 9 10)) ew),rfl⟩,Zr,Zr,Zr,Tv⟩,⟨Zr,Zr,Zr,⟨(show HO.tok 10 ((Lp x sx a (cl.take i)).map CA).length=.tok 10 ((Lp x sx a (cl.take (i+1))).map CA).length from Aa (HO.tok 10) (Aa List.length ew)),rfl⟩,Tv⟩,Fh,Tv⟩
 have h1:¬((i:Int)<((cl.map DH).length:Int)):=h1;have n1:=Dd h1;exact CY.of_eq (show sl CA (Lp x sx a (cl.take i))=sl CA (Lp x sx a cl) by rw[At (l:=cl) (i:=i) (A3 (Dd h1))])
end Go.Eng
namespace Go.Eng
open Go.Proofs
variable {caps:List AV}{i fF n:Nat}(x sx:List Rl)(a:Ad)(cl:List (List Rq))(v:Ver)(w:Wd)
abbrev nG(p:ByteArray):List Rl:=x.filter fun r=>decide (r.path=p)
def Jr(l:List Rl):List Ver:=l.map (·.ver)
theorem rS{l:List Rl}(h:i<l.length):Jr (l.take (i+1))=Jr (l.take i)++[l[i].ver]:=by
 rw[BY h,Jr,As];rfl
theorem ww(ifs:List (List AV))(p:ByteArray)(L:List Rl)(dg:L=nG x p)(hx:∀r∈x,En r)(h0:A6 x=0)(JS:x.length<=16)(DD:∃r∈x,r.path=p):PC 66 [.agg (Ic x ifs),vs p] (sl DL (Jr L)):=by
 have df:PC 82 [HH x ifs] (.tup [.agg [.cmap ZB (x.map Wc),.cmap Cr ((AY x []).map (qM x))],vi 0]):=by have q:=c84 x ifs hx;unfold kB WC at q;rw[Ao h0]at q;exact q
 have hLl:L.length<=16:=by have q:=Bv (fun r:Rl=>decide (r.path=p)) x;rw[dg];exact AG q JS
 refine Ps (pT [2] [(7,3)] [2,7]) Tryz.func66 rfl (Nz rfl) (yN (Xi .pure (Xi _ (Yi df (yN (cU [(1,vs p),(5,.ref 5 0)] [(5,.cells [.cmap ZB (x.map Wc),.cmap Cr ((AY x []).map (qM x))])] Z2 Z1 (Yi (fun a ha=>?_) (fun Ob=>absurd (Ai.2 ⟨p,(GX x [] p).2 (.inr DD),rfl⟩) (Ob _)))))))));have ea:a=sl AF L:=by rw[dg];exact fW ha
 subst ea;refine Xi {q:Nat // q<=L.length} (Xi (fun q=>⟨[(7,.slice (.id 7 3) ((Jr (L.take q.1)).map DL)),(18,sl AF L),(19,vi (L.map AF).length),(20,vi q.1)],[(7,.tok 3 ((Jr (L.take q.1)).map DL).length)],Af⟩) (Xi (fun q=>L.length-q.1) (Yi (Xi ⟨0,AA _⟩ ?_) ?_)))
 .exact⟨Z4,Z1,Fh,Tv⟩
 intro⟨i,i1⟩;have i1:i<=L.length:=i1;have hq:(Jr (L.take i)).length<=1073741824:=by rw[Jr,Lm,Aw];omega
 refine Yi (fun h1=>?_) (fun h1=>?_)
 .have h1:(i:Int)<((L.map AF).length:Int):=h1;have n1:=EE h1;refine Xi (AF L[i]) (Yi (IU n1) (Yi rfl (yN (yN (yN ?_)))));have b2:Cf 3 [[vi L[i].ver.a,vi L[i].ver.b,vi L[i].ver.c]]/\((Jr (L.take i)).map DL).length=((Jr (L.take i)).map DL).length/\(((Jr (L.take i)).map DL).length+([[vi L[i].ver.a,vi L[i].ver.b,vi L[i].ver.c]]:List (List AV)).length)*24<=140737488355328/\((Jr (L.take i)).map DL).length+([[vi L[i].ver.a,vi L[i].ver.b,vi L[i].ver.c]]:List (List AV)).length<=9223372036854775807:=⟨⟨rfl,trivial⟩,rfl,(by simp only[Lm,Am,Au];omega),(by simp only[Lm,Am,Au];omega)⟩;refine Yi b2 (cU [(7,.slice (.id 7 3) (((Jr (L.take i)).map DL)++[[vi L[i].ver.a,vi L[i].ver.b,vi L[i].ver.c]])),(18,sl AF L),(19,vi (L.map AF).length),(20,vi i)] [(7,.tok 3 (((Jr (L.take i)).map DL).length+([[vi L[i].ver.a,vi L[i].ver.b,vi L[i].ver.c]]:List (List AV)).length))] Z4 Z1 (Yi (Ii i ch) ?_));have ew:(((Jr (L.take i)).map DL)++[[vi L[i].ver.a,vi L[i].ver.b,vi L[i].ver.c]])=((Jr (L.take (i+1))).map DL):=by rw[rS n1,As];rfl
  refine Xi ⟨i+1,n1⟩ ?_;exact⟨Dl L.length i ch,⟨⟨(Aa (AV.slice (.id 7 3)) ew),rfl⟩,Zr,Zr,Zr,Tv⟩,⟨⟨(show HO.tok 3 (((Jr (L.take i)).map DL).length+([[vi L[i].ver.a,vi L[i].ver.b,vi L[i].ver.c]]:List (List AV)).length)=.tok 3 ((Jr (L.take (i+1))).map DL).length from Aa (HO.tok 3) (Ac.symm.trans (Aa List.length ew))),rfl⟩,Tv⟩,Fh,Tv⟩
 have h1:¬((i:Int)<((L.map AF).length:Int)):=h1;have n1:=Dd h1;exact CY.of_eq (show sl DL (Jr (L.take i))=sl DL (Jr L) by rw[At (l:=L) (i:=i) (A3 (Dd h1))])
theorem Aa2(q:List Rq)(hq:∀z∈q,J7 z):PC 63 [sl A8 q] (vb (!decide (BK q=0))):=by
 refine Ps Ej Tryz.func63 rfl (Nz rfl) (Xi .pure (Xi _ (Yi (c65 Wm q hq) (Yi (fun h1=>?_) (fun h1=>?_)))))
 .have h1:((BK q):Int)≠(0:Int):=h1;exact CY.of_eq (Aa vb (show true=!decide (BK q=0) by rw[Av h1];rfl))
 have h1:((BK q):Int)=(0:Int):=AJ h1;exact CY.of_eq (Aa vb (show false=!decide (BK q=0) by rw[Ar h1];rfl))
theorem z61(hs:Db caps)(l:List (List Rq))(p:List Rq->Bool)(hF:∀x∈l,PC fF ([sl A8 x]++caps) (vb (p x)))(hl:l.length<9223372036854775807) :
  PC 61 [sl DH l,.clo fF caps] (vi (JI p l 0)):=by
 refine Ps Ej Tryz.func61 rfl (Nz rfl) (Xi {i:Nat // i<=l.length/\∀j (hj:j<l.length),j<i->p l[j]=false} (Xi (fun i=>⟨[(0,sl DH l),(1,.clo fF caps),(7,vi (l.map DH).length),(8,vi i.1)],[],Af⟩) (Xi (fun i=>l.length-i.1) (Yi (Xi ⟨0,by simp⟩ ?_) ?_))))
 .exact⟨⟨Zr,⟨rfl,hs.ids _⟩,Zr,Zr,Tv⟩,Tv,Fh,Tv⟩
 .intro⟨i,h1,h2⟩;refine Yi ?_ ?_
  .intro h;have h:(i:Int)<(l.map DH).length:=h;have h:i<l.length:=by simpa using h
   have hg:l[i]?=some l[i]:=Ge h;refine Xi (DH l[i]) (Yi (Yi (Nn i) (by simp[hg])) (Yi rfl ?_));have Cg:∀h,PC fF ([sl A8 l[i]]++caps.map (str0 h)) (vb (p l[i])):=fun h=>by rw[hs.map];exact hF l[i] (Al _)
   cases hp:p l[i]with
   |true=>
    rw[hp]at Cg;refine Xi .pure (Xi (vb true) (Yi (Cg _) ?_));rw[HM h (fun j hj IG=>h2 j hj IG) hp,EC];exact .refl _
   |false=>
    rw[hp]at Cg;refine Xi .pure (Xi (vb false) (Yi (Cg _) (Yi (Ii i ch) (Xi ⟨i+1,by omega,fun j hj IG=>?_⟩ ?_))))
    .by_cases e:j=i
     .subst e;exact hp
     .exact h2 j hj ch
    .exact⟨Dl l.length i ch,⟨Zr,⟨rfl,hs.ids _⟩,Zr,Zr,Tv⟩,Tv,Fh,Tv⟩
  .intro h;have h:¬(i:Int)<(l.map DH).length:=h;have h:¬i<l.length:=by simpa using h
   rw[Gt fun j hj=>h2 j hj ch];exact .refl _
theorem z28(hs:Db caps)(l:List (List Rq))(p:List Rq->Bool)(hF:∀x∈l,PC fF ([sl A8 x]++caps) (vb (p x)))(hl:B8 l) :
  PC 28 [sl DH l,.clo fF caps] (vb (l.any p)):=by
 refine Ps Ej Tryz.func28 rfl (Nz rfl) ?_;have hi:=z61 hs l p hF (by unfold B8 at hl;omega);have Cg:∀h,PC 61 [sl DH l,.clo fF (caps.map (str0 h))] (vi (JI p l 0)):=fun h=>by rw[hs.map];exact hi
 refine Xi .pure (Xi _ (Yi (Cg _) ?_));have ha:=HG (p:=p) l 0 (Bn 0);refine Yi ?_ ?_
 .intro h;have h:(0:Int)<=JI p l 0:=h;rw[<-ha,Ar h];exact .refl _
 .intro h;have h:¬(0:Int)<=JI p l 0:=h;rw[<-ha,Av h];exact .refl _
theorem eK(hl:B8 cl)(h:∀q∈cl,∀z∈q,J7 z):PC 28 [sl DH cl,.v (.func (.func 63) #[] #[])] (vb (cl.any fun q=>!decide (BK q=0))):=
 (z28 (fF:=63) Db.nil cl (fun q=>!decide (BK q=0)) (fun q hq=>Aa2 q (h q hq)) hl).args ⟨.refl _,.fn _,trivial⟩
theorem sm(hx:x.length<=19)(hc:∀r∈x,PC 83 [.agg (AF r)] (.agg (AF r)))(hk:Bc Tryz.prog 86 [.agg [.msl 1000 ((Ec Dy x.length x).map AF).length,nzA]] (Ap [(1000,.arr 9 ((Ec Dy x.length x).map AF))] Af) fun r h'=>r=vi 0/\h'=Ap [(1000,.arr 9 ((Ec Dy x.length x).map AF))] Af):PC 43 [sl AF x] (.tup [sl AF (Ec Dy x.length x),vi 0]):=by
 refine Ps ⟨[],[],[(4,9)],[],[],[],[],[],[],[(200011,4)],[7,8,11]⟩ Tryz.func43 rfl (Nz rfl) (Xi {q:Nat // q<=x.length} (Xi (fun q=>⟨[(4,.msl 4 (x.take q.1).length),(8,sl AF x),(9,vi (x.map AF).length),(10,vi q.1)],[(4,.arr 9 ((x.take q.1).map AF))],Af⟩) (Xi (fun q=>x.length-q.1) (Yi (Xi ⟨0,AA _⟩ ?_) ?_))))
 .exact⟨Z4,Z1,Fh,Tv⟩
 intro⟨i,i1⟩;have i1:i<=x.length:=i1;refine Yi (fun h1=>?_) (fun h1=>?_)
 .have h1:(i:Int)<((x.map AF).length:Int):=h1;have n1:=EE h1;refine Xi (AF x[i]) (Yi (IU n1) (Yi rfl (yN (yN (yN (Xi .pure (Xi _ (Yi (hc x[i] (Al n1)) ?_))))))));have b2:Cf 9 [(AF x[i])]/\((x.take i).map AF).length=(x.take i).length/\(((x.take i).map AF).length+([(AF x[i])]:List (List AV)).length)*120<=140737488355328/\((x.take i).map AF).length+([(AF x[i])]:List (List AV)).length<=9223372036854775807:=⟨⟨rfl,trivial⟩,(by rw[Lm]),(by simp only[Lm,Am,Au,Aw];omega),(by simp only[Lm,Am,Au,Aw];omega)⟩;refine Yi b2 (Yi (Ii i ch) (Xi ⟨i+1,n1⟩ ?_));exact⟨Dl x.length i ch,⟨⟨(show AV.msl 4 (((x.take i).map AF).length+([AF x[i]]:List (List AV)).length)=.msl 4 (x.take (i+1)).length by rw[Ek n1,Ac,Lm];rfl),rfl⟩,Zr,Zr,Zr,Tv⟩,⟨⟨(show HO.arr 9 ((x.take i).map AF++[AF x[i]])=.arr 9 ((x.take (i+1)).map AF) by rw[Ek n1,As];rfl),rfl⟩,Tv⟩,Fh,Tv⟩
 have h1:¬((i:Int)<((x.map AF).length:Int)):=h1;have n1:=Dd h1;have ei:x.take i=x:=At ch;refine cU [(4,.msl 4 x.length)] [(4,.arr 9 (x.map AF))] ⟨⟨(show AV.msl 4 (x.take i).length=.msl 4 x.length by rw[ei]),rfl⟩,Tv⟩ ⟨⟨(show HO.arr 9 ((x.take i).map AF)=.arr 9 (x.map AF) by rw[ei]),rfl⟩,Tv⟩ ?_
 refine Xi (.gen [(4,1000)] 0) (Yi rfl (Bc.to2 (v105 x hx) ?_));refine cU [(4,.msl 4 ((Ec Dy x.length x).map AF).length)] [(4,.arr 9 ((Ec Dy x.length x).map AF))] ⟨⟨(show AV.msl 4 x.length=.msl 4 ((Ec Dy x.length x).map AF).length by rw[Lm,LG]),rfl⟩,Tv⟩ Z1 ?_
 refine Xi (.gen [(4,1000)] 0) (Yi rfl (Bc.to2 hk ?_));refine Yi (fun h=>absurd h Cl) (fun _=>?_);refine Yi rfl (cU [(4,sl AF (Ec Dy x.length x))] [] Z1 Tv ?_)
 exact .refl _
theorem o7{x:List Rl}(h:x.length<=19)(hf:∀r∈x,En r)(hr:∀r∈x,r.reqs.length<=1000)(hc:A6 (Ec Dy x.length x)=0):PC 43 [sl AF x] (.tup [sl AF (Ec Dy x.length x),vi 0]):=by
 have hk:=Jb.lend (sz:=9) (es:=(Ec Dy x.length x).map AF) (vs:=[.slice none 0 0]) (wz (x:=Ec Dy x.length x) fun r hr=>hf r (Nh Dy _ _ r hr));rw[hc]at hk;exact sm x h (fun r hm=>c98 r (hr r hm) fun q hq=>((hf r hm).2 q hq).1) hk
theorem kw{x:List Rl}(h:x.length<=19)(hf:∀r∈x,En r)(hr:∀r∈x,r.reqs.length<=1000)(hc:A6 (Ec Dy x.length x)≠0):PC 43 [sl AF x] (.tup [nzA,vi (A6 (Ec Dy x.length x))]):=by
 have hk:=Jb.lend (sz:=9) (es:=(Ec Dy x.length x).map AF) (vs:=[.slice none 0 0]) (wz (x:=Ec Dy x.length x) fun r hr=>hf r (Nh Dy _ _ r hr));exact AeB x h (fun r hm=>c98 r (hr r hm) fun q hq=>((hf r hm).2 q hq).1) _ hc hk
def Ty:List Rl:=if A6 (Ec Dy x.length x)=0 then Ec Dy x.length x else []
theorem sj{x:List Rl}(h:x.length<=19)(hf:∀r∈x,En r)(hr:∀r∈x,r.reqs.length<=1000):PC 43 [sl AF x] (.tup [sl AF (Ty x),vi (A6 (Ec Dy x.length x))]):=by
 by_cases hc:A6 (Ec Dy x.length x)=0
 .have q:=o7 h hf hr hc;rw[Ty,Ao hc,hc];exact q
 .have q:=kw h hf hr hc;rw[Ty,Aj hc];exact Bc.mono q fun _ _ ⟨e1,e2⟩=>⟨_,e1▸CY.tup (show K8 [nzA,vi _] [sl AF [],vi _]from⟨CY.nil,CY.refl _,trivial⟩),rfl,e2⟩
theorem oV(l:List Rl)(hl:l.length<=256)(DD:l≠[]):Bc Tryz.prog 44 [sl AF l] Af fun r h'=>r=.slice (.id 2000 9) (l.map AF)/\h'=Ap [(2000,.tok 9 (l.map AF).length)] Af:=by
 show Bc Tryz.prog _ _ (Ap [] Af) _;refine Cu (M2 Ej) [(5,2000)] rfl CW hm rfl Tryz.func44 Wk rfl (Nz rfl) Wk rfl ?_;have Hw:Cf 9 (l.map AF)/\([]:List (List AV)).length=0/\(([]:List (List AV)).length+(l.map AF).length)*120<=140737488355328/\([]:List (List AV)).length+(l.map AF).length<=9223372036854775807:=by
  refine⟨DK (enc:=AF) (n:=9) (fun _=>rfl) l,rfl,?_,?_⟩<;>simp only[Au,Lm]<;>omega
 refine Yi ?_ ?_
 .intro _;refine Yi Hw ?_;exact Xi _ (Yi (.refl _) ⟨rfl,Eq.trans (b:=Ap [(2000,.tok 9 (([]:List (List AV)).length+(l.map AF).length))] Af) rfl (by rw[Au,Bf])⟩)
 .intro h;have h:l.map AF=[]:=h;exact absurd (DJ.1 h) DD
structure Bk where
 client:Nat
 ver:Ver
 enough:Bool
abbrev B6(b:Bk):List AV:=[vi ((b.client:Nat):Int),vi b.ver.a,vi b.ver.b,vi b.ver.c,vb b.enough]
def pz(b:Int)(c:Int)(v:Ver):Int:=if v.b=b then max c v.c else c
def Gr(L:List Rl)(v:Ver)(n:Nat):Int:=((Jr L).take n).foldl (pz v.b) v.c
def kN:Int:=(Jr (nG x a.path)).foldl (pz v.b) v.c
def ra:Ver:=⟨v.a,v.b,kN x a v+1⟩
def qU:Rl:=⟨a.path,ra x a w.rel.ver,w.rel.reqs,⟨#[]⟩,⟨#[]⟩,⟨#[]⟩,false⟩
def gj:List Rl:=Ty (sx++[qU x a w])
def HZ:Bk:=⟨w.client,ra x a w.rel.ver,decide (KF (gj x sx a w) (cl.getD w.client [])=0)&&!has a.set (plc (ra x a w.rel.ver))⟩
def fj(x:List Rl)(a:Ad):List Wd->Int
 | []=>0
 |w::r=>if 999<kN x a w.rel.ver+1 then 2 else fj x a r
theorem lm{x:List Rl}{a:Ad}{l:List Wd}(h:i<l.length)(k:¬999<kN x a l[i].rel.ver+1):fj x a (l.drop i)=fj x a (l.drop (i+1)):=by rw[AI h,fj,Aj k]
theorem xp{x:List Rl}{a:Ad}{l:List Wd}(h:i<l.length)(k:999<kN x a l[i].rel.ver+1):fj x a (l.drop i)=2:=by rw[AI h,fj,Ao k]
theorem gn{L:List Rl}{v:Ver}(h:n<(Jr L).length):Gr L v (n+1)=pz v.b (Gr L v n) (Jr L)[n]:=by
 rw[Gr,BY h,Et];rfl
theorem Y6{L:List Rl}{v:Ver}(h:(Jr L).length<=n):Gr L v n=(Jr L).foldl (pz v.b) v.c:=by rw[Gr,At h]
theorem ar{x sx:List Rl}{a:Ad}{w:Wd}:∀{l:List (List Rq)} {i:Nat},w∈Ru x sx a l i->i<=w.client/\w.client<i+l.length/\NE x sx a (l.getD (w.client-i) [])=true/\w.rel=Es x a (l.getD (w.client-i) [])
 | [],i,h=>by cases h
 |q::l,i,h=>by
  have tail:w∈Ru x sx a l (i+1)->i<=w.client/\w.client<i+(q::l).length/\NE x sx a ((q::l).getD (w.client-i) [])=true/\w.rel=Es x a ((q::l).getD (w.client-i) []):=fun h=>by
   obtain⟨h1,h2,h3,h4⟩:=ar h;have e:w.client-i=(w.client-(i+1))+1:=by omega
   refine⟨by omega,by rw[Am];omega,?_,?_⟩
   .rw[e,List.getD_cons_succ];exact h3
   .rw[e,List.getD_cons_succ];exact h4
  rw[Ru]at h;split at h
  .rename_i hw;rcases AC.1 h with rfl | h
   .refine⟨Ak _,(by rw[Am];show i<i+(l.length+1);omega),?_,?_⟩
    .show NE x sx a ((q::l).getD (i-i) [])=true;rw[E8];exact hw
    .show Es x a q=Es x a ((q::l).getD (i-i) []);rw[E8];rfl
   .exact tail h
  .exact tail h
theorem rx{x:List Rl}{a:Ad}{q:List Rq}(h:KF x q=0)(hc:(EM x q).any (Ma a)=true):Es x a q∈x/\(Es x a q).path=a.path/\A6 x=0:=by
 obtain⟨k,hk,h1,h2⟩:=ce h hc;have h0:=(QU h).2.2;rw[Dh,Aj (by rw[h0];decide)]at h2;have hm:=BF h2;have hp:=DP h2;have hp:=AK hp;refine⟨hm,?_,h0⟩;have e1:(Es x a q).path=(EM x q)[k].path:=Aa Sl.path hp;rw[e1];have hi:JI (ZA a) (EM x q) 0=((k:Nat):Int):=h1;have DE:(EM x q).findIdx (ZA a)<(EM x q).length:=by
  obtain⟨y,hy,hb⟩:=Bd.1 hc;simp only[Ma,Ag]at hb;exact List.findIdx_lt_length_of_exists ⟨y,hy,hb.1.2⟩
 have Xs:ZA a (EM x q)[(EM x q).findIdx (ZA a)]=true:=List.findIdx_getElem (w:=DE);have Ou:∀j (hj:j<(EM x q).length),j<(EM x q).findIdx (ZA a)->ZA a (EM x q)[j]=false:=fun j hj IG=>by
  have q:=List.not_of_lt_findIdx IG;simpa using q
 rw[HM DE Ou Xs]at hi
 have:k=(EM x q).findIdx (ZA a):=by omega
 subst this;exact AK Xs
theorem xL{x sx:List Rl}{a:Ad}{cl:List (List Rq)}{w:Wd}(h:w∈Lp x sx a cl):w.client<cl.length/\w.rel∈x/\w.rel.path=a.path/\A6 x=0:=by
 obtain⟨_,h2,h3,h4⟩:=ar h;rw[NE]at h3;simp only[Ag]at h3;have q:=rx (AK h3.1.1) h3.1.2;rw[h4];exact⟨by omega,q⟩
end Go.Eng
