/- Lemmas 27. -/
import Derived.Test.YtkmnnpmneamgoaaGreatDoorPA26
set_option maxHeartbeats 4000000
namespace Go.Eng
open Go.Proofs
variable {p:ByteArray}{a b:List Tm}{e n:Int}{t:Tm}(x:List Rl)(ifs:List (List AV))(roots:List Rq)(l:List Nf)
theorem Dt{α:Type}(o:Option α):(∃x,o=some x)\/o=none:=by
 cases o<;>simp_all
theorem Dy(l:List Tm):(BT l).length<=l.length:=by
 grind [BT,A3,Ub,List.take_length]
theorem Su(l:List Tm):∀t∈BT l,Er t.set:=fun t ht=>by
 grind [BT,A3,DE,BM.canon]
theorem Hl(h:(A3 a).isSome=false):DS a p=none:=by
 grind [DS]
theorem JF(hf:(BT a).find? (fun t=>decide (t.path=p))=none):DS a p=none:=by
 grind [DS,BT,Dj]
theorem FA(h:(A3 a).isSome=true)(hf:(BT a).find? (fun t=>decide (t.path=p))=some t):DS a p=some (t,AE (BT a) p):=by
 grind [DS,BT,Dj]
theorem Hp(h:DS a p=none):AQ a b p=([],1):=by grind [AQ]
theorem XT(h:DS b p=none):AQ a b p=([],1):=by
 grind [AQ]
abbrev EV(a b:List Tm)(p:ByteArray)(t u:Tm):List Tm:=AE (BT a) p++AE (BT b) p++[CG t u]
theorem Np{u:Tm}(h:DS a p=some (t,AE (BT a) p))(k:DS b p=some (u,AE (BT b) p)):AQ a b p=if(A3 (EV a b p t u)).isSome then(BT (EV a b p t u),0)else([],8):=by
 grind [AQ,BT]
abbrev XS(a b:List Tm)(p:ByteArray):AV:=.tup [sl Ad (AQ a b p).1,vi (AQ a b p).2]
theorem Fj(h:AQ a b p=([],e)):Ea (.tup [nzA,vi e]) (XS a b p):=
 (show Ea (.tup [nzA,vi e]) (.tup [.slice .none [],vi e])from Ea.tup ⟨.nil,.refl _,trivial⟩).trans (.of_eq (show AV.tup [.slice .none [],vi e]=XS a b p by simp_all))
theorem KD{t:List Tm}(h:U4 t):BL t:=by omega
theorem jW(l:List Tm)(hl:BL l)(p:ByteArray):A6 Tryz.prog 208 [sl Ad l,vs p] (Af [] Ae) fun r h'=>r=.slice (.id 2000 3) ((l.filter fun t=>!decide (t.path=p)).map Ad)/\h'=Af [(2000,.tok 3 ((l.filter fun t=>!decide (t.path=p)).map Ad).length)] Ae:=by
 have hl:l.length<=1073741824:=hl;refine Bi (IB (pC [] [4])) [(7,2000)] rfl Bz hm rfl Tryz.func208 aa3 rfl (Nz rfl) aa3 rfl (Xi {q:Nat×List Tm // q.1<=l.length/\q.2=(l.take q.1).filter fun t=>!decide (t.path=p)} (Xi (fun q=>⟨[(0,sl Ad l),(1,vs p),(5,.slice (.id 7 3) (q.1.2.map Ad)),(6,vi q.1.1)],[(7,.tok 3 q.1.2.length)],Ae⟩) (Xi (fun q=>l.length-q.1.1) (Yi (Xi ⟨(0,[]),Ap _,rfl⟩ ?_) ?_))))
 .exact⟨Z4,Z1,Fh,Bg aa3⟩
 intro⟨⟨i,A⟩,i1,i2⟩;have i1:i<=l.length:=i1;have i2:A=(l.take i).filter fun t=>!decide (t.path=p):=i2;have hA:A.length<=i:=by
  grind
 refine Yi (fun h1=>?_) (fun h1=>?_)
 .have h1:(i:Int)<((l.map Ad).length:Int):=h1;have n1:i<l.length:=by simp_all
  have g1:l[i]?=some l[i]:=Ge n1;refine Xi (Ad l[i]) (Yi (Yi (Nn i) (Bk g1)) (Yi rfl (Yi (fun h3=>?_) (fun h3=>?_))))
  .have h3:(l[i].path:ByteArray)≠p:=h3;refine Xi (Ad l[i]) (Yi (Yi (Nn i) (Bk g1)) (Yi rfl (yN ?_)));have b4:A7 3 [(Ad l[i])]/\(A.map Ad).length=A.length/\((A.map Ad).length+([(Ad l[i])]:List (List AV)).length)*48<=140737488355328/\(A.map Ad).length+([(Ad l[i])]:List (List AV)).length<=9223372036854775807:=⟨⟨rfl,trivial⟩,aa1,(by grind),(by grind)⟩;refine Yi b4 (cU [(0,sl Ad l),(1,vs p),(5,.slice (.id 7 3) ((A.map Ad)++[(Ad l[i])])),(6,vi i)] [(7,.tok 3 ((A.map Ad).length+([(Ad l[i])]:List (List AV)).length))] Z4 Z1 (Yi (by grind [As]) (Xi ⟨(i+1,(A++[l[i]])),by omega,by show(A++[l[i]])=(l.take (i+1)).filter _;rw[Ck,Ge n1,HG,<-i2];simp_all⟩ ?_)));exact⟨Dl l.length i aa0,⟨Zr,Zr,⟨(show AV.slice (.id 7 3) (A.map Ad++[Ad l[i]])=.slice (.id 7 3) ((A++[l[i]]).map Ad) by simp),rfl⟩,Zr,Tv⟩,⟨⟨(show HO.tok 3 ((A.map Ad).length+[Ad l[i]].length)=.tok 3 (A++[l[i]]).length by simp),rfl⟩,Tv⟩,Fh,Bg aa3⟩
  have h3:(l[i].path:ByteArray)=p:=A9 h3;refine cU [(0,sl Ad l),(1,vs p),(5,.slice (.id 7 3) (A.map Ad)),(6,vi i)] [(7,.tok 3 A.length)] Z4 Z1 (Yi (by grind [As]) (Xi ⟨(i+1,A),by omega,by grind [List.take_add_one]⟩ ?_));exact⟨Dl l.length i aa0,Z4,Z1,Fh,Bg aa3⟩
 have h1:¬((i:Int)<((l.map Ad).length:Int)):=h1;have n1:¬i<l.length:=by simp_all
 have eA:A=l.filter (fun t=>!decide (t.path=p)):=by grind
 exact Xi _ (Yi (.refl _) (Yi (Aa (fun B:List Tm=>AV.slice (.id 2000 3) (B.map Ad)) eA) (show Af [(2000,HO.tok 3 A.length)] Ae=Af [(2000,HO.tok 3 ((l.filter fun t=>!decide (t.path=p)).map Ad).length)] Ae by simp_all)))
theorem c74(a b:List Tm)(p:ByteArray)(ha:U4 a)(hb:U4 b):PC 159 [sl Ad a,sl Ad b,vs p] (XS a b p):=by
 have ha1:=ha.1;have hb1:=hb.1;refine Ps ⟨[],[],[],[],[],[],[],[],[(71,3)],[],[3,5,6,7,8,9]⟩ Tryz.func159 rfl (Nz rfl) (AA (Bt ((A3 a).isSome)) (fun h1=>?_) (fun h1=>?_))
 .have h1:((A3 a).isSome)=true:=h1;have Pf:=(show PC 205 [sl Ad a] (.tup [sl Ad (BT a),vb (A3 a).isSome])from NZ a (KD ha) ha.2);rw[show(A3 a).isSome=true from h1]at Pf;refine Xi .pure (Xi _ (Yi Pf (AA (Bt ((A3 b).isSome)) (fun h3=>?_) (fun h3=>?_))))
  .have h3:((A3 b).isSome)=true:=h3;have YV:=(show PC 205 [sl Ad b] (.tup [sl Ad (BT b),vb (A3 b).isSome])from NZ b (KD hb) hb.2);rw[show(A3 b).isSome=true from h3]at YV;refine Xi .pure (Xi _ (Yi YV (cU [(2,vs p),(8,sl Ad (BT a)),(9,vb true),(10,sl Ad (BT b)),(11,vb true)] [] Z5 Tv (AA (Dt ((BT a).find? (fun t=>decide (t.path=p)))) (fun h5=>?_) (fun h5=>?_)))))
   .refine Al h5 (fun t h5=>?_);have dL:=I5 (BT a) (by grind [Dy]) p;rw[h5]at dL;refine Xi .pure (Xi _ (Yi dL (yN (AA (Dt ((BT b).find? (fun t=>decide (t.path=p)))) (fun h6=>?_) (fun h6=>?_)))))
    .refine Al h6 (fun u h6=>?_);have YW:=I5 (BT b) (by grind [Dy]) p;rw[h6]at YW;refine Xi .pure (Xi _ (Yi YW (yN (cU [(2,vs p),(8,sl Ad (BT a)),(9,vb true),(10,sl Ad (BT b)),(11,vb true),(12,.ref 12 0),(13,vb true),(14,.ref 14 0),(15,vb true)] [(12,.cells (Ad t)),(14,.cells (Ad u))] Z9 Z2 (cU [(2,vs p),(8,sl Ad (BT a)),(10,sl Ad (BT b)),(12,.ref 12 0),(14,.ref 14 0)] [(12,.cells (Ad t)),(14,.cells (Ad u))] Z5 Z2 ?_)))))
     have rV:t∈BT a:=Bn h5;have hum:u∈BT b:=Bn h6;have htp:t.path=p:=by grind
     have zE:=Su a t rV;have huc:=Su b u hum;have hUf:BL [t.set,u.set].flatten:=by
      grind [E6]
     have hla:=Dy a;have hlb:=Dy b;have hwa:(AE (BT a) p).length<=(BT a).length:=Dz ..;have hwb:(AE (BT b) p).length<=(BT b).length:=Dz ..;have ha1:=ha.1;have hb1:=hb.1;have u9:BL (EV a b p t u):=by grind
     have vd:∀x∈EV a b p t u,BL x.set:=fun x hx=>by
      rcases Bc.1 hx with hx | hx
      .rcases Bc.1 hx with hx | hx
       .exact Is (Su a x (B6.1 hx).1)
       .exact Is (Su b x (B6.1 hx).1)
      .rw[AD.1 hx];exact Is (t:=CG t u) (LK [t.set,u.set])
     refine Yi (fun h7=>?_) (fun h7=>?_)
     .have h7:t.absent=true:=h7;refine Xi _ (Yi (oK [t.set,u.set] (by simp_all) hUf) ?_);refine yN (Yi aa3 (cU [(2,vs p),(8,sl Ad (BT a)),(10,sl Ad (BT b)),(16,.ref 16 0)] [(16,.cells [vs p,vb true,sl Ab (EQ t.set u.set)])] Z4 Z1 (Xi _ (Xi _ (Yi aa3 (Yi (jW (BT a) aa0 p) (Xi _ (Yi (sx (BT b) aa0 p) ?_))))))));have b8:A7 3 ((AE (BT b) p).map Ad)/\((AE (BT a) p).map Ad).length=((AE (BT a) p).map Ad).length/\(((AE (BT a) p).map Ad).length+((AE (BT b) p).map Ad).length)*48<=140737488355328/\((AE (BT a) p).map Ad).length+((AE (BT b) p).map Ad).length<=9223372036854775807:=⟨(Cn (enc:=Ad) (n:=3) (fun _=>rfl) (AE (BT b) p)),rfl,(by grind),(by grind)⟩;refine Yi b8 (yN ?_);have b9:A7 3 [[vs p,vb true,sl Ab (EQ t.set u.set)]]/\((((AE (BT a) p).map Ad)++((AE (BT b) p).map Ad)):List (List AV)).length=(((AE (BT a) p).map Ad).length+((AE (BT b) p).map Ad).length)/\(((((AE (BT a) p).map Ad)++((AE (BT b) p).map Ad)):List (List AV)).length+([[vs p,vb true,sl Ab (EQ t.set u.set)]]:List (List AV)).length)*48<=140737488355328/\((((AE (BT a) p).map Ad)++((AE (BT b) p).map Ad)):List (List AV)).length+([[vs p,vb true,sl Ab (EQ t.set u.set)]]:List (List AV)).length<=9223372036854775807:=⟨⟨rfl,trivial⟩,aa1,(by grind),(by grind)⟩;refine Yi b9 ?_;have eL:((((AE (BT a) p).map Ad)++((AE (BT b) p).map Ad))++[[vs p,vb true,sl Ab (EQ t.set u.set)]])=(EV a b p t u).map Ad:=by
       have e1:Ad (CG t u)=[vs p,vb (t.absent||u.absent),sl Ab (EQ t.set u.set)]:=by rw[<-htp];rfl
       simp_all
      refine AA (Bt ((A3 (EV a b p t u)).isSome)) (fun JR=>?_) (fun JR=>?_)
      .have JR:((A3 (EV a b p t u)).isSome)=true:=JR;have lc:=(show PC 205 [.slice .none (((((AE (BT a) p).map Ad)++((AE (BT b) p).map Ad))++[[vs p,vb true,sl Ab (EQ t.set u.set)]]))] (.tup [sl Ad (BT (EV a b p t u)),vb (A3 (EV a b p t u)).isSome])from by rw[eL];exact NZ (EV a b p t u) u9 vd);rw[show(A3 (EV a b p t u)).isSome=true from JR]at lc;refine Xi _ (Yi lc (Yi aa3 (cU [(9,vb true),(17,sl Ad (BT (EV a b p t u)))] [] Z2 Tv ?_)))
       exact .of_eq (show AV.tup [sl Ad (BT (EV a b p t u)),vi 0]=XS a b p by unfold XS;rw[(Np (FA h1 h5) (FA h3 h6)).trans (AX JR)])
      have JR:((A3 (EV a b p t u)).isSome)=false:=JR;have Pe:=(show PC 205 [.slice .none (((((AE (BT a) p).map Ad)++((AE (BT b) p).map Ad))++[[vs p,vb true,sl Ab (EQ t.set u.set)]]))] (.tup [sl Ad (BT (EV a b p t u)),vb (A3 (EV a b p t u)).isSome])from by rw[eL];exact NZ (EV a b p t u) u9 vd);rw[show(A3 (EV a b p t u)).isSome=false from JR]at Pe;refine Xi _ (Yi Pe (Yi aa3 (cU [(9,vb false),(17,sl Ad (BT (EV a b p t u)))] [] Z2 Tv ?_)))
      exact Fj ((Np (FA h1 h5) (FA h3 h6)).trans (AI (by simp_all)))
     have h7:t.absent=false:=h7;refine Yi (fun L7=>?_) (fun L7=>?_)
     .have L7:u.absent=true:=L7;refine Xi _ (Yi (oK [t.set,u.set] (by simp_all) hUf) ?_);refine yN (Yi aa3 (cU [(2,vs p),(8,sl Ad (BT a)),(10,sl Ad (BT b)),(16,.ref 16 0)] [(16,.cells [vs p,vb true,sl Ab (EQ t.set u.set)])] Z4 Z1 (Xi _ (Xi _ (Yi aa3 (Yi (jW (BT a) aa0 p) (Xi _ (Yi (sx (BT b) aa0 p) ?_))))))));have b16:A7 3 ((AE (BT b) p).map Ad)/\((AE (BT a) p).map Ad).length=((AE (BT a) p).map Ad).length/\(((AE (BT a) p).map Ad).length+((AE (BT b) p).map Ad).length)*48<=140737488355328/\((AE (BT a) p).map Ad).length+((AE (BT b) p).map Ad).length<=9223372036854775807:=⟨(Cn (enc:=Ad) (n:=3) (fun _=>rfl) (AE (BT b) p)),rfl,(by grind),(by grind)⟩;refine Yi b16 (yN ?_);have b17:A7 3 [[vs p,vb true,sl Ab (EQ t.set u.set)]]/\((((AE (BT a) p).map Ad)++((AE (BT b) p).map Ad)):List (List AV)).length=(((AE (BT a) p).map Ad).length+((AE (BT b) p).map Ad).length)/\(((((AE (BT a) p).map Ad)++((AE (BT b) p).map Ad)):List (List AV)).length+([[vs p,vb true,sl Ab (EQ t.set u.set)]]:List (List AV)).length)*48<=140737488355328/\((((AE (BT a) p).map Ad)++((AE (BT b) p).map Ad)):List (List AV)).length+([[vs p,vb true,sl Ab (EQ t.set u.set)]]:List (List AV)).length<=9223372036854775807:=⟨⟨rfl,trivial⟩,aa1,(by grind),(by grind)⟩;refine Yi b17 ?_;have eL:((((AE (BT a) p).map Ad)++((AE (BT b) p).map Ad))++[[vs p,vb true,sl Ab (EQ t.set u.set)]])=(EV a b p t u).map Ad:=by
       have e1:Ad (CG t u)=[vs p,vb (t.absent||u.absent),sl Ab (EQ t.set u.set)]:=by rw[<-htp];rfl
       simp_all
      refine AA (Bt ((A3 (EV a b p t u)).isSome)) (fun kU=>?_) (fun kU=>?_)
      .have kU:((A3 (EV a b p t u)).isSome)=true:=kU;have YU:=(show PC 205 [.slice .none (((((AE (BT a) p).map Ad)++((AE (BT b) p).map Ad))++[[vs p,vb true,sl Ab (EQ t.set u.set)]]))] (.tup [sl Ad (BT (EV a b p t u)),vb (A3 (EV a b p t u)).isSome])from by rw[eL];exact NZ (EV a b p t u) u9 vd);rw[show(A3 (EV a b p t u)).isSome=true from kU]at YU;refine Xi _ (Yi YU (Yi aa3 (cU [(9,vb true),(17,sl Ad (BT (EV a b p t u)))] [] Z2 Tv ?_)))
       exact .of_eq (show AV.tup [sl Ad (BT (EV a b p t u)),vi 0]=XS a b p by unfold XS;rw[(Np (FA h1 h5) (FA h3 h6)).trans (AX kU)])
      have kU:((A3 (EV a b p t u)).isSome)=false:=kU;have lg:=(show PC 205 [.slice .none (((((AE (BT a) p).map Ad)++((AE (BT b) p).map Ad))++[[vs p,vb true,sl Ab (EQ t.set u.set)]]))] (.tup [sl Ad (BT (EV a b p t u)),vb (A3 (EV a b p t u)).isSome])from by rw[eL];exact NZ (EV a b p t u) u9 vd);rw[show(A3 (EV a b p t u)).isSome=false from kU]at lg;refine Xi _ (Yi lg (Yi aa3 (cU [(9,vb false),(17,sl Ad (BT (EV a b p t u)))] [] Z2 Tv ?_)))
      exact Fj ((Np (FA h1 h5) (FA h3 h6)).trans (AI (by simp_all)))
     have L7:u.absent=false:=L7;refine Xi _ (Yi (oK [t.set,u.set] (by simp_all) hUf) ?_);refine yN (Yi aa3 (cU [(2,vs p),(8,sl Ad (BT a)),(10,sl Ad (BT b)),(16,.ref 16 0)] [(16,.cells [vs p,vb false,sl Ab (EQ t.set u.set)])] Z4 Z1 (Xi _ (Xi _ (Yi aa3 (Yi (jW (BT a) aa0 p) (Xi _ (Yi (sx (BT b) aa0 p) ?_))))))));have b23:A7 3 ((AE (BT b) p).map Ad)/\((AE (BT a) p).map Ad).length=((AE (BT a) p).map Ad).length/\(((AE (BT a) p).map Ad).length+((AE (BT b) p).map Ad).length)*48<=140737488355328/\((AE (BT a) p).map Ad).length+((AE (BT b) p).map Ad).length<=9223372036854775807:=⟨(Cn (enc:=Ad) (n:=3) (fun _=>rfl) (AE (BT b) p)),rfl,(by grind),(by grind)⟩;refine Yi b23 (yN ?_);have b24:A7 3 [[vs p,vb false,sl Ab (EQ t.set u.set)]]/\((((AE (BT a) p).map Ad)++((AE (BT b) p).map Ad)):List (List AV)).length=(((AE (BT a) p).map Ad).length+((AE (BT b) p).map Ad).length)/\(((((AE (BT a) p).map Ad)++((AE (BT b) p).map Ad)):List (List AV)).length+([[vs p,vb false,sl Ab (EQ t.set u.set)]]:List (List AV)).length)*48<=140737488355328/\((((AE (BT a) p).map Ad)++((AE (BT b) p).map Ad)):List (List AV)).length+([[vs p,vb false,sl Ab (EQ t.set u.set)]]:List (List AV)).length<=9223372036854775807:=⟨⟨rfl,trivial⟩,aa1,(by grind),(by grind)⟩;refine Yi b24 ?_;have eL:((((AE (BT a) p).map Ad)++((AE (BT b) p).map Ad))++[[vs p,vb false,sl Ab (EQ t.set u.set)]])=(EV a b p t u).map Ad:=by
      have e1:Ad (CG t u)=[vs p,vb (t.absent||u.absent),sl Ab (EQ t.set u.set)]:=by rw[<-htp];rfl
      simp_all
     refine AA (Bt ((A3 (EV a b p t u)).isSome)) (fun rA=>?_) (fun rA=>?_)
     .have rA:((A3 (EV a b p t u)).isSome)=true:=rA;have xm:=(show PC 205 [.slice .none (((((AE (BT a) p).map Ad)++((AE (BT b) p).map Ad))++[[vs p,vb false,sl Ab (EQ t.set u.set)]]))] (.tup [sl Ad (BT (EV a b p t u)),vb (A3 (EV a b p t u)).isSome])from by rw[eL];exact NZ (EV a b p t u) u9 vd);rw[show(A3 (EV a b p t u)).isSome=true from rA]at xm;refine Xi _ (Yi xm (Yi aa3 (cU [(9,vb true),(17,sl Ad (BT (EV a b p t u)))] [] Z2 Tv ?_)))
      exact .of_eq (show AV.tup [sl Ad (BT (EV a b p t u)),vi 0]=XS a b p by unfold XS;rw[(Np (FA h1 h5) (FA h3 h6)).trans (AX rA)])
     have rA:((A3 (EV a b p t u)).isSome)=false:=rA;have KG:=(show PC 205 [.slice .none (((((AE (BT a) p).map Ad)++((AE (BT b) p).map Ad))++[[vs p,vb false,sl Ab (EQ t.set u.set)]]))] (.tup [sl Ad (BT (EV a b p t u)),vb (A3 (EV a b p t u)).isSome])from by rw[eL];exact NZ (EV a b p t u) u9 vd);rw[show(A3 (EV a b p t u)).isSome=false from rA]at KG;refine Xi _ (Yi KG (Yi aa3 (cU [(9,vb false),(17,sl Ad (BT (EV a b p t u)))] [] Z2 Tv ?_)))
     exact Fj ((Np (FA h1 h5) (FA h3 h6)).trans (AI (by simp_all)))
    have YW:=I5 (BT b) (by grind [Dy]) p;rw[h6]at YW;refine Xi .pure (Xi _ (Yi YW (yN (cU [(2,vs p),(8,sl Ad (BT a)),(9,vb true),(10,sl Ad (BT b)),(11,vb true),(12,.ref 12 0),(13,vb true),(14,.ref 14 0),(15,vb false)] [(12,.cells (Ad t)),(14,.cells [vs ⟨#[]⟩,vb false,nzA])] Z9 Z2 (cU [] [] Tv Tv ?_)))))
    exact Fj (XT (JF h6))
   have dL:=I5 (BT a) (by grind [Dy]) p;rw[h5]at dL;refine Xi .pure (Xi _ (Yi dL (yN (AA (Dt ((BT b).find? (fun t=>decide (t.path=p)))) (fun kX=>?_) (fun kX=>?_)))))
   .refine Al kX (fun u kX=>?_);have li:=I5 (BT b) (by grind [Dy]) p;rw[kX]at li;refine Xi .pure (Xi _ (Yi li (yN (cU [(2,vs p),(8,sl Ad (BT a)),(9,vb true),(10,sl Ad (BT b)),(11,vb true),(12,.ref 12 0),(13,vb false),(14,.ref 14 0),(15,vb true)] [(12,.cells [vs ⟨#[]⟩,vb false,nzA]),(14,.cells (Ad u))] Z9 Z2 (cU [] [] Tv Tv ?_)))))
    exact Fj (Hp (JF h5))
   have li:=I5 (BT b) (by grind [Dy]) p;rw[kX]at li;refine Xi .pure (Xi _ (Yi li (yN (cU [(2,vs p),(8,sl Ad (BT a)),(9,vb true),(10,sl Ad (BT b)),(11,vb true),(12,.ref 12 0),(13,vb false),(14,.ref 14 0),(15,vb false)] [(12,.cells [vs ⟨#[]⟩,vb false,nzA]),(14,.cells [vs ⟨#[]⟩,vb false,nzA])] Z9 Z2 (cU [] [] Tv Tv ?_)))))
   exact Fj (Hp (JF h5))
  have h3:((A3 b).isSome)=false:=h3;have xr:=(show PC 205 [sl Ad b] (.tup [sl Ad (BT b),vb (A3 b).isSome])from NZ b (KD hb) hb.2);rw[show(A3 b).isSome=false from h3]at xr;refine Xi .pure (Xi _ (Yi xr (cU [(2,vs p),(8,sl Ad (BT a)),(9,vb true),(10,sl Ad (BT b)),(11,vb false)] [] Z5 Tv (AA (Dt ((BT a).find? (fun t=>decide (t.path=p)))) (fun gC=>?_) (fun gC=>?_)))))
  .refine Al gC (fun t gC=>?_);have lj:=I5 (BT a) (by grind [Dy]) p;rw[gC]at lj;refine Xi .pure (Xi _ (Yi lj (yN (AA (Dt ((BT b).find? (fun t=>decide (t.path=p)))) (fun wR=>?_) (fun wR=>?_)))))
   .refine Al wR (fun u wR=>?_);have RS:=I5 (BT b) (by grind [Dy]) p;rw[wR]at RS;refine Xi .pure (Xi _ (Yi RS (yN (cU [(2,vs p),(8,sl Ad (BT a)),(9,vb true),(10,sl Ad (BT b)),(11,vb false),(12,.ref 12 0),(13,vb true),(14,.ref 14 0),(15,vb true)] [(12,.cells (Ad t)),(14,.cells (Ad u))] Z9 Z2 (cU [] [] Tv Tv ?_)))))
    exact Fj (XT (Hl h3))
   have RS:=I5 (BT b) (by grind [Dy]) p;rw[wR]at RS;refine Xi .pure (Xi _ (Yi RS (yN (cU [(2,vs p),(8,sl Ad (BT a)),(9,vb true),(10,sl Ad (BT b)),(11,vb false),(12,.ref 12 0),(13,vb true),(14,.ref 14 0),(15,vb false)] [(12,.cells (Ad t)),(14,.cells [vs ⟨#[]⟩,vb false,nzA])] Z9 Z2 (cU [] [] Tv Tv ?_)))))
   exact Fj (XT (Hl h3))
  have lj:=I5 (BT a) (by grind [Dy]) p;rw[gC]at lj;refine Xi .pure (Xi _ (Yi lj (yN (AA (Dt ((BT b).find? (fun t=>decide (t.path=p)))) (fun wS=>?_) (fun wS=>?_)))))
  .refine Al wS (fun u wS=>?_);have lk:=I5 (BT b) (by grind [Dy]) p;rw[wS]at lk;refine Xi .pure (Xi _ (Yi lk (yN (cU [(2,vs p),(8,sl Ad (BT a)),(9,vb true),(10,sl Ad (BT b)),(11,vb false),(12,.ref 12 0),(13,vb false),(14,.ref 14 0),(15,vb true)] [(12,.cells [vs ⟨#[]⟩,vb false,nzA]),(14,.cells (Ad u))] Z9 Z2 (cU [] [] Tv Tv ?_)))))
   exact Fj (Hp (JF gC))
  have lk:=I5 (BT b) (by grind [Dy]) p;rw[wS]at lk;refine Xi .pure (Xi _ (Yi lk (yN (cU [(2,vs p),(8,sl Ad (BT a)),(9,vb true),(10,sl Ad (BT b)),(11,vb false),(12,.ref 12 0),(13,vb false),(14,.ref 14 0),(15,vb false)] [(12,.cells [vs ⟨#[]⟩,vb false,nzA]),(14,.cells [vs ⟨#[]⟩,vb false,nzA])] Z9 Z2 (cU [] [] Tv Tv ?_)))))
  exact Fj (Hp (JF gC))
 have h1:((A3 a).isSome)=false:=h1;have xt:=(show PC 205 [sl Ad a] (.tup [sl Ad (BT a),vb (A3 a).isSome])from NZ a (KD ha) ha.2);rw[show(A3 a).isSome=false from h1]at xt;refine Xi .pure (Xi _ (Yi xt (AA (Bt ((A3 b).isSome)) (fun tc=>?_) (fun tc=>?_))))
 .have tc:((A3 b).isSome)=true:=tc;have xu:=(show PC 205 [sl Ad b] (.tup [sl Ad (BT b),vb (A3 b).isSome])from NZ b (KD hb) hb.2);rw[show(A3 b).isSome=true from tc]at xu;refine Xi .pure (Xi _ (Yi xu (cU [(2,vs p),(8,sl Ad (BT a)),(9,vb false),(10,sl Ad (BT b)),(11,vb true)] [] Z5 Tv (AA (Dt ((BT a).find? (fun t=>decide (t.path=p)))) (fun td=>?_) (fun td=>?_)))))
  .refine Al td (fun t td=>?_);have ll:=I5 (BT a) (by grind [Dy]) p;rw[td]at ll;refine Xi .pure (Xi _ (Yi ll (yN (AA (Dt ((BT b).find? (fun t=>decide (t.path=p)))) (fun wT=>?_) (fun wT=>?_)))))
   .refine Al wT (fun u wT=>?_);have lm:=I5 (BT b) (by grind [Dy]) p;rw[wT]at lm;refine Xi .pure (Xi _ (Yi lm (yN (cU [(2,vs p),(8,sl Ad (BT a)),(9,vb false),(10,sl Ad (BT b)),(11,vb true),(12,.ref 12 0),(13,vb true),(14,.ref 14 0),(15,vb true)] [(12,.cells (Ad t)),(14,.cells (Ad u))] Z9 Z2 (cU [] [] Tv Tv ?_)))))
    exact Fj (Hp (Hl h1))
   have lm:=I5 (BT b) (by grind [Dy]) p;rw[wT]at lm;refine Xi .pure (Xi _ (Yi lm (yN (cU [(2,vs p),(8,sl Ad (BT a)),(9,vb false),(10,sl Ad (BT b)),(11,vb true),(12,.ref 12 0),(13,vb true),(14,.ref 14 0),(15,vb false)] [(12,.cells (Ad t)),(14,.cells [vs ⟨#[]⟩,vb false,nzA])] Z9 Z2 (cU [] [] Tv Tv ?_)))))
   exact Fj (Hp (Hl h1))
  have ll:=I5 (BT a) (by grind [Dy]) p;rw[td]at ll;refine Xi .pure (Xi _ (Yi ll (yN (AA (Dt ((BT b).find? (fun t=>decide (t.path=p)))) (fun wU=>?_) (fun wU=>?_)))))
  .refine Al wU (fun u wU=>?_);have lp:=I5 (BT b) (by grind [Dy]) p;rw[wU]at lp;refine Xi .pure (Xi _ (Yi lp (yN (cU [(2,vs p),(8,sl Ad (BT a)),(9,vb false),(10,sl Ad (BT b)),(11,vb true),(12,.ref 12 0),(13,vb false),(14,.ref 14 0),(15,vb true)] [(12,.cells [vs ⟨#[]⟩,vb false,nzA]),(14,.cells (Ad u))] Z9 Z2 (cU [] [] Tv Tv ?_)))))
   exact Fj (Hp (Hl h1))
  have lp:=I5 (BT b) (by grind [Dy]) p;rw[wU]at lp;refine Xi .pure (Xi _ (Yi lp (yN (cU [(2,vs p),(8,sl Ad (BT a)),(9,vb false),(10,sl Ad (BT b)),(11,vb true),(12,.ref 12 0),(13,vb false),(14,.ref 14 0),(15,vb false)] [(12,.cells [vs ⟨#[]⟩,vb false,nzA]),(14,.cells [vs ⟨#[]⟩,vb false,nzA])] Z9 Z2 (cU [] [] Tv Tv ?_)))))
  exact Fj (Hp (Hl h1))
 have tc:((A3 b).isSome)=false:=tc;have xv:=(show PC 205 [sl Ad b] (.tup [sl Ad (BT b),vb (A3 b).isSome])from NZ b (KD hb) hb.2);rw[show(A3 b).isSome=false from tc]at xv;refine Xi .pure (Xi _ (Yi xv (cU [(2,vs p),(8,sl Ad (BT a)),(9,vb false),(10,sl Ad (BT b)),(11,vb false)] [] Z5 Tv (AA (Dt ((BT a).find? (fun t=>decide (t.path=p)))) (fun wV=>?_) (fun wV=>?_)))))
 .refine Al wV (fun t wV=>?_);have Vg:=I5 (BT a) (by grind [Dy]) p;rw[wV]at Vg;refine Xi .pure (Xi _ (Yi Vg (yN (AA (Dt ((BT b).find? (fun t=>decide (t.path=p)))) (fun wW=>?_) (fun wW=>?_)))))
  .refine Al wW (fun u wW=>?_);have lq:=I5 (BT b) (by grind [Dy]) p;rw[wW]at lq;refine Xi .pure (Xi _ (Yi lq (yN (cU [(2,vs p),(8,sl Ad (BT a)),(9,vb false),(10,sl Ad (BT b)),(11,vb false),(12,.ref 12 0),(13,vb true),(14,.ref 14 0),(15,vb true)] [(12,.cells (Ad t)),(14,.cells (Ad u))] Z9 Z2 (cU [] [] Tv Tv ?_)))))
   exact Fj (Hp (Hl h1))
  have lq:=I5 (BT b) (by grind [Dy]) p;rw[wW]at lq;refine Xi .pure (Xi _ (Yi lq (yN (cU [(2,vs p),(8,sl Ad (BT a)),(9,vb false),(10,sl Ad (BT b)),(11,vb false),(12,.ref 12 0),(13,vb true),(14,.ref 14 0),(15,vb false)] [(12,.cells (Ad t)),(14,.cells [vs ⟨#[]⟩,vb false,nzA])] Z9 Z2 (cU [] [] Tv Tv ?_)))))
  exact Fj (Hp (Hl h1))
 have Vg:=I5 (BT a) (by grind [Dy]) p;rw[wV]at Vg;refine Xi .pure (Xi _ (Yi Vg (yN (AA (Dt ((BT b).find? (fun t=>decide (t.path=p)))) (fun wX=>?_) (fun wX=>?_)))))
 .refine Al wX (fun u wX=>?_);have lr:=I5 (BT b) (by grind [Dy]) p;rw[wX]at lr;refine Xi .pure (Xi _ (Yi lr (yN (cU [(2,vs p),(8,sl Ad (BT a)),(9,vb false),(10,sl Ad (BT b)),(11,vb false),(12,.ref 12 0),(13,vb false),(14,.ref 14 0),(15,vb true)] [(12,.cells [vs ⟨#[]⟩,vb false,nzA]),(14,.cells (Ad u))] Z9 Z2 (cU [] [] Tv Tv ?_)))))
  exact Fj (Hp (Hl h1))
 have lr:=I5 (BT b) (by grind [Dy]) p;rw[wX]at lr;refine Xi .pure (Xi _ (Yi lr (yN (cU [(2,vs p),(8,sl Ad (BT a)),(9,vb false),(10,sl Ad (BT b)),(11,vb false),(12,.ref 12 0),(13,vb false),(14,.ref 14 0),(15,vb false)] [(12,.cells [vs ⟨#[]⟩,vb false,nzA]),(14,.cells [vs ⟨#[]⟩,vb false,nzA])] Z9 Z2 (cU [] [] Tv Tv ?_)))))
 exact Fj (Hp (Hl h1))
theorem qM(q:Rq)(h:0<=n/\n<1000000):BT [⟨p,false,Yk n⟩,⟨q.path,true,BU q.set⟩]=BJ p n q:=by
 grind [BJ,Du,mG,Yq,pD]
theorem uv{x:List Rl}{r:Rl}(h:Di x p n=some r):r∈x/\plc r.ver=n:=by
 have h1:=FM h;simp only[Aj,A8]at h1;exact⟨Bn h,h1.2⟩
abbrev TV(d:List (List Tm))(i:Nf):AV:=.tup [sl Ad (FR x roots d i),vb (AM x roots d i).isSome]
section
variable {x:List Rl}{roots:List Rq}{d:List (List Tm)}{i:Nf}
theorem GC(h:AM x roots d i=none)(h2:i.kind≠2):Ea (.tup [nzA,vb false]) (TV x roots d i):=
 (show Ea (.tup [nzA,vb false]) (.tup [.slice .none [],vb false])from Ea.tup ⟨.nil,.refl _,trivial⟩).trans (.of_eq (show AV.tup [.slice .none [],vb false]=TV x roots d i by grind [Zk]))
theorem Zj{t:List Tm}(h:AM x roots d i=none)(h2:i.kind≠2)(ht:t=[]):Ea (.tup [sl Ad t,vb false]) (TV x roots d i):=
 .of_eq (show AV.tup [sl Ad t,vb false]=TV x roots d i by grind [Zk])
theorem TW{t:List Tm}(h:AM x roots d i=some t)(h2:i.kind≠2):Ea (.tup [sl Ad t,vb true]) (TV x roots d i):=
 .of_eq (show AV.tup [sl Ad t,vb true]=TV x roots d i by grind [lY])
theorem t7{b:Bool}(h2:i.kind=2)(hb:b=false)(h:AM x roots d i=none):Ea (.tup [sl Ad (D6 i.path (A4 x i.path)),vb b]) (TV x roots d i):=
 .of_eq (show AV.tup [sl Ad (D6 i.path (A4 x i.path)),vb b]=TV x roots d i by grind [FR])
theorem qe(h2:i.kind=2)(h:AM x roots d i=some (D6 i.path (A4 x i.path))):Ea (.tup [sl Ad (D6 i.path (A4 x i.path)),vb true]) (TV x roots d i):=
 .of_eq (show AV.tup [sl Ad (D6 i.path (A4 x i.path)),vb true]=TV x roots d i by grind [FR])
theorem c38(x:List Rl)(ifs:List (List AV))(roots:List Rq)(d:List (List Tm))(i:Nf)(h0:Av x=0)(hx:∀r∈x,E4 r)(vu:∀q∈roots,BL q.set)(xA:∀t∈d,U4 t):PC 103 [.agg (Ic x ifs),sl Ac roots,.agg (AG i),sl Aq d] (TV x roots d i):=by
 have hxf:BL x:=by grind [Fb]
 have hv:∀r∈x,BK r.ver=true:=fun r hr=>((BC h0).1 r hr).val;have hxq:∀r∈x,∀q∈r.reqs,BL q.set:=fun r hr q hq=>((hx r hr).2 q hq).1;refine Ps (pC [] [3,6,7,10,11,12,13,14,17,20,22,23,24,25]) Tryz.func103 rfl (Nz rfl) (yN (cU [(1,sl Ac roots),(3,sl Aq d),(4,.ref 4 0),(6,.ref 6 0),(10,.ref 10 0),(21,vi i.kind)] [(4,.cells (Ic x ifs)),(6,.cells (AG i)),(10,.cells [vi i.kind,vs ⟨#[]⟩,vi 0,vi 0,vi 0,vi 0])] Z6 Z3 (Yi (fun h1=>?_) (fun h1=>?_))))
 .have h1:(i.kind:Int)=(0:Int):=h1;refine yN (yN (yN (Yi (fun h2=>?_) (fun h2=>?_))))
  .have h2:(i.kind:Int)=i.kind/\(i.path:ByteArray)=⟨#[]⟩/\(i.place:Int)=0/\(i.number:Int)=i.number/\(i.left:Int)=0/\(i.right:Int)=0/\True:=h2;refine Yi (fun h3=>?_) (fun h3=>?_)
   .have h3:(i.number:Int)<(0:Int):=h3;refine cU [] [] Tv Tv ?_
    exact GC (show AM x roots d i=none by rw[qd h1,AX ⟨h2.2.1,h2.2.2.1,h2.2.2.2.2.1,h2.2.2.2.2.2.1⟩];rw[Py h3];rfl) aa0
   have h3:¬((i.number:Int)<(0:Int)):=h3;refine Yi (fun h5=>?_) (fun h5=>?_)
   .have h5:((roots.map Ac).length:Int)<=(i.number:Int):=h5;refine cU [] [] Tv Tv ?_
    exact GC (show AM x roots d i=none by rw[qd h1,AX ⟨h2.2.1,h2.2.2.1,h2.2.2.2.2.1,h2.2.2.2.2.2.1⟩];rw[Pw (by simpa using h5)];rfl) aa0
   have h5:¬(((roots.map Ac).length:Int)<=(i.number:Int)):=h5;have hnq:¬((roots.length:Nat):Int)<=i.number:=by simpa using h5
   refine Al (Px h3 hnq) (fun q tN=>?_);have hq:=tN.1;have hqg:=tN.2.1;have rS:=tN.2.2;refine cU [(1,sl Ac roots),(6,.ref 6 0)] [(6,.cells (AG i))] Z2 Z1 (Xi (Ac q) (Yi (Yi (show(0:Int)<=i.number by omega) (Bk hqg)) (Yi rfl (yN (Xi .pure (Xi _ (Yi (c69 NZ q (vu q rS)) ?_)))))));exact TW (show AM x roots d i=some (GF q) by rw[qd h1,AX ⟨h2.2.1,h2.2.2.1,h2.2.2.2.2.1,h2.2.2.2.2.2.1⟩];rw[hq];rfl) aa0
  have h2:¬((i.kind:Int)=i.kind/\(i.path:ByteArray)=⟨#[]⟩/\(i.place:Int)=0/\(i.number:Int)=i.number/\(i.left:Int)=0/\(i.right:Int)=0/\True):=h2;refine cU [] [] Tv Tv ?_
  exact GC (show AM x roots d i=none by rw[qd h1];exact AI (fun hq=>h2 ⟨rfl,hq.1,hq.2.1,rfl,hq.2.2.1,hq.2.2.2,trivial⟩)) aa0
 have h1:¬((i.kind:Int)=(0:Int)):=h1;refine Yi (fun h9=>?_) (fun h9=>?_)
 .have h9:(i.kind:Int)=(1:Int):=h9;refine yN (yN (yN (Yi aa3 (cU [(4,.ref 4 0),(6,.ref 6 0),(10,.ref 10 0)] [(4,.cells (Ic x ifs)),(6,.cells (AG i)),(10,.cells [vi i.kind,vs i.path,vi i.place,vi i.number,vi 0,vi 0])] Z3 Z3 (yN (AA (Dt (Di x i.path i.place)) (fun JR=>?_) (fun JR=>?_)))))))
  .refine Al JR (fun r JR=>?_);have YT:=zi x ifs i.path i.place hxf hv;rw[JR]at YT;refine Xi .pure (Xi _ (Yi YT (yN (cU [(6,.ref 6 0),(10,.ref 10 0),(11,.ref 11 0),(12,vb true)] [(6,.cells (AG i)),(10,.cells [vi i.kind,vs i.path,vi i.place,vi i.number,vi 0,vi 0]),(11,.cells (Am r))] Z4 Z3 (yN (yN (Yi (fun Jr=>?_) (fun Jr=>?_))))))))
   .have Jr:(i.kind:Int)=i.kind/\(i.path:ByteArray)=i.path/\(i.place:Int)=i.place/\(i.number:Int)=i.number/\(i.left:Int)=0/\(i.right:Int)=0/\True:=Jr;refine Yi (fun N7=>?_) (fun N7=>?_)
    .have N7:(i.number:Int)<(0:Int):=N7;refine cU [] [] Tv Tv ?_
     exact GC (show AM x roots d i=none by grind [bU,Py]) aa0
    have N7:¬((i.number:Int)<(0:Int)):=N7;refine Yi (fun N8=>?_) (fun N8=>?_)
    .have N8:((r.reqs.map Ac).length:Int)<=(i.number:Int):=N8;refine cU [] [] Tv Tv ?_
     exact GC (show AM x roots d i=none by grind [bU,Pw]) aa0
    have N8:¬(((r.reqs.map Ac).length:Int)<=(i.number:Int)):=N8;have hnq:¬((r.reqs.length:Nat):Int)<=i.number:=by simp_all
    refine Al (Px N7 hnq) (fun q tN=>?_);have hq:=tN.1;have hqg:=tN.2.1;have rS:=tN.2.2;have od:=uv JR;have hpr:=Sw r.ver;rw[od.2]at hpr;have hqF:BL q.set:=(hxq r od.1 q rS);have AbQ:PC 156 [vs i.path,vi i.place,.agg (Ac q)] (sl Ad (BJ i.path i.place q)):=by
     grind [qM,c71,NZ]
    refine cU [(6,.ref 6 0),(11,.ref 11 0)] [(6,.cells (AG i)),(11,.cells (Am r))] Z2 Z2 (Xi (Ac q) (Yi (Yi (show(0:Int)<=i.number by omega) (Bk hqg)) (Yi rfl (yN (Xi _ (Yi AbQ (Yi aa3 (cU [(13,sl Ad (BJ i.path i.place q))] [] Z1 Tv (Yi (fun Sg=>?_) (fun Sg=>?_))))))))))
    .have Sg:(0:Int)<(((BJ i.path i.place q).map Ad).length:Int):=Sg;have n16:0<(BJ i.path i.place q).length:=by simp_all
     have g16:(BJ i.path i.place q)[0]?=some (BJ i.path i.place q)[0]:=Ge n16;exact TW (show AM x roots d i=some (BJ i.path i.place q) by grind [bU,Oo]) aa0
    have Sg:¬((0:Int)<(((BJ i.path i.place q).map Ad).length:Int)):=Sg;have n16:¬0<(BJ i.path i.place q).length:=by simp_all
    have e0:BJ i.path i.place q=[]:=Aw aa0;have e1:AM x roots d i=none:=by grind [bU,Oo]
    exact Zj e1 aa0 e0
   have Jr:¬((i.kind:Int)=i.kind/\(i.path:ByteArray)=i.path/\(i.place:Int)=i.place/\(i.number:Int)=i.number/\(i.left:Int)=0/\(i.right:Int)=0/\True):=Jr;refine cU [] [] Tv Tv ?_
   exact GC (show AM x roots d i=none by grind [bU]) aa0
  have YT:=zi x ifs i.path i.place hxf hv;rw[JR]at YT;refine Xi .pure (Xi _ (Yi YT (yN (cU [(6,.ref 6 0),(10,.ref 10 0),(11,.ref 11 0),(12,vb false)] [(6,.cells (AG i)),(10,.cells [vi i.kind,vs i.path,vi i.place,vi i.number,vi 0,vi 0]),(11,.cells [vs ⟨#[]⟩,vi 0,vi 0,vi 0,nzA,vs ⟨#[]⟩,vs ⟨#[]⟩,vs ⟨#[]⟩,vb false])] Z4 Z3 (yN (yN (Yi (fun gA=>?_) (fun gA=>?_))))))))
  .have gA:(i.kind:Int)=i.kind/\(i.path:ByteArray)=i.path/\(i.place:Int)=i.place/\(i.number:Int)=i.number/\(i.left:Int)=0/\(i.right:Int)=0/\True:=gA;refine cU [] [] Tv Tv ?_
   exact GC (show AM x roots d i=none by grind [bU]) aa0
  have gA:¬((i.kind:Int)=i.kind/\(i.path:ByteArray)=i.path/\(i.place:Int)=i.place/\(i.number:Int)=i.number/\(i.left:Int)=0/\(i.right:Int)=0/\True):=gA;refine cU [] [] Tv Tv ?_
  exact GC (show AM x roots d i=none by grind [bU]) aa0
 have h9:¬((i.kind:Int)=(1:Int)):=h9;refine Yi (fun pv=>?_) (fun pv=>?_)
 .have pv:(i.kind:Int)=(2:Int):=pv;refine yN (cU [(4,.ref 4 0),(6,.ref 6 0),(10,.ref 10 0)] [(4,.cells (Ic x ifs)),(6,.cells (AG i)),(10,.cells [vi i.kind,vs i.path,vi 0,vi 0,vi 0,vi 0])] Z3 Z3 (yN (Xi _ (Yi (c73 x ifs i.path hx) (Xi _ (Yi (c72 NZ i.path (A4 x i.path) (OT _)) (yN (yN (Yi (fun jt=>?_) (fun jt=>?_))))))))))
  .have jt:(i.kind:Int)=i.kind/\(i.path:ByteArray)=i.path/\(i.place:Int)=0/\(i.number:Int)=0/\(i.left:Int)=0/\(i.right:Int)=0/\True:=jt;refine Yi aa3 ?_;exact qe pv (show AM x roots d i=some (D6 i.path (A4 x i.path)) by grind [t6,ui,qw,Fb])
  have jt:¬((i.kind:Int)=i.kind/\(i.path:ByteArray)=i.path/\(i.place:Int)=0/\(i.number:Int)=0/\(i.left:Int)=0/\(i.right:Int)=0/\True):=jt;refine Yi aa3 ?_;exact t7 pv aa2 (show AM x roots d i=none by grind [t6])
 have pv:¬((i.kind:Int)=(2:Int)):=pv;refine Yi (fun Qp=>?_) (fun Qp=>?_)
 .have Qp:(i.kind:Int)=(3:Int):=Qp;refine yN (yN (yN (Yi aa3 (cU [(3,sl Aq d),(6,.ref 6 0),(10,.ref 10 0)] [(6,.cells (AG i)),(10,.cells [vi i.kind,vs i.path,vi 0,vi 0,vi i.left,vi i.right])] Z3 Z2 (yN (yN (Yi (fun kW=>?_) (fun kW=>?_))))))))
  .have kW:(i.kind:Int)=i.kind/\(i.path:ByteArray)=i.path/\(i.place:Int)=0/\(i.number:Int)=0/\(i.left:Int)=i.left/\(i.right:Int)=i.right/\True:=kW;refine Yi (fun dG=>?_) (fun dG=>?_)
   .have dG:(i.left:Int)<(0:Int):=dG;refine cU [] [] Tv Tv ?_
    exact GC (show AM x roots d i=none by grind [bV,Py]) aa0
   have dG:¬((i.left:Int)<(0:Int)):=dG;refine Yi (fun kX=>?_) (fun kX=>?_)
   .have kX:((d.map Aq).length:Int)<=(i.left:Int):=kX;refine cU [] [] Tv Tv ?_
    exact GC (show AM x roots d i=none by grind [bV,Pw]) aa0
   have kX:¬(((d.map Aq).length:Int)<=(i.left:Int)):=kX;have tC:¬((d.length:Nat):Int)<=i.left:=by simp_all
   refine Al (Px dG tC) (fun ta bS=>?_);have hta:=bS.1;have tT:=bS.2.1;have pZ:=bS.2.2;refine Yi (fun u6=>?_) (fun u6=>?_)
   .have u6:(i.right:Int)<(0:Int):=u6;refine cU [] [] Tv Tv ?_
    exact GC (show AM x roots d i=none by grind [bV,Py]) aa0
   have u6:¬((i.right:Int)<(0:Int)):=u6;refine Yi (fun gC=>?_) (fun gC=>?_)
   .have gC:((d.map Aq).length:Int)<=(i.right:Int):=gC;refine cU [] [] Tv Tv ?_
    exact GC (show AM x roots d i=none by grind [bV,Pw]) aa0
   have gC:¬(((d.map Aq).length:Int)<=(i.right:Int)):=gC;have Acl:¬((d.length:Nat):Int)<=i.right:=by simp_all
   refine Al (Px u6 Acl) (fun tb tU=>?_);have htb:=tU.1;have AcL:=tU.2.1;have AcM:=tU.2.2;refine cU [(3,sl Aq d),(6,.ref 6 0)] [(6,.cells (AG i))] Z2 Z1 (Xi (Aq ta) (Yi (Yi (show(0:Int)<=i.left by omega) (Bk tT)) (Yi rfl (Xi (Aq tb) (Yi (Yi (show(0:Int)<=i.right by omega) (Bk AcL)) (Yi rfl (Xi _ (Yi (c74 ta tb i.path (xA ta pZ) (xA tb AcM)) (Yi aa3 (cU [(15,sl Ad ((AQ ta tb i.path).1)),(16,vi ((AQ ta tb i.path).2))] [] Z2 Tv (Yi (fun ju=>?_) (fun ju=>?_))))))))))))
   .have ju:((AQ ta tb i.path).2:Int)=(0:Int):=ju;exact TW (show AM x roots d i=some (AQ ta tb i.path).1 by grind [bV]) aa0
   have ju:¬(((AQ ta tb i.path).2:Int)=(0:Int)):=ju;exact Zj (show AM x roots d i=none by grind [bV]) aa0 (eP ju)
  have kW:¬((i.kind:Int)=i.kind/\(i.path:ByteArray)=i.path/\(i.place:Int)=0/\(i.number:Int)=0/\(i.left:Int)=i.left/\(i.right:Int)=i.right/\True):=kW;refine cU [] [] Tv Tv ?_
  exact GC (show AM x roots d i=none by grind [bV]) aa0
 have Qp:¬((i.kind:Int)=(3:Int)):=Qp;refine cU [] [] Tv Tv ?_
 exact GC (show AM x roots d i=none by grind [AcS]) aa0
end
abbrev pd:AV:=.tup [sl Aq (AZ x roots l).1,vi (AZ x roots l).2]
theorem Xd{x:List Rl}{roots:List Rq}{l:List Nf}(h:AZ x roots l=([],e)):Ea (.tup [nzA,vi e]) (pd x roots l):=
 (show Ea (.tup [nzA,vi e]) (.tup [.slice .none [],vi e])from Ea.tup ⟨.nil,.refl _,trivial⟩).trans (.of_eq (show AV.tup [.slice .none [],vi e]=pd x roots l by simp_all))
theorem Lh:AZ x roots l=if Av x≠0\/AL roots≠0 then([],(1:Int))else if 65536<l.length then([],(7:Int))else match BH x roots l []with | none=>([],(18:Int)) | some d=>(d,(0:Int)):=rfl
theorem O3{x:List Rl}{roots:List Rq}{l:List Nf}:∀t∈(AZ x roots l).1,PT t:=by
 grind [Rp,bt]
theorem dq{a b:Int}(h:(decide (a=0)&&decide (b=0))=true):a=0/\b=0:=by simp_all
theorem c13(hx:∀r∈x,E4 r)(hr:∀q∈roots,HP q):PC 54 [.agg (Ic x ifs),sl Ac roots,sl AG l] (pd x roots l):=by
 refine Ps (pC [] [3,8,10]) Tryz.func54 rfl (Nz rfl) (yN (AA (Bt (decide (Av x=0)&&decide (AL roots=0))) (fun h1=>?_) (fun h1=>?_)))
 .have h1:(decide (Av x=0)&&decide (AL roots=0))=true:=h1;have Pf:=zg x ifs roots hx hr;rw[show(decide (Av x=0)&&decide (AL roots=0))=true from h1]at Pf;refine Xi .pure (Xi _ (Yi Pf (cU [(1,sl Ac roots),(2,sl AG l),(3,.ref 3 0)] [(3,.cells (Ic x ifs))] Z3 Z1 (Yi (fun h3=>?_) (fun h3=>?_)))))
  .have h3:(65536:Int)<((l.map AG).length:Int):=h3;have n3:65536<l.length:=by grind
   exact Xd (by grind [Lh])
  have h3:¬((65536:Int)<((l.map AG).length:Int)):=h3;have n3:¬65536<l.length:=by grind
  have hb3:l.length<=65536:=by omega
  have e0:Av x=0:=(dq h1).1;have hU:=Lx (x:=x) (roots:=roots) (l:=l) e0 (dq h1).2 hb3;refine Xi {q:Nat×List (List Tm) // q.1<=l.length/\BH x roots (l.take q.1) []=some q.2/\q.2.length=q.1/\∀t∈q.2,PU (Hc x roots l) t} (Xi (fun q=>⟨[(1,sl Ac roots),(2,sl AG l),(3,.ref 3 0),(8,.slice (.id 19 1) (q.1.2.map Aq)),(9,vi q.1.1)],[(3,.cells (Ic x ifs)),(19,.tok 1 q.1.2.length)],Ae⟩) (Xi (fun q=>l.length-q.1.1) (Yi (Xi ⟨(0,[]),Ap _,rfl,rfl,fun t ht=>by cases ht⟩ ?_) ?_)))
  .exact⟨Z5,Z2,Fh,Tv⟩
  intro⟨⟨i,D⟩,i1,i2,i3,i4⟩;have i1:i<=l.length:=i1;have i2:BH x roots (l.take i) []=some D:=i2;have i3:D.length=i:=i3;have i4:∀t∈D,PU (Hc x roots l) t:=i4;refine Yi (fun h5=>?_) (fun h5=>?_)
  .have h5:(i:Int)<((l.map AG).length:Int):=h5;have n5:i<l.length:=by simp_all
   have g5:l[i]?=some l[i]:=Ge n5;refine yN (Xi (AG l[i]) (Yi (Yi (Nn i) (Bk g5)) (Yi rfl (yN (AA (Bt (AM x roots D l[i]).isSome) (fun h6=>?_) (fun h6=>?_))))))
   .have h6:(AM x roots D l[i]).isSome=true:=h6;have rE:=(show PC 103 [Il x ifs,sl Ac roots,.agg (AG l[i]),sl Aq D] (.tup [sl Ad (FR x roots D l[i]),vb (AM x roots D l[i]).isSome])from c38 x ifs roots D l[i] e0 hx (fun q hq=>(hr q hq).1) (fun t ht=>(i4 t ht).fewI hU));rw[show(AM x roots D l[i]).isSome=true from h6]at rE;refine Xi _ (Yi rE (Yi aa3 (cU [(1,sl Ac roots),(2,sl AG l),(3,.ref 3 0),(8,.slice (.id 19 1) (D.map Aq)),(9,vi i),(10,sl Ad (FR x roots D l[i])),(11,vb true)] [(3,.cells (Ic x ifs)),(19,.tok 1 D.length)] Z7 Z2 ?_)))
    have b8:A7 1 [[sl Ad (FR x roots D l[i])]]/\(D.map Aq).length=D.length/\((D.map Aq).length+([[sl Ad (FR x roots D l[i])]]:List (List AV)).length)*24<=140737488355328/\(D.map Aq).length+([[sl Ad (FR x roots D l[i])]]:List (List AV)).length<=9223372036854775807:=⟨⟨rfl,trivial⟩,aa1,(by grind),(by grind)⟩;refine Yi b8 (cU [(1,sl Ac roots),(2,sl AG l),(3,.ref 3 0),(8,.slice (.id 19 1) ((D.map Aq)++[[sl Ad (FR x roots D l[i])]])),(9,vi i)] [(3,.cells (Ic x ifs)),(19,.tok 1 ((D.map Aq).length+([[sl Ad (FR x roots D l[i])]]:List (List AV)).length))] Z5 Z2 (Yi (by grind [As]) (Al (Option.isSome_iff_exists.1 h6) (fun t ht=>?_))));have etl:=gW ht;have rL:=Xq n5 i2;rw[ht]at rL;refine Xi ⟨(i+1,(D++[t])),by omega,rL,by simp_all,fun u hu=>(Bc.1 hu).elim (i4 u) (fun hu=>by rw[AD.1 hu];exact M5 (Ak n5) i4 ht)⟩ ?_;exact⟨Dl l.length i aa0,⟨Zr,Zr,Zr,⟨(show AV.slice (.id 19 1) (D.map Aq++[[sl Ad (FR x roots D l[i])]])=.slice (.id 19 1) ((D++[t]).map Aq) by simp_all),rfl⟩,Zr,Tv⟩,⟨Zr,⟨(show HO.tok 1 ((D.map Aq).length+([[sl Ad (FR x roots D l[i])]]:List (List AV)).length)=.tok 1 (D++[t]).length by simp_all),rfl⟩,Tv⟩,Fh,Tv⟩
   have h6:(AM x roots D l[i]).isSome=false:=h6;have YT:=(show PC 103 [Il x ifs,sl Ac roots,.agg (AG l[i]),sl Aq D] (.tup [sl Ad (FR x roots D l[i]),vb (AM x roots D l[i]).isSome])from c38 x ifs roots D l[i] e0 hx (fun q hq=>(hr q hq).1) (fun t ht=>(i4 t ht).fewI hU));rw[show(AM x roots D l[i]).isSome=false from h6]at YT;refine Xi _ (Yi YT (Yi aa3 (cU [(1,sl Ac roots),(2,sl AG l),(3,.ref 3 0),(8,.slice (.id 19 1) (D.map Aq)),(9,vi i),(10,sl Ad (FR x roots D l[i])),(11,vb false)] [(3,.cells (Ic x ifs)),(19,.tok 1 D.length)] Z7 Z2 ?_)))
   have rL:=Xq n5 i2;rw[show AM x roots D l[i]=none from Option.not_isSome_iff_eq_none.1 (by simp_all)]at rL;exact Xd (by grind [Lh,dF])
  have h5:¬((i:Int)<((l.map AG).length:Int)):=h5;have n5:¬i<l.length:=by simp_all
  rw[Bd aa0]at i2;exact .of_eq (show AV.tup [sl Aq D,vi 0]=pd x roots l by grind [Lh])
 have h1:(decide (Av x=0)&&decide (AL roots=0))=false:=h1;have Pe:=zg x ifs roots hx hr;rw[show(decide (Av x=0)&&decide (AL roots=0))=false from h1]at Pe;refine Xi .pure (Xi _ (Yi Pe ?_));exact Xd (by grind [Lh])
theorem c16(hx:∀r∈x,E4 r)(hr:∀q∈roots,HP q):PC 55 [.agg (Ic x ifs),sl Ac roots,sl AG l] (vi (Gk x roots l)):=by
 have hdl:=Tb (x:=x) (roots:=roots) (l:=l);have hdm:((AZ x roots l).1.map Aq).length<=65536:=by simp_all
 refine Ps (pC [] [2,5,6]) Tryz.func55 rfl (Nz rfl) (yN (Xi .pure (Xi _ (Yi (c13 x ifs roots l hx hr) (cU [(7,sl Aq (AZ x roots l).1),(8,vi (AZ x roots l).2)] [] Z2 Tv (Yi (fun h1=>?_) (fun h1=>?_)))))))
 .have h1:((AZ x roots l).2:Int)≠(0:Int):=h1;exact .of_eq (Aa vi (show(AZ x roots l).2=Gk x roots l by grind [Gk]))
 have h1:((AZ x roots l).2:Int)=(0:Int):=A9 h1;refine Yi (fun h3=>?_) (fun h3=>?_)
 .have h3:(((AZ x roots l).1.map Aq).length:Int)=(0:Int):=h3;refine cU [] [] Tv Tv ?_
  have xW:(AZ x roots l).1=[]:=Aw (by simp_all);exact .of_eq (Aa vi (show(18:Int)=Gk x roots l by grind [Gk,EP]))
 have h3:¬((((AZ x roots l).1.map Aq).length:Int)=(0:Int)):=h3;have D8:(AZ x roots l).1≠[]:=fun e=>by simp_all
 refine Al (show ∃a t,(AZ x roots l).1=a++[t]from⟨_,_,(List.dropLast_concat_getLast D8).symm⟩) (fun a Oa=>?_);refine Al Oa (fun t Oa=>?_);have hlz:(((AZ x roots l).1.map Aq).length:Int)=(a.length:Int)+1:=by simp_all
 have hgz:(AZ x roots l).1[((((AZ x roots l).1.map Aq).length:Int)-1).toNat]?=some t:=by
  simp_all
 refine Yi (by show As ((((AZ x roots l).1.map Aq).length:Int)-(1:Int));unfold As;omega) ?_;refine Xi (Aq t) (Yi (Yi (show(0:Int)<=(((AZ x roots l).1.map Aq).length:Int)-1 by omega) (Bk hgz)) (Yi rfl ?_));refine Yi (fun h5=>?_) (fun h5=>?_)
 .have h5:(0:Int)<((t.map Ad).length:Int):=h5;have n5:0<t.length:=by simp_all
  refine cU [] [] Tv Tv ?_;refine Al (show ∃u m,t=u::m by cases t<;>simp_all) (fun u hu=>?_)
  refine Al hu (fun m hu=>?_);exact .of_eq (Aa vi (show(18:Int)=Gk x roots l by unfold Gk;rw[AI (Mf h1),show EP (AZ x roots l).1=false by rw[Oa,hu];unfold EP;simp_all];rfl))
 have h5:¬((0:Int)<((t.map Ad).length:Int)):=h5;have n5:¬0<t.length:=by simp_all
 refine cU [] [] Tv Tv ?_
 have htn:t=[]:=Aw aa0;exact .of_eq (Aa vi (show(0:Int)=Gk x roots l by unfold Gk;rw[AI (Mf h1),show EP (AZ x roots l).1=true by rw[Oa,htn];unfold EP;simp_all];rfl))
end Go.Eng
