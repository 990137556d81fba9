/- Lemmas 23. -/
import Derived.Test.YtkjhcikodmiceaaGreatDoorVA22
set_option maxHeartbeats 4000000
namespace Go.Eng
open Go.Proofs Go.Proofs.Tryz
variable {p:CS}{α:Type}{f:α->List AV}{a b:List Tm}{O:List α}{args:List AV}{i n:Nat}{e:Int}{t:Tm}(x:List Rl)(ifs:C0)(roots:List Rq)(l:List Nf)
theorem CO(o:Option α):(∃x,o=some x)\/o=none:=by
 cases o<;>simp_all
theorem DF(l:List Tm):(BU l).length<=l.length:=by
 grind [BU,A7,UE,List.take_length]
theorem SX(l:List Tm):∀t∈BU l,Eo t.set:=fun t ht=>by
 grind [BU,A7,DL,BN.canon]
theorem Ho(h:(A7 a).isSome=false):DS a p=none:=by
 grind [DS]
theorem JU(hf:(BU a).find? (fun t=>decide (t.path=p))=none):DS a p=none:=by
 grind [DS,BU,Dp]
theorem Fw(h:(A7 a).isSome=true)(hf:(BU a).find? (fun t=>decide (t.path=p))=some t):DS a p=some (t,AI (BU a) p):=by
 grind [DS,BU,Dp]
theorem Ht(h:DS a p=none):AU a b p=([],1):=by grind [AU]
theorem Yr(h:DS b p=none):AU a b p=([],1):=by
 grind [AU]
abbrev E0(a b:List Tm)(p:CS)(t u:Tm):List Tm:=AI (BU a) p++AI (BU b) p++[CJ t u]
theorem ND{u:Tm}(h:DS a p=some (t,AI (BU a) p))(k:DS b p=some (u,AI (BU b) p)):AU a b p=if(A7 (E0 a b p t u)).isSome then(BU (E0 a b p t u),0)else([],8):=by
 grind [AU,BU]
abbrev Yq(a b:List Tm)(p:CS):AV:=.tup [sl Ac (AU a b p).1,vi (AU a b p).2]
theorem Fj(h:AU a b p=([],e)):Cj (.tup [nzA,vi e]) (Yq a b p):=
 (show Cj (.tup [nzA,vi e]) (.tup [.slice .none [],vi e])from Cj.tup ⟨.nil,.refl _,trivial⟩).trans (.of_eq (show AV.tup [.slice .none [],vi e]=Yq a b p by simp_all))
theorem KI{t:List Tm}(h:Vw t):BO t:=by omega
theorem kN(l:List Tm)(hl:BO l)(p:CS):Bg Tryz.prog 310 [sl Ac l,vs p] (Ai [] Af) fun r h'=>r=.slice (.id 2000 3) ((l.filter fun t=>!decide (t.path=p)).map Ac)/\h'=Ai [(2000,.tok 3 ((l.filter fun t=>!decide (t.path=p)).map Ac).length)] Af:=by
 have hl:l.length<=1073741824:=hl;refine Bj (I9 (pC [] [4])) [(7,2000)] rfl BI hm rfl func310 aa2 rfl (Nz rfl) aa2 rfl (Xi {q:Nat×List Tm // q.1<=l.length/\q.2=(l.take q.1).filter fun t=>!decide (t.path=p)} (Xi (fun q=>⟨[(0,sl Ac l),(1,vs p),(5,.slice (.id 7 3) (q.1.2.map Ac)),(6,vi q.1.1)],[(7,.tok 3 q.1.2.length)],Af⟩) (Xi (fun q=>l.length-q.1.1) (Yi (Xi ⟨(0,[]),Al _,rfl⟩ ?_) ?_))))
 .exact⟨Z4,Z1,Fh,Bn aa2⟩
 intro⟨⟨i,A⟩,i1,i2⟩;have i1:i<=l.length:=i1;have i2:A=(l.take i).filter fun t=>!decide (t.path=p):=i2;have hA:A.length<=i:=by
  grind
 refine Yi (fun h1=>?_) (fun h1=>?_)
 .have h1:(i:Int)<((l.map Ac).length:Int):=h1;have n1:i<l.length:=by simp_all
  have g1:l[i]?=some l[i]:=Ge n1;refine Xi (Ac l[i]) (Yi (Yi (Nn i) (Bq g1)) (Yi rfl (Yi (fun h3=>?_) (fun h3=>?_))))
  .have h3:(l[i].path:CS)≠p:=h3;refine Xi (Ac l[i]) (Yi (Yi (Nn i) (Bq g1)) (Yi rfl (yN ?_)));have b4:Bh 3 [(Ac l[i])]/\(A.map Ac).length=A.length/\((A.map Ac).length+([(Ac l[i])]:C0).length)*48<=140737488355328/\(A.map Ac).length+([(Ac l[i])]:C0).length<=9223372036854775807:=⟨⟨rfl,trivial⟩,aa0,(by grind),(by grind)⟩;refine Yi b4 (cU [(0,sl Ac l),(1,vs p),(5,.slice (.id 7 3) ((A.map Ac)++[(Ac l[i])])),(6,vi i)] [(7,.tok 3 ((A.map Ac).length+([(Ac l[i])]:C0).length))] Z4 Z1 (Yi (by grind [Au]) (Xi ⟨(i+1,(A++[l[i]])),by omega,by show(A++[l[i]])=(l.take (i+1)).filter _;rw[Dm,Ge n1,HL,<-i2];simp_all⟩ ?_)));exact⟨Dl l.length i Wk,⟨Zr,Zr,⟨(show AV.slice (.id 7 3) (A.map Ac++[Ac l[i]])=.slice (.id 7 3) ((A++[l[i]]).map Ac) by simp),rfl⟩,Zr,Tv⟩,⟨⟨(show HO.tok 3 ((A.map Ac).length+[Ac l[i]].length)=.tok 3 (A++[l[i]]).length by simp),rfl⟩,Tv⟩,Fh,Bn aa2⟩
  have h3:(l[i].path:CS)=p:=Aw h3;refine cU [(0,sl Ac l),(1,vs p),(5,.slice (.id 7 3) (A.map Ac)),(6,vi i)] [(7,.tok 3 A.length)] Z4 Z1 (Yi (by grind [Au]) (Xi ⟨(i+1,A),by omega,by grind [List.take_add_one]⟩ ?_));exact⟨Dl l.length i Wk,Z4,Z1,Fh,Bn aa2⟩
 have h1:¬((i:Int)<((l.map Ac).length:Int)):=h1;have n1:¬i<l.length:=by simp_all
 have eA:A=l.filter (fun t=>!decide (t.path=p)):=by grind
 exact C2 (.refl _) (Yi (Aa (fun B:List Tm=>AV.slice (.id 2000 3) (B.map Ac)) eA) (show Ai [(2000,HO.tok 3 A.length)] Af=Ai [(2000,HO.tok 3 ((l.filter fun t=>!decide (t.path=p)).map Ac).length)] Af by simp_all))
theorem c74(a b:List Tm)(p:CS)(ha:Vw a)(hb:Vw b):PC 248 [sl Ac a,sl Ac b,vs p] (Yq a b p):=by
 have ha1:=ha.1;have hb1:=hb.1;refine Ps ⟨[],[],[],[],[],[],[],[],[(71,3)],[],[3,5,6,7,8,9]⟩ func248 rfl (Nz rfl) (Ax (Bt ((A7 a).isSome)) (fun h1=>?_) (fun h1=>?_))
 .have h1:((A7 a).isSome)=true:=h1;have WA:=(show PC 307 [sl Ac a] (.tup [sl Ac (BU a),vb (A7 a).isSome])from Od a (KI ha) ha.2);rw[show(A7 a).isSome=true from h1]at WA;refine C1 (C2 WA (Ax (Bt ((A7 b).isSome)) (fun h3=>?_) (fun h3=>?_)))
  .have h3:((A7 b).isSome)=true:=h3;have fg:=(show PC 307 [sl Ac b] (.tup [sl Ac (BU b),vb (A7 b).isSome])from Od b (KI hb) hb.2);rw[show(A7 b).isSome=true from h3]at fg;refine C1 (C2 fg (cU [(2,vs p),(8,sl Ac (BU a)),(9,vb true),(10,sl Ac (BU b)),(11,vb true)] [] Z5 Tv (Ax (CO ((BU a).find? (fun t=>decide (t.path=p)))) (fun h5=>?_) (fun h5=>?_))))
   .refine Ao h5 (fun t h5=>?_);have Ua:=Jl (BU a) (by grind [DF]) p;rw[h5]at Ua;refine C1 (C2 Ua (yN (Ax (CO ((BU b).find? (fun t=>decide (t.path=p)))) (fun h6=>?_) (fun h6=>?_))))
    .refine Ao h6 (fun u h6=>?_);have Ub:=Jl (BU b) (by grind [DF]) p;rw[h6]at Ub;refine C1 (C2 Ub (yN (cU [(2,vs p),(8,sl Ac (BU a)),(9,vb true),(10,sl Ac (BU b)),(11,vb true),(12,.ref 12 0),(13,vb true),(14,.ref 14 0),(15,vb true)] [(12,.cells (Ac t)),(14,.cells (Ac u))] Z9 Z2 (cU [(2,vs p),(8,sl Ac (BU a)),(10,sl Ac (BU b)),(12,.ref 12 0),(14,.ref 14 0)] [(12,.cells (Ac t)),(14,.cells (Ac u))] Z5 Z2 ?_))))
     have wC:t∈BU a:=Br h5;have hum:u∈BU b:=Br h6;have htp:t.path=p:=by grind
     have htc:=SX a t wC;have huc:=SX b u hum;have hUf:BO [t.set,u.set].flatten:=by
      grind [E6]
     have hla:=DF a;have hlb:=DF b;have hwa:(AI (BU a) p).length<=(BU a).length:=Fb ..;have hwb:(AI (BU b) p).length<=(BU b).length:=Fb ..;have ha1:=ha.1;have hb1:=hb.1;have wi:BO (E0 a b p t u):=by grind
     have wj:∀x∈E0 a b p t u,BO x.set:=fun x hx=>by
      rcases Bi.1 hx with hx | hx
      .rcases Bi.1 hx with hx | hx
       .exact IB (SX a x (Cr.1 hx).1)
       .exact IB (SX b x (Cr.1 hx).1)
      .rw[AJ.1 hx];exact IB (t:=CJ t u) (LQ [t.set,u.set])
     refine Yi (fun h7=>?_) (fun h7=>?_)
     .have h7:t.absent=true:=h7;refine C2 (pp [t.set,u.set] (by simp_all) hUf) ?_;refine yN (Yi aa2 (cU [(2,vs p),(8,sl Ac (BU a)),(10,sl Ac (BU b)),(16,.ref 16 0)] [(16,.cells [vs p,vb true,sl Ab (EY t.set u.set)])] Z4 Z1 (Xi _ (C2 aa2 (Yi (kN (BU a) Wk p) (C2 (tA (BU b) Wk p) ?_))))));have b8:Bh 3 ((AI (BU b) p).map Ac)/\((AI (BU a) p).map Ac).length=((AI (BU a) p).map Ac).length/\(((AI (BU a) p).map Ac).length+((AI (BU b) p).map Ac).length)*48<=140737488355328/\((AI (BU a) p).map Ac).length+((AI (BU b) p).map Ac).length<=9223372036854775807:=⟨(Cm (enc:=Ac) (n:=3) (fun _=>rfl) (AI (BU b) p)),rfl,(by grind),(by grind)⟩;refine Yi b8 (yN ?_);have b9:Bh 3 [[vs p,vb true,sl Ab (EY t.set u.set)]]/\((((AI (BU a) p).map Ac)++((AI (BU b) p).map Ac)):C0).length=(((AI (BU a) p).map Ac).length+((AI (BU b) p).map Ac).length)/\(((((AI (BU a) p).map Ac)++((AI (BU b) p).map Ac)):C0).length+([[vs p,vb true,sl Ab (EY t.set u.set)]]:C0).length)*48<=140737488355328/\((((AI (BU a) p).map Ac)++((AI (BU b) p).map Ac)):C0).length+([[vs p,vb true,sl Ab (EY t.set u.set)]]:C0).length<=9223372036854775807:=⟨⟨rfl,trivial⟩,aa0,(by grind),(by grind)⟩;refine Yi b9 ?_;have eL:((((AI (BU a) p).map Ac)++((AI (BU b) p).map Ac))++[[vs p,vb true,sl Ab (EY t.set u.set)]])=(E0 a b p t u).map Ac:=by
       have e1:Ac (CJ t u)=[vs p,vb (t.absent||u.absent),sl Ab (EY t.set u.set)]:=by rw[<-htp];rfl
       simp_all
      refine Ax (Bt ((A7 (E0 a b p t u)).isSome)) (fun HQ=>?_) (fun HQ=>?_)
      .have HQ:((A7 (E0 a b p t u)).isSome)=true:=HQ;have T9:=(show PC 307 [.slice .none (((((AI (BU a) p).map Ac)++((AI (BU b) p).map Ac))++[[vs p,vb true,sl Ab (EY t.set u.set)]]))] (.tup [sl Ac (BU (E0 a b p t u)),vb (A7 (E0 a b p t u)).isSome])from by rw[eL];exact Od (E0 a b p t u) wi wj);rw[show(A7 (E0 a b p t u)).isSome=true from HQ]at T9;refine C2 T9 (Yi aa2 (cU [(9,vb true),(17,sl Ac (BU (E0 a b p t u)))] [] Z2 Tv ?_))
       exact .of_eq (show AV.tup [sl Ac (BU (E0 a b p t u)),vi 0]=Yq a b p by unfold Yq;rw[(ND (Fw h1 h5) (Fw h3 h6)).trans (A3 HQ)])
      have HQ:((A7 (E0 a b p t u)).isSome)=false:=HQ;have PH:=(show PC 307 [.slice .none (((((AI (BU a) p).map Ac)++((AI (BU b) p).map Ac))++[[vs p,vb true,sl Ab (EY t.set u.set)]]))] (.tup [sl Ac (BU (E0 a b p t u)),vb (A7 (E0 a b p t u)).isSome])from by rw[eL];exact Od (E0 a b p t u) wi wj);rw[show(A7 (E0 a b p t u)).isSome=false from HQ]at PH;refine C2 PH (Yi aa2 (cU [(9,vb false),(17,sl Ac (BU (E0 a b p t u)))] [] Z2 Tv ?_))
      exact Fj ((ND (Fw h1 h5) (Fw h3 h6)).trans (AN (by simp_all)))
     have h7:t.absent=false:=h7;refine Yi (fun Hi=>?_) (fun Hi=>?_)
     .have Hi:u.absent=true:=Hi;refine C2 (pp [t.set,u.set] (by simp_all) hUf) ?_;refine yN (Yi aa2 (cU [(2,vs p),(8,sl Ac (BU a)),(10,sl Ac (BU b)),(16,.ref 16 0)] [(16,.cells [vs p,vb true,sl Ab (EY t.set u.set)])] Z4 Z1 (Xi _ (C2 aa2 (Yi (kN (BU a) Wk p) (C2 (tA (BU b) Wk p) ?_))))));have b16:Bh 3 ((AI (BU b) p).map Ac)/\((AI (BU a) p).map Ac).length=((AI (BU a) p).map Ac).length/\(((AI (BU a) p).map Ac).length+((AI (BU b) p).map Ac).length)*48<=140737488355328/\((AI (BU a) p).map Ac).length+((AI (BU b) p).map Ac).length<=9223372036854775807:=⟨(Cm (enc:=Ac) (n:=3) (fun _=>rfl) (AI (BU b) p)),rfl,(by grind),(by grind)⟩;refine Yi b16 (yN ?_);have b17:Bh 3 [[vs p,vb true,sl Ab (EY t.set u.set)]]/\((((AI (BU a) p).map Ac)++((AI (BU b) p).map Ac)):C0).length=(((AI (BU a) p).map Ac).length+((AI (BU b) p).map Ac).length)/\(((((AI (BU a) p).map Ac)++((AI (BU b) p).map Ac)):C0).length+([[vs p,vb true,sl Ab (EY t.set u.set)]]:C0).length)*48<=140737488355328/\((((AI (BU a) p).map Ac)++((AI (BU b) p).map Ac)):C0).length+([[vs p,vb true,sl Ab (EY t.set u.set)]]:C0).length<=9223372036854775807:=⟨⟨rfl,trivial⟩,aa0,(by grind),(by grind)⟩;refine Yi b17 ?_;have eL:((((AI (BU a) p).map Ac)++((AI (BU b) p).map Ac))++[[vs p,vb true,sl Ab (EY t.set u.set)]])=(E0 a b p t u).map Ac:=by
       have e1:Ac (CJ t u)=[vs p,vb (t.absent||u.absent),sl Ab (EY t.set u.set)]:=by rw[<-htp];rfl
       simp_all
      refine Ax (Bt ((A7 (E0 a b p t u)).isSome)) (fun SH=>?_) (fun SH=>?_)
      .have SH:((A7 (E0 a b p t u)).isSome)=true:=SH;have ZK:=(show PC 307 [.slice .none (((((AI (BU a) p).map Ac)++((AI (BU b) p).map Ac))++[[vs p,vb true,sl Ab (EY t.set u.set)]]))] (.tup [sl Ac (BU (E0 a b p t u)),vb (A7 (E0 a b p t u)).isSome])from by rw[eL];exact Od (E0 a b p t u) wi wj);rw[show(A7 (E0 a b p t u)).isSome=true from SH]at ZK;refine C2 ZK (Yi aa2 (cU [(9,vb true),(17,sl Ac (BU (E0 a b p t u)))] [] Z2 Tv ?_))
       exact .of_eq (show AV.tup [sl Ac (BU (E0 a b p t u)),vi 0]=Yq a b p by unfold Yq;rw[(ND (Fw h1 h5) (Fw h3 h6)).trans (A3 SH)])
      have SH:((A7 (E0 a b p t u)).isSome)=false:=SH;have lW:=(show PC 307 [.slice .none (((((AI (BU a) p).map Ac)++((AI (BU b) p).map Ac))++[[vs p,vb true,sl Ab (EY t.set u.set)]]))] (.tup [sl Ac (BU (E0 a b p t u)),vb (A7 (E0 a b p t u)).isSome])from by rw[eL];exact Od (E0 a b p t u) wi wj);rw[show(A7 (E0 a b p t u)).isSome=false from SH]at lW;refine C2 lW (Yi aa2 (cU [(9,vb false),(17,sl Ac (BU (E0 a b p t u)))] [] Z2 Tv ?_))
      exact Fj ((ND (Fw h1 h5) (Fw h3 h6)).trans (AN (by simp_all)))
     have Hi:u.absent=false:=Hi;refine C2 (pp [t.set,u.set] (by simp_all) hUf) ?_;refine yN (Yi aa2 (cU [(2,vs p),(8,sl Ac (BU a)),(10,sl Ac (BU b)),(16,.ref 16 0)] [(16,.cells [vs p,vb false,sl Ab (EY t.set u.set)])] Z4 Z1 (Xi _ (C2 aa2 (Yi (kN (BU a) Wk p) (C2 (tA (BU b) Wk p) ?_))))));have b23:Bh 3 ((AI (BU b) p).map Ac)/\((AI (BU a) p).map Ac).length=((AI (BU a) p).map Ac).length/\(((AI (BU a) p).map Ac).length+((AI (BU b) p).map Ac).length)*48<=140737488355328/\((AI (BU a) p).map Ac).length+((AI (BU b) p).map Ac).length<=9223372036854775807:=⟨(Cm (enc:=Ac) (n:=3) (fun _=>rfl) (AI (BU b) p)),rfl,(by grind),(by grind)⟩;refine Yi b23 (yN ?_);have b24:Bh 3 [[vs p,vb false,sl Ab (EY t.set u.set)]]/\((((AI (BU a) p).map Ac)++((AI (BU b) p).map Ac)):C0).length=(((AI (BU a) p).map Ac).length+((AI (BU b) p).map Ac).length)/\(((((AI (BU a) p).map Ac)++((AI (BU b) p).map Ac)):C0).length+([[vs p,vb false,sl Ab (EY t.set u.set)]]:C0).length)*48<=140737488355328/\((((AI (BU a) p).map Ac)++((AI (BU b) p).map Ac)):C0).length+([[vs p,vb false,sl Ab (EY t.set u.set)]]:C0).length<=9223372036854775807:=⟨⟨rfl,trivial⟩,aa0,(by grind),(by grind)⟩;refine Yi b24 ?_;have eL:((((AI (BU a) p).map Ac)++((AI (BU b) p).map Ac))++[[vs p,vb false,sl Ab (EY t.set u.set)]])=(E0 a b p t u).map Ac:=by
      have e1:Ac (CJ t u)=[vs p,vb (t.absent||u.absent),sl Ab (EY t.set u.set)]:=by rw[<-htp];rfl
      simp_all
     refine Ax (Bt ((A7 (E0 a b p t u)).isSome)) (fun RS=>?_) (fun RS=>?_)
     .have RS:((A7 (E0 a b p t u)).isSome)=true:=RS;have yf:=(show PC 307 [.slice .none (((((AI (BU a) p).map Ac)++((AI (BU b) p).map Ac))++[[vs p,vb false,sl Ab (EY t.set u.set)]]))] (.tup [sl Ac (BU (E0 a b p t u)),vb (A7 (E0 a b p t u)).isSome])from by rw[eL];exact Od (E0 a b p t u) wi wj);rw[show(A7 (E0 a b p t u)).isSome=true from RS]at yf;refine C2 yf (Yi aa2 (cU [(9,vb true),(17,sl Ac (BU (E0 a b p t u)))] [] Z2 Tv ?_))
      exact .of_eq (show AV.tup [sl Ac (BU (E0 a b p t u)),vi 0]=Yq a b p by unfold Yq;rw[(ND (Fw h1 h5) (Fw h3 h6)).trans (A3 RS)])
     have RS:((A7 (E0 a b p t u)).isSome)=false:=RS;have PI:=(show PC 307 [.slice .none (((((AI (BU a) p).map Ac)++((AI (BU b) p).map Ac))++[[vs p,vb false,sl Ab (EY t.set u.set)]]))] (.tup [sl Ac (BU (E0 a b p t u)),vb (A7 (E0 a b p t u)).isSome])from by rw[eL];exact Od (E0 a b p t u) wi wj);rw[show(A7 (E0 a b p t u)).isSome=false from RS]at PI;refine C2 PI (Yi aa2 (cU [(9,vb false),(17,sl Ac (BU (E0 a b p t u)))] [] Z2 Tv ?_))
     exact Fj ((ND (Fw h1 h5) (Fw h3 h6)).trans (AN (by simp_all)))
    have Ub:=Jl (BU b) (by grind [DF]) p;rw[h6]at Ub;refine C1 (C2 Ub (yN (cU [(2,vs p),(8,sl Ac (BU a)),(9,vb true),(10,sl Ac (BU b)),(11,vb true),(12,.ref 12 0),(13,vb true),(14,.ref 14 0),(15,vb false)] [(12,.cells (Ac t)),(14,.cells [vs ⟨#[]⟩,vb false,nzA])] Z9 Z2 (cU [] [] Tv Tv ?_))))
    exact Fj (Yr (JU h6))
   have Ua:=Jl (BU a) (by grind [DF]) p;rw[h5]at Ua;refine C1 (C2 Ua (yN (Ax (CO ((BU b).find? (fun t=>decide (t.path=p)))) (fun XZ=>?_) (fun XZ=>?_))))
   .refine Ao XZ (fun u XZ=>?_);have lY:=Jl (BU b) (by grind [DF]) p;rw[XZ]at lY;refine C1 (C2 lY (yN (cU [(2,vs p),(8,sl Ac (BU a)),(9,vb true),(10,sl Ac (BU b)),(11,vb true),(12,.ref 12 0),(13,vb false),(14,.ref 14 0),(15,vb true)] [(12,.cells [vs ⟨#[]⟩,vb false,nzA]),(14,.cells (Ac u))] Z9 Z2 (cU [] [] Tv Tv ?_))))
    exact Fj (Ht (JU h5))
   have lY:=Jl (BU b) (by grind [DF]) p;rw[XZ]at lY;refine C1 (C2 lY (yN (cU [(2,vs p),(8,sl Ac (BU a)),(9,vb true),(10,sl Ac (BU b)),(11,vb true),(12,.ref 12 0),(13,vb false),(14,.ref 14 0),(15,vb false)] [(12,.cells [vs ⟨#[]⟩,vb false,nzA]),(14,.cells [vs ⟨#[]⟩,vb false,nzA])] Z9 Z2 (cU [] [] Tv Tv ?_))))
   exact Fj (Ht (JU h5))
  have h3:((A7 b).isSome)=false:=h3;have yk:=(show PC 307 [sl Ac b] (.tup [sl Ac (BU b),vb (A7 b).isSome])from Od b (KI hb) hb.2);rw[show(A7 b).isSome=false from h3]at yk;refine C1 (C2 yk (cU [(2,vs p),(8,sl Ac (BU a)),(9,vb true),(10,sl Ac (BU b)),(11,vb false)] [] Z5 Tv (Ax (CO ((BU a).find? (fun t=>decide (t.path=p)))) (fun VH=>?_) (fun VH=>?_))))
  .refine Ao VH (fun t VH=>?_);have lZ:=Jl (BU a) (by grind [DF]) p;rw[VH]at lZ;refine C1 (C2 lZ (yN (Ax (CO ((BU b).find? (fun t=>decide (t.path=p)))) (fun xL=>?_) (fun xL=>?_))))
   .refine Ao xL (fun u xL=>?_);have Ss:=Jl (BU b) (by grind [DF]) p;rw[xL]at Ss;refine C1 (C2 Ss (yN (cU [(2,vs p),(8,sl Ac (BU a)),(9,vb true),(10,sl Ac (BU b)),(11,vb false),(12,.ref 12 0),(13,vb true),(14,.ref 14 0),(15,vb true)] [(12,.cells (Ac t)),(14,.cells (Ac u))] Z9 Z2 (cU [] [] Tv Tv ?_))))
    exact Fj (Yr (Ho h3))
   have Ss:=Jl (BU b) (by grind [DF]) p;rw[xL]at Ss;refine C1 (C2 Ss (yN (cU [(2,vs p),(8,sl Ac (BU a)),(9,vb true),(10,sl Ac (BU b)),(11,vb false),(12,.ref 12 0),(13,vb true),(14,.ref 14 0),(15,vb false)] [(12,.cells (Ac t)),(14,.cells [vs ⟨#[]⟩,vb false,nzA])] Z9 Z2 (cU [] [] Tv Tv ?_))))
   exact Fj (Yr (Ho h3))
  have lZ:=Jl (BU a) (by grind [DF]) p;rw[VH]at lZ;refine C1 (C2 lZ (yN (Ax (CO ((BU b).find? (fun t=>decide (t.path=p)))) (fun iz=>?_) (fun iz=>?_))))
  .refine Ao iz (fun u iz=>?_);have l5:=Jl (BU b) (by grind [DF]) p;rw[iz]at l5;refine C1 (C2 l5 (yN (cU [(2,vs p),(8,sl Ac (BU a)),(9,vb true),(10,sl Ac (BU b)),(11,vb false),(12,.ref 12 0),(13,vb false),(14,.ref 14 0),(15,vb true)] [(12,.cells [vs ⟨#[]⟩,vb false,nzA]),(14,.cells (Ac u))] Z9 Z2 (cU [] [] Tv Tv ?_))))
   exact Fj (Ht (JU VH))
  have l5:=Jl (BU b) (by grind [DF]) p;rw[iz]at l5;refine C1 (C2 l5 (yN (cU [(2,vs p),(8,sl Ac (BU a)),(9,vb true),(10,sl Ac (BU b)),(11,vb false),(12,.ref 12 0),(13,vb false),(14,.ref 14 0),(15,vb false)] [(12,.cells [vs ⟨#[]⟩,vb false,nzA]),(14,.cells [vs ⟨#[]⟩,vb false,nzA])] Z9 Z2 (cU [] [] Tv Tv ?_))))
  exact Fj (Ht (JU VH))
 have h1:((A7 a).isSome)=false:=h1;have ym:=(show PC 307 [sl Ac a] (.tup [sl Ac (BU a),vb (A7 a).isSome])from Od a (KI ha) ha.2);rw[show(A7 a).isSome=false from h1]at ym;refine C1 (C2 ym (Ax (Bt ((A7 b).isSome)) (fun cK=>?_) (fun cK=>?_)))
 .have cK:((A7 b).isSome)=true:=cK;have yn:=(show PC 307 [sl Ac b] (.tup [sl Ac (BU b),vb (A7 b).isSome])from Od b (KI hb) hb.2);rw[show(A7 b).isSome=true from cK]at yn;refine C1 (C2 yn (cU [(2,vs p),(8,sl Ac (BU a)),(9,vb false),(10,sl Ac (BU b)),(11,vb true)] [] Z5 Tv (Ax (CO ((BU a).find? (fun t=>decide (t.path=p)))) (fun uj=>?_) (fun uj=>?_))))
  .refine Ao uj (fun t uj=>?_);have l6:=Jl (BU a) (by grind [DF]) p;rw[uj]at l6;refine C1 (C2 l6 (yN (Ax (CO ((BU b).find? (fun t=>decide (t.path=p)))) (fun xM=>?_) (fun xM=>?_))))
   .refine Ao xM (fun u xM=>?_);have l7:=Jl (BU b) (by grind [DF]) p;rw[xM]at l7;refine C1 (C2 l7 (yN (cU [(2,vs p),(8,sl Ac (BU a)),(9,vb false),(10,sl Ac (BU b)),(11,vb true),(12,.ref 12 0),(13,vb true),(14,.ref 14 0),(15,vb true)] [(12,.cells (Ac t)),(14,.cells (Ac u))] Z9 Z2 (cU [] [] Tv Tv ?_))))
    exact Fj (Ht (Ho h1))
   have l7:=Jl (BU b) (by grind [DF]) p;rw[xM]at l7;refine C1 (C2 l7 (yN (cU [(2,vs p),(8,sl Ac (BU a)),(9,vb false),(10,sl Ac (BU b)),(11,vb true),(12,.ref 12 0),(13,vb true),(14,.ref 14 0),(15,vb false)] [(12,.cells (Ac t)),(14,.cells [vs ⟨#[]⟩,vb false,nzA])] Z9 Z2 (cU [] [] Tv Tv ?_))))
   exact Fj (Ht (Ho h1))
  have l6:=Jl (BU a) (by grind [DF]) p;rw[uj]at l6;refine C1 (C2 l6 (yN (Ax (CO ((BU b).find? (fun t=>decide (t.path=p)))) (fun qa=>?_) (fun qa=>?_))))
  .refine Ao qa (fun u qa=>?_);have l8:=Jl (BU b) (by grind [DF]) p;rw[qa]at l8;refine C1 (C2 l8 (yN (cU [(2,vs p),(8,sl Ac (BU a)),(9,vb false),(10,sl Ac (BU b)),(11,vb true),(12,.ref 12 0),(13,vb false),(14,.ref 14 0),(15,vb true)] [(12,.cells [vs ⟨#[]⟩,vb false,nzA]),(14,.cells (Ac u))] Z9 Z2 (cU [] [] Tv Tv ?_))))
   exact Fj (Ht (Ho h1))
  have l8:=Jl (BU b) (by grind [DF]) p;rw[qa]at l8;refine C1 (C2 l8 (yN (cU [(2,vs p),(8,sl Ac (BU a)),(9,vb false),(10,sl Ac (BU b)),(11,vb true),(12,.ref 12 0),(13,vb false),(14,.ref 14 0),(15,vb false)] [(12,.cells [vs ⟨#[]⟩,vb false,nzA]),(14,.cells [vs ⟨#[]⟩,vb false,nzA])] Z9 Z2 (cU [] [] Tv Tv ?_))))
  exact Fj (Ht (Ho h1))
 have cK:((A7 b).isSome)=false:=cK;have yo:=(show PC 307 [sl Ac b] (.tup [sl Ac (BU b),vb (A7 b).isSome])from Od b (KI hb) hb.2);rw[show(A7 b).isSome=false from cK]at yo;refine C1 (C2 yo (cU [(2,vs p),(8,sl Ac (BU a)),(9,vb false),(10,sl Ac (BU b)),(11,vb false)] [] Z5 Tv (Ax (CO ((BU a).find? (fun t=>decide (t.path=p)))) (fun xN=>?_) (fun xN=>?_))))
 .refine Ao xN (fun t xN=>?_);have VI:=Jl (BU a) (by grind [DF]) p;rw[xN]at VI;refine C1 (C2 VI (yN (Ax (CO ((BU b).find? (fun t=>decide (t.path=p)))) (fun xO=>?_) (fun xO=>?_))))
  .refine Ao xO (fun u xO=>?_);have ma:=Jl (BU b) (by grind [DF]) p;rw[xO]at ma;refine C1 (C2 ma (yN (cU [(2,vs p),(8,sl Ac (BU a)),(9,vb false),(10,sl Ac (BU b)),(11,vb false),(12,.ref 12 0),(13,vb true),(14,.ref 14 0),(15,vb true)] [(12,.cells (Ac t)),(14,.cells (Ac u))] Z9 Z2 (cU [] [] Tv Tv ?_))))
   exact Fj (Ht (Ho h1))
  have ma:=Jl (BU b) (by grind [DF]) p;rw[xO]at ma;refine C1 (C2 ma (yN (cU [(2,vs p),(8,sl Ac (BU a)),(9,vb false),(10,sl Ac (BU b)),(11,vb false),(12,.ref 12 0),(13,vb true),(14,.ref 14 0),(15,vb false)] [(12,.cells (Ac t)),(14,.cells [vs ⟨#[]⟩,vb false,nzA])] Z9 Z2 (cU [] [] Tv Tv ?_))))
  exact Fj (Ht (Ho h1))
 have VI:=Jl (BU a) (by grind [DF]) p;rw[xN]at VI;refine C1 (C2 VI (yN (Ax (CO ((BU b).find? (fun t=>decide (t.path=p)))) (fun xP=>?_) (fun xP=>?_))))
 .refine Ao xP (fun u xP=>?_);have mc:=Jl (BU b) (by grind [DF]) p;rw[xP]at mc;refine C1 (C2 mc (yN (cU [(2,vs p),(8,sl Ac (BU a)),(9,vb false),(10,sl Ac (BU b)),(11,vb false),(12,.ref 12 0),(13,vb false),(14,.ref 14 0),(15,vb true)] [(12,.cells [vs ⟨#[]⟩,vb false,nzA]),(14,.cells (Ac u))] Z9 Z2 (cU [] [] Tv Tv ?_))))
  exact Fj (Ht (Ho h1))
 have mc:=Jl (BU b) (by grind [DF]) p;rw[xP]at mc;refine C1 (C2 mc (yN (cU [(2,vs p),(8,sl Ac (BU a)),(9,vb false),(10,sl Ac (BU b)),(11,vb false),(12,.ref 12 0),(13,vb false),(14,.ref 14 0),(15,vb false)] [(12,.cells [vs ⟨#[]⟩,vb false,nzA]),(14,.cells [vs ⟨#[]⟩,vb false,nzA])] Z9 Z2 (cU [] [] Tv Tv ?_))))
 exact Fj (Ht (Ho h1))
theorem ru{n:Int}(q:Rq)(h:0<=n/\n<1000000):BU [⟨p,false,YW n⟩,⟨q.path,true,BV q.set⟩]=BM p n q:=by
 grind [BM,Dw,ns,Zb,qe]
theorem vD{x:List Rl}{n:Int}{r:Rl}(h:Dj x p n=some r):r∈x/\plc r.ver=n:=by
 have h1:=FG h;simp only[Ak,A4]at h1;exact⟨Br h,h1.2⟩
abbrev Uo(d:List (List Tm))(i:Nf):AV:=.tup [sl Ac (FQ x roots d i),vb (AQ x roots d i).isSome]
section
variable {x:List Rl}{roots:List Rq}{d:List (List Tm)}{i:Nf}
theorem Gv(h:AQ x roots d i=none)(h2:i.kind≠2):Cj (.tup [nzA,vb false]) (Uo x roots d i):=
 (show Cj (.tup [nzA,vb false]) (.tup [.slice .none [],vb false])from Cj.tup ⟨.nil,.refl _,trivial⟩).trans (.of_eq (show AV.tup [.slice .none [],vb false]=Uo x roots d i by grind [aa]))
theorem Z0{t:List Tm}(h:AQ x roots d i=none)(h2:i.kind≠2)(ht:t=[]):Cj (.tup [sl Ac t,vb false]) (Uo x roots d i):=
 .of_eq (show AV.tup [sl Ac t,vb false]=Uo x roots d i by grind [aa])
theorem Up{t:List Tm}(h:AQ x roots d i=some t)(h2:i.kind≠2):Cj (.tup [sl Ac t,vb true]) (Uo x roots d i):=
 .of_eq (show AV.tup [sl Ac t,vb true]=Uo x roots d i by grind [mK])
theorem uS{b:Bool}(h2:i.kind=2)(hb:b=false)(h:AQ x roots d i=none):Cj (.tup [sl Ac (D7 i.path (A9 x i.path)),vb b]) (Uo x roots d i):=
 .of_eq (show AV.tup [sl Ac (D7 i.path (A9 x i.path)),vb b]=Uo x roots d i by grind [FQ])
theorem qG(h2:i.kind=2)(h:AQ x roots d i=some (D7 i.path (A9 x i.path))):Cj (.tup [sl Ac (D7 i.path (A9 x i.path)),vb true]) (Uo x roots d i):=
 .of_eq (show AV.tup [sl Ac (D7 i.path (A9 x i.path)),vb true]=Uo x roots d i by grind [FQ])
theorem c38(x:List Rl)(ifs:C0)(roots:List Rq)(d:List (List Tm))(i:Nf)(h0:At x=0)(hx:∀r∈x,Fk r)(wy:∀q∈roots,BO q.set)(yv:∀t∈d,Vw t):PC 167 [.agg (Ic x ifs),sl Ad roots,.agg (AG i),sl As d] (Uo x roots d i):=by
 have hxf:BO x:=by grind [Fs]
 have hv:∀r∈x,By r.ver=true:=fun r hr=>((BB h0).1 r hr).val;have hxq:∀r∈x,∀q∈r.reqs,BO q.set:=fun r hr q hq=>((hx r hr).2 q hq).1;refine Ps (pC [] [3,6,7,10,11,12,13,14,17,20,22,23,24,25]) func167 rfl (Nz rfl) (yN (cU [(1,sl Ad roots),(3,sl As d),(4,.ref 4 0),(6,.ref 6 0),(10,.ref 10 0),(21,vi i.kind)] [(4,.cells (Ic x ifs)),(6,.cells (AG i)),(10,.cells [vi i.kind,vs ⟨#[]⟩,vi 0,vi 0,vi 0,vi 0])] Z6 Z3 (Yi (fun h1=>?_) (fun h1=>?_))))
 .have h1:(i.kind:Int)=(0:Int):=h1;refine yN (yN (yN (Yi (fun h2=>?_) (fun h2=>?_))))
  .have h2:(i.kind:Int)=i.kind/\(i.path:CS)=⟨#[]⟩/\(i.place:Int)=0/\(i.number:Int)=i.number/\(i.left:Int)=0/\(i.right:Int)=0/\True:=h2;refine Yi (fun h3=>?_) (fun h3=>?_)
   .have h3:(i.number:Int)<(0:Int):=h3;refine cU [] [] Tv Tv ?_
    exact Gv (show AQ x roots d i=none by rw[qF h1,A3 ⟨h2.2.1,h2.2.2.1,h2.2.2.2.2.1,h2.2.2.2.2.2.1⟩];rw[Qb h3];rfl) Wk
   have h3:¬((i.number:Int)<(0:Int)):=h3;refine Yi (fun h5=>?_) (fun h5=>?_)
   .have h5:((roots.map Ad).length:Int)<=(i.number:Int):=h5;refine cU [] [] Tv Tv ?_
    exact Gv (show AQ x roots d i=none by rw[qF h1,A3 ⟨h2.2.1,h2.2.2.1,h2.2.2.2.2.1,h2.2.2.2.2.2.1⟩];rw[PZ (by simpa using h5)];rfl) Wk
   have h5:¬(((roots.map Ad).length:Int)<=(i.number:Int)):=h5;have hnq:¬((roots.length:Nat):Int)<=i.number:=by simpa using h5
   refine Ao (P0 h3 hnq) (fun q uH=>?_);have hq:=uH.1;have hqg:=uH.2.1;have sJ:=uH.2.2;refine cU [(1,sl Ad roots),(6,.ref 6 0)] [(6,.cells (AG i))] Z2 Z1 (Xi (Ad q) (Yi (Yi (show(0:Int)<=i.number by omega) (Bq hqg)) (Yi rfl (yN (C1 (C2 (c69 Od q (wy q sJ)) ?_))))));exact Up (show AQ x roots d i=some (Gy q) by rw[qF h1,A3 ⟨h2.2.1,h2.2.2.1,h2.2.2.2.2.1,h2.2.2.2.2.2.1⟩];rw[hq];rfl) Wk
  have h2:¬((i.kind:Int)=i.kind/\(i.path:CS)=⟨#[]⟩/\(i.place:Int)=0/\(i.number:Int)=i.number/\(i.left:Int)=0/\(i.right:Int)=0/\True):=h2;refine cU [] [] Tv Tv ?_
  exact Gv (show AQ x roots d i=none by rw[qF h1];exact AN (fun hq=>h2 ⟨rfl,hq.1,hq.2.1,rfl,hq.2.2.1,hq.2.2.2,trivial⟩)) Wk
 have h1:¬((i.kind:Int)=(0:Int)):=h1;refine Yi (fun h9=>?_) (fun h9=>?_)
 .have h9:(i.kind:Int)=(1:Int):=h9;refine yN (yN (yN (Yi aa2 (cU [(4,.ref 4 0),(6,.ref 6 0),(10,.ref 10 0)] [(4,.cells (Ic x ifs)),(6,.cells (AG i)),(10,.cells [vi i.kind,vs i.path,vi i.place,vi i.number,vi 0,vi 0])] Z3 Z3 (yN (Ax (CO (Dj x i.path i.place)) (fun HQ=>?_) (fun HQ=>?_)))))))
  .refine Ao HQ (fun r HQ=>?_);have MA:=c70 x ifs i.path i.place hxf hv;rw[HQ]at MA;refine C1 (C2 MA (yN (cU [(6,.ref 6 0),(10,.ref 10 0),(11,.ref 11 0),(12,vb true)] [(6,.cells (AG i)),(10,.cells [vi i.kind,vs i.path,vi i.place,vi i.number,vi 0,vi 0]),(11,.cells (Am r))] Z4 Z3 (yN (yN (Yi (fun F2=>?_) (fun F2=>?_)))))))
   .have F2:(i.kind:Int)=i.kind/\(i.path:CS)=i.path/\(i.place:Int)=i.place/\(i.number:Int)=i.number/\(i.left:Int)=0/\(i.right:Int)=0/\True:=F2;refine Yi (fun Hr=>?_) (fun Hr=>?_)
    .have Hr:(i.number:Int)<(0:Int):=Hr;refine cU [] [] Tv Tv ?_
     exact Gv (show AQ x roots d i=none by grind [cY,Qb]) Wk
    have Hr:¬((i.number:Int)<(0:Int)):=Hr;refine Yi (fun IR=>?_) (fun IR=>?_)
    .have IR:((r.reqs.map Ad).length:Int)<=(i.number:Int):=IR;refine cU [] [] Tv Tv ?_
     exact Gv (show AQ x roots d i=none by grind [cY,PZ]) Wk
    have IR:¬(((r.reqs.map Ad).length:Int)<=(i.number:Int)):=IR;have hnq:¬((r.reqs.length:Nat):Int)<=i.number:=by simp_all
    refine Ao (P0 Hr hnq) (fun q uH=>?_);have hq:=uH.1;have hqg:=uH.2.1;have sJ:=uH.2.2;have oR:=vD HQ;have hpr:=S0 r.ver;rw[oR.2]at hpr;have hqF:BO q.set:=(hxq r oR.1 q sJ);have AcE:PC 245 [vs i.path,vi i.place,.agg (Ad q)] (sl Ac (BM i.path i.place q)):=by
     grind [ru,c71,Od]
    refine cU [(6,.ref 6 0),(11,.ref 11 0)] [(6,.cells (AG i)),(11,.cells (Am r))] Z2 Z2 (Xi (Ad q) (Yi (Yi (show(0:Int)<=i.number by omega) (Bq hqg)) (Yi rfl (yN (C2 AcE (Yi aa2 (cU [(13,sl Ac (BM i.path i.place q))] [] Z1 Tv (Yi (fun Mx=>?_) (fun Mx=>?_)))))))))
    .have Mx:(0:Int)<(((BM i.path i.place q).map Ac).length:Int):=Mx;have n16:0<(BM i.path i.place q).length:=by simp_all
     have g16:(BM i.path i.place q)[0]?=some (BM i.path i.place q)[0]:=Ge n16;exact Up (show AQ x roots d i=some (BM i.path i.place q) by grind [cY,OE]) Wk
    have Mx:¬((0:Int)<(((BM i.path i.place q).map Ac).length:Int)):=Mx;have n16:¬0<(BM i.path i.place q).length:=by simp_all
    have e0:BM i.path i.place q=[]:=Ay Wk;have e1:AQ x roots d i=none:=by grind [cY,OE]
    exact Z0 e1 Wk e0
   have F2:¬((i.kind:Int)=i.kind/\(i.path:CS)=i.path/\(i.place:Int)=i.place/\(i.number:Int)=i.number/\(i.left:Int)=0/\(i.right:Int)=0/\True):=F2;refine cU [] [] Tv Tv ?_
   exact Gv (show AQ x roots d i=none by grind [cY]) Wk
  have MA:=c70 x ifs i.path i.place hxf hv;rw[HQ]at MA;refine C1 (C2 MA (yN (cU [(6,.ref 6 0),(10,.ref 10 0),(11,.ref 11 0),(12,vb false)] [(6,.cells (AG i)),(10,.cells [vi i.kind,vs i.path,vi i.place,vi i.number,vi 0,vi 0]),(11,.cells [vs ⟨#[]⟩,vi 0,vi 0,vi 0,nzA,vs ⟨#[]⟩,vs ⟨#[]⟩,vs ⟨#[]⟩,vb false])] Z4 Z3 (yN (yN (Yi (fun VG=>?_) (fun VG=>?_)))))))
  .have VG:(i.kind:Int)=i.kind/\(i.path:CS)=i.path/\(i.place:Int)=i.place/\(i.number:Int)=i.number/\(i.left:Int)=0/\(i.right:Int)=0/\True:=VG;refine cU [] [] Tv Tv ?_
   exact Gv (show AQ x roots d i=none by grind [cY]) Wk
  have VG:¬((i.kind:Int)=i.kind/\(i.path:CS)=i.path/\(i.place:Int)=i.place/\(i.number:Int)=i.number/\(i.left:Int)=0/\(i.right:Int)=0/\True):=VG;refine cU [] [] Tv Tv ?_
  exact Gv (show AQ x roots d i=none by grind [cY]) Wk
 have h9:¬((i.kind:Int)=(1:Int)):=h9;refine Yi (fun cI=>?_) (fun cI=>?_)
 .have cI:(i.kind:Int)=(2:Int):=cI;refine yN (cU [(4,.ref 4 0),(6,.ref 6 0),(10,.ref 10 0)] [(4,.cells (Ic x ifs)),(6,.cells (AG i)),(10,.cells [vi i.kind,vs i.path,vi 0,vi 0,vi 0,vi 0])] Z3 Z3 (yN (C2 (c73 x ifs i.path hx) (C2 (c72 Od i.path (A9 x i.path) (Pg _)) (yN (yN (Yi (fun kf=>?_) (fun kf=>?_))))))))
  .have kf:(i.kind:Int)=i.kind/\(i.path:CS)=i.path/\(i.place:Int)=0/\(i.number:Int)=0/\(i.left:Int)=0/\(i.right:Int)=0/\True:=kf;refine Yi aa2 ?_;exact qG cI (show AQ x roots d i=some (D7 i.path (A9 x i.path)) by grind [uR,vf,qW,Fs])
  have kf:¬((i.kind:Int)=i.kind/\(i.path:CS)=i.path/\(i.place:Int)=0/\(i.number:Int)=0/\(i.left:Int)=0/\(i.right:Int)=0/\True):=kf;refine Yi aa2 ?_;exact uS cI aa1 (show AQ x roots d i=none by grind [uR])
 have cI:¬((i.kind:Int)=(2:Int)):=cI;refine Yi (fun My=>?_) (fun My=>?_)
 .have My:(i.kind:Int)=(3:Int):=My;refine yN (yN (yN (Yi aa2 (cU [(3,sl As d),(6,.ref 6 0),(10,.ref 10 0)] [(6,.cells (AG i)),(10,.cells [vi i.kind,vs i.path,vi 0,vi 0,vi i.left,vi i.right])] Z3 Z2 (yN (yN (Yi (fun Wy=>?_) (fun Wy=>?_))))))))
  .have Wy:(i.kind:Int)=i.kind/\(i.path:CS)=i.path/\(i.place:Int)=0/\(i.number:Int)=0/\(i.left:Int)=i.left/\(i.right:Int)=i.right/\True:=Wy;refine Yi (fun Vs=>?_) (fun Vs=>?_)
   .have Vs:(i.left:Int)<(0:Int):=Vs;refine cU [] [] Tv Tv ?_
    exact Gv (show AQ x roots d i=none by grind [cZ,Qb]) Wk
   have Vs:¬((i.left:Int)<(0:Int)):=Vs;refine Yi (fun XZ=>?_) (fun XZ=>?_)
   .have XZ:((d.map As).length:Int)<=(i.left:Int):=XZ;refine cU [] [] Tv Tv ?_
    exact Gv (show AQ x roots d i=none by grind [cZ,PZ]) Wk
   have XZ:¬(((d.map As).length:Int)<=(i.left:Int)):=XZ;have uB:¬((d.length:Nat):Int)<=i.left:=by simp_all
   refine Ao (P0 Vs uB) (fun ta cW=>?_);have hta:=cW.1;have uL:=cW.2.1;have qz:=cW.2.2;refine Yi (fun SI=>?_) (fun SI=>?_)
   .have SI:(i.right:Int)<(0:Int):=SI;refine cU [] [] Tv Tv ?_
    exact Gv (show AQ x roots d i=none by grind [cZ,Qb]) Wk
   have SI:¬((i.right:Int)<(0:Int)):=SI;refine Yi (fun VH=>?_) (fun VH=>?_)
   .have VH:((d.map As).length:Int)<=(i.right:Int):=VH;refine cU [] [] Tv Tv ?_
    exact Gv (show AQ x roots d i=none by grind [cZ,PZ]) Wk
   have VH:¬(((d.map As).length:Int)<=(i.right:Int)):=VH;have Adb:¬((d.length:Nat):Int)<=i.right:=by simp_all
   refine Ao (P0 SI Adb) (fun tb uM=>?_);have htb:=uM.1;have Ady:=uM.2.1;have Adz:=uM.2.2;refine cU [(3,sl As d),(6,.ref 6 0)] [(6,.cells (AG i))] Z2 Z1 (Xi (As ta) (Yi (Yi (show(0:Int)<=i.left by omega) (Bq uL)) (Yi rfl (Xi (As tb) (Yi (Yi (show(0:Int)<=i.right by omega) (Bq Ady)) (Yi rfl (C2 (c74 ta tb i.path (yv ta qz) (yv tb Adz)) (Yi aa2 (cU [(15,sl Ac ((AU ta tb i.path).1)),(16,vi ((AU ta tb i.path).2))] [] Z2 Tv (Yi (fun kg=>?_) (fun kg=>?_)))))))))))
   .have kg:((AU ta tb i.path).2:Int)=(0:Int):=kg;exact Up (show AQ x roots d i=some (AU ta tb i.path).1 by grind [cZ]) Wk
   have kg:¬(((AU ta tb i.path).2:Int)=(0:Int)):=kg;exact Z0 (show AQ x roots d i=none by grind [cZ]) Wk (fY kg)
  have Wy:¬((i.kind:Int)=i.kind/\(i.path:CS)=i.path/\(i.place:Int)=0/\(i.number:Int)=0/\(i.left:Int)=i.left/\(i.right:Int)=i.right/\True):=Wy;refine cU [] [] Tv Tv ?_
  exact Gv (show AQ x roots d i=none by grind [cZ]) Wk
 have My:¬((i.kind:Int)=(3:Int)):=My;refine cU [] [] Tv Tv ?_
 exact Gv (show AQ x roots d i=none by grind [AdF]) Wk
end
abbrev pL:AV:=.tup [sl As (A1 x roots l).1,vi (A1 x roots l).2]
theorem XK{x:List Rl}{roots:List Rq}{l:List Nf}(h:A1 x roots l=([],e)):Cj (.tup [nzA,vi e]) (pL x roots l):=
 (show Cj (.tup [nzA,vi e]) (.tup [.slice .none [],vi e])from Cj.tup ⟨.nil,.refl _,trivial⟩).trans (.of_eq (show AV.tup [.slice .none [],vi e]=pL x roots l by simp_all))
theorem Lg:A1 x roots l=if At x≠0\/AH roots≠0 then([],(1:Int))else if 65536<l.length then([],(7:Int))else match BH x roots l []with | none=>([],(18:Int)) | some d=>(d,(0:Int)):=rfl
theorem Pp{x:List Rl}{roots:List Rq}{l:List Nf}:∀t∈(A1 x roots l).1,Qx t:=by
 grind [RM,cu]
theorem d8{a b:Int}(h:(decide (a=0)&&decide (b=0))=true):a=0/\b=0:=by simp_all
theorem c13(hx:∀r∈x,Fk r)(hr:∀q∈roots,IE q):PC 92 [.agg (Ic x ifs),sl Ad roots,sl AG l] (pL x roots l):=by
 refine Ps (pC [] [3,8,10]) func92 rfl (Nz rfl) (yN (Ax (Bt (decide (At x=0)&&decide (AH roots=0))) (fun h1=>?_) (fun h1=>?_)))
 .have h1:(decide (At x=0)&&decide (AH roots=0))=true:=h1;have WA:=c37 x ifs roots hx hr;rw[show(decide (At x=0)&&decide (AH roots=0))=true from h1]at WA;refine C1 (C2 WA (cU [(1,sl Ad roots),(2,sl AG l),(3,.ref 3 0)] [(3,.cells (Ic x ifs))] Z3 Z1 (Yi (fun h3=>?_) (fun h3=>?_))))
  .have h3:(65536:Int)<((l.map AG).length:Int):=h3;have n3:65536<l.length:=by grind
   exact XK (by grind [Lg])
  have h3:¬((65536:Int)<((l.map AG).length:Int)):=h3;have n3:¬65536<l.length:=by grind
  have hb3:l.length<=65536:=by omega
  have e0:At x=0:=(d8 h1).1;have hU:=LD (x:=x) (roots:=roots) (l:=l) e0 (d8 h1).2 hb3;refine Xi {q:Nat×List (List Tm) // q.1<=l.length/\BH x roots (l.take q.1) []=some q.2/\q.2.length=q.1/\∀t∈q.2,Qy (Hb x roots l) t} (Xi (fun q=>⟨[(1,sl Ad roots),(2,sl AG l),(3,.ref 3 0),(8,.slice (.id 19 1) (q.1.2.map As)),(9,vi q.1.1)],[(3,.cells (Ic x ifs)),(19,.tok 1 q.1.2.length)],Af⟩) (Xi (fun q=>l.length-q.1.1) (Yi (Xi ⟨(0,[]),Al _,rfl,rfl,fun t ht=>by cases ht⟩ ?_) ?_)))
  .exact⟨Z5,Z2,Fh,Tv⟩
  intro⟨⟨i,D⟩,i1,i2,i3,i4⟩;have i1:i<=l.length:=i1;have i2:BH x roots (l.take i) []=some D:=i2;have i3:D.length=i:=i3;have i4:∀t∈D,Qy (Hb x roots l) t:=i4;refine Yi (fun h5=>?_) (fun h5=>?_)
  .have h5:(i:Int)<((l.map AG).length:Int):=h5;have n5:i<l.length:=by simp_all
   have g5:l[i]?=some l[i]:=Ge n5;refine yN (Xi (AG l[i]) (Yi (Yi (Nn i) (Bq g5)) (Yi rfl (yN (Ax (Bt (AQ x roots D l[i]).isSome) (fun h6=>?_) (fun h6=>?_))))))
   .have h6:(AQ x roots D l[i]).isSome=true:=h6;have yq:=(show PC 167 [Jf x ifs,sl Ad roots,.agg (AG l[i]),sl As D] (.tup [sl Ac (FQ x roots D l[i]),vb (AQ x roots D l[i]).isSome])from c38 x ifs roots D l[i] e0 hx (fun q hq=>(hr q hq).1) (fun t ht=>(i4 t ht).fewI hU));rw[show(AQ x roots D l[i]).isSome=true from h6]at yq;refine C2 yq (Yi aa2 (cU [(1,sl Ad roots),(2,sl AG l),(3,.ref 3 0),(8,.slice (.id 19 1) (D.map As)),(9,vi i),(10,sl Ac (FQ x roots D l[i])),(11,vb true)] [(3,.cells (Ic x ifs)),(19,.tok 1 D.length)] Z7 Z2 ?_))
    have b8:Bh 1 [[sl Ac (FQ x roots D l[i])]]/\(D.map As).length=D.length/\((D.map As).length+([[sl Ac (FQ x roots D l[i])]]:C0).length)*24<=140737488355328/\(D.map As).length+([[sl Ac (FQ x roots D l[i])]]:C0).length<=9223372036854775807:=⟨⟨rfl,trivial⟩,aa0,(by grind),(by grind)⟩;refine Yi b8 (cU [(1,sl Ad roots),(2,sl AG l),(3,.ref 3 0),(8,.slice (.id 19 1) ((D.map As)++[[sl Ac (FQ x roots D l[i])]])),(9,vi i)] [(3,.cells (Ic x ifs)),(19,.tok 1 ((D.map As).length+([[sl Ac (FQ x roots D l[i])]]:C0).length))] Z5 Z2 (Yi (by grind [Au]) (Ao (JD.1 h6) (fun t ht=>?_))));have etl:=iR ht;have sy:=XX n5 i2;rw[ht]at sy;refine Xi ⟨(i+1,(D++[t])),by omega,sy,by simp_all,fun u hu=>(Bi.1 hu).elim (i4 u) (fun hu=>by rw[AJ.1 hu];exact Nj (Ah n5) i4 ht)⟩ ?_;exact⟨Dl l.length i Wk,⟨Zr,Zr,Zr,⟨(show AV.slice (.id 19 1) (D.map As++[[sl Ac (FQ x roots D l[i])]])=.slice (.id 19 1) ((D++[t]).map As) by simp_all),rfl⟩,Zr,Tv⟩,⟨Zr,⟨(show HO.tok 1 ((D.map As).length+([[sl Ac (FQ x roots D l[i])]]:C0).length)=.tok 1 (D++[t]).length by simp_all),rfl⟩,Tv⟩,Fh,Tv⟩
   have h6:(AQ x roots D l[i]).isSome=false:=h6;have MA:=(show PC 167 [Jf x ifs,sl Ad roots,.agg (AG l[i]),sl As D] (.tup [sl Ac (FQ x roots D l[i]),vb (AQ x roots D l[i]).isSome])from c38 x ifs roots D l[i] e0 hx (fun q hq=>(hr q hq).1) (fun t ht=>(i4 t ht).fewI hU));rw[show(AQ x roots D l[i]).isSome=false from h6]at MA;refine C2 MA (Yi aa2 (cU [(1,sl Ad roots),(2,sl AG l),(3,.ref 3 0),(8,.slice (.id 19 1) (D.map As)),(9,vi i),(10,sl Ac (FQ x roots D l[i])),(11,vb false)] [(3,.cells (Ic x ifs)),(19,.tok 1 D.length)] Z7 Z2 ?_))
   have sy:=XX n5 i2;rw[show AQ x roots D l[i]=none from Option.not_isSome_iff_eq_none.1 (by simp_all)]at sy;exact XK (by grind [Lg,eZ])
  have h5:¬((i:Int)<((l.map AG).length:Int)):=h5;have n5:¬i<l.length:=by simp_all
  rw[A5 Wk]at i2;exact .of_eq (show AV.tup [sl As D,vi 0]=pL x roots l by grind [Lg])
 have h1:(decide (At x=0)&&decide (AH roots=0))=false:=h1;have PH:=c37 x ifs roots hx hr;rw[show(decide (At x=0)&&decide (AH roots=0))=false from h1]at PH;refine C1 (C2 PH ?_);exact XK (by grind [Lg])
theorem c16(hx:∀r∈x,Fk r)(hr:∀q∈roots,IE q):PC 93 [.agg (Ic x ifs),sl Ad roots,sl AG l] (vi (Gf x roots l)):=by
 have hdl:=TE (x:=x) (roots:=roots) (l:=l);have hdm:((A1 x roots l).1.map As).length<=65536:=by simp_all
 refine Ps (pC [] [2,5,6]) func93 rfl (Nz rfl) (yN (C1 (C2 (c13 x ifs roots l hx hr) (cU [(7,sl As (A1 x roots l).1),(8,vi (A1 x roots l).2)] [] Z2 Tv (Yi (fun h1=>?_) (fun h1=>?_))))))
 .have h1:((A1 x roots l).2:Int)≠(0:Int):=h1;exact .of_eq (Aa vi (show(A1 x roots l).2=Gf x roots l by grind [Gf]))
 have h1:((A1 x roots l).2:Int)=(0:Int):=Aw h1;refine Yi (fun h3=>?_) (fun h3=>?_)
 .have h3:(((A1 x roots l).1.map As).length:Int)=(0:Int):=h3;refine cU [] [] Tv Tv ?_
  have yM:(A1 x roots l).1=[]:=Ay (by simp_all);exact .of_eq (Aa vi (show(18:Int)=Gf x roots l by grind [Gf,EC]))
 have h3:¬((((A1 x roots l).1.map As).length:Int)=(0:Int)):=h3;have EG:(A1 x roots l).1≠[]:=fun e=>by simp_all
 refine Ao (show ∃a t,(A1 x roots l).1=a++[t]from⟨_,_,(List.dropLast_concat_getLast EG).symm⟩) (fun a Oo=>?_);refine Ao Oo (fun t Oo=>?_);have hlz:(((A1 x roots l).1.map As).length:Int)=(a.length:Int)+1:=by simp_all
 have hgz:(A1 x roots l).1[((((A1 x roots l).1.map As).length:Int)-1).toNat]?=some t:=by
  simp_all
 refine Yi (by show Au ((((A1 x roots l).1.map As).length:Int)-(1:Int));unfold Au;omega) ?_;refine Xi (As t) (Yi (Yi (show(0:Int)<=(((A1 x roots l).1.map As).length:Int)-1 by omega) (Bq hgz)) (Yi rfl ?_));refine Yi (fun h5=>?_) (fun h5=>?_)
 .have h5:(0:Int)<((t.map Ac).length:Int):=h5;have n5:0<t.length:=by simp_all
  refine cU [] [] Tv Tv ?_;refine Ao (show ∃u m,t=u::m by cases t<;>simp_all) (fun u hu=>?_)
  refine Ao hu (fun m hu=>?_);exact .of_eq (Aa vi (show(18:Int)=Gf x roots l by unfold Gf;rw[AN (Mg h1),show EC (A1 x roots l).1=false by rw[Oo,hu];unfold EC;simp_all];rfl))
 have h5:¬((0:Int)<((t.map Ac).length:Int)):=h5;have n5:¬0<t.length:=by simp_all
 refine cU [] [] Tv Tv ?_
 have htn:t=[]:=Ay Wk;exact .of_eq (Aa vi (show(0:Int)=Gf x roots l by unfold Gf;rw[AN (Mg h1),show EC (A1 x roots l).1=true by rw[Oo,htn];unfold EC;simp_all];rfl))
theorem Bg.to2{P:Program}{f:Nat}{h0:Nat->HO}{r0:AV}{H0:Nat->HO}{Q' : AV->(Nat->HO)->Prop}(h:Bg P f args h0 fun r h'=>r=r0/\h'=H0)(k:Q' r0 H0):Bg P f args h0 Q':=
 h.mono fun r h' q=>⟨r,.refl _,by rw[q.1,q.2];exact k⟩
theorem cb{f:Nat}{b x:Bool}(h:b=x)(hc:PC f args (vb b)):PC f args (vb x):=h▸hc
theorem Ha{l:List α}(h:(i:Int)<((l.map f).length:Int)):i<l.length:=by rw[Lm]at h;omega
theorem Et{l:List α}(h:¬(i:Int)<((l.map f).length:Int)):¬i<l.length:=by rw[Lm]at h;omega
theorem I0{l:List α}(h:i<l.length):(0:Int)<=(i:Int)/\(l.map f)[((i:Nat):Int).toNat]?=some (f l[i]):=⟨Int.natCast_nonneg _,by rw[GG,BK,Ge h];rfl⟩
theorem YG{z:Nat}{x:List AV}(hx:x.length=n)(h:O.length<=2147483647)(hz:z<=65536) :
  Bh n [x]/\(O.map f).length=O.length/\((O.map f).length+([x]:C0).length)*z<=140737488355328/\(O.map f).length+([x]:C0).length<=9223372036854775807:=by
 refine⟨⟨hx,trivial⟩,Lm _,?_,?_⟩<;>rw[Lm]<;>simp only[DZ,HY]
 .have:=Nat.mul_le_mul (show O.length+(0+1)<=2147483648 by omega) hz
  omega
 .omega
theorem tkA{x:α}{r:Nat}:AV.slice (.id r n) (O.map f++[f x])=.slice (.id r n) ((O++[x]).map f):=by rw[Bk];rfl
theorem hkA{x:α}{y:List AV}:HO.tok n ((O.map f).length+([y]:C0).length)=.tok n (O++[x]).length:=by rw[AD,Lm];rfl
end Go.Eng
