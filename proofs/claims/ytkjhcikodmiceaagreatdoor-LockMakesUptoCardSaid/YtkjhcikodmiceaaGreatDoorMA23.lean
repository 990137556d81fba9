/- Lemmas 23. -/
import Derived.Test.YtkjhcikodmiceaaGreatDoorMA22
set_option maxHeartbeats 4000000
namespace Go.Eng
open Go.Proofs Go.Proofs.Tryz
variable {p:CS}{α:Type}{f:α->List AV}{a b:List Tm}{O:List α}{args:List AV}{i n:Nat}{e:Int}{t:Tm}(x:List Rl)(ifs:C0)(roots:List Rq)(l:List Nf)
theorem CU(o:Option α):(∃x,o=some x)\/o=none:=by
 cases o<;>simp_all
theorem DO(l:List Tm):(H l).length<=l.length:=by
 grind [H,Bj,Vh,List.take_length]
theorem TJ(l:List Tm):∀t∈H l,ED t.set:=fun t ht=>by
 grind [H,Bj,DT,BL.canon]
theorem Hz(h:(Bj a).isSome=false):D1 a p=none:=by
 grind [D1]
theorem Kh(hf:(H a).find? (fun t=>decide (t.path=p))=none):D1 a p=none:=by
 grind [D1,H,Dw]
theorem Fw(h:(Bj a).isSome=true)(hf:(H a).find? (fun t=>decide (t.path=p))=some t):D1 a p=some (t,AH (H a) p):=by
 grind [D1,H,Dw]
theorem HD(h:D1 a p=none):AU a b p=([],1):=by grind [AU]
theorem Zt(h:D1 b p=none):AU a b p=([],1):=by
 grind [AU]
abbrev FF(a b:List Tm)(p:CS)(t u:Tm):List Tm:=AH (H a) p++AH (H b) p++[CP t u]
theorem NX{u:Tm}(h:D1 a p=some (t,AH (H a) p))(k:D1 b p=some (u,AH (H b) p)):AU a b p=if(Bj (FF a b p t u)).isSome then(H (FF a b p t u),0)else([],8):=by
 grind [AU,H]
abbrev Zs(a b:List Tm)(p:CS):AV:=.tup [sl M (AU a b p).1,G (AU a b p).2]
theorem Fo(h:AU a b p=([],e)):CD (.tup [BY,G e]) (Zs a b p):=
 (show CD (.tup [BY,G e]) (.tup [.slice .none [],G e])from CD.tup ⟨.nil,.refl _,trivial⟩).trans (.of_eq (show AV.tup [.slice .none [],G e]=Zs a b p by simp_all))
theorem K8{t:List Tm}(h:Wg t):BF t:=Wk
theorem mw(l:List Tm)(hl:BF l)(p:CS):A6 prog 310 [sl M l,vs p] (Ai [] Af) fun r h'=>r=.slice (.id 2000 3) ((l.filter fun t=>!decide (t.path=p)).map M)/\h'=Ai [(2000,.tok 3 ((l.filter fun t=>!decide (t.path=p)).map M).length)] Af:=by
 refine Bi (IU (pC [] [4])) [(7,2000)] rfl BA hm rfl func310 aa4 rfl C4 aa4 rfl (Z {q:Nat×List Tm // q.1<=l.length/\q.2=(l.take q.1).filter fun t=>!decide (t.path=p)} (Z (fun q=>⟨[(0,sl M l),(1,vs p),(5,.slice (.id 7 3) (q.1.2.map M)),(6,G q.1.1)],[(7,.tok 3 q.1.2.length)],Af⟩) (Z (fun q=>l.length-q.1.1) (J (Z ⟨(0,[]),Ak _,rfl⟩ ?_) ?_))))
 .exact⟨Z4,Z1,Fh,A2 aa4⟩
 intro⟨⟨i,A⟩,i1,i2⟩;have hA:A.length<=i:=by
  grind
 refine J (fun h1=>?_) (fun h1=>?_)
 .have n1:i<l.length:=aa0
  have g1:l[i]?=some l[i]:=Ge n1;refine Z (M l[i]) (J (J (Nn i) (Br g1)) (J rfl (J (fun h3=>?_) (fun h3=>?_))))
  .refine Z (M l[i]) (J (J (Nn i) (Br g1)) (J rfl (yN ?_)));have b4:A7 3 [(M l[i])]/\(A.map M).length=A.length/\((A.map M).length+([(M l[i])]:C0).length)*48<=140737488355328/\(A.map M).length+([(M l[i])]:C0).length<=9223372036854775807:=⟨⟨rfl,trivial⟩,aa1,aa2,aa2⟩;refine J b4 (cU [(0,sl M l),(1,vs p),(5,.slice (.id 7 3) ((A.map M)++[(M l[i])])),(6,G i)] [(7,.tok 3 ((A.map M).length+([(M l[i])]:C0).length))] Z4 Z1 (J (by grind [Au]) (Z ⟨(i+1,(A++[l[i]])),by omega,by show(A++[l[i]])=(l.take (i+1)).filter _;rw[Dv,Ge n1,H5,<-i2];simp_all⟩ ?_)));exact⟨Dl l.length i Wk,⟨X,X,⟨(show AV.slice (.id 7 3) (A.map M++[M l[i]])=.slice (.id 7 3) ((A++[l[i]]).map M) by simp),rfl⟩,X,W⟩,⟨⟨(show HO.tok 3 ((A.map M).length+[M l[i]].length)=.tok 3 (A++[l[i]]).length by simp),rfl⟩,W⟩,Fh,A2 aa4⟩
  have h3:(l[i].path:CS)=p:=As h3;refine cU [(0,sl M l),(1,vs p),(5,.slice (.id 7 3) (A.map M)),(6,G i)] [(7,.tok 3 A.length)] Z4 Z1 (J (by grind [Au]) (Z ⟨(i+1,A),by omega,by grind [List.take_add_one]⟩ ?_));exact⟨Dl l.length i Wk,Z4,Z1,Fh,A2 aa4⟩
 have n1:¬i<l.length:=aa0
 have eA:A=l.filter (fun t=>!decide (t.path=p)):=aa2
 exact U (.refl _) (J (Aa (fun B:List Tm=>AV.slice (.id 2000 3) (B.map M)) eA) (show Ai [(2000,HO.tok 3 A.length)] Af=Ai [(2000,HO.tok 3 ((l.filter fun t=>!decide (t.path=p)).map M).length)] Af by simp_all))
theorem c74(a b:List Tm)(p:CS)(ha:Wg a)(hb:Wg b):PC 248 [sl M a,sl M b,vs p] (Zs a b p):=by
 have ha1:=ha.1;have hb1:=hb.1;refine Ps ⟨[],[],[],[],[],[],[],[],[(71,3)],[],[3,5,6,7,8,9]⟩ func248 rfl C4 (Ay (Bt ((Bj a).isSome)) (fun h1=>?_) (fun h1=>?_))
 .have SB:=(show PC 307 [sl M a] (.tup [sl M (H a),I (Bj a).isSome])from OI a (K8 ha) ha.2);rw[show(Bj a).isSome=true from h1]at SB;refine C1 (U SB (Ay (Bt ((Bj b).isSome)) (fun h3=>?_) (fun h3=>?_)))
  .have gS:=(show PC 307 [sl M b] (.tup [sl M (H b),I (Bj b).isSome])from OI b (K8 hb) hb.2);rw[show(Bj b).isSome=true from h3]at gS;refine C1 (U gS (cU [(2,vs p),(8,sl M (H a)),(9,I true),(10,sl M (H b)),(11,I true)] [] Z5 W (Ay (CU ((H a).find? (fun t=>decide (t.path=p)))) (fun h5=>?_) (fun h5=>?_))))
   .refine Al h5 (fun t h5=>?_);have SC:=JG (H a) (by grind [DO]) p;rw[h5]at SC;refine C1 (U SC (yN (Ay (CU ((H b).find? (fun t=>decide (t.path=p)))) (fun h6=>?_) (fun h6=>?_))))
    .refine Al h6 (fun u h6=>?_);have UO:=JG (H b) (by grind [DO]) p;rw[h6]at UO;refine C1 (U UO (yN (cU [(2,vs p),(8,sl M (H a)),(9,I true),(10,sl M (H b)),(11,I true),(12,.ref 12 0),(13,I true),(14,.ref 14 0),(15,I true)] [(12,.cells (M t)),(14,.cells (M u))] Z9 Z2 (cU [(2,vs p),(8,sl M (H a)),(10,sl M (H b)),(12,.ref 12 0),(14,.ref 14 0)] [(12,.cells (M t)),(14,.cells (M u))] Z5 Z2 ?_))))
     have yy:t∈H a:=Bh h5;have hum:u∈H b:=Bh h6;have htp:t.path=p:=aa2
     have htc:=TJ a t yy;have huc:=TJ b u hum;have hUf:BF [t.set,u.set].flatten:=by
      grind [Fb]
     have hla:=DO a;have hlb:=DO b;have hwa:(AH (H a) p).length<=(H a).length:=Er ..;have hwb:(AH (H b) p).length<=(H b).length:=Er ..;have ha1:=ha.1;have hb1:=hb.1;have ye:BF (FF a b p t u):=aa2
     have yf:∀x∈FF a b p t u,BF x.set:=fun x hx=>by
      rcases Bc.1 hx with hx | hx
      .rcases Bc.1 hx with hx | hx
       .exact IX (TJ a x (Cw.1 hx).1)
       .exact IX (TJ b x (Cw.1 hx).1)
      .rw[AI.1 hx];exact IX (t:=CP t u) (Md [t.set,u.set])
     refine J (fun h7=>?_) (fun h7=>?_)
     .refine U (ra [t.set,u.set] aa0 hUf) ?_;refine yN (J aa4 (cU [(2,vs p),(8,sl M (H a)),(10,sl M (H b)),(16,.ref 16 0)] [(16,.cells [vs p,I true,sl Y (E3 t.set u.set)])] Z4 Z1 (Z _ (U aa4 (J (mw (H a) Wk p) (U (vH (H b) Wk p) ?_))))));have b8:A7 3 ((AH (H b) p).map M)/\((AH (H a) p).map M).length=((AH (H a) p).map M).length/\(((AH (H a) p).map M).length+((AH (H b) p).map M).length)*48<=140737488355328/\((AH (H a) p).map M).length+((AH (H b) p).map M).length<=9223372036854775807:=⟨(B8 (enc:=M) (n:=3) (fun _=>rfl) (AH (H b) p)),rfl,aa2,aa2⟩;refine J b8 (yN ?_);have b9:A7 3 [[vs p,I true,sl Y (E3 t.set u.set)]]/\((((AH (H a) p).map M)++((AH (H b) p).map M)):C0).length=(((AH (H a) p).map M).length+((AH (H b) p).map M).length)/\(((((AH (H a) p).map M)++((AH (H b) p).map M)):C0).length+([[vs p,I true,sl Y (E3 t.set u.set)]]:C0).length)*48<=140737488355328/\((((AH (H a) p).map M)++((AH (H b) p).map M)):C0).length+([[vs p,I true,sl Y (E3 t.set u.set)]]:C0).length<=9223372036854775807:=⟨⟨rfl,trivial⟩,aa1,aa2,aa2⟩;refine J b9 ?_;have eL:((((AH (H a) p).map M)++((AH (H b) p).map M))++[[vs p,I true,sl Y (E3 t.set u.set)]])=(FF a b p t u).map M:=by
       have e1:M (CP t u)=[vs p,I (t.absent||u.absent),sl Y (E3 t.set u.set)]:=by rw[<-htp];rfl
       simp_all
      refine Ay (Bt ((Bj (FF a b p t u)).isSome)) (fun JN=>?_) (fun JN=>?_)
      .have UN:=(show PC 307 [.slice .none (((((AH (H a) p).map M)++((AH (H b) p).map M))++[[vs p,I true,sl Y (E3 t.set u.set)]]))] (.tup [sl M (H (FF a b p t u)),I (Bj (FF a b p t u)).isSome])from by rw[eL];exact OI (FF a b p t u) ye yf);rw[show(Bj (FF a b p t u)).isSome=true from JN]at UN;refine U UN (J aa4 (cU [(9,I true),(17,sl M (H (FF a b p t u)))] [] Z2 W ?_))
       exact .of_eq (show AV.tup [sl M (H (FF a b p t u)),G 0]=Zs a b p by unfold Zs;rw[(NX (Fw h1 h5) (Fw h3 h6)).trans (A1 JN)])
      have Qn:=(show PC 307 [.slice .none (((((AH (H a) p).map M)++((AH (H b) p).map M))++[[vs p,I true,sl Y (E3 t.set u.set)]]))] (.tup [sl M (H (FF a b p t u)),I (Bj (FF a b p t u)).isSome])from by rw[eL];exact OI (FF a b p t u) ye yf);rw[show(Bj (FF a b p t u)).isSome=false from JN]at Qn;refine U Qn (J aa4 (cU [(9,I false),(17,sl M (H (FF a b p t u)))] [] Z2 W ?_))
      exact Fo ((NX (Fw h1 h5) (Fw h3 h6)).trans (AL aa0))
     refine J (fun Jb=>?_) (fun Jb=>?_)
     .refine U (ra [t.set,u.set] aa0 hUf) ?_;refine yN (J aa4 (cU [(2,vs p),(8,sl M (H a)),(10,sl M (H b)),(16,.ref 16 0)] [(16,.cells [vs p,I true,sl Y (E3 t.set u.set)])] Z4 Z1 (Z _ (U aa4 (J (mw (H a) Wk p) (U (vH (H b) Wk p) ?_))))));have b16:A7 3 ((AH (H b) p).map M)/\((AH (H a) p).map M).length=((AH (H a) p).map M).length/\(((AH (H a) p).map M).length+((AH (H b) p).map M).length)*48<=140737488355328/\((AH (H a) p).map M).length+((AH (H b) p).map M).length<=9223372036854775807:=⟨(B8 (enc:=M) (n:=3) (fun _=>rfl) (AH (H b) p)),rfl,aa2,aa2⟩;refine J b16 (yN ?_);have b17:A7 3 [[vs p,I true,sl Y (E3 t.set u.set)]]/\((((AH (H a) p).map M)++((AH (H b) p).map M)):C0).length=(((AH (H a) p).map M).length+((AH (H b) p).map M).length)/\(((((AH (H a) p).map M)++((AH (H b) p).map M)):C0).length+([[vs p,I true,sl Y (E3 t.set u.set)]]:C0).length)*48<=140737488355328/\((((AH (H a) p).map M)++((AH (H b) p).map M)):C0).length+([[vs p,I true,sl Y (E3 t.set u.set)]]:C0).length<=9223372036854775807:=⟨⟨rfl,trivial⟩,aa1,aa2,aa2⟩;refine J b17 ?_;have eL:((((AH (H a) p).map M)++((AH (H b) p).map M))++[[vs p,I true,sl Y (E3 t.set u.set)]])=(FF a b p t u).map M:=by
       have e1:M (CP t u)=[vs p,I (t.absent||u.absent),sl Y (E3 t.set u.set)]:=by rw[<-htp];rfl
       simp_all
      refine Ay (Bt ((Bj (FF a b p t u)).isSome)) (fun lU=>?_) (fun lU=>?_)
      .have aV:=(show PC 307 [.slice .none (((((AH (H a) p).map M)++((AH (H b) p).map M))++[[vs p,I true,sl Y (E3 t.set u.set)]]))] (.tup [sl M (H (FF a b p t u)),I (Bj (FF a b p t u)).isSome])from by rw[eL];exact OI (FF a b p t u) ye yf);rw[show(Bj (FF a b p t u)).isSome=true from lU]at aV;refine U aV (J aa4 (cU [(9,I true),(17,sl M (H (FF a b p t u)))] [] Z2 W ?_))
       exact .of_eq (show AV.tup [sl M (H (FF a b p t u)),G 0]=Zs a b p by unfold Zs;rw[(NX (Fw h1 h5) (Fw h3 h6)).trans (A1 lU)])
      have nE:=(show PC 307 [.slice .none (((((AH (H a) p).map M)++((AH (H b) p).map M))++[[vs p,I true,sl Y (E3 t.set u.set)]]))] (.tup [sl M (H (FF a b p t u)),I (Bj (FF a b p t u)).isSome])from by rw[eL];exact OI (FF a b p t u) ye yf);rw[show(Bj (FF a b p t u)).isSome=false from lU]at nE;refine U nE (J aa4 (cU [(9,I false),(17,sl M (H (FF a b p t u)))] [] Z2 W ?_))
      exact Fo ((NX (Fw h1 h5) (Fw h3 h6)).trans (AL aa0))
     refine U (ra [t.set,u.set] aa0 hUf) ?_;refine yN (J aa4 (cU [(2,vs p),(8,sl M (H a)),(10,sl M (H b)),(16,.ref 16 0)] [(16,.cells [vs p,I false,sl Y (E3 t.set u.set)])] Z4 Z1 (Z _ (U aa4 (J (mw (H a) Wk p) (U (vH (H b) Wk p) ?_))))));have b23:A7 3 ((AH (H b) p).map M)/\((AH (H a) p).map M).length=((AH (H a) p).map M).length/\(((AH (H a) p).map M).length+((AH (H b) p).map M).length)*48<=140737488355328/\((AH (H a) p).map M).length+((AH (H b) p).map M).length<=9223372036854775807:=⟨(B8 (enc:=M) (n:=3) (fun _=>rfl) (AH (H b) p)),rfl,aa2,aa2⟩;refine J b23 (yN ?_);have b24:A7 3 [[vs p,I false,sl Y (E3 t.set u.set)]]/\((((AH (H a) p).map M)++((AH (H b) p).map M)):C0).length=(((AH (H a) p).map M).length+((AH (H b) p).map M).length)/\(((((AH (H a) p).map M)++((AH (H b) p).map M)):C0).length+([[vs p,I false,sl Y (E3 t.set u.set)]]:C0).length)*48<=140737488355328/\((((AH (H a) p).map M)++((AH (H b) p).map M)):C0).length+([[vs p,I false,sl Y (E3 t.set u.set)]]:C0).length<=9223372036854775807:=⟨⟨rfl,trivial⟩,aa1,aa2,aa2⟩;refine J b24 ?_;have eL:((((AH (H a) p).map M)++((AH (H b) p).map M))++[[vs p,I false,sl Y (E3 t.set u.set)]])=(FF a b p t u).map M:=by
      have e1:M (CP t u)=[vs p,I (t.absent||u.absent),sl Y (E3 t.set u.set)]:=by rw[<-htp];rfl
      simp_all
     refine Ay (Bt ((Bj (FF a b p t u)).isSome)) (fun Wb=>?_) (fun Wb=>?_)
     .have Aa7:=(show PC 307 [.slice .none (((((AH (H a) p).map M)++((AH (H b) p).map M))++[[vs p,I false,sl Y (E3 t.set u.set)]]))] (.tup [sl M (H (FF a b p t u)),I (Bj (FF a b p t u)).isSome])from by rw[eL];exact OI (FF a b p t u) ye yf);rw[show(Bj (FF a b p t u)).isSome=true from Wb]at Aa7;refine U Aa7 (J aa4 (cU [(9,I true),(17,sl M (H (FF a b p t u)))] [] Z2 W ?_))
      exact .of_eq (show AV.tup [sl M (H (FF a b p t u)),G 0]=Zs a b p by unfold Zs;rw[(NX (Fw h1 h5) (Fw h3 h6)).trans (A1 Wb)])
     have Qo:=(show PC 307 [.slice .none (((((AH (H a) p).map M)++((AH (H b) p).map M))++[[vs p,I false,sl Y (E3 t.set u.set)]]))] (.tup [sl M (H (FF a b p t u)),I (Bj (FF a b p t u)).isSome])from by rw[eL];exact OI (FF a b p t u) ye yf);rw[show(Bj (FF a b p t u)).isSome=false from Wb]at Qo;refine U Qo (J aa4 (cU [(9,I false),(17,sl M (H (FF a b p t u)))] [] Z2 W ?_))
     exact Fo ((NX (Fw h1 h5) (Fw h3 h6)).trans (AL aa0))
    have UO:=JG (H b) (by grind [DO]) p;rw[h6]at UO;refine C1 (U UO (yN (cU [(2,vs p),(8,sl M (H a)),(9,I true),(10,sl M (H b)),(11,I true),(12,.ref 12 0),(13,I true),(14,.ref 14 0),(15,I false)] [(12,.cells (M t)),(14,.cells [vs ⟨#[]⟩,I false,BY])] Z9 Z2 (cU [] [] W W ?_))))
    exact Fo (Zt (Kh h6))
   have SC:=JG (H a) (by grind [DO]) p;rw[h5]at SC;refine C1 (U SC (yN (Ay (CU ((H b).find? (fun t=>decide (t.path=p)))) (fun Tc=>?_) (fun Tc=>?_))))
   .refine Al Tc (fun u Tc=>?_);have nG:=JG (H b) (by grind [DO]) p;rw[Tc]at nG;refine C1 (U nG (yN (cU [(2,vs p),(8,sl M (H a)),(9,I true),(10,sl M (H b)),(11,I true),(12,.ref 12 0),(13,I false),(14,.ref 14 0),(15,I true)] [(12,.cells [vs ⟨#[]⟩,I false,BY]),(14,.cells (M u))] Z9 Z2 (cU [] [] W W ?_))))
    exact Fo (HD (Kh h5))
   have nG:=JG (H b) (by grind [DO]) p;rw[Tc]at nG;refine C1 (U nG (yN (cU [(2,vs p),(8,sl M (H a)),(9,I true),(10,sl M (H b)),(11,I true),(12,.ref 12 0),(13,I false),(14,.ref 14 0),(15,I false)] [(12,.cells [vs ⟨#[]⟩,I false,BY]),(14,.cells [vs ⟨#[]⟩,I false,BY])] Z9 Z2 (cU [] [] W W ?_))))
   exact Fo (HD (Kh h5))
  have Aac:=(show PC 307 [sl M b] (.tup [sl M (H b),I (Bj b).isSome])from OI b (K8 hb) hb.2);rw[show(Bj b).isSome=false from h3]at Aac;refine C1 (U Aac (cU [(2,vs p),(8,sl M (H a)),(9,I true),(10,sl M (H b)),(11,I false)] [] Z5 W (Ay (CU ((H a).find? (fun t=>decide (t.path=p)))) (fun Wq=>?_) (fun Wq=>?_))))
  .refine Al Wq (fun t Wq=>?_);have nH:=JG (H a) (by grind [DO]) p;rw[Wq]at nH;refine C1 (U nH (yN (Ay (CU ((H b).find? (fun t=>decide (t.path=p)))) (fun zK=>?_) (fun zK=>?_))))
   .refine Al zK (fun u zK=>?_);have Td:=JG (H b) (by grind [DO]) p;rw[zK]at Td;refine C1 (U Td (yN (cU [(2,vs p),(8,sl M (H a)),(9,I true),(10,sl M (H b)),(11,I false),(12,.ref 12 0),(13,I true),(14,.ref 14 0),(15,I true)] [(12,.cells (M t)),(14,.cells (M u))] Z9 Z2 (cU [] [] W W ?_))))
    exact Fo (Zt (Hz h3))
   have Td:=JG (H b) (by grind [DO]) p;rw[zK]at Td;refine C1 (U Td (yN (cU [(2,vs p),(8,sl M (H a)),(9,I true),(10,sl M (H b)),(11,I false),(12,.ref 12 0),(13,I true),(14,.ref 14 0),(15,I false)] [(12,.cells (M t)),(14,.cells [vs ⟨#[]⟩,I false,BY])] Z9 Z2 (cU [] [] W W ?_))))
   exact Fo (Zt (Hz h3))
  have nH:=JG (H a) (by grind [DO]) p;rw[Wq]at nH;refine C1 (U nH (yN (Ay (CU ((H b).find? (fun t=>decide (t.path=p)))) (fun jW=>?_) (fun jW=>?_))))
  .refine Al jW (fun u jW=>?_);have nI:=JG (H b) (by grind [DO]) p;rw[jW]at nI;refine C1 (U nI (yN (cU [(2,vs p),(8,sl M (H a)),(9,I true),(10,sl M (H b)),(11,I false),(12,.ref 12 0),(13,I false),(14,.ref 14 0),(15,I true)] [(12,.cells [vs ⟨#[]⟩,I false,BY]),(14,.cells (M u))] Z9 Z2 (cU [] [] W W ?_))))
   exact Fo (HD (Kh Wq))
  have nI:=JG (H b) (by grind [DO]) p;rw[jW]at nI;refine C1 (U nI (yN (cU [(2,vs p),(8,sl M (H a)),(9,I true),(10,sl M (H b)),(11,I false),(12,.ref 12 0),(13,I false),(14,.ref 14 0),(15,I false)] [(12,.cells [vs ⟨#[]⟩,I false,BY]),(14,.cells [vs ⟨#[]⟩,I false,BY])] Z9 Z2 (cU [] [] W W ?_))))
  exact Fo (HD (Kh Wq))
 have Aad:=(show PC 307 [sl M a] (.tup [sl M (H a),I (Bj a).isSome])from OI a (K8 ha) ha.2);rw[show(Bj a).isSome=false from h1]at Aad;refine C1 (U Aad (Ay (Bt ((Bj b).isSome)) (fun nw=>?_) (fun nw=>?_)))
 .have Aae:=(show PC 307 [sl M b] (.tup [sl M (H b),I (Bj b).isSome])from OI b (K8 hb) hb.2);rw[show(Bj b).isSome=true from nw]at Aae;refine C1 (U Aae (cU [(2,vs p),(8,sl M (H a)),(9,I false),(10,sl M (H b)),(11,I true)] [] Z5 W (Ay (CU ((H a).find? (fun t=>decide (t.path=p)))) (fun wv=>?_) (fun wv=>?_))))
  .refine Al wv (fun t wv=>?_);have nJ:=JG (H a) (by grind [DO]) p;rw[wv]at nJ;refine C1 (U nJ (yN (Ay (CU ((H b).find? (fun t=>decide (t.path=p)))) (fun zL=>?_) (fun zL=>?_))))
   .refine Al zL (fun u zL=>?_);have nK:=JG (H b) (by grind [DO]) p;rw[zL]at nK;refine C1 (U nK (yN (cU [(2,vs p),(8,sl M (H a)),(9,I false),(10,sl M (H b)),(11,I true),(12,.ref 12 0),(13,I true),(14,.ref 14 0),(15,I true)] [(12,.cells (M t)),(14,.cells (M u))] Z9 Z2 (cU [] [] W W ?_))))
    exact Fo (HD (Hz h1))
   have nK:=JG (H b) (by grind [DO]) p;rw[zL]at nK;refine C1 (U nK (yN (cU [(2,vs p),(8,sl M (H a)),(9,I false),(10,sl M (H b)),(11,I true),(12,.ref 12 0),(13,I true),(14,.ref 14 0),(15,I false)] [(12,.cells (M t)),(14,.cells [vs ⟨#[]⟩,I false,BY])] Z9 Z2 (cU [] [] W W ?_))))
   exact Fo (HD (Hz h1))
  have nJ:=JG (H a) (by grind [DO]) p;rw[wv]at nJ;refine C1 (U nJ (yN (Ay (CU ((H b).find? (fun t=>decide (t.path=p)))) (fun rQ=>?_) (fun rQ=>?_))))
  .refine Al rQ (fun u rQ=>?_);have nL:=JG (H b) (by grind [DO]) p;rw[rQ]at nL;refine C1 (U nL (yN (cU [(2,vs p),(8,sl M (H a)),(9,I false),(10,sl M (H b)),(11,I true),(12,.ref 12 0),(13,I false),(14,.ref 14 0),(15,I true)] [(12,.cells [vs ⟨#[]⟩,I false,BY]),(14,.cells (M u))] Z9 Z2 (cU [] [] W W ?_))))
   exact Fo (HD (Hz h1))
  have nL:=JG (H b) (by grind [DO]) p;rw[rQ]at nL;refine C1 (U nL (yN (cU [(2,vs p),(8,sl M (H a)),(9,I false),(10,sl M (H b)),(11,I true),(12,.ref 12 0),(13,I false),(14,.ref 14 0),(15,I false)] [(12,.cells [vs ⟨#[]⟩,I false,BY]),(14,.cells [vs ⟨#[]⟩,I false,BY])] Z9 Z2 (cU [] [] W W ?_))))
  exact Fo (HD (Hz h1))
 have Aaf:=(show PC 307 [sl M b] (.tup [sl M (H b),I (Bj b).isSome])from OI b (K8 hb) hb.2);rw[show(Bj b).isSome=false from nw]at Aaf;refine C1 (U Aaf (cU [(2,vs p),(8,sl M (H a)),(9,I false),(10,sl M (H b)),(11,I false)] [] Z5 W (Ay (CU ((H a).find? (fun t=>decide (t.path=p)))) (fun zM=>?_) (fun zM=>?_))))
 .refine Al zM (fun t zM=>?_);have Wr:=JG (H a) (by grind [DO]) p;rw[zM]at Wr;refine C1 (U Wr (yN (Ay (CU ((H b).find? (fun t=>decide (t.path=p)))) (fun zN=>?_) (fun zN=>?_))))
  .refine Al zN (fun u zN=>?_);have nM:=JG (H b) (by grind [DO]) p;rw[zN]at nM;refine C1 (U nM (yN (cU [(2,vs p),(8,sl M (H a)),(9,I false),(10,sl M (H b)),(11,I false),(12,.ref 12 0),(13,I true),(14,.ref 14 0),(15,I true)] [(12,.cells (M t)),(14,.cells (M u))] Z9 Z2 (cU [] [] W W ?_))))
   exact Fo (HD (Hz h1))
  have nM:=JG (H b) (by grind [DO]) p;rw[zN]at nM;refine C1 (U nM (yN (cU [(2,vs p),(8,sl M (H a)),(9,I false),(10,sl M (H b)),(11,I false),(12,.ref 12 0),(13,I true),(14,.ref 14 0),(15,I false)] [(12,.cells (M t)),(14,.cells [vs ⟨#[]⟩,I false,BY])] Z9 Z2 (cU [] [] W W ?_))))
  exact Fo (HD (Hz h1))
 have Wr:=JG (H a) (by grind [DO]) p;rw[zM]at Wr;refine C1 (U Wr (yN (Ay (CU ((H b).find? (fun t=>decide (t.path=p)))) (fun zO=>?_) (fun zO=>?_))))
 .refine Al zO (fun u zO=>?_);have nN:=JG (H b) (by grind [DO]) p;rw[zO]at nN;refine C1 (U nN (yN (cU [(2,vs p),(8,sl M (H a)),(9,I false),(10,sl M (H b)),(11,I false),(12,.ref 12 0),(13,I false),(14,.ref 14 0),(15,I true)] [(12,.cells [vs ⟨#[]⟩,I false,BY]),(14,.cells (M u))] Z9 Z2 (cU [] [] W W ?_))))
  exact Fo (HD (Hz h1))
 have nN:=JG (H b) (by grind [DO]) p;rw[zO]at nN;refine C1 (U nN (yN (cU [(2,vs p),(8,sl M (H a)),(9,I false),(10,sl M (H b)),(11,I false),(12,.ref 12 0),(13,I false),(14,.ref 14 0),(15,I false)] [(12,.cells [vs ⟨#[]⟩,I false,BY]),(14,.cells [vs ⟨#[]⟩,I false,BY])] Z9 Z2 (cU [] [] W W ?_))))
 exact Fo (HD (Hz h1))
theorem tj{n:Int}(q:Rq)(h:0<=n/\n<1000000):H [⟨p,false,Z0 n⟩,⟨q.path,true,BW q.set⟩]=BU p n q:=by
 grind [BU,DG,pd,ai,rU]
theorem xD{x:List Rl}{n:Int}{r:Rl}(h:Dt x p n=some r):r∈x/\plc r.ver=n:=by
 have h1:=FI h;simp only[Aq,A4]at h1;exact⟨Bh h,h1.2⟩
abbrev U2(d:List (List Tm))(i:Nf):AV:=.tup [sl M (FS x roots d i),I (AR x roots d i).isSome]
section
variable {x:List Rl}{roots:List Rq}{d:List (List Tm)}{i:Nf}
theorem GB(h:AR x roots d i=none)(h2:i.kind≠2):CD (.tup [BY,I false]) (U2 x roots d i):=
 (show CD (.tup [BY,I false]) (.tup [.slice .none [],I false])from CD.tup ⟨.nil,.refl _,trivial⟩).trans (.of_eq (show AV.tup [.slice .none [],I false]=U2 x roots d i by grind [bt]))
theorem br{t:List Tm}(h:AR x roots d i=none)(h2:i.kind≠2)(ht:t=[]):CD (.tup [sl M t,I false]) (U2 x roots d i):=
 .of_eq (show AV.tup [sl M t,I false]=U2 x roots d i by grind [bt])
theorem U3{t:List Tm}(h:AR x roots d i=some t)(h2:i.kind≠2):CD (.tup [sl M t,I true]) (U2 x roots d i):=
 .of_eq (show AV.tup [sl M t,I true]=U2 x roots d i by grind [ot])
theorem w8{b:Bool}(h2:i.kind=2)(hb:b=false)(h:AR x roots d i=none):CD (.tup [sl M (Eh i.path (Ba x i.path)),I b]) (U2 x roots d i):=
 .of_eq (show AV.tup [sl M (Eh i.path (Ba x i.path)),I b]=U2 x roots d i by grind [FS])
theorem su(h2:i.kind=2)(h:AR x roots d i=some (Eh i.path (Ba x i.path))):CD (.tup [sl M (Eh i.path (Ba x i.path)),I true]) (U2 x roots d i):=
 .of_eq (show AV.tup [sl M (Eh i.path (Ba x i.path)),I true]=U2 x roots d i by grind [FS])
theorem c38(x:List Rl)(ifs:C0)(roots:List Rq)(d:List (List Tm))(i:Nf)(h0:Aw x=0)(hx:∀r∈x,Eo r)(yu:∀q∈roots,BF q.set)(hdF:∀t∈d,Wg t):PC 167 [.agg (Ic x ifs),sl Ac roots,.agg (AG i),sl F d] (U2 x roots d i):=by
 have hxf:BF x:=by grind [Fi]
 have hv:∀r∈x,Bv r.ver=true:=fun r hr=>((Bp h0).1 r hr).val;have hxq:∀r∈x,∀q∈r.reqs,BF q.set:=fun r hr q hq=>((hx r hr).2 q hq).1;refine Ps (pC [] [3,6,7,10,11,12,13,14,17,20,22,23,24,25]) func167 rfl C4 (yN (cU [(1,sl Ac roots),(3,sl F d),(4,.ref 4 0),(6,.ref 6 0),(10,.ref 10 0),(21,G i.kind)] [(4,.cells (Ic x ifs)),(6,.cells (AG i)),(10,.cells [G i.kind,vs ⟨#[]⟩,G 0,G 0,G 0,G 0])] Z6 Z3 (J (fun h1=>?_) (fun h1=>?_))))
 .refine yN (yN (yN (J (fun h2=>?_) (fun h2=>?_))))
  .refine J (fun h3=>?_) (fun h3=>?_)
   .refine cU [] [] W W ?_
    exact GB (show AR x roots d i=none by rw[sr h1,A1 ⟨h2.2.1,h2.2.2.1,h2.2.2.2.2.1,h2.2.2.2.2.2.1⟩];rw[QH h3];rfl) Wk
   refine J (fun h5=>?_) (fun h5=>?_)
   .refine cU [] [] W W ?_
    exact GB (show AR x roots d i=none by rw[sr h1,A1 ⟨h2.2.1,h2.2.2.1,h2.2.2.2.2.1,h2.2.2.2.2.2.1⟩];rw[QF (by simpa using h5)];rfl) Wk
   have hnq:¬((roots.length:Nat):Int)<=i.number:=by simpa using h5
   refine Al (QG h3 hnq) (fun q wS=>?_);have hq:=wS.1;have hqg:=wS.2.1;have uL:=wS.2.2;refine cU [(1,sl Ac roots),(6,.ref 6 0)] [(6,.cells (AG i))] Z2 Z1 (Z (Ac q) (J (J (show(0:Int)<=i.number by omega) (Br hqg)) (J rfl (yN (C1 (U (c69 OI q (yu q uL)) ?_))))));exact U3 (show AR x roots d i=some (GE q) by rw[sr h1,A1 ⟨h2.2.1,h2.2.2.1,h2.2.2.2.2.1,h2.2.2.2.2.2.1⟩];rw[hq];rfl) Wk
  refine cU [] [] W W ?_
  exact GB (show AR x roots d i=none by rw[sr h1];exact AL (fun hq=>h2 ⟨rfl,hq.1,hq.2.1,rfl,hq.2.2.1,hq.2.2.2,trivial⟩)) Wk
 refine J (fun h9=>?_) (fun h9=>?_)
 .refine yN (yN (yN (J aa4 (cU [(4,.ref 4 0),(6,.ref 6 0),(10,.ref 10 0)] [(4,.cells (Ic x ifs)),(6,.cells (AG i)),(10,.cells [G i.kind,vs i.path,G i.place,G i.number,G 0,G 0])] Z3 Z3 (yN (Ay (CU (Dt x i.path i.place)) (fun JN=>?_) (fun JN=>?_)))))))
  .refine Al JN (fun r JN=>?_);have MU:=c70 x ifs i.path i.place hxf hv;rw[JN]at MU;refine C1 (U MU (yN (cU [(6,.ref 6 0),(10,.ref 10 0),(11,.ref 11 0),(12,I true)] [(6,.cells (AG i)),(10,.cells [G i.kind,vs i.path,G i.place,G i.number,G 0,G 0]),(11,.cells (V r))] Z4 Z3 (yN (yN (J (fun F4=>?_) (fun F4=>?_)))))))
   .have F4:(i.kind:Int)=i.kind/\(i.path:CS)=i.path/\(i.place:Int)=i.place/\(i.number:Int)=i.number/\(i.left:Int)=0/\(i.right:Int)=0/\True:=F4;refine J (fun GH=>?_) (fun GH=>?_)
    .have GH:(i.number:Int)<(0:Int):=GH;refine cU [] [] W W ?_
     exact GB (show AR x roots d i=none by grind [eZ,QH]) Wk
    have GH:¬((i.number:Int)<(0:Int)):=GH;refine J (fun LA=>?_) (fun LA=>?_)
    .have LA:((r.reqs.map Ac).length:Int)<=(i.number:Int):=LA;refine cU [] [] W W ?_
     exact GB (show AR x roots d i=none by grind [eZ,QF]) Wk
    have LA:¬(((r.reqs.map Ac).length:Int)<=(i.number:Int)):=LA;have hnq:¬((r.reqs.length:Nat):Int)<=i.number:=aa0
    refine Al (QG GH hnq) (fun q wS=>?_);have hq:=wS.1;have hqg:=wS.2.1;have uL:=wS.2.2;have qB:=xD JN;have hpr:=TM r.ver;rw[qB.2]at hpr;have hqF:BF q.set:=(hxq r qB.1 q uL);have AeG:PC 245 [vs i.path,G i.place,.agg (Ac q)] (sl M (BU i.path i.place q)):=by
     grind [tj,c71,OI]
    refine cU [(6,.ref 6 0),(11,.ref 11 0)] [(6,.cells (AG i)),(11,.cells (V r))] Z2 Z2 (Z (Ac q) (J (J (show(0:Int)<=i.number by omega) (Br hqg)) (J rfl (yN (U AeG (J aa4 (cU [(13,sl M (BU i.path i.place q))] [] Z1 W (J (fun MQ=>?_) (fun MQ=>?_)))))))))
    .have MQ:(0:Int)<(((BU i.path i.place q).map M).length:Int):=MQ;have n16:0<(BU i.path i.place q).length:=aa0
     have g16:(BU i.path i.place q)[0]?=some (BU i.path i.place q)[0]:=Ge n16;exact U3 (show AR x roots d i=some (BU i.path i.place q) by grind [eZ,Ph]) Wk
    have MQ:¬((0:Int)<(((BU i.path i.place q).map M).length:Int)):=MQ;have n16:¬0<(BU i.path i.place q).length:=aa0
    have e0:BU i.path i.place q=[]:=Az Wk;have e1:AR x roots d i=none:=by grind [eZ,Ph]
    exact br e1 Wk e0
   have F4:¬((i.kind:Int)=i.kind/\(i.path:CS)=i.path/\(i.place:Int)=i.place/\(i.number:Int)=i.number/\(i.left:Int)=0/\(i.right:Int)=0/\True):=F4;refine cU [] [] W W ?_
   exact GB (show AR x roots d i=none by grind [eZ]) Wk
  have MU:=c70 x ifs i.path i.place hxf hv;rw[JN]at MU;refine C1 (U MU (yN (cU [(6,.ref 6 0),(10,.ref 10 0),(11,.ref 11 0),(12,I false)] [(6,.cells (AG i)),(10,.cells [G i.kind,vs i.path,G i.place,G i.number,G 0,G 0]),(11,.cells [vs ⟨#[]⟩,G 0,G 0,G 0,BY,vs ⟨#[]⟩,vs ⟨#[]⟩,vs ⟨#[]⟩,I false])] Z4 Z3 (yN (yN (J (fun jV=>?_) (fun jV=>?_)))))))
  .have jV:(i.kind:Int)=i.kind/\(i.path:CS)=i.path/\(i.place:Int)=i.place/\(i.number:Int)=i.number/\(i.left:Int)=0/\(i.right:Int)=0/\True:=jV;refine cU [] [] W W ?_
   exact GB (show AR x roots d i=none by grind [eZ]) Wk
  have jV:¬((i.kind:Int)=i.kind/\(i.path:CS)=i.path/\(i.place:Int)=i.place/\(i.number:Int)=i.number/\(i.left:Int)=0/\(i.right:Int)=0/\True):=jV;refine cU [] [] W W ?_
  exact GB (show AR x roots d i=none by grind [eZ]) Wk
 have h9:¬((i.kind:Int)=(1:Int)):=h9;refine J (fun d5=>?_) (fun d5=>?_)
 .have d5:(i.kind:Int)=(2:Int):=d5;refine yN (cU [(4,.ref 4 0),(6,.ref 6 0),(10,.ref 10 0)] [(4,.cells (Ic x ifs)),(6,.cells (AG i)),(10,.cells [G i.kind,vs i.path,G 0,G 0,G 0,G 0])] Z3 Z3 (yN (U (c73 x ifs i.path hx) (U (c72 OI i.path (Ba x i.path) (PN _)) (yN (yN (J (fun d6=>?_) (fun d6=>?_))))))))
  .have d6:(i.kind:Int)=i.kind/\(i.path:CS)=i.path/\(i.place:Int)=0/\(i.number:Int)=0/\(i.left:Int)=0/\(i.right:Int)=0/\True:=d6;refine J aa4 ?_;exact su d5 (show AR x roots d i=some (Eh i.path (Ba x i.path)) by grind [w7,xk,sQ,Fi])
  have d6:¬((i.kind:Int)=i.kind/\(i.path:CS)=i.path/\(i.place:Int)=0/\(i.number:Int)=0/\(i.left:Int)=0/\(i.right:Int)=0/\True):=d6;refine J aa4 ?_;exact w8 d5 aa3 (show AR x roots d i=none by grind [w7])
 have d5:¬((i.kind:Int)=(2:Int)):=d5;refine J (fun MR=>?_) (fun MR=>?_)
 .have MR:(i.kind:Int)=(3:Int):=MR;refine yN (yN (yN (J aa4 (cU [(3,sl F d),(6,.ref 6 0),(10,.ref 10 0)] [(6,.cells (AG i)),(10,.cells [G i.kind,vs i.path,G 0,G 0,G i.left,G i.right])] Z3 Z2 (yN (yN (J (fun Xe=>?_) (fun Xe=>?_))))))))
  .have Xe:(i.kind:Int)=i.kind/\(i.path:CS)=i.path/\(i.place:Int)=0/\(i.number:Int)=0/\(i.left:Int)=i.left/\(i.right:Int)=i.right/\True:=Xe;refine J (fun Wd=>?_) (fun Wd=>?_)
   .have Wd:(i.left:Int)<(0:Int):=Wd;refine cU [] [] W W ?_
    exact GB (show AR x roots d i=none by grind [fb,QH]) Wk
   have Wd:¬((i.left:Int)<(0:Int)):=Wd;refine J (fun Tc=>?_) (fun Tc=>?_)
   .have Tc:((d.map F).length:Int)<=(i.left:Int):=Tc;refine cU [] [] W W ?_
    exact GB (show AR x roots d i=none by grind [fb,QF]) Wk
   have Tc:¬(((d.map F).length:Int)<=(i.left:Int)):=Tc;have wM:¬((d.length:Nat):Int)<=i.left:=aa0
   refine Al (QG Wd wM) (fun ta eX=>?_);have hta:=eX.1;have wW:=eX.2.1;have sf:=eX.2.2;refine J (fun Ts=>?_) (fun Ts=>?_)
   .have Ts:(i.right:Int)<(0:Int):=Ts;refine cU [] [] W W ?_
    exact GB (show AR x roots d i=none by grind [fb,QH]) Wk
   have Ts:¬((i.right:Int)<(0:Int)):=Ts;refine J (fun Wq=>?_) (fun Wq=>?_)
   .have Wq:((d.map F).length:Int)<=(i.right:Int):=Wq;refine cU [] [] W W ?_
    exact GB (show AR x roots d i=none by grind [fb,QF]) Wk
   have Wq:¬(((d.map F).length:Int)<=(i.right:Int)):=Wq;have Afd:¬((d.length:Nat):Int)<=i.right:=aa0
   refine Al (QG Ts Afd) (fun tb wX=>?_);have htb:=wX.1;have Afz:=wX.2.1;have AfA:=wX.2.2;refine cU [(3,sl F d),(6,.ref 6 0)] [(6,.cells (AG i))] Z2 Z1 (Z (F ta) (J (J (show(0:Int)<=i.left by omega) (Br wW)) (J rfl (Z (F tb) (J (J (show(0:Int)<=i.right by omega) (Br Afz)) (J rfl (U (c74 ta tb i.path (hdF ta sf) (hdF tb AfA)) (J aa4 (cU [(15,sl M ((AU ta tb i.path).1)),(16,G ((AU ta tb i.path).2))] [] Z2 W (J (fun lV=>?_) (fun lV=>?_)))))))))))
   .have lV:((AU ta tb i.path).2:Int)=(0:Int):=lV;exact U3 (show AR x roots d i=some (AU ta tb i.path).1 by grind [fb]) Wk
   have lV:¬(((AU ta tb i.path).2:Int)=(0:Int)):=lV;exact br (show AR x roots d i=none by grind [fb]) Wk (iJ lV)
  have Xe:¬((i.kind:Int)=i.kind/\(i.path:CS)=i.path/\(i.place:Int)=0/\(i.number:Int)=0/\(i.left:Int)=i.left/\(i.right:Int)=i.right/\True):=Xe;refine cU [] [] W W ?_
  exact GB (show AR x roots d i=none by grind [fb]) Wk
 have MR:¬((i.kind:Int)=(3:Int)):=MR;refine cU [] [] W W ?_
 exact GB (show AR x roots d i=none by grind [AfG]) Wk
end
abbrev ry:AV:=.tup [sl F (A5 x roots l).1,G (A5 x roots l).2]
theorem Yu{x:List Rl}{roots:List Rq}{l:List Nf}(h:A5 x roots l=([],e)):CD (.tup [BY,G e]) (ry x roots l):=
 (show CD (.tup [BY,G e]) (.tup [.slice .none [],G e])from CD.tup ⟨.nil,.refl _,trivial⟩).trans (.of_eq (show AV.tup [.slice .none [],G e]=ry x roots l by simp_all))
theorem LJ:A5 x roots l=if Aw x≠0\/AK roots≠0 then([],(1:Int))else if 65536<l.length then([],(7:Int))else match BI x roots l []with | none=>([],(18:Int)) | some d=>(d,(0:Int)):=rfl
theorem PW{x:List Rl}{roots:List Rq}{l:List Nf}:∀t∈(A5 x roots l).1,Rb t:=by
 grind [Sv,dP]
theorem gz{a b:Int}(h:(decide (a=0)&&decide (b=0))=true):a=0/\b=0:=aa0
theorem c13(hx:∀r∈x,Eo r)(hr:∀q∈roots,G5 q):PC 92 [.agg (Ic x ifs),sl Ac roots,sl AG l] (ry x roots l):=by
 refine Ps (pC [] [3,8,10]) func92 rfl C4 (yN (Ay (Bt (decide (Aw x=0)&&decide (AK roots=0))) (fun h1=>?_) (fun h1=>?_)))
 .have SB:=c37 x ifs roots hx hr;rw[show(decide (Aw x=0)&&decide (AK roots=0))=true from h1]at SB;refine C1 (U SB (cU [(1,sl Ac roots),(2,sl AG l),(3,.ref 3 0)] [(3,.cells (Ic x ifs))] Z3 Z1 (J (fun h3=>?_) (fun h3=>?_))))
  .have n3:65536<l.length:=aa2
   exact Yu (by grind [LJ])
  have n3:¬65536<l.length:=aa2
  have hb3:l.length<=65536:=Wk
  have e0:Aw x=0:=(gz h1).1;have hU:=L1 (x:=x) (roots:=roots) (l:=l) e0 (gz h1).2 hb3;refine Z {q:Nat×List (List Tm) // q.1<=l.length/\BI x roots (l.take q.1) []=some q.2/\q.2.length=q.1/\∀t∈q.2,Si (HM x roots l) t} (Z (fun q=>⟨[(1,sl Ac roots),(2,sl AG l),(3,.ref 3 0),(8,.slice (.id 19 1) (q.1.2.map F)),(9,G q.1.1)],[(3,.cells (Ic x ifs)),(19,.tok 1 q.1.2.length)],Af⟩) (Z (fun q=>l.length-q.1.1) (J (Z ⟨(0,[]),Ak _,rfl,rfl,fun t ht=>by cases ht⟩ ?_) ?_)))
  .exact⟨Z5,Z2,Fh,W⟩
  intro⟨⟨i,D⟩,i1,i2,i3,i4⟩;refine J (fun h5=>?_) (fun h5=>?_)
  .have n5:i<l.length:=aa0
   have g5:l[i]?=some l[i]:=Ge n5;refine yN (Z (AG l[i]) (J (J (Nn i) (Br g5)) (J rfl (yN (Ay (Bt (AR x roots D l[i]).isSome) (fun h6=>?_) (fun h6=>?_))))))
   .have hc7:=(show PC 167 [GM x ifs,sl Ac roots,.agg (AG l[i]),sl F D] (.tup [sl M (FS x roots D l[i]),I (AR x roots D l[i]).isSome])from c38 x ifs roots D l[i] e0 hx (fun q hq=>(hr q hq).1) (fun t ht=>(i4 t ht).fewI hU));rw[show(AR x roots D l[i]).isSome=true from h6]at hc7;refine U hc7 (J aa4 (cU [(1,sl Ac roots),(2,sl AG l),(3,.ref 3 0),(8,.slice (.id 19 1) (D.map F)),(9,G i),(10,sl M (FS x roots D l[i])),(11,I true)] [(3,.cells (Ic x ifs)),(19,.tok 1 D.length)] Z7 Z2 ?_))
    have b8:A7 1 [[sl M (FS x roots D l[i])]]/\(D.map F).length=D.length/\((D.map F).length+([[sl M (FS x roots D l[i])]]:C0).length)*24<=140737488355328/\(D.map F).length+([[sl M (FS x roots D l[i])]]:C0).length<=9223372036854775807:=⟨⟨rfl,trivial⟩,aa1,aa2,aa2⟩;refine J b8 (cU [(1,sl Ac roots),(2,sl AG l),(3,.ref 3 0),(8,.slice (.id 19 1) ((D.map F)++[[sl M (FS x roots D l[i])]])),(9,G i)] [(3,.cells (Ic x ifs)),(19,.tok 1 ((D.map F).length+([[sl M (FS x roots D l[i])]]:C0).length))] Z5 Z2 (J (by grind [Au]) (Al (G6.1 h6) (fun t ht=>?_))));have etl:=kp ht;have uE:=YI n5 i2;rw[ht]at uE;refine Z ⟨(i+1,(D++[t])),by omega,uE,by simp_all,fun u hu=>(Bc.1 hu).elim (i4 u) (fun hu=>by rw[AI.1 hu];exact NE (Ag n5) i4 ht)⟩ ?_;exact⟨Dl l.length i Wk,⟨X,X,X,⟨(show AV.slice (.id 19 1) (D.map F++[[sl M (FS x roots D l[i])]])=.slice (.id 19 1) ((D++[t]).map F) by simp_all),rfl⟩,X,W⟩,⟨X,⟨(show HO.tok 1 ((D.map F).length+([[sl M (FS x roots D l[i])]]:C0).length)=.tok 1 (D++[t]).length by simp_all),rfl⟩,W⟩,Fh,W⟩
   have MU:=(show PC 167 [GM x ifs,sl Ac roots,.agg (AG l[i]),sl F D] (.tup [sl M (FS x roots D l[i]),I (AR x roots D l[i]).isSome])from c38 x ifs roots D l[i] e0 hx (fun q hq=>(hr q hq).1) (fun t ht=>(i4 t ht).fewI hU));rw[show(AR x roots D l[i]).isSome=false from h6]at MU;refine U MU (J aa4 (cU [(1,sl Ac roots),(2,sl AG l),(3,.ref 3 0),(8,.slice (.id 19 1) (D.map F)),(9,G i),(10,sl M (FS x roots D l[i])),(11,I false)] [(3,.cells (Ic x ifs)),(19,.tok 1 D.length)] Z7 Z2 ?_))
   have uE:=YI n5 i2;rw[show AR x roots D l[i]=none from Option.not_isSome_iff_eq_none.1 aa0]at uE;exact Yu (by grind [LJ,gM])
  have n5:¬i<l.length:=aa0
  rw[A3 Wk]at i2;exact .of_eq (show AV.tup [sl F D,G 0]=ry x roots l by grind [LJ])
 have Qn:=c37 x ifs roots hx hr;rw[show(decide (Aw x=0)&&decide (AK roots=0))=false from h1]at Qn;refine C1 (U Qn ?_);exact Yu (by grind [LJ])
theorem c16(hx:∀r∈x,Eo r)(hr:∀q∈roots,G5 q):PC 93 [.agg (Ic x ifs),sl Ac roots,sl AG l] (G (Gn x roots l)):=by
 have hdl:=Ul (x:=x) (roots:=roots) (l:=l);have hdm:((A5 x roots l).1.map F).length<=65536:=aa0
 refine Ps (pC [] [2,5,6]) func93 rfl C4 (yN (C1 (U (c13 x ifs roots l hx hr) (cU [(7,sl F (A5 x roots l).1),(8,G (A5 x roots l).2)] [] Z2 W (J (fun h1=>?_) (fun h1=>?_))))))
 .exact E G (show(A5 x roots l).2=Gn x roots l by grind [Gn])
 have h1:((A5 x roots l).2:Int)=(0:Int):=As h1;refine J (fun h3=>?_) (fun h3=>?_)
 .refine cU [] [] W W ?_
  have kd:(A5 x roots l).1=[]:=Az aa0;exact E G (show(18:Int)=Gn x roots l by grind [Gn,EN])
 have ER:(A5 x roots l).1≠[]:=fun e=>by simp_all
 refine Al (show ∃a t,(A5 x roots l).1=a++[t]from⟨_,_,(List.dropLast_concat_getLast ER).symm⟩) (fun a OU=>?_);refine Al OU (fun t OU=>?_);have hlz:(((A5 x roots l).1.map F).length:Int)=(a.length:Int)+1:=aa0
 have hgz:(A5 x roots l).1[((((A5 x roots l).1.map F).length:Int)-1).toNat]?=some t:=by
  simp_all
 refine J (by show Au ((((A5 x roots l).1.map F).length:Int)-(1:Int));unfold Au;omega) ?_;refine Z (F t) (J (J (show(0:Int)<=(((A5 x roots l).1.map F).length:Int)-1 by omega) (Br hgz)) (J rfl ?_));refine J (fun h5=>?_) (fun h5=>?_)
 .have n5:0<t.length:=aa0
  refine cU [] [] W W ?_;refine Al (show ∃u m,t=u::m by cases t<;>simp_all) (fun u hu=>?_)
  refine Al hu (fun m hu=>?_);exact E G (show(18:Int)=Gn x roots l by unfold Gn;rw[AL (MC h1),show EN (A5 x roots l).1=false by rw[OU,hu];unfold EN;simp_all];rfl)
 have n5:¬0<t.length:=aa0
 refine cU [] [] W W ?_
 have htn:t=[]:=Az Wk;exact E G (show(0:Int)=Gn x roots l by unfold Gn;rw[AL (MC h1),show EN (A5 x roots l).1=true by rw[OU,htn];unfold EN;simp_all];rfl)
theorem A6.to2{P:Program}{f:Nat}{h0:Nat->HO}{r0:AV}{H0:Nat->HO}{Q' : AV->(Nat->HO)->Prop}(h:A6 P f args h0 fun r h'=>r=r0/\h'=H0)(k:Q' r0 H0):A6 P f args h0 Q':=
 h.mono fun r h' q=>⟨r,.refl _,by rw[q.1,q.2];exact k⟩
theorem cb{f:Nat}{b x:Bool}(h:b=x)(hc:PC f args (I b)):PC f args (I x):=h▸hc
theorem FY{l:List α}(h:(i:Int)<((l.map f).length:Int)):i<l.length:=by rw[Lm]at h;omega
theorem El{l:List α}(h:¬(i:Int)<((l.map f).length:Int)):¬i<l.length:=by rw[Lm]at h;omega
theorem Ht{l:List α}(h:i<l.length):(0:Int)<=(i:Int)/\(l.map f)[((i:Nat):Int).toNat]?=some (f l[i]):=⟨Gd _,by rw[GO,Ct,Ge h];rfl⟩
theorem Yh{z:Nat}{x:List AV}(hx:x.length=n)(h:O.length<=2147483647)(hz:z<=65536) :
  A7 n [x]/\(O.map f).length=O.length/\((O.map f).length+([x]:C0).length)*z<=140737488355328/\(O.map f).length+([x]:C0).length<=9223372036854775807:=by
 refine⟨⟨hx,trivial⟩,Lm _,?_,?_⟩<;>rw[Lm]<;>simp only[Ec,If]
 .have:=Nat.mul_le_mul (show O.length+(0+1)<=2147483648 by omega) hz
  omega
 .omega
theorem tkA{x:α}{r:Nat}:AV.slice (.id r n) (O.map f++[f x])=.slice (.id r n) ((O++[x]).map f):=by rw[Bl];rfl
theorem hkA{x:α}{y:List AV}:HO.tok n ((O.map f).length+([y]:C0).length)=.tok n (O++[x]).length:=by rw[AD,Lm];rfl
end Go.Eng
