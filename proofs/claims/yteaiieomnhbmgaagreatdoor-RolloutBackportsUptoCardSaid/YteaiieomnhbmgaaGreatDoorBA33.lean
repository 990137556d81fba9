/- Lemmas 33. -/
import Derived.Test.YteaiieomnhbmgaaGreatDoorBA32
set_option maxHeartbeats 4000000
namespace Go.Eng
open Go.Proofs Go.Proofs.Tryz
variable {i:Nat}(x sx:List Rl)(ifs:C0)(a:Ad)(cl:List (List Rq))(e:Int)
theorem qu(q:List Rq)(HX:G1 x)(KM:G1 sx)(ha:FL a)(hq:∀z∈q,FA z):PC 71 [Fr x ifs,Fr sx ifs,.agg (AM a),sl As q] (lZ x sx a q):=by
 unfold lZ;cases hw:Ji x sx a q with
 |false=>rw[Az B7];exact Acj x sx ifs a q HX KM ha hq hw
 |true=>
  rw[Ay rfl];simp only[Ji,Am,EO,Bd,decide_eq_false_iff_not]at hw;obtain⟨⟨c1,c2⟩,c3⟩:=hw;obtain⟨k,hk,h1,h2⟩:=VL c1 c2;obtain⟨m1,m2,m3⟩:=ig c1 c2;have HF:(Cf x q)[k].path=a.path:=by
   rcases Xc (fg a) (Cf x q)with ⟨j,y,e1,e2,e3⟩ | ⟨e1,_⟩
   .rw[e1]at h1;have e:j=k:=by omega
    subst e;rw[Ge hk]at e2;rw[DW e2];have q:=DV e3;exact AW (show decide (y.path=a.path)=true from q)
   .rw[e1]at h1;omega
  have yS:∀j (h:j<k),¬(Cf x q)[j].path=a.path:=fun j h e=>by
   skip
   have inc:=(pE HX.len c1).inc;have q1:Dz (Cf x q)[j].path (Cf x q)[k].path=true:=(Bo.1 inc) j k ch hk h;rw[e,HF,Dk]at q1;cases q1
  have hv:=(po ((Hp.1 m3).2.1 _ m1)).2.1
  by_cases c4:999<Xt x a (CH x a q).ver+1
  .rw[Ay c4];exact Aci x sx ifs a q HX KM ha hq _ k c1 c2 c3 m3 rfl hv (HX.few _ m1).2 hk HF yS h2 c4
  .rw[Az c4];exact Ack x sx ifs a q HX KM ha hq _ k c1 c2 c3 m3 rfl hv (HX.few _ m1).2 hk HF yS h2 c4
theorem Yk{x:List Rl}{a:Ad}:∀{A B:List Wd},Pi x a (A++B)=if Pi x a A=0 then Pi x a B else Pi x a A
 | [],B=>rfl
 |w::A,B=>by
  rw[FO,Pi,Pi];split
  .rfl
  .exact Yk
theorem mQ{x sx:List Rl}{a:Ad}{cl:List (List Rq)}(_h:i<cl.length):∃B,F2 x sx a cl=F2 x sx a (cl.take (i+1))++B:=by
 refine⟨Oj x sx a (cl.drop (i+1)) (0+(cl.take (i+1)).length),?_⟩;show Oj x sx a cl 0=_
 conv=>lhs;rw[<-Ia (i+1) cl,Uc]
 rfl
theorem zP{x sx:List Rl}{a:Ad}{cl:List (List Rq)}(h:i<cl.length):Fq x sx a cl ⟨i,CH x a cl[i]⟩=⟨i,Kg x a (CH x a cl[i]).ver,Yw x sx a cl[i]⟩:=by
 have e:cl.getD i []=cl[i]:=by simp[List.getD,h]
 show(⟨i,Kg x a (CH x a cl[i]).ver,decide (DD (bB x sx a ⟨i,CH x a cl[i]⟩) (cl.getD i [])=0)&&!has a.set (plc (Kg x a (CH x a cl[i]).ver))⟩:Bk)=_;rw[e];rfl
theorem Acf(HX:G1 x)(KM:G1 sx)(ha:FL a)(hl:BJ cl)(hcl:∀q∈cl,∀z∈q,FA z)(c1:(cl.any fun q=>!decide (AR q=0))=false)(ly:PC 69 [Fr x ifs,sl AM [a]] (.tup [Fr sx ifs,vi 0])):PC 32 [Fr x ifs,.agg (AM a),sl BD cl] (.tup [sl A9 (if Pi x a (F2 x sx a cl)=0 then(F2 x sx a cl).map (Fq x sx a cl)else []),vi (Pi x a (F2 x sx a cl))]):=by
 have hl:cl.length<=1073741824:=hl;refine Ps (pC [3,4,8] [2,6,8,14,18]) func32 rfl (Nz rfl) (yN (yN (C1 (C2 ly (yN (cU [(2,sl BD cl),(3,.ref 3 0),(4,.ref 4 0),(8,.ref 8 0),(9,vi 0)] [(3,.ro (Ic x ifs)),(4,.ro (AM a)),(8,.ro (Ic sx ifs))] Z5 Z3 (Yi (fun h=>absurd h Cl) (fun _=>?_))))))));refine Xi {q:Nat // q<=cl.length/\∀j (hj:j<cl.length),j<q->AR cl[j]=0} (Xi (fun q=>⟨[(2,sl BD cl),(3,.ref 3 0),(4,.ref 4 0),(8,.ref 8 0),(10,vi q.1)],[(3,.ro (Ic x ifs)),(4,.ro (AM a)),(8,.ro (Ic sx ifs))],Ac⟩) (Xi (fun q=>cl.length-q.1) (Yi (Xi ⟨0,Al _,fun _ _ h=>absurd h (DB _)⟩ ?_) ?_)))
 .exact⟨Z5,Z3,Fh,Tv⟩
 intro⟨k,k1,k2⟩;have k1:k<=cl.length:=k1;have k2:∀j (hj:j<cl.length),j<k->AR cl[j]=0:=k2;refine Yi (fun h1=>?_) (fun h1=>?_)
 .have h1:(k:Int)<((cl.map BD).length:Int):=h1;have n1:=DK h1;refine Xi (BD cl[k]) (Yi (FJ n1) (Yi rfl (C1 (C2 (c68 vT rl cl[k] (hcl _ (Ae n1))) (Yi (fun h2=>?_) (fun h2=>?_))))))
  .have h2:((AR cl[k]):Int)≠(0:Int):=h2;refine cU [] [] Tv Tv ?_
   exact absurd (BC.2 ⟨cl[k],Ae n1,(show(!decide (AR cl[k]=0))=true by rw[Aj h2];rfl)⟩) (by rw[c1];exact B7)
  have h2:((AR cl[k]):Int)=(0:Int):=Aq h2;refine cU [(2,sl BD cl),(3,.ref 3 0),(4,.ref 4 0),(8,.ref 8 0),(10,vi k)] [(3,.ro (Ic x ifs)),(4,.ro (AM a)),(8,.ro (Ic sx ifs))] Z5 Z3 (Yi (Ii k ch) ?_);refine Xi ⟨k+1,n1,fun j hj FI=>by
    rcases B2 j k with e | e
    .exact k2 j hj e
    .have e:j=k:=by omega
     subst e;exact h2⟩ ?_
  exact⟨Dl cl.length k ch,Z5,Z3,Fh,Tv⟩
 have h1:¬((k:Int)<((cl.map BD).length:Int)):=h1;have n1:=B5 h1;refine Xi {q:Nat // q<=cl.length/\Pi x a (F2 x sx a (cl.take q))=0} (Xi (fun q=>⟨[(2,sl BD cl),(3,.ref 3 0),(4,.ref 4 0),(8,.ref 8 0),(11,.slice (.id 38 5) (((F2 x sx a (cl.take q.1)).map (Fq x sx a cl)).map A9)),(12,vi q.1)],[(3,.ro (Ic x ifs)),(4,.ro (AM a)),(8,.ro (Ic sx ifs)),(38,.tok 5 (((F2 x sx a (cl.take q.1)).map (Fq x sx a cl)).map A9).length)],Ac⟩) (Xi (fun q=>cl.length-q.1) (Yi (Xi ⟨0,Al _,rfl⟩ ?_) ?_)))
 .exact⟨Z6,Z4,Fh,Tv⟩
 intro⟨i,i1,i2⟩;have i1:i<=cl.length:=i1;have i2:Pi x a (F2 x sx a (cl.take i))=0:=i2;have i3:((F2 x sx a (cl.take i)).map (Fq x sx a cl)).length<=i:=by rw[Lm];exact AH (ML ..) (by rw[AD];omega)
 have i4:(F2 x sx a (cl.take i)).length<=i:=by rw[Lm]at i3;exact i3
 refine Yi (fun h5=>?_) (fun h5=>?_)
 .have h5:(i:Int)<((cl.map BD).length:Int):=h5;have n5:=DK h5;refine yN (yN (yN (Xi (BD cl[i]) (Yi (FJ n5) (Yi rfl (AN (Bt (Ji x sx a cl[i])) (fun h6=>?_) (fun h6=>?_)))))))
  .have h6:=h6;refine AN (Classical.em (999<Xt x a (CH x a cl[i]).ver+1)) (fun h7=>?_) (fun h7=>?_)
   .have h7:=h7;have hc:=qu x sx ifs a cl[i] HX KM ha (hcl _ (Ae n5));rw[lZ,Ay h6,Ay h7]at hc;refine C2 hc (yN (Yi Wk (cU [(2,sl BD cl),(3,.ref 3 0),(4,.ref 4 0),(8,.ref 8 0),(11,.slice (.id 38 5) (((F2 x sx a (cl.take i)).map (Fq x sx a cl)).map A9)),(12,vi i),(13,.ref 13 0),(14,vb false),(15,vi 2)] [(3,.ro (Ic x ifs)),(4,.ro (AM a)),(8,.ro (Ic sx ifs)),(13,.cells [vi 0,vi 0,vi 0,vi 0,vb false]),(38,.tok 5 (((F2 x sx a (cl.take i)).map (Fq x sx a cl)).map A9).length)] Z9 Z5 (Yi (fun _=>?_) (fun h=>absurd Cl h)))));have eb:Pi x a (F2 x sx a cl)=2:=by
     obtain⟨Z,hZ⟩:=mQ (x:=x) (sx:=sx) (a:=a) n5;rw[hZ,LF n5,Ay h6,ER,Yk,Ay i2];show Pi x a (⟨i,CH x a cl[i]⟩::Z)=2;rw[Pi,Ay h7]
    exact BM.trans (show BM _ (.tup [sl A9 [],vi 2])from BM.tup (show Il [BE,vi 2] [sl A9 [],vi 2]from⟨BM.nil,BM.refl _,trivial⟩)) (BM.of_eq (by rw[eb];rfl))
   have h7:=h7;have hc:=qu x sx ifs a cl[i] HX KM ha (hcl _ (Ae n5));rw[lZ,Ay h6,Az h7]at hc;refine C2 hc (yN (Yi Wk (cU [(2,sl BD cl),(3,.ref 3 0),(4,.ref 4 0),(8,.ref 8 0),(11,.slice (.id 38 5) (((F2 x sx a (cl.take i)).map (Fq x sx a cl)).map A9)),(12,vi i),(13,.ref 13 0),(14,vb true),(15,vi 0)] [(3,.ro (Ic x ifs)),(4,.ro (AM a)),(8,.ro (Ic sx ifs)),(13,.cells [vi ((0:Nat):Int),vi (Kg x a (CH x a cl[i]).ver).a,vi (Kg x a (CH x a cl[i]).ver).b,vi (Kg x a (CH x a cl[i]).ver).c,vb (Yw x sx a cl[i])]),(38,.tok 5 (((F2 x sx a (cl.take i)).map (Fq x sx a cl)).map A9).length)] Z9 Z5 (Yi (fun h=>absurd h Cl) (fun _=>?_)))));refine yN (cU [(2,sl BD cl),(3,.ref 3 0),(4,.ref 4 0),(8,.ref 8 0),(11,.slice (.id 38 5) (((F2 x sx a (cl.take i)).map (Fq x sx a cl)).map A9)),(12,vi i),(13,.ref 13 0)] [(3,.ro (Ic x ifs)),(4,.ro (AM a)),(8,.ro (Ic sx ifs)),(13,.cells [vi i,vi (Kg x a (CH x a cl[i]).ver).a,vi (Kg x a (CH x a cl[i]).ver).b,vi (Kg x a (CH x a cl[i]).ver).c,vb (Yw x sx a cl[i])]),(38,.tok 5 (((F2 x sx a (cl.take i)).map (Fq x sx a cl)).map A9).length)] Z7 Z5 (yN ?_));have b9:Bi 5 [[vi i,vi (Kg x a (CH x a cl[i]).ver).a,vi (Kg x a (CH x a cl[i]).ver).b,vi (Kg x a (CH x a cl[i]).ver).c,vb (Yw x sx a cl[i])]]/\(((F2 x sx a (cl.take i)).map (Fq x sx a cl)).map A9).length=(((F2 x sx a (cl.take i)).map (Fq x sx a cl)).map A9).length/\((((F2 x sx a (cl.take i)).map (Fq x sx a cl)).map A9).length+([[vi i,vi (Kg x a (CH x a cl[i]).ver).a,vi (Kg x a (CH x a cl[i]).ver).b,vi (Kg x a (CH x a cl[i]).ver).c,vb (Yw x sx a cl[i])]]:C0).length)*40<=140737488355328/\(((F2 x sx a (cl.take i)).map (Fq x sx a cl)).map A9).length+([[vi i,vi (Kg x a (CH x a cl[i]).ver).a,vi (Kg x a (CH x a cl[i]).ver).b,vi (Kg x a (CH x a cl[i]).ver).c,vb (Yw x sx a cl[i])]]:C0).length<=9223372036854775807:=⟨⟨rfl,trivial⟩,rfl,(by simp only[Lm,AA,AE];omega),(by simp only[Lm,AA,AE];omega)⟩;refine Yi b9 (Yi (Ii i ch) ?_);have ef:F2 x sx a (cl.take (i+1))=F2 x sx a (cl.take i)++[⟨i,CH x a cl[i]⟩]:=by rw[LF n5,Ay h6]
   have ew:((((F2 x sx a (cl.take i)).map (Fq x sx a cl)).map A9)++[[vi i,vi (Kg x a (CH x a cl[i]).ver).a,vi (Kg x a (CH x a cl[i]).ver).b,vi (Kg x a (CH x a cl[i]).ver).c,vb (Yw x sx a cl[i])]])=((F2 x sx a (cl.take (i+1))).map (Fq x sx a cl)).map A9:=by rw[ef,AF,AF,List.map_singleton,List.map_singleton,zP n5]
   refine Xi ⟨i+1,n5,by rw[ef,Yk,Ay i2,Pi,Az h7];rfl⟩ ?_;exact⟨Dl cl.length i ch,⟨Zr,Zr,Zr,Zr,⟨(Aa (AV.slice (.id 38 5)) ew),rfl⟩,Zr,Tv⟩,⟨Zr,Zr,Zr,⟨(show HO.tok 5 ((((F2 x sx a (cl.take i)).map (Fq x sx a cl)).map A9).length+([[vi i,vi (Kg x a (CH x a cl[i]).ver).a,vi (Kg x a (CH x a cl[i]).ver).b,vi (Kg x a (CH x a cl[i]).ver).c,vb (Yw x sx a cl[i])]]:C0).length)=.tok 5 (((F2 x sx a (cl.take (i+1))).map (Fq x sx a cl)).map A9).length from Aa (HO.tok 5) (Ak.symm.trans (Aa List.length ew))),rfl⟩,Tv⟩,Fh,Tv⟩
  have h6:=h6;have hc:=qu x sx ifs a cl[i] HX KM ha (hcl _ (Ae n5));rw[lZ,Az (by rw[h6];exact B7)]at hc;refine C2 hc (yN (Yi Wk (cU [(2,sl BD cl),(3,.ref 3 0),(4,.ref 4 0),(8,.ref 8 0),(11,.slice (.id 38 5) (((F2 x sx a (cl.take i)).map (Fq x sx a cl)).map A9)),(12,vi i),(13,.ref 13 0),(14,vb false),(15,vi 0)] [(3,.ro (Ic x ifs)),(4,.ro (AM a)),(8,.ro (Ic sx ifs)),(13,.cells [vi 0,vi 0,vi 0,vi 0,vb false]),(38,.tok 5 (((F2 x sx a (cl.take i)).map (Fq x sx a cl)).map A9).length)] Z9 Z5 (Yi (fun h=>absurd h Cl) (fun _=>?_)))));refine Yi (Ii i ch) ?_;have ef:F2 x sx a (cl.take (i+1))=F2 x sx a (cl.take i):=by rw[LF n5,Az (by rw[h6];exact B7),BG]
  refine Xi ⟨i+1,n5,by rw[ef];exact i2⟩ ?_;exact⟨Dl cl.length i ch,⟨Zr,Zr,Zr,Zr,⟨(Aa (fun z:List Wd=>AV.slice (.id 38 5) ((z.map (Fq x sx a cl)).map A9)) ef.symm),rfl⟩,Zr,Tv⟩,⟨Zr,Zr,Zr,⟨(Aa (fun z:List Wd=>HO.tok 5 ((z.map (Fq x sx a cl)).map A9).length) ef.symm),rfl⟩,Tv⟩,Fh,Tv⟩
 have h5:¬((i:Int)<((cl.map BD).length:Int)):=h5;have n5:=B5 h5;have ei:cl.take i=cl:=Au (by have q:=B5 h5;omega);rw[ei]at i2;exact BM.of_eq (show AV.tup [sl A9 ((F2 x sx a (cl.take i)).map (Fq x sx a cl)),vi 0]=_ by rw[ei,i2,Ay rfl])
theorem Acd(c0:¬e=0)(ly:PC 69 [Fr x ifs,sl AM [a]] (.tup [.agg [BE,BE],vi e])):PC 32 [Fr x ifs,.agg (AM a),sl BD cl] (.tup [sl A9 [],vi e]):=by
 refine Ps (pC [3,4,8] [2,6,8,14,18]) func32 rfl (Nz rfl) (yN (yN (C1 (C2 ly (yN (cU [(2,sl BD cl),(3,.ref 3 0),(4,.ref 4 0),(8,.ref 8 0),(9,vi e)] [(3,.ro (Ic x ifs)),(4,.ro (AM a)),(8,.ro [BE,BE])] Z5 Z3 (Yi (fun h1=>?_) (fun h1=>?_))))))))
 .have h1:(e:Int)≠(0:Int):=h1;exact BM.tup (show Il [BE,vi e] [sl A9 [],vi e]from⟨BM.nil,BM.refl _,trivial⟩)
 have h1:(e:Int)=(0:Int):=Aq h1;exact absurd h1 c0
theorem Ace(hl:BJ cl)(hcl:∀q∈cl,∀z∈q,FA z)(c1:(cl.any fun q=>!decide (AR q=0))=true)(ly:PC 69 [Fr x ifs,sl AM [a]] (.tup [Fr sx ifs,vi 0])):PC 32 [Fr x ifs,.agg (AM a),sl BD cl] (.tup [sl A9 [],vi 1]):=by
 have hl:cl.length<=1073741824:=hl;refine Ps (pC [3,4,8] [2,6,8,14,18]) func32 rfl (Nz rfl) (yN (yN (C1 (C2 ly (yN (cU [(2,sl BD cl),(3,.ref 3 0),(4,.ref 4 0),(8,.ref 8 0),(9,vi 0)] [(3,.ro (Ic x ifs)),(4,.ro (AM a)),(8,.ro (Ic sx ifs))] Z5 Z3 (Yi (fun h=>absurd h Cl) (fun _=>?_))))))));refine Xi {q:Nat // q<=cl.length/\∀j (hj:j<cl.length),j<q->AR cl[j]=0} (Xi (fun q=>⟨[(2,sl BD cl),(3,.ref 3 0),(4,.ref 4 0),(8,.ref 8 0),(10,vi q.1)],[(3,.ro (Ic x ifs)),(4,.ro (AM a)),(8,.ro (Ic sx ifs))],Ac⟩) (Xi (fun q=>cl.length-q.1) (Yi (Xi ⟨0,Al _,fun _ _ h=>absurd h (DB _)⟩ ?_) ?_)))
 .exact⟨Z5,Z3,Fh,Tv⟩
 intro⟨k,k1,k2⟩;have k1:k<=cl.length:=k1;have k2:∀j (hj:j<cl.length),j<k->AR cl[j]=0:=k2;refine Yi (fun h1=>?_) (fun h1=>?_)
 .have h1:(k:Int)<((cl.map BD).length:Int):=h1;have n1:=DK h1;refine Xi (BD cl[k]) (Yi (FJ n1) (Yi rfl (C1 (C2 (c68 vT rl cl[k] (hcl _ (Ae n1))) (Yi (fun h2=>?_) (fun h2=>?_))))))
  .have h2:((AR cl[k]):Int)≠(0:Int):=h2;refine cU [] [] Tv Tv ?_
   exact BM.tup (show Il [BE,vi 1] [sl A9 [],vi 1]from⟨BM.nil,BM.refl _,trivial⟩)
  have h2:((AR cl[k]):Int)=(0:Int):=Aq h2;refine cU [(2,sl BD cl),(3,.ref 3 0),(4,.ref 4 0),(8,.ref 8 0),(10,vi k)] [(3,.ro (Ic x ifs)),(4,.ro (AM a)),(8,.ro (Ic sx ifs))] Z5 Z3 (Yi (Ii k ch) ?_);refine Xi ⟨k+1,n1,fun j hj FI=>by
    rcases B2 j k with e | e
    .exact k2 j hj e
    .have e:j=k:=by omega
     subst e;exact h2⟩ ?_
  exact⟨Dl cl.length k ch,Z5,Z3,Fh,Tv⟩
 have h1:¬((k:Int)<((cl.map BD).length:Int)):=h1;have n1:=B5 h1;exact absurd c1 (by rw[Gn.2 fun q hq=>by obtain⟨j,hj,rfl⟩:=Cw.1 hq;rw[k2 j hj (by have q:=B5 h1;omega)];decide];exact B7)
theorem Aha(hx:G1 x)(ha:FL a)(hl:BJ cl)(hcl:∀q∈cl,∀z∈q,FA z)(lA:BJ ifs)(uL:∀c∈ifs,c.length=5) :
  PC 32 [Fr x ifs,.agg (AM a),sl BD cl] (.tup [sl A9 (fU x a cl),vi (cJ x a cl)]):=by
 have Wc:BJ x:=show x.length<=1073741824 by have z:=hx.len;omega
 have ly:=yx x ifs [a] Wc hx.few (show 1<=1073741824 by decide) (fun b hb=>by rw[AK.1 hb];exact ha) lA uL;rw[pG]at ly
 by_cases c0:NH x [a]=0
 .rw[Ay c0]at ly;have lC:G1 (ip x a):=⟨by rw[RH];exact hx.len,iN hx.few⟩;cases c1:cl.any fun q=>!decide (AR q=0)with
  |true=>
   have e:cJ x a cl=1:=by rw[cJ,Ay c0,Ay c1]
   rw[fU,e];exact Ace x (ip x a) ifs a cl hl hcl c1 ly
  |false=>
   have e:cJ x a cl=Pi x a (F2 x (ip x a) a cl):=by rw[cJ,Ay c0,Az (by rw[c1];exact B7)]
   rw[fU,e];exact Acf x (ip x a) ifs a cl hx lC ha hl hcl c1 ly
 .rw[Az c0]at ly;have e:cJ x a cl=NH x [a]:=by rw[cJ,Az c0]
  rw[fU,e,Az c0];exact Acd x ifs a cl _ c0 ly
theorem t6(b1 b2 b3:Bool)(gu:PC 26 [Fr x ifs,BE] (vb b1))(Tc:PC 27 [sl AM [a]] (vb b2))(wy:PC 28 [sl BD cl,.v (.func (.func 29) #[] #[])] (vb b3))(hb:b1=true->b2=true->b3=false->4<cl.length):PC 5 [Fr x ifs,.agg (AM a),sl BD cl] (vb true):=by
 refine Ps (pC [3,4] []) func5 rfl (Nz rfl) (C1 (C2 iD (yN (AN (Bt b1) (fun h1=>?_) (fun h1=>?_)))))
 .have h1:b1=true:=h1;refine C1 (C2 (cb h1 gu) (yN (AN (Bt b2) (fun h2=>?_) (fun h2=>?_))))
  .have h2:b2=true:=h2;refine C1 (C2 (cb h2 Tc) (Yi (fun h3=>?_) (fun h3=>?_)))
   .have h3:(4:Int)<((cl.map BD).length:Int):=h3;have n3:4<cl.length:=by have q:=h3;rw[Lm]at q;omega
    exact .refl _
   have h3:¬((4:Int)<((cl.map BD).length:Int)):=h3;have n3:¬4<cl.length:=by have q:=h3;rw[Lm]at q;omega
   refine AN (Bt b3) (fun h5=>?_) (fun h5=>?_)
   .have h5:b3=true:=h5;refine C1 (C2 (cb h5 wy) ?_);exact .refl _
   have h5:b3=false:=h5;exact absurd (hb h1 h2 h5) (by have q:=h3;rw[Lm]at q;omega)
  have h2:b2=false:=h2;refine C1 (C2 (cb h2 Tc) ?_);exact .refl _
 have h1:b1=false:=h1;refine C1 (C2 (cb h1 gu) ?_);exact .refl _
theorem t7(l:List Bk)(e:Int)(gu:PC 26 [Fr x ifs,BE] (vb true))(Tc:PC 27 [sl AM [a]] (vb true))(wy:PC 28 [sl BD cl,.v (.func (.func 29) #[] #[])] (vb false))(h4:cl.length<=4)(lw:PC 31 [Fr x ifs,.agg (AM a),sl BD cl] (.tup [sl A9 l,vi e]))(h32:PC 32 [Fr x ifs,.agg (AM a),sl BD cl] (.tup [sl A9 l,vi e]))(wz:PC 33 [sl A9 l,sl A9 l] (vb true)):PC 5 [Fr x ifs,.agg (AM a),sl BD cl] (vb true):=by
 refine Ps (pC [3,4] [4,5,6,7]) func5 rfl (Nz rfl) (C1 (C2 iD (yN (C1 (C2 gu (yN (C1 (C2 Tc (Yi (fun h1=>?_) (fun h1=>?_))))))))))
 .have h1:(4:Int)<((cl.map BD).length:Int):=h1;have n1:4<cl.length:=by have q:=h1;rw[Lm]at q;omega
  exact absurd h1 (by rw[Lm];omega)
 have h1:¬((4:Int)<((cl.map BD).length:Int)):=h1;have n1:¬4<cl.length:=by have q:=h1;rw[Lm]at q;omega
 refine C1 (C2 wy (cU [(2,sl BD cl),(3,.ref 3 0),(4,.ref 4 0)] [(3,.ro (Ic x ifs)),(4,.ro (AM a))] Z3 Z2 (yN (yN (C1 (C2 lw (cU [(2,sl BD cl),(3,.ref 3 0),(4,.ref 4 0),(7,sl A9 l),(8,vi e)] [(3,.ro (Ic x ifs)),(4,.ro (AM a))] Z5 Z2 (yN (yN (C1 (C2 h32 (cU [(7,sl A9 l),(8,vi e),(9,sl A9 l),(10,vi e)] [] Z4 Tv (C1 (C2 wz (Yi (fun h2=>?_) (fun h2=>?_))))))))))))))))
 .have h2:(e:Int)=(e:Int):=h2;exact .refl _
 have h2:¬((e:Int)=(e:Int)):=h2;exact absurd rfl h2
theorem AfO(hL:um x [])(hA:zh a cl)(lA:BJ ifs)(uL:∀c∈ifs,c.length=5):PC 5 [Fr x ifs,.agg (AM a),sl BD cl] (vb true):=by
 have uF:=o46 ifs lA uL;have gu:=Ahf hL ifs;have Tc:=tU [a] (show 1<=1073741824 by decide) fun b hb=>by rw[AK.1 hb];exact hA.ad
 have wy:=x8 cl hA.len fun q hq=>(hA.q q hq).1
 by_cases hg:Gg x 16=true/\Ij [a]=true/\(cl.any fun q=>!Et q)=false/\cl.length<=4
 .obtain⟨g1,g2,g3,g4⟩:=hg;have hx:G1 x:=⟨fu g1,hL.x⟩;have lw:=p9 x ifs a cl hx (pK g1) hA.ad hA.len (fun q hq=>(hA.q q hq).2) uF;have h32:=Aha x ifs a cl hx hA.ad hA.len (fun q hq=>(hA.q q hq).2) lA uL;have hbl:BJ (fU x a cl):=show(fU x a cl).length<=1073741824 by
   unfold fU;split
   .rw[Lm];have z:(F2 x (ip x a) a cl).length<=cl.length:=ML ..;omega
   .exact Al _
  have wz:=z33 (fU x a cl) (fU x a cl) hbl;rw[At rfl]at wz;rw[g1]at gu;rw[g2]at Tc;rw[g3]at wy;exact t7 x ifs a cl _ _ gu Tc wy g4 lw h32 wz
 .exact t6 x ifs a cl _ _ _ gu Tc wy fun e1 e2 e3=>Aq fun e4=>hg ⟨e1,e2,e3,by omega⟩
end Go.Eng
