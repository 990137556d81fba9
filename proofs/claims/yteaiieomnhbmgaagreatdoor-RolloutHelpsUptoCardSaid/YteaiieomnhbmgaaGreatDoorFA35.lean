/- Lemmas 35. -/
import Derived.Test.YteaiieomnhbmgaaGreatDoorFA34
import Derived.Test.YteaiieomnhbmgaaGreatDoorCards
import Derived.Test.YteaiieomnhbmgaaGreatDoorTie
import Derived.ProofKit
import Derived.OpenShut
import Derived.Deep.DeepHandedRow
import Derived.Lib.LaidTab
import Derived.Stop.LaidErr
set_option maxHeartbeats 4000000
namespace Go.Eng
open Go.Proofs
variable {x:List Rl}{a:Ad}{i:Nat}
structure xS(a:Ad)(cl:List (List Rq)):Prop where
 ad:Ks a
 len:B8 cl
 q:∀q∈cl,B8 q/\∀z∈q,JH z
theorem cL(h:GL x 16=true):∀r∈x,r.reqs.length<=1000:=fun r hr=>by
 simp only[GL,Af,A1]at h;have q:=h.1 r hr;simp only[JR,EN,Af,AA]at q;omega
abbrev RU(a:Ad)(v:Ver)(R:Rl):Rl:=⟨a.path,v,R.reqs,⟨#[]⟩,⟨#[]⟩,⟨#[]⟩,false⟩
structure t7(x:List Rl)(a:Ad)(cl:List (List Rq))(i:Nat)(q:List Rq)(R:Rl)(b:Bk):Prop where
 el:(0:Int)<=(FS (fun b:Bk=>decide (b.client=i)) (HR x a cl) 0)/\((HR x a cl).map Bu)[(FS (fun b:Bk=>decide (b.client=i)) (HR x a cl) 0).toNat]?=some (Bu b)
 mem:R∈x
 few:(B9 x q).length<=1073741824
 new:CV x ⟨a.path,b.ver⟩=none
 old:∀y∈B9 x q,y.path=a.path->CV x ⟨y.path,y.ver⟩=some R
 any:(B9 x q).any (Ti a)=true
 srt:A0 (DW CY (x++[RU a b.ver R]).length (x++[RU a b.ver R]))=0
 en:b.enough=(decide (Kd (Fv (x++[RU a b.ver R])) q [a]=0)&&!Hm a ⟨a.path,b.ver⟩)
 cn:b.enough=true->(Pc (Fv (x++[RU a b.ver R])) q [a]).any (Hm a)=false
theorem ip{q:List Rq}(GQ:x.length<=16)(h:EV x q=0)(hc:(B9 x q).any (Hm a)=true):(∀y∈B9 x q,y.path=a.path->CV x ⟨y.path,y.ver⟩=some (BO x a q))/\(B9 x q).any (Ti a)=true:=by
 obtain⟨k,hk,h1,h2⟩:=Wn h hc;have WL:(B9 x q)[k].path=a.path:=by
  have e:FS (Ti a) (B9 x q) 0=(k:Nat):=h1;rcases XM (Ti a) (B9 x q)with ⟨j,y,e1,e2,e3⟩|⟨e1,_⟩
  .rw[e1]at e;have e:j=k:=by omega
   subst e;rw[Ge hk]at e2;rw[Cj e2];have q:=Dy e3;exact AP (show decide (y.path=a.path)=true from q)
  .rw[e1]at e;omega
 refine⟨fun y hy hp=>?_,?_⟩
 .have inc:=(cI GQ h).inc;have e:y=(B9 x q)[k]:=by
   have e1:=H1 (LX zZ inc) hy;have e2:=H1 (LX zZ inc) (Ao hk);rw[hp,<-WL,e2]at e1;exact(Cj e1).symm
  rw[e];exact h2
 .exact Ba.2 ⟨_,Ao hk,Ak WL⟩
theorem dy{cl:List (List Rq)}(h:cZ x a cl=0):Mf x [a]=0/\au x a (Kb x (Tn x a) a cl)=0/\HR x a cl=(Kb x (Tn x a) a cl).map (GU x (Tn x a) a cl):=by
 refine⟨?_,?_,?_⟩
 .have h':=h;unfold cZ at h';split at h'
  .assumption
  .rename_i h1;exact absurd h' h1
 .have h':=h;unfold cZ at h';split at h'
  .split at h'
   .exact absurd h' Cl
   .exact h'
  .rename_i h1;exact absurd h' h1
 .unfold HR;rw[Ap h]
theorem Aa2(h:Mf x [a]=0){y:List Rl}(hy:A0 y=0):Mf y [a]=0:=by
 have h0:=oQ h;unfold Mf at h⊢;rw[Ap h0]at h;rw[Ap hy];exact h
theorem dO{q:List Rq}(h:Mf x [a]=0):Kd x q [a]=EV (Tn x a) q/\Pc x q [a]=B9 (Tn x a) q:=by
 unfold Kd Pc;rw[Ap h,Ap h];exact Zr
theorem QB{cl:List (List Rq)}(h:cZ x a cl=0)(hi:i<cl.length):decide ((0:Int)<=(FS (fun b:Bk=>decide (b.client=i)) (HR x a cl) 0))=(decide (EV x cl[i]=0)&&((B9 x cl[i]).any (Hm a)&&!decide (Kd x cl[i] [a]=0))):=by
 obtain⟨h1,h2,h3⟩:=dy h;have e:cl.getD i []=cl[i]:=by simp[List.getD,hi]
 rw[(dO h1).1,h3];cases hw:In x (Tn x a) a cl[i]with
 |true=>
  obtain⟨j,h4,_⟩:=sX (x:=x) (sx:=Tn x a) (a:=a) hi (by rw[e];exact hw);rw[h4,Ak (Ip _)];unfold In at hw;rw[<-Bool.and_assoc];exact hw.symm
 |false=>
  rw[x7 (by rw[e];exact hw),Ae Cl];unfold In at hw;rw[<-Bool.and_assoc];exact hw.symm
theorem qY{cl:List (List Rq)}(h:cZ x a cl=0)(GQ:x.length<=16)(hi:i<cl.length)(h1:EV x cl[i]=0)(h2:(B9 x cl[i]).any (Hm a)=true)(h3:¬Kd x cl[i] [a]=0):∃b,t7 x a cl i cl[i] (BO x a cl[i]) b:=by
 obtain⟨g1,g2,g3⟩:=dy h;rw[(dO g1).1]at h3;have hx:=oQ g1;have e:cl.getD i []=cl[i]:=by simp[List.getD,hi]
 have hw:In x (Tn x a) a cl[i]=true:=by rw[In,Ak h1,h2,Ae h3];rfl
 obtain⟨j,h4,h5⟩:=sX (x:=x) (sx:=Tn x a) (a:=a) hi (by rw[e];exact hw);rw[e]at h5;rw[<-g3]at h4 h5;obtain⟨r1,r2,_⟩:=ig h1 h2;have lr:(⟨i,BO x a cl[i]⟩:Wd)∈Kb x (Tn x a) a cl:=by
  have q:=YY (x:=x) (sx:=Tn x a) (a:=a) (j:=0) hi (by rw[e];exact hw);rw[Bb,e]at q;exact q
 have hm:=lR g2 _ lr;obtain⟨n1,n2⟩:=vY (w:=⟨i,BO x a cl[i]⟩) hx r1 r2 hm;have ED:∀r∈x,Fa r≠Fa (QO x a ⟨i,BO x a cl[i]⟩):=wb;have hs:=rD hx GQ n1 ED;have lw:A0 (Fv (x++[QO x a ⟨i,BO x a cl[i]⟩]))=0:=by rw[Fv,Ap hs];exact hs
 have hfx:=dO (q:=cl[i]) (Aa2 g1 lw);have hen:(GU x (Tn x a) a cl ⟨i,BO x a cl[i]⟩).enough=(decide (Kd (Fv (x++[QO x a ⟨i,BO x a cl[i]⟩])) cl[i] [a]=0)&&!Hm a ⟨a.path,Wu x a (BO x a cl[i]).ver⟩):=by
  have hp:plc (Wu x a (BO x a cl[i]).ver)=place (Wu x a (BO x a cl[i]).ver):=by rw[plc,n2];rfl
  have hc:Hm a ⟨a.path,Wu x a (BO x a cl[i]).ver⟩=has a.set (place (Wu x a (BO x a cl[i]).ver)):=by
   rw[Hm,n2,Ak rfl];rfl
  show(decide (EV (XW x (Tn x a) a ⟨i,BO x a cl[i]⟩) (cl.getD i [])=0)&&!has a.set (plc (Wu x a (BO x a cl[i]).ver)))=_;rw[e,hp,hc,hfx.1];cases k:has a.set (place (Wu x a (BO x a cl[i]).ver))with
  |true=>rw[Bool.not_true,Cp,Cp]
  |false=>
   have hns:VX [a] (MD (QO x a ⟨i,BO x a cl[i]⟩))=false:=by
    show([a].any fun b=>Hm b ⟨a.path,Wu x a (BO x a cl[i]).ver⟩)=false;rw[BM,hc,k];rfl
   have ey:Tn (Fv (x++[QO x a ⟨i,BO x a cl[i]⟩])) a=XW x (Tn x a) a ⟨i,BO x a cl[i]⟩:=by
    show yk true (VX [a]) (Fv _)=Fv (yk true (VX [a]) x++[QO x a ⟨i,BO x a cl[i]⟩]);rw[xg]
    congr 1
    show List.map _ (x++[QO x a ⟨i,BO x a cl[i]⟩])=List.map _ x++[QO x a ⟨i,BO x a cl[i]⟩];rw[At,List.map_singleton,Aj (by rw[hns];exact Fy)]
   rw[ey]
 refine⟨GU x (Tn x a) a cl ⟨i,BO x a cl[i]⟩,⟨?_,r1,(cI GQ h1).few,?_,(ip GQ h1 h2).1,(ip GQ h1 h2).2,hs,hen,fun _=>?_⟩⟩
 .rw[h4];exact⟨Ip _,by rw[Cb,AG,h5];rfl⟩
 .exact(by rw[CV,Aj (fun c=>c hx),DI];exact fun r hr c=>ED r hr (AP c))
 .refine FP.2 fun z hz=>?_;have q:=o0 (p:=VX [a]) (q:=cl[i]) z (by rw[<-hfx.2];exact hz);have q:([a].any fun b=>Hm b z)=false:=q;rw[BM,Iq,E3]at q;rw[q];exact Fy
theorem sK(x:List Rl)(ifs:List (List AV))(a:Ad)(cl:List (List Rq))(b1 b2 b3:Bool)(mR:PC 26 [Iu x ifs,nzA] (vb b1))(RI:PC 27 [sl BA [a]] (vb b2))(pZ:PC 28 [sl BF cl,.v (.func (.func 36) #[] #[])] (vb b3))(hb:b1=true->b2=true->b3=false->4<cl.length):PC 9 [Iu x ifs,.agg (BA a),sl BF cl] (vb true):=by
 refine Ps (pC [3,4] []) Tryz.func9 rfl (Nz rfl) (Xi .pure (Xi _ (Yi ZN (yN (BX (Bt b1) (fun h1=>?_) (fun h1=>?_))))))
 .refine Xi .pure (Xi _ (Yi (cb h1 mR) (yN (BX (Bt b2) (fun h2=>?_) (fun h2=>?_)))))
  .refine Xi .pure (Xi _ (Yi (cb h2 RI) (Yi (fun h3=>?_) (fun h3=>?_))))
   .have n3:4<cl.length:=by have q:=h3;rw[Lm]at q;omega
    exact .refl _
   have n3:¬4<cl.length:=by have q:=h3;rw[Lm]at q;omega
   refine BX (Bt b3) (fun h5=>?_) (fun h5=>?_)
   .refine Xi .pure (Xi _ (Yi (cb h5 pZ) ?_));exact .refl _
   exact absurd (hb h1 h2 h5) (by have q:=h3;rw[Lm]at q;omega)
  refine Xi .pure (Xi _ (Yi (cb h2 RI) ?_));exact .refl _
 refine Xi .pure (Xi _ (Yi (cb h1 mR) ?_));exact .refl _
theorem sJ(x:List Rl)(ifs:List (List AV))(a:Ad)(cl:List (List Rq))(e:Int)(c0:¬e=0)(mR:PC 26 [Iu x ifs,nzA] (vb true))(RI:PC 27 [sl BA [a]] (vb true))(pZ:PC 28 [sl BF cl,.v (.func (.func 36) #[] #[])] (vb false))(h4:cl.length<=4)(XI:PC 31 [Iu x ifs,.agg (BA a),sl BF cl] (.tup [sl Bu ([]:List Bk),vi e])):PC 9 [Iu x ifs,.agg (BA a),sl BF cl] (vb true):=by
 refine Ps (pC [3,4] [4,5,6,12,13,15,16,18,25,26,28,29,30,31]) Tryz.func9 rfl (Nz rfl) (Xi .pure (Xi _ (Yi ZN (yN (Xi .pure (Xi _ (Yi mR (yN (Xi .pure (Xi _ (Yi RI (Yi (fun h1=>?_) (fun h1=>?_)))))))))))))
 .have n1:4<cl.length:=by have q:=h1;rw[Lm]at q;omega
  exact absurd h1 (by rw[Lm];omega)
 have n1:¬4<cl.length:=by have q:=h1;rw[Lm]at q;omega
 refine Xi .pure (Xi _ (Yi pZ (cU [(2,sl BF cl),(3,.ref 3 0),(4,.ref 4 0)] [(3,.ro (Ic x ifs)),(4,.ro (BA a))] Z3 Z2 (yN (yN (Xi .pure (Xi _ (Yi XI (cU [(2,sl BF cl),(3,.ref 3 0),(4,.ref 4 0),(7,sl Bu ([]:List Bk)),(8,vi e)] [(3,.ro (Ic x ifs)),(4,.ro (BA a))] Z5 Z2 (Yi (fun h2=>?_) (fun h2=>?_)))))))))))
 .refine Yi (fun h3=>?_) (fun h3=>?_)
  .exact .refl _
  exact absurd rfl h3
 have h2:(e:Int)=(0:Int):=AH h2;exact absurd h2 c0
theorem aq{α:Type}{p:α->Bool}{l:List α}{j:Nat}(h:j<l.length):(l.take (j+1)).any p=((l.take j).any p||p l[j]):=by
 rw[BN h,FW,BM,Iq,E3]
theorem wA{n:Nat}(h:∀r∈x,r.reqs.length<=n):∀r∈Fv x,r.reqs.length<=n:=fun r hr=>by
 rw[Fv]at hr;split at hr
 .exact h r (KG CY _ _ r hr)
 .cases hr
theorem sm(x:List Rl):(Fv x).length<=x.length:=by
 rw[Fv];split
 .rw[JA];exact Am _
 .exact AB _
theorem cG(q:List Rq):(B9 x q).length<=x.length:=by
 by_cases h:EV x q=0
 .exact(L8 h).2.1
 .unfold B9;rw[Aj h];exact AB _
theorem gp{q:List Rq}{l:List Ad}(h:x.length<=19):B8 (Pc x q l):=by
 show(Pc x q l).length<=1073741824;unfold Pc;split
 .have k:=cG (x:=yk true (VX l) x) q;rw[KU]at k;omega
 .exact AB _
theorem sL(x:List Rl)(ifs:List (List AV))(a:Ad)(cl:List (List Rq))(hx:PI x)(np:∀r∈x,r.reqs.length<=1000)(ha:Ks a)(hcl:∀q∈cl,B8 q/\∀z∈q,JH z)(mX:PC 103 [.slice .none ifs] (.slice .none ifs))(hb:cZ x a cl=0)(mR:PC 26 [Iu x ifs,nzA] (vb true))(RI:PC 27 [sl BA [a]] (vb true))(pZ:PC 28 [sl BF cl,.v (.func (.func 36) #[] #[])] (vb false))(h4:cl.length<=4)(XI:PC 31 [Iu x ifs,.agg (BA a),sl BF cl] (.tup [sl Bu (HR x a cl),vi 0])):PC 9 [Iu x ifs,.agg (BA a),sl BF cl] (vb true):=by
 have rg:x.length<=16:=hx.len;have Adi:=o46 [] Cl (Cn _);have xG:B8 [a]:=show 1<=1073741824 by decide
 have yS:∀b∈[a],Ks b:=fun b hb=>by rw[Ar.1 hb];exact ha
 have hbl:(HR x a cl).length<=1073741824:=by
  rw[(dy hb).2.2,Lm];have q:(Kb x (Tn x a) a cl).length<=cl.length:=Qk ..;omega
 have OF:∀(y:List Rl) (q:List Rq),y.length<=19->B8 (B9 y q):=fun y q h=>show(B9 y q).length<=1073741824 by have k:=cG (x:=y) q;omega
 have vr:∀(v:Ver) (R:Rl),(Fv (x++[RU a v R])).length<=19:=fun v R=>by have k:=sm (x++[RU a v R]);rw[Ac]at k;have k:_<=x.length+1:=k;omega
 refine Ps ⟨[3,4,9,20],[],[],[],[],[],[],[],[(134,3)],[],[4,5,6,12,13,15,16,18,25,26,27,28,29,30,31]⟩ Tryz.func9 rfl (Nz rfl) (Xi .pure (Xi _ (Yi ZN (yN (Xi .pure (Xi _ (Yi mR (yN (Xi .pure (Xi _ (Yi RI (Yi (fun h1=>?_) (fun h1=>?_)))))))))))))
 .have n1:4<cl.length:=by have q:=h1;rw[Lm]at q;omega
  exact absurd h1 (by rw[Lm];omega)
 have n1:¬4<cl.length:=by have q:=h1;rw[Lm]at q;omega
 refine Xi .pure (Xi _ (Yi pZ (cU [(2,sl BF cl),(3,.ref 3 0),(4,.ref 4 0)] [(3,.ro (Ic x ifs)),(4,.ro (BA a))] Z3 Z2 (yN (yN (Xi .pure (Xi _ (Yi XI (cU [(2,sl BF cl),(3,.ref 3 0),(4,.ref 4 0),(7,sl Bu (HR x a cl)),(8,vi 0)] [(3,.ro (Ic x ifs)),(4,.ro (BA a))] Z5 Z2 (Yi (fun h=>absurd h Cl) (fun _=>?_)))))))))));refine Xi {q:Nat // q<=cl.length} (Xi (fun q=>⟨[(3,.ref 3 0),(4,.ref 4 0),(7,sl Bu (HR x a cl)),(57,sl BF cl),(58,vi (cl.map BF).length),(59,vi q.1)],[(3,.ro (Ic x ifs)),(4,.ro (BA a))],Ag⟩) (Xi (fun q=>cl.length-q.1) (Yi (Xi ⟨0,AB _⟩ ?_) ?_)))
 .exact⟨Z6,Z2,Fh,Tv⟩
 intro⟨i,i1⟩;have i1:i<=cl.length:=i1;refine Yi (fun h2=>?_) (fun h2=>?_)
 .have h2:(i:Int)<((cl.map BF).length:Int):=h2;have n2:=FJ h2;refine Xi (BF cl[i]) (Yi (Lv n2) (Yi rfl (yN (yN (Xi .pure (Xi _ (Yi (s16 x ifs cl[i] hx.few (hcl _ (Ao n2)).2) (cU [(3,.ref 3 0),(4,.ref 4 0),(7,sl Bu (HR x a cl)),(9,.ref 9 0),(10,sl AW cl[i]),(11,sl Aq (B9 x cl[i])),(12,vi (EV x cl[i])),(57,sl BF cl),(58,vi (cl.map BF).length),(59,vi i)] [(3,.ro (Ic x ifs)),(4,.ro (BA a)),(9,.ro [vi i])] Z10 Z3 (yN (yN (Xi .pure (Xi _ (Yi (tM x ifs cl[i] [a] hx.to19 np xG yS mX (hcl _ (Ao n2)).2) (cU [(3,.ref 3 0),(4,.ref 4 0),(7,sl Bu (HR x a cl)),(9,.ref 9 0),(10,sl AW cl[i]),(11,sl Aq (B9 x cl[i])),(12,vi (EV x cl[i])),(14,vi (Kd x cl[i] [a])),(57,sl BF cl),(58,vi (cl.map BF).length),(59,vi i)] [(3,.ro (Ic x ifs)),(4,.ro (BA a)),(9,.ro [vi i])] Z11 Z3 (Xi .pure (Xi _ (Yi (AaO (HR x a cl) i hbl) (Yi (fun h3=>?_) (fun h3=>?_)))))))))))))))))))
  .have h3:(0:Int)<=((FS (fun b:Bk=>decide (b.client=i)) (HR x a cl) 0):Int):=h3;refine Yi (fun h4=>?_) (fun h4=>?_)
   .have h4:((EV x cl[i]):Int)=(0:Int):=h4;refine yN (BX (Bt ((B9 x cl[i]).any (Hm a))) (fun h5=>?_) (fun h5=>?_))
    .have h5:((B9 x cl[i]).any (Hm a))=true:=h5;refine Xi .pure (Xi _ (Yi (cb h5 (GB a (B9 x cl[i]) ha.set (OF _ _ (show x.length<=19 by omega)))) (Yi (fun h6=>?_) (fun h6=>?_))))
     .have h6:((Kd x cl[i] [a]):Int)≠(0:Int):=h6;refine cU [(3,.ref 3 0),(4,.ref 4 0),(7,sl Bu (HR x a cl)),(10,sl AW cl[i]),(11,sl Aq (B9 x cl[i])),(15,vi (FS (fun b:Bk=>decide (b.client=i)) (HR x a cl) 0)),(57,sl BF cl),(58,vi (cl.map BF).length),(59,vi i)] [(3,.ro (Ic x ifs)),(4,.ro (BA a))] Z9 Z2 (Yi (fun h7=>?_) (fun h7=>?_))
      .have h7:((FS (fun b:Bk=>decide (b.client=i)) (HR x a cl) 0):Int)<(0:Int):=h7;refine cU [(3,.ref 3 0),(4,.ref 4 0),(7,sl Bu (HR x a cl)),(57,sl BF cl),(58,vi (cl.map BF).length),(59,vi i)] [(3,.ro (Ic x ifs)),(4,.ro (BA a))] Z6 Z2 (Yi (Ii i ch) (Xi ⟨i+1,n2⟩ ?_));exact⟨Dl cl.length i ch,Z6,Z2,Fh,Tv⟩
      have h7:¬(((FS (fun b:Bk=>decide (b.client=i)) (HR x a cl) 0):Int)<(0:Int)):=h7;refine CL (qY hb rg n2 h4 h5 h6) (fun b0 H=>?_);refine yN (Xi (Bu b0) (Yi H.el (Yi rfl (yN (Xi _ (Yi (show PC 42 [Iu x ifs,vs a.path,.agg (DE b0.ver)] (X1 none) by have q:=yo x ifs a.path b0.ver (c84 x ifs hx.few) hx.few;rw[H.new]at q;exact q) (yN (Yi Wk (cU [(3,.ref 3 0),(4,.ref 4 0),(7,sl Bu (HR x a cl)),(10,sl AW cl[i]),(11,sl Aq (B9 x cl[i])),(15,vi (FS (fun b:Bk=>decide (b.client=i)) (HR x a cl) 0)),(17,vb false),(57,sl BF cl),(58,vi (cl.map BF).length),(59,vi i)] [(3,.ro (Ic x ifs)),(4,.ro (BA a))] Z10 Z2 (Xi {q:Nat×Bool // q.1<=(B9 x cl[i]).length/\q.2=((B9 x cl[i]).take q.1).any (Ti a)} (Xi (fun q=>⟨[(3,.ref 3 0),(4,.ref 4 0),(7,sl Bu (HR x a cl)),(10,sl AW cl[i]),(15,vi (FS (fun b:Bk=>decide (b.client=i)) (HR x a cl) 0)),(18,.ref 18 0),(57,sl BF cl),(58,vi (cl.map BF).length),(59,vi i),(110,sl Aq (B9 x cl[i])),(111,vi ((B9 x cl[i]).map Aq).length),(112,vi q.1.1)],[(3,.ro (Ic x ifs)),(4,.ro (BA a)),(18,.cells [vs (bif q.1.2 then(BO x a cl[i]).path else⟨#[]⟩),vi (bif q.1.2 then(BO x a cl[i]).ver.a else 0),vi (bif q.1.2 then(BO x a cl[i]).ver.b else 0),vi (bif q.1.2 then(BO x a cl[i]).ver.c else 0),(bif q.1.2 then sl AW (BO x a cl[i]).reqs else nzA),vs (bif q.1.2 then(BO x a cl[i]).arch else⟨#[]⟩),vs (bif q.1.2 then(BO x a cl[i]).ifc else⟨#[]⟩),vs (bif q.1.2 then(BO x a cl[i]).cert else⟨#[]⟩),vb (bif q.1.2 then(BO x a cl[i]).yanked else false)])],Ag⟩) (Xi (fun q=>(B9 x cl[i]).length-q.1.1) (Yi (Xi ⟨⟨0,false⟩,AB _,rfl⟩ ?_) ?_)))))))))))))
      .exact⟨Z12,Z3,Fh,Tv⟩
      intro⟨⟨j,c⟩,j1,j2⟩;have j1:j<=(B9 x cl[i]).length:=j1;have j2:c=((B9 x cl[i]).take j).any (Ti a):=j2;have OF:=H.few;refine Yi (fun h9=>?_) (fun h9=>?_)
      .have h9:(j:Int)<(((B9 x cl[i]).map Aq).length:Int):=h9;have n9:=FJ h9;refine Xi (Aq ((B9 x cl[i])[j])) (Yi (Lv n9) (Yi rfl (yN (yN (Yi (fun UZ=>?_) (fun UZ=>?_))))))
       .have UZ:(((B9 x cl[i])[j]).path:ByteArray)=a.path:=UZ;refine cU [(3,.ref 3 0),(4,.ref 4 0),(7,sl Bu (HR x a cl)),(10,sl AW cl[i]),(15,vi (FS (fun b:Bk=>decide (b.client=i)) (HR x a cl) 0)),(18,.ref 18 0),(20,.ref 20 0),(57,sl BF cl),(58,vi (cl.map BF).length),(59,vi i),(110,sl Aq (B9 x cl[i])),(111,vi ((B9 x cl[i]).map Aq).length),(112,vi j)] [(3,.ro (Ic x ifs)),(4,.ro (BA a)),(18,.cells [vs (bif c then(BO x a cl[i]).path else⟨#[]⟩),vi (bif c then(BO x a cl[i]).ver.a else 0),vi (bif c then(BO x a cl[i]).ver.b else 0),vi (bif c then(BO x a cl[i]).ver.c else 0),(bif c then sl AW (BO x a cl[i]).reqs else nzA),vs (bif c then(BO x a cl[i]).arch else⟨#[]⟩),vs (bif c then(BO x a cl[i]).ifc else⟨#[]⟩),vs (bif c then(BO x a cl[i]).cert else⟨#[]⟩),vb (bif c then(BO x a cl[i]).yanked else false)]),(20,.ro (Aq ((B9 x cl[i])[j])))] Z13 ⟨Zr,Zr,⟨rfl,(by cases c<;>rfl)⟩,Zr,Tv⟩ (yN (yN (Xi .pure (Xi _ (Yi (show PC 42 [Iu x ifs,vs (B9 x cl[i])[j].path,.agg (DE (B9 x cl[i])[j].ver)] (X1 (some (BO x a cl[i]))) by have q:=yo x ifs (B9 x cl[i])[j].path (B9 x cl[i])[j].ver (c84 x ifs hx.few) hx.few;rw[H.old _ (Ao n9) UZ]at q;exact q) ?_)))));refine yN (cU [(3,.ref 3 0),(4,.ref 4 0),(7,sl Bu (HR x a cl)),(10,sl AW cl[i]),(15,vi (FS (fun b:Bk=>decide (b.client=i)) (HR x a cl) 0)),(18,.ref 18 0),(57,sl BF cl),(58,vi (cl.map BF).length),(59,vi i),(110,sl Aq (B9 x cl[i])),(111,vi ((B9 x cl[i]).map Aq).length),(112,vi j)] [(3,.ro (Ic x ifs)),(4,.ro (BA a)),(18,.cells (AC (BO x a cl[i])))] Z12 Z3 (Yi (Ii j ch) (Xi ⟨⟨j+1,true⟩,n9,(aq n9).trans (by rw[Ti,Ak UZ,Bool.or_true]) |>.symm⟩ ?_)));exact⟨by show(B9 x cl[i]).length-(j+1)<(B9 x cl[i]).length-j;omega,Z12,⟨Zr,Zr,⟨rfl,(by cases c<;>rfl)⟩,Tv⟩,Fh,Tv⟩
       have UZ:¬(((B9 x cl[i])[j]).path:ByteArray)=a.path:=UZ;refine cU [(3,.ref 3 0),(4,.ref 4 0),(7,sl Bu (HR x a cl)),(10,sl AW cl[i]),(15,vi (FS (fun b:Bk=>decide (b.client=i)) (HR x a cl) 0)),(18,.ref 18 0),(57,sl BF cl),(58,vi (cl.map BF).length),(59,vi i),(110,sl Aq (B9 x cl[i])),(111,vi ((B9 x cl[i]).map Aq).length),(112,vi j)] [(3,.ro (Ic x ifs)),(4,.ro (BA a)),(18,.cells [vs (bif c then(BO x a cl[i]).path else⟨#[]⟩),vi (bif c then(BO x a cl[i]).ver.a else 0),vi (bif c then(BO x a cl[i]).ver.b else 0),vi (bif c then(BO x a cl[i]).ver.c else 0),(bif c then sl AW (BO x a cl[i]).reqs else nzA),vs (bif c then(BO x a cl[i]).arch else⟨#[]⟩),vs (bif c then(BO x a cl[i]).ifc else⟨#[]⟩),vs (bif c then(BO x a cl[i]).cert else⟨#[]⟩),vb (bif c then(BO x a cl[i]).yanked else false)])] Z12 ⟨Zr,Zr,⟨rfl,(by cases c<;>rfl)⟩,Tv⟩ (Yi (Ii j ch) (Xi ⟨⟨j+1,c⟩,n9,(show c=_ from j2.trans ((aq n9).trans (by rw[Ti,Ae UZ,E3])).symm)⟩ ?_));exact⟨by show(B9 x cl[i]).length-(j+1)<(B9 x cl[i]).length-j;omega,Z12,⟨Zr,Zr,⟨rfl,(by cases c<;>rfl)⟩,Tv⟩,Fh,Tv⟩
      have h9:¬((j:Int)<(((B9 x cl[i]).map Aq).length:Int)):=h9;have n9:=DP h9;have hc1:c=true:=by rw[j2,Av (Bl (DP h9))];exact H.any
      refine cU [(3,.ref 3 0),(4,.ref 4 0),(7,sl Bu (HR x a cl)),(10,sl AW cl[i]),(15,vi (FS (fun b:Bk=>decide (b.client=i)) (HR x a cl) 0)),(18,.ref 18 0),(57,sl BF cl),(58,vi (cl.map BF).length),(59,vi i)] [(3,.ro (Ic x ifs)),(4,.ro (BA a)),(18,.cells (AC (BO x a cl[i])))] Z9 ⟨Zr,Zr,⟨(show HO.cells [vs (bif c then(BO x a cl[i]).path else⟨#[]⟩),vi (bif c then(BO x a cl[i]).ver.a else 0),vi (bif c then(BO x a cl[i]).ver.b else 0),vi (bif c then(BO x a cl[i]).ver.c else 0),(bif c then sl AW (BO x a cl[i]).reqs else nzA),vs (bif c then(BO x a cl[i]).arch else⟨#[]⟩),vs (bif c then(BO x a cl[i]).ifc else⟨#[]⟩),vs (bif c then(BO x a cl[i]).cert else⟨#[]⟩),vb (bif c then(BO x a cl[i]).yanked else false)]=.cells (AC (BO x a cl[i])) by rw[hc1]<;>rfl),rfl⟩,Tv⟩ ?_
      refine Xi _ (Xi _ (Yi Wk (Yi (cS x ch (fun e=>by have q:=H.mem;rw[e]at q;cases q)) (Xi (Bu b0) (Yi H.el (Yi rfl (yN ?_)))))));have b13:Cr 9 [[vs a.path,vi b0.ver.a,vi b0.ver.b,vi b0.ver.c,sl AW (BO x a cl[i]).reqs,vs ⟨#[]⟩,vs ⟨#[]⟩,vs ⟨#[]⟩,vb false]]/\(x.map AC).length=(x.map AC).length/\((x.map AC).length+([[vs a.path,vi b0.ver.a,vi b0.ver.b,vi b0.ver.c,sl AW (BO x a cl[i]).reqs,vs ⟨#[]⟩,vs ⟨#[]⟩,vs ⟨#[]⟩,vb false]]:List (List AV)).length)*120<=140737488355328/\(x.map AC).length+([[vs a.path,vi b0.ver.a,vi b0.ver.b,vi b0.ver.c,sl AW (BO x a cl[i]).reqs,vs ⟨#[]⟩,vs ⟨#[]⟩,vs ⟨#[]⟩,vb false]]:List (List AV)).length<=9223372036854775807:=⟨⟨rfl,trivial⟩,rfl,(by simp only[Lm,Al,Au];omega),(by simp only[Lm,Al,Au];omega)⟩;refine Yi b13 (Xi _ (Yi (show PC 43 [.slice .none ((x.map AC)++[[vs a.path,vi b0.ver.a,vi b0.ver.b,vi b0.ver.c,sl AW (BO x a cl[i]).reqs,vs ⟨#[]⟩,vs ⟨#[]⟩,vs ⟨#[]⟩,vb false]])] (.tup [sl AC (Fv (x++[(RU a b0.ver (BO x a cl[i]))])),vi 0]) by rw[<-show sl AC (x++[(RU a b0.ver (BO x a cl[i]))])=.slice .none ((x.map AC)++[[vs a.path,vi b0.ver.a,vi b0.ver.b,vi b0.ver.c,sl AW (BO x a cl[i]).reqs,vs ⟨#[]⟩,vs ⟨#[]⟩,vs ⟨#[]⟩,vb false]])from(show AV.slice .none (List.map AC (x++[(RU a b0.ver (BO x a cl[i]))]))=_ by rw[At];rfl)];have q:=iH (x:=x++[(RU a b0.ver (BO x a cl[i]))]) (by rw[Ac];show x.length+1<=19;omega) (QL hx.few ha.path (hx.few _ H.mem).2) (Zt np (np _ H.mem));rw[H.srt]at q;exact q) ?_));refine Yi Wk (cU [(3,.ref 3 0),(4,.ref 4 0),(7,sl Bu (HR x a cl)),(10,sl AW cl[i]),(15,vi (FS (fun b:Bk=>decide (b.client=i)) (HR x a cl) 0)),(21,sl AC (Fv (x++[(RU a b0.ver (BO x a cl[i]))]))),(22,vi 0),(57,sl BF cl),(58,vi (cl.map BF).length),(59,vi i)] [(3,.ro (Ic x ifs)),(4,.ro (BA a))] Z10 Z2 (yN (Xi .pure (Xi _ (Yi ((tM (Fv (x++[(RU a b0.ver (BO x a cl[i]))])) [] cl[i] [a] ⟨vr b0.ver (BO x a cl[i]),ir (QL hx.few ha.path (hx.few _ H.mem).2)⟩ (wA (Zt np (np _ H.mem))) xG yS Adi (hcl _ (Ao n2)).2).args (args':=[.agg [sl AC (Fv (x++[(RU a b0.ver (BO x a cl[i]))])),nzA],sl AW cl[i],sl BA [a]]) ⟨.agg ⟨.refl _,.nil,trivial⟩,.refl _,.refl _,trivial⟩) (cU [(3,.ref 3 0),(4,.ref 4 0),(7,sl Bu (HR x a cl)),(15,vi (FS (fun b:Bk=>decide (b.client=i)) (HR x a cl) 0)),(22,vi 0),(23,sl Aq (Pc (Fv (x++[(RU a b0.ver (BO x a cl[i]))])) cl[i] [a])),(24,vi (Kd (Fv (x++[(RU a b0.ver (BO x a cl[i]))])) cl[i] [a])),(57,sl BF cl),(58,vi (cl.map BF).length),(59,vi i)] [(3,.ro (Ic x ifs)),(4,.ro (BA a))] Z10 Z2 (Yi (fun h=>absurd h Cl) (fun _=>?_))))))));refine Xi (Bu b0) (Yi H.el (Yi rfl (Yi (fun PF=>?_) (fun PF=>?_))))
      .have PF:b0.enough=true:=PF;refine Yi (fun jB=>?_) (fun jB=>?_)
       .have jB:((Kd (Fv (x++[(RU a b0.ver (BO x a cl[i]))])) cl[i] [a]):Int)=(0:Int):=jB;refine yN (Xi (Bu b0) (Yi H.el (Yi rfl (yN (BX (Bt (Hm a ⟨a.path,b0.ver⟩)) (fun GQ=>?_) (fun GQ=>?_))))))
        .have GQ:(Hm a ⟨a.path,b0.ver⟩)=true:=GQ;refine Xi _ (Yi (cb GQ (show PC 41 [.agg (BA a),sl Aq [⟨a.path,b0.ver⟩]] (vb (Hm a ⟨a.path,b0.ver⟩)) by have q:=GB a [⟨a.path,b0.ver⟩] ha.set (show 1<=1073741824 by decide);rw[BM,Iq,E3]at q;exact q)) (Yi Wk (cU [] [] Tv Tv ?_)))
         exact absurd H.en (by rw[PF,Ak (p:=Kd (Fv (x++[(RU a b0.ver (BO x a cl[i]))])) cl[i] [a]=0) jB,GQ];simp)
        have GQ:(Hm a ⟨a.path,b0.ver⟩)=false:=GQ;refine Xi _ (Yi (cb GQ (show PC 41 [.agg (BA a),sl Aq [⟨a.path,b0.ver⟩]] (vb (Hm a ⟨a.path,b0.ver⟩)) by have q:=GB a [⟨a.path,b0.ver⟩] ha.set (show 1<=1073741824 by decide);rw[BM,Iq,E3]at q;exact q)) (Xi (Bu b0) (Yi H.el (Yi rfl (Yi (fun _=>?_) (fun hf=>absurd (hf.symm.trans (PF:b0.enough=true)) Cl))))));refine yN (BX (Bt ((Pc (Fv (x++[(RU a b0.ver (BO x a cl[i]))])) cl[i] [a]).any (Hm a))) (fun s8=>?_) (fun s8=>?_))
        .have s8:((Pc (Fv (x++[(RU a b0.ver (BO x a cl[i]))])) cl[i] [a]).any (Hm a))=true:=s8;refine Xi _ (Yi (cb s8 (GB a (Pc (Fv (x++[(RU a b0.ver (BO x a cl[i]))])) cl[i] [a]) ha.set (gp (vr b0.ver (BO x a cl[i]))))) (Yi Wk (cU [] [] Tv Tv ?_)))
         exact absurd (H.cn PF) (by rw[s8];simp)
        have s8:((Pc (Fv (x++[(RU a b0.ver (BO x a cl[i]))])) cl[i] [a]).any (Hm a))=false:=s8;refine Xi _ (Yi (cb s8 (GB a (Pc (Fv (x++[(RU a b0.ver (BO x a cl[i]))])) cl[i] [a]) ha.set (gp (vr b0.ver (BO x a cl[i]))))) (Yi Wk (cU [(3,.ref 3 0),(4,.ref 4 0),(7,sl Bu (HR x a cl)),(57,sl BF cl),(58,vi (cl.map BF).length),(59,vi i)] [(3,.ro (Ic x ifs)),(4,.ro (BA a))] Z6 Z2 (Yi (Ii i ch) (Xi ⟨i+1,n2⟩ ?_)))));exact⟨Dl cl.length i ch,Z6,Z2,Fh,Tv⟩
       have jB:¬(((Kd (Fv (x++[(RU a b0.ver (BO x a cl[i]))])) cl[i] [a]):Int)=(0:Int)):=jB;refine Yi Wk (cU [] [] Tv Tv ?_)
       exact absurd H.en (by rw[PF,Ae (p:=Kd (Fv (x++[(RU a b0.ver (BO x a cl[i]))])) cl[i] [a]=0) jB];simp)
      have PF:b0.enough=false:=PF;refine Yi (fun xu=>?_) (fun xu=>?_)
      .have xu:((Kd (Fv (x++[(RU a b0.ver (BO x a cl[i]))])) cl[i] [a]):Int)=(0:Int):=xu;refine yN (Xi (Bu b0) (Yi H.el (Yi rfl (yN (BX (Bt (Hm a ⟨a.path,b0.ver⟩)) (fun mQ=>?_) (fun mQ=>?_))))))
       .have mQ:(Hm a ⟨a.path,b0.ver⟩)=true:=mQ;refine Xi _ (Yi (cb mQ (show PC 41 [.agg (BA a),sl Aq [⟨a.path,b0.ver⟩]] (vb (Hm a ⟨a.path,b0.ver⟩)) by have q:=GB a [⟨a.path,b0.ver⟩] ha.set (show 1<=1073741824 by decide);rw[BM,Iq,E3]at q;exact q)) (Xi (Bu b0) (Yi H.el (Yi rfl (Yi (fun hf=>absurd (hf.symm.trans (PF:b0.enough=false)) Cl) (fun _=>?_))))));refine Yi Wk (cU [(3,.ref 3 0),(4,.ref 4 0),(7,sl Bu (HR x a cl)),(57,sl BF cl),(58,vi (cl.map BF).length),(59,vi i)] [(3,.ro (Ic x ifs)),(4,.ro (BA a))] Z6 Z2 (Yi (Ii i ch) (Xi ⟨i+1,n2⟩ ?_)));exact⟨Dl cl.length i ch,Z6,Z2,Fh,Tv⟩
       have mQ:(Hm a ⟨a.path,b0.ver⟩)=false:=mQ;refine Xi _ (Yi (cb mQ (show PC 41 [.agg (BA a),sl Aq [⟨a.path,b0.ver⟩]] (vb (Hm a ⟨a.path,b0.ver⟩)) by have q:=GB a [⟨a.path,b0.ver⟩] ha.set (show 1<=1073741824 by decide);rw[BM,Iq,E3]at q;exact q)) (Yi Wk (cU [] [] Tv Tv ?_)))
       exact absurd H.en (by rw[PF,Ak (p:=Kd (Fv (x++[(RU a b0.ver (BO x a cl[i]))])) cl[i] [a]=0) xu,mQ];simp)
      have xu:¬(((Kd (Fv (x++[(RU a b0.ver (BO x a cl[i]))])) cl[i] [a]):Int)=(0:Int)):=xu;refine Xi (Bu b0) (Yi H.el (Yi rfl (Yi (fun hf=>absurd (hf.symm.trans (PF:b0.enough=false)) Cl) (fun _=>?_))));refine Yi Wk (cU [(3,.ref 3 0),(4,.ref 4 0),(7,sl Bu (HR x a cl)),(57,sl BF cl),(58,vi (cl.map BF).length),(59,vi i)] [(3,.ro (Ic x ifs)),(4,.ro (BA a))] Z6 Z2 (Yi (Ii i ch) (Xi ⟨i+1,n2⟩ ?_)));exact⟨Dl cl.length i ch,Z6,Z2,Fh,Tv⟩
     have h6:((Kd x cl[i] [a]):Int)=(0:Int):=AH h6;refine cU [] [] Tv Tv ?_
     exact absurd (QB hb n2) (by rw[Ak (p:=(0:Int)<=(FS (fun b:Bk=>decide (b.client=i)) (HR x a cl) 0)) h3,Ak (p:=EV x cl[i]=0) h4,h5,Ak (p:=Kd x cl[i] [a]=0) h6];simp)
    have h5:((B9 x cl[i]).any (Hm a))=false:=h5;refine Xi .pure (Xi _ (Yi (cb h5 (GB a (B9 x cl[i]) ha.set (OF _ _ (show x.length<=19 by omega)))) (cU [] [] Tv Tv ?_)))
    exact absurd (QB hb n2) (by rw[Ak (p:=(0:Int)<=(FS (fun b:Bk=>decide (b.client=i)) (HR x a cl) 0)) h3,Ak (p:=EV x cl[i]=0) h4,h5];simp)
   have h4:¬(((EV x cl[i]):Int)=(0:Int)):=h4;refine cU [] [] Tv Tv ?_
   exact absurd (QB hb n2) (by rw[Ak (p:=(0:Int)<=(FS (fun b:Bk=>decide (b.client=i)) (HR x a cl) 0)) h3,Ae (p:=EV x cl[i]=0) h4];simp)
  have h3:¬((0:Int)<=((FS (fun b:Bk=>decide (b.client=i)) (HR x a cl) 0):Int)):=h3;refine Yi (fun ll=>?_) (fun ll=>?_)
  .have ll:((EV x cl[i]):Int)=(0:Int):=ll;refine yN (BX (Bt ((B9 x cl[i]).any (Hm a))) (fun XI=>?_) (fun XI=>?_))
   .have XI:((B9 x cl[i]).any (Hm a))=true:=XI;refine Xi .pure (Xi _ (Yi (cb XI (GB a (B9 x cl[i]) ha.set (OF _ _ (show x.length<=19 by omega)))) (Yi (fun xv=>?_) (fun xv=>?_))))
    .have xv:((Kd x cl[i] [a]):Int)≠(0:Int):=xv;refine cU [] [] Tv Tv ?_
     exact absurd (QB hb n2) (by rw[Ae (p:=(0:Int)<=(FS (fun b:Bk=>decide (b.client=i)) (HR x a cl) 0)) h3,Ak (p:=EV x cl[i]=0) ll,XI,Ae (p:=Kd x cl[i] [a]=0) xv];simp)
    have xv:((Kd x cl[i] [a]):Int)=(0:Int):=AH xv;refine cU [(3,.ref 3 0),(4,.ref 4 0),(7,sl Bu (HR x a cl)),(10,sl AW cl[i]),(11,sl Aq (B9 x cl[i])),(15,vi (FS (fun b:Bk=>decide (b.client=i)) (HR x a cl) 0)),(57,sl BF cl),(58,vi (cl.map BF).length),(59,vi i)] [(3,.ro (Ic x ifs)),(4,.ro (BA a))] Z9 Z2 (Yi (fun xw=>?_) (fun xw=>?_))
    .have xw:((FS (fun b:Bk=>decide (b.client=i)) (HR x a cl) 0):Int)<(0:Int):=xw;refine cU [(3,.ref 3 0),(4,.ref 4 0),(7,sl Bu (HR x a cl)),(57,sl BF cl),(58,vi (cl.map BF).length),(59,vi i)] [(3,.ro (Ic x ifs)),(4,.ro (BA a))] Z6 Z2 (Yi (Ii i ch) (Xi ⟨i+1,n2⟩ ?_));exact⟨Dl cl.length i ch,Z6,Z2,Fh,Tv⟩
    have xw:¬(((FS (fun b:Bk=>decide (b.client=i)) (HR x a cl) 0):Int)<(0:Int)):=xw;exact absurd xw ch
   have XI:((B9 x cl[i]).any (Hm a))=false:=XI;refine Xi .pure (Xi _ (Yi (cb XI (GB a (B9 x cl[i]) ha.set (OF _ _ (show x.length<=19 by omega)))) (cU [(3,.ref 3 0),(4,.ref 4 0),(7,sl Bu (HR x a cl)),(10,sl AW cl[i]),(11,sl Aq (B9 x cl[i])),(15,vi (FS (fun b:Bk=>decide (b.client=i)) (HR x a cl) 0)),(57,sl BF cl),(58,vi (cl.map BF).length),(59,vi i)] [(3,.ro (Ic x ifs)),(4,.ro (BA a))] Z9 Z2 (Yi (fun xx=>?_) (fun xx=>?_)))))
   .have xx:((FS (fun b:Bk=>decide (b.client=i)) (HR x a cl) 0):Int)<(0:Int):=xx;refine cU [(3,.ref 3 0),(4,.ref 4 0),(7,sl Bu (HR x a cl)),(57,sl BF cl),(58,vi (cl.map BF).length),(59,vi i)] [(3,.ro (Ic x ifs)),(4,.ro (BA a))] Z6 Z2 (Yi (Ii i ch) (Xi ⟨i+1,n2⟩ ?_));exact⟨Dl cl.length i ch,Z6,Z2,Fh,Tv⟩
   have xx:¬(((FS (fun b:Bk=>decide (b.client=i)) (HR x a cl) 0):Int)<(0:Int)):=xx;exact absurd xx ch
  have ll:¬(((EV x cl[i]):Int)=(0:Int)):=ll;refine cU [(3,.ref 3 0),(4,.ref 4 0),(7,sl Bu (HR x a cl)),(10,sl AW cl[i]),(11,sl Aq (B9 x cl[i])),(15,vi (FS (fun b:Bk=>decide (b.client=i)) (HR x a cl) 0)),(57,sl BF cl),(58,vi (cl.map BF).length),(59,vi i)] [(3,.ro (Ic x ifs)),(4,.ro (BA a))] Z9 Z2 (Yi (fun bo=>?_) (fun bo=>?_))
  .have bo:((FS (fun b:Bk=>decide (b.client=i)) (HR x a cl) 0):Int)<(0:Int):=bo;refine cU [(3,.ref 3 0),(4,.ref 4 0),(7,sl Bu (HR x a cl)),(57,sl BF cl),(58,vi (cl.map BF).length),(59,vi i)] [(3,.ro (Ic x ifs)),(4,.ro (BA a))] Z6 Z2 (Yi (Ii i ch) (Xi ⟨i+1,n2⟩ ?_));exact⟨Dl cl.length i ch,Z6,Z2,Fh,Tv⟩
  have bo:¬(((FS (fun b:Bk=>decide (b.client=i)) (HR x a cl) 0):Int)<(0:Int)):=bo;exact absurd bo ch
 have h2:¬((i:Int)<((cl.map BF).length:Int)):=h2;have n2:=DP h2;exact .refl _
theorem Ae1(x:List Rl)(ifs:List (List AV))(a:Ad)(cl:List (List Rq))(hL:sT x [])(hA:xS a cl)(mX:PC 103 [.slice .none ifs] (.slice .none ifs)):PC 9 [Iu x ifs,.agg (BA a),sl BF cl] (vb true):=by
 have mR:=Afe hL ifs;have RI:=sD [a] (show 1<=1073741824 by decide) fun b hb=>by rw[Ar.1 hb];exact hA.ad
 have pZ:=wM cl hA.len fun q hq=>(hA.q q hq).1
 by_cases hg:GL x 16=true/\I0 [a]=true/\(cl.any fun q=>!EN q)=false/\cl.length<=4
 .obtain⟨g1,g2,g3,g4⟩:=hg;have hx:PI x:=⟨fB g1,hL.x⟩;have XI:=pz x ifs a cl hx (cL g1) hA.ad hA.len (fun q hq=>(hA.q q hq).2) mX;rw[g1]at mR;rw[g2]at RI;rw[g3]at pZ
  by_cases hb:cZ x a cl=0
  .rw[hb]at XI;exact sL x ifs a cl hx (cL g1) hA.ad hA.q mX hb mR RI pZ g4 XI
  .rw[HR,Aj hb]at XI;exact sJ x ifs a cl _ hb mR RI pZ g4 XI
 .exact sK x ifs a cl _ _ _ mR RI pZ fun e1 e2 e3=>AH fun e4=>hg ⟨e1,e2,e3,by omega⟩
end Go.Eng
namespace Go.Proofs.YteaiieomnhbmgaaGreatDoor.joins
open Go Go.Eng Go.Proofs Go.ChangeShapes Go.WideShapes Go.ChangeAt Go.RowKit
section
variable {H:Type}{enc:TypeId×Value->H}{w:World}
theorem all_le{d:DataW H}{l:List (DataW H)}(h:d∈l):Rows.uptoBulk d<=Rows.uptoBulkAll l:=by
 induction l with
 |nil=>cases h
 |cons x r ih=>
  simp only[Rows.uptoBulkAll]
  cases Ay.1 h with
  |inl e=>subst e;omega
  |inr e=>have:=ih e;omega
theorem one_le(d:DataW H):1<=Rows.uptoBulk d:=by
 cases d with
 |lit l=>cases l<;>simp[Rows.uptoBulk]
 |nil=>simp[Rows.uptoBulk]
 |ptr d=>simp[Rows.uptoBulk]
 |slice sZ spare=>simp[Rows.uptoBulk]
 |agg parts=>simp[Rows.uptoBulk]
 |iface t d=>simp[Rows.uptoBulk]
 |map entries=>simp[Rows.uptoBulk]
 |held h=>simp[Rows.uptoBulk]
theorem len_le(l:List (DataW H)):l.length<=Rows.uptoBulkAll l:=by
 induction l with
 |nil=>simp[Rows.uptoBulkAll]
 |cons x r ih=>have:=one_le x;simp only[Rows.uptoBulkAll,Al];omega
theorem bulk_ok:Ys (H:=H) Rows.uptoBulk where
 slice es sp:=by
  have h1:=len_le es
  refine⟨by simp only[Rows.uptoBulk];omega,fun d hd=>?_⟩
  have:=all_le hd
  simp only[Rows.uptoBulk];omega
 agg ps d hd:=by
  have:=all_le hd
  simp only[Rows.uptoBulk];omega
 str b:=by simp only[Rows.uptoBulk];omega
theorem app_all(l r:List (DataW H)):Rows.uptoBulkAll (l++r)=Rows.uptoBulkAll l+Rows.uptoBulkAll r:=by
 induction l with
 |nil=>simp[Rows.uptoBulkAll]
 |cons x l ih=>simp only[HB,Rows.uptoBulkAll,ih];omega
abbrev NB:Nat:=1048576
abbrev Op(enc:TypeId×Value->H)(w:World)(t:TypeId){α:Type}(e:α->List AV)(ok:α->Prop):Prop:=K7 enc Tryz.prog w Rows.uptoBulk NB t e ok
theorem oI:Op enc w 3 (fun n:Int=>[vi n]) (fun _=>True):=(RX Tryz.underlying3).to id (fun _ _=>⟨rfl,trivial⟩)
theorem oB:Op enc w 4 (fun b:Bool=>[vb b]) (fun _=>True):=eX Tryz.underlying4
theorem oS:Op enc w 9 (fun s:ByteArray=>[vs s]) (fun s=>s.size<=NB):=Zw bulk_ok Tryz.underlying9
theorem oVer:Op enc w 46 DE (fun _=>True):=
 (Eo bulk_ok Tryz.underlying46 (L:=3) Wk (BL rfl (n:=1) Wk oI (BL rfl (n:=1) Wk oI (BL rfl (n:=1) Wk oI Fu)))).to
  (fun p=>(⟨p.1,p.2.1,p.2.2.1⟩:Ver)) (fun _ _=>⟨rfl,trivial⟩)
theorem oSpan:Op enc w 92 AE (fun _=>True):=
 (Eo bulk_ok Tryz.underlying92 (L:=2) Wk (BL rfl (n:=1) Wk oI (BL rfl (n:=1) Wk oI Fu))).to
  (fun p=>(p.1,p.2.1)) (fun _ _=>⟨rfl,trivial⟩)
theorem oSet:Op enc w 51 (fun l:Bz=>[sl AE l]) (fun l=>l.length<=NB):=
 (FK bulk_ok Tryz.underlying51 (m:=1) Wk (fun _=>rfl) oSpan).to id (fun _ h=>⟨rfl,h.1⟩)
abbrev OkRq(q:Rq):Prop:=q.path.size<=NB/\q.set.length<=NB
theorem oRq:Op enc w 95 AW OkRq:=
 (Eo bulk_ok Tryz.underlying95 (L:=2) Wk (BL rfl (n:=1) Wk oS (BL rfl (n:=1) Wk oSet Fu))).to
  (fun p=>(⟨p.1,p.2.1⟩:Rq)) (fun _ h=>⟨rfl,h.1,h.2.1⟩)
abbrev OkRqs(l:List Rq):Prop:=l.length<=NB/\∀q∈l,OkRq q
theorem oRqs:Op enc w 60 (fun l:List Rq=>[sl AW l]) OkRqs:=
 FK bulk_ok Tryz.underlying60 (m:=1) Wk (fun _=>rfl) oRq
abbrev OkRl(r:Rl):Prop:=r.path.size<=NB/\OkRqs r.reqs
theorem oRl:Op enc w 78 AC OkRl:=
 (Eo bulk_ok Tryz.underlying78 (L:=9) Wk (BL rfl (n:=1) Wk oS (BL rfl (n:=3) Wk oVer (BL rfl (n:=1) Wk oRqs
  (BL rfl (n:=1) Wk oS (BL rfl (n:=1) Wk oS (BL rfl (n:=1) Wk oS (BL rfl (n:=1) Wk oB Fu)))))))).to
  (fun p=>(⟨p.1,p.2.1,p.2.2.1,p.2.2.2.1,p.2.2.2.2.1,p.2.2.2.2.2.1,p.2.2.2.2.2.2.1⟩:Rl)) (fun _ h=>⟨rfl,h.1,h.2.2.1⟩)
theorem oRls:Op enc w 30 (fun l:List Rl=>[sl AC l]) (fun l=>l.length<=NB/\∀r∈l,OkRl r):=
 FK bulk_ok Tryz.underlying30 (m:=8) Wk (fun _=>rfl) oRl
theorem oIfc:Op enc w 182 (fun s:ByteArray=>[vs s,.junk,.junk,.junk,.junk]) (fun _=>True):=
 (Eo bulk_ok Tryz.underlying182 (L:=5) Wk (BL rfl (n:=1) Wk oS (BL rfl (n:=1) Wk (Oc Tryz.underlying177) (BL rfl (n:=1) Wk (Oc Tryz.underlying178)
  (BL rfl (n:=1) Wk (Oc Tryz.underlying179) (BL rfl (n:=1) Wk (Oc Tryz.underlying180) Fu)))))).to (fun p=>p.1) (fun _ _=>⟨rfl,trivial⟩)
theorem oIfs:Op enc w 31 (fun l:List ByteArray=>[sl (fun s=>[vs s,.junk,.junk,.junk,.junk]) l]) (fun l=>l.length<=NB):=
 (FK bulk_ok Tryz.underlying31 (m:=4) Wk (fun _=>rfl) oIfc).to id (fun _ h=>⟨rfl,h.1⟩)
theorem oIx:Op enc w 33 (fun p:List Rl×List (List AV)=>[sl AC p.1,.slice .none p.2]) (fun p=>(p.1.length<=NB/\∀r∈p.1,OkRl r)/\p.2.length<=NB/\∀c∈p.2,c.length=5):=
 (Eo bulk_ok Tryz.underlying33 (L:=2) Wk (BL rfl (n:=1) Wk oRls (BL rfl (n:=1) Wk oIfs Fu))).to
  (fun p=>(p.1,p.2.1.map (fun s=>[vs s,.junk,.junk,.junk,.junk]))) (fun _ h=>⟨rfl,h.1,by rw[A7];exact h.2.1,fun c hc=>by obtain⟨s,_,rfl⟩:=Ai.1 hc;rfl⟩)
theorem oSl:Op enc w 48 Aq (fun y=>y.path.size<=NB):=
 (Eo bulk_ok Tryz.underlying48 (L:=4) Wk (BL rfl (n:=1) Wk oS (BL rfl (n:=3) Wk oVer Fu))).to
  (fun p=>(⟨p.1,p.2.1⟩:Sl)) (fun _ h=>⟨rfl,h.1⟩)
theorem oSls:Op enc w 34 (fun l:List Sl=>[sl Aq l]) (fun l=>l.length<=NB/\∀y∈l,y.path.size<=NB):=
 FK bulk_ok Tryz.underlying34 (m:=3) Wk (fun _=>rfl) oSl
theorem oInt:Op enc w 3 (fun n:Int=>[vi n]) Bc:=(RX Tryz.underlying3).to id (fun x h=>⟨rfl,by
  have h1:(-9223372036854775808:Int)<=x:=h.1
  have h2:x<=(9223372036854775807:Int):=h.2
  show -9223372036854775808<=x/\x<9223372036854775808
  omega⟩)
theorem oU8:Op enc w 5 (fun n:Int=>[.v (.int .u8 n)]) (fun n=>0<=n/\n<=255):=(RX Tryz.underlying5).to id (fun _ h=>⟨rfl,h⟩)
theorem oStg:Op enc w 74 GI (fun _=>True):=
 (Eo bulk_ok Tryz.underlying74 (L:=2) Wk (BL rfl (n:=1) Wk oI (BL rfl (n:=1) Wk oI Fu))).to
  (fun p=>(⟨p.1,p.2.1⟩:cY)) (fun _ _=>⟨rfl,trivial⟩)
theorem oStgs:Op enc w 22 (fun l:List cY=>[sl GI l]) (fun l=>l.length<=NB):=
 (FK bulk_ok Tryz.underlying22 (m:=1) Wk (fun _=>rfl) oStg).to id (fun _ h=>⟨rfl,h.1⟩)
theorem oStr:Op enc w 9 Go.Eng.AF (fun s:ByteArray=>s.size<=NB):=oS
theorem oStrs:Op enc w 52 (fun l:List ByteArray=>[sl Go.Eng.AF l]) (fun l=>l.length<=NB/\∀s∈l,s.size<=NB):=
 FK bulk_ok Tryz.underlying52 (m:=0) Wk (fun _=>rfl) oStr
abbrev OkWv(v:Wv):Prop:=v.paths.length<=NB/\v.stages.length<=NB
theorem oWv:Op enc w 72 GY OkWv:=
 (Eo bulk_ok Tryz.underlying72 (L:=2) Wk (BL rfl (n:=1) Wk oStrs (BL rfl (n:=1) Wk oStgs Fu))).to
  (fun p=>(⟨p.1,p.2.1⟩:Wv)) (fun _ h=>⟨rfl,h.1.1,h.2.1⟩)
theorem oWvs:Op enc w 35 (fun l:List Wv=>[sl GY l]) (fun l=>l.length<=NB/\∀v∈l,OkWv v):=
 FK bulk_ok Tryz.underlying35 (m:=1) Wk (fun _=>rfl) oWv
theorem oRo:Op enc w 37 Jv (fun r=>r.name.size<=NB/\r.waves.length<=NB/\∀v∈r.waves,OkWv v):=
 (Eo bulk_ok Tryz.underlying37 (L:=2) Wk (BL rfl (n:=1) Wk oS (BL rfl (n:=1) Wk oWvs Fu))).to
  (fun p=>(⟨p.1,p.2.1⟩:Ro)) (fun _ h=>⟨rfl,h.1,h.2.1⟩)
abbrev OkAd(a:Ad):Prop:=a.id.size<=NB/\a.path.size<=NB/\a.set.length<=NB/\(a.syms.length<=NB/\∀s∈a.syms,s.size<=NB)/\a.note.size<=NB
theorem oAd:Op enc w 54 BA OkAd:=
 (Eo bulk_ok Tryz.underlying54 (L:=5) Wk (BL rfl (n:=1) Wk oS (BL rfl (n:=1) Wk oS (BL rfl (n:=1) Wk oSet (BL rfl (n:=1) Wk oStrs (BL rfl (n:=1) Wk oS Fu)))))).to
  (fun p=>(⟨p.1,p.2.1,p.2.2.1,p.2.2.2.1,p.2.2.2.2.1⟩:Ad)) (fun _ h=>⟨rfl,h.1,h.2.1,h.2.2.1,h.2.2.2.1,h.2.2.2.2.1⟩)
theorem oCl:Op enc w 55 (fun l:List (List Rq)=>[sl BF l]) (fun l=>l.length<=NB/\∀q∈l,OkRqs q):=
 FK bulk_ok Tryz.underlying55 (m:=0) Wk (fun _=>rfl) oRqs
theorem few_of{n:Nat}(h:n<=NB):n<=1073741824:=AK h Cl
theorem lim_of{x:List Rl}{roots:List Rq}(h:x.length<=NB/\∀r∈x,OkRl r)(k:OkRqs roots):sT x roots where
 ix:=few_of h.1
 rs:=few_of k.1
 rel r hr:=⟨few_of (h.2 r hr).2.1,few_of (h.2 r hr).1,fun q hq=>⟨few_of ((h.2 r hr).2.2 q hq).2,few_of ((h.2 r hr).2.2 q hq).1⟩⟩
 rq q hq:=⟨few_of (k.2 q hq).2,few_of (k.2 q hq).1⟩
theorem lim0_of{x:List Rl}(h:x.length<=NB/\∀r∈x,OkRl r):sT x []:=lim_of h ⟨AB _,fun q hq=>by cases hq⟩
theorem limr_of{l m:List Sl}{r:Ro}{user:ByteArray}(h1:l.length<=NB/\∀y∈l,y.path.size<=NB)(h2:m.length<=NB/\∀y∈m,y.path.size<=NB)(h3:r.name.size<=NB/\r.waves.length<=NB/\∀v∈r.waves,OkWv v)(h4:user.size<=NB):AbP l m r user:=
 ⟨h1.1,h2.1,h3.2.1,fun v hv=>(h3.2.2 v hv).2,fun v hv=>(h3.2.2 v hv).1,h3.1,h4⟩
theorem lima_of{a:Ad}{cl:List (List Rq)}(h:OkAd a)(k:cl.length<=NB/\∀q∈cl,OkRqs q):xS a cl:=
 ⟨⟨few_of h.1,few_of h.2.1,few_of h.2.2.1,few_of h.2.2.2.1.1,fun s hs=>few_of (h.2.2.2.1.2 s hs),few_of h.2.2.2.2⟩,few_of k.1,fun q hq=>⟨few_of (k.2 q hq).1,fun z hz=>⟨few_of ((k.2 q hq).2 z hz).2,few_of ((k.2 q hq).2 z hz).1⟩⟩⟩
theorem clone_of{ifs:List (List AV)}(h:ifs.length<=NB/\∀c∈ifs,c.length=5):PC 103 [.slice .none ifs] (.slice .none ifs):=o46 ifs (few_of h.1) h.2
end
theorem ok_agg{P:Program}{W:World}{base:Nat}{t:TypeId}{v:Value}{fs:Array Field}(hu:P.underlying t=some (.struct fs))(h:Value.okWide P W .any base t v):∃cs,v=.agg cs:=by
 unfold Value.okWide at h
 rw[hu]at h
 obtain⟨cs,e,_⟩:=h
 exact⟨cs,e⟩
theorem ok_slice{P:Program}{W:World}{base:Nat}{t e:TypeId}{v:Value}(hu:P.underlying t=some (.slice e))(h:Value.okWide P W .any base t v):v.oneCell'=true:=by
 unfold Value.okWide at h
 rw[hu]at h
 unfold Cell.okWide Cell.ok at h
 rw[hu]at h
 cases v<;>first|rfl|simp at h
theorem ok_int{P:Program}{W:World}{base:Nat}{t:TypeId}{k:IntKind}{v:Value}(hu:P.underlying t=some (.int k))(h:Value.okWide P W .any base t v):v.oneCell'=true:=by
 unfold Value.okWide at h
 rw[hu]at h
 unfold Cell.okWide Cell.ok at h
 rw[hu]at h
 cases v<;>first|rfl|simp at h
theorem ok_string{P:Program}{W:World}{base:Nat}{t:TypeId}{v:Value}(hu:P.underlying t=some .string)(h:Value.okWide P W .any base t v):v.oneCell'=true:=by
 unfold Value.okWide at h
 rw[hu]at h
 unfold Cell.okWide Cell.ok at h
 rw[hu]at h
 cases v<;>first|rfl|simp at h
theorem int_of_shape{P:Program}{w:World}{g:Nat}{t:TypeId}{k:IntKind}{zero:Array Value}(h:w.ShapedOpen P)(hg:g<P.globals.size)
  (h0:((begin P (fun _ _=>0) default).world.heap[g]?).bind Obj.row?=some (zero,t)) (hz:zero.size=1)
  (hb:P.buildable t=true) (hc:P.cellTypes P.depth t=some [t]) (hu:P.underlying t=some (.int k)):∃p,w.cell? ⟨g,0,none⟩=some (.int k p):=by
 obtain⟨cs,hh,hs,hr⟩:=h.1 g zero t hg h0
 obtain⟨ts,hts,_,GJ⟩:=hr hb
 rw[hc]at hts
 cases hts
 have h1:0<cs.size:=by omega
 obtain⟨u,nu,G1⟩:=GJ 0 cs[0] (by simp[h1])
 have:u=t:=by simpa using nu.symm
 subst this
 have DV:w.cell? ⟨g,0,none⟩=some cs[0]:=by simp[World.cell?,hh,h1]
 rw[DV]
 unfold Cell.ok at G1
 rw[hu]at G1
 cases hv:cs[0]<;>rw[hv]at G1<;>simp at G1
 obtain⟨rfl,_⟩:=G1
 exact⟨_,rfl⟩
theorem maxLen_cell{W:World}(h:W.ShapedOpen Tryz.prog):∃m,W.cell? ⟨0,0,none⟩=some (.int .i64 m):=
 int_of_shape (t:=3) (zero:=#[.int .i64 0]) h (AP Wk) Wk rfl Wk Wk Tryz.underlying3
def Start(W:World):Prop:=(∃m,W.cell? ⟨0,0,none⟩=some (.int .i64 m))/\∀x∈mK,x.1<W.heap.size/\W.cell? ⟨x.1,x.2.1,none⟩=x.2.2
theorem start_of {W:World} {r:List (String × DataW Unit)} {a b:String × DataW Unit} (h:W.ShapedOpen Tryz.prog) (hl:laidMet Tryz.prog (a :: b :: ("internal/strconv.uint64pow10", Rows.laid_internal_strconv_uint64pow10) :: r) W):Start W:=by
 refine⟨maxLen_cell h,?_⟩
 have ht:Go.Lib.TabIs Tryz.prog W "internal/strconv.uint64pow10" .u64 ((List.range 20).map fun i => ((10 ^ i:Nat):Int)):=
  Go.Lib.tabIs_of_head (g:=1) (t:=355) (e:=98) (n:=20) Wk Wk Wk Wk Wk Wk hl.tail.tail
 have hc:=fun i => World.var?_cell (P:=Tryz.prog) (n:="internal/strconv.uint64pow10") (g:=1) Wk ht i
 have h0:1<W.heap.size:=YP (v:=.int .u64 1) ((hc 0).trans rfl)
 intro x hx
 rcases Ay.1 hx with rfl|hx
 .exact⟨h0,(hc 20).trans rfl⟩
 .obtain⟨i,hi,rfl⟩:=Ai.1 hx
  have hi:=Gx.1 hi
  refine⟨h0,(hc i).trans ?_⟩
  simp[hi]
def Still(W W' : World):Prop:=W'.os=W.os/\W'.output=W.output/\W.heap.size<=W'.heap.size/\∀b,b<W.heap.size->W'.heap[b]?=W.heap[b]?
theorem run_true{f:Nat}{args:List AV}{vals:Array Value}{W:World}(hc:PC f args (vb true))(hM:Start W)(hs:vals.size=args.length)
  (hr:∀(i:Nat) (av:AV) (x:Value),args[i]?=some av->vals[i]?=some x->BU (mJ W) W FB av x):Calls Tryz.prog f vals W fun e W'=>e=.returned (.bool true)/\Still W W':=by
 refine(hc.2 (mJ W) W vals hs (fun i av x q1 q2=>(hr i av x q1 q2).up _) (zL hM.1 hM.2)).mono fun e W' ⟨v,r,h',g',e1,e2,e3,e4,_⟩=>?_
 subst e1
 obtain⟨rfl,rfl⟩:=e2
 obtain rfl:=e3.v_eq
 exact⟨rfl,e4.os,e4.output,e4.size,fun b hb=>e4.frame b hb (fun r h=>h.elim)⟩
theorem Still.kept{W W' : World}(h:Still W W')(may:MemPlace->Prop):W.keptBut W' may:=by
 refine⟨h.1,h.2.1,fun i hi=>?_⟩
 rw[h.2.2.2 i hi]
 cases hh:W.heap[i]? with
 |none=>rfl
 |some o=>cases o<;>simp
theorem Still.same{W W' : World}(h:Still W W'){p:MemPlace}(hp:p.block<W.heap.size):W.sameAt W' p:=by
 cases p with
 |cell b off=>
  show W'.cell? ⟨b,off,none⟩=W.cell? ⟨b,off,none⟩
  unfold World.cell?
  rw[h.2.2.2 b hp]
 |map b=>exact h.2.2.2 b hp
theorem kids:Kids Tryz.prog (· < Tryz.prog.types.size):=kids_rows Wk Wk
theorem full:∀t e,t<Tryz.prog.types.size->Tryz.prog.underlying t=some (.slice e)->0<Tryz.prog.cellsOf e:=slices_full_of Tryz.prog Wk
theorem carry{H:Type}{enc:TypeId×Value->H}{W W' : World}(h:Still W W'):∀{ts:List TypeId} {vs:List Value} {ds:List (DataW H)} {ps:List MemPlace},DataW.TrodAll enc Tryz.prog W 0 (fun _=>true) true ts vs ds ps->DataW.TrodAll enc Tryz.prog W' 0 (fun _=>true) true ts vs ds ps
 | [],[],[],_,e=>e
 |t::ts,v::vs,d::ds,ps,k=>by
  have DF:=k.lt
  obtain⟨p,q,⟨n,h1⟩,h2,rfl⟩:=k
  exact⟨p,q,⟨n,DataW.trod_carry n _ _ _ h1 (fun x hx=>h.same (DF x (By _ hx)))⟩,carry h h2,rfl⟩
 | [],[],_::_,_,k=>k.elim
 | [],_::_,_,_,k=>k.elim
 |_::_,[],_,_,k=>k.elim
 |_::_,_::_,[],_,k=>k.elim
theorem post_true{H:Type}{enc:TypeId×Value->H}{W W' : World}{f:Func}{s:ChangeSpec}{args:Array Value}{ds:List (DataW H)}{before:List MemPlace}(K4:Still W W')(hv:s.vars=[])
  (hW:DataW.Whole enc Tryz.prog f.params.toList s.vars false W args.toList ds [] before) (hr:f.resultTypes=#[4]) (hT:∀t∈f.params.toList,t<Tryz.prog.types.size) (hs:s.fn H ds={ results:=[.lit (.bool true)],args:=ds }) :
  s.post enc Tryz.prog f false true false false W args (.bool true) W':=by
 have hW0:=hW
 obtain⟨p,q,hA,hV,rfl,hz,_⟩:=hW
 rw[hv]at hV
 have hq:q=[]:=hV
 subst hq
 have DF:=hW0.lt
 have vE:s.fn H (ds++[])={ results:=[.lit (.bool true)],args:=ds }:=by rw[BQ];exact hs
 refine⟨ds,[],p++[],[],p,[],hW0,?_,?_,?_,K4.kept _,fun h=>by cases h⟩
 .rw[vE,hr]
  exact⟨[],[],⟨1,by rw[show(Value.bool true).cells.toList=[.bool true]from rfl,DataW.trod_step];unfold DataW.trodStep;rw[Tryz.underlying4]⟩,rfl,rfl⟩
 .rw[vE]
  exact(carry K4 hA).respare kids full hT (fun x hx=>by simpa using DF x (By _ hx))
 .rw[vE,hv];rfl
end Go.Proofs.YteaiieomnhbmgaaGreatDoor.joins
namespace Go.Proofs.YteaiieomnhbmgaaGreatDoor.joins
open Go Go.Eng Go.Proofs Go.ChangeShapes Go.WideShapes Go.ChangeAt Go.RowKit
theorem own:ownKnob Tryz.prog.godebug=none:=by kernel_rfl
def flatD:Nat->DataW Unit->List Value
 |0,_=>[]
 |n+1,.agg l=>l.flatMap (flatD n)
 |_+1,.lit (.int k i)=>[.int k i]
 |_+1,_=>[]
def layIn(d:DataW Unit):Obj->Obj
 |.cells _ t frozen=>.cells (flatD 4 d).toArray t frozen
 |o=>o
noncomputable def laidWorld(os:Os):World:=
 { World.holding Tryz.prog os ⟨#[],#[],[]⟩with heap:=((((((World.holding Tryz.prog os ⟨#[],#[],[]⟩).heap.modify 2 (layIn Rows.laid_math_bits_deBruijn32tab)).modify 3 (layIn Rows.laid_math_bits_deBruijn64tab)).modify 4 (layIn Rows.laid_unicode_utf8_first)).modify 5 (layIn Rows.laid_unicode_utf8_acceptRanges)).modify 1 (layIn Rows.laid_internal_strconv_uint64pow10)) }
abbrev nilV:Value:=.slice none 0 0
theorem arr1{args:Array Value}{a:Value}(h:args.toList=[a]):args=#[a]:=by
 cases args;simp_all
theorem arr2{args:Array Value}{a b:Value}(h:args.toList=[a,b]):args=#[a,b]:=by
 cases args;simp_all
theorem arr3{args:Array Value}{a b c:Value}(h:args.toList=[a,b,c]):args=#[a,b,c]:=by
 cases args;simp_all
theorem arr4{args:Array Value}{a b c d:Value}(h:args.toList=[a,b,c,d]):args=#[a,b,c,d]:=by
 cases args;simp_all
theorem arr5{args:Array Value}{a b c d e:Value}(h:args.toList=[a,b,c,d,e]):args=#[a,b,c,d,e]:=by
 cases args;simp_all
theorem arr6{args:Array Value}{a b c d e f:Value}(h:args.toList=[a,b,c,d,e,f]):args=#[a,b,c,d,e,f]:=by
 cases args;simp_all
theorem arr7{args:Array Value}{a b c d e f g:Value}(h:args.toList=[a,b,c,d,e,f,g]):args=#[a,b,c,d,e,f,g]:=by
 cases args;simp_all
theorem looksOff:false=Tryz.pinned.checked.prog.looks []:=by kernel_rfl
theorem noStand:∀t∈([3,5,9,22,33,34,37,54,55]:List Nat),Tryz.pinned.checked.prog.wantsStandIn t=false:=by
 intro t ht
 simp only[Ay,M4,or_false]at ht
 rcases ht with rfl|rfl|rfl|rfl|rfl|rfl|rfl|rfl|rfl<;>exact(show Tryz.prog.wantsStandIn _=false by kernel_rfl)
end Go.Proofs.YteaiieomnhbmgaaGreatDoor.joins
