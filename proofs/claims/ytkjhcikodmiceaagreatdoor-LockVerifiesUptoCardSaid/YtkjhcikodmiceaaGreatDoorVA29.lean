/- Lemmas 29. -/
import Derived.Test.YtkjhcikodmiceaaGreatDoorVA28
import Derived.Test.YtkjhcikodmiceaaGreatDoorCards
import Derived.Test.YtkjhcikodmiceaaGreatDoorTie
import Derived.ProofKit
import Derived.OpenShut
import Derived.Deep.DeepHandedRow
import Derived.Lib.LaidTab
set_option maxHeartbeats 4000000
namespace Go.Eng
open Go.Proofs
theorem z6(D:List Sl)(i:Nat):((D.map Ae).take (i:Int).toNat).drop (0:Int).toNat=(D.take i).map Ae:=by
 simp_all
theorem pK{x:List Rl}{roots:List Rq}{s:List Sl}:∀y∈(D5 x roots s).1,∃r,AY x y=some r:=fun y hy=>by
 unfold D5 at hy;split at hy
 .cases hy
 .split at hy
  .rename_i h;obtain⟨v,hv,rfl⟩:=Ar.1 hy;exact⟨_,((Iw h).mem v hv).2⟩
  simp_all
section
variable {x:List Rl}{roots:List Rq}{d:List (List Tm)}{D:List Sl}{K:List Sk}{n:Nat}
theorem jJ(h:Gq x roots d D K D.length=some (K.drop n))(hn:K.length<=n):LJ x roots d D K=true:=by
 grind [LJ,List.drop_of_length_le]
theorem dG(h:Gq x roots d D K D.length=some (K.drop n))(hn:n<K.length):LJ x roots d D K=false:=by
 grind [LJ,List.drop_eq_getElem_cons]
theorem c50(x:List Rl)(ifs:C0)(roots:List Rq)(a:An)(d:List (List Tm))(h0:At x=0)(hx:∀r∈x,Fk r)(L0:BO x)(hr:∀q∈roots,IE q)(hrl:roots.length<=1000000)(hs:a.sel.length<=100000)(hk:a.skips.length<=1000000)(yv:∀t∈d,Qx t):PC 96 [.agg (Ic x ifs),sl Ad roots,.agg (Gt a),sl As d] (vb (EL x roots a d)):=by
 have p9:=c44 x ifs roots a.sel hx L0 hr hrl hs;have hDl:=pJ (x:=x) (roots:=roots) (s:=a.sel);have hDm:=pK (x:=x) (roots:=roots) (s:=a.sel);have Sw:∀q∈roots,BO q.set:=fun q hq=>(hr q hq).1;have hv:∀r∈x,By r.ver=true:=fun r hr=>((BB h0).1 r hr).val;unfold ia at p9;obtain⟨D,hD⟩:∃D,D=(D5 x roots a.sel).1:=⟨_,rfl⟩;rw[<-hD]at p9 hDl hDm;have hDv:∀y∈D,By y.ver=true:=fun y hy=>by
  obtain⟨r,hr⟩:=hDm y hy;rw[<-(Cv hr).2.2];exact hv r (Cv hr).2.1
 refine Ps (pC [] [2,9,13,14,16,17,18,19]) Tryz.func96 rfl (Nz rfl) (yN (C1 (C2 p9 (cU [(1,sl Ad roots),(3,sl As d),(4,.ref 4 0),(6,.ref 6 0),(9,sl Ae D),(10,vi (D5 x roots a.sel).2)] [(4,.cells (Ic x ifs)),(6,.cells (Gt a))] Z6 Z2 (Yi (fun h1=>?_) (fun h1=>?_))))))
 .have h1:((D5 x roots a.sel).2:Int)≠(0:Int):=h1;exact .of_eq (Aa vb (show false=EL x roots a d by grind [EL]))
 have h1:((D5 x roots a.sel).2:Int)=(0:Int):=Aw h1;refine Xi {q:Nat×Nat // q.1<=D.length/\q.2<=a.skips.length/\Gq x roots d D a.skips q.1=some (a.skips.drop q.2)} (Xi (fun q=>⟨[(1,sl Ad roots),(3,sl As d),(4,.ref 4 0),(6,.ref 6 0),(9,sl Ae D),(11,vi q.1.2),(12,vi q.1.1)],[(4,.cells (Ic x ifs)),(6,.cells (Gt a))],Af⟩) (Xi (fun q=>D.length-q.1.1) (Yi (Xi ⟨(0,0),Al _,Al _,rfl⟩ ?_) ?_)))
 .exact⟨Z7,Z2,Fh,Tv⟩
 intro⟨⟨i,n⟩,i1,i2,i3⟩;have i1:i<=D.length:=i1;have i2:n<=a.skips.length:=i2;have i3:Gq x roots d D a.skips i=some (a.skips.drop n):=i3;refine Yi (fun h3=>?_) (fun h3=>?_)
 .have h3:(i:Int)<((D.map Ae).length:Int):=h3;have n3:i<D.length:=by simp_all
  have g3:D[i]?=some D[i]:=Ge n3;have ni:i<D.length:=by omega
  have ggi:D[i]?=some D[i]:=Ge ni;refine yN (Yi (show(0:Int)<=0/\(0:Int)<=i/\(i:Int)<=((D.map Ae).length:Nat) by omega) (Yi (Iz (enc:=Ae) (n:=4) (fun _=>rfl) D) (Xi (Ae D[i]) (Yi (Yi (Nn i) (Bq ggi)) (Yi rfl (Xi (Ae D[i]) (Yi (Yi (Nn i) (Bq ggi)) (Yi rfl (yN (C2 (show PC 162 [.agg (Ej D[i].ver)] (vi (plc D[i].ver))from LG (hDv _ (Ah ni))▸wb D[i].ver (hDv _ (Ah ni))) (Ao (show ∃Lp,Lp=Dd x (Ca x roots (D.take i)) D[i].path (plc D[i].ver)from⟨_,rfl⟩) (fun Lp hLp=>?_))))))))))));have AhN:Lp.length<=x.length:=by grind [W6]
  refine C2 (show PC 171 [Jf x ifs,sl Ad roots,.slice .none (((D.map Ae).take (i:Int).toNat).drop (0:Int).toNat),vs D[i].path,vi (plc D[i].ver)] (sl Du Lp)from by grind [z6,c94]) ?_;refine Yi aa2 (cU [(1,sl Ad roots),(3,sl As d),(4,.ref 4 0),(6,.ref 6 0),(9,sl Ae D),(11,vi n),(12,vi i),(13,sl Du Lp)] [(4,.cells (Ic x ifs)),(6,.cells (Gt a))] Z8 Z2 (Xi {q:Nat×Nat // q.1<=Lp.length/\q.2<=a.skips.length/\TH x roots d D i (a.skips.drop n)=NM d (D.take i) D[i].path (Gg x D[i].path) (Lp.drop q.1) (a.skips.drop q.2)} (Xi (fun q=>⟨[(1,sl Ad roots),(3,sl As d),(4,.ref 4 0),(6,.ref 6 0),(9,sl Ae D),(11,vi q.1.2),(12,vi i),(13,sl Du Lp),(14,vi q.1.1)],[(4,.cells (Ic x ifs)),(6,.cells (Gt a))],Af⟩) (Xi (fun q=>Lp.length-q.1.1) (Yi (Xi ⟨(0,n),Al _,i2,by grind [pN]⟩ ?_) ?_)))))
  .exact⟨Z9,Z2,Fh,Tv⟩
  intro⟨⟨k,m⟩,k1,k2,k3⟩;have k1:k<=Lp.length:=k1;have k2:m<=a.skips.length:=k2;have k3:TH x roots d D i (a.skips.drop n)=NM d (D.take i) D[i].path (Gg x D[i].path) (Lp.drop k) (a.skips.drop m):=k3;refine Yi (fun h4=>?_) (fun h4=>?_)
  .have h4:(k:Int)<((Lp.map Du).length:Int):=h4;have n4:k<Lp.length:=by simp_all
   have g4:Lp[k]?=some Lp[k]:=Ge n4;have nk:k<Lp.length:=by omega
   have ggk:Lp[k]?=some Lp[k]:=Ge nk;refine Yi (fun h5=>?_) (fun h5=>?_)
   .have h5:((a.skips.map AB).length:Int)<=(m:Int):=h5;refine cU [] [] Tv Tv ?_
    exact .of_eq (Aa vb (show false=EL x roots a d by grind [EL,HG,pO]))
   have h5:¬(((a.skips.map AB).length:Int)<=(m:Int)):=h5;have nm:m<a.skips.length:=by simp_all
   have ggm:a.skips[m]?=some a.skips[m]:=Ge nm;refine cU [(1,sl Ad roots),(3,sl As d),(4,.ref 4 0),(6,.ref 6 0),(9,sl Ae D),(11,vi m),(12,vi i),(13,sl Du Lp),(14,vi k)] [(4,.cells (Ic x ifs)),(6,.cells (Gt a))] Z9 Z2 (Xi (AB a.skips[m]) (Yi (Yi (show(0:Int)<=m by omega) (Bq ggm)) (Yi rfl (yN (yN (Xi (Ae D[i]) (Yi (Yi (Nn i) (Bq ggi)) (Yi rfl (Yi (fun h8=>?_) (fun h8=>?_))))))))))
   .have h8:(a.skips[m].path:CS)≠D[i].path:=h8;refine Yi aa2 (cU [] [] Tv Tv ?_)
    exact .of_eq (Aa vb (show false=EL x roots a d by grind [EL,HG,eH]))
   have h8:(a.skips[m].path:CS)=D[i].path:=Aw h8;refine Xi (Du Lp[k]) (Yi (Yi (Nn k) (Bq ggk)) (Yi rfl (Yi (fun HQ=>?_) (fun HQ=>?_))))
   .have HQ:(a.skips[m].place:Int)≠(Lp[k]:Int):=HQ;refine Yi aa2 (cU [] [] Tv Tv ?_)
    exact .of_eq (Aa vb (show false=EL x roots a d by grind [EL,HG,eH]))
   have HQ:(a.skips[m].place:Int)=(Lp[k]:Int):=Aw HQ;refine Yi (fun Hr=>?_) (fun Hr=>?_)
   .have Hr:(a.skips[m].inf:Int)<(0:Int):=Hr;refine Yi aa2 (cU [] [] Tv Tv ?_)
    exact .of_eq (Aa vb (show false=EL x roots a d by grind [EL,HG,eI,Qb]))
   have Hr:¬((a.skips[m].inf:Int)<(0:Int)):=Hr;refine Yi (fun IR=>?_) (fun IR=>?_)
   .have IR:((d.map As).length:Int)<=(a.skips[m].inf:Int):=IR;refine Yi aa2 (cU [] [] Tv Tv ?_)
    exact .of_eq (Aa vb (show false=EL x roots a d by grind [EL,HG,eI,PZ]))
   have IR:¬(((d.map As).length:Int)<=(a.skips[m].inf:Int)):=IR;have uB:¬((d.length:Nat):Int)<=a.skips[m].inf:=by simp_all
   refine Ao (P0 Hr uB) (fun ta cW=>?_);have hta:=cW.1;have uL:=cW.2.1;have qz:=cW.2.2;refine Yi aa2 (cU [(1,sl Ad roots),(3,sl As d),(4,.ref 4 0),(6,.ref 6 0),(9,sl Ae D),(11,vi m),(12,vi i),(13,sl Du Lp),(14,vi k),(15,.ref 15 0)] [(4,.cells (Ic x ifs)),(6,.cells (Gt a)),(15,.cells (AB a.skips[m]))] Z10 Z3 (Xi (As ta) (Yi (Yi (show(0:Int)<=a.skips[m].inf by omega) (Bq uL)) (Yi rfl (yN (Yi (show(0:Int)<=0/\(0:Int)<=i/\(i:Int)<=((D.map Ae).length:Nat) by omega) (Yi (Iz (enc:=Ae) (n:=4) (fun _=>rfl) D) (C2 (show PC 173 [Jf x ifs,.slice .none (((D.map Ae).take (i:Int).toNat).drop (0:Int).toNat),vs a.skips[m].path,vi a.skips[m].place] (sl Ae (D.take i++[(⟨a.skips[m].path,Gg x a.skips[m].path a.skips[m].place⟩:Sl)]))from by grind [z6,c97]) ?_))))))));refine Ax (Bt (Bp ta (D.take i++[⟨a.skips[m].path,Gg x a.skips[m].path a.skips[m].place⟩]))) (fun Mx=>?_) (fun Mx=>?_)
   .have Mx:(Bp ta (D.take i++[⟨a.skips[m].path,Gg x a.skips[m].path a.skips[m].place⟩]))=true:=Mx;have lV:=c96 ta (D.take i++[⟨a.skips[m].path,Gg x a.skips[m].path a.skips[m].place⟩]) (yv ta qz) (by unfold BO;rw[AD,BW,A6];omega);rw[show(Bp ta (D.take i++[⟨a.skips[m].path,Gg x a.skips[m].path a.skips[m].place⟩]))=true from Mx]at lV;refine C2 lV (Yi aa2 (cU [(1,sl Ad roots),(3,sl As d),(4,.ref 4 0),(6,.ref 6 0),(9,sl Ae D),(11,vi m),(12,vi i),(13,sl Du Lp),(14,vi k)] [(4,.cells (Ic x ifs)),(6,.cells (Gt a))] Z9 Z2 (Yi (by grind [Au]) (Yi (by grind [Au]) ?_))));have cN:Bp ta (D.take i++[⟨D[i].path,Gg x D[i].path Lp[k]⟩])=true:=by simp_all
    refine Xi ⟨(k+1,m+1),by omega,by omega,k3.trans (pR nk nm h8 HQ hta cN)⟩ ?_;exact⟨by grind,Z9,Z2,Fh,Tv⟩
   have Mx:(Bp ta (D.take i++[⟨a.skips[m].path,Gg x a.skips[m].path a.skips[m].place⟩]))=false:=Mx;have ZK:=c96 ta (D.take i++[⟨a.skips[m].path,Gg x a.skips[m].path a.skips[m].place⟩]) (yv ta qz) (by unfold BO;rw[AD,BW,A6];omega);rw[show(Bp ta (D.take i++[⟨a.skips[m].path,Gg x a.skips[m].path a.skips[m].place⟩]))=false from Mx]at ZK;refine C2 ZK (Yi aa2 (cU [] [] Tv Tv ?_))
   have cN:Bp ta (D.take i++[⟨D[i].path,Gg x D[i].path Lp[k]⟩])=false:=by simp_all
   exact .of_eq (Aa vb (show false=EL x roots a d by grind [EL,HG,pQ]))
  have h4:¬((k:Int)<((Lp.map Du).length:Int)):=h4;have n4:¬k<Lp.length:=by simp_all
  refine Yi (by grind [Au]) (Xi ⟨(i+1,m),by omega,k2,bh i3 (by grind [pP])⟩ ?_);exact⟨by grind,Z7,Z2,Fh,Tv⟩
 have h3:¬((i:Int)<((D.map Ae).length:Int)):=h3;have n3:¬i<D.length:=by simp_all
 refine Yi (fun Qw=>?_) (fun Qw=>?_)
 .have Qw:(n:Int)=((a.skips.map AB).length:Int):=Qw;rw[show i=D.length by omega]at i3;exact .of_eq (Aa vb (show true=EL x roots a d by grind [EL,jJ]))
 have Qw:¬((n:Int)=((a.skips.map AB).length:Int)):=Qw;rw[show i=D.length by omega]at i3;exact .of_eq (Aa vb (show false=EL x roots a d by grind [EL,dG]))
end
section
variable {x:List Rl}{roots:List Rq}{a:An}
theorem cj(h:(A1 x roots a.infs).2=0)(hf:a.found=false):Dk x roots a=if !a.sel.isEmpty||!a.skips.isEmpty||!EC (A1 x roots a.infs).1 then 18 else 0:=by
 grind [Dk]
theorem pB(h:(A1 x roots a.infs).2=0)(hf:a.found=false)(hs:0<a.sel.length):Dk x roots a=18:=by
 grind [cj]
theorem kW(h:(A1 x roots a.infs).2=0)(hf:a.found=false)(hs:0<a.skips.length):Dk x roots a=18:=by
 grind [cj]
theorem pA(h:(A1 x roots a.infs).2=0)(hf:a.found=false)(hs:¬0<a.sel.length)(hk:¬0<a.skips.length):Dk x roots a=Gf x roots a.infs:=by
 grind [cj,Gf]
theorem gX(h:(A1 x roots a.infs).2=0)(hf:a.found=true)(hs:CW x roots a.sel≠0):Dk x roots a=18:=by
 grind [Dk]
theorem QI(h:(A1 x roots a.infs).2=0)(hf:a.found=true)(hs:CW x roots a.sel=0):Dk x roots a=if(a.sel.all (Gp x)&&EL x roots a (A1 x roots a.infs).1)then 0 else 18:=by
 have h2:=bj (d:=(A1 x roots a.infs).1) (K:=a.skips) (JJ h).2.1 hs;unfold Dk;rw[AN (Mg h),AN (by simp_all),AN (Mg hs),h2]
 rfl
theorem c22(x:List Rl)(ifs:C0)(roots:List Rq)(a:An)(hx:∀r∈x,Fk r)(L0:BO x)(hr:∀q∈roots,IE q)(hrl:roots.length<=1000000)(hs:a.sel.length<=256)(hk:a.skips.length<=1000000):PC 46 [.agg (Ic x ifs),sl Ad roots,.agg (Gt a)] (vi (Dk x roots a)):=by
 refine Ps (pC [] [2,6,7,9,10]) Tryz.func46 rfl (Nz rfl) (yN (C1 (C2 (show PC 92 [Jf x ifs,sl Ad roots,sl AG a.infs] (.tup [sl As (A1 x roots a.infs).1,vi (A1 x roots a.infs).2])from c13 x ifs roots a.infs hx hr) (cU [(1,sl Ad roots),(3,.ref 3 0),(5,.ref 5 0),(7,sl As (A1 x roots a.infs).1),(8,vi (A1 x roots a.infs).2)] [(3,.cells (Ic x ifs)),(5,.cells (Gt a))] Z5 Z2 (Yi (fun h1=>?_) (fun h1=>?_))))))
 .have h1:((A1 x roots a.infs).2:Int)≠(0:Int):=h1;exact .of_eq (Aa vi (show((A1 x roots a.infs).2:Int)=Dk x roots a by grind [Dk]))
 have h1:((A1 x roots a.infs).2:Int)=(0:Int):=Aw h1;refine Yi (fun h3=>?_) (fun h3=>?_)
 .have h3:a.found=true:=h3;refine yN (C1 (C2 (c48 x ifs roots a.sel hx L0 (fun q hq=>(hr q hq).1) hrl hs) (Yi (fun h4=>?_) (fun h4=>?_))))
  .have h4:(CW x roots a.sel:Int)≠(0:Int):=h4;refine cU [] [] Tv Tv ?_
   exact .of_eq (Aa vi (show(18:Int)=Dk x roots a by grind [gX]))
  have h4:(CW x roots a.sel:Int)=(0:Int):=Aw h4;refine yN (Ax (Bt (a.sel.all (Gp x))) (fun h6=>?_) (fun h6=>?_))
  .have h6:(a.sel.all (Gp x))=true:=h6;have yq:=(c49 x ifs a.sel hx L0 Wk);rw[show(a.sel.all (Gp x))=true from h6]at yq;refine C1 (C2 yq (yN (yN (Ax (Bt (EL x roots a (A1 x roots a.infs).1)) (fun h8=>?_) (fun h8=>?_)))))
   .have h8:(EL x roots a (A1 x roots a.infs).1)=true:=h8;have sq:=(c50 x ifs roots a (A1 x roots a.infs).1 (JJ h1).1 hx L0 hr hrl Wk hk Pp);rw[show(EL x roots a (A1 x roots a.infs).1)=true from h8]at sq;refine C1 (C2 sq (cU [] [] Tv Tv ?_))
    exact .of_eq (Aa vi (show(0:Int)=Dk x roots a by grind [QI]))
   have h8:(EL x roots a (A1 x roots a.infs).1)=false:=h8;have T9:=(c50 x ifs roots a (A1 x roots a.infs).1 (JJ h1).1 hx L0 hr hrl Wk hk Pp);rw[show(EL x roots a (A1 x roots a.infs).1)=false from h8]at T9;refine C1 (C2 T9 (cU [] [] Tv Tv ?_))
   exact .of_eq (Aa vi (show(18:Int)=Dk x roots a by grind [QI]))
  have h6:(a.sel.all (Gp x))=false:=h6;have PH:=(c49 x ifs a.sel hx L0 Wk);rw[show(a.sel.all (Gp x))=false from h6]at PH;refine C1 (C2 PH (cU [] [] Tv Tv ?_))
  exact .of_eq (Aa vi (show(18:Int)=Dk x roots a by grind [QI]))
 have h3:a.found=false:=h3;refine Yi (fun Hi=>?_) (fun Hi=>?_)
 .have Hi:(0:Int)<((a.sel.map Ae).length:Int):=Hi;have n15:0<a.sel.length:=by simp_all
  refine cU [] [] Tv Tv ?_
  exact .of_eq (Aa vi (show(18:Int)=Dk x roots a by grind [pB]))
 have Hi:¬((0:Int)<((a.sel.map Ae).length:Int)):=Hi;have n15:¬0<a.sel.length:=by simp_all
 refine Yi (fun Om=>?_) (fun Om=>?_)
 .have Om:(0:Int)<((a.skips.map AB).length:Int):=Om;have n17:0<a.skips.length:=by simp_all
  refine cU [] [] Tv Tv ?_
  exact .of_eq (Aa vi (show(18:Int)=Dk x roots a by grind [kW]))
 have Om:¬((0:Int)<((a.skips.map AB).length:Int)):=Om;have n17:¬0<a.skips.length:=by simp_all
 refine cU [(1,sl Ad roots),(3,.ref 3 0),(5,.ref 5 0)] [(3,.cells (Ic x ifs)),(5,.cells (Gt a))] Z3 Z2 (yN (C1 (C2 (c16 x ifs roots a.infs hx hr) ?_)));exact .of_eq (Aa vi (show(Gf x roots a.infs:Int)=Dk x roots a by grind [pA]))
end
section
variable {x:List Rl}{ifs:C0}{l:Lk}
theorem ly(h:LU l):∀e∈l.ents,Fl e.path:=fun e he=>by
 have q:=A0.1 h.en e he;unfold kc at q;have q:=CA q;unfold Fl;omega
theorem lz(h:LU l):bp (KD l)=true:=by
 unfold bp;rw[Av (show(KD l).infs.length<=400 from AS h.il aa1),Av (show(Hl l).length<=16 by rw[Lm];exact h.el),Av (show(KD l).skips.length<=100 from h.kl)];rfl
theorem uU(L:VW x l.roots)(h:LU l):PC 48 [.agg (Do l)] (vb (CH l)):=
 YE l L.rq (ly h) (AS h.el aa1) (AS h.il aa1) (AS h.kl aa1)
theorem za(L:VW x l.roots)(h:LU l):PC 25 [.agg (Do l)] (vi (if CH l=true then 0 else 1)):=
 Aa2 l L.rq (ly h) (AS h.el aa1) (AS h.il aa1) (AS h.kl aa1)
theorem mM(L:VW x l.roots)(h:LU l):PC 26 [.agg (Do l)] (vi (if CH l=true then 0 else 1)):=
 vT l L.rq (ly h) (AS h.el aa1) (AS h.il aa1) (AS h.kl aa1)
theorem sN(L:VW x l.roots)(hs:(FD x 16&&Dy l.roots)=true)(h:LU l):PC 18 [Jf x ifs,.agg (Do l)] (vi (VV x l)):=
 Aa7 x ifs l L.x L.ix (xp VC x ifs L.x) (fun p v=>c53 x ifs p v (L.c84 ifs) L.x) (uU L h) (L.c21 ifs hs (KD l) (lz h)) (AS h.el aa1)
theorem eT{x:List Rl}{roots:List Rq}(h:(FD x 16&&Dy roots)=true):roots.length<=1000000:=AS (Wt h) aa1
theorem uV(L:VW x l.roots)(hs:(FD x 16&&Dy l.roots)=true)(h:LU l):PC 16 [Jf x ifs,.agg (Do l)] (vi (VV x l)):=
 vV x ifs l L.x L.ix (tY x ifs L.x) (fun p v=>xw x ifs p v L.x L.ix) (mM L h) (c22 x ifs l.roots (KD l) L.x L.ix L.rq (eT hs) (by show(Hl l).length<=256;rw[Lm];exact AS h.el aa1) (AS h.kl aa1)) (AS h.el aa1)
end
structure s9(l:Lk):Prop where
 el:l.ents.length<=1048576
 il:l.infs.length<=1048576
 kl:l.skips.length<=1048576
open Classical in
theorem lx{l:Lk}(h:NU l=true):LU l:=by unfold NU at h;exact CA h
theorem AdJ(x:List Rl)(ifs:C0)(l:Lk)(L:VW x l.roots)(hk:s9 l)(hA:PC 9 [] (vb true)):PC 6 [.agg (Ic x ifs),.agg (Do l)] (vb true):=by
 have kF:=Aa3 l (AS hk.el aa1) (AS hk.il aa1) (AS hk.kl aa1) L.rs;obtain⟨ce,hce⟩:∃c:Int,(if CH l=true then 0 else 1)=c:=⟨_,rfl⟩;refine Ps (pC [2,3] []) Tryz.func6 rfl (Nz rfl) (C1 (C2 hA (yN (Ax (Bt (FD x 16&&Dy l.roots)) (fun h1=>?_) (fun h1=>?_)))))
 .have h1:(FD x 16&&Dy l.roots)=true:=h1;refine C1 (C2 (cb h1 (L.c11 ifs)) (yN (Ax (Bt (NU l)) (fun h2=>?_) (fun h2=>?_))))
  .have h2:(NU l)=true:=h2;refine C1 (C2 (cb h2 kF) ?_);have hs:(FD x 16&&Dy l.roots)=true:=h1;have hf:=lx h2;have e1:(Hl l).length<=1073741824:=(by rw[Lm];have:=hf.el;omega);refine yN (C2 (show PC 25 [.agg (Do l)] (vi ce)from hce▸za L hf) (yN (C2 (show PC 26 [.agg (Do l)] (vi ce)from hce▸mM L hf) (Yi (fun h3=>?_) (fun h3=>?_)))))
   .have h3:(ce:Int)=(ce:Int):=h3;refine yN (yN (C2 (sN L hs hf) (yN (yN (C2 (uV L hs hf) (Yi (fun h4=>?_) (fun h4=>?_)))))))
    .have h4:((VV x l):Int)=((VV x l):Int):=h4;refine yN (C2 (oG l (AS hf.el aa1)) (yN (C2 (dT l (AS hf.el aa1)) (C2 (cb (Av rfl) (c27 (Hl l) (Hl l) e1)) (Yi aa2 ?_)))));exact .refl _
    have h4:¬(((VV x l):Int)=((VV x l):Int)):=h4;exact absurd rfl h4
   have h3:¬((ce:Int)=(ce:Int)):=h3;exact absurd rfl h3
  have h2:(NU l)=false:=h2;refine C1 (C2 (cb h2 kF) ?_);exact .refl _
 have h1:(FD x 16&&Dy l.roots)=false:=h1;refine C1 (C2 (cb h1 (L.c11 ifs)) ?_);exact .refl _
end Go.Eng
namespace Go.Proofs.YtkjhcikodmiceaaGreatDoor.joins
open Go Go.Eng Go.Proofs Go.ChangeShapes Go.WideShapes Go.ChangeAt Go.RowKit
section
variable {H:Type}{enc:TypeId×Value->H}{w:World}
theorem all_le{d:DataW H}{l:List (DataW H)}(h:d∈l):Rows.uptoBulk d<=Rows.uptoBulkAll l:=by
 induction l with
 |nil=>cases h
 |cons x r ih=>
  simp only[Rows.uptoBulkAll]
  cases AR.1 h with
  |inl e=>subst e;omega
  |inr e=>have:=ih e;omega
theorem one_le(d:DataW H):1<=Rows.uptoBulk d:=by
 cases d with
 |lit l=>cases l<;>simp[Rows.uptoBulk]
 |nil=>simp[Rows.uptoBulk]
 |ptr d=>simp[Rows.uptoBulk]
 |slice sc spare=>simp[Rows.uptoBulk]
 |agg parts=>simp[Rows.uptoBulk]
 |iface t d=>simp[Rows.uptoBulk]
 |map entries=>simp[Rows.uptoBulk]
 |held h=>simp[Rows.uptoBulk]
theorem len_le(l:List (DataW H)):l.length<=Rows.uptoBulkAll l:=by
 induction l with
 |nil=>simp[Rows.uptoBulkAll]
 |cons x r ih=>have:=one_le x;simp only[Rows.uptoBulkAll,DZ];omega
theorem bulk_ok:Xm (H:=H) Rows.uptoBulk where
 slice es sp:=by
  have h1:=len_le es
  refine⟨by simp only[Rows.uptoBulk];omega,fun d hd=>?_⟩
  have:=all_le hd
  simp only[Rows.uptoBulk];omega
 agg ps d hd:=by
  have:=all_le hd
  simp only[Rows.uptoBulk];omega
 str b:=by simp only[Rows.uptoBulk];omega
theorem app_all(l r:List (DataW H)):Rows.uptoBulkAll (l++r)=Rows.uptoBulkAll l+Rows.uptoBulkAll r:=by
 induction l with
 |nil=>simp[Rows.uptoBulkAll]
 |cons x l ih=>simp only[F1,Rows.uptoBulkAll,ih];omega
abbrev NB:Nat:=1048576
abbrev Op(enc:TypeId×Value->H)(w:World)(t:TypeId){α:Type}(e:α->List AV)(ok:α->Prop):Prop:=Ky enc Tryz.prog w Rows.uptoBulk NB t e ok
theorem oI:Op enc w 3 (fun n:Int=>[vi n]) (fun _=>True):=(WW Tryz.underlying3).to id (fun _ _=>⟨rfl,trivial⟩)
theorem oB:Op enc w 4 (fun b:Bool=>[vb b]) (fun _=>True):=du Tryz.underlying4
theorem oS:Op enc w 9 (fun s:ByteArray=>[vs s]) (fun s=>s.size<=NB):=Yk bulk_ok Tryz.underlying9
theorem oVer:Op enc w 43 Ej (fun _=>True):=
 (Eu bulk_ok Tryz.underlying43 (L:=3) aa2 (Bd rfl (n:=1) aa2 oI (Bd rfl (n:=1) aa2 oI (Bd rfl (n:=1) aa2 oI FC)))).to
  (fun p=>(⟨p.1,p.2.1,p.2.2.1⟩:Ver)) (fun _ _=>⟨rfl,trivial⟩)
theorem oSpan:Op enc w 64 Ab (fun _=>True):=
 (Eu bulk_ok Tryz.underlying64 (L:=2) aa2 (Bd rfl (n:=1) aa2 oI (Bd rfl (n:=1) aa2 oI FC))).to
  (fun p=>(p.1,p.2.1)) (fun _ _=>⟨rfl,trivial⟩)
theorem oSet:Op enc w 66 (fun l:AL=>[sl Ab l]) (fun l=>l.length<=NB):=
 (GS bulk_ok Tryz.underlying66 (m:=1) aa2 (fun _=>rfl) oSpan).to id (fun _ h=>⟨rfl,h.1⟩)
abbrev OkRq(q:Rq):Prop:=q.path.size<=NB/\q.set.length<=NB
theorem oRq:Op enc w 68 Ad OkRq:=
 (Eu bulk_ok Tryz.underlying68 (L:=2) aa2 (Bd rfl (n:=1) aa2 oS (Bd rfl (n:=1) aa2 oSet FC))).to
  (fun p=>(⟨p.1,p.2.1⟩:Rq)) (fun _ h=>⟨rfl,h.1,h.2.1⟩)
abbrev OkRqs(l:List Rq):Prop:=l.length<=NB/\∀q∈l,OkRq q
theorem oRqs:Op enc w 26 (fun l:List Rq=>[sl Ad l]) OkRqs:=
 GS bulk_ok Tryz.underlying26 (m:=1) aa2 (fun _=>rfl) oRq
abbrev OkRl(r:Rl):Prop:=r.path.size<=NB/\OkRqs r.reqs
theorem oRl:Op enc w 70 Am OkRl:=
 (Eu bulk_ok Tryz.underlying70 (L:=9) aa2 (Bd rfl (n:=1) aa2 oS (Bd rfl (n:=3) aa2 oVer (Bd rfl (n:=1) aa2 oRqs
  (Bd rfl (n:=1) aa2 oS (Bd rfl (n:=1) aa2 oS (Bd rfl (n:=1) aa2 oS (Bd rfl (n:=1) aa2 oB FC)))))))).to
  (fun p=>(⟨p.1,p.2.1,p.2.2.1,p.2.2.2.1,p.2.2.2.2.1,p.2.2.2.2.2.1,p.2.2.2.2.2.2.1⟩:Rl)) (fun _ h=>⟨rfl,h.1,h.2.2.1⟩)
theorem oRls:Op enc w 22 (fun l:List Rl=>[sl Am l]) (fun l=>l.length<=NB/\∀r∈l,OkRl r):=
 GS bulk_ok Tryz.underlying22 (m:=8) aa2 (fun _=>rfl) oRl
theorem oIfc:Op enc w 478 (fun s:ByteArray=>[vs s,.junk,.junk,.junk,.junk]) (fun _=>True):=
 (Eu bulk_ok Tryz.underlying478 (L:=5) aa2 (Bd rfl (n:=1) aa2 oS (Bd rfl (n:=1) aa2 (Nv Tryz.underlying473) (Bd rfl (n:=1) aa2 (Nv Tryz.underlying474)
  (Bd rfl (n:=1) aa2 (Nv Tryz.underlying475) (Bd rfl (n:=1) aa2 (Nv Tryz.underlying476) FC)))))).to (fun p=>p.1) (fun _ _=>⟨rfl,trivial⟩)
theorem oIfs:Op enc w 23 (fun l:List ByteArray=>[sl (fun s=>[vs s,.junk,.junk,.junk,.junk]) l]) (fun l=>l.length<=NB):=
 (GS bulk_ok Tryz.underlying23 (m:=4) aa2 (fun _=>rfl) oIfc).to id (fun _ h=>⟨rfl,h.1⟩)
theorem oIx:Op enc w 25 (fun p:List Rl×List (List AV)=>[sl Am p.1,.slice .none p.2]) (fun p=>(p.1.length<=NB/\∀r∈p.1,OkRl r)/\p.2.length<=NB/\∀c∈p.2,c.length=5):=
 (Eu bulk_ok Tryz.underlying25 (L:=2) aa2 (Bd rfl (n:=1) aa2 oRls (Bd rfl (n:=1) aa2 oIfs FC))).to
  (fun p=>(p.1,p.2.1.map (fun s=>[vs s,.junk,.junk,.junk,.junk]))) (fun _ h=>⟨rfl,h.1,by rw[BJ];exact h.2.1,fun c hc=>by obtain⟨s,_,rfl⟩:=Ar.1 hc;rfl⟩)
theorem oNf:Op enc w 96 AG (fun i=>i.path.size<=NB):=
 (Eu bulk_ok Tryz.underlying96 (L:=6) aa2 (Bd rfl (n:=1) aa2 oI (Bd rfl (n:=1) aa2 oS (Bd rfl (n:=1) aa2 oI
  (Bd rfl (n:=1) aa2 oI (Bd rfl (n:=1) aa2 oI (Bd rfl (n:=1) aa2 oI FC))))))).to
  (fun p=>(⟨p.1,p.2.1,p.2.2.1,p.2.2.2.1,p.2.2.2.2.1,p.2.2.2.2.2.1⟩:Nf)) (fun _ h=>⟨rfl,h.2.1⟩)
theorem oNfs:Op enc w 30 (fun l:List Nf=>[sl AG l]) (fun l=>l.length<=NB/\∀i∈l,i.path.size<=NB):=
 GS bulk_ok Tryz.underlying30 (m:=5) aa2 (fun _=>rfl) oNf
theorem oSk:Op enc w 92 AB (fun y=>y.path.size<=NB):=
 (Eu bulk_ok Tryz.underlying92 (L:=3) aa2 (Bd rfl (n:=1) aa2 oS (Bd rfl (n:=1) aa2 oI (Bd rfl (n:=1) aa2 oI FC)))).to
  (fun p=>(⟨p.1,p.2.1,p.2.2.1⟩:Sk)) (fun _ h=>⟨rfl,h.1⟩)
theorem oSks:Op enc w 31 (fun l:List Sk=>[sl AB l]) (fun l=>l.length<=NB/\∀y∈l,y.path.size<=NB):=
 GS bulk_ok Tryz.underlying31 (m:=2) aa2 (fun _=>rfl) oSk
theorem oU8:Op enc w 5 (fun n:Int=>[.v (.int .u8 n)]) (fun n=>0<=n/\n<=255):=(WW Tryz.underlying5).to id (fun _ h=>⟨rfl,h⟩)
abbrev OkLo(e:Lo):Prop:=e.path.size<=NB/\e.arch.size<=NB/\e.ifc.size<=NB
theorem oLo:Op enc w 53 Cz OkLo:=
 (Eu bulk_ok Tryz.underlying53 (L:=6) aa2 (Bd rfl (n:=1) aa2 oS (Bd rfl (n:=3) aa2 oVer (Bd rfl (n:=1) aa2 oS (Bd rfl (n:=1) aa2 oS FC))))).to
  (fun p=>(⟨p.1,p.2.1,p.2.2.1,p.2.2.2.1⟩:Lo)) (fun _ h=>⟨rfl,h.1,h.2.2.1,h.2.2.2.1⟩)
theorem oLos:Op enc w 29 (fun l:List Lo=>[sl Cz l]) (fun l=>l.length<=NB/\∀y∈l,OkLo y):=
 GS bulk_ok Tryz.underlying29 (m:=5) aa2 (fun _=>rfl) oLo
abbrev OkLk(l:Lk):Prop:=OkRqs l.roots/\(l.ents.length<=NB/\∀y∈l.ents,OkLo y)/\l.infs.length<=NB/\l.skips.length<=NB
theorem oLk:Op enc w 33 Do OkLk:=
 (Eu bulk_ok Tryz.underlying33 (L:=4) aa2 (Bd rfl (n:=1) aa2 oRqs (Bd rfl (n:=1) aa2 oLos (Bd rfl (n:=1) aa2 oNfs
  (Bd rfl (n:=1) aa2 oSks FC))))).to
  (fun p=>(⟨p.1,p.2.1,p.2.2.1,p.2.2.2.1⟩:Lk)) (fun _ h=>⟨rfl,h.1,h.2.1,h.2.2.1.1,h.2.2.2.1.1⟩)
theorem few_of{n:Nat}(h:n<=NB):n<=1073741824:=AS h aa1
theorem lim_of{x:List Rl}{roots:List Rq}(h:x.length<=NB/\∀r∈x,OkRl r)(k:OkRqs roots):VW x roots where
 ix:=few_of h.1
 rs:=few_of k.1
 rel r hr:=⟨few_of (h.2 r hr).2.1,few_of (h.2 r hr).1,fun q hq=>⟨few_of ((h.2 r hr).2.2 q hq).2,few_of ((h.2 r hr).2.2 q hq).1⟩⟩
 rq q hq:=⟨few_of (k.2 q hq).2,few_of (k.2 q hq).1⟩
theorem lim0_of{x:List Rl}(h:x.length<=NB/\∀r∈x,OkRl r):VW x []:=lim_of h ⟨Al _,fun q hq=>by cases hq⟩
theorem limk_of{l:Lk}(h:OkLk l):s9 l:=⟨h.2.1.1,h.2.2.1,h.2.2.2⟩
end
theorem ok_agg{P:Program}{W:World}{base:Nat}{t:TypeId}{v:Value}{fs:Array Field}(hu:P.underlying t=some (.struct fs))(h:Value.okWide P W .any base t v):∃cs,v=.agg cs:=by
 unfold Value.okWide at h
 rw[hu]at h
 obtain⟨cs,e,_⟩:=h
 exact⟨cs,e⟩
theorem ok_slice{P:Program}{W:World}{base:Nat}{t e:TypeId}{v:Value}(hu:P.underlying t=some (.slice e))(h:Value.okWide P W .any base t v):v.oneCell'=true:=by
 unfold Value.okWide at h
 rw[hu]at h
 unfold Cell.okWide Cell.ok at h
 rw[hu]at h
 cases v<;>first | rfl | simp at h
theorem ok_int{P:Program}{W:World}{base:Nat}{t:TypeId}{k:IntKind}{v:Value}(hu:P.underlying t=some (.int k))(h:Value.okWide P W .any base t v):v.oneCell'=true:=by
 unfold Value.okWide at h
 rw[hu]at h
 unfold Cell.okWide Cell.ok at h
 rw[hu]at h
 cases v<;>first | rfl | simp at h
theorem ok_string{P:Program}{W:World}{base:Nat}{t:TypeId}{v:Value}(hu:P.underlying t=some .string)(h:Value.okWide P W .any base t v):v.oneCell'=true:=by
 unfold Value.okWide at h
 rw[hu]at h
 unfold Cell.okWide Cell.ok at h
 rw[hu]at h
 cases v<;>first | rfl | simp at h
theorem int_of_shape{P:Program}{w:World}{g:Nat}{t:TypeId}{k:IntKind}{zero:Array Value}(h:w.ShapedOpen P)(hg:g<P.globals.size)
  (h0:((begin P (fun _ _=>0) default).world.heap[g]?).bind Obj.row?=some (zero,t)) (hz:zero.size=1)
  (hb:P.buildable t=true) (hc:P.cellTypes P.depth t=some [t]) (hu:P.underlying t=some (.int k)):∃p,w.cell? ⟨g,0,none⟩=some (.int k p):=by
 obtain⟨cs,hh,hs,hr⟩:=h.1 g zero t hg h0
 obtain⟨ts,hts,_,GB⟩:=hr hb
 rw[hc]at hts
 cases hts
 have h1:0<cs.size:=by omega
 obtain⟨u,mA,GR⟩:=GB 0 cs[0] (by simp[h1])
 have:u=t:=by simpa using mA.symm
 subst this
 have DK:w.cell? ⟨g,0,none⟩=some cs[0]:=by simp[World.cell?,hh,h1]
 rw[DK]
 unfold Cell.ok at GR
 rw[hu]at GR
 cases hv:cs[0]<;>rw[hv]at GR<;>simp at GR
 obtain⟨rfl,_⟩:=GR
 exact⟨_,rfl⟩
theorem maxLen_cell{W:World}(h:W.ShapedOpen Tryz.prog):∃m,W.cell? ⟨0,0,none⟩=some (.int .i64 m):=
 int_of_shape (t:=3) (zero:=#[.int .i64 0]) h (CA aa2) aa2 rfl aa2 aa2 Tryz.underlying3
def Still(W W' : World):Prop:=W'.os=W.os/\W'.output=W.output/\W.heap.size<=W'.heap.size/\∀b,b<W.heap.size->W'.heap[b]?=W.heap[b]?
theorem run_true{f:Nat}{args:List AV}{vals:Array Value}{W:World}(hc:PC f args (vb true))(hM:∃m,W.cell? ⟨0,0,none⟩=some (.int .i64 m))(hs:vals.size=args.length)
  (hr:∀(i:Nat) (av:AV) (x:Value),args[i]?=some av->vals[i]?=some x->Bc (kd W) W FN av x):Calls Tryz.prog f vals W fun e W'=>e=.returned (.bool true)/\Still W W':=by
 refine(hc.2 (kd W) W vals hs (fun i av x q1 q2=>(hr i av x q1 q2).up _) (sM hM (fun _ h=>by cases h))).mono fun e W' ⟨v,r,h',g',e1,e2,e3,e4,_⟩=>?_
 subst e1
 obtain⟨rfl,rfl⟩:=e2
 obtain rfl:=e3.v_eq
 exact⟨rfl,e4.os,e4.output,e4.size,fun b hb=>e4.frame b hb (fun r h=>h.elim)⟩
theorem Still.kept{W W' : World}(h:Still W W')(may:MemPlace->Prop):W.keptBut W' may:=by
 refine⟨h.1,h.2.1,fun i hi=>?_⟩
 rw[h.2.2.2 i hi]
 cases hh:W.heap[i]? with
 |none=>rfl
 |some o=>cases o<;>simp
theorem Still.same{W W' : World}(h:Still W W'){p:MemPlace}(hp:p.block<W.heap.size):W.sameAt W' p:=by
 cases p with
 |cell b off=>
  show W'.cell? ⟨b,off,none⟩=W.cell? ⟨b,off,none⟩
  unfold World.cell?
  rw[h.2.2.2 b hp]
 |map b=>exact h.2.2.2 b hp
theorem kids:Kids Tryz.prog (· < Tryz.prog.types.size):=kids_rows aa2 aa2
theorem full:∀t e,t<Tryz.prog.types.size->Tryz.prog.underlying t=some (.slice e)->0<Tryz.prog.cellsOf e:=slices_full_of Tryz.prog aa2
theorem carry{H:Type}{enc:TypeId×Value->H}{W W' : World}(h:Still W W'):∀{ts:List TypeId} {vs:List Value} {ds:List (DataW H)} {ps:List MemPlace},DataW.TrodAll enc Tryz.prog W 0 (fun _=>true) true ts vs ds ps->DataW.TrodAll enc Tryz.prog W' 0 (fun _=>true) true ts vs ds ps
 | [],[],[],_,e=>e
 |t::ts,v::vs,d::ds,ps,k=>by
  have ET:=k.lt
  obtain⟨p,q,⟨n,h1⟩,h2,rfl⟩:=k
  exact⟨p,q,⟨n,DataW.trod_carry n _ _ _ h1 (fun x hx=>h.same (ET x (Bw _ hx)))⟩,carry h h2,rfl⟩
 | [],[],_::_,_,k=>k.elim
 | [],_::_,_,_,k=>k.elim
 |_::_,[],_,_,k=>k.elim
 |_::_,_::_,[],_,k=>k.elim
theorem post_true{H:Type}{enc:TypeId×Value->H}{W W' : World}{f:Func}{s:ChangeSpec}{args:Array Value}{ds:List (DataW H)}{before:List MemPlace}(Jt:Still W W')(hv:s.vars=[])
  (hW:DataW.Whole enc Tryz.prog f.params.toList s.vars false W args.toList ds [] before) (hr:f.resultTypes=#[4]) (hT:∀t∈f.params.toList,t<Tryz.prog.types.size) (hs:s.fn H ds={ results:=[.lit (.bool true)],args:=ds }) :
  s.post enc Tryz.prog f false true false false W args (.bool true) W':=by
 have hW0:=hW
 obtain⟨p,q,hA,hV,rfl,hz,_⟩:=hW
 rw[hv]at hV
 have hq:q=[]:=hV
 subst hq
 have ET:=hW0.lt
 have wz:s.fn H (ds++[])={ results:=[.lit (.bool true)],args:=ds }:=by rw[Eg];exact hs
 refine⟨ds,[],p++[],[],p,[],hW0,?_,?_,?_,Jt.kept _,fun h=>by cases h⟩
 .rw[wz,hr]
  exact⟨[],[],⟨1,by rw[show(Value.bool true).cells.toList=[.bool true]from rfl,DataW.trod_step];unfold DataW.trodStep;rw[Tryz.underlying4]⟩,rfl,rfl⟩
 .rw[wz]
  exact(carry Jt hA).respare kids full hT (fun x hx=>by simpa using ET x (Bw _ hx))
 .rw[wz,hv];rfl
end Go.Proofs.YtkjhcikodmiceaaGreatDoor.joins
namespace Go.Proofs.YtkjhcikodmiceaaGreatDoor.joins
open Go Go.Eng Go.Proofs Go.ChangeShapes Go.WideShapes Go.ChangeAt Go.RowKit
theorem own:ownKnob Tryz.prog.godebug=none:=by kernel_rfl
def flatD:Nat->DataW Unit->List Value
 |0,_=>[]
 |n+1,.agg l=>l.flatMap (flatD n)
 |_+1,.lit (.int k i)=>[.int k i]
 |_+1,_=>[]
def layIn(d:DataW Unit):Obj->Obj
 |.cells _ t frozen=>.cells (flatD 4 d).toArray t frozen
 |o=>o
noncomputable def laidWorld(os:Os):World:=
 { World.holding Tryz.prog os ⟨#[],#[],[]⟩with heap:=(((World.holding Tryz.prog os ⟨#[],#[],[]⟩).heap.modify 1 (layIn Rows.laid_unicode_utf8_first)).modify 2 (layIn Rows.laid_unicode_utf8_acceptRanges)) }
abbrev nilV:Value:=.slice none 0 0
theorem arr1{args:Array Value}{a:Value}(h:args.toList=[a]):args=#[a]:=by
 cases args;simp_all
theorem arr2{args:Array Value}{a b:Value}(h:args.toList=[a,b]):args=#[a,b]:=by
 cases args;simp_all
theorem arr3{args:Array Value}{a b c:Value}(h:args.toList=[a,b,c]):args=#[a,b,c]:=by
 cases args;simp_all
theorem arr4{args:Array Value}{a b c d:Value}(h:args.toList=[a,b,c,d]):args=#[a,b,c,d]:=by
 cases args;simp_all
theorem arr5{args:Array Value}{a b c d e:Value}(h:args.toList=[a,b,c,d,e]):args=#[a,b,c,d,e]:=by
 cases args;simp_all
theorem arr6{args:Array Value}{a b c d e f:Value}(h:args.toList=[a,b,c,d,e,f]):args=#[a,b,c,d,e,f]:=by
 cases args;simp_all
theorem looksOff:true=Tryz.pinned.checked.prog.looks []:=by kernel_rfl
theorem noStand:∀t∈([5,9,25,26,33,43]:List Nat),Tryz.pinned.checked.prog.wantsStandIn t=false:=by
 intro t ht
 simp only[AR,L8,or_false]at ht
 rcases ht with rfl | rfl | rfl | rfl | rfl | rfl<;>exact(show Tryz.prog.wantsStandIn _=false by kernel_rfl)
end Go.Proofs.YtkjhcikodmiceaaGreatDoor.joins
namespace Go.Proofs
open Go.Shelf Go.RowKit Go.Lib Go.Sort
abbrev OneC:Type:={v:Value // v.oneCell'=true}
def SlA:Type:=ByteArray×OneC×OneC×OneC
instance:Inhabited SlA:=⟨⟨ByteArray.empty,⟨.bool false,rfl⟩,⟨.bool false,rfl⟩,⟨.bool false,rfl⟩⟩⟩
def encSlA(x:SlA):List Value:=[.string x.1,x.2.1.1,x.2.2.1.1,x.2.2.2.1]
def cfSlA(x y:SlA):Int:=Lib.compareBytes x.1.data.toList y.1.data.toList
abbrev CmpSlA(k:Nat):Prop:=∀(x y:SlA) (W:World),Calls Tryz.prog k #[.agg #[.string x.1,x.2.1.1,x.2.2.1.1,x.2.2.2.1],.agg #[.string y.1,y.2.1.1,y.2.2.1.1,y.2.2.2.1]] W fun e w'=>e=.returned (.int .i64 (cfSlA x y))/\∃q os',w'=grow (W.drewN q) os'
theorem Tryz.closure84:CmpSlA 84:=fun x y W=>by
 have hcon:=fun W'=>Any.strings_Compare Tryz.layCompare x.1 y.1 W';obtain⟨a,⟨b,hb⟩,⟨c,hc⟩,⟨d,hd⟩⟩:=x;obtain⟨a',⟨b',uq⟩,⟨c',hc'⟩,⟨d',oM⟩⟩:=y;dsimp only at hcon
 change ∀W',Calls Tryz.prog 85 _ _ _ at hcon
 unfold cfSlA;dsimp only;generalize Lib.compareBytes a.data.toList a'.data.toList=r at hcon⊢
 go_enter Tryz.func84,Tryz.ntmps84
 go_wp2_with (go_at_call 85;refine(hcon _).mono ?_;rintro e w' ⟨rfl,rfl⟩)
 go_ret
 exact⟨rfl,0,_,by rw[alloc_eq_grow,alloc_eq_grow,grow_grow];rfl⟩
end Go.Proofs
namespace Go.Eng
open Go.Proofs Go.Proofs.Tryz Go.Shelf Go.RowKit Go.Lib Go.Sort
theorem fE(x y:SlA):ltOf cfSlA x y=Ez x.1 y.1:=Uy _ _
theorem om:SWO (ltOf cfSlA) where
 irrefl x:=by grind [fE,Dg]
 trans x y z h1 h2:=by grind [fE,Ei]
 ntrans x y z h1 h2:=by
  grind [fE,Ei,Iy]
theorem s92(k:Nat)(hc:CmpSlA k)(eg:∀args w,(callFunc k args).run Tryz.prog w=.ok (.enter k args) w)(l:List Sl)(hl:BO l)(lim:Nat)(ZQ:lim<100) :
  Bg Tryz.prog 157 [.msl 1000 l.length,vi 0,vi l.length,vi lim,.v (Hf k)] (Ai [(1000,.arr 4 (l.map Ae))] Af) fun r h'=>
   r=.tup []/\∃l' : List Sl,l'.Perm l/\l'.Pairwise (fun x y=>Ez y.path x.path=false)/\h'=Ai [(1000,.arr 4 (l'.map Ae))] Af:=by
 have hl:l.length<=1073741824:=hl;have hE:Gl Tryz.prog 157:=ie 157 func157 aa2 rfl;have Jc:=JE (P:=Tryz.prog) (f:=157) (α:=SlA) (rest:=[.int .i64 0,.int .i64 l.length,.int .i64 lim,Hf k]) hE Ae encSlA (k:=4) (fun _=>rfl) (fun _=>rfl) (ltOf cfSlA) (fun x a=>a.1=x.path) l Wk ?_ ?_ ?_
 .refine⟨hE,fun g w vals q1 q2 q3=>(Jc.2 g w vals q1 q2 q3).mono fun _ _ ⟨v,r,h',g',e1,⟨e2,l',p1,⟨al,a1,a2,a3⟩,p2⟩,rest⟩=>⟨v,r,h',g',e1,⟨e2,l',p1,?_,p2⟩,rest⟩⟩;rw[Cs]at a3⊢;intro i j hi hj bD
  have:=a3 i j Wk Wk bD
  rw[fE]at this;have e1:=a2 i _ _ (Ge hi) (Ge Wk);have e2:=a2 j _ _ (Ge hj) (Ge Wk);simp_all
 .intro x hx g w vs hr
  match vs,hr with
  | [a,b,c,d],hr=>
   have h1:=(hr.2.2 0 (Go.Eng.vs x.path) a rfl rfl).v_eq;subst h1;exact⟨⟨x.path,⟨b,hr.2.1 b aa0⟩,⟨c,hr.2.1 c aa0⟩,⟨d,hr.2.1 d aa0⟩⟩,rfl,rfl⟩
  | [],hr=>have:=hr.1;simp_all
  | [_],hr=>have:=hr.1;simp_all
  | [_,_],hr=>have:=hr.1;simp_all
  | [_,_,_],hr=>have:=hr.1;simp_all
  |_::_::_::_::_::_,hr=>have:=hr.1;simp_all
 .intro w b cap d hH hb FI hdl;have md:CmpLays Tryz.prog k #[] encSlA 4 cfSlA b 0 d.size w:=fun _ _ _ _ x y=>hc x y _;have hp:=AnyQ.pdqsortCmpFunc_all Tryz.layPdqSel 4 isAgg45 sizeOf45 encSlA cfSlA k #[] om b 0 cap d w eg md ⟨fun _=>rfl,fun x v hv=>by
    simp only[encSlA,AR,L8,or_false]at hv;rcases hv with rfl | rfl | rfl | rfl
    .rfl
    all_goals grind,hH,hb⟩ (d.size+1) 0 d.size lim d w Wk rfl (SWK.start hH) (Al _) (Ap _) FI Wk (Or.inl rfl)
  rw[hdl]at hp⊢;refine hp.mono ?_
  rintro e w' ⟨rfl,n,os,rfl⟩
  have h:=pdq_sorts (ltOf cfSlA) om d 0 d.size lim true true (Al _) (Ap _) (Or.inl rfl)
  grind
 .intro e w;subst e;exact AnyF.pdqsortCmpFunc_none Tryz.layPdqSel none 0 lim (Hf k) w
theorem VT{l l' : List Sl}(h1:Vx l)(h2:Vx l')(hm:∀y,y∈l↔y∈l'):l=l':=by
 induction l generalizing l' with
 |nil=>
  cases l'<;>grind [List.mem_cons_self]
 |cons x l ih=>
  cases l'<;>grind [List.pairwise_cons,Ei,Dg]
theorem og{l l' : List Sl}(hn:(l.map (·.path)).Nodup)(hp:l'.Perm l)(hs:l'.Pairwise fun x y=>Ez y.path x.path=false):l'=EX l:=by
 refine VT ?_ (Rt hn) fun y=>by grind [Gj]
 grind [List.pairwise_iff_getElem,Iy]
theorem s47(k:Nat)(hc:CmpSlA k)(eg:∀args w,(callFunc k args).run Tryz.prog w=.ok (.enter k args) w)(l:List Sl)(hl:BO l)(hn:(l.map (·.path)).Nodup) :
  Bg Tryz.prog 83 [.msl 1000 l.length,.v (Hf k)] (Ai [(1000,.arr 4 (l.map Ae))] Af) fun r h'=>
   r=.tup []/\h'=Ai [(1000,.arr 4 ((EX l).map Ae))] Af:=by
 obtain⟨lim,ZQ,hb⟩:=tv l.length hl;refine Bj (I9 CX) [(1000,1000)] rfl BI hm rfl func83 aa2 rfl (Nz rfl) aa2 rfl (C1 (C2 (hb) (Xi (.gen [(1000,1000)] 0) (Yi rfl ((s92 k hc eg l hl lim ZQ).imp ?_)))));intro r h' hq;refine Ao hq.2 (fun l' Sv=>?_);have e:=og hn Sv.1 Sv.2.1;refine Xi (.tup []) (Yi ?_ (Yi rfl ?_))
 .exact .refl _
 .rw[Sv.2.2,e];rfl
end Go.Eng
namespace Go.Eng
open Go.Proofs Go.Proofs.Tryz
variable {l:List Nf}{i:Nf}{caps:List AV}{k fF:Nat}(roots:List Rq)(C A:List (Value×AV))(c:Cd)(s:SS)(dec:List Cd)(n:Nat)(st:List (List Sk))
abbrev AE:List AV:=vi c.place::Am c.rel
abbrev Bl(n:Nd):List AV:=[vs n.rq.path,sl Ab n.rq.set,vs n.path,vi n.place,vi n.number]
abbrev Ba(l:List Sk):List AV:=[sl AB l]
abbrev Cu(i:Nat):List AV:=[vi (i:Nat)]
def FL:ES:=⟨true,[.int .i64,.str,.int .i64,.int .i64,.int .i64,.int .i64]⟩
def L1(i:Nf):Value:=.agg [.int .i64 i.kind,.string i.path,.int .i64 i.place,.int .i64 i.number,.int .i64 i.left,.int .i64 i.right].toArray
def FO:Nat->List Nf->List (Value×AV)
 |_,[]=>[]
 |k,i::l=>(L1 i,vi (k:Nat))::FO (k+1) l
abbrev srC:List AV:=
 [sl Ad roots,.cmap Cc C,.cmap Cc A,.slice (.id 1001 6) (s.infs.map AG),.slice (.id 1002 1) (s.drv.map As),.mref 1003,vb s.full,sl AE dec,sl Ae (AA dec),.msl 1004 n]
abbrev srM(k n:Nat):List AV:=
 [sl Ad roots,.cmap Cc C,.cmap Cc A,.slice (.id 1001 6) (s.infs.map AG),.slice (.id 1002 1) (s.drv.map As),.mref 1003,vb s.full,sl AE dec,sl Ae (AA dec),.msl k n]
abbrev Ju:List (Nat×HO):=
 [(1000,.cells (srC roots C A s dec st.length)),(1001,.tok 6 s.infs.length),(1002,.tok 1 s.drv.length),(1003,.map FL (FO 0 s.infs)),(1004,.arr 1 (st.map Ba))]
theorem Aey(hs:C3 caps)(l:List (Cd))(p:Cd->Bool)(hF:∀x∈l,PC fF ([.agg (AE x)]++caps) (vb (p x)))(hl:l.length<9223372036854775807) :
  PC 340 [sl AE l,.clo fF caps] (vi (J0 p l 0)):=by
 refine Ps CX func340 rfl (Nz rfl) (Xi {i:Nat // i<=l.length/\∀j (hj:j<l.length),j<i->p l[j]=false} (Xi (fun i=>⟨[(0,sl AE l),(1,.clo fF caps),(7,vi (l.map AE).length),(8,vi i.1)],[],Af⟩) (Xi (fun i=>l.length-i.1) (Yi (Xi ⟨0,by simp⟩ ?_) ?_))))
 .exact⟨⟨Zr,⟨rfl,hs.ids _⟩,Zr,Zr,Tv⟩,Tv,Fh,Tv⟩
 .intro⟨i,h1,h2⟩;refine Yi ?_ ?_
  .intro h;have h:i<l.length:=by simp_all
   have hg:l[i]?=some l[i]:=Ge h;refine Xi (AE l[i]) (Yi (Yi Wk (by simp_all)) (Yi rfl (yN ?_)));have Co:∀h,PC fF ([.agg (AE l[i])]++caps.map (str0 h)) (vb (p l[i])):=fun h=>by rw[hs.map];simp_all
   cases hp:p l[i]with
   |true=>
    rw[hp]at Co;refine Xi .pure (Xi (vb true) (Yi (Co _) ?_));rw[Lu h (fun j hj GC=>h2 j hj GC) hp,GH];exact .refl _
   |false=>
    rw[hp]at Co;refine Xi .pure (Xi (vb false) (Yi (Co _) (Yi (by grind [Au]) (Xi ⟨i+1,by omega,fun j hj GC=>?_⟩ ?_))))
    .grind
    .exact⟨by grind,⟨Zr,⟨rfl,hs.ids _⟩,Zr,Zr,Tv⟩,Tv,Fh,Tv⟩
  .intro h;have h:¬i<l.length:=by simp_all
   rw[H9 fun j hj=>h2 j hj Wk];exact .refl _
theorem s86(hs:C3 caps)(l:List (Nd))(p:Nd->Bool)(hF:∀x∈l,PC fF ([.agg (Bl x)]++caps) (vb (p x)))(hl:l.length<9223372036854775807) :
  PC 149 [sl Bl l,.clo fF caps] (vi (J0 p l 0)):=by
 refine Ps CX func149 rfl (Nz rfl) (Xi {i:Nat // i<=l.length/\∀j (hj:j<l.length),j<i->p l[j]=false} (Xi (fun i=>⟨[(0,sl Bl l),(1,.clo fF caps),(7,vi (l.map Bl).length),(8,vi i.1)],[],Af⟩) (Xi (fun i=>l.length-i.1) (Yi (Xi ⟨0,by simp⟩ ?_) ?_))))
 .exact⟨⟨Zr,⟨rfl,hs.ids _⟩,Zr,Zr,Tv⟩,Tv,Fh,Tv⟩
 .intro⟨i,h1,h2⟩;refine Yi ?_ ?_
  .intro h;have h:i<l.length:=by simp_all
   have hg:l[i]?=some l[i]:=Ge h;refine Xi (Bl l[i]) (Yi (Yi Wk (by simp_all)) (Yi rfl (yN ?_)));have Co:∀h,PC fF ([.agg (Bl l[i])]++caps.map (str0 h)) (vb (p l[i])):=fun h=>by rw[hs.map];simp_all
   cases hp:p l[i]with
   |true=>
    rw[hp]at Co;refine Xi .pure (Xi (vb true) (Yi (Co _) ?_));rw[Lu h (fun j hj GC=>h2 j hj GC) hp,GH];exact .refl _
   |false=>
    rw[hp]at Co;refine Xi .pure (Xi (vb false) (Yi (Co _) (Yi (by grind [Au]) (Xi ⟨i+1,by omega,fun j hj GC=>?_⟩ ?_))))
    .grind
    .exact⟨by grind,⟨Zr,⟨rfl,hs.ids _⟩,Zr,Zr,Tv⟩,Tv,Fh,Tv⟩
  .intro h;have h:¬i<l.length:=by simp_all
   rw[H9 fun j hj=>h2 j hj Wk];exact .refl _
theorem zX(hs:C3 caps)(l:List (Cd))(p:Cd->Bool)(hF:∀x∈l,PC fF ([.agg (AE x)]++caps) (vb (p x)))(hl:BO l) :
  PC 290 [sl AE l,.clo fF caps] (vb (l.any p)):=by
 refine Ps CX func290 rfl (Nz rfl) ?_;have hi:=Aey hs l p hF Wk;have Co:∀h,PC 340 [sl AE l,.clo fF (caps.map (str0 h))] (vi (J0 p l 0)):=fun h=>by grind [C3.map]
 refine C1 (C2 (Co _) ?_);have ha:=Ke (p:=p) l 0 (Cb 0);refine Yi ?_ ?_
 .intro h;rw[<-ha,Av h];exact .refl _
 .intro h;rw[<-ha,Aq h];exact .refl _
theorem zZ(l:List Cd)(hl:BO l):Bg Tryz.prog 154 [sl AE l] (Ai [] Af) fun r h'=>r=.slice (.id 2000 10) (l.map AE)/\h'=Ai [(2000,.tok 10 (l.map AE).length)] Af:=by
 refine Bj (I9 (zt 10)) [(2,2000)] rfl BI hm rfl func154 aa2 rfl (Nz rfl) aa2 rfl ?_;have CY:Bh 10 (l.map AE)/\([]:C0).length=0/\(([]:C0).length+(l.map AE).length)*128<=140737488355328/\([]:C0).length+(l.map AE).length<=9223372036854775807:=by
  refine⟨Cm (enc:=AE) (n:=10) (fun _=>rfl) l,rfl,?_,?_⟩<;>simp only[HY,Lm]<;>unfold BO at hl<;>omega
 have e2:HO.tok 10 (([]:C0).length+(l.map AE).length)=.tok 10 (l.map AE).length:=by simp_all
 have e3:AV.slice (.id 2000 10) ([]++l.map AE)=.slice (.id 2000 10) (l.map AE):=rfl;have full:∀st:St,(∃s:LS,St.le (I9 (zt 10)) st s/\True)->True:=fun _ _=>trivial;refine Xi 0 (Xi 0 (Yi ?_ ?_))
 .intro _;refine cU [(0,sl AE l)] [] Z1 Tv (Xi 2 (Yi CY ?_));exact C2 (.refl _) (Yi e3 (Aa (fun o=>Ai [(2000,o)] Af) e2))
 .intro h;refine Yi ?_ ?_
  .refine Xi ⟨[],[],Af⟩ (Yi ⟨trivial,trivial,fun _=>.inl rfl,Bn aa2⟩ ?_);refine Xi 0 ?_;exact C2 (.refl _) (Yi (show AV.slice (.id 2000 10) []=_ by rw[h]) (show Ai [(2000,HO.tok 10 0)] Af=_ by simp_all))
  .refine cU [(0,sl AE l)] [] Z1 Tv (Xi 2 (Yi CY ?_));exact C2 (.refl _) (Yi e3 (Aa (fun o=>Ai [(2000,o)] Af) e2))
theorem SN:∀{l:List Nf} {k:Nat} {kx:Value} {a:AV},(kx,a)∈FO k l↔∃j i,l[j]?=some i/\kx=L1 i/\a=vi ((k+j:Nat):Int)
 | [],k,kx,a=>by simp[FO]
 |y::l,k,kx,a=>by
  unfold FO;rw[AR,SN];constructor
  .rintro(h | ⟨j,i,h1,h2,h3⟩)
   .cases h<;>grind
   .exact⟨j+1,i,h1,h2,by grind⟩
  grind
theorem WH{a b:Nf}(h:L1 a=L1 b):a=b:=by
 obtain⟨a1,a2,a3,a4,a5,a6⟩:=a;obtain⟨b1,b2,b3,b4,b5,b6⟩:=b<;>grind [L1]
theorem zb(h:Me i 0 l=some k):(L1 i,vi (k:Nat))∈FO 0 l:=by
 grind [NA,SN]
theorem qJ(hn:l.Nodup)(h:Me i 0 l=some k):∀b,(L1 i,b)∈FO 0 l->b=vi (k:Nat):=fun b hb=>by
 grind [NA,SN,WH,List.getElem_inj]
theorem sP(h:Me i 0 l=none):∀a,(L1 i,a)∉FO 0 l:=fun a ha=>by
 obtain⟨j,i',h1,h2,_⟩:=SN.1 ha
 have:=WH h2
 subst this;exact Rd h (Az h1)
theorem fC:∀(l:List Nf) (k:Nat) (i:Nf),FO k (l++[i])=FO k l++[(L1 i,vi ((k+l.length:Nat):Int))]
 | [],k,i=>by simp[FO]
 |y::l,k,i=>by
  show(L1 y,_)::FO (k+1) (l++[i])=_;rw[fC l (k+1) i]
  grind [FO]
theorem uY(h:Me i 0 l=none):E7 (FO 0 l) (L1 i) (vi ((l.map AG).length:Int))=FO 0 (l++[i]):=by
 grind [IP,sP,fC]
theorem YR{s:SS}{l:List Tm}(h:Me i 0 s.infs=some k):Ea s i l=(k,s):=by grind [Ea]
theorem V4{s:SS}{l:List Tm}(h:Me i 0 s.infs=none)(hf:65536<=s.infs.length):Ea s i l=(s.infs.length-1,⟨s.infs,s.drv,true⟩):=by grind [Ea]
theorem YP{s:SS}{l:List Tm}(h:Me i 0 s.infs=none)(hf:¬65536<=s.infs.length):Ea s i l=(s.infs.length,⟨s.infs++[i],s.drv++[l],s.full⟩):=by grind [Ea]
section
variable {roots:List Rq}{C A:List (Value×AV)}{s s' : SS}{dec:List Cd}{st:List (List Sk)}{i:Nf}{l:List Tm}
theorem kr{z:Int}(e:Ea s i l=(k,s'))(hz:z=k):vi z=vi ((Ea s i l).1:Nat)/\Ai (Ju roots C A s' dec st) Af=Ai (Ju roots C A (Ea s i l).2 dec st) Af:=by simp_all
theorem wP(h:Me i 0 s.infs=none):Ai [(1000,.cells [sl Ad roots,.cmap Cc C,.cmap Cc A,.slice (.id 1001 6) (s.infs.map AG++[AG i]),.slice (.id 1002 1) (s.drv.map As++[As l]),.mref 1003,vb s.full,sl AE dec,sl Ae (AA dec),.msl 1004 st.length]),
      (1001,.tok 6 ((s.infs.map AG).length+[AG i].length)),(1002,.tok 1 ((s.drv.map As).length+[As l].length)),(1003,.map FL (E7 (FO 0 s.infs) (L1 i) (vi ((s.infs.map AG).length:Int)))),(1004,.arr 1 (st.map Ba))] Af=Ai (Ju roots C A ⟨s.infs++[i],s.drv++[l],s.full⟩ dec st) Af:=by
  grind [uY]
end
theorem zY(p:CS):PC 291 [.agg (AE c),.cptr [vs p]] (vb (decide (c.rel.path=p))):=by
 refine Ps (pC [2] []) func291 rfl (Nz rfl) (Yi (fun h1=>?_) (fun h1=>?_))
 .exact .of_eq (show vb true=vb (decide (c.rel.path=p)) by simp_all)
 exact .of_eq (show vb false=vb (decide (c.rel.path=p)) by simp_all)
theorem zW(t:Tm)(p:CS):PC 228 [.agg (Ac t),.cptr [vs p]] (vb (decide (t.path=p))):=by
 refine Ps (pC [2] []) func228 rfl (Nz rfl) (Yi (fun h1=>?_) (fun h1=>?_))
 .exact .of_eq (show vb true=vb (decide (t.path=p)) by simp_all)
 exact .of_eq (show vb false=vb (decide (t.path=p)) by simp_all)
theorem oW(l:List Tm)(p:CS)(hl:BO l):PC 155 [sl Ac l,vs p] (vb (DJ l p)):=by
 refine Ps (pC [3] []) func155 rfl (Nz rfl) (Ax (Bt (DJ l p)) (fun h1=>?_) (fun h1=>?_))
 .refine C1 (C2 (cb h1 (show PC 227 [sl Ac l,.clo 228 [.cptr [vs p]]] (vb (DJ l p))from tB (fF:=228) (caps:=[.cptr [vs p]]) (fun c hc=>by obtain rfl:=AJ.1 hc;intro h;rfl) l (fun t=>decide (t.path=p)) (fun t _=>zW t p) hl)) ?_);exact .of_eq (show vb true=vb (DJ l p) by rw[h1])
 refine C1 (C2 (cb h1 (show PC 227 [sl Ac l,.clo 228 [.cptr [vs p]]] (vb (DJ l p))from tB (fF:=228) (caps:=[.cptr [vs p]]) (fun c hc=>by obtain rfl:=AJ.1 hc;intro h;rfl) l (fun t=>decide (t.path=p)) (fun t _=>zW t p) hl)) ?_);exact .of_eq (show vb false=vb (DJ l p) by rw[h1])
theorem zV(p:CS)(hl:BO dec):Bg Tryz.prog 223 [.ref 1000 0,vs p] (Ai (Ju roots C A s dec st) Af) fun r h'=>r=vb (Dz dec p)/\h'=Ai (Ju roots C A s dec st) Af:=by
 refine Bj (I9 (pC [3] [])) [(1000,1000),(1001,1001),(1002,1002),(1003,1003),(1004,1004)] rfl BI hm rfl func223 aa2 rfl (Nz rfl) aa2 rfl (Ax (Bt (Dz dec p)) (fun h1=>?_) (fun h1=>?_))
 .refine C1 (C2 (cb h1 (show PC 290 [sl AE dec,.clo 291 [.cptr [vs p]]] (vb (Dz dec p))from zX (fF:=291) (caps:=[.cptr [vs p]]) (fun c hc=>by obtain rfl:=AJ.1 hc;intro h;rfl) dec (fun c=>decide (c.rel.path=p)) (fun c _=>zY c p) hl)) ?_);exact C2 (.refl _) (Yi (show vb true=vb (Dz dec p) by rw[h1]) rfl)
 refine C1 (C2 (cb h1 (show PC 290 [sl AE dec,.clo 291 [.cptr [vs p]]] (vb (Dz dec p))from zX (fF:=291) (caps:=[.cptr [vs p]]) (fun c hc=>by obtain rfl:=AJ.1 hc;intro h;rfl) dec (fun c=>decide (c.rel.path=p)) (fun c _=>zY c p) hl)) ?_);exact C2 (.refl _) (Yi (show vb false=vb (Dz dec p) by rw[h1]) rfl)
theorem rz(i:Nf)(l:List Tm)(k:Nat)(hk:Me i 0 s.infs=some k)(Vu:s.infs.Nodup):Bg Tryz.prog 224 [.ref 1000 0,.agg (AG i),sl Ac l] (Ai (Ju roots C A s dec st) Af) fun r h'=>r=vi ((Ea s i l).1:Nat)/\h'=Ai (Ju roots C A (Ea s i l).2 dec st) Af:=by
 refine Bj (I9 (pC [4] [])) [(1000,1000),(1001,1001),(1002,1002),(1003,1003),(1004,1004)] rfl BI hm rfl func224 aa2 rfl (Nz rfl) aa2 rfl (yN ?_);refine Or.inl (Xi (vi (k:Nat)) (Yi (Yi (zb hk) (qJ Vu hk)) ?_));refine Yi aa2 ?_;exact C2 (.refl _) (kr (YR hk) rfl)
theorem ry(i:Nf)(l:List Tm)(hk:Me i 0 s.infs=none)(hn:s.infs.length<=65536)(hdl:s.drv.length=s.infs.length):Bg Tryz.prog 224 [.ref 1000 0,.agg (AG i),sl Ac l] (Ai (Ju roots C A s dec st) Af) fun r h'=>r=vi ((Ea s i l).1:Nat)/\h'=Ai (Ju roots C A (Ea s i l).2 dec st) Af:=by
 have hdn:s.drv.length<=65536:=by omega
 have hml:(s.infs.map AG).length=s.infs.length:=Lm _;refine Bj (I9 (pC [4] [])) [(1000,1000),(1001,1001),(1002,1002),(1003,1003),(1004,1004)] rfl BI hm rfl func224 aa2 rfl (Nz rfl) aa2 rfl (yN ?_);refine Or.inr (Yi (sP hk) ?_);refine Yi aa2 (Yi (fun h1=>?_) (fun h1=>?_))
 .refine yN (Yi (by grind [Au]) ?_);exact C2 (.refl _) (kr (V4 hk Wk) Wk)
 refine yN (Yi aa2 (yN (Yi (YG rfl Wk aa1) (yN (Yi aa2 (Yi (YG rfl Wk aa1) (yN ?_)))))));have hq:=kr (roots:=roots) (C:=C) (A:=A) (dec:=dec) (st:=st) (z:=((s.infs.map AG).length:Int)) (YP (l:=l) hk Wk) Wk;exact C2 (.refl _) (Yi hq.1 ((wP hk).trans hq.2))
structure K7(x:List Rl)(roots:List Rq)(s:SS):Prop where
 der:EP x roots s
 nodup:s.infs.Nodup
abbrev s8(o:Nat×SS)(r:AV)(h' : Nat->HO):Prop:=r=vi (o.1:Nat)/\h'=Ai (Ju roots C A o.2 dec st) Af
theorem rx(i:Nf)(l:List Tm)(hn:s.infs.length<=65536)(hdl:s.drv.length=s.infs.length)(Vu:s.infs.Nodup) :
  Bg Tryz.prog 224 [.ref 1000 0,.agg (AG i),sl Ac l] (Ai (Ju roots C A s dec st) Af) (s8 roots C A dec st (Ea s i l)):=by
 cases hk:Me i 0 s.infs<;>grind [rz,ry]
end Go.Eng
