/- Lemmas 28. -/
import Derived.Test.YtkjhcikodmiceaaGreatDoorMA27
set_option maxHeartbeats 4000000
namespace Go.Eng
open Go.Proofs
variable {α:Type}{f:α->Bool}{a b:CS}{l:List α}
theorem i9(p:CS)(hp:Fp p):PC 60 [vs p] (match AP p with | none=>.tup [vs ⟨#[]⟩,G 0,G 4] | some m=>.tup [vs (Ve p),G m,G 0]):=by
 have q:=y6 p hp;unfold Xv at q;cases e:AP p with
 |none=>rw[e]at q;exact q
 |some m=>rw[e]at q;exact q
theorem Yb(h:∀j (hj:j<l.length),f l[j]=true):l.all f=true:=AS.2 fun e he=>by
 obtain⟨j,hj,rfl⟩:=CG.1 he;exact h j hj
theorem F8{j:Nat}(hj:j<l.length)(h:f l[j]=false):¬l.all f=true:=fun c=>by
 have q:=AS.1 c _ (Ag hj);rw[h]at q;cases q
theorem xV(l:Lk)(Tu:∀q∈l.roots,G5 q)(yj:∀e∈l.ents,Fp e.path)(uz:l.ents.length<=1000000)(hil:l.infs.length<=1000000)(Xk:l.skips.length<=1000000):PC 26 [.agg (Ea l)] (G (if Dy l=true then 0 else 1)):=by
 refine Ps (pC [1] [3,10,16]) Tryz.func26 rfl C4 (C1 (U (c68 dZ jU l.roots Tu) (J (fun h1=>?_) (fun h1=>?_))))
 .exact CD.of_eq (Aa G (show 1=if Dy l=true then 0 else 1 by rw[CQ (fun c=>h1 c.1)];rfl))
 have h1:((AK l.roots):Int)=(0:Int):=As h1;refine J (fun h3=>?_) (fun h3=>?_)
 .have n3:1024<l.ents.length:=by have q:=h3;rw[Lm]at q;omega
  exact CD.of_eq (Aa G (show 1=if Dy l=true then 0 else 1 by rw[CQ (fun c=>absurd c.2.1 (by have q:=h3;rw[Lm]at q;omega))];rfl))
 have n3:¬1024<l.ents.length:=by have q:=h3;rw[Lm]at q;omega
 refine J (fun h5=>?_) (fun h5=>?_)
 .have n5:65536<l.infs.length:=by have q:=h5;rw[Lm]at q;omega
  exact CD.of_eq (Aa G (show 1=if Dy l=true then 0 else 1 by rw[CQ (fun c=>absurd c.2.2.1 (by have q:=h5;rw[Lm]at q;omega))];rfl))
 have n5:¬65536<l.infs.length:=by have q:=h5;rw[Lm]at q;omega
 refine J (fun h7=>?_) (fun h7=>?_)
 .have n7:65536<l.skips.length:=by have q:=h7;rw[Lm]at q;omega
  exact CD.of_eq (Aa G (show 1=if Dy l=true then 0 else 1 by rw[CQ (fun c=>absurd c.2.2.2.1 (by have q:=h7;rw[Lm]at q;omega))];rfl))
 have h7:¬((65536:Int)<((l.skips.map N).length:Int)):=h7;have n7:¬65536<l.skips.length:=by have q:=h7;rw[Lm]at q;omega
 refine yN (C1 (U (gl l uz) (Ay (Bt (Be (Gp l))) (fun h9=>?_) (fun h9=>?_))))
 .have h9:(Be (Gp l))=true:=h9;refine C1 (U (cb h9 (x6 (Gp l) (by show(l.ents.map Dz).length<=_;rw[Lm];omega))) (cU [(1,.ref 1 0)] [(1,.ro (Ea l))] Z1 Z1 (Z {q:Nat // q<=l.ents.length/\∀j (h:j<l.ents.length),j<q->Hv l.ents[j]=true} (Z (fun q=>⟨[(1,.ref 1 0),(3,G q.1)],[(1,.ro (Ea l))],Af⟩) (Z (fun q=>l.ents.length-q.1) (J (Z ⟨0,Ak _,fun j _ h=>absurd h (Ch _)⟩ ?_) ?_))))))
  .exact⟨Z2,Z1,Fh,W⟩
  intro⟨i,i1,i2⟩;have i1:i<=l.ents.length:=i1;have i2:∀j (h:j<l.ents.length),j<i->Hv l.ents[j]=true:=i2;refine J (fun JN=>?_) (fun JN=>?_)
  .have JN:(i:Int)<((l.ents.map CV).length:Int):=JN;have n10:=FY JN;refine Z (CV l.ents[i]) (J (Ht n10) (J rfl (yN (yN (Ay (CU (AP l.ents[i].path)) (fun F4=>?_) (fun F4=>?_))))))
   .refine Al F4 (fun mj F4=>?_);have UN:=(i9 l.ents[i].path (yj _ (Ag n10)));rw[F4]at UN;refine C1 (U UN (J (fun h=>absurd h aa3) (fun _=>?_)));refine yN (Ay (Bt (Bv l.ents[i].ver)) (fun GH=>?_) (fun GH=>?_))
    .have GH:(Bv l.ents[i].ver)=true:=GH;refine C1 (U (cb GH (rb l.ents[i].ver)) (J (fun MB=>?_) (fun MB=>?_)))
     .have MB:(l.ents[i].ver.a:Int)≠(mj:Int):=MB;have eV:Hv l.ents[i]=false:=by rw[Hv,show AP l.ents[i].path=some mj from F4,At (fun e=>MB (D5 e).symm)];rfl
      exact CD.of_eq (Aa G (show 1=if Dy l=true then 0 else 1 by rw[CQ (fun c=>F8 n10 eV c.2.2.2.2.1.2)];rfl))
     have MB:(l.ents[i].ver.a:Int)=(mj:Int):=As MB;refine Ay (Bt (CK l.ents[i].arch)) (fun Jb=>?_) (fun Jb=>?_)
     .have Jb:(CK l.ents[i].arch)=true:=Jb;refine C1 (U (cb Jb (i7 l.ents[i].arch)) (Ay (Bt (CK l.ents[i].ifc)) (fun MQ=>?_) (fun MQ=>?_)))
      .have MQ:(CK l.ents[i].ifc)=true:=MQ;refine C1 (U (cb MQ (i7 l.ents[i].ifc)) (J (Ii i Wk) ?_));have eV:Hv l.ents[i]=true:=by rw[Hv,show AP l.ents[i].path=some mj from F4,Ax (Aa some (show mj=l.ents[i].ver.a from MB.symm)),GH,Jb,MQ];rfl
       refine Z ⟨i+1,n10,fun j hj h=>by rcases B9 j i with h2 | h2;exact i2 j hj h2;have e:j=i:=Wk;subst e;exact eV⟩ ?_;exact⟨Dl l.ents.length i Wk,Z2,Z1,Fh,W⟩
      have MQ:(CK l.ents[i].ifc)=false:=MQ;refine C1 (U (cb MQ (i7 l.ents[i].ifc)) ?_);have eV:Hv l.ents[i]=false:=by rw[Hv,show AP l.ents[i].path=some mj from F4,Ax (Aa some (show mj=l.ents[i].ver.a from MB.symm)),GH,Jb,MQ];rfl
      exact CD.of_eq (Aa G (show 1=if Dy l=true then 0 else 1 by rw[CQ (fun c=>F8 n10 eV c.2.2.2.2.1.2)];rfl))
     have Jb:(CK l.ents[i].arch)=false:=Jb;refine C1 (U (cb Jb (i7 l.ents[i].arch)) ?_);have eV:Hv l.ents[i]=false:=by rw[Hv,show AP l.ents[i].path=some mj from F4,Ax (Aa some (show mj=l.ents[i].ver.a from MB.symm)),GH,Jb];rfl
     exact CD.of_eq (Aa G (show 1=if Dy l=true then 0 else 1 by rw[CQ (fun c=>F8 n10 eV c.2.2.2.2.1.2)];rfl))
    have GH:(Bv l.ents[i].ver)=false:=GH;refine C1 (U (cb GH (rb l.ents[i].ver)) ?_);have eV:Hv l.ents[i]=false:=by rw[Hv,GH];simp
    exact CD.of_eq (Aa G (show 1=if Dy l=true then 0 else 1 by rw[CQ (fun c=>F8 n10 eV c.2.2.2.2.1.2)];rfl))
   have UN:=(i9 l.ents[i].path (yj _ (Ag n10)));rw[F4]at UN;refine C1 (U UN (J (fun _=>?_) (fun h=>absurd aa3 h)));have eV:Hv l.ents[i]=false:=by rw[Hv,show AP l.ents[i].path=none from F4];rfl
   exact CD.of_eq (Aa G (show 1=if Dy l=true then 0 else 1 by rw[CQ (fun c=>F8 n10 eV c.2.2.2.2.1.2)];rfl))
  have JN:¬((i:Int)<((l.ents.map CV).length:Int)):=JN;have n10:=El JN;refine cU [(1,.ref 1 0)] [(1,.ro (Ea l))] Z1 Z1 (Z {q:Nat // q<=l.infs.length/\∀j (h:j<l.infs.length),j<q->M4 l.infs[j]=true} (Z (fun q=>⟨[(1,.ref 1 0),(8,G q.1)],[(1,.ro (Ea l))],Af⟩) (Z (fun q=>l.infs.length-q.1) (J (Z ⟨0,Ak _,fun j _ h=>absurd h (Ch _)⟩ ?_) ?_))))
  .exact⟨Z2,Z1,Fh,W⟩
  intro⟨k,k1,k2⟩;have k1:k<=l.infs.length:=k1;have k2:∀j (h:j<l.infs.length),j<k->M4 l.infs[j]=true:=k2;refine J (fun N9=>?_) (fun N9=>?_)
  .have N9:(k:Int)<((l.infs.map AG).length:Int):=N9;have n22:=FY N9;refine Z (AG l.infs[k]) (J (Ht n22) (J rfl (yN (yN (J (fun d5=>?_) (fun d5=>?_))))))
   .have d5:(l.infs[k].kind:Int)<(0:Int):=d5;have eV:M4 l.infs[k]=false:=by unfold M4;exact At (fun c=>by have q:=d5;omega)
    exact CD.of_eq (Aa G (show 1=if Dy l=true then 0 else 1 by rw[CQ (fun c=>F8 n22 eV c.2.2.2.2.2.1)];rfl))
   have d5:¬((l.infs[k].kind:Int)<(0:Int)):=d5;refine J (fun Wb=>?_) (fun Wb=>?_)
   .have Wb:(3:Int)<(l.infs[k].kind:Int):=Wb;have eV:M4 l.infs[k]=false:=by unfold M4;exact At (fun c=>by have q:=Wb;omega)
    exact CD.of_eq (Aa G (show 1=if Dy l=true then 0 else 1 by rw[CQ (fun c=>F8 n22 eV c.2.2.2.2.2.1)];rfl))
   have Wb:¬((3:Int)<(l.infs[k].kind:Int)):=Wb;refine J (fun MR=>?_) (fun MR=>?_)
   .have MR:(64:Int)<(l.infs[k].path.size:Int):=MR;have eV:M4 l.infs[k]=false:=by unfold M4;exact At (fun c=>by have q:=MR;omega)
    exact CD.of_eq (Aa G (show 1=if Dy l=true then 0 else 1 by rw[CQ (fun c=>F8 n22 eV c.2.2.2.2.2.1)];rfl))
   have MR:¬((64:Int)<(l.infs[k].path.size:Int)):=MR;refine J (fun Wd=>?_) (fun Wd=>?_)
   .have Wd:(l.infs[k].place:Int)<(0:Int):=Wd;have eV:M4 l.infs[k]=false:=by unfold M4;exact At (fun c=>by have q:=Wd;omega)
    exact CD.of_eq (Aa G (show 1=if Dy l=true then 0 else 1 by rw[CQ (fun c=>F8 n22 eV c.2.2.2.2.2.1)];rfl))
   have Wd:¬((l.infs[k].place:Int)<(0:Int)):=Wd;refine J (fun Tc=>?_) (fun Tc=>?_)
   .have Tc:(l.infs[k].number:Int)<(0:Int):=Tc;have eV:M4 l.infs[k]=false:=by unfold M4;exact At (fun c=>by have q:=Tc;omega)
    exact CD.of_eq (Aa G (show 1=if Dy l=true then 0 else 1 by rw[CQ (fun c=>F8 n22 eV c.2.2.2.2.2.1)];rfl))
   have Tc:¬((l.infs[k].number:Int)<(0:Int)):=Tc;refine J (fun Ts=>?_) (fun Ts=>?_)
   .have Ts:(l.infs[k].left:Int)<(0:Int):=Ts;have eV:M4 l.infs[k]=false:=by unfold M4;exact At (fun c=>by have q:=Ts;omega)
    exact CD.of_eq (Aa G (show 1=if Dy l=true then 0 else 1 by rw[CQ (fun c=>F8 n22 eV c.2.2.2.2.2.1)];rfl))
   have Ts:¬((l.infs[k].left:Int)<(0:Int)):=Ts;refine J (fun Wq=>?_) (fun Wq=>?_)
   .have Wq:(l.infs[k].right:Int)<(0:Int):=Wq;have eV:M4 l.infs[k]=false:=by unfold M4;exact At (fun c=>by have q:=Wq;omega)
    exact CD.of_eq (Aa G (show 1=if Dy l=true then 0 else 1 by rw[CQ (fun c=>F8 n22 eV c.2.2.2.2.2.1)];rfl))
   have Wq:¬((l.infs[k].right:Int)<(0:Int)):=Wq;refine J (Ii k Wk) ?_;have eV:M4 l.infs[k]=true:=by unfold M4;exact Ax (by have q0:=d5;have q1:=Wb;have q2:=MR;have q3:=Wd;have q4:=Tc;have q5:=Ts;have q6:=Wq;omega)
   refine Z ⟨k+1,n22,fun j hj h=>by rcases B9 j k with h2 | h2;exact k2 j hj h2;have e:j=k:=Wk;subst e;exact eV⟩ ?_;exact⟨Dl l.infs.length k Wk,Z2,Z1,Fh,W⟩
  have N9:¬((k:Int)<((l.infs.map AG).length:Int)):=N9;have n22:=El N9;refine cU [(1,.ref 1 0)] [(1,.ro (Ea l))] Z1 Z1 (Z {q:Nat // q<=l.skips.length/\∀j (h:j<l.skips.length),j<q->Nl l.skips[j]=true} (Z (fun q=>⟨[(1,.ref 1 0),(10,G q.1)],[(1,.ro (Ea l))],Af⟩) (Z (fun q=>l.skips.length-q.1) (J (Z ⟨0,Ak _,fun j _ h=>absurd h (Ch _)⟩ ?_) ?_))))
  .exact⟨Z2,Z1,Fh,W⟩
  intro⟨m,m1,m2⟩;have m1:m<=l.skips.length:=m1;have m2:∀j (h:j<l.skips.length),j<m->Nl l.skips[j]=true:=m2;refine J (fun Tt=>?_) (fun Tt=>?_)
  .have Tt:(m:Int)<((l.skips.map N).length:Int):=Tt;have n38:=FY Tt;refine Z (N l.skips[m]) (J (Ht n38) (J rfl (yN (yN (J (fun jW=>?_) (fun jW=>?_))))))
   .have jW:(64:Int)<(l.skips[m].path.size:Int):=jW;have eV:Nl l.skips[m]=false:=by unfold Nl;exact At (fun c=>by have q:=jW;omega)
    exact CD.of_eq (Aa G (show 1=if Dy l=true then 0 else 1 by rw[CQ (fun c=>F8 n38 eV c.2.2.2.2.2.2)];rfl))
   have jW:¬((64:Int)<(l.skips[m].path.size:Int)):=jW;refine J (fun wu=>?_) (fun wu=>?_)
   .have wu:(l.skips[m].place:Int)<(0:Int):=wu;have eV:Nl l.skips[m]=false:=by unfold Nl;exact At (fun c=>by have q:=wu;omega)
    exact CD.of_eq (Aa G (show 1=if Dy l=true then 0 else 1 by rw[CQ (fun c=>F8 n38 eV c.2.2.2.2.2.2)];rfl))
   have wu:¬((l.skips[m].place:Int)<(0:Int)):=wu;refine J (fun nw=>?_) (fun nw=>?_)
   .have nw:(l.skips[m].inf:Int)<(0:Int):=nw;have eV:Nl l.skips[m]=false:=by unfold Nl;exact At (fun c=>by have q:=nw;omega)
    exact CD.of_eq (Aa G (show 1=if Dy l=true then 0 else 1 by rw[CQ (fun c=>F8 n38 eV c.2.2.2.2.2.2)];rfl))
   have nw:¬((l.skips[m].inf:Int)<(0:Int)):=nw;refine J (Ii m Wk) ?_;have eV:Nl l.skips[m]=true:=by unfold Nl;exact Ax (by have q0:=jW;have q1:=wu;have q2:=nw;omega)
   refine Z ⟨m+1,n38,fun j hj h=>by rcases B9 j m with h2 | h2;exact m2 j hj h2;have e:j=m:=Wk;subst e;exact eV⟩ ?_;exact⟨Dl l.skips.length m Wk,Z2,Z1,Fh,W⟩
  have Tt:¬((m:Int)<((l.skips.map N).length:Int)):=Tt;have n38:=El Tt;have eF:Dy l=true:=(UF h1 (by have q:=h3;rw[Lm]at q;omega) (by have q:=h5;rw[Lm]at q;omega) (by have q:=h7;rw[Lm]at q;omega) ⟨h9,(Yb fun j hj=>i2 j hj (AZ hj (B7 (El JN))))⟩ (Yb fun j hj=>k2 j hj (AZ hj (B7 (El N9))))).trans (Yb fun j hj=>m2 j hj (AZ hj (B7 (El Tt))));exact CD.of_eq (Aa G (show 0=if Dy l=true then 0 else 1 by rw[eF];rfl))
 have h9:(Be (Gp l))=false:=h9;refine C1 (U (cb h9 (x6 (Gp l) (by show(l.ents.map Dz).length<=_;rw[Lm];omega))) ?_);exact CD.of_eq (Aa G (show 1=if Dy l=true then 0 else 1 by rw[CQ (fun c=>by have q:=h9;rw[c.2.2.2.2.1.1]at q;cases q)];rfl))
theorem Qh{b:Bool}(h:(if b=true then(0:Int)else 1)=0):b=true:=by cases b;exact absurd h aa3;rfl
theorem xX(x:List Rl)(ifs:C0)(l:Lk)(_hx:∀r∈x,Eo r)(_hxl:BF x)(h47:PC 44 [.agg (Ic x ifs)] (G (Aw x)))(uq:∀p v,PC 45 [.agg (Ic x ifs),vs p,.agg (Ez v)] (Hi (AW x ⟨p,v⟩)))(h48:PC 26 [.agg (Ea l)] (G (if Dy l=true then 0 else 1)))(rQ:PC 46 [.agg (Ic x ifs),sl Ac l.roots,.agg [I true,sl Ae (Gp l),sl AG l.infs,sl N l.skips]] (G (Di x l.roots (J0 l))))(uz:l.ents.length<=1000000):PC 16 [.agg (Ic x ifs),.agg (Ea l)] (G (ZG x l)):=by
 refine Ps (pC [2,3] []) Tryz.func16 rfl C4 (yN (C1 (U h47 (J (fun h1=>?_) (fun h1=>?_)))))
 .exact CD.of_eq (Aa G (t7 (fun c=>h1 c.1)))
 have h1:((Aw x):Int)=(0:Int):=As h1;refine yN (C1 (U h48 (J (fun h3=>?_) (fun h3=>?_))))
 .exact CD.of_eq (Aa G (t7 (fun c=>h3 (by rw[c.2];rfl))))
 have h3:((if Dy l=true then 0 else 1):Int)=(0:Int):=As h3;refine Z {q:Nat // q<=l.ents.length/\(∀j (hj:j<l.ents.length),j<q->(AW x (Dz l.ents[j])).isSome=true)} (Z (fun q=>⟨[(2,.ref 2 0),(3,.ref 3 0),(5,G q.1)],[(2,.ro (Ic x ifs)),(3,.ro (Ea l))],Af⟩) (Z (fun q=>l.ents.length-q.1) (J (Z ⟨0,Ak _,fun j _ h=>absurd h (Ch _)⟩ ?_) ?_)))
 .exact⟨Z3,Z2,Fh,W⟩
 intro⟨i,i1,i2⟩;refine J (fun h5=>?_) (fun h5=>?_)
 .have h5:(i:Int)<((l.ents.map CV).length:Int):=h5;have n5:=FY h5;refine yN (Z (CV l.ents[i]) (J (Ht n5) (J rfl (Z (CV l.ents[i]) (J (Ht n5) (J rfl (yN (Ay (CU (AW x ⟨l.ents[i].path,l.ents[i].ver⟩)) (fun h6=>?_) (fun h6=>?_)))))))))
  .refine Al h6 (fun r h6=>?_);have UO:=(uq l.ents[i].path l.ents[i].ver);rw[h6]at UO;refine U UO (yN (J aa4 (J (Ii i Wk) (Z ⟨i+1,n5,fun j hj h=>by rcases B9 j i with h2 | h2;exact i2 j hj h2;have e:j=i:=Wk;subst e;rw[h6];rfl⟩ ?_))));exact⟨Dl l.ents.length i Wk,Z3,Z2,Fh,W⟩
  have UO:=(uq l.ents[i].path l.ents[i].ver);rw[h6]at UO;refine U UO (yN (J aa4 ?_));exact CD.of_eq (Aa G (AbY h1 (Qh h3) n5 h6))
 have h5:¬((i:Int)<((l.ents.map CV).length:Int)):=h5;have n5:=El h5;have i3:∀j (hj:j<l.ents.length),(AW x (Dz l.ents[j])).isSome=true:=fun j hj=>i2 j hj (AZ hj (B7 (El h5)));refine Z {q:Nat // q<=l.ents.length/\(∀j (hj:j<l.ents.length),j<q->I4 x l.ents[j]=true)} (Z (fun q=>⟨[(2,.ref 2 0),(3,.ref 3 0),(8,G q.1)],[(2,.ro (Ic x ifs)),(3,.ro (Ea l))],Af⟩) (Z (fun q=>l.ents.length-q.1) (J (Z ⟨0,Ak _,fun j _ h=>absurd h (Ch _)⟩ ?_) ?_)))
 .exact⟨Z3,Z2,Fh,W⟩
 intro⟨k,k1,k2⟩;have k1:k<=l.ents.length:=k1;have k2:∀j (hj:j<l.ents.length),j<k->I4 x l.ents[j]=true:=k2;refine J (fun h9=>?_) (fun h9=>?_)
 .have h9:(k:Int)<((l.ents.map CV).length:Int):=h9;have n9:=FY h9;obtain⟨r,hr⟩:=G6.1 (i3 k n9);refine yN (Z (CV l.ents[k]) (J (Ht n9) (J rfl (Z (CV l.ents[k]) (J (Ht n9) (J rfl (yN ?_)))))));have MU:=(uq l.ents[k].path l.ents[k].ver);rw[(show AW x ⟨l.ents[k].path,l.ents[k].ver⟩=some r from hr)]at MU;refine U MU (yN (J aa4 (Z (CV l.ents[k]) (J (Ht n9) (J rfl (J (fun GH=>?_) (fun GH=>?_)))))))
  .have GH:(r.arch:CS)≠l.ents[k].arch:=GH;refine J aa4 ?_;have eA:I4 x l.ents[k]=false:=by rw[WK (i3 k n9),Zv hr,At (fun e=>GH e.symm)];rfl
   exact CD.of_eq (Aa G (t8 h1 (Qh h3) i3 n9 eA))
  have GH:(r.arch:CS)=l.ents[k].arch:=As GH;refine Z (CV l.ents[k]) (J (Ht n9) (J rfl (J (fun Jb=>?_) (fun Jb=>?_))))
  .have Jb:(r.ifc:CS)≠l.ents[k].ifc:=Jb;refine J aa4 ?_;have eA:I4 x l.ents[k]=false:=by rw[WK (i3 k n9),Zv hr,Ax GH.symm,At (fun e=>Jb e.symm)];rfl
   exact CD.of_eq (Aa G (t8 h1 (Qh h3) i3 n9 eA))
  have Jb:(r.ifc:CS)=l.ents[k].ifc:=As Jb;refine J aa4 (J (Ii k Wk) ?_);have eA:I4 x l.ents[k]=true:=by rw[WK (i3 k n9),Zv hr,Ax GH.symm,Ax Jb.symm];rfl
  refine Z ⟨k+1,n9,fun j hj h=>by rcases B9 j k with h2 | h2;exact k2 j hj h2;have e:j=k:=Wk;subst e;exact eA⟩ ?_;exact⟨Dl l.ents.length k Wk,Z3,Z2,Fh,W⟩
 have h9:¬((k:Int)<((l.ents.map CV).length:Int)):=h9;have n9:=El h9;refine yN (yN (U (gl l uz) (U rQ (J (fun lU=>?_) (fun lU=>?_)))))
 .have lU:((Di x l.roots (J0 l)):Int)≠(0:Int):=lU;refine J aa4 ?_;exact CD.of_eq (Aa G (show 18=ZG x l by rw[t6 h1 (Qh h3) i3 (fun j hj=>k2 j hj (AZ hj (B7 (El h9)))),A1 lU]))
 have lU:((Di x l.roots (J0 l)):Int)=(0:Int):=As lU;refine J aa4 ?_;exact CD.of_eq (Aa G (show 0=ZG x l by rw[t6 h1 (Qh h3) i3 (fun j hj=>k2 j hj (AZ hj (B7 (El h9)))),AL (fun h=>h lU)]))
def enF(e:Lo):Bool:=decide (e.path.size<=100/\e.arch.size<=100/\e.ifc.size<=100)
def nfF(i:Nf):Bool:=decide (i.path.size<=100)
def AgV(s:Sk):Bool:=decide (s.path.size<=100)
structure ZN(l:Lk):Prop where
 en:l.ents.all enF=true
 nf:l.infs.all nfF=true
 sk:l.skips.all AgV=true
 rq:EG l.roots=true
 el:l.ents.length<=16
 il:l.infs.length<=300
 kl:l.skips.length<=100
abbrev Ag0(n:Nat):Ns:=⟨[],[],[(2,n),(5,n)],[],[],[],[5],[],[],[],[2,3]⟩
theorem AgR(l:List Sl)(hl:BF l):A6 Tryz.prog 76 [sl Ae l] (Ai [] Af) fun r h'=>r=.msl 2000 l.length/\h'=Ai [(2000,.arr 4 (l.map Ae))] Af:=by
 refine Bi (IU (Ag0 4)) [(2,2000)] rfl BA hm rfl Tryz.func76 aa4 rfl C4 aa4 rfl ?_;have De:A7 4 (l.map Ae)/\([]:C0).length=0/\(([]:C0).length+(l.map Ae).length)*40<=140737488355328/\([]:C0).length+(l.map Ae).length<=9223372036854775807:=by
  refine⟨B8 (enc:=Ae) (n:=4) (fun _=>rfl) l,rfl,?_,?_⟩<;>simp only[If,Lm]<;>unfold BF at hl<;>omega
 have e1:AV.msl 2000 (([]:C0).length+(l.map Ae).length)=.msl 2000 l.length:=aa1
 refine Z 0 (Z 0 (J ?_ ?_))
 .intro _;refine cU [(0,sl Ae l)] [] Z1 W (Z 2 (J De ?_));exact U (.refl _) (J e1 rfl)
 .intro h;refine J ?_ ?_
  .refine Z ⟨[],[],Af⟩ (J ⟨trivial,trivial,fun _=>.inl rfl,A2 aa4⟩ ?_);refine Z 2 ?_;exact U (.refl _) (J (show AV.msl 2000 0=_ by rw[FQ.1 h];rfl) (show Ai [(2000,HO.arr 4 [])] Af=_ by rw[h]))
  .refine cU [(0,sl Ae l)] [] Z1 W (Z 2 (J De ?_));exact U (.refl _) (J e1 rfl)
abbrev Aeb:Sl->Sl->Int:=fun a b=>JH a.path b.path
theorem mK:JH a b<0↔Ek a b=true:=by
 unfold JH
 by_cases h:Ek a b=true
 .rw[A1 h];simp[h]
 .rw[AL h];split<;>simp[h]
theorem dM:JH a b=0↔a=b:=by
 unfold JH;constructor
 .intro h;split at h
  .cases h
  .rename_i h1;split at h
   .cases h
   .rename_i h2;exact Ik (by simpa using h1) (by simpa using h2)
 .rintro rfl
  rw[AL (by rw[Dd];decide),AL (by rw[Dd];decide)]
abbrev kept(p:α->Bool)(l:List α):List α:=l.filter fun x=>!p x
end Go.Eng
namespace Go.Eng
structure OC{α β:Type}(c:α->α->Int)(R:α->α->Prop)(key:α->β):Prop where
 lt:∀a b,c a b<0↔R a b
 eq:∀a b,c a b=0↔key a=key b
 tr:∀a b d,R a b->R b d->R a d
 irr:∀a b,key a=key b->¬R a b
 tri:∀a b,¬R a b->key a≠key b->R b a
 cl:∀a b d,key a=key b->R a d->R b d
section
variable {α β:Type}{c:α->α->Int}{R:α->α->Prop}{key:α->β}
theorem kw(h:OC c R key){a:List α}(ha:a.Pairwise R):(a.map key).Nodup:=by
 unfold List.Nodup;rw[ID];exact ha.imp fun q e=>h.irr _ _ e q
end
/-! The three comparisons. -/
abbrev ltP(a b:Sl):Prop:=Ek a.path b.path=true
theorem ocP:OC Aeb ltP (fun s:Sl=>s.path) where
 lt _ _:=mK
 eq _ _:=dM
 tr _ _ _:=D2
 irr a b e h:=by rw[ltP,e,Dd]at h;cases h
 tri a b h e:=by
  cases q:Ek b.path a.path with
  |true=>exact q
  |false=>
   cases p:Ek a.path b.path with
   |true=>exact absurd p h
   |false=>exact absurd (Ik p q) e
 cl a b d e h:=by rw[ltP,<-e];exact h
/-! Pins. -/
/-! What the reference makes of a list. -/
theorem N1{α:Type}{l:List α}{i:Nat}(h:i<l.length):l.take (i+1)=l.take i++[l[i]]:=Da h
end Go.Eng
namespace Go.Eng
open Go.Proofs Go.Proofs.Tryz
variable {i:Nat}{α:Type}{a b:List α}{j:Nat}(x:List Rl)(roots:List Rq)(d:List (List Tm))(D:List Sl)(K:List Sk)
instance:DecidableEq Rq:=fun x y=>decidable_of_iff (x.path=y.path/\x.set=y.set) ⟨fun⟨h1,h2⟩=>by cases x<;>simp_all,fun h=>by simp_all⟩
theorem AbK{a b:Rq}(h1:a.path=b.path)(h2:a.set=b.set):a=b:=by cases a<;>simp_all
theorem ik(hl:a.length=b.length)(h:∀j (hj:j<a.length),a[j]=b[j]'(hl▸hj)):a=b:=List.ext_getElem hl fun j h1 _=>h j h1
theorem mn{ha:i<a.length}{hb:i<b.length}(h:a[i]≠b[i]):a≠b:=fun e=>by simp_all
theorem o69(a b:List Rq)(ha:BF a)(hs:∀q∈a,BF q.set):PC 42 [sl Ac a,sl Ac b] (I (decide (a=b))):=by
 have yh:a.length<=1073741824:=ha;refine Ps Dc func42 rfl C4 (J (fun h1=>?_) (fun h1=>?_))
 .exact .of_eq (show I false=I (decide (a=b)) by rw[At (fun e=>absurd (Aa (fun z=>((z.map Ac).length:Int)) e) h1)])
 have h1:((a.map Ac).length:Int)=((b.map Ac).length:Int):=As h1;have hl:a.length=b.length:=aa2
 refine Z {q:Nat // q<=a.length/\∀j (hj:j<a.length),j<q->a[j]=b[j]'(hl▸hj)} (Z (fun q=>⟨[(0,sl Ac a),(1,sl Ac b),(5,G q.1)],[],Af⟩) (Z (fun q=>a.length-q.1) (J (Z ⟨0,Ak _,fun _ _ h=>absurd h (Ch _)⟩ ?_) ?_)))
 .exact⟨Z3,W,Fh,W⟩
 intro⟨i,i1,i2⟩;refine J (fun h3=>?_) (fun h3=>?_)
 .have h3:(i:Int)<((a.map Ac).length:Int):=h3;have n3:=FY h3;have nT:i<b.length:=Wk
  refine Z (Ac a[i]) (J (Ht n3) (J rfl (Z (Ac b[i]) (J (Ht nT) (J rfl (J (fun h5=>?_) (fun h5=>?_)))))))
  .refine J aa4 ?_;exact .of_eq (show I false=I (decide (a=b)) by rw[At (mn (i:=i) (ha:=n3) (hb:=nT) (fun e=>h5 (Aa Rq.path e)))])
  have h5:(a[i].path:CS)=b[i].path:=As h5;refine Z (Ac a[i]) (J (Ht n3) (J rfl (Z (Ac b[i]) (J (Ht nT) (J rfl (Ay (Bt (decide (a[i].set=b[i].set))) (fun h7=>?_) (fun h7=>?_)))))))
  .refine U (cb h7 (c75 a[i].set b[i].set (hs _ (Ag n3)))) (J aa4 (J (by grind [Au]) ?_));refine Z ⟨i+1,n3,fun j hj F6=>if e:j<i then i2 j hj e else by
     grind [AbK]⟩ ?_
   exact⟨Dl a.length i Wk,Z3,W,Fh,W⟩
  have h7:(decide (a[i].set=b[i].set))=false:=h7;refine U (cb h7 (c75 a[i].set b[i].set (hs _ (Ag n3)))) (J aa4 ?_);exact .of_eq (show I false=I (decide (a=b)) by rw[At (mn (i:=i) (ha:=n3) (hb:=nT) (fun e=>of_decide_eq_false h7 (Aa Rq.set e)))])
 have h3:¬((i:Int)<((a.map Ac).length:Int)):=h3;have n3:=El h3;exact .of_eq (show I true=I (decide (a=b)) by grind [ik])
theorem Ac3(l:List Lo)(hl:l.length<=1000000):PC 22 [sl CV l,sl CV l] (I true):=by
 refine Ps Dc func22 rfl C4 (J (fun h1=>?_) (fun h1=>?_))
 .exact absurd rfl h1
 have h1:((l.map CV).length:Int)=((l.map CV).length:Int):=As h1;refine Z {q:Nat // q<=l.length} (Z (fun q=>⟨[(0,sl CV l),(1,sl CV l),(5,G q.1)],[],Af⟩) (Z (fun q=>l.length-q.1) (J (Z ⟨0,Ak _⟩ ?_) ?_)))
 .exact⟨Z3,W,Fh,W⟩
 intro⟨i,i1⟩;refine J (fun h2=>?_) (fun h2=>?_)
 .have h2:(i:Int)<((l.map CV).length:Int):=h2;have n2:=FY h2;refine Z (CV l[i]) (J (Ht n2) (J rfl (yN (Z (CV l[i]) (J (Ht n2) (J rfl (yN (J (fun h3=>?_) (fun h3=>?_)))))))))
  .have h3:(l[i].path:CS)=l[i].path/\(l[i].ver.a:Int)=l[i].ver.a/\(l[i].ver.b:Int)=l[i].ver.b/\(l[i].ver.c:Int)=l[i].ver.c/\(l[i].arch:CS)=l[i].arch/\(l[i].ifc:CS)=l[i].ifc/\True:=h3;refine J aa4 (J (Ii i Wk) (Z ⟨i+1,n2⟩ ?_));exact⟨Dl l.length i Wk,Z3,W,Fh,W⟩
  have h3:¬((l[i].path:CS)=l[i].path/\(l[i].ver.a:Int)=l[i].ver.a/\(l[i].ver.b:Int)=l[i].ver.b/\(l[i].ver.c:Int)=l[i].ver.c/\(l[i].arch:CS)=l[i].arch/\(l[i].ifc:CS)=l[i].ifc/\True):=h3;exact absurd ⟨rfl,rfl,rfl,rfl,rfl,rfl,trivial⟩ h3
 have h2:¬((i:Int)<((l.map CV).length:Int)):=h2;have n2:=El h2;exact .refl _
theorem Ac4(l:List Nf)(hl:l.length<=1000000):PC 43 [sl AG l,sl AG l] (I true):=by
 refine Ps Dc func43 rfl C4 (J (fun h1=>?_) (fun h1=>?_))
 .exact absurd rfl h1
 have h1:((l.map AG).length:Int)=((l.map AG).length:Int):=As h1;refine Z {q:Nat // q<=l.length} (Z (fun q=>⟨[(0,sl AG l),(1,sl AG l),(5,G q.1)],[],Af⟩) (Z (fun q=>l.length-q.1) (J (Z ⟨0,Ak _⟩ ?_) ?_)))
 .exact⟨Z3,W,Fh,W⟩
 intro⟨i,i1⟩;refine J (fun h2=>?_) (fun h2=>?_)
 .have h2:(i:Int)<((l.map AG).length:Int):=h2;have n2:=FY h2;refine Z (AG l[i]) (J (Ht n2) (J rfl (yN (Z (AG l[i]) (J (Ht n2) (J rfl (yN (J (fun h3=>?_) (fun h3=>?_)))))))))
  .have h3:(l[i].kind:Int)=l[i].kind/\(l[i].path:CS)=l[i].path/\(l[i].place:Int)=l[i].place/\(l[i].number:Int)=l[i].number/\(l[i].left:Int)=l[i].left/\(l[i].right:Int)=l[i].right/\True:=h3;refine J aa4 (J (Ii i Wk) (Z ⟨i+1,n2⟩ ?_));exact⟨Dl l.length i Wk,Z3,W,Fh,W⟩
  have h3:¬((l[i].kind:Int)=l[i].kind/\(l[i].path:CS)=l[i].path/\(l[i].place:Int)=l[i].place/\(l[i].number:Int)=l[i].number/\(l[i].left:Int)=l[i].left/\(l[i].right:Int)=l[i].right/\True):=h3;exact absurd ⟨rfl,rfl,rfl,rfl,rfl,rfl,trivial⟩ h3
 have h2:¬((i:Int)<((l.map AG).length:Int)):=h2;have n2:=El h2;exact .refl _
theorem qq(l:Lk)(hl:l.skips.length<=1000000/\l.roots.length<=1000000/\l.ents.length<=1000000/\l.infs.length<=1000000)(hq:∀q∈l.roots,BF q.set):PC 13 [.agg (Ea l),.agg (Ea l)] (I true):=by
 refine Ps (pC [2,3] []) func13 rfl C4 (C1 (U (cb (Ax rfl) (o69 l.roots l.roots (Bd hl.2.1 aa3) hq)) (C1 (U (Ac3 l.ents hl.2.2.1) (C1 (U (Ac4 l.infs hl.2.2.2) (J (fun h1=>?_) (fun h1=>?_))))))))
 .exact absurd rfl h1
 have h1:((l.skips.map N).length:Int)=((l.skips.map N).length:Int):=As h1;refine Z {q:Nat // q<=l.skips.length} (Z (fun q=>⟨[(2,.ref 2 0),(3,.ref 3 0),(5,G q.1)],[(2,.ro (Ea l)),(3,.ro (Ea l))],Af⟩) (Z (fun q=>l.skips.length-q.1) (J (Z ⟨0,Ak _⟩ ?_) ?_)))
 .exact⟨Z3,Z2,Fh,W⟩
 intro⟨i,i1⟩;refine J (fun h2=>?_) (fun h2=>?_)
 .have h2:(i:Int)<((l.skips.map N).length:Int):=h2;have n2:=FY h2;refine Z (N l.skips[i]) (J (Ht n2) (J rfl (yN (Z (N l.skips[i]) (J (Ht n2) (J rfl (yN (J (fun h3=>?_) (fun h3=>?_)))))))))
  .have h3:(l.skips[i].path:CS)=l.skips[i].path/\(l.skips[i].place:Int)=l.skips[i].place/\(l.skips[i].inf:Int)=l.skips[i].inf/\True:=h3;refine J aa4 (J (Ii i Wk) (Z ⟨i+1,n2⟩ ?_));exact⟨Dl l.skips.length i Wk,Z3,Z2,Fh,W⟩
  have h3:¬((l.skips[i].path:CS)=l.skips[i].path/\(l.skips[i].place:Int)=l.skips[i].place/\(l.skips[i].inf:Int)=l.skips[i].inf/\True):=h3;exact absurd ⟨rfl,rfl,rfl,trivial⟩ h3
 have h2:¬((i:Int)<((l.skips.map N).length:Int)):=h2;have n2:=El h2;exact .refl _
theorem jf{l:List Rl}(h:j<l.length):GQ roots (l.take (j+1))=GQ roots (l.take j)++l[j].reqs:=by
 grind [GQ,List.take_add_one]
theorem l8:∀l:List Rl,(∀r∈l,r.reqs.length<=16)->(GQ roots l).length<=roots.length+16*l.length:=fun l h=>by
 grind [aK,GQ]
theorem c48(ifs:C0)(roots:List Rq)(s:List Sl)(hx:∀r∈x,Eo r)(Mu:BF x)(Tu:∀q∈roots,BF q.set)(hrl:roots.length<=1000000)(hs:s.length<=256):PC 94 [.agg (Ic x ifs),sl Ac roots,sl Ae s] (G (Do x roots s)):=by
 have Ri:∀(p:CS) (v:Ver),PC 45 [GM x ifs,vs p,.agg (Ez v)] (Hi (AW x ⟨p,v⟩)):=fun p v=>x9 x ifs p v hx Mu;have c8:BF s:=Wk
 refine Ps (pC [] [2,3,6,8,14,16,18,20,22,23]) func94 rfl C4 (yN (C1 (U (ul x ifs hx) (J (fun h1=>?_) (fun h1=>?_)))))
 .refine cU [] [] W W ?_
  exact E G (show(1:Int)=Do x roots s by grind [Do])
 have h1:(Aw x:Int)=(0:Int):=As h1;refine Ay (Bt (Be s)) (fun h3=>?_) (fun h3=>?_)
 .have gS:=(x6 s c8);rw[show Be s=true from h3]at gS;refine C1 (U gS (cU [(1,sl Ac roots),(2,sl Ae s),(3,.ref 3 0)] [(3,.cells (Ic x ifs))] Z3 Z1 (Z {q:Nat×List Rl // q.1<=s.length/\F9 x (s.take q.1)=some q.2} (Z (fun q=>⟨[(1,sl Ac roots),(2,sl Ae s),(3,.ref 3 0),(7,.slice (.id 22 9) (q.1.2.map V)),(8,G q.1.1)],[(3,.cells (Ic x ifs)),(22,.tok 9 q.1.2.length)],Af⟩) (Z (fun q=>s.length-q.1.1) (J (Z ⟨(0,[]),Ak _,rfl⟩ ?_) ?_))))))
  .exact⟨Z5,Z2,Fh,W⟩
  intro⟨⟨i,A⟩,i1,i2⟩;have hA:A.length=i:=by
   have q:=Aa List.length (FP i2).1;simp_all
  refine J (fun h5=>?_) (fun h5=>?_)
  .have n5:i<s.length:=aa0
   have g5:s[i]?=some s[i]:=Ge n5;refine yN (Z (Ae s[i]) (J (J (Nn i) (Br g5)) (J rfl (Z (Ae s[i]) (J (J (Nn i) (Br g5)) (J rfl (yN (Ay (CU (AW x ⟨s[i].path,s[i].ver⟩)) (fun h6=>?_) (fun h6=>?_)))))))))
   .refine Al h6 (fun r h6=>?_);have UO:=Ri s[i].path s[i].ver;rw[h6]at UO;refine U UO (yN (J aa4 (cU [(1,sl Ac roots),(2,sl Ae s),(3,.ref 3 0),(7,.slice (.id 22 9) (A.map V)),(8,G i),(9,.ref 9 0),(10,I true)] [(3,.cells (Ic x ifs)),(9,.cells (V r)),(22,.tok 9 A.length)] Z7 Z3 (yN ?_))));have b7:A7 9 [(V r)]/\(A.map V).length=A.length/\((A.map V).length+([(V r)]:C0).length)*120<=140737488355328/\(A.map V).length+([(V r)]:C0).length<=9223372036854775807:=⟨⟨rfl,trivial⟩,aa0,aa2,aa2⟩;refine J b7 (cU [(1,sl Ac roots),(2,sl Ae s),(3,.ref 3 0),(7,.slice (.id 22 9) ((A.map V)++[(V r)])),(8,G i)] [(3,.cells (Ic x ifs)),(22,.tok 9 ((A.map V).length+([(V r)]:C0).length))] Z5 Z2 (J (by grind [Au]) (Z ⟨(i+1,(A++[r])),by omega,by show F9 x (s.take (i+1))=_;rw[cH n5 i2,show AW x s[i]=some r from h6]⟩ ?_)));exact⟨by grind,⟨X,X,X,⟨(show AV.slice (.id 22 9) (A.map V++[V r])=.slice (.id 22 9) ((A++[r]).map V) by simp),rfl⟩,X,W⟩,⟨X,⟨(show HO.tok 9 ((A.map V).length+([V r]:C0).length)=.tok 9 (A++[r]).length by simp),rfl⟩,W⟩,Fh,W⟩
   have UO:=Ri s[i].path s[i].ver;rw[h6]at UO;refine U UO (yN (J aa4 (cU [(1,sl Ac roots),(2,sl Ae s),(3,.ref 3 0),(7,.slice (.id 22 9) (A.map V)),(8,G i),(9,.ref 9 0),(10,I false)] [(3,.cells (Ic x ifs)),(9,.cells [vs ⟨#[]⟩,G 0,G 0,G 0,BY,vs ⟨#[]⟩,vs ⟨#[]⟩,vs ⟨#[]⟩,I false]),(22,.tok 9 A.length)] Z7 Z3 ?_)))
   exact E G (show(6:Int)=Do x roots s by grind [Do,pW,AW])
  have n5:¬i<s.length:=aa0
  rw[A3 Wk]at i2;have h0:Aw x=0:=h1;have hi:Be s=true:=h3;have se:=(FP i2).1;have hAx:∀r∈A,r∈x:=fun r hr=>(Ce ((FP i2).2.1 r hr)).2.1;have AaL:∀r∈A,r.reqs.length<=16:=fun r hr=>(Fi h0).2 r (hAx r hr);have hAn:=XM hi i2;have hAv:∀r∈A,Bv r.ver=true:=fun r hr=>((Bp h0).1 r (hAx r hr)).val;have hsv:∀y∈s,Bv y.ver=true:=fun y hy=>by
   rw[<-se]at hy;obtain⟨r,hr,rfl⟩:=Ar.1 hy;exact hAv r hr
  have Wa:A7 2 (roots.map Ac)/\([]:C0).length=0/\(([]:C0).length+(roots.map Ac).length)*40<=140737488355328/\([]:C0).length+(roots.map Ac).length<=9223372036854775807:=⟨(B8 (enc:=Ac) (n:=2) (fun _=>rfl) roots),aa1,aa2,aa2⟩;refine J Wa (Z {j:Nat // j<=A.length} (Z (fun q=>⟨[(1,sl Ac roots),(2,sl Ae s),(7,.slice (.id 22 9) (A.map V)),(11,.slice (.id 50 2) ((GQ roots (A.take q.1)).map Ac)),(12,G q.1)],[(22,.tok 9 A.length),(50,.tok 2 (GQ roots (A.take q.1)).length)],Af⟩) (Z (fun q=>A.length-q.1) (J (Z ⟨0,Ak _⟩ ?_) ?_))))
  .exact⟨⟨X,X,X,⟨(show AV.slice (.id 50 2) ([]++roots.map Ac)=.slice (.id 50 2) ((GQ roots (A.take 0)).map Ac) by grind [GQ]),rfl⟩,X,W⟩,⟨X,⟨(show HO.tok 2 (([]:C0).length+(roots.map Ac).length)=.tok 2 (GQ roots (A.take 0)).length by grind [GQ]),rfl⟩,W⟩,Fh,W⟩
  intro⟨j,j1⟩;have yh:=l8 roots (A.take j) (fun r hr=>AaL r (EJ hr));rw[BX]at yh;refine J (fun F4=>?_) (fun F4=>?_)
  .have n11:j<A.length:=aa0
   have g11:A[j]?=some A[j]:=Ge n11;have hrj:=AaL A[j] (Ag n11);refine Z (V A[j]) (J (J (Nn j) (Br g11)) (J rfl ?_));have ug:A7 2 (A[j].reqs.map Ac)/\((GQ roots (A.take j)).map Ac).length=(GQ roots (A.take j)).length/\(((GQ roots (A.take j)).map Ac).length+(A[j].reqs.map Ac).length)*40<=140737488355328/\((GQ roots (A.take j)).map Ac).length+(A[j].reqs.map Ac).length<=9223372036854775807:=⟨(B8 (enc:=Ac) (n:=2) (fun _=>rfl) A[j].reqs),aa0,aa2,aa2⟩;refine J ug (cU [(1,sl Ac roots),(2,sl Ae s),(7,.slice (.id 22 9) (A.map V)),(11,.slice (.id 50 2) (((GQ roots (A.take j)).map Ac)++(A[j].reqs.map Ac))),(12,G j)] [(22,.tok 9 A.length),(50,.tok 2 (((GQ roots (A.take j)).map Ac).length+(A[j].reqs.map Ac).length))] Z5 Z2 (J (by grind [Au]) ?_));have es:GQ roots (A.take (j+1))=GQ roots (A.take j)++A[j].reqs:=jf roots n11;refine Z ⟨j+1,by omega⟩ ?_;exact⟨by grind,⟨X,X,X,⟨(show AV.slice (.id 50 2) ((GQ roots (A.take j)).map Ac++A[j].reqs.map Ac)=.slice (.id 50 2) ((GQ roots (A.take (j+1))).map Ac) by simp_all),rfl⟩,X,W⟩,⟨X,⟨(show HO.tok 2 (((GQ roots (A.take j)).map Ac).length+(A[j].reqs.map Ac).length)=.tok 2 (GQ roots (A.take (j+1))).length by simp_all),rfl⟩,W⟩,Fh,W⟩
  have n11:¬j<A.length:=aa0
  rw[A3 Wk]at yh;refine Al (show ∃Q,Q=GQ roots A from⟨_,rfl⟩) (fun Q hQ=>?_);have hQl:Q.length<=1100000:=by
   grind
  have hQf:∀q∈Q,BF q.set:=fun q hq=>by
   grind [JZ]
  refine cU [(1,sl Ac roots),(2,sl Ae s),(7,.slice (.id 22 9) (A.map V)),(11,.slice (.id 50 2) (Q.map Ac))] [(22,.tok 9 A.length),(50,.tok 2 Q.length)] ⟨X,X,X,⟨(show AV.slice (.id 50 2) ((GQ roots (A.take j)).map Ac)=.slice (.id 50 2) (Q.map Ac) by grind),rfl⟩,W⟩ ⟨X,⟨(show HO.tok 2 (GQ roots (A.take j)).length=.tok 2 Q.length by grind),rfl⟩,W⟩ ?_
  refine Z {k:Nat // k<=Q.length/\∀m (h:m<Q.length),m<k->WB Q[m] s=true} (Z (fun q=>⟨[(1,sl Ac roots),(2,sl Ae s),(7,.slice (.id 22 9) (A.map V)),(11,.slice (.id 50 2) (Q.map Ac)),(13,G q.1)],[(22,.tok 9 A.length),(50,.tok 2 Q.length)],Af⟩) (Z (fun q=>Q.length-q.1) (J (Z ⟨0,Ak _,fun m _ h=>by omega⟩ ?_) ?_)))
  .exact⟨Z5,Z2,Fh,W⟩
  intro⟨k,k1,k2⟩;refine J (fun LA=>?_) (fun LA=>?_)
  .have n14:k<Q.length:=aa0
   have g14:Q[k]?=some Q[k]:=Ge n14;refine Z (Ac Q[k]) (J (J (Nn k) (Br g14)) (J rfl (yN (Ay (Bt (WB Q[k] s)) (fun Jb=>?_) (fun Jb=>?_)))))
   .have nC:=c92 Q[k] s (hQf _ (Ag n14)) c8 hsv;rw[show(WB Q[k] s)=true from Jb]at nC;refine C1 (U nC (cU [(1,sl Ac roots),(2,sl Ae s),(7,.slice (.id 22 9) (A.map V)),(11,.slice (.id 50 2) (Q.map Ac)),(13,G k)] [(22,.tok 9 A.length),(50,.tok 2 Q.length)] Z5 Z2 (J (by grind [Au]) (Z ⟨k+1,by omega,fun m hm hmk=>(B9 m k).elim (k2 m hm) (fun z=>by grind)⟩ ?_))));exact⟨by grind,Z5,Z2,Fh,W⟩
   have Aa4:=c92 Q[k] s (hQf _ (Ag n14)) c8 hsv;rw[show(WB Q[k] s)=false from Jb]at Aa4;refine C1 (U Aa4 (cU [] [] W W ?_))
   have uL:Q[k]∈GQ roots A:=aa0
   have hbk:Ck A Q[k]=true:=by
    grind [VO]
   exact E G (show(17:Int)=Do x roots s by grind [lE])
  have n14:¬k<Q.length:=aa0
  have hb:∀q∈GQ roots A,Ck A q=false:=fun q hq=>by
   grind [List.getElem_of_mem,VO]
  have hA0:=xJ h0 hi i2 Wk;have CN:=lr hAn hb;have hmn:(KC A roots).length<=A.length:=by
   grind
  have h93:=(c93 A [] roots (KC A roots) (XA hAn) (fun D a b=>XB D a b) (z6 hAn hb) hAn (wm hb) hA0 (fun r hr=>hx r (hAx r hr)) Tu hrl).args (args':=[.agg [sl V A,BY],sl Ac roots]) ⟨CD.agg ⟨.refl _,.nil,trivial⟩,.refl _,trivial⟩;refine C1 (U h93 (J (fun jV=>?_) (fun jV=>?_)))
  .refine cU [] [] W W ?_
   have hq:=jV;rw[Lm,CN,Lm]at hq;exact E G (show(8:Int)=Do x roots s by grind [VX])
  have jV:((((A.filter fun r=>Wx (KC A roots) r.path).map Cr).map Ae).length:Int)=((s.map Ae).length:Int):=As jV;refine cU [] [] W W ?_
  have hq:=jV;rw[Lm,CN,Lm]at hq;exact E G (show(0:Int)=Do x roots s by grind [VX])
 have nF:=(x6 s c8);rw[show Be s=false from h3]at nF;refine C1 (U nF (cU [] [] W W ?_))
 exact E G (show(1:Int)=Do x roots s by grind [Do])
def N8(d:List (List Tm))(b:List Sl)(p:CS)(va:Int->Ver):List Int->List Sk->Option (List Sk)
 | [],K=>some K
 |_::_,[]=>none
 |pl::ps,y::K=>if y.path=p/\y.place=pl then match DU d y.inf with
   |none=>none
   |some t=>if Bq t (b++[⟨p,va pl⟩])then N8 d b p va ps K else none
  else none
def Uo(i:Nat)(K:List Sk):Option (List Sk):=match D[i]? with
 |none=>none
 |some y=>N8 d (D.take i) y.path (Gq x y.path) (Dm x (B3 x roots (D.take i)) y.path (plc y.ver)) K
def Gw(x:List Rl)(roots:List Rq)(d:List (List Tm))(D:List Sl)(K:List Sk):Nat->Option (List Sk)
 |0=>some K
 |i+1=>(Gw x roots d D K i).bind (Uo x roots d D i)
def L7:Bool:=match Gw x roots d D K D.length with | some []=>true | _=>false
def Fk(a:An)(d:List (List Tm)):Bool:=decide ((Eu x roots a.sel).2=0)&&L7 x roots d (Eu x roots a.sel).1 a.skips
section
variable {x:List Rl}{roots:List Rq}{d:List (List Tm)}{D:List Sl}{K:List Sk}
theorem cA(h:Gw x roots d D K j=none):∀m,j<=m->Gw x roots d D K m=none:=by
 intro m hm
 induction m<;>grind [Gw]
theorem H1(hi:i<D.length){K' : List Sk}(h:Gw x roots d D K i=some K')(he:Uo x roots d D i K'=none):L7 x roots d D K=false:=by
 have h1:Gw x roots d D K (i+1)=none:=by grind [Gw]
 grind [L7,cA]
theorem cz{K' K2:List Sk}(h:Gw x roots d D K i=some K')(he:Uo x roots d D i K'=some K2):Gw x roots d D K (i+1)=some K2:=by
 grind [Gw]
theorem rA(hi:i<D.length)(K:List Sk):Uo x roots d D i K=N8 d (D.take i) D[i].path (Gq x D[i].path) (Dm x (B3 x roots (D.take i)) D[i].path (plc D[i].ver)) K:=by
 grind [Uo]
end
section
variable {d:List (List Tm)}{b:List Sl}{p:CS}{va:Int->Ver}{L:List Int}{k:Nat}{K:List Sk}{m:Nat}
theorem rD(hk:L.length<=k):N8 d b p va (L.drop k) K=some K:=by rw[Eb hk];rfl
theorem rC(hk:k<L.length)(hm:K.length<=m):N8 d b p va (L.drop k) (K.drop m)=none:=by
 rw[Bf hk,Eb hm];rfl
theorem gE(hk:k<L.length)(hm:m<K.length)(h:¬(K[m].path=p/\K[m].place=L[k])):N8 d b p va (L.drop k) (K.drop m)=none:=by
 rw[Bf hk,Bf hm];show(if _ then _ else none)=none;simp_all
theorem gF(hk:k<L.length)(hm:m<K.length)(h:DU d K[m].inf=none):N8 d b p va (L.drop k) (K.drop m)=none:=by
 rw[Bf hk,Bf hm];show(if _ then(match DU d K[m].inf with | none=>none | some t=>_)else none)=none;simp_all
theorem rE{t:List Tm}(hk:k<L.length)(hm:m<K.length)(h:DU d K[m].inf=some t)(he:Bq t (b++[(⟨p,va L[k]⟩:Sl)])=false):N8 d b p va (L.drop k) (K.drop m)=none:=by
 rw[Bf hk,Bf hm];show(if _ then(match DU d K[m].inf with | none=>none | some t=>if Bq t (b++[(⟨p,va L[k]⟩:Sl)])then _ else none)else none)=none;simp_all
theorem rF{t:List Tm}(hk:k<L.length)(hm:m<K.length)(h1:K[m].path=p)(h2:K[m].place=L[k])(h:DU d K[m].inf=some t)(he:Bq t (b++[(⟨p,va L[k]⟩:Sl)])=true):N8 d b p va (L.drop k) (K.drop m)=N8 d b p va (L.drop (k+1)) (K.drop (m+1)):=by
 grind [List.drop_eq_getElem_cons,N8]
end
section
variable {x:List Rl}{roots:List Rq}{d:List (List Tm)}
theorem xT(h0:Aw x=0){o:Rl}(ho:o∈x):Gq x o.path (plc o.ver)=o.ver:=by
 have hx:=(Bp h0).1;unfold Gq Dt;cases hf:x.find? (fun r=>decide (r.path=o.path)&&decide (plc r.ver=plc o.ver))with
 |none=>
  grind
 |some r=>
  have hr:=Bh hf;have hp:=FI hf;simp only[Aq,A4]at hp;have v1:=(hx r hr).val;have v2:=(hx o ho).val;have m1:=(hx r hr).maj;have m2:=(hx o ho).maj;rw[hp.1,m2]at m1;have e0:o.ver.a=r.ver.a:=D5 m1;have e1:=hp.2;rw[<-L4 v1,<-L4 v2]at e1;unfold place at e1;unfold Bv at v1 v2;simp only[Aq,A4]at v1 v2;obtain⟨⟨_,b1⟩,c1⟩:=v1;obtain⟨⟨_,b2⟩,c2⟩:=v2;unfold okPart at b1 b2 c1 c2;show r.ver=o.ver;have e2:r.ver.b=o.ver.b:=Wk
  have e3:r.ver.c=o.ver.c:=Wk
  cases hr:r.ver;cases ho:o.ver<;>simp_all
theorem cI(h0:Aw x=0)(v:WH):∀(x' : List Rl),(∀o∈x',o∈x)->∀K:List Sk,DM d v x' K=match N8 d v.before v.rel.path (Gq x v.rel.path) (Dm x' v.needs v.rel.path (plc v.rel.ver)) K with | some K'=>(K',true) | none=>([],false)
 | [],_,K=>rfl
 |o::x',hm,K=>by
  have ih:=cI h0 v x' (fun o h=>hm o (Aj _ h));have hs:Dm (o::x') v.needs v.rel.path (plc v.rel.ver)=if JC v.needs v.rel.path (plc v.rel.ver) o then plc o.ver::Dm x' v.needs v.rel.path (plc v.rel.ver)else Dm x' v.needs v.rel.path (plc v.rel.ver):=by
   grind [Dm]
  rw[hs,RV]
  by_cases hq:JC v.needs v.rel.path (plc v.rel.ver) o=true
  .rw[A1 hq];unfold JC at hq;simp only[Aq,A4,EY]at hq;obtain⟨⟨⟨q1,q2⟩,q3⟩,q4⟩:=hq;rw[AL aa0,AL (by grind [HS])];have hv:=xT h0 (hm o (Ah ..));rw[q1]at hv;cases K with
   |nil=>rfl
   |cons y K=>
    show(if(!decide (y.path=v.rel.path)||!decide (y.place=plc o.ver))=true then([],false)else match DU d y.inf with | none=>([],false) | some t=>if Bq t (v.before++[Cr o])then DM d v x' K else([],false))=match(if y.path=v.rel.path/\y.place=plc o.ver then match DU d y.inf with | none=>none | some t=>if Bq t (v.before++[⟨v.rel.path,Gq x v.rel.path (plc o.ver)⟩])then N8 d v.before v.rel.path (Gq x v.rel.path) (Dm x' v.needs v.rel.path (plc v.rel.ver)) K else none else none)with | some K'=>(K',true) | none=>([],false)
    grind [Cr]
  grind [JC,HS]
theorem XZ{s:List Sl}:∀{n:Nat} {before:List Sl},∀i v,(Ef x s n before (B3 x roots before)).1[i]?=some v->v.before=before++((Ef x s n before (B3 x roots before)).1.take i).map F1/\v.needs=B3 x roots v.before/\AW x (F1 v)=some v.rel
 |0,_,i,v,h=>by grind [Ef]
 |n+1,before,i,v,h=>by
  unfold Ef at h⊢;cases hp:DH (B3 x roots before) before with
  |none=>simp_all
  |some p=>
   rw[hp]at h;dsimp only at h⊢;cases hf:AE s p with
   |none=>simp_all
   |some y=>
    rw[hf]at h;dsimp only at h⊢;cases hr:AW x y with
    |none=>simp_all
    |some r=>
     rw[hr]at h;dsimp only at h⊢;have hk:Cr r=y:=(Ce hr).2.2;have e:B3 x roots before++r.reqs=B3 x roots (before++[y]):=by grind [Pi,Hq]
     rw[e]at h⊢;cases i with
     |zero=>
      grind
     |succ i=>
      rw[TS]at h;obtain⟨h1,h2,h3⟩:=XZ (n:=n) (before:=before++[y]) i v h<;>simp_all
theorem UC{s:List Sl}(h0:Aw x=0){V:List WH}(hV:V=(visits x roots s).1)(K:List Sk):∀i,i<=V.length ->
  match Gw x roots d (V.map F1) K i with
  |some K'=>(V.take i).foldl (Cf x d) (true,K)=((V.take i).all (fun v=>!v.rel.yanked),K')
  |none=>((V.take i).foldl (Cf x d) (true,K)).1=false
 |0,_=>rfl
 |i+1,hi=>by
  have ih:=UC h0 hV K i Wk;have E4:i<V.length:=Wk
  have ht:V.take (i+1)=V.take i++[V[i]]:=aa0
  have hva:=XZ (x:=x) (roots:=roots) (s:=s) (n:=s.length+1) (before:=[]) i V[i] (by
   grind [LW,visits])
  rw[LW]at hva;obtain⟨v1,v2,v3⟩:=hva;have v1:V[i].before=(V.map F1).take i:=by
   grind [List.map_take,visits]
  have hD:(V.map F1)[i]?=some (F1 V[i]):=aa2
  rw[ht,List.foldl_append];show match(Gw x roots d (V.map F1) K i).bind (Uo x roots d (V.map F1) i)with
   |some K'=>Cf x d ((V.take i).foldl (Cf x d) (true,K)) V[i]=((V.take i++[V[i]]).all (fun v=>!v.rel.yanked),K')
   |none=>(Cf x d ((V.take i).foldl (Cf x d) (true,K)) V[i]).1=false
  cases hn:Gw x roots d (V.map F1) K i with
  |none=>
   rw[hn]at ih;show(((V.take i).foldl (Cf x d) (true,K)).1&&_&&_)=false;simp_all
  |some K'=>
   rw[hn]at ih;have ih:(V.take i).foldl (Cf x d) (true,K)=((V.take i).all (fun v=>!v.rel.yanked),K'):=ih;have he:Uo x roots d (V.map F1) i K'=N8 d V[i].before V[i].rel.path (Gq x V[i].rel.path) (Dm x V[i].needs V[i].rel.path (plc V[i].rel.ver)) K':=by
    unfold Uo;rw[hD,v2,v1]
    rfl
   have hs:=cI (d:=d) h0 V[i] x (fun _ h=>h) K';rw[<-he]at hs;rw[ih];show match Uo x roots d (V.map F1) i K' with
    |some K2=>(((V.take i).all (fun v=>!v.rel.yanked)&&(DM d V[i] x K').2&&!V[i].rel.yanked),(DM d V[i] x K').1)=((V.take i++[V[i]]).all (fun v=>!v.rel.yanked),K2)
    |none=>((V.take i).all (fun v=>!v.rel.yanked)&&(DM d V[i] x K').2&&!V[i].rel.yanked)=false
   grind
theorem cB{s:List Sl}{K:List Sk}(hr:AK roots=0)(hs:Do x roots s=0) :
  (((visits x roots s).1.foldl (Cf x d) (true,K)).1&&((visits x roots s).1.foldl (Cf x d) (true,K)).2.isEmpty)=(s.all (Hl x)&&(decide ((Eu x roots s).2=0)&&L7 x roots d (Eu x roots s).1 K)):=by
 obtain⟨l,hl⟩:=VW hs;have hv:=hl.visits;have hd:Eu x roots s=((visits x roots s).1.map F1,0):=by
  grind [Eu,KY.ix,KY.inc]
 have hf:=UC (d:=d) hl.ix (s:=s) rfl K (visits x roots s).1.length (Ao _);rw[Hu]at hf;have GI:s.all (Hl x)=(visits x roots s).1.all fun v=>!v.rel.yanked:=by
  have CL:=IS hv;rw[CI,AS,AS];constructor
  .intro h v hm;obtain⟨m1,m2⟩:=CL.mem v hm<;>grind [Hl]
  grind [Hl,KY.all,qN.mem]
 grind [L7]
end
end Go.Eng
