/- Lemmas 28. -/
import Derived.Test.YtkjhcikodmiceaaGreatDoorVA27
set_option maxHeartbeats 4000000
namespace Go.Eng
open Go.Proofs Go.Proofs.Tryz
variable {α:Type}{f:α->Bool}{a b:CS}{l:List α}
theorem gw(p:CS)(hp:Fl p):PC 60 [vs p] (match AT p with | none=>.tup [vs ⟨#[]⟩,vi 0,vi 4] | some m=>.tup [vs (UA p),vi m,vi 0]):=by
 have q:=w9 p hp;unfold WN at q;cases e:AT p with
 |none=>rw[e]at q;exact q
 |some m=>rw[e]at q;exact q
theorem M7(h:∀j (hj:j<l.length),f l[j]=true):l.all f=true:=A0.2 fun e he=>by
 obtain⟨j,hj,rfl⟩:=Dn.1 he;exact h j hj
theorem EI{j:Nat}(hj:j<l.length)(h:f l[j]=false):¬l.all f=true:=fun c=>by
 have q:=A0.1 c _ (Ah hj);rw[h]at q;cases q
theorem vT(l:Lk)(Sw:∀q∈l.roots,IE q)(qm:∀e∈l.ents,Fl e.path)(ki:l.ents.length<=1000000)(sA:l.infs.length<=1000000)(Uh:l.skips.length<=1000000):PC 26 [.agg (Do l)] (vi (if CH l=true then 0 else 1)):=by
 refine Ps (pC [1] [3,10,16]) func26 rfl (Nz rfl) (C1 (C2 (c68 iy lN l.roots Sw) (Yi (fun h1=>?_) (fun h1=>?_))))
 .have h1:((AH l.roots):Int)≠(0:Int):=h1;exact Cj.of_eq (Aa vi (show 1=if CH l=true then 0 else 1 by rw[CK (fun c=>h1 c.1)];rfl))
 have h1:((AH l.roots):Int)=(0:Int):=Aw h1;refine Yi (fun h3=>?_) (fun h3=>?_)
 .have h3:(1024:Int)<((l.ents.map Cz).length:Int):=h3;have n3:1024<l.ents.length:=by have q:=h3;rw[Lm]at q;omega
  exact Cj.of_eq (Aa vi (show 1=if CH l=true then 0 else 1 by rw[CK (fun c=>absurd c.2.1 (by have q:=h3;rw[Lm]at q;omega))];rfl))
 have h3:¬((1024:Int)<((l.ents.map Cz).length:Int)):=h3;have n3:¬1024<l.ents.length:=by have q:=h3;rw[Lm]at q;omega
 refine Yi (fun h5=>?_) (fun h5=>?_)
 .have h5:(65536:Int)<((l.infs.map AG).length:Int):=h5;have n5:65536<l.infs.length:=by have q:=h5;rw[Lm]at q;omega
  exact Cj.of_eq (Aa vi (show 1=if CH l=true then 0 else 1 by rw[CK (fun c=>absurd c.2.2.1 (by have q:=h5;rw[Lm]at q;omega))];rfl))
 have h5:¬((65536:Int)<((l.infs.map AG).length:Int)):=h5;have n5:¬65536<l.infs.length:=by have q:=h5;rw[Lm]at q;omega
 refine Yi (fun h7=>?_) (fun h7=>?_)
 .have h7:(65536:Int)<((l.skips.map AB).length:Int):=h7;have n7:65536<l.skips.length:=by have q:=h7;rw[Lm]at q;omega
  exact Cj.of_eq (Aa vi (show 1=if CH l=true then 0 else 1 by rw[CK (fun c=>absurd c.2.2.2.1 (by have q:=h7;rw[Lm]at q;omega))];rfl))
 have h7:¬((65536:Int)<((l.skips.map AB).length:Int)):=h7;have n7:¬65536<l.skips.length:=by have q:=h7;rw[Lm]at q;omega
 refine yN (C1 (C2 (dT l ki) (Ax (Bt (Bb (Hl l))) (fun h9=>?_) (fun h9=>?_))))
 .have h9:(Bb (Hl l))=true:=h9;refine C1 (C2 (cb h9 (v8 (Hl l) (by show(l.ents.map DA).length<=_;rw[Lm];omega))) (cU [(1,.ref 1 0)] [(1,.ro (Do l))] Z1 Z1 (Xi {q:Nat // q<=l.ents.length/\∀j (h:j<l.ents.length),j<q->HP l.ents[j]=true} (Xi (fun q=>⟨[(1,.ref 1 0),(3,vi q.1)],[(1,.ro (Do l))],Af⟩) (Xi (fun q=>l.ents.length-q.1) (Yi (Xi ⟨0,Al _,fun j _ h=>absurd h (Cf _)⟩ ?_) ?_))))))
  .exact⟨Z2,Z1,Fh,Tv⟩
  intro⟨i,i1,i2⟩;have i1:i<=l.ents.length:=i1;have i2:∀j (h:j<l.ents.length),j<i->HP l.ents[j]=true:=i2;refine Yi (fun HQ=>?_) (fun HQ=>?_)
  .have HQ:(i:Int)<((l.ents.map Cz).length:Int):=HQ;have n10:=Ha HQ;refine Xi (Cz l.ents[i]) (Yi (I0 n10) (Yi rfl (yN (yN (Ax (CO (AT l.ents[i].path)) (fun F2=>?_) (fun F2=>?_))))))
   .refine Ao F2 (fun mj F2=>?_);have T9:=(gw l.ents[i].path (qm _ (Ah n10)));rw[F2]at T9;refine C1 (C2 T9 (Yi (fun h=>absurd h aa1) (fun _=>?_)));refine yN (Ax (Bt (By l.ents[i].ver)) (fun Hr=>?_) (fun Hr=>?_))
    .have Hr:(By l.ents[i].ver)=true:=Hr;refine C1 (C2 (cb Hr (pq l.ents[i].ver)) (Yi (fun Lr=>?_) (fun Lr=>?_)))
     .have Lr:(l.ents[i].ver.a:Int)≠(mj:Int):=Lr;have eV:HP l.ents[i]=false:=by rw[HP,show AT l.ents[i].path=some mj from F2,Aq (fun e=>Lr (DU e).symm)];rfl
      exact Cj.of_eq (Aa vi (show 1=if CH l=true then 0 else 1 by rw[CK (fun c=>EI n10 eV c.2.2.2.2.1.2)];rfl))
     have Lr:(l.ents[i].ver.a:Int)=(mj:Int):=Aw Lr;refine Ax (Bt (CI l.ents[i].arch)) (fun Hi=>?_) (fun Hi=>?_)
     .have Hi:(CI l.ents[i].arch)=true:=Hi;refine C1 (C2 (cb Hi (gv l.ents[i].arch)) (Ax (Bt (CI l.ents[i].ifc)) (fun Mx=>?_) (fun Mx=>?_)))
      .have Mx:(CI l.ents[i].ifc)=true:=Mx;refine C1 (C2 (cb Mx (gv l.ents[i].ifc)) (Yi (Ii i Wk) ?_));have eV:HP l.ents[i]=true:=by rw[HP,show AT l.ents[i].path=some mj from F2,Av (Aa some (show mj=l.ents[i].ver.a from Lr.symm)),Hr,Hi,Mx];rfl
       refine Xi ⟨i+1,n10,fun j hj h=>by rcases BR j i with h2 | h2;exact i2 j hj h2;have e:j=i:=Wk;subst e;exact eV⟩ ?_;exact⟨Dl l.ents.length i Wk,Z2,Z1,Fh,Tv⟩
      have Mx:(CI l.ents[i].ifc)=false:=Mx;refine C1 (C2 (cb Mx (gv l.ents[i].ifc)) ?_);have eV:HP l.ents[i]=false:=by rw[HP,show AT l.ents[i].path=some mj from F2,Av (Aa some (show mj=l.ents[i].ver.a from Lr.symm)),Hr,Hi,Mx];rfl
      exact Cj.of_eq (Aa vi (show 1=if CH l=true then 0 else 1 by rw[CK (fun c=>EI n10 eV c.2.2.2.2.1.2)];rfl))
     have Hi:(CI l.ents[i].arch)=false:=Hi;refine C1 (C2 (cb Hi (gv l.ents[i].arch)) ?_);have eV:HP l.ents[i]=false:=by rw[HP,show AT l.ents[i].path=some mj from F2,Av (Aa some (show mj=l.ents[i].ver.a from Lr.symm)),Hr,Hi];rfl
     exact Cj.of_eq (Aa vi (show 1=if CH l=true then 0 else 1 by rw[CK (fun c=>EI n10 eV c.2.2.2.2.1.2)];rfl))
    have Hr:(By l.ents[i].ver)=false:=Hr;refine C1 (C2 (cb Hr (pq l.ents[i].ver)) ?_);have eV:HP l.ents[i]=false:=by rw[HP,Hr];simp
    exact Cj.of_eq (Aa vi (show 1=if CH l=true then 0 else 1 by rw[CK (fun c=>EI n10 eV c.2.2.2.2.1.2)];rfl))
   have T9:=(gw l.ents[i].path (qm _ (Ah n10)));rw[F2]at T9;refine C1 (C2 T9 (Yi (fun _=>?_) (fun h=>absurd aa1 h)));have eV:HP l.ents[i]=false:=by rw[HP,show AT l.ents[i].path=none from F2];rfl
   exact Cj.of_eq (Aa vi (show 1=if CH l=true then 0 else 1 by rw[CK (fun c=>EI n10 eV c.2.2.2.2.1.2)];rfl))
  have HQ:¬((i:Int)<((l.ents.map Cz).length:Int)):=HQ;have n10:=Et HQ;refine cU [(1,.ref 1 0)] [(1,.ro (Do l))] Z1 Z1 (Xi {q:Nat // q<=l.infs.length/\∀j (h:j<l.infs.length),j<q->OK l.infs[j]=true} (Xi (fun q=>⟨[(1,.ref 1 0),(8,vi q.1)],[(1,.ro (Do l))],Af⟩) (Xi (fun q=>l.infs.length-q.1) (Yi (Xi ⟨0,Al _,fun j _ h=>absurd h (Cf _)⟩ ?_) ?_))))
  .exact⟨Z2,Z1,Fh,Tv⟩
  intro⟨k,k1,k2⟩;have k1:k<=l.infs.length:=k1;have k2:∀j (h:j<l.infs.length),j<k->OK l.infs[j]=true:=k2;refine Yi (fun Qw=>?_) (fun Qw=>?_)
  .have Qw:(k:Int)<((l.infs.map AG).length:Int):=Qw;have n22:=Ha Qw;refine Xi (AG l.infs[k]) (Yi (I0 n22) (Yi rfl (yN (yN (Yi (fun cI=>?_) (fun cI=>?_))))))
   .have cI:(l.infs[k].kind:Int)<(0:Int):=cI;have eV:OK l.infs[k]=false:=by unfold OK;exact Aq (fun c=>by have q:=cI;omega)
    exact Cj.of_eq (Aa vi (show 1=if CH l=true then 0 else 1 by rw[CK (fun c=>EI n22 eV c.2.2.2.2.2.1)];rfl))
   have cI:¬((l.infs[k].kind:Int)<(0:Int)):=cI;refine Yi (fun RS=>?_) (fun RS=>?_)
   .have RS:(3:Int)<(l.infs[k].kind:Int):=RS;have eV:OK l.infs[k]=false:=by unfold OK;exact Aq (fun c=>by have q:=RS;omega)
    exact Cj.of_eq (Aa vi (show 1=if CH l=true then 0 else 1 by rw[CK (fun c=>EI n22 eV c.2.2.2.2.2.1)];rfl))
   have RS:¬((3:Int)<(l.infs[k].kind:Int)):=RS;refine Yi (fun My=>?_) (fun My=>?_)
   .have My:(64:Int)<(l.infs[k].path.size:Int):=My;have eV:OK l.infs[k]=false:=by unfold OK;exact Aq (fun c=>by have q:=My;omega)
    exact Cj.of_eq (Aa vi (show 1=if CH l=true then 0 else 1 by rw[CK (fun c=>EI n22 eV c.2.2.2.2.2.1)];rfl))
   have My:¬((64:Int)<(l.infs[k].path.size:Int)):=My;refine Yi (fun Vs=>?_) (fun Vs=>?_)
   .have Vs:(l.infs[k].place:Int)<(0:Int):=Vs;have eV:OK l.infs[k]=false:=by unfold OK;exact Aq (fun c=>by have q:=Vs;omega)
    exact Cj.of_eq (Aa vi (show 1=if CH l=true then 0 else 1 by rw[CK (fun c=>EI n22 eV c.2.2.2.2.2.1)];rfl))
   have Vs:¬((l.infs[k].place:Int)<(0:Int)):=Vs;refine Yi (fun XZ=>?_) (fun XZ=>?_)
   .have XZ:(l.infs[k].number:Int)<(0:Int):=XZ;have eV:OK l.infs[k]=false:=by unfold OK;exact Aq (fun c=>by have q:=XZ;omega)
    exact Cj.of_eq (Aa vi (show 1=if CH l=true then 0 else 1 by rw[CK (fun c=>EI n22 eV c.2.2.2.2.2.1)];rfl))
   have XZ:¬((l.infs[k].number:Int)<(0:Int)):=XZ;refine Yi (fun SI=>?_) (fun SI=>?_)
   .have SI:(l.infs[k].left:Int)<(0:Int):=SI;have eV:OK l.infs[k]=false:=by unfold OK;exact Aq (fun c=>by have q:=SI;omega)
    exact Cj.of_eq (Aa vi (show 1=if CH l=true then 0 else 1 by rw[CK (fun c=>EI n22 eV c.2.2.2.2.2.1)];rfl))
   have SI:¬((l.infs[k].left:Int)<(0:Int)):=SI;refine Yi (fun VH=>?_) (fun VH=>?_)
   .have VH:(l.infs[k].right:Int)<(0:Int):=VH;have eV:OK l.infs[k]=false:=by unfold OK;exact Aq (fun c=>by have q:=VH;omega)
    exact Cj.of_eq (Aa vi (show 1=if CH l=true then 0 else 1 by rw[CK (fun c=>EI n22 eV c.2.2.2.2.2.1)];rfl))
   have VH:¬((l.infs[k].right:Int)<(0:Int)):=VH;refine Yi (Ii k Wk) ?_;have eV:OK l.infs[k]=true:=by unfold OK;exact Av (by have q0:=cI;have q1:=RS;have q2:=My;have q3:=Vs;have q4:=XZ;have q5:=SI;have q6:=VH;omega)
   refine Xi ⟨k+1,n22,fun j hj h=>by rcases BR j k with h2 | h2;exact k2 j hj h2;have e:j=k:=Wk;subst e;exact eV⟩ ?_;exact⟨Dl l.infs.length k Wk,Z2,Z1,Fh,Tv⟩
  have Qw:¬((k:Int)<((l.infs.map AG).length:Int)):=Qw;have n22:=Et Qw;refine cU [(1,.ref 1 0)] [(1,.ro (Do l))] Z1 Z1 (Xi {q:Nat // q<=l.skips.length/\∀j (h:j<l.skips.length),j<q->OO l.skips[j]=true} (Xi (fun q=>⟨[(1,.ref 1 0),(10,vi q.1)],[(1,.ro (Do l))],Af⟩) (Xi (fun q=>l.skips.length-q.1) (Yi (Xi ⟨0,Al _,fun j _ h=>absurd h (Cf _)⟩ ?_) ?_))))
  .exact⟨Z2,Z1,Fh,Tv⟩
  intro⟨m,m1,m2⟩;have m1:m<=l.skips.length:=m1;have m2:∀j (h:j<l.skips.length),j<m->OO l.skips[j]=true:=m2;refine Yi (fun SJ=>?_) (fun SJ=>?_)
  .have SJ:(m:Int)<((l.skips.map AB).length:Int):=SJ;have n38:=Ha SJ;refine Xi (AB l.skips[m]) (Yi (I0 n38) (Yi rfl (yN (yN (Yi (fun iz=>?_) (fun iz=>?_))))))
   .have iz:(64:Int)<(l.skips[m].path.size:Int):=iz;have eV:OO l.skips[m]=false:=by unfold OO;exact Aq (fun c=>by have q:=iz;omega)
    exact Cj.of_eq (Aa vi (show 1=if CH l=true then 0 else 1 by rw[CK (fun c=>EI n38 eV c.2.2.2.2.2.2)];rfl))
   have iz:¬((64:Int)<(l.skips[m].path.size:Int)):=iz;refine Yi (fun ui=>?_) (fun ui=>?_)
   .have ui:(l.skips[m].place:Int)<(0:Int):=ui;have eV:OO l.skips[m]=false:=by unfold OO;exact Aq (fun c=>by have q:=ui;omega)
    exact Cj.of_eq (Aa vi (show 1=if CH l=true then 0 else 1 by rw[CK (fun c=>EI n38 eV c.2.2.2.2.2.2)];rfl))
   have ui:¬((l.skips[m].place:Int)<(0:Int)):=ui;refine Yi (fun cK=>?_) (fun cK=>?_)
   .have cK:(l.skips[m].inf:Int)<(0:Int):=cK;have eV:OO l.skips[m]=false:=by unfold OO;exact Aq (fun c=>by have q:=cK;omega)
    exact Cj.of_eq (Aa vi (show 1=if CH l=true then 0 else 1 by rw[CK (fun c=>EI n38 eV c.2.2.2.2.2.2)];rfl))
   have cK:¬((l.skips[m].inf:Int)<(0:Int)):=cK;refine Yi (Ii m Wk) ?_;have eV:OO l.skips[m]=true:=by unfold OO;exact Av (by have q0:=iz;have q1:=ui;have q2:=cK;omega)
   refine Xi ⟨m+1,n38,fun j hj h=>by rcases BR j m with h2 | h2;exact m2 j hj h2;have e:j=m:=Wk;subst e;exact eV⟩ ?_;exact⟨Dl l.skips.length m Wk,Z2,Z1,Fh,Tv⟩
  have SJ:¬((m:Int)<((l.skips.map AB).length:Int)):=SJ;have n38:=Et SJ;have eF:CH l=true:=(TZ h1 (by have q:=h3;rw[Lm]at q;omega) (by have q:=h5;rw[Lm]at q;omega) (by have q:=h7;rw[Lm]at q;omega) ⟨h9,(M7 fun j hj=>i2 j hj (AM hj (BF (Et HQ))))⟩ (M7 fun j hj=>k2 j hj (AM hj (BF (Et Qw))))).trans (M7 fun j hj=>m2 j hj (AM hj (BF (Et SJ))));exact Cj.of_eq (Aa vi (show 0=if CH l=true then 0 else 1 by rw[eF];rfl))
 have h9:(Bb (Hl l))=false:=h9;refine C1 (C2 (cb h9 (v8 (Hl l) (by show(l.ents.map DA).length<=_;rw[Lm];omega))) ?_);exact Cj.of_eq (Aa vi (show 1=if CH l=true then 0 else 1 by rw[CK (fun c=>by have q:=h9;rw[c.2.2.2.2.1.1]at q;cases q)];rfl))
theorem PA{b:Bool}(h:(if b=true then(0:Int)else 1)=0):b=true:=by cases b;exact absurd h aa1;rfl
theorem vV(x:List Rl)(ifs:C0)(l:Lk)(_:∀r∈x,Fk r)(_:BO x)(h47:PC 44 [.agg (Ic x ifs)] (vi (At x)))(sf:∀p v,PC 45 [.agg (Ic x ifs),vs p,.agg (Ej v)] (G5 (AY x ⟨p,v⟩)))(h48:PC 26 [.agg (Do l)] (vi (if CH l=true then 0 else 1)))(qa:PC 46 [.agg (Ic x ifs),sl Ad l.roots,.agg [vb true,sl Ae (Hl l),sl AG l.infs,sl AB l.skips]] (vi (Dk x l.roots (KD l))))(ki:l.ents.length<=1000000):PC 16 [.agg (Ic x ifs),.agg (Do l)] (vi (VV x l)):=by
 refine Ps (pC [2,3] []) func16 rfl (Nz rfl) (yN (C1 (C2 h47 (Yi (fun h1=>?_) (fun h1=>?_)))))
 .have h1:((At x):Int)≠(0:Int):=h1;exact Cj.of_eq (Aa vi (rY (fun c=>h1 c.1)))
 have h1:((At x):Int)=(0:Int):=Aw h1;refine yN (C1 (C2 h48 (Yi (fun h3=>?_) (fun h3=>?_))))
 .have h3:((if CH l=true then 0 else 1):Int)≠(0:Int):=h3;exact Cj.of_eq (Aa vi (rY (fun c=>h3 (by rw[c.2];rfl))))
 have h3:((if CH l=true then 0 else 1):Int)=(0:Int):=Aw h3;refine Xi {q:Nat // q<=l.ents.length/\(∀j (hj:j<l.ents.length),j<q->(AY x (DA l.ents[j])).isSome=true)} (Xi (fun q=>⟨[(2,.ref 2 0),(3,.ref 3 0),(5,vi q.1)],[(2,.ro (Ic x ifs)),(3,.ro (Do l))],Af⟩) (Xi (fun q=>l.ents.length-q.1) (Yi (Xi ⟨0,Al _,fun j _ h=>absurd h (Cf _)⟩ ?_) ?_)))
 .exact⟨Z3,Z2,Fh,Tv⟩
 intro⟨i,i1,i2⟩;have i1:i<=l.ents.length:=i1;have i2:∀j (hj:j<l.ents.length),j<i->(AY x (DA l.ents[j])).isSome=true:=i2;refine Yi (fun h5=>?_) (fun h5=>?_)
 .have h5:(i:Int)<((l.ents.map Cz).length:Int):=h5;have n5:=Ha h5;refine yN (Xi (Cz l.ents[i]) (Yi (I0 n5) (Yi rfl (Xi (Cz l.ents[i]) (Yi (I0 n5) (Yi rfl (yN (Ax (CO (AY x ⟨l.ents[i].path,l.ents[i].ver⟩)) (fun h6=>?_) (fun h6=>?_)))))))))
  .refine Ao h6 (fun r h6=>?_);have Ub:=(sf l.ents[i].path l.ents[i].ver);rw[h6]at Ub;refine C2 Ub (yN (Yi aa2 (Yi (Ii i Wk) (Xi ⟨i+1,n5,fun j hj h=>by rcases BR j i with h2 | h2;exact i2 j hj h2;have e:j=i:=Wk;subst e;rw[h6];rfl⟩ ?_))));exact⟨Dl l.ents.length i Wk,Z3,Z2,Fh,Tv⟩
  have Ub:=(sf l.ents[i].path l.ents[i].ver);rw[h6]at Ub;refine C2 Ub (yN (Yi aa2 ?_));exact Cj.of_eq (Aa vi (Aa0 h1 (PA h3) n5 h6))
 have h5:¬((i:Int)<((l.ents.map Cz).length:Int)):=h5;have n5:=Et h5;have i3:∀j (hj:j<l.ents.length),(AY x (DA l.ents[j])).isSome=true:=fun j hj=>i2 j hj (AM hj (BF (Et h5)));refine Xi {q:Nat // q<=l.ents.length/\(∀j (hj:j<l.ents.length),j<q->JF x l.ents[j]=true)} (Xi (fun q=>⟨[(2,.ref 2 0),(3,.ref 3 0),(8,vi q.1)],[(2,.ro (Ic x ifs)),(3,.ro (Do l))],Af⟩) (Xi (fun q=>l.ents.length-q.1) (Yi (Xi ⟨0,Al _,fun j _ h=>absurd h (Cf _)⟩ ?_) ?_)))
 .exact⟨Z3,Z2,Fh,Tv⟩
 intro⟨k,k1,k2⟩;have k1:k<=l.ents.length:=k1;have k2:∀j (hj:j<l.ents.length),j<k->JF x l.ents[j]=true:=k2;refine Yi (fun h9=>?_) (fun h9=>?_)
 .have h9:(k:Int)<((l.ents.map Cz).length:Int):=h9;have n9:=Ha h9;obtain⟨r,hr⟩:=JD.1 (i3 k n9);refine yN (Xi (Cz l.ents[k]) (Yi (I0 n9) (Yi rfl (Xi (Cz l.ents[k]) (Yi (I0 n9) (Yi rfl (yN ?_)))))));have MA:=(sf l.ents[k].path l.ents[k].ver);rw[(show AY x ⟨l.ents[k].path,l.ents[k].ver⟩=some r from hr)]at MA;refine C2 MA (yN (Yi aa2 (Xi (Cz l.ents[k]) (Yi (I0 n9) (Yi rfl (Yi (fun Hr=>?_) (fun Hr=>?_)))))))
  .have Hr:(r.arch:CS)≠l.ents[k].arch:=Hr;refine Yi aa2 ?_;have eA:JF x l.ents[k]=false:=by rw[V5 (i3 k n9),Yt hr,Aq (fun e=>Hr e.symm)];rfl
   exact Cj.of_eq (Aa vi (rZ h1 (PA h3) i3 n9 eA))
  have Hr:(r.arch:CS)=l.ents[k].arch:=Aw Hr;refine Xi (Cz l.ents[k]) (Yi (I0 n9) (Yi rfl (Yi (fun Hi=>?_) (fun Hi=>?_))))
  .have Hi:(r.ifc:CS)≠l.ents[k].ifc:=Hi;refine Yi aa2 ?_;have eA:JF x l.ents[k]=false:=by rw[V5 (i3 k n9),Yt hr,Av Hr.symm,Aq (fun e=>Hi e.symm)];rfl
   exact Cj.of_eq (Aa vi (rZ h1 (PA h3) i3 n9 eA))
  have Hi:(r.ifc:CS)=l.ents[k].ifc:=Aw Hi;refine Yi aa2 (Yi (Ii k Wk) ?_);have eA:JF x l.ents[k]=true:=by rw[V5 (i3 k n9),Yt hr,Av Hr.symm,Av Hi.symm];rfl
  refine Xi ⟨k+1,n9,fun j hj h=>by rcases BR j k with h2 | h2;exact k2 j hj h2;have e:j=k:=Wk;subst e;exact eA⟩ ?_;exact⟨Dl l.ents.length k Wk,Z3,Z2,Fh,Tv⟩
 have h9:¬((k:Int)<((l.ents.map Cz).length:Int)):=h9;have n9:=Et h9;refine yN (yN (C2 (dT l ki) (C2 qa (Yi (fun SH=>?_) (fun SH=>?_)))))
 .have SH:((Dk x l.roots (KD l)):Int)≠(0:Int):=SH;refine Yi aa2 ?_;exact Cj.of_eq (Aa vi (show 18=VV x l by rw[rX h1 (PA h3) i3 (fun j hj=>k2 j hj (AM hj (BF (Et h9)))),A3 SH]))
 have SH:((Dk x l.roots (KD l)):Int)=(0:Int):=Aw SH;refine Yi aa2 ?_;exact Cj.of_eq (Aa vi (show 0=VV x l by rw[rX h1 (PA h3) i3 (fun j hj=>k2 j hj (AM hj (BF (Et h9)))),AN (fun h=>h SH)]))
def kc(e:Lo):Bool:=decide (e.path.size<=100/\e.arch.size<=100/\e.ifc.size<=100)
def vg(i:Nf):Bool:=decide (i.path.size<=100)
def dK(s:Sk):Bool:=decide (s.path.size<=100)
structure LU(l:Lk):Prop where
 en:l.ents.all kc=true
 nf:l.infs.all vg=true
 sk:l.skips.all dK=true
 rq:Dy l.roots=true
 el:l.ents.length<=16
 il:l.infs.length<=300
 kl:l.skips.length<=100
open Classical in
noncomputable def NU(l:Lk):Bool:=decide (LU l)
open Classical in
theorem Lj{l:Lk}(h:¬LU l):false=NU l:=by unfold NU;exact(Aq h).symm
open Classical in
theorem pV{l:Lk}(h:LU l):true=NU l:=by unfold NU;exact(Av h).symm
theorem Aa3(l:Lk)(ki:l.ents.length<=1073741824)(sA:l.infs.length<=1073741824)(Uh:l.skips.length<=1073741824)(hrl:l.roots.length<=1073741824):PC 17 [.agg (Do l)] (vb (NU l)):=by
 refine Ps (pC [1] [6,11,16]) func17 rfl (Nz rfl) (Xi {q:Nat // q<=l.ents.length/\∀j (h:j<l.ents.length),j<q->kc l.ents[j]=true} (Xi (fun q=>⟨[(1,.ref 1 0),(3,vi q.1)],[(1,.ro (Do l))],Af⟩) (Xi (fun q=>l.ents.length-q.1) (Yi (Xi ⟨0,Al _,fun j _ h=>absurd h (Cf _)⟩ ?_) ?_))))
 .exact⟨Z2,Z1,Fh,Tv⟩
 intro⟨i,i1,i2⟩;have i1:i<=l.ents.length:=i1;have i2:∀j (h:j<l.ents.length),j<i->kc l.ents[j]=true:=i2;refine Yi (fun h1=>?_) (fun h1=>?_)
 .have h1:(i:Int)<((l.ents.map Cz).length:Int):=h1;have n1:=Ha h1;refine Xi (Cz l.ents[i]) (Yi (I0 n1) (Yi rfl (Yi (fun h2=>?_) (fun h2=>?_))))
  .have h2:(100:Int)<(l.ents[i].path.size:Int):=h2;have eV:kc l.ents[i]=false:=by unfold kc;exact Aq (fun c=>by have q:=h2;omega)
   exact Cj.of_eq (Aa vb (Lj (fun c=>EI n1 eV c.en)))
  have h2:¬((100:Int)<(l.ents[i].path.size:Int)):=h2;refine Xi (Cz l.ents[i]) (Yi (I0 n1) (Yi rfl (Yi (fun h4=>?_) (fun h4=>?_))))
  .have h4:(100:Int)<(l.ents[i].arch.size:Int):=h4;have eV:kc l.ents[i]=false:=by unfold kc;exact Aq (fun c=>by have q:=h4;omega)
   exact Cj.of_eq (Aa vb (Lj (fun c=>EI n1 eV c.en)))
  have h4:¬((100:Int)<(l.ents[i].arch.size:Int)):=h4;refine Xi (Cz l.ents[i]) (Yi (I0 n1) (Yi rfl (Yi (fun h6=>?_) (fun h6=>?_))))
  .have h6:(100:Int)<(l.ents[i].ifc.size:Int):=h6;have eV:kc l.ents[i]=false:=by unfold kc;exact Aq (fun c=>by have q:=h6;omega)
   exact Cj.of_eq (Aa vb (Lj (fun c=>EI n1 eV c.en)))
  have h6:¬((100:Int)<(l.ents[i].ifc.size:Int)):=h6;refine Yi (Ii i Wk) ?_;have eV:kc l.ents[i]=true:=by unfold kc;exact Av (by have q0:=h2;have q1:=h4;have q2:=h6;omega)
  refine Xi ⟨i+1,n1,fun j hj h=>by rcases BR j i with h2 | h2;exact i2 j hj h2;have e:j=i:=Wk;subst e;exact eV⟩ ?_;exact⟨Dl l.ents.length i Wk,Z2,Z1,Fh,Tv⟩
 have h1:¬((i:Int)<((l.ents.map Cz).length:Int)):=h1;have n1:=Et h1;refine cU [(1,.ref 1 0)] [(1,.ro (Do l))] Z1 Z1 (Xi {q:Nat // q<=l.infs.length/\∀j (h:j<l.infs.length),j<q->vg l.infs[j]=true} (Xi (fun q=>⟨[(1,.ref 1 0),(4,vi q.1)],[(1,.ro (Do l))],Af⟩) (Xi (fun q=>l.infs.length-q.1) (Yi (Xi ⟨0,Al _,fun j _ h=>absurd h (Cf _)⟩ ?_) ?_))))
 .exact⟨Z2,Z1,Fh,Tv⟩
 intro⟨k,k1,k2⟩;have k1:k<=l.infs.length:=k1;have k2:∀j (h:j<l.infs.length),j<k->vg l.infs[j]=true:=k2;refine Yi (fun h9=>?_) (fun h9=>?_)
 .have h9:(k:Int)<((l.infs.map AG).length:Int):=h9;have n9:=Ha h9;refine Xi (AG l.infs[k]) (Yi (I0 n9) (Yi rfl (Yi (fun HQ=>?_) (fun HQ=>?_))))
  .have HQ:(100:Int)<(l.infs[k].path.size:Int):=HQ;have eV:vg l.infs[k]=false:=by unfold vg;exact Aq (fun c=>by have q:=HQ;omega)
   exact Cj.of_eq (Aa vb (Lj (fun c=>EI n9 eV c.nf)))
  have HQ:¬((100:Int)<(l.infs[k].path.size:Int)):=HQ;refine Yi (Ii k Wk) ?_;have eV:vg l.infs[k]=true:=by unfold vg;exact Av (by have q0:=HQ;omega)
  refine Xi ⟨k+1,n9,fun j hj h=>by rcases BR j k with h2 | h2;exact k2 j hj h2;have e:j=k:=Wk;subst e;exact eV⟩ ?_;exact⟨Dl l.infs.length k Wk,Z2,Z1,Fh,Tv⟩
 have h9:¬((k:Int)<((l.infs.map AG).length:Int)):=h9;have n9:=Et h9;refine cU [(1,.ref 1 0)] [(1,.ro (Do l))] Z1 Z1 (Xi {q:Nat // q<=l.skips.length/\∀j (h:j<l.skips.length),j<q->dK l.skips[j]=true} (Xi (fun q=>⟨[(1,.ref 1 0),(5,vi q.1)],[(1,.ro (Do l))],Af⟩) (Xi (fun q=>l.skips.length-q.1) (Yi (Xi ⟨0,Al _,fun j _ h=>absurd h (Cf _)⟩ ?_) ?_))))
 .exact⟨Z2,Z1,Fh,Tv⟩
 intro⟨m,m1,m2⟩;have m1:m<=l.skips.length:=m1;have m2:∀j (h:j<l.skips.length),j<m->dK l.skips[j]=true:=m2;refine Yi (fun Lr=>?_) (fun Lr=>?_)
 .have Lr:(m:Int)<((l.skips.map AB).length:Int):=Lr;have n13:=Ha Lr;refine Xi (AB l.skips[m]) (Yi (I0 n13) (Yi rfl (Yi (fun IR=>?_) (fun IR=>?_))))
  .have IR:(100:Int)<(l.skips[m].path.size:Int):=IR;have eV:dK l.skips[m]=false:=by unfold dK;exact Aq (fun c=>by have q:=IR;omega)
   exact Cj.of_eq (Aa vb (Lj (fun c=>EI n13 eV c.sk)))
  have IR:¬((100:Int)<(l.skips[m].path.size:Int)):=IR;refine Yi (Ii m Wk) ?_;have eV:dK l.skips[m]=true:=by unfold dK;exact Av (by have q0:=IR;omega)
  refine Xi ⟨m+1,n13,fun j hj h=>by rcases BR j m with h2 | h2;exact m2 j hj h2;have e:j=m:=Wk;subst e;exact eV⟩ ?_;exact⟨Dl l.skips.length m Wk,Z2,Z1,Fh,Tv⟩
 have Lr:¬((m:Int)<((l.skips.map AB).length:Int)):=Lr;have n13:=Et Lr;refine cU [(1,.ref 1 0)] [(1,.ro (Do l))] Z1 Z1 (Ax (Bt (Dy l.roots)) (fun Om=>?_) (fun Om=>?_))
 .have Om:(Dy l.roots)=true:=Om;refine C1 (C2 (cb Om (c35 l.roots hrl)) (Yi (fun SH=>?_) (fun SH=>?_)))
  .have SH:((l.ents.map Cz).length:Int)<=(16:Int):=SH;refine Yi (fun p6=>?_) (fun p6=>?_)
   .have p6:((l.infs.map AG).length:Int)<=(300:Int):=p6;refine Yi (fun VG=>?_) (fun VG=>?_)
    .have VG:((l.skips.map AB).length:Int)<=(100:Int):=VG;exact Cj.of_eq (Aa vb (pV ⟨(M7 fun j hj=>i2 j hj (AM hj (BF (Et h1)))),(M7 fun j hj=>k2 j hj (AM hj (BF (Et h9)))),(M7 fun j hj=>m2 j hj (AM hj (BF (Et Lr)))),Om,(by have q:=SH;rw[Lm]at q;omega),(by have q:=p6;rw[Lm]at q;omega),(by have q:=VG;rw[Lm]at q;omega)⟩))
    have VG:¬(((l.skips.map AB).length:Int)<=(100:Int)):=VG;exact Cj.of_eq (Aa vb (Lj (fun c=>absurd c.kl (by have q:=VG;rw[Lm]at q;omega))))
   have p6:¬(((l.infs.map AG).length:Int)<=(300:Int)):=p6;exact Cj.of_eq (Aa vb (Lj (fun c=>absurd c.il (by have q:=p6;rw[Lm]at q;omega))))
  have SH:¬(((l.ents.map Cz).length:Int)<=(16:Int)):=SH;exact Cj.of_eq (Aa vb (Lj (fun c=>absurd c.el (by have q:=SH;rw[Lm]at q;omega))))
 have Om:(Dy l.roots)=false:=Om;refine C1 (C2 (cb Om (c35 l.roots hrl)) ?_);exact Cj.of_eq (Aa vb (Lj (fun c=>by have q:=Om;rw[c.rq]at q;cases q)))
abbrev AdX(n:Nat):M5:=⟨[],[],[(2,n),(5,n)],[],[],[],[5],[],[],[],[2,3]⟩
theorem AeE(l:List Sl)(hl:BO l):Bg Tryz.prog 76 [sl Ae l] (Ai [] Af) fun r h'=>r=.msl 2000 l.length/\h'=Ai [(2000,.arr 4 (l.map Ae))] Af:=by
 refine Bj (I9 (AdX 4)) [(2,2000)] rfl BI hm rfl func76 aa2 rfl (Nz rfl) aa2 rfl ?_;have CY:Bh 4 (l.map Ae)/\([]:C0).length=0/\(([]:C0).length+(l.map Ae).length)*40<=140737488355328/\([]:C0).length+(l.map Ae).length<=9223372036854775807:=by
  refine⟨Cm (enc:=Ae) (n:=4) (fun _=>rfl) l,rfl,?_,?_⟩<;>simp only[HY,Lm]<;>unfold BO at hl<;>omega
 have e1:AV.msl 2000 (([]:C0).length+(l.map Ae).length)=.msl 2000 l.length:=by simp
 refine Xi 0 (Xi 0 (Yi ?_ ?_))
 .intro _;refine cU [(0,sl Ae l)] [] Z1 Tv (Xi 2 (Yi CY ?_));exact C2 (.refl _) (Yi e1 rfl)
 .intro h;refine Yi ?_ ?_
  .refine Xi ⟨[],[],Af⟩ (Yi ⟨trivial,trivial,fun _=>.inl rfl,Bn aa2⟩ ?_);refine Xi 2 ?_;exact C2 (.refl _) (Yi (show AV.msl 2000 0=_ by rw[FP.1 h];rfl) (show Ai [(2000,HO.arr 4 [])] Af=_ by rw[h]))
  .refine cU [(0,sl Ae l)] [] Z1 Tv (Xi 2 (Yi CY ?_));exact C2 (.refl _) (Yi e1 rfl)
abbrev Ac6:Sl->Sl->Int:=fun a b=>Jm a.path b.path
theorem la:Jm a b<0↔Ez a b=true:=by
 unfold Jm
 by_cases h:Ez a b=true
 .rw[A3 h];simp[h]
 .rw[AN h];split<;>simp[h]
theorem cq:Jm a b=0↔a=b:=by
 unfold Jm;constructor
 .intro h;split at h
  .cases h
  .rename_i h1;split at h
   .cases h
   .rename_i h2;exact Iy (by simpa using h1) (by simpa using h2)
 .rintro rfl
  rw[AN (by rw[Dg];decide),AN (by rw[Dg];decide)]
abbrev kept(p:α->Bool)(l:List α):List α:=l.filter fun x=>!p x
end Go.Eng
namespace Go.Eng
structure OC{α β:Type}(c:α->α->Int)(R:α->α->Prop)(key:α->β):Prop where
 lt:∀a b,c a b<0↔R a b
 eq:∀a b,c a b=0↔key a=key b
 tr:∀a b d,R a b->R b d->R a d
 irr:∀a b,key a=key b->¬R a b
 tri:∀a b,¬R a b->key a≠key b->R b a
 cl:∀a b d,key a=key b->R a d->R b d
section
variable {α β:Type}{c:α->α->Int}{R:α->α->Prop}{key:α->β}
theorem iY(h:OC c R key){a:List α}(ha:a.Pairwise R):(a.map key).Nodup:=by
 unfold List.Nodup;rw[Im];exact ha.imp fun q e=>h.irr _ _ e q
end
/-! The three comparisons. -/
abbrev ltP(a b:Sl):Prop:=Ez a.path b.path=true
theorem ocP:OC Ac6 ltP (fun s:Sl=>s.path) where
 lt _ _:=la
 eq _ _:=cq
 tr _ _ _:=Ei
 irr a b e h:=by rw[ltP,e,Dg]at h;cases h
 tri a b h e:=by
  cases q:Ez b.path a.path with
  |true=>exact q
  |false=>
   cases p:Ez a.path b.path with
   |true=>exact absurd p h
   |false=>exact absurd (Iy p q) e
 cl a b d e h:=by rw[ltP,<-e];exact h
/-! Pins. -/
/-! What the reference makes of a list. -/
theorem NF{α:Type}{l:List α}{i:Nat}(h:i<l.length):l.take (i+1)=l.take i++[l[i]]:=EQ h
end Go.Eng
namespace Go.Eng
open Go.Proofs
variable {i:Nat}{α:Type}{a b:List α}{j:Nat}(x:List Rl)(roots:List Rq)(d:List (List Tm))(D:List Sl)(K:List Sk)
theorem qM(hl:a.length=b.length)(h:∀j (hj:j<a.length),a[j]=b[j]'(hl▸hj)):a=b:=List.ext_getElem hl fun j h1 _=>h j h1
theorem wR{ha:i<a.length}{hb:i<b.length}(h:a[i]≠b[i]):a≠b:=fun e=>by simp_all
theorem gD{l:List Rl}(h:j<l.length):GI roots (l.take (j+1))=GI roots (l.take j)++l[j].reqs:=by
 grind [GI,List.take_add_one]
theorem ks:∀l:List Rl,(∀r∈l,r.reqs.length<=16)->(GI roots l).length<=roots.length+16*l.length:=fun l h=>by
 grind [Zz,GI]
theorem c48(ifs:C0)(roots:List Rq)(s:List Sl)(hx:∀r∈x,Fk r)(L0:BO x)(Sw:∀q∈roots,BO q.set)(hrl:roots.length<=1000000)(hs:s.length<=256):PC 94 [.agg (Ic x ifs),sl Ad roots,sl Ae s] (vi (CW x roots s)):=by
 have QF:∀(p:CS) (v:Ver),PC 45 [Jf x ifs,vs p,.agg (Ej v)] (G5 (AY x ⟨p,v⟩)):=fun p v=>xw x ifs p v hx L0;have bF:BO s:=by omega
 refine Ps (pC [] [2,3,6,8,14,16,18,20,22,23]) Tryz.func94 rfl (Nz rfl) (yN (C1 (C2 (tY x ifs hx) (Yi (fun h1=>?_) (fun h1=>?_)))))
 .have h1:(At x:Int)≠(0:Int):=h1;refine cU [] [] Tv Tv ?_
  exact .of_eq (Aa vi (show(1:Int)=CW x roots s by grind [CW]))
 have h1:(At x:Int)=(0:Int):=Aw h1;refine Ax (Bt (Bb s)) (fun h3=>?_) (fun h3=>?_)
 .have h3:(Bb s)=true:=h3;have fg:=(v8 s bF);rw[show Bb s=true from h3]at fg;refine C1 (C2 fg (cU [(1,sl Ad roots),(2,sl Ae s),(3,.ref 3 0)] [(3,.cells (Ic x ifs))] Z3 Z1 (Xi {q:Nat×List Rl // q.1<=s.length/\FK x (s.take q.1)=some q.2} (Xi (fun q=>⟨[(1,sl Ad roots),(2,sl Ae s),(3,.ref 3 0),(7,.slice (.id 22 9) (q.1.2.map Am)),(8,vi q.1.1)],[(3,.cells (Ic x ifs)),(22,.tok 9 q.1.2.length)],Af⟩) (Xi (fun q=>s.length-q.1.1) (Yi (Xi ⟨(0,[]),Al _,rfl⟩ ?_) ?_))))))
  .exact⟨Z5,Z2,Fh,Tv⟩
  intro⟨⟨i,A⟩,i1,i2⟩;have i1:i<=s.length:=i1;have i2:FK x (s.take i)=some A:=i2;have hA:A.length=i:=by
   have q:=Aa List.length (F5 i2).1;simp_all
  refine Yi (fun h5=>?_) (fun h5=>?_)
  .have h5:(i:Int)<((s.map Ae).length:Int):=h5;have n5:i<s.length:=by simp_all
   have g5:s[i]?=some s[i]:=Ge n5;refine yN (Xi (Ae s[i]) (Yi (Yi (Nn i) (Bq g5)) (Yi rfl (Xi (Ae s[i]) (Yi (Yi (Nn i) (Bq g5)) (Yi rfl (yN (Ax (CO (AY x ⟨s[i].path,s[i].ver⟩)) (fun h6=>?_) (fun h6=>?_)))))))))
   .refine Ao h6 (fun r h6=>?_);have Ub:=QF s[i].path s[i].ver;rw[h6]at Ub;refine C2 Ub (yN (Yi aa2 (cU [(1,sl Ad roots),(2,sl Ae s),(3,.ref 3 0),(7,.slice (.id 22 9) (A.map Am)),(8,vi i),(9,.ref 9 0),(10,vb true)] [(3,.cells (Ic x ifs)),(9,.cells (Am r)),(22,.tok 9 A.length)] Z7 Z3 (yN ?_))));have b7:Bh 9 [(Am r)]/\(A.map Am).length=A.length/\((A.map Am).length+([(Am r)]:C0).length)*120<=140737488355328/\(A.map Am).length+([(Am r)]:C0).length<=9223372036854775807:=⟨⟨rfl,trivial⟩,(by simp_all),(by grind),(by grind)⟩;refine Yi b7 (cU [(1,sl Ad roots),(2,sl Ae s),(3,.ref 3 0),(7,.slice (.id 22 9) ((A.map Am)++[(Am r)])),(8,vi i)] [(3,.cells (Ic x ifs)),(22,.tok 9 ((A.map Am).length+([(Am r)]:C0).length))] Z5 Z2 (Yi (by grind [Au]) (Xi ⟨(i+1,(A++[r])),by omega,by show FK x (s.take (i+1))=_;rw[bn n5 i2,show AY x s[i]=some r from h6]⟩ ?_)));exact⟨by grind,⟨Zr,Zr,Zr,⟨(show AV.slice (.id 22 9) (A.map Am++[Am r])=.slice (.id 22 9) ((A++[r]).map Am) by simp),rfl⟩,Zr,Tv⟩,⟨Zr,⟨(show HO.tok 9 ((A.map Am).length+([Am r]:C0).length)=.tok 9 (A++[r]).length by simp),rfl⟩,Tv⟩,Fh,Tv⟩
   have Ub:=QF s[i].path s[i].ver;rw[h6]at Ub;refine C2 Ub (yN (Yi aa2 (cU [(1,sl Ad roots),(2,sl Ae s),(3,.ref 3 0),(7,.slice (.id 22 9) (A.map Am)),(8,vi i),(9,.ref 9 0),(10,vb false)] [(3,.cells (Ic x ifs)),(9,.cells [vs ⟨#[]⟩,vi 0,vi 0,vi 0,nzA,vs ⟨#[]⟩,vs ⟨#[]⟩,vs ⟨#[]⟩,vb false]),(22,.tok 9 A.length)] Z7 Z3 ?_)))
   exact .of_eq (Aa vi (show(6:Int)=CW x roots s by grind [CW,oc,AY]))
  have h5:¬((i:Int)<((s.map Ae).length:Int)):=h5;have n5:¬i<s.length:=by simp_all
  rw[A5 Wk]at i2;have h0:At x=0:=h1;have hi:Bb s=true:=h3;have qy:=(F5 i2).1;have hAx:∀r∈A,r∈x:=fun r hr=>(Cv ((F5 i2).2.1 r hr)).2.1;have yX:∀r∈A,r.reqs.length<=16:=fun r hr=>(Fs h0).2 r (hAx r hr);have hAn:=W5 hi i2;have hAv:∀r∈A,By r.ver=true:=fun r hr=>((BB h0).1 r (hAx r hr)).val;have hsv:∀y∈s,By y.ver=true:=fun y hy=>by
   rw[<-qy]at hy;obtain⟨r,hr,rfl⟩:=Ar.1 hy;exact hAv r hr
  have Wc:Bh 2 (roots.map Ad)/\([]:C0).length=0/\(([]:C0).length+(roots.map Ad).length)*40<=140737488355328/\([]:C0).length+(roots.map Ad).length<=9223372036854775807:=⟨(Cm (enc:=Ad) (n:=2) (fun _=>rfl) roots),aa0,(by grind),(by grind)⟩;refine Yi Wc (Xi {j:Nat // j<=A.length} (Xi (fun q=>⟨[(1,sl Ad roots),(2,sl Ae s),(7,.slice (.id 22 9) (A.map Am)),(11,.slice (.id 50 2) ((GI roots (A.take q.1)).map Ad)),(12,vi q.1)],[(22,.tok 9 A.length),(50,.tok 2 (GI roots (A.take q.1)).length)],Af⟩) (Xi (fun q=>A.length-q.1) (Yi (Xi ⟨0,Al _⟩ ?_) ?_))))
  .exact⟨⟨Zr,Zr,Zr,⟨(show AV.slice (.id 50 2) ([]++roots.map Ad)=.slice (.id 50 2) ((GI roots (A.take 0)).map Ad) by grind [GI]),rfl⟩,Zr,Tv⟩,⟨Zr,⟨(show HO.tok 2 (([]:C0).length+(roots.map Ad).length)=.tok 2 (GI roots (A.take 0)).length by grind [GI]),rfl⟩,Tv⟩,Fh,Tv⟩
  intro⟨j,j1⟩;have j1:j<=A.length:=j1;have xY:=ks roots (A.take j) (fun r hr=>yX r (Ew hr));rw[BW]at xY;refine Yi (fun F2=>?_) (fun F2=>?_)
  .have F2:(j:Int)<((A.map Am).length:Int):=F2;have n11:j<A.length:=by simp_all
   have g11:A[j]?=some A[j]:=Ge n11;have hrj:=yX A[j] (Ah n11);refine Xi (Am A[j]) (Yi (Yi (Nn j) (Bq g11)) (Yi rfl ?_));have vZ:Bh 2 (A[j].reqs.map Ad)/\((GI roots (A.take j)).map Ad).length=(GI roots (A.take j)).length/\(((GI roots (A.take j)).map Ad).length+(A[j].reqs.map Ad).length)*40<=140737488355328/\((GI roots (A.take j)).map Ad).length+(A[j].reqs.map Ad).length<=9223372036854775807:=⟨(Cm (enc:=Ad) (n:=2) (fun _=>rfl) A[j].reqs),(by simp_all),(by grind),(by grind)⟩;refine Yi vZ (cU [(1,sl Ad roots),(2,sl Ae s),(7,.slice (.id 22 9) (A.map Am)),(11,.slice (.id 50 2) (((GI roots (A.take j)).map Ad)++(A[j].reqs.map Ad))),(12,vi j)] [(22,.tok 9 A.length),(50,.tok 2 (((GI roots (A.take j)).map Ad).length+(A[j].reqs.map Ad).length))] Z5 Z2 (Yi (by grind [Au]) ?_));have es:GI roots (A.take (j+1))=GI roots (A.take j)++A[j].reqs:=gD roots n11;refine Xi ⟨j+1,by omega⟩ ?_;exact⟨by grind,⟨Zr,Zr,Zr,⟨(show AV.slice (.id 50 2) ((GI roots (A.take j)).map Ad++A[j].reqs.map Ad)=.slice (.id 50 2) ((GI roots (A.take (j+1))).map Ad) by simp_all),rfl⟩,Zr,Tv⟩,⟨Zr,⟨(show HO.tok 2 (((GI roots (A.take j)).map Ad).length+(A[j].reqs.map Ad).length)=.tok 2 (GI roots (A.take (j+1))).length by simp_all),rfl⟩,Tv⟩,Fh,Tv⟩
  have F2:¬((j:Int)<((A.map Am).length:Int)):=F2;have n11:¬j<A.length:=by simp_all
  rw[A5 Wk]at xY;refine Ao (show ∃Q,Q=GI roots A from⟨_,rfl⟩) (fun Q hQ=>?_);have hQl:Q.length<=1100000:=by
   grind
  have hQf:∀q∈Q,BO q.set:=fun q hq=>by
   grind [JG]
  refine cU [(1,sl Ad roots),(2,sl Ae s),(7,.slice (.id 22 9) (A.map Am)),(11,.slice (.id 50 2) (Q.map Ad))] [(22,.tok 9 A.length),(50,.tok 2 Q.length)] ⟨Zr,Zr,Zr,⟨(show AV.slice (.id 50 2) ((GI roots (A.take j)).map Ad)=.slice (.id 50 2) (Q.map Ad) by grind),rfl⟩,Tv⟩ ⟨Zr,⟨(show HO.tok 2 (GI roots (A.take j)).length=.tok 2 Q.length by grind),rfl⟩,Tv⟩ ?_
  refine Xi {k:Nat // k<=Q.length/\∀m (h:m<Q.length),m<k->SB Q[m] s=true} (Xi (fun q=>⟨[(1,sl Ad roots),(2,sl Ae s),(7,.slice (.id 22 9) (A.map Am)),(11,.slice (.id 50 2) (Q.map Ad)),(13,vi q.1)],[(22,.tok 9 A.length),(50,.tok 2 Q.length)],Af⟩) (Xi (fun q=>Q.length-q.1) (Yi (Xi ⟨0,Al _,fun m _ h=>by omega⟩ ?_) ?_)))
  .exact⟨Z5,Z2,Fh,Tv⟩
  intro⟨k,k1,k2⟩;refine Yi (fun IR=>?_) (fun IR=>?_)
  .have IR:(k:Int)<((Q.map Ad).length:Int):=IR;have n14:k<Q.length:=by simp_all
   have g14:Q[k]?=some Q[k]:=Ge n14;refine Xi (Ad Q[k]) (Yi (Yi (Nn k) (Bq g14)) (Yi rfl (yN (Ax (Bt (SB Q[k] s)) (fun Hi=>?_) (fun Hi=>?_)))))
   .have Hi:(SB Q[k] s)=true:=Hi;have lU:=c92 Q[k] s (hQf _ (Ah n14)) bF hsv;rw[show(SB Q[k] s)=true from Hi]at lU;refine C1 (C2 lU (cU [(1,sl Ad roots),(2,sl Ae s),(7,.slice (.id 22 9) (A.map Am)),(11,.slice (.id 50 2) (Q.map Ad)),(13,vi k)] [(22,.tok 9 A.length),(50,.tok 2 Q.length)] Z5 Z2 (Yi (by grind [Au]) (Xi ⟨k+1,by omega,fun m hm hmk=>(BR m k).elim (k2 m hm) (fun z=>by grind)⟩ ?_))));exact⟨by grind,Z5,Z2,Fh,Tv⟩
   have Hi:(SB Q[k] s)=false:=Hi;have yc:=c92 Q[k] s (hQf _ (Ah n14)) bF hsv;rw[show(SB Q[k] s)=false from Hi]at yc;refine C1 (C2 yc (cU [] [] Tv Tv ?_))
   have sJ:Q[k]∈GI roots A:=by simp_all
   have hbk:B9 A Q[k]=true:=by
    grind [U9]
   exact .of_eq (Aa vi (show(17:Int)=CW x roots s by grind [jS]))
  have IR:¬((k:Int)<((Q.map Ad).length:Int)):=IR;have n14:¬k<Q.length:=by simp_all
  have hb:∀q∈GI roots A,B9 A q=false:=fun q hq=>by
   grind [List.getElem_of_mem,U9]
  have hA0:=vI h0 hi i2 Wk;have CL:=jI hAn hb;have hmn:(JP A roots).length<=A.length:=by
   grind
  have h93:=(c93 A [] roots (JP A roots) (WR hAn) (fun D a b=>WS D a b) (x6 hAn hb) hAn (uf hb) hA0 (fun r hr=>hx r (hAx r hr)) Sw hrl).args (args':=[.agg [sl Am A,nzA],sl Ad roots]) ⟨Cj.agg ⟨.refl _,.nil,trivial⟩,.refl _,trivial⟩;refine C1 (C2 h93 (Yi (fun VG=>?_) (fun VG=>?_)))
  .have VG:((((A.filter fun r=>UD (JP A roots) r.path).map Cp).map Ae).length:Int)≠((s.map Ae).length:Int):=VG;refine cU [] [] Tv Tv ?_
   have hq:=VG;rw[Lm,CL,Lm]at hq;exact .of_eq (Aa vi (show(8:Int)=CW x roots s by grind [Vh]))
  have VG:((((A.filter fun r=>UD (JP A roots) r.path).map Cp).map Ae).length:Int)=((s.map Ae).length:Int):=Aw VG;refine cU [] [] Tv Tv ?_
  have hq:=VG;rw[Lm,CL,Lm]at hq;exact .of_eq (Aa vi (show(0:Int)=CW x roots s by grind [Vh]))
 have h3:(Bb s)=false:=h3;have lX:=(v8 s bF);rw[show Bb s=false from h3]at lX;refine C1 (C2 lX (cU [] [] Tv Tv ?_))
 exact .of_eq (Aa vi (show(1:Int)=CW x roots s by grind [CW]))
def NM(d:List (List Tm))(b:List Sl)(p:CS)(va:Int->Ver):List Int->List Sk->Option (List Sk)
 | [],K=>some K
 |_::_,[]=>none
 |pl::ps,y::K=>if y.path=p/\y.place=pl then match DN d y.inf with
   |none=>none
   |some t=>if Bp t (b++[⟨p,va pl⟩])then NM d b p va ps K else none
  else none
def TH(i:Nat)(K:List Sk):Option (List Sk):=match D[i]? with
 |none=>none
 |some y=>NM d (D.take i) y.path (Gg x y.path) (Dd x (Ca x roots (D.take i)) y.path (plc y.ver)) K
def Gq(x:List Rl)(roots:List Rq)(d:List (List Tm))(D:List Sl)(K:List Sk):Nat->Option (List Sk)
 |0=>some K
 |i+1=>(Gq x roots d D K i).bind (TH x roots d D i)
def LJ:Bool:=match Gq x roots d D K D.length with | some []=>true | _=>false
def EL(a:An)(d:List (List Tm)):Bool:=decide ((D5 x roots a.sel).2=0)&&LJ x roots d (D5 x roots a.sel).1 a.skips
section
variable {x:List Rl}{roots:List Rq}{d:List (List Tm)}{D:List Sl}{K:List Sk}
theorem bi(h:Gq x roots d D K j=none):∀m,j<=m->Gq x roots d D K m=none:=by
 intro m hm
 induction m<;>grind [Gq]
theorem HG(hi:i<D.length){K' : List Sk}(h:Gq x roots d D K i=some K')(he:TH x roots d D i K'=none):LJ x roots d D K=false:=by
 have h1:Gq x roots d D K (i+1)=none:=by grind [Gq]
 grind [LJ,bi]
theorem bh{K' K2:List Sk}(h:Gq x roots d D K i=some K')(he:TH x roots d D i K'=some K2):Gq x roots d D K (i+1)=some K2:=by
 grind [Gq]
theorem pN(hi:i<D.length)(K:List Sk):TH x roots d D i K=NM d (D.take i) D[i].path (Gg x D[i].path) (Dd x (Ca x roots (D.take i)) D[i].path (plc D[i].ver)) K:=by
 grind [TH]
end
section
variable {d:List (List Tm)}{b:List Sl}{p:CS}{va:Int->Ver}{L:List Int}{k:Nat}{K:List Sk}{m:Nat}
theorem pP(hk:L.length<=k):NM d b p va (L.drop k) K=some K:=by rw[DY hk];rfl
theorem pO(hk:k<L.length)(hm:K.length<=m):NM d b p va (L.drop k) (K.drop m)=none:=by
 rw[Be hk,DY hm];rfl
theorem eH(hk:k<L.length)(hm:m<K.length)(h:¬(K[m].path=p/\K[m].place=L[k])):NM d b p va (L.drop k) (K.drop m)=none:=by
 rw[Be hk,Be hm];show(if _ then _ else none)=none;simp_all
theorem eI(hk:k<L.length)(hm:m<K.length)(h:DN d K[m].inf=none):NM d b p va (L.drop k) (K.drop m)=none:=by
 rw[Be hk,Be hm];show(if _ then(match DN d K[m].inf with | none=>none | some t=>_)else none)=none;simp_all
theorem pQ{t:List Tm}(hk:k<L.length)(hm:m<K.length)(h:DN d K[m].inf=some t)(he:Bp t (b++[(⟨p,va L[k]⟩:Sl)])=false):NM d b p va (L.drop k) (K.drop m)=none:=by
 rw[Be hk,Be hm];show(if _ then(match DN d K[m].inf with | none=>none | some t=>if Bp t (b++[(⟨p,va L[k]⟩:Sl)])then _ else none)else none)=none;simp_all
theorem pR{t:List Tm}(hk:k<L.length)(hm:m<K.length)(h1:K[m].path=p)(h2:K[m].place=L[k])(h:DN d K[m].inf=some t)(he:Bp t (b++[(⟨p,va L[k]⟩:Sl)])=true):NM d b p va (L.drop k) (K.drop m)=NM d b p va (L.drop (k+1)) (K.drop (m+1)):=by
 grind [List.drop_eq_getElem_cons,NM]
end
section
variable {x:List Rl}{roots:List Rq}{d:List (List Tm)}
theorem vR(h0:At x=0){o:Rl}(ho:o∈x):Gg x o.path (plc o.ver)=o.ver:=by
 have hx:=(BB h0).1;unfold Gg Dj;cases hf:x.find? (fun r=>decide (r.path=o.path)&&decide (plc r.ver=plc o.ver))with
 |none=>
  grind
 |some r=>
  have hr:=Br hf;have hp:=FG hf;simp only[Ak,A4]at hp;have v1:=(hx r hr).val;have v2:=(hx o ho).val;have m1:=(hx r hr).maj;have m2:=(hx o ho).maj;rw[hp.1,m2]at m1;have e0:o.ver.a=r.ver.a:=DU m1;have e1:=hp.2;rw[<-LG v1,<-LG v2]at e1;unfold place at e1;unfold By at v1 v2;simp only[Ak,A4]at v1 v2;obtain⟨⟨_,b1⟩,c1⟩:=v1;obtain⟨⟨_,b2⟩,c2⟩:=v2;unfold okPart at b1 b2 c1 c2;show r.ver=o.ver;have e2:r.ver.b=o.ver.b:=by omega
  have e3:r.ver.c=o.ver.c:=by omega
  cases hr:r.ver;cases ho:o.ver<;>simp_all
theorem bo(h0:At x=0)(v:V2):∀(x' : List Rl),(∀o∈x',o∈x)->∀K:List Sk,Dx d v x' K=match NM d v.before v.rel.path (Gg x v.rel.path) (Dd x' v.needs v.rel.path (plc v.rel.ver)) K with | some K'=>(K',true) | none=>([],false)
 | [],_,K=>rfl
 |o::x',hm,K=>by
  have ih:=bo h0 v x' (fun o h=>hm o (Aj _ h));have hs:Dd (o::x') v.needs v.rel.path (plc v.rel.ver)=if Ji v.needs v.rel.path (plc v.rel.ver) o then plc o.ver::Dd x' v.needs v.rel.path (plc v.rel.ver)else Dd x' v.needs v.rel.path (plc v.rel.ver):=by
   grind [Dd]
  rw[hs,Ro]
  by_cases hq:Ji v.needs v.rel.path (plc v.rel.ver) o=true
  .rw[A3 hq];unfold Ji at hq;simp only[Ak,A4,EO]at hq;obtain⟨⟨⟨q1,q2⟩,q3⟩,q4⟩:=hq;rw[AN (by simp_all),AN (by grind [LX])];have hv:=vR h0 (hm o (Ag ..));rw[q1]at hv;cases K with
   |nil=>rfl
   |cons y K=>
    show(if(!decide (y.path=v.rel.path)||!decide (y.place=plc o.ver))=true then([],false)else match DN d y.inf with | none=>([],false) | some t=>if Bp t (v.before++[Cp o])then Dx d v x' K else([],false))=match(if y.path=v.rel.path/\y.place=plc o.ver then match DN d y.inf with | none=>none | some t=>if Bp t (v.before++[⟨v.rel.path,Gg x v.rel.path (plc o.ver)⟩])then NM d v.before v.rel.path (Gg x v.rel.path) (Dd x' v.needs v.rel.path (plc v.rel.ver)) K else none else none)with | some K'=>(K',true) | none=>([],false)
    grind [Cp]
  grind [Ji,LX]
theorem Xj{s:List Sl}:∀{n:Nat} {before:List Sl},∀i v,(D4 x s n before (Ca x roots before)).1[i]?=some v->v.before=before++((D4 x s n before (Ca x roots before)).1.take i).map FY/\v.needs=Ca x roots v.before/\AY x (FY v)=some v.rel
 |0,_,i,v,h=>by grind [D4]
 |n+1,before,i,v,h=>by
  unfold D4 at h⊢;cases hp:DM (Ca x roots before) before with
  |none=>simp_all
  |some p=>
   rw[hp]at h;dsimp only at h⊢;cases hf:AF s p with
   |none=>simp_all
   |some y=>
    rw[hf]at h;dsimp only at h⊢;cases hr:AY x y with
    |none=>simp_all
    |some r=>
     rw[hr]at h;dsimp only at h⊢;have hk:Cp r=y:=(Cv hr).2.2;have e:Ca x roots before++r.reqs=Ca x roots (before++[y]):=by grind [OF,Hz]
     rw[e]at h⊢;cases i with
     |zero=>
      grind
     |succ i=>
      rw[Tc]at h;obtain⟨h1,h2,h3⟩:=Xj (n:=n) (before:=before++[y]) i v h<;>simp_all
theorem TW{s:List Sl}(h0:At x=0){V:List V2}(hV:V=(visits x roots s).1)(K:List Sk):∀i,i<=V.length ->
  match Gq x roots d (V.map FY) K i with
  |some K'=>(V.take i).foldl (B6 x d) (true,K)=((V.take i).all (fun v=>!v.rel.yanked),K')
  |none=>((V.take i).foldl (B6 x d) (true,K)).1=false
 |0,_=>rfl
 |i+1,hi=>by
  have ih:=TW h0 hV K i Wk;have ET:i<V.length:=by omega
  have ht:V.take (i+1)=V.take i++[V[i]]:=by simp_all
  have hva:=Xj (x:=x) (roots:=roots) (s:=s) (n:=s.length+1) (before:=[]) i V[i] (by
   grind [Lx,visits])
  rw[Lx]at hva;obtain⟨v1,v2,v3⟩:=hva;have v1:V[i].before=(V.map FY).take i:=by
   grind [List.map_take,visits]
  have hD:(V.map FY)[i]?=some (FY V[i]):=by grind
  rw[ht,List.foldl_append];show match(Gq x roots d (V.map FY) K i).bind (TH x roots d (V.map FY) i)with
   |some K'=>B6 x d ((V.take i).foldl (B6 x d) (true,K)) V[i]=((V.take i++[V[i]]).all (fun v=>!v.rel.yanked),K')
   |none=>(B6 x d ((V.take i).foldl (B6 x d) (true,K)) V[i]).1=false
  cases hn:Gq x roots d (V.map FY) K i with
  |none=>
   rw[hn]at ih;show(((V.take i).foldl (B6 x d) (true,K)).1&&_&&_)=false;simp_all
  |some K'=>
   rw[hn]at ih;have ih:(V.take i).foldl (B6 x d) (true,K)=((V.take i).all (fun v=>!v.rel.yanked),K'):=ih;have he:TH x roots d (V.map FY) i K'=NM d V[i].before V[i].rel.path (Gg x V[i].rel.path) (Dd x V[i].needs V[i].rel.path (plc V[i].rel.ver)) K':=by
    unfold TH;rw[hD,v2,v1]
    rfl
   have hs:=bo (d:=d) h0 V[i] x (fun _ h=>h) K';rw[<-he]at hs;rw[ih];show match TH x roots d (V.map FY) i K' with
    |some K2=>(((V.take i).all (fun v=>!v.rel.yanked)&&(Dx d V[i] x K').2&&!V[i].rel.yanked),(Dx d V[i] x K').1)=((V.take i++[V[i]]).all (fun v=>!v.rel.yanked),K2)
    |none=>((V.take i).all (fun v=>!v.rel.yanked)&&(Dx d V[i] x K').2&&!V[i].rel.yanked)=false
   grind
theorem bj{s:List Sl}{K:List Sk}(hr:AH roots=0)(hs:CW x roots s=0) :
  (((visits x roots s).1.foldl (B6 x d) (true,K)).1&&((visits x roots s).1.foldl (B6 x d) (true,K)).2.isEmpty)=(s.all (Gp x)&&(decide ((D5 x roots s).2=0)&&LJ x roots d (D5 x roots s).1 K)):=by
 obtain⟨l,hl⟩:=Vg hs;have hv:=hl.visits;have hd:D5 x roots s=((visits x roots s).1.map FY,0):=by
  grind [D5,KA.ix,KA.inc]
 have hf:=TW (d:=d) hl.ix (s:=s) rfl K (visits x roots s).1.length (Ap _);rw[IW]at hf;have GB:s.all (Gp x)=(visits x roots s).1.all fun v=>!v.rel.yanked:=by
  have CE:=Iw hv;rw[Cy,A0,A0];constructor
  .intro h v hm;obtain⟨m1,m2⟩:=CE.mem v hm<;>grind [Gp]
  grind [Gp,KA.all,o6.mem]
 grind [LJ]
end
end Go.Eng
