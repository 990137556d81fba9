/- Lemmas 24. -/
import Derived.Test.YtjhkbdgingfbaaaGreatDoorGA23
set_option maxHeartbeats 4000000
namespace Go.Eng
open Go.Proofs
variable {l:List Cp}{i:Nat}{b:List Sl}{α:Type}{a:List Sl}(x:List Rl)(ifs:List (List AV))
theorem ir(s:Sl)(e:AU s.path=none)(hl:PC 95 [vs s.path] (.tup [vs ⟨#[]⟩,vi 0,vi 4])):PC 54 [vs s.path,.agg (Dy s.ver)] (vb (!DT s)):=by
 refine Ps (pC [3] []) Tryz.func54 rfl (Nz rfl) (Xi .pure (Xi _ (Yi hl (Yi (fun h=>absurd h sR) (fun _=>?_)))));exact D7.of_eq (show vb false=vb (!DT s) by unfold DT;rw[e];rfl)
theorem iu(s:Sl)(m:Int)(e:AU s.path=some m)(hl:PC 95 [vs s.path] (.tup [vs (Kp s.path),vi m,vi 0])):PC 54 [vs s.path,.agg (Dy s.ver)] (vb (!DT s)):=by
 refine Ps (pC [3] []) Tryz.func54 rfl (Nz rfl) (Xi .pure (Xi _ (Yi hl (Yi (fun _=>?_) (fun h=>absurd sR h)))));refine yN (Bn (Bt (Cy s.ver)) (fun h1=>?_) (fun h1=>?_))
 .have h1:(Cy s.ver)=true:=h1;refine Xi .pure (Xi _ (Yi (cb h1 (c168 s.ver)) (Yi (fun h2=>?_) (fun h2=>?_))))
  .have h2:(s.ver.a:Int)=(m:Int):=h2;exact D7.of_eq (show vb true=vb (!DT s) by unfold DT;rw[e];simp[h1,h2])
  have h2:¬((s.ver.a:Int)=(m:Int)):=h2;exact D7.of_eq (show vb false=vb (!DT s) by unfold DT;rw[e];simp[h1,h2])
 have h1:(Cy s.ver)=false:=h1;refine Xi .pure (Xi _ (Yi (cb h1 (c168 s.ver)) ?_));exact D7.of_eq (show vb false=vb (!DT s) by unfold DT;rw[e];simp[h1])
theorem eD(s:Sl)(hp:CT s.path):PC 54 [vs s.path,.agg (Dy s.ver)] (vb (!DT s)):=by
 have hl:=c171 s.path hp;cases e:AU s.path with
 |none=>exact ir s e (by have q:=hl;unfold La at q;rw[e]at q;exact q)
 |some m=>exact iu s m e (by have q:=hl;unfold La at q;rw[e]at q;exact q)
theorem nl(h:i<l.length)(hl:¬1024<(l.length:Int))(b:DT (A6 l[i])=true):CD l=1:=by
 rw[CD,Aj hl,Aj];intro c;have q:=(GT c).2 (A6 l[i]) (JS (Af h));rw[b]at q;cases q
theorem np(h:i<l.length)(hl:¬1024<(l.length:Int))(h0:0<i)(b:FC (l[i-1]' sP).path l[i].path=false):CD l=1:=by
 rw[CD,Aj hl,Aj];intro c;have q:=(F3 (GT c).1).1;have q:=(A5.1 q) (i-1) i (by rw[Lm];omega) (by rw[Lm];exact h) sP;rw[BD,BD]at q;have q:FC (l[i-1]' sP).path l[i].path=true:=q;rw[b]at q;cases q
theorem eM(h:∀j (hj:j+1<l.length),FC l[j].path l[j+1].path=true):(l.map A6).Pairwise RM:=by
 rw[A5];intro i j hi hj TN;rw[BD,BD];rw[Lm]at hi hj;show FC l[i].path l[j].path=true
 induction j with
 |zero=>omega
 |succ j ih=>
  rcases Be i j with g | g
  .exact GO (ih (by rw[Lm];omega) sP g) (h j hj)
  .obtain rfl:i=j:=by omega
   exact h i hj
theorem nq(hl:¬1024<(l.length:Int))(b:∀j (hj:j<l.length),DT (A6 l[j])=false)(h:∀j (hj:j+1<l.length),FC l[j].path l[j+1].path=true):CD l=0:=by
 rw[CD,Aj hl,Av];unfold Eh;rw[Ak,CE,HD];refine⟨Zo (eM h),fun y hy=>?_⟩;obtain⟨c,hc,rfl⟩:=AA.1 hy;obtain⟨j,hj,rfl⟩:=A9.1 hc;rw[b j hj];decide
theorem ZM{b:Bool}(h:(!b)=true):b=false:=by cases b with | true=>cases h | false=>rfl
theorem kP{b:Bool}(h:(!b)=false):b=true:=by cases b with | true=>rfl | false=>cases h
theorem aS(l:List Cp)(hl:CC l)(hp:∀c∈l,CT c.path):PC 21 [sl Aq l] (vi (CD l)):=by
 have Ww:l.length<=1073741824:=hl;refine Ps Dj Tryz.func21 rfl (Nz rfl) (Yi (fun h1=>?_) (fun h1=>?_))
 .have h1:(1024:Int)<((l.map Aq).length:Int):=h1;have n1:1024<l.length:=by have q:=h1;rw[Lm]at q;omega
  exact D7.of_eq (Aa vi (show(7:Int)=CD l by rw[CD,Av (by have q:=h1;rw[Lm]at q;exact q)]))
 have h1:¬((1024:Int)<((l.map Aq).length:Int)):=h1;have n1:¬1024<l.length:=by have q:=h1;rw[Lm]at q;omega
 refine Xi {q:Nat // q<=l.length/\(∀j (hj:j<l.length),j<q->DT (A6 l[j])=false)/\∀j (hj:j+1<l.length),j+1<q->FC l[j].path l[j+1].path=true} (Xi (fun q=>⟨[(0,sl Aq l),(3,vi q.1)],[],Ao⟩) (Xi (fun q=>l.length-q.1) (Yi (Xi ⟨0,Ar _,fun _ _ h=>absurd h (Dr _),fun _ _ h=>absurd h (Dr _)⟩ ?_) ?_)))
 .exact⟨Z2,Tv,Fh,Tv⟩
 intro⟨i,i1,i2,i3⟩;have i1:i<=l.length:=i1;have i2:∀j (hj:j<l.length),j<i->DT (A6 l[j])=false:=i2;have i3:∀j (hj:j+1<l.length),j+1<i->FC l[j].path l[j+1].path=true:=i3;refine Yi (fun h3=>?_) (fun h3=>?_)
 .have h3:(i:Int)<((l.map Aq).length:Int):=h3;have n3:=FL h3;refine Xi (Aq l[i]) (Yi (GR n3) (Yi rfl (Xi (Aq l[i]) (Yi (GR n3) (Yi rfl (yN (Bn (Bt (!DT (A6 l[i]))) (fun h4=>?_) (fun h4=>?_))))))))
  .have h4:(!DT (A6 l[i]))=true:=h4;refine Xi _ (Yi (cb h4 (eD (A6 l[i]) (hp _ (Af n3)))) (Yi (fun h5=>?_) (fun h5=>?_)))
   .have h5:(0:Int)<(i:Int):=h5;refine Xi (Aq l[i]) (Yi (GR n3) (Yi rfl (Yi (by show AE ((i:Int)-(1:Int));unfold AE;omega) (Xi (Aq (l[i-1]' sP)) (Yi (Yi (show(0:Int)<=(i:Int)-1 by omega) (by rw[show((i:Int)-1).toNat=i-1 by omega];exact CQ (Ge sP))) (Yi rfl ?_))))));refine Yi (fun h6=>?_) (fun h6=>?_)
    .have h6:FC (l[i-1]' sP).path l[i].path=false:=(Ed _ _).trans h6;refine Yi sT ?_;exact D7.of_eq (Aa vi (np n3 (by have q:=h1;rw[Lm]at q;exact q) (by have q:=h5;omega) h6).symm)
    have h6:FC (l[i-1]' sP).path l[i].path=true:=(Ed _ _).trans (by simpa using h6);refine Yi sT (Yi (Ii i sP) (Xi ⟨i+1,n3,fun j hj h=>by rcases Be j i with g4 | g4;exact i2 j hj g4;obtain rfl:i=j:=sP;exact ZM h4,fun j hj h=>by rcases Be (j+1) i with g4 | g4;exact i3 j hj g4;obtain rfl:i=j+1:=sP;exact h6⟩ ?_));exact⟨Dl l.length i sP,Z2,Tv,Fh,Tv⟩
   have h5:¬((0:Int)<(i:Int)):=h5;refine Yi sT (Yi (Ii i sP) (Xi ⟨i+1,n3,fun j hj h=>by rcases Be j i with g4 | g4;exact i2 j hj g4;obtain rfl:i=j:=sP;exact ZM h4,fun j hj h=>by have q:=h5;omega⟩ ?_));exact⟨Dl l.length i sP,Z2,Tv,Fh,Tv⟩
  have h4:(!DT (A6 l[i]))=false:=h4;refine Xi _ (Yi (cb h4 (eD (A6 l[i]) (hp _ (Af n3)))) (Yi sT ?_));exact D7.of_eq (Aa vi (nl n3 (by have q:=h1;rw[Lm]at q;exact q) (kP h4)).symm)
 have h3:¬((i:Int)<((l.map Aq).length:Int)):=h3;have n3:=DC h3;exact D7.of_eq (Aa vi (nq (by have q:=h1;rw[Lm]at q;exact q) (fun j hj=>i2 j hj (by have q:=DC h3;omega)) (fun j hj=>i3 j hj (by have q:=DC h3;omega))).symm)
theorem eE(l:List Cp)(hl:CC l):PC 52 [sl Aq l] (sl Ag (l.map A6)):=by
 have Ww:l.length<=1073741824:=hl;refine Ps Dj Tryz.func52 rfl (Nz rfl) (Xi {q:Nat // q<=l.length} (Xi (fun q=>⟨[(0,sl Aq l),(3,.slice (.id 5 4) (((l.take q.1).map A6).map Ag)),(4,vi q.1)],[(5,.tok 4 (((l.take q.1).map A6).map Ag).length)],Ao⟩) (Xi (fun q=>l.length-q.1) (Yi (Xi ⟨0,Ar _⟩ ?_) ?_))))
 .exact⟨Z3,Z1,Fh,Tv⟩
 intro⟨i,i1⟩;have i1:i<=l.length:=i1;have fY:=ZB A6 Ag l i;refine Yi (fun h1=>?_) (fun h1=>?_)
 .have h1:(i:Int)<((l.map Aq).length:Int):=h1;have n1:=FL h1;refine Xi (Aq l[i]) (Yi (GR n1) (Yi rfl (Xi (Aq l[i]) (Yi (GR n1) (Yi rfl (yN ?_))))));have b2:Cn 4 [[vs l[i].path,vi l[i].ver.a,vi l[i].ver.b,vi l[i].ver.c]]/\(((l.take i).map A6).map Ag).length=(((l.take i).map A6).map Ag).length/\((((l.take i).map A6).map Ag).length+([[vs l[i].path,vi l[i].ver.a,vi l[i].ver.b,vi l[i].ver.c]]:List (List AV)).length)*40<=140737488355328/\(((l.take i).map A6).map Ag).length+([[vs l[i].path,vi l[i].ver.a,vi l[i].ver.b,vi l[i].ver.c]]:List (List AV)).length<=9223372036854775807:=⟨⟨rfl,trivial⟩,rfl,(by simp only[Lm,Am,Aw,Al];omega),(by simp only[Lm,Am,Aw,Al];omega)⟩;refine Yi b2 (Yi sT (Yi (Ii i sP) ?_));have ew:=ZC A6 Ag n1;refine Xi ⟨i+1,n1⟩ ?_;exact⟨Dl l.length i sP,⟨Zr,⟨(Aa (AV.slice (.id 5 4)) ew),rfl⟩,Zr,Tv⟩,⟨⟨(show HO.tok 4 ((((l.take i).map A6).map Ag).length+([[vs l[i].path,vi l[i].ver.a,vi l[i].ver.b,vi l[i].ver.c]]:List (List AV)).length)=.tok 4 (((l.take (i+1)).map A6).map Ag).length from Aa (HO.tok 4) (Ac.symm.trans (Aa List.length ew))),rfl⟩,Tv⟩,Fh,Tv⟩
 have h1:¬((i:Int)<((l.map Aq).length:Int)):=h1;have n1:=DC h1;exact D7.of_eq (show sl Ag ((l.take i).map A6)=sl Ag (l.map A6) by rw[As (BI (DC h1))])
theorem SP(p:α->Bool)(a b:List α):kept p (a++b)=kept p a++kept p b:=by unfold kept;rw[Fw]
theorem ZG(h:i<a.length)(q:decide (a[i]∈b)=true):AT (a.take (i+1)) b=AT (a.take i) b:=by
 rw[GU h,AT,SP];unfold kept;rw[Nh (by show ¬(!decide (a[i]∈b))=true;rw[q];decide),Pr,BR]
theorem Vr(h:i<a.length)(q:decide (a[i]∈b)=false):AT (a.take (i+1)) b=AT (a.take i) b++[a[i]]:=by
 rw[GU h,AT,SP]
 congr 1
 unfold kept;rw[Ni (by show(!decide (a[i]∈b))=true;rw[q];rfl),Pr]
theorem Rf{s:Sl}{k:Nat}(h:k<b.length):decide (s∈b.take (k+1))=(decide (s∈b.take k)||decide (s=b[k])):=by
 rw[GU h,<-Bool.decide_or];exact decide_eq_decide.2 (By.trans (or_congr_right Bh))
theorem eC(a b:List Sl)(ha:CC a)(hb:CC b):PC 51 [sl Ag a,sl Ag b] (sl Ag (AT a b)):=by
 have qY:a.length<=1073741824:=ha;have lX:b.length<=1073741824:=hb;refine Ps Dj Tryz.func51 rfl (Nz rfl) (Xi {q:Nat // q<=a.length} (Xi (fun q=>⟨[(0,sl Ag a),(1,sl Ag b),(5,.slice (.id 9 4) ((AT (a.take q.1) b).map Ag)),(6,vi q.1)],[(9,.tok 4 (AT (a.take q.1) b).length)],Ao⟩) (Xi (fun q=>a.length-q.1) (Yi (Xi ⟨0,Ar _⟩ ?_) ?_))))
 .exact⟨Z4,Z1,Fh,Tv⟩
 intro⟨i,i1⟩;have i1:i<=a.length:=i1;have sE:(AT (a.take i) b).length<=a.length:=AP (Hi _ _) (by rw[Al];omega);refine Yi (fun h1=>?_) (fun h1=>?_)
 .have h1:(i:Int)<((a.map Ag).length:Int):=h1;have n1:=FL h1;refine Xi {q:Nat // q<=b.length} (Xi (fun q=>⟨[(0,sl Ag a),(1,sl Ag b),(5,.slice (.id 9 4) ((AT (a.take i) b).map Ag)),(6,vi i),(7,vb (decide (a[i]∈b.take q.1))),(8,vi q.1)],[(9,.tok 4 (AT (a.take i) b).length)],Ao⟩) (Xi (fun q=>b.length-q.1) (Yi (Xi ⟨0,Ar _⟩ ?_) ?_)))
  .exact⟨⟨Zr,Zr,Zr,Zr,⟨(Aa vb (Ae (fun h=>absurd h Gs)).symm),rfl⟩,Zr,Tv⟩,Z1,Fh,Tv⟩
  intro⟨k,k1⟩;have k1:k<=b.length:=k1;refine Bn (Bt (decide (a[i]∈b.take k))) (fun h2=>?_) (fun h2=>?_)
  .have h2:(decide (a[i]∈b.take k))=true:=h2;refine XV (Aa (fun bb=>(⟨[(0,sl Ag a),(1,sl Ag b),(5,.slice (.id 9 4) ((AT (a.take i) b).map Ag)),(6,vi i),(7,vb bb),(8,vi k)],[(9,.tok 4 (AT (a.take i) b).length)],Ao⟩:LS)) h2) (Yi (fun h3=>?_) (fun h3=>?_))
   .have h3:(k:Int)<((b.map Ag).length:Int):=h3;have n3:=FL h3;refine Yi sT (Yi (Ii k sP) ?_);have en:=Rf (s:=a[i]) n3;rw[h2]at en;refine Xi ⟨k+1,n3⟩ ?_;exact⟨Dl b.length k sP,⟨Zr,Zr,Zr,Zr,⟨(show vb true=vb (decide (a[i]∈b.take (k+1))) by rw[en];rfl),rfl⟩,Zr,Tv⟩,Z1,Fh,Tv⟩
   have h3:¬((k:Int)<((b.map Ag).length:Int)):=h3;have n3:=DC h3;refine Yi (Ii i sP) ?_;have Wv:decide (a[i]∈b)=true:=by have q:=h2;rw[As (BI (DC h3))]at q;exact q
   refine Xi ⟨i+1,n1⟩ ?_;exact⟨Dl a.length i sP,⟨Zr,Zr,⟨(show AV.slice (.id 9 4) ((AT (a.take i) b).map Ag)=.slice (.id 9 4) ((AT (a.take (i+1)) b).map Ag) by rw[ZG n1 Wv]),rfl⟩,Zr,Tv⟩,⟨⟨(show HO.tok 4 (AT (a.take i) b).length=.tok 4 (AT (a.take (i+1)) b).length by rw[ZG n1 Wv]),rfl⟩,Tv⟩,Fh,Tv⟩
  have h2:(decide (a[i]∈b.take k))=false:=h2;refine XV (Aa (fun bb=>(⟨[(0,sl Ag a),(1,sl Ag b),(5,.slice (.id 9 4) ((AT (a.take i) b).map Ag)),(6,vi i),(7,vb bb),(8,vi k)],[(9,.tok 4 (AT (a.take i) b).length)],Ao⟩:LS)) h2) (Yi (fun h6=>?_) (fun h6=>?_))
  .have h6:(k:Int)<((b.map Ag).length:Int):=h6;have n6:=FL h6;refine Xi (Ag a[i]) (Yi (GR n1) (Yi rfl (yN (Xi (Ag b[k]) (Yi (GR n6) (Yi rfl (yN (Yi (fun h7=>?_) (fun h7=>?_)))))))))
   .have h7:(a[i].path:ByteArray)=b[k].path/\(a[i].ver.a:Int)=b[k].ver.a/\(a[i].ver.b:Int)=b[k].ver.b/\(a[i].ver.c:Int)=b[k].ver.c/\True:=h7;refine Yi sT (Yi (Ii k sP) ?_);have en:=Rf (s:=a[i]) n6;have nD:decide (a[i]=b[k])=true:=Ah (aA.1 h7);rw[h2,nD]at en;refine Xi ⟨k+1,n6⟩ ?_;exact⟨Dl b.length k sP,⟨Zr,Zr,Zr,Zr,⟨(show vb true=vb (decide (a[i]∈b.take (k+1))) by rw[en];rfl),rfl⟩,Zr,Tv⟩,Z1,Fh,Tv⟩
   have h7:¬((a[i].path:ByteArray)=b[k].path/\(a[i].ver.a:Int)=b[k].ver.a/\(a[i].ver.b:Int)=b[k].ver.b/\(a[i].ver.c:Int)=b[k].ver.c/\True):=h7;refine Yi sT (Yi (Ii k sP) ?_);have en:=Rf (s:=a[i]) n6;have nD:decide (a[i]=b[k])=false:=Ae (fun e=>h7 (aA.2 e));rw[h2,nD]at en;refine Xi ⟨k+1,n6⟩ ?_;exact⟨Dl b.length k sP,⟨Zr,Zr,Zr,Zr,⟨(show vb false=vb (decide (a[i]∈b.take (k+1))) by rw[en];rfl),rfl⟩,Zr,Tv⟩,Z1,Fh,Tv⟩
  have h6:¬((k:Int)<((b.map Ag).length:Int)):=h6;have n6:=DC h6;refine Xi (Ag a[i]) (Yi (GR n1) (Yi rfl (yN (Yi (jq rfl sP sR) (Yi (Ii i sP) ?_)))));have Wv:decide (a[i]∈b)=false:=by have q:=h2;rw[As (BI (DC h6))]at q;exact q
  refine Xi ⟨i+1,n1⟩ ?_;exact⟨Dl a.length i sP,⟨Zr,Zr,⟨(show AV.slice (.id 9 4) (((AT (a.take i) b).map Ag)++[(Ag a[i])])=.slice (.id 9 4) ((AT (a.take (i+1)) b).map Ag) by rw[Vr n1 Wv,AK];rfl),rfl⟩,Zr,Tv⟩,⟨⟨(show HO.tok 4 (((AT (a.take i) b).map Ag).length+([(Ag a[i])]:List (List AV)).length)=.tok 4 (AT (a.take (i+1)) b).length by rw[Vr n1 Wv,Ac];rw[Lm];rfl),rfl⟩,Tv⟩,Fh,Tv⟩
 have h1:¬((i:Int)<((a.map Ag).length:Int)):=h1;have n1:=DC h1;exact D7.of_eq (show sl Ag (AT (a.take i) b)=sl Ag (AT a b) by rw[As (BI (DC h1))])
theorem ip(l:List Cp)(s:List Sl)(hl:CC l)(hs:CC s)(hp:∀c∈l,CT c.path):PC 19 [sl Aq l,sl Ag s] (lQ (GP l s)):=by
 refine Ps Dj Tryz.func19 rfl (Nz rfl) (Xi .pure (Xi _ (Yi (aS l hl hp) (Yi (fun h1=>?_) (fun h1=>?_)))))
 .have h1:((CD l):Int)≠(0:Int):=h1;have e:GP l s=([],[],CD l):=by rw[GP,Av h1]
  rw[e];exact .tup ⟨.nil,.nil,.refl _,trivial⟩
 have h1:((CD l):Int)=(0:Int):=Ax h1;refine Bn (Bt (Bw s)) (fun h3=>?_) (fun h3=>?_)
 .have h3:(Bw s)=true:=h3;refine Xi .pure (Xi _ (Yi (cb h3 (c80 s hs)) (Xi .pure (Xi _ (Yi (eE l hl) (Xi .pure (Xi _ (Yi (eC s (l.map A6) hs (I0 hl)) (Xi .pure (Xi _ (Yi (eE l hl) (Xi .pure (Xi _ (Yi (eC (l.map A6) s (I0 hl) hs) ?_))))))))))))));exact D7.of_eq (show AV.tup [sl Ag (AT s (l.map A6)),sl Ag (AT (l.map A6) s),vi 0]=lQ (GP l s) by rw[GP,Aj (fun c=>c h1),Av h3])
 have h3:(Bw s)=false:=h3;refine Xi .pure (Xi _ (Yi (cb h3 (c80 s hs)) ?_));have e:GP l s=([],[],1):=by rw[GP,Aj (fun c=>c h1),Aj (by rw[h3];decide)]
 rw[e];exact .tup ⟨.nil,.nil,.refl _,trivial⟩
theorem lG(l:List Cp)(hx:∀r∈x,KF r)(dZ:CC x)(hl:CC l)(hp:∀c∈l,CT c.path)(hb:∀c∈l,c.bytes.size<=100000000)(cm:CC ifs)(l4:∀c∈ifs,c.length=5):PC 17 [.agg (Ic x ifs),sl Aq l] (Rt x ifs l):=by
 have Ww:l.length<=1073741824:=hl;have cm:ifs.length<=1073741824:=cm;refine Ps ⟨[2],[],[],[],[],[],[],[(8,(7,0,48,9))],[],[],[6,11,17,19]⟩ Tryz.func17 rfl (Nz rfl) (yN (Xi .pure (Xi _ (Yi (nh x ifs hx) (Yi (fun h1=>?_) (fun h1=>?_))))))
 .have h1:((BA x):Int)≠(0:Int):=h1;refine yN (yN ?_);exact Gl (by rw[EO,Av h1]) sR
 have h1:((BA x):Int)=(0:Int):=Ax h1;refine Xi .pure (Xi _ (Yi (aS l hl hp) (Yi (fun h3=>?_) (fun h3=>?_))))
 .have h3:((CD l):Int)≠(0:Int):=h3;refine yN (yN ?_);exact Gl (by rw[EO,Aj (fun c=>c h1),Av h3]) h3
 have h3:((CD l):Int)=(0:Int):=Ax h3;refine cU [(1,sl Aq l),(2,.ref 2 0),(4,.ref 4 0)] [(2,.ro (Ic x ifs)),(4,.cells [nzA,nzA])] Z3 Z2 ?_
 have b5:Cn 5 ifs/\([]:List (List AV)).length=0/\(([]:List (List AV)).length+(ifs:List (List AV)).length)*112<=140737488355328/\([]:List (List AV)).length+(ifs:List (List AV)).length<=9223372036854775807:=⟨(HJ l4),(by first | (simp;done) | (rw[Lm];assumption)),(by simp only[Aw];omega),(by simp only[Aw];omega)⟩
 refine Yi b5 (yN (Xi {q:Nat×List Rl // q.1<=l.length/\FX x (l.take q.1)=some q.2} (Xi (fun q=>⟨[(1,sl Aq l),(2,.ref 2 0),(4,.ref 4 0),(7,.ref 7 0),(8,vi q.1.1)],[(2,.ro (Ic x ifs)),(4,.cells [nzA,nzA]),(7,.cells [.slice (.id 48 9) (q.1.2.map Bb),.slice (.id 22 5) ([]++ifs)]),(22,.tok 5 (([]:List (List AV)).length+(ifs:List (List AV)).length)),(48,.tok 9 q.1.2.length)],Ao⟩) (Xi (fun q=>l.length-q.1.1) (Yi (Xi ⟨(0,[]),Ar _,rfl⟩ ?_) ?_)))))
 .exact⟨Z5,Z5,Fh,Tv⟩
 intro⟨⟨i,N⟩,i1,i2⟩;have i1:i<=l.length:=i1;have i2:FX x (l.take i)=some N:=i2;have i3:N.length<=l.length:=by rw[H4 i2,Al];omega
 refine Yi (fun h6=>?_) (fun h6=>?_)
 .have h6:(i:Int)<((l.map Aq).length:Int):=h6;have n6:=FL h6;refine yN (Xi (Aq l[i]) (Yi (GR n6) (Yi rfl (Xi (Aq l[i]) (Yi (GR n6) (Yi rfl (yN (Bn (H6 (CM x (A6 l[i]))) (fun h7=>?_) (fun h7=>?_)))))))))
  .refine BF h7 (fun r h7=>?_);have Y2:=lP x ifs l[i].path l[i].ver hx dZ;rw[h7]at Y2;refine Xi _ (Yi Y2 (yN (Yi sT (cU [(1,sl Aq l),(2,.ref 2 0),(4,.ref 4 0),(7,.ref 7 0),(8,vi i),(9,.ref 9 0),(10,vb true)] [(2,.ro (Ic x ifs)),(4,.cells [nzA,nzA]),(7,.cells [.slice (.id 48 9) (N.map Bb),.slice (.id 22 5) ([]++ifs)]),(9,.cells (Bb r)),(22,.tok 5 (([]:List (List AV)).length+(ifs:List (List AV)).length)),(48,.tok 9 N.length)] Z7 Z6 (yN (yN (Yi (jq rfl sP sR) (yN (Yi (Ii i sP) (Xi ⟨(i+1,N++[{ r with yanked:=false }]),n6,Qd n6 i2 (by rw[JN,h7];rfl)⟩ ?_))))))))));exact⟨Dl l.length i sP,Z5,⟨Zr,Zr,⟨(show HO.cells [.slice (.id 48 9) ((N.map Bb)++[[vs r.path,vi r.ver.a,vi r.ver.b,vi r.ver.c,sl BU r.reqs,vs r.arch,vs r.ifc,vs r.cert,vb false]]),.slice (.id 22 5) ([]++ifs)]=.cells [.slice (.id 48 9) ((N++[({ r with yanked:=false }:Rl)]).map Bb),.slice (.id 22 5) (([]:List (List AV))++ifs)] by rw[AK];rfl),rfl⟩,Zr,⟨l5,rfl⟩,Tv⟩,Fh,Tv⟩
  have Y2:=lP x ifs l[i].path l[i].ver hx dZ;rw[h7]at Y2;refine Xi _ (Yi Y2 (yN (Yi sT (cU [(1,sl Aq l),(2,.ref 2 0),(4,.ref 4 0),(7,.ref 7 0),(8,vi i),(9,.ref 9 0),(10,vb false)] [(2,.ro (Ic x ifs)),(4,.cells [nzA,nzA]),(7,.cells [.slice (.id 48 9) (N.map Bb),.slice (.id 22 5) ([]++ifs)]),(9,.cells [vs ⟨#[]⟩,vi 0,vi 0,vi 0,nzA,vs ⟨#[]⟩,vs ⟨#[]⟩,vs ⟨#[]⟩,vb false]),(22,.tok 5 (([]:List (List AV)).length+(ifs:List (List AV)).length)),(48,.tok 9 N.length)] Z7 Z6 (yN (yN ?_))))));exact Gl (by rw[EO,Aj (fun c=>c h1),Aj (fun c=>c h3),Qe n6 (by rw[JN,h7];rfl)]) sR
 have h6:¬((i:Int)<((l.map Aq).length:Int)):=h6;have n6:=DC h6;have i4:FX x l=some N:=by rw[As (BI (DC h6))]at i2;exact i2
 have i5:N.length=l.length:=H4 i4;refine Xi {q:Nat // q<=l.length/\∀j (h1:j<l.length) (h2:j<N.length),j<q->Bu l[j].bytes=N[j].arch} (Xi (fun q=>⟨[(1,sl Aq l),(4,.ref 4 0),(7,.ref 7 0),(11,vi q.1)],[(4,.cells [nzA,nzA]),(7,.cells [.slice (.id 48 9) (N.map Bb),.slice (.id 22 5) ([]++ifs)]),(22,.tok 5 (([]:List (List AV)).length+(ifs:List (List AV)).length)),(48,.tok 9 N.length)],Ao⟩) (Xi (fun q=>l.length-q.1) (Yi (Xi ⟨0,Ar _,fun _ _ _ h=>absurd h (Dr _)⟩ ?_) ?_)))
 .exact⟨Z4,Z4,Fh,Tv⟩
 intro⟨k,k1,k2⟩;have k1:k<=l.length:=k1;have k2:∀j (h1:j<l.length) (h2:j<N.length),j<k->Bu l[j].bytes=N[j].arch:=k2;refine Yi (fun NU=>?_) (fun NU=>?_)
 .have NU:(k:Int)<((l.map Aq).length:Int):=NU;have n11:=FL NU;have nN:k<N.length:=by have q:=FL NU;omega
  refine Xi (Aq l[k]) (Yi (GR n11) (Yi rfl (Xi _ (Yi (eF l[k].bytes (AP (hb _ (Af n11)) sR)) (Xi (Bb N[k]) (Yi (GR nN) (Yi rfl (Yi (fun Pd=>?_) (fun Pd=>?_)))))))))
  .have Pd:((Bu l[k].bytes):ByteArray)≠N[k].arch:=Pd;refine Yi sT (cU [(4,.ref 4 0)] [(4,.cells [nzA,nzA])] Z1 Z1 (yN (yN ?_)));exact Gl (by rw[EO,Aj (fun c=>c h1),Aj (fun c=>c h3),i4];show(if IE l N=true then _ else _)=_;rw[Qr n11 sP Pd];rfl) sR
  have Pd:((Bu l[k].bytes):ByteArray)=N[k].arch:=Ax Pd;refine Yi sT (cU [(1,sl Aq l),(4,.ref 4 0),(7,.ref 7 0),(11,vi k)] [(4,.cells [nzA,nzA]),(7,.cells [.slice (.id 48 9) (N.map Bb),.slice (.id 22 5) ([]++ifs)]),(22,.tok 5 (([]:List (List AV)).length+(ifs:List (List AV)).length)),(48,.tok 9 N.length)] Z4 Z4 (Yi (Ii k sP) (Xi ⟨k+1,n11,fun j g1 g2 g3=>by rcases Be j k with g4 | g4;exact k2 j g1 g2 g4;have e:j=k:=sP;subst e;exact Pd⟩ ?_)));exact⟨Dl l.length k sP,Z4,Z4,Fh,Tv⟩
 have NU:¬((k:Int)<((l.map Aq).length:Int)):=NU;have n11:=DC NU;refine yN (yN (yN ?_));have e:EO x l=(N,0):=by rw[EO,Aj (fun c=>c h1),Aj (fun c=>c h3),i4];show(if IE l N=true then _ else _)=_;rw[Qq sP k2 (BI (DC NU))];rfl
 exact D7.of_eq (show AV.tup [.agg [sl Bb N,.slice .none ([]++ifs)],vi 0]=Rt x ifs l by rw[Rt,e];rfl)
instance:DecidableEq Rq:=fun x y=>decidable_of_iff (x.path=y.path/\x.set=y.set) ⟨fun⟨h1,h2⟩=>by cases x;cases y;simp_all,fun h=>by subst h;exact Zr⟩
instance:DecidableEq Rl:=fun x y=>decidable_of_iff (x.path=y.path/\x.ver=y.ver/\x.reqs=y.reqs/\x.arch=y.arch/\x.ifc=y.ifc/\x.cert=y.cert/\x.yanked=y.yanked) ⟨fun⟨h1,h2,h3,h4,h5,h6,h7⟩=>by cases x;cases y;simp_all,fun h=>by subst h;exact⟨rfl,rfl,rfl,rfl,rfl,rfl,rfl⟩⟩
theorem lw{a b:Rq}(h1:a.path=b.path)(h2:a.set=b.set):a=b:=by cases a;cases b;simp_all
theorem eu{a b:Rl}(h1:a.path=b.path)(h2:a.ver=b.ver)(h3:a.arch=b.arch)(h4:a.ifc=b.ifc)(h5:a.cert=b.cert)(h6:a.yanked=b.yanked)(h7:a.reqs=b.reqs):a=b:=by cases a;cases b;simp_all
theorem aJ{a b:Ver}(h:a.a=b.a/\a.b=b.b/\a.c=b.c/\True):a=b:=by cases a;cases b;simp_all
theorem hO{a b:Ver}(h:¬(a.a=b.a/\a.b=b.b/\a.c=b.c/\True)):a≠b:=fun e=>h (by subst e;exact⟨rfl,rfl,rfl,trivial⟩)
theorem Vn{a b:List α}(hl:a.length=b.length)(h:∀j (hj:j<a.length),a[j]=b[j]'(hl▸hj)):a=b:=List.ext_getElem hl fun j h1 _=>h j h1
theorem XS{a b:List α}{ha:i<a.length}{hb:i<b.length}(h:a[i]≠b[i]):a≠b:=fun e=>by subst e;exact h rfl
theorem mi(a b:List Rq)(ha:CC a)(hs:∀q∈a,CC q.set):PC 97 [sl BU a,sl BU b] (vb (decide (a=b))):=by
 have q8:a.length<=1073741824:=ha;refine Ps Dj Tryz.func97 rfl (Nz rfl) (Yi (fun h1=>?_) (fun h1=>?_))
 .exact .of_eq (show vb false=vb (decide (a=b)) by rw[Ae (fun e=>absurd (Aa (fun z=>((z.map BU).length:Int)) e) h1)])
 have h1:((a.map BU).length:Int)=((b.map BU).length:Int):=Ax h1;have hl:a.length=b.length:=by have q:=h1;rw[Lm,Lm]at q;omega
 refine Xi {q:Nat // q<=a.length/\∀j (hj:j<a.length),j<q->a[j]=b[j]'(hl▸hj)} (Xi (fun q=>⟨[(0,sl BU a),(1,sl BU b),(5,vi q.1)],[],Ao⟩) (Xi (fun q=>a.length-q.1) (Yi (Xi ⟨0,Ar _,fun _ _ h=>absurd h (Dr _)⟩ ?_) ?_)))
 .exact⟨Z3,Tv,Fh,Tv⟩
 intro⟨i,i1,i2⟩;refine Yi (fun h3=>?_) (fun h3=>?_)
 .have h3:(i:Int)<((a.map BU).length:Int):=h3;have n3:=FL h3;have fU:i<b.length:=by have q:=h3;rw[Lm]at q;omega
  refine Xi (BU a[i]) (Yi (GR n3) (Yi rfl (Xi (BU b[i]) (Yi (GR fU) (Yi rfl (Yi (fun h5=>?_) (fun h5=>?_)))))))
  .refine Yi sT ?_;exact .of_eq (show vb false=vb (decide (a=b)) by rw[Ae (XS (i:=i) (ha:=n3) (hb:=fU) (fun e=>h5 (Aa Rq.path e)))])
  have h5:(a[i].path:ByteArray)=b[i].path:=Ax h5;refine Xi (BU a[i]) (Yi (GR n3) (Yi rfl (Xi (BU b[i]) (Yi (GR fU) (Yi rfl (Bn (Bt (decide (a[i].set=b[i].set))) (fun h7=>?_) (fun h7=>?_)))))))
  .refine Xi _ (Yi (cb h7 (c75 a[i].set b[i].set (hs _ (Af n3)))) (Yi sT (Yi (Ii i sP) ?_)));refine Xi ⟨i+1,n3,fun j hj Gn=>if e:j<i then i2 j hj e else by
     have e:j=i:=by omega
     subst e;exact lw h5 (AZ h7)⟩ ?_
   exact⟨Dl a.length i sP,Z3,Tv,Fh,Tv⟩
  have h7:(decide (a[i].set=b[i].set))=false:=h7;refine Xi _ (Yi (cb h7 (c75 a[i].set b[i].set (hs _ (Af n3)))) (Yi sT ?_));exact .of_eq (show vb false=vb (decide (a=b)) by rw[Ae (XS (i:=i) (ha:=n3) (hb:=fU) (fun e=>FA h7 (Aa Rq.set e)))])
 have h3:¬((i:Int)<((a.map BU).length:Int)):=h3;have n3:=DC h3;exact .of_eq (show vb true=vb (decide (a=b)) by rw[Ah (Vn hl fun j hj=>i2 j hj (by have q:=h3;rw[Lm]at q;omega))])
theorem qm(r s:Rl)(hr:CC r.reqs)(hs:∀q∈r.reqs,CC q.set):PC 55 [.agg (Bb r),.agg (Bb s)] (vb (decide (r=s))):=by
 refine Ps (pC [2,3] []) Tryz.func55 rfl (Nz rfl) (Yi (fun h1=>?_) (fun h1=>?_))
 .refine yN (yN (Yi (fun h2=>?_) (fun h2=>?_)))
  .refine Yi (fun h3=>?_) (fun h3=>?_)
   .refine Yi (fun h4=>?_) (fun h4=>?_)
    .refine Yi (fun h5=>?_) (fun h5=>?_)
     .refine Yi (fun h6=>?_) (fun h6=>?_)
      .refine Yi (fun h7=>?_) (fun h7=>?_)
       .refine Bn (Bt (decide (r.reqs=s.reqs))) (fun h8=>?_) (fun h8=>?_)
        .refine Xi .pure (Xi _ (Yi (cb h8 (mi r.reqs s.reqs hr hs)) ?_));exact .of_eq (show vb true=vb (decide (r=s)) by rw[Ah (eu h1 (aJ h2) h3 h4 h5 (by rw[h6,h7]) (AZ h8))])
        refine Xi .pure (Xi _ (Yi (cb h8 (mi r.reqs s.reqs hr hs)) ?_));exact .of_eq (show vb false=vb (decide (r=s)) by rw[Ae (fun e=>FA h8 (Aa Rl.reqs e))])
       exact .of_eq (show vb false=vb (decide (r=s)) by rw[Ae (fun e=>by have q:=Aa Rl.yanked e;rw[h6,h7]at q;cases q)])
      refine Yi (fun Kn=>?_) (fun Kn=>?_)
      .exact .of_eq (show vb false=vb (decide (r=s)) by rw[Ae (fun e=>by have q:=Aa Rl.yanked e;rw[h6,Kn]at q;cases q)])
      refine Bn (Bt (decide (r.reqs=s.reqs))) (fun Uk=>?_) (fun Uk=>?_)
      .refine Xi .pure (Xi _ (Yi (cb Uk (mi r.reqs s.reqs hr hs)) ?_));exact .of_eq (show vb true=vb (decide (r=s)) by rw[Ah (eu h1 (aJ h2) h3 h4 h5 (by rw[h6,Kn]) (AZ Uk))])
      refine Xi .pure (Xi _ (Yi (cb Uk (mi r.reqs s.reqs hr hs)) ?_));exact .of_eq (show vb false=vb (decide (r=s)) by rw[Ae (fun e=>FA Uk (Aa Rl.reqs e))])
     exact .of_eq (show vb false=vb (decide (r=s)) by rw[Ae (fun e=>h5 (Aa Rl.cert e))])
    exact .of_eq (show vb false=vb (decide (r=s)) by rw[Ae (fun e=>h4 (Aa Rl.ifc e))])
   exact .of_eq (show vb false=vb (decide (r=s)) by rw[Ae (fun e=>h3 (Aa Rl.arch e))])
  exact .of_eq (show vb false=vb (decide (r=s)) by rw[Ae (fun e=>hO h2 (Aa Rl.ver e))])
 exact .of_eq (show vb false=vb (decide (r=s)) by rw[Ae (fun e=>h1 (Aa Rl.path e))])
theorem rW(a b:List Rl)(ha:CC a)(hr:∀r∈a,CC r.reqs/\∀q∈r.reqs,CC q.set):PC 22 [sl Bb a,sl Bb b] (vb (decide (a=b))):=by
 have q8:a.length<=1073741824:=ha;refine Ps Dj Tryz.func22 rfl (Nz rfl) (Yi (fun h1=>?_) (fun h1=>?_))
 .exact .of_eq (show vb false=vb (decide (a=b)) by rw[Ae (fun e=>absurd (Aa (fun z=>((z.map Bb).length:Int)) e) h1)])
 have h1:((a.map Bb).length:Int)=((b.map Bb).length:Int):=Ax h1;have hl:a.length=b.length:=by have q:=h1;rw[Lm,Lm]at q;omega
 refine Xi {q:Nat // q<=a.length/\∀j (hj:j<a.length),j<q->a[j]=b[j]'(hl▸hj)} (Xi (fun q=>⟨[(0,sl Bb a),(1,sl Bb b),(5,vi q.1)],[],Ao⟩) (Xi (fun q=>a.length-q.1) (Yi (Xi ⟨0,Ar _,fun _ _ h=>absurd h (Dr _)⟩ ?_) ?_)))
 .exact⟨Z3,Tv,Fh,Tv⟩
 intro⟨i,i1,i2⟩;refine Yi (fun h3=>?_) (fun h3=>?_)
 .have h3:(i:Int)<((a.map Bb).length:Int):=h3;have n3:=FL h3;have fU:i<b.length:=by have q:=h3;rw[Lm]at q;omega
  refine Xi (Bb a[i]) (Yi (GR n3) (Yi rfl (yN (Xi (Bb b[i]) (Yi (GR fU) (Yi rfl (yN (Bn (Bt (decide (a[i]=b[i]))) (fun h4=>?_) (fun h4=>?_)))))))))
  .refine Xi _ (Yi (cb h4 (qm a[i] b[i] (hr _ (Af n3)).1 (hr _ (Af n3)).2)) (Yi sT (Yi (Ii i sP) ?_)));refine Xi ⟨i+1,n3,fun j hj Gn=>if e:j<i then i2 j hj e else by
     have e:j=i:=by omega
     subst e;exact AZ h4⟩ ?_
   exact⟨Dl a.length i sP,Z3,Tv,Fh,Tv⟩
  refine Xi _ (Yi (cb h4 (qm a[i] b[i] (hr _ (Af n3)).1 (hr _ (Af n3)).2)) (Yi sT ?_));exact .of_eq (show vb false=vb (decide (a=b)) by rw[Ae (XS (i:=i) (ha:=n3) (hb:=fU) (FA h4))])
 have h3:¬((i:Int)<((a.map Bb).length:Int)):=h3;have n3:=DC h3;exact .of_eq (show vb true=vb (decide (a=b)) by rw[Ah (Vn hl fun j hj=>i2 j hj (by have q:=h3;rw[Lm]at q;omega))])
theorem Tn{x:List Rl}:∀{l:List Cp} {N:List Rl},FX x l=some N->∀r∈N,∃z∈x,r.reqs=z.reqs
 | [],N,h=>by cases h;exact fun r hr=>absurd hr Gs
 |y::s,N,h=>by
  have h:(JN x y).bind (fun c=>(FX x s).map (c :: ·))=some N:=h;cases hc:JN x y with
  |none=>rw[hc]at h;cases h
  |some c=>
   rw[hc]at h;have h:(FX x s).map (c :: ·)=some N:=h;obtain⟨M,h1,rfl⟩:=Ay.1 h;obtain⟨z,h2,rfl⟩:=Ay.1 hc;intro r hr;rcases AS.1 hr with rfl | hr
   .exact⟨z,(PO h2).2.1,rfl⟩
   .exact Tn h1 r hr
theorem ZR{x:List Rl}(hL:bq x [])(hl:CC l):CC (EO x l).1/\∀r∈(EO x l).1,CC r.reqs/\∀q∈r.reqs,CC q.set:=by
 have hz:CC ([]:List Rl)/\∀r∈([]:List Rl),CC r.reqs/\∀q∈r.reqs,CC q.set:=⟨Ar _,fun r hr=>absurd hr Gs⟩;unfold EO;split
 .exact hz
 split
 .exact hz
 cases h:FX x l with
 |none=>exact hz
 |some N=>
  show CC (if IE l N=true then(N,(0:Int))else([],9)).1/\∀r∈(if IE l N=true then(N,(0:Int))else([],9)).1,CC r.reqs/\∀q∈r.reqs,CC q.set;split
  .refine⟨AP (Nat.le_of_eq (H4 h)) hl,fun r hr=>?_⟩;obtain⟨z,hz,e⟩:=Tn h r hr;have e:r.reqs=z.reqs:=e;rw[e];exact⟨(hL.rel z hz).1,fun q hq=>((hL.rel z hz).2.2 q hq).1⟩
  .exact hz
theorem bQ{s:List Sl}(hl:CC l)(hs:CC s):CC (GP l s).1/\CC (GP l s).2.1:=by
 have hz:CC ([]:List Sl):=Ar _;unfold GP;split
 .exact⟨hz,hz⟩
 split
 .exact⟨Td _ hs,Td _ (I0 hl)⟩
 .exact⟨hz,hz⟩
theorem oR(l:List Cp)(s:List Sl)(hL:bq x [])(hl:CC l)(hs:CC s)(cm:CC ifs)(l4:∀c∈ifs,c.length=5):PC 4 [.agg (Ic x ifs),sl Aq l,sl Ag s] (vb true):=by
 refine Ps (pC [3] [4,5,7,9]) Tryz.func4 rfl (Nz rfl) (Xi .pure (Xi _ (Yi Hg (yN (Bn (Bt (E0 x 16&&D6 [])) (fun h1=>?_) (fun h1=>?_))))))
 .have h1:(E0 x 16&&D6 [])=true:=h1;refine Xi .pure (Xi _ (Yi (cb h1 ((hL.c11 ifs).args ⟨.refl _,.nil,trivial⟩)) (Bn (Bt (Gv l)) (fun h2=>?_) (fun h2=>?_))))
  .have h2:(Gv l)=true:=h2;have hf:=KX h2;have ho:=ZR (x:=x) hL hl;have hd:=bQ hl hs;refine Xi .pure (Xi _ (Yi (cb h2 (JU l hl)) (Yi (fun h3=>?_) (fun h3=>?_))))
   .have h3:(20:Int)<((s.map Ag).length:Int):=h3;have n3:20<s.length:=by have q:=h3;rw[Lm]at q;omega
    refine cU [] [] Tv Tv ?_
    exact .refl _
   have h3:¬((20:Int)<((s.map Ag).length:Int)):=h3;have n3:¬20<s.length:=by have q:=h3;rw[Lm]at q;omega
   refine cU [(1,sl Aq l),(2,sl Ag s),(3,.ref 3 0)] [(3,.ro (Ic x ifs))] Z3 Z1 (yN (Xi .pure (Xi _ (Yi (dD x ifs l hL.x hl hf.fewS hf.byts (qn ifs cm l4)) (yN (yN (Xi .pure (Xi _ (Yi (lG x ifs l hL.x hL.ix hl hf.fewS hf.byts cm l4) (yN (cU [(1,sl Aq l),(2,sl Ag s),(7,.ref 7 0),(8,vi (EO x l).2),(9,.ref 9 0),(10,vi (EO x l).2)] [(7,.cells [sl Bb (EO x l).1,.slice .none (if(EO x l).2=0 then ifs else [])]),(9,.cells [sl Bb (EO x l).1,.slice .none (if(EO x l).2=0 then ifs else [])])] Z6 Z2 (Xi .pure (Xi _ (Yi (QP l s hl hs hf.fewS) (Xi .pure (Xi _ (Yi (ip l s hl hs hf.fewS) (cU [(1,sl Aq l),(7,.ref 7 0),(8,vi (EO x l).2),(9,.ref 9 0),(10,vi (EO x l).2),(11,sl Ag (GP l s).1),(12,sl Ag (GP l s).2.1),(13,vi (GP l s).2.2),(14,sl Ag (GP l s).1),(15,sl Ag (GP l s).2.1),(16,vi (GP l s).2.2)] [(7,.cells [sl Bb (EO x l).1,.slice .none (if(EO x l).2=0 then ifs else [])]),(9,.cells [sl Bb (EO x l).1,.slice .none (if(EO x l).2=0 then ifs else [])])] Z11 Z2 (Xi .pure (Xi _ (Yi (GI l hl hf.fewS) (Xi .pure (Xi _ (Yi (aS l hl hf.fewS) (Yi (fun _=>?_) (fun hf=>absurd rfl hf))))))))))))))))))))))))));refine Xi .pure (Xi _ (Yi (show PC 22 _ (vb true)from by have q:=rW (EO x l).1 (EO x l).1 ho.1 ho.2;rw[Ah rfl]at q;exact q) (Yi (fun _=>?_) (fun hf=>absurd rfl hf))));refine Xi .pure (Xi _ (Yi (show PC 23 _ (vb true)from by have q:=pu (GP l s).1 (GP l s).1 hd.1;rw[Ah rfl]at q;exact q) (Xi .pure (Xi _ (Yi (show PC 23 _ (vb true)from by have q:=pu (GP l s).2.1 (GP l s).2.1 hd.2;rw[Ah rfl]at q;exact q) (Yi (fun _=>?_) (fun hf=>absurd rfl hf)))))));exact .refl _
  have h2:(Gv l)=false:=h2;refine Xi .pure (Xi _ (Yi (cb h2 (JU l hl)) (cU [] [] Tv Tv ?_)))
  exact .refl _
 have h1:(E0 x 16&&D6 [])=false:=h1;refine Xi .pure (Xi _ (Yi (cb h1 ((hL.c11 ifs).args ⟨.refl _,.nil,trivial⟩)) (cU [] [] Tv Tv ?_)))
 exact .refl _
end Go.Eng
namespace Go.Proofs
open Go.Shelf Go.RowKit Go.Lib Go.Sort
theorem Tryz.nan122(a:Int)(W:World):Calls Tryz.prog 122 #[.int .u8 a] W fun e w'=>e=.returned (.bool false)/\w'=W:=by
 go_enter Tryz.func122,Tryz.ntmps122
 go_wp2
 go_ret
 exact⟨rfl,rfl⟩
def cmpI(a b:Int):Int:=if a<b then -1 else if b<a then 1 else 0
theorem Tryz.cmp73(a b:Int)(W:World):Calls Tryz.prog 73 #[.int .u8 a,.int .u8 b] W fun e w'=>e=.returned (.int .i64 (cmpI a b))/\w'=W:=by
 unfold cmpI;rcases Int.lt_trichotomy a b with h | h | h
 .go_enter Tryz.func73,Tryz.ntmps73
  go_wp2_with (go_at_call 122;refine(Tryz.nan122 _ _).mono ?_;rintro e w' ⟨rfl,rfl⟩)
  go_ret
  exact⟨rfl,rfl⟩
 .subst h
  go_enter Tryz.func73,Tryz.ntmps73
  go_wp2_with (go_at_call 122;refine(Tryz.nan122 _ _).mono ?_;rintro e w' ⟨rfl,rfl⟩)
  go_ret
  exact⟨rfl,rfl⟩
 .go_enter Tryz.func73,Tryz.ntmps73
  go_wp2_with (go_at_call 122;refine(Tryz.nan122 _ _).mono ?_;rintro e w' ⟨rfl,rfl⟩)
  go_ret
  exact⟨rfl,rfl⟩
end Go.Proofs
namespace Go.Proofs
open Go.Shelf Go.RowKit Go.Lib Go.Sort
theorem cmpB_next{a b:List UInt8}{k:Nat}(h1:k<a.length)(h2:k<b.length):compareBytes (a.drop k) (b.drop k)=if a[k]<b[k]then -1 else if b[k]<a[k]then 1 else compareBytes (a.drop (k+1)) (b.drop (k+1)):=by
 rw[List.drop_eq_getElem_cons h1,List.drop_eq_getElem_cons h2,compareBytes]
def PostC(a b:ByteArray)(W:World)(e:Ending)(w' : World):Prop:=e=.returned (.int .i64 (compareBytes a.data.toList b.data.toList))/\w'=W
def RelC(a b:ByteArray)(i:Value):Prop:=∃k:Nat,k<=a.size/\k<=b.size/\i=.int .i64 k/\compareBytes a.data.toList b.data.toList=compareBytes (a.data.toList.drop k) (b.data.toList.drop k)
theorem Tryz.cmp33(a b:ByteArray)(p q ca cb:Nat)(W:World)(ha:a.size<=1073741824)
  (pO:∀i (h:i<a.size),W.cell? ⟨p,i,none⟩=some (.int .u8 (a[i].toNat:Int))) (pP:∀i (h:i<b.size),W.cell? ⟨q,i,none⟩=some (.int .u8 (b[i].toNat:Int))) :
  Calls Tryz.prog 33 #[.slice (some ⟨p,0,none⟩) a.size ca,.slice (some ⟨q,0,none⟩) b.size cb] W (PostC a b W):=by
 have HA:Hid (∀i (h:i<a.size),W.cell? ⟨p,i,none⟩=some (.int .u8 (a[i].toNat:Int))):=pO;have HB:Hid (∀i (h:i<b.size),W.cell? ⟨q,i,none⟩=some (.int .u8 (b[i].toNat:Int))):=pP
 clear pO pP
 go_enter Tryz.func33,Tryz.ntmps33
 go_wp2
 go_loop [11] (fun i=>RelC a b i) (fun i=>a.size-(intOf i).toNat)
 case atStart=>exact⟨0,Nat.zero_le _,Nat.zero_le _,rfl,rfl⟩
 case round=>
  obtain⟨k,iJ,Gp,rfl,hE⟩:=hrel;have HE:Hid (compareBytes a.data.toList b.data.toList=compareBytes (a.data.toList.drop k) (b.data.toList.drop k)):=hE
  clear hE
  by_cases h1:k<a.size
  .have c1:=HA.out k h1
   by_cases h2:k<b.size
   .have c2:=HB.out k h2;have hn:compareBytes a.data.toList b.data.toList=if a[k]<b[k]then -1 else if b[k]<a[k]then 1 else compareBytes (a.data.toList.drop (k+1)) (b.data.toList.drop (k+1)):=HE.out.trans (cmpB_next (a:=a.data.toList) (b:=b.data.toList) h1 h2)
    have HN:Hid _:=hn
    clear hn HE
    rcases Nat.lt_trichotomy a[k].toNat b[k].toNat with h3 | h3 | h3
    .go_wp2_with (go_at_call 73;refine(Tryz.cmp73 _ _ _).mono ?_;rintro e w' ⟨rfl,rfl⟩;rw[show cmpI (a[k].toNat:Int) (b[k].toNat:Int)=-1 from if_pos Go.Eng.sP])
     go_ret
     exact⟨by rw[HN.out,if_pos (show a[k]<b[k]from h3)];rfl,rfl⟩
    .have qR:Hid (cmpI (a[k].toNat:Int) (b[k].toNat:Int)=0):=by show cmpI _ _=0;unfold cmpI;rw[if_neg Go.Eng.sP,if_neg Go.Eng.sP]
     have qS:Hid (a[k].toNat=b[k].toNat):=h3
     clear h3
     go_wp2_with (go_at_call 73;refine(Tryz.cmp73 _ _ _).mono ?_;rintro e w' ⟨rfl,rfl⟩;rw[qR.out])
     go_round
     case rel=>exact⟨k+1,by omega,by omega,by go_num,by have h3:=qS.out;rw[HN.out,if_neg (fun c:a[k]<b[k]=>absurd (show a[k].toNat<b[k].toNat from c) Go.Eng.sP),if_neg (fun c:b[k]<a[k]=>absurd (show b[k].toNat<a[k].toNat from c) Go.Eng.sP)]⟩
     case measure=>simp[intOf];omega
    .go_wp2_with (go_at_call 73;refine(Tryz.cmp73 _ _ _).mono ?_;rintro e w' ⟨rfl,rfl⟩;rw[show cmpI (a[k].toNat:Int) (b[k].toNat:Int)=1 from by unfold cmpI;rw[if_neg Go.Eng.sP,if_pos Go.Eng.sP]])
     go_ret
     exact⟨by rw[HN.out,if_neg (fun c:a[k]<b[k]=>absurd (show a[k].toNat<b[k].toNat from c) Go.Eng.sP),if_pos (show b[k]<a[k]from h3)];rfl,rfl⟩
   .go_wp2
    go_ret
    have hd:b.data.toList.drop k=[]:=List.drop_eq_nil_of_le (show b.data.toList.length<=k from Nat.le_of_not_lt h2);have hc:a.data.toList.drop k=a.data.toList[k]'h1::a.data.toList.drop (k+1):=List.drop_eq_getElem_cons (show k<a.data.toList.length from h1);exact⟨by rw[HE.out,hd,hc];rfl,rfl⟩
  .have hd:a.data.toList.drop k=[]:=List.drop_eq_nil_of_le (show a.data.toList.length<=k from Nat.le_of_not_lt h1)
   by_cases h2:a.size<b.size
   .have hc:b.data.toList.drop k=(b.data.toList[k]'(show k<b.data.toList.length from by show k<b.size;omega))::b.data.toList.drop (k+1):=List.drop_eq_getElem_cons (show k<b.data.toList.length from by show k<b.size;omega);have HC:Hid _:=(HE.out.trans (by rw[hd,hc];rfl):compareBytes a.data.toList b.data.toList=-1)
    clear hc hd HE
    go_wp2
    go_ret
    exact⟨by rw[HC.out];rfl,rfl⟩
   .have hc:b.data.toList.drop k=[]:=List.drop_eq_nil_of_le (show b.data.toList.length<=k from by show b.size<=k;omega);have HC:Hid _:=(HE.out.trans (by rw[hd,hc];rfl):compareBytes a.data.toList b.data.toList=0)
    clear hc hd HE
    go_wp2
    go_ret
    exact⟨by rw[HC.out];rfl,rfl⟩
end Go.Proofs
namespace Go.Proofs
open Go.Shelf Go.RowKit Go.Lib Go.Sort Go.Eng
def CpA:Type:={c:Cp // c.path.size<=1073741824}
instance:Inhabited CpA:=⟨⟨⟨⟨#[]⟩,⟨0,0,0⟩,⟨#[]⟩⟩,by decide⟩⟩
def encCpA(x:CpA):List Value:=[.string x.1.path,.int .i64 x.1.ver.a,.int .i64 x.1.ver.b,.int .i64 x.1.ver.c,.string x.1.bytes]
def cfCpA(x y:CpA):Int:=compareBytes x.1.path.data.toList y.1.path.data.toList
def PostA(x y:CpA)(W:World)(e:Ending)(w' : World):Prop:=e=.returned (.int .i64 (cfCpA x y))/\∃q cQ,w'=grow (W.drewN q) cQ
set_option maxRecDepth 100000 in
theorem Tryz.closure32(x y:CpA)(W:World):Calls Tryz.prog 32 #[.agg (encCpA x).toArray,.agg (encCpA y).toArray] W (PostA x y W):=by
 obtain⟨⟨a,⟨b,c,d⟩,s⟩,hx⟩:=x;obtain⟨⟨a',⟨b',c',d'⟩,s'⟩,hy⟩:=y;dsimp only at hx hy;show Calls Tryz.prog 32 #[.agg #[.string a,.int .i64 b,.int .i64 c,.int .i64 d,.string s],.agg #[.string a',.int .i64 b',.int .i64 c',.int .i64 d',.string s']] W (PostA _ _ W);have re:=fun w s=>run_bytes_of_string (P:=Tryz.prog) w 9 68 5 s Tryz.underlying9 Tryz.underlying68 Tryz.underlying5
 go_enter Tryz.func32,Tryz.ntmps32
 go_wp2_with fail
 generalize hW:World.alloc (World.alloc W _) _=W1;have Dm:W1.heap.size=W.heap.size+1+1:=by rw[<-hW];simp
 have HW:Hid _:=hW
 clear hW
 generalize grownCap W1 a.size 0 5=c1;generalize hV:World.alloc W1 _=W2;have kE:W2.heap.size=W.heap.size+1+1+1:=by rw[<-hV];simp[Dm]
 have HV:Hid _:=hV
 clear hV
 generalize grownCap _ a'.size 0 5=c2;refine(Tryz.cmp33 a a' (W.heap.size+1+1) (W.heap.size+1+1+1) c1 c2 _ hx (fun i hi=>?_) (fun i hi=>?_)).mono ?_
 .show(World.alloc W2 _).cell? _=_;rw[World.cell?_alloc_past _ _ _ (show W.heap.size+1+1<W2.heap.size by omega),<-HV.out,<-Dm,World.cell?_alloc_mark,bytesRow_at a _ i hi]
  rfl
 .show(World.alloc W2 _).cell? _=_;rw[<-kE,World.cell?_alloc_mark,bytesRow_at a' _ i hi]
  rfl
 rintro e w' ⟨rfl,rfl⟩
 clear re
 go_wp2
 go_ret
 have h:∃cQ,World.alloc W2 (.cells (bytesRow a' c2) 5 ((bytesRow a' c2).size,(bytesRow a' c2).size+1))=grow W cQ:=
  ⟨_,by rw[<-HV.out,<-HW.out,alloc_eq_grow,alloc_eq_grow,alloc_eq_grow,alloc_eq_grow,grow_grow,grow_grow,grow_grow]⟩
 obtain⟨cQ,h⟩:=h;exact⟨rfl,2,cQ,by show World.drew (World.drew _)=_;rw[h];rfl⟩
end Go.Proofs
namespace Go.Eng
open Go.Proofs Go.Shelf Go.RowKit Go.Lib Go.Sort
variable (l:List Cp)
theorem Vo(x y:CpA):ltOf cfCpA x y=FC x.1.path y.1.path:=SY _ _
theorem aD:SWO (ltOf cfCpA) where
 irrefl x:=by rw[Vo];exact Dw _
 trans x y z h1 h2:=by rw[Vo]at *;exact GO h1 h2
 ntrans x y z h1 h2:=by
  rw[Vo]at *
  rw[A8];intro h;cases oO:FC y.1.path x.1.path with
  |true=>have:=GO oO h;rw[h2]at this;cases this
  |false=>
   have e:=QU h1 oO;rw[e]at h;rw[h2]at h;cases h
theorem jn(hl:CC l)(h:∀c∈l,c.path.size<=1073741824)(lim:Nat)(Y7:lim<100) :
  BL Tryz.prog 71 [.msl 1000 l.length,vi 0,vi l.length,vi lim,.v (aW 32)] (AC [(1000,.arr 5 (l.map Aq))] Ao) fun r h'=>
   r=.tup []/\∃l' : List Cp,l'.Perm l/\l'.Pairwise (fun x y=>FC y.path x.path=false)/\h'=AC [(1000,.arr 5 (l'.map Aq))] Ao:=by
 have hl:l.length<=1073741824:=hl;have hE:Enters Tryz.prog 71:=Q0 71 Tryz.func71 sT rfl;have eg:∀args w,(callFunc 32 args).run Tryz.prog w=.ok (.enter 32 args) w:=enters_of Tryz.func32 sT rfl;have K6:=IS (P:=Tryz.prog) (f:=71) (α:=CpA) (rest:=[.int .i64 0,.int .i64 l.length,.int .i64 lim,aW 32]) hE Aq encCpA (k:=5) (fun _=>rfl) (fun _=>rfl) (ltOf cfCpA) (fun x a=>a.1=x) l sP ?_ ?_ ?_
 .refine⟨hE,fun g w vals q1 q2 q3=>(K6.2 g w vals q1 q2 q3).mono fun _ _ ⟨v,r,h',g',e1,⟨e2,l',p1,⟨al,a1,a2,a3⟩,p2⟩,rest⟩=>⟨v,r,h',g',e1,⟨e2,l',p1,?_,p2⟩,rest⟩⟩;rw[A5]at a3⊢;intro i j hi hj TN
  have:=a3 i j sP sP TN
  rw[Vo]at this;have e1:=a2 i _ _ (At hi) (At sP);have e2:=a2 j _ _ (At hj) (At sP);rw[<-e1,<-e2];exact this
 .intro x hx g w vs hr
  match vs,hr with
  | [a,b,c,d,e],hr=>
   have h1:=(hr.2.2 0 (Go.Eng.vs x.path) a rfl rfl).v_eq;have h2:=(hr.2.2 1 (vi x.ver.a) b rfl rfl).v_eq;have h3:=(hr.2.2 2 (vi x.ver.b) c rfl rfl).v_eq;have h4:=(hr.2.2 3 (vi x.ver.c) d rfl rfl).v_eq;have h5:=(hr.2.2 4 (Go.Eng.vs x.bytes) e rfl rfl).v_eq;subst h1;subst h2;subst h3;subst h4;subst h5;exact⟨⟨x,h x hx⟩,rfl,rfl⟩
  | [],hr=>have:=hr.1;simp at this
  | [_],hr=>have:=hr.1;simp at this
  | [_,_],hr=>have:=hr.1;simp at this
  | [_,_,_],hr=>have:=hr.1;simp at this
  | [_,_,_,_],hr=>have:=hr.1;simp at this
  |_::_::_::_::_::_::_,hr=>have:=hr.1;simp at this
 .intro w b cap d hH hb Dm Y4;have fN:CmpLays Tryz.prog 32 #[] encCpA 5 cfCpA b 0 d.size w:=fun _ _ _ _ x y=>Tryz.closure32 x y _;have hp:=AnyQ.pdqsortCmpFunc_all Tryz.layPdqCp 5 Tryz.isAgg60 Tryz.sizeOf60 encCpA cfCpA 32 #[] aD b 0 cap d w eg fN ⟨fun _=>rfl,fun x v hv=>by
    simp only[encCpA,AS,Nk,or_false]at hv;rcases hv with rfl | rfl | rfl | rfl | rfl<;>rfl,hH,hb⟩ (d.size+1) 0 d.size lim d w sP rfl (SWK.start hH) (Ar _) (Ad _) Dm sP (Or.inl rfl)
  rw[Y4]at hp⊢;refine hp.mono ?_
  rintro e w' ⟨rfl,n,os,rfl⟩
  have h:=pdq_sorts (ltOf cfCpA) aD d 0 d.size lim true true (Ar _) (Ad _) (Or.inl rfl);rw[Y4]at h;exact⟨rfl,_,n,os,h.1,h.2,rfl⟩
 .intro e w;subst e;exact AnyF.pdqsortCmpFunc_none Tryz.layPdqCp none 0 lim (aW 32) w
theorem fb(hl:CC l)(h:∀c∈l,c.path.size<=1073741824) :
  BL Tryz.prog 31 [.msl 1000 l.length,.v (aW 32)] (AC [(1000,.arr 5 (l.map Aq))] Ao) fun r h'=>
   r=.tup []/\∃l' : List Cp,(l'.Perm l/\l'.Pairwise (fun x y=>FC y.path x.path=false))/\h'=AC [(1000,.arr 5 (l'.map Aq))] Ao:=by
 obtain⟨lim,Y7,hb⟩:=ju l.length hl;refine DK (Wd Dj) [(1000,1000)] rfl DZ hm rfl Tryz.func31 sT rfl (DQ rfl) sT rfl (Exists.intro .pure (Exists.intro _ (And.intro (hb) (Exists.intro (.gen [(1000,1000)] 0) (And.intro rfl ((jn l hl h lim Y7).imp ?_))))));intro r h' hq;refine BF hq.2 (fun l' NZ=>?_);refine Exists.intro (.tup []) (And.intro ?_ (And.intro rfl (Exists.intro l' (And.intro ⟨NZ.1,NZ.2.1⟩ ?_))))
 .exact .refl _
 .rw[NZ.2.2];rfl
end Go.Eng
