/- Lemmas 31. -/
import Derived.Test.YteaiieomnhbmgaaGreatDoorAA30
set_option maxHeartbeats 4000000
namespace Go.Eng
open Go.Proofs Go.Proofs.Tryz
variable {s:List Sl}{y:Sl}(x:List Rl)(ifs:C0)(l:List Sl)(o:Option Sl)(PW m:List Sl)(mv:List CS)(a b p:CS)
def J7(s:List Sl):List Rq:=s.flatMap fun y=>(D5 x y).reqs
theorem pE{x:List Rl}{i:Nat}(h:i<s.length):J7 x (s.take (i+1))=J7 x (s.take i)++(D5 x s[i]).reqs:=by
 unfold J7;rw[A6 h,List.flatMap_append];simp
theorem pq{x:List Rl}(y:Sl){n:Nat}(hx:∀r∈x,r.reqs.length<=n):(D5 x y).reqs.length<=n:=by
 unfold D5;cases e:By x y with
 |none=>exact Aj _
 |some r=>exact hx r (Gf e).2.1
theorem pD{x:List Rl}{n:Nat}(hx:∀r∈x,r.reqs.length<=n):∀(s:List Sl),(J7 x s).length<=n*s.length
 | []=>Aj _
 |y::s=>by
  have q:=pD hx s;have q2:=pq y hx;show((y::s).flatMap fun y=>(D5 x y).reqs).length<=_;rw[Ib,Ac,Ap,Nat.mul_succ];have q:(s.flatMap fun y=>(D5 x y).reqs).length<=n*s.length:=q;omega
theorem gY{x:List Rl}(hx:∀r∈x,CX r):∀q∈J7 x s,BD q.set:=fun q hq=>by
 obtain⟨y,_,hq⟩:=List.mem_flatMap.1 hq;unfold D5 at hq;cases e:By x y with
 |none=>rw[e]at hq;cases hq
 |some r=>rw[e]at hq;exact((hx r (Gf e).2.1).2 q hq).1
theorem sZ{x:List Rl}(h1:AL x=0)(h2:CD s=true)(h3:s.all (fun y=>(By x y).isSome)=true):J0 x s=0:=by unfold J0;rw[Ax h1,Ax h2,Ax h3]
theorem rO{p:CS}(h:BE s p=some y):y∈s/\y.path=p:=
 ⟨AX h,by
  have q:=DA (show s.find? (fun x=>decide (x.path=p))=some y from h);exact AT q⟩
theorem yb{x:List Rl}(h:J0 x s=0)(hs:BD s)(q:Rq):Mf x s q=s.any (K8 q):=by
 have hk:=D8 h hs;unfold Mf;cases e:BE s q.path with
 |none=>
  refine(List.any_eq_false.2 fun y hy c=>?_).symm;obtain⟨c1,_⟩:=Dt.1 c
  have:=OM.1 e y hy
  exact this c1
 |some y=>
  obtain⟨hy,hp⟩:=rO e;obtain⟨r,hr,Qr⟩:=YI h hy;have e1:(D5 x y).ver=y.ver:=by
   unfold D5;cases e3:By x y with
   |none=>
    have q:=AS.1 (show s.all (fun y=>(By x y).isSome)=true by
     have q:=h;unfold J0 at q;rw[Ax (Sb h),Ax (Kw h)]at q;split at q
     .assumption
     .exact absurd q Wk) y hy
    rw[e3]at q;cases q
   |some r=>rw[<-(Gf e3).2.2];rfl
  have e2:plc (D5 x y).ver=place y.ver:=by rw[e1,plc,hk.val y hy];rfl
  show has q.set (plc (D5 x y).ver)=_;rw[e2];cases c:has q.set (place y.ver)with
  |true=>exact(Ce.2 ⟨y,hy,by unfold K8;rw[AB hp,c];rfl⟩).symm
  |false=>
   refine(List.any_eq_false.2 fun z hz c2=>?_).symm;obtain⟨c3,c4⟩:=Dt.1 c2;have c3:z.path=q.path:=AT c3;have k:=GB (Jq zI hk.inc) hz;have k2:=GB (Jq zI hk.inc) hy;have k3:some z=some y:=k.symm.trans ((Aa (BE s) (c3.trans hp.symm)).trans k2);rw[DY k3,c]at c4;cases c4
abbrev p8(s:List Sl)(q:Rq):Bool:=!s.any (K8 q)
theorem Ww{x:List Rl}(h:J0 x s=0)(hs:BD s):TN x s=!(J7 x s).any (p8 s):=by
 unfold TN J7;rw[List.all_eq_not_any_not,List.any_flatMap]
 congr 1;congr 1;funext y
 show(!((D5 x y).reqs.all (Mf x s)))=_;rw[List.all_eq_not_any_not,Bool.not_not]
 congr 1;funext q
 show(!Mf x s q)=!_;rw[yb h hs]
theorem qx(s:List Sl)(hx:∀r∈x,CX r)(HE:BD x)(Hk:∀r∈x,r.reqs.length<=1000)(hs:s.length<=1000):PC 101 [.agg (Ic x ifs),sl Ab s] (vi (Dp x s)):=by
 have hl:BD s:=Av hs Wk;have hl0:s.length<=1073741824:=hl;refine Ps (pC [2] [8]) func101 rfl C4 (yN (C1 (C2 (c67 x ifs hx) (J (fun h1=>?_) (fun h1=>?_)))))
 .have h1:((AL x):Int)≠(0:Int):=h1;have hn:J0 x s=1:=by rw[J0,AA (show ¬AL x=0 from h1)]
  exact BC.of_eq (Aa vi (show 1=Dp x s by rw[Dp,hn,AA Wk]))
 have h1:((AL x):Int)=(0:Int):=Aq h1;refine A1 (Bt (CD s)) (fun h3=>?_) (fun h3=>?_)
 .have h3:(CD s)=true:=h3;refine C1 (C2 (cb h3 (c80 s hl)) (I {q:Nat // q<=s.length/\∀j (hj:j<s.length),j<q->(By x s[j]).isSome=true} (I (fun q=>⟨[(1,sl Ab s),(2,.ref 2 0),(5,.slice (.id 18 2) ((J7 x (s.take q.1)).map AI)),(6,vi q.1)],[(2,.ro (Ic x ifs)),(18,.tok 2 ((J7 x (s.take q.1)).map AI).length)],Ae⟩) (I (fun q=>s.length-q.1) (J (I ⟨0,Aj _,fun j hj h1=>absurd h1 (DX _)⟩ ?_) ?_)))))
  .exact⟨Z4,Z2,Fh,C⟩
  intro⟨i,i1,i2⟩;have i1:i<=s.length:=i1;have i2:∀j (hj:j<s.length),j<i->(By x s[j]).isSome=true:=i2;have il:(J7 x (s.take i)).length<=1000000:=(by have q:=pD Hk (s.take i);rw[AF]at q;omega);refine J (fun h4=>?_) (fun h4=>?_)
  .have h4:(i:Int)<((s.map Ab).length:Int):=h4;have n4:=Dh h4;refine yN (I (Ab s[i]) (J (DC n4) (J rfl (I (Ab s[i]) (J (DC n4) (J rfl (yN (A1 (WY (By x ⟨s[i].path,s[i].ver⟩)) (fun h5=>?_) (fun h5=>?_)))))))))
   .refine Be h5 (fun r h5=>?_);have uP:=c83 x ifs s[i].path s[i].ver hx HE;rw[h5]at uP;refine C2 uP (yN (J aa1 (cU [(1,sl Ab s),(2,.ref 2 0),(5,.slice (.id 18 2) ((J7 x (s.take i)).map AI)),(6,vi i),(7,.ref 7 0),(8,vb true)] [(2,.ro (Ic x ifs)),(7,.cells (Au r)),(18,.tok 2 ((J7 x (s.take i)).map AI).length)] Z6 Z3 ?_)))
    have hrr:r.reqs.length<=1000:=Hk r (Gf (show By x s[i]=some r from h5)).2.1;have b6:Bi 2 (r.reqs.map AI)/\((J7 x (s.take i)).map AI).length=((J7 x (s.take i)).map AI).length/\(((J7 x (s.take i)).map AI).length+(r.reqs.map AI).length)*40<=140737488355328/\((J7 x (s.take i)).map AI).length+(r.reqs.map AI).length<=9223372036854775807:=⟨(BV (enc:=AI) (n:=2) (fun _=>rfl) r.reqs),rfl,(by simp only[Lm];omega),(by simp only[Lm];omega)⟩;refine J b6 (J (Ii i ch) ?_);have er:D5 x s[i]=r:=by rw[D5,show By x s[i]=some r from h5];rfl
    have ew:((J7 x (s.take i)).map AI++r.reqs.map AI)=(J7 x (s.take (i+1))).map AI:=by rw[pE n4,Ar,er]
    refine I ⟨i+1,n4,fun j hj h1=>by rcases Db j i with h2 | h2;exact i2 j hj h2;have e:j=i:=ch;subst e;rw[show By x s[j]=some r from h5];rfl⟩ ?_;exact⟨Dl s.length i ch,⟨B,B,⟨(Aa (AV.slice (.id 18 2)) ew),rfl⟩,B,C⟩,⟨B,⟨(show HO.tok 2 (((J7 x (s.take i)).map AI).length+(r.reqs.map AI).length)=.tok 2 ((J7 x (s.take (i+1))).map AI).length from Aa (HO.tok 2) (Ac.symm.trans (Aa List.length ew))),rfl⟩,C⟩,Fh,C⟩
   have uP:=c83 x ifs s[i].path s[i].ver hx HE;rw[h5]at uP;refine C2 uP (yN (J aa1 (cU [(1,sl Ab s),(2,.ref 2 0),(5,.slice (.id 18 2) ((J7 x (s.take i)).map AI)),(6,vi i),(7,.ref 7 0),(8,vb false)] [(2,.ro (Ic x ifs)),(7,.cells [vs ⟨#[]⟩,vi 0,vi 0,vi 0,nzA,vs ⟨#[]⟩,vs ⟨#[]⟩,vs ⟨#[]⟩,vb false]),(18,.tok 2 ((J7 x (s.take i)).map AI).length)] Z6 Z3 ?_)))
   have hn:J0 x s=6:=by rw[J0,Ax h1,Ax h3,AA (fu n4 h5)]
   exact BC.of_eq (Aa vi (show 6=Dp x s by rw[Dp,hn,AA Wk]))
  have h4:¬((i:Int)<((s.map Ab).length:Int)):=h4;have n4:=BB h4;have hns:J0 x s=0:=sZ h1 h3 (ZA i2 (AE (BB h4)));have hsv:=(D8 hns hl).val;refine I {q:Nat // q<=(J7 x (s.take i)).length/\((J7 x (s.take i)).drop q).any (p8 s)=(J7 x (s.take i)).any (p8 s)} (I (fun q=>⟨[(1,sl Ab s),(5,.slice (.id 18 2) ((J7 x (s.take i)).map AI)),(9,vi q.1)],[(18,.tok 2 ((J7 x (s.take i)).map AI).length)],Ae⟩) (I (fun q=>(J7 x (s.take i)).length-q.1) (J (I ⟨0,Aj _,rfl⟩ ?_) ?_)))
  .exact⟨Z3,Z1,Fh,C⟩
  intro⟨k,k1,k2⟩;have k1:k<=(J7 x (s.take i)).length:=k1;have k2:((J7 x (s.take i)).drop k).any (p8 s)=(J7 x (s.take i)).any (p8 s):=k2;refine J (fun h9=>?_) (fun h9=>?_)
  .have h9:(k:Int)<(((J7 x (s.take i)).map AI).length:Int):=h9;have n9:=Dh h9;refine I (AI ((J7 x (s.take i))[k])) (J (DC n9) (J rfl (yN (A1 (Bt (s.any (K8 (J7 x (s.take i))[k]))) (fun Is=>?_) (fun Is=>?_)))))
   .have Is:(s.any (K8 (J7 x (s.take i))[k]))=true:=Is;refine C1 (C2 (cb Is (Ze (J7 x (s.take i))[k] s (gY hx _ (Ai n9)) hl hsv)) (J (Ii k ch) (I ⟨k+1,n9,To n9 (show p8 s (J7 x (s.take i))[k]=false by unfold p8;rw[Is];rfl) k2⟩ ?_)));exact⟨by show(J7 x (s.take i)).length-(k+1)<(J7 x (s.take i)).length-k;omega,Z3,Z1,Fh,C⟩
   have Is:(s.any (K8 (J7 x (s.take i))[k]))=false:=Is;refine C1 (C2 (cb Is (Ze (J7 x (s.take i))[k] s (gY hx _ (Ai n9)) hl hsv)) ?_);have ee:s.take i=s:=As (AE (BB h4));have eq:(J7 x (s.take i)).any (p8 s)=true:=Tp n9 (show p8 s (J7 x (s.take i))[k]=true by unfold p8;rw[Is];rfl) k2;rw[ee]at eq;exact BC.of_eq (Aa vi (show 17=Dp x s by rw[Dp,Ax hns,Ww hns hl,eq];rfl))
  have h9:¬((k:Int)<(((J7 x (s.take i)).map AI).length:Int)):=h9;have n9:=BB h9;have ee:s.take i=s:=As (AE (BB h4));have eq:(J7 x (s.take i)).any (p8 s)=false:=Tn (AE (BB h9)) k2;rw[ee]at eq;exact BC.of_eq (Aa vi (show 0=Dp x s by rw[Dp,Ax hns,Ww hns hl,eq];rfl))
 have h3:(CD s)=false:=h3;refine C1 (C2 (cb h3 (c80 s hl)) ?_);have hn:J0 x s=1:=by rw[J0,Ax h1,AA (show ¬CD s=true by rw[h3];exact EC)]
 exact BC.of_eq (Aa vi (show 1=Dp x s by rw[Dp,hn,AA Wk]))
theorem yW(hx:∀r∈x,CX r)(HE:BD x)(Hk:∀r∈x,r.reqs.length<=1000)(hl:l.length<=1000)(Kg:m.length<=1000):PC 155 [.agg (Ic x ifs),sl Ab l,sl Ab m] (vi (Ix x l m)):=by
 refine Ps (pC [3] []) func155 rfl C4 (yN (C1 (C2 (qx x ifs l hx HE Hk hl) (J (fun h1=>?_) (fun h1=>?_)))))
 .have h1:((Dp x l):Int)≠(0:Int):=h1;exact BC.of_eq (Aa vi (show(Dp x l)=Ix x l m by rw[Ix,AA h1]))
 have h1:((Dp x l):Int)=(0:Int):=Aq h1;refine yN (C1 (C2 (qx x ifs m hx HE Hk Kg) ?_));exact BC.of_eq (Aa vi (show(Dp x m)=Ix x l m by rw[Ix,Ax h1]))
def p7(q:Rq):Bool:=decide (q.path=p)&&!(PW.any (K8 q))
def Yd:Bool:=match o with | none=>true | some y=>!(D5 x y).reqs.any (p7 PW p)
def lB:Bool:=!Yd x (m.find? (Vx a)) (Dn l b) b||!Yd x (l.find? (Vx b)) (Dn m a) a
theorem xX{x:List Rl}{r:Rl}(h:By x y=some r):D5 x y=r:=by rw[D5,h];rfl
theorem g9{p:CS}(h:y∈Dn s p):y∈s:=AX (Option.mem_toList.1 h)
theorem YY(s:List Sl)(p:CS):BD (Dn s p):=by
 unfold Dn;cases s.find? (Vx p)
 .exact Aj _
 .exact(by decide:(1:Nat)<=1073741824)
theorem uu(y:Sl)(r:Rl)(PW:List Sl)(p:CS)(hx:∀r∈x,CX r)(HE:BD x)(hr:By x y=some r)(hq:∀q∈r.reqs,BD q.set)(hrl:r.reqs.length<=1000)(ho:BD PW)(hv:∀y∈PW,BN y.ver=true):PC 219 [.agg (Ic x ifs),sl Ab [y],sl Ab PW,vs p] (vb (!r.reqs.any (p7 PW p))):=by
 refine Ps (pC [4] []) func219 rfl C4 (J (fun hf=>absurd hf (show ¬(([y].map Ab).length:Int)=(0:Int)from fun h=>by simp at h)) (fun _=>?_));refine yN (I (Ab y) (J ⟨by decide,rfl⟩ (J rfl ?_)));refine I (Ab y) (J ⟨by decide,rfl⟩ (J rfl ?_));refine yN ?_;have hc1:=c83 x ifs y.path y.ver hx HE;rw[(show By x ⟨y.path,y.ver⟩=some r from hr)]at hc1;refine C2 hc1 (yN (J aa1 (I {q:Nat // q<=r.reqs.length/\(r.reqs.drop q).any (p7 PW p)=r.reqs.any (p7 PW p)} (I (fun q=>⟨[(2,sl Ab PW),(3,vs p),(9,.ref 9 0),(11,vi q.1)],[(9,.cells (Au r))],Ae⟩) (I (fun q=>r.reqs.length-q.1) (J (I ⟨0,Aj _,rfl⟩ ?_) ?_))))))
 .exact⟨Z4,Z1,Fh,C⟩
 intro⟨i,i1,i2⟩;have i1:i<=r.reqs.length:=i1;have i2:(r.reqs.drop i).any (p7 PW p)=r.reqs.any (p7 PW p):=i2;refine J (fun h2=>?_) (fun h2=>?_)
 .have h2:(i:Int)<((r.reqs.map AI).length:Int):=h2;have n2:=Dh h2;refine I (AI r.reqs[i]) (J (DC n2) (J rfl (J (fun h3=>?_) (fun h3=>?_))))
  .have h3:(r.reqs[i].path:CS)=p:=h3;refine I (AI r.reqs[i]) (J (DC n2) (J rfl (yN (A1 (Bt (PW.any (K8 r.reqs[i]))) (fun h4=>?_) (fun h4=>?_)))))
   .have h4:(PW.any (K8 r.reqs[i]))=true:=h4;refine C1 (C2 (cb h4 (Ze r.reqs[i] PW (hq _ (Ai n2)) ho hv)) (J (Ii i ch) (I ⟨i+1,n2,To n2 (by rw[p7,AB h3,h4];rfl) i2⟩ ?_)));exact⟨Dl r.reqs.length i ch,Z4,Z1,Fh,C⟩
   have h4:(PW.any (K8 r.reqs[i]))=false:=h4;refine C1 (C2 (cb h4 (Ze r.reqs[i] PW (hq _ (Ai n2)) ho hv)) ?_);exact BC.of_eq (Aa vb (show false=!r.reqs.any (p7 PW p) by rw[Tp n2 (by rw[p7,AB h3,h4];rfl) i2];rfl))
  have h3:¬(r.reqs[i].path:CS)=p:=h3;refine J (Ii i ch) (I ⟨i+1,n2,To n2 (by rw[p7,Aw h3];rfl) i2⟩ ?_);exact⟨Dl r.reqs.length i ch,Z4,Z1,Fh,C⟩
 have h2:¬((i:Int)<((r.reqs.map AI).length:Int)):=h2;have n2:=BB h2;exact BC.of_eq (Aa vb (show true=!r.reqs.any (p7 PW p) by rw[Tn (AE (BB h2)) i2];rfl))
theorem ut:PC 219 [.agg (Ic x ifs),sl Ab ([]:List Sl),sl Ab PW,vs p] (vb true):=by
 refine Ps (pC [4] []) func219 rfl C4 (J (fun _=>?_) (fun hf=>absurd (show((([]:List Sl).map Ab).length:Int)=(0:Int)from rfl) hf));exact .refl _
theorem Zd(hx:∀r∈x,CX r)(HE:BD x)(Hk:∀r∈x,r.reqs.length<=1000)(hr:∀y,o=some y->(By x y).isSome=true)(ho:BD PW)(hv:∀y∈PW,BN y.ver=true):PC 219 [.agg (Ic x ifs),sl Ab o.toList,sl Ab PW,vs p] (vb (Yd x o PW p)):=by
 cases o with
 |none=>exact ut x ifs PW p
 |some y=>
  obtain⟨r,e⟩:=Sp.1 (hr y rfl);have q:=uu x ifs y r PW p hx HE e (fun q hq=>((hx r (Gf e).2.1).2 q hq).1) (Hk r (Gf e).2.1) ho hv;rw[<-xX e]at q;exact q
theorem iB(hx:∀r∈x,CX r)(HE:BD x)(Hk:∀r∈x,r.reqs.length<=1000)(hl:BD l)(Kg:BD m)(fl:∀y∈l,(By x y).isSome=true)(fm:∀y∈m,(By x y).isSome=true)(vl:∀y∈l,BN y.ver=true)(vm:∀y∈m,BN y.ver=true):PC 157 [.agg (Ic x ifs),sl Ab l,sl Ab m,vs a,vs b] (vb (lB x l m a b)):=by
 refine Ps (pC [5] []) func157 rfl C4 (yN (C2 (Hi m a Kg) (C2 (Hi l b hl) (A1 (Bt (Yd x (m.find? (Vx a)) (Dn l b) b)) (fun h1=>?_) (fun h1=>?_)))))
 .have h1:(Yd x (m.find? (Vx a)) (Dn l b) b)=true:=h1;refine C2 (cb h1 (Zd x ifs (m.find? (Vx a)) (Dn l b) b hx HE Hk (fun y h=>fm y (AX h)) (YY _ _) (fun y h=>vl y (g9 h)))) ?_;refine yN (C2 (Hi l b hl) (C2 (Hi m a Kg) (A1 (Bt (Yd x (l.find? (Vx b)) (Dn m a) a)) (fun h2=>?_) (fun h2=>?_))))
  .have h2:(Yd x (l.find? (Vx b)) (Dn m a) a)=true:=h2;refine C2 (cb h2 (Zd x ifs (l.find? (Vx b)) (Dn m a) a hx HE Hk (fun y h=>fl y (AX h)) (YY _ _) (fun y h=>vm y (g9 h)))) ?_;refine J aa1 ?_;exact BC.of_eq (Aa vb (show false=lB x l m a b by rw[lB,h1,h2];rfl))
  have h2:(Yd x (l.find? (Vx b)) (Dn m a) a)=false:=h2;refine C2 (cb h2 (Zd x ifs (l.find? (Vx b)) (Dn m a) a hx HE Hk (fun y h=>fl y (AX h)) (YY _ _) (fun y h=>vm y (g9 h)))) ?_;refine J aa1 ?_;exact BC.of_eq (Aa vb (show true=lB x l m a b by rw[lB,h1,h2];rfl))
 have h1:(Yd x (m.find? (Vx a)) (Dn l b) b)=false:=h1;refine C2 (cb h1 (Zd x ifs (m.find? (Vx a)) (Dn l b) b hx HE Hk (fun y h=>fm y (AX h)) (YY _ _) (fun y h=>vl y (g9 h)))) ?_;refine J aa1 ?_;exact BC.of_eq (Aa vb (show true=lB x l m a b by rw[lB,h1];rfl))
abbrev Ft(e:Nat×Nat):List AV:=[vi (e.1:Nat),vi (e.2:Nat)]
def wF(M:List Mv)(i k:Nat):Bool:=decide (i≠k)&&match M[i]?,M[k]? with | some a,some b=>lB x l m a.path b.path | _,_=>false
def uH(x:List Rl)(l m:List Sl)(M:List Mv)(i:Nat):Nat->List (Nat×Nat)
 |0=>[]
 |k+1=>uH x l m M i k++(if wF x l m M i k=true then [(i,k)]else [])
def edI(x:List Rl)(l m:List Sl)(M:List Mv):Nat->List (Nat×Nat)
 |0=>[]
 |i+1=>edI x l m M i++uH x l m M i M.length
def G5(M:List Mv)(i k:Nat):List (Nat×Nat):=edI x l m M i++uH x l m M i k
section
variable {x:List Rl}{l m:List Sl}{M:List Mv}{i k:Nat}
theorem mP(hi:i<M.length)(hk:k<M.length)(Ef:(i:Int)≠(k:Int)){b:Bool}(hn:lB x l m M[i].path M[k].path=b):wF x l m M i k=b:=by
 have h:decide (i≠k)=true:=AB ch;rw[wF,h,Ge hi,Ge hk];exact hn
theorem rI(h:(i:Int)=(k:Int)):wF x l m M i k=false:=by
 have h:decide (i≠k)=false:=Aw ch;rw[wF,h];rfl
theorem X7:∀k,(uH x l m M i k).length<=k
 |0=>Ao _
 |k+1=>by
  have q:=X7 k;rw[uH,Ac];split
  .rw[H8];omega
  .rw[AC];omega
theorem fP:∀i,(edI x l m M i).length<=i*M.length
 |0=>Aj _
 |i+1=>by
  have q:=fP i;have q2:=X7 (x:=x) (l:=l) (m:=m) (M:=M) (i:=i) M.length;rw[edI,Ac,Nat.succ_mul];omega
theorem fO(hi:i<=M.length)(hk:k<=M.length)(hM:M.length<=2000):(G5 x l m M i k).length<=4002000:=by
 have q:=fP (x:=x) (l:=l) (m:=m) (M:=M) i;have q2:=X7 (x:=x) (l:=l) (m:=m) (M:=M) (i:=i) k;have q3:i*M.length<=2000*2000:=Nat.mul_le_mul ch hM;rw[G5,Ac];omega
theorem rH(h:wF x l m M i k=true):G5 x l m M i (k+1)=G5 x l m M i k++[(i,k)]:=by rw[G5,uH,Ax h,G5,BT]
theorem mO(h:wF x l m M i k=false):G5 x l m M i (k+1)=G5 x l m M i k:=by rw[G5,uH,AA (by rw[h];exact EC),Bg,G5]
theorem rG:G5 x l m M i M.length=G5 x l m M (i+1) 0:=by rw[G5,G5,edI,uH,Bg]
theorem bp(hi:i<M.length):(M.take (i+1)).map (·.path)=(M.take i).map (·.path)++[M[i].path]:=by rw[A6 hi,Ar];rfl
end
def wL:AV:=if Ix x l m=0 then .tup [.agg [sl Af (D2 l m),sl Ft (G5 x l m (rm l m) (rm l m).length 0)],vi 0]else .tup [.agg [nzA,nzA],vi (Ix x l m)]
theorem gI{x:List Rl}(h:J0 x s=0)(hy:y∈s):(By x y).isSome=true:=by
 have q:=h;unfold J0 at q;rw[Ax (Sb h),Ax (Kw h)]at q;split at q
 .rename_i h3;exact AS.1 h3 y hy
 .exact absurd q Wk
theorem Ta(hx:∀r∈x,CX r)(HE:BD x)(Hk:∀r∈x,r.reqs.length<=1000)(hl:l.length<=1000)(Kg:m.length<=1000):PC 95 [.agg (Ic x ifs),sl Ab l,sl Ab m] (wL x l m):=by
 refine Ps ⟨[3],[],[],[],[],[],[],[(12,(11,0,60,1))],[],[(100015,1011),(900006,20061010011)],[4,6,10,15]⟩ func95 rfl C4 (yN (C1 (C2 (yW x ifs l m hx HE Hk hl Kg) (J (fun h1=>?_) (fun h1=>?_)))))
 .have h1:((Ix x l m):Int)≠(0:Int):=h1;refine yN (yN ?_);exact BC.of_eq (show AV.tup [.agg [nzA,nzA],vi (Ix x l m)]=wL x l m by rw[wL,AA h1])
 have h1:((Ix x l m):Int)=(0:Int):=Aq h1;refine cU [(1,sl Ab l),(2,sl Ab m),(3,.ref 3 0),(6,.ref 6 0)] [(3,.ro (Ic x ifs)),(6,.cells [nzA,nzA])] Z4 Z2 ?_
 have hup:Ix x l m=0:=h1;have Rm:=D8 (If hup).1 (Av hl Wk);have bU:=D8 (If hup).2 (Av Kg Wk);have fl:∀y∈l,(By x y).isSome=true:=fun y hy=>gI (If hup).1 hy;have fm:∀y∈m,(By x y).isSome=true:=fun y hy=>gI (If hup).2 hy;have hrm:(rm l m).length<=2000:=(by have q:=YS l m Rm bU;omega);refine C1 (C2 (Ahm l m Rm bU) (yN (cU [(1,sl Ab l),(2,sl Ab m),(3,.ref 3 0),(6,.ref 6 0),(9,sl CJ (rm l m)),(11,.ref 11 0)] [(3,.ro (Ic x ifs)),(6,.cells [nzA,nzA]),(11,.cells [nzA,.msl 61 0]),(61,.arr 2 [])] Z6 Z4 (I {q:Nat // q<=(rm l m).length} (I (fun q=>⟨[(1,sl Ab l),(2,sl Ab m),(3,.ref 3 0),(6,.ref 6 0),(9,sl CJ (rm l m)),(11,.ref 11 0),(12,vi q.1)],[(3,.ro (Ic x ifs)),(6,.cells [nzA,nzA]),(11,.cells [.slice (.id 60 1) ((((rm l m).take q.1).map (·.path)).map Af),.msl 61 (G5 x l m (rm l m) q.1 0).length]),(60,.tok 1 (((rm l m).take q.1).map (·.path)).length),(61,.arr 2 ((G5 x l m (rm l m) q.1 0).map Ft))],Ae⟩) (I (fun q=>(rm l m).length-q.1) (J (I ⟨0,Aj _⟩ ?_) ?_)))))))
 .exact⟨Z7,Z5,Fh,C⟩
 intro⟨i,i1⟩;have i1:i<=(rm l m).length:=i1;refine J (fun h3=>?_) (fun h3=>?_)
 .have h3:(i:Int)<(((rm l m).map CJ).length:Int):=h3;have n3:=Dh h3;have hE:(G5 x l m (rm l m) i 0).length<=4002000:=fO ch (Aj _) hrm;have hT:(((rm l m).take i).map (·.path)).length<=2000:=(by rw[Lm,AF];omega);refine I (CJ ((rm l m)[i])) (J (DC n3) (J rfl (J (Zi rfl (show(((rm l m).take i).map (·.path)).length<=2147483647 by omega) Wk) ?_)));refine yN (J aa1 (cU [(1,sl Ab l),(2,sl Ab m),(3,.ref 3 0),(6,.ref 6 0),(9,sl CJ (rm l m)),(11,.ref 11 0),(12,vi i)] [(3,.ro (Ic x ifs)),(6,.cells [nzA,nzA]),(11,.cells [.slice (.id 60 1) (((((rm l m).take i).map (·.path)).map Af)++[[vs ((rm l m)[i]).path]]),.msl 61 (G5 x l m (rm l m) i 0).length]),(60,.tok 1 (((((rm l m).take i).map (·.path)).map Af).length+([[vs ((rm l m)[i]).path]]:C0).length)),(61,.arr 2 ((G5 x l m (rm l m) i 0).map Ft))] Z7 Z5 (I {q:Nat // q<=(rm l m).length} (I (fun q=>⟨[(1,sl Ab l),(2,sl Ab m),(3,.ref 3 0),(6,.ref 6 0),(9,sl CJ (rm l m)),(11,.ref 11 0),(12,vi i),(13,vi q.1)],[(3,.ro (Ic x ifs)),(6,.cells [nzA,nzA]),(11,.cells [.slice (.id 60 1) ((((rm l m).take (i+1)).map (·.path)).map Af),.msl 61 (G5 x l m (rm l m) i q.1).length]),(60,.tok 1 (((rm l m).take (i+1)).map (·.path)).length),(61,.arr 2 ((G5 x l m (rm l m) i q.1).map Ft))],Ae⟩) (I (fun q=>(rm l m).length-q.1) (J (I ⟨0,Aj _⟩ ?_) ?_))))))
  .exact⟨Z8,⟨B,B,⟨(show HO.cells [.slice (.id 60 1) (((((rm l m).take i).map (·.path)).map Af)++[[vs ((rm l m)[i]).path]]),.msl 61 (G5 x l m (rm l m) i 0).length]=HO.cells [.slice (.id 60 1) ((((rm l m).take (i+1)).map (·.path)).map Af),.msl 61 (G5 x l m (rm l m) i 0).length] by rw[bp n3,Ar];rfl),rfl⟩,⟨(show HO.tok 1 (((((rm l m).take i).map (·.path)).map Af).length+([[vs ((rm l m)[i]).path]]:C0).length)=HO.tok 1 (((rm l m).take (i+1)).map (·.path)).length by rw[bp n3];simp),rfl⟩,B,C⟩,Fh,C⟩
  intro⟨k,k1⟩;have k1:k<=(rm l m).length:=k1;refine J (fun h5=>?_) (fun h5=>?_)
  .have h5:(k:Int)<(((rm l m).map CJ).length:Int):=h5;have n5:=Dh h5;refine J (fun h6=>?_) (fun h6=>?_)
   .have h6:(i:Int)≠(k:Int):=h6;refine yN (I (CJ ((rm l m)[i])) (J (DC n3) (J rfl (I (CJ ((rm l m)[k])) (J (DC n5) (J rfl (A1 (Bt (lB x l m (rm l m)[i].path (rm l m)[k].path)) (fun h7=>?_) (fun h7=>?_))))))))
    .have h7:(lB x l m (rm l m)[i].path (rm l m)[k].path)=true:=h7;refine C2 (cb h7 (iB x ifs l m (rm l m)[i].path (rm l m)[k].path hx HE Hk (Rm.few) (bU.few) fl fm Rm.val bU.val)) (J aa1 ?_);have hE:(G5 x l m (rm l m) i k).length<=4002000:=fO ch ch hrm;have b8:Bi 2 [[vi i,vi k]]/\((G5 x l m (rm l m) i k).map Ft).length=(G5 x l m (rm l m) i k).length/\(((G5 x l m (rm l m) i k).map Ft).length+([[vi i,vi k]]:C0).length)*16<=140737488355328/\((G5 x l m (rm l m) i k).map Ft).length+([[vi i,vi k]]:C0).length<=9223372036854775807:=⟨⟨rfl,trivial⟩,(by rw[Lm]),(by simp only[Lm,Ap,AC];omega),(by simp only[Lm,Ap,AC];omega)⟩;refine J b8 (yN (J (Ii k ch) ?_));have eE:(G5 x l m (rm l m) i (k+1))=(G5 x l m (rm l m) i k)++[(i,k)]:=rH (mP n3 n5 h6 h7);refine I ⟨k+1,n5⟩ ?_;exact⟨by show(rm l m).length-(k+1)<(rm l m).length-k;omega,Z8,⟨B,B,⟨(show HO.cells [.slice (.id 60 1) ((((rm l m).take (i+1)).map (·.path)).map Af),.msl 61 (((G5 x l m (rm l m) i k).map Ft).length+([[vi i,vi k]]:C0).length)]=HO.cells [.slice (.id 60 1) ((((rm l m).take (i+1)).map (·.path)).map Af),.msl 61 (G5 x l m (rm l m) i (k+1)).length] by rw[eE,Ac,Lm];rfl),rfl⟩,B,⟨(show HO.arr 2 (((G5 x l m (rm l m) i k).map Ft)++[[vi i,vi k]])=HO.arr 2 ((G5 x l m (rm l m) i (k+1)).map Ft) by rw[eE,Ar];rfl),rfl⟩,C⟩,Fh,C⟩
    have h7:(lB x l m (rm l m)[i].path (rm l m)[k].path)=false:=h7;refine C2 (cb h7 (iB x ifs l m (rm l m)[i].path (rm l m)[k].path hx HE Hk (Rm.few) (bU.few) fl fm Rm.val bU.val)) (J aa1 (J (Ii k ch) ?_));have eE:(G5 x l m (rm l m) i (k+1))=(G5 x l m (rm l m) i k):=mO (mP n3 n5 h6 h7);refine I ⟨k+1,n5⟩ ?_;exact⟨by show(rm l m).length-(k+1)<(rm l m).length-k;omega,Z8,⟨B,B,⟨(show HO.cells [.slice (.id 60 1) ((((rm l m).take (i+1)).map (·.path)).map Af),.msl 61 (G5 x l m (rm l m) i k).length]=HO.cells [.slice (.id 60 1) ((((rm l m).take (i+1)).map (·.path)).map Af),.msl 61 (G5 x l m (rm l m) i (k+1)).length] by rw[eE]),rfl⟩,B,⟨(show HO.arr 2 ((G5 x l m (rm l m) i k).map Ft)=HO.arr 2 ((G5 x l m (rm l m) i (k+1)).map Ft) by rw[eE]),rfl⟩,C⟩,Fh,C⟩
   have h6:(i:Int)=(k:Int):=Aq h6;refine J aa1 (J (Ii k ch) ?_);have eE:(G5 x l m (rm l m) i (k+1))=(G5 x l m (rm l m) i k):=mO (rI h6);refine I ⟨k+1,n5⟩ ?_;exact⟨by show(rm l m).length-(k+1)<(rm l m).length-k;omega,Z8,⟨B,B,⟨(show HO.cells [.slice (.id 60 1) ((((rm l m).take (i+1)).map (·.path)).map Af),.msl 61 (G5 x l m (rm l m) i k).length]=HO.cells [.slice (.id 60 1) ((((rm l m).take (i+1)).map (·.path)).map Af),.msl 61 (G5 x l m (rm l m) i (k+1)).length] by rw[eE]),rfl⟩,B,⟨(show HO.arr 2 ((G5 x l m (rm l m) i k).map Ft)=HO.arr 2 ((G5 x l m (rm l m) i (k+1)).map Ft) by rw[eE]),rfl⟩,C⟩,Fh,C⟩
  have h5:¬((k:Int)<(((rm l m).map CJ).length:Int)):=h5;have n5:=BB h5;refine J (Ii i ch) ?_;have ek:k=(rm l m).length:=Nat.le_antisymm k1 (AE (BB h5));have eE:(G5 x l m (rm l m) i k)=(G5 x l m (rm l m) (i+1) 0):=(Aa (G5 x l m (rm l m) i) ek).trans rG;refine I ⟨i+1,n3⟩ ?_;exact⟨by show(rm l m).length-(i+1)<(rm l m).length-i;omega,Z7,⟨B,B,⟨(Aa (fun E:List (Nat×Nat)=>HO.cells [.slice (.id 60 1) ((((rm l m).take (i+1)).map (fun v:Mv=>v.path)).map Af),.msl 61 E.length]) eE),rfl⟩,B,⟨(Aa (fun E:List (Nat×Nat)=>HO.arr 2 (E.map Ft)) eE),rfl⟩,C⟩,Fh,C⟩
 have h3:¬((i:Int)<(((rm l m).map CJ).length:Int)):=h3;have n3:=BB h3;refine J (show(G5 x l m (rm l m) i 0).length=((G5 x l m (rm l m) i 0).map Ft).length by rw[Lm]) ?_;refine cU [(6,.ref 6 0),(11,.ref 11 0)] [(6,.cells [nzA,nzA]),(11,.cells [.slice (.id 60 1) ((((rm l m).take i).map (·.path)).map Af),.slice (.id 61 2) ((G5 x l m (rm l m) i 0).map Ft)]),(60,.tok 1 (((rm l m).take i).map (·.path)).length),(61,.tok 2 ((G5 x l m (rm l m) i 0).map Ft).length)] Z2 ⟨⟨rfl,rfl⟩,⟨rfl,rfl⟩,⟨rfl,rfl⟩,⟨rfl,rfl⟩,trivial⟩ (yN (yN (yN ?_)));have ei:i=(rm l m).length:=Nat.le_antisymm i1 (AE (BB h3));exact BC.of_eq (show AV.tup [.agg [sl Af (((rm l m).take i).map (·.path)),sl Ft (G5 x l m (rm l m) i 0)],vi 0]=wL x l m by rw[wL,Ax h1,D2,ei,Cf])
def uF:List Sl:=if CV mv p=true then Dn m p else Dn l p
def l7:List Sl:=(mp l m).flatMap (uF l m mv)
theorem Fk(s:List Sl)(p:CS):(Dn s p).length<=1:=by unfold Dn;cases s.find? (Vx p)<;>simp
section
variable {l m:List Sl}{i k:Nat}{o S:List Sl}{f:CS->List Sl}{R:List Sl}
theorem mpA(h:o++(mp (l.drop i) (m.drop k)).flatMap f=R)(hi:i<l.length)(c:m.drop k=[]\/∃hk:k<m.length,Dq l[i].path m[k].path=true)(hS:f l[i].path=S):(o++S)++(mp (l.drop (i+1)) (m.drop k)).flatMap f=R:=by
 have e:mp (l.drop i) (m.drop k)=l[i].path::mp (l.drop (i+1)) (m.drop k):=by
  rw[AD hi];rcases c with c | ⟨hk,c⟩
  .rw[c,mp]
  .rw[AD hk,mp,AA (fun e=>by rw[e,Cm]at c;cases c),Ax c]
 rw[e,Ib,hS]at h;rw[BT];exact h
theorem mpB(h:o++(mp (l.drop i) (m.drop k)).flatMap f=R)(hk:k<m.length)(c:l.drop i=[]\/∃hi:i<l.length,Dq m[k].path l[i].path=true)(hS:f m[k].path=S):(o++S)++(mp (l.drop i) (m.drop (k+1))).flatMap f=R:=by
 have e:mp (l.drop i) (m.drop k)=m[k].path::mp (l.drop i) (m.drop (k+1)):=by
  rw[AD hk];rcases c with c | ⟨hi,c⟩
  .rw[c,mp]
  .rw[AD hi,mp,AA (fun e=>by rw[e,Cm]at c;cases c),AA (by rw[Jn c];decide)]
 rw[e,Ib,hS]at h;rw[BT];exact h
theorem mpC(h:o++(mp (l.drop i) (m.drop k)).flatMap f=R)(hi:i<l.length)(hk:k<m.length)(e:l[i].path=m[k].path)(hS:f l[i].path=S):(o++S)++(mp (l.drop (i+1)) (m.drop (k+1))).flatMap f=R:=by
 have e:mp (l.drop i) (m.drop k)=l[i].path::mp (l.drop (i+1)) (m.drop (k+1)):=by
  rw[AD hk,AD hi,mp,Ax e]
 rw[e,Ib,hS]at h;rw[BT];exact h
theorem mc{mv:List CS}{p:CS}(h:CV mv p=true):uF l m mv p=Dn m p:=Ax h
theorem ma{mv:List CS}{p:CS}(h:CV mv p=false):uF l m mv p=Dn l p:=AA (by rw[h];exact EC)
end
theorem jl{l:List Sl}(h:l.Pairwise Qu){s:Sl}(hs:s∈l):Dn l s.path=[s]:=by
 have q:=GB (Jq zI h) hs;unfold Dn;rw[show l.find? (Vx s.path)=some s from q];rfl
theorem XX{l m:List Sl}{mv:List CS}{p:CS}(hl:l.Pairwise Qu)(hm:m.Pairwise Qu):y∈uF l m mv p↔y.path=p/\(y∈l/\CV mv p=false\/y∈m/\CV mv p=true):=by
 have st:∀{s:List Sl},s.Pairwise Qu->(y∈Dn s p↔y.path=p/\y∈s):=fun {s} h=>by
  constructor
  .intro hy;have q:s.find? (Vx p)=some y:=Option.mem_toList.1 hy;have q2:Vx p y=true:=DA q;exact⟨AT q2,AX q⟩
  .rintro⟨rfl,hy⟩
   rw[jl h hy];exact Ah ..
 unfold uF;cases e:CV mv p with
 |true=>rw[Ax rfl,st hm];simp
 |false=>rw[AA EC,st hl];simp
theorem XW{l m:List Sl}(hl:l.Pairwise Qu)(hm:m.Pairwise Qu):l7 l m mv=Dx (OG l m mv):=by
 obtain⟨h1,h2,_⟩:=PL l m hl hm;refine Iw ?_ (Jw (OW hl hm mv)) fun y=>?_
 .unfold l7 XG;rw[List.pairwise_flatMap];refine⟨fun p _=>?_,h1.imp fun {a b} r7 y hy z hz=>?_⟩
  .unfold uF;split
   .exact(by unfold Dn;cases m.find? (Vx p)<;>simp)
   .exact(by unfold Dn;cases l.find? (Vx p)<;>simp)
  .rw[XX hl hm]at hy hz;show Dq y.path z.path=true;rw[hy.1,hz.1];exact r7
 .rw[FN,OG,Bh,CY,CY];unfold l7;rw[List.mem_flatMap];constructor
  .rintro⟨p,_,hy⟩
   obtain⟨rfl,h⟩:=(XX hl hm).1 hy;rcases h with ⟨h,e⟩ | ⟨h,e⟩
   .exact .inl ⟨h,by rw[e];rfl⟩
   .exact .inr ⟨h,e⟩
  .intro h;have hp:y.path∈mp l m:=(h2 _).2 (h.elim (fun h=>.inl (Ay.2 ⟨y,h.1,rfl⟩)) (fun h=>.inr (Ay.2 ⟨y,h.1,rfl⟩)));refine⟨y.path,hp,(XX hl hm).2 ⟨rfl,?_⟩⟩;rcases h with ⟨h,e⟩ | ⟨h,e⟩
   .exact .inl ⟨h,by simpa using e⟩
   .exact .inr ⟨h,e⟩
theorem vF(hl:FU l)(aC:FU m)(Pz:BD mv):PC 97 [sl Ab l,sl Ab m,sl Af mv] (sl Ab (l7 l m mv)):=by
 have hfl:l.length<=1073741824:=hl.few;have hfm:m.length<=1073741824:=aC.few;refine Ps (pC [] [8,11]) func97 rfl C4 (I {q:Nat×Nat×List Sl // q.1<=l.length/\q.2.1<=m.length/\q.2.2.length<=q.1+q.2.1/\q.2.2++(mp (l.drop q.1) (m.drop q.2.1)).flatMap (uF l m mv)=l7 l m mv} (I (fun q=>⟨[(0,sl Ab l),(1,sl Ab m),(2,sl Af mv),(7,.slice (.id 11 4) (q.1.2.2.map Ab)),(8,vi q.1.1),(9,vi q.1.2.1)],[(11,.tok 4 q.1.2.2.length)],Ae⟩) (I (fun q=>l.length+m.length-(q.1.1+q.1.2.1)) (J (I ⟨(0,0,[]),Aj _,Aj _,Aj _,rfl⟩ ?_) ?_))))
 .exact⟨Z6,Z1,Fh,C⟩
 intro⟨⟨i,k,o⟩,nI,hi2,hi3,Qq⟩;have nI:i<=l.length:=nI;have hi2:k<=m.length:=hi2;have hi3:o.length<=i+k:=hi3;have Qq:o++(mp (l.drop i) (m.drop k)).flatMap (uF l m mv)=l7 l m mv:=Qq;refine J (fun h1=>?_) (fun h1=>?_)
 .have h1:(i:Int)<((l.map Ab).length:Int):=h1;have n1:=Dh h1;refine J (fun h2=>?_) (fun h2=>?_)
  .have h2:(k:Int)=((m.map Ab).length:Int):=h2;have nk:m.drop k=[]:=AN (by have q:=h2;rw[Lm]at q;omega);refine J aa1 (I (Ab l[i]) (J (DC n1) (J rfl (cU [(0,sl Ab l),(1,sl Ab m),(2,sl Af mv),(7,.slice (.id 11 4) (o.map Ab)),(8,vi i),(9,vi k),(10,vs l[i].path)] [(11,.tok 4 o.length)] Z7 Z1 (A1 (Bt (CV mv l[i].path)) (fun h3=>?_) (fun h3=>?_))))))
   .have h3:(CV mv l[i].path)=true:=h3;refine C1 (C2 (cb h3 (Gn mv l[i].path Pz)) ?_);have vt:=Fk m l[i].path;refine C1 (C2 (Hi m l[i].path aC.few) ?_);have b4:Bi 4 ((Dn m l[i].path).map Ab)/\(o.map Ab).length=o.length/\((o.map Ab).length+((Dn m l[i].path).map Ab).length)*40<=140737488355328/\(o.map Ab).length+((Dn m l[i].path).map Ab).length<=9223372036854775807:=⟨(BV (enc:=Ab) (n:=4) (fun _=>rfl) (Dn m l[i].path)),(by rw[Lm]),(by simp only[Lm];omega),(by simp only[Lm];omega)⟩;refine J b4 (cU [(0,sl Ab l),(1,sl Ab m),(2,sl Af mv),(7,.slice (.id 11 4) ((o.map Ab)++((Dn m l[i].path).map Ab))),(8,vi i),(9,vi k),(10,vs l[i].path)] [(11,.tok 4 ((o.map Ab).length+((Dn m l[i].path).map Ab).length))] Z7 Z1 (J (fun _=>?_) (fun hf=>absurd h1 hf)));refine I (Ab l[i]) (J (DC n1) (J rfl (J (fun h5=>?_) (fun h5=>?_))))
    .have h5:(l[i].path:CS)=l[i].path:=h5;refine J (Ii i ch) (J (fun h6=>?_) (fun h6=>?_))
     .have h6:(k:Int)<((m.map Ab).length:Int):=h6;have n6:=Dh h6;exact absurd h2 (by have q:=h6;omega)
     have h6:¬((k:Int)<((m.map Ab).length:Int)):=h6;have n6:=BB h6;have eO:=mpA Qq n1 (.inl nk) (mc h3);have Rm:=Fk m l[i].path;refine I ⟨(i+1,k,(o++(Dn m l[i].path))),by show i+1<=l.length;omega,by show k<=m.length;omega,by show(o++(Dn m l[i].path)).length<=i+1+(k);rw[Ac];omega,eO⟩ ?_;exact⟨by show l.length+m.length-((i+1)+k)<l.length+m.length-(i+k);omega,⟨B,B,B,⟨(show AV.slice (.id 11 4) (o.map Ab++(Dn m l[i].path).map Ab)=.slice (.id 11 4) ((o++(Dn m l[i].path)).map Ab) by rw[Ar]),rfl⟩,B,B,C⟩,⟨⟨(show HO.tok 4 ((o.map Ab).length+((Dn m l[i].path).map Ab).length)=.tok 4 (o++(Dn m l[i].path)).length by rw[Ac,Lm,Lm]),rfl⟩,C⟩,Fh,C⟩
    have h5:¬(l[i].path:CS)=l[i].path:=h5;exact absurd rfl h5
   have h3:(CV mv l[i].path)=false:=h3;refine C1 (C2 (cb h3 (Gn mv l[i].path Pz)) ?_);have vt:=Fk l l[i].path;refine C1 (C2 (Hi l l[i].path hl.few) ?_);have b8:Bi 4 ((Dn l l[i].path).map Ab)/\(o.map Ab).length=o.length/\((o.map Ab).length+((Dn l l[i].path).map Ab).length)*40<=140737488355328/\(o.map Ab).length+((Dn l l[i].path).map Ab).length<=9223372036854775807:=⟨(BV (enc:=Ab) (n:=4) (fun _=>rfl) (Dn l l[i].path)),(by rw[Lm]),(by simp only[Lm];omega),(by simp only[Lm];omega)⟩;refine J b8 (cU [(0,sl Ab l),(1,sl Ab m),(2,sl Af mv),(7,.slice (.id 11 4) ((o.map Ab)++((Dn l l[i].path).map Ab))),(8,vi i),(9,vi k),(10,vs l[i].path)] [(11,.tok 4 ((o.map Ab).length+((Dn l l[i].path).map Ab).length))] Z7 Z1 (J (fun _=>?_) (fun hf=>absurd h1 hf)));refine I (Ab l[i]) (J (DC n1) (J rfl (J (fun h9=>?_) (fun h9=>?_))))
   .have h9:(l[i].path:CS)=l[i].path:=h9;refine J (Ii i ch) (J (fun Is=>?_) (fun Is=>?_))
    .have Is:(k:Int)<((m.map Ab).length:Int):=Is;have n10:=Dh Is;exact absurd h2 (by have q:=Is;omega)
    have Is:¬((k:Int)<((m.map Ab).length:Int)):=Is;have n10:=BB Is;have eO:=mpA Qq n1 (.inl nk) (ma h3);have Rm:=Fk l l[i].path;refine I ⟨(i+1,k,(o++(Dn l l[i].path))),by show i+1<=l.length;omega,by show k<=m.length;omega,by show(o++(Dn l l[i].path)).length<=i+1+(k);rw[Ac];omega,eO⟩ ?_;exact⟨by show l.length+m.length-((i+1)+k)<l.length+m.length-(i+k);omega,⟨B,B,B,⟨(show AV.slice (.id 11 4) (o.map Ab++(Dn l l[i].path).map Ab)=.slice (.id 11 4) ((o++(Dn l l[i].path)).map Ab) by rw[Ar]),rfl⟩,B,B,C⟩,⟨⟨(show HO.tok 4 ((o.map Ab).length+((Dn l l[i].path).map Ab).length)=.tok 4 (o++(Dn l l[i].path)).length by rw[Ac,Lm,Lm]),rfl⟩,C⟩,Fh,C⟩
   have h9:¬(l[i].path:CS)=l[i].path:=h9;exact absurd rfl h9
  have h2:¬((k:Int)=((m.map Ab).length:Int)):=h2;have nk:k<m.length:=by have q:=h2;rw[Lm]at q;omega
  refine J (fun _=>?_) (fun hf=>absurd h1 hf);refine I (Ab l[i]) (J (DC n1) (J rfl (I (Ab m[k]) (J (DC nk) (J rfl (J (fun Vu=>?_) (fun Vu=>?_)))))))
  .have Vu:Dq m[k].path l[i].path=false:=(DZ _ _).trans Vu;refine J aa1 (I (Ab l[i]) (J (DC n1) (J rfl (cU [(0,sl Ab l),(1,sl Ab m),(2,sl Af mv),(7,.slice (.id 11 4) (o.map Ab)),(8,vi i),(9,vi k),(10,vs l[i].path)] [(11,.tok 4 o.length)] Z7 Z1 (A1 (Bt (CV mv l[i].path)) (fun J6=>?_) (fun J6=>?_))))))
   .have J6:(CV mv l[i].path)=true:=J6;refine C1 (C2 (cb J6 (Gn mv l[i].path Pz)) ?_);have vt:=Fk m l[i].path;refine C1 (C2 (Hi m l[i].path aC.few) ?_);have b14:Bi 4 ((Dn m l[i].path).map Ab)/\(o.map Ab).length=o.length/\((o.map Ab).length+((Dn m l[i].path).map Ab).length)*40<=140737488355328/\(o.map Ab).length+((Dn m l[i].path).map Ab).length<=9223372036854775807:=⟨(BV (enc:=Ab) (n:=4) (fun _=>rfl) (Dn m l[i].path)),(by rw[Lm]),(by simp only[Lm];omega),(by simp only[Lm];omega)⟩;refine J b14 (cU [(0,sl Ab l),(1,sl Ab m),(2,sl Af mv),(7,.slice (.id 11 4) ((o.map Ab)++((Dn m l[i].path).map Ab))),(8,vi i),(9,vi k),(10,vs l[i].path)] [(11,.tok 4 ((o.map Ab).length+((Dn m l[i].path).map Ab).length))] Z7 Z1 (J (fun _=>?_) (fun hf=>absurd h1 hf)));refine I (Ab l[i]) (J (DC n1) (J rfl (J (fun Vv=>?_) (fun Vv=>?_))))
    .have Vv:(l[i].path:CS)=l[i].path:=Vv;refine J (Ii i ch) (J (fun Ei=>?_) (fun Ei=>?_))
     .have Ei:(k:Int)<((m.map Ab).length:Int):=Ei;have n16:=Dh Ei;refine I (Ab m[k]) (J (DC n16) (J rfl (J (fun ax=>?_) (fun ax=>?_))))
      .have ax:(m[k].path:CS)=l[i].path:=ax;refine J (Ii k ch) ?_;have eO:=mpC Qq n1 nk ax.symm (mc J6);have Rm:=Fk m l[i].path;refine I ⟨(i+1,k+1,(o++(Dn m l[i].path))),by show i+1<=l.length;omega,by show k+1<=m.length;omega,by show(o++(Dn m l[i].path)).length<=i+1+(k+1);rw[Ac];omega,eO⟩ ?_;exact⟨by show l.length+m.length-((i+1)+(k+1))<l.length+m.length-(i+k);omega,⟨B,B,B,⟨(show AV.slice (.id 11 4) (o.map Ab++(Dn m l[i].path).map Ab)=.slice (.id 11 4) ((o++(Dn m l[i].path)).map Ab) by rw[Ar]),rfl⟩,B,B,C⟩,⟨⟨(show HO.tok 4 ((o.map Ab).length+((Dn m l[i].path).map Ab).length)=.tok 4 (o++(Dn m l[i].path)).length by rw[Ac,Lm,Lm]),rfl⟩,C⟩,Fh,C⟩
      have ax:¬(m[k].path:CS)=l[i].path:=ax;have eO:=mpA Qq n1 (.inr ⟨nk,Jo (fun e=>ax e.symm) Vu⟩) (mc J6);have Rm:=Fk m l[i].path;refine I ⟨(i+1,k,(o++(Dn m l[i].path))),by show i+1<=l.length;omega,by show k<=m.length;omega,by show(o++(Dn m l[i].path)).length<=i+1+(k);rw[Ac];omega,eO⟩ ?_;exact⟨by show l.length+m.length-((i+1)+k)<l.length+m.length-(i+k);omega,⟨B,B,B,⟨(show AV.slice (.id 11 4) (o.map Ab++(Dn m l[i].path).map Ab)=.slice (.id 11 4) ((o++(Dn m l[i].path)).map Ab) by rw[Ar]),rfl⟩,B,B,C⟩,⟨⟨(show HO.tok 4 ((o.map Ab).length+((Dn m l[i].path).map Ab).length)=.tok 4 (o++(Dn m l[i].path)).length by rw[Ac,Lm,Lm]),rfl⟩,C⟩,Fh,C⟩
     have Ei:¬((k:Int)<((m.map Ab).length:Int)):=Ei;have n16:=BB Ei;exact absurd nk n16
    have Vv:¬(l[i].path:CS)=l[i].path:=Vv;exact absurd rfl Vv
   have J6:(CV mv l[i].path)=false:=J6;refine C1 (C2 (cb J6 (Gn mv l[i].path Pz)) ?_);have vt:=Fk l l[i].path;refine C1 (C2 (Hi l l[i].path hl.few) ?_);have b20:Bi 4 ((Dn l l[i].path).map Ab)/\(o.map Ab).length=o.length/\((o.map Ab).length+((Dn l l[i].path).map Ab).length)*40<=140737488355328/\(o.map Ab).length+((Dn l l[i].path).map Ab).length<=9223372036854775807:=⟨(BV (enc:=Ab) (n:=4) (fun _=>rfl) (Dn l l[i].path)),(by rw[Lm]),(by simp only[Lm];omega),(by simp only[Lm];omega)⟩;refine J b20 (cU [(0,sl Ab l),(1,sl Ab m),(2,sl Af mv),(7,.slice (.id 11 4) ((o.map Ab)++((Dn l l[i].path).map Ab))),(8,vi i),(9,vi k),(10,vs l[i].path)] [(11,.tok 4 ((o.map Ab).length+((Dn l l[i].path).map Ab).length))] Z7 Z1 (J (fun _=>?_) (fun hf=>absurd h1 hf)));refine I (Ab l[i]) (J (DC n1) (J rfl (J (fun Uc=>?_) (fun Uc=>?_))))
   .have Uc:(l[i].path:CS)=l[i].path:=Uc;refine J (Ii i ch) (J (fun wN=>?_) (fun wN=>?_))
    .have wN:(k:Int)<((m.map Ab).length:Int):=wN;have n22:=Dh wN;refine I (Ab m[k]) (J (DC n22) (J rfl (J (fun Ym=>?_) (fun Ym=>?_))))
     .have Ym:(m[k].path:CS)=l[i].path:=Ym;refine J (Ii k ch) ?_;have eO:=mpC Qq n1 nk Ym.symm (ma J6);have Rm:=Fk l l[i].path;refine I ⟨(i+1,k+1,(o++(Dn l l[i].path))),by show i+1<=l.length;omega,by show k+1<=m.length;omega,by show(o++(Dn l l[i].path)).length<=i+1+(k+1);rw[Ac];omega,eO⟩ ?_;exact⟨by show l.length+m.length-((i+1)+(k+1))<l.length+m.length-(i+k);omega,⟨B,B,B,⟨(show AV.slice (.id 11 4) (o.map Ab++(Dn l l[i].path).map Ab)=.slice (.id 11 4) ((o++(Dn l l[i].path)).map Ab) by rw[Ar]),rfl⟩,B,B,C⟩,⟨⟨(show HO.tok 4 ((o.map Ab).length+((Dn l l[i].path).map Ab).length)=.tok 4 (o++(Dn l l[i].path)).length by rw[Ac,Lm,Lm]),rfl⟩,C⟩,Fh,C⟩
     have Ym:¬(m[k].path:CS)=l[i].path:=Ym;have eO:=mpA Qq n1 (.inr ⟨nk,Jo (fun e=>Ym e.symm) Vu⟩) (ma J6);have Rm:=Fk l l[i].path;refine I ⟨(i+1,k,(o++(Dn l l[i].path))),by show i+1<=l.length;omega,by show k<=m.length;omega,by show(o++(Dn l l[i].path)).length<=i+1+(k);rw[Ac];omega,eO⟩ ?_;exact⟨by show l.length+m.length-((i+1)+k)<l.length+m.length-(i+k);omega,⟨B,B,B,⟨(show AV.slice (.id 11 4) (o.map Ab++(Dn l l[i].path).map Ab)=.slice (.id 11 4) ((o++(Dn l l[i].path)).map Ab) by rw[Ar]),rfl⟩,B,B,C⟩,⟨⟨(show HO.tok 4 ((o.map Ab).length+((Dn l l[i].path).map Ab).length)=.tok 4 (o++(Dn l l[i].path)).length by rw[Ac,Lm,Lm]),rfl⟩,C⟩,Fh,C⟩
    have wN:¬((k:Int)<((m.map Ab).length:Int)):=wN;have n22:=BB wN;exact absurd nk n22
   have Uc:¬(l[i].path:CS)=l[i].path:=Uc;exact absurd rfl Uc
  have Vu:Dq m[k].path l[i].path=true:=(DZ _ _).trans (by simpa using Vu);refine J aa1 (I (Ab m[k]) (J (DC nk) (J rfl (cU [(0,sl Ab l),(1,sl Ab m),(2,sl Af mv),(7,.slice (.id 11 4) (o.map Ab)),(8,vi i),(9,vi k),(10,vs m[k].path)] [(11,.tok 4 o.length)] Z7 Z1 (A1 (Bt (CV mv m[k].path)) (fun cu=>?_) (fun cu=>?_))))))
  .have cu:(CV mv m[k].path)=true:=cu;refine C1 (C2 (cb cu (Gn mv m[k].path Pz)) ?_);have vt:=Fk m m[k].path;refine C1 (C2 (Hi m m[k].path aC.few) ?_);have b27:Bi 4 ((Dn m m[k].path).map Ab)/\(o.map Ab).length=o.length/\((o.map Ab).length+((Dn m m[k].path).map Ab).length)*40<=140737488355328/\(o.map Ab).length+((Dn m m[k].path).map Ab).length<=9223372036854775807:=⟨(BV (enc:=Ab) (n:=4) (fun _=>rfl) (Dn m m[k].path)),(by rw[Lm]),(by simp only[Lm];omega),(by simp only[Lm];omega)⟩;refine J b27 (cU [(0,sl Ab l),(1,sl Ab m),(2,sl Af mv),(7,.slice (.id 11 4) ((o.map Ab)++((Dn m m[k].path).map Ab))),(8,vi i),(9,vi k),(10,vs m[k].path)] [(11,.tok 4 ((o.map Ab).length+((Dn m m[k].path).map Ab).length))] Z7 Z1 (J (fun _=>?_) (fun hf=>absurd h1 hf)));refine I (Ab l[i]) (J (DC n1) (J rfl (J (fun zm=>?_) (fun zm=>?_))))
   .have zm:(l[i].path:CS)=m[k].path:=zm;exact absurd Vu (by rw[zm,Cm];decide)
   have zm:¬(l[i].path:CS)=m[k].path:=zm;refine J (fun wO=>?_) (fun wO=>?_)
   .have wO:(k:Int)<((m.map Ab).length:Int):=wO;have n29:=Dh wO;refine I (Ab m[k]) (J (DC n29) (J rfl (J (fun lr=>?_) (fun lr=>?_))))
    .have lr:(m[k].path:CS)=m[k].path:=lr;refine J (Ii k ch) ?_;have eO:=mpB Qq nk (.inr ⟨n1,Vu⟩) (mc cu);have Rm:=Fk m m[k].path;refine I ⟨(i,k+1,(o++(Dn m m[k].path))),by show i<=l.length;omega,by show k+1<=m.length;omega,by show(o++(Dn m m[k].path)).length<=i+(k+1);rw[Ac];omega,eO⟩ ?_;exact⟨by show l.length+m.length-(i+(k+1))<l.length+m.length-(i+k);omega,⟨B,B,B,⟨(show AV.slice (.id 11 4) (o.map Ab++(Dn m m[k].path).map Ab)=.slice (.id 11 4) ((o++(Dn m m[k].path)).map Ab) by rw[Ar]),rfl⟩,B,B,C⟩,⟨⟨(show HO.tok 4 ((o.map Ab).length+((Dn m m[k].path).map Ab).length)=.tok 4 (o++(Dn m m[k].path)).length by rw[Ac,Lm,Lm]),rfl⟩,C⟩,Fh,C⟩
    have lr:¬(m[k].path:CS)=m[k].path:=lr;exact absurd rfl lr
   have wO:¬((k:Int)<((m.map Ab).length:Int)):=wO;have n29:=BB wO;exact absurd nk n29
  have cu:(CV mv m[k].path)=false:=cu;refine C1 (C2 (cb cu (Gn mv m[k].path Pz)) ?_);have vt:=Fk l m[k].path;refine C1 (C2 (Hi l m[k].path hl.few) ?_);have b32:Bi 4 ((Dn l m[k].path).map Ab)/\(o.map Ab).length=o.length/\((o.map Ab).length+((Dn l m[k].path).map Ab).length)*40<=140737488355328/\(o.map Ab).length+((Dn l m[k].path).map Ab).length<=9223372036854775807:=⟨(BV (enc:=Ab) (n:=4) (fun _=>rfl) (Dn l m[k].path)),(by rw[Lm]),(by simp only[Lm];omega),(by simp only[Lm];omega)⟩;refine J b32 (cU [(0,sl Ab l),(1,sl Ab m),(2,sl Af mv),(7,.slice (.id 11 4) ((o.map Ab)++((Dn l m[k].path).map Ab))),(8,vi i),(9,vi k),(10,vs m[k].path)] [(11,.tok 4 ((o.map Ab).length+((Dn l m[k].path).map Ab).length))] Z7 Z1 (J (fun _=>?_) (fun hf=>absurd h1 hf)));refine I (Ab l[i]) (J (DC n1) (J rfl (J (fun cw=>?_) (fun cw=>?_))))
  .have cw:(l[i].path:CS)=m[k].path:=cw;exact absurd Vu (by rw[cw,Cm];decide)
  have cw:¬(l[i].path:CS)=m[k].path:=cw;refine J (fun dw=>?_) (fun dw=>?_)
  .have dw:(k:Int)<((m.map Ab).length:Int):=dw;have n34:=Dh dw;refine I (Ab m[k]) (J (DC n34) (J rfl (J (fun zo=>?_) (fun zo=>?_))))
   .have zo:(m[k].path:CS)=m[k].path:=zo;refine J (Ii k ch) ?_;have eO:=mpB Qq nk (.inr ⟨n1,Vu⟩) (ma cu);have Rm:=Fk l m[k].path;refine I ⟨(i,k+1,(o++(Dn l m[k].path))),by show i<=l.length;omega,by show k+1<=m.length;omega,by show(o++(Dn l m[k].path)).length<=i+(k+1);rw[Ac];omega,eO⟩ ?_;exact⟨by show l.length+m.length-(i+(k+1))<l.length+m.length-(i+k);omega,⟨B,B,B,⟨(show AV.slice (.id 11 4) (o.map Ab++(Dn l m[k].path).map Ab)=.slice (.id 11 4) ((o++(Dn l m[k].path)).map Ab) by rw[Ar]),rfl⟩,B,B,C⟩,⟨⟨(show HO.tok 4 ((o.map Ab).length+((Dn l m[k].path).map Ab).length)=.tok 4 (o++(Dn l m[k].path)).length by rw[Ac,Lm,Lm]),rfl⟩,C⟩,Fh,C⟩
   have zo:¬(m[k].path:CS)=m[k].path:=zo;exact absurd rfl zo
  have dw:¬((k:Int)<((m.map Ab).length:Int)):=dw;have n34:=BB dw;exact absurd nk n34
 have h1:¬((i:Int)<((l.map Ab).length:Int)):=h1;have n1:=BB h1;refine J (fun ns=>?_) (fun ns=>?_)
 .have ns:(k:Int)<((m.map Ab).length:Int):=ns;have n37:=Dh ns;refine J (fun fW=>?_) (fun fW=>?_)
  .have fW:(k:Int)=((m.map Ab).length:Int):=fW;exact absurd fW (by have q:=ns;omega)
  have fW:¬((k:Int)=((m.map Ab).length:Int)):=fW;refine J (fun hf=>absurd hf h1) (fun _=>?_);refine J aa1 (I (Ab m[k]) (J (DC n37) (J rfl (cU [(0,sl Ab l),(1,sl Ab m),(2,sl Af mv),(7,.slice (.id 11 4) (o.map Ab)),(8,vi i),(9,vi k),(10,vs m[k].path)] [(11,.tok 4 o.length)] Z7 Z1 (A1 (Bt (CV mv m[k].path)) (fun rY=>?_) (fun rY=>?_))))))
  .have rY:(CV mv m[k].path)=true:=rY;refine C1 (C2 (cb rY (Gn mv m[k].path Pz)) ?_);have vt:=Fk m m[k].path;refine C1 (C2 (Hi m m[k].path aC.few) ?_);have b40:Bi 4 ((Dn m m[k].path).map Ab)/\(o.map Ab).length=o.length/\((o.map Ab).length+((Dn m m[k].path).map Ab).length)*40<=140737488355328/\(o.map Ab).length+((Dn m m[k].path).map Ab).length<=9223372036854775807:=⟨(BV (enc:=Ab) (n:=4) (fun _=>rfl) (Dn m m[k].path)),(by rw[Lm]),(by simp only[Lm];omega),(by simp only[Lm];omega)⟩;refine J b40 (cU [(0,sl Ab l),(1,sl Ab m),(2,sl Af mv),(7,.slice (.id 11 4) ((o.map Ab)++((Dn m m[k].path).map Ab))),(8,vi i),(9,vi k),(10,vs m[k].path)] [(11,.tok 4 ((o.map Ab).length+((Dn m m[k].path).map Ab).length))] Z7 Z1 (J (fun hf=>absurd hf h1) (fun _=>?_)));refine J (fun _=>?_) (fun hf=>absurd ns hf);refine I (Ab m[k]) (J (DC n37) (J rfl (J (fun zp=>?_) (fun zp=>?_))))
   .have zp:(m[k].path:CS)=m[k].path:=zp;refine J (Ii k ch) ?_;have eO:=mpB Qq n37 (.inl (AN (by have q:=h1;rw[Lm]at q;omega))) (mc rY);have Rm:=Fk m m[k].path;refine I ⟨(i,k+1,(o++(Dn m m[k].path))),by show i<=l.length;omega,by show k+1<=m.length;omega,by show(o++(Dn m m[k].path)).length<=i+(k+1);rw[Ac];omega,eO⟩ ?_;exact⟨by show l.length+m.length-(i+(k+1))<l.length+m.length-(i+k);omega,⟨B,B,B,⟨(show AV.slice (.id 11 4) (o.map Ab++(Dn m m[k].path).map Ab)=.slice (.id 11 4) ((o++(Dn m m[k].path)).map Ab) by rw[Ar]),rfl⟩,B,B,C⟩,⟨⟨(show HO.tok 4 ((o.map Ab).length+((Dn m m[k].path).map Ab).length)=.tok 4 (o++(Dn m m[k].path)).length by rw[Ac,Lm,Lm]),rfl⟩,C⟩,Fh,C⟩
   have zp:¬(m[k].path:CS)=m[k].path:=zp;exact absurd rfl zp
  have rY:(CV mv m[k].path)=false:=rY;refine C1 (C2 (cb rY (Gn mv m[k].path Pz)) ?_);have vt:=Fk l m[k].path;refine C1 (C2 (Hi l m[k].path hl.few) ?_);have b43:Bi 4 ((Dn l m[k].path).map Ab)/\(o.map Ab).length=o.length/\((o.map Ab).length+((Dn l m[k].path).map Ab).length)*40<=140737488355328/\(o.map Ab).length+((Dn l m[k].path).map Ab).length<=9223372036854775807:=⟨(BV (enc:=Ab) (n:=4) (fun _=>rfl) (Dn l m[k].path)),(by rw[Lm]),(by simp only[Lm];omega),(by simp only[Lm];omega)⟩;refine J b43 (cU [(0,sl Ab l),(1,sl Ab m),(2,sl Af mv),(7,.slice (.id 11 4) ((o.map Ab)++((Dn l m[k].path).map Ab))),(8,vi i),(9,vi k),(10,vs m[k].path)] [(11,.tok 4 ((o.map Ab).length+((Dn l m[k].path).map Ab).length))] Z7 Z1 (J (fun hf=>absurd hf h1) (fun _=>?_)));refine J (fun _=>?_) (fun hf=>absurd ns hf);refine I (Ab m[k]) (J (DC n37) (J rfl (J (fun lu=>?_) (fun lu=>?_))))
  .have lu:(m[k].path:CS)=m[k].path:=lu;refine J (Ii k ch) ?_;have eO:=mpB Qq n37 (.inl (AN (by have q:=h1;rw[Lm]at q;omega))) (ma rY);have Rm:=Fk l m[k].path;refine I ⟨(i,k+1,(o++(Dn l m[k].path))),by show i<=l.length;omega,by show k+1<=m.length;omega,by show(o++(Dn l m[k].path)).length<=i+(k+1);rw[Ac];omega,eO⟩ ?_;exact⟨by show l.length+m.length-(i+(k+1))<l.length+m.length-(i+k);omega,⟨B,B,B,⟨(show AV.slice (.id 11 4) (o.map Ab++(Dn l m[k].path).map Ab)=.slice (.id 11 4) ((o++(Dn l m[k].path)).map Ab) by rw[Ar]),rfl⟩,B,B,C⟩,⟨⟨(show HO.tok 4 ((o.map Ab).length+((Dn l m[k].path).map Ab).length)=.tok 4 (o++(Dn l m[k].path)).length by rw[Ac,Lm,Lm]),rfl⟩,C⟩,Fh,C⟩
  have lu:¬(m[k].path:CS)=m[k].path:=lu;exact absurd rfl lu
 have ns:¬((k:Int)<((m.map Ab).length:Int)):=ns;have n37:=BB ns;have e1:o=l7 l m mv:=by rw[<-Qq,AN (by have q:=h1;rw[Lm]at q;omega),AN (by have q:=ns;rw[Lm]at q;omega),mp];exact(Bg o).symm
 exact C5 (sl Ab) e1
end Go.Eng
namespace Go.Eng
theorem MV:∀{l:List CS},Fx l=true↔∀k (h:k+1<l.length),Dq l[k+1] l[k]=false
 | []=>by simp[Fx]
 | [a]=>by simp[Fx]
 |a::b::r=>by
  rw[Fx,At,MV (l:=b::r)];constructor
  .grind
  .intro h;exact⟨by simpa using h 0 Cl,fun k hk=>h (k+1) B0⟩
theorem xC{a b:CS}(Ef:a≠b)(h:Ks a<=Ks b):Dq a b=true:=by
 refine Jo Ef ?_;cases e:Dq b a with
 |false=>rfl
 |true=>exact absurd (YB e) (List.not_lt.2 h)
theorem yd{F N:List CS}(hn:F.Nodup)(hs:N.Pairwise fun a b=>Dq a b=true)(h1:∀x∈F,x∈N)(h2:∀x∈N,x∈F):Iq F=N:=by
 obtain⟨p,q⟩:=HA F;rw[KE]at q;have n:(Iq F).Nodup:=p.nodup_iff.2 hn;have s:(Iq F).Pairwise fun a b=>Dq a b=true:=(List.Pairwise.and q n).imp fun h=>xC h.2 h.1;have nN:N.Nodup:=hs.imp fun h=>Ih h
 grind [List.Perm.eq_of_pairwise,Jn,List.perm_ext_iff_of_nodup]
theorem sQ{l m:List Sl}(hl:l.Pairwise Qu)(hm:m.Pairwise Qu):(D2 l m).Pairwise fun a b=>Dq a b=true:=by
 obtain⟨h1,_,h3⟩:=PL l m hl hm<;>grind [D2,LC]
end Go.Eng
