/- Lemmas 28. -/
import Derived.Test.YtkmnnpmneamgoaaGreatDoorPA27
set_option maxHeartbeats 4000000
namespace Go.Eng
open Go.Proofs
variable {α:Type}{f:α->Bool}{v:Ver}{b:Bool}{i j k:Nat}(x:List Rl)(ifs:List (List AV))(N m:List Rq)(q:Rq)(roots:List Rq)(l:List Sl)(r:Rl)(y:Sl)(s:List Sl)(p:ByteArray)(pl:Int)
theorem Mj{cx:Cx}{c:Code}{Q:Ex->St->Prop}{s s' : LS}(h:s=s')(hk:M0 cx c Q s'.st):M0 cx c Q s.st:=by simp_all
theorem dA{x:List Rl}{p:ByteArray}(h:Av x=0):Bo x ⟨p,v⟩=x.find? fun r=>decide (Cq r=⟨p,v⟩):=AI (Mf h)
theorem Pn{r:Rl}{p:ByteArray}:Cq r=⟨p,v⟩↔r.path=p/\r.ver.a=v.a/\r.ver.b=v.b/\r.ver.c=v.c:=by
 unfold Cq;constructor
 .simp_all
 .rintro⟨rfl,h1,h2,h3⟩
  cases hr:r.ver<;>simp_all
def Hv:List Rq:=match Bo x y with | some r=>r.reqs | none=>[]
def Cb:List Rq:=roots++(l.map (Hv x)).flatten
theorem Lt:Cb x roots []=roots:=by grind [Cb]
theorem Oq:Cb x roots (l++[y])=Cb x roots l++Hv x y:=by grind [Cb]
theorem RD(h:i<l.length):Cb x roots (l.take (i+1))=Cb x roots (l.take i)++Hv x l[i]:=by
 grind [List.take_add_one,Oq]
theorem UB{x:List Rl}:(Hv x y).length<=16:=by
 unfold Hv;split
 .rename_i r hr;exact(Fb (CH hr).1).2 r (CH hr).2.1
 .simp
theorem Ot:∀l:List Sl,(Cb x roots l).length<=roots.length+16*l.length:=fun l=>by
 unfold Cb;rw[Ay]
 have:∀l:List Sl,((l.map (Hv x)).flatten).length<=16*l.length:=fun l=>by
  induction l<;>grind [UB]
 simp_all
theorem cl{x:List Rl}{roots:List Rq}(hx:∀r∈x,E4 r)(hr:∀q∈roots,BL q.set)(l:List Sl):∀q∈Cb x roots l,BL q.set:=fun q hq=>by
 unfold Cb at hq;rcases Bc.1 hq with hq | hq
 .simp_all
 .obtain⟨m,hm,rS⟩:=Fk.1 hq;obtain⟨y,_,rfl⟩:=Ar.1 hm;unfold Hv at rS;split at rS
  .rename_i r Vh;exact((hx r (CH Vh).2.1).2 q rS).1
  simp_all
theorem zk(v:Ver)(hx:∀r∈x,E4 r)(Kl:BL x):PC 105 [.agg (Ic x ifs),vs p,.agg (ES v)] (H4 (Bo x ⟨p,v⟩)):=by
 refine Ps De Tryz.func105 rfl (Nz rfl) (yN (Xi .pure (Xi _ (Yi (uV x ifs hx) (Yi (fun h1=>?_) (fun h1=>?_))))))
 .refine yN (yN ?_);exact .of_eq (show AV.tup [.agg X6,vb false]=H4 (Bo x ⟨p,v⟩) by grind [Bo])
 have h1:(Av x:Int)=(0:Int):=A9 h1;refine Xi {i:Nat // i<=x.length/\∀j (h:j<x.length),j<i->decide (Cq x[j]=⟨p,v⟩)=false} (Xi (fun q=>⟨[(1,vs p),(3,.ref 3 0),(5,.ref 5 0),(6,.ref 6 0),(8,vi q.1)],[(3,.cells (Ic x ifs)),(5,.cells (ES v)),(6,.cells [vs ⟨#[]⟩,vi 0,vi 0,vi 0,nzA,vs ⟨#[]⟩,vs ⟨#[]⟩,vs ⟨#[]⟩,vb false])],Ae⟩) (Xi (fun q=>x.length-q.1) (Yi (Xi ⟨0,Ap _,fun j _ h=>by omega⟩ ?_) ?_)))
 .exact⟨Z5,Z3,Fh,Tv⟩
 intro⟨i,i1,i2⟩;refine Yi (fun h3=>?_) (fun h3=>?_)
 .have h3:(i:Int)<((x.map Am).length:Int):=h3;have n3:=Ok h3;refine Xi (Am x[i]) (Yi (TZ n3) (Yi rfl (Yi (fun h4=>?_) (fun h4=>?_))))
  .refine Xi (Am x[i]) (Yi (TZ n3) (Yi rfl (yN (yN (Yi (fun h5=>?_) (fun h5=>?_))))))
   .refine Yi aa3 (Xi (Am x[i]) (Yi (TZ n3) (Yi rfl (yN (yN (yN ?_))))));exact .of_eq (show AV.tup [.agg (Am x[i]),vb true]=H4 (Bo x ⟨p,v⟩) by rw[dA h1,Tr n3 i2 (Bs (Pn.2 ⟨h4,h5.1,h5.2.1,h5.2.2.1⟩))])
   refine Yi aa3 (Yi (by grind [As]) (Xi ⟨i+1,by omega,fun j hj Hg=>(El j i).elim (i2 j hj) (fun z=>by have e:j=i:=aa0;subst e;exact AP (fun h=>h5 ⟨(Pn.1 h).2.1,(Pn.1 h).2.2.1,(Pn.1 h).2.2.2,trivial⟩))⟩ ?_));exact⟨Dl x.length i aa0,Z5,Z3,Fh,Tv⟩
  refine Yi aa3 (Yi (by grind [As]) (Xi ⟨i+1,by omega,fun j hj Hg=>(El j i).elim (i2 j hj) (fun z=>by grind [Pn])⟩ ?_));exact⟨Dl x.length i aa0,Z5,Z3,Fh,Tv⟩
 have h3:¬((i:Int)<((x.map Am).length:Int)):=h3;have n3:=Oj h3;refine yN (yN ?_);exact .of_eq (show AV.tup [.agg X6,vb false]=H4 (Bo x ⟨p,v⟩) by grind [dA,Qn])
theorem wa(hx:∀r∈x,E4 r)(Kl:BL x)(Jh:roots.length<=1000000)(hs:s.length<=1000000):PC 126 [.agg (Ic x ifs),sl Ac roots,sl Ag s] (sl Ac (Cb x roots s)):=by
 have P0:∀(p:ByteArray) (v:Ver),PC 105 [Il x ifs,vs p,.agg (ES v)] (H4 (Bo x ⟨p,v⟩)):=fun p v=>zk x ifs p v hx Kl;refine Ps De Tryz.func126 rfl (Nz rfl) ?_;have b1:A7 2 (roots.map Ac)/\([]:List (List AV)).length=0/\(([]:List (List AV)).length+(roots.map Ac).length)*40<=140737488355328/\([]:List (List AV)).length+(roots.map Ac).length<=9223372036854775807:=⟨(Cn (enc:=Ac) (n:=2) (fun _=>rfl) roots),(by simp_all),(by grind),(by grind)⟩;refine Yi b1 (Xi {q:Nat×List Rq // q.1<=s.length/\q.2=Cb x roots (s.take q.1)} (Xi (fun q=>⟨[(2,sl Ag s),(3,.ref 3 0),(7,.slice (.id 11 2) (q.1.2.map Ac)),(8,vi q.1.1)],[(3,.cells (Ic x ifs)),(11,.tok 2 q.1.2.length)],Ae⟩) (Xi (fun q=>s.length-q.1.1) (Yi (Xi ⟨(0,roots),Ap _,(Lt x roots).symm⟩ ?_) ?_))))
 .exact⟨⟨Zr,Zr,⟨(show AV.slice (.id 11 2) ([]++roots.map Ac)=.slice (.id 11 2) (roots.map Ac) by simp_all),rfl⟩,Zr,Tv⟩,⟨Zr,⟨(show HO.tok 2 (([]:List (List AV)).length+(roots.map Ac).length)=.tok 2 roots.length by simp_all),rfl⟩,Tv⟩,Fh,Tv⟩
 intro⟨⟨i,A⟩,i1,i2⟩;have i2:A=Cb x roots (s.take i):=i2;have hA:A.length<=roots.length+16*i:=by
  grind [Ot]
 refine Yi (fun h2=>?_) (fun h2=>?_)
 .have h2:(i:Int)<((s.map Ag).length:Int):=h2;have n2:=Ok h2;refine yN (Xi (Ag s[i]) (Yi (TZ n2) (Yi rfl (Xi (Ag s[i]) (Yi (TZ n2) (Yi rfl (yN (AA (Dt (Bo x ⟨s[i].path,s[i].ver⟩)) (fun h3=>?_) (fun h3=>?_)))))))))
  .refine Al h3 (fun r h3=>?_);have dK:=P0 s[i].path s[i].ver;rw[h3]at dK;have Vj:=UB (x:=x) s[i];rw[show Hv x s[i]=r.reqs by grind [Hv,Bo]]at Vj;refine Xi _ (Yi dK (yN (Yi aa3 ?_)));have b4:A7 2 (r.reqs.map Ac)/\(A.map Ac).length=A.length/\((A.map Ac).length+(r.reqs.map Ac).length)*40<=140737488355328/\(A.map Ac).length+(r.reqs.map Ac).length<=9223372036854775807:=⟨(Cn (enc:=Ac) (n:=2) (fun _=>rfl) r.reqs),(by simp_all),(by grind),(by grind)⟩;refine Yi b4 (Yi (by grind [As]) (Xi ⟨(i+1,A++r.reqs),by omega,by show A++r.reqs=Cb x roots (s.take (i+1));grind [RD,Hv,Bo]⟩ ?_));exact⟨by grind,⟨Zr,Zr,⟨(show AV.slice (.id 11 2) (A.map Ac++r.reqs.map Ac)=.slice (.id 11 2) ((A++r.reqs).map Ac) by simp),rfl⟩,Zr,Tv⟩,⟨Zr,⟨(show HO.tok 2 ((A.map Ac).length+(r.reqs.map Ac:List (List AV)).length)=.tok 2 (A++r.reqs).length by simp),rfl⟩,Tv⟩,Fh,Tv⟩
  have dK:=P0 s[i].path s[i].ver;rw[h3]at dK;refine Xi _ (Yi dK (yN (Yi aa3 ?_)));have b6:A7 2 []/\(A.map Ac).length=A.length/\((A.map Ac).length+([]:List (List AV)).length)*40<=140737488355328/\(A.map Ac).length+([]:List (List AV)).length<=9223372036854775807:=⟨trivial,(by simp_all),(by grind),(by grind)⟩;refine Yi b6 (Yi (by grind [As]) (Xi ⟨(i+1,A++([]:List Rq)),by omega,by show A++([]:List Rq)=Cb x roots (s.take (i+1));rw[RD x roots s n2,<-i2,show Hv x s[i]=([]:List Rq) by grind [Hv,Bo]]⟩ ?_));exact⟨by grind,⟨Zr,Zr,⟨(show AV.slice (.id 11 2) (A.map Ac++[])=.slice (.id 11 2) ((A++([]:List Rq)).map Ac) by simp),rfl⟩,Zr,Tv⟩,⟨Zr,⟨(show HO.tok 2 ((A.map Ac).length+([]:List (List AV)).length)=.tok 2 (A++([]:List Rq)).length by simp),rfl⟩,Tv⟩,Fh,Tv⟩
 have h2:¬((i:Int)<((s.map Ag).length:Int)):=h2;have n2:=Oj h2;exact .of_eq (Aa (sl Ac) (show A=Cb x roots s by grind))
theorem TH:BS s p=(AB s p).isSome:=by grind [BS,AB]
section
variable {s:List Sl}{q:Rq}{o:Option ByteArray}
theorem ZN(h:(AB s q.path).isSome=true):Cu s o q=o:=by unfold Cu;grind [TH]
theorem mv(h:(AB s q.path).isSome=false)(ho:o.isSome=false):Cu s o q=some q.path:=by
 unfold Cu;grind [TH]
theorem iu(h:(AB s q.path).isSome=false)(ho:o.isSome=true)(hb:Fp q.path (o.getD mt)=true):Cu s o q=some q.path:=by
 unfold Cu;grind [TH]
theorem iv(_:(AB s q.path).isSome=false)(ho:o.isSome=true)(hb:Fp q.path (o.getD mt)=false):Cu s o q=o:=by
 unfold Cu;grind
end
abbrev mr:AV:=.tup [vs ((DF N s).getD mt),vb (DF N s).isSome]
theorem c81(hx:∀r∈x,E4 r)(Kl:BL x)(Jh:roots.length<=1000000)(hs:s.length<=1000000):PC 73 [.agg (Ic x ifs),sl Ac roots,sl Ag s] (mr (Cb x roots s) s):=by
 obtain⟨N,hN⟩:∃N,N=Cb x roots s:=⟨_,rfl⟩;have kT:=wa x ifs roots s hx Kl Jh hs;have ve:=Ot x roots s;rw[<-hN]at kT ve⊢;have aE:BL s:=by omega
 refine Ps De Tryz.func73 rfl (Nz rfl) (yN (Xi .pure (Xi _ (Yi kT (Xi {q:Nat×Option ByteArray // q.1<=N.length/\q.2=CE s (N.take q.1) none} (Xi (fun q=>⟨[(2,sl Ag s),(8,sl Ac N),(9,vs (q.1.2.getD mt)),(10,vb q.1.2.isSome),(11,vi q.1.1)],[],Ae⟩) (Xi (fun q=>N.length-q.1.1) (Yi (Xi ⟨(0,none),Ap _,rfl⟩ ?_) ?_))))))))
 .exact⟨Z5,Tv,Fh,Tv⟩
 intro⟨⟨i,o⟩,i1,i2⟩;refine AA (Bt o.isSome) (fun h1=>?_) (fun h1=>?_)
 .refine Mj (Aa (fun bb=>(⟨[(2,sl Ag s),(8,sl Ac N),(9,vs (o.getD mt)),(10,vb bb),(11,vi i)],[],Ae⟩:LS)) h1) (Yi (fun h2=>?_) (fun h2=>?_))
  .have n2:=Ok h2;refine Xi (Ac N[i]) (Yi (TZ n2) (Yi rfl (AA (Bt (AB s N[i].path).isSome) (fun h3=>?_) (fun h3=>?_))))
   .have YV:=(show PC 127 [sl Ag s,vs N[i].path] (.tup [.agg (Ag ((AB s N[i].path).getD Mc)),vb (AB s N[i].path).isSome])from uW s N[i].path aE);rw[show(AB s N[i].path).isSome=true from h3]at YV;refine Xi .pure (Xi _ (Yi YV (yN (Yi (by grind [As]) (Xi ⟨(i+1,o),by omega,by grind [Hz,ZN]⟩ ?_)))));exact⟨by grind,⟨Zr,Zr,Zr,⟨(show vb true=vb o.isSome by rw[h1]),rfl⟩,Zr,Tv⟩,Tv,Fh,Tv⟩
   have YW:=(show PC 127 [sl Ag s,vs N[i].path] (.tup [.agg (Ag ((AB s N[i].path).getD Mc)),vb (AB s N[i].path).isSome])from uW s N[i].path aE);rw[show(AB s N[i].path).isSome=false from h3]at YW;refine Xi .pure (Xi _ (Yi YW (yN (Xi (Ac N[i]) (Yi (TZ n2) (Yi rfl (Yi (fun h7=>?_) (fun h7=>?_))))))))
   .have h7:Fp N[i].path (o.getD mt)=true:=(Ew _ _).trans h7;refine Xi (Ac N[i]) (Yi (TZ n2) (Yi rfl (Yi (by grind [As]) (Xi ⟨(i+1,(some N[i].path)),by omega,by grind [Hz,iu]⟩ ?_))));exact⟨by grind,Z5,Tv,Fh,Tv⟩
   have h7:Fp N[i].path (o.getD mt)=false:=(Ew _ _).trans (A2.2 h7);refine Yi (by grind [As]) (Xi ⟨(i+1,o),by omega,by grind [Hz,iv]⟩ ?_);exact⟨by grind,⟨Zr,Zr,Zr,⟨(show vb true=vb o.isSome by rw[h1]),rfl⟩,Zr,Tv⟩,Tv,Fh,Tv⟩
  have n2:=Oj h2;exact .of_eq (show AV.tup [vs (o.getD mt),vb true]=mr N s by grind [DF])
 refine Mj (Aa (fun bb=>(⟨[(2,sl Ag s),(8,sl Ac N),(9,vs (o.getD mt)),(10,vb bb),(11,vi i)],[],Ae⟩:LS)) h1) (Yi (fun Jr=>?_) (fun Jr=>?_))
 .have n11:=Ok Jr;refine Xi (Ac N[i]) (Yi (TZ n11) (Yi rfl (AA (Bt (AB s N[i].path).isSome) (fun N7=>?_) (fun N7=>?_))))
  .have Pe:=(show PC 127 [sl Ag s,vs N[i].path] (.tup [.agg (Ag ((AB s N[i].path).getD Mc)),vb (AB s N[i].path).isSome])from uW s N[i].path aE);rw[show(AB s N[i].path).isSome=true from N7]at Pe;refine Xi .pure (Xi _ (Yi Pe (yN (Yi (by grind [As]) (Xi ⟨(i+1,o),by omega,by grind [Hz,ZN]⟩ ?_)))));exact⟨by grind,⟨Zr,Zr,Zr,⟨(show vb false=vb o.isSome by rw[h1]),rfl⟩,Zr,Tv⟩,Tv,Fh,Tv⟩
  have xi:=(show PC 127 [sl Ag s,vs N[i].path] (.tup [.agg (Ag ((AB s N[i].path).getD Mc)),vb (AB s N[i].path).isSome])from uW s N[i].path aE);rw[show(AB s N[i].path).isSome=false from N7]at xi;refine Xi .pure (Xi _ (Yi xi (yN (Xi (Ac N[i]) (Yi (TZ n11) (Yi rfl (Yi (by grind [As]) (Xi ⟨(i+1,(some N[i].path)),by omega,by grind [Hz,mv]⟩ ?_))))))));exact⟨by grind,Z5,Tv,Fh,Tv⟩
 have n11:=Oj Jr;exact .of_eq (show AV.tup [vs (o.getD mt),vb false]=mr N s by grind [DF])
abbrev kq(v:WT):List Sl:=l++[Cq v.rel]
theorem Tw:∀(vs:List WT) (l:List Sl),vs.foldl kq l=l++vs.map FX
 | [],l=>by simp
 |v::vs,l=>by rw[GJ,Tw vs];simp
abbrev DD(A:List Sl)(n:Nat):Prop:=DI x roots s kq [] A (Cb x roots A) n A
def D4:List Sl×Int:=
 if Av x≠0\/AL roots≠0\/Bp s=false then([],1)else if(visits x roots s).2 then((visits x roots s).1.map FX,0)else([],6)
abbrev gc:AV:=.tup [sl Ag (D4 x roots s).1,vi (D4 x roots s).2]
section
variable {x:List Rl}{roots:List Rq}{s A:List Sl}{m:Nat}
theorem DD.start(hq:∀q∈roots,BL q.set):DD x roots s [] (s.length+1):=by
 grind [Lt,DI.start]
theorem DD.next{p:ByteArray}{y:Sl}{r:Rl}(h:DD x roots s A (m+1))(hp:DF (Cb x roots A) A=some p)(hf:AB s p=some y)(hr:Bo x y=some r)(hx:∀r∈x,E4 r):DD x roots s (A++[y]) m:=by
 have h1:=DI.next h hp hf hr ((Fb (CH hr).1).2 r (CH hr).2.1) (fun q hq=>((hx r (CH hr).2.1).2 q hq).1)
 have e:Hv x y=r.reqs:=by grind [Hv]
 rw[<-e,<-Oq]at h1;have e2:kq A ⟨A,Cb x roots A,r⟩=A++[y]:=by show A++[Cq r]=_;rw[(CH hr).2.2]
 simp_all
theorem km(h:DD x roots s A (m+1))(hc:¬(Av x≠0\/AL roots≠0\/Bp s=false))(hp:DF (Cb x roots A) A=none):D4 x roots s=(A,0):=by
 obtain⟨h1,h2⟩:=DI.stop h hp<;>grind [Tw,D4]
theorem Xc(hc:¬(Av x≠0\/AL roots≠0\/Bp s=false))(hb:(visits x roots s).2=b)(e:b=false):D4 x roots s=([],6):=by
 grind [D4]
theorem O0{e:Int}(h:D4 x roots s=([],e)):Ea (.tup [nzA,vi e]) (gc x roots s):=
 (show Ea (.tup [nzA,vi e]) (.tup [.slice .none [],vi e])from Ea.tup ⟨.nil,.refl _,trivial⟩).trans (.of_eq (show AV.tup [.slice .none [],vi e]=gc x roots s by simp_all))
theorem Se(h:(decide (Av x=0)&&decide (AL roots=0))=true)(hi:Bp s=true):¬(Av x≠0\/AL roots≠0\/Bp s=false):=by
 simp_all
end
theorem YS{s:List Sl}{p:ByteArray}(h:(AB s p).isSome=true):AB s p=some ((AB s p).getD Mc):=by
 cases e:AB s p<;>simp_all
theorem c44(hx:∀r∈x,E4 r)(Kl:BL x)(hr:∀q∈roots,HP q)(Jh:roots.length<=1000000)(hs:s.length<=100000):PC 108 [.agg (Ic x ifs),sl Ac roots,sl Ag s] (gc x roots s):=by
 have P0:∀(p:ByteArray) (v:Ver),PC 105 [Il x ifs,vs p,.agg (ES v)] (H4 (Bo x ⟨p,v⟩)):=fun p v=>zk x ifs p v hx Kl;have aE:BL s:=by omega
 have Vj:∀q∈roots,BL q.set:=fun q hq=>(hr q hq).1;refine Ps (pC [] [2,3,5,8,9,11]) Tryz.func108 rfl (Nz rfl) (yN (AA (Bt (decide (Av x=0)&&decide (AL roots=0))) (fun h1=>?_) (fun h1=>?_)))
 .have h1:(decide (Av x=0)&&decide (AL roots=0))=true:=h1;have Pf:=(zg x ifs roots hx hr);rw[show(decide (Av x=0)&&decide (AL roots=0))=true from h1]at Pf;refine Xi .pure (Xi _ (Yi Pf (AA (Bt (Bp s)) (fun h3=>?_) (fun h3=>?_))))
  .have h3:(Bp s)=true:=h3;have YV:=(zj s aE);rw[show Bp s=true from h3]at YV;refine Xi .pure (Xi _ (Yi YV (cU [(1,sl Ac roots),(2,sl Ag s),(3,.ref 3 0)] [(3,.cells (Ic x ifs))] Z3 Z1 (Xi {q:List Sl×Nat // DD x roots s q.1 q.2} (Xi (fun q=>⟨[(1,sl Ac roots),(2,sl Ag s),(3,.ref 3 0),(8,.slice (.id 24 4) (q.1.1.map Ag))],[(3,.cells (Ic x ifs)),(24,.tok 4 q.1.1.length)],Ae⟩) (Xi (fun q=>q.1.2) (Yi (Xi ⟨([],s.length+1),DD.start Vj⟩ ?_) ?_)))))))
   .exact⟨Z4,Z2,Fh,Tv⟩
   intro⟨⟨A,n⟩,dd⟩;have dd:DD x roots s A n:=dd;obtain⟨m,rfl⟩:=dd.pos;have hAl:=dd.lt;refine yN (AA (Bt (DF (Cb x roots A) A).isSome) (fun h5=>?_) (fun h5=>?_))
   .have h5:(DF (Cb x roots A) A).isSome=true:=h5;refine Al (Option.isSome_iff_exists.1 h5) (fun p hp=>?_);have hpd:p=((DF (Cb x roots A) A).getD mt):=by simp_all
    have YW:=(show PC 73 [Il x ifs,sl Ac roots,sl Ag A] (.tup [vs ((DF (Cb x roots A) A).getD mt),vb (DF (Cb x roots A) A).isSome])from c81 x ifs roots A hx Kl Jh aa0);rw[show(DF (Cb x roots A) A).isSome=true from h5]at YW;refine Xi .pure (Xi _ (Yi YW (cU [(1,sl Ac roots),(2,sl Ag s),(3,.ref 3 0),(8,.slice (.id 24 4) (A.map Ag)),(9,vs ((DF (Cb x roots A) A).getD mt)),(10,vb true)] [(3,.cells (Ic x ifs)),(24,.tok 4 A.length)] Z6 Z2 (AA (Bt (AB s p).isSome) (fun h7=>?_) (fun h7=>?_)))))
    .have h7:(AB s p).isSome=true:=h7;have hc8:=(show PC 127 [sl Ag s,vs ((DF (Cb x roots A) A).getD mt)] (.tup [.agg (Ag ((AB s p).getD Mc)),vb (AB s p).isSome])from hpd▸uW s p aE);rw[show(AB s p).isSome=true from h7]at hc8;refine Xi .pure (Xi _ (Yi hc8 (yN (cU [(1,sl Ac roots),(2,sl Ag s),(3,.ref 3 0),(8,.slice (.id 24 4) (A.map Ag)),(11,.ref 11 0),(12,vb true)] [(3,.cells (Ic x ifs)),(11,.cells (Ag ((AB s p).getD Mc))),(24,.tok 4 A.length)] Z6 Z3 (yN (yN (AA (Dt (Bo x ⟨((AB s p).getD Mc).path,((AB s p).getD Mc).ver⟩)) (fun h9=>?_) (fun h9=>?_))))))))
     .refine Al h9 (fun r h9=>?_);have rF:=P0 ((AB s p).getD Mc).path ((AB s p).getD Mc).ver;rw[h9]at rF;refine Xi .pure (Xi _ (Yi rF (yN (cU [(1,sl Ac roots),(2,sl Ag s),(3,.ref 3 0),(8,.slice (.id 24 4) (A.map Ag)),(11,.ref 11 0),(12,vb true),(14,vb true)] [(3,.cells (Ic x ifs)),(11,.cells (Ag ((AB s p).getD Mc))),(24,.tok 4 A.length)] Z7 Z3 (cU [(1,sl Ac roots),(2,sl Ag s),(3,.ref 3 0),(8,.slice (.id 24 4) (A.map Ag)),(11,.ref 11 0)] [(3,.cells (Ic x ifs)),(11,.cells (Ag ((AB s p).getD Mc))),(24,.tok 4 A.length)] Z5 Z3 (yN ?_))))));have U0:A7 4 [(Ag ((AB s p).getD Mc))]/\(A.map Ag).length=A.length/\((A.map Ag).length+([(Ag ((AB s p).getD Mc))]:List (List AV)).length)*40<=140737488355328/\(A.map Ag).length+([(Ag ((AB s p).getD Mc))]:List (List AV)).length<=9223372036854775807:=⟨⟨rfl,trivial⟩,aa1,(by grind),(by grind)⟩;refine Yi U0 (Xi ⟨(A++[((AB s p).getD Mc)],m),dd.next hp (YS h7) h9 hx⟩ ?_)
      exact⟨by grind,⟨Zr,Zr,Zr,⟨(show AV.slice (.id 24 4) (A.map Ag++[Ag ((AB s p).getD Mc)])=.slice (.id 24 4) ((A++[((AB s p).getD Mc)]).map Ag) by simp),rfl⟩,Tv⟩,⟨Zr,⟨(show HO.tok 4 ((A.map Ag).length+([Ag ((AB s p).getD Mc)]:List (List AV)).length)=.tok 4 (A++[((AB s p).getD Mc)]).length by simp),rfl⟩,Tv⟩,Fh,Tv⟩
     have rF:=P0 ((AB s p).getD Mc).path ((AB s p).getD Mc).ver;rw[h9]at rF;refine Xi .pure (Xi _ (Yi rF (yN (cU [(1,sl Ac roots),(2,sl Ag s),(3,.ref 3 0),(8,.slice (.id 24 4) (A.map Ag)),(11,.ref 11 0),(12,vb true),(14,vb false)] [(3,.cells (Ic x ifs)),(11,.cells (Ag ((AB s p).getD Mc))),(24,.tok 4 A.length)] Z7 Z3 ?_))))
     exact O0 (Xc (Se h1 h3) (dd.gone hp (YS h7) h9).1 rfl)
    have h7:(AB s p).isSome=false:=h7;have Pe:=(show PC 127 [sl Ag s,vs ((DF (Cb x roots A) A).getD mt)] (.tup [.agg (Ag ((AB s p).getD Mc)),vb (AB s p).isSome])from hpd▸uW s p aE);rw[show(AB s p).isSome=false from h7]at Pe;refine Xi .pure (Xi _ (Yi Pe (yN (cU [(1,sl Ac roots),(2,sl Ag s),(3,.ref 3 0),(8,.slice (.id 24 4) (A.map Ag)),(11,.ref 11 0),(12,vb false)] [(3,.cells (Ic x ifs)),(11,.cells (Ag ((AB s p).getD Mc))),(24,.tok 4 A.length)] Z6 Z3 (yN (yN (AA (Dt (Bo x ⟨((AB s p).getD Mc).path,((AB s p).getD Mc).ver⟩)) (fun N8=>?_) (fun N8=>?_))))))))
    .refine Al N8 (fun r N8=>?_);have TL:=P0 ((AB s p).getD Mc).path ((AB s p).getD Mc).ver;rw[N8]at TL;refine Xi .pure (Xi _ (Yi TL (yN (cU [(1,sl Ac roots),(2,sl Ag s),(3,.ref 3 0),(8,.slice (.id 24 4) (A.map Ag)),(11,.ref 11 0),(12,vb false),(14,vb true)] [(3,.cells (Ic x ifs)),(11,.cells (Ag ((AB s p).getD Mc))),(24,.tok 4 A.length)] Z7 Z3 ?_))))
     exact O0 (Xc (Se h1 h3) (dd.lost hp (by simpa using h7)).1 rfl)
    have TL:=P0 ((AB s p).getD Mc).path ((AB s p).getD Mc).ver;rw[N8]at TL;refine Xi .pure (Xi _ (Yi TL (yN (cU [(1,sl Ac roots),(2,sl Ag s),(3,.ref 3 0),(8,.slice (.id 24 4) (A.map Ag)),(11,.ref 11 0),(12,vb false),(14,vb false)] [(3,.cells (Ic x ifs)),(11,.cells (Ag ((AB s p).getD Mc))),(24,.tok 4 A.length)] Z7 Z3 ?_))))
    exact O0 (Xc (Se h1 h3) (dd.lost hp (by simpa using h7)).1 rfl)
   have h5:(DF (Cb x roots A) A).isSome=false:=h5;have lf:=(show PC 73 [Il x ifs,sl Ac roots,sl Ag A] (.tup [vs ((DF (Cb x roots A) A).getD mt),vb (DF (Cb x roots A) A).isSome])from c81 x ifs roots A hx Kl Jh aa0);rw[show(DF (Cb x roots A) A).isSome=false from h5]at lf;refine Xi .pure (Xi _ (Yi lf (cU [(1,sl Ac roots),(2,sl Ag s),(3,.ref 3 0),(8,.slice (.id 24 4) (A.map Ag)),(9,vs ((DF (Cb x roots A) A).getD mt)),(10,vb false)] [(3,.cells (Ic x ifs)),(24,.tok 4 A.length)] Z6 Z2 ?_)))
   exact .of_eq (show AV.tup [sl Ag A,vi 0]=gc x roots s by unfold gc;rw[km dd (Se h1 h3) (by simp_all)])
  have h3:(Bp s)=false:=h3;have YU:=(zj s aE);rw[show Bp s=false from h3]at YU;refine Xi .pure (Xi _ (Yi YU (cU [] [] Tv Tv ?_)))
  exact O0 (by grind [D4])
 have h1:(decide (Av x=0)&&decide (AL roots=0))=false:=h1;have lg:=(zg x ifs roots hx hr);rw[show(decide (Av x=0)&&decide (AL roots=0))=false from h1]at lg;refine Xi .pure (Xi _ (Yi lg (cU [] [] Tv Tv ?_)))
 exact O0 (by grind [D4])
theorem o6{x:List Rl}{roots:List Rq}{s:List Sl}:(D4 x roots s).1.length<=s.length:=by
 unfold D4;split
 .simp
 .split
  .rename_i h
   have:=CM (m:=s.map (·.path)) (JL h).nodup fun p hp=>by
    obtain⟨y,hy,e⟩:=Ar.1 hp;rw[Ek]at hy;obtain⟨v,hv,rfl⟩:=Ar.1 hy;exact Ar.2 ⟨FX v,((JL h).mem v hv).1,e⟩
   simp_all
  .simp
abbrev ER(n:Int):List AV:=[vi n]
def Gu:Bool:=match Bo x y with | some r=>!r.yanked | none=>false
def LP:Bool:=N.any fun q=>decide (q.path=p)&&!has q.set pl
def Gl:Ver:=match Di x p pl with | some r=>r.ver | none=>⟨0,0,0⟩
def I3(o:Rl):Bool:=decide (o.path=p)&&!o.yanked&&decide (plc o.ver<pl)&&!LP N p (plc o.ver)
def CZ:List Int:=(x.filter (I3 N p pl)).map fun o=>plc o.ver
theorem jI{l:List α}(h:∀j (hj:j<l.length),f l[j]=true):l.all f=true:=by
 grind [List.getElem_of_mem]
theorem de{l:List α}(hj:j<l.length)(h:f l[j]=false):l.all f=false:=by
 grind
theorem Yh{l:List α}(h:∀j (hj:j<l.length),f l[j]=false):l.any f=false:=by
 grind [List.getElem_of_mem]
theorem df{l:List α}(hj:j<l.length)(h:f l[j]=true):l.any f=true:=Bu.2 ⟨_,Ak hj,h⟩
theorem JE{x:List Rl}{N:List Rq}{p:ByteArray}{pl:Int}(h:i<x.length):CZ (x.take (i+1)) N p pl=CZ (x.take i) N p pl++(if I3 N p pl x[i]then [plc x[i].ver]else []):=by
 grind [CZ,List.take_add_one]
theorem Ww:(CZ x N p pl).length<=x.length:=by
 grind [CZ]
section
variable {N:List Rq}{p:ByteArray}{pl:Int}{o:Rl}
theorem rc(h:¬o.path=p):I3 N p pl o=false:=by grind [I3]
theorem rd(h:o.yanked=true):I3 N p pl o=false:=by grind [I3]
theorem y8(h:¬plc o.ver<pl):I3 N p pl o=false:=by grind [I3]
theorem rb(h:LP N p (plc o.ver)=true):I3 N p pl o=false:=by grind [I3]
theorem uG(h1:o.path=p)(h2:o.yanked=false)(h3:plc o.ver<pl)(h4:LP N p (plc o.ver)=false):I3 N p pl o=true:=by
 grind [I3]
end
theorem Lz(h:BK v=true):place v=plc v:=by grind [plc]
theorem c49(hx:∀r∈x,E4 r)(Kl:BL x)(hs:s.length<=1000000):PC 57 [.agg (Ic x ifs),sl Ag s] (vb (s.all (Gu x))):=by
 have P0:∀(p:ByteArray) (v:Ver),PC 105 [Il x ifs,vs p,.agg (ES v)] (H4 (Bo x ⟨p,v⟩)):=fun p v=>zk x ifs p v hx Kl;refine Ps De Tryz.func57 rfl (Nz rfl) (Xi {i:Nat // i<=s.length/\∀j (h:j<s.length),j<i->Gu x s[j]=true} (Xi (fun q=>⟨[(1,sl Ag s),(2,.ref 2 0),(5,vi q.1)],[(2,.cells (Ic x ifs))],Ae⟩) (Xi (fun q=>s.length-q.1) (Yi (Xi ⟨0,Ap _,fun j _ h=>by omega⟩ ?_) ?_))))
 .exact⟨Z3,Z1,Fh,Tv⟩
 intro⟨i,i1,i2⟩;refine Yi (fun h1=>?_) (fun h1=>?_)
 .have h1:(i:Int)<((s.map Ag).length:Int):=h1;have n1:=Ok h1;refine yN (Xi (Ag s[i]) (Yi (TZ n1) (Yi rfl (Xi (Ag s[i]) (Yi (TZ n1) (Yi rfl (yN (AA (Dt (Bo x ⟨s[i].path,s[i].ver⟩)) (fun h2=>?_) (fun h2=>?_)))))))))
  .refine Al h2 (fun r h2=>?_);have Pf:=P0 s[i].path s[i].ver;rw[h2]at Pf;refine Xi _ (Yi Pf (yN (Yi aa3 (Yi (fun h3=>?_) (fun h3=>?_)))))
   .have h3:r.yanked=true:=h3;exact .of_eq (Aa vb (show false=s.all (Gu x)from(de n1 (by grind [Gu,Bo])).symm))
   have h3:r.yanked=false:=h3;refine Yi (by grind [As]) (Xi ⟨i+1,by omega,fun j hj Hg=>(El j i).elim (i2 j hj) (fun z=>by have e:i=j:=aa0;subst e;grind [Gu,Bo])⟩ ?_);exact⟨by grind,Z3,Z1,Fh,Tv⟩
  have Pf:=P0 s[i].path s[i].ver;rw[h2]at Pf;refine Xi _ (Yi Pf (yN (Yi aa3 ?_)));exact .of_eq (Aa vb (show false=s.all (Gu x)from(de n1 (by grind [Gu,Bo])).symm))
 have h1:¬((i:Int)<((s.map Ag).length:Int)):=h1;have n1:=Oj h1;exact .of_eq (Aa vb (show true=s.all (Gu x)from(jI fun j hj=>i2 j hj aa0).symm))
theorem Aae(hx:∀r∈x,E4 r)(Kl:BL x)(Vj:∀q∈roots,BL q.set)(Jh:roots.length<=1000000)(hs:s.length<=1000000):PC 75 [.agg (Ic x ifs),sl Ac roots,sl Ag s,vs p,vi pl] (vb (LP (Cb x roots s) p pl)):=by
 obtain⟨N,hN⟩:∃N,N=Cb x roots s:=⟨_,rfl⟩;have kT:=wa x ifs roots s hx Kl Jh hs;have ve:=Ot x roots s;have hNf:=cl hx Vj s;rw[<-hN]at kT ve hNf⊢;refine Ps De Tryz.func75 rfl (Nz rfl) (yN (Xi .pure (Xi _ (Yi kT (Xi {i:Nat // i<=N.length/\∀j (h:j<N.length),j<i->(decide (N[j].path=p)&&!has N[j].set pl)=false} (Xi (fun q=>⟨[(3,vs p),(4,vi pl),(11,sl Ac N),(12,vi q.1)],[],Ae⟩) (Xi (fun q=>N.length-q.1) (Yi (Xi ⟨0,Ap _,fun j _ h=>by omega⟩ ?_) ?_))))))))
 .exact⟨Z4,Tv,Fh,Tv⟩
 intro⟨i,i1,i2⟩;refine Yi (fun h1=>?_) (fun h1=>?_)
 .have h1:(i:Int)<((N.map Ac).length:Int):=h1;have n1:=Ok h1;refine Xi (Ac N[i]) (Yi (TZ n1) (Yi rfl (Yi (fun h2=>?_) (fun h2=>?_))))
  .refine Xi (Ac N[i]) (Yi (TZ n1) (Yi rfl (AA (Bt (has N[i].set pl)) (fun h3=>?_) (fun h3=>?_))))
   .refine Xi .pure (Xi _ (Yi (cb h3 (fQ N[i].set pl (hNf _ (Ak n1)))) (Yi (by grind [As]) (Xi ⟨i+1,by omega,fun j hj Hg=>(El j i).elim (i2 j hj) (fun z=>by grind)⟩ ?_))));exact⟨by grind,Z4,Tv,Fh,Tv⟩
   refine Xi .pure (Xi _ (Yi (cb h3 (fQ N[i].set pl (hNf _ (Ak n1)))) ?_));exact .of_eq (Aa vb (show true=LP N p pl from Eq.symm (show N.any (fun q=>decide (q.path=p)&&!has q.set pl)=true from df n1 (by simp_all))))
  refine Yi (by grind [As]) (Xi ⟨i+1,by omega,fun j hj Hg=>(El j i).elim (i2 j hj) (fun z=>by grind)⟩ ?_);exact⟨by grind,Z4,Tv,Fh,Tv⟩
 have h1:¬((i:Int)<((N.map Ac).length:Int)):=h1;have n1:=Oj h1;exact .of_eq (Aa vb (show false=LP N p pl from(Yh fun j hj=>i2 j hj aa0).symm))
theorem c97(Kl:BL x)(hv:∀r∈x,BK r.ver=true)(hs:s.length<=1000000):PC 111 [.agg (Ic x ifs),sl Ag s,vs p,vi pl] (sl Ag (s++[(⟨p,Gl x p pl⟩:Sl)])):=by
 refine Ps De Tryz.func111 rfl (Nz rfl) (yN (AA (Dt (Di x p pl)) (fun h1=>?_) (fun h1=>?_)))
 .refine Al h1 (fun r h1=>?_);have rD:=zi x ifs p pl Kl hv;rw[h1]at rD;refine Xi .pure (Xi _ (Yi rD (yN ?_)));have b2:A7 4 (s.map Ag)/\([]:List (List AV)).length=0/\(([]:List (List AV)).length+(s.map Ag).length)*40<=140737488355328/\([]:List (List AV)).length+(s.map Ag).length<=9223372036854775807:=⟨(Cn (enc:=Ag) (n:=4) (fun _=>rfl) s),(by simp_all),(by grind),(by grind)⟩;refine Yi b2 (yN ?_);have b3:A7 4 [[vs p,vi r.ver.a,vi r.ver.b,vi r.ver.c]]/\(([]++(s.map Ag)):List (List AV)).length=(([]:List (List AV)).length+(s.map Ag).length)/\((([]++(s.map Ag)):List (List AV)).length+([[vs p,vi r.ver.a,vi r.ver.b,vi r.ver.c]]:List (List AV)).length)*40<=140737488355328/\(([]++(s.map Ag)):List (List AV)).length+([[vs p,vi r.ver.a,vi r.ver.b,vi r.ver.c]]:List (List AV)).length<=9223372036854775807:=⟨⟨rfl,trivial⟩,(by simp_all),(by grind),(by grind)⟩;refine Yi b3 (Yi aa3 ?_);exact .of_eq (show AV.slice .none ([]++s.map Ag++[Ag (⟨p,r.ver⟩:Sl)])=.slice .none ((s++[(⟨p,Gl x p pl⟩:Sl)]).map Ag) by grind [Gl])
 have rD:=zi x ifs p pl Kl hv;rw[h1]at rD;refine Xi .pure (Xi _ (Yi rD (yN ?_)));have b5:A7 4 (s.map Ag)/\([]:List (List AV)).length=0/\(([]:List (List AV)).length+(s.map Ag).length)*40<=140737488355328/\([]:List (List AV)).length+(s.map Ag).length<=9223372036854775807:=⟨(Cn (enc:=Ag) (n:=4) (fun _=>rfl) s),(by simp_all),(by grind),(by grind)⟩;refine Yi b5 (yN ?_);have b6:A7 4 [[vs p,vi 0,vi 0,vi 0]]/\(([]++(s.map Ag)):List (List AV)).length=(([]:List (List AV)).length+(s.map Ag).length)/\((([]++(s.map Ag)):List (List AV)).length+([[vs p,vi 0,vi 0,vi 0]]:List (List AV)).length)*40<=140737488355328/\(([]++(s.map Ag)):List (List AV)).length+([[vs p,vi 0,vi 0,vi 0]]:List (List AV)).length<=9223372036854775807:=⟨⟨rfl,trivial⟩,(by simp_all),(by grind),(by grind)⟩;refine Yi b6 (Yi aa3 ?_);exact .of_eq (show AV.slice .none ([]++s.map Ag++[Ag (⟨p,⟨0,0,0⟩⟩:Sl)])=.slice .none ((s++[(⟨p,Gl x p pl⟩:Sl)]).map Ag) by grind [Gl])
theorem c94(hx:∀r∈x,E4 r)(Kl:BL x)(Vj:∀q∈roots,BL q.set)(Jh:roots.length<=1000000)(hs:s.length<=1000000)(hv:∀r∈x,BK r.ver=true):PC 109 [.agg (Ic x ifs),sl Ac roots,sl Ag s,vs p,vi pl] (sl ER (CZ x (Cb x roots s) p pl)):=by
 have s7:∀k:Int,PC 75 [Il x ifs,sl Ac roots,sl Ag s,vs p,vi k] (vb (LP (Cb x roots s) p k)):=fun k=>Aae x ifs roots s p k hx Kl Vj Jh hs;obtain⟨N,hN⟩:∃N,N=Cb x roots s:=⟨_,rfl⟩;rw[<-hN]at s7⊢;have Kl:x.length<=1073741824:=Kl;refine Ps De Tryz.func109 rfl (Nz rfl) (Xi {i:Nat // i<=x.length} (Xi (fun q=>⟨[(1,sl Ac roots),(2,sl Ag s),(3,vs p),(4,vi pl),(5,.ref 5 0),(11,.slice (.id 15 1) ((CZ (x.take q.1) N p pl).map ER)),(12,vi q.1)],[(5,.cells (Ic x ifs)),(15,.tok 1 (CZ (x.take q.1) N p pl).length)],Ae⟩) (Xi (fun q=>x.length-q.1) (Yi (Xi ⟨0,Ap _⟩ ?_) ?_))))
 .exact⟨Z7,Z2,Fh,Tv⟩
 intro⟨i,i1⟩;have Zc:=Ww (x.take i) N p pl;rw[Cy]at Zc;refine Yi (fun h1=>?_) (fun h1=>?_)
 .have h1:(i:Int)<((x.map Am).length:Int):=h1;have n1:=Ok h1;refine Xi (Am x[i]) (Yi (TZ n1) (Yi rfl (yN (yN (yN (Xi .pure (Xi _ (Yi (show PC 76 [.agg (ES x[i].ver)] (vi (plc x[i].ver))from Lz (hv _ (Ak n1))▸uX x[i].ver (hv _ (Ak n1))) (Yi (fun h2=>?_) (fun h2=>?_))))))))))
  .have h2:(x[i].path:ByteArray)=p:=h2;refine Yi (fun h3=>?_) (fun h3=>?_)
   .have h3:x[i].yanked=true:=h3;refine Yi (by grind [As]) ?_;have es:CZ (x.take (i+1)) N p pl=CZ (x.take i) N p pl:=by grind [JE,rd]
    refine Xi ⟨i+1,by omega⟩ ?_;exact⟨by grind,⟨Zr,Zr,Zr,Zr,Zr,⟨(show AV.slice (.id 15 1) ((CZ (x.take i) N p pl).map ER)=.slice (.id 15 1) ((CZ (x.take (i+1)) N p pl).map ER) by rw[es]),rfl⟩,Zr,Tv⟩,⟨Zr,⟨(show HO.tok 1 (CZ (x.take i) N p pl).length=.tok 1 (CZ (x.take (i+1)) N p pl).length by rw[es]),rfl⟩,Tv⟩,Fh,Tv⟩
   have h3:x[i].yanked=false:=h3;refine Yi (fun h5=>?_) (fun h5=>?_)
   .have h5:(plc x[i].ver:Int)<(pl:Int):=h5;refine yN (AA (Bt (LP N p (plc x[i].ver))) (fun h6=>?_) (fun h6=>?_))
    .have h6:(LP N p (plc x[i].ver))=true:=h6;refine Xi .pure (Xi _ (Yi (cb h6 (s7 (plc x[i].ver))) (Yi (by grind [As]) ?_)));have es:CZ (x.take (i+1)) N p pl=CZ (x.take i) N p pl:=by grind [JE,rb]
     refine Xi ⟨i+1,by omega⟩ ?_;exact⟨by grind,⟨Zr,Zr,Zr,Zr,Zr,⟨(show AV.slice (.id 15 1) ((CZ (x.take i) N p pl).map ER)=.slice (.id 15 1) ((CZ (x.take (i+1)) N p pl).map ER) by rw[es]),rfl⟩,Zr,Tv⟩,⟨Zr,⟨(show HO.tok 1 (CZ (x.take i) N p pl).length=.tok 1 (CZ (x.take (i+1)) N p pl).length by rw[es]),rfl⟩,Tv⟩,Fh,Tv⟩
    have h6:(LP N p (plc x[i].ver))=false:=h6;refine Xi .pure (Xi _ (Yi (cb h6 (s7 (plc x[i].ver))) (Yi (js rfl (show(CZ (x.take i) N p pl).length<=2147483647 by omega) aa2) (Yi (by grind [As]) ?_))));have es:CZ (x.take (i+1)) N p pl=CZ (x.take i) N p pl++[plc x[i].ver]:=by grind [JE,uG]
    refine Xi ⟨i+1,by omega⟩ ?_;exact⟨by grind,⟨Zr,Zr,Zr,Zr,Zr,⟨(show AV.slice (.id 15 1) ((CZ (x.take i) N p pl).map ER++[[vi (plc x[i].ver)]])=.slice (.id 15 1) ((CZ (x.take (i+1)) N p pl).map ER) by simp_all),rfl⟩,Zr,Tv⟩,⟨Zr,⟨(show HO.tok 1 (((CZ (x.take i) N p pl).map ER).length+([[vi (plc x[i].ver)]]:List (List AV)).length)=.tok 1 (CZ (x.take (i+1)) N p pl).length by simp_all),rfl⟩,Tv⟩,Fh,Tv⟩
   have h5:¬((plc x[i].ver:Int)<(pl:Int)):=h5;refine Yi (by grind [As]) ?_;have es:CZ (x.take (i+1)) N p pl=CZ (x.take i) N p pl:=by grind [JE,y8]
   refine Xi ⟨i+1,by omega⟩ ?_;exact⟨by grind,⟨Zr,Zr,Zr,Zr,Zr,⟨(show AV.slice (.id 15 1) ((CZ (x.take i) N p pl).map ER)=.slice (.id 15 1) ((CZ (x.take (i+1)) N p pl).map ER) by rw[es]),rfl⟩,Zr,Tv⟩,⟨Zr,⟨(show HO.tok 1 (CZ (x.take i) N p pl).length=.tok 1 (CZ (x.take (i+1)) N p pl).length by rw[es]),rfl⟩,Tv⟩,Fh,Tv⟩
  have h2:¬(x[i].path:ByteArray)=p:=h2;refine Yi (by grind [As]) ?_;have es:CZ (x.take (i+1)) N p pl=CZ (x.take i) N p pl:=by grind [JE,rc]
  refine Xi ⟨i+1,by omega⟩ ?_;exact⟨by grind,⟨Zr,Zr,Zr,Zr,Zr,⟨(show AV.slice (.id 15 1) ((CZ (x.take i) N p pl).map ER)=.slice (.id 15 1) ((CZ (x.take (i+1)) N p pl).map ER) by rw[es]),rfl⟩,Zr,Tv⟩,⟨Zr,⟨(show HO.tok 1 (CZ (x.take i) N p pl).length=.tok 1 (CZ (x.take (i+1)) N p pl).length by rw[es]),rfl⟩,Tv⟩,Fh,Tv⟩
 have h1:¬((i:Int)<((x.map Am).length:Int)):=h1;have n1:=Oj h1;exact .of_eq (show sl ER (CZ (x.take i) N p pl)=sl ER (CZ x N p pl) by grind)
def Hu:Bool:=decide (q.path=r.path)&&has q.set (plc r.ver)
def GA:Bool:=m.any fun q=>Hu q r
theorem yC{q:Rq}{r:Rl}(h:¬q.path=r.path):Hu q r=false:=by grind [Hu]
theorem r6{q:Rq}{r:Rl}(h:q.path=r.path)(hb:has q.set (plc r.ver)=b):Hu q r=b:=by grind [Hu]
theorem wi(hq:BL q.set)(hv:BK r.ver=true):PC 209 [.agg (Ac q),.agg (Am r)] (vb (Hu q r)):=by
 refine Ps De Tryz.func209 rfl (Nz rfl) (Yi (fun h1=>?_) (fun h1=>?_))
 .have h1:(q.path:ByteArray)=r.path:=h1;refine yN (Xi _ (Yi (show PC 76 [.agg (ES r.ver)] (vi (plc r.ver))from Lz hv▸uX r.ver hv) (AA (Bt (has q.set (plc r.ver))) (fun h2=>?_) (fun h2=>?_))))
  .have h2:(has q.set (plc r.ver))=true:=h2;have dK:=fQ q.set (plc r.ver) hq;rw[show(has q.set (plc r.ver))=true from h2]at dK;refine Xi _ (Yi dK (Yi aa3 ?_));exact .of_eq (Aa vb (r6 h1 h2).symm)
  have h2:(has q.set (plc r.ver))=false:=h2;have dL:=fQ q.set (plc r.ver) hq;rw[show(has q.set (plc r.ver))=false from h2]at dL;refine Xi _ (Yi dL (Yi aa3 ?_));exact .of_eq (Aa vb (r6 h1 h2).symm)
 have h1:¬(q.path:ByteArray)=r.path:=h1;refine Yi aa3 ?_;exact .of_eq (Aa vb (yC h1).symm)
theorem fR(zC:m.length<=1000000)(hq:∀q∈m,BL q.set)(hv:BK r.ver=true):PC 160 [sl Ac m,.agg (Am r)] (vb (GA m r)):=by
 refine Ps (pC [] [3,5]) Tryz.func160 rfl (Nz rfl) (Xi {i:Nat // i<=m.length/\∀j (h:j<m.length),j<i->Hu m[j] r=false} (Xi (fun q=>⟨[(0,sl Ac m),(3,.ref 3 0),(5,vi q.1)],[(3,.cells (Am r))],Ae⟩) (Xi (fun q=>m.length-q.1) (Yi (Xi ⟨0,Ap _,fun j _ h=>by omega⟩ ?_) ?_))))
 .exact⟨Z3,Z1,Fh,Tv⟩
 intro⟨i,i1,i2⟩;refine Yi (fun h1=>?_) (fun h1=>?_)
 .have h1:(i:Int)<((m.map Ac).length:Int):=h1;have n1:i<m.length:=by simp_all
  have g1:m[i]?=some m[i]:=Ge n1;refine Xi (Ac m[i]) (Yi (Yi (Nn i) (Bk g1)) (Yi rfl (yN (yN (AA (Bt (Hu m[i] r)) (fun h2=>?_) (fun h2=>?_))))))
  .have h2:(Hu m[i] r)=true:=h2;have dK:=wi m[i] r (hq _ (Ak n1)) hv;rw[show(Hu m[i] r)=true from h2]at dK;refine Xi _ (Yi dK (Yi aa3 (cU [] [] Tv Tv ?_)))
   exact .of_eq (Aa vb (show true=GA m r from Eq.symm (show m.any (fun q=>Hu q r)=true from df n1 h2)))
  have h2:(Hu m[i] r)=false:=h2;have dL:=wi m[i] r (hq _ (Ak n1)) hv;rw[show(Hu m[i] r)=false from h2]at dL;refine Xi _ (Yi dL (Yi aa3 (cU [(0,sl Ac m),(3,.ref 3 0),(5,vi i)] [(3,.cells (Am r))] Z3 Z1 (Yi (by grind [As]) (Xi ⟨i+1,by omega,fun j hj Hg=>(El j i).elim (i2 j hj) (fun z=>by grind)⟩ ?_)))));exact⟨by grind,Z3,Z1,Fh,Tv⟩
 have h1:¬((i:Int)<((m.map Ac).length:Int)):=h1;have n1:¬i<m.length:=by simp_all
 exact .of_eq (Aa vb (show false=GA m r from(Yh fun j hj=>i2 j hj aa0).symm))
abbrev Dg(b:Bool):List AV:=[vb b]
def Ua(Cl:List ByteArray)(p:ByteArray):Bool:=Cl.any fun q=>decide (q=p)
def XJ(B:List Bool):Nat:=(B.filter fun b=>!b).length
theorem ZS:∀{B:List Bool} {i:Nat} (h:i<B.length),B[i]=false->XJ (B.set i true)<XJ B
 |b::B,0,_,hb=>by
  grind [XJ]
 |b::B,i+1,h,hb=>by
  have:=ZS (B:=B) (i:=i) (by grind) hb
  grind [XJ]
def H5(l:List Rl)(roots:List Rq)(B:List Bool)(i:Rl)(k:Nat):Bool:=GA roots i||(List.range k).any fun k=>B.getD k false&&GA ((l[k]?.map (·.reqs)).getD []) i
theorem Un(l:List Rl)(roots:List Rq)(B:List Bool)(i:Rl):H5 l roots B i 0=GA roots i:=by grind [H5]
theorem GX{l:List Rl}{roots:List Rq}{B:List Bool}{i:Rl}(h:k<l.length)(hB:k<B.length):H5 l roots B i (k+1)=(H5 l roots B i k||(B[k]&&GA l[k].reqs i)):=by
 grind [H5,List.range_succ]
structure jE(l:List Rl)(Cl:List ByteArray)(B:List Bool):Prop where
 len:B.length=l.length
 snd:∀k (h:k<l.length),B[k]?=some true->l[k].path∈Cl
structure uS(l:List Rl)(roots:List Rq)(Cl:List ByteArray):Prop where
 root:∀q∈roots,q.path∈Cl
 req:∀r∈l,r.path∈Cl->∀q∈r.reqs,q.path∈Cl
section
variable {l:List Rl}{roots:List Rq}{Cl:List ByteArray}{B:List Bool}
theorem fD{m:List Rq}{r:Rl}(h:GA m r=true):∃q∈m,q.path=r.path:=by
 obtain⟨q,hq,e⟩:=Bu.1 h<;>grind [Hu]
theorem jE.part(h:jE l Cl B)(hc:uS l roots Cl){i:Rl}(hk:k<=l.length)(hr:H5 l roots B i k=true):i.path∈Cl:=by
 grind [H5,fD,List.getElem_mem,uS.root,uS.req,jE.snd]
theorem jE.set(h:jE l Cl B){i:Nat}(hi:i<l.length)(hp:l[i].path∈Cl):jE l Cl (B.set i true):=
 ⟨by grind [jE.len],fun k hk hb=>by
  grind [jE.snd]⟩
structure X5(l:List Rl)(roots:List Rq)(Cl:List ByteArray)(B0:List Bool)(i:Nat)(B:List Bool)(ch:Bool):Prop where
 snd:jE l Cl B
 no:ch=false->B=B0/\∀j (h:j<l.length),j<i->H5 l roots B l[j] l.length=true->B[j]?=some true
 yes:ch=true->XJ B<XJ B0
theorem X5.start(h:jE l Cl B):X5 l roots Cl B 0 B false:=⟨h,fun _=>⟨rfl,fun j _ hj=>absurd hj (Nu j)⟩,fun h=>(by cases h)⟩
variable {B0:List Bool}{i:Nat}{ch:Bool}
theorem X5.set(h:X5 l roots Cl B0 i B ch)(hc:uS l roots Cl)(hi:i<l.length)(hr:H5 l roots B l[i] l.length=true)(hb:∀hib:i<B.length,B[i]=false):X5 l roots Cl B0 (i+1) (B.set i true) true:=by
 have hib:i<B.length:=by rw[h.snd.len];exact hi
 have E1:=ZS hib (hb hib);refine⟨h.snd.set hi (h.snd.part hc (Ao _) hr),fun h=>(by cases h),fun _=>?_⟩;cases ch with
 |true=>have:=h.yes rfl;omega
 |false=>grind [X5.no]
theorem X5.keep(h:X5 l roots Cl B0 i B ch)(hi:i<l.length)(hk:H5 l roots B l[i] l.length=true->B[i]?=some true):X5 l roots Cl B0 (i+1) B ch:=
 ⟨h.snd,fun hf=>⟨(h.no hf).1,fun j hj Hg hr=>by
  grind [X5.no]⟩,h.yes⟩
structure nV(l:List Rl)(roots:List Rq)(Cl:List ByteArray)(B:List Bool)(ch:Bool):Prop where
 snd:jE l Cl B
 no:ch=false->∀j (h:j<l.length),H5 l roots B l[j] l.length=true->B[j]?=some true
theorem X5.out(h:X5 l roots Cl B0 i B ch)(hi:l.length<=i):nV l roots Cl B ch:=⟨h.snd,fun hf j hj hr=>(h.no hf).2 j hj aa0 hr⟩
theorem X5.mu(h:X5 l roots Cl B0 i B ch):2*XJ B+(if ch then 1 else 0)<2*XJ B0+1:=by
 cases ch with
 |true=>have:=h.yes rfl;simp_all
 |false=>grind [X5.no]
theorem nV.fin(h:nV l roots Cl B false)(pV:∀D:List ByteArray,(∀q∈roots,q.path∈D)->(∀r∈l,r.path∈D->∀q∈r.reqs,q.path∈D)->∀p∈Cl,p∈D)
  (Gv:∀q,q∈roots\/(∃r∈l,q∈r.reqs)->∀r∈l,q.path=r.path->has q.set (plc r.ver)=true) (hn:(l.map (·.path)).Nodup) (Y2:∀q,q∈roots\/(∃r∈l,q∈r.reqs)->∃r∈l,r.path=q.path) :
  ∀j (hj:j<l.length),B[j]?=some (Ua Cl l[j].path):=by
 have AeR:∀(m:List Rq) (i:Rl),i∈l->(∀q∈m,q∈roots\/∃r∈l,q∈r.reqs)->∀q∈m,q.path=i.path->GA m i=true:=fun m i hi hm q hq e=>by
  refine Bu.2 ⟨q,hq,?_⟩
  grind [Hu]
 let D:List ByteArray:=((List.range l.length).filter fun k=>B.getD k false).filterMap fun k=>(l[k]?).map (·.path)
 have hD:∀j (hj:j<l.length),B[j]?=some true->l[j].path∈D:=fun j hj hb=>by
  refine OK.2 ⟨j,B6.2 ⟨Ks.2 hj,?_⟩,by simp_all⟩;simp_all
 have zp:∀j (hj:j<l.length),l[j].path∈D->B[j]?=some true:=fun j hj hm=>by
  obtain⟨k,hk,e⟩:=OK.1 hm;obtain⟨h1,h2⟩:=B6.1 hk;have lD:=Ks.1 h1;rw[Ge lD]at e;have e:l[k].path=l[j].path:=EY e
  have:k=j:=(List.getElem_inj (xs:=l.map (·.path)) (h₀:=by simp_all) (h₁:=by simp_all) hn).1 (by simp_all)
  grind
 have gO:=pV D (fun q hq=>by
   grind [List.getElem_of_mem,H5,nV.no])
  (fun r hr hp q hq=>by
   obtain⟨k,hk,rfl⟩:=He hr;have hkb:=zp k hk hp;obtain⟨r2,bR,e⟩:=Y2 q (.inr ⟨_,hr,hq⟩);obtain⟨j,hj,rfl⟩:=He bR;rw[<-e];refine hD j hj (h.no rfl j hj ?_);unfold H5;rw[JM];right;refine Bu.2 ⟨k,Ks.2 hk,?_⟩
   grind)
 intro j hj;have hjB:j<B.length:=by rw[h.snd.len];exact hj
 cases hc:Ua Cl l[j].path with
 |true=>exact zp j hj (gO _ (I4.1 hc))
 |false=>
  rw[Ge hjB];cases hb:B[j]with
  |false=>rfl
  |true=>
   have:=I4.2 (h.snd.snd j hj (by simp_all))
   grind [Ua]
end
end Go.Eng
