/- Lemmas 24. -/
import Derived.Test.YtkjhcikodmiceaaGreatDoorVA23
set_option maxHeartbeats 4000000
namespace Go.Eng
open Go.Proofs Go.Proofs.Tryz
variable {α:Type}{f:α->Bool}{v:Ver}{b:Bool}{i j k:Nat}(x:List Rl)(ifs:C0)(N m:List Rq)(q:Rq)(roots:List Rq)(l:List Sl)(r:Rl)(y:Sl)(s:List Sl)(p:CS)(pl:Int)
theorem Mm{cx:Cx}{c:Code}{Q:Ex->St->Prop}{s s' : LS}(h:s=s')(hk:QD cx c Q s'.st):QD cx c Q s.st:=by simp_all
theorem eU{x:List Rl}{p:CS}(h:At x=0):AY x ⟨p,v⟩=x.find? fun r=>decide (Cp r=⟨p,v⟩):=AN (Mg h)
theorem PQ{r:Rl}{p:CS}:Cp r=⟨p,v⟩↔r.path=p/\r.ver.a=v.a/\r.ver.b=v.b/\r.ver.c=v.c:=by
 unfold Cp;constructor
 .simp_all
 .rintro⟨rfl,h1,h2,h3⟩
  cases hr:r.ver<;>simp_all
def Hz:List Rq:=match AY x y with | some r=>r.reqs | none=>[]
def Ca:List Rq:=roots++(l.map (Hz x)).flatten
theorem Lx:Ca x roots []=roots:=by grind [Ca]
theorem OF:Ca x roots (l++[y])=Ca x roots l++Hz x y:=by grind [Ca]
theorem Sa(h:i<l.length):Ca x roots (l.take (i+1))=Ca x roots (l.take i)++Hz x l[i]:=by
 grind [List.take_add_one,OF]
theorem U2{x:List Rl}:(Hz x y).length<=16:=by
 unfold Hz;split
 .rename_i r hr;exact(Fs (Cv hr).1).2 r (Cv hr).2.1
 .simp
theorem OG:∀l:List Sl,(Ca x roots l).length<=roots.length+16*l.length:=fun l=>by
 unfold Ca;rw[AD]
 have:∀l:List Sl,((l.map (Hz x)).flatten).length<=16*l.length:=fun l=>by
  induction l<;>grind [U2]
 simp_all
theorem dk{x:List Rl}{roots:List Rq}(hx:∀r∈x,Fk r)(hr:∀q∈roots,BO q.set)(l:List Sl):∀q∈Ca x roots l,BO q.set:=fun q hq=>by
 unfold Ca at hq;rcases Bi.1 hq with hq | hq
 .simp_all
 .obtain⟨m,hm,sJ⟩:=Fm.1 hq;obtain⟨y,_,rfl⟩:=Ar.1 hm;unfold Hz at sJ;split at sJ
  .rename_i r X7;exact((hx r (Cv X7).2.1).2 q sJ).1
  simp_all
theorem xw(v:Ver)(hx:∀r∈x,Fk r)(L0:BO x):PC 45 [.agg (Ic x ifs),vs p,.agg (Ej v)] (G5 (AY x ⟨p,v⟩)):=by
 refine Ps CX func45 rfl (Nz rfl) (yN (C1 (C2 (tY x ifs hx) (Yi (fun h1=>?_) (fun h1=>?_)))))
 .refine yN (yN ?_);exact .of_eq (show AV.tup [.agg YI,vb false]=G5 (AY x ⟨p,v⟩) by grind [AY])
 have h1:(At x:Int)=(0:Int):=Aw h1;refine Xi {i:Nat // i<=x.length/\∀j (h:j<x.length),j<i->decide (Cp x[j]=⟨p,v⟩)=false} (Xi (fun q=>⟨[(1,vs p),(3,.ref 3 0),(5,.ref 5 0),(6,.ref 6 0),(8,vi q.1)],[(3,.cells (Ic x ifs)),(5,.cells (Ej v)),(6,.cells [vs ⟨#[]⟩,vi 0,vi 0,vi 0,nzA,vs ⟨#[]⟩,vs ⟨#[]⟩,vs ⟨#[]⟩,vb false])],Af⟩) (Xi (fun q=>x.length-q.1) (Yi (Xi ⟨0,Al _,fun j _ h=>by omega⟩ ?_) ?_)))
 .exact⟨Z5,Z3,Fh,Tv⟩
 intro⟨i,i1,i2⟩;refine Yi (fun h3=>?_) (fun h3=>?_)
 .have h3:(i:Int)<((x.map Am).length:Int):=h3;have n3:=Ha h3;refine Xi (Am x[i]) (Yi (I0 n3) (Yi rfl (Yi (fun h4=>?_) (fun h4=>?_))))
  .refine Xi (Am x[i]) (Yi (I0 n3) (Yi rfl (yN (yN (Yi (fun h5=>?_) (fun h5=>?_))))))
   .refine Yi aa2 (Xi (Am x[i]) (Yi (I0 n3) (Yi rfl (yN (yN (yN ?_))))));exact .of_eq (show AV.tup [.agg (Am x[i]),vb true]=G5 (AY x ⟨p,v⟩) by rw[eU h1,TS n3 i2 (Av (PQ.2 ⟨h4,h5.1,h5.2.1,h5.2.2.1⟩))])
   refine Yi aa2 (Yi (by grind [Au]) (Xi ⟨i+1,by omega,fun j hj GC=>(BR j i).elim (i2 j hj) (fun z=>by have e:j=i:=Wk;subst e;exact Aq (fun h=>h5 ⟨(PQ.1 h).2.1,(PQ.1 h).2.2.1,(PQ.1 h).2.2.2,trivial⟩))⟩ ?_));exact⟨Dl x.length i Wk,Z5,Z3,Fh,Tv⟩
  refine Yi aa2 (Yi (by grind [Au]) (Xi ⟨i+1,by omega,fun j hj GC=>(BR j i).elim (i2 j hj) (fun z=>by grind [PQ])⟩ ?_));exact⟨Dl x.length i Wk,Z5,Z3,Fh,Tv⟩
 have h3:¬((i:Int)<((x.map Am).length:Int)):=h3;have n3:=Et h3;refine yN (yN ?_);exact .of_eq (show AV.tup [.agg YI,vb false]=G5 (AY x ⟨p,v⟩) by grind [eU,QP])
theorem w6(hx:∀r∈x,Fk r)(L0:BO x)(hrl:roots.length<=1000000)(hs:s.length<=1000000):PC 240 [.agg (Ic x ifs),sl Ad roots,sl Ae s] (sl Ad (Ca x roots s)):=by
 have QF:∀(p:CS) (v:Ver),PC 45 [Jf x ifs,vs p,.agg (Ej v)] (G5 (AY x ⟨p,v⟩)):=fun p v=>xw x ifs p v hx L0;refine Ps CX func240 rfl (Nz rfl) ?_;have b1:Bh 2 (roots.map Ad)/\([]:C0).length=0/\(([]:C0).length+(roots.map Ad).length)*40<=140737488355328/\([]:C0).length+(roots.map Ad).length<=9223372036854775807:=⟨(Cm (enc:=Ad) (n:=2) (fun _=>rfl) roots),(by simp_all),(by grind),(by grind)⟩;refine Yi b1 (Xi {q:Nat×List Rq // q.1<=s.length/\q.2=Ca x roots (s.take q.1)} (Xi (fun q=>⟨[(2,sl Ae s),(3,.ref 3 0),(7,.slice (.id 11 2) (q.1.2.map Ad)),(8,vi q.1.1)],[(3,.cells (Ic x ifs)),(11,.tok 2 q.1.2.length)],Af⟩) (Xi (fun q=>s.length-q.1.1) (Yi (Xi ⟨(0,roots),Al _,(Lx x roots).symm⟩ ?_) ?_))))
 .exact⟨⟨Zr,Zr,⟨(show AV.slice (.id 11 2) ([]++roots.map Ad)=.slice (.id 11 2) (roots.map Ad) by simp_all),rfl⟩,Zr,Tv⟩,⟨Zr,⟨(show HO.tok 2 (([]:C0).length+(roots.map Ad).length)=.tok 2 roots.length by simp_all),rfl⟩,Tv⟩,Fh,Tv⟩
 intro⟨⟨i,A⟩,i1,i2⟩;have i2:A=Ca x roots (s.take i):=i2;have hA:A.length<=roots.length+16*i:=by
  grind [OG]
 refine Yi (fun h2=>?_) (fun h2=>?_)
 .have h2:(i:Int)<((s.map Ae).length:Int):=h2;have n2:=Ha h2;refine yN (Xi (Ae s[i]) (Yi (I0 n2) (Yi rfl (Xi (Ae s[i]) (Yi (I0 n2) (Yi rfl (yN (Ax (CO (AY x ⟨s[i].path,s[i].ver⟩)) (fun h3=>?_) (fun h3=>?_)))))))))
  .refine Ao h3 (fun r h3=>?_);have ff:=QF s[i].path s[i].ver;rw[h3]at ff;have Sw:=U2 (x:=x) s[i];rw[show Hz x s[i]=r.reqs by grind [Hz,AY]]at Sw;refine C2 ff (yN (Yi aa2 ?_));have b4:Bh 2 (r.reqs.map Ad)/\(A.map Ad).length=A.length/\((A.map Ad).length+(r.reqs.map Ad).length)*40<=140737488355328/\(A.map Ad).length+(r.reqs.map Ad).length<=9223372036854775807:=⟨(Cm (enc:=Ad) (n:=2) (fun _=>rfl) r.reqs),(by simp_all),(by grind),(by grind)⟩;refine Yi b4 (Yi (by grind [Au]) (Xi ⟨(i+1,A++r.reqs),by omega,by show A++r.reqs=Ca x roots (s.take (i+1));grind [Sa,Hz,AY]⟩ ?_));exact⟨by grind,⟨Zr,Zr,⟨(show AV.slice (.id 11 2) (A.map Ad++r.reqs.map Ad)=.slice (.id 11 2) ((A++r.reqs).map Ad) by simp),rfl⟩,Zr,Tv⟩,⟨Zr,⟨(show HO.tok 2 ((A.map Ad).length+(r.reqs.map Ad:C0).length)=.tok 2 (A++r.reqs).length by simp),rfl⟩,Tv⟩,Fh,Tv⟩
  have ff:=QF s[i].path s[i].ver;rw[h3]at ff;refine C2 ff (yN (Yi aa2 ?_));have b6:Bh 2 []/\(A.map Ad).length=A.length/\((A.map Ad).length+([]:C0).length)*40<=140737488355328/\(A.map Ad).length+([]:C0).length<=9223372036854775807:=⟨trivial,(by simp_all),(by grind),(by grind)⟩;refine Yi b6 (Yi (by grind [Au]) (Xi ⟨(i+1,A++([]:List Rq)),by omega,by show A++([]:List Rq)=Ca x roots (s.take (i+1));rw[Sa x roots s n2,<-i2,show Hz x s[i]=([]:List Rq) by grind [Hz,AY]]⟩ ?_));exact⟨by grind,⟨Zr,Zr,⟨(show AV.slice (.id 11 2) (A.map Ad++[])=.slice (.id 11 2) ((A++([]:List Rq)).map Ad) by simp),rfl⟩,Zr,Tv⟩,⟨Zr,⟨(show HO.tok 2 ((A.map Ad).length+([]:C0).length)=.tok 2 (A++([]:List Rq)).length by simp),rfl⟩,Tv⟩,Fh,Tv⟩
 have h2:¬((i:Int)<((s.map Ae).length:Int)):=h2;have n2:=Et h2;exact .of_eq (Aa (sl Ad) (show A=Ca x roots s by grind))
theorem T6:BS s p=(AF s p).isSome:=by grind [BS,AF]
section
variable {s:List Sl}{q:Rq}{o:Option CS}
theorem aJ(h:(AF s q.path).isSome=true):Cw s o q=o:=by unfold Cw;grind [T6]
theorem m7(h:(AF s q.path).isSome=false)(ho:o.isSome=false):Cw s o q=some q.path:=by
 unfold Cw;grind [T6]
theorem jm(h:(AF s q.path).isSome=false)(ho:o.isSome=true)(hb:Ez q.path (o.getD mt)=true):Cw s o q=some q.path:=by
 unfold Cw;grind [T6]
theorem jn(_:(AF s q.path).isSome=false)(ho:o.isSome=true)(hb:Ez q.path (o.getD mt)=false):Cw s o q=o:=by
 unfold Cw;grind
end
abbrev m6:AV:=.tup [vs ((DM N s).getD mt),vb (DM N s).isSome]
theorem c81(hx:∀r∈x,Fk r)(L0:BO x)(hrl:roots.length<=1000000)(hs:s.length<=1000000):PC 159 [.agg (Ic x ifs),sl Ad roots,sl Ae s] (m6 (Ca x roots s) s):=by
 obtain⟨N,hN⟩:∃N,N=Ca x roots s:=⟨_,rfl⟩;have lO:=w6 x ifs roots s hx L0 hrl hs;have hNl:=OG x roots s;rw[<-hN]at lO hNl⊢;have bF:BO s:=by omega
 refine Ps CX func159 rfl (Nz rfl) (yN (C1 (C2 lO (Xi {q:Nat×Option CS // q.1<=N.length/\q.2=CG s (N.take q.1) none} (Xi (fun q=>⟨[(2,sl Ae s),(8,sl Ad N),(9,vs (q.1.2.getD mt)),(10,vb q.1.2.isSome),(11,vi q.1.1)],[],Af⟩) (Xi (fun q=>N.length-q.1.1) (Yi (Xi ⟨(0,none),Al _,rfl⟩ ?_) ?_)))))))
 .exact⟨Z5,Tv,Fh,Tv⟩
 intro⟨⟨i,o⟩,i1,i2⟩;refine Ax (Bt o.isSome) (fun h1=>?_) (fun h1=>?_)
 .refine Mm (Aa (fun bb=>(⟨[(2,sl Ae s),(8,sl Ad N),(9,vs (o.getD mt)),(10,vb bb),(11,vi i)],[],Af⟩:LS)) h1) (Yi (fun h2=>?_) (fun h2=>?_))
  .have n2:=Ha h2;refine Xi (Ad N[i]) (Yi (I0 n2) (Yi rfl (Ax (Bt (AF s N[i].path).isSome) (fun h3=>?_) (fun h3=>?_))))
   .have fg:=(show PC 241 [sl Ae s,vs N[i].path] (.tup [.agg (Ae ((AF s N[i].path).getD Mf)),vb (AF s N[i].path).isSome])from wa s N[i].path bF);rw[show(AF s N[i].path).isSome=true from h3]at fg;refine C1 (C2 fg (yN (Yi (by grind [Au]) (Xi ⟨(i+1,o),by omega,by grind [HD,aJ]⟩ ?_))));exact⟨by grind,⟨Zr,Zr,Zr,⟨(show vb true=vb o.isSome by rw[h1]),rfl⟩,Zr,Tv⟩,Tv,Fh,Tv⟩
   have Ub:=(show PC 241 [sl Ae s,vs N[i].path] (.tup [.agg (Ae ((AF s N[i].path).getD Mf)),vb (AF s N[i].path).isSome])from wa s N[i].path bF);rw[show(AF s N[i].path).isSome=false from h3]at Ub;refine C1 (C2 Ub (yN (Xi (Ad N[i]) (Yi (I0 n2) (Yi rfl (Yi (fun h7=>?_) (fun h7=>?_)))))))
   .have h7:Ez N[i].path (o.getD mt)=true:=(D1 _ _).trans h7;refine Xi (Ad N[i]) (Yi (I0 n2) (Yi rfl (Yi (by grind [Au]) (Xi ⟨(i+1,(some N[i].path)),by omega,by grind [HD,jm]⟩ ?_))));exact⟨by grind,Z5,Tv,Fh,Tv⟩
   have h7:Ez N[i].path (o.getD mt)=false:=(D1 _ _).trans (A8.2 h7);refine Yi (by grind [Au]) (Xi ⟨(i+1,o),by omega,by grind [HD,jn]⟩ ?_);exact⟨by grind,⟨Zr,Zr,Zr,⟨(show vb true=vb o.isSome by rw[h1]),rfl⟩,Zr,Tv⟩,Tv,Fh,Tv⟩
  have n2:=Et h2;exact .of_eq (show AV.tup [vs (o.getD mt),vb true]=m6 N s by grind [DM])
 refine Mm (Aa (fun bb=>(⟨[(2,sl Ae s),(8,sl Ad N),(9,vs (o.getD mt)),(10,vb bb),(11,vi i)],[],Af⟩:LS)) h1) (Yi (fun F2=>?_) (fun F2=>?_))
 .have n11:=Ha F2;refine Xi (Ad N[i]) (Yi (I0 n11) (Yi rfl (Ax (Bt (AF s N[i].path).isSome) (fun Hr=>?_) (fun Hr=>?_))))
  .have PH:=(show PC 241 [sl Ae s,vs N[i].path] (.tup [.agg (Ae ((AF s N[i].path).getD Mf)),vb (AF s N[i].path).isSome])from wa s N[i].path bF);rw[show(AF s N[i].path).isSome=true from Hr]at PH;refine C1 (C2 PH (yN (Yi (by grind [Au]) (Xi ⟨(i+1,o),by omega,by grind [HD,aJ]⟩ ?_))));exact⟨by grind,⟨Zr,Zr,Zr,⟨(show vb false=vb o.isSome by rw[h1]),rfl⟩,Zr,Tv⟩,Tv,Fh,Tv⟩
  have yb:=(show PC 241 [sl Ae s,vs N[i].path] (.tup [.agg (Ae ((AF s N[i].path).getD Mf)),vb (AF s N[i].path).isSome])from wa s N[i].path bF);rw[show(AF s N[i].path).isSome=false from Hr]at yb;refine C1 (C2 yb (yN (Xi (Ad N[i]) (Yi (I0 n11) (Yi rfl (Yi (by grind [Au]) (Xi ⟨(i+1,(some N[i].path)),by omega,by grind [HD,m7]⟩ ?_)))))));exact⟨by grind,Z5,Tv,Fh,Tv⟩
 have n11:=Et F2;exact .of_eq (show AV.tup [vs (o.getD mt),vb false]=m6 N s by grind [DM])
abbrev lm(v:V2):List Sl:=l++[Cp v.rel]
theorem TV:∀(vs:List V2) (l:List Sl),vs.foldl lm l=l++vs.map FY
 | [],l=>by simp
 |v::vs,l=>by rw[FH,TV vs];simp
abbrev DD(A:List Sl)(n:Nat):Prop:=DI x roots s lm [] A (Ca x roots A) n A
def D5:List Sl×Int:=
 if At x≠0\/AH roots≠0\/Bb s=false then([],1)else if(visits x roots s).2 then((visits x roots s).1.map FY,0)else([],6)
abbrev ia:AV:=.tup [sl Ae (D5 x roots s).1,vi (D5 x roots s).2]
section
variable {x:List Rl}{roots:List Rq}{s A:List Sl}{m:Nat}
theorem DD.start(hq:∀q∈roots,BO q.set):DD x roots s [] (s.length+1):=by
 grind [Lx,DI.start]
theorem DD.next{p:CS}{y:Sl}{r:Rl}(h:DD x roots s A (m+1))(hp:DM (Ca x roots A) A=some p)(hf:AF s p=some y)(hr:AY x y=some r)(hx:∀r∈x,Fk r):DD x roots s (A++[y]) m:=by
 have h1:=DI.next h hp hf hr ((Fs (Cv hr).1).2 r (Cv hr).2.1) (fun q hq=>((hx r (Cv hr).2.1).2 q hq).1)
 have e:Hz x y=r.reqs:=by grind [Hz]
 rw[<-e,<-OF]at h1;have e2:lm A ⟨A,Ca x roots A,r⟩=A++[y]:=by show A++[Cp r]=_;rw[(Cv hr).2.2]
 simp_all
theorem li(h:DD x roots s A (m+1))(hc:¬(At x≠0\/AH roots≠0\/Bb s=false))(hp:DM (Ca x roots A) A=none):D5 x roots s=(A,0):=by
 obtain⟨h1,h2⟩:=DI.stop h hp<;>grind [TV,D5]
theorem XJ(hc:¬(At x≠0\/AH roots≠0\/Bb s=false))(hb:(visits x roots s).2=b)(e:b=false):D5 x roots s=([],6):=by
 grind [D5]
theorem Pm{e:Int}(h:D5 x roots s=([],e)):Cj (.tup [nzA,vi e]) (ia x roots s):=
 (show Cj (.tup [nzA,vi e]) (.tup [.slice .none [],vi e])from Cj.tup ⟨.nil,.refl _,trivial⟩).trans (.of_eq (show AV.tup [.slice .none [],vi e]=ia x roots s by simp_all))
theorem SF(h:(decide (At x=0)&&decide (AH roots=0))=true)(hi:Bb s=true):¬(At x≠0\/AH roots≠0\/Bb s=false):=by
 simp_all
end
theorem ZI{s:List Sl}{p:CS}(h:(AF s p).isSome=true):AF s p=some ((AF s p).getD Mf):=by
 cases e:AF s p<;>simp_all
theorem c44(hx:∀r∈x,Fk r)(L0:BO x)(hr:∀q∈roots,IE q)(hrl:roots.length<=1000000)(hs:s.length<=100000):PC 170 [.agg (Ic x ifs),sl Ad roots,sl Ae s] (ia x roots s):=by
 have QF:∀(p:CS) (v:Ver),PC 45 [Jf x ifs,vs p,.agg (Ej v)] (G5 (AY x ⟨p,v⟩)):=fun p v=>xw x ifs p v hx L0;have bF:BO s:=by omega
 have Sw:∀q∈roots,BO q.set:=fun q hq=>(hr q hq).1;refine Ps (pC [] [2,3,5,8,9,11]) func170 rfl (Nz rfl) (yN (Ax (Bt (decide (At x=0)&&decide (AH roots=0))) (fun h1=>?_) (fun h1=>?_)))
 .have h1:(decide (At x=0)&&decide (AH roots=0))=true:=h1;have WA:=(c37 x ifs roots hx hr);rw[show(decide (At x=0)&&decide (AH roots=0))=true from h1]at WA;refine C1 (C2 WA (Ax (Bt (Bb s)) (fun h3=>?_) (fun h3=>?_)))
  .have h3:(Bb s)=true:=h3;have fg:=(v8 s bF);rw[show Bb s=true from h3]at fg;refine C1 (C2 fg (cU [(1,sl Ad roots),(2,sl Ae s),(3,.ref 3 0)] [(3,.cells (Ic x ifs))] Z3 Z1 (Xi {q:List Sl×Nat // DD x roots s q.1 q.2} (Xi (fun q=>⟨[(1,sl Ad roots),(2,sl Ae s),(3,.ref 3 0),(8,.slice (.id 24 4) (q.1.1.map Ae))],[(3,.cells (Ic x ifs)),(24,.tok 4 q.1.1.length)],Af⟩) (Xi (fun q=>q.1.2) (Yi (Xi ⟨([],s.length+1),DD.start Sw⟩ ?_) ?_))))))
   .exact⟨Z4,Z2,Fh,Tv⟩
   intro⟨⟨A,n⟩,dd⟩;have dd:DD x roots s A n:=dd;obtain⟨m,rfl⟩:=dd.pos;have hAl:=dd.lt;refine yN (Ax (Bt (DM (Ca x roots A) A).isSome) (fun h5=>?_) (fun h5=>?_))
   .have h5:(DM (Ca x roots A) A).isSome=true:=h5;refine Ao (JD.1 h5) (fun p hp=>?_);have hpd:p=((DM (Ca x roots A) A).getD mt):=by simp_all
    have Ub:=(show PC 159 [Jf x ifs,sl Ad roots,sl Ae A] (.tup [vs ((DM (Ca x roots A) A).getD mt),vb (DM (Ca x roots A) A).isSome])from c81 x ifs roots A hx L0 hrl Wk);rw[show(DM (Ca x roots A) A).isSome=true from h5]at Ub;refine C1 (C2 Ub (cU [(1,sl Ad roots),(2,sl Ae s),(3,.ref 3 0),(8,.slice (.id 24 4) (A.map Ae)),(9,vs ((DM (Ca x roots A) A).getD mt)),(10,vb true)] [(3,.cells (Ic x ifs)),(24,.tok 4 A.length)] Z6 Z2 (Ax (Bt (AF s p).isSome) (fun h7=>?_) (fun h7=>?_))))
    .have h7:(AF s p).isSome=true:=h7;have hc8:=(show PC 241 [sl Ae s,vs ((DM (Ca x roots A) A).getD mt)] (.tup [.agg (Ae ((AF s p).getD Mf)),vb (AF s p).isSome])from hpd▸wa s p bF);rw[show(AF s p).isSome=true from h7]at hc8;refine C1 (C2 hc8 (yN (cU [(1,sl Ad roots),(2,sl Ae s),(3,.ref 3 0),(8,.slice (.id 24 4) (A.map Ae)),(11,.ref 11 0),(12,vb true)] [(3,.cells (Ic x ifs)),(11,.cells (Ae ((AF s p).getD Mf))),(24,.tok 4 A.length)] Z6 Z3 (yN (yN (Ax (CO (AY x ⟨((AF s p).getD Mf).path,((AF s p).getD Mf).ver⟩)) (fun h9=>?_) (fun h9=>?_)))))))
     .refine Ao h9 (fun r h9=>?_);have sq:=QF ((AF s p).getD Mf).path ((AF s p).getD Mf).ver;rw[h9]at sq;refine C1 (C2 sq (yN (cU [(1,sl Ad roots),(2,sl Ae s),(3,.ref 3 0),(8,.slice (.id 24 4) (A.map Ae)),(11,.ref 11 0),(12,vb true),(14,vb true)] [(3,.cells (Ic x ifs)),(11,.cells (Ae ((AF s p).getD Mf))),(24,.tok 4 A.length)] Z7 Z3 (cU [(1,sl Ad roots),(2,sl Ae s),(3,.ref 3 0),(8,.slice (.id 24 4) (A.map Ae)),(11,.ref 11 0)] [(3,.cells (Ic x ifs)),(11,.cells (Ae ((AF s p).getD Mf))),(24,.tok 4 A.length)] Z5 Z3 (yN ?_)))));have Wc:Bh 4 [(Ae ((AF s p).getD Mf))]/\(A.map Ae).length=A.length/\((A.map Ae).length+([(Ae ((AF s p).getD Mf))]:C0).length)*40<=140737488355328/\(A.map Ae).length+([(Ae ((AF s p).getD Mf))]:C0).length<=9223372036854775807:=⟨⟨rfl,trivial⟩,aa0,(by grind),(by grind)⟩;refine Yi Wc (Xi ⟨(A++[((AF s p).getD Mf)],m),dd.next hp (ZI h7) h9 hx⟩ ?_)
      exact⟨by grind,⟨Zr,Zr,Zr,⟨(show AV.slice (.id 24 4) (A.map Ae++[Ae ((AF s p).getD Mf)])=.slice (.id 24 4) ((A++[((AF s p).getD Mf)]).map Ae) by simp),rfl⟩,Tv⟩,⟨Zr,⟨(show HO.tok 4 ((A.map Ae).length+([Ae ((AF s p).getD Mf)]:C0).length)=.tok 4 (A++[((AF s p).getD Mf)]).length by simp),rfl⟩,Tv⟩,Fh,Tv⟩
     have sq:=QF ((AF s p).getD Mf).path ((AF s p).getD Mf).ver;rw[h9]at sq;refine C1 (C2 sq (yN (cU [(1,sl Ad roots),(2,sl Ae s),(3,.ref 3 0),(8,.slice (.id 24 4) (A.map Ae)),(11,.ref 11 0),(12,vb true),(14,vb false)] [(3,.cells (Ic x ifs)),(11,.cells (Ae ((AF s p).getD Mf))),(24,.tok 4 A.length)] Z7 Z3 ?_)))
     exact Pm (XJ (SF h1 h3) (dd.gone hp (ZI h7) h9).1 rfl)
    have h7:(AF s p).isSome=false:=h7;have PH:=(show PC 241 [sl Ae s,vs ((DM (Ca x roots A) A).getD mt)] (.tup [.agg (Ae ((AF s p).getD Mf)),vb (AF s p).isSome])from hpd▸wa s p bF);rw[show(AF s p).isSome=false from h7]at PH;refine C1 (C2 PH (yN (cU [(1,sl Ad roots),(2,sl Ae s),(3,.ref 3 0),(8,.slice (.id 24 4) (A.map Ae)),(11,.ref 11 0),(12,vb false)] [(3,.cells (Ic x ifs)),(11,.cells (Ae ((AF s p).getD Mf))),(24,.tok 4 A.length)] Z6 Z3 (yN (yN (Ax (CO (AY x ⟨((AF s p).getD Mf).path,((AF s p).getD Mf).ver⟩)) (fun IR=>?_) (fun IR=>?_)))))))
    .refine Ao IR (fun r IR=>?_);have ZJ:=QF ((AF s p).getD Mf).path ((AF s p).getD Mf).ver;rw[IR]at ZJ;refine C1 (C2 ZJ (yN (cU [(1,sl Ad roots),(2,sl Ae s),(3,.ref 3 0),(8,.slice (.id 24 4) (A.map Ae)),(11,.ref 11 0),(12,vb false),(14,vb true)] [(3,.cells (Ic x ifs)),(11,.cells (Ae ((AF s p).getD Mf))),(24,.tok 4 A.length)] Z7 Z3 ?_)))
     exact Pm (XJ (SF h1 h3) (dd.lost hp (by simpa using h7)).1 rfl)
    have ZJ:=QF ((AF s p).getD Mf).path ((AF s p).getD Mf).ver;rw[IR]at ZJ;refine C1 (C2 ZJ (yN (cU [(1,sl Ad roots),(2,sl Ae s),(3,.ref 3 0),(8,.slice (.id 24 4) (A.map Ae)),(11,.ref 11 0),(12,vb false),(14,vb false)] [(3,.cells (Ic x ifs)),(11,.cells (Ae ((AF s p).getD Mf))),(24,.tok 4 A.length)] Z7 Z3 ?_)))
    exact Pm (XJ (SF h1 h3) (dd.lost hp (by simpa using h7)).1 rfl)
   have h5:(DM (Ca x roots A) A).isSome=false:=h5;have lV:=(show PC 159 [Jf x ifs,sl Ad roots,sl Ae A] (.tup [vs ((DM (Ca x roots A) A).getD mt),vb (DM (Ca x roots A) A).isSome])from c81 x ifs roots A hx L0 hrl Wk);rw[show(DM (Ca x roots A) A).isSome=false from h5]at lV;refine C1 (C2 lV (cU [(1,sl Ad roots),(2,sl Ae s),(3,.ref 3 0),(8,.slice (.id 24 4) (A.map Ae)),(9,vs ((DM (Ca x roots A) A).getD mt)),(10,vb false)] [(3,.cells (Ic x ifs)),(24,.tok 4 A.length)] Z6 Z2 ?_))
   exact .of_eq (show AV.tup [sl Ae A,vi 0]=ia x roots s by unfold ia;rw[li dd (SF h1 h3) (by simp_all)])
  have h3:(Bb s)=false:=h3;have ZK:=(v8 s bF);rw[show Bb s=false from h3]at ZK;refine C1 (C2 ZK (cU [] [] Tv Tv ?_))
  exact Pm (by grind [D5])
 have h1:(decide (At x=0)&&decide (AH roots=0))=false:=h1;have lW:=(c37 x ifs roots hx hr);rw[show(decide (At x=0)&&decide (AH roots=0))=false from h1]at lW;refine C1 (C2 lW (cU [] [] Tv Tv ?_))
 exact Pm (by grind [D5])
theorem pJ{x:List Rl}{roots:List Rq}{s:List Sl}:(D5 x roots s).1.length<=s.length:=by
 unfold D5;split
 .simp
 .split
  .rename_i h
   have:=CB (m:=s.map (·.path)) (Iw h).nodup fun p hp=>by
    obtain⟨y,hy,e⟩:=Ar.1 hp;rw[GD]at hy;obtain⟨v,hv,rfl⟩:=Ar.1 hy;exact Ar.2 ⟨FY v,((Iw h).mem v hv).1,e⟩
   simp_all
  .simp
abbrev Du(n:Int):List AV:=[vi n]
def Gp:Bool:=match AY x y with | some r=>!r.yanked | none=>false
def LX:Bool:=N.any fun q=>decide (q.path=p)&&!has q.set pl
def Gg:Ver:=match Dj x p pl with | some r=>r.ver | none=>⟨0,0,0⟩
def Ji(o:Rl):Bool:=decide (o.path=p)&&!o.yanked&&decide (plc o.ver<pl)&&!LX N p (plc o.ver)
def Dd:List Int:=(x.filter (Ji N p pl)).map fun o=>plc o.ver
theorem ku{l:List α}(h:∀j (hj:j<l.length),f l[j]=true):l.all f=true:=by
 grind [List.getElem_of_mem]
theorem dW{l:List α}(hj:j<l.length)(h:f l[j]=false):l.all f=false:=by
 grind
theorem YU{l:List α}(h:∀j (hj:j<l.length),f l[j]=false):l.any f=false:=by
 grind [List.getElem_of_mem]
theorem dX{l:List α}(hj:j<l.length)(h:f l[j]=true):l.any f=true:=BC.2 ⟨_,Ah hj,h⟩
theorem JT{x:List Rl}{N:List Rq}{p:CS}{pl:Int}(h:i<x.length):Dd (x.take (i+1)) N p pl=Dd (x.take i) N p pl++(if Ji N p pl x[i]then [plc x[i].ver]else []):=by
 grind [Dd,List.take_add_one]
theorem W6:(Dd x N p pl).length<=x.length:=by
 grind [Dd]
section
variable {N:List Rq}{p:CS}{pl:Int}{o:Rl}
theorem rN(h:¬o.path=p):Ji N p pl o=false:=by grind [Ji]
theorem rO(h:o.yanked=true):Ji N p pl o=false:=by grind [Ji]
theorem z7(h:¬plc o.ver<pl):Ji N p pl o=false:=by grind [Ji]
theorem rM(h:LX N p (plc o.ver)=true):Ji N p pl o=false:=by grind [Ji]
theorem vK(h1:o.path=p)(h2:o.yanked=false)(h3:plc o.ver<pl)(h4:LX N p (plc o.ver)=false):Ji N p pl o=true:=by
 grind [Ji]
end
theorem LG(h:By v=true):place v=plc v:=by grind [plc]
theorem c49(hx:∀r∈x,Fk r)(L0:BO x)(hs:s.length<=1000000):PC 95 [.agg (Ic x ifs),sl Ae s] (vb (s.all (Gp x))):=by
 have QF:∀(p:CS) (v:Ver),PC 45 [Jf x ifs,vs p,.agg (Ej v)] (G5 (AY x ⟨p,v⟩)):=fun p v=>xw x ifs p v hx L0;refine Ps CX func95 rfl (Nz rfl) (Xi {i:Nat // i<=s.length/\∀j (h:j<s.length),j<i->Gp x s[j]=true} (Xi (fun q=>⟨[(1,sl Ae s),(2,.ref 2 0),(5,vi q.1)],[(2,.cells (Ic x ifs))],Af⟩) (Xi (fun q=>s.length-q.1) (Yi (Xi ⟨0,Al _,fun j _ h=>by omega⟩ ?_) ?_))))
 .exact⟨Z3,Z1,Fh,Tv⟩
 intro⟨i,i1,i2⟩;refine Yi (fun h1=>?_) (fun h1=>?_)
 .have h1:(i:Int)<((s.map Ae).length:Int):=h1;have n1:=Ha h1;refine yN (Xi (Ae s[i]) (Yi (I0 n1) (Yi rfl (Xi (Ae s[i]) (Yi (I0 n1) (Yi rfl (yN (Ax (CO (AY x ⟨s[i].path,s[i].ver⟩)) (fun h2=>?_) (fun h2=>?_)))))))))
  .refine Ao h2 (fun r h2=>?_);have WA:=QF s[i].path s[i].ver;rw[h2]at WA;refine C2 WA (yN (Yi aa2 (Yi (fun h3=>?_) (fun h3=>?_))))
   .have h3:r.yanked=true:=h3;exact .of_eq (Aa vb (show false=s.all (Gp x)from(dW n1 (by grind [Gp,AY])).symm))
   have h3:r.yanked=false:=h3;refine Yi (by grind [Au]) (Xi ⟨i+1,by omega,fun j hj GC=>(BR j i).elim (i2 j hj) (fun z=>by have e:i=j:=Wk;subst e;grind [Gp,AY])⟩ ?_);exact⟨by grind,Z3,Z1,Fh,Tv⟩
  have WA:=QF s[i].path s[i].ver;rw[h2]at WA;refine C2 WA (yN (Yi aa2 ?_));exact .of_eq (Aa vb (show false=s.all (Gp x)from(dW n1 (by grind [Gp,AY])).symm))
 have h1:¬((i:Int)<((s.map Ae).length:Int)):=h1;have n1:=Et h1;exact .of_eq (Aa vb (show true=s.all (Gp x)from(ku fun j hj=>i2 j hj Wk).symm))
theorem Abd(hx:∀r∈x,Fk r)(L0:BO x)(Sw:∀q∈roots,BO q.set)(hrl:roots.length<=1000000)(hs:s.length<=1000000):PC 161 [.agg (Ic x ifs),sl Ad roots,sl Ae s,vs p,vi pl] (vb (LX (Ca x roots s) p pl)):=by
 obtain⟨N,hN⟩:∃N,N=Ca x roots s:=⟨_,rfl⟩;have lO:=w6 x ifs roots s hx L0 hrl hs;have hNl:=OG x roots s;have hNf:=dk hx Sw s;rw[<-hN]at lO hNl hNf⊢;refine Ps CX func161 rfl (Nz rfl) (yN (C1 (C2 lO (Xi {i:Nat // i<=N.length/\∀j (h:j<N.length),j<i->(decide (N[j].path=p)&&!has N[j].set pl)=false} (Xi (fun q=>⟨[(3,vs p),(4,vi pl),(11,sl Ad N),(12,vi q.1)],[],Af⟩) (Xi (fun q=>N.length-q.1) (Yi (Xi ⟨0,Al _,fun j _ h=>by omega⟩ ?_) ?_)))))))
 .exact⟨Z4,Tv,Fh,Tv⟩
 intro⟨i,i1,i2⟩;refine Yi (fun h1=>?_) (fun h1=>?_)
 .have h1:(i:Int)<((N.map Ad).length:Int):=h1;have n1:=Ha h1;refine Xi (Ad N[i]) (Yi (I0 n1) (Yi rfl (Yi (fun h2=>?_) (fun h2=>?_))))
  .refine Xi (Ad N[i]) (Yi (I0 n1) (Yi rfl (Ax (Bt (has N[i].set pl)) (fun h3=>?_) (fun h3=>?_))))
   .refine C1 (C2 (cb h3 (gS N[i].set pl (hNf _ (Ah n1)))) (Yi (by grind [Au]) (Xi ⟨i+1,by omega,fun j hj GC=>(BR j i).elim (i2 j hj) (fun z=>by grind)⟩ ?_)));exact⟨by grind,Z4,Tv,Fh,Tv⟩
   refine C1 (C2 (cb h3 (gS N[i].set pl (hNf _ (Ah n1)))) ?_);exact .of_eq (Aa vb (show true=LX N p pl from Eq.symm (show N.any (fun q=>decide (q.path=p)&&!has q.set pl)=true from dX n1 (by simp_all))))
  refine Yi (by grind [Au]) (Xi ⟨i+1,by omega,fun j hj GC=>(BR j i).elim (i2 j hj) (fun z=>by grind)⟩ ?_);exact⟨by grind,Z4,Tv,Fh,Tv⟩
 have h1:¬((i:Int)<((N.map Ad).length:Int)):=h1;have n1:=Et h1;exact .of_eq (Aa vb (show false=LX N p pl from(YU fun j hj=>i2 j hj Wk).symm))
theorem c97(L0:BO x)(hv:∀r∈x,By r.ver=true)(hs:s.length<=1000000):PC 173 [.agg (Ic x ifs),sl Ae s,vs p,vi pl] (sl Ae (s++[(⟨p,Gg x p pl⟩:Sl)])):=by
 refine Ps CX func173 rfl (Nz rfl) (yN (Ax (CO (Dj x p pl)) (fun h1=>?_) (fun h1=>?_)))
 .refine Ao h1 (fun r h1=>?_);have so:=c70 x ifs p pl L0 hv;rw[h1]at so;refine C1 (C2 so (yN ?_));have b2:Bh 4 (s.map Ae)/\([]:C0).length=0/\(([]:C0).length+(s.map Ae).length)*40<=140737488355328/\([]:C0).length+(s.map Ae).length<=9223372036854775807:=⟨(Cm (enc:=Ae) (n:=4) (fun _=>rfl) s),(by simp_all),(by grind),(by grind)⟩;refine Yi b2 (yN ?_);have b3:Bh 4 [[vs p,vi r.ver.a,vi r.ver.b,vi r.ver.c]]/\(([]++(s.map Ae)):C0).length=(([]:C0).length+(s.map Ae).length)/\((([]++(s.map Ae)):C0).length+([[vs p,vi r.ver.a,vi r.ver.b,vi r.ver.c]]:C0).length)*40<=140737488355328/\(([]++(s.map Ae)):C0).length+([[vs p,vi r.ver.a,vi r.ver.b,vi r.ver.c]]:C0).length<=9223372036854775807:=⟨⟨rfl,trivial⟩,(by simp_all),(by grind),(by grind)⟩;refine Yi b3 (Yi aa2 ?_);exact .of_eq (show AV.slice .none ([]++s.map Ae++[Ae (⟨p,r.ver⟩:Sl)])=.slice .none ((s++[(⟨p,Gg x p pl⟩:Sl)]).map Ae) by grind [Gg])
 have so:=c70 x ifs p pl L0 hv;rw[h1]at so;refine C1 (C2 so (yN ?_));have b5:Bh 4 (s.map Ae)/\([]:C0).length=0/\(([]:C0).length+(s.map Ae).length)*40<=140737488355328/\([]:C0).length+(s.map Ae).length<=9223372036854775807:=⟨(Cm (enc:=Ae) (n:=4) (fun _=>rfl) s),(by simp_all),(by grind),(by grind)⟩;refine Yi b5 (yN ?_);have b6:Bh 4 [[vs p,vi 0,vi 0,vi 0]]/\(([]++(s.map Ae)):C0).length=(([]:C0).length+(s.map Ae).length)/\((([]++(s.map Ae)):C0).length+([[vs p,vi 0,vi 0,vi 0]]:C0).length)*40<=140737488355328/\(([]++(s.map Ae)):C0).length+([[vs p,vi 0,vi 0,vi 0]]:C0).length<=9223372036854775807:=⟨⟨rfl,trivial⟩,(by simp_all),(by grind),(by grind)⟩;refine Yi b6 (Yi aa2 ?_);exact .of_eq (show AV.slice .none ([]++s.map Ae++[Ae (⟨p,⟨0,0,0⟩⟩:Sl)])=.slice .none ((s++[(⟨p,Gg x p pl⟩:Sl)]).map Ae) by grind [Gg])
theorem c94(hx:∀r∈x,Fk r)(L0:BO x)(Sw:∀q∈roots,BO q.set)(hrl:roots.length<=1000000)(hs:s.length<=1000000)(hv:∀r∈x,By r.ver=true):PC 171 [.agg (Ic x ifs),sl Ad roots,sl Ae s,vs p,vi pl] (sl Du (Dd x (Ca x roots s) p pl)):=by
 have uh:∀k:Int,PC 161 [Jf x ifs,sl Ad roots,sl Ae s,vs p,vi k] (vb (LX (Ca x roots s) p k)):=fun k=>Abd x ifs roots s p k hx L0 Sw hrl hs;obtain⟨N,hN⟩:∃N,N=Ca x roots s:=⟨_,rfl⟩;rw[<-hN]at uh⊢;have L0:x.length<=1073741824:=L0;refine Ps CX func171 rfl (Nz rfl) (Xi {i:Nat // i<=x.length} (Xi (fun q=>⟨[(1,sl Ad roots),(2,sl Ae s),(3,vs p),(4,vi pl),(5,.ref 5 0),(11,.slice (.id 15 1) ((Dd (x.take q.1) N p pl).map Du)),(12,vi q.1)],[(5,.cells (Ic x ifs)),(15,.tok 1 (Dd (x.take q.1) N p pl).length)],Af⟩) (Xi (fun q=>x.length-q.1) (Yi (Xi ⟨0,Al _⟩ ?_) ?_))))
 .exact⟨Z7,Z2,Fh,Tv⟩
 intro⟨i,i1⟩;have Uh:=W6 (x.take i) N p pl;rw[BW]at Uh;refine Yi (fun h1=>?_) (fun h1=>?_)
 .have h1:(i:Int)<((x.map Am).length:Int):=h1;have n1:=Ha h1;refine Xi (Am x[i]) (Yi (I0 n1) (Yi rfl (yN (yN (yN (C1 (C2 (show PC 162 [.agg (Ej x[i].ver)] (vi (plc x[i].ver))from LG (hv _ (Ah n1))▸wb x[i].ver (hv _ (Ah n1))) (Yi (fun h2=>?_) (fun h2=>?_)))))))))
  .have h2:(x[i].path:CS)=p:=h2;refine Yi (fun h3=>?_) (fun h3=>?_)
   .have h3:x[i].yanked=true:=h3;refine Yi (by grind [Au]) ?_;have es:Dd (x.take (i+1)) N p pl=Dd (x.take i) N p pl:=by grind [JT,rO]
    refine Xi ⟨i+1,by omega⟩ ?_;exact⟨by grind,⟨Zr,Zr,Zr,Zr,Zr,⟨(show AV.slice (.id 15 1) ((Dd (x.take i) N p pl).map Du)=.slice (.id 15 1) ((Dd (x.take (i+1)) N p pl).map Du) by rw[es]),rfl⟩,Zr,Tv⟩,⟨Zr,⟨(show HO.tok 1 (Dd (x.take i) N p pl).length=.tok 1 (Dd (x.take (i+1)) N p pl).length by rw[es]),rfl⟩,Tv⟩,Fh,Tv⟩
   have h3:x[i].yanked=false:=h3;refine Yi (fun h5=>?_) (fun h5=>?_)
   .have h5:(plc x[i].ver:Int)<(pl:Int):=h5;refine yN (Ax (Bt (LX N p (plc x[i].ver))) (fun h6=>?_) (fun h6=>?_))
    .have h6:(LX N p (plc x[i].ver))=true:=h6;refine C1 (C2 (cb h6 (uh (plc x[i].ver))) (Yi (by grind [Au]) ?_));have es:Dd (x.take (i+1)) N p pl=Dd (x.take i) N p pl:=by grind [JT,rM]
     refine Xi ⟨i+1,by omega⟩ ?_;exact⟨by grind,⟨Zr,Zr,Zr,Zr,Zr,⟨(show AV.slice (.id 15 1) ((Dd (x.take i) N p pl).map Du)=.slice (.id 15 1) ((Dd (x.take (i+1)) N p pl).map Du) by rw[es]),rfl⟩,Zr,Tv⟩,⟨Zr,⟨(show HO.tok 1 (Dd (x.take i) N p pl).length=.tok 1 (Dd (x.take (i+1)) N p pl).length by rw[es]),rfl⟩,Tv⟩,Fh,Tv⟩
    have h6:(LX N p (plc x[i].ver))=false:=h6;refine C1 (C2 (cb h6 (uh (plc x[i].ver))) (Yi (YG rfl (show(Dd (x.take i) N p pl).length<=2147483647 by omega) aa1) (Yi (by grind [Au]) ?_)));have es:Dd (x.take (i+1)) N p pl=Dd (x.take i) N p pl++[plc x[i].ver]:=by grind [JT,vK]
    refine Xi ⟨i+1,by omega⟩ ?_;exact⟨by grind,⟨Zr,Zr,Zr,Zr,Zr,⟨(show AV.slice (.id 15 1) ((Dd (x.take i) N p pl).map Du++[[vi (plc x[i].ver)]])=.slice (.id 15 1) ((Dd (x.take (i+1)) N p pl).map Du) by simp_all),rfl⟩,Zr,Tv⟩,⟨Zr,⟨(show HO.tok 1 (((Dd (x.take i) N p pl).map Du).length+([[vi (plc x[i].ver)]]:C0).length)=.tok 1 (Dd (x.take (i+1)) N p pl).length by simp_all),rfl⟩,Tv⟩,Fh,Tv⟩
   have h5:¬((plc x[i].ver:Int)<(pl:Int)):=h5;refine Yi (by grind [Au]) ?_;have es:Dd (x.take (i+1)) N p pl=Dd (x.take i) N p pl:=by grind [JT,z7]
   refine Xi ⟨i+1,by omega⟩ ?_;exact⟨by grind,⟨Zr,Zr,Zr,Zr,Zr,⟨(show AV.slice (.id 15 1) ((Dd (x.take i) N p pl).map Du)=.slice (.id 15 1) ((Dd (x.take (i+1)) N p pl).map Du) by rw[es]),rfl⟩,Zr,Tv⟩,⟨Zr,⟨(show HO.tok 1 (Dd (x.take i) N p pl).length=.tok 1 (Dd (x.take (i+1)) N p pl).length by rw[es]),rfl⟩,Tv⟩,Fh,Tv⟩
  have h2:¬(x[i].path:CS)=p:=h2;refine Yi (by grind [Au]) ?_;have es:Dd (x.take (i+1)) N p pl=Dd (x.take i) N p pl:=by grind [JT,rN]
  refine Xi ⟨i+1,by omega⟩ ?_;exact⟨by grind,⟨Zr,Zr,Zr,Zr,Zr,⟨(show AV.slice (.id 15 1) ((Dd (x.take i) N p pl).map Du)=.slice (.id 15 1) ((Dd (x.take (i+1)) N p pl).map Du) by rw[es]),rfl⟩,Zr,Tv⟩,⟨Zr,⟨(show HO.tok 1 (Dd (x.take i) N p pl).length=.tok 1 (Dd (x.take (i+1)) N p pl).length by rw[es]),rfl⟩,Tv⟩,Fh,Tv⟩
 have h1:¬((i:Int)<((x.map Am).length:Int)):=h1;have n1:=Et h1;exact .of_eq (show sl Du (Dd (x.take i) N p pl)=sl Du (Dd x N p pl) by grind)
def Hy:Bool:=decide (q.path=r.path)&&has q.set (plc r.ver)
def Gs:Bool:=m.any fun q=>Hy q r
theorem zv{q:Rq}{r:Rl}(h:¬q.path=r.path):Hy q r=false:=by grind [Hy]
theorem sX{q:Rq}{r:Rl}(h:q.path=r.path)(hb:has q.set (plc r.ver)=b):Hy q r=b:=by grind [Hy]
theorem xd(hq:BO q.set)(hv:By r.ver=true):PC 311 [.agg (Ad q),.agg (Am r)] (vb (Hy q r)):=by
 refine Ps CX func311 rfl (Nz rfl) (Yi (fun h1=>?_) (fun h1=>?_))
 .have h1:(q.path:CS)=r.path:=h1;refine yN (C2 (show PC 162 [.agg (Ej r.ver)] (vi (plc r.ver))from LG hv▸wb r.ver hv) (Ax (Bt (has q.set (plc r.ver))) (fun h2=>?_) (fun h2=>?_)))
  .have h2:(has q.set (plc r.ver))=true:=h2;have ff:=gS q.set (plc r.ver) hq;rw[show(has q.set (plc r.ver))=true from h2]at ff;refine C2 ff (Yi aa2 ?_);exact .of_eq (Aa vb (sX h1 h2).symm)
  have h2:(has q.set (plc r.ver))=false:=h2;have Ua:=gS q.set (plc r.ver) hq;rw[show(has q.set (plc r.ver))=false from h2]at Ua;refine C2 Ua (Yi aa2 ?_);exact .of_eq (Aa vb (sX h1 h2).symm)
 have h1:¬(q.path:CS)=r.path:=h1;refine Yi aa2 ?_;exact .of_eq (Aa vb (zv h1).symm)
theorem gT(hml:m.length<=1000000)(hq:∀q∈m,BO q.set)(hv:By r.ver=true):PC 249 [sl Ad m,.agg (Am r)] (vb (Gs m r)):=by
 refine Ps (pC [] [3,5]) func249 rfl (Nz rfl) (Xi {i:Nat // i<=m.length/\∀j (h:j<m.length),j<i->Hy m[j] r=false} (Xi (fun q=>⟨[(0,sl Ad m),(3,.ref 3 0),(5,vi q.1)],[(3,.cells (Am r))],Af⟩) (Xi (fun q=>m.length-q.1) (Yi (Xi ⟨0,Al _,fun j _ h=>by omega⟩ ?_) ?_))))
 .exact⟨Z3,Z1,Fh,Tv⟩
 intro⟨i,i1,i2⟩;refine Yi (fun h1=>?_) (fun h1=>?_)
 .have h1:(i:Int)<((m.map Ad).length:Int):=h1;have n1:i<m.length:=by simp_all
  have g1:m[i]?=some m[i]:=Ge n1;refine Xi (Ad m[i]) (Yi (Yi (Nn i) (Bq g1)) (Yi rfl (yN (yN (Ax (Bt (Hy m[i] r)) (fun h2=>?_) (fun h2=>?_))))))
  .have h2:(Hy m[i] r)=true:=h2;have ff:=xd m[i] r (hq _ (Ah n1)) hv;rw[show(Hy m[i] r)=true from h2]at ff;refine C2 ff (Yi aa2 (cU [] [] Tv Tv ?_))
   exact .of_eq (Aa vb (show true=Gs m r from Eq.symm (show m.any (fun q=>Hy q r)=true from dX n1 h2)))
  have h2:(Hy m[i] r)=false:=h2;have Ua:=xd m[i] r (hq _ (Ah n1)) hv;rw[show(Hy m[i] r)=false from h2]at Ua;refine C2 Ua (Yi aa2 (cU [(0,sl Ad m),(3,.ref 3 0),(5,vi i)] [(3,.cells (Am r))] Z3 Z1 (Yi (by grind [Au]) (Xi ⟨i+1,by omega,fun j hj GC=>(BR j i).elim (i2 j hj) (fun z=>by grind)⟩ ?_))));exact⟨by grind,Z3,Z1,Fh,Tv⟩
 have h1:¬((i:Int)<((m.map Ad).length:Int)):=h1;have n1:¬i<m.length:=by simp_all
 exact .of_eq (Aa vb (show false=Gs m r from(YU fun j hj=>i2 j hj Wk).symm))
abbrev Dh(b:Bool):List AV:=[vb b]
def UD(Cl:List CS)(p:CS):Bool:=Cl.any fun q=>decide (q=p)
def Yj(B:List Bool):Nat:=(B.filter fun b=>!b).length
theorem aO:∀{B:List Bool} {i:Nat} (h:i<B.length),B[i]=false->Yj (B.set i true)<Yj B
 |b::B,0,_,hb=>by
  grind [Yj]
 |b::B,i+1,h,hb=>by
  have:=aO (B:=B) (i:=i) (by grind) hb
  grind [Yj]
def Ib(l:List Rl)(roots:List Rq)(B:List Bool)(i:Rl)(k:Nat):Bool:=Gs roots i||(List.range k).any fun k=>B.getD k false&&Gs ((l[k]?.map (·.reqs)).getD []) i
theorem UP(l:List Rl)(roots:List Rq)(B:List Bool)(i:Rl):Ib l roots B i 0=Gs roots i:=by grind [Ib]
theorem GU{l:List Rl}{roots:List Rq}{B:List Bool}{i:Rl}(h:k<l.length)(hB:k<B.length):Ib l roots B i (k+1)=(Ib l roots B i k||(B[k]&&Gs l[k].reqs i)):=by
 grind [Ib,List.range_succ]
structure kp(l:List Rl)(Cl:List CS)(B:List Bool):Prop where
 len:B.length=l.length
 snd:∀k (h:k<l.length),B[k]?=some true->l[k].path∈Cl
structure vY(l:List Rl)(roots:List Rq)(Cl:List CS):Prop where
 root:∀q∈roots,q.path∈Cl
 req:∀r∈l,r.path∈Cl->∀q∈r.reqs,q.path∈Cl
section
variable {l:List Rl}{roots:List Rq}{Cl:List CS}{B:List Bool}
theorem gG{m:List Rq}{r:Rl}(h:Gs m r=true):∃q∈m,q.path=r.path:=by
 obtain⟨q,hq,e⟩:=BC.1 h<;>grind [Hy]
theorem kp.part(h:kp l Cl B)(hc:vY l roots Cl){i:Rl}(hk:k<=l.length)(hr:Ib l roots B i k=true):i.path∈Cl:=by
 grind [Ib,gG,List.getElem_mem,vY.root,vY.req,kp.snd]
theorem kp.set(h:kp l Cl B){i:Nat}(hi:i<l.length)(hp:l[i].path∈Cl):kp l Cl (B.set i true):=
 ⟨by grind [kp.len],fun k hk hb=>by
  grind [kp.snd]⟩
structure YF(l:List Rl)(roots:List Rq)(Cl:List CS)(B0:List Bool)(i:Nat)(B:List Bool)(ch:Bool):Prop where
 snd:kp l Cl B
 no:ch=false->B=B0/\∀j (h:j<l.length),j<i->Ib l roots B l[j] l.length=true->B[j]?=some true
 yes:ch=true->Yj B<Yj B0
theorem YF.start(h:kp l Cl B):YF l roots Cl B 0 B false:=⟨h,fun _=>⟨rfl,fun j _ hj=>absurd hj (Cf j)⟩,fun h=>(by cases h)⟩
variable {B0:List Bool}{i:Nat}{ch:Bool}
theorem YF.set(h:YF l roots Cl B0 i B ch)(hc:vY l roots Cl)(hi:i<l.length)(hr:Ib l roots B l[i] l.length=true)(hb:∀wu:i<B.length,B[i]=false):YF l roots Cl B0 (i+1) (B.set i true) true:=by
 have wu:i<B.length:=by rw[h.snd.len];exact hi
 have ET:=aO wu (hb wu);refine⟨h.snd.set hi (h.snd.part hc (Ap _) hr),fun h=>(by cases h),fun _=>?_⟩;cases ch with
 |true=>have:=h.yes rfl;omega
 |false=>grind [YF.no]
theorem YF.keep(h:YF l roots Cl B0 i B ch)(hi:i<l.length)(hk:Ib l roots B l[i] l.length=true->B[i]?=some true):YF l roots Cl B0 (i+1) B ch:=
 ⟨h.snd,fun hf=>⟨(h.no hf).1,fun j hj GC hr=>by
  grind [YF.no]⟩,h.yes⟩
structure oH(l:List Rl)(roots:List Rq)(Cl:List CS)(B:List Bool)(ch:Bool):Prop where
 snd:kp l Cl B
 no:ch=false->∀j (h:j<l.length),Ib l roots B l[j] l.length=true->B[j]?=some true
theorem YF.out(h:YF l roots Cl B0 i B ch)(hi:l.length<=i):oH l roots Cl B ch:=⟨h.snd,fun hf j hj hr=>(h.no hf).2 j hj Wk hr⟩
theorem YF.mu(h:YF l roots Cl B0 i B ch):2*Yj B+(if ch then 1 else 0)<2*Yj B0+1:=by
 cases ch with
 |true=>have:=h.yes rfl;simp_all
 |false=>grind [YF.no]
theorem oH.fin(h:oH l roots Cl B false)(qu:∀D:List CS,(∀q∈roots,q.path∈D)->(∀r∈l,r.path∈D->∀q∈r.reqs,q.path∈D)->∀p∈Cl,p∈D)
  (GR:∀q,q∈roots\/(∃r∈l,q∈r.reqs)->∀r∈l,q.path=r.path->has q.set (plc r.ver)=true) (hn:(l.map (·.path)).Nodup) (ZO:∀q,q∈roots\/(∃r∈l,q∈r.reqs)->∃r∈l,r.path=q.path) :
  ∀j (hj:j<l.length),B[j]?=some (UD Cl l[j].path):=by
 have AfN:∀(m:List Rq) (i:Rl),i∈l->(∀q∈m,q∈roots\/∃r∈l,q∈r.reqs)->∀q∈m,q.path=i.path->Gs m i=true:=fun m i hi hm q hq e=>by
  refine BC.2 ⟨q,hq,?_⟩
  grind [Hy]
 let D:List CS:=((List.range l.length).filter fun k=>B.getD k false).filterMap fun k=>(l[k]?).map (·.path)
 have hD:∀j (hj:j<l.length),B[j]?=some true->l[j].path∈D:=fun j hj hb=>by
  refine List.mem_filterMap.2 ⟨j,Cr.2 ⟨OX.2 hj,?_⟩,by simp_all⟩;simp_all
 have hD2:∀j (hj:j<l.length),l[j].path∈D->B[j]?=some true:=fun j hj hm=>by
  obtain⟨k,hk,e⟩:=List.mem_filterMap.1 hm;obtain⟨h1,h2⟩:=Cr.1 hk;have qr:=OX.1 h1;rw[Ge qr]at e;have e:l[k].path=l[j].path:=DU e
  have:k=j:=(List.getElem_inj (xs:=l.map (·.path)) (h₀:=by simp_all) (h₁:=by simp_all) hn).1 (by simp_all)
  grind
 have iK:=qu D (fun q hq=>by
   grind [List.getElem_of_mem,Ib,oH.no])
  (fun r hr hp q hq=>by
   obtain⟨k,hk,rfl⟩:=He hr;have hkb:=hD2 k hk hp;obtain⟨r2,cS,e⟩:=ZO q (.inr ⟨_,hr,hq⟩);obtain⟨j,hj,rfl⟩:=He cS;rw[<-e];refine hD j hj (h.no rfl j hj ?_);unfold Ib;rw[HU];right;refine BC.2 ⟨k,OX.2 hk,?_⟩
   grind)
 intro j hj;have hjB:j<B.length:=by rw[h.snd.len];exact hj
 cases hc:UD Cl l[j].path with
 |true=>exact hD2 j hj (iK _ (Jk.1 hc))
 |false=>
  rw[Ge hjB];cases hb:B[j]with
  |false=>rfl
  |true=>
   have:=Jk.2 (h.snd.snd j hj (by simp_all))
   grind [UD]
end
end Go.Eng
