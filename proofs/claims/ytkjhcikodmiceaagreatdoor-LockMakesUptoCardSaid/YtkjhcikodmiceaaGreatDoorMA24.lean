/- Lemmas 24. -/
import Derived.Test.YtkjhcikodmiceaaGreatDoorMA23
set_option maxHeartbeats 4000000
namespace Go.Eng
open Go.Proofs Go.Proofs.Tryz
variable {α:Type}{f:α->Bool}{v:Ver}{b:Bool}{i j k:Nat}(x:List Rl)(ifs:C0)(N m:List Rq)(q:Rq)(roots:List Rq)(l:List Sl)(r:Rl)(y:Sl)(s:List Sl)(p:CS)(pl:Int)
theorem KL{cx:Cx}{c:Code}{Q:Ex->St->Prop}{s s' : LS}(h:s=s')(hk:Rg cx c Q s'.st):Rg cx c Q s.st:=aa0
theorem gJ{x:List Rl}{p:CS}(h:Aw x=0):AW x ⟨p,v⟩=x.find? fun r=>decide (Cr r=⟨p,v⟩):=AL (MC h)
theorem Qw{r:Rl}{p:CS}:Cr r=⟨p,v⟩↔r.path=p/\r.ver.a=v.a/\r.ver.b=v.b/\r.ver.c=v.c:=by
 unfold Cr;constructor
 .simp_all
 .rintro⟨rfl,h1,h2,h3⟩
  cases hr:r.ver<;>simp_all
def Hq:List Rq:=match AW x y with | some r=>r.reqs | none=>[]
def B3:List Rq:=roots++(l.map (Hq x)).flatten
theorem LW:B3 x roots []=roots:=by grind [B3]
theorem Pi:B3 x roots (l++[y])=B3 x roots l++Hq x y:=by grind [B3]
theorem SL(h:i<l.length):B3 x roots (l.take (i+1))=B3 x roots (l.take i)++Hq x l[i]:=by
 grind [List.take_add_one,Pi]
theorem VG{x:List Rl}:(Hq x y).length<=16:=by
 unfold Hq;split
 .rename_i r hr;exact(Fi (Ce hr).1).2 r (Ce hr).2.1
 .simp
theorem Pj:∀l:List Sl,(B3 x roots l).length<=roots.length+16*l.length:=fun l=>by
 unfold B3;rw[AD]
 have:∀l:List Sl,((l.map (Hq x)).flatten).length<=16*l.length:=fun l=>by
  induction l<;>grind [VG]
 simp_all
theorem fA{x:List Rl}{roots:List Rq}(hx:∀r∈x,Eo r)(hr:∀q∈roots,BF q.set)(l:List Sl):∀q∈B3 x roots l,BF q.set:=fun q hq=>by
 unfold B3 at hq;rcases Bc.1 hq with hq | hq
 .simp_all
 .obtain⟨m,hm,uL⟩:=EI.1 hq;obtain⟨y,_,rfl⟩:=Ar.1 hm;unfold Hq at uL;split at uL
  .rename_i r YV;exact((hx r (Ce YV).2.1).2 q uL).1
  simp_all
theorem x9(v:Ver)(hx:∀r∈x,Eo r)(Mu:BF x):PC 45 [.agg (Ic x ifs),vs p,.agg (Ez v)] (Hi (AW x ⟨p,v⟩)):=by
 refine Ps Dc func45 rfl C4 (yN (C1 (U (ul x ifs hx) (J (fun h1=>?_) (fun h1=>?_)))))
 .refine yN (yN ?_);exact .of_eq (show AV.tup [.agg ZM,I false]=Hi (AW x ⟨p,v⟩) by grind [AW])
 have h1:(Aw x:Int)=(0:Int):=As h1;refine Z {i:Nat // i<=x.length/\∀j (h:j<x.length),j<i->decide (Cr x[j]=⟨p,v⟩)=false} (Z (fun q=>⟨[(1,vs p),(3,.ref 3 0),(5,.ref 5 0),(6,.ref 6 0),(8,G q.1)],[(3,.cells (Ic x ifs)),(5,.cells (Ez v)),(6,.cells [vs ⟨#[]⟩,G 0,G 0,G 0,BY,vs ⟨#[]⟩,vs ⟨#[]⟩,vs ⟨#[]⟩,I false])],Af⟩) (Z (fun q=>x.length-q.1) (J (Z ⟨0,Ak _,fun j _ h=>by omega⟩ ?_) ?_)))
 .exact⟨Z5,Z3,Fh,W⟩
 intro⟨i,i1,i2⟩;refine J (fun h3=>?_) (fun h3=>?_)
 .have h3:(i:Int)<((x.map V).length:Int):=h3;have n3:=FY h3;refine Z (V x[i]) (J (Ht n3) (J rfl (J (fun h4=>?_) (fun h4=>?_))))
  .refine Z (V x[i]) (J (Ht n3) (J rfl (yN (yN (J (fun h5=>?_) (fun h5=>?_))))))
   .refine J aa4 (Z (V x[i]) (J (Ht n3) (J rfl (yN (yN (yN ?_))))));exact .of_eq (show AV.tup [.agg (V x[i]),I true]=Hi (AW x ⟨p,v⟩) by rw[gJ h1,Uy n3 i2 (Ax (Qw.2 ⟨h4,h5.1,h5.2.1,h5.2.2.1⟩))])
   refine J aa4 (J (by grind [Au]) (Z ⟨i+1,by omega,fun j hj F6=>(B9 j i).elim (i2 j hj) (fun z=>by have e:j=i:=Wk;subst e;exact At (fun h=>h5 ⟨(Qw.1 h).2.1,(Qw.1 h).2.2.1,(Qw.1 h).2.2.2,trivial⟩))⟩ ?_));exact⟨Dl x.length i Wk,Z5,Z3,Fh,W⟩
  refine J aa4 (J (by grind [Au]) (Z ⟨i+1,by omega,fun j hj F6=>(B9 j i).elim (i2 j hj) (fun z=>by grind [Qw])⟩ ?_));exact⟨Dl x.length i Wk,Z5,Z3,Fh,W⟩
 have h3:¬((i:Int)<((x.map V).length:Int)):=h3;have n3:=El h3;refine yN (yN ?_);exact .of_eq (show AV.tup [.agg ZM,I false]=Hi (AW x ⟨p,v⟩) by grind [gJ,Ru])
theorem yY(hx:∀r∈x,Eo r)(Mu:BF x)(hrl:roots.length<=1000000)(hs:s.length<=1000000):PC 240 [.agg (Ic x ifs),sl Ac roots,sl Ae s] (sl Ac (B3 x roots s)):=by
 have Ri:∀(p:CS) (v:Ver),PC 45 [GM x ifs,vs p,.agg (Ez v)] (Hi (AW x ⟨p,v⟩)):=fun p v=>x9 x ifs p v hx Mu;refine Ps Dc func240 rfl C4 ?_;have b1:A7 2 (roots.map Ac)/\([]:C0).length=0/\(([]:C0).length+(roots.map Ac).length)*40<=140737488355328/\([]:C0).length+(roots.map Ac).length<=9223372036854775807:=⟨(B8 (enc:=Ac) (n:=2) (fun _=>rfl) roots),aa0,aa2,aa2⟩;refine J b1 (Z {q:Nat×List Rq // q.1<=s.length/\q.2=B3 x roots (s.take q.1)} (Z (fun q=>⟨[(2,sl Ae s),(3,.ref 3 0),(7,.slice (.id 11 2) (q.1.2.map Ac)),(8,G q.1.1)],[(3,.cells (Ic x ifs)),(11,.tok 2 q.1.2.length)],Af⟩) (Z (fun q=>s.length-q.1.1) (J (Z ⟨(0,roots),Ak _,(LW x roots).symm⟩ ?_) ?_))))
 .exact⟨⟨X,X,⟨(show AV.slice (.id 11 2) ([]++roots.map Ac)=.slice (.id 11 2) (roots.map Ac) by simp_all),rfl⟩,X,W⟩,⟨X,⟨(show HO.tok 2 (([]:C0).length+(roots.map Ac).length)=.tok 2 roots.length by simp_all),rfl⟩,W⟩,Fh,W⟩
 intro⟨⟨i,A⟩,i1,i2⟩;have i2:A=B3 x roots (s.take i):=i2;have hA:A.length<=roots.length+16*i:=by
  grind [Pj]
 refine J (fun h2=>?_) (fun h2=>?_)
 .have h2:(i:Int)<((s.map Ae).length:Int):=h2;have n2:=FY h2;refine yN (Z (Ae s[i]) (J (Ht n2) (J rfl (Z (Ae s[i]) (J (Ht n2) (J rfl (yN (Ay (CU (AW x ⟨s[i].path,s[i].ver⟩)) (fun h3=>?_) (fun h3=>?_)))))))))
  .refine Al h3 (fun r h3=>?_);have gR:=Ri s[i].path s[i].ver;rw[h3]at gR;have Tu:=VG (x:=x) s[i];rw[show Hq x s[i]=r.reqs by grind [Hq,AW]]at Tu;refine U gR (yN (J aa4 ?_));have b4:A7 2 (r.reqs.map Ac)/\(A.map Ac).length=A.length/\((A.map Ac).length+(r.reqs.map Ac).length)*40<=140737488355328/\(A.map Ac).length+(r.reqs.map Ac).length<=9223372036854775807:=⟨(B8 (enc:=Ac) (n:=2) (fun _=>rfl) r.reqs),aa0,aa2,aa2⟩;refine J b4 (J (by grind [Au]) (Z ⟨(i+1,A++r.reqs),by omega,by show A++r.reqs=B3 x roots (s.take (i+1));grind [SL,Hq,AW]⟩ ?_));exact⟨by grind,⟨X,X,⟨(show AV.slice (.id 11 2) (A.map Ac++r.reqs.map Ac)=.slice (.id 11 2) ((A++r.reqs).map Ac) by simp),rfl⟩,X,W⟩,⟨X,⟨(show HO.tok 2 ((A.map Ac).length+(r.reqs.map Ac:C0).length)=.tok 2 (A++r.reqs).length by simp),rfl⟩,W⟩,Fh,W⟩
  have gR:=Ri s[i].path s[i].ver;rw[h3]at gR;refine U gR (yN (J aa4 ?_));have b6:A7 2 []/\(A.map Ac).length=A.length/\((A.map Ac).length+([]:C0).length)*40<=140737488355328/\(A.map Ac).length+([]:C0).length<=9223372036854775807:=⟨trivial,aa0,aa2,aa2⟩;refine J b6 (J (by grind [Au]) (Z ⟨(i+1,A++([]:List Rq)),by omega,by show A++([]:List Rq)=B3 x roots (s.take (i+1));rw[SL x roots s n2,<-i2,show Hq x s[i]=([]:List Rq) by grind [Hq,AW]]⟩ ?_));exact⟨by grind,⟨X,X,⟨(show AV.slice (.id 11 2) (A.map Ac++[])=.slice (.id 11 2) ((A++([]:List Rq)).map Ac) by simp),rfl⟩,X,W⟩,⟨X,⟨(show HO.tok 2 ((A.map Ac).length+([]:C0).length)=.tok 2 (A++([]:List Rq)).length by simp),rfl⟩,W⟩,Fh,W⟩
 have h2:¬((i:Int)<((s.map Ae).length:Int)):=h2;have n2:=El h2;exact E (sl Ac) (show A=B3 x roots s by grind)
theorem UK:BP s p=(AE s p).isSome:=by grind [BP,AE]
section
variable {s:List Sl}{q:Rq}{o:Option CS}
theorem bY(h:(AE s q.path).isSome=true):CH s o q=o:=by unfold CH;grind [UK]
theorem oV(h:(AE s q.path).isSome=false)(ho:o.isSome=false):CH s o q=some q.path:=by
 unfold CH;grind [UK]
theorem kQ(h:(AE s q.path).isSome=false)(ho:o.isSome=true)(hb:Ek q.path (o.getD R)=true):CH s o q=some q.path:=by
 unfold CH;grind [UK]
theorem kR(_:(AE s q.path).isSome=false)(ho:o.isSome=true)(hb:Ek q.path (o.getD R)=false):CH s o q=o:=by
 unfold CH;grind
end
abbrev Vn:AV:=.tup [vs ((DH N s).getD R),I (DH N s).isSome]
theorem x7(hx:∀r∈x,Eo r)(Mu:BF x)(hrl:roots.length<=1000000)(hs:s.length<=1000000):PC 159 [.agg (Ic x ifs),sl Ac roots,sl Ae s] (Vn (B3 x roots s) s):=by
 obtain⟨N,hN⟩:∃N,N=B3 x roots s:=⟨_,rfl⟩;have nt:=yY x ifs roots s hx Mu hrl hs;have hNl:=Pj x roots s;rw[<-hN]at nt hNl⊢;have c8:BF s:=Wk
 refine Ps Dc func159 rfl C4 (yN (C1 (U nt (Z {q:Nat×Option CS // q.1<=N.length/\q.2=CO s (N.take q.1) none} (Z (fun q=>⟨[(2,sl Ae s),(8,sl Ac N),(9,vs (q.1.2.getD R)),(10,I q.1.2.isSome),(11,G q.1.1)],[],Af⟩) (Z (fun q=>N.length-q.1.1) (J (Z ⟨(0,none),Ak _,rfl⟩ ?_) ?_)))))))
 .exact⟨Z5,W,Fh,W⟩
 intro⟨⟨i,o⟩,i1,i2⟩;refine Ay (Bt o.isSome) (fun h1=>?_) (fun h1=>?_)
 .refine KL (Aa (fun bb=>(⟨[(2,sl Ae s),(8,sl Ac N),(9,vs (o.getD R)),(10,I bb),(11,G i)],[],Af⟩:LS)) h1) (J (fun h2=>?_) (fun h2=>?_))
  .have n2:=FY h2;refine Z (Ac N[i]) (J (Ht n2) (J rfl (Ay (Bt (AE s N[i].path).isSome) (fun h3=>?_) (fun h3=>?_))))
   .have gS:=(show PC 241 [sl Ae s,vs N[i].path] (.tup [.agg (Ae ((AE s N[i].path).getD MA)),I (AE s N[i].path).isSome])from x8 s N[i].path c8);rw[show(AE s N[i].path).isSome=true from h3]at gS;refine C1 (U gS (yN (J (by grind [Au]) (Z ⟨(i+1,o),by omega,by grind [HX,bY]⟩ ?_))));exact⟨by grind,⟨X,X,X,⟨(show I true=I o.isSome by rw[h1]),rfl⟩,X,W⟩,W,Fh,W⟩
   have UO:=(show PC 241 [sl Ae s,vs N[i].path] (.tup [.agg (Ae ((AE s N[i].path).getD MA)),I (AE s N[i].path).isSome])from x8 s N[i].path c8);rw[show(AE s N[i].path).isSome=false from h3]at UO;refine C1 (U UO (yN (Z (Ac N[i]) (J (Ht n2) (J rfl (J (fun h7=>?_) (fun h7=>?_)))))))
   .have h7:Ek N[i].path (o.getD R)=true:=(DZ _ _).trans h7;refine Z (Ac N[i]) (J (Ht n2) (J rfl (J (by grind [Au]) (Z ⟨(i+1,(some N[i].path)),by omega,by grind [HX,kQ]⟩ ?_))));exact⟨by grind,Z5,W,Fh,W⟩
   have h7:Ek N[i].path (o.getD R)=false:=(DZ _ _).trans (BC.2 h7);refine J (by grind [Au]) (Z ⟨(i+1,o),by omega,by grind [HX,kR]⟩ ?_);exact⟨by grind,⟨X,X,X,⟨(show I true=I o.isSome by rw[h1]),rfl⟩,X,W⟩,W,Fh,W⟩
  have n2:=El h2;exact .of_eq (show AV.tup [vs (o.getD R),I true]=Vn N s by grind [DH])
 refine KL (Aa (fun bb=>(⟨[(2,sl Ae s),(8,sl Ac N),(9,vs (o.getD R)),(10,I bb),(11,G i)],[],Af⟩:LS)) h1) (J (fun F4=>?_) (fun F4=>?_))
 .have n11:=FY F4;refine Z (Ac N[i]) (J (Ht n11) (J rfl (Ay (Bt (AE s N[i].path).isSome) (fun GH=>?_) (fun GH=>?_))))
  .have Qn:=(show PC 241 [sl Ae s,vs N[i].path] (.tup [.agg (Ae ((AE s N[i].path).getD MA)),I (AE s N[i].path).isSome])from x8 s N[i].path c8);rw[show(AE s N[i].path).isSome=true from GH]at Qn;refine C1 (U Qn (yN (J (by grind [Au]) (Z ⟨(i+1,o),by omega,by grind [HX,bY]⟩ ?_))));exact⟨by grind,⟨X,X,X,⟨(show I false=I o.isSome by rw[h1]),rfl⟩,X,W⟩,W,Fh,W⟩
  have Aa3:=(show PC 241 [sl Ae s,vs N[i].path] (.tup [.agg (Ae ((AE s N[i].path).getD MA)),I (AE s N[i].path).isSome])from x8 s N[i].path c8);rw[show(AE s N[i].path).isSome=false from GH]at Aa3;refine C1 (U Aa3 (yN (Z (Ac N[i]) (J (Ht n11) (J rfl (J (by grind [Au]) (Z ⟨(i+1,(some N[i].path)),by omega,by grind [HX,oV]⟩ ?_)))))));exact⟨by grind,Z5,W,Fh,W⟩
 have n11:=El F4;exact .of_eq (show AV.tup [vs (o.getD R),I false]=Vn N s by grind [DH])
abbrev mU(v:WH):List Sl:=l++[Cr v.rel]
theorem UB:∀(vs:List WH) (l:List Sl),vs.foldl mU l=l++vs.map F1
 | [],l=>by simp
 |v::vs,l=>by rw[FJ,UB vs];simp
abbrev DD(A:List Sl)(n:Nat):Prop:=DI x roots s mU [] A (B3 x roots A) n A
def Eu:List Sl×Int:=
 if Aw x≠0\/AK roots≠0\/Be s=false then([],1)else if(visits x roots s).2 then((visits x roots s).1.map F1,0)else([],6)
abbrev jD:AV:=.tup [sl Ae (Eu x roots s).1,G (Eu x roots s).2]
section
variable {x:List Rl}{roots:List Rq}{s A:List Sl}{m:Nat}
theorem DD.start(hq:∀q∈roots,BF q.set):DD x roots s [] (s.length+1):=by
 grind [LW,DI.start]
theorem DD.next{p:CS}{y:Sl}{r:Rl}(h:DD x roots s A (m+1))(hp:DH (B3 x roots A) A=some p)(hf:AE s p=some y)(hr:AW x y=some r)(hx:∀r∈x,Eo r):DD x roots s (A++[y]) m:=by
 have h1:=DI.next h hp hf hr ((Fi (Ce hr).1).2 r (Ce hr).2.1) (fun q hq=>((hx r (Ce hr).2.1).2 q hq).1)
 have e:Hq x y=r.reqs:=by grind [Hq]
 rw[<-e,<-Pi]at h1;have e2:mU A ⟨A,B3 x roots A,r⟩=A++[y]:=by show A++[Cr r]=_;rw[(Ce hr).2.2]
 simp_all
theorem mQ(h:DD x roots s A (m+1))(hc:¬(Aw x≠0\/AK roots≠0\/Be s=false))(hp:DH (B3 x roots A) A=none):Eu x roots s=(A,0):=by
 obtain⟨h1,h2⟩:=DI.stop h hp<;>grind [UB,Eu]
theorem Yt(hc:¬(Aw x≠0\/AK roots≠0\/Be s=false))(hb:(visits x roots s).2=b)(e:b=false):Eu x roots s=([],6):=by
 grind [Eu]
theorem PT{e:Int}(h:Eu x roots s=([],e)):CD (.tup [BY,G e]) (jD x roots s):=
 (show CD (.tup [BY,G e]) (.tup [.slice .none [],G e])from CD.tup ⟨.nil,.refl _,trivial⟩).trans (.of_eq (show AV.tup [.slice .none [],G e]=jD x roots s by simp_all))
theorem Tp(h:(decide (Aw x=0)&&decide (AK roots=0))=true)(hi:Be s=true):¬(Aw x≠0\/AK roots≠0\/Be s=false):=by
 simp_all
end
theorem aT{s:List Sl}{p:CS}(h:(AE s p).isSome=true):AE s p=some ((AE s p).getD MA):=by
 cases e:AE s p<;>simp_all
theorem c44(hx:∀r∈x,Eo r)(Mu:BF x)(hr:∀q∈roots,G5 q)(hrl:roots.length<=1000000)(hs:s.length<=100000):PC 170 [.agg (Ic x ifs),sl Ac roots,sl Ae s] (jD x roots s):=by
 have Ri:∀(p:CS) (v:Ver),PC 45 [GM x ifs,vs p,.agg (Ez v)] (Hi (AW x ⟨p,v⟩)):=fun p v=>x9 x ifs p v hx Mu;have c8:BF s:=Wk
 have Tu:∀q∈roots,BF q.set:=fun q hq=>(hr q hq).1;refine Ps (pC [] [2,3,5,8,9,11]) func170 rfl C4 (yN (Ay (Bt (decide (Aw x=0)&&decide (AK roots=0))) (fun h1=>?_) (fun h1=>?_)))
 .have SB:=(c37 x ifs roots hx hr);rw[show(decide (Aw x=0)&&decide (AK roots=0))=true from h1]at SB;refine C1 (U SB (Ay (Bt (Be s)) (fun h3=>?_) (fun h3=>?_)))
  .have gS:=(x6 s c8);rw[show Be s=true from h3]at gS;refine C1 (U gS (cU [(1,sl Ac roots),(2,sl Ae s),(3,.ref 3 0)] [(3,.cells (Ic x ifs))] Z3 Z1 (Z {q:List Sl×Nat // DD x roots s q.1 q.2} (Z (fun q=>⟨[(1,sl Ac roots),(2,sl Ae s),(3,.ref 3 0),(8,.slice (.id 24 4) (q.1.1.map Ae))],[(3,.cells (Ic x ifs)),(24,.tok 4 q.1.1.length)],Af⟩) (Z (fun q=>q.1.2) (J (Z ⟨([],s.length+1),DD.start Tu⟩ ?_) ?_))))))
   .exact⟨Z4,Z2,Fh,W⟩
   intro⟨⟨A,n⟩,dd⟩;have dd:DD x roots s A n:=dd;obtain⟨m,rfl⟩:=dd.pos;have hAl:=dd.lt;refine yN (Ay (Bt (DH (B3 x roots A) A).isSome) (fun h5=>?_) (fun h5=>?_))
   .have h5:(DH (B3 x roots A) A).isSome=true:=h5;refine Al (G6.1 h5) (fun p hp=>?_);have hpd:p=((DH (B3 x roots A) A).getD R):=aa0
    have UO:=(show PC 159 [GM x ifs,sl Ac roots,sl Ae A] (.tup [vs ((DH (B3 x roots A) A).getD R),I (DH (B3 x roots A) A).isSome])from x7 x ifs roots A hx Mu hrl Wk);rw[show(DH (B3 x roots A) A).isSome=true from h5]at UO;refine C1 (U UO (cU [(1,sl Ac roots),(2,sl Ae s),(3,.ref 3 0),(8,.slice (.id 24 4) (A.map Ae)),(9,vs ((DH (B3 x roots A) A).getD R)),(10,I true)] [(3,.cells (Ic x ifs)),(24,.tok 4 A.length)] Z6 Z2 (Ay (Bt (AE s p).isSome) (fun h7=>?_) (fun h7=>?_))))
    .have h7:(AE s p).isSome=true:=h7;have hc8:=(show PC 241 [sl Ae s,vs ((DH (B3 x roots A) A).getD R)] (.tup [.agg (Ae ((AE s p).getD MA)),I (AE s p).isSome])from hpd▸x8 s p c8);rw[show(AE s p).isSome=true from h7]at hc8;refine C1 (U hc8 (yN (cU [(1,sl Ac roots),(2,sl Ae s),(3,.ref 3 0),(8,.slice (.id 24 4) (A.map Ae)),(11,.ref 11 0),(12,I true)] [(3,.cells (Ic x ifs)),(11,.cells (Ae ((AE s p).getD MA))),(24,.tok 4 A.length)] Z6 Z3 (yN (yN (Ay (CU (AW x ⟨((AE s p).getD MA).path,((AE s p).getD MA).ver⟩)) (fun h9=>?_) (fun h9=>?_)))))))
     .refine Al h9 (fun r h9=>?_);have ux:=Ri ((AE s p).getD MA).path ((AE s p).getD MA).ver;rw[h9]at ux;refine C1 (U ux (yN (cU [(1,sl Ac roots),(2,sl Ae s),(3,.ref 3 0),(8,.slice (.id 24 4) (A.map Ae)),(11,.ref 11 0),(12,I true),(14,I true)] [(3,.cells (Ic x ifs)),(11,.cells (Ae ((AE s p).getD MA))),(24,.tok 4 A.length)] Z7 Z3 (cU [(1,sl Ac roots),(2,sl Ae s),(3,.ref 3 0),(8,.slice (.id 24 4) (A.map Ae)),(11,.ref 11 0)] [(3,.cells (Ic x ifs)),(11,.cells (Ae ((AE s p).getD MA))),(24,.tok 4 A.length)] Z5 Z3 (yN ?_)))));have Wa:A7 4 [(Ae ((AE s p).getD MA))]/\(A.map Ae).length=A.length/\((A.map Ae).length+([(Ae ((AE s p).getD MA))]:C0).length)*40<=140737488355328/\(A.map Ae).length+([(Ae ((AE s p).getD MA))]:C0).length<=9223372036854775807:=⟨⟨rfl,trivial⟩,aa1,aa2,aa2⟩;refine J Wa (Z ⟨(A++[((AE s p).getD MA)],m),dd.next hp (aT h7) h9 hx⟩ ?_)
      exact⟨by grind,⟨X,X,X,⟨(show AV.slice (.id 24 4) (A.map Ae++[Ae ((AE s p).getD MA)])=.slice (.id 24 4) ((A++[((AE s p).getD MA)]).map Ae) by simp),rfl⟩,W⟩,⟨X,⟨(show HO.tok 4 ((A.map Ae).length+([Ae ((AE s p).getD MA)]:C0).length)=.tok 4 (A++[((AE s p).getD MA)]).length by simp),rfl⟩,W⟩,Fh,W⟩
     have ux:=Ri ((AE s p).getD MA).path ((AE s p).getD MA).ver;rw[h9]at ux;refine C1 (U ux (yN (cU [(1,sl Ac roots),(2,sl Ae s),(3,.ref 3 0),(8,.slice (.id 24 4) (A.map Ae)),(11,.ref 11 0),(12,I true),(14,I false)] [(3,.cells (Ic x ifs)),(11,.cells (Ae ((AE s p).getD MA))),(24,.tok 4 A.length)] Z7 Z3 ?_)))
     exact PT (Yt (Tp h1 h3) (dd.gone hp (aT h7) h9).1 rfl)
    have h7:(AE s p).isSome=false:=h7;have Qn:=(show PC 241 [sl Ae s,vs ((DH (B3 x roots A) A).getD R)] (.tup [.agg (Ae ((AE s p).getD MA)),I (AE s p).isSome])from hpd▸x8 s p c8);rw[show(AE s p).isSome=false from h7]at Qn;refine C1 (U Qn (yN (cU [(1,sl Ac roots),(2,sl Ae s),(3,.ref 3 0),(8,.slice (.id 24 4) (A.map Ae)),(11,.ref 11 0),(12,I false)] [(3,.cells (Ic x ifs)),(11,.cells (Ae ((AE s p).getD MA))),(24,.tok 4 A.length)] Z6 Z3 (yN (yN (Ay (CU (AW x ⟨((AE s p).getD MA).path,((AE s p).getD MA).ver⟩)) (fun LA=>?_) (fun LA=>?_)))))))
    .refine Al LA (fun r LA=>?_);have aU:=Ri ((AE s p).getD MA).path ((AE s p).getD MA).ver;rw[LA]at aU;refine C1 (U aU (yN (cU [(1,sl Ac roots),(2,sl Ae s),(3,.ref 3 0),(8,.slice (.id 24 4) (A.map Ae)),(11,.ref 11 0),(12,I false),(14,I true)] [(3,.cells (Ic x ifs)),(11,.cells (Ae ((AE s p).getD MA))),(24,.tok 4 A.length)] Z7 Z3 ?_)))
     exact PT (Yt (Tp h1 h3) (dd.lost hp (by simpa using h7)).1 rfl)
    have aU:=Ri ((AE s p).getD MA).path ((AE s p).getD MA).ver;rw[LA]at aU;refine C1 (U aU (yN (cU [(1,sl Ac roots),(2,sl Ae s),(3,.ref 3 0),(8,.slice (.id 24 4) (A.map Ae)),(11,.ref 11 0),(12,I false),(14,I false)] [(3,.cells (Ic x ifs)),(11,.cells (Ae ((AE s p).getD MA))),(24,.tok 4 A.length)] Z7 Z3 ?_)))
    exact PT (Yt (Tp h1 h3) (dd.lost hp (by simpa using h7)).1 rfl)
   have h5:(DH (B3 x roots A) A).isSome=false:=h5;have nD:=(show PC 159 [GM x ifs,sl Ac roots,sl Ae A] (.tup [vs ((DH (B3 x roots A) A).getD R),I (DH (B3 x roots A) A).isSome])from x7 x ifs roots A hx Mu hrl Wk);rw[show(DH (B3 x roots A) A).isSome=false from h5]at nD;refine C1 (U nD (cU [(1,sl Ac roots),(2,sl Ae s),(3,.ref 3 0),(8,.slice (.id 24 4) (A.map Ae)),(9,vs ((DH (B3 x roots A) A).getD R)),(10,I false)] [(3,.cells (Ic x ifs)),(24,.tok 4 A.length)] Z6 Z2 ?_))
   exact .of_eq (show AV.tup [sl Ae A,G 0]=jD x roots s by unfold jD;rw[mQ dd (Tp h1 h3) aa0])
  have h3:(Be s)=false:=h3;have aV:=(x6 s c8);rw[show Be s=false from h3]at aV;refine C1 (U aV (cU [] [] W W ?_))
  exact PT (by grind [Eu])
 have h1:(decide (Aw x=0)&&decide (AK roots=0))=false:=h1;have nE:=(c37 x ifs roots hx hr);rw[show(decide (Aw x=0)&&decide (AK roots=0))=false from h1]at nE;refine C1 (U nE (cU [] [] W W ?_))
 exact PT (by grind [Eu])
theorem rv{x:List Rl}{roots:List Rq}{s:List Sl}:(Eu x roots s).1.length<=s.length:=by
 unfold Eu;split
 .simp
 .split
  .rename_i h
   have:=CC (m:=s.map (·.path)) (IS h).nodup fun p hp=>by
    obtain⟨y,hy,e⟩:=Ar.1 hp;rw[GK]at hy;obtain⟨v,hv,rfl⟩:=Ar.1 hy;exact Ar.2 ⟨F1 v,((IS h).mem v hv).1,e⟩
   simp_all
  .simp
abbrev DR(n:Int):List AV:=[G n]
def Hl:Bool:=match AW x y with | some r=>!r.yanked | none=>false
def HS:Bool:=N.any fun q=>decide (q.path=p)&&!has q.set pl
def Gq:Ver:=match Dt x p pl with | some r=>r.ver | none=>⟨0,0,0⟩
def JC(o:Rl):Bool:=decide (o.path=p)&&!o.yanked&&decide (plc o.ver<pl)&&!HS N p (plc o.ver)
def Dm:List Int:=(x.filter (JC N p pl)).map fun o=>plc o.ver
theorem ma{l:List α}(h:∀j (hj:j<l.length),f l[j]=true):l.all f=true:=by
 grind [List.getElem_of_mem]
theorem gp{l:List α}(hj:j<l.length)(h:f l[j]=false):l.all f=false:=by
 grind
theorem ZY{l:List α}(h:∀j (hj:j<l.length),f l[j]=false):l.any f=false:=by
 grind [List.getElem_of_mem]
theorem gq{l:List α}(hj:j<l.length)(h:f l[j]=true):l.any f=true:=Bs.2 ⟨_,Ag hj,h⟩
theorem Kg{x:List Rl}{N:List Rq}{p:CS}{pl:Int}(h:i<x.length):Dm (x.take (i+1)) N p pl=Dm (x.take i) N p pl++(if JC N p pl x[i]then [plc x[i].ver]else []):=by
 grind [Dm,List.take_add_one]
theorem XN:(Dm x N p pl).length<=x.length:=by
 grind [Dm]
section
variable {N:List Rq}{p:CS}{pl:Int}{o:Rl}
theorem tL(h:¬o.path=p):JC N p pl o=false:=by grind [JC]
theorem tM(h:o.yanked=true):JC N p pl o=false:=by grind [JC]
theorem AbW(h:¬plc o.ver<pl):JC N p pl o=false:=by grind [JC]
theorem tK(h:HS N p (plc o.ver)=true):JC N p pl o=false:=by grind [JC]
theorem xL(h1:o.path=p)(h2:o.yanked=false)(h3:plc o.ver<pl)(h4:HS N p (plc o.ver)=false):JC N p pl o=true:=by
 grind [JC]
end
theorem L4(h:Bv v=true):place v=plc v:=by grind [plc]
theorem c49(hx:∀r∈x,Eo r)(Mu:BF x)(hs:s.length<=1000000):PC 95 [.agg (Ic x ifs),sl Ae s] (I (s.all (Hl x))):=by
 have Ri:∀(p:CS) (v:Ver),PC 45 [GM x ifs,vs p,.agg (Ez v)] (Hi (AW x ⟨p,v⟩)):=fun p v=>x9 x ifs p v hx Mu;refine Ps Dc func95 rfl C4 (Z {i:Nat // i<=s.length/\∀j (h:j<s.length),j<i->Hl x s[j]=true} (Z (fun q=>⟨[(1,sl Ae s),(2,.ref 2 0),(5,G q.1)],[(2,.cells (Ic x ifs))],Af⟩) (Z (fun q=>s.length-q.1) (J (Z ⟨0,Ak _,fun j _ h=>by omega⟩ ?_) ?_))))
 .exact⟨Z3,Z1,Fh,W⟩
 intro⟨i,i1,i2⟩;refine J (fun h1=>?_) (fun h1=>?_)
 .have h1:(i:Int)<((s.map Ae).length:Int):=h1;have n1:=FY h1;refine yN (Z (Ae s[i]) (J (Ht n1) (J rfl (Z (Ae s[i]) (J (Ht n1) (J rfl (yN (Ay (CU (AW x ⟨s[i].path,s[i].ver⟩)) (fun h2=>?_) (fun h2=>?_)))))))))
  .refine Al h2 (fun r h2=>?_);have SB:=Ri s[i].path s[i].ver;rw[h2]at SB;refine U SB (yN (J aa4 (J (fun h3=>?_) (fun h3=>?_))))
   .exact E I (show false=s.all (Hl x)from(gp n1 (by grind [Hl,AW])).symm)
   have h3:r.yanked=false:=h3;refine J (by grind [Au]) (Z ⟨i+1,by omega,fun j hj F6=>(B9 j i).elim (i2 j hj) (fun z=>by have e:i=j:=Wk;subst e;grind [Hl,AW])⟩ ?_);exact⟨by grind,Z3,Z1,Fh,W⟩
  have SB:=Ri s[i].path s[i].ver;rw[h2]at SB;refine U SB (yN (J aa4 ?_));exact E I (show false=s.all (Hl x)from(gp n1 (by grind [Hl,AW])).symm)
 have h1:¬((i:Int)<((s.map Ae).length:Int)):=h1;have n1:=El h1;exact E I (show true=s.all (Hl x)from(ma fun j hj=>i2 j hj Wk).symm)
theorem vJ(hx:∀r∈x,Eo r)(Mu:BF x)(Tu:∀q∈roots,BF q.set)(hrl:roots.length<=1000000)(hs:s.length<=1000000):PC 161 [.agg (Ic x ifs),sl Ac roots,sl Ae s,vs p,G pl] (I (HS (B3 x roots s) p pl)):=by
 obtain⟨N,hN⟩:∃N,N=B3 x roots s:=⟨_,rfl⟩;have nt:=yY x ifs roots s hx Mu hrl hs;have hNl:=Pj x roots s;have hNf:=fA hx Tu s;rw[<-hN]at nt hNl hNf⊢;refine Ps Dc func161 rfl C4 (yN (C1 (U nt (Z {i:Nat // i<=N.length/\∀j (h:j<N.length),j<i->(decide (N[j].path=p)&&!has N[j].set pl)=false} (Z (fun q=>⟨[(3,vs p),(4,G pl),(11,sl Ac N),(12,G q.1)],[],Af⟩) (Z (fun q=>N.length-q.1) (J (Z ⟨0,Ak _,fun j _ h=>by omega⟩ ?_) ?_)))))))
 .exact⟨Z4,W,Fh,W⟩
 intro⟨i,i1,i2⟩;refine J (fun h1=>?_) (fun h1=>?_)
 .have h1:(i:Int)<((N.map Ac).length:Int):=h1;have n1:=FY h1;refine Z (Ac N[i]) (J (Ht n1) (J rfl (J (fun h2=>?_) (fun h2=>?_))))
  .refine Z (Ac N[i]) (J (Ht n1) (J rfl (Ay (Bt (has N[i].set pl)) (fun h3=>?_) (fun h3=>?_))))
   .refine C1 (U (cb h3 (ah N[i].set pl (hNf _ (Ag n1)))) (J (by grind [Au]) (Z ⟨i+1,by omega,fun j hj F6=>(B9 j i).elim (i2 j hj) (fun z=>by grind)⟩ ?_)));exact⟨by grind,Z4,W,Fh,W⟩
   refine C1 (U (cb h3 (ah N[i].set pl (hNf _ (Ag n1)))) ?_);exact E I (show true=HS N p pl from Eq.symm (show N.any (fun q=>decide (q.path=p)&&!has q.set pl)=true from gq n1 aa0))
  refine J (by grind [Au]) (Z ⟨i+1,by omega,fun j hj F6=>(B9 j i).elim (i2 j hj) (fun z=>by grind)⟩ ?_);exact⟨by grind,Z4,W,Fh,W⟩
 have h1:¬((i:Int)<((N.map Ac).length:Int)):=h1;have n1:=El h1;exact E I (show false=HS N p pl from(ZY fun j hj=>i2 j hj Wk).symm)
theorem c97(Mu:BF x)(hv:∀r∈x,Bv r.ver=true)(hs:s.length<=1000000):PC 173 [.agg (Ic x ifs),sl Ae s,vs p,G pl] (sl Ae (s++[(⟨p,Gq x p pl⟩:Sl)])):=by
 refine Ps Dc func173 rfl C4 (yN (Ay (CU (Dt x p pl)) (fun h1=>?_) (fun h1=>?_)))
 .refine Al h1 (fun r h1=>?_);have uw:=c70 x ifs p pl Mu hv;rw[h1]at uw;refine C1 (U uw (yN ?_));have b2:A7 4 (s.map Ae)/\([]:C0).length=0/\(([]:C0).length+(s.map Ae).length)*40<=140737488355328/\([]:C0).length+(s.map Ae).length<=9223372036854775807:=⟨(B8 (enc:=Ae) (n:=4) (fun _=>rfl) s),aa0,aa2,aa2⟩;refine J b2 (yN ?_);have b3:A7 4 [[vs p,G r.ver.a,G r.ver.b,G r.ver.c]]/\(([]++(s.map Ae)):C0).length=(([]:C0).length+(s.map Ae).length)/\((([]++(s.map Ae)):C0).length+([[vs p,G r.ver.a,G r.ver.b,G r.ver.c]]:C0).length)*40<=140737488355328/\(([]++(s.map Ae)):C0).length+([[vs p,G r.ver.a,G r.ver.b,G r.ver.c]]:C0).length<=9223372036854775807:=⟨⟨rfl,trivial⟩,aa0,aa2,aa2⟩;refine J b3 (J aa4 ?_);exact .of_eq (show AV.slice .none ([]++s.map Ae++[Ae (⟨p,r.ver⟩:Sl)])=.slice .none ((s++[(⟨p,Gq x p pl⟩:Sl)]).map Ae) by grind [Gq])
 have uw:=c70 x ifs p pl Mu hv;rw[h1]at uw;refine C1 (U uw (yN ?_));have b5:A7 4 (s.map Ae)/\([]:C0).length=0/\(([]:C0).length+(s.map Ae).length)*40<=140737488355328/\([]:C0).length+(s.map Ae).length<=9223372036854775807:=⟨(B8 (enc:=Ae) (n:=4) (fun _=>rfl) s),aa0,aa2,aa2⟩;refine J b5 (yN ?_);have b6:A7 4 [[vs p,G 0,G 0,G 0]]/\(([]++(s.map Ae)):C0).length=(([]:C0).length+(s.map Ae).length)/\((([]++(s.map Ae)):C0).length+([[vs p,G 0,G 0,G 0]]:C0).length)*40<=140737488355328/\(([]++(s.map Ae)):C0).length+([[vs p,G 0,G 0,G 0]]:C0).length<=9223372036854775807:=⟨⟨rfl,trivial⟩,aa0,aa2,aa2⟩;refine J b6 (J aa4 ?_);exact .of_eq (show AV.slice .none ([]++s.map Ae++[Ae (⟨p,⟨0,0,0⟩⟩:Sl)])=.slice .none ((s++[(⟨p,Gq x p pl⟩:Sl)]).map Ae) by grind [Gq])
theorem c94(hx:∀r∈x,Eo r)(Mu:BF x)(Tu:∀q∈roots,BF q.set)(hrl:roots.length<=1000000)(hs:s.length<=1000000)(hv:∀r∈x,Bv r.ver=true):PC 171 [.agg (Ic x ifs),sl Ac roots,sl Ae s,vs p,G pl] (sl DR (Dm x (B3 x roots s) p pl)):=by
 have wq:∀k:Int,PC 161 [GM x ifs,sl Ac roots,sl Ae s,vs p,G k] (I (HS (B3 x roots s) p k)):=fun k=>vJ x ifs roots s p k hx Mu Tu hrl hs;obtain⟨N,hN⟩:∃N,N=B3 x roots s:=⟨_,rfl⟩;rw[<-hN]at wq⊢;refine Ps Dc func171 rfl C4 (Z {i:Nat // i<=x.length} (Z (fun q=>⟨[(1,sl Ac roots),(2,sl Ae s),(3,vs p),(4,G pl),(5,.ref 5 0),(11,.slice (.id 15 1) ((Dm (x.take q.1) N p pl).map DR)),(12,G q.1)],[(5,.cells (Ic x ifs)),(15,.tok 1 (Dm (x.take q.1) N p pl).length)],Af⟩) (Z (fun q=>x.length-q.1) (J (Z ⟨0,Ak _⟩ ?_) ?_))))
 .exact⟨Z7,Z2,Fh,W⟩
 intro⟨i,i1⟩;have Xk:=XN (x.take i) N p pl;rw[BX]at Xk;refine J (fun h1=>?_) (fun h1=>?_)
 .have h1:(i:Int)<((x.map V).length:Int):=h1;have n1:=FY h1;refine Z (V x[i]) (J (Ht n1) (J rfl (yN (yN (yN (C1 (U (show PC 162 [.agg (Ez x[i].ver)] (G (plc x[i].ver))from L4 (hv _ (Ag n1))▸qu x[i].ver (hv _ (Ag n1))) (J (fun h2=>?_) (fun h2=>?_)))))))))
  .have h2:(x[i].path:CS)=p:=h2;refine J (fun h3=>?_) (fun h3=>?_)
   .have h3:x[i].yanked=true:=h3;refine J (by grind [Au]) ?_;have es:Dm (x.take (i+1)) N p pl=Dm (x.take i) N p pl:=by grind [Kg,tM]
    refine Z ⟨i+1,by omega⟩ ?_;exact⟨by grind,⟨X,X,X,X,X,⟨(show AV.slice (.id 15 1) ((Dm (x.take i) N p pl).map DR)=.slice (.id 15 1) ((Dm (x.take (i+1)) N p pl).map DR) by rw[es]),rfl⟩,X,W⟩,⟨X,⟨(show HO.tok 1 (Dm (x.take i) N p pl).length=.tok 1 (Dm (x.take (i+1)) N p pl).length by rw[es]),rfl⟩,W⟩,Fh,W⟩
   have h3:x[i].yanked=false:=h3;refine J (fun h5=>?_) (fun h5=>?_)
   .have h5:(plc x[i].ver:Int)<(pl:Int):=h5;refine yN (Ay (Bt (HS N p (plc x[i].ver))) (fun h6=>?_) (fun h6=>?_))
    .have h6:(HS N p (plc x[i].ver))=true:=h6;refine C1 (U (cb h6 (wq (plc x[i].ver))) (J (by grind [Au]) ?_));have es:Dm (x.take (i+1)) N p pl=Dm (x.take i) N p pl:=by grind [Kg,tK]
     refine Z ⟨i+1,by omega⟩ ?_;exact⟨by grind,⟨X,X,X,X,X,⟨(show AV.slice (.id 15 1) ((Dm (x.take i) N p pl).map DR)=.slice (.id 15 1) ((Dm (x.take (i+1)) N p pl).map DR) by rw[es]),rfl⟩,X,W⟩,⟨X,⟨(show HO.tok 1 (Dm (x.take i) N p pl).length=.tok 1 (Dm (x.take (i+1)) N p pl).length by rw[es]),rfl⟩,W⟩,Fh,W⟩
    have h6:(HS N p (plc x[i].ver))=false:=h6;refine C1 (U (cb h6 (wq (plc x[i].ver))) (J (Yh rfl (show(Dm (x.take i) N p pl).length<=2147483647 by omega) aa3) (J (by grind [Au]) ?_)));have es:Dm (x.take (i+1)) N p pl=Dm (x.take i) N p pl++[plc x[i].ver]:=by grind [Kg,xL]
    refine Z ⟨i+1,by omega⟩ ?_;exact⟨by grind,⟨X,X,X,X,X,⟨(show AV.slice (.id 15 1) ((Dm (x.take i) N p pl).map DR++[[G (plc x[i].ver)]])=.slice (.id 15 1) ((Dm (x.take (i+1)) N p pl).map DR) by simp_all),rfl⟩,X,W⟩,⟨X,⟨(show HO.tok 1 (((Dm (x.take i) N p pl).map DR).length+([[G (plc x[i].ver)]]:C0).length)=.tok 1 (Dm (x.take (i+1)) N p pl).length by simp_all),rfl⟩,W⟩,Fh,W⟩
   have h5:¬((plc x[i].ver:Int)<(pl:Int)):=h5;refine J (by grind [Au]) ?_;have es:Dm (x.take (i+1)) N p pl=Dm (x.take i) N p pl:=by grind [Kg,AbW]
   refine Z ⟨i+1,by omega⟩ ?_;exact⟨by grind,⟨X,X,X,X,X,⟨(show AV.slice (.id 15 1) ((Dm (x.take i) N p pl).map DR)=.slice (.id 15 1) ((Dm (x.take (i+1)) N p pl).map DR) by rw[es]),rfl⟩,X,W⟩,⟨X,⟨(show HO.tok 1 (Dm (x.take i) N p pl).length=.tok 1 (Dm (x.take (i+1)) N p pl).length by rw[es]),rfl⟩,W⟩,Fh,W⟩
  have h2:¬(x[i].path:CS)=p:=h2;refine J (by grind [Au]) ?_;have es:Dm (x.take (i+1)) N p pl=Dm (x.take i) N p pl:=by grind [Kg,tL]
  refine Z ⟨i+1,by omega⟩ ?_;exact⟨by grind,⟨X,X,X,X,X,⟨(show AV.slice (.id 15 1) ((Dm (x.take i) N p pl).map DR)=.slice (.id 15 1) ((Dm (x.take (i+1)) N p pl).map DR) by rw[es]),rfl⟩,X,W⟩,⟨X,⟨(show HO.tok 1 (Dm (x.take i) N p pl).length=.tok 1 (Dm (x.take (i+1)) N p pl).length by rw[es]),rfl⟩,W⟩,Fh,W⟩
 have h1:¬((i:Int)<((x.map V).length:Int)):=h1;have n1:=El h1;exact .of_eq (show sl DR (Dm (x.take i) N p pl)=sl DR (Dm x N p pl) by grind)
def IN:Bool:=decide (q.path=r.path)&&has q.set (plc r.ver)
def Gy:Bool:=m.any fun q=>IN q r
theorem Abk{q:Rq}{r:Rl}(h:¬q.path=r.path):IN q r=false:=by grind [IN]
theorem u9{q:Rq}{r:Rl}(h:q.path=r.path)(hb:has q.set (plc r.ver)=b):IN q r=b:=by grind [IN]
theorem za(hq:BF q.set)(hv:Bv r.ver=true):PC 311 [.agg (Ac q),.agg (V r)] (I (IN q r)):=by
 refine Ps Dc func311 rfl C4 (J (fun h1=>?_) (fun h1=>?_))
 .refine yN (U (show PC 162 [.agg (Ez r.ver)] (G (plc r.ver))from L4 hv▸qu r.ver hv) (Ay (Bt (has q.set (plc r.ver))) (fun h2=>?_) (fun h2=>?_)))
  .have gR:=ah q.set (plc r.ver) hq;rw[show(has q.set (plc r.ver))=true from h2]at gR;refine U gR (J aa4 ?_);exact E I (u9 h1 h2).symm
  have SC:=ah q.set (plc r.ver) hq;rw[show(has q.set (plc r.ver))=false from h2]at SC;refine U SC (J aa4 ?_);exact E I (u9 h1 h2).symm
 refine J aa4 ?_;exact E I (Abk h1).symm
theorem ju(hml:m.length<=1000000)(hq:∀q∈m,BF q.set)(hv:Bv r.ver=true):PC 249 [sl Ac m,.agg (V r)] (I (Gy m r)):=by
 refine Ps (pC [] [3,5]) func249 rfl C4 (Z {i:Nat // i<=m.length/\∀j (h:j<m.length),j<i->IN m[j] r=false} (Z (fun q=>⟨[(0,sl Ac m),(3,.ref 3 0),(5,G q.1)],[(3,.cells (V r))],Af⟩) (Z (fun q=>m.length-q.1) (J (Z ⟨0,Ak _,fun j _ h=>by omega⟩ ?_) ?_))))
 .exact⟨Z3,Z1,Fh,W⟩
 intro⟨i,i1,i2⟩;refine J (fun h1=>?_) (fun h1=>?_)
 .have n1:i<m.length:=aa0
  have g1:m[i]?=some m[i]:=Ge n1;refine Z (Ac m[i]) (J (J (Nn i) (Br g1)) (J rfl (yN (yN (Ay (Bt (IN m[i] r)) (fun h2=>?_) (fun h2=>?_))))))
  .have gR:=za m[i] r (hq _ (Ag n1)) hv;rw[show(IN m[i] r)=true from h2]at gR;refine U gR (J aa4 (cU [] [] W W ?_))
   exact E I (show true=Gy m r from Eq.symm (show m.any (fun q=>IN q r)=true from gq n1 h2))
  have SC:=za m[i] r (hq _ (Ag n1)) hv;rw[show(IN m[i] r)=false from h2]at SC;refine U SC (J aa4 (cU [(0,sl Ac m),(3,.ref 3 0),(5,G i)] [(3,.cells (V r))] Z3 Z1 (J (by grind [Au]) (Z ⟨i+1,by omega,fun j hj F6=>(B9 j i).elim (i2 j hj) (fun z=>by grind)⟩ ?_))));exact⟨by grind,Z3,Z1,Fh,W⟩
 have n1:¬i<m.length:=aa0
 exact E I (show false=Gy m r from(ZY fun j hj=>i2 j hj Wk).symm)
abbrev Dq(b:Bool):List AV:=[I b]
def Wx(Cl:List CS)(p:CS):Bool:=Cl.any fun q=>decide (q=p)
def Zk(B:List Bool):Nat:=(B.filter fun b=>!b).length
theorem ce:∀{B:List Bool} {i:Nat} (h:i<B.length),B[i]=false->Zk (B.set i true)<Zk B
 |b::B,0,_,hb=>by
  grind [Zk]
 |b::B,i+1,h,hb=>by
  have:=ce (B:=B) (i:=i) aa2 hb
  grind [Zk]
def Iu(l:List Rl)(roots:List Rq)(B:List Bool)(i:Rl)(k:Nat):Bool:=Gy roots i||(List.range k).any fun k=>B.getD k false&&Gy ((l[k]?.map (·.reqs)).getD []) i
theorem Vu(l:List Rl)(roots:List Rq)(B:List Bool)(i:Rl):Iu l roots B i 0=Gy roots i:=by grind [Iu]
theorem G1{l:List Rl}{roots:List Rq}{B:List Bool}{i:Rl}(h:k<l.length)(hB:k<B.length):Iu l roots B i (k+1)=(Iu l roots B i k||(B[k]&&Gy l[k].reqs i)):=by
 grind [Iu,List.range_succ]
structure l5(l:List Rl)(Cl:List CS)(B:List Bool):Prop where
 len:B.length=l.length
 snd:∀k (h:k<l.length),B[k]?=some true->l[k].path∈Cl
structure x5(l:List Rl)(roots:List Rq)(Cl:List CS):Prop where
 root:∀q∈roots,q.path∈Cl
 req:∀r∈l,r.path∈Cl->∀q∈r.reqs,q.path∈Cl
section
variable {l:List Rl}{roots:List Rq}{Cl:List CS}{B:List Bool}
theorem ji{m:List Rq}{r:Rl}(h:Gy m r=true):∃q∈m,q.path=r.path:=by
 obtain⟨q,hq,e⟩:=Bs.1 h<;>grind [IN]
theorem l5.part(h:l5 l Cl B)(hc:x5 l roots Cl){i:Rl}(hk:k<=l.length)(hr:Iu l roots B i k=true):i.path∈Cl:=by
 grind [Iu,ji,List.getElem_mem,x5.root,x5.req,l5.snd]
theorem l5.set(h:l5 l Cl B){i:Nat}(hi:i<l.length)(hp:l[i].path∈Cl):l5 l Cl (B.set i true):=
 ⟨by grind [l5.len],fun k hk hb=>by
  grind [l5.snd]⟩
structure ZJ(l:List Rl)(roots:List Rq)(Cl:List CS)(B0:List Bool)(i:Nat)(B:List Bool)(ch:Bool):Prop where
 snd:l5 l Cl B
 no:ch=false->B=B0/\∀j (h:j<l.length),j<i->Iu l roots B l[j] l.length=true->B[j]?=some true
 yes:ch=true->Zk B<Zk B0
theorem ZJ.start(h:l5 l Cl B):ZJ l roots Cl B 0 B false:=⟨h,fun _=>⟨rfl,fun j _ hj=>absurd hj (Ch j)⟩,fun h=>(by cases h)⟩
variable {B0:List Bool}{i:Nat}{ch:Bool}
theorem ZJ.set(h:ZJ l roots Cl B0 i B ch)(hc:x5 l roots Cl)(hi:i<l.length)(hr:Iu l roots B l[i] l.length=true)(hb:∀nT:i<B.length,B[i]=false):ZJ l roots Cl B0 (i+1) (B.set i true) true:=by
 have nT:i<B.length:=by rw[h.snd.len];exact hi
 have E4:=ce nT (hb nT);refine⟨h.snd.set hi (h.snd.part hc (Ao _) hr),fun h=>(by cases h),fun _=>?_⟩;cases ch with
 |true=>have:=h.yes rfl;omega
 |false=>grind [ZJ.no]
theorem ZJ.keep(h:ZJ l roots Cl B0 i B ch)(hi:i<l.length)(hk:Iu l roots B l[i] l.length=true->B[i]?=some true):ZJ l roots Cl B0 (i+1) B ch:=
 ⟨h.snd,fun hf=>⟨(h.no hf).1,fun j hj F6 hr=>by
  grind [ZJ.no]⟩,h.yes⟩
structure qr(l:List Rl)(roots:List Rq)(Cl:List CS)(B:List Bool)(ch:Bool):Prop where
 snd:l5 l Cl B
 no:ch=false->∀j (h:j<l.length),Iu l roots B l[j] l.length=true->B[j]?=some true
theorem ZJ.out(h:ZJ l roots Cl B0 i B ch)(hi:l.length<=i):qr l roots Cl B ch:=⟨h.snd,fun hf j hj hr=>(h.no hf).2 j hj Wk hr⟩
theorem ZJ.mu(h:ZJ l roots Cl B0 i B ch):2*Zk B+(if ch then 1 else 0)<2*Zk B0+1:=by
 cases ch with
 |true=>have:=h.yes rfl;simp_all
 |false=>grind [ZJ.no]
theorem qr.fin(h:qr l roots Cl B false)(sb:∀D:List CS,(∀q∈roots,q.path∈D)->(∀r∈l,r.path∈D->∀q∈r.reqs,q.path∈D)->∀p∈Cl,p∈D)
  (GJ:∀q,q∈roots\/(∃r∈l,q∈r.reqs)->∀r∈l,q.path=r.path->has q.set (plc r.ver)=true) (hn:(l.map (·.path)).Nodup) (aY:∀q,q∈roots\/(∃r∈l,q∈r.reqs)->∃r∈l,r.path=q.path) :
  ∀j (hj:j<l.length),B[j]?=some (Wx Cl l[j].path):=by
 have Ai1:∀(m:List Rq) (i:Rl),i∈l->(∀q∈m,q∈roots\/∃r∈l,q∈r.reqs)->∀q∈m,q.path=i.path->Gy m i=true:=fun m i hi hm q hq e=>by
  refine Bs.2 ⟨q,hq,?_⟩
  grind [IN]
 let D:List CS:=((List.range l.length).filter fun k=>B.getD k false).filterMap fun k=>(l[k]?).map (·.path)
 have hD:∀j (hj:j<l.length),B[j]?=some true->l[j].path∈D:=fun j hj hb=>by
  refine List.mem_filterMap.2 ⟨j,Cw.2 ⟨PA.2 hj,?_⟩,by simp_all⟩;simp_all
 have hD2:∀j (hj:j<l.length),l[j].path∈D->B[j]?=some true:=fun j hj hm=>by
  obtain⟨k,hk,e⟩:=List.mem_filterMap.1 hm;obtain⟨h1,h2⟩:=Cw.1 hk;have r9:=PA.1 h1;rw[Ge r9]at e;have e:l[k].path=l[j].path:=D5 e
  have:k=j:=(List.getElem_inj (xs:=l.map (·.path)) (h₀:=by simp_all) (h₁:=by simp_all) hn).1 aa0
  grind
 have kh:=sb D (fun q hq=>by
   grind [List.getElem_of_mem,Iu,qr.no])
  (fun r hr hp q hq=>by
   obtain⟨k,hk,rfl⟩:=Hr hr;have hkb:=hD2 k hk hp;obtain⟨r2,eT,e⟩:=aY q (.inr ⟨_,hr,hq⟩);obtain⟨j,hj,rfl⟩:=Hr eT;rw[<-e];refine hD j hj (h.no rfl j hj ?_);unfold Iu;rw[Ib];right;refine Bs.2 ⟨k,PA.2 hk,?_⟩
   grind)
 intro j hj;have hjB:j<B.length:=by rw[h.snd.len];exact hj
 cases hc:Wx Cl l[j].path with
 |true=>exact hD2 j hj (kh _ (JF.1 hc))
 |false=>
  rw[Ge hjB];cases hb:B[j]with
  |false=>rfl
  |true=>
   have:=JF.2 (h.snd.snd j hj aa0)
   grind [Wx]
end
end Go.Eng
