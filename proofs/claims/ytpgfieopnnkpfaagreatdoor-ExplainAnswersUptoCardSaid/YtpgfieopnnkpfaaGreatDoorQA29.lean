/- Lemmas 29. -/
import Derived.Test.YtpgfieopnnkpfaaGreatDoorQA28
set_option maxHeartbeats 4000000
namespace Go.Eng
open Go.Proofs
variable {α:Type}{f:α->Bool}{l:List α}{b:Bool}{j k:Nat}(x:List Rl)(ifs:List (List AV))(N m:List Rq)(q:Rq)(roots:List Rq)(r:Rl)(s:List Sl)(p:ByteArray)(pl:Int)
abbrev iR(l:List Sl)(v:TO):List Sl:=l++[Cn v.rel]
theorem Sm:∀(vs:List TO) (l:List Sl),vs.foldl iR l=l++vs.map FA
 | [],l=>by simp
 |v::vs,l=>by rw[DX,Sm vs];simp
abbrev DD(A:List Sl)(n:Nat):Prop:=DI x roots s iR [] A (BW x roots A) n A
def Ce:List Sl×Int:=
 if AD x≠0\/Ba roots≠0\/Bb s=false then([],1)else if(visits x roots s).2 then((visits x roots s).1.map FA,0)else([],6)
abbrev ac:AV:=.tup [sl Ae (Ce x roots s).1,vi (Ce x roots s).2]
section
variable {x:List Rl}{roots:List Rq}{s A:List Sl}{m:Nat}
theorem DD.start(hq:∀q∈roots,BB q.set):DD x roots s [] (s.length+1):=by
 grind [KO,DI.start]
theorem DD.next{p:ByteArray}{y:Sl}{r:Rl}(h:DD x roots s A (m+1))(hp:Ei (BW x roots A) A=some p)(hf:A3 s p=some y)(hr:Bl x y=some r)(hx:∀r∈x,F3 r):DD x roots s (A++[y]) m:=by
 have h1:=DI.next h hp hf hr ((Fs (Cs hr).1).2 r (Cs hr).2.1) (fun q hq=>((hx r (Cs hr).2.1).2 q hq).1)
 have e:G9 x y=r.reqs:=by grind [G9]
 rw[<-e,<-NM]at h1;have e2:iR A ⟨A,BW x roots A,r⟩=A++[y]:=by show A++[Cn r]=_;rw[(Cs hr).2.2]
 simp_all
theorem iN(h:DD x roots s A (m+1))(hc:¬(AD x≠0\/Ba roots≠0\/Bb s=false))(hp:Ei (BW x roots A) A=none):Ce x roots s=(A,0):=by
 obtain⟨h1,h2⟩:=DI.stop h hp<;>grind [Sm,Ce]
theorem V6(hc:¬(AD x≠0\/Ba roots≠0\/Bb s=false))(hb:(visits x roots s).2=b)(e:b=false):Ce x roots s=([],6):=by
 grind [Ce]
theorem Oj{e:Int}(h:Ce x roots s=([],e)):DC (.tup [nzA,vi e]) (ac x roots s):=
 (show DC (.tup [nzA,vi e]) (.tup [.slice .none [],vi e])from DC.tup ⟨.nil,.refl _,trivial⟩).trans (.of_eq (show AV.tup [.slice .none [],vi e]=ac x roots s by simp_all))
theorem Ra(h:(decide (AD x=0)&&decide (Ba roots=0))=true)(hi:Bb s=true):¬(AD x≠0\/Ba roots≠0\/Bb s=false):=by
 simp_all
end
theorem Yc{s:List Sl}{p:ByteArray}(h:(A3 s p).isSome=true):A3 s p=some ((A3 s p).getD Lk):=by
 cases e:A3 s p<;>simp_all
theorem c44(hx:∀r∈x,F3 r)(Mw:BB x)(hr:∀q∈roots,Lw q)(GH:roots.length<=1000000)(hs:s.length<=100000):PC 137 [.agg (Ic x ifs),sl Ad roots,sl Ae s] (ac x roots s):=by
 have Pn:∀(p:ByteArray) (v:Ver),PC 202 [Jx x ifs,vs p,.agg (Dt v)] (Hf (Bl x ⟨p,v⟩)):=fun p v=>wE x ifs p v hx Mw;have Xh:BB s:=by omega
 have UQ:∀q∈roots,BB q.set:=fun q hq=>(hr q hq).1;refine Ps (pC [] [2,3,5,8,9,11]) Tryz.func137 rfl (Nz rfl) (yN (AG (Bt (decide (AD x=0)&&decide (Ba roots=0))) (fun h1=>?_) (fun h1=>?_)))
 .have h1:(decide (AD x=0)&&decide (Ba roots=0))=true:=h1;have OC:=(wB x ifs roots hx hr);rw[show(decide (AD x=0)&&decide (Ba roots=0))=true from h1]at OC;refine Xi .pure (Xi _ (Yi OC (AG (Bt (Bb s)) (fun h3=>?_) (fun h3=>?_))))
  .have h3:(Bb s)=true:=h3;have cr:=(wD s Xh);rw[show Bb s=true from h3]at cr;refine Xi .pure (Xi _ (Yi cr (cU [(1,sl Ad roots),(2,sl Ae s),(3,.ref 3 0)] [(3,.cells (Ic x ifs))] Z3 Z1 (Xi {q:List Sl×Nat // DD x roots s q.1 q.2} (Xi (fun q=>⟨[(1,sl Ad roots),(2,sl Ae s),(3,.ref 3 0),(8,.slice (.id 24 4) (q.1.1.map Ae))],[(3,.cells (Ic x ifs)),(24,.tok 4 q.1.1.length)],Af⟩) (Xi (fun q=>q.1.2) (Yi (Xi ⟨([],s.length+1),DD.start UQ⟩ ?_) ?_)))))))
   .exact⟨Z4,Z2,Fh,Tv⟩
   intro⟨⟨A,n⟩,dd⟩;have dd:DD x roots s A n:=dd;obtain⟨m,rfl⟩:=dd.pos;have uq:=dd.lt;refine yN (AG (Bt (Ei (BW x roots A) A).isSome) (fun h5=>?_) (fun h5=>?_))
   .have h5:(Ei (BW x roots A) A).isSome=true:=h5;refine Am (Option.isSome_iff_exists.1 h5) (fun p hp=>?_);have hpd:p=((Ei (BW x roots A) A).getD mt):=by simp_all
    have UN:=(show PC 208 [Jx x ifs,sl Ad roots,sl Ae A] (.tup [vs ((Ei (BW x roots A) A).getD mt),vb (Ei (BW x roots A) A).isSome])from c81 x ifs roots A hx Mw GH aa0);rw[show(Ei (BW x roots A) A).isSome=true from h5]at UN;refine Xi .pure (Xi _ (Yi UN (cU [(1,sl Ad roots),(2,sl Ae s),(3,.ref 3 0),(8,.slice (.id 24 4) (A.map Ae)),(9,vs ((Ei (BW x roots A) A).getD mt)),(10,vb true)] [(3,.cells (Ic x ifs)),(24,.tok 4 A.length)] Z6 Z2 (AG (Bt (A3 s p).isSome) (fun h7=>?_) (fun h7=>?_)))))
    .have h7:(A3 s p).isSome=true:=h7;have uQ:=(show PC 209 [sl Ae s,vs ((Ei (BW x roots A) A).getD mt)] (.tup [.agg (Ae ((A3 s p).getD Lk)),vb (A3 s p).isSome])from hpd▸sr s p Xh);rw[show(A3 s p).isSome=true from h7]at uQ;refine Xi .pure (Xi _ (Yi uQ (yN (cU [(1,sl Ad roots),(2,sl Ae s),(3,.ref 3 0),(8,.slice (.id 24 4) (A.map Ae)),(11,.ref 11 0),(12,vb true)] [(3,.cells (Ic x ifs)),(11,.cells (Ae ((A3 s p).getD Lk))),(24,.tok 4 A.length)] Z6 Z3 (yN (yN (AG (CU (Bl x ⟨((A3 s p).getD Lk).path,((A3 s p).getD Lk).ver⟩)) (fun h9=>?_) (fun h9=>?_))))))))
     .refine Am h9 (fun r h9=>?_);have pz:=Pn ((A3 s p).getD Lk).path ((A3 s p).getD Lk).ver;rw[h9]at pz;refine Xi .pure (Xi _ (Yi pz (yN (cU [(1,sl Ad roots),(2,sl Ae s),(3,.ref 3 0),(8,.slice (.id 24 4) (A.map Ae)),(11,.ref 11 0),(12,vb true),(14,vb true)] [(3,.cells (Ic x ifs)),(11,.cells (Ae ((A3 s p).getD Lk))),(24,.tok 4 A.length)] Z7 Z3 (cU [(1,sl Ad roots),(2,sl Ae s),(3,.ref 3 0),(8,.slice (.id 24 4) (A.map Ae)),(11,.ref 11 0)] [(3,.cells (Ic x ifs)),(11,.cells (Ae ((A3 s p).getD Lk))),(24,.tok 4 A.length)] Z5 Z3 (yN ?_))))));have Xd:AZ 4 [(Ae ((A3 s p).getD Lk))]/\(A.map Ae).length=A.length/\((A.map Ae).length+([(Ae ((A3 s p).getD Lk))]:List (List AV)).length)*40<=140737488355328/\(A.map Ae).length+([(Ae ((A3 s p).getD Lk))]:List (List AV)).length<=9223372036854775807:=⟨⟨rfl,trivial⟩,aa1,(by grind),(by grind)⟩;refine Yi Xd (Xi ⟨(A++[((A3 s p).getD Lk)],m),dd.next hp (Yc h7) h9 hx⟩ ?_)
      exact⟨by grind,⟨Zr,Zr,Zr,⟨(show AV.slice (.id 24 4) (A.map Ae++[Ae ((A3 s p).getD Lk)])=.slice (.id 24 4) ((A++[((A3 s p).getD Lk)]).map Ae) by simp),rfl⟩,Tv⟩,⟨Zr,⟨(show HO.tok 4 ((A.map Ae).length+([Ae ((A3 s p).getD Lk)]:List (List AV)).length)=.tok 4 (A++[((A3 s p).getD Lk)]).length by simp),rfl⟩,Tv⟩,Fh,Tv⟩
     have pz:=Pn ((A3 s p).getD Lk).path ((A3 s p).getD Lk).ver;rw[h9]at pz;refine Xi .pure (Xi _ (Yi pz (yN (cU [(1,sl Ad roots),(2,sl Ae s),(3,.ref 3 0),(8,.slice (.id 24 4) (A.map Ae)),(11,.ref 11 0),(12,vb true),(14,vb false)] [(3,.cells (Ic x ifs)),(11,.cells (Ae ((A3 s p).getD Lk))),(24,.tok 4 A.length)] Z7 Z3 ?_))))
     exact Oj (V6 (Ra h1 h3) (dd.gone hp (Yc h7) h9).1 rfl)
    have h7:(A3 s p).isSome=false:=h7;have OB:=(show PC 209 [sl Ae s,vs ((Ei (BW x roots A) A).getD mt)] (.tup [.agg (Ae ((A3 s p).getD Lk)),vb (A3 s p).isSome])from hpd▸sr s p Xh);rw[show(A3 s p).isSome=false from h7]at OB;refine Xi .pure (Xi _ (Yi OB (yN (cU [(1,sl Ad roots),(2,sl Ae s),(3,.ref 3 0),(8,.slice (.id 24 4) (A.map Ae)),(11,.ref 11 0),(12,vb false)] [(3,.cells (Ic x ifs)),(11,.cells (Ae ((A3 s p).getD Lk))),(24,.tok 4 A.length)] Z6 Z3 (yN (yN (AG (CU (Bl x ⟨((A3 s p).getD Lk).path,((A3 s p).getD Lk).ver⟩)) (fun Su=>?_) (fun Su=>?_))))))))
    .refine Am Su (fun r Su=>?_);have Yf:=Pn ((A3 s p).getD Lk).path ((A3 s p).getD Lk).ver;rw[Su]at Yf;refine Xi .pure (Xi _ (Yi Yf (yN (cU [(1,sl Ad roots),(2,sl Ae s),(3,.ref 3 0),(8,.slice (.id 24 4) (A.map Ae)),(11,.ref 11 0),(12,vb false),(14,vb true)] [(3,.cells (Ic x ifs)),(11,.cells (Ae ((A3 s p).getD Lk))),(24,.tok 4 A.length)] Z7 Z3 ?_))))
     exact Oj (V6 (Ra h1 h3) (dd.lost hp (by simpa using h7)).1 rfl)
    have Yf:=Pn ((A3 s p).getD Lk).path ((A3 s p).getD Lk).ver;rw[Su]at Yf;refine Xi .pure (Xi _ (Yi Yf (yN (cU [(1,sl Ad roots),(2,sl Ae s),(3,.ref 3 0),(8,.slice (.id 24 4) (A.map Ae)),(11,.ref 11 0),(12,vb false),(14,vb false)] [(3,.cells (Ic x ifs)),(11,.cells (Ae ((A3 s p).getD Lk))),(24,.tok 4 A.length)] Z7 Z3 ?_))))
    exact Oj (V6 (Ra h1 h3) (dd.lost hp (by simpa using h7)).1 rfl)
   have h5:(Ei (BW x roots A) A).isSome=false:=h5;have jB:=(show PC 208 [Jx x ifs,sl Ad roots,sl Ae A] (.tup [vs ((Ei (BW x roots A) A).getD mt),vb (Ei (BW x roots A) A).isSome])from c81 x ifs roots A hx Mw GH aa0);rw[show(Ei (BW x roots A) A).isSome=false from h5]at jB;refine Xi .pure (Xi _ (Yi jB (cU [(1,sl Ad roots),(2,sl Ae s),(3,.ref 3 0),(8,.slice (.id 24 4) (A.map Ae)),(9,vs ((Ei (BW x roots A) A).getD mt)),(10,vb false)] [(3,.cells (Ic x ifs)),(24,.tok 4 A.length)] Z6 Z2 ?_)))
   exact .of_eq (show AV.tup [sl Ae A,vi 0]=ac x roots s by unfold ac;rw[iN dd (Ra h1 h3) (by simp_all)])
  have h3:(Bb s)=false:=h3;have Yg:=(wD s Xh);rw[show Bb s=false from h3]at Yg;refine Xi .pure (Xi _ (Yi Yg (cU [] [] Tv Tv ?_)))
  exact Oj (by grind [Ce])
 have h1:(decide (AD x=0)&&decide (Ba roots=0))=false:=h1;have jC:=(wB x ifs roots hx hr);rw[show(decide (AD x=0)&&decide (Ba roots=0))=false from h1]at jC;refine Xi .pure (Xi _ (Yi jC (cU [] [] Tv Tv ?_)))
 exact Oj (by grind [Ce])
abbrev qC:AV:=.tup [sl Be (Bw x roots s).1,vi (Bw x roots s).2]
theorem ah:Bw x roots s=((Ce x roots s).1.map (·.path),(Ce x roots s).2):=by
 unfold Bw Ce;split
 .rfl
 .split
  .rw[Cf];rfl
  .rfl
theorem iM{x:List Rl}{roots:List Rq}{s:List Sl}(h:(Ce x roots s).2≠0):(Ce x roots s).1=[]:=by
 grind [Ce]
theorem V7{x:List Rl}{roots:List Rq}{s:List Sl}:(Ce x roots s).1.length<=s.length:=by
 unfold Ce;split
 .simp
 .split
  .rename_i h
   have:=DJ (m:=s.map (·.path)) (FK h).nodup fun p hp=>by
    obtain⟨y,hy,e⟩:=Ay.1 hp;rw[Uj]at hy;obtain⟨v,hv,rfl⟩:=Ay.1 hy;exact Ay.2 ⟨FA v,((FK h).mem v hv).1,e⟩
   simp_all
  .simp
theorem c19(hx:∀r∈x,F3 r)(Mw:BB x)(hr:∀q∈roots,Lw q)(GH:roots.length<=1000000)(hs:s.length<=100000):PC 80 [.agg (Ic x ifs),sl Ad roots,sl Ae s] (qC x roots s):=by
 have qK:=c44 x ifs roots s hx Mw hr GH hs;have sA:=V7 (x:=x) (roots:=roots) (s:=s);unfold ac at qK;obtain⟨D,hD⟩:∃D,D=(Ce x roots s).1:=⟨_,rfl⟩;rw[<-hD]at qK sA;refine Ps (pC [] [2,7]) Tryz.func80 rfl (Nz rfl) (yN (Xi .pure (Xi _ (Yi qK (cU [(8,sl Ae D),(9,vi (Ce x roots s).2)] [] Z2 Tv (Yi (fun h1=>?_) (fun h1=>?_)))))))
 .have h1:((Ce x roots s).2:Int)≠(0:Int):=h1;exact(show DC (.tup [nzA,vi (Ce x roots s).2]) (.tup [.slice .none [],vi (Ce x roots s).2])from DC.tup ⟨.nil,.refl _,trivial⟩).trans (.of_eq (show AV.tup [.slice .none [],vi (Ce x roots s).2]=qC x roots s by grind [ah,iM]))
 have h1:((Ce x roots s).2:Int)=(0:Int):=AQ h1;refine Xi {i:Nat // i<=D.length} (Xi (fun q=>⟨[(8,sl Ae D),(10,.slice (.id 22 1) (((D.take q.1).map (·.path)).map Be)),(11,vi q.1)],[(22,.tok 1 q.1)],Af⟩) (Xi (fun q=>D.length-q.1) (Yi (Xi ⟨0,Ao _⟩ ?_) ?_)))
 .exact⟨Z3,Z1,Fh,Tv⟩
 intro⟨i,i1⟩;refine Yi (fun h3=>?_) (fun h3=>?_)
 .have h3:(i:Int)<((D.map Ae).length:Int):=h3;have n3:i<D.length:=by simp_all
  have g3:D[i]?=some D[i]:=Ge n3;refine Xi (Ae D[i]) (Yi (Yi (Nn i) (AM g3)) (Yi rfl ?_));have b4:AZ 1 [[vs D[i].path]]/\(((D.take i).map (·.path)).map Be).length=i/\((((D.take i).map (·.path)).map Be).length+([[vs D[i].path]]:List (List AV)).length)*16<=140737488355328/\(((D.take i).map (·.path)).map Be).length+([[vs D[i].path]]:List (List AV)).length<=9223372036854775807:=⟨⟨rfl,trivial⟩,(by grind),(by grind),(by grind)⟩;refine Yi b4 (cU [(8,sl Ae D),(10,.slice (.id 22 1) ((((D.take i).map (·.path)).map Be)++[[vs D[i].path]])),(11,vi i)] [(22,.tok 1 ((((D.take i).map (·.path)).map Be).length+([[vs D[i].path]]:List (List AV)).length))] Z3 Z1 (Yi (by grind [Al]) ?_));have yQ:((D.take (i+1)).map (·.path)).map Be=((D.take i).map (·.path)).map Be++[[vs D[i].path]]:=by rw[B9,Ge n3,AB,AB];rfl
  refine Xi ⟨i+1,by omega⟩ ?_;exact⟨by grind,⟨Zr,⟨(show AV.slice (.id 22 1) (((D.take i).map (·.path)).map Be++[[vs D[i].path]])=.slice (.id 22 1) (((D.take (i+1)).map (·.path)).map Be) by rw[yQ]),rfl⟩,Zr,Tv⟩,⟨⟨(show HO.tok 1 ((((D.take i).map (·.path)).map Be).length+([[vs D[i].path]]:List (List AV)).length)=.tok 1 (i+1) by simp_all),rfl⟩,Tv⟩,Fh,Tv⟩
 have h3:¬((i:Int)<((D.map Ae).length:Int)):=h3;have n3:¬i<D.length:=by simp_all
 exact .of_eq (show AV.tup [sl Be ((D.take i).map (·.path)),vi 0]=qC x roots s by grind [ah])
abbrev Ey(n:Int):List AV:=[vi n]
def F5(y:Sl):Bool:=match Bl x y with | some r=>!r.yanked | none=>false
def La:Bool:=N.any fun q=>decide (q.path=p)&&!has q.set pl
def FX:Ver:=match Dd x p pl with | some r=>r.ver | none=>⟨0,0,0⟩
def IF(o:Rl):Bool:=decide (o.path=p)&&!o.yanked&&decide (plc o.ver<pl)&&!La N p (plc o.ver)
def CJ:List Int:=(x.filter (IF N p pl)).map fun o=>plc o.ver
theorem ia(h:∀j (hj:j<l.length),f l[j]=true):l.all f=true:=by
 grind [List.getElem_of_mem]
theorem bM(hj:j<l.length)(h:f l[j]=false):l.all f=false:=by
 grind
theorem Xz(h:∀j (hj:j<l.length),f l[j]=false):l.any f=false:=by
 grind [List.getElem_of_mem]
theorem bN(hj:j<l.length)(h:f l[j]=true):l.any f=true:=BQ.2 ⟨_,Ah hj,h⟩
theorem Ji{x:List Rl}{N:List Rq}{p:ByteArray}{pl:Int}{i:Nat}(h:i<x.length):CJ (x.take (i+1)) N p pl=CJ (x.take i) N p pl++(if IF N p pl x[i]then [plc x[i].ver]else []):=by
 grind [CJ,List.take_add_one]
theorem Vq:(CJ x N p pl).length<=x.length:=by
 grind [CJ]
section
variable {N:List Rq}{p:ByteArray}{pl:Int}{o:Rl}
theorem o6(h:¬o.path=p):IF N p pl o=false:=by grind [IF]
theorem o9(h:o.yanked=true):IF N p pl o=false:=by grind [IF]
theorem wu(h:¬plc o.ver<pl):IF N p pl o=false:=by grind [IF]
theorem o5(h:La N p (plc o.ver)=true):IF N p pl o=false:=by grind [IF]
theorem r8(h1:o.path=p)(h2:o.yanked=false)(h3:plc o.ver<pl)(h4:La N p (plc o.ver)=false):IF N p pl o=true:=by
 grind [IF]
end
theorem KV{v:Ver}(h:Bo v=true):place v=plc v:=by grind [plc]
theorem c49(hx:∀r∈x,F3 r)(Mw:BB x)(hs:s.length<=1000000):PC 135 [.agg (Ic x ifs),sl Ae s] (vb (s.all (F5 x))):=by
 have Pn:∀(p:ByteArray) (v:Ver),PC 202 [Jx x ifs,vs p,.agg (Dt v)] (Hf (Bl x ⟨p,v⟩)):=fun p v=>wE x ifs p v hx Mw;refine Ps Cu Tryz.func135 rfl (Nz rfl) (Xi {i:Nat // i<=s.length/\∀j (h:j<s.length),j<i->F5 x s[j]=true} (Xi (fun q=>⟨[(1,sl Ae s),(2,.ref 2 0),(5,vi q.1)],[(2,.cells (Ic x ifs))],Af⟩) (Xi (fun q=>s.length-q.1) (Yi (Xi ⟨0,Ao _,fun j _ h=>by omega⟩ ?_) ?_))))
 .exact⟨Z3,Z1,Fh,Tv⟩
 intro⟨i,i1,i2⟩;refine Yi (fun h1=>?_) (fun h1=>?_)
 .have h1:(i:Int)<((s.map Ae).length:Int):=h1;have n1:=T8 h1;refine yN (Xi (Ae s[i]) (Yi (WE n1) (Yi rfl (Xi (Ae s[i]) (Yi (WE n1) (Yi rfl (yN (AG (CU (Bl x ⟨s[i].path,s[i].ver⟩)) (fun h2=>?_) (fun h2=>?_)))))))))
  .refine Am h2 (fun r h2=>?_);have OC:=Pn s[i].path s[i].ver;rw[h2]at OC;refine Xi _ (Yi OC (yN (Yi aa3 (Yi (fun h3=>?_) (fun h3=>?_)))))
   .have h3:r.yanked=true:=h3;exact .of_eq (Aa vb (show false=s.all (F5 x)from(bM n1 (by grind [F5,Bl])).symm))
   have h3:r.yanked=false:=h3;refine Yi (by grind [Al]) (Xi ⟨i+1,by omega,fun j hj He=>(Dq j i).elim (i2 j hj) (fun z=>by have e:i=j:=aa0;subst e;grind [F5,Bl])⟩ ?_);exact⟨by grind,Z3,Z1,Fh,Tv⟩
  have OC:=Pn s[i].path s[i].ver;rw[h2]at OC;refine Xi _ (Yi OC (yN (Yi aa3 ?_)));exact .of_eq (Aa vb (show false=s.all (F5 x)from(bM n1 (by grind [F5,Bl])).symm))
 have h1:¬((i:Int)<((s.map Ae).length:Int)):=h1;have n1:=T7 h1;exact .of_eq (Aa vb (show true=s.all (F5 x)from(ia fun j hj=>i2 j hj aa0).symm))
theorem xC(hx:∀r∈x,F3 r)(Mw:BB x)(UQ:∀q∈roots,BB q.set)(GH:roots.length<=1000000)(hs:s.length<=1000000):PC 269 [.agg (Ic x ifs),sl Ad roots,sl Ae s,vs p,vi pl] (vb (La (BW x roots s) p pl)):=by
 obtain⟨N,hN⟩:∃N,N=BW x roots s:=⟨_,rfl⟩;have jr:=tn x ifs roots s hx Mw GH hs;have zg:=NO x roots s;have zf:=bg hx UQ s;rw[<-hN]at jr zg zf⊢;refine Ps Cu Tryz.func269 rfl (Nz rfl) (yN (Xi .pure (Xi _ (Yi jr (Xi {i:Nat // i<=N.length/\∀j (h:j<N.length),j<i->(decide (N[j].path=p)&&!has N[j].set pl)=false} (Xi (fun q=>⟨[(3,vs p),(4,vi pl),(11,sl Ad N),(12,vi q.1)],[],Af⟩) (Xi (fun q=>N.length-q.1) (Yi (Xi ⟨0,Ao _,fun j _ h=>by omega⟩ ?_) ?_))))))))
 .exact⟨Z4,Tv,Fh,Tv⟩
 intro⟨i,i1,i2⟩;refine Yi (fun h1=>?_) (fun h1=>?_)
 .have h1:(i:Int)<((N.map Ad).length:Int):=h1;have n1:=T8 h1;refine Xi (Ad N[i]) (Yi (WE n1) (Yi rfl (Yi (fun h2=>?_) (fun h2=>?_))))
  .refine Xi (Ad N[i]) (Yi (WE n1) (Yi rfl (AG (Bt (has N[i].set pl)) (fun h3=>?_) (fun h3=>?_))))
   .refine Xi .pure (Xi _ (Yi (cb h3 (dN N[i].set pl (zf _ (Ah n1)))) (Yi (by grind [Al]) (Xi ⟨i+1,by omega,fun j hj He=>(Dq j i).elim (i2 j hj) (fun z=>by grind)⟩ ?_))));exact⟨by grind,Z4,Tv,Fh,Tv⟩
   refine Xi .pure (Xi _ (Yi (cb h3 (dN N[i].set pl (zf _ (Ah n1)))) ?_));exact .of_eq (Aa vb (show true=La N p pl from Eq.symm (show N.any (fun q=>decide (q.path=p)&&!has q.set pl)=true from bN n1 (by simp_all))))
  refine Yi (by grind [Al]) (Xi ⟨i+1,by omega,fun j hj He=>(Dq j i).elim (i2 j hj) (fun z=>by grind)⟩ ?_);exact⟨by grind,Z4,Tv,Fh,Tv⟩
 have h1:¬((i:Int)<((N.map Ad).length:Int)):=h1;have n1:=T7 h1;exact .of_eq (Aa vb (show false=La N p pl from(Xz fun j hj=>i2 j hj aa0).symm))
theorem c97(Mw:BB x)(hv:∀r∈x,Bo r.ver=true)(hs:s.length<=1000000):PC 207 [.agg (Ic x ifs),sl Ae s,vs p,vi pl] (sl Ae (s++[(⟨p,FX x p pl⟩:Sl)])):=by
 refine Ps Cu Tryz.func207 rfl (Nz rfl) (yN (AG (CU (Dd x p pl)) (fun h1=>?_) (fun h1=>?_)))
 .refine Am h1 (fun r h1=>?_);have px:=wC x ifs p pl Mw hv;rw[h1]at px;refine Xi .pure (Xi _ (Yi px (yN ?_)));have b2:AZ 4 (s.map Ae)/\([]:List (List AV)).length=0/\(([]:List (List AV)).length+(s.map Ae).length)*40<=140737488355328/\([]:List (List AV)).length+(s.map Ae).length<=9223372036854775807:=⟨(CE (enc:=Ae) (n:=4) (fun _=>rfl) s),(by simp_all),(by grind),(by grind)⟩;refine Yi b2 (yN ?_);have b3:AZ 4 [[vs p,vi r.ver.a,vi r.ver.b,vi r.ver.c]]/\(([]++(s.map Ae)):List (List AV)).length=(([]:List (List AV)).length+(s.map Ae).length)/\((([]++(s.map Ae)):List (List AV)).length+([[vs p,vi r.ver.a,vi r.ver.b,vi r.ver.c]]:List (List AV)).length)*40<=140737488355328/\(([]++(s.map Ae)):List (List AV)).length+([[vs p,vi r.ver.a,vi r.ver.b,vi r.ver.c]]:List (List AV)).length<=9223372036854775807:=⟨⟨rfl,trivial⟩,(by simp_all),(by grind),(by grind)⟩;refine Yi b3 (Yi aa3 ?_);exact .of_eq (show AV.slice .none ([]++s.map Ae++[Ae (⟨p,r.ver⟩:Sl)])=.slice .none ((s++[(⟨p,FX x p pl⟩:Sl)]).map Ae) by grind [FX])
 have px:=wC x ifs p pl Mw hv;rw[h1]at px;refine Xi .pure (Xi _ (Yi px (yN ?_)));have b5:AZ 4 (s.map Ae)/\([]:List (List AV)).length=0/\(([]:List (List AV)).length+(s.map Ae).length)*40<=140737488355328/\([]:List (List AV)).length+(s.map Ae).length<=9223372036854775807:=⟨(CE (enc:=Ae) (n:=4) (fun _=>rfl) s),(by simp_all),(by grind),(by grind)⟩;refine Yi b5 (yN ?_);have b6:AZ 4 [[vs p,vi 0,vi 0,vi 0]]/\(([]++(s.map Ae)):List (List AV)).length=(([]:List (List AV)).length+(s.map Ae).length)/\((([]++(s.map Ae)):List (List AV)).length+([[vs p,vi 0,vi 0,vi 0]]:List (List AV)).length)*40<=140737488355328/\(([]++(s.map Ae)):List (List AV)).length+([[vs p,vi 0,vi 0,vi 0]]:List (List AV)).length<=9223372036854775807:=⟨⟨rfl,trivial⟩,(by simp_all),(by grind),(by grind)⟩;refine Yi b6 (Yi aa3 ?_);exact .of_eq (show AV.slice .none ([]++s.map Ae++[Ae (⟨p,⟨0,0,0⟩⟩:Sl)])=.slice .none ((s++[(⟨p,FX x p pl⟩:Sl)]).map Ae) by grind [FX])
theorem c94(hx:∀r∈x,F3 r)(Mw:BB x)(UQ:∀q∈roots,BB q.set)(GH:roots.length<=1000000)(hs:s.length<=1000000)(hv:∀r∈x,Bo r.ver=true):PC 205 [.agg (Ic x ifs),sl Ad roots,sl Ae s,vs p,vi pl] (sl Ey (CJ x (BW x roots s) p pl)):=by
 have qG:∀k:Int,PC 269 [Jx x ifs,sl Ad roots,sl Ae s,vs p,vi k] (vb (La (BW x roots s) p k)):=fun k=>xC x ifs roots s p k hx Mw UQ GH hs;obtain⟨N,hN⟩:∃N,N=BW x roots s:=⟨_,rfl⟩;rw[<-hN]at qG⊢;have Mw:x.length<=1073741824:=Mw;refine Ps Cu Tryz.func205 rfl (Nz rfl) (Xi {i:Nat // i<=x.length} (Xi (fun q=>⟨[(1,sl Ad roots),(2,sl Ae s),(3,vs p),(4,vi pl),(5,.ref 5 0),(11,.slice (.id 15 1) ((CJ (x.take q.1) N p pl).map Ey)),(12,vi q.1)],[(5,.cells (Ic x ifs)),(15,.tok 1 (CJ (x.take q.1) N p pl).length)],Af⟩) (Xi (fun q=>x.length-q.1) (Yi (Xi ⟨0,Ao _⟩ ?_) ?_))))
 .exact⟨Z7,Z2,Fh,Tv⟩
 intro⟨i,i1⟩;have cB:=Vq (x.take i) N p pl;rw[AC]at cB;refine Yi (fun h1=>?_) (fun h1=>?_)
 .have h1:(i:Int)<((x.map Ak).length:Int):=h1;have n1:=T8 h1;refine Xi (Ak x[i]) (Yi (WE n1) (Yi rfl (yN (yN (yN (Xi .pure (Xi _ (Yi (show PC 82 [.agg (Dt x[i].ver)] (vi (plc x[i].ver))from KV (hv _ (Ah n1))▸qz x[i].ver (hv _ (Ah n1))) (Yi (fun h2=>?_) (fun h2=>?_))))))))))
  .have h2:(x[i].path:ByteArray)=p:=h2;refine Yi (fun h3=>?_) (fun h3=>?_)
   .have h3:x[i].yanked=true:=h3;refine Yi (by grind [Al]) ?_;have es:CJ (x.take (i+1)) N p pl=CJ (x.take i) N p pl:=by grind [Ji,o9]
    refine Xi ⟨i+1,by omega⟩ ?_;exact⟨by grind,⟨Zr,Zr,Zr,Zr,Zr,⟨(show AV.slice (.id 15 1) ((CJ (x.take i) N p pl).map Ey)=.slice (.id 15 1) ((CJ (x.take (i+1)) N p pl).map Ey) by rw[es]),rfl⟩,Zr,Tv⟩,⟨Zr,⟨(show HO.tok 1 (CJ (x.take i) N p pl).length=.tok 1 (CJ (x.take (i+1)) N p pl).length by rw[es]),rfl⟩,Tv⟩,Fh,Tv⟩
   have h3:x[i].yanked=false:=h3;refine Yi (fun h5=>?_) (fun h5=>?_)
   .have h5:(plc x[i].ver:Int)<(pl:Int):=h5;refine yN (AG (Bt (La N p (plc x[i].ver))) (fun h6=>?_) (fun h6=>?_))
    .have h6:(La N p (plc x[i].ver))=true:=h6;refine Xi .pure (Xi _ (Yi (cb h6 (qG (plc x[i].ver))) (Yi (by grind [Al]) ?_)));have es:CJ (x.take (i+1)) N p pl=CJ (x.take i) N p pl:=by grind [Ji,o5]
     refine Xi ⟨i+1,by omega⟩ ?_;exact⟨by grind,⟨Zr,Zr,Zr,Zr,Zr,⟨(show AV.slice (.id 15 1) ((CJ (x.take i) N p pl).map Ey)=.slice (.id 15 1) ((CJ (x.take (i+1)) N p pl).map Ey) by rw[es]),rfl⟩,Zr,Tv⟩,⟨Zr,⟨(show HO.tok 1 (CJ (x.take i) N p pl).length=.tok 1 (CJ (x.take (i+1)) N p pl).length by rw[es]),rfl⟩,Tv⟩,Fh,Tv⟩
    have h6:(La N p (plc x[i].ver))=false:=h6;refine Xi .pure (Xi _ (Yi (cb h6 (qG (plc x[i].ver))) (Yi (xm rfl (show(CJ (x.take i) N p pl).length<=2147483647 by omega) aa2) (Yi (by grind [Al]) ?_))));have es:CJ (x.take (i+1)) N p pl=CJ (x.take i) N p pl++[plc x[i].ver]:=by grind [Ji,r8]
    refine Xi ⟨i+1,by omega⟩ ?_;exact⟨by grind,⟨Zr,Zr,Zr,Zr,Zr,⟨(show AV.slice (.id 15 1) ((CJ (x.take i) N p pl).map Ey++[[vi (plc x[i].ver)]])=.slice (.id 15 1) ((CJ (x.take (i+1)) N p pl).map Ey) by simp_all),rfl⟩,Zr,Tv⟩,⟨Zr,⟨(show HO.tok 1 (((CJ (x.take i) N p pl).map Ey).length+([[vi (plc x[i].ver)]]:List (List AV)).length)=.tok 1 (CJ (x.take (i+1)) N p pl).length by simp_all),rfl⟩,Tv⟩,Fh,Tv⟩
   have h5:¬((plc x[i].ver:Int)<(pl:Int)):=h5;refine Yi (by grind [Al]) ?_;have es:CJ (x.take (i+1)) N p pl=CJ (x.take i) N p pl:=by grind [Ji,wu]
   refine Xi ⟨i+1,by omega⟩ ?_;exact⟨by grind,⟨Zr,Zr,Zr,Zr,Zr,⟨(show AV.slice (.id 15 1) ((CJ (x.take i) N p pl).map Ey)=.slice (.id 15 1) ((CJ (x.take (i+1)) N p pl).map Ey) by rw[es]),rfl⟩,Zr,Tv⟩,⟨Zr,⟨(show HO.tok 1 (CJ (x.take i) N p pl).length=.tok 1 (CJ (x.take (i+1)) N p pl).length by rw[es]),rfl⟩,Tv⟩,Fh,Tv⟩
  have h2:¬(x[i].path:ByteArray)=p:=h2;refine Yi (by grind [Al]) ?_;have es:CJ (x.take (i+1)) N p pl=CJ (x.take i) N p pl:=by grind [Ji,o6]
  refine Xi ⟨i+1,by omega⟩ ?_;exact⟨by grind,⟨Zr,Zr,Zr,Zr,Zr,⟨(show AV.slice (.id 15 1) ((CJ (x.take i) N p pl).map Ey)=.slice (.id 15 1) ((CJ (x.take (i+1)) N p pl).map Ey) by rw[es]),rfl⟩,Zr,Tv⟩,⟨Zr,⟨(show HO.tok 1 (CJ (x.take i) N p pl).length=.tok 1 (CJ (x.take (i+1)) N p pl).length by rw[es]),rfl⟩,Tv⟩,Fh,Tv⟩
 have h1:¬((i:Int)<((x.map Ak).length:Int)):=h1;have n1:=T7 h1;exact .of_eq (show sl Ey (CJ (x.take i) N p pl)=sl Ey (CJ x N p pl) by grind)
def G8:Bool:=decide (q.path=r.path)&&has q.set (plc r.ver)
def Ga:Bool:=m.any fun q=>G8 q r
theorem vX{q:Rq}{r:Rl}(h:¬q.path=r.path):G8 q r=false:=by grind [G8]
theorem pW{q:Rq}{r:Rl}(h:q.path=r.path)(hb:has q.set (plc r.ver)=b):G8 q r=b:=by grind [G8]
theorem tx(hq:BB q.set)(hv:Bo r.ver=true):PC 321 [.agg (Ad q),.agg (Ak r)] (vb (G8 q r)):=by
 refine Ps Cu Tryz.func321 rfl (Nz rfl) (Yi (fun h1=>?_) (fun h1=>?_))
 .have h1:(q.path:ByteArray)=r.path:=h1;refine yN (Xi _ (Yi (show PC 82 [.agg (Dt r.ver)] (vi (plc r.ver))from KV hv▸qz r.ver hv) (AG (Bt (has q.set (plc r.ver))) (fun h2=>?_) (fun h2=>?_))))
  .have h2:(has q.set (plc r.ver))=true:=h2;have jE:=dN q.set (plc r.ver) hq;rw[show(has q.set (plc r.ver))=true from h2]at jE;refine Xi _ (Yi jE (Yi aa3 ?_));exact .of_eq (Aa vb (pW h1 h2).symm)
  have h2:(has q.set (plc r.ver))=false:=h2;have Yj:=dN q.set (plc r.ver) hq;rw[show(has q.set (plc r.ver))=false from h2]at Yj;refine Xi _ (Yi Yj (Yi aa3 ?_));exact .of_eq (Aa vb (pW h1 h2).symm)
 have h1:¬(q.path:ByteArray)=r.path:=h1;refine Yi aa3 ?_;exact .of_eq (Aa vb (vX h1).symm)
theorem dO(ZC:m.length<=1000000)(hq:∀q∈m,BB q.set)(hv:Bo r.ver=true):PC 268 [sl Ad m,.agg (Ak r)] (vb (Ga m r)):=by
 refine Ps (pC [] [3,5]) Tryz.func268 rfl (Nz rfl) (Xi {i:Nat // i<=m.length/\∀j (h:j<m.length),j<i->G8 m[j] r=false} (Xi (fun q=>⟨[(0,sl Ad m),(3,.ref 3 0),(5,vi q.1)],[(3,.cells (Ak r))],Af⟩) (Xi (fun q=>m.length-q.1) (Yi (Xi ⟨0,Ao _,fun j _ h=>by omega⟩ ?_) ?_))))
 .exact⟨Z3,Z1,Fh,Tv⟩
 intro⟨i,i1,i2⟩;refine Yi (fun h1=>?_) (fun h1=>?_)
 .have h1:(i:Int)<((m.map Ad).length:Int):=h1;have n1:i<m.length:=by simp_all
  have g1:m[i]?=some m[i]:=Ge n1;refine Xi (Ad m[i]) (Yi (Yi (Nn i) (AM g1)) (Yi rfl (yN (yN (AG (Bt (G8 m[i] r)) (fun h2=>?_) (fun h2=>?_))))))
  .have h2:(G8 m[i] r)=true:=h2;have jE:=tx m[i] r (hq _ (Ah n1)) hv;rw[show(G8 m[i] r)=true from h2]at jE;refine Xi _ (Yi jE (Yi aa3 (cU [] [] Tv Tv ?_)))
   exact .of_eq (Aa vb (show true=Ga m r from Eq.symm (show m.any (fun q=>G8 q r)=true from bN n1 h2)))
  have h2:(G8 m[i] r)=false:=h2;have Yj:=tx m[i] r (hq _ (Ah n1)) hv;rw[show(G8 m[i] r)=false from h2]at Yj;refine Xi _ (Yi Yj (Yi aa3 (cU [(0,sl Ad m),(3,.ref 3 0),(5,vi i)] [(3,.cells (Ak r))] Z3 Z1 (Yi (by grind [Al]) (Xi ⟨i+1,by omega,fun j hj He=>(Dq j i).elim (i2 j hj) (fun z=>by grind)⟩ ?_)))));exact⟨by grind,Z3,Z1,Fh,Tv⟩
 have h1:¬((i:Int)<((m.map Ad).length:Int)):=h1;have n1:¬i<m.length:=by simp_all
 exact .of_eq (Aa vb (show false=Ga m r from(Xz fun j hj=>i2 j hj aa0).symm))
abbrev CL(b:Bool):List AV:=[vb b]
def S5(Cl:List ByteArray)(p:ByteArray):Bool:=Cl.any fun q=>decide (q=p)
def WO(B:List Bool):Nat:=(B.filter fun b=>!b).length
theorem YY:∀{B:List Bool} {i:Nat} (h:i<B.length),B[i]=false->WO (B.set i true)<WO B
 |b::B,0,_,hb=>by
  grind [WO]
 |b::B,i+1,h,hb=>by
  have:=YY (B:=B) (i:=i) (by grind) hb
  grind [WO]
def HE(l:List Rl)(roots:List Rq)(B:List Bool)(i:Rl)(k:Nat):Bool:=Ga roots i||(List.range k).any fun k=>B.getD k false&&Ga ((l[k]?.map (·.reqs)).getD []) i
theorem Tb(l:List Rl)(roots:List Rq)(B:List Bool)(i:Rl):HE l roots B i 0=Ga roots i:=by grind [HE]
theorem Gy{l:List Rl}{roots:List Rq}{B:List Bool}{i:Rl}(h:k<l.length)(hB:k<B.length):HE l roots B i (k+1)=(HE l roots B i k||(B[k]&&Ga l[k].reqs i)):=by
 grind [HE,List.range_succ]
structure g8(l:List Rl)(Cl:List ByteArray)(B:List Bool):Prop where
 len:B.length=l.length
 snd:∀k (h:k<l.length),B[k]?=some true->l[k].path∈Cl
structure sn(l:List Rl)(roots:List Rq)(Cl:List ByteArray):Prop where
 root:∀q∈roots,q.path∈Cl
 req:∀r∈l,r.path∈Cl->∀q∈r.reqs,q.path∈Cl
section
variable {l:List Rl}{roots:List Rq}{Cl:List ByteArray}{B:List Bool}
theorem dx{m:List Rq}{r:Rl}(h:Ga m r=true):∃q∈m,q.path=r.path:=by
 obtain⟨q,hq,e⟩:=BQ.1 h<;>grind [G8]
theorem g8.part(h:g8 l Cl B)(hc:sn l roots Cl){i:Rl}(hk:k<=l.length)(hr:HE l roots B i k=true):i.path∈Cl:=by
 grind [HE,dx,List.getElem_mem,sn.root,sn.req,g8.snd]
theorem g8.set(h:g8 l Cl B){i:Nat}(hi:i<l.length)(hp:l[i].path∈Cl):g8 l Cl (B.set i true):=
 ⟨by grind [g8.len],fun k hk hb=>by
  grind [g8.snd]⟩
structure Xc(l:List Rl)(roots:List Rq)(Cl:List ByteArray)(B0:List Bool)(i:Nat)(B:List Bool)(ch:Bool):Prop where
 snd:g8 l Cl B
 no:ch=false->B=B0/\∀j (h:j<l.length),j<i->HE l roots B l[j] l.length=true->B[j]?=some true
 yes:ch=true->WO B<WO B0
theorem Xc.start(h:g8 l Cl B):Xc l roots Cl B 0 B false:=⟨h,fun _=>⟨rfl,fun j _ hj=>absurd hj (Nat.not_lt_zero j)⟩,fun h=>(by cases h)⟩
variable {B0:List Bool}{i:Nat}{ch:Bool}
theorem Xc.set(h:Xc l roots Cl B0 i B ch)(hc:sn l roots Cl)(hi:i<l.length)(hr:HE l roots B l[i] l.length=true)(hb:∀zO:i<B.length,B[i]=false):Xc l roots Cl B0 (i+1) (B.set i true) true:=by
 have zO:i<B.length:=by rw[h.snd.len];exact hi
 have Fp:=YY zO (hb zO);refine⟨h.snd.set hi (h.snd.part hc (Aq _) hr),fun h=>(by cases h),fun _=>?_⟩;cases ch with
 |true=>have:=h.yes rfl;omega
 |false=>grind [Xc.no]
theorem Xc.keep(h:Xc l roots Cl B0 i B ch)(hi:i<l.length)(hk:HE l roots B l[i] l.length=true->B[i]?=some true):Xc l roots Cl B0 (i+1) B ch:=
 ⟨h.snd,fun hf=>⟨(h.no hf).1,fun j hj He hr=>by
  grind [Xc.no]⟩,h.yes⟩
structure lX(l:List Rl)(roots:List Rq)(Cl:List ByteArray)(B:List Bool)(ch:Bool):Prop where
 snd:g8 l Cl B
 no:ch=false->∀j (h:j<l.length),HE l roots B l[j] l.length=true->B[j]?=some true
theorem Xc.out(h:Xc l roots Cl B0 i B ch)(hi:l.length<=i):lX l roots Cl B ch:=⟨h.snd,fun hf j hj hr=>(h.no hf).2 j hj aa0 hr⟩
theorem Xc.mu(h:Xc l roots Cl B0 i B ch):2*WO B+(if ch then 1 else 0)<2*WO B0+1:=by
 cases ch with
 |true=>have:=h.yes rfl;simp_all
 |false=>grind [Xc.no]
theorem lX.fin(h:lX l roots Cl B false)(nU:∀D:List ByteArray,(∀q∈roots,q.path∈D)->(∀r∈l,r.path∈D->∀q∈r.reqs,q.path∈D)->∀p∈Cl,p∈D)
  (Qw:∀q,q∈roots\/(∃r∈l,q∈r.reqs)->∀r∈l,q.path=r.path->has q.set (plc r.ver)=true) (hn:(l.map (·.path)).Nodup) (Pf:∀q,q∈roots\/(∃r∈l,q∈r.reqs)->∃r∈l,r.path=q.path) :
  ∀j (hj:j<l.length),B[j]?=some (S5 Cl l[j].path):=by
 have Acb:∀(m:List Rq) (i:Rl),i∈l->(∀q∈m,q∈roots\/∃r∈l,q∈r.reqs)->∀q∈m,q.path=i.path->Ga m i=true:=fun m i hi hm q hq e=>by
  refine BQ.2 ⟨q,hq,?_⟩
  grind [G8]
 let D:List ByteArray:=((List.range l.length).filter fun k=>B.getD k false).filterMap fun k=>(l[k]?).map (·.path)
 have hD:∀j (hj:j<l.length),B[j]?=some true->l[j].path∈D:=fun j hj hb=>by
  refine List.mem_filterMap.2 ⟨j,DF.2 ⟨GU.2 hj,?_⟩,by simp_all⟩;simp_all
 have y8:∀j (hj:j<l.length),l[j].path∈D->B[j]?=some true:=fun j hj hm=>by
  obtain⟨k,hk,e⟩:=List.mem_filterMap.1 hm;obtain⟨h1,h2⟩:=DF.1 hk;have pF:=GU.1 h1;rw[Ge pF]at e;have e:l[k].path=l[j].path:=DY e
  have:k=j:=(List.getElem_inj (xs:=l.map (·.path)) (h₀:=by simp_all) (h₁:=by simp_all) hn).1 (by simp_all)
  grind
 have ff:=nU D (fun q hq=>by
   grind [List.getElem_of_mem,HE,lX.no])
  (fun r hr hp q hq=>by
   obtain⟨k,hk,rfl⟩:=Ev hr;have hkb:=y8 k hk hp;obtain⟨r2,rk,e⟩:=Pf q (.inr ⟨_,hr,hq⟩);obtain⟨j,hj,rfl⟩:=Ev rk;rw[<-e];refine hD j hj (h.no rfl j hj ?_);unfold HE;rw[Gp];right;refine BQ.2 ⟨k,GU.2 hk,?_⟩
   grind)
 intro j hj;have hjB:j<B.length:=by rw[h.snd.len];exact hj
 cases hc:S5 Cl l[j].path with
 |true=>exact y8 j hj (ff _ (IH.1 hc))
 |false=>
  rw[Ge hjB];cases hb:B[j]with
  |false=>rfl
  |true=>
   have:=IH.2 (h.snd.snd j hj (by simp_all))
   grind [S5]
end
theorem lX.start{l:List Rl}{roots:List Rq}{Cl:List ByteArray}:lX l roots Cl (List.replicate l.length false) true:=⟨⟨by simp,fun k hk h=>by simp_all⟩,fun h=>by cases h⟩
theorem c93(l:List Rl)(ifs:List (List AV))(roots:List Rq)(Cl:List ByteArray)(hc:sn l roots Cl)(nU:∀D:List ByteArray,(∀q∈roots,q.path∈D)->(∀r∈l,r.path∈D->∀q∈r.reqs,q.path∈D)->∀p∈Cl,p∈D)
  (Qw:∀q,q∈roots\/(∃r∈l,q∈r.reqs)->∀r∈l,q.path=r.path->has q.set (plc r.ver)=true) (hn:(l.map (·.path)).Nodup) (Pf:∀q,q∈roots\/(∃r∈l,q∈r.reqs)->∃r∈l,r.path=q.path)
  (h0:AD l=0) (hx:∀r∈l,F3 r) (UQ:∀q∈roots,BB q.set) (GH:roots.length<=1000000):PC 204 [.agg (Ic l ifs),sl Ad roots] (sl Ae ((l.filter fun r=>S5 Cl r.path).map Cn)):=by
 have h67:=sq l ifs hx;rw[h0]at h67;have hl:=(Fs h0).1;have hv:∀r∈l,Bo r.ver=true:=fun r hr=>((D0 h0).1 r hr).val;refine Ps ⟨[],[],[(18,1)],[],[],[],[],[],[],[],[4,9,11,13,16,21,23]⟩ Tryz.func204 rfl (Nz rfl) (yN (Xi .pure (Xi _ (Yi h67 (Yi (fun h=>absurd h aa2) (fun _=>?_))))));refine Yi (show(0:Int)<=(l.map Ak).length/\((l.map Ak).length:Int)<=(l.map Ak).length/\((l.map Ak).length:Int)*1<=140737488355328/\((l.map Ak).length:Int)<=9223372036854775807 by grind) (cU [(1,sl Ad roots),(2,.ref 2 0),(5,.msl 18 ((List.replicate ((l.map Ak).length:Int).toNat [vb false]):List (List AV)).length)] [(2,.cells (Ic l ifs)),(18,.arr 1 (List.replicate ((l.map Ak).length:Int).toNat [vb false]))] Z3 Z2 (Xi {q:List Bool×Bool // lX l roots Cl q.1 q.2} (Xi (fun q=>⟨[(1,sl Ad roots),(2,.ref 2 0),(5,.msl 18 q.1.1.length),(6,vb q.1.2)],[(2,.cells (Ic l ifs)),(18,.arr 1 (q.1.1.map CL))],Af⟩) (Xi (fun q=>2*WO q.1.1+(if q.1.2 then 1 else 0)) (Yi (Xi ⟨(List.replicate l.length false,true),lX.start⟩ ?_) ?_)))))
 .exact⟨⟨Zr,Zr,⟨(show AV.msl 18 (List.replicate ((l.map Ak).length:Int).toNat [vb false]).length=.msl 18 (List.replicate l.length false).length by simp),rfl⟩,Zr,Tv⟩,⟨Zr,⟨(show HO.arr 1 (List.replicate ((l.map Ak).length:Int).toNat [vb false])=.arr 1 ((List.replicate l.length false).map CL) by simp),rfl⟩,Tv⟩,Fh,Tv⟩
 intro⟨⟨B,ch⟩,o⟩;have o:lX l roots Cl B ch:=o;have ur:=o.snd.len;refine AG (Bt ch) (fun h1=>?_) (fun h1=>?_)
 .have h1:ch=true:=h1;refine Lz (Aa (fun bb=>(⟨[(1,sl Ad roots),(2,.ref 2 0),(5,.msl 18 B.length),(6,vb bb)],[(2,.cells (Ic l ifs)),(18,.arr 1 (B.map CL))],Af⟩:LS)) h1) (Xi {q:Nat×List Bool×Bool // q.1<=l.length/\Xc l roots Cl B q.1 q.2.1 q.2.2} (Xi (fun q=>⟨[(1,sl Ad roots),(2,.ref 2 0),(5,.msl 18 q.1.2.1.length),(6,vb q.1.2.2),(7,vi q.1.1)],[(2,.cells (Ic l ifs)),(18,.arr 1 (q.1.2.1.map CL))],Af⟩) (Xi (fun q=>l.length-q.1.1) (Yi (Xi ⟨(0,B,false),Ao _,Xc.start o.snd⟩ ?_) ?_))))
  .exact⟨Z5,Z2,Fh,Tv⟩
  intro⟨⟨i,B1,Ql⟩,i1,lw⟩;have i1:i<=l.length:=i1;have lw:Xc l roots Cl B i B1 Ql:=lw;have hB1:=lw.snd.len;refine Yi (fun h2=>?_) (fun h2=>?_)
  .have h2:(i:Int)<((l.map Ak).length:Int):=h2;have n2:i<l.length:=by simp_all
   have g2:l[i]?=some l[i]:=Ge n2;have ni:i<l.length:=by omega
   have mi:i<B1.length:=by omega
   have wG:B1[i]?=some B1[i]:=Ge mi;refine Xi (Ak l[i]) (Yi (Yi (Nn i) (AM g2)) (Yi rfl (yN (AG (Bt (Ga roots l[i])) (fun h3=>?_) (fun h3=>?_)))))
   .have h3:(Ga roots l[i])=true:=h3;have cr:=dO roots l[i] GH UQ (hv _ (Ah ni));rw[show Ga roots l[i]=true from h3]at cr;refine Xi .pure (Xi _ (Yi cr (cU [(1,sl Ad roots),(2,.ref 2 0),(5,.msl 18 B1.length),(6,vb Ql),(7,vi i),(8,vb true)] [(2,.cells (Ic l ifs)),(18,.arr 1 (B1.map CL))] Z6 Z2 (Xi {q:Nat×Bool // q.1<=l.length/\q.2=HE l roots B1 l[i] q.1} (Xi (fun q=>⟨[(1,sl Ad roots),(2,.ref 2 0),(5,.msl 18 B1.length),(6,vb Ql),(7,vi i),(8,vb q.1.2),(9,vi q.1.1)],[(2,.cells (Ic l ifs)),(18,.arr 1 (B1.map CL))],Af⟩) (Xi (fun q=>l.length-q.1.1) (Yi (Xi ⟨(0,true),Ao _,by grind [Tb]⟩ ?_) ?_)))))))
    .exact⟨Z7,Z2,Fh,Tv⟩
    intro⟨⟨k,b⟩,k1,hb⟩;have k1:k<=l.length:=k1;have hb:b=HE l roots B1 l[i] k:=hb;refine AG (Bt b) (fun h5=>?_) (fun h5=>?_)
    .have h5:b=true:=h5;refine Lz (Aa (fun bb=>(⟨[(1,sl Ad roots),(2,.ref 2 0),(5,.msl 18 B1.length),(6,vb Ql),(7,vi i),(8,vb bb),(9,vi k)],[(2,.cells (Ic l ifs)),(18,.arr 1 (B1.map CL))],Af⟩:LS)) h5) (Yi (fun h6=>?_) (fun h6=>?_))
     .have h6:(k:Int)<((l.map Ak).length:Int):=h6;have n6:k<l.length:=by simp_all
      have g6:l[k]?=some l[k]:=Ge n6;have nk:k<l.length:=by omega
      have mk:k<B1.length:=by omega
      have ud:B1[k]?=some B1[k]:=Ge mk;refine Yi aa3 (cU [(1,sl Ad roots),(2,.ref 2 0),(5,.msl 18 B1.length),(6,vb Ql),(7,vi i),(8,vb true),(9,vi k)] [(2,.cells (Ic l ifs)),(18,.arr 1 (B1.map CL))] Z7 Z2 (Yi (by grind [Al]) (Xi ⟨(k+1,true),by omega,by grind [Gy]⟩ ?_)));exact⟨by grind,Z7,Z2,Fh,Tv⟩
     have h6:¬((k:Int)<((l.map Ak).length:Int)):=h6;have n6:¬k<l.length:=by simp_all
     refine Yi aa0 (Yi (show B1.length=(B1.map CL).length by simp) (Xi (CL B1[i]) (Yi (AM wG) (Yi (fun h8=>?_) (fun h8=>?_)))))
     .have h8:B1[i]=true:=h8;refine cU [(1,sl Ad roots),(2,.ref 2 0),(5,.msl 18 B1.length),(6,vb Ql),(7,vi i)] [(2,.cells (Ic l ifs)),(18,.arr 1 (B1.map CL))] Z5 Z2 (Yi (by grind [Al]) (Xi ⟨(i+1,B1,Ql),by omega,lw.keep ni (fun _=>by simp_all)⟩ ?_));exact⟨by grind,Z5,Z2,Fh,Tv⟩
     have h8:B1[i]=false:=h8;refine cU [(1,sl Ad roots),(2,.ref 2 0),(5,.msl 18 B1.length),(7,vi i)] [(2,.cells (Ic l ifs)),(18,.arr 1 (B1.map CL))] Z4 Z2 (Yi aa0 (Yi (show B1.length=(B1.map CL).length by simp) (Xi (CL B1[i]) (Yi (AM wG) (yN (cU [(1,sl Ad roots),(2,.ref 2 0),(5,.msl 18 B1.length),(6,vb true),(7,vi i)] [(2,.cells (Ic l ifs)),(18,.arr 1 ((B1.map CL).set i [vb true]))] Z5 Z2 (Yi (by grind [Al]) (Xi ⟨(i+1,B1.set i true,true),by omega,lw.set hc ni (show HE l roots B1 l[i] l.length=true by grind) (fun _=>h8)⟩ ?_))))))));exact⟨by grind,⟨Zr,Zr,⟨(show AV.msl 18 B1.length=.msl 18 (B1.set i true).length by simp_all),rfl⟩,Zr,Zr,Tv⟩,⟨Zr,⟨(show HO.arr 1 ((B1.map CL).set i [vb true])=.arr 1 ((B1.set i true).map CL) by simp_all),rfl⟩,Tv⟩,Fh,Tv⟩
    have h5:b=false:=h5;refine Lz (Aa (fun bb=>(⟨[(1,sl Ad roots),(2,.ref 2 0),(5,.msl 18 B1.length),(6,vb Ql),(7,vi i),(8,vb bb),(9,vi k)],[(2,.cells (Ic l ifs)),(18,.arr 1 (B1.map CL))],Af⟩:LS)) h5) (Yi (fun Hd=>?_) (fun Hd=>?_))
    .have Hd:(k:Int)<((l.map Ak).length:Int):=Hd;have n11:k<l.length:=by simp_all
     have g11:l[k]?=some l[k]:=Ge n11;have nk:k<l.length:=by omega
     have mk:k<B1.length:=by omega
     have ud:B1[k]?=some B1[k]:=Ge mk;refine Yi aa0 (Yi (show B1.length=(B1.map CL).length by simp) (Xi (CL B1[k]) (Yi (AM ud) (Yi (fun HX=>?_) (fun HX=>?_)))))
     .have HX:B1[k]=true:=HX;refine Xi (Ak l[k]) (Yi (Yi (Nn k) (AM g11)) (Yi rfl (Xi (Ak l[i]) (Yi (Yi (Nn i) (AM g2)) (Yi rfl (yN (AG (Bt (Ga l[k].reqs l[i])) (fun cn=>?_) (fun cn=>?_))))))))
      .have cn:(Ga l[k].reqs l[i])=true:=cn;have Yf:=dO l[k].reqs l[i] (by grind [Fs]) (fun q hq=>((hx _ (Ah nk)).2 q hq).1) (hv _ (Ah ni));rw[show Ga l[k].reqs l[i]=true from cn]at Yf;refine Xi _ (Yi Yf (Yi aa3 (cU [(1,sl Ad roots),(2,.ref 2 0),(5,.msl 18 B1.length),(6,vb Ql),(7,vi i),(8,vb true),(9,vi k)] [(2,.cells (Ic l ifs)),(18,.arr 1 (B1.map CL))] Z7 Z2 (Yi (by grind [Al]) (Xi ⟨(k+1,true),by omega,by grind [Gy]⟩ ?_)))));exact⟨Dl l.length k aa0,Z7,Z2,Fh,Tv⟩
      have cn:(Ga l[k].reqs l[i])=false:=cn;have jA:=dO l[k].reqs l[i] (by grind [Fs]) (fun q hq=>((hx _ (Ah nk)).2 q hq).1) (hv _ (Ah ni));rw[show Ga l[k].reqs l[i]=false from cn]at jA;refine Xi _ (Yi jA (Yi aa3 (cU [(1,sl Ad roots),(2,.ref 2 0),(5,.msl 18 B1.length),(6,vb Ql),(7,vi i),(8,vb false),(9,vi k)] [(2,.cells (Ic l ifs)),(18,.arr 1 (B1.map CL))] Z7 Z2 (Yi (by grind [Al]) (Xi ⟨(k+1,false),by omega,by grind [Gy]⟩ ?_)))));exact⟨Dl l.length k aa0,Z7,Z2,Fh,Tv⟩
     have HX:B1[k]=false:=HX;refine Yi aa3 (cU [(1,sl Ad roots),(2,.ref 2 0),(5,.msl 18 B1.length),(6,vb Ql),(7,vi i),(8,vb false),(9,vi k)] [(2,.cells (Ic l ifs)),(18,.arr 1 (B1.map CL))] Z7 Z2 (Yi (by grind [Al]) (Xi ⟨(k+1,false),by omega,by grind [Gy]⟩ ?_)));exact⟨Dl l.length k aa0,Z7,Z2,Fh,Tv⟩
    have Hd:¬((k:Int)<((l.map Ak).length:Int)):=Hd;have n11:¬k<l.length:=by simp_all
    refine cU [(1,sl Ad roots),(2,.ref 2 0),(5,.msl 18 B1.length),(6,vb Ql),(7,vi i)] [(2,.cells (Ic l ifs)),(18,.arr 1 (B1.map CL))] Z5 Z2 (Yi (by grind [Al]) (Xi ⟨(i+1,B1,Ql),by omega,lw.keep ni (fun h=>by grind)⟩ ?_));exact⟨Dl l.length i aa0,Z5,Z2,Fh,Tv⟩
   have h3:(Ga roots l[i])=false:=h3;have Yh:=dO roots l[i] GH UQ (hv _ (Ah ni));rw[show Ga roots l[i]=false from h3]at Yh;refine Xi .pure (Xi _ (Yi Yh (cU [(1,sl Ad roots),(2,.ref 2 0),(5,.msl 18 B1.length),(6,vb Ql),(7,vi i),(8,vb false)] [(2,.cells (Ic l ifs)),(18,.arr 1 (B1.map CL))] Z6 Z2 (Xi {q:Nat×Bool // q.1<=l.length/\q.2=HE l roots B1 l[i] q.1} (Xi (fun q=>⟨[(1,sl Ad roots),(2,.ref 2 0),(5,.msl 18 B1.length),(6,vb Ql),(7,vi i),(8,vb q.1.2),(9,vi q.1.1)],[(2,.cells (Ic l ifs)),(18,.arr 1 (B1.map CL))],Af⟩) (Xi (fun q=>l.length-q.1.1) (Yi (Xi ⟨(0,false),Ao _,by grind [Tb]⟩ ?_) ?_)))))))
   .exact⟨Z7,Z2,Fh,Tv⟩
   intro⟨⟨k,b⟩,k1,hb⟩;have k1:k<=l.length:=k1;have hb:b=HE l roots B1 l[i] k:=hb;refine AG (Bt b) (fun Wn=>?_) (fun Wn=>?_)
   .have Wn:b=true:=Wn;refine Lz (Aa (fun bb=>(⟨[(1,sl Ad roots),(2,.ref 2 0),(5,.msl 18 B1.length),(6,vb Ql),(7,vi i),(8,vb bb),(9,vi k)],[(2,.cells (Ic l ifs)),(18,.arr 1 (B1.map CL))],Af⟩:LS)) Wn) (Yi (fun Wo=>?_) (fun Wo=>?_))
    .have Wo:(k:Int)<((l.map Ak).length:Int):=Wo;have n22:k<l.length:=by simp_all
     have g22:l[k]?=some l[k]:=Ge n22;have nk:k<l.length:=by omega
     have mk:k<B1.length:=by omega
     have ud:B1[k]?=some B1[k]:=Ge mk;refine Yi aa3 (cU [(1,sl Ad roots),(2,.ref 2 0),(5,.msl 18 B1.length),(6,vb Ql),(7,vi i),(8,vb true),(9,vi k)] [(2,.cells (Ic l ifs)),(18,.arr 1 (B1.map CL))] Z7 Z2 (Yi (by grind [Al]) (Xi ⟨(k+1,true),by omega,by grind [Gy]⟩ ?_)));exact⟨by grind,Z7,Z2,Fh,Tv⟩
    have Wo:¬((k:Int)<((l.map Ak).length:Int)):=Wo;have n22:¬k<l.length:=by simp_all
    refine Yi aa0 (Yi (show B1.length=(B1.map CL).length by simp) (Xi (CL B1[i]) (Yi (AM wG) (Yi (fun Wp=>?_) (fun Wp=>?_)))))
    .have Wp:B1[i]=true:=Wp;refine cU [(1,sl Ad roots),(2,.ref 2 0),(5,.msl 18 B1.length),(6,vb Ql),(7,vi i)] [(2,.cells (Ic l ifs)),(18,.arr 1 (B1.map CL))] Z5 Z2 (Yi (by grind [Al]) (Xi ⟨(i+1,B1,Ql),by omega,lw.keep ni (fun _=>by simp_all)⟩ ?_));exact⟨by grind,Z5,Z2,Fh,Tv⟩
    have Wp:B1[i]=false:=Wp;refine cU [(1,sl Ad roots),(2,.ref 2 0),(5,.msl 18 B1.length),(7,vi i)] [(2,.cells (Ic l ifs)),(18,.arr 1 (B1.map CL))] Z4 Z2 (Yi aa0 (Yi (show B1.length=(B1.map CL).length by simp) (Xi (CL B1[i]) (Yi (AM wG) (yN (cU [(1,sl Ad roots),(2,.ref 2 0),(5,.msl 18 B1.length),(6,vb true),(7,vi i)] [(2,.cells (Ic l ifs)),(18,.arr 1 ((B1.map CL).set i [vb true]))] Z5 Z2 (Yi (by grind [Al]) (Xi ⟨(i+1,B1.set i true,true),by omega,lw.set hc ni (show HE l roots B1 l[i] l.length=true by grind) (fun _=>Wp)⟩ ?_))))))));exact⟨by grind,⟨Zr,Zr,⟨(show AV.msl 18 B1.length=.msl 18 (B1.set i true).length by simp_all),rfl⟩,Zr,Zr,Tv⟩,⟨Zr,⟨(show HO.arr 1 ((B1.map CL).set i [vb true])=.arr 1 ((B1.set i true).map CL) by simp_all),rfl⟩,Tv⟩,Fh,Tv⟩
   have Wn:b=false:=Wn;refine Lz (Aa (fun bb=>(⟨[(1,sl Ad roots),(2,.ref 2 0),(5,.msl 18 B1.length),(6,vb Ql),(7,vi i),(8,vb bb),(9,vi k)],[(2,.cells (Ic l ifs)),(18,.arr 1 (B1.map CL))],Af⟩:LS)) Wn) (Yi (fun jt=>?_) (fun jt=>?_))
   .have jt:(k:Int)<((l.map Ak).length:Int):=jt;have n27:k<l.length:=by simp_all
    have g27:l[k]?=some l[k]:=Ge n27;have nk:k<l.length:=by omega
    have mk:k<B1.length:=by omega
    have ud:B1[k]?=some B1[k]:=Ge mk;refine Yi aa0 (Yi (show B1.length=(B1.map CL).length by simp) (Xi (CL B1[k]) (Yi (AM ud) (Yi (fun ju=>?_) (fun ju=>?_)))))
    .have ju:B1[k]=true:=ju;refine Xi (Ak l[k]) (Yi (Yi (Nn k) (AM g27)) (Yi rfl (Xi (Ak l[i]) (Yi (Yi (Nn i) (AM g2)) (Yi rfl (yN (AG (Bt (Ga l[k].reqs l[i])) (fun co=>?_) (fun co=>?_))))))))
     .have co:(Ga l[k].reqs l[i])=true:=co;have uK:=dO l[k].reqs l[i] (by grind [Fs]) (fun q hq=>((hx _ (Ah nk)).2 q hq).1) (hv _ (Ah ni));rw[show Ga l[k].reqs l[i]=true from co]at uK;refine Xi _ (Yi uK (Yi aa3 (cU [(1,sl Ad roots),(2,.ref 2 0),(5,.msl 18 B1.length),(6,vb Ql),(7,vi i),(8,vb true),(9,vi k)] [(2,.cells (Ic l ifs)),(18,.arr 1 (B1.map CL))] Z7 Z2 (Yi (by grind [Al]) (Xi ⟨(k+1,true),by omega,by grind [Gy]⟩ ?_)))));exact⟨Dl l.length k aa0,Z7,Z2,Fh,Tv⟩
     have co:(Ga l[k].reqs l[i])=false:=co;have uL:=dO l[k].reqs l[i] (by grind [Fs]) (fun q hq=>((hx _ (Ah nk)).2 q hq).1) (hv _ (Ah ni));rw[show Ga l[k].reqs l[i]=false from co]at uL;refine Xi _ (Yi uL (Yi aa3 (cU [(1,sl Ad roots),(2,.ref 2 0),(5,.msl 18 B1.length),(6,vb Ql),(7,vi i),(8,vb false),(9,vi k)] [(2,.cells (Ic l ifs)),(18,.arr 1 (B1.map CL))] Z7 Z2 (Yi (by grind [Al]) (Xi ⟨(k+1,false),by omega,by grind [Gy]⟩ ?_)))));exact⟨Dl l.length k aa0,Z7,Z2,Fh,Tv⟩
    have ju:B1[k]=false:=ju;refine Yi aa3 (cU [(1,sl Ad roots),(2,.ref 2 0),(5,.msl 18 B1.length),(6,vb Ql),(7,vi i),(8,vb false),(9,vi k)] [(2,.cells (Ic l ifs)),(18,.arr 1 (B1.map CL))] Z7 Z2 (Yi (by grind [Al]) (Xi ⟨(k+1,false),by omega,by grind [Gy]⟩ ?_)));exact⟨Dl l.length k aa0,Z7,Z2,Fh,Tv⟩
   have jt:¬((k:Int)<((l.map Ak).length:Int)):=jt;have n27:¬k<l.length:=by simp_all
   refine cU [(1,sl Ad roots),(2,.ref 2 0),(5,.msl 18 B1.length),(6,vb Ql),(7,vi i)] [(2,.cells (Ic l ifs)),(18,.arr 1 (B1.map CL))] Z5 Z2 (Yi (by grind [Al]) (Xi ⟨(i+1,B1,Ql),by omega,lw.keep ni (fun h=>by grind)⟩ ?_));exact⟨Dl l.length i aa0,Z5,Z2,Fh,Tv⟩
  have h2:¬((i:Int)<((l.map Ak).length:Int)):=h2;have n2:¬i<l.length:=by simp_all
  refine Xi ⟨(B1,Ql),lw.out aa0⟩ ?_;exact⟨by have q:=lw.mu;simp_all,Z4,Z2,Fh,Tv⟩
 have h1:ch=false:=h1;have AeR:=lX.fin (h1▸o) nU Qw hn Pf;refine Lz (Aa (fun bb=>(⟨[(1,sl Ad roots),(2,.ref 2 0),(5,.msl 18 B.length),(6,vb bb)],[(2,.cells (Ic l ifs)),(18,.arr 1 (B.map CL))],Af⟩:LS)) h1) (Xi {q:Nat×List Sl // q.1<=l.length/\q.2=((l.take q.1).filter fun r=>S5 Cl r.path).map Cn} (Xi (fun q=>⟨[(2,.ref 2 0),(5,.msl 18 B.length),(10,.slice (.id 73 4) (q.1.2.map Ae)),(11,vi q.1.1)],[(2,.cells (Ic l ifs)),(18,.arr 1 (B.map CL)),(73,.tok 4 q.1.2.length)],Af⟩) (Xi (fun q=>l.length-q.1.1) (Yi (Xi ⟨(0,[]),Ao _,rfl⟩ ?_) ?_))))
 .exact⟨Z4,Z3,Fh,Tv⟩
 intro⟨⟨j,O⟩,j1,j2⟩;have j1:j<=l.length:=j1;have j2:O=((l.take j).filter fun r=>S5 Cl r.path).map Cn:=j2;have hO:O.length<=j:=by
  grind
 refine Yi (fun gP=>?_) (fun gP=>?_)
 .have gP:(j:Int)<((l.map Ak).length:Int):=gP;have n37:j<l.length:=by simp_all
  have g37:l[j]?=some l[j]:=Ge n37;have nj:j<l.length:=by omega
  have mj:j<B.length:=by omega
  have gbj:B[j]?=some B[j]:=Ge mj;refine Yi (by simp_all) ?_;refine Yi (show B.length=(B.map CL).length by simp) (Xi (CL B[j]) (Yi (AM gbj) (Yi (fun ui=>?_) (fun ui=>?_))))
  .have ui:B[j]=true:=ui;refine cU [(2,.ref 2 0),(5,.msl 18 B.length),(10,.slice (.id 73 4) (O.map Ae)),(11,vi j)] [(2,.cells (Ic l ifs)),(18,.arr 1 (B.map CL)),(73,.tok 4 O.length)] Z4 Z3 (Xi (Ak l[j]) (Yi (Yi (Nn j) (AM g37)) (Yi rfl (Xi (Ak l[j]) (Yi (Yi (Nn j) (AM g37)) (Yi rfl (yN ?_)))))));have b39:AZ 4 [[vs l[j].path,vi l[j].ver.a,vi l[j].ver.b,vi l[j].ver.c]]/\(O.map Ae).length=O.length/\((O.map Ae).length+([[vs l[j].path,vi l[j].ver.a,vi l[j].ver.b,vi l[j].ver.c]]:List (List AV)).length)*40<=140737488355328/\(O.map Ae).length+([[vs l[j].path,vi l[j].ver.a,vi l[j].ver.b,vi l[j].ver.c]]:List (List AV)).length<=9223372036854775807:=⟨⟨rfl,trivial⟩,aa1,(by grind),(by grind)⟩;refine Yi b39 (Yi aa3 (cU [(2,.ref 2 0),(5,.msl 18 B.length),(10,.slice (.id 73 4) ((O.map Ae)++[[vs l[j].path,vi l[j].ver.a,vi l[j].ver.b,vi l[j].ver.c]])),(11,vi j)] [(2,.cells (Ic l ifs)),(18,.arr 1 (B.map CL)),(73,.tok 4 ((O.map Ae).length+([[vs l[j].path,vi l[j].ver.a,vi l[j].ver.b,vi l[j].ver.c]]:List (List AV)).length))] Z4 Z3 (Yi (by grind [Al]) (Xi ⟨(j+1,(O++[Cn l[j]])),by omega,by show(O++[Cn l[j]])=((l.take (j+1)).filter _).map Cn;rw[B9,Ge nj,CG,AB,<-j2];simp_all⟩ ?_))));exact⟨Dl l.length j aa0,⟨Zr,Zr,⟨(show AV.slice (.id 73 4) (O.map Ae++[Ae (Cn l[j])])=.slice (.id 73 4) ((O++[Cn l[j]]).map Ae) by simp),rfl⟩,Zr,Tv⟩,⟨Zr,Zr,⟨(show HO.tok 4 ((O.map Ae).length+([Ae (Cn l[j])]:List (List AV)).length)=.tok 4 (O++[Cn l[j]]).length by simp),rfl⟩,Tv⟩,Fh,Tv⟩
  have ui:B[j]=false:=ui;refine cU [(2,.ref 2 0),(5,.msl 18 B.length),(10,.slice (.id 73 4) (O.map Ae)),(11,vi j)] [(2,.cells (Ic l ifs)),(18,.arr 1 (B.map CL)),(73,.tok 4 O.length)] Z4 Z3 (Yi (by grind [Al]) (Xi ⟨(j+1,O),by omega,by show O=((l.take (j+1)).filter _).map Cn;rw[B9,Ge nj,CG,AB,<-j2];simp_all⟩ ?_));exact⟨Dl l.length j aa0,Z4,Z3,Fh,Tv⟩
 have gP:¬((j:Int)<((l.map Ak).length:Int)):=gP;have n37:¬j<l.length:=by simp_all
 exact .of_eq (Aa (sl Ae) (show O=(l.filter fun r=>S5 Cl r.path).map Cn by grind))
end Go.Eng
