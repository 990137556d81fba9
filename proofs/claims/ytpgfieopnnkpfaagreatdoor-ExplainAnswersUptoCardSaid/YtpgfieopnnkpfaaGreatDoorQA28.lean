/- Lemmas 28. -/
import Derived.Test.YtpgfieopnnkpfaaGreatDoorQA27
set_option maxHeartbeats 4000000
namespace Go.Eng
open Go.Proofs
variable {α:Type}{f:α->List AV}{p:ByteArray}{n:Int}{i:Nat}{b:Bool}{e:Int}{v:Ver}{r:Rl}(x:List Rl)(ifs:List (List AV))(own:List Nf)(D:List (List Tm))(roots:List Rq)(y:Sl)(s:List Sl)(l:List Nf)
theorem oN(q:Rq)(h:0<=n/\n<1000000):BM [⟨p,false,XE n⟩,⟨q.path,true,BJ q.set⟩]=Cb p n q:=by
 grind [Cb,JN,kP,XN,nJ]
theorem rX{x:List Rl}(h:Dd x p n=some r):r∈x/\plc r.ver=n:=by
 have h1:=Jr h;simp only[Au,Bg]at h1;exact⟨Cw h,h1.2⟩
abbrev SM(d:List (List Tm))(i:Nf):AV:=.tup [sl Ac (Fr x roots d i),vb (AP x roots d i).isSome]
section
variable {x:List Rl}{roots:List Rq}{d:List (List Tm)}{i:Nf}
theorem Gc(h:AP x roots d i=none)(h2:i.kind≠2):DC (.tup [nzA,vb false]) (SM x roots d i):=
 (show DC (.tup [nzA,vb false]) (.tup [.slice .none [],vb false])from DC.tup ⟨.nil,.refl _,trivial⟩).trans (.of_eq (show AV.tup [.slice .none [],vb false]=SM x roots d i by grind [Yu]))
theorem Yt{t:List Tm}(h:AP x roots d i=none)(h2:i.kind≠2)(ht:t=[]):DC (.tup [sl Ac t,vb false]) (SM x roots d i):=
 .of_eq (show AV.tup [sl Ac t,vb false]=SM x roots d i by grind [Yu])
theorem SN{t:List Tm}(h:AP x roots d i=some t)(h2:i.kind≠2):DC (.tup [sl Ac t,vb true]) (SM x roots d i):=
 .of_eq (show AV.tup [sl Ac t,vb true]=SM x roots d i by grind [kf])
theorem rC(h2:i.kind=2)(hb:b=false)(h:AP x roots d i=none):DC (.tup [sl Ac (Gg i.path (B3 x i.path)),vb b]) (SM x roots d i):=
 .of_eq (show AV.tup [sl Ac (Gg i.path (B3 x i.path)),vb b]=SM x roots d i by grind [Fr])
theorem og(h2:i.kind=2)(h:AP x roots d i=some (Gg i.path (B3 x i.path))):DC (.tup [sl Ac (Gg i.path (B3 x i.path)),vb true]) (SM x roots d i):=
 .of_eq (show AV.tup [sl Ac (Gg i.path (B3 x i.path)),vb true]=SM x roots d i by grind [Fr])
theorem c38(x:List Rl)(ifs:List (List AV))(roots:List Rq)(d:List (List Tm))(i:Nf)(h0:AD x=0)(hx:∀r∈x,F3 r)(pM:∀q∈roots,BB q.set)(uU:∀t∈d,Xo t):PC 114 [.agg (Ic x ifs),sl Ad roots,.agg (Aj i),sl Ap d] (SM x roots d i):=by
 have hxf:BB x:=by grind [Fs]
 have hv:∀r∈x,Bo r.ver=true:=fun r hr=>((D0 h0).1 r hr).val;have hxq:∀r∈x,∀q∈r.reqs,BB q.set:=fun r hr q hq=>((hx r hr).2 q hq).1;refine Ps (pC [] [3,6,7,10,11,12,13,14,17,20,22,23,24,25]) Tryz.func114 rfl (Nz rfl) (yN (cU [(1,sl Ad roots),(3,sl Ap d),(4,.ref 4 0),(6,.ref 6 0),(10,.ref 10 0),(21,vi i.kind)] [(4,.cells (Ic x ifs)),(6,.cells (Aj i)),(10,.cells [vi i.kind,vs ⟨#[]⟩,vi 0,vi 0,vi 0,vi 0])] Z6 Z3 (Yi (fun h1=>?_) (fun h1=>?_))))
 .have h1:(i.kind:Int)=(0:Int):=h1;refine yN (yN (yN (Yi (fun h2=>?_) (fun h2=>?_))))
  .have h2:(i.kind:Int)=i.kind/\(i.path:ByteArray)=⟨#[]⟩/\(i.place:Int)=0/\(i.number:Int)=i.number/\(i.left:Int)=0/\(i.right:Int)=0/\True:=h2;refine Yi (fun h3=>?_) (fun h3=>?_)
   .have h3:(i.number:Int)<(0:Int):=h3;refine cU [] [] Tv Tv ?_
    exact Gc (show AP x roots d i=none by rw[od h1,AE ⟨h2.2.1,h2.2.2.1,h2.2.2.2.2.1,h2.2.2.2.2.2.1⟩];rw[OV h3];rfl) aa0
   have h3:¬((i.number:Int)<(0:Int)):=h3;refine Yi (fun h5=>?_) (fun h5=>?_)
   .have h5:((roots.map Ad).length:Int)<=(i.number:Int):=h5;refine cU [] [] Tv Tv ?_
    exact Gc (show AP x roots d i=none by rw[od h1,AE ⟨h2.2.1,h2.2.2.1,h2.2.2.2.2.1,h2.2.2.2.2.2.1⟩];rw[OT (by simpa using h5)];rfl) aa0
   have h5:¬(((roots.map Ad).length:Int)<=(i.number:Int)):=h5;have hnq:¬((roots.length:Nat):Int)<=i.number:=by simpa using h5
   refine Am (OU h3 hnq) (fun q rj=>?_);have hq:=rj.1;have hqg:=rj.2.1;have pL:=rj.2.2;refine cU [(1,sl Ad roots),(6,.ref 6 0)] [(6,.cells (Aj i))] Z2 Z1 (Xi (Ad q) (Yi (Yi (show(0:Int)<=i.number by omega) (AM hqg)) (Yi rfl (yN (Xi .pure (Xi _ (Yi (c69 MT q (pM q pL)) ?_)))))));exact SN (show AP x roots d i=some (Li q) by rw[od h1,AE ⟨h2.2.1,h2.2.2.1,h2.2.2.2.2.1,h2.2.2.2.2.2.1⟩];rw[hq];rfl) aa0
  have h2:¬((i.kind:Int)=i.kind/\(i.path:ByteArray)=⟨#[]⟩/\(i.place:Int)=0/\(i.number:Int)=i.number/\(i.left:Int)=0/\(i.right:Int)=0/\True):=h2;refine cU [] [] Tv Tv ?_
  exact Gc (show AP x roots d i=none by rw[od h1];exact Aw (fun hq=>h2 ⟨rfl,hq.1,hq.2.1,rfl,hq.2.2.1,hq.2.2.2,trivial⟩)) aa0
 have h1:¬((i.kind:Int)=(0:Int)):=h1;refine Yi (fun h9=>?_) (fun h9=>?_)
 .have h9:(i.kind:Int)=(1:Int):=h9;refine yN (yN (yN (Yi aa3 (cU [(4,.ref 4 0),(6,.ref 6 0),(10,.ref 10 0)] [(4,.cells (Ic x ifs)),(6,.cells (Aj i)),(10,.cells [vi i.kind,vs i.path,vi i.place,vi i.number,vi 0,vi 0])] Z3 Z3 (yN (AG (CU (Dd x i.path i.place)) (fun I8=>?_) (fun I8=>?_)))))))
  .refine Am I8 (fun r I8=>?_);have Ye:=wC x ifs i.path i.place hxf hv;rw[I8]at Ye;refine Xi .pure (Xi _ (Yi Ye (yN (cU [(6,.ref 6 0),(10,.ref 10 0),(11,.ref 11 0),(12,vb true)] [(6,.cells (Aj i)),(10,.cells [vi i.kind,vs i.path,vi i.place,vi i.number,vi 0,vi 0]),(11,.cells (Ak r))] Z4 Z3 (yN (yN (Yi (fun Hd=>?_) (fun Hd=>?_))))))))
   .have Hd:(i.kind:Int)=i.kind/\(i.path:ByteArray)=i.path/\(i.place:Int)=i.place/\(i.number:Int)=i.number/\(i.left:Int)=0/\(i.right:Int)=0/\True:=Hd;refine Yi (fun HX=>?_) (fun HX=>?_)
    .have HX:(i.number:Int)<(0:Int):=HX;refine cU [] [] Tv Tv ?_
     exact Gc (show AP x roots d i=none by grind [aQ,OV]) aa0
    have HX:¬((i.number:Int)<(0:Int)):=HX;refine Yi (fun Su=>?_) (fun Su=>?_)
    .have Su:((r.reqs.map Ad).length:Int)<=(i.number:Int):=Su;refine cU [] [] Tv Tv ?_
     exact Gc (show AP x roots d i=none by grind [aQ,OT]) aa0
    have Su:¬(((r.reqs.map Ad).length:Int)<=(i.number:Int)):=Su;have hnq:¬((r.reqs.length:Nat):Int)<=i.number:=by simp_all
    refine Am (OU HX hnq) (fun q rj=>?_);have hq:=rj.1;have hqg:=rj.2.1;have pL:=rj.2.2;have l8:=rX I8;have hpr:=Rn r.ver;rw[l8.2]at hpr;have hqF:BB q.set:=(hxq r l8.1 q pL);have zy:PC 174 [vs i.path,vi i.place,.agg (Ad q)] (sl Ac (Cb i.path i.place q)):=by
     grind [oN,c71,MT]
    refine cU [(6,.ref 6 0),(11,.ref 11 0)] [(6,.cells (Aj i)),(11,.cells (Ak r))] Z2 Z2 (Xi (Ad q) (Yi (Yi (show(0:Int)<=i.number by omega) (AM hqg)) (Yi rfl (yN (Xi _ (Yi zy (Yi aa3 (cU [(13,sl Ac (Cb i.path i.place q))] [] Z1 Tv (Yi (fun PA=>?_) (fun PA=>?_))))))))))
    .have PA:(0:Int)<(((Cb i.path i.place q).map Ac).length:Int):=PA;have n16:0<(Cb i.path i.place q).length:=by simp_all
     have g16:(Cb i.path i.place q)[0]?=some (Cb i.path i.place q)[0]:=Ge n16;exact SN (show AP x roots d i=some (Cb i.path i.place q) by grind [aQ,Rj]) aa0
    have PA:¬((0:Int)<(((Cb i.path i.place q).map Ac).length:Int)):=PA;have n16:¬0<(Cb i.path i.place q).length:=by simp_all
    have e0:Cb i.path i.place q=[]:=Az aa0;have e1:AP x roots d i=none:=by grind [aQ,Rj]
    exact Yt e1 aa0 e0
   have Hd:¬((i.kind:Int)=i.kind/\(i.path:ByteArray)=i.path/\(i.place:Int)=i.place/\(i.number:Int)=i.number/\(i.left:Int)=0/\(i.right:Int)=0/\True):=Hd;refine cU [] [] Tv Tv ?_
   exact Gc (show AP x roots d i=none by grind [aQ]) aa0
  have Ye:=wC x ifs i.path i.place hxf hv;rw[I8]at Ye;refine Xi .pure (Xi _ (Yi Ye (yN (cU [(6,.ref 6 0),(10,.ref 10 0),(11,.ref 11 0),(12,vb false)] [(6,.cells (Aj i)),(10,.cells [vi i.kind,vs i.path,vi i.place,vi i.number,vi 0,vi 0]),(11,.cells [vs ⟨#[]⟩,vi 0,vi 0,vi 0,nzA,vs ⟨#[]⟩,vs ⟨#[]⟩,vs ⟨#[]⟩,vb false])] Z4 Z3 (yN (yN (Yi (fun Yd=>?_) (fun Yd=>?_))))))))
  .have Yd:(i.kind:Int)=i.kind/\(i.path:ByteArray)=i.path/\(i.place:Int)=i.place/\(i.number:Int)=i.number/\(i.left:Int)=0/\(i.right:Int)=0/\True:=Yd;refine cU [] [] Tv Tv ?_
   exact Gc (show AP x roots d i=none by grind [aQ]) aa0
  have Yd:¬((i.kind:Int)=i.kind/\(i.path:ByteArray)=i.path/\(i.place:Int)=i.place/\(i.number:Int)=i.number/\(i.left:Int)=0/\(i.right:Int)=0/\True):=Yd;refine cU [] [] Tv Tv ?_
  exact Gc (show AP x roots d i=none by grind [aQ]) aa0
 have h9:¬((i.kind:Int)=(1:Int)):=h9;refine Yi (fun qH=>?_) (fun qH=>?_)
 .have qH:(i.kind:Int)=(2:Int):=qH;refine yN (cU [(4,.ref 4 0),(6,.ref 6 0),(10,.ref 10 0)] [(4,.cells (Ic x ifs)),(6,.cells (Aj i)),(10,.cells [vi i.kind,vs i.path,vi 0,vi 0,vi 0,vi 0])] Z3 Z3 (yN (Xi _ (Yi (c73 x ifs i.path hx) (Xi _ (Yi (c72 MT i.path (B3 x i.path) (Of _)) (yN (yN (Yi (fun Wp=>?_) (fun Wp=>?_))))))))))
  .have Wp:(i.kind:Int)=i.kind/\(i.path:ByteArray)=i.path/\(i.place:Int)=0/\(i.number:Int)=0/\(i.left:Int)=0/\(i.right:Int)=0/\True:=Wp;refine Yi aa3 ?_;exact og qH (show AP x roots d i=some (Gg i.path (B3 x i.path)) by grind [rA,rO,oD,Fs])
  have Wp:¬((i.kind:Int)=i.kind/\(i.path:ByteArray)=i.path/\(i.place:Int)=0/\(i.number:Int)=0/\(i.left:Int)=0/\(i.right:Int)=0/\True):=Wp;refine Yi aa3 ?_;exact rC qH aa2 (show AP x roots d i=none by grind [rA])
 have qH:¬((i.kind:Int)=(2:Int)):=qH;refine Yi (fun jt=>?_) (fun jt=>?_)
 .have jt:(i.kind:Int)=(3:Int):=jt;refine yN (yN (yN (Yi aa3 (cU [(3,sl Ap d),(6,.ref 6 0),(10,.ref 10 0)] [(6,.cells (Aj i)),(10,.cells [vi i.kind,vs i.path,vi 0,vi 0,vi i.left,vi i.right])] Z3 Z2 (yN (yN (Yi (fun ju=>?_) (fun ju=>?_))))))))
  .have ju:(i.kind:Int)=i.kind/\(i.path:ByteArray)=i.path/\(i.place:Int)=0/\(i.number:Int)=0/\(i.left:Int)=i.left/\(i.right:Int)=i.right/\True:=ju;refine Yi (fun co=>?_) (fun co=>?_)
   .have co:(i.left:Int)<(0:Int):=co;refine cU [] [] Tv Tv ?_
    exact Gc (show AP x roots d i=none by grind [aR,OV]) aa0
   have co:¬((i.left:Int)<(0:Int)):=co;refine Yi (fun jv=>?_) (fun jv=>?_)
   .have jv:((d.map Ap).length:Int)<=(i.left:Int):=jv;refine cU [] [] Tv Tv ?_
    exact Gc (show AP x roots d i=none by grind [aR,OT]) aa0
   have jv:¬(((d.map Ap).length:Int)<=(i.left:Int)):=jv;have rd:¬((d.length:Nat):Int)<=i.left:=by simp_all
   refine Am (OU co rd) (fun ta aN=>?_);have hta:=aN.1;have ru:=aN.2.1;have nY:=aN.2.2;refine Yi (fun sx=>?_) (fun sx=>?_)
   .have sx:(i.right:Int)<(0:Int):=sx;refine cU [] [] Tv Tv ?_
    exact Gc (show AP x roots d i=none by grind [aR,OV]) aa0
   have sx:¬((i.right:Int)<(0:Int)):=sx;refine Yi (fun eO=>?_) (fun eO=>?_)
   .have eO:((d.map Ap).length:Int)<=(i.right:Int):=eO;refine cU [] [] Tv Tv ?_
    exact Gc (show AP x roots d i=none by grind [aR,OT]) aa0
   have eO:¬(((d.map Ap).length:Int)<=(i.right:Int)):=eO;have Aa1:¬((d.length:Nat):Int)<=i.right:=by simp_all
   refine Am (OU sx Aa1) (fun tb rv=>?_);have htb:=rv.1;have Aag:=rv.2.1;have Aah:=rv.2.2;refine cU [(3,sl Ap d),(6,.ref 6 0)] [(6,.cells (Aj i))] Z2 Z1 (Xi (Ap ta) (Yi (Yi (show(0:Int)<=i.left by omega) (AM ru)) (Yi rfl (Xi (Ap tb) (Yi (Yi (show(0:Int)<=i.right by omega) (AM Aag)) (Yi rfl (Xi _ (Yi (c74 ta tb i.path (uU ta nY) (uU tb Aah)) (Yi aa3 (cU [(15,sl Ac ((Bn ta tb i.path).1)),(16,vi ((Bn ta tb i.path).2))] [] Z2 Tv (Yi (fun gP=>?_) (fun gP=>?_))))))))))))
   .have gP:((Bn ta tb i.path).2:Int)=(0:Int):=gP;exact SN (show AP x roots d i=some (Bn ta tb i.path).1 by grind [aR]) aa0
   have gP:¬(((Bn ta tb i.path).2:Int)=(0:Int)):=gP;exact Yt (show AP x roots d i=none by grind [aR]) aa0 (c8 gP)
  have ju:¬((i.kind:Int)=i.kind/\(i.path:ByteArray)=i.path/\(i.place:Int)=0/\(i.number:Int)=0/\(i.left:Int)=i.left/\(i.right:Int)=i.right/\True):=ju;refine cU [] [] Tv Tv ?_
  exact Gc (show AP x roots d i=none by grind [aR]) aa0
 have jt:¬((i.kind:Int)=(3:Int)):=jt;refine cU [] [] Tv Tv ?_
 exact Gc (show AP x roots d i=none by grind [Aan]) aa0
end
abbrev dZ:AV:=.tup [sl Ap (Ax x roots l).1,vi (Ax x roots l).2]
theorem V9{x:List Rl}{roots:List Rq}{l:List Nf}(h:Ax x roots l=([],e)):DC (.tup [nzA,vi e]) (dZ x roots l):=
 (show DC (.tup [nzA,vi e]) (.tup [.slice .none [],vi e])from DC.tup ⟨.nil,.refl _,trivial⟩).trans (.of_eq (show AV.tup [.slice .none [],vi e]=dZ x roots l by simp_all))
theorem KF:Ax x roots l=if AD x≠0\/Ba roots≠0 then([],(1:Int))else if 65536<l.length then([],(7:Int))else match Bu x roots l []with | none=>([],(18:Int)) | some d=>(d,(0:Int)):=rfl
theorem Ol{x:List Rl}{roots:List Rq}{l:List Nf}:∀t∈(Ax x roots l).1,TQ t:=by
 grind [Qn,RU]
theorem bV{a b:Int}(h:(decide (a=0)&&decide (b=0))=true):a=0/\b=0:=by simp_all
theorem tp(hx:∀r∈x,F3 r)(hr:∀q∈roots,Lw q):PC 59 [.agg (Ic x ifs),sl Ad roots,sl Aj l] (dZ x roots l):=by
 refine Ps (pC [] [3,8,10]) Tryz.func59 rfl (Nz rfl) (yN (AG (Bt (decide (AD x=0)&&decide (Ba roots=0))) (fun h1=>?_) (fun h1=>?_)))
 .have h1:(decide (AD x=0)&&decide (Ba roots=0))=true:=h1;have OC:=wB x ifs roots hx hr;rw[show(decide (AD x=0)&&decide (Ba roots=0))=true from h1]at OC;refine Xi .pure (Xi _ (Yi OC (cU [(1,sl Ad roots),(2,sl Aj l),(3,.ref 3 0)] [(3,.cells (Ic x ifs))] Z3 Z1 (Yi (fun h3=>?_) (fun h3=>?_)))))
  .have h3:(65536:Int)<((l.map Aj).length:Int):=h3;have n3:65536<l.length:=by grind
   exact V9 (by grind [KF])
  have h3:¬((65536:Int)<((l.map Aj).length:Int)):=h3;have n3:¬65536<l.length:=by grind
  have hb3:l.length<=65536:=by omega
  have e0:AD x=0:=(bV h1).1;have hU:=Jh (x:=x) (roots:=roots) (l:=l) e0 (bV h1).2 hb3;refine Xi {q:Nat×List (List Tm) // q.1<=l.length/\Bu x roots (l.take q.1) []=some q.2/\q.2.length=q.1/\∀t∈q.2,TR (Fk x roots l) t} (Xi (fun q=>⟨[(1,sl Ad roots),(2,sl Aj l),(3,.ref 3 0),(8,.slice (.id 19 1) (q.1.2.map Ap)),(9,vi q.1.1)],[(3,.cells (Ic x ifs)),(19,.tok 1 q.1.2.length)],Af⟩) (Xi (fun q=>l.length-q.1.1) (Yi (Xi ⟨(0,[]),Ao _,rfl,rfl,fun t ht=>by cases ht⟩ ?_) ?_)))
  .exact⟨Z5,Z2,Fh,Tv⟩
  intro⟨⟨i,D⟩,i1,i2,i3,i4⟩;have i1:i<=l.length:=i1;have i2:Bu x roots (l.take i) []=some D:=i2;have i3:D.length=i:=i3;have i4:∀t∈D,TR (Fk x roots l) t:=i4;refine Yi (fun h5=>?_) (fun h5=>?_)
  .have h5:(i:Int)<((l.map Aj).length:Int):=h5;have n5:i<l.length:=by simp_all
   have g5:l[i]?=some l[i]:=Ge n5;refine yN (Xi (Aj l[i]) (Yi (Yi (Nn i) (AM g5)) (Yi rfl (yN (AG (Bt (AP x roots D l[i]).isSome) (fun h6=>?_) (fun h6=>?_))))))
   .have h6:(AP x roots D l[i]).isSome=true:=h6;have py:=(show PC 114 [Jx x ifs,sl Ad roots,.agg (Aj l[i]),sl Ap D] (.tup [sl Ac (Fr x roots D l[i]),vb (AP x roots D l[i]).isSome])from c38 x ifs roots D l[i] e0 hx (fun q hq=>(hr q hq).1) (fun t ht=>(i4 t ht).fewI hU));rw[show(AP x roots D l[i]).isSome=true from h6]at py;refine Xi _ (Yi py (Yi aa3 (cU [(1,sl Ad roots),(2,sl Aj l),(3,.ref 3 0),(8,.slice (.id 19 1) (D.map Ap)),(9,vi i),(10,sl Ac (Fr x roots D l[i])),(11,vb true)] [(3,.cells (Ic x ifs)),(19,.tok 1 D.length)] Z7 Z2 ?_)))
    have b8:AZ 1 [[sl Ac (Fr x roots D l[i])]]/\(D.map Ap).length=D.length/\((D.map Ap).length+([[sl Ac (Fr x roots D l[i])]]:List (List AV)).length)*24<=140737488355328/\(D.map Ap).length+([[sl Ac (Fr x roots D l[i])]]:List (List AV)).length<=9223372036854775807:=⟨⟨rfl,trivial⟩,aa1,(by grind),(by grind)⟩;refine Yi b8 (cU [(1,sl Ad roots),(2,sl Aj l),(3,.ref 3 0),(8,.slice (.id 19 1) ((D.map Ap)++[[sl Ac (Fr x roots D l[i])]])),(9,vi i)] [(3,.cells (Ic x ifs)),(19,.tok 1 ((D.map Ap).length+([[sl Ac (Fr x roots D l[i])]]:List (List AV)).length))] Z5 Z2 (Yi (by grind [Al]) (Am (Option.isSome_iff_exists.1 h6) (fun t ht=>?_))));have etl:=fm ht;have l5:=Wm n5 i2;rw[ht]at l5;refine Xi ⟨(i+1,(D++[t])),by omega,l5,by simp_all,fun u hu=>(Bz.1 hu).elim (i4 u) (fun hu=>by rw[A9.1 hu];exact PE (Ah n5) i4 ht)⟩ ?_;exact⟨Dl l.length i aa0,⟨Zr,Zr,Zr,⟨(show AV.slice (.id 19 1) (D.map Ap++[[sl Ac (Fr x roots D l[i])]])=.slice (.id 19 1) ((D++[t]).map Ap) by simp_all),rfl⟩,Zr,Tv⟩,⟨Zr,⟨(show HO.tok 1 ((D.map Ap).length+([[sl Ac (Fr x roots D l[i])]]:List (List AV)).length)=.tok 1 (D++[t]).length by simp_all),rfl⟩,Tv⟩,Fh,Tv⟩
   have h6:(AP x roots D l[i]).isSome=false:=h6;have Ye:=(show PC 114 [Jx x ifs,sl Ad roots,.agg (Aj l[i]),sl Ap D] (.tup [sl Ac (Fr x roots D l[i]),vb (AP x roots D l[i]).isSome])from c38 x ifs roots D l[i] e0 hx (fun q hq=>(hr q hq).1) (fun t ht=>(i4 t ht).fewI hU));rw[show(AP x roots D l[i]).isSome=false from h6]at Ye;refine Xi _ (Yi Ye (Yi aa3 (cU [(1,sl Ad roots),(2,sl Aj l),(3,.ref 3 0),(8,.slice (.id 19 1) (D.map Ap)),(9,vi i),(10,sl Ac (Fr x roots D l[i])),(11,vb false)] [(3,.cells (Ic x ifs)),(19,.tok 1 D.length)] Z7 Z2 ?_)))
   have l5:=Wm n5 i2;rw[show AP x roots D l[i]=none from Option.not_isSome_iff_eq_none.1 (by simp_all)]at l5;exact V9 (by grind [KF,cl])
  have h5:¬((i:Int)<((l.map Aj).length:Int)):=h5;have n5:¬i<l.length:=by simp_all
  rw[AK aa0]at i2;exact .of_eq (show AV.tup [sl Ap D,vi 0]=dZ x roots l by grind [KF])
 have h1:(decide (AD x=0)&&decide (Ba roots=0))=false:=h1;have OB:=wB x ifs roots hx hr;rw[show(decide (AD x=0)&&decide (Ba roots=0))=false from h1]at OB;refine Xi .pure (Xi _ (Yi OB ?_));exact V9 (by grind [KF])
theorem c16(hx:∀r∈x,F3 r)(hr:∀q∈roots,Lw q):PC 133 [.agg (Ic x ifs),sl Ad roots,sl Aj l] (vi (Ff x roots l)):=by
 have QY:=KG (x:=x) (roots:=roots) (l:=l);have hdm:((Ax x roots l).1.map Ap).length<=65536:=by simp_all
 refine Ps (pC [] [2,5,6]) Tryz.func133 rfl (Nz rfl) (yN (Xi .pure (Xi _ (Yi (tp x ifs roots l hx hr) (cU [(7,sl Ap (Ax x roots l).1),(8,vi (Ax x roots l).2)] [] Z2 Tv (Yi (fun h1=>?_) (fun h1=>?_)))))))
 .have h1:((Ax x roots l).2:Int)≠(0:Int):=h1;exact .of_eq (Aa vi (show(Ax x roots l).2=Ff x roots l by grind [Ff]))
 have h1:((Ax x roots l).2:Int)=(0:Int):=AQ h1;refine Yi (fun h3=>?_) (fun h3=>?_)
 .have h3:(((Ax x roots l).1.map Ap).length:Int)=(0:Int):=h3;refine cU [] [] Tv Tv ?_
  have Afi:(Ax x roots l).1=[]:=Az (by simp_all);exact .of_eq (Aa vi (show(18:Int)=Ff x roots l by grind [Ff,DW]))
 have h3:¬((((Ax x roots l).1.map Ap).length:Int)=(0:Int)):=h3;have Fi:(Ax x roots l).1≠[]:=fun e=>by simp_all
 refine Am (show ∃a t,(Ax x roots l).1=a++[t]from⟨_,_,(List.dropLast_concat_getLast Fi).symm⟩) (fun a Mu=>?_);refine Am Mu (fun t Mu=>?_);have hlz:(((Ax x roots l).1.map Ap).length:Int)=(a.length:Int)+1:=by simp_all
 have hgz:(Ax x roots l).1[((((Ax x roots l).1.map Ap).length:Int)-1).toNat]?=some t:=by
  simp_all
 refine Yi (by show Al ((((Ax x roots l).1.map Ap).length:Int)-(1:Int));unfold Al;omega) ?_;refine Xi (Ap t) (Yi (Yi (show(0:Int)<=(((Ax x roots l).1.map Ap).length:Int)-1 by omega) (AM hgz)) (Yi rfl ?_));refine Yi (fun h5=>?_) (fun h5=>?_)
 .have h5:(0:Int)<((t.map Ac).length:Int):=h5;have n5:0<t.length:=by simp_all
  refine cU [] [] Tv Tv ?_;refine Am (show ∃u m,t=u::m by cases t<;>simp_all) (fun u hu=>?_)
  refine Am hu (fun m hu=>?_);exact .of_eq (Aa vi (show(18:Int)=Ff x roots l by unfold Ff;rw[Aw (Lu h1),show DW (Ax x roots l).1=false by rw[Mu,hu];unfold DW;simp_all];rfl))
 have h5:¬((0:Int)<((t.map Ac).length:Int)):=h5;have n5:¬0<t.length:=by simp_all
 refine cU [] [] Tv Tv ?_
 have htn:t=[]:=Az aa0;exact .of_eq (Aa vi (show(0:Int)=Ff x roots l by unfold Ff;rw[Aw (Lu h1),show DW (Ax x roots l).1=true by rw[Mu,htn];unfold DW;simp_all];rfl))
theorem kj(h0:0<=n)(h1:n<=9223372036854775807):(Gm n).size<=21:=FV aa0 h1
theorem WW{y:Nf}(h:ZI y)(_hn:lW y):(D5 y).size<=(Fe y).size:=by
 rw[Vk h,AY,AY];omega
abbrev YH(target:Int):AV:=.tup [sl Ag (HC x roots l target).1,vi (HC x roots l target).2]
theorem WH{x:List Rl}{roots:List Rq}{l:List Nf}{target:Int}(h:HC x roots l target=([],e)):DC (.tup [nzA,vi e]) (YH x roots l target):=
 (show DC (.tup [nzA,vi e]) (.tup [.slice .none [],vi e])from DC.tup ⟨.nil,.refl _,trivial⟩).trans (.of_eq (show AV.tup [.slice .none [],vi e]=YH x roots l target by unfold YH;rw[h];rfl))
abbrev cH(i:Nat):List ByteArray:=(List.range i).map fun k=>OK k (D.getD k []) (own.getD k BL)
theorem ky(i:Nat):cH own D (i+1)=cH own D i++[OK i (D.getD i []) (own.getD i BL)]:=by
 unfold cH;rw[List.range_succ,AB];rfl
theorem gt{x:List Rl}{roots:List Rq}{l own:List Nf}(h:I2 x roots l)(ho:∀y∈own,H8 y.path):I2 x roots own:=fun p hp=>by
 unfold Fk at hp;rcases Bz.1 hp with h1 | h1
 .exact h p (Bh _ h1)
 .rcases Bz.1 h1 with h1 | h1
  .exact h p (Bj _ (Bh _ h1))
  .rcases Bz.1 h1 with h1 | h1
   .exact h p (Bj _ (Bj _ (Bh _ h1)))
   .obtain⟨y,hy,rfl⟩:=Ay.1 h1;exact ho y hy
theorem IU(h0:0<=n)(h1:n<=9223372036854775807):(HM n).size<=21:=by
 have:=kj h0 h1
 rw[JX h0]at this;exact this
theorem Ht(p:ByteArray)(pl:Int):(XF p pl).size<=135000004:=F1 _ _
theorem yU:∀(k:Nat) (n:Int),n<k->0<=n->n<=9223372036854775807->PC 60 [vi n] (vs (Gm n)):=by
 intro k
 induction k with
 |zero=>intro n h h0;omega
 |succ k ih=>
  intro n hk h0 h1;refine Ps Cu Tryz.func60 rfl (Nz rfl) (Yi (fun h1=>?_) (fun h1=>?_))
  .have h1:(n:Int)<(10:Int):=h1;refine Yi (by show Al ((48:Int)+(n:Int));unfold Al;omega) (Xi [UInt8.ofNat (48+n.toNat)] (Yi (bG (n:=n) aa0 aa0) ?_));exact .of_eq (show vs ⟨[UInt8.ofNat (48+n.toNat)].toArray⟩=vs (Gm n) by rw[V8 h0 h1])
  have h1:¬((n:Int)<(10:Int)):=h1;refine Yi ⟨by omega,by omega,(by show Al (n);unfold Al;omega)⟩ ?_;refine Xi _ (Yi (ih (n / 10) aa0 aa0 aa0) (Yi ⟨by omega,by omega⟩ ?_));refine Yi (by show Al ((48:Int)+(n % 10:Int));unfold Al;omega) (Xi [UInt8.ofNat (48+(n % 10).toNat)] (Yi (bG (n:=n % 10) aa0 aa0) (Yi (G5 (AL (kj aa0 aa0) aa2) (Nz rfl)) (Yi aa3 ?_))));exact .of_eq (show vs (Gm (n / 10)++⟨[UInt8.ofNat (48+(n % 10).toNat)].toArray⟩)=vs (Gm n) by rw[<-V8 (n:=n % 10) aa0 aa0,<-bX h0 h1])
theorem wF(n:Int)(h0:0<=n)(h1:n<=9223372036854775807):PC 60 [vi n] (vs (HM n)):=by
 have h:=yU (n.toNat+1) n aa0 h0 h1;rw[JX h0]at h;exact h
theorem yW(p:ByteArray)(pl:Int)(hp:Ew p)(cA:-9223372036854775808<=pl/\pl<9223372036854775807):PC 81 [vs p,vi pl] (vs (XF p pl)):=by
 refine Ps Cu Tryz.func81 rfl (Nz rfl) (Yi (by unfold Al;omega) (Xi .pure (Xi _ (Yi (yT p [(pl,pl+1)] hp (by unfold BB;simp)) ?_))));exact .refl _
theorem e61(y:Nf)(hn:lW y)(ho:ZI y):PC 61 [.agg (Aj y)] (vs (D5 y)):=by
 have hkd:=hn.kinds;refine Ps Cu Tryz.func61 rfl (Nz rfl) (Yi (fun h1=>?_) (fun h1=>?_))
 .have h1:(y.kind:Int)=(0:Int):=h1;have hq1:=hn.number h1;have hq5:=ho.1 h1;refine Yi (by show Al ((y.number:Int)+(1:Int));unfold Al;omega) (Xi .pure (Xi _ (Yi (wF (y.number+1) aa0 aa0) (Yi (by have z0:y.path.size<=1048576:=hn.path;have z1:=Ht y.path y.place;have z22:=IU (n:=y.number+1) aa0 aa0;have l0:(⟨#[114,111,111,116,32]⟩:ByteArray).size=5:=rfl;show((((⟨#[114,111,111,116,32]⟩:ByteArray)).size+((HM (y.number+1))).size:Nat):Int)<=_;omega) ?_))));exact .of_eq (show vs (⟨#[114,111,111,116,32]⟩++(HM (y.number+1)))=vs (D5 y) by unfold D5;rw[AE h1])
 have h1:¬((y.kind:Int)=(0:Int)):=h1;refine Yi (fun h3=>?_) (fun h3=>?_)
 .have h3:(y.kind:Int)=(1:Int):=h3;have hq4:=ho.2.1 h3;refine Yi (by have z0:y.path.size<=1048576:=hn.path;have z1:=Ht y.path y.place;have l0:(⟨#[98,121,32]⟩:ByteArray).size=3:=rfl;show((((⟨#[98,121,32]⟩:ByteArray)).size+(y.path).size:Nat):Int)<=_;omega) ?_;refine Yi (by have z0:y.path.size<=1048576:=hn.path;have z1:=Ht y.path y.place;have l0:(⟨#[32]⟩:ByteArray).size=1:=rfl;have l1:(⟨#[98,121,32]⟩:ByteArray).size=3:=rfl;show((((⟨#[98,121,32]⟩:ByteArray)++y.path).size+((⟨#[32]⟩:ByteArray)).size:Nat):Int)<=_;simp only[AY];omega) ?_;refine Xi _ (Yi (yW y.path y.place hn.path.s aa0) (Yi (by have z0:y.path.size<=1048576:=hn.path;have z1:=Ht y.path y.place;have l0:(⟨#[32]⟩:ByteArray).size=1:=rfl;have l1:(⟨#[98,121,32]⟩:ByteArray).size=3:=rfl;show((((⟨#[98,121,32]⟩++y.path)++(⟨#[32]⟩:ByteArray)).size+((XF y.path y.place)).size:Nat):Int)<=_;simp only[AY];omega) ?_));refine Yi aa3 ?_;exact .of_eq (show vs (((⟨#[98,121,32]⟩++y.path)++⟨#[32]⟩)++(XF y.path y.place))=vs (D5 y) by unfold D5;rw[Aw h1];rw[AE h3])
 have h3:¬((y.kind:Int)=(1:Int)):=h3;refine Yi (fun h5=>?_) (fun h5=>?_)
 .have h5:(y.kind:Int)=(2:Int):=h5;exact .of_eq (show vs ⟨#[110,111,32,111,116,104,101,114,32,114,101,108,101,97,115,101,115]⟩=vs (D5 y) by unfold D5;rw[Aw h1];rw[Aw h3];rw[AE h5])
 have h5:¬((y.kind:Int)=(2:Int)):=h5;have hq2:=hn.refs aa0;have hq3:=ho.2.2.1 aa0;refine Yi (by show Al ((y.left:Int)+(1:Int));unfold Al;omega) (Xi _ (Yi (wF (y.left+1) aa0 aa0) (Yi (by have z0:y.path.size<=1048576:=hn.path;have z1:=Ht y.path y.place;have z20:=IU (n:=y.left+1) aa0 aa0;have l0:(⟨#[102,114,111,109,32]⟩:ByteArray).size=5:=rfl;show((((⟨#[102,114,111,109,32]⟩:ByteArray)).size+((HM (y.left+1))).size:Nat):Int)<=_;omega) ?_)));refine Yi (by have z0:y.path.size<=1048576:=hn.path;have z1:=Ht y.path y.place;have z20:=IU (n:=y.left+1) aa0 aa0;have l0:(⟨#[102,114,111,109,32]⟩:ByteArray).size=5:=rfl;have l1:(⟨#[32,97,110,100,32]⟩:ByteArray).size=5:=rfl;show((((⟨#[102,114,111,109,32]⟩:ByteArray)++(HM (y.left+1))).size+((⟨#[32,97,110,100,32]⟩:ByteArray)).size:Nat):Int)<=_;simp only[AY];omega) ?_;refine Yi (by show Al ((y.right:Int)+(1:Int));unfold Al;omega) (Xi _ (Yi (wF (y.right+1) aa0 aa0) (Yi (by have z0:y.path.size<=1048576:=hn.path;have z1:=Ht y.path y.place;have z20:=IU (n:=y.left+1) aa0 aa0;have z21:=IU (n:=y.right+1) aa0 aa0;have l0:(⟨#[102,114,111,109,32]⟩:ByteArray).size=5:=rfl;have l1:(⟨#[32,97,110,100,32]⟩:ByteArray).size=5:=rfl;show((((⟨#[102,114,111,109,32]⟩++(HM (y.left+1)))++(⟨#[32,97,110,100,32]⟩:ByteArray)).size+((HM (y.right+1))).size:Nat):Int)<=_;simp only[AY];omega) ?_)));refine Yi aa3 ?_;exact .of_eq (show vs (((⟨#[102,114,111,109,32]⟩++(HM (y.left+1)))++⟨#[32,97,110,100,32]⟩)++(HM (y.right+1)))=vs (D5 y) by unfold D5;rw[Aw h1];rw[Aw h3];rw[Aw h5])
theorem fw{x:List Rl}{roots:List Rq}{l:List Nf}{target:Int}:(HC x roots l target).1.length<=65536:=by
 unfold HC;split
 .simp
 .split
  .simp
  .rename_i h0 h1;have hD:∀z,(KM OK (De l target) z).length=(De l target).length:=fun z=>by unfold KM;rw[Lm,Es]
   show(KM OK (De l target) _).length<=_;rw[hD];obtain⟨t,ht⟩:∃t:Nat,target=t:=⟨target.toNat,by omega⟩;obtain⟨m,f1,f2,f3,_⟩:=YA (Bs.1 h0) (show t<l.length by omega);rw[ht,f1,<-f3];exact KG
theorem e25(target:Int)(L:Xr x roots)(hl:BB l)(ht:Al target)(hP:I2 x roots l):PC 25 [.agg (Ic x ifs),sl Ad roots,sl Aj l,vi target] (YH x roots l target):=by
 have rD:=tp x ifs roots l L.x L.rq;have ZC:(l.map Aj).length=l.length:=Lm _;have hl:l.length<=1073741824:=hl;obtain⟨d,hd⟩:∃d,d=(Ax x roots l).1:=⟨_,rfl⟩;obtain⟨ee,he⟩:∃ee,ee=(Ax x roots l).2:=⟨_,rfl⟩;obtain⟨own,fb⟩:∃own,own=De l target:=⟨_,rfl⟩;have rE:=tp x ifs roots own L.x L.rq;obtain⟨D,hD⟩:∃d,d=(Ax x roots own).1:=⟨_,rfl⟩;obtain⟨ce,nM⟩:∃e,e=(Ax x roots own).2:=⟨_,rfl⟩;unfold dZ at rD rE;rw[<-hd,<-he]at rD;rw[<-hD,<-nM]at rE;have k22:=e22 l target hl ht;rw[<-fb]at k22;refine Ps (pC [] [2,4,6,7,8,13]) Tryz.func25 rfl (Nz rfl) (yN (Xi .pure (Xi _ (Yi rD (cU [(1,sl Ad roots),(2,sl Aj l),(3,vi target),(4,.ref 4 0),(11,vi ee)] [(4,.cells (Ic x ifs))] Z5 Z1 (Yi (fun h1=>?_) (fun h1=>?_)))))))
 .have h1:(ee:Int)≠(0:Int):=h1;exact WH (by unfold HC;rw[AE (by rw[<-he];exact h1),<-he])
 have h1:(ee:Int)=(0:Int):=AQ h1;refine cU [(1,sl Ad roots),(2,sl Aj l),(3,vi target),(4,.ref 4 0)] [(4,.cells (Ic x ifs))] Z4 Z1 (Yi (fun h3=>?_) (fun h3=>?_))
 .have h3:(target:Int)<(0:Int):=h3;exact WH (by unfold HC;rw[Aw (fun h=>h (he.symm.trans h1)),AE (.inl h3)])
 have h3:¬((target:Int)<(0:Int)):=h3;refine Yi (fun h5=>?_) (fun h5=>?_)
 .have h5:((l.map Aj).length:Int)<=(target:Int):=h5;exact WH (by unfold HC;rw[Aw (fun h=>h (he.symm.trans h1)),AE (.inr (by have q:=h5;rw[ZC]at q;exact q))])
 have h5:¬(((l.map Aj).length:Int)<=(target:Int)):=h5;refine cU [(1,sl Ad roots),(2,sl Aj l),(3,vi target),(4,.ref 4 0)] [(4,.cells (Ic x ifs))] Z4 Z1 ?_
 have l4:(Ax x roots l).2=0:=by rw[<-he];exact h1
 obtain⟨t,pO⟩:∃t:Nat,target=t:=⟨target.toNat,by omega⟩;have ma:t<l.length:=by have q:=h5;rw[ZC]at q;omega
 have MX:∀y∈own,lW y:=by rw[fb,pO];exact di hP (AL L.rs aa2) l4 ma
 obtain⟨m,f1,f2,f3,_⟩:=YA l4 ma;rw[<-pO,<-fb]at f1 f2 f3;rw[<-hD]at f3;have hDt:∀t∈D,Np t:=by rw[hD];exact JE (gt hP (fun y hy=>(MX y hy).path)) f2
 have hDo:Bu x roots own []=some D:=by have q:=(DN f2).2.2.2;rw[<-hD]at q;exact q
 have sA:D.length=own.length:=by omega
 have hol:own.length<=65536:=by rw[<-sA,hD];exact KG
 refine Xi .pure (Xi _ (Yi k22 (cU [(1,sl Ad roots),(4,.ref 4 0),(12,sl Aj own)] [(4,.cells (Ic x ifs))] Z3 Z1 (yN (Xi .pure (Xi _ (Yi rE (cU [(12,sl Aj own),(13,sl Ap D)] [] Z2 Tv (Xi {i:Nat // i<=own.length} (Xi (fun q=>⟨[(12,sl Aj own),(13,sl Ap D),(15,.slice (.id 45 1) ((cH own D q.1).map Ag)),(16,vi q.1)],[(45,.tok 1 q.1)],Af⟩) (Xi (fun q=>own.length-q.1) (Yi (Xi ⟨0,Ao _⟩ ?_) ?_))))))))))))
 .exact⟨Z4,Z1,Fh,Tv⟩
 intro⟨i,i1⟩;have i1:i<=own.length:=i1;have GH:(cH own D i).length=i:=by unfold cH;rw[Lm,Es]
 have vz:(List.range i).length=i:=Es;refine Yi (fun h7=>?_) (fun h7=>?_)
 .have h7:(i:Int)<((own.map Aj).length:Int):=h7;have n7:i<own.length:=by have q:=h7;rw[Lm]at q;omega
  have g7:own[i]?=some own[i]:=Ge n7;have gD:D[i]?=some (D.getD i []):=Sr aa0;have hyo:own.getD i BL=own[i]:=by rw[Bq,Ge n7];rfl
  have SD:Np (D.getD i []):=hDt _ (AO gD);have hyn:lW own[i]:=MX _ (Ah n7);have hyk:ZI own[i]:=by have q:=Pt hDo (i:=i) n7;rw[hyo]at q;exact q
  have s1:=IU (n:=(i:Int)+1) aa0 aa0;have s2:=IP SD;have s3:=AL (WW hyk hyn) (O0 hyn);refine Yi (Ii i aa0) (Xi _ (Yi (wF (i+1) aa0 aa0) (Yi (by have l0:(⟨#[46,32]⟩:ByteArray).size=2:=rfl;show((((HM (i+1))).size+((⟨#[46,32]⟩:ByteArray)).size:Nat):Int)<=_;omega) ?_)));refine Xi (Ap (D.getD i [])) (Yi (Yi (show(0:Int)<=(i:Nat) by omega) (AM gD)) (Yi rfl (Xi _ (Yi (e16 (D.getD i []) SD.len SD.few SD.path) (Yi (by have l0:(⟨#[46,32]⟩:ByteArray).size=2:=rfl;show((((HM (i+1))++(⟨#[46,32]⟩:ByteArray)).size+((BD (D.getD i []))).size:Nat):Int)<=_;simp only[AY];omega) ?_)))));refine Yi (by have l0:(⟨#[32,40]⟩:ByteArray).size=2:=rfl;have l1:(⟨#[46,32]⟩:ByteArray).size=2:=rfl;show(((((HM (i+1))++(⟨#[46,32]⟩:ByteArray))++(BD (D.getD i []))).size+((⟨#[32,40]⟩:ByteArray)).size:Nat):Int)<=_;simp only[AY];omega) ?_;refine Xi (Aj own[i]) (Yi (Yi (Nn i) (AM g7)) (Yi rfl (yN (Xi _ (Yi (e61 own[i] hyn hyk) (Yi (by have l0:(⟨#[32,40]⟩:ByteArray).size=2:=rfl;have l1:(⟨#[46,32]⟩:ByteArray).size=2:=rfl;show((((((HM (i+1))++(⟨#[46,32]⟩:ByteArray))++(BD (D.getD i [])))++(⟨#[32,40]⟩:ByteArray)).size+((D5 own[i])).size:Nat):Int)<=_;simp only[AY];omega) ?_))))));refine Yi (by have l0:(⟨#[32,40]⟩:ByteArray).size=2:=rfl;have l1:(⟨#[41]⟩:ByteArray).size=1:=rfl;have l2:(⟨#[46,32]⟩:ByteArray).size=2:=rfl;show(((((((HM (i+1))++(⟨#[46,32]⟩:ByteArray))++(BD (D.getD i [])))++(⟨#[32,40]⟩:ByteArray))++(D5 own[i])).size+((⟨#[41]⟩:ByteArray)).size:Nat):Int)<=_;simp only[AY];omega) ?_;have b8:AZ 1 [[vs ((((((HM (i+1))++⟨#[46,32]⟩)++(BD (D.getD i [])))++⟨#[32,40]⟩)++(D5 own[i]))++⟨#[41]⟩)]]/\((cH own D i).map Ag).length=i/\(((cH own D i).map Ag).length+([[vs ((((((HM (i+1))++⟨#[46,32]⟩)++(BD (D.getD i [])))++⟨#[32,40]⟩)++(D5 own[i]))++⟨#[41]⟩)]]:List (List AV)).length)*16<=140737488355328/\((cH own D i).map Ag).length+([[vs ((((((HM (i+1))++⟨#[46,32]⟩)++(BD (D.getD i [])))++⟨#[32,40]⟩)++(D5 own[i]))++⟨#[41]⟩)]]:List (List AV)).length<=9223372036854775807:=⟨⟨rfl,trivial⟩,(by first | (simp;done) | (rw[Lm];assumption)),(by simp only[Lm,Av,AA];omega),(by simp only[Lm,Av,AA];omega)⟩
  refine Yi b8 (Yi aa3 (Yi (Ii i aa0) ?_));have CY:[vs ((((((HM (i+1))++⟨#[46,32]⟩)++(BD (D.getD i [])))++⟨#[32,40]⟩)++(D5 own[i]))++⟨#[41]⟩)]=Ag (OK i (D.getD i []) (own.getD i BL)):=by show [vs _]=[vs _];unfold OK;rw[hyo]
  refine Xi ⟨i+1,by omega⟩ ?_;exact⟨Dl own.length i aa0,⟨Zr,Zr,⟨(show AV.slice (.id 45 1) ((cH own D i).map Ag++[[vs ((((((HM (i+1))++⟨#[46,32]⟩)++(BD (D.getD i [])))++⟨#[32,40]⟩)++(D5 own[i]))++⟨#[41]⟩)]])=.slice (.id 45 1) ((cH own D (i+1)).map Ag) by rw[CY,ky,AB];rfl),rfl⟩,Zr,Tv⟩,⟨⟨(show HO.tok 1 (((cH own D i).map Ag).length+([[vs ((((((HM (i+1))++⟨#[46,32]⟩)++(BD (D.getD i [])))++⟨#[32,40]⟩)++(D5 own[i]))++⟨#[41]⟩)]]:List (List AV)).length)=.tok 1 (i+1) by rw[Lm,GH];rfl),rfl⟩,Tv⟩,Fh,Tv⟩
 have h7:¬((i:Int)<((own.map Aj).length:Int)):=h7;have n7:¬i<own.length:=by have q:=h7;rw[Lm]at q;omega
 refine cU [(15,.slice (.id 45 1) ((cH own D i).map Ag))] [(45,.tok 1 i)] Z1 Z1 ?_
 exact .of_eq (show AV.tup [sl Ag (cH own D i),vi 0]=YH x roots l target by unfold YH HC;rw[Aw (fun h=>h l4),Aw aa0,<-fb,<-hD,show i=own.length by omega];rfl)
theorem cb{f:Nat}{args:List AV}{x:Bool}(h:b=x)(hc:PC f args (vb b)):PC f args (vb x):=h▸hc
theorem T8{l:List α}(h:(i:Int)<((l.map f).length:Int)):i<l.length:=by rw[Lm]at h;omega
theorem T7{l:List α}(h:¬(i:Int)<((l.map f).length:Int)):¬i<l.length:=by rw[Lm]at h;omega
theorem WE{l:List α}(h:i<l.length):(0:Int)<=(i:Int)/\(l.map f)[((i:Nat):Int).toNat]?=some (f l[i]):=⟨Int.natCast_nonneg _,by rw[Cj,BX,Ge h];rfl⟩
theorem xm{n z:Nat}{O:List α}{x:List AV}(hx:x.length=n)(h:O.length<=2147483647)(hz:z<=65536) :
  AZ n [x]/\(O.map f).length=O.length/\((O.map f).length+([x]:List (List AV)).length)*z<=140737488355328/\(O.map f).length+([x]:List (List AV)).length<=9223372036854775807:=by
 refine⟨⟨hx,trivial⟩,Lm _,?_,?_⟩<;>rw[Lm]<;>simp only[Av,AA]
 .have:=FP (show O.length+(0+1)<=2147483648 by omega) hz
  omega
 .omega
theorem Lz{cx:Cx}{c:Code}{Q:Ex->St->Prop}{s s' : LS}(h:s=s')(hk:Pl cx c Q s'.st):Pl cx c Q s.st:=by simp_all
theorem cf{x:List Rl}(h:AD x=0):Bl x ⟨p,v⟩=x.find? fun r=>decide (Cn r=⟨p,v⟩):=Aw (Lu h)
theorem OJ:Cn r=⟨p,v⟩↔r.path=p/\r.ver.a=v.a/\r.ver.b=v.b/\r.ver.c=v.c:=by
 unfold Cn;constructor
 .simp_all
 .rintro⟨rfl,h1,h2,h3⟩
  cases hr:r.ver<;>simp_all
def G9:List Rq:=match Bl x y with | some r=>r.reqs | none=>[]
def BW(l:List Sl):List Rq:=roots++(l.map (G9 x)).flatten
theorem KO:BW x roots []=roots:=by grind [BW]
theorem NM(l:List Sl)(y:Sl):BW x roots (l++[y])=BW x roots l++G9 x y:=by grind [BW]
theorem QE(l:List Sl)(h:i<l.length):BW x roots (l.take (i+1))=BW x roots (l.take i)++G9 x l[i]:=by
 grind [List.take_add_one,NM]
theorem Tp{x:List Rl}:(G9 x y).length<=16:=by
 unfold G9;split
 .rename_i r hr;exact(Fs (Cs hr).1).2 r (Cs hr).2.1
 .simp
theorem NO:∀l:List Sl,(BW x roots l).length<=roots.length+16*l.length:=fun l=>by
 unfold BW;rw[As]
 have:∀l:List Sl,((l.map (G9 x)).flatten).length<=16*l.length:=fun l=>by
  induction l<;>grind [Tp]
 simp_all
theorem bg{x:List Rl}{roots:List Rq}(hx:∀r∈x,F3 r)(hr:∀q∈roots,BB q.set)(l:List Sl):∀q∈BW x roots l,BB q.set:=fun q hq=>by
 unfold BW at hq;rcases Bz.1 hq with hq | hq
 .simp_all
 .obtain⟨m,hm,pL⟩:=In.1 hq;obtain⟨y,_,rfl⟩:=Ay.1 hm;unfold G9 at pL;split at pL
  .rename_i r Xg;exact((hx r (Cs Xg).2.1).2 q pL).1
  simp_all
theorem wE(p:ByteArray)(v:Ver)(hx:∀r∈x,F3 r)(Mw:BB x):PC 202 [.agg (Ic x ifs),vs p,.agg (Dt v)] (Hf (Bl x ⟨p,v⟩)):=by
 refine Ps Cu Tryz.func202 rfl (Nz rfl) (yN (Xi .pure (Xi _ (Yi (sq x ifs hx) (Yi (fun h1=>?_) (fun h1=>?_))))))
 .refine yN (yN ?_);exact .of_eq (show AV.tup [.agg Xn,vb false]=Hf (Bl x ⟨p,v⟩) by grind [Bl])
 have h1:(AD x:Int)=(0:Int):=AQ h1;refine Xi {i:Nat // i<=x.length/\∀j (h:j<x.length),j<i->decide (Cn x[j]=⟨p,v⟩)=false} (Xi (fun q=>⟨[(1,vs p),(3,.ref 3 0),(5,.ref 5 0),(6,.ref 6 0),(8,vi q.1)],[(3,.cells (Ic x ifs)),(5,.cells (Dt v)),(6,.cells [vs ⟨#[]⟩,vi 0,vi 0,vi 0,nzA,vs ⟨#[]⟩,vs ⟨#[]⟩,vs ⟨#[]⟩,vb false])],Af⟩) (Xi (fun q=>x.length-q.1) (Yi (Xi ⟨0,Ao _,fun j _ h=>by omega⟩ ?_) ?_)))
 .exact⟨Z5,Z3,Fh,Tv⟩
 intro⟨i,i1,i2⟩;refine Yi (fun h3=>?_) (fun h3=>?_)
 .have h3:(i:Int)<((x.map Ak).length:Int):=h3;have n3:=T8 h3;refine Xi (Ak x[i]) (Yi (WE n3) (Yi rfl (Yi (fun h4=>?_) (fun h4=>?_))))
  .refine Xi (Ak x[i]) (Yi (WE n3) (Yi rfl (yN (yN (Yi (fun h5=>?_) (fun h5=>?_))))))
   .refine Yi aa3 (Xi (Ak x[i]) (Yi (WE n3) (Yi rfl (yN (yN (yN ?_))))));exact .of_eq (show AV.tup [.agg (Ak x[i]),vb true]=Hf (Bl x ⟨p,v⟩) by rw[cf h1,Sh n3 i2 (A4 (OJ.2 ⟨h4,h5.1,h5.2.1,h5.2.2.1⟩))])
   refine Yi aa3 (Yi (by grind [Al]) (Xi ⟨i+1,by omega,fun j hj He=>(Dq j i).elim (i2 j hj) (fun z=>by have e:j=i:=aa0;subst e;exact AU (fun h=>h5 ⟨(OJ.1 h).2.1,(OJ.1 h).2.2.1,(OJ.1 h).2.2.2,trivial⟩))⟩ ?_));exact⟨Dl x.length i aa0,Z5,Z3,Fh,Tv⟩
  refine Yi aa3 (Yi (by grind [Al]) (Xi ⟨i+1,by omega,fun j hj He=>(Dq j i).elim (i2 j hj) (fun z=>by grind [OJ])⟩ ?_));exact⟨Dl x.length i aa0,Z5,Z3,Fh,Tv⟩
 have h3:¬((i:Int)<((x.map Ak).length:Int)):=h3;have n3:=T7 h3;refine yN (yN ?_);exact .of_eq (show AV.tup [.agg Xn,vb false]=Hf (Bl x ⟨p,v⟩) by grind [cf,Px])
theorem tn(hx:∀r∈x,F3 r)(Mw:BB x)(GH:roots.length<=1000000)(hs:s.length<=1000000):PC 272 [.agg (Ic x ifs),sl Ad roots,sl Ae s] (sl Ad (BW x roots s)):=by
 have Pn:∀(p:ByteArray) (v:Ver),PC 202 [Jx x ifs,vs p,.agg (Dt v)] (Hf (Bl x ⟨p,v⟩)):=fun p v=>wE x ifs p v hx Mw;refine Ps Cu Tryz.func272 rfl (Nz rfl) ?_;have b1:AZ 2 (roots.map Ad)/\([]:List (List AV)).length=0/\(([]:List (List AV)).length+(roots.map Ad).length)*40<=140737488355328/\([]:List (List AV)).length+(roots.map Ad).length<=9223372036854775807:=⟨(CE (enc:=Ad) (n:=2) (fun _=>rfl) roots),(by simp_all),(by grind),(by grind)⟩;refine Yi b1 (Xi {q:Nat×List Rq // q.1<=s.length/\q.2=BW x roots (s.take q.1)} (Xi (fun q=>⟨[(2,sl Ae s),(3,.ref 3 0),(7,.slice (.id 11 2) (q.1.2.map Ad)),(8,vi q.1.1)],[(3,.cells (Ic x ifs)),(11,.tok 2 q.1.2.length)],Af⟩) (Xi (fun q=>s.length-q.1.1) (Yi (Xi ⟨(0,roots),Ao _,(KO x roots).symm⟩ ?_) ?_))))
 .exact⟨⟨Zr,Zr,⟨(show AV.slice (.id 11 2) ([]++roots.map Ad)=.slice (.id 11 2) (roots.map Ad) by simp_all),rfl⟩,Zr,Tv⟩,⟨Zr,⟨(show HO.tok 2 (([]:List (List AV)).length+(roots.map Ad).length)=.tok 2 roots.length by simp_all),rfl⟩,Tv⟩,Fh,Tv⟩
 intro⟨⟨i,A⟩,i1,i2⟩;have i2:A=BW x roots (s.take i):=i2;have hA:A.length<=roots.length+16*i:=by
  grind [NO]
 refine Yi (fun h2=>?_) (fun h2=>?_)
 .have h2:(i:Int)<((s.map Ae).length:Int):=h2;have n2:=T8 h2;refine yN (Xi (Ae s[i]) (Yi (WE n2) (Yi rfl (Xi (Ae s[i]) (Yi (WE n2) (Yi rfl (yN (AG (CU (Bl x ⟨s[i].path,s[i].ver⟩)) (fun h3=>?_) (fun h3=>?_)))))))))
  .refine Am h3 (fun r h3=>?_);have jE:=Pn s[i].path s[i].ver;rw[h3]at jE;have UQ:=Tp (x:=x) s[i];rw[show G9 x s[i]=r.reqs by grind [G9,Bl]]at UQ;refine Xi _ (Yi jE (yN (Yi aa3 ?_)));have b4:AZ 2 (r.reqs.map Ad)/\(A.map Ad).length=A.length/\((A.map Ad).length+(r.reqs.map Ad).length)*40<=140737488355328/\(A.map Ad).length+(r.reqs.map Ad).length<=9223372036854775807:=⟨(CE (enc:=Ad) (n:=2) (fun _=>rfl) r.reqs),(by simp_all),(by grind),(by grind)⟩;refine Yi b4 (Yi (by grind [Al]) (Xi ⟨(i+1,A++r.reqs),by omega,by show A++r.reqs=BW x roots (s.take (i+1));grind [QE,G9,Bl]⟩ ?_));exact⟨by grind,⟨Zr,Zr,⟨(show AV.slice (.id 11 2) (A.map Ad++r.reqs.map Ad)=.slice (.id 11 2) ((A++r.reqs).map Ad) by simp),rfl⟩,Zr,Tv⟩,⟨Zr,⟨(show HO.tok 2 ((A.map Ad).length+(r.reqs.map Ad:List (List AV)).length)=.tok 2 (A++r.reqs).length by simp),rfl⟩,Tv⟩,Fh,Tv⟩
  have jE:=Pn s[i].path s[i].ver;rw[h3]at jE;refine Xi _ (Yi jE (yN (Yi aa3 ?_)));have b6:AZ 2 []/\(A.map Ad).length=A.length/\((A.map Ad).length+([]:List (List AV)).length)*40<=140737488355328/\(A.map Ad).length+([]:List (List AV)).length<=9223372036854775807:=⟨trivial,(by simp_all),(by grind),(by grind)⟩;refine Yi b6 (Yi (by grind [Al]) (Xi ⟨(i+1,A++([]:List Rq)),by omega,by show A++([]:List Rq)=BW x roots (s.take (i+1));rw[QE x roots s n2,<-i2,show G9 x s[i]=([]:List Rq) by grind [G9,Bl]]⟩ ?_));exact⟨by grind,⟨Zr,Zr,⟨(show AV.slice (.id 11 2) (A.map Ad++[])=.slice (.id 11 2) ((A++([]:List Rq)).map Ad) by simp),rfl⟩,Zr,Tv⟩,⟨Zr,⟨(show HO.tok 2 ((A.map Ad).length+([]:List (List AV)).length)=.tok 2 (A++([]:List Rq)).length by simp),rfl⟩,Tv⟩,Fh,Tv⟩
 have h2:¬((i:Int)<((s.map Ae).length:Int)):=h2;have n2:=T7 h2;exact .of_eq (Aa (sl Ad) (show A=BW x roots s by grind))
theorem Sv(p:ByteArray):Ch s p=(A3 s p).isSome:=by grind [Ch,A3]
section
variable {s:List Sl}{q:Rq}{o:Option ByteArray}
theorem YT(h:(A3 s q.path).isSome=true):Bm s o q=o:=by unfold Bm;grind [Sv]
theorem kM(h:(A3 s q.path).isSome=false)(ho:o.isSome=false):Bm s o q=some q.path:=by
 unfold Bm;grind [Sv]
theorem fH(h:(A3 s q.path).isSome=false)(ho:o.isSome=true)(hb:G1 q.path (o.getD mt)=true):Bm s o q=some q.path:=by
 unfold Bm;grind [Sv]
theorem fI(_:(A3 s q.path).isSome=false)(ho:o.isSome=true)(hb:G1 q.path (o.getD mt)=false):Bm s o q=o:=by
 unfold Bm;grind
end
abbrev kL(N:List Rq)(s:List Sl):AV:=.tup [vs ((Ei N s).getD mt),vb (Ei N s).isSome]
theorem c81(hx:∀r∈x,F3 r)(Mw:BB x)(GH:roots.length<=1000000)(hs:s.length<=1000000):PC 208 [.agg (Ic x ifs),sl Ad roots,sl Ae s] (kL (BW x roots s) s):=by
 obtain⟨N,hN⟩:∃N,N=BW x roots s:=⟨_,rfl⟩;have jr:=tn x ifs roots s hx Mw GH hs;have zg:=NO x roots s;rw[<-hN]at jr zg⊢;have Xh:BB s:=by omega
 refine Ps Cu Tryz.func208 rfl (Nz rfl) (yN (Xi .pure (Xi _ (Yi jr (Xi {q:Nat×Option ByteArray // q.1<=N.length/\q.2=F7 s (N.take q.1) none} (Xi (fun q=>⟨[(2,sl Ae s),(8,sl Ad N),(9,vs (q.1.2.getD mt)),(10,vb q.1.2.isSome),(11,vi q.1.1)],[],Af⟩) (Xi (fun q=>N.length-q.1.1) (Yi (Xi ⟨(0,none),Ao _,rfl⟩ ?_) ?_))))))))
 .exact⟨Z5,Tv,Fh,Tv⟩
 intro⟨⟨i,o⟩,i1,i2⟩;refine AG (Bt o.isSome) (fun h1=>?_) (fun h1=>?_)
 .refine Lz (Aa (fun bb=>(⟨[(2,sl Ae s),(8,sl Ad N),(9,vs (o.getD mt)),(10,vb bb),(11,vi i)],[],Af⟩:LS)) h1) (Yi (fun h2=>?_) (fun h2=>?_))
  .have n2:=T8 h2;refine Xi (Ad N[i]) (Yi (WE n2) (Yi rfl (AG (Bt (A3 s N[i].path).isSome) (fun h3=>?_) (fun h3=>?_))))
   .have cr:=(show PC 209 [sl Ae s,vs N[i].path] (.tup [.agg (Ae ((A3 s N[i].path).getD Lk)),vb (A3 s N[i].path).isSome])from sr s N[i].path Xh);rw[show(A3 s N[i].path).isSome=true from h3]at cr;refine Xi .pure (Xi _ (Yi cr (yN (Yi (by grind [Al]) (Xi ⟨(i+1,o),by omega,by grind [Gw,YT]⟩ ?_)))));exact⟨by grind,⟨Zr,Zr,Zr,⟨(show vb true=vb o.isSome by rw[h1]),rfl⟩,Zr,Tv⟩,Tv,Fh,Tv⟩
   have UN:=(show PC 209 [sl Ae s,vs N[i].path] (.tup [.agg (Ae ((A3 s N[i].path).getD Lk)),vb (A3 s N[i].path).isSome])from sr s N[i].path Xh);rw[show(A3 s N[i].path).isSome=false from h3]at UN;refine Xi .pure (Xi _ (Yi UN (yN (Xi (Ad N[i]) (Yi (WE n2) (Yi rfl (Yi (fun h7=>?_) (fun h7=>?_))))))))
   .have h7:G1 N[i].path (o.getD mt)=true:=(Ed _ _).trans h7;refine Xi (Ad N[i]) (Yi (WE n2) (Yi rfl (Yi (by grind [Al]) (Xi ⟨(i+1,(some N[i].path)),by omega,by grind [Gw,fH]⟩ ?_))));exact⟨by grind,Z5,Tv,Fh,Tv⟩
   have h7:G1 N[i].path (o.getD mt)=false:=(Ed _ _).trans (DQ.2 h7);refine Yi (by grind [Al]) (Xi ⟨(i+1,o),by omega,by grind [Gw,fI]⟩ ?_);exact⟨by grind,⟨Zr,Zr,Zr,⟨(show vb true=vb o.isSome by rw[h1]),rfl⟩,Zr,Tv⟩,Tv,Fh,Tv⟩
  have n2:=T7 h2;exact .of_eq (show AV.tup [vs (o.getD mt),vb true]=kL N s by grind [Ei])
 refine Lz (Aa (fun bb=>(⟨[(2,sl Ae s),(8,sl Ad N),(9,vs (o.getD mt)),(10,vb bb),(11,vi i)],[],Af⟩:LS)) h1) (Yi (fun Hd=>?_) (fun Hd=>?_))
 .have n11:=T8 Hd;refine Xi (Ad N[i]) (Yi (WE n11) (Yi rfl (AG (Bt (A3 s N[i].path).isSome) (fun HX=>?_) (fun HX=>?_))))
  .have OB:=(show PC 209 [sl Ae s,vs N[i].path] (.tup [.agg (Ae ((A3 s N[i].path).getD Lk)),vb (A3 s N[i].path).isSome])from sr s N[i].path Xh);rw[show(A3 s N[i].path).isSome=true from HX]at OB;refine Xi .pure (Xi _ (Yi OB (yN (Yi (by grind [Al]) (Xi ⟨(i+1,o),by omega,by grind [Gw,YT]⟩ ?_)))));exact⟨by grind,⟨Zr,Zr,Zr,⟨(show vb false=vb o.isSome by rw[h1]),rfl⟩,Zr,Tv⟩,Tv,Fh,Tv⟩
  have uD:=(show PC 209 [sl Ae s,vs N[i].path] (.tup [.agg (Ae ((A3 s N[i].path).getD Lk)),vb (A3 s N[i].path).isSome])from sr s N[i].path Xh);rw[show(A3 s N[i].path).isSome=false from HX]at uD;refine Xi .pure (Xi _ (Yi uD (yN (Xi (Ad N[i]) (Yi (WE n11) (Yi rfl (Yi (by grind [Al]) (Xi ⟨(i+1,(some N[i].path)),by omega,by grind [Gw,kM]⟩ ?_))))))));exact⟨by grind,Z5,Tv,Fh,Tv⟩
 have n11:=T7 Hd;exact .of_eq (show AV.tup [vs (o.getD mt),vb false]=kL N s by grind [Ei])
end Go.Eng
