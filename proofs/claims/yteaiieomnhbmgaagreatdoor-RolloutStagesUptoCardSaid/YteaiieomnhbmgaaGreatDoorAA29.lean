/- Lemmas 29. -/
import Derived.Test.YteaiieomnhbmgaaGreatDoorAA28
set_option maxHeartbeats 4000000
namespace Go.Eng
open Go.Proofs
variable (x:List Rl)(ifs:List (List AV))(roots:List Rq)
abbrev rt:Tn:=⟨[2],[],[],[],[],[],[],[(50,(9,3,95,3))],[(44,0)],[(100016,1009)],[3,4,5,6,7,8,9,10,11,14,15,16]⟩
abbrev an0:An:=⟨false,[],[],[]⟩
def Lp:An:=if GN x roots=true/\(EM x roots).ss.full=false then lc x roots else an0
def Ky:Int:=if GN x roots=true then if(EM x roots).ss.full=true then 7 else 0 else 1
abbrev oy:AV:=.tup [.agg (UC (Lp x roots)),vi (Ky x roots)]
theorem CV.an0{v:AV}:CV (.tup [.agg [vb false,nzA,nzA,nzA],v]) (.tup [.agg (UC an0),v]):=
 CV.tup ⟨CV.agg ⟨.refl _,.nil,.nil,.nil,trivial⟩,.refl _,trivial⟩
theorem VV{x:List Rl}{roots:List Rq}(hx:∀r∈x,EG r)(hr:∀q∈roots,Kd q)(h0:A5 x=0)(h1:BN roots=0){L:List ByteArray}(hl:L.Perm (AW (yR x) [])){o:La}(ho:EM x roots=o) :
  Ba Tryz.prog 137 [.ref 1000 0] (Ap (J4 roots (mC x) (L.map (kA x)) ss0 [] []) Ae) (cD roots (mC x) (L.map (kA x)) o):=by
 rw[<-ho];exact Aem (ul hx hr h0 h1 hl) (x.length+1) (.nil x) (Je.nil roots) ⟨⟨rfl,Ax _⟩,FJ⟩ rfl (Nat.lt_succ_of_le (Bw _ _)) rfl
theorem ci{x:List Rl}{roots:List Rq}(h:GN x roots=true):A5 x=0/\BN roots=0:=by
 unfold GN at h;rw[Af,AC,AC]at h;exact h
theorem rI(hx:∀r∈x,EG r)(hr:∀q∈roots,Kd q)(hv:GN x roots=false):PC 78 [MU x ifs,sl Bb roots] (.tup [.agg (UC an0),vi 1]):=by
 have UZ:=s28 x ifs roots hx hr;rw[hv]at UZ;refine Ps rt Tryz.func78 rfl (Nz rfl) (Yi ?_ ?_)
 .exact Nz rfl
 refine Xi .pure (Xi _ (Yi UZ (Yi ?_ ?_)))
 .exact Nz rfl
 refine Yi ?_ ?_
 .exact Nz rfl
 exact CV.an0
theorem oq(hx:∀r∈x,EG r)(hr:∀q∈roots,Kd q)(hv:GN x roots=true)(h0:A5 x=0)(h1:BN roots=0)(k:Nat)(infs:List Nf)(drv:List (List Tm))(dec:List Cd)(st:List (List Sk))(ho:EM x roots=⟨k,false,⟨infs,drv,true⟩,dec,st⟩):PC 78 [MU x ifs,sl Bb roots] (.tup [.agg (UC an0),vi 7]):=by
 have UZ:=s28 x ifs roots hx hr;rw[hv]at UZ;refine Ps rt Tryz.func78 rfl (Nz rfl) (Yi ?_ ?_)
 .exact Nz rfl
 refine Xi .pure (Xi _ (Yi UZ (cU [(1,sl Bb roots),(2,.ref 2 0),(4,.ref 4 0)] [(2,.ro (Ic x ifs)),(4,.cells [vb false,nzA,nzA,nzA])] Z3 Z2 (Yi ?_ ?_))))
 .exact Nz rfl
 refine Xi (.gen [] 5) (Yi rfl ((s29 x ifs roots hx h0).imp ?_));intro v g q;refine CT q (fun L q=>?_);have q1:=q.2.1;have q2:=q.2.2;have qp:=q.1;subst q1;subst q2;refine cU [(4,.ref 4 0),(6,.ref 11900 0)] [(4,.cells [vb false,nzA,nzA,nzA]),(11900,.cells [sl Bb roots,.cmap Cq (mC x),.cmap Cq (L.map (kA x)),.slice (.id 11901 6) [],.slice (.id 11902 1) [],.mref 11903,vb false,.slice .none [],.slice .none [],.msl 11904 0]),(11901,.tok 6 0),(11902,.tok 1 0),(11903,.map FY []),(11904,.arr 1 [])] Z2 Z6 (Xi (.gen [(11900,1000),(11901,1001),(11902,1002),(11903,1003),(11904,1004)] 1) (Yi rfl ((VV hx hr h0 h1 qp ho).imp ?_)));intro v g q;have q1:=q.1;have q2:=q.2;subst q1;subst q2;refine cU [(4,.ref 4 0),(6,.ref 11900 0),(7,vi (k:Nat)),(8,vb false)] [(4,.cells [vb false,nzA,nzA,nzA]),(11900,.cells [sl Bb roots,.cmap Cq (mC x),.cmap Cq (L.map (kA x)),.slice (.id 11901 6) (infs.map Dz),.slice (.id 11902 1) (drv.map Do),.mref 11903,vb true,sl AT dec,sl Am (AR dec),.msl 12200 st.length]),(11901,.tok 6 infs.length),(11902,.tok 1 drv.length),(11903,.map FY (F3 0 infs)),(12200,.arr 1 (st.map Bq))] Z4 Z6 (Yi (fun _=>?_) (fun h=>by cases h));refine cU [(4,.ref 4 0)] [(4,.cells [vb false,nzA,nzA,nzA])] Z1 Z1 (Yi ?_ ?_)
 .exact Nz rfl
 refine Yi ?_ ?_
 .exact Nz rfl
 exact CV.an0
theorem vK(hx:∀r∈x,EG r)(hr:∀q∈roots,Kd q)(hv:GN x roots=true)(h0:A5 x=0)(h1:BN roots=0)(k:Nat)(infs:List Nf)(drv:List (List Tm))(dec:List Cd)(st:List (List Sk))(ho:EM x roots=⟨k,false,⟨infs,drv,false⟩,dec,st⟩)(hk:k<infs.length)(hl:infs.length<=65536):PC 78 [MU x ifs,sl Bb roots] (.tup [.agg (UC ⟨false,[],infs.take (k+1),[]⟩),vi 0]):=by
 have UZ:=s28 x ifs roots hx hr;rw[hv]at UZ;refine Ps rt Tryz.func78 rfl (Nz rfl) (Yi ?_ ?_)
 .exact Nz rfl
 refine Xi .pure (Xi _ (Yi UZ (cU [(1,sl Bb roots),(2,.ref 2 0),(4,.ref 4 0)] [(2,.ro (Ic x ifs)),(4,.cells [vb false,nzA,nzA,nzA])] Z3 Z2 (Yi ?_ ?_))))
 .exact Nz rfl
 refine Xi (.gen [] 5) (Yi rfl ((s29 x ifs roots hx h0).imp ?_));intro v g q;refine CT q (fun L q=>?_);have q1:=q.2.1;have q2:=q.2.2;have qp:=q.1;subst q1;subst q2;refine cU [(4,.ref 4 0),(6,.ref 11900 0)] [(4,.cells [vb false,nzA,nzA,nzA]),(11900,.cells [sl Bb roots,.cmap Cq (mC x),.cmap Cq (L.map (kA x)),.slice (.id 11901 6) [],.slice (.id 11902 1) [],.mref 11903,vb false,.slice .none [],.slice .none [],.msl 11904 0]),(11901,.tok 6 0),(11902,.tok 1 0),(11903,.map FY []),(11904,.arr 1 [])] Z2 Z6 (Xi (.gen [(11900,1000),(11901,1001),(11902,1002),(11903,1003),(11904,1004)] 1) (Yi rfl ((VV hx hr h0 h1 qp ho).imp ?_)));intro v g q;have q1:=q.1;have q2:=q.2;subst q1;subst q2;refine cU [(4,.ref 4 0),(6,.ref 11900 0),(7,vi (k:Nat)),(8,vb false)] [(4,.cells [vb false,nzA,nzA,nzA]),(11900,.cells [sl Bb roots,.cmap Cq (mC x),.cmap Cq (L.map (kA x)),.slice (.id 11901 6) (infs.map Dz),.slice (.id 11902 1) (drv.map Do),.mref 11903,vb false,sl AT dec,sl Am (AR dec),.msl 12200 st.length]),(11901,.tok 6 infs.length),(11902,.tok 1 drv.length),(11903,.map FY (F3 0 infs)),(12200,.arr 1 (st.map Bq))] Z4 Z6 (Yi (fun h=>by cases h) (fun _=>?_));refine cU [(4,.ref 4 0),(6,.ref 11900 0),(7,vi (k:Nat)),(8,vb false)] [(4,.cells [vb false,nzA,nzA,nzA]),(11900,.cells [sl Bb roots,.cmap Cq (mC x),.cmap Cq (L.map (kA x)),.slice (.id 11901 6) (infs.map Dz),.slice (.id 11902 1) (drv.map Do),.mref 11903,vb false,sl AT dec,sl Am (AR dec),.msl 12200 st.length]),(11901,.tok 6 infs.length),(11902,.tok 1 drv.length),(11903,.map FY (F3 0 infs)),(12200,.arr 1 (st.map Bq))] Z4 Z6 (cU [(4,.ref 4 0),(6,.ref 11900 0),(7,vi (k:Nat))] [(4,.cells [vb false,nzA,nzA,nzA]),(11900,.cells [sl Bb roots,.cmap Cq (mC x),.cmap Cq (L.map (kA x)),.slice (.id 11901 6) (infs.map Dz),.slice (.id 11902 1) (drv.map Do),.mref 11903,vb false,sl AT dec,sl Am (AR dec),.msl 12200 st.length]),(11901,.tok 6 infs.length),(11902,.tok 1 drv.length),(11903,.map FY (F3 0 infs)),(12200,.arr 1 (st.map Bq))] Z3 Z6 (Yi (Ii k ch) ?_));have el:(infs.map Dz).length=infs.length:=Lm ..;refine Yi ⟨Bu _,by show(0:Int)<=(k:Int)+1;omega,by show(k:Int)+1<=((infs.map Dz).length:Int);rw[el];omega⟩ ?_;refine Yi (fun cs hcs=>by obtain⟨i,_,rfl⟩:=Ai.1 hcs;rfl) (Yi ?_ ?_)
 .exact Nz rfl
 refine Yi ?_ ?_
 .exact Nz rfl
 have et:((infs.map Dz).take ((k:Int)+1).toNat).drop (0:Int).toNat=(infs.take (k+1)).map Dz:=by
  rw[show((k:Int)+1).toNat=k+1 by omega];simp
 exact CV.tup ⟨CV.agg ⟨.refl _,.nil,.of_eq (show AV.slice .none (((infs.map Dz).take ((k:Int)+1).toNat).drop (0:Int).toNat)=_ by rw[et]),.nil,trivial⟩,.refl _,trivial⟩
theorem XE(y:Sl):∀l:List Sl,(WJ y l).Perm (y::l)
 | []=>.refl _
 |z::l=>by
  unfold WJ;split
  .exact .refl _
  .exact((XE y l).cons z).trans (List.Perm.swap y z l)
theorem Kz:∀l:List Sl,(Ec l).Perm l
 | []=>.refl _
 |y::l=>(XE y _).trans ((Kz l).cons y)
theorem aH{b:Nat}:∀{st:List (List Sk)},(∀s∈st,s.length<=b)->st.flatten.length<=b*st.length
 | [],_=>by simp
 |s::st,h=>by
  rw[BD,Ac,Ag,Nat.mul_succ]
  have:=h s (Ab ..)
  have:=aH (st:=st) fun t ht=>h t (Ah _ ht)
  omega
theorem ox{st:List (List Sk)}(h:st.length<=256)(hs:∀s∈st,s.length<=256)(i:Nat):((st.take i).flatten).length<=65536:=by
 have h1:=aH (b:=256) (st:=st.take i) fun s ZE=>hs s (CU ZE)
 have:(st.take i).length<=256:=by rw[Au];omega
 omega
theorem rJ(hx:∀r∈x,EG r)(hr:∀q∈roots,Kd q)(hv:GN x roots=true)(h0:A5 x=0)(h1:BN roots=0)(k:Nat)(infs:List Nf)(drv:List (List Tm))(dec:List Cd)(st:List (List Sk))(ho:EM x roots=⟨k,true,⟨infs,drv,false⟩,dec,st⟩)(hd:dec.length<=256)(hn:((AR dec).map (·.path)).Nodup)(KL:st.length<=256)(hsk:∀s∈st,s.length<=256):PC 78 [MU x ifs,sl Bb roots] (.tup [.agg (UC ⟨true,Ec (AR dec),infs,st.flatten⟩),vi 0]):=by
 have UZ:=s28 x ifs roots hx hr;rw[hv]at UZ;refine Ps rt Tryz.func78 rfl (Nz rfl) (Yi ?_ ?_)
 .exact Nz rfl
 refine Xi .pure (Xi _ (Yi UZ (cU [(1,sl Bb roots),(2,.ref 2 0),(4,.ref 4 0)] [(2,.ro (Ic x ifs)),(4,.cells [vb false,nzA,nzA,nzA])] Z3 Z2 (Yi ?_ ?_))))
 .exact Nz rfl
 refine Xi (.gen [] 5) (Yi rfl ((s29 x ifs roots hx h0).imp ?_));intro v g q;refine CT q (fun L q=>?_);have q1:=q.2.1;have q2:=q.2.2;have qp:=q.1;subst q1;subst q2;refine cU [(4,.ref 4 0),(6,.ref 11900 0)] [(4,.cells [vb false,nzA,nzA,nzA]),(11900,.cells [sl Bb roots,.cmap Cq (mC x),.cmap Cq (L.map (kA x)),.slice (.id 11901 6) [],.slice (.id 11902 1) [],.mref 11903,vb false,.slice .none [],.slice .none [],.msl 11904 0]),(11901,.tok 6 0),(11902,.tok 1 0),(11903,.map FY []),(11904,.arr 1 [])] Z2 Z6 (Xi (.gen [(11900,1000),(11901,1001),(11902,1002),(11903,1003),(11904,1004)] 1) (Yi rfl ((VV hx hr h0 h1 qp ho).imp ?_)));intro v g q;have q1:=q.1;have q2:=q.2;subst q1;subst q2;refine cU [(4,.ref 4 0),(6,.ref 11900 0),(7,vi (k:Nat)),(8,vb true)] [(4,.cells [vb false,nzA,nzA,nzA]),(11900,.cells [sl Bb roots,.cmap Cq (mC x),.cmap Cq (L.map (kA x)),.slice (.id 11901 6) (infs.map Dz),.slice (.id 11902 1) (drv.map Do),.mref 11903,vb false,sl AT dec,sl Am (AR dec),.msl 12200 st.length]),(11901,.tok 6 infs.length),(11902,.tok 1 drv.length),(11903,.map FY (F3 0 infs)),(12200,.arr 1 (st.map Bq))] Z4 Z6 (Yi (fun h=>by cases h) (fun _=>?_));refine cU [(4,.ref 4 0),(6,.ref 11900 0),(8,vb true)] [(4,.cells [vb false,nzA,nzA,nzA]),(11900,.cells [sl Bb roots,.cmap Cq (mC x),.cmap Cq (L.map (kA x)),.slice (.id 11901 6) (infs.map Dz),.slice (.id 11902 1) (drv.map Do),.mref 11903,vb false,sl AT dec,sl Am (AR dec),.msl 12200 st.length]),(11901,.tok 6 infs.length),(11902,.tok 1 drv.length),(11903,.map FY (F3 0 infs)),(12200,.arr 1 (st.map Bq))] Z3 Z6 (cU [(4,.ref 4 0),(6,.ref 11900 0)] [(4,.cells [vb false,nzA,nzA,nzA]),(11900,.cells [sl Bb roots,.cmap Cq (mC x),.cmap Cq (L.map (kA x)),.slice (.id 11901 6) (infs.map Dz),.slice (.id 11902 1) (drv.map Do),.mref 11903,vb false,sl AT dec,sl Am (AR dec),.msl 12200 st.length]),(11901,.tok 6 infs.length),(11902,.tok 1 drv.length),(11903,.map FY (F3 0 infs)),(12200,.arr 1 (st.map Bq))] Z2 Z6 ?_)
 have wX:(AR dec).length<=256:=by rw[Lm];exact hd
 have fP:Cb (AR dec):=AI wX Cl;refine Xi (AR dec).length (Xi 4 (Xi ((AR dec).map Am) (Yi rfl (Yi (Aeo (AR dec) fP) (Yi ?_ ?_)))))
 .exact Nz rfl
 refine Yi Wk (cU [(4,.ref 4 0),(6,.ref 11900 0),(9,.ref 9 0)] [(4,.cells [vb false,nzA,nzA,nzA]),(9,.cells [vb true,.msl 14400 (AR dec).length,.slice (.id 11901 6) (infs.map Dz),nzA]),(11900,.cells [sl Bb roots,.cmap Cq (mC x),.cmap Cq (L.map (kA x)),.slice (.id 11901 6) (infs.map Dz),.slice (.id 11902 1) (drv.map Do),.mref 11903,vb false,sl AT dec,sl Am (AR dec),.msl 12200 st.length]),(11901,.tok 6 infs.length),(11902,.tok 1 drv.length),(11903,.map FY (F3 0 infs)),(12200,.arr 1 (st.map Bq)),(14400,.arr 4 ((AR dec).map Am))] Z3 Z8 (Xi (.gen [(14400,1000)] 0) (Yi rfl ((s47 139 Tryz.closure139 (enters_of Tryz.func139 Wk rfl) (AR dec) fP hn).imp ?_))));intro v g q;have q1:=q.1;have q2:=q.2;subst q1;subst q2;refine cU [(4,.ref 4 0),(6,.ref 11900 0),(9,.ref 9 0)] [(4,.cells [vb false,nzA,nzA,nzA]),(9,.cells [vb true,.msl 14400 (AR dec).length,.slice (.id 11901 6) (infs.map Dz),.slice (.id 95 3) []]),(95,.tok 3 0),(11900,.cells [sl Bb roots,.cmap Cq (mC x),.cmap Cq (L.map (kA x)),.slice (.id 11901 6) (infs.map Dz),.slice (.id 11902 1) (drv.map Do),.mref 11903,vb false,sl AT dec,sl Am (AR dec),.msl 12200 st.length]),(11901,.tok 6 infs.length),(11902,.tok 1 drv.length),(11903,.map FY (F3 0 infs)),(12200,.arr 1 (st.map Bq)),(14400,.arr 4 ((Ec (AR dec)).map Am))] Z3 Z9 (Xi {i:Nat // i<=st.length} (Xi (fun i=>⟨[(4,.ref 4 0),(6,.ref 11900 0),(9,.ref 9 0),(56,.msl 12200 st.length),(57,vi (st.length:Nat)),(58,vi i.1)],[(4,.cells [vb false,nzA,nzA,nzA]),(9,.cells [vb true,.msl 14400 (AR dec).length,.slice (.id 11901 6) (infs.map Dz),.slice (.id 95 3) ((st.take i.1).flatten.map CB)]),(95,.tok 3 ((st.take i.1).flatten.map CB).length),(11900,.cells [sl Bb roots,.cmap Cq (mC x),.cmap Cq (L.map (kA x)),.slice (.id 11901 6) (infs.map Dz),.slice (.id 11902 1) (drv.map Do),.mref 11903,vb false,sl AT dec,sl Am (AR dec),.msl 12200 st.length]),(11901,.tok 6 infs.length),(11902,.tok 1 drv.length),(11903,.map FY (F3 0 infs)),(12200,.arr 1 (st.map Bq)),(14400,.arr 4 ((Ec (AR dec)).map Am))],Ae⟩) (Xi (fun i=>st.length-i.1) (Yi (Xi ⟨0,Ax _⟩ ?_) ?_))))
 .exact⟨Z6,Z9,Fh,Tv⟩
 intro⟨i,i1⟩;refine Yi ?_ ?_
 .intro h;have h:(i:Int)<(st.length:Nat):=h;have h:i<st.length:=by omega
  have hg:st[i]?=some st[i]:=Ge h;have LK:st.take (i+1)=st.take i++[st[i]]:=by rw[Bj,hg];rfl
  refine Yi (Yi (Nn i) (by show(i:Int)<(st.length:Nat);omega)) (Yi (by rw[Lm]) (Xi (Bq st[i]) (Yi (by show(st.map Bq)[((i:Nat):Int).toNat]?=_;rw[BL,AG,hg];rfl) ?_)));refine cU [(4,.ref 4 0),(6,.ref 11900 0),(9,.ref 9 0),(11,sl CB st[i]),(56,.msl 12200 st.length),(57,vi (st.length:Nat)),(58,vi i)] [(4,.cells [vb false,nzA,nzA,nzA]),(9,.cells [vb true,.msl 14400 (AR dec).length,.slice (.id 11901 6) (infs.map Dz),.slice (.id 95 3) ((st.take i).flatten.map CB)]),(95,.tok 3 ((st.take i).flatten.map CB).length),(11900,.cells [sl Bb roots,.cmap Cq (mC x),.cmap Cq (L.map (kA x)),.slice (.id 11901 6) (infs.map Dz),.slice (.id 11902 1) (drv.map Do),.mref 11903,vb false,sl AT dec,sl Am (AR dec),.msl 12200 st.length]),(11901,.tok 6 infs.length),(11902,.tok 1 drv.length),(11903,.map FY (F3 0 infs)),(12200,.arr 1 (st.map Bq)),(14400,.arr 4 ((Ec (AR dec)).map Am))] Z7 Z9 ?_
  have hfl:((st.take i).flatten).length<=65536/\st[i].length<=256:=⟨ox KL hsk i,hsk _ (Aq _)⟩;have HC:B5 3 (st[i].map CB)/\((st.take i).flatten.map CB).length=((st.take i).flatten.map CB).length/\(((st.take i).flatten.map CB).length+(st[i].map CB).length)*32<=140737488355328/\((st.take i).flatten.map CB).length+(st[i].map CB).length<=9223372036854775807:=by
   refine⟨Ea (enc:=CB) (n:=3) (fun _=>rfl) _,rfl,?_,?_⟩<;>simp only[Lm]<;>omega
  refine Yi HC (Yi ?_ ?_)
  .exact Nz rfl
  have ef:((st.take i).flatten.map CB)++st[i].map CB=((st.take (i+1)).flatten.map CB):=by rw[LK,Ch,As];simp
  have en:((st.take i).flatten.map CB).length+(st[i].map CB).length=((st.take (i+1)).flatten.map CB).length:=by rw[<-ef,Ac]
  refine cU [(4,.ref 4 0),(6,.ref 11900 0),(9,.ref 9 0),(56,.msl 12200 st.length),(57,vi (st.length:Nat)),(58,vi i)] [(4,.cells [vb false,nzA,nzA,nzA]),(9,.cells [vb true,.msl 14400 (AR dec).length,.slice (.id 11901 6) (infs.map Dz),.slice (.id 95 3) ((st.take (i+1)).flatten.map CB)]),(95,.tok 3 ((st.take (i+1)).flatten.map CB).length),(11900,.cells [sl Bb roots,.cmap Cq (mC x),.cmap Cq (L.map (kA x)),.slice (.id 11901 6) (infs.map Dz),.slice (.id 11902 1) (drv.map Do),.mref 11903,vb false,sl AT dec,sl Am (AR dec),.msl 12200 st.length]),(11901,.tok 6 infs.length),(11902,.tok 1 drv.length),(11903,.map FY (F3 0 infs)),(12200,.arr 1 (st.map Bq)),(14400,.arr 4 ((Ec (AR dec)).map Am))] Z6 ⟨Zr,⟨Aa (fun z=>HO.cells [vb true,.msl 14400 (AR dec).length,.slice (.id 11901 6) (infs.map Dz),.slice (.id 95 3) z]) ef,rfl⟩,⟨Aa (HO.tok 3) en,rfl⟩,Zr,Zr,Zr,Zr,Zr,Zr,Tv⟩ (Yi (Ii i ch) (Xi ⟨i+1,by omega⟩ ?_));exact⟨Dl st.length i ch,Z6,Z9,Fh,Tv⟩
 .intro h;have h:¬(i:Int)<(st.length:Nat):=h;have et:st.take i=st:=At ch;have SN:(AR dec).length=((Ec (AR dec)).map Am).length:=(Kz (AR dec)).length_eq.symm.trans (Lm ..).symm;refine Yi SN (cU [(4,.ref 4 0),(9,.ref 9 0)] [(4,.cells [vb false,nzA,nzA,nzA]),(9,.cells [vb true,.slice (.id 14400 4) ((Ec (AR dec)).map Am),.slice (.id 11901 6) (infs.map Dz),.slice (.id 95 3) (st.flatten.map CB)]),(95,.tok 3 (st.flatten.map CB).length),(11901,.tok 6 infs.length),(14400,.tok 4 ((Ec (AR dec)).map Am).length)] Z2 ⟨Zr,⟨Aa (fun z:List (List Sk)=>HO.cells [vb true,.slice (.id 14400 4) ((Ec (AR dec)).map Am),.slice (.id 11901 6) (infs.map Dz),.slice (.id 95 3) (z.flatten.map CB)]) et,rfl⟩,⟨Aa (fun z:List (List Sk)=>HO.tok 3 (z.flatten.map CB).length) et,rfl⟩,Zr,Zr,Tv⟩ (Yi ?_ ?_))
  .exact Nz rfl
  refine Yi ?_ ?_
  .exact Nz rfl
  refine Yi ?_ ?_
  .exact Nz rfl
  exact .refl _
theorem Sb{s:SS}{b:List Cd}{p:ByteArray}{needs:List Nd}:∀{cs:List Cd} {sk:List Sk},HJ s b p needs cs sk->sk.length<=cs.length
 | [],sk,h=>by
  have h:sk=[]:=h;rw[h];exact Ak _
 |c::cs,sk,h=>by
  have h:if(needs.all fun n=>has n.rq.set c.place)=true then _ else _:=h
  by_cases hc:(needs.all fun n=>has n.rq.set c.place)=true
  .rw[Al hc]at h;obtain⟨k,rest,rfl,_,h3⟩:=h
   have:=Sb h3
   simp only[Ag];omega
  .rw[Aj hc]at h
   have:=Sb h
   simp only[Ag];omega
theorem Xm{x:List Rl}{roots:List Rq}{s:SS}:∀{t:List Cd} {sl:List (List Sk)} {b:List Cd},T3 x roots s b t sl->sl.length=t.length/\∀k∈sl,k.length<=x.length
 | [],[],_,_=>⟨rfl,fun _ h=>by cases h⟩
 | [],_::_,_,h=>h.elim
 |_::_,[],_,h=>h.elim
 |c::t,sk::sl,b,⟨⟨p,needs,pre,post,hs⟩,h⟩=>by
  obtain⟨h1,h2⟩:=Xm h;refine⟨by simp[h1],fun k hk=>?_⟩;rcases AA.1 hk with rfl | hk
  .have e1:=Sb hs.skips;have e2:=Xj x p;rw[hs.cands,Ac]at e2;omega
  .exact h2 k hk
theorem s21(hx:∀r∈x,EG r)(hr:∀q∈roots,Kd q):PC 78 [MU x ifs,sl Bb roots] (oy x roots):=by
 unfold oy Lp Ky;cases hv:GN x roots with
 |false=>simpa using rI x ifs roots hx hr hv
 |true=>
  obtain⟨h0,h1⟩:=ci hv;have hR:=X3 h0 h1;have sV:=(Mn h0).1;have hA:lc x roots=if(EM x roots).found=true then⟨true,Ec (AR (EM x roots).dec),(EM x roots).ss.infs,(EM x roots).stack.flatten⟩else⟨false,[],(EM x roots).ss.infs.take ((EM x roots).res+1),[]⟩:=rfl
  rw[hA];generalize ho:EM x roots=o at hR⊢;obtain⟨k,b,⟨infs,drv,full⟩,dec,st⟩:=o;have hl:infs.length<=65536:=hR.der.len;have hdl:drv.length=infs.length:=hR.der.dlen;cases b with
  |false=>
   cases full with
   |true=>simpa using oq x ifs roots hx hr hv h0 h1 k infs drv dec st ho
   |false=>
    have hk:k<drv.length:=((hR.no rfl).2.2 rfl).1;simpa using vK x ifs roots hx hr hv h0 h1 k infs drv dec st ho ch hl
  |true=>
   obtain⟨hf,t,sl,e1,e2,hC,_⟩:=hR.yes rfl;subst hf;have e1:dec=[]++t:=e1;have e2:st=[]++sl:=e2;rw[F1]at e1 e2;subst e1;subst e2;have hD:E5 x ([]++dec):=(T3.ok (.nil x) (.nil roots) hC).1;rw[F1]at hD;have hdx:=aj hD;obtain⟨c1,c2⟩:=Xm hC;have hn:((AR dec).map (·.path)).Nodup:=by rw[Pd];exact hD.nodup
   simpa using rJ x ifs roots hx hr hv h0 h1 k infs drv dec st ho ch hn ch (fun s hs=>AI (c2 s hs) sV)
def KM:Int:=if Ky x roots≠0 then Ky x roots else if(Lp x roots).found=true then 0 else 17
def ES:List Sl:=if KM x roots=0 then(Lp x roots).sel else []
abbrev Adz:Tn:=(pC [2] [])
theorem vJ(a:An)(e:Int)(h:PC 78 [MU x ifs,sl Bb roots] (.tup [.agg (UC a),vi e])) :
  PC 37 [MU x ifs,sl Bb roots] (.tup [if e≠0 then sl Am []else if a.found=true then sl Am a.sel else sl Am [],vi (if e≠0 then e else if a.found=true then 0 else 17)]):=by
 refine Ps Adz Tryz.func37 rfl (Nz rfl) (Yi ?_ ?_)
 .exact Nz rfl
 refine Xi .pure (Xi _ (Yi h (Yi ?_ ?_)))
 .exact Nz rfl
 refine Yi (fun he=>?_) (fun he=>?_)
 .have e1:AV.tup [sl Am [],vi e]=.tup [if e≠0 then sl Am []else if a.found=true then sl Am a.sel else sl Am [],vi (if e≠0 then e else if a.found=true then 0 else 17)]:=by rw[Al he,Al he]
  exact(show CV (.tup [nzA,vi e]) (.tup [sl Am ([]:List Sl),vi e])from CV.tup ⟨.nil,.refl _,trivial⟩).trans (.of_eq e1)
 .have he:e=0:=B6.1 he;have DH:¬e≠0:=fun h=>h he;refine Yi (fun hb=>?_) (fun hb=>?_)
  .have e1:AV.tup [sl Am a.sel,vi 0]=.tup [if e≠0 then sl Am []else if a.found=true then sl Am a.sel else sl Am [],vi (if e≠0 then e else if a.found=true then 0 else 17)]:=by rw[Aj DH,Aj DH,Al hb,Al hb]
   exact .of_eq e1
  .have hb:¬a.found=true:=by rw[hb];decide
   have e1:AV.tup [sl Am [],vi 17]=.tup [if e≠0 then sl Am []else if a.found=true then sl Am a.sel else sl Am [],vi (if e≠0 then e else if a.found=true then 0 else 17)]:=by rw[Aj DH,Aj DH,Aj hb,Aj hb]
   exact(show CV (.tup [nzA,vi 17]) (.tup [sl Am ([]:List Sl),vi 17])from CV.tup ⟨.nil,.refl _,trivial⟩).trans (.of_eq e1)
theorem zY(hx:∀r∈x,EG r)(hr:∀q∈roots,Kd q):PC 37 [MU x ifs,sl Bb roots] (.tup [sl Am (ES x roots),vi (KM x roots)]):=by
 have h:=vJ x ifs roots _ _ (s21 x ifs roots hx hr);have e1:(if Ky x roots≠0 then sl Am []else if(Lp x roots).found=true then sl Am (Lp x roots).sel else sl Am [])=sl Am (ES x roots):=by
  unfold ES KM
  by_cases h1:Ky x roots=0
  .by_cases h2:(Lp x roots).found=true
   .simp[h1,h2]
   .simp[h1,h2]
  .simp[h1]
 have e2:(if Ky x roots≠0 then Ky x roots else if(Lp x roots).found=true then 0 else 17)=KM x roots:=rfl;rw[e1,e2]at h;exact h
end Go.Eng
namespace Go.Eng
variable {x:List Rl}{p:Sl->Bool}{y:Bool}{l:List Rl}{j:Nat}
/-! The empty workspace, and a workspace twice. -/
theorem Z0(h:A5 l=0):l.length<=256:=by
 unfold A5 at h;split at h
 .cases h
 .omega
theorem PR:∀{l:List Rl} {b:Option Rl},DW b l=0->∀r∈l,D3 r=0
 | [],_,_,r,hr=>by cases hr
 |x::l,b,h,r,hr=>by
  unfold DW at h;split at h
  .rename_i h1;exact absurd h h1
  .rename_i h1;have h1:D3 x=0:=B6.1 h1;have go:DW (some x) l=0:=by
    cases b with
    |none=>exact h
    |some b=>
     dsimp only at h;split at h
     .cases h
     .split at h
      .cases h
      .exact h
   rcases AA.1 hr with rfl | hr
   .exact h1
   .exact PR go r hr
theorem PQ:∀{l:List Rl} {b:Option Rl},(∀r∈l,D3 r=0)->l.Pairwise cu->(∀c,b=some c->∀r∈l,cu c r)->DW b l=0
 | [],_,_,_,_=>rfl
 |x::l,b,h,hp,hb=>by
  obtain⟨p1,p2⟩:=BR.1 hp;have ih:DW (some x) l=0:=PQ (fun r hr=>h r (Ah _ hr)) p2 (fun c e r hr=>by cases e;exact p1 r hr);unfold DW;rw[Aj (fun q=>q (h x (Ab ..)))];cases b with
  |none=>exact ih
  |some c=>
   have hl:=hb c rfl x (Ab ..);dsimp only;rw[Aj (fun q=>HU hl q),Aj (fun q=>by
    have:iF (cw c) (cw x)<0:=PT.2 hl
    have q:0<iF (cw c) (cw x):=q;omega)]
   exact ih
theorem ZZ:A5 l=0↔l.length<=256/\(∀r∈l,D3 r=0)/\l.Pairwise cu:=by
 constructor
 .intro h;refine⟨Z0 h,?_,(CA h).2⟩;unfold A5 at h;split at h
  .cases h
  .exact PR h
 .rintro⟨h1,h2,h3⟩
  unfold A5;rw[Aj ch];exact PQ h2 h3 (fun c e=>by cases e)
/-! What is merged. -/
/-! What a workspace makes of an index. -/
/-! What the solver selects. -/
theorem QZ{roots:List Rq}(h:KM x roots=0):(∀z∈ES x roots,∃r∈x,cw r=z)/\(ES x roots).length<=x.length/\A5 x=0:=by
 have h0:=h;unfold KM at h0;split at h0
 .rename_i hs;exact absurd h0 hs
 .rename_i hs;have hs:Ky x roots=0:=B6.1 hs;split at h0
  .rename_i hf;have hv:GN x roots=true:=by
    cases e:GN x roots with
    |true=>rfl
    |false=>unfold Ky at hs;rw[e]at hs;cases hs
   have aR:(EM x roots).ss.full=false:=by
    cases e:(EM x roots).ss.full with
    |false=>rfl
    |true=>unfold Ky at hs;rw[hv,e]at hs;cases hs
   obtain⟨hx,hr⟩:=ci hv;have hA:Lp x roots=lc x roots:=by unfold Lp;rw[Al ⟨hv,aR⟩]
   rw[hA]at hf;have fO:(EM x roots).found=true:=by
    cases e:(EM x roots).found with
    |true=>rfl
    |false=>unfold lc at hf;rw[e]at hf;cases hf
   have Adh:ES x roots=Ec (AR (EM x roots).dec):=by
    unfold ES;rw[Al h,hA];unfold lc;rw[Al fO]
   obtain⟨_,t,sl,y2,y3,y4,y5⟩:=(X3 hx hr).yes fO;have AcX:(EM x roots).dec∈Nq x roots (x.length+1) []:=List.mem_of_head? y5;have lf:=RL (E5.nil x) (Je.nil roots) _ AcX;rw[Adh];refine⟨fun z hz=>?_,?_,hx⟩
   .rw[GH]at hz;obtain⟨c,hc,rfl⟩:=Ai.1 hz;exact⟨c.rel,(lf.ok.cand c hc).1,rfl⟩
   .rw[(Kz _).length_eq,Lm]
    have:=RO (l:=(EM x roots).dec.map fun c=>c.rel) (m:=x) (dV (f:=fun r:Rl=>r.path) (by rw[Bs];exact lf.ok.nodup)) (fun r hr=>by
     obtain⟨c,hc,rfl⟩:=Ai.1 hr;exact(lf.ok.cand c hc).1)
    rwa [Lm]at this
  .cases h0
/-! Releases whose names satisfy p get Yanked. -/
def yk(y:Bool)(p:Sl->Bool)(x:List Rl):List Rl:=x.map fun r=>if p (cw r)=true then { r with yanked:=y }else r
section
variable {x:List Rl}{roots:List Rq}{y:Bool}{p:Sl->Bool}
theorem Px:(yk y p x).length=x.length:=Lm ..
end
/-! Law Keeps: which releases of the selection get yanked, one after the other. -/
section
variable {α:Type}(c:α->α->Int)
def Kx:Nat->List α->List α
 |0,l=>l
 |j+1,l=>match l[j+1]?,l[j]? with
  |some a,some b=>if c a b<0 then Kx j ((l.set (j+1) b).set j a)else l
  |_,_=>l
def Ei(i:Nat)(l:List α):List α:=(List.range i).foldl (fun m i=>Kx c i m) l
theorem X0:∀(j:Nat) (l:List α),(Kx c j l).length=l.length
 |0,_=>rfl
 |j+1,l=>by
  unfold Kx;split
  .split
   .rw[X0 j];simp
   .rfl
  .rfl
theorem NT(i:Nat)(l:List α):Ei c (i+1) l=Kx c i (Ei c i l):=by
 unfold Ei;rw[List.range_succ,Ef];rfl
theorem mW(l:List α):Ei c 1 l=l:=rfl
theorem LL:∀(i:Nat) (l:List α),(Ei c i l).length=l.length
 |0,_=>rfl
 |i+1,l=>by rw[NT,X0,LL i]
theorem X1:∀(j:Nat) (l:List α),∀x∈Kx c j l,x∈l
 |0,_,_,h=>h
 |j+1,l,x,h=>by
  unfold Kx at h;split at h
  .rename_i a b ha hb;split at h
   .have h:=X1 j _ x h;rcases Fv h with h | rfl
    .rcases Fv h with h | rfl
     .exact h
     .exact Aw hb
    .exact Aw ha
   .exact h
  .exact h
theorem Nl:∀(i:Nat) (l:List α),∀x∈Ei c i l,x∈l
 |0,_,_,h=>h
 |i+1,l,x,h=>by rw[NT]at h;exact Nl i l x (X1 c i _ x h)
theorem eI{l:List α}{a b:α}(h0:0<j)(ha:l[j]?=some a)(hb:l[j-1]?=some b)(hc:c a b<0):Kx c j l=Kx c (j-1) ((l.set j b).set (j-1) a):=by
 obtain⟨k,rfl⟩:∃k,j=k+1:=⟨j-1,by omega⟩;have e:k+1-1=k:=rfl;simp only[e]at hb⊢;rw[Kx,ha,hb];exact Al hc
theorem VU{l:List α}{a b:α}(h0:0<j)(ha:l[j]?=some a)(hb:l[j-1]?=some b)(hc:¬c a b<0):Kx c j l=l:=by
 obtain⟨k,rfl⟩:∃k,j=k+1:=⟨j-1,by omega⟩;have e:k+1-1=k:=rfl;simp only[e]at hb;rw[Kx,ha,hb];exact Aj hc
theorem XD{l:List α}(h:l.Pairwise fun a b=>¬c b a<0):∀i,i<=l.length->Ei c i l=l
 |0,_=>rfl
 |i+1,hi=>by
  rw[NT,XD h i ch]
  by_cases h0:i=0
  .subst h0;rfl
  .exact VU c ch (Ge hi) (Ge (show i-1<l.length by omega)) ((AY.1 h) (i-1) i ch hi ch)
end
theorem SQ(h:A5 x=0):Ei DC x.length x=x:=by
 refine XD DC ?_ _ (Ak _);refine(CA h).2.imp fun {a b} dy hc=>?_;have h1:iF (cw a) (cw b)<0:=PT.2 dy;have h2:iF (cw b) (cw a)<0:=hc;have h1:=PT.1 h1;have h2:=PT.1 h2;exact HU (XJ h1 h2) rfl
theorem pm{P:Rl->Prop}(h:∀r∈x,P r/\P { r with yanked:=y }):∀r∈yk y p x,P r:=fun r hr=>by
 obtain⟨q,hq,rfl⟩:=Ai.1 hr;split
 .exact(h q hq).2
 .exact(h q hq).1
theorem si(h:∀r∈x,EG r):∀r∈yk y p x,EG r:=pm fun r hr=>⟨h r hr,h r hr⟩
theorem g9{i:Nat}(h:i<x.length):(yk y p (x.take i)++x.drop i).set i (if p (cw x[i])=true then { x[i]with yanked:=y }else x[i])=yk y p (x.take (i+1))++x.drop (i+1):=by
 rw[AH h,List.set_append_right _ _ (by rw[Px,Au];omega),Px,Au,show i-min i x.length=0 by omega,List.set_cons_zero];unfold yk;rw[Bj,Ge h,As,BA]
 rfl
theorem pk{i:Nat}(h:i<x.length):(yk y p (x.take i)++x.drop i)[i]?=some x[i]:=by
 rw[A0 (by rw[Px,Au];omega),Px,Au,show i-min i x.length=0 by omega,AH h]
 rfl
end Go.Eng
namespace Go.Eng
open Go.Proofs
variable {x:List Rl}{i:Nat}{α:Type}(l:List Rl)
theorem mV(c:α->α->Int){l:List α}(h1:1<=i)(h2:i<=l.length\/i=1)(h3:l.length<=i):Ei c i l=Ei c l.length l:=by
 by_cases e:i=l.length
 .rw[e]
 .have e1:i=1:=by omega
  have e2:l.length=0:=by omega
  rw[e1,e2];rfl
theorem Aev(hl:Cb l):Ba Tryz.prog 196 [.msl 1000 l.length,vi 0,vi (l.length:Nat),.v (.func (.func 85) #[] #[])] (Ap [(1000,.arr 9 (l.map AF))] Ae) fun r h'=>r=.tup []/\h'=Ap [(1000,.arr 9 ((Ei DC l.length l).map AF))] Ae:=by
 refine Cu (M7 El) [(1000,1000)] rfl Da hm rfl Tryz.func196 Wk rfl (Nz rfl) Wk rfl (Yi (Ii 0 ch) (Xi {q:Nat // 1<=q/\(q<=l.length\/q=1)} (Xi (fun q=>⟨[(0,.msl 1000 l.length),(1,vi 0),(2,vi (l.length:Nat)),(3,.v (.func (.func 85) #[] #[])),(8,vi q.1)],[(1000,.arr 9 ((Ei DC q.1 l).map AF))],Ae⟩) (Xi (fun q=>l.length+1-q.1) (Yi (Xi ⟨1,Ak _,.inr rfl⟩ ?_) ?_)))))
 .exact⟨Z5,⟨⟨(show HO.arr 9 (l.map AF)=.arr 9 ((Ei DC 1 l).map AF) by rw[mW]),rfl⟩,Tv⟩,Fh,BT Wk⟩
 intro⟨i,i1,i2⟩;refine Yi (fun h1=>?_) (fun h1=>?_)
 .have h1:(i:Int)<((l.length:Nat):Int):=h1;have ni:i<l.length:=by omega
  refine Xi {q:Nat×List Rl // q.1<=i/\q.2.length=l.length/\Kx DC q.1 q.2=Ei DC (i+1) l} (Xi (fun q=>⟨[(0,.msl 1000 l.length),(1,vi 0),(2,vi (l.length:Nat)),(3,.v (.func (.func 85) #[] #[])),(8,vi i),(9,vi q.1.1)],[(1000,.arr 9 (q.1.2.map AF))],Ae⟩) (Xi (fun q=>q.1.1) (Yi (Xi ⟨(i,Ei DC i l),Ak _,LL _ _ _,(NT DC i l).symm⟩ ?_) ?_)))
  .exact⟨Z6,Z1,Fh,BT Wk⟩
  intro⟨⟨j,N⟩,j1,j2,j3⟩;have j2:N.length=l.length:=j2;have j3:Kx DC j N=Ei DC (i+1) l:=j3;refine Yi (fun h2=>?_) (fun h2=>?_)
  .have h2:(0:Int)<(j:Int):=h2;have nj:j<N.length:=by omega
   have j0:0<j:=by omega
   have ej:((j-1:Int).toNat)=j-1:=by omega
   refine CT (show ∃a,N[j]?=some a from⟨_,Ge nj⟩) (fun a ga=>?_);refine CT (show ∃b,N[j-1]?=some b from⟨_,Ge ch⟩) (fun b gb=>?_);have gc:N[(j-1:Int).toNat]?=some b:=by rw[ej];exact gb
   refine Yi (by show(0:Int)<=j/\(j:Int)<(l.length:Nat);omega) (Yi (show l.length=(N.map AF).length by simp[j2]) (Xi (AF a) (Yi (Eo ga) (yN (Yi (by show AX ((j:Int)-(1:Int));unfold AX;omega) (Yi (by show(0:Int)<=j-1/\(j-1:Int)<(l.length:Nat);omega) (Yi (show l.length=(N.map AF).length by simp[j2]) (Xi (AF b) (Yi (Eo gc) (yN (Xi _ (Yi (xv a b) (Yi (fun h3=>?_) (fun h3=>?_))))))))))))))
   .have h3:((DC a b):Int)<(0:Int):=h3;refine Yi Wk (Yi (by show AX ((j:Int)-(1:Int));unfold AX;omega) (Yi (by show AX ((j:Int)-(1:Int));unfold AX;omega) (Yi (by show(0:Int)<=j-1/\(j-1:Int)<(l.length:Nat);omega) (Yi (show l.length=(N.map AF).length by simp[j2]) (Xi (AF b) (Yi (Eo gc) (yN (Yi (by show(0:Int)<=j/\(j:Int)<(l.length:Nat);omega) (Yi (show l.length=(N.map AF).length by simp[j2]) (Xi (AF a) (Yi (Eo ga) (yN (Yi (by show(0:Int)<=j/\(j:Int)<(l.length:Nat);omega) (Yi (show l.length=(N.map AF).length by simp[j2]) (Xi (AF a) (Yi (Eo ga) (yN (Yi (by show(0:Int)<=j-1/\(j-1:Int)<(l.length:Nat);omega) (Yi (show l.length=(((N.map AF).set j (AF b)):List (List AV)).length by simp[j2]) (Xi (AF b) (Yi ((List.getElem?_set_ne ch).trans (Eo gc)) (yN ?_))))))))))))))))))))));refine Yi Wk (Yi (by show AX ((j:Int)-(1:Int));unfold AX;omega) (Xi ⟨(j-1,(N.set j b).set (j-1) a),by omega,by rw[Dk,Dk];exact j2,by rw[<-j3,eI DC j0 ga gb h3]⟩ ?_));exact⟨by show(j-1:Nat)<j;omega,⟨Zr,Zr,Zr,Zr,Zr,⟨(Aa vi (show(j:Int)-1=((j-1:Nat):Int) by omega)),rfl⟩,Tv⟩,⟨⟨(show HO.arr 9 (((N.map AF).set j (AF b)).set ((j-1:Int).toNat) (AF a))=.arr 9 (((N.set j b).set (j-1) a).map AF) by rw[ej,ON,ON]),rfl⟩,Tv⟩,Fh,BT Wk⟩
   have h3:¬(((DC a b):Int)<(0:Int)):=h3;refine Yi Wk (Yi (Ii i ch) ?_);have eN:N=Ei DC (i+1) l:=by rw[<-j3];exact(VU DC j0 ga gb h3).symm
   refine Xi ⟨i+1,by omega,.inl ni⟩ ?_;exact⟨by show l.length+1-(i+1)<l.length+1-i;omega,Z5,⟨⟨(show HO.arr 9 (N.map AF)=.arr 9 ((Ei DC (i+1) l).map AF) by rw[eN]),rfl⟩,Tv⟩,Fh,BT Wk⟩
  have h2:¬((0:Int)<(j:Int)):=h2;refine Yi Wk (Yi (Ii i ch) ?_);have eN:N=Ei DC (i+1) l:=by rw[<-j3];exact(show Kx DC j N=N by rw[show j=0 by omega];rfl).symm
  refine Xi ⟨i+1,by omega,.inl ni⟩ ?_;exact⟨by show l.length+1-(i+1)<l.length+1-i;omega,Z5,⟨⟨(show HO.arr 9 (N.map AF)=.arr 9 ((Ei DC (i+1) l).map AF) by rw[eN]),rfl⟩,Tv⟩,Fh,BT Wk⟩
 have h1:¬((i:Int)<((l.length:Nat):Int)):=h1;exact Xi _ (Yi (.refl _) ⟨rfl,show Ap [(1000,HO.arr 9 ((Ei DC i l).map AF))] Ae=Ap [(1000,.arr 9 ((Ei DC l.length l).map AF))] Ae from Aa (fun z=>Ap [(1000,HO.arr 9 (z.map AF))] Ae) (mV DC i1 i2 ch)⟩)
theorem Aeu(hl:l.length<=19):Ba Tryz.prog 143 [.msl 1000 l.length,vi (l.length:Nat),.v (.func (.func 85) #[] #[])] (Ap [(1000,.arr 9 (l.map AF))] Ae) fun r h'=>r=.tup []/\h'=Ap [(1000,.arr 9 ((Ei DC l.length l).map AF))] Ae:=by
 refine Cu (M7 El) [(1000,1000)] rfl Da hm rfl Tryz.func143 Wk rfl (Nz rfl) Wk rfl (Xi {q:Nat // q=0} (Xi (fun q=>⟨[(0,.msl 1000 l.length),(1,vi (l.length:Nat)),(2,.v (.func (.func 85) #[] #[])),(6,vi 20),(7,vi 0),(8,vi 20)],[(1000,.arr 9 (l.map AF))],Ae⟩) (Xi (fun q=>q.1) (Yi (Xi ⟨0,rfl⟩ ?_) ?_))))
 .exact⟨Z6,Z1,Fh,BT Wk⟩
 intro⟨i,i1⟩;refine Yi (fun h1=>?_) (fun h1=>?_)
 .exact absurd h1 ch
 refine Xi (.gen [(1000,1000)] 0) (Yi rfl (Ba.to2 (Aev l (by unfold Cb;omega)) ?_));refine Xi {q:Nat // q=0} (Xi (fun q=>⟨[(0,.msl 1000 l.length),(1,vi (l.length:Nat)),(2,.v (.func (.func 85) #[] #[])),(6,vi 20)],[(1000,.arr 9 ((Ei DC l.length l).map AF))],Ae⟩) (Xi (fun q=>q.1) (Yi (Xi ⟨0,rfl⟩ ?_) ?_)))
 .exact⟨Z4,Z1,Fh,BT Wk⟩
 intro⟨i,i1⟩;refine Yi (fun h2=>?_) (fun h2=>?_)
 .exact absurd h2 ch
 exact Xi _ (Yi (.refl _) Zr)
theorem v105(hl:l.length<=19):Ba Tryz.prog 84 [.msl 1000 l.length,.v (.func (.func 85) #[] #[])] (Ap [(1000,.arr 9 (l.map AF))] Ae) fun r h'=>r=.tup []/\h'=Ap [(1000,.arr 9 ((Ei DC l.length l).map AF))] Ae:=by
 refine Cu (M7 El) [(1000,1000)] rfl Da hm rfl Tryz.func84 Wk rfl (Nz rfl) Wk rfl (Xi (.gen [(1000,1000)] 0) (Yi rfl (Ba.to2 (Aeu l hl) ?_)));exact Xi _ (Yi (.refl _) Zr)
theorem Aex(x:List Rl)(hx:x.length<=19)(hc:∀r∈x,PC 83 [.agg (AF r)] (.agg (AF r)))(hk:Ba Tryz.prog 86 [.agg [.msl 1000 ((Ei DC x.length x).map AF).length,nzA]] (Ap [(1000,.arr 9 ((Ei DC x.length x).map AF))] Ae) fun r h'=>r=vi 0/\h'=Ap [(1000,.arr 9 ((Ei DC x.length x).map AF))] Ae):Ba Tryz.prog 43 [sl AF x] (Ap [] Ae) fun r h'=>r=.tup [.msl 2000 ((Ei DC x.length x).map AF).length,vi 0]/\h'=Ap [(2000,.arr 9 ((Ei DC x.length x).map AF))] Ae:=by
 refine Cu (M7 ⟨[],[],[(4,9)],[],[],[],[],[],[],[],[7,8]⟩) [(4,2000)] rfl Da hm rfl Tryz.func43 Wk rfl (Nz rfl) Wk rfl (Xi {q:Nat // q<=x.length} (Xi (fun q=>⟨[(4,.msl 4 (x.take q.1).length),(8,sl AF x),(9,vi (x.map AF).length),(10,vi q.1)],[(4,.arr 9 ((x.take q.1).map AF))],Ae⟩) (Xi (fun q=>x.length-q.1) (Yi (Xi ⟨0,Ax _⟩ ?_) ?_))))
 .exact⟨Z4,Z1,Fh,BT Wk⟩
 intro⟨i,i1⟩;refine Yi (fun h1=>?_) (fun h1=>?_)
 .have h1:(i:Int)<((x.map AF).length:Int):=h1;have n1:=FO h1;refine Xi (AF x[i]) (Yi (JL n1) (Yi rfl (yN (yN (yN (Xi .pure (Xi _ (Yi (hc x[i] (Aq n1)) ?_))))))));have b2:B5 9 [(AF x[i])]/\((x.take i).map AF).length=(x.take i).length/\(((x.take i).map AF).length+([(AF x[i])]:List (List AV)).length)*120<=140737488355328/\((x.take i).map AF).length+([(AF x[i])]:List (List AV)).length<=9223372036854775807:=⟨⟨rfl,trivial⟩,(by rw[Lm]),(by simp only[Lm,Ag,Ao,Au];omega),(by simp only[Lm,Ag,Ao,Au];omega)⟩;refine Yi b2 (Yi (Ii i ch) (Xi ⟨i+1,n1⟩ ?_));exact⟨Dl x.length i ch,⟨⟨(show AV.msl 4 (((x.take i).map AF).length+([AF x[i]]:List (List AV)).length)=.msl 4 (x.take (i+1)).length by rw[Ew n1,Ac,Lm];rfl),rfl⟩,Zr,Zr,Zr,Tv⟩,⟨⟨(show HO.arr 9 ((x.take i).map AF++[AF x[i]])=.arr 9 ((x.take (i+1)).map AF) by rw[Ew n1,As];rfl),rfl⟩,Tv⟩,Fh,BT Wk⟩
 have h1:¬((i:Int)<((x.map AF).length:Int)):=h1;have n1:=DP h1;have ei:x.take i=x:=At ch;refine Xi ⟨[(4,.msl 4 x.length)],[(4,.arr 9 (x.map AF))],Ae⟩ (Yi ⟨⟨⟨(show AV.msl 4 (x.take i).length=.msl 4 x.length by rw[ei]),rfl⟩,trivial⟩,⟨⟨(show HO.arr 9 ((x.take i).map AF)=.arr 9 (x.map AF) by rw[ei]),rfl⟩,trivial⟩,fun _=>.inl rfl,BT Wk⟩ ?_)
 refine Xi (.gen [(4,1000)] 0) (Yi rfl (Ba.to2 (v105 x hx) ?_));refine cU [(4,.msl 4 ((Ei DC x.length x).map AF).length)] [(4,.arr 9 ((Ei DC x.length x).map AF))] ⟨⟨(show AV.msl 4 x.length=.msl 4 ((Ei DC x.length x).map AF).length by rw[Lm,LL]),rfl⟩,Tv⟩ Z1 ?_
 refine Xi (.gen [(4,1000)] 0) (Yi rfl (Ba.to2 hk ?_));refine Yi (fun h=>absurd h Cl) (fun _=>?_);exact Xi _ (Yi (.refl _) Zr)
theorem Aew(x:List Rl)(hx:x.length<=19)(hc:∀r∈x,PC 83 [.agg (AF r)] (.agg (AF r)))(c:Int)(yg:c≠0)(hk:Ba Tryz.prog 86 [.agg [.msl 1000 ((Ei DC x.length x).map AF).length,nzA]] (Ap [(1000,.arr 9 ((Ei DC x.length x).map AF))] Ae) fun r h'=>r=vi c/\h'=Ap [(1000,.arr 9 ((Ei DC x.length x).map AF))] Ae):PC 43 [sl AF x] (.tup [nzA,vi c]):=by
 refine Ps ⟨[],[],[(4,9)],[],[],[],[],[],[],[],[7,8]⟩ Tryz.func43 rfl (Nz rfl) (Xi {q:Nat // q<=x.length} (Xi (fun q=>⟨[(4,.msl 4 (x.take q.1).length),(8,sl AF x),(9,vi (x.map AF).length),(10,vi q.1)],[(4,.arr 9 ((x.take q.1).map AF))],Ae⟩) (Xi (fun q=>x.length-q.1) (Yi (Xi ⟨0,Ax _⟩ ?_) ?_))))
 .exact⟨Z4,Z1,Fh,Tv⟩
 intro⟨i,i1⟩;refine Yi (fun h1=>?_) (fun h1=>?_)
 .have h1:(i:Int)<((x.map AF).length:Int):=h1;have n1:=FO h1;refine Xi (AF x[i]) (Yi (JL n1) (Yi rfl (yN (yN (yN (Xi .pure (Xi _ (Yi (hc x[i] (Aq n1)) ?_))))))));have b2:B5 9 [(AF x[i])]/\((x.take i).map AF).length=(x.take i).length/\(((x.take i).map AF).length+([(AF x[i])]:List (List AV)).length)*120<=140737488355328/\((x.take i).map AF).length+([(AF x[i])]:List (List AV)).length<=9223372036854775807:=⟨⟨rfl,trivial⟩,(by rw[Lm]),(by simp only[Lm,Ag,Ao,Au];omega),(by simp only[Lm,Ag,Ao,Au];omega)⟩;refine Yi b2 (Yi (Ii i ch) (Xi ⟨i+1,n1⟩ ?_));exact⟨Dl x.length i ch,⟨⟨(show AV.msl 4 (((x.take i).map AF).length+([AF x[i]]:List (List AV)).length)=.msl 4 (x.take (i+1)).length by rw[Ew n1,Ac,Lm];rfl),rfl⟩,Zr,Zr,Zr,Tv⟩,⟨⟨(show HO.arr 9 ((x.take i).map AF++[AF x[i]])=.arr 9 ((x.take (i+1)).map AF) by rw[Ew n1,As];rfl),rfl⟩,Tv⟩,Fh,Tv⟩
 have h1:¬((i:Int)<((x.map AF).length:Int)):=h1;have n1:=DP h1;have ei:x.take i=x:=At ch;refine cU [(4,.msl 4 x.length)] [(4,.arr 9 (x.map AF))] ⟨⟨(show AV.msl 4 (x.take i).length=.msl 4 x.length by rw[ei]),rfl⟩,Tv⟩ ⟨⟨(show HO.arr 9 ((x.take i).map AF)=.arr 9 (x.map AF) by rw[ei]),rfl⟩,Tv⟩ ?_
 refine Xi (.gen [(4,1000)] 0) (Yi rfl (Ba.to2 (v105 x hx) ?_));refine cU [(4,.msl 4 ((Ei DC x.length x).map AF).length)] [(4,.arr 9 ((Ei DC x.length x).map AF))] ⟨⟨(show AV.msl 4 x.length=.msl 4 ((Ei DC x.length x).map AF).length by rw[Lm,LL]),rfl⟩,Tv⟩ Z1 ?_
 refine Xi (.gen [(4,1000)] 0) (Yi rfl (Ba.to2 hk ?_));refine Yi (fun h4=>?_) (fun h4=>?_)
 .exact .refl _
 have h4:(c:Int)=(0:Int):=AJ h4;exact absurd h4 yg
theorem bX{β:Type}{f:α->β}{N:List α}{r:α}(h:N[i]?=some r):N.map f=(N.set i r).map f:=by
 obtain⟨hi,rfl⟩:=Av.1 h;rw[List.set_getElem_self]
theorem ZB{y:Bool}{p:Sl->Bool}:(yk y p (x.take i)++x.drop i).length=x.length:=by
 rw[Ac,Px,Au,CK];omega
structure T5(x:List Rl):Prop where
 len:x.length<=16
 few:∀r∈x,EG r
structure WR(x:List Rl):Prop where
 len:x.length<=19
 few:∀r∈x,EG r
theorem T5.to19(h:T5 x):WR x:=⟨AI h.len Cl,h.few⟩
theorem wC(hf:∀r∈x,EG r):PC 86 [.agg [sl AF x,nzA]] (vi (A5 x)):=(wL Ww x [] hf).args ⟨.agg ⟨.refl _,.nil,trivial⟩,trivial⟩
theorem AeA(h:WR x)(hr:∀r∈x,r.reqs.length<=1000)(hc:A5 (Ei DC x.length x)=0):Ba Tryz.prog 43 [sl AF x] Ae fun r h'=>r=.tup [.msl 2000 x.length,vi 0]/\h'=Ap [(2000,.arr 9 ((Ei DC x.length x).map AF))] Ae:=by
 have hk:=Jd.lend (sz:=9) (es:=(Ei DC x.length x).map AF) (vs:=[.slice none 0 0]) (wC (x:=Ei DC x.length x) fun r hr=>h.few r (Nl DC _ _ r hr));rw[hc]at hk;have q:=Aex x h.len (fun r hm=>c98 r (hr r hm) fun q hq=>((h.few r hm).2 q hq).1) hk;rw[show((Ei DC x.length x).map AF).length=x.length by rw[Lm,LL]]at q;exact q
theorem Ko(l:List Sl):E9 l=true↔∀j (h:j<l.length),0<j->Ek (l[j-1]' ch).path l[j].path=true:=by
 constructor
 .intro h j hj h0;exact(AY.1 (Pb h).1) (j-1) j ch hj ch
 .intro h;refine mT (AY.2 fun i j hi hj Qs=>?_);have key:∀d (hd:i+d+1<l.length),Ek l[i].path (l[i+d+1]'hd).path=true:=fun d=>by
   induction d with
   |zero=>intro hd;exact h (i+1) hd ch
   |succ d ih=>intro hd;exact Ed (ih ch) (h (i+d+1+1) hd ch)
  have:=key (j-i-1) ch
  simp only[show i+(j-i-1)+1=j by omega]at this;exact this
end Go.Eng
