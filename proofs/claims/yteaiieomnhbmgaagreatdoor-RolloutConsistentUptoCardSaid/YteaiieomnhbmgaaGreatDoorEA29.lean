/- Lemmas 29. -/
import Derived.Test.YteaiieomnhbmgaaGreatDoorEA28
set_option maxHeartbeats 4000000
namespace Go.Eng
open Go.Proofs
variable (x:List Rl)(ifs:List (List AV))(roots:List Rq)
abbrev rl:Th:=⟨[2],[],[],[],[],[],[],[(50,(9,3,95,3))],[(44,0)],[(100016,1009)],[3,4,5,6,7,8,9,10,11,14,15,16]⟩
abbrev an0:An:=⟨false,[],[],[]⟩
def Ll:An:=if GG x roots=true/\(EH x roots).ss.full=false then kX x roots else an0
def Kw:Int:=if GG x roots=true then if(EH x roots).ss.full=true then 7 else 0 else 1
abbrev oq:AV:=.tup [.agg (UA (Ll x roots)),vi (Kw x roots)]
theorem CY.an0{v:AV}:CY (.tup [.agg [vb false,nzA,nzA,nzA],v]) (.tup [.agg (UA an0),v]):=
 CY.tup ⟨CY.agg ⟨.refl _,.nil,.nil,.nil,trivial⟩,.refl _,trivial⟩
theorem VP{x:List Rl}{roots:List Rq}(hx:∀r∈x,En r)(hr:∀q∈roots,J7 q)(h0:A6 x=0)(h1:BK roots=0){L:List ByteArray}(hl:L.Perm (AY (yR x) [])){o:K7}(ho:EH x roots=o) :
  Bc Tryz.prog 137 [.ref 1000 0] (Ap (JW roots (mC x) (L.map (kA x)) ss0 [] []) Af) (cu roots (mC x) (L.map (kA x)) o):=by
 rw[<-ho];exact Aer (uo hx hr h0 h1 hl) (x.length+1) (.nil x) (Jc.nil roots) ⟨⟨rfl,AA _⟩,FD⟩ rfl (Nat.lt_succ_of_le (Bv _ _)) rfl
theorem bZ{x:List Rl}{roots:List Rq}(h:GG x roots=true):A6 x=0/\BK roots=0:=by
 unfold GG at h;rw[Ag,AD,AD]at h;exact h
theorem rE(hx:∀r∈x,En r)(hr:∀q∈roots,J7 q)(hv:GG x roots=false):PC 78 [HH x ifs,sl A8 roots] (.tup [.agg (UA an0),vi 1]):=by
 have UW:=s28 x ifs roots hx hr;rw[hv]at UW;refine Ps rl Tryz.func78 rfl (Nz rfl) (Yi ?_ ?_)
 .exact Nz rfl
 refine Xi .pure (Xi _ (Yi UW (Yi ?_ ?_)))
 .exact Nz rfl
 refine Yi ?_ ?_
 .exact Nz rfl
 exact CY.an0
theorem oh(hx:∀r∈x,En r)(hr:∀q∈roots,J7 q)(hv:GG x roots=true)(h0:A6 x=0)(h1:BK roots=0)(k:Nat)(infs:List Nf)(drv:List (List Tm))(dec:List Cd)(st:List (List Sk))(ho:EH x roots=⟨k,false,⟨infs,drv,true⟩,dec,st⟩):PC 78 [HH x ifs,sl A8 roots] (.tup [.agg (UA an0),vi 7]):=by
 have UW:=s28 x ifs roots hx hr;rw[hv]at UW;refine Ps rl Tryz.func78 rfl (Nz rfl) (Yi ?_ ?_)
 .exact Nz rfl
 refine Xi .pure (Xi _ (Yi UW (cU [(1,sl A8 roots),(2,.ref 2 0),(4,.ref 4 0)] [(2,.ro (Ic x ifs)),(4,.cells [vb false,nzA,nzA,nzA])] Z3 Z2 (Yi ?_ ?_))))
 .exact Nz rfl
 refine Xi (.gen [] 5) (Yi rfl ((s29 x ifs roots hx h0).imp ?_));intro v g q;refine CR q (fun L q=>?_);have q1:=q.2.1;have q2:=q.2.2;have qp:=q.1;subst q1;subst q2;refine cU [(4,.ref 4 0),(6,.ref 11900 0)] [(4,.cells [vb false,nzA,nzA,nzA]),(11900,.cells [sl A8 roots,.cmap Cr (mC x),.cmap Cr (L.map (kA x)),.slice (.id 11901 6) [],.slice (.id 11902 1) [],.mref 11903,vb false,.slice .none [],.slice .none [],.msl 11904 0]),(11901,.tok 6 0),(11902,.tok 1 0),(11903,.map FS []),(11904,.arr 1 [])] Z2 Z6 (Xi (.gen [(11900,1000),(11901,1001),(11902,1002),(11903,1003),(11904,1004)] 1) (Yi rfl ((VP hx hr h0 h1 qp ho).imp ?_)));intro v g q;have q1:=q.1;have q2:=q.2;subst q1;subst q2;refine cU [(4,.ref 4 0),(6,.ref 11900 0),(7,vi (k:Nat)),(8,vb false)] [(4,.cells [vb false,nzA,nzA,nzA]),(11900,.cells [sl A8 roots,.cmap Cr (mC x),.cmap Cr (L.map (kA x)),.slice (.id 11901 6) (infs.map Dw),.slice (.id 11902 1) (drv.map Dn),.mref 11903,vb true,sl AX dec,sl Ae (AU dec),.msl 12200 st.length]),(11901,.tok 6 infs.length),(11902,.tok 1 drv.length),(11903,.map FS (FY 0 infs)),(12200,.arr 1 (st.map Bq))] Z4 Z6 (Yi (fun _=>?_) (fun h=>by cases h));refine cU [(4,.ref 4 0)] [(4,.cells [vb false,nzA,nzA,nzA])] Z1 Z1 (Yi ?_ ?_)
 .exact Nz rfl
 refine Yi ?_ ?_
 .exact Nz rfl
 exact CY.an0
theorem vL(hx:∀r∈x,En r)(hr:∀q∈roots,J7 q)(hv:GG x roots=true)(h0:A6 x=0)(h1:BK roots=0)(k:Nat)(infs:List Nf)(drv:List (List Tm))(dec:List Cd)(st:List (List Sk))(ho:EH x roots=⟨k,false,⟨infs,drv,false⟩,dec,st⟩)(hk:k<infs.length)(hl:infs.length<=65536):PC 78 [HH x ifs,sl A8 roots] (.tup [.agg (UA ⟨false,[],infs.take (k+1),[]⟩),vi 0]):=by
 have UW:=s28 x ifs roots hx hr;rw[hv]at UW;refine Ps rl Tryz.func78 rfl (Nz rfl) (Yi ?_ ?_)
 .exact Nz rfl
 refine Xi .pure (Xi _ (Yi UW (cU [(1,sl A8 roots),(2,.ref 2 0),(4,.ref 4 0)] [(2,.ro (Ic x ifs)),(4,.cells [vb false,nzA,nzA,nzA])] Z3 Z2 (Yi ?_ ?_))))
 .exact Nz rfl
 refine Xi (.gen [] 5) (Yi rfl ((s29 x ifs roots hx h0).imp ?_));intro v g q;refine CR q (fun L q=>?_);have q1:=q.2.1;have q2:=q.2.2;have qp:=q.1;subst q1;subst q2;refine cU [(4,.ref 4 0),(6,.ref 11900 0)] [(4,.cells [vb false,nzA,nzA,nzA]),(11900,.cells [sl A8 roots,.cmap Cr (mC x),.cmap Cr (L.map (kA x)),.slice (.id 11901 6) [],.slice (.id 11902 1) [],.mref 11903,vb false,.slice .none [],.slice .none [],.msl 11904 0]),(11901,.tok 6 0),(11902,.tok 1 0),(11903,.map FS []),(11904,.arr 1 [])] Z2 Z6 (Xi (.gen [(11900,1000),(11901,1001),(11902,1002),(11903,1003),(11904,1004)] 1) (Yi rfl ((VP hx hr h0 h1 qp ho).imp ?_)));intro v g q;have q1:=q.1;have q2:=q.2;subst q1;subst q2;refine cU [(4,.ref 4 0),(6,.ref 11900 0),(7,vi (k:Nat)),(8,vb false)] [(4,.cells [vb false,nzA,nzA,nzA]),(11900,.cells [sl A8 roots,.cmap Cr (mC x),.cmap Cr (L.map (kA x)),.slice (.id 11901 6) (infs.map Dw),.slice (.id 11902 1) (drv.map Dn),.mref 11903,vb false,sl AX dec,sl Ae (AU dec),.msl 12200 st.length]),(11901,.tok 6 infs.length),(11902,.tok 1 drv.length),(11903,.map FS (FY 0 infs)),(12200,.arr 1 (st.map Bq))] Z4 Z6 (Yi (fun h=>by cases h) (fun _=>?_));refine cU [(4,.ref 4 0),(6,.ref 11900 0),(7,vi (k:Nat)),(8,vb false)] [(4,.cells [vb false,nzA,nzA,nzA]),(11900,.cells [sl A8 roots,.cmap Cr (mC x),.cmap Cr (L.map (kA x)),.slice (.id 11901 6) (infs.map Dw),.slice (.id 11902 1) (drv.map Dn),.mref 11903,vb false,sl AX dec,sl Ae (AU dec),.msl 12200 st.length]),(11901,.tok 6 infs.length),(11902,.tok 1 drv.length),(11903,.map FS (FY 0 infs)),(12200,.arr 1 (st.map Bq))] Z4 Z6 (cU [(4,.ref 4 0),(6,.ref 11900 0),(7,vi (k:Nat))] [(4,.cells [vb false,nzA,nzA,nzA]),(11900,.cells [sl A8 roots,.cmap Cr (mC x),.cmap Cr (L.map (kA x)),.slice (.id 11901 6) (infs.map Dw),.slice (.id 11902 1) (drv.map Dn),.mref 11903,vb false,sl AX dec,sl Ae (AU dec),.msl 12200 st.length]),(11901,.tok 6 infs.length),(11902,.tok 1 drv.length),(11903,.map FS (FY 0 infs)),(12200,.arr 1 (st.map Bq))] Z3 Z6 (Yi (Ii k ch) ?_));have el:(infs.map Dw).length=infs.length:=Lm ..;refine Yi ⟨Bn _,by show(0:Int)<=(k:Int)+1;omega,by show(k:Int)+1<=((infs.map Dw).length:Int);rw[el];omega⟩ ?_;refine Yi (fun cs hcs=>by obtain⟨i,_,rfl⟩:=Ai.1 hcs;rfl) (Yi ?_ ?_)
 .exact Nz rfl
 refine Yi ?_ ?_
 .exact Nz rfl
 have et:((infs.map Dw).take ((k:Int)+1).toNat).drop (0:Int).toNat=(infs.take (k+1)).map Dw:=by
  rw[show((k:Int)+1).toNat=k+1 by omega];simp
 exact CY.tup ⟨CY.agg ⟨.refl _,.nil,.of_eq (show AV.slice .none (((infs.map Dw).take ((k:Int)+1).toNat).drop (0:Int).toNat)=_ by rw[et]),.nil,trivial⟩,.refl _,trivial⟩
theorem Xw(y:Sl):∀l:List Sl,(Wy y l).Perm (y::l)
 | []=>.refl _
 |z::l=>by
  unfold Wy;split
  .exact .refl _
  .exact((Xw y l).cons z).trans (List.Perm.swap y z l)
theorem HR:∀l:List Sl,(D5 l).Perm l
 | []=>.refl _
 |y::l=>(Xw y _).trans ((HR l).cons y)
theorem az{b:Nat}:∀{st:List (List Sk)},(∀s∈st,s.length<=b)->st.flatten.length<=b*st.length
 | [],_=>by simp
 |s::st,h=>by
  rw[BC,Ac,Am,Nat.mul_succ]
  have:=h s (Ab ..)
  have:=az (st:=st) fun t ht=>h t (Ah _ ht)
  omega
theorem oo{st:List (List Sk)}(h:st.length<=256)(hs:∀s∈st,s.length<=256)(i:Nat):((st.take i).flatten).length<=65536:=by
 have h1:=az (b:=256) (st:=st.take i) fun s Zx=>hs s (CT Zx)
 have:(st.take i).length<=256:=by rw[Aw];omega
 omega
theorem rF(hx:∀r∈x,En r)(hr:∀q∈roots,J7 q)(hv:GG x roots=true)(h0:A6 x=0)(h1:BK roots=0)(k:Nat)(infs:List Nf)(drv:List (List Tm))(dec:List Cd)(st:List (List Sk))(ho:EH x roots=⟨k,true,⟨infs,drv,false⟩,dec,st⟩)(hd:dec.length<=256)(hn:((AU dec).map (·.path)).Nodup)(Kh:st.length<=256)(hsk:∀s∈st,s.length<=256):PC 78 [HH x ifs,sl A8 roots] (.tup [.agg (UA ⟨true,D5 (AU dec),infs,st.flatten⟩),vi 0]):=by
 have UW:=s28 x ifs roots hx hr;rw[hv]at UW;refine Ps rl Tryz.func78 rfl (Nz rfl) (Yi ?_ ?_)
 .exact Nz rfl
 refine Xi .pure (Xi _ (Yi UW (cU [(1,sl A8 roots),(2,.ref 2 0),(4,.ref 4 0)] [(2,.ro (Ic x ifs)),(4,.cells [vb false,nzA,nzA,nzA])] Z3 Z2 (Yi ?_ ?_))))
 .exact Nz rfl
 refine Xi (.gen [] 5) (Yi rfl ((s29 x ifs roots hx h0).imp ?_));intro v g q;refine CR q (fun L q=>?_);have q1:=q.2.1;have q2:=q.2.2;have qp:=q.1;subst q1;subst q2;refine cU [(4,.ref 4 0),(6,.ref 11900 0)] [(4,.cells [vb false,nzA,nzA,nzA]),(11900,.cells [sl A8 roots,.cmap Cr (mC x),.cmap Cr (L.map (kA x)),.slice (.id 11901 6) [],.slice (.id 11902 1) [],.mref 11903,vb false,.slice .none [],.slice .none [],.msl 11904 0]),(11901,.tok 6 0),(11902,.tok 1 0),(11903,.map FS []),(11904,.arr 1 [])] Z2 Z6 (Xi (.gen [(11900,1000),(11901,1001),(11902,1002),(11903,1003),(11904,1004)] 1) (Yi rfl ((VP hx hr h0 h1 qp ho).imp ?_)));intro v g q;have q1:=q.1;have q2:=q.2;subst q1;subst q2;refine cU [(4,.ref 4 0),(6,.ref 11900 0),(7,vi (k:Nat)),(8,vb true)] [(4,.cells [vb false,nzA,nzA,nzA]),(11900,.cells [sl A8 roots,.cmap Cr (mC x),.cmap Cr (L.map (kA x)),.slice (.id 11901 6) (infs.map Dw),.slice (.id 11902 1) (drv.map Dn),.mref 11903,vb false,sl AX dec,sl Ae (AU dec),.msl 12200 st.length]),(11901,.tok 6 infs.length),(11902,.tok 1 drv.length),(11903,.map FS (FY 0 infs)),(12200,.arr 1 (st.map Bq))] Z4 Z6 (Yi (fun h=>by cases h) (fun _=>?_));refine cU [(4,.ref 4 0),(6,.ref 11900 0),(8,vb true)] [(4,.cells [vb false,nzA,nzA,nzA]),(11900,.cells [sl A8 roots,.cmap Cr (mC x),.cmap Cr (L.map (kA x)),.slice (.id 11901 6) (infs.map Dw),.slice (.id 11902 1) (drv.map Dn),.mref 11903,vb false,sl AX dec,sl Ae (AU dec),.msl 12200 st.length]),(11901,.tok 6 infs.length),(11902,.tok 1 drv.length),(11903,.map FS (FY 0 infs)),(12200,.arr 1 (st.map Bq))] Z3 Z6 (cU [(4,.ref 4 0),(6,.ref 11900 0)] [(4,.cells [vb false,nzA,nzA,nzA]),(11900,.cells [sl A8 roots,.cmap Cr (mC x),.cmap Cr (L.map (kA x)),.slice (.id 11901 6) (infs.map Dw),.slice (.id 11902 1) (drv.map Dn),.mref 11903,vb false,sl AX dec,sl Ae (AU dec),.msl 12200 st.length]),(11901,.tok 6 infs.length),(11902,.tok 1 drv.length),(11903,.map FS (FY 0 infs)),(12200,.arr 1 (st.map Bq))] Z2 Z6 ?_)
 have wW:(AU dec).length<=256:=by rw[Lm];exact hd
 have fR:B8 (AU dec):=AG wW Cl;refine Xi (AU dec).length (Xi 4 (Xi ((AU dec).map Ae) (Yi rfl (Yi (Aet (AU dec) fR) (Yi ?_ ?_)))))
 .exact Nz rfl
 refine Yi Wk (cU [(4,.ref 4 0),(6,.ref 11900 0),(9,.ref 9 0)] [(4,.cells [vb false,nzA,nzA,nzA]),(9,.cells [vb true,.msl 14400 (AU dec).length,.slice (.id 11901 6) (infs.map Dw),nzA]),(11900,.cells [sl A8 roots,.cmap Cr (mC x),.cmap Cr (L.map (kA x)),.slice (.id 11901 6) (infs.map Dw),.slice (.id 11902 1) (drv.map Dn),.mref 11903,vb false,sl AX dec,sl Ae (AU dec),.msl 12200 st.length]),(11901,.tok 6 infs.length),(11902,.tok 1 drv.length),(11903,.map FS (FY 0 infs)),(12200,.arr 1 (st.map Bq)),(14400,.arr 4 ((AU dec).map Ae))] Z3 Z8 (Xi (.gen [(14400,1000)] 0) (Yi rfl ((s47 139 Tryz.closure139 (enters_of Tryz.func139 Wk rfl) (AU dec) fR hn).imp ?_))));intro v g q;have q1:=q.1;have q2:=q.2;subst q1;subst q2;refine cU [(4,.ref 4 0),(6,.ref 11900 0),(9,.ref 9 0)] [(4,.cells [vb false,nzA,nzA,nzA]),(9,.cells [vb true,.msl 14400 (AU dec).length,.slice (.id 11901 6) (infs.map Dw),.slice (.id 95 3) []]),(95,.tok 3 0),(11900,.cells [sl A8 roots,.cmap Cr (mC x),.cmap Cr (L.map (kA x)),.slice (.id 11901 6) (infs.map Dw),.slice (.id 11902 1) (drv.map Dn),.mref 11903,vb false,sl AX dec,sl Ae (AU dec),.msl 12200 st.length]),(11901,.tok 6 infs.length),(11902,.tok 1 drv.length),(11903,.map FS (FY 0 infs)),(12200,.arr 1 (st.map Bq)),(14400,.arr 4 ((D5 (AU dec)).map Ae))] Z3 Z9 (Xi {i:Nat // i<=st.length} (Xi (fun i=>⟨[(4,.ref 4 0),(6,.ref 11900 0),(9,.ref 9 0),(56,.msl 12200 st.length),(57,vi (st.length:Nat)),(58,vi i.1)],[(4,.cells [vb false,nzA,nzA,nzA]),(9,.cells [vb true,.msl 14400 (AU dec).length,.slice (.id 11901 6) (infs.map Dw),.slice (.id 95 3) ((st.take i.1).flatten.map CD)]),(95,.tok 3 ((st.take i.1).flatten.map CD).length),(11900,.cells [sl A8 roots,.cmap Cr (mC x),.cmap Cr (L.map (kA x)),.slice (.id 11901 6) (infs.map Dw),.slice (.id 11902 1) (drv.map Dn),.mref 11903,vb false,sl AX dec,sl Ae (AU dec),.msl 12200 st.length]),(11901,.tok 6 infs.length),(11902,.tok 1 drv.length),(11903,.map FS (FY 0 infs)),(12200,.arr 1 (st.map Bq)),(14400,.arr 4 ((D5 (AU dec)).map Ae))],Af⟩) (Xi (fun i=>st.length-i.1) (Yi (Xi ⟨0,AA _⟩ ?_) ?_))))
 .exact⟨Z6,Z9,Fh,Tv⟩
 intro⟨i,i1⟩;refine Yi ?_ ?_
 .intro h;have h:(i:Int)<(st.length:Nat):=h;have h:i<st.length:=by omega
  have hg:st[i]?=some st[i]:=Ge h;have LF:st.take (i+1)=st.take i++[st[i]]:=by rw[Bj,hg];rfl
  refine Yi (Yi (Nn i) (by show(i:Int)<(st.length:Nat);omega)) (Yi (by rw[Lm]) (Xi (Bq st[i]) (Yi (by show(st.map Bq)[((i:Nat):Int).toNat]?=_;rw[Ch,AH,hg];rfl) ?_)));refine cU [(4,.ref 4 0),(6,.ref 11900 0),(9,.ref 9 0),(11,sl CD st[i]),(56,.msl 12200 st.length),(57,vi (st.length:Nat)),(58,vi i)] [(4,.cells [vb false,nzA,nzA,nzA]),(9,.cells [vb true,.msl 14400 (AU dec).length,.slice (.id 11901 6) (infs.map Dw),.slice (.id 95 3) ((st.take i).flatten.map CD)]),(95,.tok 3 ((st.take i).flatten.map CD).length),(11900,.cells [sl A8 roots,.cmap Cr (mC x),.cmap Cr (L.map (kA x)),.slice (.id 11901 6) (infs.map Dw),.slice (.id 11902 1) (drv.map Dn),.mref 11903,vb false,sl AX dec,sl Ae (AU dec),.msl 12200 st.length]),(11901,.tok 6 infs.length),(11902,.tok 1 drv.length),(11903,.map FS (FY 0 infs)),(12200,.arr 1 (st.map Bq)),(14400,.arr 4 ((D5 (AU dec)).map Ae))] Z7 Z9 ?_
  have hfl:((st.take i).flatten).length<=65536/\st[i].length<=256:=⟨oo Kh hsk i,hsk _ (Al _)⟩;have Hw:Cf 3 (st[i].map CD)/\((st.take i).flatten.map CD).length=((st.take i).flatten.map CD).length/\(((st.take i).flatten.map CD).length+(st[i].map CD).length)*32<=140737488355328/\((st.take i).flatten.map CD).length+(st[i].map CD).length<=9223372036854775807:=by
   refine⟨DK (enc:=CD) (n:=3) (fun _=>rfl) _,rfl,?_,?_⟩<;>simp only[Lm]<;>omega
  refine Yi Hw (Yi ?_ ?_)
  .exact Nz rfl
  have ef:((st.take i).flatten.map CD)++st[i].map CD=((st.take (i+1)).flatten.map CD):=by rw[LF,Ci,As];simp
  have en:((st.take i).flatten.map CD).length+(st[i].map CD).length=((st.take (i+1)).flatten.map CD).length:=by rw[<-ef,Ac]
  refine cU [(4,.ref 4 0),(6,.ref 11900 0),(9,.ref 9 0),(56,.msl 12200 st.length),(57,vi (st.length:Nat)),(58,vi i)] [(4,.cells [vb false,nzA,nzA,nzA]),(9,.cells [vb true,.msl 14400 (AU dec).length,.slice (.id 11901 6) (infs.map Dw),.slice (.id 95 3) ((st.take (i+1)).flatten.map CD)]),(95,.tok 3 ((st.take (i+1)).flatten.map CD).length),(11900,.cells [sl A8 roots,.cmap Cr (mC x),.cmap Cr (L.map (kA x)),.slice (.id 11901 6) (infs.map Dw),.slice (.id 11902 1) (drv.map Dn),.mref 11903,vb false,sl AX dec,sl Ae (AU dec),.msl 12200 st.length]),(11901,.tok 6 infs.length),(11902,.tok 1 drv.length),(11903,.map FS (FY 0 infs)),(12200,.arr 1 (st.map Bq)),(14400,.arr 4 ((D5 (AU dec)).map Ae))] Z6 ⟨Zr,⟨Aa (fun z=>HO.cells [vb true,.msl 14400 (AU dec).length,.slice (.id 11901 6) (infs.map Dw),.slice (.id 95 3) z]) ef,rfl⟩,⟨Aa (HO.tok 3) en,rfl⟩,Zr,Zr,Zr,Zr,Zr,Zr,Tv⟩ (Yi (Ii i ch) (Xi ⟨i+1,by omega⟩ ?_));exact⟨Dl st.length i ch,Z6,Z9,Fh,Tv⟩
 .intro h;have h:¬(i:Int)<(st.length:Nat):=h;have et:st.take i=st:=At ch;have SH:(AU dec).length=((D5 (AU dec)).map Ae).length:=(HR (AU dec)).length_eq.symm.trans (Lm ..).symm;refine Yi SH (cU [(4,.ref 4 0),(9,.ref 9 0)] [(4,.cells [vb false,nzA,nzA,nzA]),(9,.cells [vb true,.slice (.id 14400 4) ((D5 (AU dec)).map Ae),.slice (.id 11901 6) (infs.map Dw),.slice (.id 95 3) (st.flatten.map CD)]),(95,.tok 3 (st.flatten.map CD).length),(11901,.tok 6 infs.length),(14400,.tok 4 ((D5 (AU dec)).map Ae).length)] Z2 ⟨Zr,⟨Aa (fun z:List (List Sk)=>HO.cells [vb true,.slice (.id 14400 4) ((D5 (AU dec)).map Ae),.slice (.id 11901 6) (infs.map Dw),.slice (.id 95 3) (z.flatten.map CD)]) et,rfl⟩,⟨Aa (fun z:List (List Sk)=>HO.tok 3 (z.flatten.map CD).length) et,rfl⟩,Zr,Zr,Tv⟩ (Yi ?_ ?_))
  .exact Nz rfl
  refine Yi ?_ ?_
  .exact Nz rfl
  refine Yi ?_ ?_
  .exact Nz rfl
  exact .refl _
theorem RV{s:SS}{b:List Cd}{p:ByteArray}{needs:List Nd}:∀{cs:List Cd} {sk:List Sk},HD s b p needs cs sk->sk.length<=cs.length
 | [],sk,h=>by
  have h:sk=[]:=h;rw[h];exact Ak _
 |c::cs,sk,h=>by
  have h:if(needs.all fun n=>has n.rq.set c.place)=true then _ else _:=h
  by_cases hc:(needs.all fun n=>has n.rq.set c.place)=true
  .rw[Ao hc]at h;obtain⟨k,rest,rfl,_,h3⟩:=h
   have:=RV h3
   simp only[Am];omega
  .rw[Aj hc]at h
   have:=RV h
   simp only[Am];omega
theorem Xb{x:List Rl}{roots:List Rq}{s:SS}:∀{t:List Cd} {sl:List (List Sk)} {b:List Cd},T3 x roots s b t sl->sl.length=t.length/\∀k∈sl,k.length<=x.length
 | [],[],_,_=>⟨rfl,fun _ h=>by cases h⟩
 | [],_::_,_,h=>h.elim
 |_::_,[],_,h=>h.elim
 |c::t,sk::sl,b,⟨⟨p,needs,pre,post,hs⟩,h⟩=>by
  obtain⟨h1,h2⟩:=Xb h;refine⟨by simp[h1],fun k hk=>?_⟩;rcases AC.1 hk with rfl | hk
  .have e1:=RV hs.skips;have e2:=WY x p;rw[hs.cands,Ac]at e2;omega
  .exact h2 k hk
theorem s21(hx:∀r∈x,En r)(hr:∀q∈roots,J7 q):PC 78 [HH x ifs,sl A8 roots] (oq x roots):=by
 unfold oq Ll Kw;cases hv:GG x roots with
 |false=>simpa using rE x ifs roots hx hr hv
 |true=>
  obtain⟨h0,h1⟩:=bZ hv;have hR:=XU h0 h1;have sZ:=(Mi h0).1;have hA:kX x roots=if(EH x roots).found=true then⟨true,D5 (AU (EH x roots).dec),(EH x roots).ss.infs,(EH x roots).stack.flatten⟩else⟨false,[],(EH x roots).ss.infs.take ((EH x roots).res+1),[]⟩:=rfl
  rw[hA];generalize ho:EH x roots=o at hR⊢;obtain⟨k,b,⟨infs,drv,full⟩,dec,st⟩:=o;have hl:infs.length<=65536:=hR.der.len;have hdl:drv.length=infs.length:=hR.der.dlen;cases b with
  |false=>
   cases full with
   |true=>simpa using oh x ifs roots hx hr hv h0 h1 k infs drv dec st ho
   |false=>
    have hk:k<drv.length:=((hR.no rfl).2.2 rfl).1;simpa using vL x ifs roots hx hr hv h0 h1 k infs drv dec st ho ch hl
  |true=>
   obtain⟨hf,t,sl,e1,e2,hC,_⟩:=hR.yes rfl;subst hf;have e1:dec=[]++t:=e1;have e2:st=[]++sl:=e2;rw[FW]at e1 e2;subst e1;subst e2;have hD:EY x ([]++dec):=(T3.ok (.nil x) (.nil roots) hC).1;rw[FW]at hD;have hdx:=Z0 hD;obtain⟨c1,c2⟩:=Xb hC;have hn:((AU dec).map (·.path)).Nodup:=by rw[Pa];exact hD.nodup
   simpa using rF x ifs roots hx hr hv h0 h1 k infs drv dec st ho ch hn ch (fun s hs=>AG (c2 s hs) sZ)
def KF:Int:=if Kw x roots≠0 then Kw x roots else if(Ll x roots).found=true then 0 else 17
def EM:List Sl:=if KF x roots=0 then(Ll x roots).sel else []
abbrev AdD:Th:=(pC [2] [])
theorem vK(a:An)(e:Int)(h:PC 78 [HH x ifs,sl A8 roots] (.tup [.agg (UA a),vi e])) :
  PC 37 [HH x ifs,sl A8 roots] (.tup [if e≠0 then sl Ae []else if a.found=true then sl Ae a.sel else sl Ae [],vi (if e≠0 then e else if a.found=true then 0 else 17)]):=by
 refine Ps AdD Tryz.func37 rfl (Nz rfl) (Yi ?_ ?_)
 .exact Nz rfl
 refine Xi .pure (Xi _ (Yi h (Yi ?_ ?_)))
 .exact Nz rfl
 refine Yi (fun he=>?_) (fun he=>?_)
 .have e1:AV.tup [sl Ae [],vi e]=.tup [if e≠0 then sl Ae []else if a.found=true then sl Ae a.sel else sl Ae [],vi (if e≠0 then e else if a.found=true then 0 else 17)]:=by rw[Ao he,Ao he]
  exact(show CY (.tup [nzA,vi e]) (.tup [sl Ae ([]:List Sl),vi e])from CY.tup ⟨.nil,.refl _,trivial⟩).trans (.of_eq e1)
 .have he:e=0:=B7.1 he;have DD:¬e≠0:=fun h=>h he;refine Yi (fun hb=>?_) (fun hb=>?_)
  .have e1:AV.tup [sl Ae a.sel,vi 0]=.tup [if e≠0 then sl Ae []else if a.found=true then sl Ae a.sel else sl Ae [],vi (if e≠0 then e else if a.found=true then 0 else 17)]:=by rw[Aj DD,Aj DD,Ao hb,Ao hb]
   exact .of_eq e1
  .have hb:¬a.found=true:=by rw[hb];decide
   have e1:AV.tup [sl Ae [],vi 17]=.tup [if e≠0 then sl Ae []else if a.found=true then sl Ae a.sel else sl Ae [],vi (if e≠0 then e else if a.found=true then 0 else 17)]:=by rw[Aj DD,Aj DD,Aj hb,Aj hb]
   exact(show CY (.tup [nzA,vi 17]) (.tup [sl Ae ([]:List Sl),vi 17])from CY.tup ⟨.nil,.refl _,trivial⟩).trans (.of_eq e1)
theorem s16(hx:∀r∈x,En r)(hr:∀q∈roots,J7 q):PC 37 [HH x ifs,sl A8 roots] (.tup [sl Ae (EM x roots),vi (KF x roots)]):=by
 have h:=vK x ifs roots _ _ (s21 x ifs roots hx hr);have e1:(if Kw x roots≠0 then sl Ae []else if(Ll x roots).found=true then sl Ae (Ll x roots).sel else sl Ae [])=sl Ae (EM x roots):=by
  unfold EM KF
  by_cases h1:Kw x roots=0
  .by_cases h2:(Ll x roots).found=true
   .simp[h1,h2]
   .simp[h1,h2]
  .simp[h1]
 have e2:(if Kw x roots≠0 then Kw x roots else if(Ll x roots).found=true then 0 else 17)=KF x roots:=rfl;rw[e1,e2]at h;exact h
end Go.Eng
namespace Go.Eng
variable {x:List Rl}{p:Sl->Bool}{y:Bool}{l:List Rl}{j:Nat}
/-! The empty workspace, and a workspace twice. -/
theorem ZT(h:A6 l=0):l.length<=256:=by
 unfold A6 at h;split at h
 .cases h
 .omega
theorem PR:∀{l:List Rl} {b:Option Rl},DR b l=0->∀r∈l,DX r=0
 | [],_,_,r,hr=>by cases hr
 |x::l,b,h,r,hr=>by
  unfold DR at h;split at h
  .rename_i h1;exact absurd h h1
  .rename_i h1;have h1:DX x=0:=B7.1 h1;have go:DR (some x) l=0:=by
    cases b with
    |none=>exact h
    |some b=>
     dsimp only at h;split at h
     .cases h
     .split at h
      .cases h
      .exact h
   rcases AC.1 hr with rfl | hr
   .exact h1
   .exact PR go r hr
theorem PQ:∀{l:List Rl} {b:Option Rl},(∀r∈l,DX r=0)->l.Pairwise cj->(∀c,b=some c->∀r∈l,cj c r)->DR b l=0
 | [],_,_,_,_=>rfl
 |x::l,b,h,hp,hb=>by
  obtain⟨p1,p2⟩:=BH.1 hp;have ih:DR (some x) l=0:=PQ (fun r hr=>h r (Ah _ hr)) p2 (fun c e r hr=>by cases e;exact p1 r hr);unfold DR;rw[Aj (fun q=>q (h x (Ab ..)))];cases b with
  |none=>exact ih
  |some c=>
   have hl:=hb c rfl x (Ab ..);dsimp only;rw[Aj (fun q=>HN hl q),Aj (fun q=>by
    have:iH (cn c) (cn x)<0:=PT.2 hl
    have q:0<iH (cn c) (cn x):=q;omega)]
   exact ih
theorem ZS:A6 l=0↔l.length<=256/\(∀r∈l,DX r=0)/\l.Pairwise cj:=by
 constructor
 .intro h;refine⟨ZT h,?_,(CC h).2⟩;unfold A6 at h;split at h
  .cases h
  .exact PR h
 .rintro⟨h1,h2,h3⟩
  unfold A6;rw[Aj ch];exact PQ h2 h3 (fun c e=>by cases e)
/-! What is merged. -/
/-! What a workspace makes of an index. -/
/-! What the solver selects. -/
theorem QU{roots:List Rq}(h:KF x roots=0):(∀z∈EM x roots,∃r∈x,cn r=z)/\(EM x roots).length<=x.length/\A6 x=0:=by
 have h0:=h;unfold KF at h0;split at h0
 .rename_i hs;exact absurd h0 hs
 .rename_i hs;have hs:Kw x roots=0:=B7.1 hs;split at h0
  .rename_i hf;have hv:GG x roots=true:=by
    cases e:GG x roots with
    |true=>rfl
    |false=>unfold Kw at hs;rw[e]at hs;cases hs
   have aK:(EH x roots).ss.full=false:=by
    cases e:(EH x roots).ss.full with
    |false=>rfl
    |true=>unfold Kw at hs;rw[hv,e]at hs;cases hs
   obtain⟨hx,hr⟩:=bZ hv;have hA:Ll x roots=kX x roots:=by unfold Ll;rw[Ao ⟨hv,aK⟩]
   rw[hA]at hf;have fQ:(EH x roots).found=true:=by
    cases e:(EH x roots).found with
    |true=>rfl
    |false=>unfold kX at hf;rw[e]at hf;cases hf
   have Ade:EM x roots=D5 (AU (EH x roots).dec):=by
    unfold EM;rw[Ao h,hA];unfold kX;rw[Ao fQ]
   obtain⟨_,t,sl,y2,y3,y4,y5⟩:=(XU hx hr).yes fQ;have AcU:(EH x roots).dec∈Nl x roots (x.length+1) []:=List.mem_of_head? y5;have lf:=RG (EY.nil x) (Jc.nil roots) _ AcU;rw[Ade];refine⟨fun z hz=>?_,?_,hx⟩
   .rw[GA]at hz;obtain⟨c,hc,rfl⟩:=Ai.1 hz;exact⟨c.rel,(lf.ok.cand c hc).1,rfl⟩
   .rw[(HR _).length_eq,Lm]
    have:=RJ (l:=(EH x roots).dec.map fun c=>c.rel) (m:=x) (dJ (f:=fun r:Rl=>r.path) (by rw[Br];exact lf.ok.nodup)) (fun r hr=>by
     obtain⟨c,hc,rfl⟩:=Ai.1 hr;exact(lf.ok.cand c hc).1)
    rwa [Lm]at this
  .cases h0
/-! Releases whose names satisfy p get Yanked. -/
def yk(y:Bool)(p:Sl->Bool)(x:List Rl):List Rl:=x.map fun r=>if p (cn r)=true then { r with yanked:=y }else r
section
variable {x:List Rl}{roots:List Rq}{y:Bool}{p:Sl->Bool}
theorem Pq:(yk y p x).length=x.length:=Lm ..
end
/-! Law Keeps: which releases of the selection get yanked, one after the other. -/
section
variable {α:Type}(c:α->α->Int)
def Ku:Nat->List α->List α
 |0,l=>l
 |j+1,l=>match l[j+1]?,l[j]? with
  |some a,some b=>if c a b<0 then Ku j ((l.set (j+1) b).set j a)else l
  |_,_=>l
def Ec(i:Nat)(l:List α):List α:=(List.range i).foldl (fun m i=>Ku c i m) l
theorem XR:∀(j:Nat) (l:List α),(Ku c j l).length=l.length
 |0,_=>rfl
 |j+1,l=>by
  unfold Ku;split
  .split
   .rw[XR j];simp
   .rfl
  .rfl
theorem NS(i:Nat)(l:List α):Ec c (i+1) l=Ku c i (Ec c i l):=by
 unfold Ec;rw[List.range_succ,Et];rfl
theorem mU(l:List α):Ec c 1 l=l:=rfl
theorem LG:∀(i:Nat) (l:List α),(Ec c i l).length=l.length
 |0,_=>rfl
 |i+1,l=>by rw[NS,XR,LG i]
theorem XS:∀(j:Nat) (l:List α),∀x∈Ku c j l,x∈l
 |0,_,_,h=>h
 |j+1,l,x,h=>by
  unfold Ku at h;split at h
  .rename_i a b ha hb;split at h
   .have h:=XS j _ x h;rcases Fm h with h | rfl
    .rcases Fm h with h | rfl
     .exact h
     .exact Az hb
    .exact Az ha
   .exact h
  .exact h
theorem Nh:∀(i:Nat) (l:List α),∀x∈Ec c i l,x∈l
 |0,_,_,h=>h
 |i+1,l,x,h=>by rw[NS]at h;exact Nh i l x (XS c i _ x h)
theorem d9{l:List α}{a b:α}(h0:0<j)(ha:l[j]?=some a)(hb:l[j-1]?=some b)(hc:c a b<0):Ku c j l=Ku c (j-1) ((l.set j b).set (j-1) a):=by
 obtain⟨k,rfl⟩:∃k,j=k+1:=⟨j-1,by omega⟩;have e:k+1-1=k:=rfl;simp only[e]at hb⊢;rw[Ku,ha,hb];exact Ao hc
theorem VO{l:List α}{a b:α}(h0:0<j)(ha:l[j]?=some a)(hb:l[j-1]?=some b)(hc:¬c a b<0):Ku c j l=l:=by
 obtain⟨k,rfl⟩:∃k,j=k+1:=⟨j-1,by omega⟩;have e:k+1-1=k:=rfl;simp only[e]at hb;rw[Ku,ha,hb];exact Aj hc
theorem Xv{l:List α}(h:l.Pairwise fun a b=>¬c b a<0):∀i,i<=l.length->Ec c i l=l
 |0,_=>rfl
 |i+1,hi=>by
  rw[NS,Xv h i ch]
  by_cases h0:i=0
  .subst h0;rfl
  .exact VO c ch (Ge hi) (Ge (show i-1<l.length by omega)) ((AT.1 h) (i-1) i ch hi ch)
end
theorem SK(h:A6 x=0):Ec Dy x.length x=x:=by
 refine Xv Dy ?_ _ (Ak _);refine(CC h).2.imp fun {a b} dh hc=>?_;have h1:iH (cn a) (cn b)<0:=PT.2 dh;have h2:iH (cn b) (cn a)<0:=hc;have h1:=PT.1 h1;have h2:=PT.1 h2;exact HN (XB h1 h2) rfl
theorem pg{P:Rl->Prop}(h:∀r∈x,P r/\P { r with yanked:=y }):∀r∈yk y p x,P r:=fun r hr=>by
 obtain⟨q,hq,rfl⟩:=Ai.1 hr;split
 .exact(h q hq).2
 .exact(h q hq).1
theorem sq(h:∀r∈x,En r):∀r∈yk y p x,En r:=pg fun r hr=>⟨h r hr,h r hr⟩
theorem ib{i:Nat}(h:i<x.length):(yk y p (x.take i)++x.drop i).set i (if p (cn x[i])=true then { x[i]with yanked:=y }else x[i])=yk y p (x.take (i+1))++x.drop (i+1):=by
 rw[AI h,List.set_append_right _ _ (by rw[Pq,Aw];omega),Pq,Aw,show i-min i x.length=0 by omega,List.set_cons_zero];unfold yk;rw[Bj,Ge h,As,BB]
 rfl
theorem pf{i:Nat}(h:i<x.length):(yk y p (x.take i)++x.drop i)[i]?=some x[i]:=by
 rw[A1 (by rw[Pq,Aw];omega),Pq,Aw,show i-min i x.length=0 by omega,AI h]
 rfl
end Go.Eng
namespace Go.Eng
open Go.Proofs
variable {x:List Rl}{i:Nat}{α:Type}(l:List Rl)
theorem mT(c:α->α->Int){l:List α}(h1:1<=i)(h2:i<=l.length\/i=1)(h3:l.length<=i):Ec c i l=Ec c l.length l:=by
 by_cases e:i=l.length
 .rw[e]
 .have e1:i=1:=by omega
  have e2:l.length=0:=by omega
  rw[e1,e2];rfl
theorem AeA(hl:B8 l):Bc Tryz.prog 196 [.msl 1000 l.length,vi 0,vi (l.length:Nat),.v (.func (.func 85) #[] #[])] (Ap [(1000,.arr 9 (l.map AF))] Af) fun r h'=>r=.tup []/\h'=Ap [(1000,.arr 9 ((Ec Dy l.length l).map AF))] Af:=by
 refine Cu (M2 Ej) [(1000,1000)] rfl CW hm rfl Tryz.func196 Wk rfl (Nz rfl) Wk rfl (Yi (Ii 0 ch) (Xi {q:Nat // 1<=q/\(q<=l.length\/q=1)} (Xi (fun q=>⟨[(0,.msl 1000 l.length),(1,vi 0),(2,vi (l.length:Nat)),(3,.v (.func (.func 85) #[] #[])),(8,vi q.1)],[(1000,.arr 9 ((Ec Dy q.1 l).map AF))],Af⟩) (Xi (fun q=>l.length+1-q.1) (Yi (Xi ⟨1,Ak _,.inr rfl⟩ ?_) ?_)))))
 .exact⟨Z5,⟨⟨(show HO.arr 9 (l.map AF)=.arr 9 ((Ec Dy 1 l).map AF) by rw[mU]),rfl⟩,Tv⟩,Fh,BP Wk⟩
 intro⟨i,i1,i2⟩;refine Yi (fun h1=>?_) (fun h1=>?_)
 .have h1:(i:Int)<((l.length:Nat):Int):=h1;have ni:i<l.length:=by omega
  refine Xi {q:Nat×List Rl // q.1<=i/\q.2.length=l.length/\Ku Dy q.1 q.2=Ec Dy (i+1) l} (Xi (fun q=>⟨[(0,.msl 1000 l.length),(1,vi 0),(2,vi (l.length:Nat)),(3,.v (.func (.func 85) #[] #[])),(8,vi i),(9,vi q.1.1)],[(1000,.arr 9 (q.1.2.map AF))],Af⟩) (Xi (fun q=>q.1.1) (Yi (Xi ⟨(i,Ec Dy i l),Ak _,LG _ _ _,(NS Dy i l).symm⟩ ?_) ?_)))
  .exact⟨Z6,Z1,Fh,BP Wk⟩
  intro⟨⟨j,N⟩,j1,j2,j3⟩;have j2:N.length=l.length:=j2;have j3:Ku Dy j N=Ec Dy (i+1) l:=j3;refine Yi (fun h2=>?_) (fun h2=>?_)
  .have h2:(0:Int)<(j:Int):=h2;have nj:j<N.length:=by omega
   have j0:0<j:=by omega
   have ej:((j-1:Int).toNat)=j-1:=by omega
   refine CR (show ∃a,N[j]?=some a from⟨_,Ge nj⟩) (fun a ga=>?_);refine CR (show ∃b,N[j-1]?=some b from⟨_,Ge ch⟩) (fun b gb=>?_);have gc:N[(j-1:Int).toNat]?=some b:=by rw[ej];exact gb
   refine Yi (by show(0:Int)<=j/\(j:Int)<(l.length:Nat);omega) (Yi (show l.length=(N.map AF).length by simp[j2]) (Xi (AF a) (Yi (Ed ga) (yN (Yi (by show Ba ((j:Int)-(1:Int));unfold Ba;omega) (Yi (by show(0:Int)<=j-1/\(j-1:Int)<(l.length:Nat);omega) (Yi (show l.length=(N.map AF).length by simp[j2]) (Xi (AF b) (Yi (Ed gc) (yN (Xi _ (Yi (xu a b) (Yi (fun h3=>?_) (fun h3=>?_))))))))))))))
   .have h3:((Dy a b):Int)<(0:Int):=h3;refine Yi Wk (Yi (by show Ba ((j:Int)-(1:Int));unfold Ba;omega) (Yi (by show Ba ((j:Int)-(1:Int));unfold Ba;omega) (Yi (by show(0:Int)<=j-1/\(j-1:Int)<(l.length:Nat);omega) (Yi (show l.length=(N.map AF).length by simp[j2]) (Xi (AF b) (Yi (Ed gc) (yN (Yi (by show(0:Int)<=j/\(j:Int)<(l.length:Nat);omega) (Yi (show l.length=(N.map AF).length by simp[j2]) (Xi (AF a) (Yi (Ed ga) (yN (Yi (by show(0:Int)<=j/\(j:Int)<(l.length:Nat);omega) (Yi (show l.length=(N.map AF).length by simp[j2]) (Xi (AF a) (Yi (Ed ga) (yN (Yi (by show(0:Int)<=j-1/\(j-1:Int)<(l.length:Nat);omega) (Yi (show l.length=(((N.map AF).set j (AF b)):List (List AV)).length by simp[j2]) (Xi (AF b) (Yi ((List.getElem?_set_ne ch).trans (Ed gc)) (yN ?_))))))))))))))))))))));refine Yi Wk (Yi (by show Ba ((j:Int)-(1:Int));unfold Ba;omega) (Xi ⟨(j-1,(N.set j b).set (j-1) a),by omega,by rw[Dj,Dj];exact j2,by rw[<-j3,d9 Dy j0 ga gb h3]⟩ ?_));exact⟨by show(j-1:Nat)<j;omega,⟨Zr,Zr,Zr,Zr,Zr,⟨(Aa vi (show(j:Int)-1=((j-1:Nat):Int) by omega)),rfl⟩,Tv⟩,⟨⟨(show HO.arr 9 (((N.map AF).set j (AF b)).set ((j-1:Int).toNat) (AF a))=.arr 9 (((N.set j b).set (j-1) a).map AF) by rw[ej,OJ,OJ]),rfl⟩,Tv⟩,Fh,BP Wk⟩
   have h3:¬(((Dy a b):Int)<(0:Int)):=h3;refine Yi Wk (Yi (Ii i ch) ?_);have eN:N=Ec Dy (i+1) l:=by rw[<-j3];exact(VO Dy j0 ga gb h3).symm
   refine Xi ⟨i+1,by omega,.inl ni⟩ ?_;exact⟨by show l.length+1-(i+1)<l.length+1-i;omega,Z5,⟨⟨(show HO.arr 9 (N.map AF)=.arr 9 ((Ec Dy (i+1) l).map AF) by rw[eN]),rfl⟩,Tv⟩,Fh,BP Wk⟩
  have h2:¬((0:Int)<(j:Int)):=h2;refine Yi Wk (Yi (Ii i ch) ?_);have eN:N=Ec Dy (i+1) l:=by rw[<-j3];exact(show Ku Dy j N=N by rw[show j=0 by omega];rfl).symm
  refine Xi ⟨i+1,by omega,.inl ni⟩ ?_;exact⟨by show l.length+1-(i+1)<l.length+1-i;omega,Z5,⟨⟨(show HO.arr 9 (N.map AF)=.arr 9 ((Ec Dy (i+1) l).map AF) by rw[eN]),rfl⟩,Tv⟩,Fh,BP Wk⟩
 have h1:¬((i:Int)<((l.length:Nat):Int)):=h1;exact Xi _ (Yi (.refl _) ⟨rfl,show Ap [(1000,HO.arr 9 ((Ec Dy i l).map AF))] Af=Ap [(1000,.arr 9 ((Ec Dy l.length l).map AF))] Af from Aa (fun z=>Ap [(1000,HO.arr 9 (z.map AF))] Af) (mT Dy i1 i2 ch)⟩)
theorem Aez(hl:l.length<=19):Bc Tryz.prog 143 [.msl 1000 l.length,vi (l.length:Nat),.v (.func (.func 85) #[] #[])] (Ap [(1000,.arr 9 (l.map AF))] Af) fun r h'=>r=.tup []/\h'=Ap [(1000,.arr 9 ((Ec Dy l.length l).map AF))] Af:=by
 refine Cu (M2 Ej) [(1000,1000)] rfl CW hm rfl Tryz.func143 Wk rfl (Nz rfl) Wk rfl (Xi {q:Nat // q=0} (Xi (fun q=>⟨[(0,.msl 1000 l.length),(1,vi (l.length:Nat)),(2,.v (.func (.func 85) #[] #[])),(6,vi 20),(7,vi 0),(8,vi 20)],[(1000,.arr 9 (l.map AF))],Af⟩) (Xi (fun q=>q.1) (Yi (Xi ⟨0,rfl⟩ ?_) ?_))))
 .exact⟨Z6,Z1,Fh,BP Wk⟩
 intro⟨i,i1⟩;refine Yi (fun h1=>?_) (fun h1=>?_)
 .exact absurd h1 ch
 refine Xi (.gen [(1000,1000)] 0) (Yi rfl (Bc.to2 (AeA l (by unfold B8;omega)) ?_));refine Xi {q:Nat // q=0} (Xi (fun q=>⟨[(0,.msl 1000 l.length),(1,vi (l.length:Nat)),(2,.v (.func (.func 85) #[] #[])),(6,vi 20)],[(1000,.arr 9 ((Ec Dy l.length l).map AF))],Af⟩) (Xi (fun q=>q.1) (Yi (Xi ⟨0,rfl⟩ ?_) ?_)))
 .exact⟨Z4,Z1,Fh,BP Wk⟩
 intro⟨i,i1⟩;refine Yi (fun h2=>?_) (fun h2=>?_)
 .exact absurd h2 ch
 exact Xi _ (Yi (.refl _) Zr)
theorem v105(hl:l.length<=19):Bc Tryz.prog 84 [.msl 1000 l.length,.v (.func (.func 85) #[] #[])] (Ap [(1000,.arr 9 (l.map AF))] Af) fun r h'=>r=.tup []/\h'=Ap [(1000,.arr 9 ((Ec Dy l.length l).map AF))] Af:=by
 refine Cu (M2 Ej) [(1000,1000)] rfl CW hm rfl Tryz.func84 Wk rfl (Nz rfl) Wk rfl (Xi (.gen [(1000,1000)] 0) (Yi rfl (Bc.to2 (Aez l hl) ?_)));exact Xi _ (Yi (.refl _) Zr)
theorem AeC(x:List Rl)(hx:x.length<=19)(hc:∀r∈x,PC 83 [.agg (AF r)] (.agg (AF r)))(hk:Bc Tryz.prog 86 [.agg [.msl 1000 ((Ec Dy x.length x).map AF).length,nzA]] (Ap [(1000,.arr 9 ((Ec Dy x.length x).map AF))] Af) fun r h'=>r=vi 0/\h'=Ap [(1000,.arr 9 ((Ec Dy x.length x).map AF))] Af):Bc Tryz.prog 43 [sl AF x] (Ap [] Af) fun r h'=>r=.tup [.msl 2000 ((Ec Dy x.length x).map AF).length,vi 0]/\h'=Ap [(2000,.arr 9 ((Ec Dy x.length x).map AF))] Af:=by
 refine Cu (M2 ⟨[],[],[(4,9)],[],[],[],[],[],[],[],[7,8]⟩) [(4,2000)] rfl CW hm rfl Tryz.func43 Wk rfl (Nz rfl) Wk rfl (Xi {q:Nat // q<=x.length} (Xi (fun q=>⟨[(4,.msl 4 (x.take q.1).length),(8,sl AF x),(9,vi (x.map AF).length),(10,vi q.1)],[(4,.arr 9 ((x.take q.1).map AF))],Af⟩) (Xi (fun q=>x.length-q.1) (Yi (Xi ⟨0,AA _⟩ ?_) ?_))))
 .exact⟨Z4,Z1,Fh,BP Wk⟩
 intro⟨i,i1⟩;refine Yi (fun h1=>?_) (fun h1=>?_)
 .have h1:(i:Int)<((x.map AF).length:Int):=h1;have n1:=EE h1;refine Xi (AF x[i]) (Yi (IU n1) (Yi rfl (yN (yN (yN (Xi .pure (Xi _ (Yi (hc x[i] (Al n1)) ?_))))))));have b2:Cf 9 [(AF x[i])]/\((x.take i).map AF).length=(x.take i).length/\(((x.take i).map AF).length+([(AF x[i])]:List (List AV)).length)*120<=140737488355328/\((x.take i).map AF).length+([(AF x[i])]:List (List AV)).length<=9223372036854775807:=⟨⟨rfl,trivial⟩,(by rw[Lm]),(by simp only[Lm,Am,Au,Aw];omega),(by simp only[Lm,Am,Au,Aw];omega)⟩;refine Yi b2 (Yi (Ii i ch) (Xi ⟨i+1,n1⟩ ?_));exact⟨Dl x.length i ch,⟨⟨(show AV.msl 4 (((x.take i).map AF).length+([AF x[i]]:List (List AV)).length)=.msl 4 (x.take (i+1)).length by rw[Ek n1,Ac,Lm];rfl),rfl⟩,Zr,Zr,Zr,Tv⟩,⟨⟨(show HO.arr 9 ((x.take i).map AF++[AF x[i]])=.arr 9 ((x.take (i+1)).map AF) by rw[Ek n1,As];rfl),rfl⟩,Tv⟩,Fh,BP Wk⟩
 have h1:¬((i:Int)<((x.map AF).length:Int)):=h1;have n1:=Dd h1;have ei:x.take i=x:=At ch;refine Xi ⟨[(4,.msl 4 x.length)],[(4,.arr 9 (x.map AF))],Af⟩ (Yi ⟨⟨⟨(show AV.msl 4 (x.take i).length=.msl 4 x.length by rw[ei]),rfl⟩,trivial⟩,⟨⟨(show HO.arr 9 ((x.take i).map AF)=.arr 9 (x.map AF) by rw[ei]),rfl⟩,trivial⟩,fun _=>.inl rfl,BP Wk⟩ ?_)
 refine Xi (.gen [(4,1000)] 0) (Yi rfl (Bc.to2 (v105 x hx) ?_));refine cU [(4,.msl 4 ((Ec Dy x.length x).map AF).length)] [(4,.arr 9 ((Ec Dy x.length x).map AF))] ⟨⟨(show AV.msl 4 x.length=.msl 4 ((Ec Dy x.length x).map AF).length by rw[Lm,LG]),rfl⟩,Tv⟩ Z1 ?_
 refine Xi (.gen [(4,1000)] 0) (Yi rfl (Bc.to2 hk ?_));refine Yi (fun h=>absurd h Cl) (fun _=>?_);exact Xi _ (Yi (.refl _) Zr)
theorem AeB(x:List Rl)(hx:x.length<=19)(hc:∀r∈x,PC 83 [.agg (AF r)] (.agg (AF r)))(c:Int)(ye:c≠0)(hk:Bc Tryz.prog 86 [.agg [.msl 1000 ((Ec Dy x.length x).map AF).length,nzA]] (Ap [(1000,.arr 9 ((Ec Dy x.length x).map AF))] Af) fun r h'=>r=vi c/\h'=Ap [(1000,.arr 9 ((Ec Dy x.length x).map AF))] Af):PC 43 [sl AF x] (.tup [nzA,vi c]):=by
 refine Ps ⟨[],[],[(4,9)],[],[],[],[],[],[],[],[7,8]⟩ Tryz.func43 rfl (Nz rfl) (Xi {q:Nat // q<=x.length} (Xi (fun q=>⟨[(4,.msl 4 (x.take q.1).length),(8,sl AF x),(9,vi (x.map AF).length),(10,vi q.1)],[(4,.arr 9 ((x.take q.1).map AF))],Af⟩) (Xi (fun q=>x.length-q.1) (Yi (Xi ⟨0,AA _⟩ ?_) ?_))))
 .exact⟨Z4,Z1,Fh,Tv⟩
 intro⟨i,i1⟩;refine Yi (fun h1=>?_) (fun h1=>?_)
 .have h1:(i:Int)<((x.map AF).length:Int):=h1;have n1:=EE h1;refine Xi (AF x[i]) (Yi (IU n1) (Yi rfl (yN (yN (yN (Xi .pure (Xi _ (Yi (hc x[i] (Al n1)) ?_))))))));have b2:Cf 9 [(AF x[i])]/\((x.take i).map AF).length=(x.take i).length/\(((x.take i).map AF).length+([(AF x[i])]:List (List AV)).length)*120<=140737488355328/\((x.take i).map AF).length+([(AF x[i])]:List (List AV)).length<=9223372036854775807:=⟨⟨rfl,trivial⟩,(by rw[Lm]),(by simp only[Lm,Am,Au,Aw];omega),(by simp only[Lm,Am,Au,Aw];omega)⟩;refine Yi b2 (Yi (Ii i ch) (Xi ⟨i+1,n1⟩ ?_));exact⟨Dl x.length i ch,⟨⟨(show AV.msl 4 (((x.take i).map AF).length+([AF x[i]]:List (List AV)).length)=.msl 4 (x.take (i+1)).length by rw[Ek n1,Ac,Lm];rfl),rfl⟩,Zr,Zr,Zr,Tv⟩,⟨⟨(show HO.arr 9 ((x.take i).map AF++[AF x[i]])=.arr 9 ((x.take (i+1)).map AF) by rw[Ek n1,As];rfl),rfl⟩,Tv⟩,Fh,Tv⟩
 have h1:¬((i:Int)<((x.map AF).length:Int)):=h1;have n1:=Dd h1;have ei:x.take i=x:=At ch;refine cU [(4,.msl 4 x.length)] [(4,.arr 9 (x.map AF))] ⟨⟨(show AV.msl 4 (x.take i).length=.msl 4 x.length by rw[ei]),rfl⟩,Tv⟩ ⟨⟨(show HO.arr 9 ((x.take i).map AF)=.arr 9 (x.map AF) by rw[ei]),rfl⟩,Tv⟩ ?_
 refine Xi (.gen [(4,1000)] 0) (Yi rfl (Bc.to2 (v105 x hx) ?_));refine cU [(4,.msl 4 ((Ec Dy x.length x).map AF).length)] [(4,.arr 9 ((Ec Dy x.length x).map AF))] ⟨⟨(show AV.msl 4 x.length=.msl 4 ((Ec Dy x.length x).map AF).length by rw[Lm,LG]),rfl⟩,Tv⟩ Z1 ?_
 refine Xi (.gen [(4,1000)] 0) (Yi rfl (Bc.to2 hk ?_));refine Yi (fun h4=>?_) (fun h4=>?_)
 .exact .refl _
 have h4:(c:Int)=(0:Int):=AJ h4;exact absurd h4 ye
theorem bT{β:Type}{f:α->β}{N:List α}{r:α}(h:N[i]?=some r):N.map f=(N.set i r).map f:=by
 obtain⟨hi,rfl⟩:=Ay.1 h;rw[List.set_getElem_self]
theorem Zv{y:Bool}{p:Sl->Bool}:(yk y p (x.take i)++x.drop i).length=x.length:=by
 rw[Ac,Pq,Aw,Di];omega
structure T5(x:List Rl):Prop where
 len:x.length<=16
 few:∀r∈x,En r
structure WF(x:List Rl):Prop where
 len:x.length<=19
 few:∀r∈x,En r
theorem T5.to19(h:T5 x):WF x:=⟨AG h.len Cl,h.few⟩
theorem wz(hf:∀r∈x,En r):PC 86 [.agg [sl AF x,nzA]] (vi (A6 x)):=(wI Wm x [] hf).args ⟨.agg ⟨.refl _,.nil,trivial⟩,trivial⟩
theorem AeF(h:WF x)(hr:∀r∈x,r.reqs.length<=1000)(hc:A6 (Ec Dy x.length x)=0):Bc Tryz.prog 43 [sl AF x] Af fun r h'=>r=.tup [.msl 2000 x.length,vi 0]/\h'=Ap [(2000,.arr 9 ((Ec Dy x.length x).map AF))] Af:=by
 have hk:=Jb.lend (sz:=9) (es:=(Ec Dy x.length x).map AF) (vs:=[.slice none 0 0]) (wz (x:=Ec Dy x.length x) fun r hr=>h.few r (Nh Dy _ _ r hr));rw[hc]at hk;have q:=AeC x h.len (fun r hm=>c98 r (hr r hm) fun q hq=>((h.few r hm).2 q hq).1) hk;rw[show((Ec Dy x.length x).map AF).length=x.length by rw[Lm,LG]]at q;exact q
theorem Ki(l:List Sl):E3 l=true↔∀j (h:j<l.length),0<j->Ef (l[j-1]' ch).path l[j].path=true:=by
 constructor
 .intro h j hj h0;exact(AT.1 (OZ h).1) (j-1) j ch hj ch
 .intro h;refine mR (AT.2 fun i j hi hj Pt=>?_);have key:∀d (hd:i+d+1<l.length),Ef l[i].path (l[i+d+1]'hd).path=true:=fun d=>by
   induction d with
   |zero=>intro hd;exact h (i+1) hd ch
   |succ d ih=>intro hd;exact D6 (ih ch) (h (i+d+1+1) hd ch)
  have:=key (j-i-1) ch
  simp only[show i+(j-i-1)+1=j by omega]at this;exact this
end Go.Eng
