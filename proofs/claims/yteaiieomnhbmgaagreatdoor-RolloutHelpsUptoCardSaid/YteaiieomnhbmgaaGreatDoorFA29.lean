/- Lemmas 29. -/
import Derived.Test.YteaiieomnhbmgaaGreatDoorFA28
set_option maxHeartbeats 4000000
namespace Go.Eng
open Go.Proofs
variable (x:List Rl)(ifs:List (List AV))(roots:List Rq)
abbrev rV:Tt:=⟨[2],[],[],[],[],[],[],[(50,(9,3,95,3))],[(44,0)],[(100016,1009)],[3,4,5,6,7,8,9,10,11,14,15,16]⟩
abbrev an0:An:=⟨false,[],[],[]⟩
def Hw:An:=if El x roots=true/\(DM x roots).ss.full=false then Tu x roots else an0
def GM:Int:=if El x roots=true then if(DM x roots).ss.full=true then 7 else 0 else 1
abbrev o9:AV:=.tup [.agg (UK (Hw x roots)),vi (GM x roots)]
theorem CX.an0{v:AV}:CX (.tup [.agg [vb false,nzA,nzA,nzA],v]) (.tup [.agg (UK an0),v]):=
 CX.tup ⟨CX.agg ⟨.refl _,.nil,.nil,.nil,trivial⟩,.refl _,trivial⟩
theorem Wa{x:List Rl}{roots:List Rq}(hx:∀r∈x,Ey r)(hr:∀q∈roots,JH q)(h0:A0 x=0)(h1:BH roots=0){L:List ByteArray}(hl:L.Perm (AZ (yR x) [])){o:KW}(ho:DM x roots=o) :
  A9 Tryz.prog 137 [.ref 1000 0] (As (Kh roots (mC x) (L.map (kA x)) ss0 [] []) Ag) (df roots (mC x) (L.map (kA x)) o):=by
 rw[<-ho];exact AeW (uO hx hr h0 h1 hl) (x.length+1) (.nil x) (Iy.nil roots) ⟨⟨rfl,AB _⟩,FF⟩ rfl (Nat.lt_succ_of_le (Bx _ _)) rfl
theorem Mc{x:List Rl}{roots:List Rq}(h:El x roots=true):A0 x=0/\BH roots=0:=by
 unfold El at h;rw[Af,AA,AA]at h;exact h
theorem sc(hx:∀r∈x,Ey r)(hr:∀q∈roots,JH q)(hv:El x roots=false):PC 78 [Iu x ifs,sl AW roots] (.tup [.agg (UK an0),vi 1]):=by
 have U6:=s28 x ifs roots hx hr;rw[hv]at U6;refine Ps rV Tryz.func78 rfl (Nz rfl) (Yi ?_ ?_)
 .exact Nz rfl
 refine Xi .pure (Xi _ (Yi U6 (Yi ?_ ?_)))
 .exact Nz rfl
 refine Yi ?_ ?_
 .exact Nz rfl
 exact CX.an0
theorem oY(hx:∀r∈x,Ey r)(hr:∀q∈roots,JH q)(hv:El x roots=true)(h0:A0 x=0)(h1:BH roots=0)(k:Nat)(infs:List Nf)(drv:List (List Tm))(dec:List Cd)(st:List (List Sk))(ho:DM x roots=⟨k,false,⟨infs,drv,true⟩,dec,st⟩):PC 78 [Iu x ifs,sl AW roots] (.tup [.agg (UK an0),vi 7]):=by
 have U6:=s28 x ifs roots hx hr;rw[hv]at U6;refine Ps rV Tryz.func78 rfl (Nz rfl) (Yi ?_ ?_)
 .exact Nz rfl
 refine Xi .pure (Xi _ (Yi U6 (cU [(1,sl AW roots),(2,.ref 2 0),(4,.ref 4 0)] [(2,.ro (Ic x ifs)),(4,.cells [vb false,nzA,nzA,nzA])] Z3 Z2 (Yi ?_ ?_))))
 .exact Nz rfl
 refine Xi (.gen [] 5) (Yi rfl ((s29 x ifs roots hx h0).imp ?_));intro v g q;refine CL q (fun L q=>?_);have q1:=q.2.1;have q2:=q.2.2;have qp:=q.1;subst q1;subst q2;refine cU [(4,.ref 4 0),(6,.ref 11900 0)] [(4,.cells [vb false,nzA,nzA,nzA]),(11900,.cells [sl AW roots,.cmap Cu (mC x),.cmap Cu (L.map (kA x)),.slice (.id 11901 6) [],.slice (.id 11902 1) [],.mref 11903,vb false,.slice .none [],.slice .none [],.msl 11904 0]),(11901,.tok 6 0),(11902,.tok 1 0),(11903,.map FU []),(11904,.arr 1 [])] Z2 Z6 (Xi (.gen [(11900,1000),(11901,1001),(11902,1002),(11903,1003),(11904,1004)] 1) (Yi rfl ((Wa hx hr h0 h1 qp ho).imp ?_)));intro v g q;have q1:=q.1;have q2:=q.2;subst q1;subst q2;refine cU [(4,.ref 4 0),(6,.ref 11900 0),(7,vi (k:Nat)),(8,vb false)] [(4,.cells [vb false,nzA,nzA,nzA]),(11900,.cells [sl AW roots,.cmap Cu (mC x),.cmap Cu (L.map (kA x)),.slice (.id 11901 6) (infs.map DB),.slice (.id 11902 1) (drv.map Dn),.mref 11903,vb true,sl AY dec,sl Aq (AS dec),.msl 12200 st.length]),(11901,.tok 6 infs.length),(11902,.tok 1 drv.length),(11903,.map FU (F0 0 infs)),(12200,.arr 1 (st.map Bp))] Z4 Z6 (Yi (fun _=>?_) (fun h=>by cases h));refine cU [(4,.ref 4 0)] [(4,.cells [vb false,nzA,nzA,nzA])] Z1 Z1 (Yi ?_ ?_)
 .exact Nz rfl
 refine Yi ?_ ?_
 .exact Nz rfl
 exact CX.an0
theorem wx(hx:∀r∈x,Ey r)(hr:∀q∈roots,JH q)(hv:El x roots=true)(h0:A0 x=0)(h1:BH roots=0)(k:Nat)(infs:List Nf)(drv:List (List Tm))(dec:List Cd)(st:List (List Sk))(ho:DM x roots=⟨k,false,⟨infs,drv,false⟩,dec,st⟩)(hk:k<infs.length)(hl:infs.length<=65536):PC 78 [Iu x ifs,sl AW roots] (.tup [.agg (UK ⟨false,[],infs.take (k+1),[]⟩),vi 0]):=by
 have U6:=s28 x ifs roots hx hr;rw[hv]at U6;refine Ps rV Tryz.func78 rfl (Nz rfl) (Yi ?_ ?_)
 .exact Nz rfl
 refine Xi .pure (Xi _ (Yi U6 (cU [(1,sl AW roots),(2,.ref 2 0),(4,.ref 4 0)] [(2,.ro (Ic x ifs)),(4,.cells [vb false,nzA,nzA,nzA])] Z3 Z2 (Yi ?_ ?_))))
 .exact Nz rfl
 refine Xi (.gen [] 5) (Yi rfl ((s29 x ifs roots hx h0).imp ?_));intro v g q;refine CL q (fun L q=>?_);have q1:=q.2.1;have q2:=q.2.2;have qp:=q.1;subst q1;subst q2;refine cU [(4,.ref 4 0),(6,.ref 11900 0)] [(4,.cells [vb false,nzA,nzA,nzA]),(11900,.cells [sl AW roots,.cmap Cu (mC x),.cmap Cu (L.map (kA x)),.slice (.id 11901 6) [],.slice (.id 11902 1) [],.mref 11903,vb false,.slice .none [],.slice .none [],.msl 11904 0]),(11901,.tok 6 0),(11902,.tok 1 0),(11903,.map FU []),(11904,.arr 1 [])] Z2 Z6 (Xi (.gen [(11900,1000),(11901,1001),(11902,1002),(11903,1003),(11904,1004)] 1) (Yi rfl ((Wa hx hr h0 h1 qp ho).imp ?_)));intro v g q;have q1:=q.1;have q2:=q.2;subst q1;subst q2;refine cU [(4,.ref 4 0),(6,.ref 11900 0),(7,vi (k:Nat)),(8,vb false)] [(4,.cells [vb false,nzA,nzA,nzA]),(11900,.cells [sl AW roots,.cmap Cu (mC x),.cmap Cu (L.map (kA x)),.slice (.id 11901 6) (infs.map DB),.slice (.id 11902 1) (drv.map Dn),.mref 11903,vb false,sl AY dec,sl Aq (AS dec),.msl 12200 st.length]),(11901,.tok 6 infs.length),(11902,.tok 1 drv.length),(11903,.map FU (F0 0 infs)),(12200,.arr 1 (st.map Bp))] Z4 Z6 (Yi (fun h=>by cases h) (fun _=>?_));refine cU [(4,.ref 4 0),(6,.ref 11900 0),(7,vi (k:Nat)),(8,vb false)] [(4,.cells [vb false,nzA,nzA,nzA]),(11900,.cells [sl AW roots,.cmap Cu (mC x),.cmap Cu (L.map (kA x)),.slice (.id 11901 6) (infs.map DB),.slice (.id 11902 1) (drv.map Dn),.mref 11903,vb false,sl AY dec,sl Aq (AS dec),.msl 12200 st.length]),(11901,.tok 6 infs.length),(11902,.tok 1 drv.length),(11903,.map FU (F0 0 infs)),(12200,.arr 1 (st.map Bp))] Z4 Z6 (cU [(4,.ref 4 0),(6,.ref 11900 0),(7,vi (k:Nat))] [(4,.cells [vb false,nzA,nzA,nzA]),(11900,.cells [sl AW roots,.cmap Cu (mC x),.cmap Cu (L.map (kA x)),.slice (.id 11901 6) (infs.map DB),.slice (.id 11902 1) (drv.map Dn),.mref 11903,vb false,sl AY dec,sl Aq (AS dec),.msl 12200 st.length]),(11901,.tok 6 infs.length),(11902,.tok 1 drv.length),(11903,.map FU (F0 0 infs)),(12200,.arr 1 (st.map Bp))] Z3 Z6 (Yi (Ii k ch) ?_));have el:(infs.map DB).length=infs.length:=Lm ..;refine Yi ⟨Bs _,by show(0:Int)<=(k:Int)+1;omega,by show(k:Int)+1<=((infs.map DB).length:Int);rw[el];omega⟩ ?_;refine Yi (fun cs hcs=>by obtain⟨i,_,rfl⟩:=Ai.1 hcs;rfl) (Yi ?_ ?_)
 .exact Nz rfl
 refine Yi ?_ ?_
 .exact Nz rfl
 have et:((infs.map DB).take ((k:Int)+1).toNat).drop (0:Int).toNat=(infs.take (k+1)).map DB:=by
  rw[show((k:Int)+1).toNat=k+1 by omega];simp
 exact CX.tup ⟨CX.agg ⟨.refl _,.nil,.of_eq (show AV.slice .none (((infs.map DB).take ((k:Int)+1).toNat).drop (0:Int).toNat)=_ by rw[et]),.nil,trivial⟩,.refl _,trivial⟩
theorem XP(y:Sl):∀l:List Sl,(WR y l).Perm (y::l)
 | []=>.refl _
 |z::l=>by
  unfold WR;split
  .exact .refl _
  .exact((XP y l).cons z).trans (List.Perm.swap y z l)
theorem KP:∀l:List Sl,(DZ l).Perm l
 | []=>.refl _
 |y::l=>(XP y _).trans ((KP l).cons y)
theorem aY{b:Nat}:∀{st:List (List Sk)},(∀s∈st,s.length<=b)->st.flatten.length<=b*st.length
 | [],_=>by simp
 |s::st,h=>by
  rw[BE,Ac,Al,Nat.mul_succ]
  have:=h s (Ab ..)
  have:=aY (st:=st) fun t ht=>h t (Ah _ ht)
  omega
theorem o8{st:List (List Sk)}(h:st.length<=256)(hs:∀s∈st,s.length<=256)(i:Nat):((st.take i).flatten).length<=65536:=by
 have h1:=aY (b:=256) (st:=st.take i) fun s ZU=>hs s (Df ZU)
 have:(st.take i).length<=256:=by rw[Ax];omega
 omega
theorem sd(hx:∀r∈x,Ey r)(hr:∀q∈roots,JH q)(hv:El x roots=true)(h0:A0 x=0)(h1:BH roots=0)(k:Nat)(infs:List Nf)(drv:List (List Tm))(dec:List Cd)(st:List (List Sk))(ho:DM x roots=⟨k,true,⟨infs,drv,false⟩,dec,st⟩)(hd:dec.length<=256)(hn:((AS dec).map (·.path)).Nodup)(K4:st.length<=256)(hsk:∀s∈st,s.length<=256):PC 78 [Iu x ifs,sl AW roots] (.tup [.agg (UK ⟨true,DZ (AS dec),infs,st.flatten⟩),vi 0]):=by
 have U6:=s28 x ifs roots hx hr;rw[hv]at U6;refine Ps rV Tryz.func78 rfl (Nz rfl) (Yi ?_ ?_)
 .exact Nz rfl
 refine Xi .pure (Xi _ (Yi U6 (cU [(1,sl AW roots),(2,.ref 2 0),(4,.ref 4 0)] [(2,.ro (Ic x ifs)),(4,.cells [vb false,nzA,nzA,nzA])] Z3 Z2 (Yi ?_ ?_))))
 .exact Nz rfl
 refine Xi (.gen [] 5) (Yi rfl ((s29 x ifs roots hx h0).imp ?_));intro v g q;refine CL q (fun L q=>?_);have q1:=q.2.1;have q2:=q.2.2;have qp:=q.1;subst q1;subst q2;refine cU [(4,.ref 4 0),(6,.ref 11900 0)] [(4,.cells [vb false,nzA,nzA,nzA]),(11900,.cells [sl AW roots,.cmap Cu (mC x),.cmap Cu (L.map (kA x)),.slice (.id 11901 6) [],.slice (.id 11902 1) [],.mref 11903,vb false,.slice .none [],.slice .none [],.msl 11904 0]),(11901,.tok 6 0),(11902,.tok 1 0),(11903,.map FU []),(11904,.arr 1 [])] Z2 Z6 (Xi (.gen [(11900,1000),(11901,1001),(11902,1002),(11903,1003),(11904,1004)] 1) (Yi rfl ((Wa hx hr h0 h1 qp ho).imp ?_)));intro v g q;have q1:=q.1;have q2:=q.2;subst q1;subst q2;refine cU [(4,.ref 4 0),(6,.ref 11900 0),(7,vi (k:Nat)),(8,vb true)] [(4,.cells [vb false,nzA,nzA,nzA]),(11900,.cells [sl AW roots,.cmap Cu (mC x),.cmap Cu (L.map (kA x)),.slice (.id 11901 6) (infs.map DB),.slice (.id 11902 1) (drv.map Dn),.mref 11903,vb false,sl AY dec,sl Aq (AS dec),.msl 12200 st.length]),(11901,.tok 6 infs.length),(11902,.tok 1 drv.length),(11903,.map FU (F0 0 infs)),(12200,.arr 1 (st.map Bp))] Z4 Z6 (Yi (fun h=>by cases h) (fun _=>?_));refine cU [(4,.ref 4 0),(6,.ref 11900 0),(8,vb true)] [(4,.cells [vb false,nzA,nzA,nzA]),(11900,.cells [sl AW roots,.cmap Cu (mC x),.cmap Cu (L.map (kA x)),.slice (.id 11901 6) (infs.map DB),.slice (.id 11902 1) (drv.map Dn),.mref 11903,vb false,sl AY dec,sl Aq (AS dec),.msl 12200 st.length]),(11901,.tok 6 infs.length),(11902,.tok 1 drv.length),(11903,.map FU (F0 0 infs)),(12200,.arr 1 (st.map Bp))] Z3 Z6 (cU [(4,.ref 4 0),(6,.ref 11900 0)] [(4,.cells [vb false,nzA,nzA,nzA]),(11900,.cells [sl AW roots,.cmap Cu (mC x),.cmap Cu (L.map (kA x)),.slice (.id 11901 6) (infs.map DB),.slice (.id 11902 1) (drv.map Dn),.mref 11903,vb false,sl AY dec,sl Aq (AS dec),.msl 12200 st.length]),(11901,.tok 6 infs.length),(11902,.tok 1 drv.length),(11903,.map FU (F0 0 infs)),(12200,.arr 1 (st.map Bp))] Z2 Z6 ?_)
 have xF:(AS dec).length<=256:=by rw[Lm];exact hd
 have gD:B8 (AS dec):=AK xF Cl;refine Xi (AS dec).length (Xi 4 (Xi ((AS dec).map Aq) (Yi rfl (Yi (AeY (AS dec) gD) (Yi ?_ ?_)))))
 .exact Nz rfl
 refine Yi Wk (cU [(4,.ref 4 0),(6,.ref 11900 0),(9,.ref 9 0)] [(4,.cells [vb false,nzA,nzA,nzA]),(9,.cells [vb true,.msl 14400 (AS dec).length,.slice (.id 11901 6) (infs.map DB),nzA]),(11900,.cells [sl AW roots,.cmap Cu (mC x),.cmap Cu (L.map (kA x)),.slice (.id 11901 6) (infs.map DB),.slice (.id 11902 1) (drv.map Dn),.mref 11903,vb false,sl AY dec,sl Aq (AS dec),.msl 12200 st.length]),(11901,.tok 6 infs.length),(11902,.tok 1 drv.length),(11903,.map FU (F0 0 infs)),(12200,.arr 1 (st.map Bp)),(14400,.arr 4 ((AS dec).map Aq))] Z3 Z8 (Xi (.gen [(14400,1000)] 0) (Yi rfl ((s47 139 Tryz.closure139 (enters_of Tryz.func139 Wk rfl) (AS dec) gD hn).imp ?_))));intro v g q;have q1:=q.1;have q2:=q.2;subst q1;subst q2;refine cU [(4,.ref 4 0),(6,.ref 11900 0),(9,.ref 9 0)] [(4,.cells [vb false,nzA,nzA,nzA]),(9,.cells [vb true,.msl 14400 (AS dec).length,.slice (.id 11901 6) (infs.map DB),.slice (.id 95 3) []]),(95,.tok 3 0),(11900,.cells [sl AW roots,.cmap Cu (mC x),.cmap Cu (L.map (kA x)),.slice (.id 11901 6) (infs.map DB),.slice (.id 11902 1) (drv.map Dn),.mref 11903,vb false,sl AY dec,sl Aq (AS dec),.msl 12200 st.length]),(11901,.tok 6 infs.length),(11902,.tok 1 drv.length),(11903,.map FU (F0 0 infs)),(12200,.arr 1 (st.map Bp)),(14400,.arr 4 ((DZ (AS dec)).map Aq))] Z3 Z9 (Xi {i:Nat // i<=st.length} (Xi (fun i=>⟨[(4,.ref 4 0),(6,.ref 11900 0),(9,.ref 9 0),(56,.msl 12200 st.length),(57,vi (st.length:Nat)),(58,vi i.1)],[(4,.cells [vb false,nzA,nzA,nzA]),(9,.cells [vb true,.msl 14400 (AS dec).length,.slice (.id 11901 6) (infs.map DB),.slice (.id 95 3) ((st.take i.1).flatten.map CG)]),(95,.tok 3 ((st.take i.1).flatten.map CG).length),(11900,.cells [sl AW roots,.cmap Cu (mC x),.cmap Cu (L.map (kA x)),.slice (.id 11901 6) (infs.map DB),.slice (.id 11902 1) (drv.map Dn),.mref 11903,vb false,sl AY dec,sl Aq (AS dec),.msl 12200 st.length]),(11901,.tok 6 infs.length),(11902,.tok 1 drv.length),(11903,.map FU (F0 0 infs)),(12200,.arr 1 (st.map Bp)),(14400,.arr 4 ((DZ (AS dec)).map Aq))],Ag⟩) (Xi (fun i=>st.length-i.1) (Yi (Xi ⟨0,AB _⟩ ?_) ?_))))
 .exact⟨Z6,Z9,Fh,Tv⟩
 intro⟨i,i1⟩;refine Yi ?_ ?_
 .intro h;have h:(i:Int)<(st.length:Nat):=h;have h:i<st.length:=by omega
  have hg:st[i]?=some st[i]:=Ge h;have LW:st.take (i+1)=st.take i++[st[i]]:=by rw[Bh,hg];rfl
  refine Yi (Yi (Nn i) (by show(i:Int)<(st.length:Nat);omega)) (Yi (by rw[Lm]) (Xi (Bp st[i]) (Yi (by show(st.map Bp)[((i:Nat):Int).toNat]?=_;rw[Cb,AG,hg];rfl) ?_)));refine cU [(4,.ref 4 0),(6,.ref 11900 0),(9,.ref 9 0),(11,sl CG st[i]),(56,.msl 12200 st.length),(57,vi (st.length:Nat)),(58,vi i)] [(4,.cells [vb false,nzA,nzA,nzA]),(9,.cells [vb true,.msl 14400 (AS dec).length,.slice (.id 11901 6) (infs.map DB),.slice (.id 95 3) ((st.take i).flatten.map CG)]),(95,.tok 3 ((st.take i).flatten.map CG).length),(11900,.cells [sl AW roots,.cmap Cu (mC x),.cmap Cu (L.map (kA x)),.slice (.id 11901 6) (infs.map DB),.slice (.id 11902 1) (drv.map Dn),.mref 11903,vb false,sl AY dec,sl Aq (AS dec),.msl 12200 st.length]),(11901,.tok 6 infs.length),(11902,.tok 1 drv.length),(11903,.map FU (F0 0 infs)),(12200,.arr 1 (st.map Bp)),(14400,.arr 4 ((DZ (AS dec)).map Aq))] Z7 Z9 ?_
  have hfl:((st.take i).flatten).length<=65536/\st[i].length<=256:=⟨o8 K4 hsk i,hsk _ (Ao _)⟩;have HG:Cr 3 (st[i].map CG)/\((st.take i).flatten.map CG).length=((st.take i).flatten.map CG).length/\(((st.take i).flatten.map CG).length+(st[i].map CG).length)*32<=140737488355328/\((st.take i).flatten.map CG).length+(st[i].map CG).length<=9223372036854775807:=by
   refine⟨D5 (enc:=CG) (n:=3) (fun _=>rfl) _,rfl,?_,?_⟩<;>simp only[Lm]<;>omega
  refine Yi HG (Yi ?_ ?_)
  .exact Nz rfl
  have ef:((st.take i).flatten.map CG)++st[i].map CG=((st.take (i+1)).flatten.map CG):=by rw[LW,Cm,At];simp
  have en:((st.take i).flatten.map CG).length+(st[i].map CG).length=((st.take (i+1)).flatten.map CG).length:=by rw[<-ef,Ac]
  refine cU [(4,.ref 4 0),(6,.ref 11900 0),(9,.ref 9 0),(56,.msl 12200 st.length),(57,vi (st.length:Nat)),(58,vi i)] [(4,.cells [vb false,nzA,nzA,nzA]),(9,.cells [vb true,.msl 14400 (AS dec).length,.slice (.id 11901 6) (infs.map DB),.slice (.id 95 3) ((st.take (i+1)).flatten.map CG)]),(95,.tok 3 ((st.take (i+1)).flatten.map CG).length),(11900,.cells [sl AW roots,.cmap Cu (mC x),.cmap Cu (L.map (kA x)),.slice (.id 11901 6) (infs.map DB),.slice (.id 11902 1) (drv.map Dn),.mref 11903,vb false,sl AY dec,sl Aq (AS dec),.msl 12200 st.length]),(11901,.tok 6 infs.length),(11902,.tok 1 drv.length),(11903,.map FU (F0 0 infs)),(12200,.arr 1 (st.map Bp)),(14400,.arr 4 ((DZ (AS dec)).map Aq))] Z6 ⟨Zr,⟨Aa (fun z=>HO.cells [vb true,.msl 14400 (AS dec).length,.slice (.id 11901 6) (infs.map DB),.slice (.id 95 3) z]) ef,rfl⟩,⟨Aa (HO.tok 3) en,rfl⟩,Zr,Zr,Zr,Zr,Zr,Zr,Tv⟩ (Yi (Ii i ch) (Xi ⟨i+1,by omega⟩ ?_));exact⟨Dl st.length i ch,Z6,Z9,Fh,Tv⟩
 .intro h;have h:¬(i:Int)<(st.length:Nat):=h;have et:st.take i=st:=Av ch;have OF:(AS dec).length=((DZ (AS dec)).map Aq).length:=(KP (AS dec)).length_eq.symm.trans (Lm ..).symm;refine Yi OF (cU [(4,.ref 4 0),(9,.ref 9 0)] [(4,.cells [vb false,nzA,nzA,nzA]),(9,.cells [vb true,.slice (.id 14400 4) ((DZ (AS dec)).map Aq),.slice (.id 11901 6) (infs.map DB),.slice (.id 95 3) (st.flatten.map CG)]),(95,.tok 3 (st.flatten.map CG).length),(11901,.tok 6 infs.length),(14400,.tok 4 ((DZ (AS dec)).map Aq).length)] Z2 ⟨Zr,⟨Aa (fun z:List (List Sk)=>HO.cells [vb true,.slice (.id 14400 4) ((DZ (AS dec)).map Aq),.slice (.id 11901 6) (infs.map DB),.slice (.id 95 3) (z.flatten.map CG)]) et,rfl⟩,⟨Aa (fun z:List (List Sk)=>HO.tok 3 (z.flatten.map CG).length) et,rfl⟩,Zr,Zr,Tv⟩ (Yi ?_ ?_))
  .exact Nz rfl
  refine Yi ?_ ?_
  .exact Nz rfl
  refine Yi ?_ ?_
  .exact Nz rfl
  exact .refl _
theorem Sg{s:SS}{b:List Cd}{p:ByteArray}{needs:List Nd}:∀{cs:List Cd} {sk:List Sk},HP s b p needs cs sk->sk.length<=cs.length
 | [],sk,h=>by
  have h:sk=[]:=h;rw[h];exact Am _
 |c::cs,sk,h=>by
  have h:if(needs.all fun n=>has n.rq.set c.place)=true then _ else _:=h
  by_cases hc:(needs.all fun n=>has n.rq.set c.place)=true
  .rw[Ap hc]at h;obtain⟨k,rest,rfl,_,h3⟩:=h
   have:=Sg h3
   simp only[Al];omega
  .rw[Aj hc]at h
   have:=Sg h
   simp only[Al];omega
theorem Xv{x:List Rl}{roots:List Rq}{s:SS}:∀{t:List Cd} {sl:List (List Sk)} {b:List Cd},Ua x roots s b t sl->sl.length=t.length/\∀k∈sl,k.length<=x.length
 | [],[],_,_=>⟨rfl,fun _ h=>by cases h⟩
 | [],_::_,_,h=>h.elim
 |_::_,[],_,h=>h.elim
 |c::t,sk::sl,b,⟨⟨p,needs,pre,post,hs⟩,h⟩=>by
  obtain⟨h1,h2⟩:=Xv h;refine⟨by simp[h1],fun k hk=>?_⟩;rcases Ay.1 hk with rfl|hk
  .have e1:=Sg hs.skips;have e2:=Xs x p;rw[hs.cands,Ac]at e2;omega
  .exact h2 k hk
theorem s21(hx:∀r∈x,Ey r)(hr:∀q∈roots,JH q):PC 78 [Iu x ifs,sl AW roots] (o9 x roots):=by
 unfold o9 Hw GM;cases hv:El x roots with
 |false=>simpa using sc x ifs roots hx hr hv
 |true=>
  obtain⟨h0,h1⟩:=Mc hv;have hR:=Kq h0 h1;have tw:=(My h0).1;have hA:Tu x roots=if(DM x roots).found=true then⟨true,DZ (AS (DM x roots).dec),(DM x roots).ss.infs,(DM x roots).stack.flatten⟩else⟨false,[],(DM x roots).ss.infs.take ((DM x roots).res+1),[]⟩:=rfl
  rw[hA];generalize ho:DM x roots=o at hR⊢;obtain⟨k,b,⟨infs,drv,full⟩,dec,st⟩:=o;have hl:infs.length<=65536:=hR.der.len;have hdl:drv.length=infs.length:=hR.der.dlen;cases b with
  |false=>
   cases full with
   |true=>simpa using oY x ifs roots hx hr hv h0 h1 k infs drv dec st ho
   |false=>
    have hk:k<drv.length:=((hR.no rfl).2.2 rfl).1;simpa using wx x ifs roots hx hr hv h0 h1 k infs drv dec st ho ch hl
  |true=>
   obtain⟨hf,t,sl,e1,e2,hC,_⟩:=hR.yes rfl;subst hf;have e1:dec=[]++t:=e1;have e2:st=[]++sl:=e2;rw[FY]at e1 e2;subst e1;subst e2;have hD:EI x ([]++dec):=(Ua.ok (.nil x) (.nil roots) hC).1;rw[FY]at hD;have hdx:=aH hD;obtain⟨c1,c2⟩:=Xv hC;have hn:((AS dec).map (·.path)).Nodup:=by rw[Pl];exact hD.nodup
   simpa using sd x ifs roots hx hr hv h0 h1 k infs drv dec st ho ch hn ch (fun s hs=>AK (c2 s hs) tw)
def EV:Int:=if GM x roots≠0 then GM x roots else if(Hw x roots).found=true then 0 else 17
def B9:List Sl:=if EV x roots=0 then(Hw x roots).sel else []
abbrev Ae9:Tt:=(pC [2] [])
theorem ww(a:An)(e:Int)(h:PC 78 [Iu x ifs,sl AW roots] (.tup [.agg (UK a),vi e])) :
  PC 37 [Iu x ifs,sl AW roots] (.tup [if e≠0 then sl Aq []else if a.found=true then sl Aq a.sel else sl Aq [],vi (if e≠0 then e else if a.found=true then 0 else 17)]):=by
 refine Ps Ae9 Tryz.func37 rfl (Nz rfl) (Yi ?_ ?_)
 .exact Nz rfl
 refine Xi .pure (Xi _ (Yi h (Yi ?_ ?_)))
 .exact Nz rfl
 refine Yi (fun he=>?_) (fun he=>?_)
 .have e1:AV.tup [sl Aq [],vi e]=.tup [if e≠0 then sl Aq []else if a.found=true then sl Aq a.sel else sl Aq [],vi (if e≠0 then e else if a.found=true then 0 else 17)]:=by rw[Ap he,Ap he]
  exact(show CX (.tup [nzA,vi e]) (.tup [sl Aq ([]:List Sl),vi e])from CX.tup ⟨.nil,.refl _,trivial⟩).trans (.of_eq e1)
 .have he:e=0:=BT.1 he;have DJ:¬e≠0:=fun h=>h he;refine Yi (fun hb=>?_) (fun hb=>?_)
  .have e1:AV.tup [sl Aq a.sel,vi 0]=.tup [if e≠0 then sl Aq []else if a.found=true then sl Aq a.sel else sl Aq [],vi (if e≠0 then e else if a.found=true then 0 else 17)]:=by rw[Aj DJ,Aj DJ,Ap hb,Ap hb]
   exact .of_eq e1
  .have hb:¬a.found=true:=by rw[hb];decide
   have e1:AV.tup [sl Aq [],vi 17]=.tup [if e≠0 then sl Aq []else if a.found=true then sl Aq a.sel else sl Aq [],vi (if e≠0 then e else if a.found=true then 0 else 17)]:=by rw[Aj DJ,Aj DJ,Aj hb,Aj hb]
   exact(show CX (.tup [nzA,vi 17]) (.tup [sl Aq ([]:List Sl),vi 17])from CX.tup ⟨.nil,.refl _,trivial⟩).trans (.of_eq e1)
theorem s16(hx:∀r∈x,Ey r)(hr:∀q∈roots,JH q):PC 37 [Iu x ifs,sl AW roots] (.tup [sl Aq (B9 x roots),vi (EV x roots)]):=by
 have h:=ww x ifs roots _ _ (s21 x ifs roots hx hr);have e1:(if GM x roots≠0 then sl Aq []else if(Hw x roots).found=true then sl Aq (Hw x roots).sel else sl Aq [])=sl Aq (B9 x roots):=by
  unfold B9 EV
  by_cases h1:GM x roots=0
  .by_cases h2:(Hw x roots).found=true
   .simp[h1,h2]
   .simp[h1,h2]
  .simp[h1]
 have e2:(if GM x roots≠0 then GM x roots else if(Hw x roots).found=true then 0 else 17)=EV x roots:=rfl;rw[e1,e2]at h;exact h
end Go.Eng
namespace Go.Eng
variable {x:List Rl}{p:Sl->Bool}{y:Bool}{l:List Rl}{j:Nat}
/-! The empty workspace, and a workspace twice. -/
theorem az(h:A0 l=0):l.length<=256:=by
 unfold A0 at h;split at h
 .cases h
 .omega
theorem PZ:∀{l:List Rl} {b:Option Rl},Dp b l=0->∀r∈l,Dq r=0
 | [],_,_,r,hr=>by cases hr
 |x::l,b,h,r,hr=>by
  unfold Dp at h;split at h
  .rename_i h1;exact absurd h h1
  .rename_i h1;have h1:Dq x=0:=BT.1 h1;have go:Dp (some x) l=0:=by
    cases b with
    |none=>exact h
    |some b=>
     dsimp only at h;split at h
     .cases h
     .split at h
      .cases h
      .exact h
   rcases Ay.1 hr with rfl|hr
   .exact h1
   .exact PZ go r hr
theorem PY:∀{l:List Rl} {b:Option Rl},(∀r∈l,Dq r=0)->l.Pairwise Zn->(∀c,b=some c->∀r∈l,Zn c r)->Dp b l=0
 | [],_,_,_,_=>rfl
 |x::l,b,h,hp,hb=>by
  obtain⟨p1,p2⟩:=Bw.1 hp;have ih:Dp (some x) l=0:=PY (fun r hr=>h r (Ah _ hr)) p2 (fun c e r hr=>by cases e;exact p1 r hr);unfold Dp;rw[Aj (fun q=>q (h x (Ab ..)))];cases b with
  |none=>exact ih
  |some c=>
   have hl:=hb c rfl x (Ab ..);dsimp only;rw[Aj (fun q=>G2 hl q),Aj (fun q=>by
    have:aC (MD c) (MD x)<0:=Nk.2 hl
    have q:0<aC (MD c) (MD x):=q;omega)]
   exact ih
theorem Jt:A0 l=0↔l.length<=256/\(∀r∈l,Dq r=0)/\l.Pairwise Zn:=by
 constructor
 .intro h;refine⟨az h,?_,(CF h).2⟩;unfold A0 at h;split at h
  .cases h
  .exact PZ h
 .rintro⟨h1,h2,h3⟩
  unfold A0;rw[Aj ch];exact PY h2 h3 (fun c e=>by cases e)
/-! What is merged. -/
/-! What a workspace makes of an index. -/
/-! What the solver selects. -/
theorem L8{roots:List Rq}(h:EV x roots=0):(∀z∈B9 x roots,∃r∈x,MD r=z)/\(B9 x roots).length<=x.length/\A0 x=0:=by
 have h0:=h;unfold EV at h0;split at h0
 .rename_i hs;exact absurd h0 hs
 .rename_i hs;have hs:GM x roots=0:=BT.1 hs;split at h0
  .rename_i hf;have hv:El x roots=true:=by
    cases e:El x roots with
    |true=>rfl
    |false=>unfold GM at hs;rw[e]at hs;cases hs
   have U9:(DM x roots).ss.full=false:=by
    cases e:(DM x roots).ss.full with
    |false=>rfl
    |true=>unfold GM at hs;rw[hv,e]at hs;cases hs
   obtain⟨hx,hr⟩:=Mc hv;have hA:Hw x roots=Tu x roots:=by unfold Hw;rw[Ap ⟨hv,U9⟩]
   rw[hA]at hf;have OD:(DM x roots).found=true:=by
    cases e:(DM x roots).found with
    |true=>rfl
    |false=>unfold Tu at hf;rw[e]at hf;cases hf
   have vF:B9 x roots=DZ (AS (DM x roots).dec):=by
    unfold B9;rw[Ap h,hA];unfold Tu;rw[Ap OD]
   obtain⟨_,t,sl,y2,y3,y4,y5⟩:=(Kq hx hr).yes OD;have m8:(DM x roots).dec∈Ht x roots (x.length+1) []:=Sz y5;have lf:=I9 (EI.nil x) (Iy.nil roots) _ m8;rw[vF];refine⟨fun z hz=>?_,?_,hx⟩
   .rw[Gd]at hz;obtain⟨c,hc,rfl⟩:=Ai.1 hz;exact⟨c.rel,(lf.ok.cand c hc).1,rfl⟩
   .rw[(KP _).length_eq,Lm]
    have:=RT (l:=(DM x roots).dec.map fun c=>c.rel) (m:=x) (eT (f:=fun r:Rl=>r.path) (by rw[Bq];exact lf.ok.nodup)) (fun r hr=>by
     obtain⟨c,hc,rfl⟩:=Ai.1 hr;exact(lf.ok.cand c hc).1)
    rwa [Lm]at this
  .cases h0
section
variable {x:List Rl}{roots:List Rq}
def PJ(x:List Rl)(roots:List Rq):Prop:=∃s,ub x roots s
theorem ZH(hv:El x roots=true)(hx:x.length<=16):GM x roots=0:=by
 unfold GM;rw[Ap hv,Pz hx];rfl
theorem MM(hv:El x roots=true)(hx:x.length<=16):Hw x roots=Tu x roots:=by
 unfold Hw;rw[Ap ⟨hv,Pz hx⟩]
theorem Pg(hv:El x roots=true)(hx:x.length<=16):(Hw x roots).found=true↔PJ x roots:=by
 obtain⟨h0,h1⟩:=Mc hv;have hR:=Kq h0 h1;have hf:=Pz (roots:=roots) hx;rw[MM hv hx];unfold Tu;generalize DM x roots=o at *
 constructor
 .intro h
  by_cases OD:o.found=true
  .obtain⟨_,t,sl,y2,y3,y4,y5⟩:=hR.yes OD;have hm:o.dec∈Ht x roots (x.length+1) []:=Sz y5;exact⟨_,(I9 (.nil x) (.nil roots) _ hm).sol h0⟩
  .rw[Aj OD]at h;cases h
 .rintro⟨s,hs⟩
  by_cases OD:o.found=true
  .rw[Ap OD]
  .have OD:o.found=false:=by simpa using OD
   obtain⟨n4,n5⟩:=(hR.no OD).2.2 hf;have vu:EC o.ss o.res=[]:=by
    cases h:EC o.ss o.res with
    |nil=>rfl
    |cons u l=>
     rw[h]at n5
     have:=(Ms.1 n5).2 u (Ab ..)
     cases this
   have m8:EC o.ss o.res∈o.ss.drv:=Az (Ff n4)
   have:=Kw hs (fun _ h=>by cases h) hR.der.der _ m8
   rw[vu]at this;cases this
theorem cH(hv:El x roots=true)(hx:x.length<=16):(EV x roots=0↔PJ x roots)/\(EV x roots=17↔¬PJ x roots):=by
 unfold EV;rw[ZH hv hx,Aj (fun h=>h rfl),<-Pg hv hx]
 by_cases h:(Hw x roots).found=true
 .rw[Ap h];simp[h]
 .rw[Aj h];simp[h]
theorem OH(hv:El x roots=true)(hx:x.length<=16):Ht x roots (x.length+1) []≠[]↔PJ x roots:=by
 obtain⟨h0,h1⟩:=Mc hv;constructor
 .intro h;cases hl:Ht x roots (x.length+1) []with
  |nil=>exact absurd hl h
  |cons d L=>
   have hm:d∈Ht x roots (x.length+1) []:=by rw[hl];exact Ab ..
   exact⟨_,(I9 (.nil x) (.nil roots) _ hm).sol h0⟩
 .intro h e;have hf:=(Pg hv hx).2 h;have hR:=Kq h0 h1;rw[MM hv hx]at hf;unfold Tu at hf
  by_cases OD:(DM x roots).found=true
  .obtain⟨_,t,sl,y2,y3,y4,y5⟩:=hR.yes OD;have hm:=Sz y5;rw[e]at hm;cases hm
  .rw[Aj OD]at hf;cases hf
theorem kN(hv:El x roots=true)(hx:x.length<=16){d:List Cd}{l:List (List Cd)}(h:Ht x roots (x.length+1) []=d::l):EV x roots=0/\B9 x roots=DZ (AS d):=by
 obtain⟨h0,h1⟩:=Mc hv;have hF:PJ x roots:=(OH hv hx).1 (by rw[h];exact List.cons_ne_nil _ _);have hE:=(cH hv hx).1.2 hF;refine⟨hE,?_⟩;have hf:=(Pg hv hx).2 hF;have hR:=Kq h0 h1;unfold B9;rw[hE,Ap rfl,MM hv hx];rw[MM hv hx]at hf;unfold Tu at hf⊢
 by_cases OD:(DM x roots).found=true
 .rw[Ap OD];obtain⟨_,t,sl,y2,y3,y4,y5⟩:=hR.yes OD;rw[h]at y5;cases y5;rfl
 .rw[Aj OD]at hf;cases hf
theorem oZ(h:El x roots=false):EV x roots≠0/\B9 x roots=[]:=by
 have h2:GM x roots=1:=by unfold GM;rw[h];rfl
 have h3:EV x roots=1:=by unfold EV;rw[h2];rfl
 exact⟨by rw[h3];decide,by unfold B9;rw[h3];rfl⟩
end
/-! Releases whose names satisfy p get Yanked. -/
def yk(y:Bool)(p:Sl->Bool)(x:List Rl):List Rl:=x.map fun r=>if p (MD r)=true then { r with yanked:=y }else r
section
variable {x:List Rl}{roots:List Rq}{y:Bool}{p:Sl->Bool}
theorem KU:(yk y p x).length=x.length:=Lm ..
theorem pW(r:Rl):MD (if p (MD r)=true then { r with yanked:=y }else r)=MD r:=by split<;>rfl
theorem tU:∀(x:List Rl) (b b' : Option Rl),b.map MD=b'.map MD->Dp b (yk y p x)=Dp b' x
 | [],_,_,_=>rfl
 |r::x,b,b',h=>by
  show Dp b ((if p (MD r)=true then { r with yanked:=y }else r)::yk y p x)=_;have hk:=pW (y:=y) (p:=p) r;have hc:Dq (if p (MD r)=true then { r with yanked:=y }else r)=Dq r:=by split<;>rfl
  generalize (if p (MD r)=true then({ r with yanked:=y }:Rl)else r)=r' at hk hc⊢;have ih:=tU x (some r') (some r) (Aa some hk);unfold Dp;rw[hc,ih];cases b with
  |none=>cases b' with
   |none=>rfl
   |some _=>cases h
  |some c=>cases b' with
   |none=>cases h
   |some c'=>
    have h:MD c=MD c':=Cj h;have h1:Fa c=Fa c':=h;have h2:Fa r'=Fa r:=hk;have h3:CY c r'=CY c' r:=by
     show aC (MD c) (MD r')=aC (MD c') (MD r);rw[h,hk]
    dsimp only;rw[h1,h2,h3]
theorem pV:A0 (yk y p x)=A0 x:=by
 unfold A0;rw[KU,tU x none none rfl]
end
section
variable {x:List Rl}{roots:List Rq}{p:Sl->Bool}
theorem fA(hv:El x roots=true)(hx:x.length<=16):EV x roots=17↔Ht x roots (x.length+1) []=[]:=by
 rw[(cH hv hx).2,<-OH hv hx];exact BT
end
/-! Law Keeps: which releases of the selection get yanked, one after the other. -/
section
variable {α:Type}(c:α->α->Int)
def Hp:Nat->List α->List α
 |0,l=>l
 |j+1,l=>match l[j+1]?,l[j]? with
  |some a,some b=>if c a b<0 then Hp j ((l.set (j+1) b).set j a)else l
  |_,_=>l
def DW(i:Nat)(l:List α):List α:=(List.range i).foldl (fun m i=>Hp c i m) l
theorem Yb:∀(j:Nat) (l:List α),(Hp c j l).length=l.length
 |0,_=>rfl
 |j+1,l=>by
  unfold Hp;split
  .split
   .rw[Yb j];simp
   .rfl
  .rfl
theorem Ih(i:Nat)(l:List α):DW c (i+1) l=Hp c i (DW c i l):=by
 unfold DW;rw[List.range_succ,Et];rfl
theorem nD(l:List α):DW c 1 l=l:=rfl
theorem JA:∀(i:Nat) (l:List α),(DW c i l).length=l.length
 |0,_=>rfl
 |i+1,l=>by rw[Ih,Yb,JA i]
theorem Yd:∀(j:Nat) (l:List α),∀x∈Hp c j l,x∈l
 |0,_,_,h=>h
 |j+1,l,x,h=>by
  unfold Hp at h;split at h
  .rename_i a b ha hb;split at h
   .have h:=Yd j _ x h;rcases Fr h with h|rfl
    .rcases Fr h with h|rfl
     .exact h
     .exact Az hb
    .exact Az ha
   .exact h
  .exact h
theorem KG:∀(i:Nat) (l:List α),∀x∈DW c i l,x∈l
 |0,_,_,h=>h
 |i+1,l,x,h=>by rw[Ih]at h;exact KG i l x (Yd c i _ x h)
theorem VZ{l:List α}{a b:α}(h0:0<j)(ha:l[j]?=some a)(hb:l[j-1]?=some b)(hc:c a b<0):Hp c j l=Hp c (j-1) ((l.set j b).set (j-1) a):=by
 obtain⟨k,rfl⟩:∃k,j=k+1:=⟨j-1,by omega⟩;have e:k+1-1=k:=rfl;simp only[e]at hb⊢;rw[Hp,ha,hb];exact Ap hc
theorem MK{l:List α}{a b:α}(h0:0<j)(ha:l[j]?=some a)(hb:l[j-1]?=some b)(hc:¬c a b<0):Hp c j l=l:=by
 obtain⟨k,rfl⟩:∃k,j=k+1:=⟨j-1,by omega⟩;have e:k+1-1=k:=rfl;simp only[e]at hb;rw[Hp,ha,hb];exact Aj hc
theorem XO{l:List α}(h:l.Pairwise fun a b=>¬c b a<0):∀i,i<=l.length->DW c i l=l
 |0,_=>rfl
 |i+1,hi=>by
  rw[Ih,XO h i ch]
  by_cases h0:i=0
  .subst h0;rfl
  .exact MK c ch (Ge hi) (Ge (show i-1<l.length by omega)) ((AU.1 h) (i-1) i ch hi ch)
end
theorem SW(h:A0 x=0):DW CY x.length x=x:=by
 refine XO CY ?_ _ (Am _);refine(CF h).2.imp fun {a b} dW hc=>?_;have h1:aC (MD a) (MD b)<0:=Nk.2 dW;have h2:aC (MD b) (MD a)<0:=hc;have h1:=Nk.1 h1;have h2:=Nk.1 h2;exact G2 (N6 h1 h2) rfl
theorem pX{P:Rl->Prop}(h:∀r∈x,P r/\P { r with yanked:=y }):∀r∈yk y p x,P r:=fun r hr=>by
 obtain⟨q,hq,rfl⟩:=Ai.1 hr;split
 .exact(h q hq).2
 .exact(h q hq).1
theorem iL(h:∀r∈x,Ey r):∀r∈yk y p x,Ey r:=pX fun r hr=>⟨h r hr,h r hr⟩
theorem iM{i:Nat}(h:i<x.length):(yk y p (x.take i)++x.drop i).set i (if p (MD x[i])=true then { x[i]with yanked:=y }else x[i])=yk y p (x.take (i+1))++x.drop (i+1):=by
 rw[AI h,List.set_append_right _ _ (by rw[KU,Ax];omega),KU,Ax,show i-min i x.length=0 by omega,List.set_cons_zero];unfold yk;rw[Bh,Ge h,At,BD]
 rfl
theorem pU{i:Nat}(h:i<x.length):(yk y p (x.take i)++x.drop i)[i]?=some x[i]:=by
 rw[A2 (by rw[KU,Ax];omega),KU,Ax,show i-min i x.length=0 by omega,AI h]
 rfl
end Go.Eng
namespace Go.Eng
open Go.Proofs
variable {x:List Rl}{i:Nat}{α:Type}(l:List Rl)
theorem nC(c:α->α->Int){l:List α}(h1:1<=i)(h2:i<=l.length\/i=1)(h3:l.length<=i):DW c i l=DW c l.length l:=by
 by_cases e:i=l.length
 .rw[e]
 .have e1:i=1:=by omega
  have e2:l.length=0:=by omega
  rw[e1,e2];rfl
theorem Af5(hl:B8 l):A9 Tryz.prog 196 [.msl 1000 l.length,vi 0,vi (l.length:Nat),.v (.func (.func 85) #[] #[])] (As [(1000,.arr 9 (l.map AC))] Ag) fun r h'=>r=.tup []/\h'=As [(1000,.arr 9 ((DW CY l.length l).map AC))] Ag:=by
 refine Cz (No Ej) [(1000,1000)] rfl C3 hm rfl Tryz.func196 Wk rfl (Nz rfl) Wk rfl (Yi (Ii 0 ch) (Xi {q:Nat // 1<=q/\(q<=l.length\/q=1)} (Xi (fun q=>⟨[(0,.msl 1000 l.length),(1,vi 0),(2,vi (l.length:Nat)),(3,.v (.func (.func 85) #[] #[])),(8,vi q.1)],[(1000,.arr 9 ((DW CY q.1 l).map AC))],Ag⟩) (Xi (fun q=>l.length+1-q.1) (Yi (Xi ⟨1,Am _,.inr rfl⟩ ?_) ?_)))))
 .exact⟨Z5,⟨⟨(show HO.arr 9 (l.map AC)=.arr 9 ((DW CY 1 l).map AC) by rw[nD]),rfl⟩,Tv⟩,Fh,BV Wk⟩
 intro⟨i,i1,i2⟩;refine Yi (fun h1=>?_) (fun h1=>?_)
 .have h1:(i:Int)<((l.length:Nat):Int):=h1;have ni:i<l.length:=by omega
  refine Xi {q:Nat×List Rl // q.1<=i/\q.2.length=l.length/\Hp CY q.1 q.2=DW CY (i+1) l} (Xi (fun q=>⟨[(0,.msl 1000 l.length),(1,vi 0),(2,vi (l.length:Nat)),(3,.v (.func (.func 85) #[] #[])),(8,vi i),(9,vi q.1.1)],[(1000,.arr 9 (q.1.2.map AC))],Ag⟩) (Xi (fun q=>q.1.1) (Yi (Xi ⟨(i,DW CY i l),Am _,JA _ _ _,(Ih CY i l).symm⟩ ?_) ?_)))
  .exact⟨Z6,Z1,Fh,BV Wk⟩
  intro⟨⟨j,N⟩,j1,j2,j3⟩;have j2:N.length=l.length:=j2;have j3:Hp CY j N=DW CY (i+1) l:=j3;refine Yi (fun h2=>?_) (fun h2=>?_)
  .have h2:(0:Int)<(j:Int):=h2;have nj:j<N.length:=by omega
   have j0:0<j:=by omega
   have ej:((j-1:Int).toNat)=j-1:=by omega
   refine CL (show ∃a,N[j]?=some a from⟨_,Ge nj⟩) (fun a ga=>?_);refine CL (show ∃b,N[j-1]?=some b from⟨_,Ge ch⟩) (fun b gb=>?_);have gc:N[(j-1:Int).toNat]?=some b:=by rw[ej];exact gb
   refine Yi (by show(0:Int)<=j/\(j:Int)<(l.length:Nat);omega) (Yi (show l.length=(N.map AC).length by simp[j2]) (Xi (AC a) (Yi (Ek ga) (yN (Yi (by show Bc ((j:Int)-(1:Int));unfold Bc;omega) (Yi (by show(0:Int)<=j-1/\(j-1:Int)<(l.length:Nat);omega) (Yi (show l.length=(N.map AC).length by simp[j2]) (Xi (AC b) (Yi (Ek gc) (yN (Xi _ (Yi (yc a b) (Yi (fun h3=>?_) (fun h3=>?_))))))))))))))
   .have h3:((CY a b):Int)<(0:Int):=h3;refine Yi Wk (Yi (by show Bc ((j:Int)-(1:Int));unfold Bc;omega) (Yi (by show Bc ((j:Int)-(1:Int));unfold Bc;omega) (Yi (by show(0:Int)<=j-1/\(j-1:Int)<(l.length:Nat);omega) (Yi (show l.length=(N.map AC).length by simp[j2]) (Xi (AC b) (Yi (Ek gc) (yN (Yi (by show(0:Int)<=j/\(j:Int)<(l.length:Nat);omega) (Yi (show l.length=(N.map AC).length by simp[j2]) (Xi (AC a) (Yi (Ek ga) (yN (Yi (by show(0:Int)<=j/\(j:Int)<(l.length:Nat);omega) (Yi (show l.length=(N.map AC).length by simp[j2]) (Xi (AC a) (Yi (Ek ga) (yN (Yi (by show(0:Int)<=j-1/\(j-1:Int)<(l.length:Nat);omega) (Yi (show l.length=(((N.map AC).set j (AC b)):List (List AV)).length by simp[j2]) (Xi (AC b) (Yi ((List.getElem?_set_ne ch).trans (Ek gc)) (yN ?_))))))))))))))))))))));refine Yi Wk (Yi (by show Bc ((j:Int)-(1:Int));unfold Bc;omega) (Xi ⟨(j-1,(N.set j b).set (j-1) a),by omega,by rw[Dj,Dj];exact j2,by rw[<-j3,VZ CY j0 ga gb h3]⟩ ?_));exact⟨by show(j-1:Nat)<j;omega,⟨Zr,Zr,Zr,Zr,Zr,⟨(Aa vi (show(j:Int)-1=((j-1:Nat):Int) by omega)),rfl⟩,Tv⟩,⟨⟨(show HO.arr 9 (((N.map AC).set j (AC b)).set ((j-1:Int).toNat) (AC a))=.arr 9 (((N.set j b).set (j-1) a).map AC) by rw[ej,JK,JK]),rfl⟩,Tv⟩,Fh,BV Wk⟩
   have h3:¬(((CY a b):Int)<(0:Int)):=h3;refine Yi Wk (Yi (Ii i ch) ?_);have eN:N=DW CY (i+1) l:=by rw[<-j3];exact(MK CY j0 ga gb h3).symm
   refine Xi ⟨i+1,by omega,.inl ni⟩ ?_;exact⟨by show l.length+1-(i+1)<l.length+1-i;omega,Z5,⟨⟨(show HO.arr 9 (N.map AC)=.arr 9 ((DW CY (i+1) l).map AC) by rw[eN]),rfl⟩,Tv⟩,Fh,BV Wk⟩
  have h2:¬((0:Int)<(j:Int)):=h2;refine Yi Wk (Yi (Ii i ch) ?_);have eN:N=DW CY (i+1) l:=by rw[<-j3];exact(show Hp CY j N=N by rw[show j=0 by omega];rfl).symm
  refine Xi ⟨i+1,by omega,.inl ni⟩ ?_;exact⟨by show l.length+1-(i+1)<l.length+1-i;omega,Z5,⟨⟨(show HO.arr 9 (N.map AC)=.arr 9 ((DW CY (i+1) l).map AC) by rw[eN]),rfl⟩,Tv⟩,Fh,BV Wk⟩
 have h1:¬((i:Int)<((l.length:Nat):Int)):=h1;exact Xi _ (Yi (.refl _) ⟨rfl,show As [(1000,HO.arr 9 ((DW CY i l).map AC))] Ag=As [(1000,.arr 9 ((DW CY l.length l).map AC))] Ag from Aa (fun z=>As [(1000,HO.arr 9 (z.map AC))] Ag) (nC CY i1 i2 ch)⟩)
theorem Af4(hl:l.length<=19):A9 Tryz.prog 143 [.msl 1000 l.length,vi (l.length:Nat),.v (.func (.func 85) #[] #[])] (As [(1000,.arr 9 (l.map AC))] Ag) fun r h'=>r=.tup []/\h'=As [(1000,.arr 9 ((DW CY l.length l).map AC))] Ag:=by
 refine Cz (No Ej) [(1000,1000)] rfl C3 hm rfl Tryz.func143 Wk rfl (Nz rfl) Wk rfl (Xi {q:Nat // q=0} (Xi (fun q=>⟨[(0,.msl 1000 l.length),(1,vi (l.length:Nat)),(2,.v (.func (.func 85) #[] #[])),(6,vi 20),(7,vi 0),(8,vi 20)],[(1000,.arr 9 (l.map AC))],Ag⟩) (Xi (fun q=>q.1) (Yi (Xi ⟨0,rfl⟩ ?_) ?_))))
 .exact⟨Z6,Z1,Fh,BV Wk⟩
 intro⟨i,i1⟩;refine Yi (fun h1=>?_) (fun h1=>?_)
 .exact absurd h1 ch
 refine Xi (.gen [(1000,1000)] 0) (Yi rfl (A9.to2 (Af5 l (by unfold B8;omega)) ?_));refine Xi {q:Nat // q=0} (Xi (fun q=>⟨[(0,.msl 1000 l.length),(1,vi (l.length:Nat)),(2,.v (.func (.func 85) #[] #[])),(6,vi 20)],[(1000,.arr 9 ((DW CY l.length l).map AC))],Ag⟩) (Xi (fun q=>q.1) (Yi (Xi ⟨0,rfl⟩ ?_) ?_)))
 .exact⟨Z4,Z1,Fh,BV Wk⟩
 intro⟨i,i1⟩;refine Yi (fun h2=>?_) (fun h2=>?_)
 .exact absurd h2 ch
 exact Xi _ (Yi (.refl _) Zr)
theorem v105(hl:l.length<=19):A9 Tryz.prog 84 [.msl 1000 l.length,.v (.func (.func 85) #[] #[])] (As [(1000,.arr 9 (l.map AC))] Ag) fun r h'=>r=.tup []/\h'=As [(1000,.arr 9 ((DW CY l.length l).map AC))] Ag:=by
 refine Cz (No Ej) [(1000,1000)] rfl C3 hm rfl Tryz.func84 Wk rfl (Nz rfl) Wk rfl (Xi (.gen [(1000,1000)] 0) (Yi rfl (A9.to2 (Af4 l hl) ?_)));exact Xi _ (Yi (.refl _) Zr)
theorem Af7(x:List Rl)(hx:x.length<=19)(hc:∀r∈x,PC 83 [.agg (AC r)] (.agg (AC r)))(hk:A9 Tryz.prog 86 [.agg [.msl 1000 ((DW CY x.length x).map AC).length,nzA]] (As [(1000,.arr 9 ((DW CY x.length x).map AC))] Ag) fun r h'=>r=vi 0/\h'=As [(1000,.arr 9 ((DW CY x.length x).map AC))] Ag):A9 Tryz.prog 43 [sl AC x] (As [] Ag) fun r h'=>r=.tup [.msl 2000 ((DW CY x.length x).map AC).length,vi 0]/\h'=As [(2000,.arr 9 ((DW CY x.length x).map AC))] Ag:=by
 refine Cz (No ⟨[],[],[(4,9)],[],[],[],[],[],[],[],[7,8]⟩) [(4,2000)] rfl C3 hm rfl Tryz.func43 Wk rfl (Nz rfl) Wk rfl (Xi {q:Nat // q<=x.length} (Xi (fun q=>⟨[(4,.msl 4 (x.take q.1).length),(8,sl AC x),(9,vi (x.map AC).length),(10,vi q.1)],[(4,.arr 9 ((x.take q.1).map AC))],Ag⟩) (Xi (fun q=>x.length-q.1) (Yi (Xi ⟨0,AB _⟩ ?_) ?_))))
 .exact⟨Z4,Z1,Fh,BV Wk⟩
 intro⟨i,i1⟩;refine Yi (fun h1=>?_) (fun h1=>?_)
 .have h1:(i:Int)<((x.map AC).length:Int):=h1;have n1:=FJ h1;refine Xi (AC x[i]) (Yi (Lv n1) (Yi rfl (yN (yN (yN (Xi .pure (Xi _ (Yi (hc x[i] (Ao n1)) ?_))))))));have b2:Cr 9 [(AC x[i])]/\((x.take i).map AC).length=(x.take i).length/\(((x.take i).map AC).length+([(AC x[i])]:List (List AV)).length)*120<=140737488355328/\((x.take i).map AC).length+([(AC x[i])]:List (List AV)).length<=9223372036854775807:=⟨⟨rfl,trivial⟩,(by rw[Lm]),(by simp only[Lm,Al,Au,Ax];omega),(by simp only[Lm,Al,Au,Ax];omega)⟩;refine Yi b2 (Yi (Ii i ch) (Xi ⟨i+1,n1⟩ ?_));exact⟨Dl x.length i ch,⟨⟨(show AV.msl 4 (((x.take i).map AC).length+([AC x[i]]:List (List AV)).length)=.msl 4 (x.take (i+1)).length by rw[Ep n1,Ac,Lm];rfl),rfl⟩,Zr,Zr,Zr,Tv⟩,⟨⟨(show HO.arr 9 ((x.take i).map AC++[AC x[i]])=.arr 9 ((x.take (i+1)).map AC) by rw[Ep n1,At];rfl),rfl⟩,Tv⟩,Fh,BV Wk⟩
 have h1:¬((i:Int)<((x.map AC).length:Int)):=h1;have n1:=DP h1;have ei:x.take i=x:=Av ch;refine Xi ⟨[(4,.msl 4 x.length)],[(4,.arr 9 (x.map AC))],Ag⟩ (Yi ⟨⟨⟨(show AV.msl 4 (x.take i).length=.msl 4 x.length by rw[ei]),rfl⟩,trivial⟩,⟨⟨(show HO.arr 9 ((x.take i).map AC)=.arr 9 (x.map AC) by rw[ei]),rfl⟩,trivial⟩,fun _=>.inl rfl,BV Wk⟩ ?_)
 refine Xi (.gen [(4,1000)] 0) (Yi rfl (A9.to2 (v105 x hx) ?_));refine cU [(4,.msl 4 ((DW CY x.length x).map AC).length)] [(4,.arr 9 ((DW CY x.length x).map AC))] ⟨⟨(show AV.msl 4 x.length=.msl 4 ((DW CY x.length x).map AC).length by rw[Lm,JA]),rfl⟩,Tv⟩ Z1 ?_
 refine Xi (.gen [(4,1000)] 0) (Yi rfl (A9.to2 hk ?_));refine Yi (fun h=>absurd h Cl) (fun _=>?_);exact Xi _ (Yi (.refl _) Zr)
theorem Af6(x:List Rl)(hx:x.length<=19)(hc:∀r∈x,PC 83 [.agg (AC r)] (.agg (AC r)))(c:Int)(u6:c≠0)(hk:A9 Tryz.prog 86 [.agg [.msl 1000 ((DW CY x.length x).map AC).length,nzA]] (As [(1000,.arr 9 ((DW CY x.length x).map AC))] Ag) fun r h'=>r=vi c/\h'=As [(1000,.arr 9 ((DW CY x.length x).map AC))] Ag):PC 43 [sl AC x] (.tup [nzA,vi c]):=by
 refine Ps ⟨[],[],[(4,9)],[],[],[],[],[],[],[],[7,8]⟩ Tryz.func43 rfl (Nz rfl) (Xi {q:Nat // q<=x.length} (Xi (fun q=>⟨[(4,.msl 4 (x.take q.1).length),(8,sl AC x),(9,vi (x.map AC).length),(10,vi q.1)],[(4,.arr 9 ((x.take q.1).map AC))],Ag⟩) (Xi (fun q=>x.length-q.1) (Yi (Xi ⟨0,AB _⟩ ?_) ?_))))
 .exact⟨Z4,Z1,Fh,Tv⟩
 intro⟨i,i1⟩;refine Yi (fun h1=>?_) (fun h1=>?_)
 .have h1:(i:Int)<((x.map AC).length:Int):=h1;have n1:=FJ h1;refine Xi (AC x[i]) (Yi (Lv n1) (Yi rfl (yN (yN (yN (Xi .pure (Xi _ (Yi (hc x[i] (Ao n1)) ?_))))))));have b2:Cr 9 [(AC x[i])]/\((x.take i).map AC).length=(x.take i).length/\(((x.take i).map AC).length+([(AC x[i])]:List (List AV)).length)*120<=140737488355328/\((x.take i).map AC).length+([(AC x[i])]:List (List AV)).length<=9223372036854775807:=⟨⟨rfl,trivial⟩,(by rw[Lm]),(by simp only[Lm,Al,Au,Ax];omega),(by simp only[Lm,Al,Au,Ax];omega)⟩;refine Yi b2 (Yi (Ii i ch) (Xi ⟨i+1,n1⟩ ?_));exact⟨Dl x.length i ch,⟨⟨(show AV.msl 4 (((x.take i).map AC).length+([AC x[i]]:List (List AV)).length)=.msl 4 (x.take (i+1)).length by rw[Ep n1,Ac,Lm];rfl),rfl⟩,Zr,Zr,Zr,Tv⟩,⟨⟨(show HO.arr 9 ((x.take i).map AC++[AC x[i]])=.arr 9 ((x.take (i+1)).map AC) by rw[Ep n1,At];rfl),rfl⟩,Tv⟩,Fh,Tv⟩
 have h1:¬((i:Int)<((x.map AC).length:Int)):=h1;have n1:=DP h1;have ei:x.take i=x:=Av ch;refine cU [(4,.msl 4 x.length)] [(4,.arr 9 (x.map AC))] ⟨⟨(show AV.msl 4 (x.take i).length=.msl 4 x.length by rw[ei]),rfl⟩,Tv⟩ ⟨⟨(show HO.arr 9 ((x.take i).map AC)=.arr 9 (x.map AC) by rw[ei]),rfl⟩,Tv⟩ ?_
 refine Xi (.gen [(4,1000)] 0) (Yi rfl (A9.to2 (v105 x hx) ?_));refine cU [(4,.msl 4 ((DW CY x.length x).map AC).length)] [(4,.arr 9 ((DW CY x.length x).map AC))] ⟨⟨(show AV.msl 4 x.length=.msl 4 ((DW CY x.length x).map AC).length by rw[Lm,JA]),rfl⟩,Tv⟩ Z1 ?_
 refine Xi (.gen [(4,1000)] 0) (Yi rfl (A9.to2 hk ?_));refine Yi (fun h4=>?_) (fun h4=>?_)
 .exact .refl _
 have h4:(c:Int)=(0:Int):=AH h4;exact absurd h4 u6
theorem cJ{β:Type}{f:α->β}{N:List α}{r:α}(h:N[i]?=some r):N.map f=(N.set i r).map f:=by
 obtain⟨hi,rfl⟩:=Aw.1 h;rw[List.set_getElem_self]
theorem ZS{y:Bool}{p:Sl->Bool}:(yk y p (x.take i)++x.drop i).length=x.length:=by
 rw[Ac,KU,Ax,Di];omega
structure PI(x:List Rl):Prop where
 len:x.length<=16
 few:∀r∈x,Ey r
structure Uc(x:List Rl):Prop where
 len:x.length<=19
 few:∀r∈x,Ey r
theorem PI.to19(h:PI x):Uc x:=⟨AK h.len Cl,h.few⟩
theorem xd(hf:∀r∈x,Ey r):PC 86 [.agg [sl AC x,nzA]] (vi (A0 x)):=(xo WF x [] hf).args ⟨.agg ⟨.refl _,.nil,trivial⟩,trivial⟩
theorem Afb(h:Uc x)(hr:∀r∈x,r.reqs.length<=1000)(hc:A0 (DW CY x.length x)=0):A9 Tryz.prog 43 [sl AC x] Ag fun r h'=>r=.tup [.msl 2000 x.length,vi 0]/\h'=As [(2000,.arr 9 ((DW CY x.length x).map AC))] Ag:=by
 have hk:=Jp.lend (sz:=9) (es:=(DW CY x.length x).map AC) (vs:=[.slice none 0 0]) (xd (x:=DW CY x.length x) fun r hr=>h.few r (KG CY _ _ r hr));rw[hc]at hk;have q:=Af7 x h.len (fun r hm=>c98 r (hr r hm) fun q hq=>((h.few r hm).2 q hq).1) hk;rw[show((DW CY x.length x).map AC).length=x.length by rw[Lm,JA]]at q;exact q
theorem KE(l:List Sl):E1 l=true↔∀j (h:j<l.length),0<j->Ed (l[j-1]' ch).path l[j].path=true:=by
 constructor
 .intro h j hj h0;exact(AU.1 (Pj h).1) (j-1) j ch hj ch
 .intro h;refine nA (AU.2 fun i j hi hj QC=>?_);have key:∀d (hd:i+d+1<l.length),Ed l[i].path (l[i+d+1]'hd).path=true:=fun d=>by
   induction d with
   |zero=>intro hd;exact h (i+1) hd ch
   |succ d ih=>intro hd;exact D8 (ih ch) (h (i+d+1+1) hd ch)
  have:=key (j-i-1) ch
  simp only[show i+(j-i-1)+1=j by omega]at this;exact this
end Go.Eng
