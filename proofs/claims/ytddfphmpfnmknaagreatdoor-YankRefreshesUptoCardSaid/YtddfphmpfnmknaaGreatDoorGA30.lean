/- Lemmas for the claims of this seat, without a condition: part 30 (S19, S20, O18, O19, O21, V0, V1, V2, V5, V6, V7). -/
import Derived.Test.YtddfphmpfnmknaaGreatDoorGA29
set_option maxHeartbeats 4000000
namespace Go.Eng
open Go.Proofs
variable {a b:Mv}(x:List Rl)(ifs:List (List AV))(roots:List Rq)
abbrev pt:Q0:=⟨[2],[],[],[],[],[],[],[(50,(9,3,95,3))],[(44,0)],[(100016,1009)],[3,4,5,6,7,8,9,10,11,14,15,16]⟩
abbrev an0:An:=⟨false,[],[],[]⟩
def GL:An:=if Ck x roots=true∧(DU x roots).ss.full=false then SY x roots else an0
def Gu:Int:=if Ck x roots=true then if(DU x roots).ss.full=true then 7 else 0 else 1
abbrev my:AV:=.tup [.agg (Ug (GL x roots)),vi (Gu x roots)]
theorem GF.an0{v:AV}:GF (.tup [.agg [vb false,Ce,Ce,Ce],v]) (.tup [.agg (Ug an0),v]) :=
 GF.tup ⟨GF.agg ⟨.refl _,.nil,.nil,.nil,trivial⟩,.refl _,trivial⟩
theorem Vu{x:List Rl}{roots:List Rq}(hx:∀r∈x,Gv r)(hr:∀q∈roots,J8 q)(h0:AN x=0)(h1:Bn roots=0){L:List ByteArray}(hl:L.Perm (AX (yR x) [])){o:Kx}(ho:DU x roots=o) :
  A1 Tryz.prog 65 [.ref 1000 0] (Ak (JW roots (mC x) (L.map (kA x)) xk [] []) Af) (bC roots (mC x) (L.map (kA x)) o):=by
 rw[←ho];exact Acb (rI hx hr h0 h1 hl) (x.length+1) (.nil x) (IM.nil roots) ⟨⟨rfl,AA _⟩,FI⟩ rfl (Nat.lt_succ_of_le (BC _ _)) rfl
theorem II{x:List Rl}{roots:List Rq}(h:Ck x roots=true):AN x=0∧Bn roots=0:=by
 unfold Ck at h;rw[Ai,Az,Az]at h;exact h
theorem pI(hx:∀r∈x,Gv r)(hr:∀q∈roots,J8 q)(hv:Ck x roots=false):PC 43 [EZ x ifs,sl AH roots] (.tup [.agg (Ug an0),vi 1]):=by
 have Uz:=yB x ifs roots hx hr;rw[hv]at Uz;refine Ps pt Tryz.func43 rfl (Nz rfl) (Yi ?_ ?_)
 ·exact Nz rfl
 refine Xi .pure (Xi _ (Yi Uz (Yi ?_ ?_)))
 ·exact Nz rfl
 refine Yi ?_ ?_
 ·exact Nz rfl
 exact GF.an0
theorem mo(hx:∀r∈x,Gv r)(hr:∀q∈roots,J8 q)(hv:Ck x roots=true)(h0:AN x=0)(h1:Bn roots=0)(k:Nat)(infs:List Nf)(drv:List (List Tm))(dec:List Cd)(st:List (List Sk))(ho:DU x roots=⟨k,false,⟨infs,drv,true⟩,dec,st⟩):PC 43 [EZ x ifs,sl AH roots] (.tup [.agg (Ug an0),vi 7]):=by
 have Uz:=yB x ifs roots hx hr;rw[hv]at Uz;refine Ps pt Tryz.func43 rfl (Nz rfl) (Yi ?_ ?_)
 ·exact Nz rfl
 refine Xi .pure (Xi _ (Yi Uz (cU [(1,sl AH roots),(2,.ref 2 0),(4,.ref 4 0)] [(2,.ro (Ic x ifs)),(4,.cells [vb false,Ce,Ce,Ce])] Z3 Z2 (Yi ?_ ?_))))
 ·exact Nz rfl
 refine Xi (.gen [] 5) (Yi rfl ((s29 x ifs roots hx h0).imp ?_));intro v g q;refine Ba q (fun L q=>?_);have q1:=q.2.1;have q2:=q.2.2;have qp:=q.1;subst q1;subst q2;refine cU [(4,.ref 4 0),(6,.ref 11900 0)] [(4,.cells [vb false,Ce,Ce,Ce]),(11900,.cells [sl AH roots,.cmap Du (mC x),.cmap Du (L.map (kA x)),.slice (.id 11901 6) [],.slice (.id 11902 1) [],.mref 11903,vb false,.slice .none [],.slice .none [],.msl 11904 0]),(11901,.tok 6 0),(11902,.tok 1 0),(11903,.map FY []),(11904,.arr 1 [])] Z2 Z6 (Xi (.gen [(11900,1000),(11901,1001),(11902,1002),(11903,1003),(11904,1004)] 1) (Yi rfl ((Vu hx hr h0 h1 qp ho).imp ?_)));intro v g q;have q1:=q.1;have q2:=q.2;subst q1;subst q2;refine cU [(4,.ref 4 0),(6,.ref 11900 0),(7,vi (k:Nat)),(8,vb false)] [(4,.cells [vb false,Ce,Ce,Ce]),(11900,.cells [sl AH roots,.cmap Du (mC x),.cmap Du (L.map (kA x)),.slice (.id 11901 6) (infs.map Dn),.slice (.id 11902 1) (drv.map Dg),.mref 11903,vb true,sl AU dec,sl Ac (AD dec),.msl 12200 st.length]),(11901,.tok 6 infs.length),(11902,.tok 1 drv.length),(11903,.map FY (F3 0 infs)),(12200,.arr 1 (st.map Bl))] Z4 Z6 (Yi (fun _=>?_) (fun h=>by cases h));refine cU [(4,.ref 4 0)] [(4,.cells [vb false,Ce,Ce,Ce])] Z1 Z1 (Yi ?_ ?_)
 ·exact Nz rfl
 refine Yi ?_ ?_
 ·exact Nz rfl
 exact GF.an0
theorem tc(hx:∀r∈x,Gv r)(hr:∀q∈roots,J8 q)(hv:Ck x roots=true)(h0:AN x=0)(h1:Bn roots=0)(k:Nat)(infs:List Nf)(drv:List (List Tm))(dec:List Cd)(st:List (List Sk))(ho:DU x roots=⟨k,false,⟨infs,drv,false⟩,dec,st⟩)(hk:k<infs.length)(hl:infs.length≤65536):PC 43 [EZ x ifs,sl AH roots] (.tup [.agg (Ug ⟨false,[],infs.take (k+1),[]⟩),vi 0]):=by
 have Uz:=yB x ifs roots hx hr;rw[hv]at Uz;refine Ps pt Tryz.func43 rfl (Nz rfl) (Yi ?_ ?_)
 ·exact Nz rfl
 refine Xi .pure (Xi _ (Yi Uz (cU [(1,sl AH roots),(2,.ref 2 0),(4,.ref 4 0)] [(2,.ro (Ic x ifs)),(4,.cells [vb false,Ce,Ce,Ce])] Z3 Z2 (Yi ?_ ?_))))
 ·exact Nz rfl
 refine Xi (.gen [] 5) (Yi rfl ((s29 x ifs roots hx h0).imp ?_));intro v g q;refine Ba q (fun L q=>?_);have q1:=q.2.1;have q2:=q.2.2;have qp:=q.1;subst q1;subst q2;refine cU [(4,.ref 4 0),(6,.ref 11900 0)] [(4,.cells [vb false,Ce,Ce,Ce]),(11900,.cells [sl AH roots,.cmap Du (mC x),.cmap Du (L.map (kA x)),.slice (.id 11901 6) [],.slice (.id 11902 1) [],.mref 11903,vb false,.slice .none [],.slice .none [],.msl 11904 0]),(11901,.tok 6 0),(11902,.tok 1 0),(11903,.map FY []),(11904,.arr 1 [])] Z2 Z6 (Xi (.gen [(11900,1000),(11901,1001),(11902,1002),(11903,1003),(11904,1004)] 1) (Yi rfl ((Vu hx hr h0 h1 qp ho).imp ?_)));intro v g q;have q1:=q.1;have q2:=q.2;subst q1;subst q2;refine cU [(4,.ref 4 0),(6,.ref 11900 0),(7,vi (k:Nat)),(8,vb false)] [(4,.cells [vb false,Ce,Ce,Ce]),(11900,.cells [sl AH roots,.cmap Du (mC x),.cmap Du (L.map (kA x)),.slice (.id 11901 6) (infs.map Dn),.slice (.id 11902 1) (drv.map Dg),.mref 11903,vb false,sl AU dec,sl Ac (AD dec),.msl 12200 st.length]),(11901,.tok 6 infs.length),(11902,.tok 1 drv.length),(11903,.map FY (F3 0 infs)),(12200,.arr 1 (st.map Bl))] Z4 Z6 (Yi (fun h=>by cases h) (fun _=>?_));refine cU [(4,.ref 4 0),(6,.ref 11900 0),(7,vi (k:Nat)),(8,vb false)] [(4,.cells [vb false,Ce,Ce,Ce]),(11900,.cells [sl AH roots,.cmap Du (mC x),.cmap Du (L.map (kA x)),.slice (.id 11901 6) (infs.map Dn),.slice (.id 11902 1) (drv.map Dg),.mref 11903,vb false,sl AU dec,sl Ac (AD dec),.msl 12200 st.length]),(11901,.tok 6 infs.length),(11902,.tok 1 drv.length),(11903,.map FY (F3 0 infs)),(12200,.arr 1 (st.map Bl))] Z4 Z6 (cU [(4,.ref 4 0),(6,.ref 11900 0),(7,vi (k:Nat))] [(4,.cells [vb false,Ce,Ce,Ce]),(11900,.cells [sl AH roots,.cmap Du (mC x),.cmap Du (L.map (kA x)),.slice (.id 11901 6) (infs.map Dn),.slice (.id 11902 1) (drv.map Dg),.mref 11903,vb false,sl AU dec,sl Ac (AD dec),.msl 12200 st.length]),(11901,.tok 6 infs.length),(11902,.tok 1 drv.length),(11903,.map FY (F3 0 infs)),(12200,.arr 1 (st.map Bl))] Z3 Z6 (Yi (Ii k ch) ?_));have el:(infs.map Dn).length=infs.length:=Lm ..;refine Yi ⟨BK _,by show(0:Int)≤(k:Int)+1;omega,by show(k:Int)+1≤((infs.map Dn).length:Int);rw[el];omega⟩ ?_;refine Yi (fun cs hcs=>by obtain⟨i,_,rfl⟩:=Am.1 hcs;rfl) (Yi ?_ ?_)
 ·exact Nz rfl
 refine Yi ?_ ?_
 ·exact Nz rfl
 have et:((infs.map Dn).take ((k:Int)+1).toNat).drop (0:Int).toNat=(infs.take (k+1)).map Dn:=by
  rw[show((k:Int)+1).toNat=k+1 by omega];simp
 exact GF.tup ⟨GF.agg ⟨.refl _,.nil,.of_eq (show AV.slice .none (((infs.map Dn).take ((k:Int)+1).toNat).drop (0:Int).toNat)=_ by rw[et]),.nil,trivial⟩,.refl _,trivial⟩
theorem WW(y:Sl):∀l:List Sl,(Wa y l).Perm (y::l)
 | []=>.refl _
 |z::l=>by
  unfold Wa;split
  ·exact .refl _
  ·exact((WW y l).cons z).trans (List.Perm.swap y z l)
theorem Pg:∀l:List Sl,(Ey l).Perm l
 | []=>.refl _
 |y::l=>(WW y _).trans ((Pg l).cons y)
theorem Zu{b:Nat}:∀{st:List (List Sk)},(∀s∈st,s.length≤b)→st.flatten.length≤b*st.length
 | [],_=>by simp
 |s::st,h=>by
  rw[Bm,Ad,Av,Nat.mul_succ]
  have:=h s (Aa ..)
  have:=Zu (st:=st) fun t ht=>h t (Ah _ ht)
  omega
theorem mw{st:List (List Sk)}(h:st.length≤256)(hs:∀s∈st,s.length≤256)(i:Nat):((st.take i).flatten).length≤65536:=by
 have h1:=Zu (b:=256) (st:=st.take i) fun s VH=>hs s (EQ VH)
 have:(st.take i).length≤256:=by rw[AB];omega
 omega
theorem pJ(hx:∀r∈x,Gv r)(hr:∀q∈roots,J8 q)(hv:Ck x roots=true)(h0:AN x=0)(h1:Bn roots=0)(k:Nat)(infs:List Nf)(drv:List (List Tm))(dec:List Cd)(st:List (List Sk))(ho:DU x roots=⟨k,true,⟨infs,drv,false⟩,dec,st⟩)(hd:dec.length≤256)(hn:((AD dec).map (·.path)).Nodup)(JU:st.length≤256)(hsk:∀s∈st,s.length≤256):PC 43 [EZ x ifs,sl AH roots] (.tup [.agg (Ug ⟨true,Ey (AD dec),infs,st.flatten⟩),vi 0]):=by
 have Uz:=yB x ifs roots hx hr;rw[hv]at Uz;refine Ps pt Tryz.func43 rfl (Nz rfl) (Yi ?_ ?_)
 ·exact Nz rfl
 refine Xi .pure (Xi _ (Yi Uz (cU [(1,sl AH roots),(2,.ref 2 0),(4,.ref 4 0)] [(2,.ro (Ic x ifs)),(4,.cells [vb false,Ce,Ce,Ce])] Z3 Z2 (Yi ?_ ?_))))
 ·exact Nz rfl
 refine Xi (.gen [] 5) (Yi rfl ((s29 x ifs roots hx h0).imp ?_));intro v g q;refine Ba q (fun L q=>?_);have q1:=q.2.1;have q2:=q.2.2;have qp:=q.1;subst q1;subst q2;refine cU [(4,.ref 4 0),(6,.ref 11900 0)] [(4,.cells [vb false,Ce,Ce,Ce]),(11900,.cells [sl AH roots,.cmap Du (mC x),.cmap Du (L.map (kA x)),.slice (.id 11901 6) [],.slice (.id 11902 1) [],.mref 11903,vb false,.slice .none [],.slice .none [],.msl 11904 0]),(11901,.tok 6 0),(11902,.tok 1 0),(11903,.map FY []),(11904,.arr 1 [])] Z2 Z6 (Xi (.gen [(11900,1000),(11901,1001),(11902,1002),(11903,1003),(11904,1004)] 1) (Yi rfl ((Vu hx hr h0 h1 qp ho).imp ?_)));intro v g q;have q1:=q.1;have q2:=q.2;subst q1;subst q2;refine cU [(4,.ref 4 0),(6,.ref 11900 0),(7,vi (k:Nat)),(8,vb true)] [(4,.cells [vb false,Ce,Ce,Ce]),(11900,.cells [sl AH roots,.cmap Du (mC x),.cmap Du (L.map (kA x)),.slice (.id 11901 6) (infs.map Dn),.slice (.id 11902 1) (drv.map Dg),.mref 11903,vb false,sl AU dec,sl Ac (AD dec),.msl 12200 st.length]),(11901,.tok 6 infs.length),(11902,.tok 1 drv.length),(11903,.map FY (F3 0 infs)),(12200,.arr 1 (st.map Bl))] Z4 Z6 (Yi (fun h=>by cases h) (fun _=>?_));refine cU [(4,.ref 4 0),(6,.ref 11900 0),(8,vb true)] [(4,.cells [vb false,Ce,Ce,Ce]),(11900,.cells [sl AH roots,.cmap Du (mC x),.cmap Du (L.map (kA x)),.slice (.id 11901 6) (infs.map Dn),.slice (.id 11902 1) (drv.map Dg),.mref 11903,vb false,sl AU dec,sl Ac (AD dec),.msl 12200 st.length]),(11901,.tok 6 infs.length),(11902,.tok 1 drv.length),(11903,.map FY (F3 0 infs)),(12200,.arr 1 (st.map Bl))] Z3 Z6 (cU [(4,.ref 4 0),(6,.ref 11900 0)] [(4,.cells [vb false,Ce,Ce,Ce]),(11900,.cells [sl AH roots,.cmap Du (mC x),.cmap Du (L.map (kA x)),.slice (.id 11901 6) (infs.map Dn),.slice (.id 11902 1) (drv.map Dg),.mref 11903,vb false,sl AU dec,sl Ac (AD dec),.msl 12200 st.length]),(11901,.tok 6 infs.length),(11902,.tok 1 drv.length),(11903,.map FY (F3 0 infs)),(12200,.arr 1 (st.map Bl))] Z2 Z6 ?_)
 have tZ:(AD dec).length≤256:=by rw[Lm];exact hd
 have dS:Cy (AD dec):=Bf tZ Cl;refine Xi (AD dec).length (Xi 4 (Xi ((AD dec).map Ac) (Yi rfl (Yi (Ace (AD dec) dS) (Yi ?_ ?_)))))
 ·exact Nz rfl
 refine Yi Wk (cU [(4,.ref 4 0),(6,.ref 11900 0),(9,.ref 9 0)] [(4,.cells [vb false,Ce,Ce,Ce]),(9,.cells [vb true,.msl 14400 (AD dec).length,.slice (.id 11901 6) (infs.map Dn),Ce]),(11900,.cells [sl AH roots,.cmap Du (mC x),.cmap Du (L.map (kA x)),.slice (.id 11901 6) (infs.map Dn),.slice (.id 11902 1) (drv.map Dg),.mref 11903,vb false,sl AU dec,sl Ac (AD dec),.msl 12200 st.length]),(11901,.tok 6 infs.length),(11902,.tok 1 drv.length),(11903,.map FY (F3 0 infs)),(12200,.arr 1 (st.map Bl)),(14400,.arr 4 ((AD dec).map Ac))] Z3 Z8 (Xi (.gen [(14400,1000)] 0) (Yi rfl ((s47 68 Tryz.closure68 (enters_of Tryz.func68 Wk rfl) (AD dec) dS hn).imp ?_))));intro v g q;have q1:=q.1;have q2:=q.2;subst q1;subst q2;refine cU [(4,.ref 4 0),(6,.ref 11900 0),(9,.ref 9 0)] [(4,.cells [vb false,Ce,Ce,Ce]),(9,.cells [vb true,.msl 14400 (AD dec).length,.slice (.id 11901 6) (infs.map Dn),.slice (.id 95 3) []]),(95,.tok 3 0),(11900,.cells [sl AH roots,.cmap Du (mC x),.cmap Du (L.map (kA x)),.slice (.id 11901 6) (infs.map Dn),.slice (.id 11902 1) (drv.map Dg),.mref 11903,vb false,sl AU dec,sl Ac (AD dec),.msl 12200 st.length]),(11901,.tok 6 infs.length),(11902,.tok 1 drv.length),(11903,.map FY (F3 0 infs)),(12200,.arr 1 (st.map Bl)),(14400,.arr 4 ((Ey (AD dec)).map Ac))] Z3 Z9 (Xi {i:Nat // i≤st.length} (Xi (fun i=>⟨[(4,.ref 4 0),(6,.ref 11900 0),(9,.ref 9 0),(56,.msl 12200 st.length),(57,vi (st.length:Nat)),(58,vi i.1)],[(4,.cells [vb false,Ce,Ce,Ce]),(9,.cells [vb true,.msl 14400 (AD dec).length,.slice (.id 11901 6) (infs.map Dn),.slice (.id 95 3) ((st.take i.1).flatten.map Cv)]),(95,.tok 3 ((st.take i.1).flatten.map Cv).length),(11900,.cells [sl AH roots,.cmap Du (mC x),.cmap Du (L.map (kA x)),.slice (.id 11901 6) (infs.map Dn),.slice (.id 11902 1) (drv.map Dg),.mref 11903,vb false,sl AU dec,sl Ac (AD dec),.msl 12200 st.length]),(11901,.tok 6 infs.length),(11902,.tok 1 drv.length),(11903,.map FY (F3 0 infs)),(12200,.arr 1 (st.map Bl)),(14400,.arr 4 ((Ey (AD dec)).map Ac))],Af⟩) (Xi (fun i=>st.length-i.1) (Yi (Xi ⟨0,AA _⟩ ?_) ?_))))
 ·exact⟨Z6,Z9,Fh,Tv⟩
 intro⟨i,i1⟩;have i1:i≤st.length:=i1;refine Yi ?_ ?_
 ·intro h;have h:(i:Int)<(st.length:Nat):=h;have h:i<st.length:=by omega
  have hg:st[i]?=some st[i]:=Ge h;have Lu:st.take (i+1)=st.take i++[st[i]]:=by rw[Be,hg];rfl
  refine Yi (Yi (Nn i) (by show(i:Int)<(st.length:Nat);omega)) (Yi (by rw[Lm]) (Xi (Bl st[i]) (Yi (by show(st.map Bl)[((i:Nat):Int).toNat]?=_;rw[A7,AL,hg];rfl) ?_)));refine cU [(4,.ref 4 0),(6,.ref 11900 0),(9,.ref 9 0),(11,sl Cv st[i]),(56,.msl 12200 st.length),(57,vi (st.length:Nat)),(58,vi i)] [(4,.cells [vb false,Ce,Ce,Ce]),(9,.cells [vb true,.msl 14400 (AD dec).length,.slice (.id 11901 6) (infs.map Dn),.slice (.id 95 3) ((st.take i).flatten.map Cv)]),(95,.tok 3 ((st.take i).flatten.map Cv).length),(11900,.cells [sl AH roots,.cmap Du (mC x),.cmap Du (L.map (kA x)),.slice (.id 11901 6) (infs.map Dn),.slice (.id 11902 1) (drv.map Dg),.mref 11903,vb false,sl AU dec,sl Ac (AD dec),.msl 12200 st.length]),(11901,.tok 6 infs.length),(11902,.tok 1 drv.length),(11903,.map FY (F3 0 infs)),(12200,.arr 1 (st.map Bl)),(14400,.arr 4 ((Ey (AD dec)).map Ac))] Z7 Z9 ?_
  have hfl:((st.take i).flatten).length≤65536∧st[i].length≤256:=⟨mw JU hsk i,hsk _ (Aj _)⟩;have GQ:Cf 3 (st[i].map Cv)∧((st.take i).flatten.map Cv).length=((st.take i).flatten.map Cv).length∧(((st.take i).flatten.map Cv).length+(st[i].map Cv).length)*32≤140737488355328∧((st.take i).flatten.map Cv).length+(st[i].map Cv).length≤9223372036854775807:=by
   refine⟨DW (enc:=Cv) (n:=3) (fun _=>rfl) _,rfl,?_,?_⟩<;>simp only[Lm]<;>omega
  refine Yi GQ (Yi ?_ ?_)
  ·exact Nz rfl
  have ef:((st.take i).flatten.map Cv)++st[i].map Cv=((st.take (i+1)).flatten.map Cv):=by rw[Lu,Cn,As];simp
  have en:((st.take i).flatten.map Cv).length+(st[i].map Cv).length=((st.take (i+1)).flatten.map Cv).length:=by rw[←ef,Ad]
  refine cU [(4,.ref 4 0),(6,.ref 11900 0),(9,.ref 9 0),(56,.msl 12200 st.length),(57,vi (st.length:Nat)),(58,vi i)] [(4,.cells [vb false,Ce,Ce,Ce]),(9,.cells [vb true,.msl 14400 (AD dec).length,.slice (.id 11901 6) (infs.map Dn),.slice (.id 95 3) ((st.take (i+1)).flatten.map Cv)]),(95,.tok 3 ((st.take (i+1)).flatten.map Cv).length),(11900,.cells [sl AH roots,.cmap Du (mC x),.cmap Du (L.map (kA x)),.slice (.id 11901 6) (infs.map Dn),.slice (.id 11902 1) (drv.map Dg),.mref 11903,vb false,sl AU dec,sl Ac (AD dec),.msl 12200 st.length]),(11901,.tok 6 infs.length),(11902,.tok 1 drv.length),(11903,.map FY (F3 0 infs)),(12200,.arr 1 (st.map Bl)),(14400,.arr 4 ((Ey (AD dec)).map Ac))] Z6 ⟨Zr,⟨Ab (fun z=>HO.cells [vb true,.msl 14400 (AD dec).length,.slice (.id 11901 6) (infs.map Dn),.slice (.id 95 3) z]) ef,rfl⟩,⟨Ab (HO.tok 3) en,rfl⟩,Zr,Zr,Zr,Zr,Zr,Zr,Tv⟩ (Yi (Ii i ch) (Xi ⟨i+1,by omega⟩ ?_));exact⟨Dl st.length i ch,Z6,Z9,Fh,Tv⟩
 ·intro h;have h:¬(i:Int)<(st.length:Nat):=h;have et:st.take i=st:=Au ch;have WR:(AD dec).length=((Ey (AD dec)).map Ac).length:=(Pg (AD dec)).length_eq.symm.trans (Lm ..).symm;refine Yi WR (cU [(4,.ref 4 0),(9,.ref 9 0)] [(4,.cells [vb false,Ce,Ce,Ce]),(9,.cells [vb true,.slice (.id 14400 4) ((Ey (AD dec)).map Ac),.slice (.id 11901 6) (infs.map Dn),.slice (.id 95 3) (st.flatten.map Cv)]),(95,.tok 3 (st.flatten.map Cv).length),(11901,.tok 6 infs.length),(14400,.tok 4 ((Ey (AD dec)).map Ac).length)] Z2 ⟨Zr,⟨Ab (fun z:List (List Sk)=>HO.cells [vb true,.slice (.id 14400 4) ((Ey (AD dec)).map Ac),.slice (.id 11901 6) (infs.map Dn),.slice (.id 95 3) (z.flatten.map Cv)]) et,rfl⟩,⟨Ab (fun z:List (List Sk)=>HO.tok 3 (z.flatten.map Cv).length) et,rfl⟩,Zr,Zr,Tv⟩ (Yi ?_ ?_))
  ·exact Nz rfl
  refine Yi ?_ ?_
  ·exact Nz rfl
  refine Yi ?_ ?_
  ·exact Nz rfl
  exact .refl _
theorem RS{s:SS}{b:List Cd}{p:ByteArray}{needs:List Nd}:∀{cs:List Cd} {sk:List Sk},Hv s b p needs cs sk→sk.length≤cs.length
 | [],sk,h=>by
  have h:sk=[]:=h;rw[h];exact Ao _
 |c::cs,sk,h=>by
  have h:if(needs.all fun n=>has n.rq.set c.place)=true then _ else _:=h
  by_cases hc:(needs.all fun n=>has n.rq.set c.place)=true
  ·rw[Al hc]at h;obtain⟨k,rest,rfl,_,h3⟩:=h
   have:=RS h3
   simp only[Av];omega
  ·rw[Ae hc]at h
   have:=RS h
   simp only[Av];omega
theorem WB{x:List Rl}{roots:List Rq}{s:SS}:∀{t:List Cd} {sl:List (List Sk)} {b:List Cd},TK x roots s b t sl→sl.length=t.length∧∀k∈sl,k.length≤x.length
 | [],[],_,_=>⟨rfl,fun _ h=>by cases h⟩
 | [],_::_,_,h=>h.elim
 |_::_,[],_,h=>h.elim
 |c::t,sk::sl,b,⟨⟨p,needs,pre,post,hs⟩,h⟩=>by
  obtain⟨h1,h2⟩:=WB h;refine⟨by simp[h1],fun k hk=>?_⟩;rcases AF.1 hk with rfl | hk
  ·have e1:=RS hs.skips;have e2:=Wy x p;rw[hs.cands,Ad]at e2;omega
  ·exact h2 k hk
theorem s21(hx:∀r∈x,Gv r)(hr:∀q∈roots,J8 q):PC 43 [EZ x ifs,sl AH roots] (my x roots):=by
 unfold my GL Gu;cases hv:Ck x roots with
 |false=>simpa using pI x ifs roots hx hr hv
 |true =>
  obtain⟨h0,h1⟩:=II hv;have hR:=I3 h0 h1;have VV:=(L6 h0).1;have hA:SY x roots=if(DU x roots).found=true then⟨true,Ey (AD (DU x roots).dec),(DU x roots).ss.infs,(DU x roots).stack.flatten⟩else⟨false,[],(DU x roots).ss.infs.take ((DU x roots).res+1),[]⟩:=rfl
  rw[hA];generalize ho:DU x roots=o at hR⊢;obtain⟨k,b,⟨infs,drv,full⟩,dec,st⟩:=o;have hl:infs.length≤65536:=hR.der.len;have hdl:drv.length=infs.length:=hR.der.dlen;cases b with
  |false =>
   cases full with
   |true=>simpa using mo x ifs roots hx hr hv h0 h1 k infs drv dec st ho
   |false =>
    have hk:k<drv.length:=((hR.no rfl).2.2 rfl).1;simpa using tc x ifs roots hx hr hv h0 h1 k infs drv dec st ho ch hl
  |true =>
   obtain⟨hf,t,sl,e1,e2,hC,_⟩:=hR.yes rfl;have hf:full=false:=hf;subst hf;have e1:dec=[]++t:=e1;have e2:st=[]++sl:=e2;rw[Fi]at e1 e2;subst e1;subst e2;have hD:Ef x ([]++dec):=(TK.ok (.nil x) (.nil roots) hC).1;rw[Fi]at hD;have hdx:=Ud hD;obtain⟨c1,c2⟩:=WB hC;have hn:((AD dec).map (·.path)).Nodup:=by rw[L7];exact hD.nodup
   simpa using pJ x ifs roots hx hr hv h0 h1 k infs drv dec st ho ch hn ch (fun s hs=>Bf (c2 s hs) VV)
def DT:Int:=if Gu x roots≠0 then Gu x roots else if(GL x roots).found=true then 0 else 17
def Fb:List Sl:=if DT x roots=0 then(GL x roots).sel else []
abbrev Abf:Q0:=(pC [2] [])
theorem tb(a:An)(e:Int)(h:PC 43 [EZ x ifs,sl AH roots] (.tup [.agg (Ug a),vi e])) :
  PC 17 [EZ x ifs,sl AH roots] (.tup [if e≠0 then sl Ac []else if a.found=true then sl Ac a.sel else sl Ac [],vi (if e≠0 then e else if a.found=true then 0 else 17)]):=by
 refine Ps Abf Tryz.func17 rfl (Nz rfl) (Yi ?_ ?_)
 ·exact Nz rfl
 refine Xi .pure (Xi _ (Yi h (Yi ?_ ?_)))
 ·exact Nz rfl
 refine Yi (fun he=>?_) (fun he=>?_)
 ·have he:¬e=0:=he;have e1:AV.tup [sl Ac [],vi e]=.tup [if e≠0 then sl Ac []else if a.found=true then sl Ac a.sel else sl Ac [],vi (if e≠0 then e else if a.found=true then 0 else 17)]:=by rw[Al he,Al he]
  exact(show GF (.tup [Ce,vi e]) (.tup [sl Ac ([]:List Sl),vi e])from GF.tup ⟨.nil,.refl _,trivial⟩).trans (.of_eq e1)
 ·have he:e=0:=BB.1 he;have DM:¬e≠0:=fun h=>h he;refine Yi (fun hb=>?_) (fun hb=>?_)
  ·have hb:a.found=true:=hb;have e1:AV.tup [sl Ac a.sel,vi 0]=.tup [if e≠0 then sl Ac []else if a.found=true then sl Ac a.sel else sl Ac [],vi (if e≠0 then e else if a.found=true then 0 else 17)]:=by rw[Ae DM,Ae DM,Al hb,Al hb]
   exact .of_eq e1
  ·have hb:a.found=false:=hb;have hb:¬a.found=true:=by rw[hb];decide
   have e1:AV.tup [sl Ac [],vi 17]=.tup [if e≠0 then sl Ac []else if a.found=true then sl Ac a.sel else sl Ac [],vi (if e≠0 then e else if a.found=true then 0 else 17)]:=by rw[Ae DM,Ae DM,Ae hb,Ae hb]
   exact(show GF (.tup [Ce,vi 17]) (.tup [sl Ac ([]:List Sl),vi 17])from GF.tup ⟨.nil,.refl _,trivial⟩).trans (.of_eq e1)
theorem xc(hx:∀r∈x,Gv r)(hr:∀q∈roots,J8 q):PC 17 [EZ x ifs,sl AH roots] (.tup [sl Ac (Fb x roots),vi (DT x roots)]):=by
 have h:=tb x ifs roots _ _ (s21 x ifs roots hx hr);have e1:(if Gu x roots≠0 then sl Ac []else if(GL x roots).found=true then sl Ac (GL x roots).sel else sl Ac [])=sl Ac (Fb x roots):=by
  unfold Fb DT
  by_cases h1:Gu x roots=0
  ·by_cases h2:(GL x roots).found=true
   ·simp[h1,h2]
   ·simp[h1,h2]
  ·simp[h1]
 have e2:(if Gu x roots≠0 then Gu x roots else if(GL x roots).found=true then 0 else 17)=DT x roots:=rfl;rw[e1,e2]at h;exact h
instance:DecidableEq Mv:=fun x y=>decidable_of_iff (x.path=y.path∧x.a=y.a∧x.b=y.b) ⟨fun⟨h1,h2,h3⟩=>by cases x;cases y;simp_all,fun h=>by subst h;exact⟨rfl,rfl,rfl⟩⟩
theorem qD(h:a.path=b.path∧a.a=b.a∧a.b=b.b∧True):a=b:=by cases a;cases b;simp_all
theorem qE(h:¬(a.path=b.path∧a.a=b.a∧a.b=b.b∧True)):a≠b:=fun e=>h (by subst e;exact⟨rfl,rfl,rfl,trivial⟩)
theorem o35(a b:List Mv)(ha:Cy a):PC 30 [sl B1 a,sl B1 b] (vb (decide (a=b))):=by
 have xY:a.length≤1073741824:=ha;refine Ps D3 Tryz.func30 rfl (Nz rfl) (Yi (fun h1=>?_) (fun h1=>?_))
 ·have h1:((a.map B1).length:Int)≠((b.map B1).length:Int):=h1;exact .of_eq (show vb false=vb (decide (a=b)) by rw[Ap (fun e=>absurd (Ab (fun z=>((z.map B1).length:Int)) e) h1)])
 have h1:((a.map B1).length:Int)=((b.map B1).length:Int):=AC h1;have hl:a.length=b.length:=by have q:=h1;rw[Lm,Lm]at q;omega
 refine Xi {q:Nat // q≤a.length∧∀j (hj:j<a.length),j<q→a[j]=b[j]'(hl▸hj)} (Xi (fun q=>⟨[(0,sl B1 a),(1,sl B1 b),(12,vi (a.map B1).length),(13,vi q.1)],[],Af⟩) (Xi (fun q=>a.length-q.1) (Yi (Xi ⟨0,AA _,fun _ _ h=>absurd h (F2 _)⟩ ?_) ?_)))
 ·exact⟨Z4,Tv,Fh,Tv⟩
 intro⟨i,i1,i2⟩;have i1:i≤a.length:=i1;have i2:∀j (hj:j<a.length),j<i→a[j]=b[j]'(hl▸hj):=i2;refine Yi (fun h3=>?_) (fun h3=>?_)
 ·have h3:(i:Int)<((a.map B1).length:Int):=h3;have n3:=GI h3;have qq:i<b.length:=by have q:=h3;rw[Lm]at q;omega
  refine Xi (B1 a[i]) (Yi (Hb n3) (Yi rfl (yN (Xi (B1 b[i]) (Yi (Hb qq) (Yi rfl (yN (Yi (fun h4=>?_) (fun h4=>?_)))))))))
  ·have h4:(a[i].path:ByteArray)=b[i].path∧(a[i].a:Int)=b[i].a∧(a[i].b:Int)=b[i].b∧True:=h4;refine Yi Wk (Yi (Ii i ch) ?_);refine Xi ⟨i+1,n3,fun j hj Iq=>if e:j<i then i2 j hj e else by
     have e:j=i:=by omega
     subst e;exact qD h4⟩ ?_
   exact⟨Dl a.length i ch,Z4,Tv,Fh,Tv⟩
  have h4:¬((a[i].path:ByteArray)=b[i].path∧(a[i].a:Int)=b[i].a∧(a[i].b:Int)=b[i].b∧True):=h4;refine Yi Wk ?_;exact .of_eq (show vb false=vb (decide (a=b)) by rw[Ap (jv (i:=i) (ha:=n3) (hb:=qq) (qE h4))])
 have h3:¬((i:Int)<((a.map B1).length:Int)):=h3;have n3:=GH h3;exact .of_eq (show vb true=vb (decide (a=b)) by rw[Aq (Yr hl fun j hj=>i2 j hj (by have q:=h3;rw[Lm]at q;omega))])
abbrev pb:ByteArray:=⟨#[98,47,118,49]⟩
end Go.Eng
namespace Go.Eng
variable {x:List Rl}{p:Sl→Bool}{i j:Nat}(s:Sl)(y:Bool)
/-! The empty workspace, and a workspace twice. -/
theorem Y9{l:List Rl}(h:AN l=0):l.length≤256:=by
 unfold AN at h;split at h
 ·cases h
 ·omega
theorem PG:∀{l:List Rl} {b:Option Rl},Cp b l=0→∀r∈l,CW r=0
 | [],_,_,r,hr=>by cases hr
 |x::l,b,h,r,hr=>by
  unfold Cp at h;split at h
  ·rename_i h1;exact absurd h h1
  ·rename_i h1;have h1:CW x=0:=BB.1 h1;have go:Cp (some x) l=0:=by
    cases b with
    |none=>exact h
    |some b =>
     dsimp only at h;split at h
     ·cases h
     ·split at h
      ·cases h
      ·exact h
   rcases AF.1 hr with rfl | hr
   ·exact h1
   ·exact PG go r hr
theorem PF:∀{l:List Rl} {b:Option Rl},(∀r∈l,CW r=0)→l.Pairwise bu→(∀c,b=some c→∀r∈l,bu c r)→Cp b l=0
 | [],_,_,_,_=>rfl
 |x::l,b,h,hp,hb=>by
  obtain⟨p1,p2⟩:=Bz.1 hp;have ih:Cp (some x) l=0:=PF (fun r hr=>h r (Ah _ hr)) p2 (fun c e r hr=>by cases e;exact p1 r hr);unfold Cp;rw[Ae (fun q=>q (h x (Aa ..)))];cases b with
  |none=>exact ih
  |some c =>
   have hl:=hb c rfl x (Aa ..);dsimp only;rw[Ae (fun q=>HE hl q),Ae (fun q=>by
    have:fR (D2 c) (D2 x)<0:=PI.2 hl
    have q:0<fR (D2 c) (D2 x):=q;omega)]
   exact ih
theorem Y8{l:List Rl}:AN l=0↔l.length≤256∧(∀r∈l,CW r=0)∧l.Pairwise bu:=by
 constructor
 ·intro h;refine⟨Y9 h,?_,(Ct h).2⟩;unfold AN at h;split at h
  ·cases h
  ·exact PG h
 ·rintro⟨h1,h2,h3⟩
  unfold AN;rw[Ae ch];exact PF h2 h3 (fun c e=>by cases e)
/-! What is merged. -/
/-! What a workspace makes of an index. -/
/-! What the solver selects. -/
theorem QI{roots:List Rq}(h:DT x roots=0):(∀z∈Fb x roots,∃r∈x,D2 r=z)∧(Fb x roots).length≤x.length∧AN x=0:=by
 have h0:=h;unfold DT at h0;split at h0
 ·rename_i hs;exact absurd h0 hs
 ·rename_i hs;have hs:Gu x roots=0:=BB.1 hs;split at h0
  ·rename_i hf;have hv:Ck x roots=true:=by
    cases e:Ck x roots with
    |true=>rfl
    |false=>unfold Gu at hs;rw[e]at hs;cases hs
   have ZK:(DU x roots).ss.full=false:=by
    cases e:(DU x roots).ss.full with
    |false=>rfl
    |true=>unfold Gu at hs;rw[hv,e]at hs;cases hs
   obtain⟨hx,hr⟩:=II hv;have hA:GL x roots=SY x roots:=by unfold GL;rw[Al ⟨hv,ZK⟩]
   rw[hA]at hf;have LN:(DU x roots).found=true:=by
    cases e:(DU x roots).found with
    |true=>rfl
    |false=>unfold SY at hf;rw[e]at hf;cases hf
   have AaU:Fb x roots=Ey (AD (DU x roots).dec):=by
    unfold Fb;rw[Al h,hA];unfold SY;rw[Al LN]
   obtain⟨_,t,sl,y2,y3,y4,y5⟩:=(I3 hx hr).yes LN;have ZN:(DU x roots).dec∈CG x roots (x.length+1) []:=Li y5;have lf:=HW (Ef.nil x) (IM.nil roots) _ ZN;rw[AaU];refine⟨fun z hz=>?_,?_,hx⟩
   ·rw[He]at hz;obtain⟨c,hc,rfl⟩:=Am.1 hz;exact⟨c.rel,(lf.ok.cand c hc).1,rfl⟩
   ·rw[(Pg _).length_eq,Lm]
    have:=RG (l:=(DU x roots).dec.map fun c=>c.rel) (m:=x) (cM (f:=fun r:Rl=>r.path) (by rw[BE];exact lf.ok.nodup)) (fun r hr=>by
     obtain⟨c,hc,rfl⟩:=Am.1 hr;exact(lf.ok.cand c hc).1)
    rwa [Lm]at this
  ·cases h0
section
variable {x:List Rl}{roots:List Rq}
def Pp(x:List Rl)(roots:List Rq):Prop:=∃s,qb x roots s
theorem YF(hv:Ck x roots=true)(hx:x.length≤16):Gu x roots=0:=by
 unfold Gu;rw[Al hv,I2 hx];rfl
theorem Mh(hv:Ck x roots=true)(hx:x.length≤16):GL x roots=SY x roots:=by
 unfold GL;rw[Al ⟨hv,I2 hx⟩]
theorem OL(hv:Ck x roots=true)(hx:x.length≤16):(GL x roots).found=true↔Pp x roots:=by
 obtain⟨h0,h1⟩:=II hv;have hR:=I3 h0 h1;have hf:=I2 (roots:=roots) hx;rw[Mh hv hx];unfold SY;generalize DU x roots=o at *
 constructor
 ·intro h
  by_cases LN:o.found=true
  ·obtain⟨_,t,sl,y2,y3,y4,y5⟩:=hR.yes LN;have hm:o.dec∈CG x roots (x.length+1) []:=Li y5;exact⟨_,(HW (.nil x) (.nil roots) _ hm).sol h0⟩
  ·rw[Ae LN]at h;cases h
 ·rintro⟨s,hs⟩
  by_cases LN:o.found=true
  ·rw[Al LN]
  ·have LN:o.found=false:=by simpa using LN
   obtain⟨n4,n5⟩:=(hR.no LN).2.2 hf;have kO:D7 o.ss o.res=[]:=by
    cases h:D7 o.ss o.res with
    |nil=>rfl
    |cons u l =>
     rw[h]at n5
     have:=(KH.1 n5).2 u (Aa ..)
     cases this
   have ZN:D7 o.ss o.res∈o.ss.drv:=Ay (EY n4)
   have:=Ih hs (fun _ h=>by cases h) hR.der.der _ ZN
   rw[kO]at this;cases this
theorem aY(hv:Ck x roots=true)(hx:x.length≤16):(DT x roots=0↔Pp x roots)∧(DT x roots=17↔¬Pp x roots):=by
 unfold DT;rw[YF hv hx,Ae (fun h=>h rfl),←OL hv hx]
 by_cases h:(GL x roots).found=true
 ·rw[Al h];simp[h]
 ·rw[Ae h];simp[h]
theorem Ok(hv:Ck x roots=true)(hx:x.length≤16):CG x roots (x.length+1) []≠[]↔Pp x roots:=by
 obtain⟨h0,h1⟩:=II hv;constructor
 ·intro h;cases hl:CG x roots (x.length+1) []with
  |nil=>exact absurd hl h
  |cons d L =>
   have hm:d∈CG x roots (x.length+1) []:=by rw[hl];exact Aa ..
   exact⟨_,(HW (.nil x) (.nil roots) _ hm).sol h0⟩
 ·intro h e;have hf:=(OL hv hx).2 h;have hR:=I3 h0 h1;rw[Mh hv hx]at hf;unfold SY at hf
  by_cases LN:(DU x roots).found=true
  ·obtain⟨_,t,sl,y2,y3,y4,y5⟩:=hR.yes LN;have hm:=Li y5;rw[e]at hm;cases hm
  ·rw[Ae LN]at hf;cases hf
theorem Xn(hv:Ck x roots=true)(hx:x.length≤16){d:List Cd}{l:List (List Cd)}(h:CG x roots (x.length+1) []=d::l):DT x roots=0∧Fb x roots=Ey (AD d):=by
 obtain⟨h0,h1⟩:=II hv;have hF:Pp x roots:=(Ok hv hx).1 (by rw[h];exact MB _ _);have hE:=(aY hv hx).1.2 hF;refine⟨hE,?_⟩;have hf:=(OL hv hx).2 hF;have hR:=I3 h0 h1;unfold Fb;rw[hE,Al rfl,Mh hv hx];rw[Mh hv hx]at hf;unfold SY at hf⊢
 by_cases LN:(DU x roots).found=true
 ·rw[Al LN];obtain⟨_,t,sl,y2,y3,y4,y5⟩:=hR.yes LN;rw[h]at y5;have y5:some d=some (DU x roots).dec:=y5;cases y5;rfl
 ·rw[Ae LN]at hf;cases hf
theorem bc(h:Ck x roots=false):DT x roots≠0∧Fb x roots=[]:=by
 have h2:Gu x roots=1:=by unfold Gu;rw[h];rfl
 have h3:DT x roots=1:=by unfold DT;rw[h2];rfl
 exact⟨by rw[h3];decide,by unfold Fb;rw[h3];rfl⟩
end
/-! Releases whose names satisfy p get Yanked. -/
def yk(p:Sl→Bool)(x:List Rl):List Rl:=x.map fun r=>if p (D2 r)=true then { r with yanked:=y }else r
section
variable {x:List Rl}{roots:List Rq}{y:Bool}{p:Sl→Bool}
theorem K9:(yk y p x).length=x.length:=Lm ..
end
section
variable {x:List Rl}{roots:List Rq}{p:Sl→Bool}
theorem Vp(hv:Ck x roots=true)(hx:x.length≤16):DT x roots=17↔CG x roots (x.length+1) []=[]:=by
 rw[(aY hv hx).2,←Ok hv hx];exact BB
end
abbrev Kv:Sl→Bool:=fun z=>decide (z=s)
abbrev JY(l:List Sl):Sl→Bool:=fun z=>decide (z∈l)
def F5(x:List Rl)(s:Sl)(y:Bool):Int:=if AN x≠0 then 1 else match CY x s with
 |none=>6
 |some r=>if r.yanked=y then 8 else 0
def Fy(x:List Rl)(s:Sl)(y:Bool):List Rl:=if F5 x s y=0 then yk y (Kv s) x else []
def Fl(x:List Rl)(l:List Sl):Int:=if AN x≠0∨DG l=false then 1 else 0
def Is(x:List Rl)(l:List Sl):List Rl:=if Fl x l=0 then yk false (JY l) x else []
section
variable {x:List Rl}{s:Sl}{y:Bool}
theorem pk(hx:AN x=0){a b:Rl}(ha:a∈x)(hb:b∈x)(h:D2 a=D2 b):a=b:=by
 have h1:=G9 hx ha;have h2:=G9 hx hb;rw[show Fa a=Fa b from h]at h1;exact Cr (h1.symm.trans h2)
theorem Zp(hx:AN x=0)(h:CY x s=none):∀r∈x,D2 r≠s:=fun r hr e=>by
 have:=G9 hx hr
 rw[show Fa r=s from e,h]at this;cases this
theorem pN(h:F5 x s y=0):Fy x s y=yk y (Kv s) x:=by unfold Fy;rw[Al h]
theorem mu(h:F5 x s y≠0):Fy x s y=[]:=by unfold Fy;rw[Ae h]
end
/-! Law Keeps: which releases of the selection get yanked, one after the other. -/
section
variable {α:Type}(c:α→α→Int)
def Kr:Nat→List α→List α
 |0,l=>l
 |j+1,l=>match l[j+1]?,l[j]? with
  |some a,some b=>if c a b<0 then Kr j ((l.set (j+1) b).set j a)else l
  |_,_=>l
def E9(i:Nat)(l:List α):List α:=(List.range i).foldl (fun m i=>Kr c i m) l
theorem Xp:∀(j:Nat) (l:List α),(Kr c j l).length=l.length
 |0,_=>rfl
 |j+1,l=>by
  unfold Kr;split
  ·split
   ·rw[Xp j];simp
   ·rfl
  ·rfl
theorem NG(i:Nat)(l:List α):E9 c (i+1) l=Kr c i (E9 c i l):=by
 unfold E9;rw[List.range_succ,FV];rfl
theorem lh(l:List α):E9 c 1 l=l:=rfl
theorem M7:∀(i:Nat) (l:List α),(E9 c i l).length=l.length
 |0,_=>rfl
 |i+1,l=>by rw[NG,Xp,M7 i]
theorem Xq:∀(j:Nat) (l:List α),∀x∈Kr c j l,x∈l
 |0,_,_,h=>h
 |j+1,l,x,h=>by
  unfold Kr at h;split at h
  ·rename_i a b ha hb;split at h
   ·have h:=Xq j _ x h;rcases Fq h with h | rfl
    ·rcases Fq h with h | rfl
     ·exact h
     ·exact Ay hb
    ·exact Ay ha
   ·exact h
  ·exact h
theorem UI:∀(i:Nat) (l:List α),∀x∈E9 c i l,x∈l
 |0,_,_,h=>h
 |i+1,l,x,h=>by rw[NG]at h;exact UI i l x (Xq c i _ x h)
theorem dg{l:List α}{a b:α}(h0:0<j)(ha:l[j]?=some a)(hb:l[j-1]?=some b)(hc:c a b<0):Kr c j l=Kr c (j-1) ((l.set j b).set (j-1) a):=by
 obtain⟨k,rfl⟩:∃k,j=k+1:=⟨j-1,by omega⟩;have e:k+1-1=k:=rfl;simp only[e]at hb⊢;rw[Kr,ha,hb];exact Al hc
theorem Vs{l:List α}{a b:α}(h0:0<j)(ha:l[j]?=some a)(hb:l[j-1]?=some b)(hc:¬c a b<0):Kr c j l=l:=by
 obtain⟨k,rfl⟩:∃k,j=k+1:=⟨j-1,by omega⟩;have e:k+1-1=k:=rfl;simp only[e]at hb;rw[Kr,ha,hb];exact Ae hc
theorem WV{l:List α}(h:l.Pairwise fun a b=>¬c b a<0):∀i,i≤l.length→E9 c i l=l
 |0,_=>rfl
 |i+1,hi=>by
  rw[NG,WV h i ch]
  by_cases h0:i=0
  ·subst h0;rfl
  ·exact Vs c ch (Ge hi) (Ge (show i-1<l.length by omega)) ((AS.1 h) (i-1) i ch hi ch)
end
theorem HU(h:AN x=0):E9 Dv x.length x=x:=by
 refine WV Dv ?_ _ (Ao _);refine(Ct h).2.imp fun {a b} m5 hc=>?_;have h1:fR (D2 a) (D2 b)<0:=PI.2 m5;have h2:fR (D2 b) (D2 a)<0:=hc;have h1:=PI.1 h1;have h2:=PI.1 h2;exact HE (W5 h1 h2) rfl
def fs(l:List Rl):Bool×Bool:=l.foldl (fun a r=>if D2 r=s then(true,decide (r.yanked=y))else a) (false,false)
theorem Tp{s:Sl}{y:Bool}(h:i<x.length):fs s y (x.take (i+1))=if D2 x[i]=s then(true,decide (x[i].yanked=y))else fs s y (x.take i):=by
 unfold fs;rw[Be,Ge h,FV]
 rfl
theorem kg{s:Sl}{y:Bool}:∀{l:List Rl} {a:Bool×Bool},(∀r∈l,D2 r≠s)→l.foldl (fun a r=>if D2 r=s then(true,decide (r.yanked=y))else a) a=a
 | [],_,_=>rfl
 |r::l,a,h=>by
  rw[EE,Ae (h r (Aa ..))];exact kg fun q hq=>h q (Ah _ hq)
theorem kh{s:Sl}{y:Bool}{r:Rl}(hr:D2 r=s):∀{l:List Rl} {a:Bool×Bool},r∈l→(∀q∈l,D2 q=s→q=r)→l.foldl (fun a r=>if D2 r=s then(true,decide (r.yanked=y))else a) a=(true,decide (r.yanked=y))
 | [],_,h,_=>by cases h
 |q::l,a,h,hu=>by
  rw[EE]
  by_cases hm:r∈l
  ·exact kh hr hm fun p hp=>hu p (Ah _ hp)
  ·have e:r=q:=(AF.1 h).resolve_right hm;subst e;rw[Al hr];exact kg fun p hp e=>hm (by rw[←hu p (Ah _ hp) e];exact hp)
theorem uV(hx:AN x=0)(s:Sl)(y:Bool):fs s y x=match CY x s with | none=>(false,false) | some r=>(true,decide (r.yanked=y)):=by
 cases e:CY x s with
 |none=>exact kg (Zp hx e)
 |some r =>
  obtain⟨_,h1,h2⟩:=HQ e;exact kh h2 h1 fun q hq hk=>pk hx hq h1 (hk.trans (show s=D2 r from h2.symm))
theorem Rp(hx:AN x=0)(s:Sl)(y:Bool):F5 x s y=if(fs s y x).1=false then 6 else if(fs s y x).2=true then 8 else 0:=by
 rw[uV hx];unfold F5;rw[Ae (fun h=>h hx)];cases e:CY x s with
 |none=>rfl
 |some r =>
  dsimp only
  by_cases h:r.yanked=y
  ·simp[h]
  ·simp[h]
def EL(x:List Rl)(z:Sl):Bool:=match CY x z with | some r=>r.yanked | none=>false
def VD(x:List Rl)(l:List Sl):List Sl:=if Fl x l=0 then l.filter (EL x)else []
theorem tA(x:List Rl)(s:Sl):yk y (JY [s]) x=yk y (Kv s) x:=by
 have:JY [s]=Kv s:=funext fun z=>by simp[JY,Kv]
 rw[this]
theorem WY(x:List Rl)(l:List Sl):Fl x l=0∨Fl x l=1:=by unfold Fl;split<;>simp
theorem Qk{l:List Sl}(h:Fl x l=0):AN x=0∧DG l=true:=by
 unfold Fl at h;split at h
 ·cases h
 ·rename_i q;exact⟨AC fun e=>q (.inl e),by cases e:DG l with
   |true=>rfl
   |false=>exact absurd (.inr e) q⟩
theorem tx{y:Bool}{P:Rl→Prop}(h:∀r∈x,P r∧P { r with yanked:=y }):∀r∈yk y p x,P r:=fun r hr=>by
 obtain⟨q,hq,rfl⟩:=Am.1 hr;split
 ·exact(h q hq).2
 ·exact(h q hq).1
theorem fp{y:Bool}(h:∀r∈x,Gv r):∀r∈yk y p x,Gv r:=tx fun r hr=>⟨h r hr,h r hr⟩
theorem YN{y:Bool}(h:i<x.length):(yk y p (x.take i)++x.drop i).set i (if p (D2 x[i])=true then { x[i]with yanked:=y }else x[i])=yk y p (x.take (i+1))++x.drop (i+1):=by
 rw[AP h,Mk _ _ (by rw[K9,AB];omega),K9,AB,show i-min i x.length=0 by omega,List.set_cons_zero];unfold yk;rw[Be,Ge h,As,Bx]
 rfl
theorem mW{y:Bool}(h:i<x.length):(yk y p (x.take i)++x.drop i)[i]?=some x[i]:=by
 rw[AR (by rw[K9,AB];omega),K9,AB,show i-min i x.length=0 by omega,AP h]
 rfl
end Go.Eng
namespace Go.Eng
open Go.Proofs
variable (l x:List Rl)
theorem lg{α:Type}(c:α→α→Int){l:List α}{i:Nat}(h1:1≤i)(h2:i≤l.length∨i=1)(h3:l.length≤i):E9 c i l=E9 c l.length l:=by
 by_cases e:i=l.length
 ·rw[e]
 ·have e1:i=1:=by omega
  have e2:l.length=0:=by omega
  rw[e1,e2];rfl
theorem Ack(hl:Cy l):A1 Tryz.prog 192 [.msl 1000 l.length,vi 0,vi (l.length:Nat),.v (.func (.func 60) #[] #[])] (Ak [(1000,.arr 9 (l.map At))] Af) fun r h'=>r=.tup []∧h'=Ak [(1000,.arr 9 ((E9 Dv l.length l).map At))] Af:=by
 have hl:l.length≤1073741824:=hl;refine BW (KV D3) [(1000,1000)] rfl Co hm rfl Tryz.func192 Wk rfl (Nz rfl) Wk rfl (Yi (Ii 0 ch) (Xi {q:Nat // 1≤q∧(q≤l.length∨q=1)} (Xi (fun q=>⟨[(0,.msl 1000 l.length),(1,vi 0),(2,vi (l.length:Nat)),(3,.v (.func (.func 60) #[] #[])),(8,vi q.1)],[(1000,.arr 9 ((E9 Dv q.1 l).map At))],Af⟩) (Xi (fun q=>l.length+1-q.1) (Yi (Xi ⟨1,Ao _,.inr rfl⟩ ?_) ?_)))))
 ·exact⟨Z5,⟨⟨(show HO.arr 9 (l.map At)=.arr 9 ((E9 Dv 1 l).map At) by rw[lh]),rfl⟩,Tv⟩,Fh,Bo Wk⟩
 intro⟨i,i1,i2⟩;have i1:1≤i:=i1;have i2:i≤l.length∨i=1:=i2;refine Yi (fun h1=>?_) (fun h1=>?_)
 ·have h1:(i:Int)<((l.length:Nat):Int):=h1;have ni:i<l.length:=by omega
  refine Xi {q:Nat×List Rl // q.1≤i∧q.2.length=l.length∧Kr Dv q.1 q.2=E9 Dv (i+1) l} (Xi (fun q=>⟨[(0,.msl 1000 l.length),(1,vi 0),(2,vi (l.length:Nat)),(3,.v (.func (.func 60) #[] #[])),(8,vi i),(9,vi q.1.1)],[(1000,.arr 9 (q.1.2.map At))],Af⟩) (Xi (fun q=>q.1.1) (Yi (Xi ⟨(i,E9 Dv i l),Ao _,M7 _ _ _,(NG Dv i l).symm⟩ ?_) ?_)))
  ·exact⟨Z6,Z1,Fh,Bo Wk⟩
  intro⟨⟨j,N⟩,j1,j2,j3⟩;have j1:j≤i:=j1;have j2:N.length=l.length:=j2;have j3:Kr Dv j N=E9 Dv (i+1) l:=j3;refine Yi (fun h2=>?_) (fun h2=>?_)
  ·have h2:(0:Int)<(j:Int):=h2;have nj:j<N.length:=by omega
   have j0:0<j:=by omega
   have ej:((j-1:Int).toNat)=j-1:=by omega
   refine Ba (show ∃a,N[j]?=some a from⟨_,Ge nj⟩) (fun a ga=>?_);refine Ba (show ∃b,N[j-1]?=some b from⟨_,Ge ch⟩) (fun b gb=>?_);have gc:N[(j-1:Int).toNat]?=some b:=by rw[ej];exact gb
   refine Yi (by show(0:Int)≤j∧(j:Int)<(l.length:Nat);omega) (Yi (show l.length=(N.map At).length by simp[j2]) (Xi (At a) (Yi (CR ga) (yN (Yi (by show Bc ((j:Int)-(1:Int));unfold Bc;omega) (Yi (by show(0:Int)≤j-1∧(j-1:Int)<(l.length:Nat);omega) (Yi (show l.length=(N.map At).length by simp[j2]) (Xi (At b) (Yi (CR gc) (yN (Xi _ (Yi (uv a b) (Yi (fun h3=>?_) (fun h3=>?_))))))))))))))
   ·have h3:((Dv a b):Int)<(0:Int):=h3;refine Yi Wk (Yi (by show Bc ((j:Int)-(1:Int));unfold Bc;omega) (Yi (by show Bc ((j:Int)-(1:Int));unfold Bc;omega) (Yi (by show(0:Int)≤j-1∧(j-1:Int)<(l.length:Nat);omega) (Yi (show l.length=(N.map At).length by simp[j2]) (Xi (At b) (Yi (CR gc) (yN (Yi (by show(0:Int)≤j∧(j:Int)<(l.length:Nat);omega) (Yi (show l.length=(N.map At).length by simp[j2]) (Xi (At a) (Yi (CR ga) (yN (Yi (by show(0:Int)≤j∧(j:Int)<(l.length:Nat);omega) (Yi (show l.length=(N.map At).length by simp[j2]) (Xi (At a) (Yi (CR ga) (yN (Yi (by show(0:Int)≤j-1∧(j-1:Int)<(l.length:Nat);omega) (Yi (show l.length=(((N.map At).set j (At b)):List (List AV)).length by simp[j2]) (Xi (At b) (Yi ((List.getElem?_set_ne ch).trans (CR gc)) (yN ?_))))))))))))))))))))));refine Yi Wk (Yi (by show Bc ((j:Int)-(1:Int));unfold Bc;omega) (Xi ⟨(j-1,(N.set j b).set (j-1) a),by omega,by rw[CJ,CJ];exact j2,by rw[←j3,dg Dv j0 ga gb h3]⟩ ?_));exact⟨by show(j-1:Nat)<j;omega,⟨Zr,Zr,Zr,Zr,Zr,⟨(Ab vi (show(j:Int)-1=((j-1:Nat):Int) by omega)),rfl⟩,Tv⟩,⟨⟨(show HO.arr 9 (((N.map At).set j (At b)).set ((j-1:Int).toNat) (At a))=.arr 9 (((N.set j b).set (j-1) a).map At) by rw[ej,E5,E5]),rfl⟩,Tv⟩,Fh,Bo Wk⟩
   have h3:¬(((Dv a b):Int)<(0:Int)):=h3;refine Yi Wk (Yi (Ii i ch) ?_);have eN:N=E9 Dv (i+1) l:=by rw[←j3];exact(Vs Dv j0 ga gb h3).symm
   refine Xi ⟨i+1,by omega,.inl ni⟩ ?_;exact⟨by show l.length+1-(i+1)<l.length+1-i;omega,Z5,⟨⟨(show HO.arr 9 (N.map At)=.arr 9 ((E9 Dv (i+1) l).map At) by rw[eN]),rfl⟩,Tv⟩,Fh,Bo Wk⟩
  have h2:¬((0:Int)<(j:Int)):=h2;refine Yi Wk (Yi (Ii i ch) ?_);have eN:N=E9 Dv (i+1) l:=by rw[←j3];exact(show Kr Dv j N=N by rw[show j=0 by omega];rfl).symm
  refine Xi ⟨i+1,by omega,.inl ni⟩ ?_;exact⟨by show l.length+1-(i+1)<l.length+1-i;omega,Z5,⟨⟨(show HO.arr 9 (N.map At)=.arr 9 ((E9 Dv (i+1) l).map At) by rw[eN]),rfl⟩,Tv⟩,Fh,Bo Wk⟩
 have h1:¬((i:Int)<((l.length:Nat):Int)):=h1;exact Xi _ (Yi (.refl _) ⟨rfl,show Ak [(1000,HO.arr 9 ((E9 Dv i l).map At))] Af=Ak [(1000,.arr 9 ((E9 Dv l.length l).map At))] Af from Ab (fun z=>Ak [(1000,HO.arr 9 (z.map At))] Af) (lg Dv i1 i2 ch)⟩)
theorem Acj(hl:l.length≤16):A1 Tryz.prog 143 [.msl 1000 l.length,vi (l.length:Nat),.v (.func (.func 60) #[] #[])] (Ak [(1000,.arr 9 (l.map At))] Af) fun r h'=>r=.tup []∧h'=Ak [(1000,.arr 9 ((E9 Dv l.length l).map At))] Af:=by
 refine BW (KV D3) [(1000,1000)] rfl Co hm rfl Tryz.func143 Wk rfl (Nz rfl) Wk rfl (Xi {q:Nat // q=0} (Xi (fun q=>⟨[(0,.msl 1000 l.length),(1,vi (l.length:Nat)),(2,.v (.func (.func 60) #[] #[])),(6,vi 20),(7,vi 0),(8,vi 20)],[(1000,.arr 9 (l.map At))],Af⟩) (Xi (fun q=>q.1) (Yi (Xi ⟨0,rfl⟩ ?_) ?_))))
 ·exact⟨Z6,Z1,Fh,Bo Wk⟩
 intro⟨i,i1⟩;refine Yi (fun h1=>?_) (fun h1=>?_)
 ·have h1:(20:Int)≤((l.length:Nat):Int):=h1;exact absurd h1 ch
 have h1:¬((20:Int)≤((l.length:Nat):Int)):=h1;refine Xi (.gen [(1000,1000)] 0) (Yi rfl (A1.to2 (Ack l (by unfold Cy;omega)) ?_));refine Xi {q:Nat // q=0} (Xi (fun q=>⟨[(0,.msl 1000 l.length),(1,vi (l.length:Nat)),(2,.v (.func (.func 60) #[] #[])),(6,vi 20)],[(1000,.arr 9 ((E9 Dv l.length l).map At))],Af⟩) (Xi (fun q=>q.1) (Yi (Xi ⟨0,rfl⟩ ?_) ?_)))
 ·exact⟨Z4,Z1,Fh,Bo Wk⟩
 intro⟨i,i1⟩;refine Yi (fun h2=>?_) (fun h2=>?_)
 ·have h2:(20:Int)<((l.length:Nat):Int):=h2;exact absurd h2 ch
 have h2:¬((20:Int)<((l.length:Nat):Int)):=h2;exact Xi _ (Yi (.refl _) Zr)
theorem v105(hl:l.length≤16):A1 Tryz.prog 105 [.msl 1000 l.length,.v (.func (.func 60) #[] #[])] (Ak [(1000,.arr 9 (l.map At))] Af) fun r h'=>r=.tup []∧h'=Ak [(1000,.arr 9 ((E9 Dv l.length l).map At))] Af:=by
 refine BW (KV D3) [(1000,1000)] rfl Co hm rfl Tryz.func105 Wk rfl (Nz rfl) Wk rfl (Xi (.gen [(1000,1000)] 0) (Yi rfl (A1.to2 (Acj l hl) ?_)));exact Xi _ (Yi (.refl _) Zr)
theorem Acm(hx:x.length≤16)(hc:∀r∈x,PC 42 [.agg (At r)] (.agg (At r)))(hk:A1 Tryz.prog 37 [.agg [.msl 1000 ((E9 Dv x.length x).map At).length,Ce]] (Ak [(1000,.arr 9 ((E9 Dv x.length x).map At))] Af) fun r h'=>r=vi 0∧h'=Ak [(1000,.arr 9 ((E9 Dv x.length x).map At))] Af):A1 Tryz.prog 72 [sl At x] (Ak [] Af) fun r h'=>r=.tup [.msl 2000 ((E9 Dv x.length x).map At).length,vi 0]∧h'=Ak [(2000,.arr 9 ((E9 Dv x.length x).map At))] Af:=by
 refine BW (KV ⟨[],[],[(4,9)],[],[],[],[],[],[],[],[7,8]⟩) [(4,2000)] rfl Co hm rfl Tryz.func72 Wk rfl (Nz rfl) Wk rfl (Xi {q:Nat // q≤x.length} (Xi (fun q=>⟨[(4,.msl 4 (x.take q.1).length),(8,sl At x),(9,vi (x.map At).length),(10,vi q.1)],[(4,.arr 9 ((x.take q.1).map At))],Af⟩) (Xi (fun q=>x.length-q.1) (Yi (Xi ⟨0,AA _⟩ ?_) ?_))))
 ·exact⟨Z4,Z1,Fh,Bo Wk⟩
 intro⟨i,i1⟩;have i1:i≤x.length:=i1;refine Yi (fun h1=>?_) (fun h1=>?_)
 ·have h1:(i:Int)<((x.map At).length:Int):=h1;have n1:=GI h1;refine Xi (At x[i]) (Yi (Hb n1) (Yi rfl (yN (yN (yN (Xi .pure (Xi _ (Yi (hc x[i] (Aj n1)) ?_))))))));have b2:Cf 9 [(At x[i])]∧((x.take i).map At).length=(x.take i).length∧(((x.take i).map At).length+([(At x[i])]:List (List AV)).length)*120≤140737488355328∧((x.take i).map At).length+([(At x[i])]:List (List AV)).length≤9223372036854775807:=⟨⟨rfl,trivial⟩,(by rw[Lm]),(by simp only[Lm,Av,Ax,AB];omega),(by simp only[Lm,Av,Ax,AB];omega)⟩;refine Yi b2 (Yi (Ii i ch) (Xi ⟨i+1,n1⟩ ?_));exact⟨Dl x.length i ch,⟨⟨(show AV.msl 4 (((x.take i).map At).length+([At x[i]]:List (List AV)).length)=.msl 4 (x.take (i+1)).length by rw[Ep n1,Ad,Lm];rfl),rfl⟩,Zr,Zr,Zr,Tv⟩,⟨⟨(show HO.arr 9 ((x.take i).map At++[At x[i]])=.arr 9 ((x.take (i+1)).map At) by rw[Ep n1,As];rfl),rfl⟩,Tv⟩,Fh,Bo Wk⟩
 have h1:¬((i:Int)<((x.map At).length:Int)):=h1;have n1:=GH h1;have ei:x.take i=x:=Au ch;refine Xi ⟨[(4,.msl 4 x.length)],[(4,.arr 9 (x.map At))],Af⟩ (Yi ⟨⟨⟨(show AV.msl 4 (x.take i).length=.msl 4 x.length by rw[ei]),rfl⟩,trivial⟩,⟨⟨(show HO.arr 9 ((x.take i).map At)=.arr 9 (x.map At) by rw[ei]),rfl⟩,trivial⟩,fun _=>.inl rfl,Bo Wk⟩ ?_)
 refine Xi (.gen [(4,1000)] 0) (Yi rfl (A1.to2 (v105 x hx) ?_));refine cU [(4,.msl 4 ((E9 Dv x.length x).map At).length)] [(4,.arr 9 ((E9 Dv x.length x).map At))] ⟨⟨(show AV.msl 4 x.length=.msl 4 ((E9 Dv x.length x).map At).length by rw[Lm,M7]),rfl⟩,Tv⟩ Z1 ?_
 refine Xi (.gen [(4,1000)] 0) (Yi rfl (A1.to2 hk ?_));refine Yi (fun h=>absurd h Cl) (fun _=>?_);exact Xi _ (Yi (.refl _) Zr)
theorem Acl(hx:x.length≤16)(hc:∀r∈x,PC 42 [.agg (At r)] (.agg (At r)))(c:Int)(oo:c≠0)(hk:A1 Tryz.prog 37 [.agg [.msl 1000 ((E9 Dv x.length x).map At).length,Ce]] (Ak [(1000,.arr 9 ((E9 Dv x.length x).map At))] Af) fun r h'=>r=vi c∧h'=Ak [(1000,.arr 9 ((E9 Dv x.length x).map At))] Af):PC 72 [sl At x] (.tup [Ce,vi c]):=by
 refine Ps ⟨[],[],[(4,9)],[],[],[],[],[],[],[],[7,8]⟩ Tryz.func72 rfl (Nz rfl) (Xi {q:Nat // q≤x.length} (Xi (fun q=>⟨[(4,.msl 4 (x.take q.1).length),(8,sl At x),(9,vi (x.map At).length),(10,vi q.1)],[(4,.arr 9 ((x.take q.1).map At))],Af⟩) (Xi (fun q=>x.length-q.1) (Yi (Xi ⟨0,AA _⟩ ?_) ?_))))
 ·exact⟨Z4,Z1,Fh,Tv⟩
 intro⟨i,i1⟩;have i1:i≤x.length:=i1;refine Yi (fun h1=>?_) (fun h1=>?_)
 ·have h1:(i:Int)<((x.map At).length:Int):=h1;have n1:=GI h1;refine Xi (At x[i]) (Yi (Hb n1) (Yi rfl (yN (yN (yN (Xi .pure (Xi _ (Yi (hc x[i] (Aj n1)) ?_))))))));have b2:Cf 9 [(At x[i])]∧((x.take i).map At).length=(x.take i).length∧(((x.take i).map At).length+([(At x[i])]:List (List AV)).length)*120≤140737488355328∧((x.take i).map At).length+([(At x[i])]:List (List AV)).length≤9223372036854775807:=⟨⟨rfl,trivial⟩,(by rw[Lm]),(by simp only[Lm,Av,Ax,AB];omega),(by simp only[Lm,Av,Ax,AB];omega)⟩;refine Yi b2 (Yi (Ii i ch) (Xi ⟨i+1,n1⟩ ?_));exact⟨Dl x.length i ch,⟨⟨(show AV.msl 4 (((x.take i).map At).length+([At x[i]]:List (List AV)).length)=.msl 4 (x.take (i+1)).length by rw[Ep n1,Ad,Lm];rfl),rfl⟩,Zr,Zr,Zr,Tv⟩,⟨⟨(show HO.arr 9 ((x.take i).map At++[At x[i]])=.arr 9 ((x.take (i+1)).map At) by rw[Ep n1,As];rfl),rfl⟩,Tv⟩,Fh,Tv⟩
 have h1:¬((i:Int)<((x.map At).length:Int)):=h1;have n1:=GH h1;have ei:x.take i=x:=Au ch;refine cU [(4,.msl 4 x.length)] [(4,.arr 9 (x.map At))] ⟨⟨(show AV.msl 4 (x.take i).length=.msl 4 x.length by rw[ei]),rfl⟩,Tv⟩ ⟨⟨(show HO.arr 9 ((x.take i).map At)=.arr 9 (x.map At) by rw[ei]),rfl⟩,Tv⟩ ?_
 refine Xi (.gen [(4,1000)] 0) (Yi rfl (A1.to2 (v105 x hx) ?_));refine cU [(4,.msl 4 ((E9 Dv x.length x).map At).length)] [(4,.arr 9 ((E9 Dv x.length x).map At))] ⟨⟨(show AV.msl 4 x.length=.msl 4 ((E9 Dv x.length x).map At).length by rw[Lm,M7]),rfl⟩,Tv⟩ Z1 ?_
 refine Xi (.gen [(4,1000)] 0) (Yi rfl (A1.to2 hk ?_));refine Yi (fun h4=>?_) (fun h4=>?_)
 ·have h4:(c:Int)≠(0:Int):=h4;exact .refl _
 have h4:(c:Int)=(0:Int):=AC h4;exact absurd h4 oo
end Go.Eng
