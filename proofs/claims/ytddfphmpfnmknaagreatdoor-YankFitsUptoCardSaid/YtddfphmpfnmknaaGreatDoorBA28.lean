/- Lemmas for the claims of this seat, without a condition: part 28 (S19, S20, O18, O19, O21, V0, V1, V2, V5, V6, V7). -/
import Derived.Test.YtddfphmpfnmknaaGreatDoorBA27
set_option maxHeartbeats 4000000
namespace Go.Eng
open Go.Proofs
abbrev jU:Rk:=⟨[2],[],[],[],[],[],[],[(50,(9,3,95,3))],[(44,0)],[(100016,1009)],[3,4,5,6,7,8,9,10,11,14,15,16]⟩
abbrev an0:An:=⟨false,[],[],[]⟩
def L0(x:List Rl)(roots:List Rq):An:=if Gx x roots=true∧(Fy x roots).ss.full=false then ox x roots else an0
def L1(x:List Rl)(roots:List Rq):Int:=if Gx x roots=true then if(Fy x roots).ss.full=true then 7 else 0 else 1
abbrev gH(x:List Rl)(roots:List Rq):AV:=.tup [.agg (RH (L0 x roots)),vi (L1 x roots)]
theorem Hf.an0{v:AV}:Hf (.tup [.agg [vb false,.v (.slice none 0 0),.v (.slice none 0 0),.v (.slice none 0 0)],v]) (.tup [.agg (RH an0),v]) :=
 Hf.tup ⟨Hf.agg ⟨.refl _,.nil,.nil,.nil,trivial⟩,.refl _,trivial⟩
theorem Tc{x:List Rl}{roots:List Rq}(hx:∀r∈x,KC r)(hr:∀q∈roots,NH q)(h0:AX x=0)(h1:BL roots=0){L:List ByteArray}(hl:L.Perm (AP (yR x) [])){o:JJ}(ho:Fy x roots=o) :
  A3 Tryz.prog 65 [.ref 1000 0] (Aj (IR roots (mC x) (L.map (kA x)) r8 [] []) Aa) (XY roots (mC x) (L.map (kA x)) o):=by
 rw[←ho];exact vZ (l8 hx hr h0 h1 hl) (x.length+1) (.nil x) (Iz.nil roots) ⟨⟨rfl,AO _⟩,E1⟩ rfl (Nat.lt_succ_of_le (BA _ _)) rfl
theorem gY{x:List Rl}{roots:List Rq}(h:Gx x roots=true):AX x=0∧BL roots=0:=by
 unfold Gx at h;rw[Af,Av,Av]at h;exact h
theorem kd(x:List Rl)(ifs:List (List AV))(roots:List Rq)(hx:∀r∈x,KC r)(hr:∀q∈roots,NH q)(hv:Gx x roots=false):PC 43 [Hr x ifs,sl AN roots] (.tup [.agg (RH an0),vi 1]):=by
 have Sc:=r4 x ifs roots hx hr;rw[hv]at Sc;refine Ps jU Tryz.func43 rfl (Nz rfl) ?_;refine Yi ?_ ?_
 ·exact Nz rfl
 refine Xi .pure (Xi _ (Yi Sc ?_));refine Yi ?_ ?_
 ·exact Nz rfl
 refine Yi ?_ ?_
 ·exact Nz rfl
 exact Hf.an0
theorem gC(x:List Rl)(ifs:List (List AV))(roots:List Rq)(hx:∀r∈x,KC r)(hr:∀q∈roots,NH q)(hv:Gx x roots=true)(h0:AX x=0)(h1:BL roots=0)(k:Nat)(infs:List Nf)(drv:List (List Tm))(dec:List Cd)(st:List (List Sk))(ho:Fy x roots=⟨k,false,⟨infs,drv,true⟩,dec,st⟩):PC 43 [Hr x ifs,sl AN roots] (.tup [.agg (RH an0),vi 7]):=by
 have Sc:=r4 x ifs roots hx hr;rw[hv]at Sc;refine Ps jU Tryz.func43 rfl (Nz rfl) ?_;refine Yi ?_ ?_
 ·exact Nz rfl
 refine Xi .pure (Xi _ (Yi Sc ?_));refine Xi ⟨[(1,sl AN roots),(2,.ref 2 0),(4,.ref 4 0)],[(2,.ro (Ic x ifs)),(4,.cells [vb false,.v (.slice none 0 0),.v (.slice none 0 0),.v (.slice none 0 0)])],Aa⟩ (Yi ⟨Z3,Z2,Fh,Tv⟩ ?_)
 refine Yi ?_ ?_
 ·exact Nz rfl
 refine Xi (.gen [] 5) (Yi rfl ((vW x ifs roots hx h0).imp ?_));intro v g q;refine B4 q (fun L q=>?_);have q1:=q.2.1;have q2:=q.2.2;have qp:=q.1;subst q1;subst q2;refine Xi ⟨[(4,.ref 4 0),(6,.ref 11900 0)],[(4,.cells [vb false,.v (.slice none 0 0),.v (.slice none 0 0),.v (.slice none 0 0)]),(11900,.cells [sl AN roots,.cmap CL (mC x),.cmap CL (L.map (kA x)),.slice (.id 11901 6) [],.slice (.id 11902 1) [],.mref 11903,vb false,.slice .none [],.slice .none [],.msl 11904 0]),(11901,.tok 6 0),(11902,.tok 1 0),(11903,.map DO []),(11904,.arr 1 [])],Aa⟩ (Yi ⟨Z2,Z6,Fh,Tv⟩ ?_)
 refine Xi (.gen [(11900,1000),(11901,1001),(11902,1002),(11903,1003),(11904,1004)] 1) (Yi rfl ((Tc hx hr h0 h1 qp ho).imp ?_));intro v g q;have q1:=q.1;have q2:=q.2;subst q1;subst q2;refine Xi ⟨[(4,.ref 4 0),(6,.ref 11900 0),(7,vi (k:Nat)),(8,vb false)],[(4,.cells [vb false,.v (.slice none 0 0),.v (.slice none 0 0),.v (.slice none 0 0)]),(11900,.cells [sl AN roots,.cmap CL (mC x),.cmap CL (L.map (kA x)),.slice (.id 11901 6) (infs.map BQ),.slice (.id 11902 1) (drv.map B3),.mref 11903,vb true,sl Az dec,sl Ae (AI dec),.msl 12200 st.length]),(11901,.tok 6 infs.length),(11902,.tok 1 drv.length),(11903,.map DO (DR 0 infs)),(12200,.arr 1 (st.map AR))],Aa⟩ (Yi ⟨Z4,Z6,Fh,Tv⟩ ?_)
 refine Yi (fun _=>?_) (fun h=>by cases h);refine Xi ⟨[(4,.ref 4 0)],[(4,.cells [vb false,.v (.slice none 0 0),.v (.slice none 0 0),.v (.slice none 0 0)])],Aa⟩ (Yi ⟨Z1,Z1,Fh,Tv⟩ ?_)
 refine Yi ?_ ?_
 ·exact Nz rfl
 refine Yi ?_ ?_
 ·exact Nz rfl
 exact Hf.an0
theorem nu(x:List Rl)(ifs:List (List AV))(roots:List Rq)(hx:∀r∈x,KC r)(hr:∀q∈roots,NH q)(hv:Gx x roots=true)(h0:AX x=0)(h1:BL roots=0)(k:Nat)(infs:List Nf)(drv:List (List Tm))(dec:List Cd)(st:List (List Sk))(ho:Fy x roots=⟨k,false,⟨infs,drv,false⟩,dec,st⟩)(hk:k<infs.length)(hl:infs.length≤65536):PC 43 [Hr x ifs,sl AN roots] (.tup [.agg (RH ⟨false,[],infs.take (k+1),[]⟩),vi 0]):=by
 have Sc:=r4 x ifs roots hx hr;rw[hv]at Sc;refine Ps jU Tryz.func43 rfl (Nz rfl) ?_;refine Yi ?_ ?_
 ·exact Nz rfl
 refine Xi .pure (Xi _ (Yi Sc ?_));refine Xi ⟨[(1,sl AN roots),(2,.ref 2 0),(4,.ref 4 0)],[(2,.ro (Ic x ifs)),(4,.cells [vb false,.v (.slice none 0 0),.v (.slice none 0 0),.v (.slice none 0 0)])],Aa⟩ (Yi ⟨Z3,Z2,Fh,Tv⟩ ?_)
 refine Yi ?_ ?_
 ·exact Nz rfl
 refine Xi (.gen [] 5) (Yi rfl ((vW x ifs roots hx h0).imp ?_));intro v g q;refine B4 q (fun L q=>?_);have q1:=q.2.1;have q2:=q.2.2;have qp:=q.1;subst q1;subst q2;refine Xi ⟨[(4,.ref 4 0),(6,.ref 11900 0)],[(4,.cells [vb false,.v (.slice none 0 0),.v (.slice none 0 0),.v (.slice none 0 0)]),(11900,.cells [sl AN roots,.cmap CL (mC x),.cmap CL (L.map (kA x)),.slice (.id 11901 6) [],.slice (.id 11902 1) [],.mref 11903,vb false,.slice .none [],.slice .none [],.msl 11904 0]),(11901,.tok 6 0),(11902,.tok 1 0),(11903,.map DO []),(11904,.arr 1 [])],Aa⟩ (Yi ⟨Z2,Z6,Fh,Tv⟩ ?_)
 refine Xi (.gen [(11900,1000),(11901,1001),(11902,1002),(11903,1003),(11904,1004)] 1) (Yi rfl ((Tc hx hr h0 h1 qp ho).imp ?_));intro v g q;have q1:=q.1;have q2:=q.2;subst q1;subst q2;refine Xi ⟨[(4,.ref 4 0),(6,.ref 11900 0),(7,vi (k:Nat)),(8,vb false)],[(4,.cells [vb false,.v (.slice none 0 0),.v (.slice none 0 0),.v (.slice none 0 0)]),(11900,.cells [sl AN roots,.cmap CL (mC x),.cmap CL (L.map (kA x)),.slice (.id 11901 6) (infs.map BQ),.slice (.id 11902 1) (drv.map B3),.mref 11903,vb false,sl Az dec,sl Ae (AI dec),.msl 12200 st.length]),(11901,.tok 6 infs.length),(11902,.tok 1 drv.length),(11903,.map DO (DR 0 infs)),(12200,.arr 1 (st.map AR))],Aa⟩ (Yi ⟨Z4,Z6,Fh,Tv⟩ ?_)
 refine Yi (fun h=>by cases h) (fun _=>?_);refine Xi ⟨[(4,.ref 4 0),(6,.ref 11900 0),(7,vi (k:Nat)),(8,vb false)],[(4,.cells [vb false,.v (.slice none 0 0),.v (.slice none 0 0),.v (.slice none 0 0)]),(11900,.cells [sl AN roots,.cmap CL (mC x),.cmap CL (L.map (kA x)),.slice (.id 11901 6) (infs.map BQ),.slice (.id 11902 1) (drv.map B3),.mref 11903,vb false,sl Az dec,sl Ae (AI dec),.msl 12200 st.length]),(11901,.tok 6 infs.length),(11902,.tok 1 drv.length),(11903,.map DO (DR 0 infs)),(12200,.arr 1 (st.map AR))],Aa⟩ (Yi ⟨Z4,Z6,Fh,Tv⟩ ?_)
 refine Xi ⟨[(4,.ref 4 0),(6,.ref 11900 0),(7,vi (k:Nat))],[(4,.cells [vb false,.v (.slice none 0 0),.v (.slice none 0 0),.v (.slice none 0 0)]),(11900,.cells [sl AN roots,.cmap CL (mC x),.cmap CL (L.map (kA x)),.slice (.id 11901 6) (infs.map BQ),.slice (.id 11902 1) (drv.map B3),.mref 11903,vb false,sl Az dec,sl Ae (AI dec),.msl 12200 st.length]),(11901,.tok 6 infs.length),(11902,.tok 1 drv.length),(11903,.map DO (DR 0 infs)),(12200,.arr 1 (st.map AR))],Aa⟩ (Yi ⟨Z3,Z6,Fh,Tv⟩ ?_)
 refine Yi (Ii k (by omega)) ?_;have el:(infs.map BQ).length=infs.length:=Lm ..;refine Yi ⟨BD _,by show(0:Int)≤(k:Int)+1;omega,by show(k:Int)+1≤((infs.map BQ).length:Int);rw[el];omega⟩ ?_;refine Yi (fun cs hcs=>by obtain⟨i,_,rfl⟩:=Al.1 hcs;rfl) ?_;refine Yi ?_ ?_
 ·exact Nz rfl
 refine Yi ?_ ?_
 ·exact Nz rfl
 have et:((infs.map BQ).take ((k:Int)+1).toNat).drop (0:Int).toNat=(infs.take (k+1)).map BQ:=by
  rw[show((k:Int)+1).toNat=k+1 by omega];simp
 exact Hf.tup ⟨Hf.agg ⟨.refl _,.nil,.of_eq (show AV.slice .none (((infs.map BQ).take ((k:Int)+1).toNat).drop (0:Int).toNat)=_ by rw[et]),.nil,trivial⟩,.refl _,trivial⟩
theorem Uv(y:Sl):∀l:List Sl,(TP y l).Perm (y::l)
 | []=>.refl _
 |z::l=>by
  unfold TP;split
  ·exact .refl _
  ·exact((Uv y l).cons z).trans (List.Perm.swap y z l)
theorem Td:∀l:List Sl,(FO l).Perm l
 | []=>.refl _
 |y::l=>(Uv y _).trans ((Td l).cons y)
theorem WT{b:Nat}:∀{st:List (List Sk)},(∀s∈st,s.length≤b)→st.flatten.length≤b*st.length
 | [],_=>by simp
 |s::st,h=>by
  rw[Bv,Ac,Ax,Nat.mul_succ]
  have:=h s (Ab ..)
  have:=WT (st:=st) fun t ht=>h t (Ag _ ht)
  omega
theorem gF{st:List (List Sk)}(h:st.length≤256)(hs:∀s∈st,s.length≤256)(i:Nat):((st.take i).flatten).length≤65536:=by
 have h1:=WT (b:=256) (st:=st.take i) fun s Wg=>hs s (Ei Wg)
 have:(st.take i).length≤256:=by rw[AB];omega
 omega
theorem kf(x:List Rl)(ifs:List (List AV))(roots:List Rq)(hx:∀r∈x,KC r)(hr:∀q∈roots,NH q)(hv:Gx x roots=true)(h0:AX x=0)(h1:BL roots=0)(k:Nat)(infs:List Nf)(drv:List (List Tm))(dec:List Cd)(st:List (List Sk))(ho:Fy x roots=⟨k,true,⟨infs,drv,false⟩,dec,st⟩)(hd:dec.length≤256)(hn:((AI dec).map (·.path)).Nodup)(I7:st.length≤256)(xq:∀s∈st,s.length≤256):PC 43 [Hr x ifs,sl AN roots] (.tup [.agg (RH ⟨true,FO (AI dec),infs,st.flatten⟩),vi 0]):=by
 have Sc:=r4 x ifs roots hx hr;rw[hv]at Sc;refine Ps jU Tryz.func43 rfl (Nz rfl) ?_;refine Yi ?_ ?_
 ·exact Nz rfl
 refine Xi .pure (Xi _ (Yi Sc ?_));refine Xi ⟨[(1,sl AN roots),(2,.ref 2 0),(4,.ref 4 0)],[(2,.ro (Ic x ifs)),(4,.cells [vb false,.v (.slice none 0 0),.v (.slice none 0 0),.v (.slice none 0 0)])],Aa⟩ (Yi ⟨Z3,Z2,Fh,Tv⟩ ?_)
 refine Yi ?_ ?_
 ·exact Nz rfl
 refine Xi (.gen [] 5) (Yi rfl ((vW x ifs roots hx h0).imp ?_));intro v g q;refine B4 q (fun L q=>?_);have q1:=q.2.1;have q2:=q.2.2;have qp:=q.1;subst q1;subst q2;refine Xi ⟨[(4,.ref 4 0),(6,.ref 11900 0)],[(4,.cells [vb false,.v (.slice none 0 0),.v (.slice none 0 0),.v (.slice none 0 0)]),(11900,.cells [sl AN roots,.cmap CL (mC x),.cmap CL (L.map (kA x)),.slice (.id 11901 6) [],.slice (.id 11902 1) [],.mref 11903,vb false,.slice .none [],.slice .none [],.msl 11904 0]),(11901,.tok 6 0),(11902,.tok 1 0),(11903,.map DO []),(11904,.arr 1 [])],Aa⟩ (Yi ⟨Z2,Z6,Fh,Tv⟩ ?_)
 refine Xi (.gen [(11900,1000),(11901,1001),(11902,1002),(11903,1003),(11904,1004)] 1) (Yi rfl ((Tc hx hr h0 h1 qp ho).imp ?_));intro v g q;have q1:=q.1;have q2:=q.2;subst q1;subst q2;refine Xi ⟨[(4,.ref 4 0),(6,.ref 11900 0),(7,vi (k:Nat)),(8,vb true)],[(4,.cells [vb false,.v (.slice none 0 0),.v (.slice none 0 0),.v (.slice none 0 0)]),(11900,.cells [sl AN roots,.cmap CL (mC x),.cmap CL (L.map (kA x)),.slice (.id 11901 6) (infs.map BQ),.slice (.id 11902 1) (drv.map B3),.mref 11903,vb false,sl Az dec,sl Ae (AI dec),.msl 12200 st.length]),(11901,.tok 6 infs.length),(11902,.tok 1 drv.length),(11903,.map DO (DR 0 infs)),(12200,.arr 1 (st.map AR))],Aa⟩ (Yi ⟨Z4,Z6,Fh,Tv⟩ ?_)
 refine Yi (fun h=>by cases h) (fun _=>?_);refine Xi ⟨[(4,.ref 4 0),(6,.ref 11900 0),(8,vb true)],[(4,.cells [vb false,.v (.slice none 0 0),.v (.slice none 0 0),.v (.slice none 0 0)]),(11900,.cells [sl AN roots,.cmap CL (mC x),.cmap CL (L.map (kA x)),.slice (.id 11901 6) (infs.map BQ),.slice (.id 11902 1) (drv.map B3),.mref 11903,vb false,sl Az dec,sl Ae (AI dec),.msl 12200 st.length]),(11901,.tok 6 infs.length),(11902,.tok 1 drv.length),(11903,.map DO (DR 0 infs)),(12200,.arr 1 (st.map AR))],Aa⟩ (Yi ⟨Z3,Z6,Fh,Tv⟩ ?_)
 refine Xi ⟨[(4,.ref 4 0),(6,.ref 11900 0)],[(4,.cells [vb false,.v (.slice none 0 0),.v (.slice none 0 0),.v (.slice none 0 0)]),(11900,.cells [sl AN roots,.cmap CL (mC x),.cmap CL (L.map (kA x)),.slice (.id 11901 6) (infs.map BQ),.slice (.id 11902 1) (drv.map B3),.mref 11903,vb false,sl Az dec,sl Ae (AI dec),.msl 12200 st.length]),(11901,.tok 6 infs.length),(11902,.tok 1 drv.length),(11903,.map DO (DR 0 infs)),(12200,.arr 1 (st.map AR))],Aa⟩ (Yi ⟨Z2,Z6,Fh,Tv⟩ ?_)
 have n6:(AI dec).length≤256:=by rw[Lm];exact hd
 have Zs:CU (AI dec):=Br n6 (by decide);refine Xi (AI dec).length (Xi 4 (Xi ((AI dec).map Ae) (Yi rfl (Yi (wa (AI dec) Zs) ?_))));refine Yi ?_ ?_
 ·exact Nz rfl
 refine Yi (by kernel_rfl) ?_;refine Xi ⟨[(4,.ref 4 0),(6,.ref 11900 0),(9,.ref 9 0)],[(4,.cells [vb false,.v (.slice none 0 0),.v (.slice none 0 0),.v (.slice none 0 0)]),(9,.cells [vb true,.msl 14400 (AI dec).length,.slice (.id 11901 6) (infs.map BQ),.v (.slice none 0 0)]),(11900,.cells [sl AN roots,.cmap CL (mC x),.cmap CL (L.map (kA x)),.slice (.id 11901 6) (infs.map BQ),.slice (.id 11902 1) (drv.map B3),.mref 11903,vb false,sl Az dec,sl Ae (AI dec),.msl 12200 st.length]),(11901,.tok 6 infs.length),(11902,.tok 1 drv.length),(11903,.map DO (DR 0 infs)),(12200,.arr 1 (st.map AR)),(14400,.arr 4 ((AI dec).map Ae))],Aa⟩ (Yi ⟨Z3,Z8,Fh,Tv⟩ ?_)
 refine Xi (.gen [(14400,1000)] 0) (Yi rfl ((zY 68 Tryz.closure68 (enters_of Tryz.func68 (by kernel_rfl) rfl) (AI dec) Zs hn).imp ?_));intro v g q;have q1:=q.1;have q2:=q.2;subst q1;subst q2;refine Xi ⟨[(4,.ref 4 0),(6,.ref 11900 0),(9,.ref 9 0)],[(4,.cells [vb false,.v (.slice none 0 0),.v (.slice none 0 0),.v (.slice none 0 0)]),(9,.cells [vb true,.msl 14400 (AI dec).length,.slice (.id 11901 6) (infs.map BQ),.slice (.id 95 3) []]),(95,.tok 3 0),(11900,.cells [sl AN roots,.cmap CL (mC x),.cmap CL (L.map (kA x)),.slice (.id 11901 6) (infs.map BQ),.slice (.id 11902 1) (drv.map B3),.mref 11903,vb false,sl Az dec,sl Ae (AI dec),.msl 12200 st.length]),(11901,.tok 6 infs.length),(11902,.tok 1 drv.length),(11903,.map DO (DR 0 infs)),(12200,.arr 1 (st.map AR)),(14400,.arr 4 ((FO (AI dec)).map Ae))],Aa⟩ (Yi ⟨Z3,Z9,Fh,Tv⟩ ?_)
 refine Xi {i:Nat // i≤st.length} (Xi (fun i=>⟨[(4,.ref 4 0),(6,.ref 11900 0),(9,.ref 9 0),(56,.msl 12200 st.length),(57,vi (st.length:Nat)),(58,vi i.1)],[(4,.cells [vb false,.v (.slice none 0 0),.v (.slice none 0 0),.v (.slice none 0 0)]),(9,.cells [vb true,.msl 14400 (AI dec).length,.slice (.id 11901 6) (infs.map BQ),.slice (.id 95 3) ((st.take i.1).flatten.map BN)]),(95,.tok 3 ((st.take i.1).flatten.map BN).length),(11900,.cells [sl AN roots,.cmap CL (mC x),.cmap CL (L.map (kA x)),.slice (.id 11901 6) (infs.map BQ),.slice (.id 11902 1) (drv.map B3),.mref 11903,vb false,sl Az dec,sl Ae (AI dec),.msl 12200 st.length]),(11901,.tok 6 infs.length),(11902,.tok 1 drv.length),(11903,.map DO (DR 0 infs)),(12200,.arr 1 (st.map AR)),(14400,.arr 4 ((FO (AI dec)).map Ae))],Aa⟩) (Xi (fun i=>st.length-i.1) (Yi (Xi ⟨0,AO _⟩ ?_) ?_)))
 ·exact⟨Z6,Z9,Fh,Tv⟩
 intro⟨i,i1⟩;have i1:i≤st.length:=i1;refine Yi ?_ ?_
 ·intro h;have h:(i:Int)<(st.length:Nat):=h;have h:i<st.length:=by omega
  have hg:st[i]?=some st[i]:=Ge h;have Kj:st.take (i+1)=st.take i++[st[i]]:=by rw[Bn,hg];rfl
  refine Yi (Yi (Nn i) (by show(i:Int)<(st.length:Nat);omega)) ?_;refine Yi (by rw[Lm]) (Xi (AR st[i]) (Yi (by show(st.map AR)[((i:Nat):Int).toNat]?=_;rw[Cn,AC,hg];rfl) ?_));refine Xi ⟨[(4,.ref 4 0),(6,.ref 11900 0),(9,.ref 9 0),(11,sl BN st[i]),(56,.msl 12200 st.length),(57,vi (st.length:Nat)),(58,vi i)],[(4,.cells [vb false,.v (.slice none 0 0),.v (.slice none 0 0),.v (.slice none 0 0)]),(9,.cells [vb true,.msl 14400 (AI dec).length,.slice (.id 11901 6) (infs.map BQ),.slice (.id 95 3) ((st.take i).flatten.map BN)]),(95,.tok 3 ((st.take i).flatten.map BN).length),(11900,.cells [sl AN roots,.cmap CL (mC x),.cmap CL (L.map (kA x)),.slice (.id 11901 6) (infs.map BQ),.slice (.id 11902 1) (drv.map B3),.mref 11903,vb false,sl Az dec,sl Ae (AI dec),.msl 12200 st.length]),(11901,.tok 6 infs.length),(11902,.tok 1 drv.length),(11903,.map DO (DR 0 infs)),(12200,.arr 1 (st.map AR)),(14400,.arr 4 ((FO (AI dec)).map Ae))],Aa⟩ (Yi ⟨Z7,Z9,Fh,Tv⟩ ?_)
  have hfl:((st.take i).flatten).length≤65536∧st[i].length≤256:=⟨gF I7 xq i,xq _ (At _)⟩;have G9:De 3 (st[i].map BN)∧((st.take i).flatten.map BN).length=((st.take i).flatten.map BN).length∧(((st.take i).flatten.map BN).length+(st[i].map BN).length)*32≤140737488355328∧((st.take i).flatten.map BN).length+(st[i].map BN).length≤9223372036854775807:=by
   refine⟨E9 (enc:=BN) (n:=3) (fun _=>rfl) _,rfl,?_,?_⟩<;>simp only[Lm]<;>omega
  refine Yi G9 ?_;refine Yi ?_ ?_
  ·exact Nz rfl
  have ef:((st.take i).flatten.map BN)++st[i].map BN=((st.take (i+1)).flatten.map BN):=by rw[Kj,Cy,Ay];simp
  have en:((st.take i).flatten.map BN).length+(st[i].map BN).length=((st.take (i+1)).flatten.map BN).length:=by rw[←ef,Ac]
  refine Xi ⟨[(4,.ref 4 0),(6,.ref 11900 0),(9,.ref 9 0),(56,.msl 12200 st.length),(57,vi (st.length:Nat)),(58,vi i)],[(4,.cells [vb false,.v (.slice none 0 0),.v (.slice none 0 0),.v (.slice none 0 0)]),(9,.cells [vb true,.msl 14400 (AI dec).length,.slice (.id 11901 6) (infs.map BQ),.slice (.id 95 3) ((st.take (i+1)).flatten.map BN)]),(95,.tok 3 ((st.take (i+1)).flatten.map BN).length),(11900,.cells [sl AN roots,.cmap CL (mC x),.cmap CL (L.map (kA x)),.slice (.id 11901 6) (infs.map BQ),.slice (.id 11902 1) (drv.map B3),.mref 11903,vb false,sl Az dec,sl Ae (AI dec),.msl 12200 st.length]),(11901,.tok 6 infs.length),(11902,.tok 1 drv.length),(11903,.map DO (DR 0 infs)),(12200,.arr 1 (st.map AR)),(14400,.arr 4 ((FO (AI dec)).map Ae))],Aa⟩ (Yi ⟨Z6,⟨Zr,⟨Ad (fun z=>HO.cells [vb true,.msl 14400 (AI dec).length,.slice (.id 11901 6) (infs.map BQ),.slice (.id 95 3) z]) ef,rfl⟩,⟨Ad (HO.tok 3) en,rfl⟩,Zr,Zr,Zr,Zr,Zr,Zr,Tv⟩,Fh,Tv⟩ ?_)
  refine Yi (Ii i (by omega)) ?_;refine Xi ⟨i+1,by omega⟩ ?_;exact⟨Dl st.length i (by omega),Z6,Z9,Fh,Tv⟩
 ·intro h;have h:¬(i:Int)<(st.length:Nat):=h;have et:st.take i=st:=AD (by omega);have Wh:(AI dec).length=((FO (AI dec)).map Ae).length:=(Td (AI dec)).length_eq.symm.trans (Lm ..).symm;refine Yi Wh ?_;refine Xi ⟨[(4,.ref 4 0),(9,.ref 9 0)],[(4,.cells [vb false,.v (.slice none 0 0),.v (.slice none 0 0),.v (.slice none 0 0)]),(9,.cells [vb true,.slice (.id 14400 4) ((FO (AI dec)).map Ae),.slice (.id 11901 6) (infs.map BQ),.slice (.id 95 3) (st.flatten.map BN)]),(95,.tok 3 (st.flatten.map BN).length),(11901,.tok 6 infs.length),(14400,.tok 4 ((FO (AI dec)).map Ae).length)],Aa⟩ (Yi ⟨Z2,⟨Zr,⟨Ad (fun z:List (List Sk)=>HO.cells [vb true,.slice (.id 14400 4) ((FO (AI dec)).map Ae),.slice (.id 11901 6) (infs.map BQ),.slice (.id 95 3) (z.flatten.map BN)]) et,rfl⟩,⟨Ad (fun z:List (List Sk)=>HO.tok 3 (z.flatten.map BN).length) et,rfl⟩,Zr,Zr,Tv⟩,Fh,Tv⟩ ?_)
  refine Yi ?_ ?_
  ·exact Nz rfl
  refine Yi ?_ ?_
  ·exact Nz rfl
  refine Yi ?_ ?_
  ·exact Nz rfl
  exact .refl _
theorem Pz{s:SS}{b:List Cd}{p:ByteArray}{needs:List Nd}:∀{cs:List Cd} {sk:List Sk},GH s b p needs cs sk→sk.length≤cs.length
 | [],sk,h=>by
  have h:sk=[]:=h;rw[h];exact Am _
 |c::cs,sk,h=>by
  have h:if(needs.all fun n=>has n.rq.set c.place)=true then _ else _:=h
  by_cases hc:(needs.all fun n=>has n.rq.set c.place)=true
  ·rw[Ao hc]at h;obtain⟨k,rest,rfl,_,h3⟩:=h
   have:=Pz h3
   simp only[Ax];omega
  ·rw[Ai hc]at h
   have:=Pz h
   simp only[Ax];omega
theorem Ue{x:List Rl}{roots:List Rq}{s:SS}:∀{t:List Cd} {sl:List (List Sk)} {b:List Cd},Re x roots s b t sl→sl.length=t.length∧∀k∈sl,k.length≤x.length
 | [],[],_,_=>⟨rfl,fun _ h=>by cases h⟩
 | [],_::_,_,h=>h.elim
 |_::_,[],_,h=>h.elim
 |c::t,sk::sl,b,⟨⟨p,needs,pre,post,hs⟩,h⟩=>by
  obtain⟨h1,h2⟩:=Ue h;refine⟨by simp[h1],fun k hk=>?_⟩;rcases Au.1 hk with rfl | hk
  ·have e1:=Pz hs.skips;have e2:=Ub x p;rw[hs.cands,Ac]at e2;omega
  ·exact h2 k hk
theorem zX(x:List Rl)(ifs:List (List AV))(roots:List Rq)(hx:∀r∈x,KC r)(hr:∀q∈roots,NH q):PC 43 [Hr x ifs,sl AN roots] (gH x roots):=by
 unfold gH L0 L1;cases hv:Gx x roots with
 |false=>simpa using kd x ifs roots hx hr hv
 |true =>
  obtain⟨h0,h1⟩:=gY hv;have hR:=cp h0 h1;have kW:=(Nj h0).1;have hA:ox x roots=if(Fy x roots).found=true then⟨true,FO (AI (Fy x roots).dec),(Fy x roots).ss.infs,(Fy x roots).stack.flatten⟩else⟨false,[],(Fy x roots).ss.infs.take ((Fy x roots).res+1),[]⟩:=rfl
  rw[hA];generalize ho:Fy x roots=o at hR⊢;obtain⟨k,b,⟨infs,drv,full⟩,dec,st⟩:=o;have hl:infs.length≤65536:=hR.der.len;have hdl:drv.length=infs.length:=hR.der.dlen;cases b with
  |false =>
   cases full with
   |true=>simpa using gC x ifs roots hx hr hv h0 h1 k infs drv dec st ho
   |false =>
    have hk:k<drv.length:=((hR.no rfl).2.2 rfl).1;simpa using nu x ifs roots hx hr hv h0 h1 k infs drv dec st ho (by omega) hl
  |true =>
   obtain⟨hf,t,sl,e1,e2,hC,_⟩:=hR.yes rfl;have hf:full=false:=hf;subst hf;have e1:dec=[]++t:=e1;have e2:st=[]++sl:=e2;rw[Fm]at e1 e2;subst e1;subst e2;have hD:Ew x ([]++dec):=(Re.ok (.nil x) (.nil roots) hC).1;rw[Fm]at hD;have hdx:=WE hD;obtain⟨c1,c2⟩:=Ue hC;have hn:((AI dec).map (·.path)).Nodup:=by rw[Nk];exact hD.nodup
   simpa using kf x ifs roots hx hr hv h0 h1 k infs drv dec st ho (by omega) hn (by omega) (fun s hs=>Br (c2 s hs) kW)
def HI(x:List Rl)(roots:List Rq):Int:=if L1 x roots≠0 then L1 x roots else if(L0 x roots).found=true then 0 else 17
def Kv(x:List Rl)(roots:List Rq):List Sl:=if HI x roots=0 then(L0 x roots).sel else []
abbrev uV:Rk:=⟨[2],[],[],[],[],[],[],[],[],[],[]⟩
theorem nt(x:List Rl)(ifs:List (List AV))(roots:List Rq)(a:An)(e:Int)(h:PC 43 [Hr x ifs,sl AN roots] (.tup [.agg (RH a),vi e])) :
  PC 17 [Hr x ifs,sl AN roots] (.tup [if e≠0 then sl Ae []else if a.found=true then sl Ae a.sel else sl Ae [],vi (if e≠0 then e else if a.found=true then 0 else 17)]):=by
 refine Ps uV Tryz.func17 rfl (Nz rfl) ?_;refine Yi ?_ ?_
 ·exact Nz rfl
 refine Xi .pure (Xi _ (Yi h ?_));refine Yi ?_ ?_
 ·exact Nz rfl
 refine Yi (fun he=>?_) (fun he=>?_)
 ·have he:¬e=0:=he;have e1:AV.tup [sl Ae [],vi e]=.tup [if e≠0 then sl Ae []else if a.found=true then sl Ae a.sel else sl Ae [],vi (if e≠0 then e else if a.found=true then 0 else 17)]:=by rw[Ao he,Ao he]
  exact(show Hf (.tup [.v (.slice none 0 0),vi e]) (.tup [sl Ae ([]:List Sl),vi e])from Hf.tup ⟨.nil,.refl _,trivial⟩).trans (.of_eq e1)
 ·have he:e=0:=Cm.1 he;have Dt:¬e≠0:=fun h=>h he;refine Yi (fun hb=>?_) (fun hb=>?_)
  ·have hb:a.found=true:=hb;have e1:AV.tup [sl Ae a.sel,vi 0]=.tup [if e≠0 then sl Ae []else if a.found=true then sl Ae a.sel else sl Ae [],vi (if e≠0 then e else if a.found=true then 0 else 17)]:=by rw[Ai Dt,Ai Dt,Ao hb,Ao hb]
   exact .of_eq e1
  ·have hb:a.found=false:=hb;have hb:¬a.found=true:=by rw[hb];decide
   have e1:AV.tup [sl Ae [],vi 17]=.tup [if e≠0 then sl Ae []else if a.found=true then sl Ae a.sel else sl Ae [],vi (if e≠0 then e else if a.found=true then 0 else 17)]:=by rw[Ai Dt,Ai Dt,Ai hb,Ai hb]
   exact(show Hf (.tup [.v (.slice none 0 0),vi 17]) (.tup [sl Ae ([]:List Sl),vi 17])from Hf.tup ⟨.nil,.refl _,trivial⟩).trans (.of_eq e1)
theorem xP(x:List Rl)(ifs:List (List AV))(roots:List Rq)(hx:∀r∈x,KC r)(hr:∀q∈roots,NH q):PC 17 [Hr x ifs,sl AN roots] (.tup [sl Ae (Kv x roots),vi (HI x roots)]):=by
 have h:=nt x ifs roots _ _ (zX x ifs roots hx hr);have e1:(if L1 x roots≠0 then sl Ae []else if(L0 x roots).found=true then sl Ae (L0 x roots).sel else sl Ae [])=sl Ae (Kv x roots):=by
  unfold Kv HI
  by_cases h1:L1 x roots=0
  ·by_cases h2:(L0 x roots).found=true
   ·simp[h1,h2]
   ·simp[h1,h2]
  ·simp[h1]
 have e2:(if L1 x roots≠0 then L1 x roots else if(L0 x roots).found=true then 0 else 17)=HI x roots:=rfl;rw[e1,e2]at h;exact h
instance:DecidableEq Mv:=fun x y=>decidable_of_iff (x.path=y.path∧x.a=y.a∧x.b=y.b) ⟨fun⟨h1,h2,h3⟩=>by cases x;cases y;simp_all,fun h=>by subst h;exact⟨rfl,rfl,rfl⟩⟩
theorem qz{a b:Mv}(h:a.path=b.path∧a.a=b.a∧a.b=b.b∧True):a=b:=by cases a;cases b;simp_all
theorem qA{a b:Mv}(h:¬(a.path=b.path∧a.a=b.a∧a.b=b.b∧True)):a≠b:=fun e=>h (by subst e;exact⟨rfl,rfl,rfl,trivial⟩)
theorem zK(a b:List Mv)(ha:CU a):PC 30 [sl DQ a,sl DQ b] (vb (decide (a=b))):=by
 have wQ:a.length≤1073741824:=ha;refine Ps ⟨[],[],[],[],[],[],[],[],[],[],[7,8]⟩ Tryz.func30 rfl (Nz rfl) ?_;refine Yi (fun h1=>?_) (fun h1=>?_)
 ·have h1:((a.map DQ).length:Int)≠((b.map DQ).length:Int):=h1;exact .of_eq (show vb false=vb (decide (a=b)) by rw[AG (fun e=>absurd (Ad (fun z=>((z.map DQ).length:Int)) e) h1)])
 have h1:((a.map DQ).length:Int)=((b.map DQ).length:Int):=AS h1;have hl:a.length=b.length:=by have q:=h1;rw[Lm,Lm]at q;omega
 refine Xi {q:Nat // q≤a.length∧∀j (hj:j<a.length),j<q→a[j]=b[j]'(hl▸hj)} (Xi (fun q=>⟨[(0,sl DQ a),(1,sl DQ b),(12,vi (a.map DQ).length),(13,vi q.1)],[],Aa⟩) (Xi (fun q=>a.length-q.1) (Yi (Xi ⟨0,AO _,fun _ _ h=>absurd h (TX _)⟩ ?_) ?_)))
 ·exact⟨Z4,Tv,Fh,Tv⟩
 intro⟨i,i1,i2⟩;have i1:i≤a.length:=i1;have i2:∀j (hj:j<a.length),j<i→a[j]=b[j]'(hl▸hj):=i2;refine Yi (fun h3=>?_) (fun h3=>?_)
 ·have h3:(i:Int)<((a.map DQ).length:Int):=h3;have n3:=MB h3;have xa:i<b.length:=by have q:=h3;rw[Lm]at q;omega
  refine Xi (DQ a[i]) (Yi (Wj n3) (Yi rfl ?_));refine Yi (Nz rfl) ?_;refine Xi (DQ b[i]) (Yi (Wj xa) (Yi rfl ?_));refine Yi (Nz rfl) ?_;refine Yi (fun h4=>?_) (fun h4=>?_)
  ·have h4:(a[i].path:ByteArray)=b[i].path∧(a[i].a:Int)=b[i].a∧(a[i].b:Int)=b[i].b∧True:=h4;refine Yi (by kernel_rfl) ?_;refine Xi ⟨[(0,sl DQ a),(1,sl DQ b),(12,vi (a.map DQ).length),(13,vi i)],[],Aa⟩ (Yi ⟨Z4,Tv,Fh,Tv⟩ ?_)
   refine Yi (Ii i (by omega)) ?_;refine Xi ⟨i+1,n3,fun j hj Nb=>if e:j<i then i2 j hj e else by
     have e:j=i:=by omega
     subst e;exact qz h4⟩ ?_
   exact⟨Dl a.length i (by omega),Z4,Tv,Fh,Tv⟩
  have h4:¬((a[i].path:ByteArray)=b[i].path∧(a[i].a:Int)=b[i].a∧(a[i].b:Int)=b[i].b∧True):=h4;refine Yi (by kernel_rfl) ?_;refine Xi ⟨[],[],Aa⟩ (Yi ⟨Tv,Tv,Fh,Tv⟩ ?_)
  exact .of_eq (show vb false=vb (decide (a=b)) by rw[AG (oz (i:=i) (ha:=n3) (hb:=xa) (qA h4))])
 have h3:¬((i:Int)<((a.map DQ).length:Int)):=h3;have n3:=MA h3;exact .of_eq (show vb true=vb (decide (a=b)) by rw[AE (jz hl fun j hj=>i2 j hj (by have q:=h3;rw[Lm]at q;omega))])
abbrev pb:ByteArray:=⟨#[98,47,118,49]⟩
end Go.Eng
namespace Go.Eng
/-! The empty workspace, and a workspace twice. -/
/-! What is merged. -/
/-! What a workspace makes of an index. -/
/-! What the solver selects. -/
/-! Releases whose names satisfy p get Yanked. -/
def yk(y:Bool)(p:Sl→Bool)(x:List Rl):List Rl:=x.map fun r=>if p (DJ r)=true then { r with yanked:=y }else r
section
variable {x:List Rl}{roots:List Rq}{y:Bool}{p:Sl→Bool}
theorem Tp:(yk y p x).length=x.length:=Lm ..
end
abbrev JM(s:Sl):Sl→Bool:=fun z=>decide (z=s)
def GG(x:List Rl)(s:Sl)(y:Bool):Int:=if AX x≠0 then 1 else match DV x s with
 |none=>6
 |some r=>if r.yanked=y then 8 else 0
def HJ(x:List Rl)(s:Sl)(y:Bool):List Rl:=if GG x s y=0 then yk y (JM s) x else []
def JA(x:List Rl)(l:List Sl):Int:=if AX x≠0∨FI l=false then 1 else 0
section
variable {x:List Rl}{s:Sl}{y:Bool}
theorem jO(hx:AX x=0){a b:Rl}(ha:a∈x)(hb:b∈x)(h:DJ a=DJ b):a=b:=by
 have h1:=IS hx ha;have h2:=IS hx hb;rw[show FJ a=FJ b from h]at h1;exact B2 (h1.symm.trans h2)
theorem WP(hx:AX x=0)(h:DV x s=none):∀r∈x,DJ r≠s:=fun r hr e=>by
 have:=IS hx hr
 rw[show FJ r=s from e,h]at this;cases this
theorem kh(h:GG x s y=0):HJ x s y=yk y (JM s) x:=by unfold HJ;rw[Ao h]
theorem gD(h:GG x s y≠0):HJ x s y=[]:=by unfold HJ;rw[Ai h]
end
/-! Law Keeps: which releases of the selection get yanked, one after the other. -/
section
variable {α:Type}(c:α→α→Int)
def Jh:Nat→List α→List α
 |0,l=>l
 |j+1,l=>match l[j+1]?,l[j]? with
  |some a,some b=>if c a b<0 then Jh j ((l.set (j+1) b).set j a)else l
  |_,_=>l
def Eo(i:Nat)(l:List α):List α:=(List.range i).foldl (fun m i=>Jh c i m) l
theorem UQ:∀(j:Nat) (l:List α),(Jh c j l).length=l.length
 |0,_=>rfl
 |j+1,l=>by
  unfold Jh;split
  ·split
   ·rw[UQ j];simp
   ·rfl
  ·rfl
theorem Mf(i:Nat)(l:List α):Eo c (i+1) l=Jh c i (Eo c i l):=by
 unfold Eo;rw[List.range_succ,Ff];rfl
theorem fm(l:List α):Eo c 1 l=l:=rfl
theorem LI:∀(i:Nat) (l:List α),(Eo c i l).length=l.length
 |0,_=>rfl
 |i+1,l=>by rw[Mf,UQ,LI i]
theorem UR:∀(j:Nat) (l:List α),∀x∈Jh c j l,x∈l
 |0,_,_,h=>h
 |j+1,l,x,h=>by
  unfold Jh at h;split at h
  ·rename_i a b ha hb;split at h
   ·have h:=UR j _ x h;rcases EL h with h | rfl
    ·rcases EL h with h | rfl
     ·exact h
     ·exact Ar hb
    ·exact Ar ha
   ·exact h
  ·exact h
theorem Sq:∀(i:Nat) (l:List α),∀x∈Eo c i l,x∈l
 |0,_,_,h=>h
 |i+1,l,x,h=>by rw[Mf]at h;exact Sq i l x (UR c i _ x h)
theorem Y1{l:List α}{j:Nat}{a b:α}(h0:0<j)(ha:l[j]?=some a)(hb:l[j-1]?=some b)(hc:c a b<0):Jh c j l=Jh c (j-1) ((l.set j b).set (j-1) a):=by
 obtain⟨k,rfl⟩:∃k,j=k+1:=⟨j-1,by omega⟩;have e:k+1-1=k:=rfl;simp only[e]at hb⊢;rw[Jh,ha,hb];exact Ao hc
theorem Tb{l:List α}{j:Nat}{a b:α}(h0:0<j)(ha:l[j]?=some a)(hb:l[j-1]?=some b)(hc:¬c a b<0):Jh c j l=l:=by
 obtain⟨k,rfl⟩:∃k,j=k+1:=⟨j-1,by omega⟩;have e:k+1-1=k:=rfl;simp only[e]at hb;rw[Jh,ha,hb];exact Ai hc
theorem Uu{l:List α}(h:l.Pairwise fun a b=>¬c b a<0):∀i,i≤l.length→Eo c i l=l
 |0,_=>rfl
 |i+1,hi=>by
  rw[Mf,Uu h i (by omega)]
  by_cases h0:i=0
  ·subst h0;rfl
  ·exact Tb c (by omega) (Ge hi) (Ge (show i-1<l.length by omega)) ((AT.1 h) (i-1) i (by omega) hi (by omega))
end
theorem Jz{x:List Rl}(h:AX x=0):Eo DF x.length x=x:=by
 refine Uu DF ?_ _ (Am _);refine(Cc h).2.imp fun {a b} ig hc=>?_;have h1:iQ (DJ a) (DJ b)<0:=RC.2 ig;have h2:iQ (DJ b) (DJ a)<0:=hc;have h1:=RC.1 h1;have h2:=RC.1 h2;exact HX (UB h1 h2) rfl
def fs(s:Sl)(y:Bool)(l:List Rl):Bool×Bool:=l.foldl (fun a r=>if DJ r=s then(true,decide (r.yanked=y))else a) (false,false)
theorem QP{s:Sl}{y:Bool}{x:List Rl}{i:Nat}(h:i<x.length):fs s y (x.take (i+1))=if DJ x[i]=s then(true,decide (x[i].yanked=y))else fs s y (x.take i):=by
 unfold fs;rw[Bn,Ge h,Ff]
 rfl
theorem dP{s:Sl}{y:Bool}:∀{l:List Rl} {a:Bool×Bool},(∀r∈l,DJ r≠s)→l.foldl (fun a r=>if DJ r=s then(true,decide (r.yanked=y))else a) a=a
 | [],_,_=>rfl
 |r::l,a,h=>by
  rw[D7,Ai (h r (Ab ..))];exact dP fun q hq=>h q (Ag _ hq)
theorem dQ{s:Sl}{y:Bool}{r:Rl}(hr:DJ r=s):∀{l:List Rl} {a:Bool×Bool},r∈l→(∀q∈l,DJ q=s→q=r)→l.foldl (fun a r=>if DJ r=s then(true,decide (r.yanked=y))else a) a=(true,decide (r.yanked=y))
 | [],_,h,_=>by cases h
 |q::l,a,h,hu=>by
  rw[D7]
  by_cases hm:r∈l
  ·exact dQ hr hm fun p hp=>hu p (Ag _ hp)
  ·have e:r=q:=(Au.1 h).resolve_right hm;subst e;rw[Ao hr];exact dP fun p hp e=>hm (by rw[←hu p (Ag _ hp) e];exact hp)
theorem o8{x:List Rl}(hx:AX x=0)(s:Sl)(y:Bool):fs s y x=match DV x s with | none=>(false,false) | some r=>(true,decide (r.yanked=y)):=by
 cases e:DV x s with
 |none=>exact dP (WP hx e)
 |some r =>
  obtain⟨_,h1,h2⟩:=Ki e;exact dQ h2 h1 fun q hq hk=>jO hx hq h1 (hk.trans (show s=DJ r from h2.symm))
theorem Pd{x:List Rl}(hx:AX x=0)(s:Sl)(y:Bool):GG x s y=if(fs s y x).1=false then 6 else if(fs s y x).2=true then 8 else 0:=by
 rw[o8 hx];unfold GG;rw[Ai (fun h=>h hx)];cases e:DV x s with
 |none=>rfl
 |some r =>
  dsimp only
  by_cases h:r.yanked=y
  ·simp[h]
  ·simp[h]
def EI(x:List Rl)(z:Sl):Bool:=match DV x z with | some r=>r.yanked | none=>false
def Tn(x:List Rl)(l:List Sl):List Sl:=if JA x l=0 then l.filter (EI x)else []
theorem br(x:List Rl)(l:List Sl):JA x l=0∨JA x l=1:=by unfold JA;split<;>simp
theorem Xd{x:List Rl}{l:List Sl}(h:JA x l=0):AX x=0∧FI l=true:=by
 unfold JA at h;split at h
 ·cases h
 ·rename_i q;exact⟨AS fun e=>q (.inl e),by cases e:FI l with
   |true=>rfl
   |false=>exact absurd (.inr e) q⟩
theorem af{y:Bool}{p:Sl→Bool}{x:List Rl}{i:Nat}(h:i<x.length):(yk y p (x.take i)++x.drop i).set i (if p (DJ x[i])=true then { x[i]with yanked:=y }else x[i])=yk y p (x.take (i+1))++x.drop (i+1):=by
 rw[Bl h,List.set_append_right _ _ (by rw[Tp,AB];omega),Tp,AB,show i-min i x.length=0 by omega,List.set_cons_zero];unfold yk;rw[Bn,Ge h,Ay,BH]
 rfl
theorem lk{y:Bool}{p:Sl→Bool}{x:List Rl}{i:Nat}(h:i<x.length):(yk y p (x.take i)++x.drop i)[i]?=some x[i]:=by
 rw[AZ (by rw[Tp,AB];omega),Tp,AB,show i-min i x.length=0 by omega,Bl h]
 rfl
end Go.Eng
namespace Go.Eng
open Go.Proofs
theorem fj{α:Type}(c:α→α→Int){l:List α}{i:Nat}(h1:1≤i)(h2:i≤l.length∨i=1)(h3:l.length≤i):Eo c i l=Eo c l.length l:=by
 by_cases e:i=l.length
 ·rw[e]
 ·have e1:i=1:=by omega
  have e2:l.length=0:=by omega
  rw[e1,e2];rfl
theorem wh(l:List Rl)(hl:CU l):A3 Tryz.prog 192 [.msl 1000 l.length,vi 0,vi (l.length:Nat),.v (.func (.func 60) #[] #[])] (Aj [(1000,.arr 9 (l.map Ah))] Aa) fun r h'=>r=.tup []∧h'=Aj [(1000,.arr 9 ((Eo DF l.length l).map Ah))] Aa:=by
 have hl:l.length≤1073741824:=hl;refine BV (Lh ⟨[],[],[],[],[],[],[],[],[],[],[5,6]⟩) [(1000,1000)] rfl Cs hm rfl Tryz.func192 (by kernel_rfl) rfl (Nz rfl) (by kernel_rfl) rfl ?_;refine Yi (Ii 0 (by omega)) ?_;refine Xi {q:Nat // 1≤q∧(q≤l.length∨q=1)} (Xi (fun q=>⟨[(0,.msl 1000 l.length),(1,vi 0),(2,vi (l.length:Nat)),(3,.v (.func (.func 60) #[] #[])),(8,vi q.1)],[(1000,.arr 9 ((Eo DF q.1 l).map Ah))],Aa⟩) (Xi (fun q=>l.length+1-q.1) (Yi (Xi ⟨1,Am _,.inr rfl⟩ ?_) ?_)))
 ·exact⟨Z5,⟨⟨(show HO.arr 9 (l.map Ah)=.arr 9 ((Eo DF 1 l).map Ah) by rw[fm]),rfl⟩,Tv⟩,Fh,Aw (by kernel_rfl)⟩
 intro⟨i,i1,i2⟩;have i1:1≤i:=i1;have i2:i≤l.length∨i=1:=i2;refine Yi (fun h1=>?_) (fun h1=>?_)
 ·have h1:(i:Int)<((l.length:Nat):Int):=h1;have ni:i<l.length:=by omega
  refine Xi {q:Nat×List Rl // q.1≤i∧q.2.length=l.length∧Jh DF q.1 q.2=Eo DF (i+1) l} (Xi (fun q=>⟨[(0,.msl 1000 l.length),(1,vi 0),(2,vi (l.length:Nat)),(3,.v (.func (.func 60) #[] #[])),(8,vi i),(9,vi q.1.1)],[(1000,.arr 9 (q.1.2.map Ah))],Aa⟩) (Xi (fun q=>q.1.1) (Yi (Xi ⟨(i,Eo DF i l),Am _,LI _ _ _,(Mf DF i l).symm⟩ ?_) ?_)))
  ·exact⟨Z6,Z1,Fh,Aw (by kernel_rfl)⟩
  intro⟨⟨j,N⟩,j1,j2,j3⟩;have j1:j≤i:=j1;have j2:N.length=l.length:=j2;have j3:Jh DF j N=Eo DF (i+1) l:=j3;refine Yi (fun h2=>?_) (fun h2=>?_)
  ·have h2:(0:Int)<(j:Int):=h2;have nj:j<N.length:=by omega
   have j0:0<j:=by omega
   have ej:((j-1:Int).toNat)=j-1:=by omega
   refine B4 (show ∃a,N[j]?=some a from⟨_,Ge nj⟩) (fun a ga=>?_);refine B4 (show ∃b,N[j-1]?=some b from⟨_,Ge (by omega)⟩) (fun b gb=>?_);have gc:N[(j-1:Int).toNat]?=some b:=by rw[ej];exact gb
   refine Yi (by show(0:Int)≤j∧(j:Int)<(l.length:Nat);omega) ?_;refine Yi (show l.length=(N.map Ah).length by simp[j2]) (Xi (Ah a) (Yi (Dp ga) ?_));refine Yi (Nz rfl) ?_;refine Yi (by show BM ((j:Int)-(1:Int));unfold BM;omega) ?_;refine Yi (by show(0:Int)≤j-1∧(j-1:Int)<(l.length:Nat);omega) ?_;refine Yi (show l.length=(N.map Ah).length by simp[j2]) (Xi (Ah b) (Yi (Dp gc) ?_));refine Yi (Nz rfl) ?_;refine Xi _ (Yi (oG a b) ?_);refine Yi (fun h3=>?_) (fun h3=>?_)
   ·have h3:((DF a b):Int)<(0:Int):=h3;refine Yi (by kernel_rfl) ?_;refine Xi ⟨[(0,.msl 1000 l.length),(1,vi 0),(2,vi (l.length:Nat)),(3,.v (.func (.func 60) #[] #[])),(8,vi i),(9,vi j)],[(1000,.arr 9 (N.map Ah))],Aa⟩ (Yi ⟨Z6,Z1,Fh,Aw (by kernel_rfl)⟩ ?_)
    refine Yi (by show BM ((j:Int)-(1:Int));unfold BM;omega) ?_;refine Yi (by show BM ((j:Int)-(1:Int));unfold BM;omega) ?_;refine Yi (by show(0:Int)≤j-1∧(j-1:Int)<(l.length:Nat);omega) ?_;refine Yi (show l.length=(N.map Ah).length by simp[j2]) (Xi (Ah b) (Yi (Dp gc) ?_));refine Yi (Nz rfl) ?_;refine Yi (by show(0:Int)≤j∧(j:Int)<(l.length:Nat);omega) ?_;refine Yi (show l.length=(N.map Ah).length by simp[j2]) (Xi (Ah a) (Yi (Dp ga) ?_));refine Yi (Nz rfl) ?_;refine Yi (by show(0:Int)≤j∧(j:Int)<(l.length:Nat);omega) ?_;refine Yi (show l.length=(N.map Ah).length by simp[j2]) (Xi (Ah a) (Yi (Dp ga) (Yi (Nz rfl) ?_)));refine Yi (by show(0:Int)≤j-1∧(j-1:Int)<(l.length:Nat);omega) ?_;refine Yi (show l.length=(((N.map Ah).set j (Ah b)):List (List AV)).length by simp[j2]) (Xi (Ah b) (Yi ((List.getElem?_set_ne (by omega)).trans (Dp gc)) (Yi (Nz rfl) ?_)));refine Yi (by kernel_rfl) ?_;refine Xi ⟨[(0,.msl 1000 l.length),(1,vi 0),(2,vi (l.length:Nat)),(3,.v (.func (.func 60) #[] #[])),(8,vi i),(9,vi j)],[(1000,.arr 9 (((N.map Ah).set j (Ah b)).set (j-1:Int).toNat (Ah a)))],Aa⟩ (Yi ⟨Z6,Z1,Fh,Aw (by kernel_rfl)⟩ ?_)
    refine Yi (by show BM ((j:Int)-(1:Int));unfold BM;omega) ?_;refine Xi ⟨(j-1,(N.set j b).set (j-1) a),by omega,by rw[CH,CH];exact j2,by rw[←j3,Y1 DF j0 ga gb h3]⟩ ?_;exact⟨by show(j-1:Nat)<j;omega,⟨Zr,Zr,Zr,Zr,Zr,⟨(Ad vi (show(j:Int)-1=((j-1:Nat):Int) by omega)),rfl⟩,Tv⟩,⟨⟨(show HO.arr 9 (((N.map Ah).set j (Ah b)).set ((j-1:Int).toNat) (Ah a))=.arr 9 (((N.set j b).set (j-1) a).map Ah) by rw[ej,G7,G7]),rfl⟩,Tv⟩,Fh,Aw (by kernel_rfl)⟩
   have h3:¬(((DF a b):Int)<(0:Int)):=h3;refine Yi (by kernel_rfl) ?_;refine Yi (Ii i (by omega)) ?_;have eN:N=Eo DF (i+1) l:=by rw[←j3];exact(Tb DF j0 ga gb h3).symm
   refine Xi ⟨i+1,by omega,.inl ni⟩ ?_;exact⟨by show l.length+1-(i+1)<l.length+1-i;omega,Z5,⟨⟨(show HO.arr 9 (N.map Ah)=.arr 9 ((Eo DF (i+1) l).map Ah) by rw[eN]),rfl⟩,Tv⟩,Fh,Aw (by kernel_rfl)⟩
  have h2:¬((0:Int)<(j:Int)):=h2;refine Yi (by kernel_rfl) ?_;refine Yi (Ii i (by omega)) ?_;have eN:N=Eo DF (i+1) l:=by rw[←j3];exact(show Jh DF j N=N by rw[show j=0 by omega];rfl).symm
  refine Xi ⟨i+1,by omega,.inl ni⟩ ?_;exact⟨by show l.length+1-(i+1)<l.length+1-i;omega,Z5,⟨⟨(show HO.arr 9 (N.map Ah)=.arr 9 ((Eo DF (i+1) l).map Ah) by rw[eN]),rfl⟩,Tv⟩,Fh,Aw (by kernel_rfl)⟩
 have h1:¬((i:Int)<((l.length:Nat):Int)):=h1;exact Xi _ (Yi (.refl _) ⟨rfl,show Aj [(1000,HO.arr 9 ((Eo DF i l).map Ah))] Aa=Aj [(1000,.arr 9 ((Eo DF l.length l).map Ah))] Aa from Ad (fun z=>Aj [(1000,HO.arr 9 (z.map Ah))] Aa) (fj DF i1 i2 (by omega))⟩)
theorem wg(l:List Rl)(hl:l.length≤16):A3 Tryz.prog 143 [.msl 1000 l.length,vi (l.length:Nat),.v (.func (.func 60) #[] #[])] (Aj [(1000,.arr 9 (l.map Ah))] Aa) fun r h'=>r=.tup []∧h'=Aj [(1000,.arr 9 ((Eo DF l.length l).map Ah))] Aa:=by
 refine BV (Lh ⟨[],[],[],[],[],[],[],[],[],[],[12,16]⟩) [(1000,1000)] rfl Cs hm rfl Tryz.func143 (by kernel_rfl) rfl (Nz rfl) (by kernel_rfl) rfl ?_;refine Xi {q:Nat // q=0} (Xi (fun q=>⟨[(0,.msl 1000 l.length),(1,vi (l.length:Nat)),(2,.v (.func (.func 60) #[] #[])),(6,vi 20),(7,vi 0),(8,vi 20)],[(1000,.arr 9 (l.map Ah))],Aa⟩) (Xi (fun q=>q.1) (Yi (Xi ⟨0,rfl⟩ ?_) ?_)))
 ·exact⟨Z6,Z1,Fh,Aw (by kernel_rfl)⟩
 intro⟨i,i1⟩;refine Yi (fun h1=>?_) (fun h1=>?_)
 ·have h1:(20:Int)≤((l.length:Nat):Int):=h1;exact absurd h1 (by omega)
 have h1:¬((20:Int)≤((l.length:Nat):Int)):=h1;refine Xi (.gen [(1000,1000)] 0) (Yi rfl (A3.to2 (wh l (by unfold CU;omega)) ?_));refine Xi {q:Nat // q=0} (Xi (fun q=>⟨[(0,.msl 1000 l.length),(1,vi (l.length:Nat)),(2,.v (.func (.func 60) #[] #[])),(6,vi 20)],[(1000,.arr 9 ((Eo DF l.length l).map Ah))],Aa⟩) (Xi (fun q=>q.1) (Yi (Xi ⟨0,rfl⟩ ?_) ?_)))
 ·exact⟨Z4,Z1,Fh,Aw (by kernel_rfl)⟩
 intro⟨i,i1⟩;refine Yi (fun h2=>?_) (fun h2=>?_)
 ·have h2:(20:Int)<((l.length:Nat):Int):=h2;exact absurd h2 (by omega)
 have h2:¬((20:Int)<((l.length:Nat):Int)):=h2;exact Xi _ (Yi (.refl _) Zr)
theorem v105(l:List Rl)(hl:l.length≤16):A3 Tryz.prog 105 [.msl 1000 l.length,.v (.func (.func 60) #[] #[])] (Aj [(1000,.arr 9 (l.map Ah))] Aa) fun r h'=>r=.tup []∧h'=Aj [(1000,.arr 9 ((Eo DF l.length l).map Ah))] Aa:=by
 refine BV (Lh ⟨[],[],[],[],[],[],[],[],[],[],[]⟩) [(1000,1000)] rfl Cs hm rfl Tryz.func105 (by kernel_rfl) rfl (Nz rfl) (by kernel_rfl) rfl ?_;refine Xi (.gen [(1000,1000)] 0) (Yi rfl (A3.to2 (wg l hl) ?_));exact Xi _ (Yi (.refl _) Zr)
theorem wj(x:List Rl)(hx:x.length≤16)(hc:∀r∈x,PC 42 [.agg (Ah r)] (.agg (Ah r)))(hk:A3 Tryz.prog 37 [.agg [.msl 1000 ((Eo DF x.length x).map Ah).length,.v (.slice none 0 0)]] (Aj [(1000,.arr 9 ((Eo DF x.length x).map Ah))] Aa) fun r h'=>r=vi 0∧h'=Aj [(1000,.arr 9 ((Eo DF x.length x).map Ah))] Aa):A3 Tryz.prog 72 [sl Ah x] (Aj [] Aa) fun r h'=>r=.tup [.msl 2000 ((Eo DF x.length x).map Ah).length,vi 0]∧h'=Aj [(2000,.arr 9 ((Eo DF x.length x).map Ah))] Aa:=by
 refine BV (Lh ⟨[],[],[(4,9)],[],[],[],[],[],[],[],[7,8,11]⟩) [(4,2000)] rfl Cs hm rfl Tryz.func72 (by kernel_rfl) rfl (Nz rfl) (by kernel_rfl) rfl ?_;refine Xi {q:Nat // q≤x.length} (Xi (fun q=>⟨[(4,.msl 4 (x.take q.1).length),(8,sl Ah x),(9,vi (x.map Ah).length),(10,vi q.1)],[(4,.arr 9 ((x.take q.1).map Ah))],Aa⟩) (Xi (fun q=>x.length-q.1) (Yi (Xi ⟨0,AO _⟩ ?_) ?_)))
 ·exact⟨Z4,Z1,Fh,Aw (by kernel_rfl)⟩
 intro⟨i,i1⟩;have i1:i≤x.length:=i1;refine Yi (fun h1=>?_) (fun h1=>?_)
 ·have h1:(i:Int)<((x.map Ah).length:Int):=h1;have n1:=MB h1;refine Xi (Ah x[i]) (Yi (Wj n1) (Yi rfl ?_));refine Yi (Nz rfl) ?_;refine Yi (Nz rfl) ?_;refine Yi (Nz rfl) ?_;refine Xi .pure (Xi _ (Yi (hc x[i] (At n1)) ?_));have b2:De 9 [(Ah x[i])]∧((x.take i).map Ah).length=(x.take i).length∧(((x.take i).map Ah).length+([(Ah x[i])]:List (List AV)).length)*120≤140737488355328∧((x.take i).map Ah).length+([(Ah x[i])]:List (List AV)).length≤9223372036854775807:=⟨⟨rfl,trivial⟩,(by rw[Lm]),(by simp only[Lm,Ax,AF,AB];omega),(by simp only[Lm,Ax,AF,AB];omega)⟩;refine Yi b2 ?_;refine Yi (Ii i (by omega)) ?_;refine Xi ⟨i+1,n1⟩ ?_;exact⟨Dl x.length i (by omega),⟨⟨(show AV.msl 4 (((x.take i).map Ah).length+([Ah x[i]]:List (List AV)).length)=.msl 4 (x.take (i+1)).length by rw[E0 n1,Ac,Lm];rfl),rfl⟩,Zr,Zr,Zr,Tv⟩,⟨⟨(show HO.arr 9 ((x.take i).map Ah++[Ah x[i]])=.arr 9 ((x.take (i+1)).map Ah) by rw[E0 n1,Ay];rfl),rfl⟩,Tv⟩,Fh,Aw (by kernel_rfl)⟩
 have h1:¬((i:Int)<((x.map Ah).length:Int)):=h1;have n1:=MA h1;have ei:x.take i=x:=AD (by omega);refine Xi ⟨[(4,.msl 4 x.length)],[(4,.arr 9 (x.map Ah))],Aa⟩ (Yi ⟨⟨⟨(show AV.msl 4 (x.take i).length=.msl 4 x.length by rw[ei]),rfl⟩,trivial⟩,⟨⟨(show HO.arr 9 ((x.take i).map Ah)=.arr 9 (x.map Ah) by rw[ei]),rfl⟩,trivial⟩,fun _=>.inl rfl,Aw (by kernel_rfl)⟩ ?_)
 refine Xi (.gen [(4,1000)] 0) (Yi rfl (A3.to2 (v105 x hx) ?_));refine Xi ⟨[(4,.msl 4 ((Eo DF x.length x).map Ah).length)],[(4,.arr 9 ((Eo DF x.length x).map Ah))],Aa⟩ (Yi ⟨⟨⟨(show AV.msl 4 x.length=.msl 4 ((Eo DF x.length x).map Ah).length by rw[Lm,LI]),rfl⟩,Tv⟩,Z1,Fh,Aw (by kernel_rfl)⟩ ?_)
 refine Xi (.gen [(4,1000)] 0) (Yi rfl (A3.to2 hk ?_));refine Yi (fun h=>absurd h (by decide)) (fun _=>?_);refine Xi ⟨[(4,.msl 4 ((Eo DF x.length x).map Ah).length)],[(4,.arr 9 ((Eo DF x.length x).map Ah))],Aa⟩ (Yi ⟨Z1,Z1,Fh,Aw (by kernel_rfl)⟩ ?_)
 exact Xi _ (Yi (.refl _) Zr)
theorem wi(x:List Rl)(hx:x.length≤16)(hc:∀r∈x,PC 42 [.agg (Ah r)] (.agg (Ah r)))(c:Int)(mo:c≠0)(hk:A3 Tryz.prog 37 [.agg [.msl 1000 ((Eo DF x.length x).map Ah).length,.v (.slice none 0 0)]] (Aj [(1000,.arr 9 ((Eo DF x.length x).map Ah))] Aa) fun r h'=>r=vi c∧h'=Aj [(1000,.arr 9 ((Eo DF x.length x).map Ah))] Aa):PC 72 [sl Ah x] (.tup [.v (.slice none 0 0),vi c]):=by
 refine Ps ⟨[],[],[(4,9)],[],[],[],[],[],[],[],[7,8,11]⟩ Tryz.func72 rfl (Nz rfl) ?_;refine Xi {q:Nat // q≤x.length} (Xi (fun q=>⟨[(4,.msl 4 (x.take q.1).length),(8,sl Ah x),(9,vi (x.map Ah).length),(10,vi q.1)],[(4,.arr 9 ((x.take q.1).map Ah))],Aa⟩) (Xi (fun q=>x.length-q.1) (Yi (Xi ⟨0,AO _⟩ ?_) ?_)))
 ·exact⟨Z4,Z1,Fh,Tv⟩
 intro⟨i,i1⟩;have i1:i≤x.length:=i1;refine Yi (fun h1=>?_) (fun h1=>?_)
 ·have h1:(i:Int)<((x.map Ah).length:Int):=h1;have n1:=MB h1;refine Xi (Ah x[i]) (Yi (Wj n1) (Yi rfl ?_));refine Yi (Nz rfl) ?_;refine Yi (Nz rfl) ?_;refine Yi (Nz rfl) ?_;refine Xi .pure (Xi _ (Yi (hc x[i] (At n1)) ?_));have b2:De 9 [(Ah x[i])]∧((x.take i).map Ah).length=(x.take i).length∧(((x.take i).map Ah).length+([(Ah x[i])]:List (List AV)).length)*120≤140737488355328∧((x.take i).map Ah).length+([(Ah x[i])]:List (List AV)).length≤9223372036854775807:=⟨⟨rfl,trivial⟩,(by rw[Lm]),(by simp only[Lm,Ax,AF,AB];omega),(by simp only[Lm,Ax,AF,AB];omega)⟩;refine Yi b2 ?_;refine Yi (Ii i (by omega)) ?_;refine Xi ⟨i+1,n1⟩ ?_;exact⟨Dl x.length i (by omega),⟨⟨(show AV.msl 4 (((x.take i).map Ah).length+([Ah x[i]]:List (List AV)).length)=.msl 4 (x.take (i+1)).length by rw[E0 n1,Ac,Lm];rfl),rfl⟩,Zr,Zr,Zr,Tv⟩,⟨⟨(show HO.arr 9 ((x.take i).map Ah++[Ah x[i]])=.arr 9 ((x.take (i+1)).map Ah) by rw[E0 n1,Ay];rfl),rfl⟩,Tv⟩,Fh,Tv⟩
 have h1:¬((i:Int)<((x.map Ah).length:Int)):=h1;have n1:=MA h1;have ei:x.take i=x:=AD (by omega);refine Xi ⟨[(4,.msl 4 x.length)],[(4,.arr 9 (x.map Ah))],Aa⟩ (Yi ⟨⟨⟨(show AV.msl 4 (x.take i).length=.msl 4 x.length by rw[ei]),rfl⟩,Tv⟩,⟨⟨(show HO.arr 9 ((x.take i).map Ah)=.arr 9 (x.map Ah) by rw[ei]),rfl⟩,Tv⟩,Fh,Tv⟩ ?_)
 refine Xi (.gen [(4,1000)] 0) (Yi rfl (A3.to2 (v105 x hx) ?_));refine Xi ⟨[(4,.msl 4 ((Eo DF x.length x).map Ah).length)],[(4,.arr 9 ((Eo DF x.length x).map Ah))],Aa⟩ (Yi ⟨⟨⟨(show AV.msl 4 x.length=.msl 4 ((Eo DF x.length x).map Ah).length by rw[Lm,LI]),rfl⟩,Tv⟩,Z1,Fh,Tv⟩ ?_)
 refine Xi (.gen [(4,1000)] 0) (Yi rfl (A3.to2 hk ?_));refine Yi (fun h4=>?_) (fun h4=>?_)
 ·have h4:(c:Int)≠(0:Int):=h4;exact .refl _
 have h4:(c:Int)=(0:Int):=AS h4;exact absurd h4 mo
end Go.Eng
