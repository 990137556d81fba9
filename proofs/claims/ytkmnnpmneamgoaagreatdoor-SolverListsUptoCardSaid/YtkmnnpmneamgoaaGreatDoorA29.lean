/- Lemmas for the claims of this seat, without a condition: part 29 (S19, S20, S21, S22, S23). -/
import Derived.Test.YtkmnnpmneamgoaaGreatDoorA28
namespace Go.Eng
open Go.Proofs
abbrev lB:QA:=⟨[2],[],[],[],[],[],[],[(50,(9,3,95,3))],[(44,0)],[(100016,1009)],[3,4,5,6,7,8,9,10,11,14,15,16]⟩
abbrev an0:An:=⟨false,[],[],[]⟩
def GE(x:List Rl)(roots:List Rq):An:=if CI x roots=true∧(FP x roots).ss.full=false then p7 x roots else an0
def GF(x:List Rl)(roots:List Rq):Int:=if CI x roots=true then if(FP x roots).ss.full=true then 7 else 0 else 1
abbrev aa(x:List Rl)(roots:List Rq):AV:=.tup [.agg (Jo (GE x roots)),vi (GF x roots)]
theorem GU.an0{v:AV}:GU (.tup [.agg [vb false,.v (.slice none 0 0),.v (.slice none 0 0),.v (.slice none 0 0)],v]) (.tup [.agg (Jo an0),v]) :=
 GU.tup ⟨GU.agg ⟨.refl _,.nil,.nil,.nil,trivial⟩,.refl _,trivial⟩
theorem TV{x:List Rl}{roots:List Rq}(hx:∀r∈x,Gf r)(hr:∀q∈roots,H4 q)(h0:A7 x=0)(h1:Bm roots=0){L:List ByteArray}(hl:L.Perm (AP (yR x) [])){o:J7}(ho:FP x roots=o) :
  Bo Tryz.prog 45 [.ref 1000 0] (Af (HX roots (mC x) (L.map (kA x)) J4 [] []) Aa) (YL roots (mC x) (L.map (kA x)) o):=by
 rw[←ho];exact yh (fC hx hr h0 h1 hl) (x.length+1) (.nil x) (IN.nil roots) ⟨⟨rfl,AL _⟩,Fo⟩ rfl (Nat.lt_succ_of_le (By _ _)) rfl
theorem My{x:List Rl}{roots:List Rq}(h:CI x roots=true):A7 x=0∧Bm roots=0:=by
 unfold CI at h;rw[Ag,AE,AE]at h;exact h
set_option maxHeartbeats 4000000 in
theorem lN(x:List Rl)(ifs:List (List AV))(roots:List Rq)(hx:∀r∈x,Gf r)(hr:∀q∈roots,H4 q)(hv:CI x roots=false):PC 21 [Mm x ifs,sl Ap roots] (.tup [.agg (Jo an0),vi 1]):=by
 have KF:=pQ x ifs roots hx hr;rw[hv]at KF;refine Ps lB Tryz.func21 rfl (Nz rfl) ?_;refine Yi ?_ ?_
 ·exact Nz rfl
 refine Xi .pure (Xi _ (Yi KF ?_));refine Yi ?_ ?_
 ·exact Nz rfl
 refine Yi ?_ ?_
 ·exact Nz rfl
 exact GU.an0
set_option maxHeartbeats 4000000 in
theorem iZ(x:List Rl)(ifs:List (List AV))(roots:List Rq)(hx:∀r∈x,Gf r)(hr:∀q∈roots,H4 q)(hv:CI x roots=true)(h0:A7 x=0)(h1:Bm roots=0)(k:Nat)(infs:List Nf)(drv:List (List Tm))(dec:List Cd)(st:List (List Sk))(ho:FP x roots=⟨k,false,⟨infs,drv,true⟩,dec,st⟩):PC 21 [Mm x ifs,sl Ap roots] (.tup [.agg (Jo an0),vi 7]):=by
 have KF:=pQ x ifs roots hx hr;rw[hv]at KF;refine Ps lB Tryz.func21 rfl (Nz rfl) ?_;refine Yi ?_ ?_
 ·exact Nz rfl
 refine Xi .pure (Xi _ (Yi KF ?_));refine Xi ⟨[(1,sl Ap roots),(2,.ref 2 0),(4,.ref 4 0)],[(2,.ro (Ic x ifs)),(4,.cells [vb false,.v (.slice none 0 0),.v (.slice none 0 0),.v (.slice none 0 0)])],Aa⟩ (Yi ⟨Z3,Z2,Fh,Tv⟩ ?_)
 refine Yi ?_ ?_
 ·exact Nz rfl
 refine Xi (.gen [] 5) (Yi rfl ((tN x ifs roots hx h0).imp ?_));intro v g q;refine A8 q (fun L q=>?_);have q1:=q.2.1;have q2:=q.2.2;have qp:=q.1;subst q1;subst q2;refine Xi ⟨[(4,.ref 4 0),(6,.ref 11900 0)],[(4,.cells [vb false,.v (.slice none 0 0),.v (.slice none 0 0),.v (.slice none 0 0)]),(11900,.cells [sl Ap roots,.cmap DI (mC x),.cmap DI (L.map (kA x)),.slice (.id 11901 6) [],.slice (.id 11902 1) [],.mref 11903,vb false,.slice .none [],.slice .none [],.msl 11904 0]),(11901,.tok 6 0),(11902,.tok 1 0),(11903,.map Dw []),(11904,.arr 1 [])],Aa⟩ (Yi ⟨Z2,Z6,Fh,Tv⟩ ?_)
 refine Xi (.gen [(11900,1000),(11901,1001),(11902,1002),(11903,1003),(11904,1004)] 1) (Yi rfl ((TV hx hr h0 h1 qp ho).imp ?_));intro v g q;have q1:=q.1;have q2:=q.2;subst q1;subst q2;refine Xi ⟨[(4,.ref 4 0),(6,.ref 11900 0),(7,vi (k:Nat)),(8,vb false)],[(4,.cells [vb false,.v (.slice none 0 0),.v (.slice none 0 0),.v (.slice none 0 0)]),(11900,.cells [sl Ap roots,.cmap DI (mC x),.cmap DI (L.map (kA x)),.slice (.id 11901 6) (infs.map BO),.slice (.id 11902 1) (drv.map B4),.mref 11903,vb true,sl Ax dec,sl Ah (Am dec),.msl 12200 st.length]),(11901,.tok 6 infs.length),(11902,.tok 1 drv.length),(11903,.map Dw (DX 0 infs)),(12200,.arr 1 (st.map AS))],Aa⟩ (Yi ⟨Z4,Z6,Fh,Tv⟩ ?_)
 refine Yi (fun _=>?_) (fun h=>by cases h);refine Xi ⟨[(4,.ref 4 0)],[(4,.cells [vb false,.v (.slice none 0 0),.v (.slice none 0 0),.v (.slice none 0 0)])],Aa⟩ (Yi ⟨Z1,Z1,Fh,Tv⟩ ?_)
 refine Yi ?_ ?_
 ·exact Nz rfl
 refine Yi ?_ ?_
 ·exact Nz rfl
 exact GU.an0
set_option maxHeartbeats 4000000 in
theorem oZ(x:List Rl)(ifs:List (List AV))(roots:List Rq)(hx:∀r∈x,Gf r)(hr:∀q∈roots,H4 q)(hv:CI x roots=true)(h0:A7 x=0)(h1:Bm roots=0)(k:Nat)(infs:List Nf)(drv:List (List Tm))(dec:List Cd)(st:List (List Sk))(ho:FP x roots=⟨k,false,⟨infs,drv,false⟩,dec,st⟩)(hk:k<infs.length)(hl:infs.length≤65536):PC 21 [Mm x ifs,sl Ap roots] (.tup [.agg (Jo ⟨false,[],infs.take (k+1),[]⟩),vi 0]):=by
 have KF:=pQ x ifs roots hx hr;rw[hv]at KF;refine Ps lB Tryz.func21 rfl (Nz rfl) ?_;refine Yi ?_ ?_
 ·exact Nz rfl
 refine Xi .pure (Xi _ (Yi KF ?_));refine Xi ⟨[(1,sl Ap roots),(2,.ref 2 0),(4,.ref 4 0)],[(2,.ro (Ic x ifs)),(4,.cells [vb false,.v (.slice none 0 0),.v (.slice none 0 0),.v (.slice none 0 0)])],Aa⟩ (Yi ⟨Z3,Z2,Fh,Tv⟩ ?_)
 refine Yi ?_ ?_
 ·exact Nz rfl
 refine Xi (.gen [] 5) (Yi rfl ((tN x ifs roots hx h0).imp ?_));intro v g q;refine A8 q (fun L q=>?_);have q1:=q.2.1;have q2:=q.2.2;have qp:=q.1;subst q1;subst q2;refine Xi ⟨[(4,.ref 4 0),(6,.ref 11900 0)],[(4,.cells [vb false,.v (.slice none 0 0),.v (.slice none 0 0),.v (.slice none 0 0)]),(11900,.cells [sl Ap roots,.cmap DI (mC x),.cmap DI (L.map (kA x)),.slice (.id 11901 6) [],.slice (.id 11902 1) [],.mref 11903,vb false,.slice .none [],.slice .none [],.msl 11904 0]),(11901,.tok 6 0),(11902,.tok 1 0),(11903,.map Dw []),(11904,.arr 1 [])],Aa⟩ (Yi ⟨Z2,Z6,Fh,Tv⟩ ?_)
 refine Xi (.gen [(11900,1000),(11901,1001),(11902,1002),(11903,1003),(11904,1004)] 1) (Yi rfl ((TV hx hr h0 h1 qp ho).imp ?_));intro v g q;have q1:=q.1;have q2:=q.2;subst q1;subst q2;refine Xi ⟨[(4,.ref 4 0),(6,.ref 11900 0),(7,vi (k:Nat)),(8,vb false)],[(4,.cells [vb false,.v (.slice none 0 0),.v (.slice none 0 0),.v (.slice none 0 0)]),(11900,.cells [sl Ap roots,.cmap DI (mC x),.cmap DI (L.map (kA x)),.slice (.id 11901 6) (infs.map BO),.slice (.id 11902 1) (drv.map B4),.mref 11903,vb false,sl Ax dec,sl Ah (Am dec),.msl 12200 st.length]),(11901,.tok 6 infs.length),(11902,.tok 1 drv.length),(11903,.map Dw (DX 0 infs)),(12200,.arr 1 (st.map AS))],Aa⟩ (Yi ⟨Z4,Z6,Fh,Tv⟩ ?_)
 refine Yi (fun h=>by cases h) (fun _=>?_);refine Xi ⟨[(4,.ref 4 0),(6,.ref 11900 0),(7,vi (k:Nat)),(8,vb false)],[(4,.cells [vb false,.v (.slice none 0 0),.v (.slice none 0 0),.v (.slice none 0 0)]),(11900,.cells [sl Ap roots,.cmap DI (mC x),.cmap DI (L.map (kA x)),.slice (.id 11901 6) (infs.map BO),.slice (.id 11902 1) (drv.map B4),.mref 11903,vb false,sl Ax dec,sl Ah (Am dec),.msl 12200 st.length]),(11901,.tok 6 infs.length),(11902,.tok 1 drv.length),(11903,.map Dw (DX 0 infs)),(12200,.arr 1 (st.map AS))],Aa⟩ (Yi ⟨Z4,Z6,Fh,Tv⟩ ?_)
 refine Xi ⟨[(4,.ref 4 0),(6,.ref 11900 0),(7,vi (k:Nat))],[(4,.cells [vb false,.v (.slice none 0 0),.v (.slice none 0 0),.v (.slice none 0 0)]),(11900,.cells [sl Ap roots,.cmap DI (mC x),.cmap DI (L.map (kA x)),.slice (.id 11901 6) (infs.map BO),.slice (.id 11902 1) (drv.map B4),.mref 11903,vb false,sl Ax dec,sl Ah (Am dec),.msl 12200 st.length]),(11901,.tok 6 infs.length),(11902,.tok 1 drv.length),(11903,.map Dw (DX 0 infs)),(12200,.arr 1 (st.map AS))],Aa⟩ (Yi ⟨Z3,Z6,Fh,Tv⟩ ?_)
 refine Yi (Ii k (by omega)) ?_;have el:(infs.map BO).length=infs.length:=Lm ..;refine Yi ⟨BQ _,by show(0:Int)≤(k:Int)+1;omega,by show(k:Int)+1≤((infs.map BO).length:Int);rw[el];omega⟩ ?_;refine Yi (fun cs hcs=>by obtain⟨i,_,rfl⟩:=Aq.1 hcs;rfl) ?_;refine Yi ?_ ?_
 ·exact Nz rfl
 refine Yi ?_ ?_
 ·exact Nz rfl
 have et:((infs.map BO).take ((k:Int)+1).toNat).drop (0:Int).toNat=(infs.take (k+1)).map BO:=by
  rw[show((k:Int)+1).toNat=k+1 by omega];simp
 exact GU.tup ⟨GU.agg ⟨.refl _,.nil,.of_eq (show AV.slice .none (((infs.map BO).take ((k:Int)+1).toNat).drop (0:Int).toNat)=_ by rw[et]),.nil,trivial⟩,.refl _,trivial⟩
theorem U6(y:Sl):∀l:List Sl,(Ur y l).Perm (y::l)
 | []=>.refl _
 |z::l=>by
  unfold Ur;split
  ·exact .refl _
  ·exact((U6 y l).cons z).trans (List.Perm.swap y z l)
theorem Lu:∀l:List Sl,(Dm l).Perm l
 | []=>.refl _
 |y::l=>(U6 y _).trans ((Lu l).cons y)
theorem Xo{b:Nat}:∀{st:List (List Sk)},(∀s∈st,s.length≤b)→st.flatten.length≤b*st.length
 | [],_=>by simp
 |s::st,h=>by
  rw[Bq,Ad,Ak,Nat.mul_succ]
  have:=h s (Ab ..)
  have:=Xo (st:=st) fun t ht=>h t (Ai _ ht)
  omega
theorem jb{st:List (List Sk)}(h:st.length≤256)(hs:∀s∈st,s.length≤256)(i:Nat):((st.take i).flatten).length≤65536:=by
 have h1:=Xo (b:=256) (st:=st.take i) fun s T4=>hs s (DT T4)
 have:(st.take i).length≤256:=by rw[AK];omega
 omega
set_option maxHeartbeats 4000000 in
theorem lO(x:List Rl)(ifs:List (List AV))(roots:List Rq)(hx:∀r∈x,Gf r)(hr:∀q∈roots,H4 q)(hv:CI x roots=true)(h0:A7 x=0)(h1:Bm roots=0)(k:Nat)(infs:List Nf)(drv:List (List Tm))(dec:List Cd)(st:List (List Sk))(ho:FP x roots=⟨k,true,⟨infs,drv,false⟩,dec,st⟩)(hd:dec.length≤256)(hn:((Am dec).map (·.path)).Nodup)(Gy:st.length≤256)(zo:∀s∈st,s.length≤256):PC 21 [Mm x ifs,sl Ap roots] (.tup [.agg (Jo ⟨true,Dm (Am dec),infs,st.flatten⟩),vi 0]):=by
 have KF:=pQ x ifs roots hx hr;rw[hv]at KF;refine Ps lB Tryz.func21 rfl (Nz rfl) ?_;refine Yi ?_ ?_
 ·exact Nz rfl
 refine Xi .pure (Xi _ (Yi KF ?_));refine Xi ⟨[(1,sl Ap roots),(2,.ref 2 0),(4,.ref 4 0)],[(2,.ro (Ic x ifs)),(4,.cells [vb false,.v (.slice none 0 0),.v (.slice none 0 0),.v (.slice none 0 0)])],Aa⟩ (Yi ⟨Z3,Z2,Fh,Tv⟩ ?_)
 refine Yi ?_ ?_
 ·exact Nz rfl
 refine Xi (.gen [] 5) (Yi rfl ((tN x ifs roots hx h0).imp ?_));intro v g q;refine A8 q (fun L q=>?_);have q1:=q.2.1;have q2:=q.2.2;have qp:=q.1;subst q1;subst q2;refine Xi ⟨[(4,.ref 4 0),(6,.ref 11900 0)],[(4,.cells [vb false,.v (.slice none 0 0),.v (.slice none 0 0),.v (.slice none 0 0)]),(11900,.cells [sl Ap roots,.cmap DI (mC x),.cmap DI (L.map (kA x)),.slice (.id 11901 6) [],.slice (.id 11902 1) [],.mref 11903,vb false,.slice .none [],.slice .none [],.msl 11904 0]),(11901,.tok 6 0),(11902,.tok 1 0),(11903,.map Dw []),(11904,.arr 1 [])],Aa⟩ (Yi ⟨Z2,Z6,Fh,Tv⟩ ?_)
 refine Xi (.gen [(11900,1000),(11901,1001),(11902,1002),(11903,1003),(11904,1004)] 1) (Yi rfl ((TV hx hr h0 h1 qp ho).imp ?_));intro v g q;have q1:=q.1;have q2:=q.2;subst q1;subst q2;refine Xi ⟨[(4,.ref 4 0),(6,.ref 11900 0),(7,vi (k:Nat)),(8,vb true)],[(4,.cells [vb false,.v (.slice none 0 0),.v (.slice none 0 0),.v (.slice none 0 0)]),(11900,.cells [sl Ap roots,.cmap DI (mC x),.cmap DI (L.map (kA x)),.slice (.id 11901 6) (infs.map BO),.slice (.id 11902 1) (drv.map B4),.mref 11903,vb false,sl Ax dec,sl Ah (Am dec),.msl 12200 st.length]),(11901,.tok 6 infs.length),(11902,.tok 1 drv.length),(11903,.map Dw (DX 0 infs)),(12200,.arr 1 (st.map AS))],Aa⟩ (Yi ⟨Z4,Z6,Fh,Tv⟩ ?_)
 refine Yi (fun h=>by cases h) (fun _=>?_);refine Xi ⟨[(4,.ref 4 0),(6,.ref 11900 0),(8,vb true)],[(4,.cells [vb false,.v (.slice none 0 0),.v (.slice none 0 0),.v (.slice none 0 0)]),(11900,.cells [sl Ap roots,.cmap DI (mC x),.cmap DI (L.map (kA x)),.slice (.id 11901 6) (infs.map BO),.slice (.id 11902 1) (drv.map B4),.mref 11903,vb false,sl Ax dec,sl Ah (Am dec),.msl 12200 st.length]),(11901,.tok 6 infs.length),(11902,.tok 1 drv.length),(11903,.map Dw (DX 0 infs)),(12200,.arr 1 (st.map AS))],Aa⟩ (Yi ⟨Z3,Z6,Fh,Tv⟩ ?_)
 refine Xi ⟨[(4,.ref 4 0),(6,.ref 11900 0)],[(4,.cells [vb false,.v (.slice none 0 0),.v (.slice none 0 0),.v (.slice none 0 0)]),(11900,.cells [sl Ap roots,.cmap DI (mC x),.cmap DI (L.map (kA x)),.slice (.id 11901 6) (infs.map BO),.slice (.id 11902 1) (drv.map B4),.mref 11903,vb false,sl Ax dec,sl Ah (Am dec),.msl 12200 st.length]),(11901,.tok 6 infs.length),(11902,.tok 1 drv.length),(11903,.map Dw (DX 0 infs)),(12200,.arr 1 (st.map AS))],Aa⟩ (Yi ⟨Z2,Z6,Fh,Tv⟩ ?_)
 have mj:(Am dec).length≤256:=by rw[Lm];exact hd
 have XD:CK (Am dec):=Bu mj (by decide);refine Xi (Am dec).length (Xi 4 (Xi ((Am dec).map Ah) (Yi rfl (Yi (sY (Am dec) XD) ?_))));refine Yi ?_ ?_
 ·exact Nz rfl
 refine Yi (by kernel_rfl) ?_;refine Xi ⟨[(4,.ref 4 0),(6,.ref 11900 0),(9,.ref 9 0)],[(4,.cells [vb false,.v (.slice none 0 0),.v (.slice none 0 0),.v (.slice none 0 0)]),(9,.cells [vb true,.msl 14400 (Am dec).length,.slice (.id 11901 6) (infs.map BO),.v (.slice none 0 0)]),(11900,.cells [sl Ap roots,.cmap DI (mC x),.cmap DI (L.map (kA x)),.slice (.id 11901 6) (infs.map BO),.slice (.id 11902 1) (drv.map B4),.mref 11903,vb false,sl Ax dec,sl Ah (Am dec),.msl 12200 st.length]),(11901,.tok 6 infs.length),(11902,.tok 1 drv.length),(11903,.map Dw (DX 0 infs)),(12200,.arr 1 (st.map AS)),(14400,.arr 4 ((Am dec).map Ah))],Aa⟩ (Yi ⟨Z3,Z8,Fh,Tv⟩ ?_)
 refine Xi (.gen [(14400,1000)] 0) (Yi rfl ((zO 48 Tryz.closure48 (enters_of Tryz.func48 (by kernel_rfl) rfl) (Am dec) XD hn).imp ?_));intro v g q;have q1:=q.1;have q2:=q.2;subst q1;subst q2;refine Xi ⟨[(4,.ref 4 0),(6,.ref 11900 0),(9,.ref 9 0)],[(4,.cells [vb false,.v (.slice none 0 0),.v (.slice none 0 0),.v (.slice none 0 0)]),(9,.cells [vb true,.msl 14400 (Am dec).length,.slice (.id 11901 6) (infs.map BO),.slice (.id 95 3) []]),(95,.tok 3 0),(11900,.cells [sl Ap roots,.cmap DI (mC x),.cmap DI (L.map (kA x)),.slice (.id 11901 6) (infs.map BO),.slice (.id 11902 1) (drv.map B4),.mref 11903,vb false,sl Ax dec,sl Ah (Am dec),.msl 12200 st.length]),(11901,.tok 6 infs.length),(11902,.tok 1 drv.length),(11903,.map Dw (DX 0 infs)),(12200,.arr 1 (st.map AS)),(14400,.arr 4 ((Dm (Am dec)).map Ah))],Aa⟩ (Yi ⟨Z3,Z9,Fh,Tv⟩ ?_)
 refine Xi {i:Nat // i≤st.length} (Xi (fun i=>⟨[(4,.ref 4 0),(6,.ref 11900 0),(9,.ref 9 0),(56,.msl 12200 st.length),(57,vi (st.length:Nat)),(58,vi i.1)],[(4,.cells [vb false,.v (.slice none 0 0),.v (.slice none 0 0),.v (.slice none 0 0)]),(9,.cells [vb true,.msl 14400 (Am dec).length,.slice (.id 11901 6) (infs.map BO),.slice (.id 95 3) ((st.take i.1).flatten.map BD)]),(95,.tok 3 ((st.take i.1).flatten.map BD).length),(11900,.cells [sl Ap roots,.cmap DI (mC x),.cmap DI (L.map (kA x)),.slice (.id 11901 6) (infs.map BO),.slice (.id 11902 1) (drv.map B4),.mref 11903,vb false,sl Ax dec,sl Ah (Am dec),.msl 12200 st.length]),(11901,.tok 6 infs.length),(11902,.tok 1 drv.length),(11903,.map Dw (DX 0 infs)),(12200,.arr 1 (st.map AS)),(14400,.arr 4 ((Dm (Am dec)).map Ah))],Aa⟩) (Xi (fun i=>st.length-i.1) (Yi (Xi ⟨0,AL _⟩ ?_) ?_)))
 ·exact⟨Z6,Z9,Fh,Tv⟩
 intro⟨i,i1⟩;have i1:i≤st.length:=i1;refine Yi ?_ ?_
 ·intro h;have h:(i:Int)<(st.length:Nat):=h;have h:i<st.length:=by omega
  have hg:st[i]?=some st[i]:=Ge h;have KG:st.take (i+1)=st.take i++[st[i]]:=by rw[Bb,hg];rfl
  refine Yi (Yi (Nn i) (by show(i:Int)<(st.length:Nat);omega)) ?_;refine Yi (by rw[Lm]) (Xi (AS st[i]) (Yi (by show(st.map AS)[((i:Nat):Int).toNat]?=_;rw[A6,AI,hg];rfl) ?_));refine Xi ⟨[(4,.ref 4 0),(6,.ref 11900 0),(9,.ref 9 0),(11,sl BD st[i]),(56,.msl 12200 st.length),(57,vi (st.length:Nat)),(58,vi i)],[(4,.cells [vb false,.v (.slice none 0 0),.v (.slice none 0 0),.v (.slice none 0 0)]),(9,.cells [vb true,.msl 14400 (Am dec).length,.slice (.id 11901 6) (infs.map BO),.slice (.id 95 3) ((st.take i).flatten.map BD)]),(95,.tok 3 ((st.take i).flatten.map BD).length),(11900,.cells [sl Ap roots,.cmap DI (mC x),.cmap DI (L.map (kA x)),.slice (.id 11901 6) (infs.map BO),.slice (.id 11902 1) (drv.map B4),.mref 11903,vb false,sl Ax dec,sl Ah (Am dec),.msl 12200 st.length]),(11901,.tok 6 infs.length),(11902,.tok 1 drv.length),(11903,.map Dw (DX 0 infs)),(12200,.arr 1 (st.map AS)),(14400,.arr 4 ((Dm (Am dec)).map Ah))],Aa⟩ (Yi ⟨Z7,Z9,Fh,Tv⟩ ?_)
  have hfl:((st.take i).flatten).length≤65536∧st[i].length≤256:=⟨jb Gy zo i,zo _ (Aj _)⟩;have GI:B1 3 (st[i].map BD)∧((st.take i).flatten.map BD).length=((st.take i).flatten.map BD).length∧(((st.take i).flatten.map BD).length+(st[i].map BD).length)*32≤140737488355328∧((st.take i).flatten.map BD).length+(st[i].map BD).length≤9223372036854775807:=by
   refine⟨DQ (enc:=BD) (n:=3) (fun _=>rfl) _,rfl,?_,?_⟩<;>simp only[Lm]<;>omega
  refine Yi GI ?_;refine Yi ?_ ?_
  ·exact Nz rfl
  have ef:((st.take i).flatten.map BD)++st[i].map BD=((st.take (i+1)).flatten.map BD):=by rw[KG,Cc,AA];simp
  have en:((st.take i).flatten.map BD).length+(st[i].map BD).length=((st.take (i+1)).flatten.map BD).length:=by rw[←ef,Ad]
  refine Xi ⟨[(4,.ref 4 0),(6,.ref 11900 0),(9,.ref 9 0),(56,.msl 12200 st.length),(57,vi (st.length:Nat)),(58,vi i)],[(4,.cells [vb false,.v (.slice none 0 0),.v (.slice none 0 0),.v (.slice none 0 0)]),(9,.cells [vb true,.msl 14400 (Am dec).length,.slice (.id 11901 6) (infs.map BO),.slice (.id 95 3) ((st.take (i+1)).flatten.map BD)]),(95,.tok 3 ((st.take (i+1)).flatten.map BD).length),(11900,.cells [sl Ap roots,.cmap DI (mC x),.cmap DI (L.map (kA x)),.slice (.id 11901 6) (infs.map BO),.slice (.id 11902 1) (drv.map B4),.mref 11903,vb false,sl Ax dec,sl Ah (Am dec),.msl 12200 st.length]),(11901,.tok 6 infs.length),(11902,.tok 1 drv.length),(11903,.map Dw (DX 0 infs)),(12200,.arr 1 (st.map AS)),(14400,.arr 4 ((Dm (Am dec)).map Ah))],Aa⟩ (Yi ⟨Z6,⟨Zr,⟨Ac (fun z=>HO.cells [vb true,.msl 14400 (Am dec).length,.slice (.id 11901 6) (infs.map BO),.slice (.id 95 3) z]) ef,rfl⟩,⟨Ac (HO.tok 3) en,rfl⟩,Zr,Zr,Zr,Zr,Zr,Zr,Tv⟩,Fh,Tv⟩ ?_)
  refine Yi (Ii i (by omega)) ?_;refine Xi ⟨i+1,by omega⟩ ?_;exact⟨Dl st.length i (by omega),Z6,Z9,Fh,Tv⟩
 ·intro h;have h:¬(i:Int)<(st.length:Nat):=h;have et:st.take i=st:=Az (by omega);have T5:(Am dec).length=((Dm (Am dec)).map Ah).length:=(Lu (Am dec)).length_eq.symm.trans (Lm ..).symm;refine Yi T5 ?_;refine Xi ⟨[(4,.ref 4 0),(9,.ref 9 0)],[(4,.cells [vb false,.v (.slice none 0 0),.v (.slice none 0 0),.v (.slice none 0 0)]),(9,.cells [vb true,.slice (.id 14400 4) ((Dm (Am dec)).map Ah),.slice (.id 11901 6) (infs.map BO),.slice (.id 95 3) (st.flatten.map BD)]),(95,.tok 3 (st.flatten.map BD).length),(11901,.tok 6 infs.length),(14400,.tok 4 ((Dm (Am dec)).map Ah).length)],Aa⟩ (Yi ⟨Z2,⟨Zr,⟨Ac (fun z:List (List Sk)=>HO.cells [vb true,.slice (.id 14400 4) ((Dm (Am dec)).map Ah),.slice (.id 11901 6) (infs.map BO),.slice (.id 95 3) (z.flatten.map BD)]) et,rfl⟩,⟨Ac (fun z:List (List Sk)=>HO.tok 3 (z.flatten.map BD).length) et,rfl⟩,Zr,Zr,Tv⟩,Fh,Tv⟩ ?_)
  refine Yi ?_ ?_
  ·exact Nz rfl
  refine Yi ?_ ?_
  ·exact Nz rfl
  refine Yi ?_ ?_
  ·exact Nz rfl
  exact .refl _
end Go.Eng

namespace Go.Eng
open Go.Proofs
theorem Qi{s:SS}{b:List Cd}{p:ByteArray}{needs:List Nd}:∀{cs:List Cd} {sk:List Sk},G3 s b p needs cs sk→sk.length≤cs.length
 | [],sk,h=>by
  have h:sk=[]:=h;rw[h];exact Ao _
 |c::cs,sk,h=>by
  have h:if(needs.all fun n=>has n.rq.set c.place)=true then _ else _:=h
  by_cases hc:(needs.all fun n=>has n.rq.set c.place)=true
  ·rw[AB hc]at h;obtain⟨k,rest,rfl,_,h3⟩:=h
   have:=Qi h3
   simp only[Ak];omega
  ·rw[Ar hc]at h
   have:=Qi h
   simp only[Ak];omega
theorem UO{x:List Rl}{roots:List Rq}{s:SS}:∀{t:List Cd} {sl:List (List Sk)} {b:List Cd},RR x roots s b t sl→sl.length=t.length∧∀k∈sl,k.length≤x.length
 | [],[],_,_=>⟨rfl,fun _ h=>by cases h⟩
 | [],_::_,_,h=>h.elim
 |_::_,[],_,h=>h.elim
 |c::t,sk::sl,b,⟨⟨p,needs,pre,post,hs⟩,h⟩=>by
  obtain⟨h1,h2⟩:=UO h;refine⟨by simp[h1],fun k hk=>?_⟩;rcases AF.1 hk with rfl | hk
  ·have e1:=Qi hs.skips;have e2:=Px x p;rw[hs.cands,Ad]at e2;omega
  ·exact h2 k hk
theorem tM(x:List Rl)(ifs:List (List AV))(roots:List Rq)(hx:∀r∈x,Gf r)(hr:∀q∈roots,H4 q):PC 21 [Mm x ifs,sl Ap roots] (aa x roots):=by
 unfold aa GE GF;cases hv:CI x roots with
 |false=>simpa using lN x ifs roots hx hr hv
 |true =>
  obtain⟨h0,h1⟩:=My hv;have hR:=dI h0 h1;have QO:=(Kd h0).1;have hA:p7 x roots=if(FP x roots).found=true then⟨true,Dm (Am (FP x roots).dec),(FP x roots).ss.infs,(FP x roots).stack.flatten⟩else⟨false,[],(FP x roots).ss.infs.take ((FP x roots).res+1),[]⟩:=rfl
  rw[hA];generalize ho:FP x roots=o at hR⊢;obtain⟨k,b,⟨infs,drv,full⟩,dec,st⟩:=o;have hl:infs.length≤65536:=hR.der.len;have hdl:drv.length=infs.length:=hR.der.dlen;cases b with
  |false =>
   cases full with
   |true=>simpa using iZ x ifs roots hx hr hv h0 h1 k infs drv dec st ho
   |false =>
    have hk:k<drv.length:=((hR.no rfl).2.2 rfl).1;simpa using oZ x ifs roots hx hr hv h0 h1 k infs drv dec st ho (by omega) hl
  |true =>
   obtain⟨hf,t,sl,e1,e2,hC,_⟩:=hR.yes rfl;have hf:full=false:=hf;subst hf;have e1:dec=[]++t:=e1;have e2:st=[]++sl:=e2;rw[EU]at e1 e2;subst e1;subst e2;have hD:DY x ([]++dec):=(RR.ok (.nil x) (.nil roots) hC).1;rw[EU]at hD;have hdx:=L7 hD;obtain⟨c1,c2⟩:=UO hC;have hn:((Am dec).map (·.path)).Nodup:=by rw[Jv];exact hD.nodup
   simpa using lO x ifs roots hx hr hv h0 h1 k infs drv dec st ho (by omega) hn (by omega) (fun s hs=>Bu (c2 s hs) QO)
def dG(x:List Rl)(roots:List Rq):Int:=if GF x roots≠0 then GF x roots else if(GE x roots).found=true then 0 else 17
def i9(x:List Rl)(roots:List Rq):List Sl:=if dG x roots=0 then(GE x roots).sel else []
abbrev xf:QA:=⟨[2],[],[],[],[],[],[],[],[],[],[]⟩
set_option maxHeartbeats 4000000 in
theorem oY(x:List Rl)(ifs:List (List AV))(roots:List Rq)(a:An)(e:Int)(h:PC 21 [Mm x ifs,sl Ap roots] (.tup [.agg (Jo a),vi e])) :
  PC 16 [Mm x ifs,sl Ap roots] (.tup [if e≠0 then sl Ah []else if a.found=true then sl Ah a.sel else sl Ah [],vi (if e≠0 then e else if a.found=true then 0 else 17)]):=by
 refine Ps xf Tryz.func16 rfl (Nz rfl) ?_;refine Yi ?_ ?_
 ·exact Nz rfl
 refine Xi .pure (Xi _ (Yi h ?_));refine Yi ?_ ?_
 ·exact Nz rfl
 refine Yi (fun he=>?_) (fun he=>?_)
 ·have he:¬e=0:=he;have e1:AV.tup [sl Ah [],vi e]=.tup [if e≠0 then sl Ah []else if a.found=true then sl Ah a.sel else sl Ah [],vi (if e≠0 then e else if a.found=true then 0 else 17)]:=by rw[AB he,AB he]
  exact(show GU (.tup [.v (.slice none 0 0),vi e]) (.tup [sl Ah ([]:List Sl),vi e])from GU.tup ⟨.nil,.refl _,trivial⟩).trans (.of_eq e1)
 ·have he:e=0:=B3.1 he;have Dy:¬e≠0:=fun h=>h he;refine Yi (fun hb=>?_) (fun hb=>?_)
  ·have hb:a.found=true:=hb;have e1:AV.tup [sl Ah a.sel,vi 0]=.tup [if e≠0 then sl Ah []else if a.found=true then sl Ah a.sel else sl Ah [],vi (if e≠0 then e else if a.found=true then 0 else 17)]:=by rw[Ar Dy,Ar Dy,AB hb,AB hb]
   exact .of_eq e1
  ·have hb:a.found=false:=hb;have hb:¬a.found=true:=by rw[hb];decide
   have e1:AV.tup [sl Ah [],vi 17]=.tup [if e≠0 then sl Ah []else if a.found=true then sl Ah a.sel else sl Ah [],vi (if e≠0 then e else if a.found=true then 0 else 17)]:=by rw[Ar Dy,Ar Dy,Ar hb,Ar hb]
   exact(show GU (.tup [.v (.slice none 0 0),vi 17]) (.tup [sl Ah ([]:List Sl),vi 17])from GU.tup ⟨.nil,.refl _,trivial⟩).trans (.of_eq e1)
theorem s16(x:List Rl)(ifs:List (List AV))(roots:List Rq)(hx:∀r∈x,Gf r)(hr:∀q∈roots,H4 q):PC 16 [Mm x ifs,sl Ap roots] (.tup [sl Ah (i9 x roots),vi (dG x roots)]):=by
 have h:=oY x ifs roots _ _ (tM x ifs roots hx hr);have e1:(if GF x roots≠0 then sl Ah []else if(GE x roots).found=true then sl Ah (GE x roots).sel else sl Ah [])=sl Ah (i9 x roots):=by
  unfold i9 dG
  by_cases h1:GF x roots=0
  ·by_cases h2:(GE x roots).found=true
   ·simp[h1,h2]
   ·simp[h1,h2]
  ·simp[h1]
 have e2:(if GF x roots≠0 then GF x roots else if(GE x roots).found=true then 0 else 17)=dG x roots:=rfl;rw[e1,e2]at h;exact h
end Go.Eng

namespace Go.Eng
open Go.Proofs
abbrev bw:Hq:=[(1009,1009),(1000,1000),(1001,1001),(1002,1002),(1003,1003),(1004,1004),(1005,1005),(1006,1006),(1007,1007),(1008,1008)]
abbrev Bs(l:List Sl):List AV:=[sl Ah l]
abbrev Hy(yl:Nat):List AV:=[.ref 1005 0,.cptr [.v (.func (.yield yl) #[] #[])],.ref 1006 0]
abbrev vH(roots:List Rq)(C A:List (Value×AV))(yl:Nat)(o:Obj)(dec:List Cd)(out:List (List Sl)):List (Nat×HO) :=
 [(1009,.raw yl o),(1000,.cells (Pe roots C A J4 dec 0)),(1001,.tok 6 0),(1002,.tok 1 0),(1003,.map Dw []),(1004,.arr 1 []),(1005,.cells [.ref 1000 0]),(1006,.cells [.clo 63 (Hy yl)]),(1007,.cells [.slice (.id 1008 1) (out.map Bs)]),(1008,.tok 1 out.length)]
noncomputable abbrev vo(pl:QA)(l:Nat)(Y:Gh→World→Prop):Cx:=⟨Tryz.prog,jI,pl,true,0,fun l' σ' g w=>l'=l→σ'=bw→Y g w⟩
abbrev pZ(H:List (Nat×HO))(Y:Gh→World→Prop):Prop:=∀g w h' g' w',Dx w g (Af H Aa) (Af H Aa) g w→Dx w g (Af H Aa) h' g' w'→Le (Af H Aa) g w h' g' w'→Y g w→Y (CO bw g') w'
abbrev LV(l:List (List Cd)):List (List Sl):=l.map fun d=>Dm (Am d)
abbrev Ro(x:List Rl)(roots:List Rq)(n:Nat)(dec:List Cd)(N:List Nd)(c:Cd):List (List Cd):=if Vk dec N c then BS x roots n (dec++[c])else []
abbrev VQ(roots:List Rq)(C A:List (Value×AV))(yl M:Nat)(ob:Bool→Obj)(dec:List Cd)(o:List (List Sl)):AV→(Nat→HO)→Prop :=
 fun r h'=>r=vb (decide (o.length≤M))∧h'=Af (vH roots C A yl (ob (decide (o.length≤M))) dec (o.take M)) Aa
theorem VQ.le{roots:List Rq}{C A:List (Value×AV)}{yl M:Nat}{ob:Bool→Obj}{dec:List Cd}{o:List (List Sl)}{r:AV}{h' : Nat→HO}(hq:VQ roots C A yl M ob dec o r h')(h:o.length≤M) :
  r=vb true∧h'=Af (vH roots C A yl (ob true) dec o) Aa:=by
 obtain⟨a,b⟩:=hq;rw[Av h]at a b;rw[Az h]at b;exact⟨a,b⟩
theorem VQ.gt{roots:List Rq}{C A:List (Value×AV)}{yl M:Nat}{ob:Bool→Obj}{dec:List Cd}{o:List (List Sl)}{r:AV}{h' : Nat→HO}(hq:VQ roots C A yl M ob dec o r h')(h:¬o.length≤M) :
  r=vb false∧h'=Af (vH roots C A yl (ob false) dec (o.take M)) Aa:=by
 obtain⟨a,b⟩:=hq;rw[At h]at a b;exact⟨a,b⟩
theorem VQ.of_le{roots:List Rq}{C A:List (Value×AV)}{yl M:Nat}{ob:Bool→Obj}{dec:List Cd}{o o' : List (List Sl)}(e:o'=o)(h:o'.length≤M):VQ roots C A yl M ob dec o (vb true) (Af (vH roots C A yl (ob true) dec o') Aa):=by
 subst e;refine⟨?_,?_⟩
 ·rw[Av h]
 ·rw[Av h,Az h]
theorem VQ.of_gt{roots:List Rq}{C A:List (Value×AV)}{yl M:Nat}{ob:Bool→Obj}{dec:List Cd}{o o' : List (List Sl)}(h:¬o'.length≤M)(e:∃z,o=o'++z):VQ roots C A yl M ob dec o (vb false) (Af (vH roots C A yl (ob false) dec (o'.take M)) Aa):=by
 obtain⟨z,rfl⟩:=e;have h2:¬(o'++z).length≤M:=by rw[Ad];omega
 refine⟨?_,?_⟩
 ·rw[At h2]
 ·rw[At h2,D8 (by omega)]
structure tU(x:List Rl)(roots:List Rq)(C A:List (Value×AV))(Y:Gh→World→Prop)(yl M n:Nat)(ob:Bool→Obj)(dec:List Cd)(p:ByteArray)(n0:Nd)(l:List Nd)(cs:List Cd):Prop where
 hdl:dec.length≤256
 hcl:cs.length≤256
 hnl:CK (n0::l)
 hnq:∀n∈n0::l,CK n.rq.set
 hcr:∀(i:Nat) (h:i<cs.length),cs[i].rel.reqs.length≤1073741824
 hcs_:∀(i:Nat) (h:i<cs.length),∀q∈cs[i].rel.reqs,CK q.set
 hkey:∀(i:Nat) (h:i<cs.length),(Am dec).map Ah++[[vs p,vi cs[i].rel.ver.a,vi cs[i].rel.ver.b,vi cs[i].rel.ver.c]]=(Am (dec++[cs[i]])).map Ah
 ih:∀(i:Nat) (h:i<cs.length),Vk dec (n0::l) cs[i]=true→∀(out:List (List Sl)),out.length≤M →
  FX Tryz.prog Y 63 (Hy yl) (Af (vH roots C A yl (ob true) (dec++[cs[i]]) out) Aa) (VQ roots C A yl M ob (dec++[cs[i]]) (out++LV (BS x roots n (dec++[cs[i]]))))
def Lw(f:Cd→List (List Cd))(cs:List Cd)(i:Nat):List (List Cd):=((cs.take i).map f).flatten
theorem VD(f:Cd→List (List Cd))(cs:List Cd):Lw f cs 0=[]:=rfl
theorem VC{f:Cd→List (List Cd)}{cs:List Cd}{i:Nat}(h:i<cs.length):Lw f cs (i+1)=Lw f cs i++f cs[i]:=by
 unfold Lw;rw[DL h,AA,Cc];simp
theorem br{f:Cd→List (List Cd)}{cs:List Cd}{i:Nat}(h:i<cs.length)(hf:f cs[i]=[]):Lw f cs (i+1)=Lw f cs i:=by rw[VC h,hf,CY]
theorem s67(n:Nd)(c:Cd)(hq:CK n.rq.set):PC 67 [.agg (AT n),.cptr (Ax c)] (vb (!has n.rq.set c.place)):=by
 refine Ps ⟨[2],[],[],[],[],[],[],[],[],[],[]⟩ Tryz.func67 rfl (Nz rfl) ?_;refine BG (Bt (has n.rq.set c.place)) (fun h1=>?_) (fun h1=>?_)
 ·have h1:(has n.rq.set c.place)=true:=h1;have N6:=(nt n.rq.set c.place hq);rw[show(has n.rq.set c.place)=true from h1]at N6;refine Xi .pure (Xi _ (Yi N6 ?_));exact .of_eq (show vb false=vb (!has n.rq.set c.place) by rw[h1];rfl)
 have h1:(has n.rq.set c.place)=false:=h1;have Xw:=(nt n.rq.set c.place hq);rw[show(has n.rq.set c.place)=false from h1]at Xw;refine Xi .pure (Xi _ (Yi Xw ?_));exact .of_eq (show vb true=vb (!has n.rq.set c.place) by rw[h1];rfl)
end Go.Eng

namespace Go.Eng
open Go.Proofs
theorem ai(f:Cd→List (List Cd))(cs:List Cd)(i:Nat):Lw f cs cs.length=Lw f cs i++((cs.drop i).map f).flatten:=by
 unfold Lw;rw[Do,←Cc,←AA,Ee]
theorem sj{dec:List Cd}{N:List Nd}{c:Cd}(h1:(N.any fun n=>!has n.rq.set c.place)=false)(h2:Co dec c=none):Vk dec N c=true :=
 GL.2 ⟨fun n hn=>by have:=CL.1 h1 n hn;simpa using this,h2⟩
theorem lc{x:List Rl}{roots:List Rq}{n:Nat}{dec:List Cd}{N:List Nd}{c:Cd}(h:(N.any fun n=>!has n.rq.set c.place)=true):Ro x roots n dec N c=[]:=by
 unfold Ro;rw[Ar];intro hc;obtain⟨m,h1,h2⟩:=A3.1 h
 have:=(GL.1 hc).1 m h1
 rw[this]at h2;cases h2
theorem gX{x:List Rl}{roots:List Rq}{n:Nat}{dec:List Cd}{N:List Nd}{c:Cd}{m:Nd}(h:Co dec c=some m):Ro x roots n dec N c=[]:=by
 unfold Ro;rw[Ar];intro hc
 have:=(GL.1 hc).2
 rw[this]at h;cases h
set_option maxHeartbeats 16000000 in
theorem yj(x:List Rl)(roots:List Rq)(C A:List (Value×AV))(Y:Gh→World→Prop)(yl M n:Nat)(ob:Bool→Obj)(dec:List Cd)(out:List (List Sl))(p:ByteArray)(n0:Nd)(l:List Nd)(cs:List Cd)(hL:tU x roots C A Y yl M n ob dec p n0 l cs)(Gy:pZ (vH roots C A yl (ob true) dec out) Y)
  (IG:Bo Tryz.prog 64 [.ref 1000 0] (Af (HX roots C A J4 dec []) Aa) fun r h'=>r=.tup [vs p,sl AT (n0::l)]∧h'=Af (HX roots C A J4 dec []) Aa)
  (vB:∀a,(Value.string p,a)∈C→a=sl Ax cs) (nE:¬∀a,(Value.string p,a)∉C) (SV:BS x roots (n+1) dec=Lw (Ro x roots n dec (n0::l)) cs cs.length) (hM:out.length≤M) :
  FX Tryz.prog Y 63 (Hy yl) (Af (vH roots C A yl (ob true) dec out) Aa) (VQ roots C A yl M ob dec (out++LV (BS x roots (n+1) dec))):=by
 obtain⟨hdl,hcl,hnl,hnq,hcr,hcs_,hkey,ih⟩:=hL;have hdl:dec.length≤256:=hdl;have hcl:cs.length≤256:=hcl;refine Pt (l:=yl) (vo ⟨[8],[],[],[],[],[],[],[],[(63,3),(71,3)],[],[1,2,4,6,8,9,10,11,12,13,14,15,16,17]⟩ yl Y) bw bw rfl CG hm rfl Tryz.func63 (by kernel_rfl) rfl (Nz rfl) (by kernel_rfl) rfl rfl Gy ?_;refine Xi ⟨[(0,.ref 1005 0),(1,.cptr [.v (.func (.yield yl) #[] #[])]),(2,.ref 1006 0)],[(1000,.cells (Pe roots C A J4 dec 0)),(1001,.tok 6 0),(1002,.tok 1 0),(1003,.map Dw []),(1004,.arr 1 []),(1005,.cells [.ref 1000 0]),(1006,.cells [.clo 63 [.ref 1005 0,.cptr [.v (.func (.yield yl) #[] #[])],.ref 1006 0]]),(1007,.cells [.slice (.id 1008 1) (out.map Bs)]),(1008,.tok 1 out.length),(1009,.raw yl (ob true))],Aa⟩ (Yi ⟨Z3,Z10,Fh,As (by kernel_rfl)⟩ ?_)
 refine Xi (.gen Ux 0) (Yi rfl (Bo.imp IG ?_));intro v1 g1 q1;have ZT:=q1.1;have ZU:=q1.2;subst ZT;subst ZU;refine Xi ⟨[(0,.ref 1005 0),(1,.cptr [.v (.func (.yield yl) #[] #[])]),(2,.ref 1006 0),(4,vs p),(5,sl AT (n0::l))],[(1000,.cells (Pe roots C A J4 dec 0)),(1001,.tok 6 0),(1002,.tok 1 0),(1003,.map Dw []),(1004,.arr 1 []),(1005,.cells [.ref 1000 0]),(1006,.cells [.clo 63 [.ref 1005 0,.cptr [.v (.func (.yield yl) #[] #[])],.ref 1006 0]]),(1007,.cells [.slice (.id 1008 1) (out.map Bs)]),(1008,.tok 1 out.length),(1009,.raw yl (ob true))],Aa⟩ (Yi ⟨Z5,Z10,Fh,As (by kernel_rfl)⟩ ?_)
 refine Yi (fun h2=>?_) (fun h2=>?_)
 ·have h2:(((n0::l).map AT).length:Int)=(0:Int):=h2;exact absurd h2 (by simp;omega)
 have h2:¬((((n0::l).map AT).length:Int)=(0:Int)):=h2;refine Xi ⟨[(0,.ref 1005 0),(2,.ref 1006 0),(4,vs p),(5,sl AT (n0::l))],[(1000,.cells (Pe roots C A J4 dec 0)),(1001,.tok 6 0),(1002,.tok 1 0),(1003,.map Dw []),(1004,.arr 1 []),(1005,.cells [.ref 1000 0]),(1006,.cells [.clo 63 [.ref 1005 0,.cptr [.v (.func (.yield yl) #[] #[])],.ref 1006 0]]),(1007,.cells [.slice (.id 1008 1) (out.map Bs)]),(1008,.tok 1 out.length),(1009,.raw yl (ob true))],Aa⟩ (Yi ⟨Z4,Z10,Fh,As (by kernel_rfl)⟩ ?_)
 refine Yi (fun a ha=>?_) (fun NK=>?_)
 ·have ea:=vB a ha;subst ea;refine Xi {q:Nat×List (List Sl) // q.1≤cs.length∧q.2=out++LV (Lw (Ro x roots n dec (n0::l)) cs q.1)∧q.2.length≤M} (Xi (fun q=>⟨[(0,.ref 1005 0),(2,.ref 1006 0),(4,vs p),(5,sl AT (n0::l)),(37,sl Ax cs),(38,vi (cs.map Ax).length),(39,vi q.1.1)],[(1000,.cells (Pe roots C A J4 dec 0)),(1001,.tok 6 0),(1002,.tok 1 0),(1003,.map Dw []),(1004,.arr 1 []),(1005,.cells [.ref 1000 0]),(1006,.cells [.clo 63 [.ref 1005 0,.cptr [.v (.func (.yield yl) #[] #[])],.ref 1006 0]]),(1007,.cells [.slice (.id 1008 1) (q.1.2.map Bs)]),(1008,.tok 1 q.1.2.length),(1009,.raw yl (ob true))],Aa⟩) (Xi (fun q=>cs.length-q.1.1) (Yi (Xi ⟨(0,out),AL _,by rw[VD];simp,hM⟩ ?_) ?_)))
  ·exact⟨Z7,Z10,Fh,As (by kernel_rfl)⟩
  intro⟨⟨i,o⟩,j1,j2,j3⟩;have j1:i≤cs.length:=j1;have j2:o=out++LV (Lw (Ro x roots n dec (n0::l)) cs i):=j2;have j3:o.length≤M:=j3;refine Yi (fun h3=>?_) (fun h3=>?_)
  ·have h3:(i:Int)<((cs.map Ax).length:Int):=h3;have n3:i<cs.length:=by have q:=h3;rw[Lm]at q;omega
   have g3:cs[i]?=some cs[i]:=Ge n3;refine Xi ⟨[(0,.ref 1005 0),(2,.ref 1006 0),(4,vs p),(5,sl AT (n0::l)),(37,sl Ax cs),(38,vi (cs.map Ax).length),(39,vi i)],[(1000,.cells (Pe roots C A J4 dec 0)),(1001,.tok 6 0),(1002,.tok 1 0),(1003,.map Dw []),(1004,.arr 1 []),(1005,.cells [.ref 1000 0]),(1006,.cells [.clo 63 (Hy yl)]),(1007,.cells [.slice (.id 1008 1) (o.map Bs)]),(1008,.tok 1 o.length),(1009,.raw yl (ob true))],Aa⟩ (Yi ⟨Z7,Z10,Fh,As (by kernel_rfl)⟩ ?_)
   refine Xi (Ax cs[i]) (Yi (Yi (Nn i) (B5 g3)) (Yi rfl ?_));refine Yi (Nz rfl) ?_;refine Yi (Nz rfl) ?_;refine Xi ⟨[(0,.ref 1005 0),(2,.ref 1006 0),(4,vs p),(5,sl AT (n0::l)),(8,.ref 8 0),(37,sl Ax cs),(38,vi (cs.map Ax).length),(39,vi i)],[(8,.ro (Ax cs[i])),(1000,.cells (Pe roots C A J4 dec 0)),(1001,.tok 6 0),(1002,.tok 1 0),(1003,.map Dw []),(1004,.arr 1 []),(1005,.cells [.ref 1000 0]),(1006,.cells [.clo 63 (Hy yl)]),(1007,.cells [.slice (.id 1008 1) (o.map Bs)]),(1008,.tok 1 o.length),(1009,.raw yl (ob true))],Aa⟩ (Yi ⟨Z8,Z11,Fh,As (by kernel_rfl)⟩ ?_)
   have ky:=s66 (fF:=67) (caps:=[.cptr (Ax cs[i])]) (fun c hc=>by obtain rfl:=Au.1 hc;intro h;rfl) (n0::l) (fun n=>!has n.rq.set cs[i].place) (fun n hn=>s67 n cs[i] (hnq n hn)) hnl;refine BG (Bt ((n0::l).any fun n=>!has n.rq.set cs[i].place)) (fun h4=>?_) (fun h4=>?_)
   ·skip
    rw[h4]at ky;refine Xi .pure (Xi _ (Yi ky ?_));refine Yi (Ii i (by omega)) ?_;have NK:Ro x roots n dec (n0::l) cs[i]=[]:=lc h4;refine Xi ⟨(i+1,o),DM n3,by rw[j2,br n3 NK],j3⟩ ?_;exact⟨Dl cs.length i (by omega),Z7,Z10,Fh,As (by kernel_rfl)⟩
   skip
   rw[h4]at ky;refine Xi .pure (Xi _ (Yi ky ?_));refine Xi ⟨[(0,.ref 1005 0),(2,.ref 1006 0),(4,vs p),(5,sl AT (n0::l)),(8,.ref 8 0),(37,sl Ax cs),(38,vi (cs.map Ax).length),(39,vi i)],[(8,.ro (Ax cs[i])),(1000,.cells (Pe roots C A J4 dec 0)),(1001,.tok 6 0),(1002,.tok 1 0),(1003,.map Dw []),(1004,.arr 1 []),(1005,.cells [.ref 1000 0]),(1006,.cells [.clo 63 (Hy yl)]),(1007,.cells [.slice (.id 1008 1) (o.map Bs)]),(1008,.tok 1 o.length),(1009,.raw yl (ob true))],Aa⟩ (Yi ⟨Z8,Z11,Fh,As (by kernel_rfl)⟩ ?_)
   refine Yi (Nz rfl) ?_;have ON:=yn roots C A J4 dec [] cs[i] (by omega) (hcr i n3) (hcs_ i n3);refine BG (Wx (Co dec cs[i])) (fun h6=>?_) (fun h6=>?_)
   ·refine A8 h6 (fun nc h6=>?_);have eW:kb (Co dec cs[i])=.tup [.agg (AT nc),vb true]:=by rw[h6];rfl
    rw[eW]at ON;refine Xi (.gen Ux 0) (Yi rfl (Bo.imp ON ?_));intro v7 g7 q7;have xO:=q7.1;have xP:=q7.2;subst xO;subst xP;refine Yi (Nz rfl) ?_;refine Xi ⟨[(0,.ref 1005 0),(2,.ref 1006 0),(4,vs p),(5,sl AT (n0::l)),(8,.ref 8 0),(10,vb true),(37,sl Ax cs),(38,vi (cs.map Ax).length),(39,vi i)],[(8,.ro (Ax cs[i])),(1000,.cells (Pe roots C A J4 dec 0)),(1001,.tok 6 0),(1002,.tok 1 0),(1003,.map Dw []),(1004,.arr 1 []),(1005,.cells [.ref 1000 0]),(1006,.cells [.clo 63 (Hy yl)]),(1007,.cells [.slice (.id 1008 1) (o.map Bs)]),(1008,.tok 1 o.length),(1009,.raw yl (ob true))],Aa⟩ (Yi ⟨Z9,Z11,Fh,As (by kernel_rfl)⟩ ?_)
    refine Yi (Ii i (by omega)) ?_;have NK:Ro x roots n dec (n0::l) cs[i]=[]:=gX h6;refine Xi ⟨(i+1,o),DM n3,by rw[j2,br n3 NK],j3⟩ ?_;exact⟨Dl cs.length i (by omega),Z7,Z10,Fh,As (by kernel_rfl)⟩
   skip
   have eW:kb (Co dec cs[i])=.tup [.agg [vs ⟨#[]⟩,.v (.slice none 0 0),vs ⟨#[]⟩,vi 0,vi 0],vb false]:=by rw[h6];rfl
   rw[eW]at ON;refine Xi (.gen Ux 0) (Yi rfl (Bo.imp ON ?_));intro v9 g9 q9;have oP:=q9.1;have oQ:=q9.2;subst oP;subst oQ;refine Yi (Nz rfl) ?_;refine Xi ⟨[(0,.ref 1005 0),(2,.ref 1006 0),(4,vs p),(5,sl AT (n0::l)),(8,.ref 8 0),(10,vb false),(37,sl Ax cs),(38,vi (cs.map Ax).length),(39,vi i)],[(8,.ro (Ax cs[i])),(1000,.cells (Pe roots C A J4 dec 0)),(1001,.tok 6 0),(1002,.tok 1 0),(1003,.map Dw []),(1004,.arr 1 []),(1005,.cells [.ref 1000 0]),(1006,.cells [.clo 63 (Hy yl)]),(1007,.cells [.slice (.id 1008 1) (o.map Bs)]),(1008,.tok 1 o.length),(1009,.raw yl (ob true))],Aa⟩ (Yi ⟨Z9,Z11,Fh,As (by kernel_rfl)⟩ ?_)
   refine Xi ⟨[(0,.ref 1005 0),(2,.ref 1006 0),(4,vs p),(5,sl AT (n0::l)),(8,.ref 8 0),(37,sl Ax cs),(38,vi (cs.map Ax).length),(39,vi i)],[(8,.ro (Ax cs[i])),(1000,.cells (Pe roots C A J4 dec 0)),(1001,.tok 6 0),(1002,.tok 1 0),(1003,.map Dw []),(1004,.arr 1 []),(1005,.cells [.ref 1000 0]),(1006,.cells [.clo 63 (Hy yl)]),(1007,.cells [.slice (.id 1008 1) (o.map Bs)]),(1008,.tok 1 o.length),(1009,.raw yl (ob true))],Aa⟩ (Yi ⟨Z8,Z11,Fh,As (by kernel_rfl)⟩ ?_)
   refine Yi (by kernel_rfl) ?_;refine Xi ⟨[(0,.ref 1005 0),(2,.ref 1006 0),(4,vs p),(5,sl AT (n0::l)),(8,.ref 8 0),(11,sl Ax dec),(12,sl Ah (Am dec)),(37,sl Ax cs),(38,vi (cs.map Ax).length),(39,vi i)],[(8,.ro (Ax cs[i])),(1000,.cells (Pe roots C A J4 dec 0)),(1001,.tok 6 0),(1002,.tok 1 0),(1003,.map Dw []),(1004,.arr 1 []),(1005,.cells [.ref 1000 0]),(1006,.cells [.clo 63 (Hy yl)]),(1007,.cells [.slice (.id 1008 1) (o.map Bs)]),(1008,.tok 1 o.length),(1009,.raw yl (ob true))],Aa⟩ (Yi ⟨Z10,Z11,Fh,As (by kernel_rfl)⟩ ?_)
   refine Xi _ (Xi _ (Yi (by kernel_rfl) (Yi (o0 dec (by unfold CK;omega)) ?_)));refine Yi (Nz rfl) ?_;have ar:B1 10 [(Ax cs[i])]∧(dec.map Ax).length=(dec.map Ax).length∧((dec.map Ax).length+([(Ax cs[i])]:List (List AV)).length)*128≤140737488355328∧(dec.map Ax).length+([(Ax cs[i])]:List (List AV)).length≤9223372036854775807:=⟨⟨rfl,trivial⟩,rfl,(by simp only[Lm,Ak,Al];omega),(by simp only[Lm,Ak,Al];omega)⟩;refine Yi ar ?_;refine Yi (Nz rfl) ?_;refine Yi (by kernel_rfl) ?_;refine Xi ⟨[(0,.ref 1005 0),(2,.ref 1006 0),(4,vs p),(5,sl AT (n0::l)),(8,.ref 8 0),(11,sl Ax dec),(12,sl Ah (Am dec)),(37,sl Ax cs),(38,vi (cs.map Ax).length),(39,vi i)],[(8,.ro (Ax cs[i])),(1000,.cells [sl Ap roots,.cmap DI C,.cmap DI A,.slice (.id 1001 6) (([]:List Nf).map BO),.slice (.id 1002 1) (([]:List (List Tm)).map B4),.mref 1003,vb J4.full,.slice (.id 16300 10) ((dec.map Ax)++[(Ax cs[i])]),sl Ah (Am dec),.msl 1004 0]),(1001,.tok 6 0),(1002,.tok 1 0),(1003,.map Dw []),(1004,.arr 1 []),(1005,.cells [.ref 1000 0]),(1006,.cells [.clo 63 [.ref 1005 0,.cptr [.v (.func (.yield yl) #[] #[])],.ref 1006 0]]),(1007,.cells [.slice (.id 1008 1) (o.map Bs)]),(1008,.tok 1 o.length),(1009,.raw yl (ob true)),(16300,.tok 10 ((dec.map Ax).length+([(Ax cs[i])]:List (List AV)).length))],Aa⟩ (Yi ⟨Z10,Z12,Fh,As (by kernel_rfl)⟩ ?_)
   refine Xi _ (Xi _ (Yi (by kernel_rfl) (Yi (qv (Am dec) (by unfold CK Am;rw[Lm];omega)) ?_)));refine Yi (Nz rfl) ?_;have eP:B1 4 [[vs p,vi cs[i].rel.ver.a,vi cs[i].rel.ver.b,vi cs[i].rel.ver.c]]∧((Am dec).map Ah).length=((Am dec).map Ah).length∧(((Am dec).map Ah).length+([[vs p,vi cs[i].rel.ver.a,vi cs[i].rel.ver.b,vi cs[i].rel.ver.c]]:List (List AV)).length)*40≤140737488355328∧((Am dec).map Ah).length+([[vs p,vi cs[i].rel.ver.a,vi cs[i].rel.ver.b,vi cs[i].rel.ver.c]]:List (List AV)).length≤9223372036854775807:=⟨⟨rfl,trivial⟩,rfl,(by simp only[Lm,Ak,Al];omega),(by simp only[Lm,Ak,Al];omega)⟩;refine Yi eP ?_;refine Yi (Nz rfl) ?_;refine Yi (by kernel_rfl) ?_;refine Xi ⟨[(0,.ref 1005 0),(2,.ref 1006 0),(4,vs p),(5,sl AT (n0::l)),(11,sl Ax dec),(12,sl Ah (Am dec)),(37,sl Ax cs),(38,vi (cs.map Ax).length),(39,vi i)],[(1000,.cells [sl Ap roots,.cmap DI C,.cmap DI A,.slice (.id 1001 6) (([]:List Nf).map BO),.slice (.id 1002 1) (([]:List (List Tm)).map B4),.mref 1003,vb J4.full,.slice (.id 16300 10) ((dec++[cs[i]]).map Ax),.slice (.id 17100 4) ((Am (dec++[cs[i]])).map Ah),.msl 1004 0]),(1001,.tok 6 0),(1002,.tok 1 0),(1003,.map Dw []),(1004,.arr 1 []),(1005,.cells [.ref 1000 0]),(1006,.cells [.clo 63 [.ref 1005 0,.cptr [.v (.func (.yield yl) #[] #[])],.ref 1006 0]]),(1007,.cells [.slice (.id 1008 1) (o.map Bs)]),(1008,.tok 1 o.length),(1009,.raw yl (ob true)),(16300,.tok 10 ((dec++[cs[i]]).map Ax).length),(17100,.tok 4 ((Am (dec++[cs[i]])).map Ah).length)],Aa⟩ (Yi ⟨Z9,⟨⟨(show(.cells [sl Ap roots,.cmap DI C,.cmap DI A,.slice (.id 1001 6) (([]:List Nf).map BO),.slice (.id 1002 1) (([]:List (List Tm)).map B4),.mref 1003,vb J4.full,.slice (.id 16300 10) ((dec.map Ax)++[(Ax cs[i])]),.slice (.id 17100 4) (((Am dec).map Ah)++[[vs p,vi cs[i].rel.ver.a,vi cs[i].rel.ver.b,vi cs[i].rel.ver.c]]),.msl 1004 0]:HO)=.cells [sl Ap roots,.cmap DI C,.cmap DI A,.slice (.id 1001 6) (([]:List Nf).map BO),.slice (.id 1002 1) (([]:List (List Tm)).map B4),.mref 1003,vb J4.full,.slice (.id 16300 10) ((dec++[cs[i]]).map Ax),.slice (.id 17100 4) ((Am (dec++[cs[i]])).map Ah),.msl 1004 0] by rw[hkey i n3];simp),rfl⟩,Zr,Zr,Zr,Zr,Zr,Zr,Zr,Zr,Zr,⟨(show(.tok 10 ((dec.map Ax).length+([(Ax cs[i])]:List (List AV)).length):HO)=.tok 10 ((dec++[cs[i]]).map Ax).length by simp),rfl⟩,⟨(show(.tok 4 (((Am dec).map Ah).length+([[vs p,vi cs[i].rel.ver.a,vi cs[i].rel.ver.b,vi cs[i].rel.ver.c]]:List (List AV)).length):HO)=.tok 4 ((Am (dec++[cs[i]])).map Ah).length by rw[←hkey i n3,Ad]),rfl⟩,Tv⟩,Fh,As (by kernel_rfl)⟩ ?_)
   have FO:Vk dec (n0::l) cs[i]=true:=sj h4 h6;have Jc:Ro x roots n dec (n0::l) cs[i]=(BS x roots n (dec++[cs[i]])):=by unfold Ro;rw[AB FO]
   have zu:Lw (Ro x roots n dec (n0::l)) cs (i+1)=Lw (Ro x roots n dec (n0::l)) cs i++(BS x roots n (dec++[cs[i]])):=by rw[VC n3,Jc]
   have SW:=ih i n3 FO o j3;refine BG (BV M (o++LV (BS x roots n (dec++[cs[i]]))).length) (fun hb=>?_) (fun hb=>?_)
   ·skip
    refine Xi (.geny bw 0) (Yi rfl (FX.imp (FX.pre SW (fun g w q=>q yl rfl rfl)) ?_));intro v12 g12 YH;have YH:=VQ.gt YH (Nat.not_le.2 hb);have iN:=YH.1;have iO:=YH.2;subst iN;subst iO;refine Xi ⟨[(0,.ref 1005 0),(2,.ref 1006 0),(4,vs p),(5,sl AT (n0::l)),(11,sl Ax dec),(12,sl Ah (Am dec)),(13,vb false),(37,sl Ax cs),(38,vi (cs.map Ax).length),(39,vi i)],[(1000,.cells [sl Ap roots,.cmap DI C,.cmap DI A,.slice (.id 1001 6) (([]:List Nf).map BO),.slice (.id 1002 1) (([]:List (List Tm)).map B4),.mref 1003,vb J4.full,sl Ax (dec++[cs[i]]),sl Ah (Am (dec++[cs[i]])),.msl 1004 0]),(1001,.tok 6 0),(1002,.tok 1 0),(1003,.map Dw []),(1004,.arr 1 []),(1005,.cells [.ref 1000 0]),(1006,.cells [.clo 63 [.ref 1005 0,.cptr [.v (.func (.yield yl) #[] #[])],.ref 1006 0]]),(1007,.cells [.slice (.id 1008 1) (((o++LV (BS x roots n (dec++[cs[i]]))).take M).map Bs)]),(1008,.tok 1 ((o++LV (BS x roots n (dec++[cs[i]]))).take M).length),(1009,.raw yl (ob false))],Aa⟩ (Yi ⟨Z10,Z10,Fh,As (by kernel_rfl)⟩ ?_)
    refine Yi (Nz rfl) ?_;refine Yi (Nz rfl) ?_;refine Yi (by kernel_rfl) ?_;refine Xi ⟨[(0,.ref 1005 0),(2,.ref 1006 0),(4,vs p),(5,sl AT (n0::l)),(13,vb false),(37,sl Ax cs),(38,vi (cs.map Ax).length),(39,vi i)],[(1000,.cells (Pe roots C A J4 dec 0)),(1001,.tok 6 0),(1002,.tok 1 0),(1003,.map Dw []),(1004,.arr 1 []),(1005,.cells [.ref 1000 0]),(1006,.cells [.clo 63 [.ref 1005 0,.cptr [.v (.func (.yield yl) #[] #[])],.ref 1006 0]]),(1007,.cells [.slice (.id 1008 1) (((o++LV (BS x roots n (dec++[cs[i]]))).take M).map Bs)]),(1008,.tok 1 ((o++LV (BS x roots n (dec++[cs[i]]))).take M).length),(1009,.raw yl (ob false))],Aa⟩ (Yi ⟨Z8,Z10,Fh,As (by kernel_rfl)⟩ ?_)
    have oc:=ai (Ro x roots n dec (n0::l)) cs (i+1);exact VQ.of_gt (Nat.not_le.2 hb) (by rw[SV,oc,zu,j2];exact⟨LV (((cs.drop (i+1)).map (Ro x roots n dec (n0::l))).flatten),by simp⟩)
   refine Xi (.geny bw 0) (Yi rfl (FX.imp (FX.pre SW (fun g w q=>q yl rfl rfl)) ?_));intro v12 g12 YH;have YH:=VQ.le YH hb;have iN:=YH.1;have iO:=YH.2;subst iN;subst iO;refine Xi ⟨[(0,.ref 1005 0),(2,.ref 1006 0),(4,vs p),(5,sl AT (n0::l)),(11,sl Ax dec),(12,sl Ah (Am dec)),(13,vb true),(37,sl Ax cs),(38,vi (cs.map Ax).length),(39,vi i)],[(1000,.cells [sl Ap roots,.cmap DI C,.cmap DI A,.slice (.id 1001 6) (([]:List Nf).map BO),.slice (.id 1002 1) (([]:List (List Tm)).map B4),.mref 1003,vb J4.full,sl Ax (dec++[cs[i]]),sl Ah (Am (dec++[cs[i]])),.msl 1004 0]),(1001,.tok 6 0),(1002,.tok 1 0),(1003,.map Dw []),(1004,.arr 1 []),(1005,.cells [.ref 1000 0]),(1006,.cells [.clo 63 [.ref 1005 0,.cptr [.v (.func (.yield yl) #[] #[])],.ref 1006 0]]),(1007,.cells [.slice (.id 1008 1) ((o++LV (BS x roots n (dec++[cs[i]]))).map Bs)]),(1008,.tok 1 (o++LV (BS x roots n (dec++[cs[i]]))).length),(1009,.raw yl (ob true))],Aa⟩ (Yi ⟨Z10,Z10,Fh,As (by kernel_rfl)⟩ ?_)
   refine Yi (Nz rfl) ?_;refine Yi (Nz rfl) ?_;refine Yi (by kernel_rfl) ?_;refine Xi ⟨[(0,.ref 1005 0),(2,.ref 1006 0),(4,vs p),(5,sl AT (n0::l)),(13,vb true),(37,sl Ax cs),(38,vi (cs.map Ax).length),(39,vi i)],[(1000,.cells (Pe roots C A J4 dec 0)),(1001,.tok 6 0),(1002,.tok 1 0),(1003,.map Dw []),(1004,.arr 1 []),(1005,.cells [.ref 1000 0]),(1006,.cells [.clo 63 [.ref 1005 0,.cptr [.v (.func (.yield yl) #[] #[])],.ref 1006 0]]),(1007,.cells [.slice (.id 1008 1) ((o++LV (BS x roots n (dec++[cs[i]]))).map Bs)]),(1008,.tok 1 (o++LV (BS x roots n (dec++[cs[i]]))).length),(1009,.raw yl (ob true))],Aa⟩ (Yi ⟨Z8,Z10,Fh,As (by kernel_rfl)⟩ ?_)
   refine Yi (Ii i (by omega)) ?_;refine Xi ⟨(i+1,o++LV (BS x roots n (dec++[cs[i]]))),DM n3,by rw[zu,j2];simp,hb⟩ ?_;exact⟨Dl cs.length i (by omega),Z7,Z10,Fh,As (by kernel_rfl)⟩
  have h3:¬((i:Int)<((cs.map Ax).length:Int)):=h3;have n3:¬i<cs.length:=by have q:=h3;rw[Lm]at q;omega
  have hj:i=cs.length:=by have q:=h3;rw[Lm]at q;omega
  have eo:o=out++LV (BS x roots (n+1) dec):=by rw[j2,hj,←SV]
  exact VQ.of_le eo j3
 exact absurd NK nE
end Go.Eng

namespace Go.Eng
open Go.Proofs
set_option maxHeartbeats 16000000 in
theorem yk(x:List Rl)(roots:List Rq)(C A:List (Value×AV))(Y:Gh→World→Prop)(yl M n:Nat)(ob:Bool→Obj)(dec:List Cd)(out:List (List Sl))(p:ByteArray)(n0:Nd)(l:List Nd)(cs:List Cd)(hL:tU x roots C A Y yl M n ob dec p n0 l cs)(Gy:pZ (vH roots C A yl (ob true) dec out) Y)
  (IG:Bo Tryz.prog 64 [.ref 1000 0] (Af (HX roots C A J4 dec []) Aa) fun r h'=>r=.tup [vs p,sl AT (n0::l)]∧h'=Af (HX roots C A J4 dec []) Aa)
  (cj:cs=[]) (nE:∀a,(Value.string p,a)∉C) (SV:BS x roots (n+1) dec=Lw (Ro x roots n dec (n0::l)) cs cs.length) (hM:out.length≤M) :
  FX Tryz.prog Y 63 (Hy yl) (Af (vH roots C A yl (ob true) dec out) Aa) (VQ roots C A yl M ob dec (out++LV (BS x roots (n+1) dec))):=by
 obtain⟨hdl,hcl,hnl,hnq,hcr,hcs_,hkey,ih⟩:=hL;have hdl:dec.length≤256:=hdl;have hcl:cs.length≤256:=hcl;refine Pt (l:=yl) (vo ⟨[8],[],[],[],[],[],[],[],[],[],[1,2,4,6,8,9,10,11,12,13,14,15,16,17]⟩ yl Y) bw bw rfl CG hm rfl Tryz.func63 (by kernel_rfl) rfl (Nz rfl) (by kernel_rfl) rfl rfl Gy ?_;refine Xi ⟨[(0,.ref 1005 0),(1,.cptr [.v (.func (.yield yl) #[] #[])]),(2,.ref 1006 0)],[(1000,.cells (Pe roots C A J4 dec 0)),(1001,.tok 6 0),(1002,.tok 1 0),(1003,.map Dw []),(1004,.arr 1 []),(1005,.cells [.ref 1000 0]),(1006,.cells [.clo 63 [.ref 1005 0,.cptr [.v (.func (.yield yl) #[] #[])],.ref 1006 0]]),(1007,.cells [.slice (.id 1008 1) (out.map Bs)]),(1008,.tok 1 out.length),(1009,.raw yl (ob true))],Aa⟩ (Yi ⟨Z3,Z10,Fh,As (by kernel_rfl)⟩ ?_)
 refine Xi (.gen Ux 0) (Yi rfl (Bo.imp IG ?_));intro v1 g1 q1;have ZT:=q1.1;have ZU:=q1.2;subst ZT;subst ZU;refine Xi ⟨[(0,.ref 1005 0),(1,.cptr [.v (.func (.yield yl) #[] #[])]),(2,.ref 1006 0),(4,vs p),(5,sl AT (n0::l))],[(1000,.cells (Pe roots C A J4 dec 0)),(1001,.tok 6 0),(1002,.tok 1 0),(1003,.map Dw []),(1004,.arr 1 []),(1005,.cells [.ref 1000 0]),(1006,.cells [.clo 63 [.ref 1005 0,.cptr [.v (.func (.yield yl) #[] #[])],.ref 1006 0]]),(1007,.cells [.slice (.id 1008 1) (out.map Bs)]),(1008,.tok 1 out.length),(1009,.raw yl (ob true))],Aa⟩ (Yi ⟨Z5,Z10,Fh,As (by kernel_rfl)⟩ ?_)
 refine Yi (fun h2=>?_) (fun h2=>?_)
 ·have h2:(((n0::l).map AT).length:Int)=(0:Int):=h2;exact absurd h2 (by simp;omega)
 have h2:¬((((n0::l).map AT).length:Int)=(0:Int)):=h2;refine Xi ⟨[(0,.ref 1005 0),(2,.ref 1006 0),(4,vs p),(5,sl AT (n0::l))],[(1000,.cells (Pe roots C A J4 dec 0)),(1001,.tok 6 0),(1002,.tok 1 0),(1003,.map Dw []),(1004,.arr 1 []),(1005,.cells [.ref 1000 0]),(1006,.cells [.clo 63 [.ref 1005 0,.cptr [.v (.func (.yield yl) #[] #[])],.ref 1006 0]]),(1007,.cells [.slice (.id 1008 1) (out.map Bs)]),(1008,.tok 1 out.length),(1009,.raw yl (ob true))],Aa⟩ (Yi ⟨Z4,Z10,Fh,As (by kernel_rfl)⟩ ?_)
 refine Yi (fun a ha=>?_) (fun NK=>?_)
 ·exact absurd ha (nE a)
 refine Xi {q:Nat×List (List Sl) // q.1≤cs.length∧q.2=out++LV (Lw (Ro x roots n dec (n0::l)) cs q.1)∧q.2.length≤M} (Xi (fun q=>⟨[(0,.ref 1005 0),(2,.ref 1006 0),(4,vs p),(5,sl AT (n0::l)),(37,.v (.slice none 0 0)),(38,vi 0),(39,vi q.1.1)],[(1000,.cells (Pe roots C A J4 dec 0)),(1001,.tok 6 0),(1002,.tok 1 0),(1003,.map Dw []),(1004,.arr 1 []),(1005,.cells [.ref 1000 0]),(1006,.cells [.clo 63 [.ref 1005 0,.cptr [.v (.func (.yield yl) #[] #[])],.ref 1006 0]]),(1007,.cells [.slice (.id 1008 1) (q.1.2.map Bs)]),(1008,.tok 1 q.1.2.length),(1009,.raw yl (ob true))],Aa⟩) (Xi (fun q=>cs.length-q.1.1) (Yi (Xi ⟨(0,out),AL _,by rw[VD];simp,hM⟩ ?_) ?_)))
 ·exact⟨Z7,Z10,Fh,As (by kernel_rfl)⟩
 intro⟨⟨i,o⟩,j1,j2,j3⟩;have j1:i≤cs.length:=j1;have j2:o=out++LV (Lw (Ro x roots n dec (n0::l)) cs i):=j2;have j3:o.length≤M:=j3;refine Yi (fun h3=>?_) (fun h3=>?_)
 ·have h3:(i:Int)<(0:Int):=h3;exact absurd h3 (by have q:=j1;rw[cj,Al]at q;omega)
 have h3:¬((i:Int)<(0:Int)):=h3;have hj:i=cs.length:=by have q:=j1;rw[cj,Al]at q;rw[cj,Al];omega
 have eo:o=out++LV (BS x roots (n+1) dec):=by rw[j2,hj,←SV]
 exact VQ.of_le eo j3
set_option maxHeartbeats 4000000 in
theorem ym(x:List Rl)(roots:List Rq)(C A:List (Value×AV))(Y:Gh→World→Prop)(yl M n:Nat)(ob:Bool→Obj)(dec:List Cd)(out:List (List Sl))(p:ByteArray)(N:List Nd)(hN:N=[])(hdl:dec.length≤256)(hn:((Am dec).map (·.path)).Nodup)(Gy:pZ (vH roots C A yl (ob true) dec out) Y)
  (IG:Bo Tryz.prog 64 [.ref 1000 0] (Af (HX roots C A J4 dec []) Aa) fun r h'=>r=.tup [vs p,sl AT N]∧h'=Af (HX roots C A J4 dec []) Aa)
  (Jc:BS x roots (n+1) dec=[dec])
  (hy:GO Tryz.prog Y yl [sl Ah (Dm (Am dec))] (Af (vH roots C A yl (ob true) dec out) Aa) (VQ roots C A yl M ob dec (out++[Dm (Am dec)]))) :
  FX Tryz.prog Y 63 (Hy yl) (Af (vH roots C A yl (ob true) dec out) Aa) (VQ roots C A yl M ob dec (out++LV (BS x roots (n+1) dec))):=by
 have XD:CK (Am dec):=by unfold CK Am;rw[Lm];omega
 have T5:(Am dec).length=((Dm (Am dec)).map Ah).length:=(Lu (Am dec)).length_eq.symm.trans (Lm ..).symm;refine Pt (l:=yl) (vo ⟨[],[],[],[],[],[],[],[],[],[(200005,6)],[1,2,3,4,5,6,10,11,13,14,15,17]⟩ yl Y) bw bw rfl CG hm rfl Tryz.func63 (by kernel_rfl) rfl (Nz rfl) (by kernel_rfl) rfl rfl Gy ?_;refine Xi ⟨[(0,.ref 1005 0),(1,.cptr [.v (.func (.yield yl) #[] #[])]),(2,.ref 1006 0)],[(1000,.cells (Pe roots C A J4 dec 0)),(1001,.tok 6 0),(1002,.tok 1 0),(1003,.map Dw []),(1004,.arr 1 []),(1005,.cells [.ref 1000 0]),(1006,.cells [.clo 63 [.ref 1005 0,.cptr [.v (.func (.yield yl) #[] #[])],.ref 1006 0]]),(1007,.cells [.slice (.id 1008 1) (out.map Bs)]),(1008,.tok 1 out.length),(1009,.raw yl (ob true))],Aa⟩ (Yi ⟨Z3,Z10,Fh,As (by kernel_rfl)⟩ ?_)
 refine Xi (.gen Ux 0) (Yi rfl (Bo.imp IG ?_));intro v1 g1 q1;have ZT:=q1.1;have ZU:=q1.2;subst ZT;subst ZU;refine Xi ⟨[(0,.ref 1005 0),(1,.cptr [.v (.func (.yield yl) #[] #[])]),(2,.ref 1006 0),(4,vs p),(5,sl AT N)],[(1000,.cells (Pe roots C A J4 dec 0)),(1001,.tok 6 0),(1002,.tok 1 0),(1003,.map Dw []),(1004,.arr 1 []),(1005,.cells [.ref 1000 0]),(1006,.cells [.clo 63 [.ref 1005 0,.cptr [.v (.func (.yield yl) #[] #[])],.ref 1006 0]]),(1007,.cells [.slice (.id 1008 1) (out.map Bs)]),(1008,.tok 1 out.length),(1009,.raw yl (ob true))],Aa⟩ (Yi ⟨Z5,Z10,Fh,As (by kernel_rfl)⟩ ?_)
 refine Yi (fun h2=>?_) (fun h2=>?_)
 ·have h2:((N.map AT).length:Int)=(0:Int):=h2;refine Xi ⟨[(0,.ref 1005 0),(1,.cptr [.v (.func (.yield yl) #[] #[])])],[(1000,.cells (Pe roots C A J4 dec 0)),(1001,.tok 6 0),(1002,.tok 1 0),(1003,.map Dw []),(1004,.arr 1 []),(1005,.cells [.ref 1000 0]),(1006,.cells [.clo 63 [.ref 1005 0,.cptr [.v (.func (.yield yl) #[] #[])],.ref 1006 0]]),(1007,.cells [.slice (.id 1008 1) (out.map Bs)]),(1008,.tok 1 out.length),(1009,.raw yl (ob true))],Aa⟩ (Yi ⟨Z2,Z10,Fh,As (by kernel_rfl)⟩ ?_)
  refine Xi (.gen [] 1) (Yi rfl (Bo.imp (sY (Am dec) XD) ?_));intro v3 g3 q3;have xA:=q3.1;have xB:=q3.2;subst xA;subst xB;refine Xi ⟨[(1,.cptr [.v (.func (.yield yl) #[] #[])]),(6,.msl 12600 (Am dec).length)],[(1000,.cells (Pe roots C A J4 dec 0)),(1001,.tok 6 0),(1002,.tok 1 0),(1003,.map Dw []),(1004,.arr 1 []),(1005,.cells [.ref 1000 0]),(1006,.cells [.clo 63 [.ref 1005 0,.cptr [.v (.func (.yield yl) #[] #[])],.ref 1006 0]]),(1007,.cells [.slice (.id 1008 1) (out.map Bs)]),(1008,.tok 1 out.length),(1009,.raw yl (ob true)),(12600,.arr 4 ((Am dec).map Ah))],Aa⟩ (Yi ⟨Z2,Z11,Fh,As (by kernel_rfl)⟩ ?_)
  refine Xi (.gen [(12600,1000)] 0) (Yi rfl (Bo.imp (zO 65 Tryz.closure65 (enters_of Tryz.func65 (by kernel_rfl) rfl) (Am dec) XD hn) ?_));intro v4 g4 q4;have sw:=q4.1;have sx:=q4.2;subst sw;subst sx;refine Yi (show(Am dec).length=((Dm (Am dec)).map Ah).length from T5) ?_;refine Xi ⟨[(1,.cptr [.v (.func (.yield yl) #[] #[])]),(6,sl Ah (Dm (Am dec)))],[(1000,.cells (Pe roots C A J4 dec 0)),(1001,.tok 6 0),(1002,.tok 1 0),(1003,.map Dw []),(1004,.arr 1 []),(1005,.cells [.ref 1000 0]),(1006,.cells [.clo 63 [.ref 1005 0,.cptr [.v (.func (.yield yl) #[] #[])],.ref 1006 0]]),(1007,.cells [.slice (.id 1008 1) (out.map Bs)]),(1008,.tok 1 out.length),(1009,.raw yl (ob true))],Aa⟩ (Yi ⟨Z2,Z10,Fh,As (by kernel_rfl)⟩ ?_)
  refine Xi (.gen bw 0) (Yi rfl (GO.imp (GO.pre hy (fun g w q=>q rfl rfl)) ?_));intro v5 g5 q5;have q5a:=q5.1;have q5b:=q5.2;subst q5a;subst q5b;have eL:out++LV (BS x roots (n+1) dec)=out++[Dm (Am dec)]:=by rw[Jc];rfl
  exact eL▸Zr
 have h2:¬(((N.map AT).length:Int)=(0:Int)):=h2;exact absurd (by rw[hN];rfl) h2
end Go.Eng
