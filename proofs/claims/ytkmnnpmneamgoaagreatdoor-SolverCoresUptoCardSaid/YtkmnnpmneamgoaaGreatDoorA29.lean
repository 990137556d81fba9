/- Lemmas for the claims of this seat, without a condition: part 29 (S19, S20, S21, S22, S23, S24). -/
import Derived.Test.YtkmnnpmneamgoaaGreatDoorA28
namespace Go.Eng
open Go.Proofs
abbrev me:QO:=⟨[2],[],[],[],[],[],[],[(50,(9,3,95,3))],[(44,0)],[(100016,1009)],[3,4,5,6,7,8,9,10,11,14,15,16]⟩
abbrev an0:An:=⟨false,[],[],[]⟩
def EO(x:List Rl)(roots:List Rq):An:=if Dc x roots=true∧(Fc x roots).ss.full=false then fo x roots else an0
def Et(x:List Rl)(roots:List Rq):Int:=if Dc x roots=true then if(Fc x roots).ss.full=true then 7 else 0 else 1
abbrev aH(x:List Rl)(roots:List Rq):AV:=.tup [.agg (Jw (EO x roots)),vi (Et x roots)]
theorem GI.an0{v:AV}:GI (.tup [.agg [vb false,.v (.slice none 0 0),.v (.slice none 0 0),.v (.slice none 0 0)],v]) (.tup [.agg (Jw an0),v]) :=
 GI.tup ⟨GI.agg ⟨.refl _,.nil,.nil,.nil,trivial⟩,.refl _,trivial⟩
theorem Ua{x:List Rl}{roots:List Rq}(hx:∀r∈x,Gj r)(hr:∀q∈roots,H4 q)(h0:Ba x=0)(h1:Bn roots=0){L:List ByteArray}(hl:L.Perm (AP (yR x) [])){o:JS}(ho:Fc x roots=o) :
  Bo Tryz.prog 45 [.ref 1000 0] (Ag (H7 roots (mC x) (L.map (kA x)) Kr [] []) Aa) (Y9 roots (mC x) (L.map (kA x)) o):=by
 rw[←ho];exact yT (f7 hx hr h0 h1 hl) (x.length+1) (.nil x) (IZ.nil roots) ⟨⟨rfl,AL _⟩,Ft⟩ rfl (Nat.lt_succ_of_le (Bp _ _)) rfl
theorem K6{x:List Rl}{roots:List Rq}(h:Dc x roots=true):Ba x=0∧Bn roots=0:=by
 unfold Dc at h;rw[Af,AD,AD]at h;exact h
set_option maxHeartbeats 4000000 in
theorem mw(x:List Rl)(ifs:List (List AV))(roots:List Rq)(hx:∀r∈x,Gj r)(hr:∀q∈roots,H4 q)(hv:Dc x roots=false):PC 21 [L6 x ifs,sl Al roots] (.tup [.agg (Jw an0),vi 1]):=by
 have Mq:=tE x ifs roots hx hr;rw[hv]at Mq;refine Ps me Tryz.func21 rfl (Nz rfl) ?_;refine Yi ?_ ?_
 ·exact Nz rfl
 refine Xi .pure (Xi _ (Yi Mq ?_));refine Yi ?_ ?_
 ·exact Nz rfl
 refine Yi ?_ ?_
 ·exact Nz rfl
 exact GI.an0
set_option maxHeartbeats 4000000 in
theorem jr(x:List Rl)(ifs:List (List AV))(roots:List Rq)(hx:∀r∈x,Gj r)(hr:∀q∈roots,H4 q)(hv:Dc x roots=true)(h0:Ba x=0)(h1:Bn roots=0)(k:Nat)(infs:List Nf)(drv:List (List Tm))(dec:List Cd)(st:List (List Sk))(ho:Fc x roots=⟨k,false,⟨infs,drv,true⟩,dec,st⟩):PC 21 [L6 x ifs,sl Al roots] (.tup [.agg (Jw an0),vi 7]):=by
 have Mq:=tE x ifs roots hx hr;rw[hv]at Mq;refine Ps me Tryz.func21 rfl (Nz rfl) ?_;refine Yi ?_ ?_
 ·exact Nz rfl
 refine Xi .pure (Xi _ (Yi Mq ?_));refine Xi ⟨[(1,sl Al roots),(2,.ref 2 0),(4,.ref 4 0)],[(2,.ro (Ic x ifs)),(4,.cells [vb false,.v (.slice none 0 0),.v (.slice none 0 0),.v (.slice none 0 0)])],Aa⟩ (Yi ⟨Z3,Z2,Fh,Tv⟩ ?_)
 refine Yi ?_ ?_
 ·exact Nz rfl
 refine Xi (.gen [] 5) (Yi rfl ((uu x ifs roots hx h0).imp ?_));intro v g q;refine Bb q (fun L q=>?_);have q1:=q.2.1;have q2:=q.2.2;have qp:=q.1;subst q1;subst q2;refine Xi ⟨[(4,.ref 4 0),(6,.ref 11900 0)],[(4,.cells [vb false,.v (.slice none 0 0),.v (.slice none 0 0),.v (.slice none 0 0)]),(11900,.cells [sl Al roots,.cmap DQ (mC x),.cmap DQ (L.map (kA x)),.slice (.id 11901 6) [],.slice (.id 11902 1) [],.mref 11903,vb false,.slice .none [],.slice .none [],.msl 11904 0]),(11901,.tok 6 0),(11902,.tok 1 0),(11903,.map DA []),(11904,.arr 1 [])],Aa⟩ (Yi ⟨Z2,Z6,Fh,Tv⟩ ?_)
 refine Xi (.gen [(11900,1000),(11901,1001),(11902,1002),(11903,1003),(11904,1004)] 1) (Yi rfl ((Ua hx hr h0 h1 qp ho).imp ?_));intro v g q;have q1:=q.1;have q2:=q.2;subst q1;subst q2;refine Xi ⟨[(4,.ref 4 0),(6,.ref 11900 0),(7,vi (k:Nat)),(8,vb false)],[(4,.cells [vb false,.v (.slice none 0 0),.v (.slice none 0 0),.v (.slice none 0 0)]),(11900,.cells [sl Al roots,.cmap DQ (mC x),.cmap DQ (L.map (kA x)),.slice (.id 11901 6) (infs.map BQ),.slice (.id 11902 1) (drv.map B5),.mref 11903,vb true,sl Ay dec,sl Ak (Ap dec),.msl 12200 st.length]),(11901,.tok 6 infs.length),(11902,.tok 1 drv.length),(11903,.map DA (D5 0 infs)),(12200,.arr 1 (st.map AS))],Aa⟩ (Yi ⟨Z4,Z6,Fh,Tv⟩ ?_)
 refine Yi (fun _=>?_) (fun h=>by cases h);refine Xi ⟨[(4,.ref 4 0)],[(4,.cells [vb false,.v (.slice none 0 0),.v (.slice none 0 0),.v (.slice none 0 0)])],Aa⟩ (Yi ⟨Z1,Z1,Fh,Tv⟩ ?_)
 refine Yi ?_ ?_
 ·exact Nz rfl
 refine Yi ?_ ?_
 ·exact Nz rfl
 exact GI.an0
set_option maxHeartbeats 4000000 in
theorem pK(x:List Rl)(ifs:List (List AV))(roots:List Rq)(hx:∀r∈x,Gj r)(hr:∀q∈roots,H4 q)(hv:Dc x roots=true)(h0:Ba x=0)(h1:Bn roots=0)(k:Nat)(infs:List Nf)(drv:List (List Tm))(dec:List Cd)(st:List (List Sk))(ho:Fc x roots=⟨k,false,⟨infs,drv,false⟩,dec,st⟩)(hk:k<infs.length)(hl:infs.length≤65536):PC 21 [L6 x ifs,sl Al roots] (.tup [.agg (Jw ⟨false,[],infs.take (k+1),[]⟩),vi 0]):=by
 have Mq:=tE x ifs roots hx hr;rw[hv]at Mq;refine Ps me Tryz.func21 rfl (Nz rfl) ?_;refine Yi ?_ ?_
 ·exact Nz rfl
 refine Xi .pure (Xi _ (Yi Mq ?_));refine Xi ⟨[(1,sl Al roots),(2,.ref 2 0),(4,.ref 4 0)],[(2,.ro (Ic x ifs)),(4,.cells [vb false,.v (.slice none 0 0),.v (.slice none 0 0),.v (.slice none 0 0)])],Aa⟩ (Yi ⟨Z3,Z2,Fh,Tv⟩ ?_)
 refine Yi ?_ ?_
 ·exact Nz rfl
 refine Xi (.gen [] 5) (Yi rfl ((uu x ifs roots hx h0).imp ?_));intro v g q;refine Bb q (fun L q=>?_);have q1:=q.2.1;have q2:=q.2.2;have qp:=q.1;subst q1;subst q2;refine Xi ⟨[(4,.ref 4 0),(6,.ref 11900 0)],[(4,.cells [vb false,.v (.slice none 0 0),.v (.slice none 0 0),.v (.slice none 0 0)]),(11900,.cells [sl Al roots,.cmap DQ (mC x),.cmap DQ (L.map (kA x)),.slice (.id 11901 6) [],.slice (.id 11902 1) [],.mref 11903,vb false,.slice .none [],.slice .none [],.msl 11904 0]),(11901,.tok 6 0),(11902,.tok 1 0),(11903,.map DA []),(11904,.arr 1 [])],Aa⟩ (Yi ⟨Z2,Z6,Fh,Tv⟩ ?_)
 refine Xi (.gen [(11900,1000),(11901,1001),(11902,1002),(11903,1003),(11904,1004)] 1) (Yi rfl ((Ua hx hr h0 h1 qp ho).imp ?_));intro v g q;have q1:=q.1;have q2:=q.2;subst q1;subst q2;refine Xi ⟨[(4,.ref 4 0),(6,.ref 11900 0),(7,vi (k:Nat)),(8,vb false)],[(4,.cells [vb false,.v (.slice none 0 0),.v (.slice none 0 0),.v (.slice none 0 0)]),(11900,.cells [sl Al roots,.cmap DQ (mC x),.cmap DQ (L.map (kA x)),.slice (.id 11901 6) (infs.map BQ),.slice (.id 11902 1) (drv.map B5),.mref 11903,vb false,sl Ay dec,sl Ak (Ap dec),.msl 12200 st.length]),(11901,.tok 6 infs.length),(11902,.tok 1 drv.length),(11903,.map DA (D5 0 infs)),(12200,.arr 1 (st.map AS))],Aa⟩ (Yi ⟨Z4,Z6,Fh,Tv⟩ ?_)
 refine Yi (fun h=>by cases h) (fun _=>?_);refine Xi ⟨[(4,.ref 4 0),(6,.ref 11900 0),(7,vi (k:Nat)),(8,vb false)],[(4,.cells [vb false,.v (.slice none 0 0),.v (.slice none 0 0),.v (.slice none 0 0)]),(11900,.cells [sl Al roots,.cmap DQ (mC x),.cmap DQ (L.map (kA x)),.slice (.id 11901 6) (infs.map BQ),.slice (.id 11902 1) (drv.map B5),.mref 11903,vb false,sl Ay dec,sl Ak (Ap dec),.msl 12200 st.length]),(11901,.tok 6 infs.length),(11902,.tok 1 drv.length),(11903,.map DA (D5 0 infs)),(12200,.arr 1 (st.map AS))],Aa⟩ (Yi ⟨Z4,Z6,Fh,Tv⟩ ?_)
 refine Xi ⟨[(4,.ref 4 0),(6,.ref 11900 0),(7,vi (k:Nat))],[(4,.cells [vb false,.v (.slice none 0 0),.v (.slice none 0 0),.v (.slice none 0 0)]),(11900,.cells [sl Al roots,.cmap DQ (mC x),.cmap DQ (L.map (kA x)),.slice (.id 11901 6) (infs.map BQ),.slice (.id 11902 1) (drv.map B5),.mref 11903,vb false,sl Ay dec,sl Ak (Ap dec),.msl 12200 st.length]),(11901,.tok 6 infs.length),(11902,.tok 1 drv.length),(11903,.map DA (D5 0 infs)),(12200,.arr 1 (st.map AS))],Aa⟩ (Yi ⟨Z3,Z6,Fh,Tv⟩ ?_)
 refine Yi (Ii k (by omega)) ?_;have el:(infs.map BQ).length=infs.length:=Lm ..;refine Yi ⟨BF _,by show(0:Int)≤(k:Int)+1;omega,by show(k:Int)+1≤((infs.map BQ).length:Int);rw[el];omega⟩ ?_;refine Yi (fun cs hcs=>by obtain⟨i,_,rfl⟩:=Ar.1 hcs;rfl) ?_;refine Yi ?_ ?_
 ·exact Nz rfl
 refine Yi ?_ ?_
 ·exact Nz rfl
 have et:((infs.map BQ).take ((k:Int)+1).toNat).drop (0:Int).toNat=(infs.take (k+1)).map BQ:=by
  rw[show((k:Int)+1).toNat=k+1 by omega];simp
 exact GI.tup ⟨GI.agg ⟨.refl _,.nil,.of_eq (show AV.slice .none (((infs.map BQ).take ((k:Int)+1).toNat).drop (0:Int).toNat)=_ by rw[et]),.nil,trivial⟩,.refl _,trivial⟩
theorem Vp(y:Sl):∀l:List Sl,(UJ y l).Perm (y::l)
 | []=>.refl _
 |z::l=>by
  unfold UJ;split
  ·exact .refl _
  ·exact((Vp y l).cons z).trans (List.Perm.swap y z l)
theorem Of:∀l:List Sl,(Dp l).Perm l
 | []=>.refl _
 |y::l=>(Vp y _).trans ((Of l).cons y)
theorem XK{b:Nat}:∀{st:List (List Sk)},(∀s∈st,s.length≤b)→st.flatten.length≤b*st.length
 | [],_=>by simp
 |s::st,h=>by
  rw[Bu,Ad,Aj,Nat.mul_succ]
  have:=h s (Ab ..)
  have:=XK (st:=st) fun t ht=>h t (Ai _ ht)
  omega
theorem jv{st:List (List Sk)}(h:st.length≤256)(hs:∀s∈st,s.length≤256)(i:Nat):((st.take i).flatten).length≤65536:=by
 have h1:=XK (b:=256) (st:=st.take i) fun s Ul=>hs s (D1 Ul)
 have:(st.take i).length≤256:=by rw[AG];omega
 omega
set_option maxHeartbeats 4000000 in
theorem my(x:List Rl)(ifs:List (List AV))(roots:List Rq)(hx:∀r∈x,Gj r)(hr:∀q∈roots,H4 q)(hv:Dc x roots=true)(h0:Ba x=0)(h1:Bn roots=0)(k:Nat)(infs:List Nf)(drv:List (List Tm))(dec:List Cd)(st:List (List Sk))(ho:Fc x roots=⟨k,true,⟨infs,drv,false⟩,dec,st⟩)(hd:dec.length≤256)(hn:((Ap dec).map (·.path)).Nodup)(GD:st.length≤256)(z8:∀s∈st,s.length≤256):PC 21 [L6 x ifs,sl Al roots] (.tup [.agg (Jw ⟨true,Dp (Ap dec),infs,st.flatten⟩),vi 0]):=by
 have Mq:=tE x ifs roots hx hr;rw[hv]at Mq;refine Ps me Tryz.func21 rfl (Nz rfl) ?_;refine Yi ?_ ?_
 ·exact Nz rfl
 refine Xi .pure (Xi _ (Yi Mq ?_));refine Xi ⟨[(1,sl Al roots),(2,.ref 2 0),(4,.ref 4 0)],[(2,.ro (Ic x ifs)),(4,.cells [vb false,.v (.slice none 0 0),.v (.slice none 0 0),.v (.slice none 0 0)])],Aa⟩ (Yi ⟨Z3,Z2,Fh,Tv⟩ ?_)
 refine Yi ?_ ?_
 ·exact Nz rfl
 refine Xi (.gen [] 5) (Yi rfl ((uu x ifs roots hx h0).imp ?_));intro v g q;refine Bb q (fun L q=>?_);have q1:=q.2.1;have q2:=q.2.2;have qp:=q.1;subst q1;subst q2;refine Xi ⟨[(4,.ref 4 0),(6,.ref 11900 0)],[(4,.cells [vb false,.v (.slice none 0 0),.v (.slice none 0 0),.v (.slice none 0 0)]),(11900,.cells [sl Al roots,.cmap DQ (mC x),.cmap DQ (L.map (kA x)),.slice (.id 11901 6) [],.slice (.id 11902 1) [],.mref 11903,vb false,.slice .none [],.slice .none [],.msl 11904 0]),(11901,.tok 6 0),(11902,.tok 1 0),(11903,.map DA []),(11904,.arr 1 [])],Aa⟩ (Yi ⟨Z2,Z6,Fh,Tv⟩ ?_)
 refine Xi (.gen [(11900,1000),(11901,1001),(11902,1002),(11903,1003),(11904,1004)] 1) (Yi rfl ((Ua hx hr h0 h1 qp ho).imp ?_));intro v g q;have q1:=q.1;have q2:=q.2;subst q1;subst q2;refine Xi ⟨[(4,.ref 4 0),(6,.ref 11900 0),(7,vi (k:Nat)),(8,vb true)],[(4,.cells [vb false,.v (.slice none 0 0),.v (.slice none 0 0),.v (.slice none 0 0)]),(11900,.cells [sl Al roots,.cmap DQ (mC x),.cmap DQ (L.map (kA x)),.slice (.id 11901 6) (infs.map BQ),.slice (.id 11902 1) (drv.map B5),.mref 11903,vb false,sl Ay dec,sl Ak (Ap dec),.msl 12200 st.length]),(11901,.tok 6 infs.length),(11902,.tok 1 drv.length),(11903,.map DA (D5 0 infs)),(12200,.arr 1 (st.map AS))],Aa⟩ (Yi ⟨Z4,Z6,Fh,Tv⟩ ?_)
 refine Yi (fun h=>by cases h) (fun _=>?_);refine Xi ⟨[(4,.ref 4 0),(6,.ref 11900 0),(8,vb true)],[(4,.cells [vb false,.v (.slice none 0 0),.v (.slice none 0 0),.v (.slice none 0 0)]),(11900,.cells [sl Al roots,.cmap DQ (mC x),.cmap DQ (L.map (kA x)),.slice (.id 11901 6) (infs.map BQ),.slice (.id 11902 1) (drv.map B5),.mref 11903,vb false,sl Ay dec,sl Ak (Ap dec),.msl 12200 st.length]),(11901,.tok 6 infs.length),(11902,.tok 1 drv.length),(11903,.map DA (D5 0 infs)),(12200,.arr 1 (st.map AS))],Aa⟩ (Yi ⟨Z3,Z6,Fh,Tv⟩ ?_)
 refine Xi ⟨[(4,.ref 4 0),(6,.ref 11900 0)],[(4,.cells [vb false,.v (.slice none 0 0),.v (.slice none 0 0),.v (.slice none 0 0)]),(11900,.cells [sl Al roots,.cmap DQ (mC x),.cmap DQ (L.map (kA x)),.slice (.id 11901 6) (infs.map BQ),.slice (.id 11902 1) (drv.map B5),.mref 11903,vb false,sl Ay dec,sl Ak (Ap dec),.msl 12200 st.length]),(11901,.tok 6 infs.length),(11902,.tok 1 drv.length),(11903,.map DA (D5 0 infs)),(12200,.arr 1 (st.map AS))],Aa⟩ (Yi ⟨Z2,Z6,Fh,Tv⟩ ?_)
 have m0:(Ap dec).length≤256:=by rw[Lm];exact hd
 have X3:CL (Ap dec):=Bw m0 (by decide);refine Xi (Ap dec).length (Xi 4 (Xi ((Ap dec).map Ak) (Yi rfl (Yi (tK (Ap dec) X3) ?_))));refine Yi ?_ ?_
 ·exact Nz rfl
 refine Yi (by kernel_rfl) ?_;refine Xi ⟨[(4,.ref 4 0),(6,.ref 11900 0),(9,.ref 9 0)],[(4,.cells [vb false,.v (.slice none 0 0),.v (.slice none 0 0),.v (.slice none 0 0)]),(9,.cells [vb true,.msl 14400 (Ap dec).length,.slice (.id 11901 6) (infs.map BQ),.v (.slice none 0 0)]),(11900,.cells [sl Al roots,.cmap DQ (mC x),.cmap DQ (L.map (kA x)),.slice (.id 11901 6) (infs.map BQ),.slice (.id 11902 1) (drv.map B5),.mref 11903,vb false,sl Ay dec,sl Ak (Ap dec),.msl 12200 st.length]),(11901,.tok 6 infs.length),(11902,.tok 1 drv.length),(11903,.map DA (D5 0 infs)),(12200,.arr 1 (st.map AS)),(14400,.arr 4 ((Ap dec).map Ak))],Aa⟩ (Yi ⟨Z3,Z8,Fh,Tv⟩ ?_)
 refine Xi (.gen [(14400,1000)] 0) (Yi rfl ((s47 48 Tryz.closure48 (enters_of Tryz.func48 (by kernel_rfl) rfl) (Ap dec) X3 hn).imp ?_));intro v g q;have q1:=q.1;have q2:=q.2;subst q1;subst q2;refine Xi ⟨[(4,.ref 4 0),(6,.ref 11900 0),(9,.ref 9 0)],[(4,.cells [vb false,.v (.slice none 0 0),.v (.slice none 0 0),.v (.slice none 0 0)]),(9,.cells [vb true,.msl 14400 (Ap dec).length,.slice (.id 11901 6) (infs.map BQ),.slice (.id 95 3) []]),(95,.tok 3 0),(11900,.cells [sl Al roots,.cmap DQ (mC x),.cmap DQ (L.map (kA x)),.slice (.id 11901 6) (infs.map BQ),.slice (.id 11902 1) (drv.map B5),.mref 11903,vb false,sl Ay dec,sl Ak (Ap dec),.msl 12200 st.length]),(11901,.tok 6 infs.length),(11902,.tok 1 drv.length),(11903,.map DA (D5 0 infs)),(12200,.arr 1 (st.map AS)),(14400,.arr 4 ((Dp (Ap dec)).map Ak))],Aa⟩ (Yi ⟨Z3,Z9,Fh,Tv⟩ ?_)
 refine Xi {i:Nat // i≤st.length} (Xi (fun i=>⟨[(4,.ref 4 0),(6,.ref 11900 0),(9,.ref 9 0),(56,.msl 12200 st.length),(57,vi (st.length:Nat)),(58,vi i.1)],[(4,.cells [vb false,.v (.slice none 0 0),.v (.slice none 0 0),.v (.slice none 0 0)]),(9,.cells [vb true,.msl 14400 (Ap dec).length,.slice (.id 11901 6) (infs.map BQ),.slice (.id 95 3) ((st.take i.1).flatten.map BE)]),(95,.tok 3 ((st.take i.1).flatten.map BE).length),(11900,.cells [sl Al roots,.cmap DQ (mC x),.cmap DQ (L.map (kA x)),.slice (.id 11901 6) (infs.map BQ),.slice (.id 11902 1) (drv.map B5),.mref 11903,vb false,sl Ay dec,sl Ak (Ap dec),.msl 12200 st.length]),(11901,.tok 6 infs.length),(11902,.tok 1 drv.length),(11903,.map DA (D5 0 infs)),(12200,.arr 1 (st.map AS)),(14400,.arr 4 ((Dp (Ap dec)).map Ak))],Aa⟩) (Xi (fun i=>st.length-i.1) (Yi (Xi ⟨0,AL _⟩ ?_) ?_)))
 ·exact⟨Z6,Z9,Fh,Tv⟩
 intro⟨i,i1⟩;have i1:i≤st.length:=i1;refine Yi ?_ ?_
 ·intro h;have h:(i:Int)<(st.length:Nat):=h;have h:i<st.length:=by omega
  have hg:st[i]?=some st[i]:=Ge h;have KM:st.take (i+1)=st.take i++[st[i]]:=by rw[Bd,hg];rfl
  refine Yi (Yi (Nn i) (by show(i:Int)<(st.length:Nat);omega)) ?_;refine Yi (by rw[Lm]) (Xi (AS st[i]) (Yi (by show(st.map AS)[((i:Nat):Int).toNat]?=_;rw[AX,AJ,hg];rfl) ?_));refine Xi ⟨[(4,.ref 4 0),(6,.ref 11900 0),(9,.ref 9 0),(11,sl BE st[i]),(56,.msl 12200 st.length),(57,vi (st.length:Nat)),(58,vi i)],[(4,.cells [vb false,.v (.slice none 0 0),.v (.slice none 0 0),.v (.slice none 0 0)]),(9,.cells [vb true,.msl 14400 (Ap dec).length,.slice (.id 11901 6) (infs.map BQ),.slice (.id 95 3) ((st.take i).flatten.map BE)]),(95,.tok 3 ((st.take i).flatten.map BE).length),(11900,.cells [sl Al roots,.cmap DQ (mC x),.cmap DQ (L.map (kA x)),.slice (.id 11901 6) (infs.map BQ),.slice (.id 11902 1) (drv.map B5),.mref 11903,vb false,sl Ay dec,sl Ak (Ap dec),.msl 12200 st.length]),(11901,.tok 6 infs.length),(11902,.tok 1 drv.length),(11903,.map DA (D5 0 infs)),(12200,.arr 1 (st.map AS)),(14400,.arr 4 ((Dp (Ap dec)).map Ak))],Aa⟩ (Yi ⟨Z7,Z9,Fh,Tv⟩ ?_)
  have hfl:((st.take i).flatten).length≤65536∧st[i].length≤256:=⟨jv GD z8 i,z8 _ (Am _)⟩;have GL:BW 3 (st[i].map BE)∧((st.take i).flatten.map BE).length=((st.take i).flatten.map BE).length∧(((st.take i).flatten.map BE).length+(st[i].map BE).length)*32≤140737488355328∧((st.take i).flatten.map BE).length+(st[i].map BE).length≤9223372036854775807:=by
   refine⟨Du (enc:=BE) (n:=3) (fun _=>rfl) _,rfl,?_,?_⟩<;>simp only[Lm]<;>omega
  refine Yi GL ?_;refine Yi ?_ ?_
  ·exact Nz rfl
  have ef:((st.take i).flatten.map BE)++st[i].map BE=((st.take (i+1)).flatten.map BE):=by rw[KM,Cc,Az];simp
  have en:((st.take i).flatten.map BE).length+(st[i].map BE).length=((st.take (i+1)).flatten.map BE).length:=by rw[←ef,Ad]
  refine Xi ⟨[(4,.ref 4 0),(6,.ref 11900 0),(9,.ref 9 0),(56,.msl 12200 st.length),(57,vi (st.length:Nat)),(58,vi i)],[(4,.cells [vb false,.v (.slice none 0 0),.v (.slice none 0 0),.v (.slice none 0 0)]),(9,.cells [vb true,.msl 14400 (Ap dec).length,.slice (.id 11901 6) (infs.map BQ),.slice (.id 95 3) ((st.take (i+1)).flatten.map BE)]),(95,.tok 3 ((st.take (i+1)).flatten.map BE).length),(11900,.cells [sl Al roots,.cmap DQ (mC x),.cmap DQ (L.map (kA x)),.slice (.id 11901 6) (infs.map BQ),.slice (.id 11902 1) (drv.map B5),.mref 11903,vb false,sl Ay dec,sl Ak (Ap dec),.msl 12200 st.length]),(11901,.tok 6 infs.length),(11902,.tok 1 drv.length),(11903,.map DA (D5 0 infs)),(12200,.arr 1 (st.map AS)),(14400,.arr 4 ((Dp (Ap dec)).map Ak))],Aa⟩ (Yi ⟨Z6,⟨Zr,⟨Ac (fun z=>HO.cells [vb true,.msl 14400 (Ap dec).length,.slice (.id 11901 6) (infs.map BQ),.slice (.id 95 3) z]) ef,rfl⟩,⟨Ac (HO.tok 3) en,rfl⟩,Zr,Zr,Zr,Zr,Zr,Zr,Tv⟩,Fh,Tv⟩ ?_)
  refine Yi (Ii i (by omega)) ?_;refine Xi ⟨i+1,by omega⟩ ?_;exact⟨Dl st.length i (by omega),Z6,Z9,Fh,Tv⟩
 ·intro h;have h:¬(i:Int)<(st.length:Nat):=h;have et:st.take i=st:=AC (by omega);have Um:(Ap dec).length=((Dp (Ap dec)).map Ak).length:=(Of (Ap dec)).length_eq.symm.trans (Lm ..).symm;refine Yi Um ?_;refine Xi ⟨[(4,.ref 4 0),(9,.ref 9 0)],[(4,.cells [vb false,.v (.slice none 0 0),.v (.slice none 0 0),.v (.slice none 0 0)]),(9,.cells [vb true,.slice (.id 14400 4) ((Dp (Ap dec)).map Ak),.slice (.id 11901 6) (infs.map BQ),.slice (.id 95 3) (st.flatten.map BE)]),(95,.tok 3 (st.flatten.map BE).length),(11901,.tok 6 infs.length),(14400,.tok 4 ((Dp (Ap dec)).map Ak).length)],Aa⟩ (Yi ⟨Z2,⟨Zr,⟨Ac (fun z:List (List Sk)=>HO.cells [vb true,.slice (.id 14400 4) ((Dp (Ap dec)).map Ak),.slice (.id 11901 6) (infs.map BQ),.slice (.id 95 3) (z.flatten.map BE)]) et,rfl⟩,⟨Ac (fun z:List (List Sk)=>HO.tok 3 (z.flatten.map BE).length) et,rfl⟩,Zr,Zr,Tv⟩,Fh,Tv⟩ ?_)
  refine Yi ?_ ?_
  ·exact Nz rfl
  refine Yi ?_ ?_
  ·exact Nz rfl
  refine Yi ?_ ?_
  ·exact Nz rfl
  exact .refl _
end Go.Eng

namespace Go.Eng
open Go.Proofs
theorem Qw{s:SS}{b:List Cd}{p:ByteArray}{needs:List Nd}:∀{cs:List Cd} {sk:List Sk},G9 s b p needs cs sk→sk.length≤cs.length
 | [],sk,h=>by
  have h:sk=[]:=h;rw[h];exact Ao _
 |c::cs,sk,h=>by
  have h:if(needs.all fun n=>has n.rq.set c.place)=true then _ else _:=h
  by_cases hc:(needs.all fun n=>has n.rq.set c.place)=true
  ·rw[Ax hc]at h;obtain⟨k,rest,rfl,_,h3⟩:=h
   have:=Qw h3
   simp only[Aj];omega
  ·rw[Aq hc]at h
   have:=Qw h
   simp only[Aj];omega
theorem U7{x:List Rl}{roots:List Rq}{s:SS}:∀{t:List Cd} {sl:List (List Sk)} {b:List Cd},Sh x roots s b t sl→sl.length=t.length∧∀k∈sl,k.length≤x.length
 | [],[],_,_=>⟨rfl,fun _ h=>by cases h⟩
 | [],_::_,_,h=>h.elim
 |_::_,[],_,h=>h.elim
 |c::t,sk::sl,b,⟨⟨p,needs,pre,post,hs⟩,h⟩=>by
  obtain⟨h1,h2⟩:=U7 h;refine⟨by simp[h1],fun k hk=>?_⟩;rcases AF.1 hk with rfl | hk
  ·have e1:=Qw hs.skips;have e2:=PI x p;rw[hs.cands,Ad]at e2;omega
  ·exact h2 k hk
theorem ut(x:List Rl)(ifs:List (List AV))(roots:List Rq)(hx:∀r∈x,Gj r)(hr:∀q∈roots,H4 q):PC 21 [L6 x ifs,sl Al roots] (aH x roots):=by
 unfold aH EO Et;cases hv:Dc x roots with
 |false=>simpa using mw x ifs roots hx hr hv
 |true =>
  obtain⟨h0,h1⟩:=K6 hv;have hR:=Qz h0 h1;have NY:=(Ls h0).1;have hA:fo x roots=if(Fc x roots).found=true then⟨true,Dp (Ap (Fc x roots).dec),(Fc x roots).ss.infs,(Fc x roots).stack.flatten⟩else⟨false,[],(Fc x roots).ss.infs.take ((Fc x roots).res+1),[]⟩:=rfl
  rw[hA];generalize ho:Fc x roots=o at hR⊢;obtain⟨k,b,⟨infs,drv,full⟩,dec,st⟩:=o;have hl:infs.length≤65536:=hR.der.len;have hdl:drv.length=infs.length:=hR.der.dlen;cases b with
  |false =>
   cases full with
   |true=>simpa using jr x ifs roots hx hr hv h0 h1 k infs drv dec st ho
   |false =>
    have hk:k<drv.length:=((hR.no rfl).2.2 rfl).1;simpa using pK x ifs roots hx hr hv h0 h1 k infs drv dec st ho (by omega) hl
  |true =>
   obtain⟨hf,t,sl,e1,e2,hC,_⟩:=hR.yes rfl;have hf:full=false:=hf;subst hf;have e1:dec=[]++t:=e1;have e2:st=[]++sl:=e2;rw[DL]at e1 e2;subst e1;subst e2;have hD:D6 x ([]++dec):=(Sh.ok (.nil x) (.nil roots) hC).1;rw[DL]at hD;have hdx:=OG hD;obtain⟨c1,c2⟩:=U7 hC;have hn:((Ap dec).map (·.path)).Nodup:=by rw[JD];exact hD.nodup
   simpa using my x ifs roots hx hr hv h0 h1 k infs drv dec st ho (by omega) hn (by omega) (fun s hs=>Bw (c2 s hs) NY)
def Gs(x:List Rl)(roots:List Rq):Int:=if Et x roots≠0 then Et x roots else if(EO x roots).found=true then 0 else 17
def jt(x:List Rl)(roots:List Rq):List Sl:=if Gs x roots=0 then(EO x roots).sel else []
abbrev xO:QO:=⟨[2],[],[],[],[],[],[],[],[],[],[]⟩
set_option maxHeartbeats 4000000 in
theorem pJ(x:List Rl)(ifs:List (List AV))(roots:List Rq)(a:An)(e:Int)(h:PC 21 [L6 x ifs,sl Al roots] (.tup [.agg (Jw a),vi e])) :
  PC 16 [L6 x ifs,sl Al roots] (.tup [if e≠0 then sl Ak []else if a.found=true then sl Ak a.sel else sl Ak [],vi (if e≠0 then e else if a.found=true then 0 else 17)]):=by
 refine Ps xO Tryz.func16 rfl (Nz rfl) ?_;refine Yi ?_ ?_
 ·exact Nz rfl
 refine Xi .pure (Xi _ (Yi h ?_));refine Yi ?_ ?_
 ·exact Nz rfl
 refine Yi (fun he=>?_) (fun he=>?_)
 ·have he:¬e=0:=he;have e1:AV.tup [sl Ak [],vi e]=.tup [if e≠0 then sl Ak []else if a.found=true then sl Ak a.sel else sl Ak [],vi (if e≠0 then e else if a.found=true then 0 else 17)]:=by rw[Ax he,Ax he]
  exact(show GI (.tup [.v (.slice none 0 0),vi e]) (.tup [sl Ak ([]:List Sl),vi e])from GI.tup ⟨.nil,.refl _,trivial⟩).trans (.of_eq e1)
 ·have he:e=0:=BR.1 he;have DB:¬e≠0:=fun h=>h he;refine Yi (fun hb=>?_) (fun hb=>?_)
  ·have hb:a.found=true:=hb;have e1:AV.tup [sl Ak a.sel,vi 0]=.tup [if e≠0 then sl Ak []else if a.found=true then sl Ak a.sel else sl Ak [],vi (if e≠0 then e else if a.found=true then 0 else 17)]:=by rw[Aq DB,Aq DB,Ax hb,Ax hb]
   exact .of_eq e1
  ·have hb:a.found=false:=hb;have hb:¬a.found=true:=by rw[hb];decide
   have e1:AV.tup [sl Ak [],vi 17]=.tup [if e≠0 then sl Ak []else if a.found=true then sl Ak a.sel else sl Ak [],vi (if e≠0 then e else if a.found=true then 0 else 17)]:=by rw[Aq DB,Aq DB,Aq hb,Aq hb]
   exact(show GI (.tup [.v (.slice none 0 0),vi 17]) (.tup [sl Ak ([]:List Sl),vi 17])from GI.tup ⟨.nil,.refl _,trivial⟩).trans (.of_eq e1)
theorem s16(x:List Rl)(ifs:List (List AV))(roots:List Rq)(hx:∀r∈x,Gj r)(hr:∀q∈roots,H4 q):PC 16 [L6 x ifs,sl Al roots] (.tup [sl Ak (jt x roots),vi (Gs x roots)]):=by
 have h:=pJ x ifs roots _ _ (ut x ifs roots hx hr);have e1:(if Et x roots≠0 then sl Ak []else if(EO x roots).found=true then sl Ak (EO x roots).sel else sl Ak [])=sl Ak (jt x roots):=by
  unfold jt Gs
  by_cases h1:Et x roots=0
  ·by_cases h2:(EO x roots).found=true
   ·simp[h1,h2]
   ·simp[h1,h2]
  ·simp[h1]
 have e2:(if Et x roots≠0 then Et x roots else if(EO x roots).found=true then 0 else 17)=Gs x roots:=rfl;rw[e1,e2]at h;exact h
end Go.Eng

namespace Go.Eng
open Go.Proofs
abbrev eS:Hy:=[(1000,1000),(1001,1001),(1002,1002),(1003,1003),(1004,1004),(1005,1005),(1006,1006),(1007,1007),(1008,1008)]
abbrev BI(l:List Sl):List AV:=[sl Ak l]
abbrev HE(yl:Nat):List AV:=[.ref 1005 0,.cptr [.v (.func (.yield yl) #[] #[])],.ref 1006 0]
abbrev vH(roots:List Rq)(C A:List (Value×AV))(yl:Nat)(dec:List Cd)(out:List (List Sl)):List (Nat×HO) :=
 [(1000,.cells (Py roots C A Kr dec 0)),(1001,.tok 6 0),(1002,.tok 1 0),(1003,.map DA []),(1004,.arr 1 []),(1005,.cells [.ref 1000 0]),(1006,.cells [.clo 63 (HE yl)]),(1007,.cells [.slice (.id 1008 1) (out.map BI)]),(1008,.tok 1 out.length)]
noncomputable abbrev vZ(pl:QO)(l:Nat)(Y:Gh→World→Prop):Cx:=⟨Tryz.prog,kc,pl,true,0,fun l' σ' g w=>l'=l→σ'=eS→Y g w⟩
abbrev qC(H:List (Nat×HO))(Y:Gh→World→Prop):Prop:=∀g w h' g' w',DF w g (Ag H Aa) (Ag H Aa) g w→DF w g (Ag H Aa) h' g' w'→Le (Ag H Aa) g w h' g' w'→Y g w→Y (CZ eS g') w'
abbrev Nh(l:List (List Cd)):List (List Sl):=l.map fun d=>Dp (Ap d)
abbrev Rf(x:List Rl)(roots:List Rq)(n:Nat)(dec:List Cd)(N:List Nd)(c:Cd):List (List Cd):=if VC dec N c then BS x roots n (dec++[c])else []
structure uz(x:List Rl)(roots:List Rq)(C A:List (Value×AV))(Y:Gh→World→Prop)(yl M n:Nat)(dec:List Cd)(p:ByteArray)(n0:Nd)(l:List Nd)(cs:List Cd):Prop where
 hdl:dec.length≤256
 hcl:cs.length≤256
 hnl:CL (n0::l)
 hnq:∀n∈n0::l,CL n.rq.set
 hcr:∀(i:Nat) (h:i<cs.length),cs[i].rel.reqs.length≤1073741824
 hcs_:∀(i:Nat) (h:i<cs.length),∀q∈cs[i].rel.reqs,CL q.set
 hkey:∀(i:Nat) (h:i<cs.length),(Ap dec).map Ak++[[vs p,vi cs[i].rel.ver.a,vi cs[i].rel.ver.b,vi cs[i].rel.ver.c]]=(Ap (dec++[cs[i]])).map Ak
 ih:∀(i:Nat) (h:i<cs.length),VC dec (n0::l) cs[i]=true→∀(out:List (List Sl)),out.length+(BS x roots n (dec++[cs[i]])).length≤M →
  Gx Tryz.prog Y 63 (HE yl) (Ag (vH roots C A yl (dec++[cs[i]]) out) Aa) fun r h'=>r=vb true∧h'=Ag (vH roots C A yl (dec++[cs[i]]) (out++Nh (BS x roots n (dec++[cs[i]])))) Aa
def Ks(f:Cd→List (List Cd))(cs:List Cd)(i:Nat):List (List Cd):=((cs.take i).map f).flatten
theorem VY(f:Cd→List (List Cd))(cs:List Cd):Ks f cs 0=[]:=rfl
theorem VX{f:Cd→List (List Cd)}{cs:List Cd}{i:Nat}(h:i<cs.length):Ks f cs (i+1)=Ks f cs i++f cs[i]:=by
 unfold Ks;rw[CO h,Az,Cc];simp
theorem jL(f:Cd→List (List Cd))(cs:List Cd)(i:Nat):(Ks f cs i).length≤(Ks f cs cs.length).length:=by
 unfold Ks;rw[CN]
 have:cs=cs.take i++cs.drop i:=(Ek i cs).symm
 conv=>rhs;rw[this,Az,Cc,Ad]
 omega
theorem bT{f:Cd→List (List Cd)}{cs:List Cd}{i:Nat}(h:i<cs.length)(hf:f cs[i]=[]):Ks f cs (i+1)=Ks f cs i:=by rw[VX h,hf,CV]
theorem s67(n:Nd)(c:Cd)(hq:CL n.rq.set):PC 67 [.agg (AT n),.cptr (Ay c)] (vb (!has n.rq.set c.place)):=by
 refine Ps ⟨[2],[],[],[],[],[],[],[],[],[],[]⟩ Tryz.func67 rfl (Nz rfl) ?_;refine BO (Bt (has n.rq.set c.place)) (fun h1=>?_) (fun h1=>?_)
 ·have h1:(has n.rq.set c.place)=true:=h1;have PT:=(od n.rq.set c.place hq);rw[show(has n.rq.set c.place)=true from h1]at PT;refine Xi .pure (Xi _ (Yi PT ?_));exact .of_eq (show vb false=vb (!has n.rq.set c.place) by rw[h1];rfl)
 have h1:(has n.rq.set c.place)=false:=h1;have XU:=(od n.rq.set c.place hq);rw[show(has n.rq.set c.place)=false from h1]at XU;refine Xi .pure (Xi _ (Yi XU ?_));exact .of_eq (show vb true=vb (!has n.rq.set c.place) by rw[h1];rfl)
end Go.Eng

namespace Go.Eng
open Go.Proofs
theorem sV{dec:List Cd}{N:List Nd}{c:Cd}(h1:(N.any fun n=>!has n.rq.set c.place)=false)(h2:Co dec c=none):VC dec N c=true :=
 GO.2 ⟨fun n hn=>by have:=CM.1 h1 n hn;simpa using this,h2⟩
theorem lN{x:List Rl}{roots:List Rq}{n:Nat}{dec:List Cd}{N:List Nd}{c:Cd}(h:(N.any fun n=>!has n.rq.set c.place)=true):Rf x roots n dec N c=[]:=by
 unfold Rf;rw[Aq];intro hc;obtain⟨m,h1,h2⟩:=A5.1 h
 have:=(GO.1 hc).1 m h1
 rw[this]at h2;cases h2
theorem iy{x:List Rl}{roots:List Rq}{n:Nat}{dec:List Cd}{N:List Nd}{c:Cd}{m:Nd}(h:Co dec c=some m):Rf x roots n dec N c=[]:=by
 unfold Rf;rw[Aq];intro hc
 have:=(GO.1 hc).2
 rw[this]at h;cases h
set_option maxHeartbeats 16000000 in
theorem yV(x:List Rl)(roots:List Rq)(C A:List (Value×AV))(Y:Gh→World→Prop)(yl M n:Nat)(dec:List Cd)(out:List (List Sl))(p:ByteArray)(n0:Nd)(l:List Nd)(cs:List Cd)(hL:uz x roots C A Y yl M n dec p n0 l cs)(GD:qC (vH roots C A yl dec out) Y)
  (IS:Bo Tryz.prog 64 [.ref 1000 0] (Ag (H7 roots C A Kr dec []) Aa) fun r h'=>r=.tup [vs p,sl AT (n0::l)]∧h'=Ag (H7 roots C A Kr dec []) Aa)
  (wo:∀a,(Value.string p,a)∈C→a=sl Ay cs) (ox:¬∀a,(Value.string p,a)∉C) (UC:BS x roots (n+1) dec=Ks (Rf x roots n dec (n0::l)) cs cs.length) (hM:out.length+(Ks (Rf x roots n dec (n0::l)) cs cs.length).length≤M) :
  Gx Tryz.prog Y 63 (HE yl) (Ag (vH roots C A yl dec out) Aa) fun r h'=>r=vb true∧h'=Ag (vH roots C A yl dec (out++Nh (BS x roots (n+1) dec))) Aa:=by
 obtain⟨hdl,hcl,hnl,hnq,hcr,hcs_,hkey,ih⟩:=hL;have hdl:dec.length≤256:=hdl;have hcl:cs.length≤256:=hcl;refine PE (l:=yl) (vZ ⟨[8],[],[],[],[],[],[],[],[(63,3),(71,3)],[],[1,2,4,6,8,9,10,11,12,13,14,15,16,17]⟩ yl Y) eS eS rfl CI hm rfl Tryz.func63 (by kernel_rfl) rfl (Nz rfl) (by kernel_rfl) rfl rfl GD ?_;refine Xi ⟨[(0,.ref 1005 0),(1,.cptr [.v (.func (.yield yl) #[] #[])]),(2,.ref 1006 0)],[(1000,.cells (Py roots C A Kr dec 0)),(1001,.tok 6 0),(1002,.tok 1 0),(1003,.map DA []),(1004,.arr 1 []),(1005,.cells [.ref 1000 0]),(1006,.cells [.clo 63 [.ref 1005 0,.cptr [.v (.func (.yield yl) #[] #[])],.ref 1006 0]]),(1007,.cells [.slice (.id 1008 1) (out.map BI)]),(1008,.tok 1 out.length)],Aa⟩ (Yi ⟨Z3,Z9,Fh,At (by kernel_rfl)⟩ ?_)
 refine Xi (.gen UP 0) (Yi rfl (Bo.imp IS ?_));intro v1 g1 q1;have ay:=q1.1;have az:=q1.2;subst ay;subst az;refine Xi ⟨[(0,.ref 1005 0),(1,.cptr [.v (.func (.yield yl) #[] #[])]),(2,.ref 1006 0),(4,vs p),(5,sl AT (n0::l))],[(1000,.cells (Py roots C A Kr dec 0)),(1001,.tok 6 0),(1002,.tok 1 0),(1003,.map DA []),(1004,.arr 1 []),(1005,.cells [.ref 1000 0]),(1006,.cells [.clo 63 [.ref 1005 0,.cptr [.v (.func (.yield yl) #[] #[])],.ref 1006 0]]),(1007,.cells [.slice (.id 1008 1) (out.map BI)]),(1008,.tok 1 out.length)],Aa⟩ (Yi ⟨Z5,Z9,Fh,At (by kernel_rfl)⟩ ?_)
 refine Yi (fun h2=>?_) (fun h2=>?_)
 ·have h2:(((n0::l).map AT).length:Int)=(0:Int):=h2;exact absurd h2 (by simp;omega)
 have h2:¬((((n0::l).map AT).length:Int)=(0:Int)):=h2;refine Xi ⟨[(0,.ref 1005 0),(2,.ref 1006 0),(4,vs p),(5,sl AT (n0::l))],[(1000,.cells (Py roots C A Kr dec 0)),(1001,.tok 6 0),(1002,.tok 1 0),(1003,.map DA []),(1004,.arr 1 []),(1005,.cells [.ref 1000 0]),(1006,.cells [.clo 63 [.ref 1005 0,.cptr [.v (.func (.yield yl) #[] #[])],.ref 1006 0]]),(1007,.cells [.slice (.id 1008 1) (out.map BI)]),(1008,.tok 1 out.length)],Aa⟩ (Yi ⟨Z4,Z9,Fh,At (by kernel_rfl)⟩ ?_)
 refine Yi (fun a ha=>?_) (fun LN=>?_)
 ·have ea:=wo a ha;subst ea;refine Xi {q:Nat×List (List Sl) // q.1≤cs.length∧q.2=out++Nh (Ks (Rf x roots n dec (n0::l)) cs q.1)} (Xi (fun q=>⟨[(0,.ref 1005 0),(2,.ref 1006 0),(4,vs p),(5,sl AT (n0::l)),(37,sl Ay cs),(38,vi (cs.map Ay).length),(39,vi q.1.1)],[(1000,.cells (Py roots C A Kr dec 0)),(1001,.tok 6 0),(1002,.tok 1 0),(1003,.map DA []),(1004,.arr 1 []),(1005,.cells [.ref 1000 0]),(1006,.cells [.clo 63 [.ref 1005 0,.cptr [.v (.func (.yield yl) #[] #[])],.ref 1006 0]]),(1007,.cells [.slice (.id 1008 1) (q.1.2.map BI)]),(1008,.tok 1 q.1.2.length)],Aa⟩) (Xi (fun q=>cs.length-q.1.1) (Yi (Xi ⟨(0,out),AL _,by rw[VY];simp⟩ ?_) ?_)))
  ·exact⟨Z7,Z9,Fh,At (by kernel_rfl)⟩
  intro⟨⟨i,o⟩,j1,j2⟩;have j1:i≤cs.length:=j1;have j2:o=out++Nh (Ks (Rf x roots n dec (n0::l)) cs i):=j2;refine Yi (fun h3=>?_) (fun h3=>?_)
  ·have h3:(i:Int)<((cs.map Ay).length:Int):=h3;have n3:i<cs.length:=by have q:=h3;rw[Lm]at q;omega
   have g3:cs[i]?=some cs[i]:=Ge n3;refine Xi ⟨[(0,.ref 1005 0),(2,.ref 1006 0),(4,vs p),(5,sl AT (n0::l)),(37,sl Ay cs),(38,vi (cs.map Ay).length),(39,vi i)],[(1000,.cells (Py roots C A Kr dec 0)),(1001,.tok 6 0),(1002,.tok 1 0),(1003,.map DA []),(1004,.arr 1 []),(1005,.cells [.ref 1000 0]),(1006,.cells [.clo 63 (HE yl)]),(1007,.cells [.slice (.id 1008 1) (o.map BI)]),(1008,.tok 1 o.length)],Aa⟩ (Yi ⟨Z7,Z9,Fh,At (by kernel_rfl)⟩ ?_)
   refine Xi (Ay cs[i]) (Yi (Yi (Nn i) (Cg g3)) (Yi rfl ?_));refine Yi (Nz rfl) ?_;refine Yi (Nz rfl) ?_;refine Xi ⟨[(0,.ref 1005 0),(2,.ref 1006 0),(4,vs p),(5,sl AT (n0::l)),(8,.ref 8 0),(37,sl Ay cs),(38,vi (cs.map Ay).length),(39,vi i)],[(8,.ro (Ay cs[i])),(1000,.cells (Py roots C A Kr dec 0)),(1001,.tok 6 0),(1002,.tok 1 0),(1003,.map DA []),(1004,.arr 1 []),(1005,.cells [.ref 1000 0]),(1006,.cells [.clo 63 (HE yl)]),(1007,.cells [.slice (.id 1008 1) (o.map BI)]),(1008,.tok 1 o.length)],Aa⟩ (Yi ⟨Z8,Z10,Fh,At (by kernel_rfl)⟩ ?_)
   have lf:=s66 (fF:=67) (caps:=[.cptr (Ay cs[i])]) (fun c hc=>by obtain rfl:=As.1 hc;intro h;rfl) (n0::l) (fun n=>!has n.rq.set cs[i].place) (fun n hn=>s67 n cs[i] (hnq n hn)) hnl;refine BO (Bt ((n0::l).any fun n=>!has n.rq.set cs[i].place)) (fun h4=>?_) (fun h4=>?_)
   ·skip
    rw[h4]at lf;refine Xi .pure (Xi _ (Yi lf ?_));refine Yi (Ii i (by omega)) ?_;have LN:Rf x roots n dec (n0::l) cs[i]=[]:=lN h4;refine Xi ⟨(i+1,o),DT n3,by rw[j2,bT n3 LN]⟩ ?_;exact⟨Dl cs.length i (by omega),Z7,Z9,Fh,At (by kernel_rfl)⟩
   skip
   rw[h4]at lf;refine Xi .pure (Xi _ (Yi lf ?_));refine Xi ⟨[(0,.ref 1005 0),(2,.ref 1006 0),(4,vs p),(5,sl AT (n0::l)),(8,.ref 8 0),(37,sl Ay cs),(38,vi (cs.map Ay).length),(39,vi i)],[(8,.ro (Ay cs[i])),(1000,.cells (Py roots C A Kr dec 0)),(1001,.tok 6 0),(1002,.tok 1 0),(1003,.map DA []),(1004,.arr 1 []),(1005,.cells [.ref 1000 0]),(1006,.cells [.clo 63 (HE yl)]),(1007,.cells [.slice (.id 1008 1) (o.map BI)]),(1008,.tok 1 o.length)],Aa⟩ (Yi ⟨Z8,Z10,Fh,At (by kernel_rfl)⟩ ?_)
   refine Yi (Nz rfl) ?_;have OY:=yY roots C A Kr dec [] cs[i] (by omega) (hcr i n3) (hcs_ i n3);refine BO (WS (Co dec cs[i])) (fun h6=>?_) (fun h6=>?_)
   ·refine Bb h6 (fun nc h6=>?_);have eW:kF (Co dec cs[i])=.tup [.agg (AT nc),vb true]:=by rw[h6];rfl
    rw[eW]at OY;refine Xi (.gen UP 0) (Yi rfl (Bo.imp OY ?_));intro v7 g7 q7;have yu:=q7.1;have yv:=q7.2;subst yu;subst yv;refine Yi (Nz rfl) ?_;refine Xi ⟨[(0,.ref 1005 0),(2,.ref 1006 0),(4,vs p),(5,sl AT (n0::l)),(8,.ref 8 0),(10,vb true),(37,sl Ay cs),(38,vi (cs.map Ay).length),(39,vi i)],[(8,.ro (Ay cs[i])),(1000,.cells (Py roots C A Kr dec 0)),(1001,.tok 6 0),(1002,.tok 1 0),(1003,.map DA []),(1004,.arr 1 []),(1005,.cells [.ref 1000 0]),(1006,.cells [.clo 63 (HE yl)]),(1007,.cells [.slice (.id 1008 1) (o.map BI)]),(1008,.tok 1 o.length)],Aa⟩ (Yi ⟨Z9,Z10,Fh,At (by kernel_rfl)⟩ ?_)
    refine Yi (Ii i (by omega)) ?_;have LN:Rf x roots n dec (n0::l) cs[i]=[]:=iy h6;refine Xi ⟨(i+1,o),DT n3,by rw[j2,bT n3 LN]⟩ ?_;exact⟨Dl cs.length i (by omega),Z7,Z9,Fh,At (by kernel_rfl)⟩
   skip
   have eW:kF (Co dec cs[i])=.tup [.agg [vs ⟨#[]⟩,.v (.slice none 0 0),vs ⟨#[]⟩,vi 0,vi 0],vb false]:=by rw[h6];rfl
   rw[eW]at OY;refine Xi (.gen UP 0) (Yi rfl (Bo.imp OY ?_));intro v9 g9 q9;have pC:=q9.1;have pD:=q9.2;subst pC;subst pD;refine Yi (Nz rfl) ?_;refine Xi ⟨[(0,.ref 1005 0),(2,.ref 1006 0),(4,vs p),(5,sl AT (n0::l)),(8,.ref 8 0),(10,vb false),(37,sl Ay cs),(38,vi (cs.map Ay).length),(39,vi i)],[(8,.ro (Ay cs[i])),(1000,.cells (Py roots C A Kr dec 0)),(1001,.tok 6 0),(1002,.tok 1 0),(1003,.map DA []),(1004,.arr 1 []),(1005,.cells [.ref 1000 0]),(1006,.cells [.clo 63 (HE yl)]),(1007,.cells [.slice (.id 1008 1) (o.map BI)]),(1008,.tok 1 o.length)],Aa⟩ (Yi ⟨Z9,Z10,Fh,At (by kernel_rfl)⟩ ?_)
   refine Xi ⟨[(0,.ref 1005 0),(2,.ref 1006 0),(4,vs p),(5,sl AT (n0::l)),(8,.ref 8 0),(37,sl Ay cs),(38,vi (cs.map Ay).length),(39,vi i)],[(8,.ro (Ay cs[i])),(1000,.cells (Py roots C A Kr dec 0)),(1001,.tok 6 0),(1002,.tok 1 0),(1003,.map DA []),(1004,.arr 1 []),(1005,.cells [.ref 1000 0]),(1006,.cells [.clo 63 (HE yl)]),(1007,.cells [.slice (.id 1008 1) (o.map BI)]),(1008,.tok 1 o.length)],Aa⟩ (Yi ⟨Z8,Z10,Fh,At (by kernel_rfl)⟩ ?_)
   refine Yi (by kernel_rfl) ?_;refine Xi ⟨[(0,.ref 1005 0),(2,.ref 1006 0),(4,vs p),(5,sl AT (n0::l)),(8,.ref 8 0),(11,sl Ay dec),(12,sl Ak (Ap dec)),(37,sl Ay cs),(38,vi (cs.map Ay).length),(39,vi i)],[(8,.ro (Ay cs[i])),(1000,.cells (Py roots C A Kr dec 0)),(1001,.tok 6 0),(1002,.tok 1 0),(1003,.map DA []),(1004,.arr 1 []),(1005,.cells [.ref 1000 0]),(1006,.cells [.clo 63 (HE yl)]),(1007,.cells [.slice (.id 1008 1) (o.map BI)]),(1008,.tok 1 o.length)],Aa⟩ (Yi ⟨Z10,Z10,Fh,At (by kernel_rfl)⟩ ?_)
   refine Xi _ (Xi _ (Yi (by kernel_rfl) (Yi (pL dec (by unfold CL;omega)) ?_)));refine Yi (Nz rfl) ?_;have aS:BW 10 [(Ay cs[i])]∧(dec.map Ay).length=(dec.map Ay).length∧((dec.map Ay).length+([(Ay cs[i])]:List (List AV)).length)*128≤140737488355328∧(dec.map Ay).length+([(Ay cs[i])]:List (List AV)).length≤9223372036854775807:=⟨⟨rfl,trivial⟩,rfl,(by simp only[Lm,Aj,Ah];omega),(by simp only[Lm,Aj,Ah];omega)⟩;refine Yi aS ?_;refine Yi (Nz rfl) ?_;refine Yi (by kernel_rfl) ?_;refine Xi ⟨[(0,.ref 1005 0),(2,.ref 1006 0),(4,vs p),(5,sl AT (n0::l)),(8,.ref 8 0),(11,sl Ay dec),(12,sl Ak (Ap dec)),(37,sl Ay cs),(38,vi (cs.map Ay).length),(39,vi i)],[(8,.ro (Ay cs[i])),(1000,.cells [sl Al roots,.cmap DQ C,.cmap DQ A,.slice (.id 1001 6) (([]:List Nf).map BQ),.slice (.id 1002 1) (([]:List (List Tm)).map B5),.mref 1003,vb Kr.full,.slice (.id 16300 10) ((dec.map Ay)++[(Ay cs[i])]),sl Ak (Ap dec),.msl 1004 0]),(1001,.tok 6 0),(1002,.tok 1 0),(1003,.map DA []),(1004,.arr 1 []),(1005,.cells [.ref 1000 0]),(1006,.cells [.clo 63 [.ref 1005 0,.cptr [.v (.func (.yield yl) #[] #[])],.ref 1006 0]]),(1007,.cells [.slice (.id 1008 1) (o.map BI)]),(1008,.tok 1 o.length),(16300,.tok 10 ((dec.map Ay).length+([(Ay cs[i])]:List (List AV)).length))],Aa⟩ (Yi ⟨Z10,Z11,Fh,At (by kernel_rfl)⟩ ?_)
   refine Xi _ (Xi _ (Yi (by kernel_rfl) (Yi (rb (Ap dec) (by unfold CL Ap;rw[Lm];omega)) ?_)));refine Yi (Nz rfl) ?_;have fA:BW 4 [[vs p,vi cs[i].rel.ver.a,vi cs[i].rel.ver.b,vi cs[i].rel.ver.c]]∧((Ap dec).map Ak).length=((Ap dec).map Ak).length∧(((Ap dec).map Ak).length+([[vs p,vi cs[i].rel.ver.a,vi cs[i].rel.ver.b,vi cs[i].rel.ver.c]]:List (List AV)).length)*40≤140737488355328∧((Ap dec).map Ak).length+([[vs p,vi cs[i].rel.ver.a,vi cs[i].rel.ver.b,vi cs[i].rel.ver.c]]:List (List AV)).length≤9223372036854775807:=⟨⟨rfl,trivial⟩,rfl,(by simp only[Lm,Aj,Ah];omega),(by simp only[Lm,Aj,Ah];omega)⟩;refine Yi fA ?_;refine Yi (Nz rfl) ?_;refine Yi (by kernel_rfl) ?_;refine Xi ⟨[(0,.ref 1005 0),(2,.ref 1006 0),(4,vs p),(5,sl AT (n0::l)),(11,sl Ay dec),(12,sl Ak (Ap dec)),(37,sl Ay cs),(38,vi (cs.map Ay).length),(39,vi i)],[(1000,.cells [sl Al roots,.cmap DQ C,.cmap DQ A,.slice (.id 1001 6) (([]:List Nf).map BQ),.slice (.id 1002 1) (([]:List (List Tm)).map B5),.mref 1003,vb Kr.full,.slice (.id 16300 10) ((dec++[cs[i]]).map Ay),.slice (.id 17100 4) ((Ap (dec++[cs[i]])).map Ak),.msl 1004 0]),(1001,.tok 6 0),(1002,.tok 1 0),(1003,.map DA []),(1004,.arr 1 []),(1005,.cells [.ref 1000 0]),(1006,.cells [.clo 63 [.ref 1005 0,.cptr [.v (.func (.yield yl) #[] #[])],.ref 1006 0]]),(1007,.cells [.slice (.id 1008 1) (o.map BI)]),(1008,.tok 1 o.length),(16300,.tok 10 ((dec++[cs[i]]).map Ay).length),(17100,.tok 4 ((Ap (dec++[cs[i]])).map Ak).length)],Aa⟩ (Yi ⟨Z9,⟨⟨(show(.cells [sl Al roots,.cmap DQ C,.cmap DQ A,.slice (.id 1001 6) (([]:List Nf).map BQ),.slice (.id 1002 1) (([]:List (List Tm)).map B5),.mref 1003,vb Kr.full,.slice (.id 16300 10) ((dec.map Ay)++[(Ay cs[i])]),.slice (.id 17100 4) (((Ap dec).map Ak)++[[vs p,vi cs[i].rel.ver.a,vi cs[i].rel.ver.b,vi cs[i].rel.ver.c]]),.msl 1004 0]:HO)=.cells [sl Al roots,.cmap DQ C,.cmap DQ A,.slice (.id 1001 6) (([]:List Nf).map BQ),.slice (.id 1002 1) (([]:List (List Tm)).map B5),.mref 1003,vb Kr.full,.slice (.id 16300 10) ((dec++[cs[i]]).map Ay),.slice (.id 17100 4) ((Ap (dec++[cs[i]])).map Ak),.msl 1004 0] by rw[hkey i n3];simp),rfl⟩,Zr,Zr,Zr,Zr,Zr,Zr,Zr,Zr,⟨(show(.tok 10 ((dec.map Ay).length+([(Ay cs[i])]:List (List AV)).length):HO)=.tok 10 ((dec++[cs[i]]).map Ay).length by simp),rfl⟩,⟨(show(.tok 4 (((Ap dec).map Ak).length+([[vs p,vi cs[i].rel.ver.a,vi cs[i].rel.ver.b,vi cs[i].rel.ver.c]]:List (List AV)).length):HO)=.tok 4 ((Ap (dec++[cs[i]])).map Ak).length by rw[←hkey i n3,Ad]),rfl⟩,Tv⟩,Fh,At (by kernel_rfl)⟩ ?_)
   have FV:VC dec (n0::l) cs[i]=true:=sV h4 h6;have I2:Rf x roots n dec (n0::l) cs[i]=(BS x roots n (dec++[cs[i]])):=by unfold Rf;rw[Ax FV]
   have hup:Ks (Rf x roots n dec (n0::l)) cs (i+1)=Ks (Rf x roots n dec (n0::l)) cs i++(BS x roots n (dec++[cs[i]])):=by rw[VX n3,I2]
   have hM2:o.length+(BS x roots n (dec++[cs[i]])).length≤M:=by have q:=jL (Rf x roots n dec (n0::l)) cs (i+1);rw[hup,Ad]at q;rw[j2];simp only[Ad,Lm];omega
   have Uk:=ih i n3 FV o hM2;refine Xi (.geny eS 0) (Yi rfl (Gx.imp (Gx.pre Uk (fun g w q=>q yl rfl rfl)) ?_));intro v12 g12 mj;have py:=mj.1;have pz:=mj.2;subst py;subst pz;refine Xi ⟨[(0,.ref 1005 0),(2,.ref 1006 0),(4,vs p),(5,sl AT (n0::l)),(11,sl Ay dec),(12,sl Ak (Ap dec)),(13,vb true),(37,sl Ay cs),(38,vi (cs.map Ay).length),(39,vi i)],[(1000,.cells [sl Al roots,.cmap DQ C,.cmap DQ A,.slice (.id 1001 6) (([]:List Nf).map BQ),.slice (.id 1002 1) (([]:List (List Tm)).map B5),.mref 1003,vb Kr.full,sl Ay (dec++[cs[i]]),sl Ak (Ap (dec++[cs[i]])),.msl 1004 0]),(1001,.tok 6 0),(1002,.tok 1 0),(1003,.map DA []),(1004,.arr 1 []),(1005,.cells [.ref 1000 0]),(1006,.cells [.clo 63 [.ref 1005 0,.cptr [.v (.func (.yield yl) #[] #[])],.ref 1006 0]]),(1007,.cells [.slice (.id 1008 1) ((o++Nh (BS x roots n (dec++[cs[i]]))).map BI)]),(1008,.tok 1 (o++Nh (BS x roots n (dec++[cs[i]]))).length)],Aa⟩ (Yi ⟨Z10,Z9,Fh,At (by kernel_rfl)⟩ ?_)
   refine Yi (Nz rfl) ?_;refine Yi (Nz rfl) ?_;refine Yi (by kernel_rfl) ?_;refine Xi ⟨[(0,.ref 1005 0),(2,.ref 1006 0),(4,vs p),(5,sl AT (n0::l)),(13,vb true),(37,sl Ay cs),(38,vi (cs.map Ay).length),(39,vi i)],[(1000,.cells (Py roots C A Kr dec 0)),(1001,.tok 6 0),(1002,.tok 1 0),(1003,.map DA []),(1004,.arr 1 []),(1005,.cells [.ref 1000 0]),(1006,.cells [.clo 63 [.ref 1005 0,.cptr [.v (.func (.yield yl) #[] #[])],.ref 1006 0]]),(1007,.cells [.slice (.id 1008 1) ((o++Nh (BS x roots n (dec++[cs[i]]))).map BI)]),(1008,.tok 1 (o++Nh (BS x roots n (dec++[cs[i]]))).length)],Aa⟩ (Yi ⟨Z8,Z9,Fh,At (by kernel_rfl)⟩ ?_)
   refine Yi (Ii i (by omega)) ?_;refine Xi ⟨(i+1,o++Nh (BS x roots n (dec++[cs[i]]))),DT n3,by rw[hup,j2];simp⟩ ?_;exact⟨Dl cs.length i (by omega),Z7,Z9,Fh,At (by kernel_rfl)⟩
  have h3:¬((i:Int)<((cs.map Ay).length:Int)):=h3;have n3:¬i<cs.length:=by have q:=h3;rw[Lm]at q;omega
  have hj:i=cs.length:=by have q:=h3;rw[Lm]at q;omega
  have eo:o=out++Nh (BS x roots (n+1) dec):=by rw[j2,hj,←UC]
  exact⟨rfl,Ac (fun z=>Ag (vH roots C A yl dec z) Aa) eo⟩
 exact absurd LN ox
end Go.Eng

namespace Go.Eng
open Go.Proofs
set_option maxHeartbeats 16000000 in
theorem yW(x:List Rl)(roots:List Rq)(C A:List (Value×AV))(Y:Gh→World→Prop)(yl M n:Nat)(dec:List Cd)(out:List (List Sl))(p:ByteArray)(n0:Nd)(l:List Nd)(cs:List Cd)(hL:uz x roots C A Y yl M n dec p n0 l cs)(GD:qC (vH roots C A yl dec out) Y)
  (IS:Bo Tryz.prog 64 [.ref 1000 0] (Ag (H7 roots C A Kr dec []) Aa) fun r h'=>r=.tup [vs p,sl AT (n0::l)]∧h'=Ag (H7 roots C A Kr dec []) Aa)
  (cS:cs=[]) (ox:∀a,(Value.string p,a)∉C) (UC:BS x roots (n+1) dec=Ks (Rf x roots n dec (n0::l)) cs cs.length) (_hM:out.length+(Ks (Rf x roots n dec (n0::l)) cs cs.length).length≤M) :
  Gx Tryz.prog Y 63 (HE yl) (Ag (vH roots C A yl dec out) Aa) fun r h'=>r=vb true∧h'=Ag (vH roots C A yl dec (out++Nh (BS x roots (n+1) dec))) Aa:=by
 obtain⟨hdl,hcl,hnl,hnq,hcr,hcs_,hkey,ih⟩:=hL;have hdl:dec.length≤256:=hdl;have hcl:cs.length≤256:=hcl;refine PE (l:=yl) (vZ ⟨[8],[],[],[],[],[],[],[],[],[],[1,2,4,6,8,9,10,11,12,13,14,15,16,17]⟩ yl Y) eS eS rfl CI hm rfl Tryz.func63 (by kernel_rfl) rfl (Nz rfl) (by kernel_rfl) rfl rfl GD ?_;refine Xi ⟨[(0,.ref 1005 0),(1,.cptr [.v (.func (.yield yl) #[] #[])]),(2,.ref 1006 0)],[(1000,.cells (Py roots C A Kr dec 0)),(1001,.tok 6 0),(1002,.tok 1 0),(1003,.map DA []),(1004,.arr 1 []),(1005,.cells [.ref 1000 0]),(1006,.cells [.clo 63 [.ref 1005 0,.cptr [.v (.func (.yield yl) #[] #[])],.ref 1006 0]]),(1007,.cells [.slice (.id 1008 1) (out.map BI)]),(1008,.tok 1 out.length)],Aa⟩ (Yi ⟨Z3,Z9,Fh,At (by kernel_rfl)⟩ ?_)
 refine Xi (.gen UP 0) (Yi rfl (Bo.imp IS ?_));intro v1 g1 q1;have ay:=q1.1;have az:=q1.2;subst ay;subst az;refine Xi ⟨[(0,.ref 1005 0),(1,.cptr [.v (.func (.yield yl) #[] #[])]),(2,.ref 1006 0),(4,vs p),(5,sl AT (n0::l))],[(1000,.cells (Py roots C A Kr dec 0)),(1001,.tok 6 0),(1002,.tok 1 0),(1003,.map DA []),(1004,.arr 1 []),(1005,.cells [.ref 1000 0]),(1006,.cells [.clo 63 [.ref 1005 0,.cptr [.v (.func (.yield yl) #[] #[])],.ref 1006 0]]),(1007,.cells [.slice (.id 1008 1) (out.map BI)]),(1008,.tok 1 out.length)],Aa⟩ (Yi ⟨Z5,Z9,Fh,At (by kernel_rfl)⟩ ?_)
 refine Yi (fun h2=>?_) (fun h2=>?_)
 ·have h2:(((n0::l).map AT).length:Int)=(0:Int):=h2;exact absurd h2 (by simp;omega)
 have h2:¬((((n0::l).map AT).length:Int)=(0:Int)):=h2;refine Xi ⟨[(0,.ref 1005 0),(2,.ref 1006 0),(4,vs p),(5,sl AT (n0::l))],[(1000,.cells (Py roots C A Kr dec 0)),(1001,.tok 6 0),(1002,.tok 1 0),(1003,.map DA []),(1004,.arr 1 []),(1005,.cells [.ref 1000 0]),(1006,.cells [.clo 63 [.ref 1005 0,.cptr [.v (.func (.yield yl) #[] #[])],.ref 1006 0]]),(1007,.cells [.slice (.id 1008 1) (out.map BI)]),(1008,.tok 1 out.length)],Aa⟩ (Yi ⟨Z4,Z9,Fh,At (by kernel_rfl)⟩ ?_)
 refine Yi (fun a ha=>?_) (fun LN=>?_)
 ·exact absurd ha (ox a)
 refine Xi {q:Nat×List (List Sl) // q.1≤cs.length∧q.2=out++Nh (Ks (Rf x roots n dec (n0::l)) cs q.1)} (Xi (fun q=>⟨[(0,.ref 1005 0),(2,.ref 1006 0),(4,vs p),(5,sl AT (n0::l)),(37,.v (.slice none 0 0)),(38,vi 0),(39,vi q.1.1)],[(1000,.cells (Py roots C A Kr dec 0)),(1001,.tok 6 0),(1002,.tok 1 0),(1003,.map DA []),(1004,.arr 1 []),(1005,.cells [.ref 1000 0]),(1006,.cells [.clo 63 [.ref 1005 0,.cptr [.v (.func (.yield yl) #[] #[])],.ref 1006 0]]),(1007,.cells [.slice (.id 1008 1) (q.1.2.map BI)]),(1008,.tok 1 q.1.2.length)],Aa⟩) (Xi (fun q=>cs.length-q.1.1) (Yi (Xi ⟨(0,out),AL _,by rw[VY];simp⟩ ?_) ?_)))
 ·exact⟨Z7,Z9,Fh,At (by kernel_rfl)⟩
 intro⟨⟨i,o⟩,j1,j2⟩;have j1:i≤cs.length:=j1;have j2:o=out++Nh (Ks (Rf x roots n dec (n0::l)) cs i):=j2;refine Yi (fun h3=>?_) (fun h3=>?_)
 ·have h3:(i:Int)<(0:Int):=h3;exact absurd h3 (by have q:=j1;rw[cS,Ah]at q;omega)
 have h3:¬((i:Int)<(0:Int)):=h3;have hj:i=cs.length:=by have q:=j1;rw[cS,Ah]at q;rw[cS,Ah];omega
 have eo:o=out++Nh (BS x roots (n+1) dec):=by rw[j2,hj,←UC]
 exact⟨rfl,Ac (fun z=>Ag (vH roots C A yl dec z) Aa) eo⟩
set_option maxHeartbeats 4000000 in
theorem yX(x:List Rl)(roots:List Rq)(C A:List (Value×AV))(Y:Gh→World→Prop)(yl n:Nat)(dec:List Cd)(out:List (List Sl))(p:ByteArray)(N:List Nd)(hN:N=[])(hdl:dec.length≤256)(hn:((Ap dec).map (·.path)).Nodup)(GD:qC (vH roots C A yl dec out) Y)
  (IS:Bo Tryz.prog 64 [.ref 1000 0] (Ag (H7 roots C A Kr dec []) Aa) fun r h'=>r=.tup [vs p,sl AT N]∧h'=Ag (H7 roots C A Kr dec []) Aa)
  (I2:BS x roots (n+1) dec=[dec])
  (hy:GR Tryz.prog Y yl [sl Ak (Dp (Ap dec))] (Ag (vH roots C A yl dec out) Aa) fun r h'=>r=vb true∧h'=Ag (vH roots C A yl dec (out++[Dp (Ap dec)])) Aa) :
  Gx Tryz.prog Y 63 (HE yl) (Ag (vH roots C A yl dec out) Aa) fun r h'=>r=vb true∧h'=Ag (vH roots C A yl dec (out++Nh (BS x roots (n+1) dec))) Aa:=by
 have X3:CL (Ap dec):=by unfold CL Ap;rw[Lm];omega
 have Um:(Ap dec).length=((Dp (Ap dec)).map Ak).length:=(Of (Ap dec)).length_eq.symm.trans (Lm ..).symm;refine PE (l:=yl) (vZ ⟨[],[],[],[],[],[],[],[],[],[(200005,6)],[1,2,3,4,5,6,10,11,13,14,15,17]⟩ yl Y) eS eS rfl CI hm rfl Tryz.func63 (by kernel_rfl) rfl (Nz rfl) (by kernel_rfl) rfl rfl GD ?_;refine Xi ⟨[(0,.ref 1005 0),(1,.cptr [.v (.func (.yield yl) #[] #[])]),(2,.ref 1006 0)],[(1000,.cells (Py roots C A Kr dec 0)),(1001,.tok 6 0),(1002,.tok 1 0),(1003,.map DA []),(1004,.arr 1 []),(1005,.cells [.ref 1000 0]),(1006,.cells [.clo 63 [.ref 1005 0,.cptr [.v (.func (.yield yl) #[] #[])],.ref 1006 0]]),(1007,.cells [.slice (.id 1008 1) (out.map BI)]),(1008,.tok 1 out.length)],Aa⟩ (Yi ⟨Z3,Z9,Fh,At (by kernel_rfl)⟩ ?_)
 refine Xi (.gen UP 0) (Yi rfl (Bo.imp IS ?_));intro v1 g1 q1;have ay:=q1.1;have az:=q1.2;subst ay;subst az;refine Xi ⟨[(0,.ref 1005 0),(1,.cptr [.v (.func (.yield yl) #[] #[])]),(2,.ref 1006 0),(4,vs p),(5,sl AT N)],[(1000,.cells (Py roots C A Kr dec 0)),(1001,.tok 6 0),(1002,.tok 1 0),(1003,.map DA []),(1004,.arr 1 []),(1005,.cells [.ref 1000 0]),(1006,.cells [.clo 63 [.ref 1005 0,.cptr [.v (.func (.yield yl) #[] #[])],.ref 1006 0]]),(1007,.cells [.slice (.id 1008 1) (out.map BI)]),(1008,.tok 1 out.length)],Aa⟩ (Yi ⟨Z5,Z9,Fh,At (by kernel_rfl)⟩ ?_)
 refine Yi (fun h2=>?_) (fun h2=>?_)
 ·have h2:((N.map AT).length:Int)=(0:Int):=h2;refine Xi ⟨[(0,.ref 1005 0),(1,.cptr [.v (.func (.yield yl) #[] #[])])],[(1000,.cells (Py roots C A Kr dec 0)),(1001,.tok 6 0),(1002,.tok 1 0),(1003,.map DA []),(1004,.arr 1 []),(1005,.cells [.ref 1000 0]),(1006,.cells [.clo 63 [.ref 1005 0,.cptr [.v (.func (.yield yl) #[] #[])],.ref 1006 0]]),(1007,.cells [.slice (.id 1008 1) (out.map BI)]),(1008,.tok 1 out.length)],Aa⟩ (Yi ⟨Z2,Z9,Fh,At (by kernel_rfl)⟩ ?_)
  refine Xi (.gen [] 1) (Yi rfl (Bo.imp (tK (Ap dec) X3) ?_));intro v3 g3 q3;have yd:=q3.1;have ye:=q3.2;subst yd;subst ye;refine Xi ⟨[(1,.cptr [.v (.func (.yield yl) #[] #[])]),(6,.msl 12600 (Ap dec).length)],[(1000,.cells (Py roots C A Kr dec 0)),(1001,.tok 6 0),(1002,.tok 1 0),(1003,.map DA []),(1004,.arr 1 []),(1005,.cells [.ref 1000 0]),(1006,.cells [.clo 63 [.ref 1005 0,.cptr [.v (.func (.yield yl) #[] #[])],.ref 1006 0]]),(1007,.cells [.slice (.id 1008 1) (out.map BI)]),(1008,.tok 1 out.length),(12600,.arr 4 ((Ap dec).map Ak))],Aa⟩ (Yi ⟨Z2,Z10,Fh,At (by kernel_rfl)⟩ ?_)
  refine Xi (.gen [(12600,1000)] 0) (Yi rfl (Bo.imp (s47 65 Tryz.closure65 (enters_of Tryz.func65 (by kernel_rfl) rfl) (Ap dec) X3 hn) ?_));intro v4 g4 q4;have ta:=q4.1;have tb:=q4.2;subst ta;subst tb;refine Yi (show(Ap dec).length=((Dp (Ap dec)).map Ak).length from Um) ?_;refine Xi ⟨[(1,.cptr [.v (.func (.yield yl) #[] #[])]),(6,sl Ak (Dp (Ap dec)))],[(1000,.cells (Py roots C A Kr dec 0)),(1001,.tok 6 0),(1002,.tok 1 0),(1003,.map DA []),(1004,.arr 1 []),(1005,.cells [.ref 1000 0]),(1006,.cells [.clo 63 [.ref 1005 0,.cptr [.v (.func (.yield yl) #[] #[])],.ref 1006 0]]),(1007,.cells [.slice (.id 1008 1) (out.map BI)]),(1008,.tok 1 out.length)],Aa⟩ (Yi ⟨Z2,Z9,Fh,At (by kernel_rfl)⟩ ?_)
  refine Xi (.gen eS 0) (Yi rfl (GR.imp (GR.pre hy (fun g w q=>q rfl rfl)) ?_));intro v5 g5 q5;have q5a:=q5.1;have q5b:=q5.2;subst q5a;subst q5b;exact⟨rfl,Ac (fun z=>Ag (vH roots C A yl dec (out++Nh z)) Aa) I2.symm⟩
 have h2:¬(((N.map AT).length:Int)=(0:Int)):=h2;exact absurd (by rw[hN];rfl) h2
end Go.Eng

namespace Go.Eng
open Go.Proofs
theorem TC{x:List Rl}{roots:List Rq}{n:Nat}{dec:List Cd}(h:(DR roots dec).2=[]):BS x roots (n+1) dec=[dec]:=by unfold BS;rw[h]
theorem Yq{x:List Rl}{roots:List Rq}{n:Nat}{dec:List Cd}{n0:Nd}{l:List Nd}(h:(DR roots dec).2=n0::l) :
  BS x roots (n+1) dec=Ks (Rf x roots n dec (n0::l)) (Br x (DR roots dec).1) (Br x (DR roots dec).1).length:=by
 unfold BS Ks;rw[h,CN]
theorem s63{x:List Rl}{roots:List Rq}{C A:List (Value×AV)}{Y:Gh→World→Prop}{yl M:Nat}(hE:qw x roots C A)(GD:∀dec out,qC (vH roots C A yl dec out) Y)
  (hy:∀dec out,dec.length≤256→out.length<M→GR Tryz.prog Y yl [sl Ak (Dp (Ap dec))] (Ag (vH roots C A yl dec out) Aa) fun r h'=>r=vb true∧h'=Ag (vH roots C A yl dec (out++[Dp (Ap dec)])) Aa) :
  ∀(n:Nat) {dec:List Cd} {out:List (List Sl)},D6 x dec→E9 x dec<n→out.length+(BS x roots n dec).length≤M →
  Gx Tryz.prog Y 63 (HE yl) (Ag (vH roots C A yl dec out) Aa) fun r h'=>r=vb true∧h'=Ag (vH roots C A yl dec (out++Nh (BS x roots n dec))) Aa
 |0,_,_,_,h,_=>by omega
 |n+1,dec,out,hd,hn,hM=>by
  have hx:=hE.hx;have hr:=hE.hr;have NY:=Ls hx;have hdl:=OG hd;have gN:dec.length≤256:=by have:=NY.1;omega
  have hrl:∀c∈dec,c.rel.reqs.length≤16:=fun c hc=>NY.2 _ (hd.cand c hc).1;have IS:=s64 roots C A Kr dec [] (Bw (JJ hr) (by decide)) (by omega) fun c hc=>Bw (hrl c hc) (by decide);obtain⟨N,hN⟩:∃N,N=(DR roots dec).2:=⟨_,rfl⟩;obtain⟨q,hq⟩:∃q,q=(DR roots dec).1:=⟨_,rfl⟩;rw[←hN,←hq]at IS;have oA:N.length≤10000:=by
   have h1:=Vy (roots:=roots) dec;have h2:(Dq roots dec).length=(DH roots dec).length:=by rw[←Jm,Lm]
   have h3:=gb hrl;have h4:=JJ hr;rw[←hN]at h1;unfold DH at h2;rw[Ad]at h2;omega
  cases hNc:N with
  |nil =>
   rw[hNc]at hN IS;have I2:=TC (x:=x) (n:=n) hN.symm;rw[I2,AB]at hM;exact yX x roots C A Y yl n dec out q [] rfl gN (by rw[JD];exact hd.nodup) (GD dec out) IS I2 (hy dec out gN (by omega))
  |cons n0 l =>
   rw[hNc]at hN IS;have hNx:=Im hN.symm;have I2:=Yq (x:=x) (n:=n) hN.symm;rw[←hq]at hNx I2;have MP:∀nd∈n0::l,nd∈Dq roots dec:=fun nd h=>((hNx.mem nd).1 h).1;have few:∀nd∈Dq roots dec,CL nd.rq.set:=fun nd h=>by
    rcases KR h with ⟨k,r,h1,rfl⟩ | ⟨c,hc,k,r,h1,rfl⟩
    ·exact(hE.fr r (AA h1)).1
    ·exact((hE.fx _ (hd.cand c hc).1).2 r (AA h1)).1
   have cZ:∀c∈Br x q,D6 x (dec++[c])∧c.rel.path=q∧c.rel∈x:=fun c hc=>by
    obtain⟨c1,c2⟩:=Hb hc;exact⟨hd.snoc c2 (by rw[c1];exact hNx.undone),c1,c2.1⟩
   have EU:∀(i:Nat) (h:i<(Br x q).length),(Br x q)[i]∈Br x q:=fun i h=>Am h
   have hL:uz x roots C A Y yl M n dec q n0 l (Br x q):={
    hdl:=gN
    hcl:=Bw (PI x q) NY.1
    hnl:=by rw[hNc]at oA;unfold CL;omega
    hnq:=fun nd h=>few nd (MP nd h)
    hcr:=fun i h=>by have:=NY.2 _ (cZ _ (EU i h)).2.2;omega
    hcs_:=fun i h r gX=>((hE.fx _ (cZ _ (EU i h)).2.2).2 r gX).1
    hkey:=fun i h=>by
     have b:=(cZ _ (EU i h)).2.1;unfold Ap;rw[Az,Az];show _=_++[[vs (Br x q)[i].rel.path,vi (Br x q)[i].rel.ver.a,vi (Br x q)[i].rel.ver.b,vi (Br x q)[i].rel.ver.c]];rw[b]
    ih:=fun i h FV Acd hM'=>by
     obtain⟨a,b,c3⟩:=cZ _ (EU i h);obtain⟨_,c2⟩:=Hb (EU i h);have jV:E9 x (dec++[(Br x q)[i]])<n:=by have:=Ll (dec:=dec) ⟨c2.1,c2.2.1⟩ (by rw[b];exact hNx.undone);omega
     exact s63 hE GD hy n a jV hM' }
   rw[I2]at hM
   by_cases hcs:Br x q=[]
   ·exact yW x roots C A Y yl M n dec out q n0 l (Br x q) hL (GD dec out) IS hcs (hE.c3 q hcs) I2 hM
   ·exact yV x roots C A Y yl M n dec out q n0 l (Br x q) hL (GD dec out) IS (hE.c1 q) (fun hc=>hcs (hE.c2 q hc)) I2 hM
end Go.Eng
