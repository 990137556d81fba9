/- Lemmas for the claims of this seat, without a condition: part 28 (S19, S20, O18, O19, O21, V0, V1, V2, V5, V6). -/
import Derived.Test.YtddfphmpfnmknaaGreatDoorFA27
set_option maxHeartbeats 4000000
namespace Go.Eng
open Go.Proofs
abbrev kX:RO:=⟨[2],[],[],[],[],[],[],[(50,(9,3,95,3))],[(44,0)],[(100016,1009)],[3,4,5,6,7,8,9,10,11,14,15,16]⟩
abbrev an0:An:=⟨false,[],[],[]⟩
def HS(x:List Rl)(roots:List Rq):An:=if DT x roots=true∧(DK x roots).ss.full=false then VK x roots else an0
def G3(x:List Rl)(roots:List Rq):Int:=if DT x roots=true then if(DK x roots).ss.full=true then 7 else 0 else 1
abbrev iA(x:List Rl)(roots:List Rq):AV:=.tup [.agg (Sn (HS x roots)),vi (G3 x roots)]
theorem Hk.an0{v:AV}:Hk (.tup [.agg [vb false,.v (.slice none 0 0),.v (.slice none 0 0),.v (.slice none 0 0)],v]) (.tup [.agg (Sn an0),v]) :=
 Hk.tup ⟨Hk.agg ⟨.refl _,.nil,.nil,.nil,trivial⟩,.refl _,trivial⟩
theorem TO{x:List Rl}{roots:List Rq}(hx:∀r∈x,JW r)(hr:∀q∈roots,N1 q)(h0:AQ x=0)(h1:BK roots=0){L:List ByteArray}(hl:L.Perm (AO (yR x) [])){o:JC}(ho:DK x roots=o) :
  A3 Tryz.prog 65 [.ref 1000 0] (Ai (I4 roots (mC x) (L.map (kA x)) rW [] []) Ab) (YK roots (mC x) (L.map (kA x)) o):=by
 rw[←ho];exact w9 (ng hx hr h0 h1 hl) (x.length+1) (.nil x) (Hr.nil roots) ⟨⟨rfl,AJ _⟩,E9⟩ rfl (Nat.lt_succ_of_le (BA _ _)) rfl
theorem Mk{x:List Rl}{roots:List Rq}(h:DT x roots=true):AQ x=0∧BK roots=0:=by
 unfold DT at h;rw[Af,As,As]at h;exact h
theorem lp(x:List Rl)(ifs:List (List AV))(roots:List Rq)(hx:∀r∈x,JW r)(hr:∀q∈roots,N1 q)(hv:DT x roots=false):PC 43 [F5 x ifs,sl AK roots] (.tup [.agg (Sn an0),vi 1]):=by
 have SJ:=tf x ifs roots hx hr;rw[hv]at SJ;refine Ps kX Tryz.func43 rfl (Nz rfl) ?_;refine Yi ?_ ?_
 ·exact Nz rfl
 refine Xi .pure (Xi _ (Yi SJ ?_));refine Yi ?_ ?_
 ·exact Nz rfl
 refine Yi ?_ ?_
 ·exact Nz rfl
 exact Hk.an0
theorem iv(x:List Rl)(ifs:List (List AV))(roots:List Rq)(hx:∀r∈x,JW r)(hr:∀q∈roots,N1 q)(hv:DT x roots=true)(h0:AQ x=0)(h1:BK roots=0)(k:Nat)(infs:List Nf)(drv:List (List Tm))(dec:List Cd)(st:List (List Sk))(ho:DK x roots=⟨k,false,⟨infs,drv,true⟩,dec,st⟩):PC 43 [F5 x ifs,sl AK roots] (.tup [.agg (Sn an0),vi 7]):=by
 have SJ:=tf x ifs roots hx hr;rw[hv]at SJ;refine Ps kX Tryz.func43 rfl (Nz rfl) ?_;refine Yi ?_ ?_
 ·exact Nz rfl
 refine Xi .pure (Xi _ (Yi SJ ?_));refine Xi ⟨[(1,sl AK roots),(2,.ref 2 0),(4,.ref 4 0)],[(2,.ro (Ic x ifs)),(4,.cells [vb false,.v (.slice none 0 0),.v (.slice none 0 0),.v (.slice none 0 0)])],Ab⟩ (Yi ⟨Z3,Z2,Fh,Tv⟩ ?_)
 refine Yi ?_ ?_
 ·exact Nz rfl
 refine Xi (.gen [] 5) (Yi rfl ((w6 x ifs roots hx h0).imp ?_));intro v g q;refine CF q (fun L q=>?_);have q1:=q.2.1;have q2:=q.2.2;have qp:=q.1;subst q1;subst q2;refine Xi ⟨[(4,.ref 4 0),(6,.ref 11900 0)],[(4,.cells [vb false,.v (.slice none 0 0),.v (.slice none 0 0),.v (.slice none 0 0)]),(11900,.cells [sl AK roots,.cmap CP (mC x),.cmap CP (L.map (kA x)),.slice (.id 11901 6) [],.slice (.id 11902 1) [],.mref 11903,vb false,.slice .none [],.slice .none [],.msl 11904 0]),(11901,.tok 6 0),(11902,.tok 1 0),(11903,.map DS []),(11904,.arr 1 [])],Ab⟩ (Yi ⟨Z2,Z6,Fh,Tv⟩ ?_)
 refine Xi (.gen [(11900,1000),(11901,1001),(11902,1002),(11903,1003),(11904,1004)] 1) (Yi rfl ((TO hx hr h0 h1 qp ho).imp ?_));intro v g q;have q1:=q.1;have q2:=q.2;subst q1;subst q2;refine Xi ⟨[(4,.ref 4 0),(6,.ref 11900 0),(7,vi (k:Nat)),(8,vb false)],[(4,.cells [vb false,.v (.slice none 0 0),.v (.slice none 0 0),.v (.slice none 0 0)]),(11900,.cells [sl AK roots,.cmap CP (mC x),.cmap CP (L.map (kA x)),.slice (.id 11901 6) (infs.map BU),.slice (.id 11902 1) (drv.map B5),.mref 11903,vb true,sl AA dec,sl Ae (AI dec),.msl 12200 st.length]),(11901,.tok 6 infs.length),(11902,.tok 1 drv.length),(11903,.map DS (DW 0 infs)),(12200,.arr 1 (st.map AR))],Ab⟩ (Yi ⟨Z4,Z6,Fh,Tv⟩ ?_)
 refine Yi (fun _=>?_) (fun h=>by cases h);refine Xi ⟨[(4,.ref 4 0)],[(4,.cells [vb false,.v (.slice none 0 0),.v (.slice none 0 0),.v (.slice none 0 0)])],Ab⟩ (Yi ⟨Z1,Z1,Fh,Tv⟩ ?_)
 refine Yi ?_ ?_
 ·exact Nz rfl
 refine Yi ?_ ?_
 ·exact Nz rfl
 exact Hk.an0
theorem oE(x:List Rl)(ifs:List (List AV))(roots:List Rq)(hx:∀r∈x,JW r)(hr:∀q∈roots,N1 q)(hv:DT x roots=true)(h0:AQ x=0)(h1:BK roots=0)(k:Nat)(infs:List Nf)(drv:List (List Tm))(dec:List Cd)(st:List (List Sk))(ho:DK x roots=⟨k,false,⟨infs,drv,false⟩,dec,st⟩)(hk:k<infs.length)(hl:infs.length≤65536):PC 43 [F5 x ifs,sl AK roots] (.tup [.agg (Sn ⟨false,[],infs.take (k+1),[]⟩),vi 0]):=by
 have SJ:=tf x ifs roots hx hr;rw[hv]at SJ;refine Ps kX Tryz.func43 rfl (Nz rfl) ?_;refine Yi ?_ ?_
 ·exact Nz rfl
 refine Xi .pure (Xi _ (Yi SJ ?_));refine Xi ⟨[(1,sl AK roots),(2,.ref 2 0),(4,.ref 4 0)],[(2,.ro (Ic x ifs)),(4,.cells [vb false,.v (.slice none 0 0),.v (.slice none 0 0),.v (.slice none 0 0)])],Ab⟩ (Yi ⟨Z3,Z2,Fh,Tv⟩ ?_)
 refine Yi ?_ ?_
 ·exact Nz rfl
 refine Xi (.gen [] 5) (Yi rfl ((w6 x ifs roots hx h0).imp ?_));intro v g q;refine CF q (fun L q=>?_);have q1:=q.2.1;have q2:=q.2.2;have qp:=q.1;subst q1;subst q2;refine Xi ⟨[(4,.ref 4 0),(6,.ref 11900 0)],[(4,.cells [vb false,.v (.slice none 0 0),.v (.slice none 0 0),.v (.slice none 0 0)]),(11900,.cells [sl AK roots,.cmap CP (mC x),.cmap CP (L.map (kA x)),.slice (.id 11901 6) [],.slice (.id 11902 1) [],.mref 11903,vb false,.slice .none [],.slice .none [],.msl 11904 0]),(11901,.tok 6 0),(11902,.tok 1 0),(11903,.map DS []),(11904,.arr 1 [])],Ab⟩ (Yi ⟨Z2,Z6,Fh,Tv⟩ ?_)
 refine Xi (.gen [(11900,1000),(11901,1001),(11902,1002),(11903,1003),(11904,1004)] 1) (Yi rfl ((TO hx hr h0 h1 qp ho).imp ?_));intro v g q;have q1:=q.1;have q2:=q.2;subst q1;subst q2;refine Xi ⟨[(4,.ref 4 0),(6,.ref 11900 0),(7,vi (k:Nat)),(8,vb false)],[(4,.cells [vb false,.v (.slice none 0 0),.v (.slice none 0 0),.v (.slice none 0 0)]),(11900,.cells [sl AK roots,.cmap CP (mC x),.cmap CP (L.map (kA x)),.slice (.id 11901 6) (infs.map BU),.slice (.id 11902 1) (drv.map B5),.mref 11903,vb false,sl AA dec,sl Ae (AI dec),.msl 12200 st.length]),(11901,.tok 6 infs.length),(11902,.tok 1 drv.length),(11903,.map DS (DW 0 infs)),(12200,.arr 1 (st.map AR))],Ab⟩ (Yi ⟨Z4,Z6,Fh,Tv⟩ ?_)
 refine Yi (fun h=>by cases h) (fun _=>?_);refine Xi ⟨[(4,.ref 4 0),(6,.ref 11900 0),(7,vi (k:Nat)),(8,vb false)],[(4,.cells [vb false,.v (.slice none 0 0),.v (.slice none 0 0),.v (.slice none 0 0)]),(11900,.cells [sl AK roots,.cmap CP (mC x),.cmap CP (L.map (kA x)),.slice (.id 11901 6) (infs.map BU),.slice (.id 11902 1) (drv.map B5),.mref 11903,vb false,sl AA dec,sl Ae (AI dec),.msl 12200 st.length]),(11901,.tok 6 infs.length),(11902,.tok 1 drv.length),(11903,.map DS (DW 0 infs)),(12200,.arr 1 (st.map AR))],Ab⟩ (Yi ⟨Z4,Z6,Fh,Tv⟩ ?_)
 refine Xi ⟨[(4,.ref 4 0),(6,.ref 11900 0),(7,vi (k:Nat))],[(4,.cells [vb false,.v (.slice none 0 0),.v (.slice none 0 0),.v (.slice none 0 0)]),(11900,.cells [sl AK roots,.cmap CP (mC x),.cmap CP (L.map (kA x)),.slice (.id 11901 6) (infs.map BU),.slice (.id 11902 1) (drv.map B5),.mref 11903,vb false,sl AA dec,sl Ae (AI dec),.msl 12200 st.length]),(11901,.tok 6 infs.length),(11902,.tok 1 drv.length),(11903,.map DS (DW 0 infs)),(12200,.arr 1 (st.map AR))],Ab⟩ (Yi ⟨Z3,Z6,Fh,Tv⟩ ?_)
 refine Yi (Ii k (by omega)) ?_;have el:(infs.map BU).length=infs.length:=Lm ..;refine Yi ⟨BM _,by show(0:Int)≤(k:Int)+1;omega,by show(k:Int)+1≤((infs.map BU).length:Int);rw[el];omega⟩ ?_;refine Yi (fun cs hcs=>by obtain⟨i,_,rfl⟩:=Ak.1 hcs;rfl) ?_;refine Yi ?_ ?_
 ·exact Nz rfl
 refine Yi ?_ ?_
 ·exact Nz rfl
 have et:((infs.map BU).take ((k:Int)+1).toNat).drop (0:Int).toNat=(infs.take (k+1)).map BU:=by
  rw[show((k:Int)+1).toNat=k+1 by omega];simp
 exact Hk.tup ⟨Hk.agg ⟨.refl _,.nil,.of_eq (show AV.slice .none (((infs.map BU).take ((k:Int)+1).toNat).drop (0:Int).toNat)=_ by rw[et]),.nil,trivial⟩,.refl _,trivial⟩
theorem U3(y:Sl):∀l:List Sl,(Un y l).Perm (y::l)
 | []=>.refl _
 |z::l=>by
  unfold Un;split
  ·exact .refl _
  ·exact((U3 y l).cons z).trans (List.Perm.swap y z l)
theorem NU:∀l:List Sl,(FJ l).Perm l
 | []=>.refl _
 |y::l=>(U3 y _).trans ((NU l).cons y)
theorem Xw{b:Nat}:∀{st:List (List Sk)},(∀s∈st,s.length≤b)→st.flatten.length≤b*st.length
 | [],_=>by simp
 |s::st,h=>by
  rw[Bv,Ad,Av,Nat.mul_succ]
  have:=h s (Aa ..)
  have:=Xw (st:=st) fun t ht=>h t (Ag _ ht)
  omega
theorem iz{st:List (List Sk)}(h:st.length≤256)(hs:∀s∈st,s.length≤256)(i:Nat):((st.take i).flatten).length≤65536:=by
 have h1:=Xw (b:=256) (st:=st.take i) fun s WP=>hs s (DQ WP)
 have:(st.take i).length≤256:=by rw[AB];omega
 omega
theorem lq(x:List Rl)(ifs:List (List AV))(roots:List Rq)(hx:∀r∈x,JW r)(hr:∀q∈roots,N1 q)(hv:DT x roots=true)(h0:AQ x=0)(h1:BK roots=0)(k:Nat)(infs:List Nf)(drv:List (List Tm))(dec:List Cd)(st:List (List Sk))(ho:DK x roots=⟨k,true,⟨infs,drv,false⟩,dec,st⟩)(hd:dec.length≤256)(hn:((AI dec).map (·.path)).Nodup)(Jl:st.length≤256)(yq:∀s∈st,s.length≤256):PC 43 [F5 x ifs,sl AK roots] (.tup [.agg (Sn ⟨true,FJ (AI dec),infs,st.flatten⟩),vi 0]):=by
 have SJ:=tf x ifs roots hx hr;rw[hv]at SJ;refine Ps kX Tryz.func43 rfl (Nz rfl) ?_;refine Yi ?_ ?_
 ·exact Nz rfl
 refine Xi .pure (Xi _ (Yi SJ ?_));refine Xi ⟨[(1,sl AK roots),(2,.ref 2 0),(4,.ref 4 0)],[(2,.ro (Ic x ifs)),(4,.cells [vb false,.v (.slice none 0 0),.v (.slice none 0 0),.v (.slice none 0 0)])],Ab⟩ (Yi ⟨Z3,Z2,Fh,Tv⟩ ?_)
 refine Yi ?_ ?_
 ·exact Nz rfl
 refine Xi (.gen [] 5) (Yi rfl ((w6 x ifs roots hx h0).imp ?_));intro v g q;refine CF q (fun L q=>?_);have q1:=q.2.1;have q2:=q.2.2;have qp:=q.1;subst q1;subst q2;refine Xi ⟨[(4,.ref 4 0),(6,.ref 11900 0)],[(4,.cells [vb false,.v (.slice none 0 0),.v (.slice none 0 0),.v (.slice none 0 0)]),(11900,.cells [sl AK roots,.cmap CP (mC x),.cmap CP (L.map (kA x)),.slice (.id 11901 6) [],.slice (.id 11902 1) [],.mref 11903,vb false,.slice .none [],.slice .none [],.msl 11904 0]),(11901,.tok 6 0),(11902,.tok 1 0),(11903,.map DS []),(11904,.arr 1 [])],Ab⟩ (Yi ⟨Z2,Z6,Fh,Tv⟩ ?_)
 refine Xi (.gen [(11900,1000),(11901,1001),(11902,1002),(11903,1003),(11904,1004)] 1) (Yi rfl ((TO hx hr h0 h1 qp ho).imp ?_));intro v g q;have q1:=q.1;have q2:=q.2;subst q1;subst q2;refine Xi ⟨[(4,.ref 4 0),(6,.ref 11900 0),(7,vi (k:Nat)),(8,vb true)],[(4,.cells [vb false,.v (.slice none 0 0),.v (.slice none 0 0),.v (.slice none 0 0)]),(11900,.cells [sl AK roots,.cmap CP (mC x),.cmap CP (L.map (kA x)),.slice (.id 11901 6) (infs.map BU),.slice (.id 11902 1) (drv.map B5),.mref 11903,vb false,sl AA dec,sl Ae (AI dec),.msl 12200 st.length]),(11901,.tok 6 infs.length),(11902,.tok 1 drv.length),(11903,.map DS (DW 0 infs)),(12200,.arr 1 (st.map AR))],Ab⟩ (Yi ⟨Z4,Z6,Fh,Tv⟩ ?_)
 refine Yi (fun h=>by cases h) (fun _=>?_);refine Xi ⟨[(4,.ref 4 0),(6,.ref 11900 0),(8,vb true)],[(4,.cells [vb false,.v (.slice none 0 0),.v (.slice none 0 0),.v (.slice none 0 0)]),(11900,.cells [sl AK roots,.cmap CP (mC x),.cmap CP (L.map (kA x)),.slice (.id 11901 6) (infs.map BU),.slice (.id 11902 1) (drv.map B5),.mref 11903,vb false,sl AA dec,sl Ae (AI dec),.msl 12200 st.length]),(11901,.tok 6 infs.length),(11902,.tok 1 drv.length),(11903,.map DS (DW 0 infs)),(12200,.arr 1 (st.map AR))],Ab⟩ (Yi ⟨Z3,Z6,Fh,Tv⟩ ?_)
 refine Xi ⟨[(4,.ref 4 0),(6,.ref 11900 0)],[(4,.cells [vb false,.v (.slice none 0 0),.v (.slice none 0 0),.v (.slice none 0 0)]),(11900,.cells [sl AK roots,.cmap CP (mC x),.cmap CP (L.map (kA x)),.slice (.id 11901 6) (infs.map BU),.slice (.id 11902 1) (drv.map B5),.mref 11903,vb false,sl AA dec,sl Ae (AI dec),.msl 12200 st.length]),(11901,.tok 6 infs.length),(11902,.tok 1 drv.length),(11903,.map DS (DW 0 infs)),(12200,.arr 1 (st.map AR))],Ab⟩ (Yi ⟨Z2,Z6,Fh,Tv⟩ ?_)
 have pf:(AI dec).length≤256:=by rw[Lm];exact hd
 have aw:CM (AI dec):=Br pf (by decide);refine Xi (AI dec).length (Xi 4 (Xi ((AI dec).map Ae) (Yi rfl (Yi (xb (AI dec) aw) ?_))));refine Yi ?_ ?_
 ·exact Nz rfl
 refine Yi (by kernel_rfl) ?_;refine Xi ⟨[(4,.ref 4 0),(6,.ref 11900 0),(9,.ref 9 0)],[(4,.cells [vb false,.v (.slice none 0 0),.v (.slice none 0 0),.v (.slice none 0 0)]),(9,.cells [vb true,.msl 14400 (AI dec).length,.slice (.id 11901 6) (infs.map BU),.v (.slice none 0 0)]),(11900,.cells [sl AK roots,.cmap CP (mC x),.cmap CP (L.map (kA x)),.slice (.id 11901 6) (infs.map BU),.slice (.id 11902 1) (drv.map B5),.mref 11903,vb false,sl AA dec,sl Ae (AI dec),.msl 12200 st.length]),(11901,.tok 6 infs.length),(11902,.tok 1 drv.length),(11903,.map DS (DW 0 infs)),(12200,.arr 1 (st.map AR)),(14400,.arr 4 ((AI dec).map Ae))],Ab⟩ (Yi ⟨Z3,Z8,Fh,Tv⟩ ?_)
 refine Xi (.gen [(14400,1000)] 0) (Yi rfl ((s47 68 Tryz.closure68 (enters_of Tryz.func68 (by kernel_rfl) rfl) (AI dec) aw hn).imp ?_));intro v g q;have q1:=q.1;have q2:=q.2;subst q1;subst q2;refine Xi ⟨[(4,.ref 4 0),(6,.ref 11900 0),(9,.ref 9 0)],[(4,.cells [vb false,.v (.slice none 0 0),.v (.slice none 0 0),.v (.slice none 0 0)]),(9,.cells [vb true,.msl 14400 (AI dec).length,.slice (.id 11901 6) (infs.map BU),.slice (.id 95 3) []]),(95,.tok 3 0),(11900,.cells [sl AK roots,.cmap CP (mC x),.cmap CP (L.map (kA x)),.slice (.id 11901 6) (infs.map BU),.slice (.id 11902 1) (drv.map B5),.mref 11903,vb false,sl AA dec,sl Ae (AI dec),.msl 12200 st.length]),(11901,.tok 6 infs.length),(11902,.tok 1 drv.length),(11903,.map DS (DW 0 infs)),(12200,.arr 1 (st.map AR)),(14400,.arr 4 ((FJ (AI dec)).map Ae))],Ab⟩ (Yi ⟨Z3,Z9,Fh,Tv⟩ ?_)
 refine Xi {i:Nat // i≤st.length} (Xi (fun i=>⟨[(4,.ref 4 0),(6,.ref 11900 0),(9,.ref 9 0),(56,.msl 12200 st.length),(57,vi (st.length:Nat)),(58,vi i.1)],[(4,.cells [vb false,.v (.slice none 0 0),.v (.slice none 0 0),.v (.slice none 0 0)]),(9,.cells [vb true,.msl 14400 (AI dec).length,.slice (.id 11901 6) (infs.map BU),.slice (.id 95 3) ((st.take i.1).flatten.map BL)]),(95,.tok 3 ((st.take i.1).flatten.map BL).length),(11900,.cells [sl AK roots,.cmap CP (mC x),.cmap CP (L.map (kA x)),.slice (.id 11901 6) (infs.map BU),.slice (.id 11902 1) (drv.map B5),.mref 11903,vb false,sl AA dec,sl Ae (AI dec),.msl 12200 st.length]),(11901,.tok 6 infs.length),(11902,.tok 1 drv.length),(11903,.map DS (DW 0 infs)),(12200,.arr 1 (st.map AR)),(14400,.arr 4 ((FJ (AI dec)).map Ae))],Ab⟩) (Xi (fun i=>st.length-i.1) (Yi (Xi ⟨0,AJ _⟩ ?_) ?_)))
 ·exact⟨Z6,Z9,Fh,Tv⟩
 intro⟨i,i1⟩;have i1:i≤st.length:=i1;refine Yi ?_ ?_
 ·intro h;have h:(i:Int)<(st.length:Nat):=h;have h:i<st.length:=by omega
  have hg:st[i]?=some st[i]:=Ge h;have Kt:st.take (i+1)=st.take i++[st[i]]:=by rw[Bq,hg];rfl
  refine Yi (Yi (Nn i) (by show(i:Int)<(st.length:Nat);omega)) ?_;refine Yi (by rw[Lm]) (Xi (AR st[i]) (Yi (by show(st.map AR)[((i:Nat):Int).toNat]?=_;rw[Ch,AG,hg];rfl) ?_));refine Xi ⟨[(4,.ref 4 0),(6,.ref 11900 0),(9,.ref 9 0),(11,sl BL st[i]),(56,.msl 12200 st.length),(57,vi (st.length:Nat)),(58,vi i)],[(4,.cells [vb false,.v (.slice none 0 0),.v (.slice none 0 0),.v (.slice none 0 0)]),(9,.cells [vb true,.msl 14400 (AI dec).length,.slice (.id 11901 6) (infs.map BU),.slice (.id 95 3) ((st.take i).flatten.map BL)]),(95,.tok 3 ((st.take i).flatten.map BL).length),(11900,.cells [sl AK roots,.cmap CP (mC x),.cmap CP (L.map (kA x)),.slice (.id 11901 6) (infs.map BU),.slice (.id 11902 1) (drv.map B5),.mref 11903,vb false,sl AA dec,sl Ae (AI dec),.msl 12200 st.length]),(11901,.tok 6 infs.length),(11902,.tok 1 drv.length),(11903,.map DS (DW 0 infs)),(12200,.arr 1 (st.map AR)),(14400,.arr 4 ((FJ (AI dec)).map Ae))],Ab⟩ (Yi ⟨Z7,Z9,Fh,Tv⟩ ?_)
  have hfl:((st.take i).flatten).length≤65536∧st[i].length≤256:=⟨iz Jl yq i,yq _ (AC _)⟩;have Hl:Df 3 (st[i].map BL)∧((st.take i).flatten.map BL).length=((st.take i).flatten.map BL).length∧(((st.take i).flatten.map BL).length+(st[i].map BL).length)*32≤140737488355328∧((st.take i).flatten.map BL).length+(st[i].map BL).length≤9223372036854775807:=by
   refine⟨Fj (enc:=BL) (n:=3) (fun _=>rfl) _,rfl,?_,?_⟩<;>simp only[Lm]<;>omega
  refine Yi Hl ?_;refine Yi ?_ ?_
  ·exact Nz rfl
  have ef:((st.take i).flatten.map BL)++st[i].map BL=((st.take (i+1)).flatten.map BL):=by rw[Kt,Cw,Ay];simp
  have en:((st.take i).flatten.map BL).length+(st[i].map BL).length=((st.take (i+1)).flatten.map BL).length:=by rw[←ef,Ad]
  refine Xi ⟨[(4,.ref 4 0),(6,.ref 11900 0),(9,.ref 9 0),(56,.msl 12200 st.length),(57,vi (st.length:Nat)),(58,vi i)],[(4,.cells [vb false,.v (.slice none 0 0),.v (.slice none 0 0),.v (.slice none 0 0)]),(9,.cells [vb true,.msl 14400 (AI dec).length,.slice (.id 11901 6) (infs.map BU),.slice (.id 95 3) ((st.take (i+1)).flatten.map BL)]),(95,.tok 3 ((st.take (i+1)).flatten.map BL).length),(11900,.cells [sl AK roots,.cmap CP (mC x),.cmap CP (L.map (kA x)),.slice (.id 11901 6) (infs.map BU),.slice (.id 11902 1) (drv.map B5),.mref 11903,vb false,sl AA dec,sl Ae (AI dec),.msl 12200 st.length]),(11901,.tok 6 infs.length),(11902,.tok 1 drv.length),(11903,.map DS (DW 0 infs)),(12200,.arr 1 (st.map AR)),(14400,.arr 4 ((FJ (AI dec)).map Ae))],Ab⟩ (Yi ⟨Z6,⟨Zr,⟨Ac (fun z=>HO.cells [vb true,.msl 14400 (AI dec).length,.slice (.id 11901 6) (infs.map BU),.slice (.id 95 3) z]) ef,rfl⟩,⟨Ac (HO.tok 3) en,rfl⟩,Zr,Zr,Zr,Zr,Zr,Zr,Tv⟩,Fh,Tv⟩ ?_)
  refine Yi (Ii i (by omega)) ?_;refine Xi ⟨i+1,by omega⟩ ?_;exact⟨Dl st.length i (by omega),Z6,Z9,Fh,Tv⟩
 ·intro h;have h:¬(i:Int)<(st.length:Nat):=h;have et:st.take i=st:=AE (by omega);have WQ:(AI dec).length=((FJ (AI dec)).map Ae).length:=(NU (AI dec)).length_eq.symm.trans (Lm ..).symm;refine Yi WQ ?_;refine Xi ⟨[(4,.ref 4 0),(9,.ref 9 0)],[(4,.cells [vb false,.v (.slice none 0 0),.v (.slice none 0 0),.v (.slice none 0 0)]),(9,.cells [vb true,.slice (.id 14400 4) ((FJ (AI dec)).map Ae),.slice (.id 11901 6) (infs.map BU),.slice (.id 95 3) (st.flatten.map BL)]),(95,.tok 3 (st.flatten.map BL).length),(11901,.tok 6 infs.length),(14400,.tok 4 ((FJ (AI dec)).map Ae).length)],Ab⟩ (Yi ⟨Z2,⟨Zr,⟨Ac (fun z:List (List Sk)=>HO.cells [vb true,.slice (.id 14400 4) ((FJ (AI dec)).map Ae),.slice (.id 11901 6) (infs.map BU),.slice (.id 95 3) (z.flatten.map BL)]) et,rfl⟩,⟨Ac (fun z:List (List Sk)=>HO.tok 3 (z.flatten.map BL).length) et,rfl⟩,Zr,Zr,Tv⟩,Fh,Tv⟩ ?_)
  refine Yi ?_ ?_
  ·exact Nz rfl
  refine Yi ?_ ?_
  ·exact Nz rfl
  refine Yi ?_ ?_
  ·exact Nz rfl
  exact .refl _
theorem P0{s:SS}{b:List Cd}{p:ByteArray}{needs:List Nd}:∀{cs:List Cd} {sk:List Sk},GR s b p needs cs sk→sk.length≤cs.length
 | [],sk,h=>by
  have h:sk=[]:=h;rw[h];exact Al _
 |c::cs,sk,h=>by
  have h:if(needs.all fun n=>has n.rq.set c.place)=true then _ else _:=h
  by_cases hc:(needs.all fun n=>has n.rq.set c.place)=true
  ·rw[Ao hc]at h;obtain⟨k,rest,rfl,_,h3⟩:=h
   have:=P0 h3
   simp only[Av];omega
  ·rw[Ah hc]at h
   have:=P0 h
   simp only[Av];omega
theorem UL{x:List Rl}{roots:List Rq}{s:SS}:∀{t:List Cd} {sl:List (List Sk)} {b:List Cd},RI x roots s b t sl→sl.length=t.length∧∀k∈sl,k.length≤x.length
 | [],[],_,_=>⟨rfl,fun _ h=>by cases h⟩
 | [],_::_,_,h=>h.elim
 |_::_,[],_,h=>h.elim
 |c::t,sk::sl,b,⟨⟨p,needs,pre,post,hs⟩,h⟩=>by
  obtain⟨h1,h2⟩:=UL h;refine⟨by simp[h1],fun k hk=>?_⟩;rcases Au.1 hk with rfl | hk
  ·have e1:=P0 hs.skips;have e2:=UI x p;rw[hs.cands,Ad]at e2;omega
  ·exact h2 k hk
theorem s21(x:List Rl)(ifs:List (List AV))(roots:List Rq)(hx:∀r∈x,JW r)(hr:∀q∈roots,N1 q):PC 43 [F5 x ifs,sl AK roots] (iA x roots):=by
 unfold iA HS G3;cases hv:DT x roots with
 |false=>simpa using lp x ifs roots hx hr hv
 |true =>
  obtain⟨h0,h1⟩:=Mk hv;have hR:=KG h0 h1;have l8:=(NG h0).1;have hA:VK x roots=if(DK x roots).found=true then⟨true,FJ (AI (DK x roots).dec),(DK x roots).ss.infs,(DK x roots).stack.flatten⟩else⟨false,[],(DK x roots).ss.infs.take ((DK x roots).res+1),[]⟩:=rfl
  rw[hA];generalize ho:DK x roots=o at hR⊢;obtain⟨k,b,⟨infs,drv,full⟩,dec,st⟩:=o;have hl:infs.length≤65536:=hR.der.len;have hdl:drv.length=infs.length:=hR.der.dlen;cases b with
  |false =>
   cases full with
   |true=>simpa using iv x ifs roots hx hr hv h0 h1 k infs drv dec st ho
   |false =>
    have hk:k<drv.length:=((hR.no rfl).2.2 rfl).1;simpa using oE x ifs roots hx hr hv h0 h1 k infs drv dec st ho (by omega) hl
  |true =>
   obtain⟨hf,t,sl,e1,e2,hC,_⟩:=hR.yes rfl;have hf:full=false:=hf;subst hf;have e1:dec=[]++t:=e1;have e2:st=[]++sl:=e2;rw[Fx]at e1 e2;subst e1;subst e2;have hD:Eg x ([]++dec):=(RI.ok (.nil x) (.nil roots) hC).1;rw[Fx]at hD;have hdx:=Xg hD;obtain⟨c1,c2⟩:=UL hC;have hn:((AI dec).map (·.path)).Nodup:=by rw[NH];exact hD.nodup
   simpa using lq x ifs roots hx hr hv h0 h1 k infs drv dec st ho (by omega) hn (by omega) (fun s hs=>Br (c2 s hs) l8)
def Et(x:List Rl)(roots:List Rq):Int:=if G3 x roots≠0 then G3 x roots else if(HS x roots).found=true then 0 else 17
def E5(x:List Rl)(roots:List Rq):List Sl:=if Et x roots=0 then(HS x roots).sel else []
abbrev wd:RO:=⟨[2],[],[],[],[],[],[],[],[],[],[]⟩
theorem oD(x:List Rl)(ifs:List (List AV))(roots:List Rq)(a:An)(e:Int)(h:PC 43 [F5 x ifs,sl AK roots] (.tup [.agg (Sn a),vi e])) :
  PC 17 [F5 x ifs,sl AK roots] (.tup [if e≠0 then sl Ae []else if a.found=true then sl Ae a.sel else sl Ae [],vi (if e≠0 then e else if a.found=true then 0 else 17)]):=by
 refine Ps wd Tryz.func17 rfl (Nz rfl) ?_;refine Yi ?_ ?_
 ·exact Nz rfl
 refine Xi .pure (Xi _ (Yi h ?_));refine Yi ?_ ?_
 ·exact Nz rfl
 refine Yi (fun he=>?_) (fun he=>?_)
 ·have he:¬e=0:=he;have e1:AV.tup [sl Ae [],vi e]=.tup [if e≠0 then sl Ae []else if a.found=true then sl Ae a.sel else sl Ae [],vi (if e≠0 then e else if a.found=true then 0 else 17)]:=by rw[Ao he,Ao he]
  exact(show Hk (.tup [.v (.slice none 0 0),vi e]) (.tup [sl Ae ([]:List Sl),vi e])from Hk.tup ⟨.nil,.refl _,trivial⟩).trans (.of_eq e1)
 ·have he:e=0:=BQ.1 he;have Dt:¬e≠0:=fun h=>h he;refine Yi (fun hb=>?_) (fun hb=>?_)
  ·have hb:a.found=true:=hb;have e1:AV.tup [sl Ae a.sel,vi 0]=.tup [if e≠0 then sl Ae []else if a.found=true then sl Ae a.sel else sl Ae [],vi (if e≠0 then e else if a.found=true then 0 else 17)]:=by rw[Ah Dt,Ah Dt,Ao hb,Ao hb]
   exact .of_eq e1
  ·have hb:a.found=false:=hb;have hb:¬a.found=true:=by rw[hb];decide
   have e1:AV.tup [sl Ae [],vi 17]=.tup [if e≠0 then sl Ae []else if a.found=true then sl Ae a.sel else sl Ae [],vi (if e≠0 then e else if a.found=true then 0 else 17)]:=by rw[Ah Dt,Ah Dt,Ah hb,Ah hb]
   exact(show Hk (.tup [.v (.slice none 0 0),vi 17]) (.tup [sl Ae ([]:List Sl),vi 17])from Hk.tup ⟨.nil,.refl _,trivial⟩).trans (.of_eq e1)
theorem te(x:List Rl)(ifs:List (List AV))(roots:List Rq)(hx:∀r∈x,JW r)(hr:∀q∈roots,N1 q):PC 17 [F5 x ifs,sl AK roots] (.tup [sl Ae (E5 x roots),vi (Et x roots)]):=by
 have h:=oD x ifs roots _ _ (s21 x ifs roots hx hr);have e1:(if G3 x roots≠0 then sl Ae []else if(HS x roots).found=true then sl Ae (HS x roots).sel else sl Ae [])=sl Ae (E5 x roots):=by
  unfold E5 Et
  by_cases h1:G3 x roots=0
  ·by_cases h2:(HS x roots).found=true
   ·simp[h1,h2]
   ·simp[h1,h2]
  ·simp[h1]
 have e2:(if G3 x roots≠0 then G3 x roots else if(HS x roots).found=true then 0 else 17)=Et x roots:=rfl;rw[e1,e2]at h;exact h
instance:DecidableEq Mv:=fun x y=>decidable_of_iff (x.path=y.path∧x.a=y.a∧x.b=y.b) ⟨fun⟨h1,h2,h3⟩=>by cases x;cases y;simp_all,fun h=>by subst h;exact⟨rfl,rfl,rfl⟩⟩
theorem rp{a b:Mv}(h:a.path=b.path∧a.a=b.a∧a.b=b.b∧True):a=b:=by cases a;cases b;simp_all
theorem rr{a b:Mv}(h:¬(a.path=b.path∧a.a=b.a∧a.b=b.b∧True)):a≠b:=fun e=>h (by subst e;exact⟨rfl,rfl,rfl,trivial⟩)
theorem o35(a b:List Mv)(ha:CM a):PC 30 [sl DV a,sl DV b] (vb (decide (a=b))):=by
 have uI:a.length≤1073741824:=ha;refine Ps ⟨[],[],[],[],[],[],[],[],[],[],[7,8]⟩ Tryz.func30 rfl (Nz rfl) ?_;refine Yi (fun h1=>?_) (fun h1=>?_)
 ·have h1:((a.map DV).length:Int)≠((b.map DV).length:Int):=h1;exact .of_eq (show vb false=vb (decide (a=b)) by rw[Az (fun e=>absurd (Ac (fun z=>((z.map DV).length:Int)) e) h1)])
 have h1:((a.map DV).length:Int)=((b.map DV).length:Int):=A4 h1;have hl:a.length=b.length:=by have q:=h1;rw[Lm,Lm]at q;omega
 refine Xi {q:Nat // q≤a.length∧∀j (hj:j<a.length),j<q→a[j]=b[j]'(hl▸hj)} (Xi (fun q=>⟨[(0,sl DV a),(1,sl DV b),(12,vi (a.map DV).length),(13,vi q.1)],[],Ab⟩) (Xi (fun q=>a.length-q.1) (Yi (Xi ⟨0,AJ _,fun _ _ h=>absurd h (JA _)⟩ ?_) ?_)))
 ·exact⟨Z4,Tv,Fh,Tv⟩
 intro⟨i,i1,i2⟩;have i1:i≤a.length:=i1;have i2:∀j (hj:j<a.length),j<i→a[j]=b[j]'(hl▸hj):=i2;refine Yi (fun h3=>?_) (fun h3=>?_)
 ·have h3:(i:Int)<((a.map DV).length:Int):=h3;have n3:=LC h3;have qF:i<b.length:=by have q:=h3;rw[Lm]at q;omega
  refine Xi (DV a[i]) (Yi (Uo n3) (Yi rfl ?_));refine Yi (Nz rfl) ?_;refine Xi (DV b[i]) (Yi (Uo qF) (Yi rfl ?_));refine Yi (Nz rfl) ?_;refine Yi (fun h4=>?_) (fun h4=>?_)
  ·have h4:(a[i].path:ByteArray)=b[i].path∧(a[i].a:Int)=b[i].a∧(a[i].b:Int)=b[i].b∧True:=h4;refine Yi (by kernel_rfl) ?_;refine Xi ⟨[(0,sl DV a),(1,sl DV b),(12,vi (a.map DV).length),(13,vi i)],[],Ab⟩ (Yi ⟨Z4,Tv,Fh,Tv⟩ ?_)
   refine Yi (Ii i (by omega)) ?_;refine Xi ⟨i+1,n3,fun j hj LZ=>if e:j<i then i2 j hj e else by
     have e:j=i:=by omega
     subst e;exact rp h4⟩ ?_
   exact⟨Dl a.length i (by omega),Z4,Tv,Fh,Tv⟩
  have h4:¬((a[i].path:ByteArray)=b[i].path∧(a[i].a:Int)=b[i].a∧(a[i].b:Int)=b[i].b∧True):=h4;refine Yi (by kernel_rfl) ?_;refine Xi ⟨[],[],Ab⟩ (Yi ⟨Tv,Tv,Fh,Tv⟩ ?_)
  exact .of_eq (show vb false=vb (decide (a=b)) by rw[Az (lE (i:=i) (ha:=n3) (hb:=qF) (rr h4))])
 have h3:¬((i:Int)<((a.map DV).length:Int)):=h3;have n3:=LB h3;exact .of_eq (show vb true=vb (decide (a=b)) by rw[Ax (aD hl fun j hj=>i2 j hj (by have q:=h3;rw[Lm]at q;omega))])
abbrev pb:ByteArray:=⟨#[98,47,118,49]⟩
end Go.Eng
namespace Go.Eng
/-! The empty workspace, and a workspace twice. -/
theorem W9{l:List Rl}(h:AQ l=0):l.length≤256:=by
 unfold AQ at h;split at h
 ·cases h
 ·omega
theorem Of:∀{l:List Rl} {b:Option Rl},CL b l=0→∀r∈l,Dj r=0
 | [],_,_,r,hr=>by cases hr
 |x::l,b,h,r,hr=>by
  unfold CL at h;split at h
  ·rename_i h1;exact absurd h h1
  ·rename_i h1;have h1:Dj x=0:=BQ.1 h1;have go:CL (some x) l=0:=by
    cases b with
    |none=>exact h
    |some b =>
     dsimp only at h;split at h
     ·cases h
     ·split at h
      ·cases h
      ·exact h
   rcases Au.1 hr with rfl | hr
   ·exact h1
   ·exact Of go r hr
theorem Oe:∀{l:List Rl} {b:Option Rl},(∀r∈l,Dj r=0)→l.Pairwise YF→(∀c,b=some c→∀r∈l,YF c r)→CL b l=0
 | [],_,_,_,_=>rfl
 |x::l,b,h,hp,hb=>by
  obtain⟨p1,p2⟩:=BC.1 hp;have ih:CL (some x) l=0:=Oe (fun r hr=>h r (Ag _ hr)) p2 (fun c e r hr=>by cases e;exact p1 r hr);unfold CL;rw[Ah (fun q=>q (h x (Aa ..)))];cases b with
  |none=>exact ih
  |some c =>
   have hl:=hb c rfl x (Aa ..);dsimp only;rw[Ah (fun q=>GZ hl q),Ah (fun q=>by
    have:Xc (CW c) (CW x)<0:=Oh.2 hl
    have q:0<Xc (CW c) (CW x):=q;omega)]
   exact ih
theorem W8{l:List Rl}:AQ l=0↔l.length≤256∧(∀r∈l,Dj r=0)∧l.Pairwise YF:=by
 constructor
 ·intro h;refine⟨W9 h,?_,(Co h).2⟩;unfold AQ at h;split at h
  ·cases h
  ·exact Of h
 ·rintro⟨h1,h2,h3⟩
  unfold AQ;rw[Ah (by omega)];exact Oe h2 h3 (fun c e=>by cases e)
/-! What is merged. -/
/-! What a workspace makes of an index. -/
/-! What the solver selects. -/
theorem TH{x:List Rl}{roots:List Rq}(h:Et x roots=0):(∀z∈E5 x roots,∃r∈x,CW r=z)∧(E5 x roots).length≤x.length∧AQ x=0:=by
 have h0:=h;unfold Et at h0;split at h0
 ·rename_i hs;exact absurd h0 hs
 ·rename_i hs;have hs:G3 x roots=0:=BQ.1 hs;split at h0
  ·rename_i hf;have hv:DT x roots=true:=by
    cases e:DT x roots with
    |true=>rfl
    |false=>unfold G3 at hs;rw[e]at hs;cases hs
   have XJ:(DK x roots).ss.full=false:=by
    cases e:(DK x roots).ss.full with
    |false=>rfl
    |true=>unfold G3 at hs;rw[hv,e]at hs;cases hs
   obtain⟨hx,hr⟩:=Mk hv;have hA:HS x roots=VK x roots:=by unfold HS;rw[Ao ⟨hv,XJ⟩]
   rw[hA]at hf;have OI:(DK x roots).found=true:=by
    cases e:(DK x roots).found with
    |true=>rfl
    |false=>unfold VK at hf;rw[e]at hf;cases hf
   have vK:E5 x roots=FJ (AI (DK x roots).dec):=by
    unfold E5;rw[Ao h,hA];unfold VK;rw[Ao OI]
   obtain⟨_,t,sl,y2,y3,y4,y5⟩:=(KG hx hr).yes OI;have nI:(DK x roots).dec∈GG x roots (x.length+1) []:=List.mem_of_head? y5;have lf:=H7 (Eg.nil x) (Hr.nil roots) _ nI;rw[vK];refine⟨fun z hz=>?_,?_,hx⟩
   ·rw[GA]at hz;obtain⟨c,hc,rfl⟩:=Ak.1 hz;exact⟨c.rel,(lf.ok.cand c hc).1,rfl⟩
   ·rw[(NU _).length_eq,Lm]
    have:=PP (l:=(DK x roots).dec.map fun c=>c.rel) (m:=x) (Zu (f:=fun r:Rl=>r.path) (by rw[BB];exact lf.ok.nodup)) (fun r hr=>by
     obtain⟨c,hc,rfl⟩:=Ak.1 hr;exact(lf.ok.cand c hc).1)
    rwa [Lm]at this
  ·cases h0
section
variable {x:List Rl}{roots:List Rq}
def N2(x:List Rl)(roots:List Rq):Prop:=∃s,mE x roots s
theorem WF(hv:DT x roots=true)(hx:x.length≤16):G3 x roots=0:=by
 unfold G3;rw[Ao hv,NT hx];rfl
theorem Ld(hv:DT x roots=true)(hx:x.length≤16):HS x roots=VK x roots:=by
 unfold HS;rw[Ao ⟨hv,NT hx⟩]
theorem Nx(hv:DT x roots=true)(hx:x.length≤16):(HS x roots).found=true↔N2 x roots:=by
 obtain⟨h0,h1⟩:=Mk hv;have hR:=KG h0 h1;have hf:=NT (roots:=roots) hx;rw[Ld hv hx];unfold VK;generalize DK x roots=o at *
 constructor
 ·intro h
  by_cases OI:o.found=true
  ·obtain⟨_,t,sl,y2,y3,y4,y5⟩:=hR.yes OI;have hm:o.dec∈GG x roots (x.length+1) []:=List.mem_of_head? y5;exact⟨_,(H7 (.nil x) (.nil roots) _ hm).sol h0⟩
  ·rw[Ah OI]at h;cases h
 ·rintro⟨s,hs⟩
  by_cases OI:o.found=true
  ·rw[Ao OI]
  ·have OI:o.found=false:=by simpa using OI
   obtain⟨n4,n5⟩:=(hR.no OI).2.2 hf;have nK:Dv o.ss o.res=[]:=by
    cases h:Dv o.ss o.res with
    |nil=>rfl
    |cons u l =>
     rw[h]at n5
     have:=(KX.1 n5).2 u (Aa ..)
     cases this
   have nI:Dv o.ss o.res∈o.ss.drv:=Ar (EH n4)
   have:=Jg hs (fun _ h=>by cases h) hR.der.der _ nI
   rw[nK]at this;cases this
theorem Yu(hv:DT x roots=true)(hx:x.length≤16):(Et x roots=0↔N2 x roots)∧(Et x roots=17↔¬N2 x roots):=by
 unfold Et;rw[WF hv hx,Ah (fun h=>h rfl),←Nx hv hx]
 by_cases h:(HS x roots).found=true
 ·rw[Ao h];simp[h]
 ·rw[Ah h];simp[h]
theorem M7(hv:DT x roots=true)(hx:x.length≤16):GG x roots (x.length+1) []≠[]↔N2 x roots:=by
 obtain⟨h0,h1⟩:=Mk hv;constructor
 ·intro h;cases hl:GG x roots (x.length+1) []with
  |nil=>exact absurd hl h
  |cons d L =>
   have hm:d∈GG x roots (x.length+1) []:=by rw[hl];exact Aa ..
   exact⟨_,(H7 (.nil x) (.nil roots) _ hm).sol h0⟩
 ·intro h e;have hf:=(Nx hv hx).2 h;have hR:=KG h0 h1;rw[Ld hv hx]at hf;unfold VK at hf
  by_cases OI:(DK x roots).found=true
  ·obtain⟨_,t,sl,y2,y3,y4,y5⟩:=hR.yes OI;have hm:=List.mem_of_head? y5;rw[e]at hm;cases hm
  ·rw[Ah OI]at hf;cases hf
theorem Vl(hv:DT x roots=true)(hx:x.length≤16){d:List Cd}{l:List (List Cd)}(h:GG x roots (x.length+1) []=d::l):Et x roots=0∧E5 x roots=FJ (AI d):=by
 obtain⟨h0,h1⟩:=Mk hv;have hF:N2 x roots:=(M7 hv hx).1 (by rw[h];exact List.cons_ne_nil _ _);have hE:=(Yu hv hx).1.2 hF;refine⟨hE,?_⟩;have hf:=(Nx hv hx).2 hF;have hR:=KG h0 h1;unfold E5;rw[hE,Ao rfl,Ld hv hx];rw[Ld hv hx]at hf;unfold VK at hf⊢
 by_cases OI:(DK x roots).found=true
 ·rw[Ao OI];obtain⟨_,t,sl,y2,y3,y4,y5⟩:=hR.yes OI;rw[h]at y5;have y5:some d=some (DK x roots).dec:=y5;cases y5;rfl
 ·rw[Ah OI]at hf;cases hf
theorem Yw(h:DT x roots=false):Et x roots≠0∧E5 x roots=[]:=by
 have h2:G3 x roots=1:=by unfold G3;rw[h];rfl
 have h3:Et x roots=1:=by unfold Et;rw[h2];rfl
 exact⟨by rw[h3];decide,by unfold E5;rw[h3];rfl⟩
end
/-! Releases whose names satisfy p get Yanked. -/
def yk(y:Bool)(p:Sl→Bool)(x:List Rl):List Rl:=x.map fun r=>if p (CW r)=true then { r with yanked:=y }else r
section
variable {x:List Rl}{roots:List Rq}{y:Bool}{p:Sl→Bool}
theorem Lg:(yk y p x).length=x.length:=Lm ..
theorem ja(r:Rl):CW (if p (CW r)=true then { r with yanked:=y }else r)=CW r:=by split<;>rfl
theorem mv:∀(x:List Rl) (b b' : Option Rl),b.map CW=b'.map CW→CL b (yk y p x)=CL b' x
 | [],_,_,_=>rfl
 |r::x,b,b',h=>by
  show CL b ((if p (CW r)=true then { r with yanked:=y }else r)::yk y p x)=_;have hk:=ja (y:=y) (p:=p) r;have hc:Dj (if p (CW r)=true then { r with yanked:=y }else r)=Dj r:=by split<;>rfl
  generalize (if p (CW r)=true then({ r with yanked:=y }:Rl)else r)=r' at hk hc⊢;have ih:=mv x (some r') (some r) (Ac some hk);unfold CL;rw[hc,ih];cases b with
  |none=>cases b' with
   |none=>rfl
   |some _=>cases h
  |some c=>cases b' with
   |none=>cases h
   |some c' =>
    have h:CW c=CW c':=Ct h;have h1:Fm c=Fm c':=h;have h2:Fm r'=Fm r:=hk;have h3:Dz c r'=Dz c' r:=by
     show Xc (CW c) (CW r')=Xc (CW c') (CW r);rw[h,hk]
    dsimp only;rw[h1,h2,h3]
theorem i9:AQ (yk y p x)=AQ x:=by
 unfold AQ;rw[Lg,mv x none none rfl]
end
section
variable {x:List Rl}{roots:List Rq}{p:Sl→Bool}
theorem TJ(hv:DT x roots=true)(hx:x.length≤16):Et x roots=17↔GG x roots (x.length+1) []=[]:=by
 rw[(Yu hv hx).2,←M7 hv hx];exact BQ
end
abbrev I0(s:Sl):Sl→Bool:=fun z=>decide (z=s)
abbrev Rm(l:List Sl):Sl→Bool:=fun z=>decide (z∈l)
def F8(x:List Rl)(s:Sl)(y:Bool):Int:=if AQ x≠0 then 1 else match Ec x s with
 |none=>6
 |some r=>if r.yanked=y then 8 else 0
def HQ(x:List Rl)(s:Sl)(y:Bool):List Rl:=if F8 x s y=0 then yk y (I0 s) x else []
def EW(x:List Rl)(l:List Sl):Int:=if AQ x≠0∨Fl l=false then 1 else 0
def Jo(x:List Rl)(l:List Sl):List Rl:=if EW x l=0 then yk false (Rm l) x else []
section
variable {x:List Rl}{s:Sl}{y:Bool}
theorem aO(hx:AQ x=0){a b:Rl}(ha:a∈x)(hb:b∈x)(h:CW a=CW b):a=b:=by
 have h1:=I5 hx ha;have h2:=I5 hx hb;rw[show Fm a=Fm b from h]at h1;exact Ct (h1.symm.trans h2)
theorem Xs(hx:AQ x=0)(h:Ec x s=none):∀r∈x,CW r≠s:=fun r hr e=>by
 have:=I5 hx hr
 rw[show Fm r=s from e,h]at this;cases this
theorem bc(h:F8 x s y=0):HQ x s y=yk y (I0 s) x:=by unfold HQ;rw[Ao h]
theorem iw(h:F8 x s y≠0):HQ x s y=[]:=by unfold HQ;rw[Ah h]
theorem oF(hx:AQ x=0){r:Rl}(hr:r∈x)(hs:CW r=s):F8 x s y=if r.yanked=y then 8 else 0:=by
 unfold F8;rw[Ah (fun h=>h hx),show Ec x s=some r from by rw[←hs];exact I5 hx hr]
end
/-! Law Keeps: which releases of the selection get yanked, one after the other. -/
def Ra(x:List Rl):List Sl→List Rl
 | []=>x
 |s::l=>Ra (yk true (I0 s) x) l
theorem Qo:∀(l:List Sl) (x:List Rl),AQ (Ra x l)=AQ x∧(Ra x l).length=x.length
 | [],_=>Zr
 |s::l,x=>by
  obtain⟨h1,h2⟩:=Qo l (yk true (I0 s) x);exact⟨h1.trans i9,h2.trans Lg⟩
theorem ZT:∀(l:List Sl) (x:List Rl),Ra x l=yk true (Rm l) x
 | [],x=>by
  show x=_;unfold yk
  conv=>lhs;rw[←G6 x]
  exact A5 fun r _=>by simp
 |s::l,x=>by
  show Ra (yk true (I0 s) x) l=_;rw[ZT l];unfold yk;rw[BB];refine A5 fun r _=>?_;simp only[Function.comp_apply]
  by_cases h1:CW r=s
  ·have e1:I0 s (CW r)=true:=Ax h1;have e2:Rm (s::l) (CW r)=true:=Ax (by rw[h1];exact Aa ..);rw[Ao e1,Ao e2];split<;>rfl
  ·have e1:¬I0 s (CW r)=true:=fun h=>h1 (A2 h);rw[Ah e1]
   by_cases h2:CW r∈l
   ·rw[Ao (show Rm l (CW r)=true from Ax h2),Ao (show Rm (s::l) (CW r)=true from Ax (Ag _ h2))]
   ·rw[Ah (fun h=>h2 (A2 h)),Ah (fun h=>(Au.1 (A2 h)).elim h1 h2)]
theorem iZ(l:List Sl)(x:List Rl)(s:Sl):Ra x (l++[s])=yk true (I0 s) (Ra x l):=by
 induction l generalizing x with
 |nil=>rfl
 |cons a l ih=>exact ih _
theorem lz{x:List Rl}(hx:AQ x=0){l:List Sl}{s:Sl}(hs:∃r∈x,CW r=s∧r.yanked=false)(hn:s∉l):F8 (Ra x l) s true=0∧HQ (Ra x l) s true=Ra x (l++[s]):=by
 obtain⟨r,hr,hk,hy⟩:=hs;have h1:r∈Ra x l:=by
  rw[ZT];exact Ak.2 ⟨r,hr,Ah fun h=>hn (by rw[←hk];exact A2 h)⟩
 have h2:F8 (Ra x l) s true=0:=by
  rw[oF ((Qo l x).1.trans hx) h1 hk,hy];rfl
 exact⟨h2,by rw[bc h2,iZ]⟩
theorem iY{x:List Rl}(hx:AQ x=0){l t:List Sl}(ht:∀s∈t,∃r∈x,CW r=s∧r.yanked=false)(hi:Fl t=true)(hl:∀s∈l,s∈t):EW (Ra x l) t=0∧Jo (Ra x l) t=x:=by
 have h1:EW (Ra x l) t=0:=by
  unfold EW;rw[Ah]
  rintro(h | h)
  ·exact h ((Qo l x).1.trans hx)
  ·rw[hi]at h;cases h
 refine⟨h1,?_⟩;unfold Jo;rw[Ao h1,ZT];unfold yk;rw[BB]
 conv=>rhs;rw[←G6 x]
 refine A5 fun q hq=>?_;simp only[Function.comp_apply,id];rw[ja]
 by_cases e:CW q∈t
 ·rw[Ao (show Rm t (CW q)=true from Ax e)];obtain⟨r,hr,hk,hy⟩:=ht _ e
  have:q=r:=aO hx hq hr hk.symm
  subst this;split
  ·cases q;cases hy;rfl
  ·cases q;cases hy;rfl
 ·rw[Ah (fun h=>e (A2 h)),Ah (fun h=>e (hl _ (A2 h)))]
section
variable {α:Type}(c:α→α→Int)
def Jx:Nat→List α→List α
 |0,l=>l
 |j+1,l=>match l[j+1]?,l[j]? with
  |some a,some b=>if c a b<0 then Jx j ((l.set (j+1) b).set j a)else l
  |_,_=>l
def Es(i:Nat)(l:List α):List α:=(List.range i).foldl (fun m i=>Jx c i m) l
theorem Vn:∀(j:Nat) (l:List α),(Jx c j l).length=l.length
 |0,_=>rfl
 |j+1,l=>by
  unfold Jx;split
  ·split
   ·rw[Vn j];simp
   ·rfl
  ·rfl
theorem Mx(i:Nat)(l:List α):Es c (i+1) l=Jx c i (Es c i l):=by
 unfold Es;rw[List.range_succ,Fr];rfl
theorem gp(l:List α):Es c 1 l=l:=rfl
theorem L3:∀(i:Nat) (l:List α),(Es c i l).length=l.length
 |0,_=>rfl
 |i+1,l=>by rw[Mx,Vn,L3 i]
theorem Vo:∀(j:Nat) (l:List α),∀x∈Jx c j l,x∈l
 |0,_,_,h=>h
 |j+1,l,x,h=>by
  unfold Jx at h;split at h
  ·rename_i a b ha hb;split at h
   ·have h:=Vo j _ x h;rcases ET h with h | rfl
    ·rcases ET h with h | rfl
     ·exact h
     ·exact Ar hb
    ·exact Ar ha
   ·exact h
  ·exact h
theorem SW:∀(i:Nat) (l:List α),∀x∈Es c i l,x∈l
 |0,_,_,h=>h
 |i+1,l,x,h=>by rw[Mx]at h;exact SW i l x (Vo c i _ x h)
theorem ZO{l:List α}{j:Nat}{a b:α}(h0:0<j)(ha:l[j]?=some a)(hb:l[j-1]?=some b)(hc:c a b<0):Jx c j l=Jx c (j-1) ((l.set j b).set (j-1) a):=by
 obtain⟨k,rfl⟩:∃k,j=k+1:=⟨j-1,by omega⟩;have e:k+1-1=k:=rfl;simp only[e]at hb⊢;rw[Jx,ha,hb];exact Ao hc
theorem TM{l:List α}{j:Nat}{a b:α}(h0:0<j)(ha:l[j]?=some a)(hb:l[j-1]?=some b)(hc:¬c a b<0):Jx c j l=l:=by
 obtain⟨k,rfl⟩:∃k,j=k+1:=⟨j-1,by omega⟩;have e:k+1-1=k:=rfl;simp only[e]at hb;rw[Jx,ha,hb];exact Ah hc
theorem U2{l:List α}(h:l.Pairwise fun a b=>¬c b a<0):∀i,i≤l.length→Es c i l=l
 |0,_=>rfl
 |i+1,hi=>by
  rw[Mx,U2 h i (by omega)]
  by_cases h0:i=0
  ·subst h0;rfl
  ·exact TM c (by omega) (Ge hi) (Ge (show i-1<l.length by omega)) ((AS.1 h) (i-1) i (by omega) hi (by omega))
end
theorem He{x:List Rl}(h:AQ x=0):Es Dz x.length x=x:=by
 refine U2 Dz ?_ _ (Al _);refine(Co h).2.imp fun {a b} jd hc=>?_;have h1:Xc (CW a) (CW b)<0:=Oh.2 jd;have h2:Xc (CW b) (CW a)<0:=hc;have h1:=Oh.1 h1;have h2:=Oh.1 h2;exact GZ (U9 h1 h2) rfl
def fs(s:Sl)(y:Bool)(l:List Rl):Bool×Bool:=l.foldl (fun a r=>if CW r=s then(true,decide (r.yanked=y))else a) (false,false)
theorem Rt{s:Sl}{y:Bool}{x:List Rl}{i:Nat}(h:i<x.length):fs s y (x.take (i+1))=if CW x[i]=s then(true,decide (x[i].yanked=y))else fs s y (x.take i):=by
 unfold fs;rw[Bq,Ge h,Fr]
 rfl
theorem fp{s:Sl}{y:Bool}:∀{l:List Rl} {a:Bool×Bool},(∀r∈l,CW r≠s)→l.foldl (fun a r=>if CW r=s then(true,decide (r.yanked=y))else a) a=a
 | [],_,_=>rfl
 |r::l,a,h=>by
  rw[Eb,Ah (h r (Aa ..))];exact fp fun q hq=>h q (Ag _ hq)
theorem fq{s:Sl}{y:Bool}{r:Rl}(hr:CW r=s):∀{l:List Rl} {a:Bool×Bool},r∈l→(∀q∈l,CW q=s→q=r)→l.foldl (fun a r=>if CW r=s then(true,decide (r.yanked=y))else a) a=(true,decide (r.yanked=y))
 | [],_,h,_=>by cases h
 |q::l,a,h,hu=>by
  rw[Eb]
  by_cases hm:r∈l
  ·exact fq hr hm fun p hp=>hu p (Ag _ hp)
  ·have e:r=q:=(Au.1 h).resolve_right hm;subst e;rw[Ao hr];exact fp fun p hp e=>hm (by rw[←hu p (Ag _ hp) e];exact hp)
theorem p6{x:List Rl}(hx:AQ x=0)(s:Sl)(y:Bool):fs s y x=match Ec x s with | none=>(false,false) | some r=>(true,decide (r.yanked=y)):=by
 cases e:Ec x s with
 |none=>exact fp (Xs hx e)
 |some r =>
  obtain⟨_,h1,h2⟩:=Ks e;exact fq h2 h1 fun q hq hk=>aO hx hq h1 (hk.trans (show s=CW r from h2.symm))
theorem PE{x:List Rl}(hx:AQ x=0)(s:Sl)(y:Bool):F8 x s y=if(fs s y x).1=false then 6 else if(fs s y x).2=true then 8 else 0:=by
 rw[p6 hx];unfold F8;rw[Ah (fun h=>h hx)];cases e:Ec x s with
 |none=>rfl
 |some r =>
  dsimp only
  by_cases h:r.yanked=y
  ·simp[h]
  ·simp[h]
def EP(x:List Rl)(z:Sl):Bool:=match Ec x z with | some r=>r.yanked | none=>false
def TX(x:List Rl)(l:List Sl):List Sl:=if EW x l=0 then l.filter (EP x)else []
theorem U5(x:List Rl)(l:List Sl):EW x l=0∨EW x l=1:=by unfold EW;split<;>simp
theorem SZ{x:List Rl}{l:List Sl}(h:EW x l=0):AQ x=0∧Fl l=true:=by
 unfold EW at h;split at h
 ·cases h
 ·rename_i q;exact⟨A4 fun e=>q (.inl e),by cases e:Fl l with
   |true=>rfl
   |false=>exact absurd (.inr e) q⟩
theorem jb{y:Bool}{p:Sl→Bool}{x:List Rl}{P:Rl→Prop}(h:∀r∈x,P r∧P { r with yanked:=y }):∀r∈yk y p x,P r:=fun r hr=>by
 obtain⟨q,hq,rfl⟩:=Ak.1 hr;split
 ·exact(h q hq).2
 ·exact(h q hq).1
theorem br{y:Bool}{p:Sl→Bool}{x:List Rl}(h:∀r∈x,JW r):∀r∈yk y p x,JW r:=jb fun r hr=>⟨h r hr,h r hr⟩
theorem WN{y:Bool}{p:Sl→Bool}{x:List Rl}{i:Nat}(h:i<x.length):(yk y p (x.take i)++x.drop i).set i (if p (CW x[i])=true then { x[i]with yanked:=y }else x[i])=yk y p (x.take (i+1))++x.drop (i+1):=by
 rw[Bk h,List.set_append_right _ _ (by rw[Lg,AB];omega),Lg,AB,show i-min i x.length=0 by omega,List.set_cons_zero];unfold yk;rw[Bq,Ge h,Ay,BH]
 rfl
theorem i7{y:Bool}{p:Sl→Bool}{x:List Rl}{i:Nat}(h:i<x.length):(yk y p (x.take i)++x.drop i)[i]?=some x[i]:=by
 rw[AY (by rw[Lg,AB];omega),Lg,AB,show i-min i x.length=0 by omega,Bk h]
 rfl
end Go.Eng
namespace Go.Eng
open Go.Proofs
theorem gn{α:Type}(c:α→α→Int){l:List α}{i:Nat}(h1:1≤i)(h2:i≤l.length∨i=1)(h3:l.length≤i):Es c i l=Es c l.length l:=by
 by_cases e:i=l.length
 ·rw[e]
 ·have e1:i=1:=by omega
  have e2:l.length=0:=by omega
  rw[e1,e2];rfl
theorem xg(l:List Rl)(hl:CM l):A3 Tryz.prog 192 [.msl 1000 l.length,vi 0,vi (l.length:Nat),.v (.func (.func 60) #[] #[])] (Ai [(1000,.arr 9 (l.map Aj))] Ab) fun r h'=>r=.tup []∧h'=Ai [(1000,.arr 9 ((Es Dz l.length l).map Aj))] Ab:=by
 have hl:l.length≤1073741824:=hl;refine BS (KV ⟨[],[],[],[],[],[],[],[],[],[],[5,6]⟩) [(1000,1000)] rfl Ck hm rfl Tryz.func192 (by kernel_rfl) rfl (Nz rfl) (by kernel_rfl) rfl ?_;refine Yi (Ii 0 (by omega)) ?_;refine Xi {q:Nat // 1≤q∧(q≤l.length∨q=1)} (Xi (fun q=>⟨[(0,.msl 1000 l.length),(1,vi 0),(2,vi (l.length:Nat)),(3,.v (.func (.func 60) #[] #[])),(8,vi q.1)],[(1000,.arr 9 ((Es Dz q.1 l).map Aj))],Ab⟩) (Xi (fun q=>l.length+1-q.1) (Yi (Xi ⟨1,Al _,.inr rfl⟩ ?_) ?_)))
 ·exact⟨Z5,⟨⟨(show HO.arr 9 (l.map Aj)=.arr 9 ((Es Dz 1 l).map Aj) by rw[gp]),rfl⟩,Tv⟩,Fh,Aw (by kernel_rfl)⟩
 intro⟨i,i1,i2⟩;have i1:1≤i:=i1;have i2:i≤l.length∨i=1:=i2;refine Yi (fun h1=>?_) (fun h1=>?_)
 ·have h1:(i:Int)<((l.length:Nat):Int):=h1;have ni:i<l.length:=by omega
  refine Xi {q:Nat×List Rl // q.1≤i∧q.2.length=l.length∧Jx Dz q.1 q.2=Es Dz (i+1) l} (Xi (fun q=>⟨[(0,.msl 1000 l.length),(1,vi 0),(2,vi (l.length:Nat)),(3,.v (.func (.func 60) #[] #[])),(8,vi i),(9,vi q.1.1)],[(1000,.arr 9 (q.1.2.map Aj))],Ab⟩) (Xi (fun q=>q.1.1) (Yi (Xi ⟨(i,Es Dz i l),Al _,L3 _ _ _,(Mx Dz i l).symm⟩ ?_) ?_)))
  ·exact⟨Z6,Z1,Fh,Aw (by kernel_rfl)⟩
  intro⟨⟨j,N⟩,j1,j2,j3⟩;have j1:j≤i:=j1;have j2:N.length=l.length:=j2;have j3:Jx Dz j N=Es Dz (i+1) l:=j3;refine Yi (fun h2=>?_) (fun h2=>?_)
  ·have h2:(0:Int)<(j:Int):=h2;have nj:j<N.length:=by omega
   have j0:0<j:=by omega
   have ej:((j-1:Int).toNat)=j-1:=by omega
   refine CF (show ∃a,N[j]?=some a from⟨_,Ge nj⟩) (fun a ga=>?_);refine CF (show ∃b,N[j-1]?=some b from⟨_,Ge (by omega)⟩) (fun b gb=>?_);have gc:N[(j-1:Int).toNat]?=some b:=by rw[ej];exact gb
   refine Yi (by show(0:Int)≤j∧(j:Int)<(l.length:Nat);omega) ?_;refine Yi (show l.length=(N.map Aj).length by simp[j2]) (Xi (Aj a) (Yi (Dg ga) ?_));refine Yi (Nz rfl) ?_;refine Yi (by show BR ((j:Int)-(1:Int));unfold BR;omega) ?_;refine Yi (by show(0:Int)≤j-1∧(j-1:Int)<(l.length:Nat);omega) ?_;refine Yi (show l.length=(N.map Aj).length by simp[j2]) (Xi (Aj b) (Yi (Dg gc) ?_));refine Yi (Nz rfl) ?_;refine Xi _ (Yi (pF a b) ?_);refine Yi (fun h3=>?_) (fun h3=>?_)
   ·have h3:((Dz a b):Int)<(0:Int):=h3;refine Yi (by kernel_rfl) ?_;refine Xi ⟨[(0,.msl 1000 l.length),(1,vi 0),(2,vi (l.length:Nat)),(3,.v (.func (.func 60) #[] #[])),(8,vi i),(9,vi j)],[(1000,.arr 9 (N.map Aj))],Ab⟩ (Yi ⟨Z6,Z1,Fh,Aw (by kernel_rfl)⟩ ?_)
    refine Yi (by show BR ((j:Int)-(1:Int));unfold BR;omega) ?_;refine Yi (by show BR ((j:Int)-(1:Int));unfold BR;omega) ?_;refine Yi (by show(0:Int)≤j-1∧(j-1:Int)<(l.length:Nat);omega) ?_;refine Yi (show l.length=(N.map Aj).length by simp[j2]) (Xi (Aj b) (Yi (Dg gc) ?_));refine Yi (Nz rfl) ?_;refine Yi (by show(0:Int)≤j∧(j:Int)<(l.length:Nat);omega) ?_;refine Yi (show l.length=(N.map Aj).length by simp[j2]) (Xi (Aj a) (Yi (Dg ga) ?_));refine Yi (Nz rfl) ?_;refine Yi (by show(0:Int)≤j∧(j:Int)<(l.length:Nat);omega) ?_;refine Yi (show l.length=(N.map Aj).length by simp[j2]) (Xi (Aj a) (Yi (Dg ga) (Yi (Nz rfl) ?_)));refine Yi (by show(0:Int)≤j-1∧(j-1:Int)<(l.length:Nat);omega) ?_;refine Yi (show l.length=(((N.map Aj).set j (Aj b)):List (List AV)).length by simp[j2]) (Xi (Aj b) (Yi ((List.getElem?_set_ne (by omega)).trans (Dg gc)) (Yi (Nz rfl) ?_)));refine Yi (by kernel_rfl) ?_;refine Xi ⟨[(0,.msl 1000 l.length),(1,vi 0),(2,vi (l.length:Nat)),(3,.v (.func (.func 60) #[] #[])),(8,vi i),(9,vi j)],[(1000,.arr 9 (((N.map Aj).set j (Aj b)).set (j-1:Int).toNat (Aj a)))],Ab⟩ (Yi ⟨Z6,Z1,Fh,Aw (by kernel_rfl)⟩ ?_)
    refine Yi (by show BR ((j:Int)-(1:Int));unfold BR;omega) ?_;refine Xi ⟨(j-1,(N.set j b).set (j-1) a),by omega,by rw[CJ,CJ];exact j2,by rw[←j3,ZO Dz j0 ga gb h3]⟩ ?_;exact⟨by show(j-1:Nat)<j;omega,⟨Zr,Zr,Zr,Zr,Zr,⟨(Ac vi (show(j:Int)-1=((j-1:Nat):Int) by omega)),rfl⟩,Tv⟩,⟨⟨(show HO.arr 9 (((N.map Aj).set j (Aj b)).set ((j-1:Int).toNat) (Aj a))=.arr 9 (((N.set j b).set (j-1) a).map Aj) by rw[ej,Gc,Gc]),rfl⟩,Tv⟩,Fh,Aw (by kernel_rfl)⟩
   have h3:¬(((Dz a b):Int)<(0:Int)):=h3;refine Yi (by kernel_rfl) ?_;refine Yi (Ii i (by omega)) ?_;have eN:N=Es Dz (i+1) l:=by rw[←j3];exact(TM Dz j0 ga gb h3).symm
   refine Xi ⟨i+1,by omega,.inl ni⟩ ?_;exact⟨by show l.length+1-(i+1)<l.length+1-i;omega,Z5,⟨⟨(show HO.arr 9 (N.map Aj)=.arr 9 ((Es Dz (i+1) l).map Aj) by rw[eN]),rfl⟩,Tv⟩,Fh,Aw (by kernel_rfl)⟩
  have h2:¬((0:Int)<(j:Int)):=h2;refine Yi (by kernel_rfl) ?_;refine Yi (Ii i (by omega)) ?_;have eN:N=Es Dz (i+1) l:=by rw[←j3];exact(show Jx Dz j N=N by rw[show j=0 by omega];rfl).symm
  refine Xi ⟨i+1,by omega,.inl ni⟩ ?_;exact⟨by show l.length+1-(i+1)<l.length+1-i;omega,Z5,⟨⟨(show HO.arr 9 (N.map Aj)=.arr 9 ((Es Dz (i+1) l).map Aj) by rw[eN]),rfl⟩,Tv⟩,Fh,Aw (by kernel_rfl)⟩
 have h1:¬((i:Int)<((l.length:Nat):Int)):=h1;exact Xi _ (Yi (.refl _) ⟨rfl,show Ai [(1000,HO.arr 9 ((Es Dz i l).map Aj))] Ab=Ai [(1000,.arr 9 ((Es Dz l.length l).map Aj))] Ab from Ac (fun z=>Ai [(1000,HO.arr 9 (z.map Aj))] Ab) (gn Dz i1 i2 (by omega))⟩)
end Go.Eng
