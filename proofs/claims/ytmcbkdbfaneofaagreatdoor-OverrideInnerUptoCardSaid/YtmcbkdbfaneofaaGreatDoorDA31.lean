/- Lemmas for the claims of this seat, without a condition: part 31 (S19, S20, O18, O19, J1, J2, O21, O20). -/
import Derived.Test.YtmcbkdbfaneofaaGreatDoorDA30
import Derived.Test.YtmcbkdbfaneofaaGreatDoorCards
import Derived.Test.YtmcbkdbfaneofaaGreatDoorTie
import Derived.ProofKit
import Derived.OpenShut
import Derived.Deep.DeepHandedRow
import Derived.Lib.LaidTab
set_option maxHeartbeats 4000000
namespace Go.Eng
open Go.Proofs
abbrev kG:TM:=⟨[2],[],[],[],[],[],[],[(50,(9,3,95,3))],[(44,0)],[(100016,1009)],[3,4,5,6,7,8,9,10,11,14,15,16]⟩
abbrev an0:An:=⟨false,[],[],[]⟩
def Me(x:List Rl)(roots:List Rq):An:=if GI x roots=true∧(FH x roots).ss.full=false then oY x roots else an0
def Mf(x:List Rl)(roots:List Rq):Int:=if GI x roots=true then if(FH x roots).ss.full=true then 7 else 0 else 1
abbrev ik(x:List Rl)(roots:List Rq):AV:=.tup [.agg (Sa (Me x roots)),vi (Mf x roots)]
theorem Hm.an0{v:AV}:Hm (.tup [.agg [vb false,.v (.slice none 0 0),.v (.slice none 0 0),.v (.slice none 0 0)],v]) (.tup [.agg (Sa an0),v]) :=
 Hm.tup ⟨Hm.agg ⟨.refl _,.nil,.nil,.nil,trivial⟩,.refl _,trivial⟩
theorem TA{x:List Rl}{roots:List Rq}(hx:∀r∈x,Ka r)(hr:∀q∈roots,NT q)(h0:A9 x=0)(h1:BS roots=0){L:List ByteArray}(hl:L.Perm (AQ (yR x) [])){o:JT}(ho:FH x roots=o) :
  Be Tryz.prog 97 [.ref 1000 0] (Aj (IZ roots (mC x) (L.map (kA x)) sH [] []) Ab) (Yo roots (mC x) (L.map (kA x)) o):=by
 rw[←ho];exact wx (mL hx hr h0 h1 hl) (x.length+1) (.nil x) (IG.nil roots) ⟨⟨rfl,AM _⟩,E7⟩ rfl (Nat.lt_succ_of_le (BE _ _)) rfl
theorem iF{x:List Rl}{roots:List Rq}(h:GI x roots=true):A9 x=0∧BS roots=0:=by
 unfold GI at h;rw[Ag,AA,AA]at h;exact h
theorem kS(x:List Rl)(ifs:List (List AV))(roots:List Rq)(hx:∀r∈x,Ka r)(hr:∀q∈roots,NT q)(hv:GI x roots=false):PC 72 [Rb x ifs,sl AN roots] (.tup [.agg (Sa an0),vi 1]):=by
 have Sx:=sD x ifs roots hx hr;rw[hv]at Sx;refine Ps kG Tryz.func72 rfl (Nz rfl) ?_;refine Yi ?_ ?_
 ·exact Nz rfl
 refine Xi .pure (Xi _ (Yi Sx ?_));refine Yi ?_ ?_
 ·exact Nz rfl
 refine Yi ?_ ?_
 ·exact Nz rfl
 exact Hm.an0
theorem g8(x:List Rl)(ifs:List (List AV))(roots:List Rq)(hx:∀r∈x,Ka r)(hr:∀q∈roots,NT q)(hv:GI x roots=true)(h0:A9 x=0)(h1:BS roots=0)(k:Nat)(infs:List Nf)(drv:List (List Tm))(dec:List Cd)(st:List (List Sk))(ho:FH x roots=⟨k,false,⟨infs,drv,true⟩,dec,st⟩):PC 72 [Rb x ifs,sl AN roots] (.tup [.agg (Sa an0),vi 7]):=by
 have Sx:=sD x ifs roots hx hr;rw[hv]at Sx;refine Ps kG Tryz.func72 rfl (Nz rfl) ?_;refine Yi ?_ ?_
 ·exact Nz rfl
 refine Xi .pure (Xi _ (Yi Sx ?_));refine Xi ⟨[(1,sl AN roots),(2,.ref 2 0),(4,.ref 4 0)],[(2,.ro (Ic x ifs)),(4,.cells [vb false,.v (.slice none 0 0),.v (.slice none 0 0),.v (.slice none 0 0)])],Ab⟩ (Yi ⟨Z3,Z2,Fh,Tv⟩ ?_)
 refine Yi ?_ ?_
 ·exact Nz rfl
 refine Xi (.gen [] 5) (Yi rfl ((wu x ifs roots hx h0).imp ?_));intro v g q;refine Do q (fun L q=>?_);have q1:=q.2.1;have q2:=q.2.2;have qp:=q.1;subst q1;subst q2;refine Xi ⟨[(4,.ref 4 0),(6,.ref 11900 0)],[(4,.cells [vb false,.v (.slice none 0 0),.v (.slice none 0 0),.v (.slice none 0 0)]),(11900,.cells [sl AN roots,.cmap C3 (mC x),.cmap C3 (L.map (kA x)),.slice (.id 11901 6) [],.slice (.id 11902 1) [],.mref 11903,vb false,.slice .none [],.slice .none [],.msl 11904 0]),(11901,.tok 6 0),(11902,.tok 1 0),(11903,.map DS []),(11904,.arr 1 [])],Ab⟩ (Yi ⟨Z2,Z6,Fh,Tv⟩ ?_)
 refine Xi (.gen [(11900,1000),(11901,1001),(11902,1002),(11903,1003),(11904,1004)] 1) (Yi rfl ((TA hx hr h0 h1 qp ho).imp ?_));intro v g q;have q1:=q.1;have q2:=q.2;subst q1;subst q2;refine Xi ⟨[(4,.ref 4 0),(6,.ref 11900 0),(7,vi (k:Nat)),(8,vb false)],[(4,.cells [vb false,.v (.slice none 0 0),.v (.slice none 0 0),.v (.slice none 0 0)]),(11900,.cells [sl AN roots,.cmap C3 (mC x),.cmap C3 (L.map (kA x)),.slice (.id 11901 6) (infs.map BZ),.slice (.id 11902 1) (drv.map Ca),.mref 11903,vb true,sl AE dec,sl Ae (AK dec),.msl 12200 st.length]),(11901,.tok 6 infs.length),(11902,.tok 1 drv.length),(11903,.map DS (DU 0 infs)),(12200,.arr 1 (st.map AS))],Ab⟩ (Yi ⟨Z4,Z6,Fh,Tv⟩ ?_)
 refine Yi (fun _=>?_) (fun h=>by cases h);refine Xi ⟨[(4,.ref 4 0)],[(4,.cells [vb false,.v (.slice none 0 0),.v (.slice none 0 0),.v (.slice none 0 0)])],Ab⟩ (Yi ⟨Z1,Z1,Fh,Tv⟩ ?_)
 refine Yi ?_ ?_
 ·exact Nz rfl
 refine Yi ?_ ?_
 ·exact Nz rfl
 exact Hm.an0
theorem nV(x:List Rl)(ifs:List (List AV))(roots:List Rq)(hx:∀r∈x,Ka r)(hr:∀q∈roots,NT q)(hv:GI x roots=true)(h0:A9 x=0)(h1:BS roots=0)(k:Nat)(infs:List Nf)(drv:List (List Tm))(dec:List Cd)(st:List (List Sk))(ho:FH x roots=⟨k,false,⟨infs,drv,false⟩,dec,st⟩)(hk:k<infs.length)(hl:infs.length≤65536):PC 72 [Rb x ifs,sl AN roots] (.tup [.agg (Sa ⟨false,[],infs.take (k+1),[]⟩),vi 0]):=by
 have Sx:=sD x ifs roots hx hr;rw[hv]at Sx;refine Ps kG Tryz.func72 rfl (Nz rfl) ?_;refine Yi ?_ ?_
 ·exact Nz rfl
 refine Xi .pure (Xi _ (Yi Sx ?_));refine Xi ⟨[(1,sl AN roots),(2,.ref 2 0),(4,.ref 4 0)],[(2,.ro (Ic x ifs)),(4,.cells [vb false,.v (.slice none 0 0),.v (.slice none 0 0),.v (.slice none 0 0)])],Ab⟩ (Yi ⟨Z3,Z2,Fh,Tv⟩ ?_)
 refine Yi ?_ ?_
 ·exact Nz rfl
 refine Xi (.gen [] 5) (Yi rfl ((wu x ifs roots hx h0).imp ?_));intro v g q;refine Do q (fun L q=>?_);have q1:=q.2.1;have q2:=q.2.2;have qp:=q.1;subst q1;subst q2;refine Xi ⟨[(4,.ref 4 0),(6,.ref 11900 0)],[(4,.cells [vb false,.v (.slice none 0 0),.v (.slice none 0 0),.v (.slice none 0 0)]),(11900,.cells [sl AN roots,.cmap C3 (mC x),.cmap C3 (L.map (kA x)),.slice (.id 11901 6) [],.slice (.id 11902 1) [],.mref 11903,vb false,.slice .none [],.slice .none [],.msl 11904 0]),(11901,.tok 6 0),(11902,.tok 1 0),(11903,.map DS []),(11904,.arr 1 [])],Ab⟩ (Yi ⟨Z2,Z6,Fh,Tv⟩ ?_)
 refine Xi (.gen [(11900,1000),(11901,1001),(11902,1002),(11903,1003),(11904,1004)] 1) (Yi rfl ((TA hx hr h0 h1 qp ho).imp ?_));intro v g q;have q1:=q.1;have q2:=q.2;subst q1;subst q2;refine Xi ⟨[(4,.ref 4 0),(6,.ref 11900 0),(7,vi (k:Nat)),(8,vb false)],[(4,.cells [vb false,.v (.slice none 0 0),.v (.slice none 0 0),.v (.slice none 0 0)]),(11900,.cells [sl AN roots,.cmap C3 (mC x),.cmap C3 (L.map (kA x)),.slice (.id 11901 6) (infs.map BZ),.slice (.id 11902 1) (drv.map Ca),.mref 11903,vb false,sl AE dec,sl Ae (AK dec),.msl 12200 st.length]),(11901,.tok 6 infs.length),(11902,.tok 1 drv.length),(11903,.map DS (DU 0 infs)),(12200,.arr 1 (st.map AS))],Ab⟩ (Yi ⟨Z4,Z6,Fh,Tv⟩ ?_)
 refine Yi (fun h=>by cases h) (fun _=>?_);refine Xi ⟨[(4,.ref 4 0),(6,.ref 11900 0),(7,vi (k:Nat)),(8,vb false)],[(4,.cells [vb false,.v (.slice none 0 0),.v (.slice none 0 0),.v (.slice none 0 0)]),(11900,.cells [sl AN roots,.cmap C3 (mC x),.cmap C3 (L.map (kA x)),.slice (.id 11901 6) (infs.map BZ),.slice (.id 11902 1) (drv.map Ca),.mref 11903,vb false,sl AE dec,sl Ae (AK dec),.msl 12200 st.length]),(11901,.tok 6 infs.length),(11902,.tok 1 drv.length),(11903,.map DS (DU 0 infs)),(12200,.arr 1 (st.map AS))],Ab⟩ (Yi ⟨Z4,Z6,Fh,Tv⟩ ?_)
 refine Xi ⟨[(4,.ref 4 0),(6,.ref 11900 0),(7,vi (k:Nat))],[(4,.cells [vb false,.v (.slice none 0 0),.v (.slice none 0 0),.v (.slice none 0 0)]),(11900,.cells [sl AN roots,.cmap C3 (mC x),.cmap C3 (L.map (kA x)),.slice (.id 11901 6) (infs.map BZ),.slice (.id 11902 1) (drv.map Ca),.mref 11903,vb false,sl AE dec,sl Ae (AK dec),.msl 12200 st.length]),(11901,.tok 6 infs.length),(11902,.tok 1 drv.length),(11903,.map DS (DU 0 infs)),(12200,.arr 1 (st.map AS))],Ab⟩ (Yi ⟨Z3,Z6,Fh,Tv⟩ ?_)
 refine Yi (Ii k (by omega)) ?_;have el:(infs.map BZ).length=infs.length:=Lm ..;refine Yi ⟨AX _,by show(0:Int)≤(k:Int)+1;omega,by show(k:Int)+1≤((infs.map BZ).length:Int);rw[el];omega⟩ ?_;refine Yi (fun cs hcs=>by obtain⟨i,_,rfl⟩:=Am.1 hcs;rfl) ?_;refine Yi ?_ ?_
 ·exact Nz rfl
 refine Yi ?_ ?_
 ·exact Nz rfl
 have et:((infs.map BZ).take ((k:Int)+1).toNat).drop (0:Int).toNat=(infs.take (k+1)).map BZ:=by
  rw[show((k:Int)+1).toNat=k+1 by omega];simp
 exact Hm.tup ⟨Hm.agg ⟨.refl _,.nil,.of_eq (show AV.slice .none (((infs.map BZ).take ((k:Int)+1).toNat).drop (0:Int).toNat)=_ by rw[et]),.nil,trivial⟩,.refl _,trivial⟩
theorem US(y:Sl):∀l:List Sl,(Ub y l).Perm (y::l)
 | []=>.refl _
 |z::l=>by
  unfold Ub;split
  ·exact .refl _
  ·exact((US y l).cons z).trans (List.Perm.swap y z l)
theorem TB:∀l:List Sl,(FW l).Perm l
 | []=>.refl _
 |y::l=>(US y _).trans ((TB l).cons y)
theorem Xf{b:Nat}:∀{st:List (List Sk)},(∀s∈st,s.length≤b)→st.flatten.length≤b*st.length
 | [],_=>by simp
 |s::st,h=>by
  rw[Bz,Ad,At,Nat.mul_succ]
  have:=h s (Aa ..)
  have:=Xf (st:=st) fun t ht=>h t (Af _ ht)
  omega
theorem ig{st:List (List Sk)}(h:st.length≤256)(hs:∀s∈st,s.length≤256)(i:Nat):((st.take i).flatten).length≤65536:=by
 have h1:=Xf (b:=256) (st:=st.take i) fun s Wy=>hs s (Er Wy)
 have:(st.take i).length≤256:=by rw[AJ];omega
 omega
theorem kT(x:List Rl)(ifs:List (List AV))(roots:List Rq)(hx:∀r∈x,Ka r)(hr:∀q∈roots,NT q)(hv:GI x roots=true)(h0:A9 x=0)(h1:BS roots=0)(k:Nat)(infs:List Nf)(drv:List (List Tm))(dec:List Cd)(st:List (List Sk))(ho:FH x roots=⟨k,true,⟨infs,drv,false⟩,dec,st⟩)(hd:dec.length≤256)(hn:((AK dec).map (·.path)).Nodup)(Jc:st.length≤256)(xD:∀s∈st,s.length≤256):PC 72 [Rb x ifs,sl AN roots] (.tup [.agg (Sa ⟨true,FW (AK dec),infs,st.flatten⟩),vi 0]):=by
 have Sx:=sD x ifs roots hx hr;rw[hv]at Sx;refine Ps kG Tryz.func72 rfl (Nz rfl) ?_;refine Yi ?_ ?_
 ·exact Nz rfl
 refine Xi .pure (Xi _ (Yi Sx ?_));refine Xi ⟨[(1,sl AN roots),(2,.ref 2 0),(4,.ref 4 0)],[(2,.ro (Ic x ifs)),(4,.cells [vb false,.v (.slice none 0 0),.v (.slice none 0 0),.v (.slice none 0 0)])],Ab⟩ (Yi ⟨Z3,Z2,Fh,Tv⟩ ?_)
 refine Yi ?_ ?_
 ·exact Nz rfl
 refine Xi (.gen [] 5) (Yi rfl ((wu x ifs roots hx h0).imp ?_));intro v g q;refine Do q (fun L q=>?_);have q1:=q.2.1;have q2:=q.2.2;have qp:=q.1;subst q1;subst q2;refine Xi ⟨[(4,.ref 4 0),(6,.ref 11900 0)],[(4,.cells [vb false,.v (.slice none 0 0),.v (.slice none 0 0),.v (.slice none 0 0)]),(11900,.cells [sl AN roots,.cmap C3 (mC x),.cmap C3 (L.map (kA x)),.slice (.id 11901 6) [],.slice (.id 11902 1) [],.mref 11903,vb false,.slice .none [],.slice .none [],.msl 11904 0]),(11901,.tok 6 0),(11902,.tok 1 0),(11903,.map DS []),(11904,.arr 1 [])],Ab⟩ (Yi ⟨Z2,Z6,Fh,Tv⟩ ?_)
 refine Xi (.gen [(11900,1000),(11901,1001),(11902,1002),(11903,1003),(11904,1004)] 1) (Yi rfl ((TA hx hr h0 h1 qp ho).imp ?_));intro v g q;have q1:=q.1;have q2:=q.2;subst q1;subst q2;refine Xi ⟨[(4,.ref 4 0),(6,.ref 11900 0),(7,vi (k:Nat)),(8,vb true)],[(4,.cells [vb false,.v (.slice none 0 0),.v (.slice none 0 0),.v (.slice none 0 0)]),(11900,.cells [sl AN roots,.cmap C3 (mC x),.cmap C3 (L.map (kA x)),.slice (.id 11901 6) (infs.map BZ),.slice (.id 11902 1) (drv.map Ca),.mref 11903,vb false,sl AE dec,sl Ae (AK dec),.msl 12200 st.length]),(11901,.tok 6 infs.length),(11902,.tok 1 drv.length),(11903,.map DS (DU 0 infs)),(12200,.arr 1 (st.map AS))],Ab⟩ (Yi ⟨Z4,Z6,Fh,Tv⟩ ?_)
 refine Yi (fun h=>by cases h) (fun _=>?_);refine Xi ⟨[(4,.ref 4 0),(6,.ref 11900 0),(8,vb true)],[(4,.cells [vb false,.v (.slice none 0 0),.v (.slice none 0 0),.v (.slice none 0 0)]),(11900,.cells [sl AN roots,.cmap C3 (mC x),.cmap C3 (L.map (kA x)),.slice (.id 11901 6) (infs.map BZ),.slice (.id 11902 1) (drv.map Ca),.mref 11903,vb false,sl AE dec,sl Ae (AK dec),.msl 12200 st.length]),(11901,.tok 6 infs.length),(11902,.tok 1 drv.length),(11903,.map DS (DU 0 infs)),(12200,.arr 1 (st.map AS))],Ab⟩ (Yi ⟨Z3,Z6,Fh,Tv⟩ ?_)
 refine Xi ⟨[(4,.ref 4 0),(6,.ref 11900 0)],[(4,.cells [vb false,.v (.slice none 0 0),.v (.slice none 0 0),.v (.slice none 0 0)]),(11900,.cells [sl AN roots,.cmap C3 (mC x),.cmap C3 (L.map (kA x)),.slice (.id 11901 6) (infs.map BZ),.slice (.id 11902 1) (drv.map Ca),.mref 11903,vb false,sl AE dec,sl Ae (AK dec),.msl 12200 st.length]),(11901,.tok 6 infs.length),(11902,.tok 1 drv.length),(11903,.map DS (DU 0 infs)),(12200,.arr 1 (st.map AS))],Ab⟩ (Yi ⟨Z2,Z6,Fh,Tv⟩ ?_)
 have oE:(AK dec).length≤256:=by rw[Lm];exact hd
 have aa:Cn (AK dec):=A5 oE (by decide);refine Xi (AK dec).length (Xi 4 (Xi ((AK dec).map Ae) (Yi rfl (Yi (rD (AK dec) aa) ?_))));refine Yi ?_ ?_
 ·exact Nz rfl
 refine Yi (by kernel_rfl) ?_;refine Xi ⟨[(4,.ref 4 0),(6,.ref 11900 0),(9,.ref 9 0)],[(4,.cells [vb false,.v (.slice none 0 0),.v (.slice none 0 0),.v (.slice none 0 0)]),(9,.cells [vb true,.msl 14400 (AK dec).length,.slice (.id 11901 6) (infs.map BZ),.v (.slice none 0 0)]),(11900,.cells [sl AN roots,.cmap C3 (mC x),.cmap C3 (L.map (kA x)),.slice (.id 11901 6) (infs.map BZ),.slice (.id 11902 1) (drv.map Ca),.mref 11903,vb false,sl AE dec,sl Ae (AK dec),.msl 12200 st.length]),(11901,.tok 6 infs.length),(11902,.tok 1 drv.length),(11903,.map DS (DU 0 infs)),(12200,.arr 1 (st.map AS)),(14400,.arr 4 ((AK dec).map Ae))],Ab⟩ (Yi ⟨Z3,Z8,Fh,Tv⟩ ?_)
 refine Xi (.gen [(14400,1000)] 0) (Yi rfl ((s47 99 Tryz.closure99 (enters_of Tryz.func99 (by kernel_rfl) rfl) (AK dec) aa hn).imp ?_));intro v g q;have q1:=q.1;have q2:=q.2;subst q1;subst q2;refine Xi ⟨[(4,.ref 4 0),(6,.ref 11900 0),(9,.ref 9 0)],[(4,.cells [vb false,.v (.slice none 0 0),.v (.slice none 0 0),.v (.slice none 0 0)]),(9,.cells [vb true,.msl 14400 (AK dec).length,.slice (.id 11901 6) (infs.map BZ),.slice (.id 95 3) []]),(95,.tok 3 0),(11900,.cells [sl AN roots,.cmap C3 (mC x),.cmap C3 (L.map (kA x)),.slice (.id 11901 6) (infs.map BZ),.slice (.id 11902 1) (drv.map Ca),.mref 11903,vb false,sl AE dec,sl Ae (AK dec),.msl 12200 st.length]),(11901,.tok 6 infs.length),(11902,.tok 1 drv.length),(11903,.map DS (DU 0 infs)),(12200,.arr 1 (st.map AS)),(14400,.arr 4 ((FW (AK dec)).map Ae))],Ab⟩ (Yi ⟨Z3,Z9,Fh,Tv⟩ ?_)
 refine Xi {i:Nat // i≤st.length} (Xi (fun i=>⟨[(4,.ref 4 0),(6,.ref 11900 0),(9,.ref 9 0),(56,.msl 12200 st.length),(57,vi (st.length:Nat)),(58,vi i.1)],[(4,.cells [vb false,.v (.slice none 0 0),.v (.slice none 0 0),.v (.slice none 0 0)]),(9,.cells [vb true,.msl 14400 (AK dec).length,.slice (.id 11901 6) (infs.map BZ),.slice (.id 95 3) ((st.take i.1).flatten.map BT)]),(95,.tok 3 ((st.take i.1).flatten.map BT).length),(11900,.cells [sl AN roots,.cmap C3 (mC x),.cmap C3 (L.map (kA x)),.slice (.id 11901 6) (infs.map BZ),.slice (.id 11902 1) (drv.map Ca),.mref 11903,vb false,sl AE dec,sl Ae (AK dec),.msl 12200 st.length]),(11901,.tok 6 infs.length),(11902,.tok 1 drv.length),(11903,.map DS (DU 0 infs)),(12200,.arr 1 (st.map AS)),(14400,.arr 4 ((FW (AK dec)).map Ae))],Ab⟩) (Xi (fun i=>st.length-i.1) (Yi (Xi ⟨0,AM _⟩ ?_) ?_)))
 ·exact⟨Z6,Z9,Fh,Tv⟩
 intro⟨i,i1⟩;have i1:i≤st.length:=i1;refine Yi ?_ ?_
 ·intro h;have h:(i:Int)<(st.length:Nat):=h;have h:i<st.length:=by omega
  have hg:st[i]?=some st[i]:=Ge h;have Kt:st.take (i+1)=st.take i++[st[i]]:=by rw[Bu,hg];rfl
  refine Yi (Yi (Nn i) (by show(i:Int)<(st.length:Nat);omega)) ?_;refine Yi (by rw[Lm]) (Xi (AS st[i]) (Yi (by show(st.map AS)[((i:Nat):Int).toNat]?=_;rw[Ch,AG,hg];rfl) ?_));refine Xi ⟨[(4,.ref 4 0),(6,.ref 11900 0),(9,.ref 9 0),(11,sl BT st[i]),(56,.msl 12200 st.length),(57,vi (st.length:Nat)),(58,vi i)],[(4,.cells [vb false,.v (.slice none 0 0),.v (.slice none 0 0),.v (.slice none 0 0)]),(9,.cells [vb true,.msl 14400 (AK dec).length,.slice (.id 11901 6) (infs.map BZ),.slice (.id 95 3) ((st.take i).flatten.map BT)]),(95,.tok 3 ((st.take i).flatten.map BT).length),(11900,.cells [sl AN roots,.cmap C3 (mC x),.cmap C3 (L.map (kA x)),.slice (.id 11901 6) (infs.map BZ),.slice (.id 11902 1) (drv.map Ca),.mref 11903,vb false,sl AE dec,sl Ae (AK dec),.msl 12200 st.length]),(11901,.tok 6 infs.length),(11902,.tok 1 drv.length),(11903,.map DS (DU 0 infs)),(12200,.arr 1 (st.map AS)),(14400,.arr 4 ((FW (AK dec)).map Ae))],Ab⟩ (Yi ⟨Z7,Z9,Fh,Tv⟩ ?_)
  have hfl:((st.take i).flatten).length≤65536∧st[i].length≤256:=⟨ig Jc xD i,xD _ (Ao _)⟩;have Gs:Dp 3 (st[i].map BT)∧((st.take i).flatten.map BT).length=((st.take i).flatten.map BT).length∧(((st.take i).flatten.map BT).length+(st[i].map BT).length)*32≤140737488355328∧((st.take i).flatten.map BT).length+(st[i].map BT).length≤9223372036854775807:=by
   refine⟨Ez (enc:=BT) (n:=3) (fun _=>rfl) _,rfl,?_,?_⟩<;>simp only[Lm]<;>omega
  refine Yi Gs ?_;refine Yi ?_ ?_
  ·exact Nz rfl
  have ef:((st.take i).flatten.map BT)++st[i].map BT=((st.take (i+1)).flatten.map BT):=by rw[Kt,CI,AH];simp
  have en:((st.take i).flatten.map BT).length+(st[i].map BT).length=((st.take (i+1)).flatten.map BT).length:=by rw[←ef,Ad]
  refine Xi ⟨[(4,.ref 4 0),(6,.ref 11900 0),(9,.ref 9 0),(56,.msl 12200 st.length),(57,vi (st.length:Nat)),(58,vi i)],[(4,.cells [vb false,.v (.slice none 0 0),.v (.slice none 0 0),.v (.slice none 0 0)]),(9,.cells [vb true,.msl 14400 (AK dec).length,.slice (.id 11901 6) (infs.map BZ),.slice (.id 95 3) ((st.take (i+1)).flatten.map BT)]),(95,.tok 3 ((st.take (i+1)).flatten.map BT).length),(11900,.cells [sl AN roots,.cmap C3 (mC x),.cmap C3 (L.map (kA x)),.slice (.id 11901 6) (infs.map BZ),.slice (.id 11902 1) (drv.map Ca),.mref 11903,vb false,sl AE dec,sl Ae (AK dec),.msl 12200 st.length]),(11901,.tok 6 infs.length),(11902,.tok 1 drv.length),(11903,.map DS (DU 0 infs)),(12200,.arr 1 (st.map AS)),(14400,.arr 4 ((FW (AK dec)).map Ae))],Ab⟩ (Yi ⟨Z6,⟨Zr,⟨Ac (fun z=>HO.cells [vb true,.msl 14400 (AK dec).length,.slice (.id 11901 6) (infs.map BZ),.slice (.id 95 3) z]) ef,rfl⟩,⟨Ac (HO.tok 3) en,rfl⟩,Zr,Zr,Zr,Zr,Zr,Zr,Tv⟩,Fh,Tv⟩ ?_)
  refine Yi (Ii i (by omega)) ?_;refine Xi ⟨i+1,by omega⟩ ?_;exact⟨Dl st.length i (by omega),Z6,Z9,Fh,Tv⟩
 ·intro h;have h:¬(i:Int)<(st.length:Nat):=h;have et:st.take i=st:=AT (by omega);have Wz:(AK dec).length=((FW (AK dec)).map Ae).length:=(TB (AK dec)).length_eq.symm.trans (Lm ..).symm;refine Yi Wz ?_;refine Xi ⟨[(4,.ref 4 0),(9,.ref 9 0)],[(4,.cells [vb false,.v (.slice none 0 0),.v (.slice none 0 0),.v (.slice none 0 0)]),(9,.cells [vb true,.slice (.id 14400 4) ((FW (AK dec)).map Ae),.slice (.id 11901 6) (infs.map BZ),.slice (.id 95 3) (st.flatten.map BT)]),(95,.tok 3 (st.flatten.map BT).length),(11901,.tok 6 infs.length),(14400,.tok 4 ((FW (AK dec)).map Ae).length)],Ab⟩ (Yi ⟨Z2,⟨Zr,⟨Ac (fun z:List (List Sk)=>HO.cells [vb true,.slice (.id 14400 4) ((FW (AK dec)).map Ae),.slice (.id 11901 6) (infs.map BZ),.slice (.id 95 3) (z.flatten.map BT)]) et,rfl⟩,⟨Ac (fun z:List (List Sk)=>HO.tok 3 (z.flatten.map BT).length) et,rfl⟩,Zr,Zr,Tv⟩,Fh,Tv⟩ ?_)
  refine Yi ?_ ?_
  ·exact Nz rfl
  refine Yi ?_ ?_
  ·exact Nz rfl
  refine Yi ?_ ?_
  ·exact Nz rfl
  exact .refl _
theorem PT{s:SS}{b:List Cd}{p:ByteArray}{needs:List Nd}:∀{cs:List Cd} {sk:List Sk},GS s b p needs cs sk→sk.length≤cs.length
 | [],sk,h=>by
  have h:sk=[]:=h;rw[h];exact Ak _
 |c::cs,sk,h=>by
  have h:if(needs.all fun n=>has n.rq.set c.place)=true then _ else _:=h
  by_cases hc:(needs.all fun n=>has n.rq.set c.place)=true
  ·rw[Az hc]at h;obtain⟨k,rest,rfl,_,h3⟩:=h
   have:=PT h3
   simp only[At];omega
  ·rw[Al hc]at h
   have:=PT h
   simp only[At];omega
theorem Uy{x:List Rl}{roots:List Rq}{s:SS}:∀{t:List Cd} {sl:List (List Sk)} {b:List Cd},Rx x roots s b t sl→sl.length=t.length∧∀k∈sl,k.length≤x.length
 | [],[],_,_=>⟨rfl,fun _ h=>by cases h⟩
 | [],_::_,_,h=>h.elim
 |_::_,[],_,h=>h.elim
 |c::t,sk::sl,b,⟨⟨p,needs,pre,post,hs⟩,h⟩=>by
  obtain⟨h1,h2⟩:=Uy h;refine⟨by simp[h1],fun k hk=>?_⟩;rcases Au.1 hk with rfl | hk
  ·have e1:=PT hs.skips;have e2:=Uv x p;rw[hs.cands,Ad]at e2;omega
  ·exact h2 k hk
theorem s21(x:List Rl)(ifs:List (List AV))(roots:List Rq)(hx:∀r∈x,Ka r)(hr:∀q∈roots,NT q):PC 72 [Rb x ifs,sl AN roots] (ik x roots):=by
 unfold ik Me Mf;cases hv:GI x roots with
 |false=>simpa using kS x ifs roots hx hr hv
 |true =>
  obtain⟨h0,h1⟩:=iF hv;have hR:=cZ h0 h1;have lK:=(PD h0).1;have hA:oY x roots=if(FH x roots).found=true then⟨true,FW (AK (FH x roots).dec),(FH x roots).ss.infs,(FH x roots).stack.flatten⟩else⟨false,[],(FH x roots).ss.infs.take ((FH x roots).res+1),[]⟩:=rfl
  rw[hA];generalize ho:FH x roots=o at hR⊢;obtain⟨k,b,⟨infs,drv,full⟩,dec,st⟩:=o;have hl:infs.length≤65536:=hR.der.len;have hdl:drv.length=infs.length:=hR.der.dlen;cases b with
  |false =>
   cases full with
   |true=>simpa using g8 x ifs roots hx hr hv h0 h1 k infs drv dec st ho
   |false =>
    have hk:k<drv.length:=((hR.no rfl).2.2 rfl).1;simpa using nV x ifs roots hx hr hv h0 h1 k infs drv dec st ho (by omega) hl
  |true =>
   obtain⟨hf,t,sl,e1,e2,hC,_⟩:=hR.yes rfl;have hf:full=false:=hf;subst hf;have e1:dec=[]++t:=e1;have e2:st=[]++sl:=e2;rw[D8]at e1 e2;subst e1;subst e2;have hD:ED x ([]++dec):=(Rx.ok (.nil x) (.nil roots) hC).1;rw[D8]at hD;have hdx:=W0 hD;obtain⟨c1,c2⟩:=Uy hC;have hn:((AK dec).map (·.path)).Nodup:=by rw[Nv];exact hD.nodup
   simpa using kT x ifs roots hx hr hv h0 h1 k infs drv dec st ho (by omega) hn (by omega) (fun s hs=>A5 (c2 s hs) lK)
def cY(x:List Rl)(roots:List Rq):Int:=if Mf x roots≠0 then Mf x roots else if(Me x roots).found=true then 0 else 17
def hJ(x:List Rl)(roots:List Rq):List Sl:=if cY x roots=0 then(Me x roots).sel else []
abbrev vz:TM:=⟨[2],[],[],[],[],[],[],[],[],[],[]⟩
theorem nU(x:List Rl)(ifs:List (List AV))(roots:List Rq)(a:An)(e:Int)(h:PC 72 [Rb x ifs,sl AN roots] (.tup [.agg (Sa a),vi e])) :
  PC 30 [Rb x ifs,sl AN roots] (.tup [if e≠0 then sl Ae []else if a.found=true then sl Ae a.sel else sl Ae [],vi (if e≠0 then e else if a.found=true then 0 else 17)]):=by
 refine Ps vz Tryz.func30 rfl (Nz rfl) ?_;refine Yi ?_ ?_
 ·exact Nz rfl
 refine Xi .pure (Xi _ (Yi h ?_));refine Yi ?_ ?_
 ·exact Nz rfl
 refine Yi (fun he=>?_) (fun he=>?_)
 ·have he:¬e=0:=he;have e1:AV.tup [sl Ae [],vi e]=.tup [if e≠0 then sl Ae []else if a.found=true then sl Ae a.sel else sl Ae [],vi (if e≠0 then e else if a.found=true then 0 else 17)]:=by rw[Az he,Az he]
  exact(show Hm (.tup [.v (.slice none 0 0),vi e]) (.tup [sl Ae ([]:List Sl),vi e])from Hm.tup ⟨.nil,.refl _,trivial⟩).trans (.of_eq e1)
 ·have he:e=0:=BL.1 he;have DD:¬e≠0:=fun h=>h he;refine Yi (fun hb=>?_) (fun hb=>?_)
  ·have hb:a.found=true:=hb;have e1:AV.tup [sl Ae a.sel,vi 0]=.tup [if e≠0 then sl Ae []else if a.found=true then sl Ae a.sel else sl Ae [],vi (if e≠0 then e else if a.found=true then 0 else 17)]:=by rw[Al DD,Al DD,Az hb,Az hb]
   exact .of_eq e1
  ·have hb:a.found=false:=hb;have hb:¬a.found=true:=by rw[hb];decide
   have e1:AV.tup [sl Ae [],vi 17]=.tup [if e≠0 then sl Ae []else if a.found=true then sl Ae a.sel else sl Ae [],vi (if e≠0 then e else if a.found=true then 0 else 17)]:=by rw[Al DD,Al DD,Al hb,Al hb]
   exact(show Hm (.tup [.v (.slice none 0 0),vi 17]) (.tup [sl Ae ([]:List Sl),vi 17])from Hm.tup ⟨.nil,.refl _,trivial⟩).trans (.of_eq e1)
theorem ye(x:List Rl)(ifs:List (List AV))(roots:List Rq)(hx:∀r∈x,Ka r)(hr:∀q∈roots,NT q):PC 30 [Rb x ifs,sl AN roots] (.tup [sl Ae (hJ x roots),vi (cY x roots)]):=by
 have h:=nU x ifs roots _ _ (s21 x ifs roots hx hr);have e1:(if Mf x roots≠0 then sl Ae []else if(Me x roots).found=true then sl Ae (Me x roots).sel else sl Ae [])=sl Ae (hJ x roots):=by
  unfold hJ cY
  by_cases h1:Mf x roots=0
  ·by_cases h2:(Me x roots).found=true
   ·simp[h1,h2]
   ·simp[h1,h2]
  ·simp[h1]
 have e2:(if Mf x roots≠0 then Mf x roots else if(Me x roots).found=true then 0 else 17)=cY x roots:=rfl;rw[e1,e2]at h;exact h
instance:DecidableEq Mv:=fun x y=>decidable_of_iff (x.path=y.path∧x.a=y.a∧x.b=y.b) ⟨fun⟨h1,h2,h3⟩=>by cases x;cases y;simp_all,fun h=>by subst h;exact⟨rfl,rfl,rfl⟩⟩
theorem qR{a b:Mv}(h:a.path=b.path∧a.a=b.a∧a.b=b.b∧True):a=b:=by cases a;cases b;simp_all
theorem qS{a b:Mv}(h:¬(a.path=b.path∧a.a=b.a∧a.b=b.b∧True)):a≠b:=fun e=>h (by subst e;exact⟨rfl,rfl,rfl,trivial⟩)
theorem o35(a b:List Mv)(ha:Cn a):PC 35 [sl EL a,sl EL b] (vb (decide (a=b))):=by
 have pT:a.length≤1073741824:=ha;refine Ps ⟨[],[],[],[],[],[],[],[],[],[],[7,8]⟩ Tryz.func35 rfl (Nz rfl) ?_;refine Yi (fun h1=>?_) (fun h1=>?_)
 ·have h1:((a.map EL).length:Int)≠((b.map EL).length:Int):=h1;exact .of_eq (show vb false=vb (decide (a=b)) by rw[Ap (fun e=>absurd (Ac (fun z=>((z.map EL).length:Int)) e) h1)])
 have h1:((a.map EL).length:Int)=((b.map EL).length:Int):=Br h1;have hl:a.length=b.length:=by have q:=h1;rw[Lm,Lm]at q;omega
 refine Xi {q:Nat // q≤a.length∧∀j (hj:j<a.length),j<q→a[j]=b[j]'(hl▸hj)} (Xi (fun q=>⟨[(0,sl EL a),(1,sl EL b),(12,vi (a.map EL).length),(13,vi q.1)],[],Ab⟩) (Xi (fun q=>a.length-q.1) (Yi (Xi ⟨0,AM _,fun _ _ h=>absurd h (Du _)⟩ ?_) ?_)))
 ·exact⟨Z4,Tv,Fh,Tv⟩
 intro⟨i,i1,i2⟩;have i1:i≤a.length:=i1;have i2:∀j (hj:j<a.length),j<i→a[j]=b[j]'(hl▸hj):=i2;refine Yi (fun h3=>?_) (fun h3=>?_)
 ·have h3:(i:Int)<((a.map EL).length:Int):=h3;have n3:=Jy h3;have bN:i<b.length:=by have q:=h3;rw[Lm]at q;omega
  refine Xi (EL a[i]) (Yi (NP n3) (Yi rfl ?_));refine Yi (Nz rfl) ?_;refine Xi (EL b[i]) (Yi (NP bN) (Yi rfl ?_));refine Yi (Nz rfl) ?_;refine Yi (fun h4=>?_) (fun h4=>?_)
  ·have h4:(a[i].path:ByteArray)=b[i].path∧(a[i].a:Int)=b[i].a∧(a[i].b:Int)=b[i].b∧True:=h4;refine Yi (by kernel_rfl) ?_;refine Xi ⟨[(0,sl EL a),(1,sl EL b),(12,vi (a.map EL).length),(13,vi i)],[],Ab⟩ (Yi ⟨Z4,Tv,Fh,Tv⟩ ?_)
   refine Yi (Ii i (by omega)) ?_;refine Xi ⟨i+1,n3,fun j hj HL=>if e:j<i then i2 j hj e else by
     have e:j=i:=by omega
     subst e;exact qR h4⟩ ?_
   exact⟨Dl a.length i (by omega),Z4,Tv,Fh,Tv⟩
  have h4:¬((a[i].path:ByteArray)=b[i].path∧(a[i].a:Int)=b[i].a∧(a[i].b:Int)=b[i].b∧True):=h4;refine Yi (by kernel_rfl) ?_;refine Xi ⟨[],[],Ab⟩ (Yi ⟨Tv,Tv,Fh,Tv⟩ ?_)
  exact .of_eq (show vb false=vb (decide (a=b)) by rw[Ap (WO (i:=i) (ha:=n3) (hb:=bN) (qS h4))])
 have h3:¬((i:Int)<((a.map EL).length:Int)):=h3;have n3:=Jx h3;exact .of_eq (show vb true=vb (decide (a=b)) by rw[Aw (Rr hl fun j hj=>i2 j hj (by have q:=h3;rw[Lm]at q;omega))])
abbrev pa:ByteArray:=⟨#[97,47,118,49]⟩
abbrev pb:ByteArray:=⟨#[98,47,118,49]⟩
abbrev kZ(m:Int):Ver:=⟨1,m,0⟩
abbrev Wm(p:ByteArray)(m:Int)(q:List Rq)(y:Bool):Rl:=⟨p,kZ m,q,mt,mt,mt,y⟩
abbrev sx:List Rq:=[⟨pb,[(1000,1000000)]⟩]
abbrev iU:List Rl:=[Wm pa 0 sx false,Wm pb 0 [] false,Wm pb 1 [] false,Wm pb 2 [] true]
abbrev dz:List Rl:=[Wm pa 0 sx false,Wm pb 2 [] false]
abbrev Vn:Wk:=⟨[],[⟨pb,kZ 1⟩],[⟨pb,kZ 2⟩]⟩
abbrev kL:List Rq:=[⟨pa,[(0,1000000)]⟩]
abbrev rG:List Sl:=[⟨pa,kZ 0⟩,⟨pb,kZ 1⟩]
abbrev rK:List Sl:=[⟨pa,kZ 0⟩,⟨pb,kZ 2⟩]
abbrev oN:List Mv:=[⟨pb,1000,2000⟩]
theorem lj:∀r∈iU,Ka r :=
 Bv.2 ⟨⟨by decide,by decide⟩,Bv.2 ⟨⟨by decide,by decide⟩,Bv.2 ⟨⟨by decide,by decide⟩,Bv.2 ⟨⟨by decide,by decide⟩,BW _⟩⟩⟩⟩
theorem mN:∀r∈dz,Ka r :=
 Bv.2 ⟨⟨by decide,by decide⟩,Bv.2 ⟨⟨by decide,by decide⟩,BW _⟩⟩
abbrev K6:AV:=.v (.slice none 0 0)
abbrev aG(p:ByteArray)(b:Int)(y:Bool):List AV:=[vs p,vi 1,vi b,vi 0,K6,vs mt,vs mt,vs mt,vb y]
abbrev oc:List AV:=[.slice .none [Ah (Wm pa 0 sx false),aG pb 0 false,aG pb 1 false,aG pb 2 true],K6]
abbrev ZE:List AV:=[K6,sl Ae Vn.exc,sl Ae Vn.pin]
theorem aT:Hm (.agg oc) (Rb iU []) :=
 have h (p:ByteArray) (b:Int) (y:Bool):MK (aG p b y) (Ah (Wm p b [] y)):=⟨.refl _,.refl _,.refl _,.refl _,.nil,.refl _,.refl _,.refl _,.refl _,trivial⟩
 Hm.agg ⟨Hm.slice ⟨.refl _,h pb 0 false,h pb 1 false,h pb 2 true,trivial⟩,.nil,trivial⟩
theorem Pd:Hm (.agg ZE) (.agg (Bg Vn)):=Hm.agg ⟨.nil,.refl _,.refl _,trivial⟩
theorem Ny:Lr Vn:=⟨by decide,by decide,by decide,BW _,Bv.2 ⟨by decide,BW _⟩,Bv.2 ⟨by decide,BW _⟩⟩
theorem PG:Lr WC:=⟨by decide,by decide,by decide,BW _,BW _,BW _⟩
theorem aJ(m:Int)(h:m=1∨m=2):NW [⟨pa,kZ 0⟩,⟨pb,kZ m⟩]:=by
 rcases h with rfl | rfl
 ·exact⟨by decide,Bv.2 ⟨by decide,Bv.2 ⟨by decide,BW _⟩⟩,.cons (Bv.2 ⟨by show Ff pa pb=true;kernel_rfl,BW _⟩) (.cons (BW _) .nil)⟩
 ·exact⟨by decide,Bv.2 ⟨by decide,Bv.2 ⟨by decide,BW _⟩⟩,.cons (Bv.2 ⟨by show Ff pa pb=true;kernel_rfl,BW _⟩) (.cons (BW _) .nil)⟩
theorem oZ:HU iU Vn=(dz,0):=by kernel_rfl
theorem qQ:Ed WC Vn=(Vn,0):=by kernel_rfl
theorem oP(m:Int):PC 33 [vi m] (.agg [vi 1,vi m,vi 0]):=by
 refine Ps ⟨[],[],[],[],[],[],[],[],[],[],[]⟩ Tryz.func33 rfl (Nz rfl) ?_;refine Yi (Nz rfl) ?_;refine Yi (Nz rfl) ?_;exact .refl _
theorem o9  : PC 9 [] (vb true):=by
 have hq:∀q∈kL,NT q:=Bv.2 ⟨⟨by decide,by decide⟩,BW _⟩;have zU (l:List Rl) (h:∀r∈l,r.reqs=sx∨r.reqs=[]):∀r∈l,Cn r.reqs:=fun r hr=>by rcases h r hr with e | e<;>rw[e]<;>decide
 have iO:∀r∈iU,Cn r.reqs:=zU _ (Bv.2 ⟨.inl rfl,Bv.2 ⟨.inr rfl,Bv.2 ⟨.inr rfl,Bv.2 ⟨.inr rfl,BW _⟩⟩⟩⟩);have Jr:=o11 iU [] Vn lj (by decide) iO Ny.few Ny.rq (by decide) (fun c hc=>by cases hc);unfold Pm at Jr;rw[oZ]at Jr;have Jr:PC 11 [Rb iU [],.agg (Bg Vn)] (.tup [Rb dz [],vi 0]):=Jr;have Wv:=ye iU [] kL lj hq;rw[show cY iU kL=0 by kernel_rfl,show hJ iU kL=rG by kernel_rfl]at Wv;have g16:=ye dz [] kL mN hq;rw[show cY dz kL=0 by kernel_rfl,show hJ dz kL=rK by kernel_rfl]at g16;have rQ:=o75 rG rK [pa,pa,pb,pb] (aJ 1 (.inl rfl)) (aJ 2 (.inr rfl)) (by decide) (by decide) (.cons _ (List.Perm.swap ..)) (by decide);rw[show L1 rG rK (B7 [pa,pa,pb,pb])=oN by kernel_rfl]at rQ;have yL:=(o34 iU dz [] [] kL Vn rG rK oN Jr Wv g16 rQ).args (args':=[.agg oc,sl AN kL,.agg ZE]) ⟨aT,.refl _,Pd,trivial⟩;have Jr:=Jr.args (args':=[.agg oc,.agg ZE]) ⟨aT,Pd,trivial⟩;have bJ:=vd WC Vn PG.few Ny.few (by decide) (by decide) PG.rq Ny.rq;rw[qQ]at bJ;have bJ:PC 17 [.agg [K6,K6,K6],.agg ZE] (.tup [.agg (Bg Vn),vi 0]):=bJ.args (args':=[.agg [K6,K6,K6],.agg ZE]) ⟨.agg ⟨.nil,.nil,.nil,trivial⟩,Pd,trivial⟩;have eY:=(qV Vn Ny.few).args (args':=[.agg ZE]) ⟨Pd,trivial⟩;rw[show BU Vn=0 by kernel_rfl]at eY;have wU:=o35 oN oN (by decide);rw[Aw rfl]at wU;have T1:=(xP Vn Vn Ny.few Ny.qs).args (args':=[.agg (Bg Vn),.agg ZE]) ⟨.refl _,Pd,trivial⟩;rw[Ty]at T1;refine Ps ⟨[],[],[],[],[],[],[],[],[],[],[2,3,4,5,6,7,8]⟩ Tryz.func9 rfl (Nz rfl) ?_;refine Xi ⟨[(1,.v (.func (.func 33) #[] #[]))],[],Ab⟩ (Yi ⟨Z1,Tv,Fh,Tv⟩ ?_)
 refine Xi ⟨[(1,.v (.func (.func 33) #[] #[])),(2,.slice (.id 14 2) [[vs ⟨#[98,47,118,49]⟩,.slice .none [[vi 1000,vi 1000000]]]])],[(14,.tok 2 1)],Ab⟩ (Yi ⟨Z2,Z1,Fh,Tv⟩ ?_)
 refine Xi .pure (Xi _ (Yi (oP 0) ?_));refine Xi .pure (Xi _ (Yi (oP 0) ?_));refine Xi .pure (Xi _ (Yi (oP 1) ?_));refine Xi .pure (Xi _ (Yi (oP 2) ?_));refine Yi (Nz rfl) ?_;refine Xi ⟨[(1,.v (.func (.func 33) #[] #[])),(3,.ref 3 0)],[(3,.cells [.slice (.id 28 9) [[vs ⟨#[97,47,118,49]⟩,vi 1,vi 0,vi 0,.slice .none [[vs ⟨#[98,47,118,49]⟩,.slice .none [[vi 1000,vi 1000000]]]],vs ⟨#[]⟩,vs ⟨#[]⟩,vs ⟨#[]⟩,vb false],[vs ⟨#[98,47,118,49]⟩,vi 1,vi 0,vi 0,.v (.slice none 0 0),vs ⟨#[]⟩,vs ⟨#[]⟩,vs ⟨#[]⟩,vb false],[vs ⟨#[98,47,118,49]⟩,vi 1,vi 1,vi 0,.v (.slice none 0 0),vs ⟨#[]⟩,vs ⟨#[]⟩,vs ⟨#[]⟩,vb false],[vs ⟨#[98,47,118,49]⟩,vi 1,vi 2,vi 0,.v (.slice none 0 0),vs ⟨#[]⟩,vs ⟨#[]⟩,vs ⟨#[]⟩,vb true]],.v (.slice none 0 0)]),(28,.tok 9 4)],Ab⟩ (Yi ⟨Z2,Z2,Fh,Tv⟩ ?_)
 refine Xi .pure (Xi _ (Yi (oP 1) ?_));refine Xi .pure (Xi _ (Yi (oP 2) ?_));refine Yi (Nz rfl) ?_;refine Xi ⟨[(3,.ref 3 0),(4,.ref 4 0)],[(3,.cells [.slice (.id 28 9) [[vs ⟨#[97,47,118,49]⟩,vi 1,vi 0,vi 0,.slice .none [[vs ⟨#[98,47,118,49]⟩,.slice .none [[vi 1000,vi 1000000]]]],vs ⟨#[]⟩,vs ⟨#[]⟩,vs ⟨#[]⟩,vb false],[vs ⟨#[98,47,118,49]⟩,vi 1,vi 0,vi 0,.v (.slice none 0 0),vs ⟨#[]⟩,vs ⟨#[]⟩,vs ⟨#[]⟩,vb false],[vs ⟨#[98,47,118,49]⟩,vi 1,vi 1,vi 0,.v (.slice none 0 0),vs ⟨#[]⟩,vs ⟨#[]⟩,vs ⟨#[]⟩,vb false],[vs ⟨#[98,47,118,49]⟩,vi 1,vi 2,vi 0,.v (.slice none 0 0),vs ⟨#[]⟩,vs ⟨#[]⟩,vs ⟨#[]⟩,vb true]],.v (.slice none 0 0)]),(4,.cells [.v (.slice none 0 0),.slice (.id 33 4) [[vs ⟨#[98,47,118,49]⟩,vi 1,vi 1,vi 0]],.slice (.id 37 4) [[vs ⟨#[98,47,118,49]⟩,vi 1,vi 2,vi 0]]]),(28,.tok 9 4),(33,.tok 4 1),(37,.tok 4 1)],Ab⟩ (Yi ⟨Z2,Z5,Fh,Tv⟩ ?_)
 refine Yi (Nz rfl) ?_;refine Yi (Nz rfl) ?_;refine Xi .pure (Xi _ (Yi Jr ?_));refine Yi (Nz rfl) ?_;refine Xi ⟨[(3,.ref 3 0),(4,.ref 4 0),(5,.ref 5 0),(6,vi 0)],[(3,.cells [.slice (.id 28 9) [[vs ⟨#[97,47,118,49]⟩,vi 1,vi 0,vi 0,.slice .none [[vs ⟨#[98,47,118,49]⟩,.slice .none [[vi 1000,vi 1000000]]]],vs ⟨#[]⟩,vs ⟨#[]⟩,vs ⟨#[]⟩,vb false],[vs ⟨#[98,47,118,49]⟩,vi 1,vi 0,vi 0,.v (.slice none 0 0),vs ⟨#[]⟩,vs ⟨#[]⟩,vs ⟨#[]⟩,vb false],[vs ⟨#[98,47,118,49]⟩,vi 1,vi 1,vi 0,.v (.slice none 0 0),vs ⟨#[]⟩,vs ⟨#[]⟩,vs ⟨#[]⟩,vb false],[vs ⟨#[98,47,118,49]⟩,vi 1,vi 2,vi 0,.v (.slice none 0 0),vs ⟨#[]⟩,vs ⟨#[]⟩,vs ⟨#[]⟩,vb true]],.v (.slice none 0 0)]),(4,.cells [.v (.slice none 0 0),.slice (.id 33 4) [[vs ⟨#[98,47,118,49]⟩,vi 1,vi 1,vi 0]],.slice (.id 37 4) [[vs ⟨#[98,47,118,49]⟩,vi 1,vi 2,vi 0]]]),(5,.cells [sl Ah dz,.slice .none []]),(28,.tok 9 4),(33,.tok 4 1),(37,.tok 4 1)],Ab⟩ (Yi ⟨Z4,Z6,Fh,Tv⟩ ?_)
 refine Yi (Nz rfl) ?_;refine Yi (Nz rfl) ?_;refine Xi .pure (Xi _ (Yi yL ?_));refine Xi ⟨[(4,.ref 4 0),(5,.ref 5 0),(6,vi 0),(7,sl EL oN),(8,vi 0)],[(4,.cells [.v (.slice none 0 0),.slice (.id 33 4) [[vs ⟨#[98,47,118,49]⟩,vi 1,vi 1,vi 0]],.slice (.id 37 4) [[vs ⟨#[98,47,118,49]⟩,vi 1,vi 2,vi 0]]]),(5,.cells [sl Ah dz,.slice .none []]),(33,.tok 4 1),(37,.tok 4 1)],Ab⟩ (Yi ⟨Z5,Z4,Fh,Tv⟩ ?_)
 refine Yi (Nz rfl) ?_;refine Xi .pure (Xi _ (Yi bJ ?_));refine Yi (Nz rfl) ?_;refine Xi ⟨[(4,.ref 4 0),(5,.ref 5 0),(6,vi 0),(7,sl EL oN),(8,vi 0),(9,.ref 9 0),(10,vi 0)],[(4,.cells [.v (.slice none 0 0),.slice (.id 33 4) [[vs ⟨#[98,47,118,49]⟩,vi 1,vi 1,vi 0]],.slice (.id 37 4) [[vs ⟨#[98,47,118,49]⟩,vi 1,vi 2,vi 0]]]),(5,.cells [sl Ah dz,.slice .none []]),(9,.cells [sl Ah Vn.rep,sl Ae Vn.exc,sl Ae Vn.pin]),(33,.tok 4 1),(37,.tok 4 1)],Ab⟩ (Yi ⟨Z7,Z5,Fh,Tv⟩ ?_)
 refine Yi (Nz rfl) ?_;refine Xi .pure (Xi _ (Yi eY ?_));refine Yi (fun _=>?_) (fun h=>absurd (by decide) h);refine Yi (fun _=>?_) (fun h=>absurd (by decide) h);refine Yi (fun h1=>?_) (fun h1=>?_)
 ·have h1:((dz.map Ah).length:Int)=(2:Int):=h1;refine Xi (Ah (Wm pb 2 [] false:Rl)) (Yi ⟨by decide,rfl⟩ (Yi rfl ?_));refine Yi (fun hf=>absurd hf (by decide)) (fun _=>?_);refine Yi (fun _=>?_) (fun h=>absurd (by decide) h);refine Xi .pure (Xi _ (Yi wU ?_));refine Yi (fun _=>?_) (fun h=>absurd (by decide) h);refine Yi (Nz rfl) ?_;refine Yi (Nz rfl) ?_;refine Xi .pure (Xi _ (Yi T1 ?_));exact .refl _
 have h1:¬(((dz.map Ah).length:Int)=(2:Int)):=h1;exact absurd rfl h1
end Go.Eng
namespace Go.Eng
theorem OD{α:Type}{p:α→Bool}{l:List α}{x:α}(h:x∈kept p l):x∈l:=(Bx.1 h).1
theorem Ta{a b:Wk}(ha:Lr a)(hb:Lr b):WD (Ed a b).1∧ZF (Ed a b).1.rep:=by
 have z:WD WC∧ZF WC.rep:=⟨PG.few,PG.qs⟩;unfold Ed;split
 ·exact z
 ·split
  ·exact z
  ·split
   ·exact z
   ·have l1:=G0 (c:=Cv) a.rep b.rep;have l2:=G0 (c:=E2) a.exc b.exc;have l3:=G0 (c:=Kp) (Fq a.pin b.exc) b.pin;have k1:(Fq (AU E2 a.exc b.exc) b.pin).length≤(AU E2 a.exc b.exc).length:=JK _ _;have k2:(Fq a.pin b.exc).length≤a.pin.length:=JK _ _;have q1:=ha.rep;have q2:=ha.exc;have q3:=ha.pin;have p1:=hb.rep;have p2:=hb.exc;have p3:=hb.pin;refine⟨⟨fun r hr=>(ET hr).elim (fun h=>(ha.rl r h).2) (fun h=>(hb.rl r h).2),?_,?_,?_,fun s hs=>(ET (OD hs)).elim (ha.excs s) (hb.excs s),fun s hs=>(ET hs).elim (fun h=>ha.pins s (OD h)) (hb.pins s)⟩,fun r hr=>(ET hr).elim (ha.qs r) (hb.qs r)⟩
    ·show(AU Cv a.rep b.rep).length≤1073741824;omega
    ·show(Fq (AU E2 a.exc b.exc) b.pin).length≤1073741824;omega
    ·show(AU Kp (Fq a.pin b.exc) b.pin).length≤1073741824;omega
/-! The empty workspace, and a workspace twice. -/
theorem WU{l:List Rl}(h:A9 l=0):l.length≤256:=by
 unfold A9 at h;split at h
 ·cases h
 ·omega
end Go.Eng
namespace Go.Proofs.YtmcbkdbfaneofaaGreatDoor.joins
open Go Go.Eng Go.Proofs Go.ChangeShapes Go.WideShapes Go.ChangeAt Go.RowKit
section
variable {H:Type}{enc:TypeId×Value→H}{w:World}
theorem all_le{d:DataW H}{l:List (DataW H)}(h:d∈l):Rows.uptoBulk d≤Rows.uptoBulkAll l:=by
 induction l with
 |nil=>cases h
 |cons x r ih =>
  simp only[Rows.uptoBulkAll]
  cases Au.1 h with
  |inl e=>subst e;omega
  |inr e=>have:=ih e;omega
theorem one_le(d:DataW H):1≤Rows.uptoBulk d:=by
 cases d with
 |lit l=>cases l<;>simp[Rows.uptoBulk]
 |nil=>simp[Rows.uptoBulk]
 |ptr d=>simp[Rows.uptoBulk]
 |slice lh spare=>simp[Rows.uptoBulk]
 |agg parts=>simp[Rows.uptoBulk]
 |iface t d=>simp[Rows.uptoBulk]
 |map entries=>simp[Rows.uptoBulk]
 |held h=>simp[Rows.uptoBulk]
theorem len_le(l:List (DataW H)):l.length≤Rows.uptoBulkAll l:=by
 induction l with
 |nil=>simp[Rows.uptoBulkAll]
 |cons x r ih=>have:=one_le x;simp only[Rows.uptoBulkAll,At];omega
theorem bulk_ok:Vr (H:=H) Rows.uptoBulk where
 slice es sp:=by
  have h1:=len_le es
  refine⟨by simp only[Rows.uptoBulk];omega,fun d hd=>?_⟩
  have:=all_le hd
  simp only[Rows.uptoBulk];omega
 agg ps d hd:=by
  have:=all_le hd
  simp only[Rows.uptoBulk];omega
 str b:=by simp only[Rows.uptoBulk];omega
theorem app_all(l r:List (DataW H)):Rows.uptoBulkAll (l++r)=Rows.uptoBulkAll l+Rows.uptoBulkAll r:=by
 induction l with
 |nil=>simp[Rows.uptoBulkAll]
 |cons x l ih=>simp only[Iy,Rows.uptoBulkAll,ih];omega
abbrev NB:Nat:=1048576
abbrev Op(enc:TypeId×Value→H)(w:World)(t:TypeId){α:Type}(e:α→List AV)(ok:α→Prop):Prop:=Ki enc Tryz.prog w Rows.uptoBulk NB t e ok
theorem oI:Op enc w 3 (fun n:Int=>[vi n]) (fun _=>True):=(cG Tryz.underlying3).to id (fun _ _=>⟨rfl,trivial⟩)
theorem oB:Op enc w 4 (fun b:Bool=>[vb b]) (fun _=>True):=Zh Tryz.underlying4
theorem oS:Op enc w 9 (fun s:ByteArray=>[vs s]) (fun s=>s.size≤NB):=We bulk_ok Tryz.underlying9
theorem oVer:Op enc w 42 LL (fun _=>True) :=
 (F9d bulk_ok Tryz.underlying42 (L:=3) (by kernel_rfl) (B2 rfl (n:=1) (by kernel_rfl) oI (B2 rfl (n:=1) (by kernel_rfl) oI (B2 rfl (n:=1) (by kernel_rfl) oI Gk)))).to
  (fun p=>(⟨p.1,p.2.1,p.2.2.1⟩:Ver)) (fun _ _=>⟨rfl,trivial⟩)
theorem oSpan:Op enc w 62 Aq (fun _=>True) :=
 (F9d bulk_ok Tryz.underlying62 (L:=2) (by kernel_rfl) (B2 rfl (n:=1) (by kernel_rfl) oI (B2 rfl (n:=1) (by kernel_rfl) oI Gk))).to
  (fun p=>(p.1,p.2.1)) (fun _ _=>⟨rfl,trivial⟩)
theorem oSet:Op enc w 64 (fun l:Bn=>[sl Aq l]) (fun l=>l.length≤NB) :=
 (Iu bulk_ok Tryz.underlying64 (m:=1) (by kernel_rfl) (fun _=>rfl) oSpan).to id (fun _ h=>⟨rfl,h.1⟩)
abbrev OkRq(q:Rq):Prop:=q.path.size≤NB∧q.set.length≤NB
theorem oRq:Op enc w 66 AN OkRq :=
 (F9d bulk_ok Tryz.underlying66 (L:=2) (by kernel_rfl) (B2 rfl (n:=1) (by kernel_rfl) oS (B2 rfl (n:=1) (by kernel_rfl) oSet Gk))).to
  (fun p=>(⟨p.1,p.2.1⟩:Rq)) (fun _ h=>⟨rfl,h.1,h.2.1⟩)
abbrev OkRqs(l:List Rq):Prop:=l.length≤NB∧∀q∈l,OkRq q
theorem oRqs:Op enc w 43 (fun l:List Rq=>[sl AN l]) OkRqs :=
 Iu bulk_ok Tryz.underlying43 (m:=1) (by kernel_rfl) (fun _=>rfl) oRq
abbrev OkRl(r:Rl):Prop:=r.path.size≤NB∧OkRqs r.reqs
theorem oRl:Op enc w 45 Ah OkRl :=
 (F9d bulk_ok Tryz.underlying45 (L:=9) (by kernel_rfl) (B2 rfl (n:=1) (by kernel_rfl) oS (B2 rfl (n:=3) (by kernel_rfl) oVer (B2 rfl (n:=1) (by kernel_rfl) oRqs
  (B2 rfl (n:=1) (by kernel_rfl) oS (B2 rfl (n:=1) (by kernel_rfl) oS (B2 rfl (n:=1) (by kernel_rfl) oS (B2 rfl (n:=1) (by kernel_rfl) oB Gk)))))))).to
  (fun p=>(⟨p.1,p.2.1,p.2.2.1,p.2.2.2.1,p.2.2.2.2.1,p.2.2.2.2.2.1,p.2.2.2.2.2.2.1⟩:Rl)) (fun _ h=>⟨rfl,h.1,h.2.2.1⟩)
theorem oRls:Op enc w 22 (fun l:List Rl=>[sl Ah l]) (fun l=>l.length≤NB∧∀r∈l,OkRl r) :=
 Iu bulk_ok Tryz.underlying22 (m:=8) (by kernel_rfl) (fun _=>rfl) oRl
theorem oIfc:Op enc w 86 (fun s:ByteArray=>[vs s,.junk,.junk,.junk,.junk]) (fun _=>True) :=
 (F9d bulk_ok Tryz.underlying86 (L:=5) (by kernel_rfl) (B2 rfl (n:=1) (by kernel_rfl) oS (B2 rfl (n:=1) (by kernel_rfl) (MC Tryz.underlying81) (B2 rfl (n:=1) (by kernel_rfl) (MC Tryz.underlying82)
  (B2 rfl (n:=1) (by kernel_rfl) (MC Tryz.underlying83) (B2 rfl (n:=1) (by kernel_rfl) (MC Tryz.underlying84) Gk)))))).to (fun p=>p.1) (fun _ _=>⟨rfl,trivial⟩)
theorem oIfs:Op enc w 23 (fun l:List ByteArray=>[sl (fun s=>[vs s,.junk,.junk,.junk,.junk]) l]) (fun l=>l.length≤NB) :=
 (Iu bulk_ok Tryz.underlying23 (m:=4) (by kernel_rfl) (fun _=>rfl) oIfc).to id (fun _ h=>⟨rfl,h.1⟩)
theorem oIx:Op enc w 25 (fun p:List Rl×List (List AV)=>[sl Ah p.1,.slice .none p.2]) (fun p=>(p.1.length≤NB∧∀r∈p.1,OkRl r)∧p.2.length≤NB∧∀c∈p.2,c.length=5) :=
 (F9d bulk_ok Tryz.underlying25 (L:=2) (by kernel_rfl) (B2 rfl (n:=1) (by kernel_rfl) oRls (B2 rfl (n:=1) (by kernel_rfl) oIfs Gk))).to
  (fun p=>(p.1,p.2.1.map (fun s=>[vs s,.junk,.junk,.junk,.junk]))) (fun _ h=>⟨rfl,h.1,by rw[Bb];exact h.2.1,fun c hc=>by obtain⟨s,_,rfl⟩:=Am.1 hc;rfl⟩)
theorem oSl:Op enc w 51 Ae (fun y=>y.path.size≤NB) :=
 (F9d bulk_ok Tryz.underlying51 (L:=4) (by kernel_rfl) (B2 rfl (n:=1) (by kernel_rfl) oS (B2 rfl (n:=3) (by kernel_rfl) oVer Gk))).to
  (fun p=>(⟨p.1,p.2.1⟩:Sl)) (fun _ h=>⟨rfl,h.1⟩)
theorem oSls:Op enc w 26 (fun l:List Sl=>[sl Ae l]) (fun l=>l.length≤NB∧∀y∈l,y.path.size≤NB) :=
 Iu bulk_ok Tryz.underlying26 (m:=3) (by kernel_rfl) (fun _=>rfl) oSl
abbrev OkW(w:Wk):Prop:=(w.rep.length≤NB∧∀r∈w.rep,OkRl r)∧(w.exc.length≤NB∧∀y∈w.exc,y.path.size≤NB)∧w.pin.length≤NB∧∀y∈w.pin,y.path.size≤NB
theorem oWk:Op enc w 28 (fun p:Wk=>Bg p) OkW :=
 (F9d bulk_ok Tryz.underlying28 (L:=3) (by kernel_rfl) (B2 rfl (n:=1) (by kernel_rfl) oRls (B2 rfl (n:=1) (by kernel_rfl) oSls (B2 rfl (n:=1) (by kernel_rfl) oSls Gk)))).to
  (fun p=>(⟨p.1,p.2.1,p.2.2.1⟩:Wk)) (fun _ h=>⟨rfl,h.1,h.2.1,h.2.2.1⟩)
theorem few_of{n:Nat}(h:n≤NB):n≤1073741824:=A5 h (by decide)
theorem lim_of{x:List Rl}{roots:List Rq}(h:x.length≤NB∧∀r∈x,OkRl r)(k:OkRqs roots):wF x roots where
 ix:=few_of h.1
 rs:=few_of k.1
 rel r hr:=⟨few_of (h.2 r hr).2.1,few_of (h.2 r hr).1,fun q hq=>⟨few_of ((h.2 r hr).2.2 q hq).2,few_of ((h.2 r hr).2.2 q hq).1⟩⟩
 rq q hq:=⟨few_of (k.2 q hq).2,few_of (k.2 q hq).1⟩
theorem limw_of{w:Wk}(h:OkW w):Lr w where
 rep:=h.1.1
 exc:=h.2.1.1
 pin:=h.2.2.1
 rl r hr:=⟨few_of (h.1.2 r hr).2.1,few_of (h.1.2 r hr).1,fun q hq=>⟨few_of ((h.1.2 r hr).2.2 q hq).2,few_of ((h.1.2 r hr).2.2 q hq).1⟩⟩
 excs s hs:=few_of (h.2.1.2 s hs)
 pins s hs:=few_of (h.2.2.2 s hs)
theorem lim0_of{x:List Rl}(h:x.length≤NB∧∀r∈x,OkRl r):wF x []:=lim_of h ⟨AM _,fun q hq=>by cases hq⟩
end
theorem ok_agg{P:Program}{W:World}{base:Nat}{t:TypeId}{v:Value}{fs:Array Field}(hu:P.underlying t=some (.struct fs))(h:Value.okWide P W .any base t v):∃cs,v=.agg cs:=by
 unfold Value.okWide at h
 rw[hu]at h
 obtain⟨cs,e,_⟩:=h
 exact⟨cs,e⟩
theorem ok_slice{P:Program}{W:World}{base:Nat}{t e:TypeId}{v:Value}(hu:P.underlying t=some (.slice e))(h:Value.okWide P W .any base t v):v.oneCell'=true:=by
 unfold Value.okWide at h
 rw[hu]at h
 unfold Cell.okWide Cell.ok at h
 rw[hu]at h
 cases v<;>first | rfl | simp at h
theorem ok_int{P:Program}{W:World}{base:Nat}{t:TypeId}{k:IntKind}{v:Value}(hu:P.underlying t=some (.int k))(h:Value.okWide P W .any base t v):v.oneCell'=true:=by
 unfold Value.okWide at h
 rw[hu]at h
 unfold Cell.okWide Cell.ok at h
 rw[hu]at h
 cases v<;>first | rfl | simp at h
theorem int_of_shape{P:Program}{w:World}{g:Nat}{t:TypeId}{k:IntKind}{zero:Array Value}(h:w.ShapedOpen P)(hg:g<P.globals.size)
  (h0:((begin P (fun _ _=>0) default).world.heap[g]?).bind Obj.row?=some (zero,t)) (hz:zero.size=1)
  (hb:P.buildable t=true) (hc:P.cellTypes P.depth t=some [t]) (hu:P.underlying t=some (.int k)):∃p,w.cell? ⟨g,0,none⟩=some (.int k p):=by
 obtain⟨cs,hh,hs,hr⟩:=h.1 g zero t hg h0
 obtain⟨ts,xH,_,FS⟩:=hr hb
 rw[hc]at xH
 cases xH
 have h1:0<cs.size:=by omega
 obtain⟨u,fH,Gw⟩:=FS 0 cs[0] (by simp[h1])
 have:u=t:=by simpa using fH.symm
 subst this
 have DE:w.cell? ⟨g,0,none⟩=some cs[0]:=by simp[World.cell?,hh,h1]
 rw[DE]
 unfold Cell.ok at Gw
 rw[hu]at Gw
 cases hv:cs[0]<;>rw[hv]at Gw<;>simp at Gw
 obtain⟨rfl,_⟩:=Gw
 exact⟨_,rfl⟩
theorem maxLen_cell{W:World}(h:W.ShapedOpen Tryz.prog):∃m,W.cell? ⟨0,0,none⟩=some (.int .i64 m) :=
 int_of_shape (t:=3) (zero:=#[.int .i64 0]) h (BG (by kernel_rfl)) (by kernel_rfl) rfl (by kernel_rfl) (by kernel_rfl) Tryz.underlying3
def Still(W W' : World):Prop:=W'.os=W.os∧W'.output=W.output∧W.heap.size≤W'.heap.size∧∀b,b<W.heap.size→W'.heap[b]?=W.heap[b]?
theorem run_true{f:Nat}{args:List AV}{vals:Array Value}{W:World}(hc:PC f args (vb true))(hM:∃m,W.cell? ⟨0,0,none⟩=some (.int .i64 m))(hs:vals.size=args.length)
  (hr:∀(i:Nat) (av:AV) (x:Value),args[i]?=some av→vals[i]?=some x→BI (iI W) W Fp av x):Calls Tryz.prog f vals W fun e W'=>e=.returned (.bool true)∧Still W W':=by
 refine(hc.2 (iI W) W vals hs (fun i av x q1 q2=>(hr i av x q1 q2).up _) (qI hM (fun _ h=>by cases h))).mono fun e W' ⟨v,r,h',g',e1,e2,e3,e4,_⟩=>?_
 subst e1
 obtain⟨rfl,rfl⟩:=e2
 obtain rfl:=e3.v_eq
 exact⟨rfl,e4.os,e4.output,e4.size,fun b hb=>e4.frame b hb (fun r h=>h.elim)⟩
theorem Still.kept{W W' : World}(h:Still W W')(xM:MemPlace→Prop):W.keptBut W' xM:=by
 refine⟨h.1,h.2.1,fun i hi=>?_⟩
 rw[h.2.2.2 i hi]
 cases hh:W.heap[i]? with
 |none=>rfl
 |some o=>cases o<;>simp
theorem Still.same{W W' : World}(h:Still W W'){p:MemPlace}(hp:p.block<W.heap.size):W.sameAt W' p:=by
 cases p with
 |cell b off =>
  show W'.cell? ⟨b,off,none⟩=W.cell? ⟨b,off,none⟩
  unfold World.cell?
  rw[h.2.2.2 b hp]
 |map b=>exact h.2.2.2 b hp
theorem kids:Kids Tryz.prog (· < Tryz.prog.types.size):=kids_rows (by kernel_rfl) (by kernel_rfl)
theorem full:∀t e,t<Tryz.prog.types.size→Tryz.prog.underlying t=some (.slice e)→0<Tryz.prog.cellsOf e:=slices_full_of Tryz.prog (by kernel_rfl)
theorem carry{H:Type}{enc:TypeId×Value→H}{W W' : World}(h:Still W W'):∀{ts:List TypeId} {vs:List Value} {ds:List (DataW H)} {ps:List MemPlace},DataW.TrodAll enc Tryz.prog W 0 (fun _=>true) true ts vs ds ps→DataW.TrodAll enc Tryz.prog W' 0 (fun _=>true) true ts vs ds ps
 | [],[],[],_,e=>e
 |t::ts,v::vs,d::ds,ps,k=>by
  have DI:=k.lt
  obtain⟨p,q,⟨n,h1⟩,h2,rfl⟩:=k
  exact⟨p,q,⟨n,DataW.trod_carry n _ _ _ h1 (fun x hx=>h.same (DI x (Bi _ hx)))⟩,carry h h2,rfl⟩
 | [],[],_::_,_,k=>k.elim
 | [],_::_,_,_,k=>k.elim
 |_::_,[],_,_,k=>k.elim
 |_::_,_::_,[],_,k=>k.elim
theorem post_true{H:Type}{enc:TypeId×Value→H}{W W' : World}{f:Func}{s:ChangeSpec}{args:Array Value}{ds:List (DataW H)}{before:List MemPlace}(Jc:Still W W')(hv:s.vars=[])
  (hW:DataW.Whole enc Tryz.prog f.params.toList s.vars false W args.toList ds [] before) (hr:f.resultTypes=#[4]) (hT:∀t∈f.params.toList,t<Tryz.prog.types.size) (hs:s.fn H ds={ results:=[.lit (.bool true)],args:=ds }) :
  s.post enc Tryz.prog f false true false false W args (.bool true) W':=by
 have w9:=hW
 obtain⟨p,q,hA,hV,rfl,hz,_⟩:=hW
 rw[hv]at hV
 have hq:q=[]:=hV
 subst hq
 have DI:=w9.lt
 have oJ:s.fn H (ds++[])={ results:=[.lit (.bool true)],args:=ds }:=by rw[B3];exact hs
 refine⟨ds,[],p++[],[],p,[],w9,?_,?_,?_,Jc.kept _,fun h=>by cases h⟩
 ·rw[oJ,hr]
  exact⟨[],[],⟨1,by rw[show(Value.bool true).cells.toList=[.bool true]from rfl,DataW.trod_step];unfold DataW.trodStep;rw[Tryz.underlying4]⟩,rfl,rfl⟩
 ·rw[oJ]
  exact(carry Jc hA).respare kids full hT (fun x hx=>by simpa using DI x (Bi _ hx))
 ·rw[oJ,hv];rfl
end Go.Proofs.YtmcbkdbfaneofaaGreatDoor.joins
namespace Go.Proofs.YtmcbkdbfaneofaaGreatDoor.joins
open Go Go.Eng Go.Proofs Go.ChangeShapes Go.WideShapes Go.ChangeAt Go.RowKit
theorem own:ownKnob Tryz.prog.godebug=none:=by kernel_rfl
def flatD:Nat→DataW Unit→List Value
 |0,_=>[]
 |n+1,.agg l=>l.flatMap (flatD n)
 |_+1,.lit (.int k i)=>[.int k i]
 |_+1,_=>[]
def layIn(d:DataW Unit):Obj→Obj
 |.cells _ t frozen=>.cells (flatD 4 d).toArray t frozen
 |o=>o
noncomputable def laidWorld(os:Os):World :=
 { World.holding Tryz.prog os ⟨#[],#[],[]⟩with heap:=((World.holding Tryz.prog os ⟨#[],#[],[]⟩).heap.modify 1 (layIn Rows.laid_unicode_utf8_first)).modify 2 (layIn Rows.laid_unicode_utf8_acceptRanges) }
abbrev nilV:Value:=.slice none 0 0
theorem arr1{args:Array Value}{a:Value}(h:args.toList=[a]):args=#[a]:=by
 cases args;simp_all
theorem arr2{args:Array Value}{a b:Value}(h:args.toList=[a,b]):args=#[a,b]:=by
 cases args;simp_all
theorem arr3{args:Array Value}{a b c:Value}(h:args.toList=[a,b,c]):args=#[a,b,c]:=by
 cases args;simp_all
theorem arr4{args:Array Value}{a b c d:Value}(h:args.toList=[a,b,c,d]):args=#[a,b,c,d]:=by
 cases args;simp_all
theorem arr5{args:Array Value}{a b c d e:Value}(h:args.toList=[a,b,c,d,e]):args=#[a,b,c,d,e]:=by
 cases args;simp_all
theorem looksOff:false=Tryz.pinned.checked.prog.looks []:=by kernel_rfl
theorem noStand:∀t∈([25,28,43]:List Nat),Tryz.pinned.checked.prog.wantsStandIn t=false:=by
 intro t ht
 simp only[Au,Lt,or_false]at ht
 rcases ht with rfl | rfl | rfl<;>exact(show Tryz.prog.wantsStandIn _=false by kernel_rfl)
end Go.Proofs.YtmcbkdbfaneofaaGreatDoor.joins
namespace Go.Eng
theorem N7:∀{l:List Rl} {b:Option Rl},Dw b l=0→∀r∈l,Dy r=0
 | [],_,_,r,hr=>by cases hr
 |x::l,b,h,r,hr=>by
  unfold Dw at h;split at h
  ·rename_i h1;exact absurd h h1
  ·rename_i h1;have h1:Dy x=0:=BL.1 h1;have go:Dw (some x) l=0:=by
    cases b with
    |none=>exact h
    |some b =>
     dsimp only at h;split at h
     ·cases h
     ·split at h
      ·cases h
      ·exact h
   rcases Au.1 hr with rfl | hr
   ·exact h1
   ·exact N7 go r hr
theorem N6:∀{l:List Rl} {b:Option Rl},(∀r∈l,Dy r=0)→l.Pairwise XI→(∀c,b=some c→∀r∈l,XI c r)→Dw b l=0
 | [],_,_,_,_=>rfl
 |x::l,b,h,hp,hb=>by
  obtain⟨p1,p2⟩:=BX.1 hp;have ih:Dw (some x) l=0:=N6 (fun r hr=>h r (Af _ hr)) p2 (fun c e r hr=>by cases e;exact p1 r hr);unfold Dw;rw[Al (fun q=>q (h x (Aa ..)))];cases b with
  |none=>exact ih
  |some c =>
   have hl:=hb c rfl x (Aa ..);dsimp only;rw[Al (fun q=>Jf hl q),Al (fun q=>by
    have:E2 (F6 c) (F6 x)<0:=RU.2 hl
    have q:0<E2 (F6 c) (F6 x):=q;omega)]
   exact ih
theorem LF{l:List Rl}:A9 l=0↔l.length≤256∧(∀r∈l,Dy r=0)∧l.Pairwise XI:=by
 constructor
 ·intro h;refine⟨WU h,?_,(Cz h).2⟩;unfold A9 at h;split at h
  ·cases h
  ·exact N7 h
 ·rintro⟨h1,h2,h3⟩
  unfold A9;rw[Al (by omega)];exact N6 h2 h3 (fun c e=>by cases e)
theorem Rj{c:Sl→Sl→Int}{l:List Sl}(h:GF c l=true):∀s∈l,QK s=true:=fun s hs=>by
 obtain⟨i,hi,rfl⟩:=Dz.1 hs;exact(Hz.1 h i hi).1
theorem ab{β:Type}{c:Sl→Sl→Int}{R:Sl→Sl→Prop}{key:Sl→β}(hc:OC c R key){l:List Sl}(h1:∀s∈l,QK s=true)(h2:l.Pairwise R):GF c l=true :=
 Hz.2 fun i hi=>⟨h1 _ (Ao hi),fun h0=>(hc.lt _ _).2 ((Bc.1 h2) (i-1) i (by omega) hi (by omega))⟩
theorem bq{w:Wk}(h1:A9 w.rep=0)(h2:GF E2 w.exc=true)(h3:GF Kp w.pin=true)(h4:∀s∈w.pin,s∉w.exc):BU w=0:=by
 rw[VJ h1 h2 h3,Al];rw[A7]
 rintro⟨s,hs,e⟩
 exact h4 s hs (BG e)
/-! What is merged. -/
section
variable {a b:Wk}
theorem PA(ja:BU a=0)(jb:BU b=0)(r:Rl):r∈AU Cv a.rep b.rep↔r∈b.rep∨(r∈a.rep∧∀s∈b.rep,F6 r≠F6 s) :=
 Jh xX (Cz (D1 ja).1).2 (Cz (D1 jb).1).2 r
theorem XA(ja:BU a=0)(jb:BU b=0)(h3:¬256<((AU Cv a.rep b.rep).length:Int)) :
  BU ⟨AU Cv a.rep b.rep,Fq (AU E2 a.exc b.exc) b.pin,AU Kp (Fq a.pin b.exc) b.pin⟩=0:=by
 have ia:=LF.1 (D1 ja).1;have ib:=LF.1 (D1 jb).1;refine bq (LF.2 ⟨by show(AU Cv a.rep b.rep).length≤256;omega,fun r hr=>(ET hr).elim (ia.2.1 r) (ib.2.1 r),NA xX ia.2.2 ib.2.2⟩) ?_ ?_ ?_
 ·exact ab q8 (fun s hs=>(ET (OD hs)).elim (Rj (D1 ja).2.1 s) (Rj (D1 jb).2.1 s)) (jv ja jb)
 ·exact ab oQ (fun s hs=>(ET hs).elim (fun h=>Rj (D1 ja).2.2.1 s (OD h)) (Rj (D1 jb).2.2.1 s)) (NA oQ (SV ja) (Ig jb))
 ·intro s hs he;have he:=V9.1 he;rcases(Jh oQ (SV ja) (Ig jb) s).1 hs with h | ⟨h,hn⟩
  ·exact he.2 h
  ·have h:=V9.1 h;rcases(Jh q8 (FY ja) (FY jb) s).1 he.1 with q | ⟨q,_⟩
   ·exact h.2 q
   ·exact(D1 ja).2.2.2 s h.1 q
theorem Y3(ja:BU a=0)(jb:BU b=0){r:Rl}(h:r∈a.rep):∃r'∈AU Cv a.rep b.rep,F6 r'=F6 r:=by
 by_cases q:∀s∈b.rep,F6 r≠F6 s
 ·exact⟨r,(PA ja jb r).2 (.inr ⟨h,q⟩),rfl⟩
 ·obtain⟨s,hs⟩:=Classical.not_forall.1 q;obtain⟨h1,h2⟩:=Classical.not_imp.1 hs;exact⟨s,(PA ja jb s).2 (.inl h1),(BL.1 h2).symm⟩
theorem bY(ja:BU a=0)(jb:BU b=0){s:Sl}(h:s∈b.exc):s∈Fq (AU E2 a.exc b.exc) b.pin:=(jw ja jb s).2 (Bi _ h)
theorem bZ(ja:BU a=0)(jb:BU b=0){s:Sl}(h:s∈b.pin):s∈AU Kp (Fq a.pin b.exc) b.pin:=(kF ja jb s).2 (Bi _ h)
theorem Zc(h:(Ed a b).2≠0):(Ed a b).1=WC:=by
 unfold Ed at h⊢;split
 ·rfl
 ·split
  ·rfl
  ·split
   ·rfl
   ·rename_i h1 h2 h3;rw[Al h1,Al h2,Al h3]at h;exact absurd rfl h
theorem XP(h:(Ed a b).2=0):BU a=0∧BU b=0∧¬256<((AU Cv a.rep b.rep).length:Int)∧(Ed a b).1=⟨AU Cv a.rep b.rep,Fq (AU E2 a.exc b.exc) b.pin,AU Kp (Fq a.pin b.exc) b.pin⟩:=by
 unfold Ed at h⊢;split at h
 ·rename_i h1;exact absurd h h1
 ·rename_i h1;split at h
  ·rename_i h2;exact absurd h h2
  ·rename_i h2;split at h
   ·cases h
   ·rename_i h3;refine⟨BL.1 h1,BL.1 h2,h3,?_⟩;rw[Al h1,Al h2,Al h3]
end
/-! What a workspace makes of an index. -/
/-! What the solver selects. -/
end Go.Eng
namespace Go.Eng
open Go.Proofs
end Go.Eng
