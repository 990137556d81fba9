/- Lemmas for the claims of this seat, without a condition: part 34 (S19, S20, O18, O19, J1, J2, O20). -/
import Derived.Test.YtmcbkdbfaneofaaGreatDoorA33
import Derived.Test.YtmcbkdbfaneofaaGreatDoorCards
import Derived.Test.YtmcbkdbfaneofaaGreatDoorTie
import Derived.ProofKit
import Derived.OpenShut
import Derived.Deep.DeepHandedRow
import Derived.Lib.LaidTab
set_option maxHeartbeats 4000000
namespace Go.Eng
open Go.Proofs
abbrev mv:Sj:=⟨[2],[],[],[],[],[],[],[(50,(9,3,95,3))],[(44,0)],[(100016,1009)],[3,4,5,6,7,8,9,10,11,14,15,16]⟩
abbrev an0:An:=⟨false,[],[],[]⟩
def MP(x:List Rl)(roots:List Rq):An:=if G6 x roots=true∧(F4 x roots).ss.full=false then qR x roots else an0
def MQ(x:List Rl)(roots:List Rq):Int:=if G6 x roots=true then if(F4 x roots).ss.full=true then 7 else 0 else 1
abbrev jR(x:List Rl)(roots:List Rq):AV:=.tup [.agg (Tj (MP x roots)),vi (MQ x roots)]
theorem Hm.an0{v:AV}:Hm (.tup [.agg [vb false,.v (.slice none 0 0),.v (.slice none 0 0),.v (.slice none 0 0)],v]) (.tup [.agg (Tj an0),v]) :=
 Hm.tup ⟨Hm.agg ⟨.refl _,.nil,.nil,.nil,trivial⟩,.refl _,trivial⟩
theorem Uz{x:List Rl}{roots:List Rq}(hx:∀r∈x,J4 r)(hr:∀q∈roots,NU q)(h0:A9 x=0)(h1:By roots=0){L:List ByteArray}(hl:L.Perm (AT (yR x) [])){o:Ks}(ho:F4 x roots=o) :
  Bm Tryz.prog 97 [.ref 1000 0] (Aq (Js roots (mC x) (L.map (kA x)) uW [] []) Aa) (Zu roots (mC x) (L.map (kA x)) o):=by
 rw[←ho];exact yS (oO hx hr h0 h1 hl) (x.length+1) (.nil x) (Ja.nil roots) ⟨⟨rfl,AG _⟩,Fu⟩ rfl (Nat.lt_succ_of_le (BB _ _)) rfl
theorem kd{x:List Rl}{roots:List Rq}(h:G6 x roots=true):A9 x=0∧By roots=0:=by
 unfold G6 at h;rw[Ah,AB,AB]at h;exact h
theorem mJ(x:List Rl)(ifs:List (List AV))(roots:List Rq)(hx:∀r∈x,J4 r)(hr:∀q∈roots,NU q)(hv:G6 x roots=false):PC 72 [RF x ifs,sl AN roots] (.tup [.agg (Tj an0),vi 1]):=by
 have TG:=uS x ifs roots hx hr;rw[hv]at TG;refine Ps mv Tryz.func72 rfl (Nz rfl) ?_;refine Yi ?_ ?_
 ·exact Nz rfl
 refine Xi .pure (Xi _ (Yi TG ?_));refine Yi ?_ ?_
 ·exact Nz rfl
 refine Yi ?_ ?_
 ·exact Nz rfl
 exact Hm.an0
theorem jK(x:List Rl)(ifs:List (List AV))(roots:List Rq)(hx:∀r∈x,J4 r)(hr:∀q∈roots,NU q)(hv:G6 x roots=true)(h0:A9 x=0)(h1:By roots=0)(k:Nat)(infs:List Nf)(drv:List (List Tm))(dec:List Cd)(st:List (List Sk))(ho:F4 x roots=⟨k,false,⟨infs,drv,true⟩,dec,st⟩):PC 72 [RF x ifs,sl AN roots] (.tup [.agg (Tj an0),vi 7]):=by
 have TG:=uS x ifs roots hx hr;rw[hv]at TG;refine Ps mv Tryz.func72 rfl (Nz rfl) ?_;refine Yi ?_ ?_
 ·exact Nz rfl
 refine Xi .pure (Xi _ (Yi TG ?_));refine Xi ⟨[(1,sl AN roots),(2,.ref 2 0),(4,.ref 4 0)],[(2,.ro (Ic x ifs)),(4,.cells [vb false,.v (.slice none 0 0),.v (.slice none 0 0),.v (.slice none 0 0)])],Aa⟩ (Yi ⟨Z3,Z2,Fh,Tv⟩ ?_)
 refine Yi ?_ ?_
 ·exact Nz rfl
 refine Xi (.gen [] 5) (Yi rfl ((yO x ifs roots hx h0).imp ?_));intro v g q;refine BN q (fun L q=>?_);have q1:=q.2.1;have q2:=q.2.2;have qp:=q.1;subst q1;subst q2;refine Xi ⟨[(4,.ref 4 0),(6,.ref 11900 0)],[(4,.cells [vb false,.v (.slice none 0 0),.v (.slice none 0 0),.v (.slice none 0 0)]),(11900,.cells [sl AN roots,.cmap Dm (mC x),.cmap Dm (L.map (kA x)),.slice (.id 11901 6) [],.slice (.id 11902 1) [],.mref 11903,vb false,.slice .none [],.slice .none [],.msl 11904 0]),(11901,.tok 6 0),(11902,.tok 1 0),(11903,.map D3 []),(11904,.arr 1 [])],Aa⟩ (Yi ⟨Z2,Z6,Fh,Tv⟩ ?_)
 refine Xi (.gen [(11900,1000),(11901,1001),(11902,1002),(11903,1003),(11904,1004)] 1) (Yi rfl ((Uz hx hr h0 h1 qp ho).imp ?_));intro v g q;have q1:=q.1;have q2:=q.2;subst q1;subst q2;refine Xi ⟨[(4,.ref 4 0),(6,.ref 11900 0),(7,vi (k:Nat)),(8,vb false)],[(4,.cells [vb false,.v (.slice none 0 0),.v (.slice none 0 0),.v (.slice none 0 0)]),(11900,.cells [sl AN roots,.cmap Dm (mC x),.cmap Dm (L.map (kA x)),.slice (.id 11901 6) (infs.map B7),.slice (.id 11902 1) (drv.map Cm),.mref 11903,vb true,sl AI dec,sl Ae (AO dec),.msl 12200 st.length]),(11901,.tok 6 infs.length),(11902,.tok 1 drv.length),(11903,.map D3 (D5 0 infs)),(12200,.arr 1 (st.map AX))],Aa⟩ (Yi ⟨Z4,Z6,Fh,Tv⟩ ?_)
 refine Yi (fun _=>?_) (fun h=>by cases h);refine Xi ⟨[(4,.ref 4 0)],[(4,.cells [vb false,.v (.slice none 0 0),.v (.slice none 0 0),.v (.slice none 0 0)])],Aa⟩ (Yi ⟨Z1,Z1,Fh,Tv⟩ ?_)
 refine Yi ?_ ?_
 ·exact Nz rfl
 refine Yi ?_ ?_
 ·exact Nz rfl
 exact Hm.an0
theorem pY(x:List Rl)(ifs:List (List AV))(roots:List Rq)(hx:∀r∈x,J4 r)(hr:∀q∈roots,NU q)(hv:G6 x roots=true)(h0:A9 x=0)(h1:By roots=0)(k:Nat)(infs:List Nf)(drv:List (List Tm))(dec:List Cd)(st:List (List Sk))(ho:F4 x roots=⟨k,false,⟨infs,drv,false⟩,dec,st⟩)(hk:k<infs.length)(hl:infs.length≤65536):PC 72 [RF x ifs,sl AN roots] (.tup [.agg (Tj ⟨false,[],infs.take (k+1),[]⟩),vi 0]):=by
 have TG:=uS x ifs roots hx hr;rw[hv]at TG;refine Ps mv Tryz.func72 rfl (Nz rfl) ?_;refine Yi ?_ ?_
 ·exact Nz rfl
 refine Xi .pure (Xi _ (Yi TG ?_));refine Xi ⟨[(1,sl AN roots),(2,.ref 2 0),(4,.ref 4 0)],[(2,.ro (Ic x ifs)),(4,.cells [vb false,.v (.slice none 0 0),.v (.slice none 0 0),.v (.slice none 0 0)])],Aa⟩ (Yi ⟨Z3,Z2,Fh,Tv⟩ ?_)
 refine Yi ?_ ?_
 ·exact Nz rfl
 refine Xi (.gen [] 5) (Yi rfl ((yO x ifs roots hx h0).imp ?_));intro v g q;refine BN q (fun L q=>?_);have q1:=q.2.1;have q2:=q.2.2;have qp:=q.1;subst q1;subst q2;refine Xi ⟨[(4,.ref 4 0),(6,.ref 11900 0)],[(4,.cells [vb false,.v (.slice none 0 0),.v (.slice none 0 0),.v (.slice none 0 0)]),(11900,.cells [sl AN roots,.cmap Dm (mC x),.cmap Dm (L.map (kA x)),.slice (.id 11901 6) [],.slice (.id 11902 1) [],.mref 11903,vb false,.slice .none [],.slice .none [],.msl 11904 0]),(11901,.tok 6 0),(11902,.tok 1 0),(11903,.map D3 []),(11904,.arr 1 [])],Aa⟩ (Yi ⟨Z2,Z6,Fh,Tv⟩ ?_)
 refine Xi (.gen [(11900,1000),(11901,1001),(11902,1002),(11903,1003),(11904,1004)] 1) (Yi rfl ((Uz hx hr h0 h1 qp ho).imp ?_));intro v g q;have q1:=q.1;have q2:=q.2;subst q1;subst q2;refine Xi ⟨[(4,.ref 4 0),(6,.ref 11900 0),(7,vi (k:Nat)),(8,vb false)],[(4,.cells [vb false,.v (.slice none 0 0),.v (.slice none 0 0),.v (.slice none 0 0)]),(11900,.cells [sl AN roots,.cmap Dm (mC x),.cmap Dm (L.map (kA x)),.slice (.id 11901 6) (infs.map B7),.slice (.id 11902 1) (drv.map Cm),.mref 11903,vb false,sl AI dec,sl Ae (AO dec),.msl 12200 st.length]),(11901,.tok 6 infs.length),(11902,.tok 1 drv.length),(11903,.map D3 (D5 0 infs)),(12200,.arr 1 (st.map AX))],Aa⟩ (Yi ⟨Z4,Z6,Fh,Tv⟩ ?_)
 refine Yi (fun h=>by cases h) (fun _=>?_);refine Xi ⟨[(4,.ref 4 0),(6,.ref 11900 0),(7,vi (k:Nat)),(8,vb false)],[(4,.cells [vb false,.v (.slice none 0 0),.v (.slice none 0 0),.v (.slice none 0 0)]),(11900,.cells [sl AN roots,.cmap Dm (mC x),.cmap Dm (L.map (kA x)),.slice (.id 11901 6) (infs.map B7),.slice (.id 11902 1) (drv.map Cm),.mref 11903,vb false,sl AI dec,sl Ae (AO dec),.msl 12200 st.length]),(11901,.tok 6 infs.length),(11902,.tok 1 drv.length),(11903,.map D3 (D5 0 infs)),(12200,.arr 1 (st.map AX))],Aa⟩ (Yi ⟨Z4,Z6,Fh,Tv⟩ ?_)
 refine Xi ⟨[(4,.ref 4 0),(6,.ref 11900 0),(7,vi (k:Nat))],[(4,.cells [vb false,.v (.slice none 0 0),.v (.slice none 0 0),.v (.slice none 0 0)]),(11900,.cells [sl AN roots,.cmap Dm (mC x),.cmap Dm (L.map (kA x)),.slice (.id 11901 6) (infs.map B7),.slice (.id 11902 1) (drv.map Cm),.mref 11903,vb false,sl AI dec,sl Ae (AO dec),.msl 12200 st.length]),(11901,.tok 6 infs.length),(11902,.tok 1 drv.length),(11903,.map D3 (D5 0 infs)),(12200,.arr 1 (st.map AX))],Aa⟩ (Yi ⟨Z3,Z6,Fh,Tv⟩ ?_)
 refine Yi (Ii k (by omega)) ?_;have el:(infs.map B7).length=infs.length:=Lm ..;refine Yi ⟨AZ _,by show(0:Int)≤(k:Int)+1;omega,by show(k:Int)+1≤((infs.map B7).length:Int);rw[el];omega⟩ ?_;refine Yi (fun cs hcs=>by obtain⟨i,_,rfl⟩:=Ar.1 hcs;rfl) ?_;refine Yi ?_ ?_
 ·exact Nz rfl
 refine Yi ?_ ?_
 ·exact Nz rfl
 have et:((infs.map B7).take ((k:Int)+1).toNat).drop (0:Int).toNat=(infs.take (k+1)).map B7:=by
  rw[show((k:Int)+1).toNat=k+1 by omega];simp
 exact Hm.tup ⟨Hm.agg ⟨.refl _,.nil,.of_eq (show AV.slice .none (((infs.map B7).take ((k:Int)+1).toNat).drop (0:Int).toNat)=_ by rw[et]),.nil,trivial⟩,.refl _,trivial⟩
theorem VM(y:Sl):∀l:List Sl,(U3 y l).Perm (y::l)
 | []=>.refl _
 |z::l=>by
  unfold U3;split
  ·exact .refl _
  ·exact((VM y l).cons z).trans (List.Perm.swap y z l)
theorem UA:∀l:List Sl,(Gm l).Perm l
 | []=>.refl _
 |y::l=>(VM y _).trans ((UA l).cons y)
theorem X8{b:Nat}:∀{st:List (List Sk)},(∀s∈st,s.length≤b)→st.flatten.length≤b*st.length
 | [],_=>by simp
 |s::st,h=>by
  rw[BJ,Ad,Au,Nat.mul_succ]
  have:=h s (Ac ..)
  have:=X8 (st:=st) fun t ht=>h t (Af _ ht)
  omega
theorem jP{st:List (List Sk)}(h:st.length≤256)(hs:∀s∈st,s.length≤256)(i:Nat):((st.take i).flatten).length≤65536:=by
 have h1:=X8 (b:=256) (st:=st.take i) fun s Xx=>hs s (EG Xx)
 have:(st.take i).length≤256:=by rw[AC];omega
 omega
theorem mK(x:List Rl)(ifs:List (List AV))(roots:List Rq)(hx:∀r∈x,J4 r)(hr:∀q∈roots,NU q)(hv:G6 x roots=true)(h0:A9 x=0)(h1:By roots=0)(k:Nat)(infs:List Nf)(drv:List (List Tm))(dec:List Cd)(st:List (List Sk))(ho:F4 x roots=⟨k,true,⟨infs,drv,false⟩,dec,st⟩)(hd:dec.length≤256)(hn:((AO dec).map (·.path)).Nodup)(JM:st.length≤256)(zZ:∀s∈st,s.length≤256):PC 72 [RF x ifs,sl AN roots] (.tup [.agg (Tj ⟨true,Gm (AO dec),infs,st.flatten⟩),vi 0]):=by
 have TG:=uS x ifs roots hx hr;rw[hv]at TG;refine Ps mv Tryz.func72 rfl (Nz rfl) ?_;refine Yi ?_ ?_
 ·exact Nz rfl
 refine Xi .pure (Xi _ (Yi TG ?_));refine Xi ⟨[(1,sl AN roots),(2,.ref 2 0),(4,.ref 4 0)],[(2,.ro (Ic x ifs)),(4,.cells [vb false,.v (.slice none 0 0),.v (.slice none 0 0),.v (.slice none 0 0)])],Aa⟩ (Yi ⟨Z3,Z2,Fh,Tv⟩ ?_)
 refine Yi ?_ ?_
 ·exact Nz rfl
 refine Xi (.gen [] 5) (Yi rfl ((yO x ifs roots hx h0).imp ?_));intro v g q;refine BN q (fun L q=>?_);have q1:=q.2.1;have q2:=q.2.2;have qp:=q.1;subst q1;subst q2;refine Xi ⟨[(4,.ref 4 0),(6,.ref 11900 0)],[(4,.cells [vb false,.v (.slice none 0 0),.v (.slice none 0 0),.v (.slice none 0 0)]),(11900,.cells [sl AN roots,.cmap Dm (mC x),.cmap Dm (L.map (kA x)),.slice (.id 11901 6) [],.slice (.id 11902 1) [],.mref 11903,vb false,.slice .none [],.slice .none [],.msl 11904 0]),(11901,.tok 6 0),(11902,.tok 1 0),(11903,.map D3 []),(11904,.arr 1 [])],Aa⟩ (Yi ⟨Z2,Z6,Fh,Tv⟩ ?_)
 refine Xi (.gen [(11900,1000),(11901,1001),(11902,1002),(11903,1003),(11904,1004)] 1) (Yi rfl ((Uz hx hr h0 h1 qp ho).imp ?_));intro v g q;have q1:=q.1;have q2:=q.2;subst q1;subst q2;refine Xi ⟨[(4,.ref 4 0),(6,.ref 11900 0),(7,vi (k:Nat)),(8,vb true)],[(4,.cells [vb false,.v (.slice none 0 0),.v (.slice none 0 0),.v (.slice none 0 0)]),(11900,.cells [sl AN roots,.cmap Dm (mC x),.cmap Dm (L.map (kA x)),.slice (.id 11901 6) (infs.map B7),.slice (.id 11902 1) (drv.map Cm),.mref 11903,vb false,sl AI dec,sl Ae (AO dec),.msl 12200 st.length]),(11901,.tok 6 infs.length),(11902,.tok 1 drv.length),(11903,.map D3 (D5 0 infs)),(12200,.arr 1 (st.map AX))],Aa⟩ (Yi ⟨Z4,Z6,Fh,Tv⟩ ?_)
 refine Yi (fun h=>by cases h) (fun _=>?_);refine Xi ⟨[(4,.ref 4 0),(6,.ref 11900 0),(8,vb true)],[(4,.cells [vb false,.v (.slice none 0 0),.v (.slice none 0 0),.v (.slice none 0 0)]),(11900,.cells [sl AN roots,.cmap Dm (mC x),.cmap Dm (L.map (kA x)),.slice (.id 11901 6) (infs.map B7),.slice (.id 11902 1) (drv.map Cm),.mref 11903,vb false,sl AI dec,sl Ae (AO dec),.msl 12200 st.length]),(11901,.tok 6 infs.length),(11902,.tok 1 drv.length),(11903,.map D3 (D5 0 infs)),(12200,.arr 1 (st.map AX))],Aa⟩ (Yi ⟨Z3,Z6,Fh,Tv⟩ ?_)
 refine Xi ⟨[(4,.ref 4 0),(6,.ref 11900 0)],[(4,.cells [vb false,.v (.slice none 0 0),.v (.slice none 0 0),.v (.slice none 0 0)]),(11900,.cells [sl AN roots,.cmap Dm (mC x),.cmap Dm (L.map (kA x)),.slice (.id 11901 6) (infs.map B7),.slice (.id 11902 1) (drv.map Cm),.mref 11903,vb false,sl AI dec,sl Ae (AO dec),.msl 12200 st.length]),(11901,.tok 6 infs.length),(11902,.tok 1 drv.length),(11903,.map D3 (D5 0 infs)),(12200,.arr 1 (st.map AX))],Aa⟩ (Yi ⟨Z2,Z6,Fh,Tv⟩ ?_)
 have qw:(AO dec).length≤256:=by rw[Lm];exact hd
 have bA:Co (AO dec):=A3 qw (by decide);refine Xi (AO dec).length (Xi 4 (Xi ((AO dec).map Ae) (Yi rfl (Yi (tT (AO dec) bA) ?_))));refine Yi ?_ ?_
 ·exact Nz rfl
 refine Yi (by kernel_rfl) ?_;refine Xi ⟨[(4,.ref 4 0),(6,.ref 11900 0),(9,.ref 9 0)],[(4,.cells [vb false,.v (.slice none 0 0),.v (.slice none 0 0),.v (.slice none 0 0)]),(9,.cells [vb true,.msl 14400 (AO dec).length,.slice (.id 11901 6) (infs.map B7),.v (.slice none 0 0)]),(11900,.cells [sl AN roots,.cmap Dm (mC x),.cmap Dm (L.map (kA x)),.slice (.id 11901 6) (infs.map B7),.slice (.id 11902 1) (drv.map Cm),.mref 11903,vb false,sl AI dec,sl Ae (AO dec),.msl 12200 st.length]),(11901,.tok 6 infs.length),(11902,.tok 1 drv.length),(11903,.map D3 (D5 0 infs)),(12200,.arr 1 (st.map AX)),(14400,.arr 4 ((AO dec).map Ae))],Aa⟩ (Yi ⟨Z3,Z8,Fh,Tv⟩ ?_)
 refine Xi (.gen [(14400,1000)] 0) (Yi rfl ((s47 99 Tryz.closure99 (enters_of Tryz.func99 (by kernel_rfl) rfl) (AO dec) bA hn).imp ?_));intro v g q;have q1:=q.1;have q2:=q.2;subst q1;subst q2;refine Xi ⟨[(4,.ref 4 0),(6,.ref 11900 0),(9,.ref 9 0)],[(4,.cells [vb false,.v (.slice none 0 0),.v (.slice none 0 0),.v (.slice none 0 0)]),(9,.cells [vb true,.msl 14400 (AO dec).length,.slice (.id 11901 6) (infs.map B7),.slice (.id 95 3) []]),(95,.tok 3 0),(11900,.cells [sl AN roots,.cmap Dm (mC x),.cmap Dm (L.map (kA x)),.slice (.id 11901 6) (infs.map B7),.slice (.id 11902 1) (drv.map Cm),.mref 11903,vb false,sl AI dec,sl Ae (AO dec),.msl 12200 st.length]),(11901,.tok 6 infs.length),(11902,.tok 1 drv.length),(11903,.map D3 (D5 0 infs)),(12200,.arr 1 (st.map AX)),(14400,.arr 4 ((Gm (AO dec)).map Ae))],Aa⟩ (Yi ⟨Z3,Z9,Fh,Tv⟩ ?_)
 refine Xi {i:Nat // i≤st.length} (Xi (fun i=>⟨[(4,.ref 4 0),(6,.ref 11900 0),(9,.ref 9 0),(56,.msl 12200 st.length),(57,vi (st.length:Nat)),(58,vi i.1)],[(4,.cells [vb false,.v (.slice none 0 0),.v (.slice none 0 0),.v (.slice none 0 0)]),(9,.cells [vb true,.msl 14400 (AO dec).length,.slice (.id 11901 6) (infs.map B7),.slice (.id 95 3) ((st.take i.1).flatten.map B3)]),(95,.tok 3 ((st.take i.1).flatten.map B3).length),(11900,.cells [sl AN roots,.cmap Dm (mC x),.cmap Dm (L.map (kA x)),.slice (.id 11901 6) (infs.map B7),.slice (.id 11902 1) (drv.map Cm),.mref 11903,vb false,sl AI dec,sl Ae (AO dec),.msl 12200 st.length]),(11901,.tok 6 infs.length),(11902,.tok 1 drv.length),(11903,.map D3 (D5 0 infs)),(12200,.arr 1 (st.map AX)),(14400,.arr 4 ((Gm (AO dec)).map Ae))],Aa⟩) (Xi (fun i=>st.length-i.1) (Yi (Xi ⟨0,AG _⟩ ?_) ?_)))
 ·exact⟨Z6,Z9,Fh,Tv⟩
 intro⟨i,i1⟩;have i1:i≤st.length:=i1;refine Yi ?_ ?_
 ·intro h;have h:(i:Int)<(st.length:Nat):=h;have h:i<st.length:=by omega
  have hg:st[i]?=some st[i]:=Ge h;have KW:st.take (i+1)=st.take i++[st[i]]:=by rw[BC,hg];rfl
  refine Yi (Yi (Nn i) (by show(i:Int)<(st.length:Nat);omega)) ?_;refine Yi (by rw[Lm]) (Xi (AX st[i]) (Yi (by show(st.map AX)[((i:Nat):Int).toNat]?=_;rw[Ba,AK,hg];rfl) ?_));refine Xi ⟨[(4,.ref 4 0),(6,.ref 11900 0),(9,.ref 9 0),(11,sl B3 st[i]),(56,.msl 12200 st.length),(57,vi (st.length:Nat)),(58,vi i)],[(4,.cells [vb false,.v (.slice none 0 0),.v (.slice none 0 0),.v (.slice none 0 0)]),(9,.cells [vb true,.msl 14400 (AO dec).length,.slice (.id 11901 6) (infs.map B7),.slice (.id 95 3) ((st.take i).flatten.map B3)]),(95,.tok 3 ((st.take i).flatten.map B3).length),(11900,.cells [sl AN roots,.cmap Dm (mC x),.cmap Dm (L.map (kA x)),.slice (.id 11901 6) (infs.map B7),.slice (.id 11902 1) (drv.map Cm),.mref 11903,vb false,sl AI dec,sl Ae (AO dec),.msl 12200 st.length]),(11901,.tok 6 infs.length),(11902,.tok 1 drv.length),(11903,.map D3 (D5 0 infs)),(12200,.arr 1 (st.map AX)),(14400,.arr 4 ((Gm (AO dec)).map Ae))],Aa⟩ (Yi ⟨Z7,Z9,Fh,Tv⟩ ?_)
  have hfl:((st.take i).flatten).length≤65536∧st[i].length≤256:=⟨jP JM zZ i,zZ _ (Ak _)⟩;have F8:CT 3 (st[i].map B3)∧((st.take i).flatten.map B3).length=((st.take i).flatten.map B3).length∧(((st.take i).flatten.map B3).length+(st[i].map B3).length)*32≤140737488355328∧((st.take i).flatten.map B3).length+(st[i].map B3).length≤9223372036854775807:=by
   refine⟨Ea (enc:=B3) (n:=3) (fun _=>rfl) _,rfl,?_,?_⟩<;>simp only[Lm]<;>omega
  refine Yi F8 ?_;refine Yi ?_ ?_
  ·exact Nz rfl
  have ef:((st.take i).flatten.map B3)++st[i].map B3=((st.take (i+1)).flatten.map B3):=by rw[KW,CU,AH];simp
  have en:((st.take i).flatten.map B3).length+(st[i].map B3).length=((st.take (i+1)).flatten.map B3).length:=by rw[←ef,Ad]
  refine Xi ⟨[(4,.ref 4 0),(6,.ref 11900 0),(9,.ref 9 0),(56,.msl 12200 st.length),(57,vi (st.length:Nat)),(58,vi i)],[(4,.cells [vb false,.v (.slice none 0 0),.v (.slice none 0 0),.v (.slice none 0 0)]),(9,.cells [vb true,.msl 14400 (AO dec).length,.slice (.id 11901 6) (infs.map B7),.slice (.id 95 3) ((st.take (i+1)).flatten.map B3)]),(95,.tok 3 ((st.take (i+1)).flatten.map B3).length),(11900,.cells [sl AN roots,.cmap Dm (mC x),.cmap Dm (L.map (kA x)),.slice (.id 11901 6) (infs.map B7),.slice (.id 11902 1) (drv.map Cm),.mref 11903,vb false,sl AI dec,sl Ae (AO dec),.msl 12200 st.length]),(11901,.tok 6 infs.length),(11902,.tok 1 drv.length),(11903,.map D3 (D5 0 infs)),(12200,.arr 1 (st.map AX)),(14400,.arr 4 ((Gm (AO dec)).map Ae))],Aa⟩ (Yi ⟨Z6,⟨Zr,⟨Ab (fun z=>HO.cells [vb true,.msl 14400 (AO dec).length,.slice (.id 11901 6) (infs.map B7),.slice (.id 95 3) z]) ef,rfl⟩,⟨Ab (HO.tok 3) en,rfl⟩,Zr,Zr,Zr,Zr,Zr,Zr,Tv⟩,Fh,Tv⟩ ?_)
  refine Yi (Ii i (by omega)) ?_;refine Xi ⟨i+1,by omega⟩ ?_;exact⟨Dl st.length i (by omega),Z6,Z9,Fh,Tv⟩
 ·intro h;have h:¬(i:Int)<(st.length:Nat):=h;have et:st.take i=st:=AJ (by omega);have VH:(AO dec).length=((Gm (AO dec)).map Ae).length:=(UA (AO dec)).length_eq.symm.trans (Lm ..).symm;refine Yi VH ?_;refine Xi ⟨[(4,.ref 4 0),(9,.ref 9 0)],[(4,.cells [vb false,.v (.slice none 0 0),.v (.slice none 0 0),.v (.slice none 0 0)]),(9,.cells [vb true,.slice (.id 14400 4) ((Gm (AO dec)).map Ae),.slice (.id 11901 6) (infs.map B7),.slice (.id 95 3) (st.flatten.map B3)]),(95,.tok 3 (st.flatten.map B3).length),(11901,.tok 6 infs.length),(14400,.tok 4 ((Gm (AO dec)).map Ae).length)],Aa⟩ (Yi ⟨Z2,⟨Zr,⟨Ab (fun z:List (List Sk)=>HO.cells [vb true,.slice (.id 14400 4) ((Gm (AO dec)).map Ae),.slice (.id 11901 6) (infs.map B7),.slice (.id 95 3) (z.flatten.map B3)]) et,rfl⟩,⟨Ab (fun z:List (List Sk)=>HO.tok 3 (z.flatten.map B3).length) et,rfl⟩,Zr,Zr,Tv⟩,Fh,Tv⟩ ?_)
  refine Yi ?_ ?_
  ·exact Nz rfl
  refine Yi ?_ ?_
  ·exact Nz rfl
  refine Yi ?_ ?_
  ·exact Nz rfl
  exact .refl _
theorem QU{s:SS}{b:List Cd}{p:ByteArray}{needs:List Nd}:∀{cs:List Cd} {sk:List Sk},Hi s b p needs cs sk→sk.length≤cs.length
 | [],sk,h=>by
  have h:sk=[]:=h;rw[h];exact Al _
 |c::cs,sk,h=>by
  have h:if(needs.all fun n=>has n.rq.set c.place)=true then _ else _:=h
  by_cases hc:(needs.all fun n=>has n.rq.set c.place)=true
  ·rw[Ax hc]at h;obtain⟨k,rest,rfl,_,h3⟩:=h
   have:=QU h3
   simp only[Au];omega
  ·rw[Ao hc]at h
   have:=QU h
   simp only[Au];omega
theorem Vr{x:List Rl}{roots:List Rq}{s:SS}:∀{t:List Cd} {sl:List (List Sk)} {b:List Cd},SF x roots s b t sl→sl.length=t.length∧∀k∈sl,k.length≤x.length
 | [],[],_,_=>⟨rfl,fun _ h=>by cases h⟩
 | [],_::_,_,h=>h.elim
 |_::_,[],_,h=>h.elim
 |c::t,sk::sl,b,⟨⟨p,needs,pre,post,hs⟩,h⟩=>by
  obtain⟨h1,h2⟩:=Vr h;refine⟨by simp[h1],fun k hk=>?_⟩;rcases Av.1 hk with rfl | hk
  ·have e1:=QU hs.skips;have e2:=Vo x p;rw[hs.cands,Ad]at e2;omega
  ·exact h2 k hk
theorem s21(x:List Rl)(ifs:List (List AV))(roots:List Rq)(hx:∀r∈x,J4 r)(hr:∀q∈roots,NU q):PC 72 [RF x ifs,sl AN roots] (jR x roots):=by
 unfold jR MP MQ;cases hv:G6 x roots with
 |false=>simpa using mJ x ifs roots hx hr hv
 |true =>
  obtain⟨h0,h1⟩:=kd hv;have hR:=eT h0 h1;have nB:=(Qy h0).1;have hA:qR x roots=if(F4 x roots).found=true then⟨true,Gm (AO (F4 x roots).dec),(F4 x roots).ss.infs,(F4 x roots).stack.flatten⟩else⟨false,[],(F4 x roots).ss.infs.take ((F4 x roots).res+1),[]⟩:=rfl
  rw[hA];generalize ho:F4 x roots=o at hR⊢;obtain⟨k,b,⟨infs,drv,full⟩,dec,st⟩:=o;have hl:infs.length≤65536:=hR.der.len;have hdl:drv.length=infs.length:=hR.der.dlen;cases b with
  |false =>
   cases full with
   |true=>simpa using jK x ifs roots hx hr hv h0 h1 k infs drv dec st ho
   |false =>
    have hk:k<drv.length:=((hR.no rfl).2.2 rfl).1;simpa using pY x ifs roots hx hr hv h0 h1 k infs drv dec st ho (by omega) hl
  |true =>
   obtain⟨hf,t,sl,e1,e2,hC,_⟩:=hR.yes rfl;have hf:full=false:=hf;subst hf;have e1:dec=[]++t:=e1;have e2:st=[]++sl:=e2;rw[En]at e1 e2;subst e1;subst e2;have hD:ER x ([]++dec):=(SF.ok (.nil x) (.nil roots) hC).1;rw[En]at hD;have hdx:=XU hD;obtain⟨c1,c2⟩:=Vr hC;have hn:((AO dec).map (·.path)).Nodup:=by rw[Od];exact hD.nodup
   simpa using mK x ifs roots hx hr hv h0 h1 k infs drv dec st ho (by omega) hn (by omega) (fun s hs=>A3 (c2 s hs) nB)
def eQ(x:List Rl)(roots:List Rq):Int:=if MQ x roots≠0 then MQ x roots else if(MP x roots).found=true then 0 else 17
def jM(x:List Rl)(roots:List Rq):List Sl:=if eQ x roots=0 then(MP x roots).sel else []
abbrev xZ:Sj:=⟨[2],[],[],[],[],[],[],[],[],[],[]⟩
theorem pX(x:List Rl)(ifs:List (List AV))(roots:List Rq)(a:An)(e:Int)(h:PC 72 [RF x ifs,sl AN roots] (.tup [.agg (Tj a),vi e])) :
  PC 30 [RF x ifs,sl AN roots] (.tup [if e≠0 then sl Ae []else if a.found=true then sl Ae a.sel else sl Ae [],vi (if e≠0 then e else if a.found=true then 0 else 17)]):=by
 refine Ps xZ Tryz.func30 rfl (Nz rfl) ?_;refine Yi ?_ ?_
 ·exact Nz rfl
 refine Xi .pure (Xi _ (Yi h ?_));refine Yi ?_ ?_
 ·exact Nz rfl
 refine Yi (fun he=>?_) (fun he=>?_)
 ·have he:¬e=0:=he;have e1:AV.tup [sl Ae [],vi e]=.tup [if e≠0 then sl Ae []else if a.found=true then sl Ae a.sel else sl Ae [],vi (if e≠0 then e else if a.found=true then 0 else 17)]:=by rw[Ax he,Ax he]
  exact(show Hm (.tup [.v (.slice none 0 0),vi e]) (.tup [sl Ae ([]:List Sl),vi e])from Hm.tup ⟨.nil,.refl _,trivial⟩).trans (.of_eq e1)
 ·have he:e=0:=B2.1 he;have DL:¬e≠0:=fun h=>h he;refine Yi (fun hb=>?_) (fun hb=>?_)
  ·have hb:a.found=true:=hb;have e1:AV.tup [sl Ae a.sel,vi 0]=.tup [if e≠0 then sl Ae []else if a.found=true then sl Ae a.sel else sl Ae [],vi (if e≠0 then e else if a.found=true then 0 else 17)]:=by rw[Ao DL,Ao DL,Ax hb,Ax hb]
   exact .of_eq e1
  ·have hb:a.found=false:=hb;have hb:¬a.found=true:=by rw[hb];decide
   have e1:AV.tup [sl Ae [],vi 17]=.tup [if e≠0 then sl Ae []else if a.found=true then sl Ae a.sel else sl Ae [],vi (if e≠0 then e else if a.found=true then 0 else 17)]:=by rw[Ao DL,Ao DL,Ao hb,Ao hb]
   exact(show Hm (.tup [.v (.slice none 0 0),vi 17]) (.tup [sl Ae ([]:List Sl),vi 17])from Hm.tup ⟨.nil,.refl _,trivial⟩).trans (.of_eq e1)
theorem s16(x:List Rl)(ifs:List (List AV))(roots:List Rq)(hx:∀r∈x,J4 r)(hr:∀q∈roots,NU q):PC 30 [RF x ifs,sl AN roots] (.tup [sl Ae (jM x roots),vi (eQ x roots)]):=by
 have h:=pX x ifs roots _ _ (s21 x ifs roots hx hr);have e1:(if MQ x roots≠0 then sl Ae []else if(MP x roots).found=true then sl Ae (MP x roots).sel else sl Ae [])=sl Ae (jM x roots):=by
  unfold jM eQ
  by_cases h1:MQ x roots=0
  ·by_cases h2:(MP x roots).found=true
   ·simp[h1,h2]
   ·simp[h1,h2]
  ·simp[h1]
 have e2:(if MQ x roots≠0 then MQ x roots else if(MP x roots).found=true then 0 else 17)=eQ x roots:=rfl;rw[e1,e2]at h;exact h
instance:DecidableEq Mv:=fun x y=>decidable_of_iff (x.path=y.path∧x.a=y.a∧x.b=y.b) ⟨fun⟨h1,h2,h3⟩=>by cases x;cases y;simp_all,fun h=>by subst h;exact⟨rfl,rfl,rfl⟩⟩
theorem ta{a b:Mv}(h:a.path=b.path∧a.a=b.a∧a.b=b.b∧True):a=b:=by cases a;cases b;simp_all
theorem tb{a b:Mv}(h:¬(a.path=b.path∧a.a=b.a∧a.b=b.b∧True)):a≠b:=fun e=>h (by subst e;exact⟨rfl,rfl,rfl,trivial⟩)
theorem o35(a b:List Mv)(ha:Co a):PC 35 [sl E3 a,sl E3 b] (vb (decide (a=b))):=by
 have rU:a.length≤1073741824:=ha;refine Ps ⟨[],[],[],[],[],[],[],[],[],[],[7,8]⟩ Tryz.func35 rfl (Nz rfl) ?_;refine Yi (fun h1=>?_) (fun h1=>?_)
 ·have h1:((a.map E3).length:Int)≠((b.map E3).length:Int):=h1;exact .of_eq (show vb false=vb (decide (a=b)) by rw[Aj (fun e=>absurd (Ab (fun z=>((z.map E3).length:Int)) e) h1)])
 have h1:((a.map E3).length:Int)=((b.map E3).length:Int):=Bj h1;have hl:a.length=b.length:=by have q:=h1;rw[Lm,Lm]at q;omega
 refine Xi {q:Nat // q≤a.length∧∀j (hj:j<a.length),j<q→a[j]=b[j]'(hl▸hj)} (Xi (fun q=>⟨[(0,sl E3 a),(1,sl E3 b),(12,vi (a.map E3).length),(13,vi q.1)],[],Aa⟩) (Xi (fun q=>a.length-q.1) (Yi (Xi ⟨0,AG _,fun _ _ h=>absurd h (Cu _)⟩ ?_) ?_)))
 ·exact⟨Z4,Tv,Fh,Tv⟩
 intro⟨i,i1,i2⟩;have i1:i≤a.length:=i1;have i2:∀j (hj:j<a.length),j<i→a[j]=b[j]'(hl▸hj):=i2;refine Yi (fun h3=>?_) (fun h3=>?_)
 ·have h3:(i:Int)<((a.map E3).length:Int):=h3;have n3:=H5 h3;have di:i<b.length:=by have q:=h3;rw[Lm]at q;omega
  refine Xi (E3 a[i]) (Yi (Jp n3) (Yi rfl ?_));refine Yi (Nz rfl) ?_;refine Xi (E3 b[i]) (Yi (Jp di) (Yi rfl ?_));refine Yi (Nz rfl) ?_;refine Yi (fun h4=>?_) (fun h4=>?_)
  ·have h4:(a[i].path:ByteArray)=b[i].path∧(a[i].a:Int)=b[i].a∧(a[i].b:Int)=b[i].b∧True:=h4;refine Yi (by kernel_rfl) ?_;refine Xi ⟨[(0,sl E3 a),(1,sl E3 b),(12,vi (a.map E3).length),(13,vi i)],[],Aa⟩ (Yi ⟨Z4,Tv,Fh,Tv⟩ ?_)
   refine Yi (Ii i (by omega)) ?_;refine Xi ⟨i+1,n3,fun j hj GA=>if e:j<i then i2 j hj e else by
     have e:j=i:=by omega
     subst e;exact ta h4⟩ ?_
   exact⟨Dl a.length i (by omega),Z4,Tv,Fh,Tv⟩
  have h4:¬((a[i].path:ByteArray)=b[i].path∧(a[i].a:Int)=b[i].a∧(a[i].b:Int)=b[i].b∧True):=h4;refine Yi (by kernel_rfl) ?_;refine Xi ⟨[],[],Aa⟩ (Yi ⟨Tv,Tv,Fh,Tv⟩ ?_)
  exact .of_eq (show vb false=vb (decide (a=b)) by rw[Aj (XK (i:=i) (ha:=n3) (hb:=di) (tb h4))])
 have h3:¬((i:Int)<((a.map E3).length:Int)):=h3;have n3:=H4 h3;exact .of_eq (show vb true=vb (decide (a=b)) by rw[At (Sy hl fun j hj=>i2 j hj (by have q:=h3;rw[Lm]at q;omega))])
abbrev pa:ByteArray:=⟨#[97,47,118,49]⟩
abbrev pb:ByteArray:=⟨#[98,47,118,49]⟩
abbrev mQ(m:Int):Ver:=⟨1,m,0⟩
abbrev Xm(p:ByteArray)(m:Int)(q:List Rq)(y:Bool):Rl:=⟨p,mQ m,q,mt,mt,mt,y⟩
abbrev uO:List Rq:=[⟨pb,[(1000,1000000)]⟩]
abbrev kw:List Rl:=[Xm pa 0 uO false,Xm pb 0 [] false,Xm pb 1 [] false,Xm pb 2 [] true]
abbrev fE:List Rl:=[Xm pa 0 uO false,Xm pb 2 [] false]
abbrev Wm:Wk:=⟨[],[⟨pb,mQ 1⟩],[⟨pb,mQ 2⟩]⟩
abbrev mA:List Rq:=[⟨pa,[(0,1000000)]⟩]
abbrev tW:List Sl:=[⟨pa,mQ 0⟩,⟨pb,mQ 1⟩]
abbrev t6:List Sl:=[⟨pa,mQ 0⟩,⟨pb,mQ 2⟩]
abbrev qF:List Mv:=[⟨pb,1000,2000⟩]
theorem m7:∀r∈kw,J4 r :=
 BG.2 ⟨⟨by decide,by decide⟩,BG.2 ⟨⟨by decide,by decide⟩,BG.2 ⟨⟨by decide,by decide⟩,BG.2 ⟨⟨by decide,by decide⟩,B5 _⟩⟩⟩⟩
theorem oQ:∀r∈fE,J4 r :=
 BG.2 ⟨⟨by decide,by decide⟩,BG.2 ⟨⟨by decide,by decide⟩,B5 _⟩⟩
abbrev LD:AV:=.v (.slice none 0 0)
abbrev cc(p:ByteArray)(b:Int)(y:Bool):List AV:=[vs p,vi 1,vi b,vi 0,LD,vs mt,vs mt,vs mt,vb y]
abbrev qb:List AV:=[.slice .none [Ai (Xm pa 0 uO false),cc pb 0 false,cc pb 1 false,cc pb 2 true],LD]
abbrev aU:List AV:=[LD,sl Ae Wm.exc,sl Ae Wm.pin]
theorem cu:Hm (.agg qb) (RF kw []) :=
 have h (p:ByteArray) (b:Int) (y:Bool):Np (cc p b y) (Ai (Xm p b [] y)):=⟨.refl _,.refl _,.refl _,.refl _,.nil,.refl _,.refl _,.refl _,.refl _,trivial⟩
 Hm.agg ⟨Hm.slice ⟨.refl _,h pb 0 false,h pb 1 false,h pb 2 true,trivial⟩,.nil,trivial⟩
theorem PX:Hm (.agg aU) (.agg (Bc Wm)):=Hm.agg ⟨.nil,.refl _,.refl _,trivial⟩
theorem Og:OI Wm:=⟨by decide,by decide,by decide,B5 _,BG.2 ⟨by decide,B5 _⟩,BG.2 ⟨by decide,B5 _⟩⟩
theorem W9:OI fG:=⟨by decide,by decide,by decide,B5 _,B5 _,B5 _⟩
theorem cf(m:Int)(h:m=1∨m=2):OL [⟨pa,mQ 0⟩,⟨pb,mQ m⟩]:=by
 rcases h with rfl | rfl
 ·exact⟨by decide,BG.2 ⟨by decide,BG.2 ⟨by decide,B5 _⟩⟩,.cons (BG.2 ⟨by show EM pa pb=true;kernel_rfl,B5 _⟩) (.cons (B5 _) .nil)⟩
 ·exact⟨by decide,BG.2 ⟨by decide,BG.2 ⟨by decide,B5 _⟩⟩,.cons (BG.2 ⟨by show EM pa pb=true;kernel_rfl,B5 _⟩) (.cons (B5 _) .nil)⟩
theorem qS:It kw Wm=(fE,0):=by kernel_rfl
theorem s9:GM fG Wm=(Wm,0):=by kernel_rfl
theorem qI(m:Int):PC 33 [vi m] (.agg [vi 1,vi m,vi 0]):=by
 refine Ps ⟨[],[],[],[],[],[],[],[],[],[],[]⟩ Tryz.func33 rfl (Nz rfl) ?_;refine Yi (Nz rfl) ?_;refine Yi (Nz rfl) ?_;exact .refl _
theorem o9  : PC 9 [] (vb true):=by
 have hq:∀q∈mA,NU q:=BG.2 ⟨⟨by decide,by decide⟩,B5 _⟩;have hrq (l:List Rl) (h:∀r∈l,r.reqs=uO∨r.reqs=[]):∀r∈l,Co r.reqs:=fun r hr=>by rcases h r hr with e | e<;>rw[e]<;>decide
 have kq:∀r∈kw,Co r.reqs:=hrq _ (BG.2 ⟨.inl rfl,BG.2 ⟨.inr rfl,BG.2 ⟨.inr rfl,BG.2 ⟨.inr rfl,B5 _⟩⟩⟩⟩);have J3:=o11 kw [] Wm m7 (by decide) kq Og.few Og.rq (by decide) (fun c hc=>by cases hc);unfold Qh at J3;rw[qS]at J3;have J3:PC 11 [RF kw [],.agg (Bc Wm)] (.tup [RF fE [],vi 0]):=J3;have L7:=s16 kw [] mA m7 hq;rw[show eQ kw mA=0 by kernel_rfl,show jM kw mA=tW by kernel_rfl]at L7;have g16:=s16 fE [] mA oQ hq;rw[show eQ fE mA=0 by kernel_rfl,show jM fE mA=t6 by kernel_rfl]at g16;have ud:=o75 tW t6 [pa,pa,pb,pb] (cf 1 (.inl rfl)) (cf 2 (.inr rfl)) (by decide) (by decide) (.cons _ (List.Perm.swap ..)) (by decide);rw[show MD tW t6 (Cg [pa,pa,pb,pb])=qF by kernel_rfl]at ud;have h34:=(o34 kw fE [] [] mA Wm tW t6 qF J3 L7 g16 ud).args (args':=[.agg qb,sl AN mA,.agg aU]) ⟨cu,.refl _,PX,trivial⟩;have J3:=J3.args (args':=[.agg qb,.agg aU]) ⟨cu,PX,trivial⟩;have RY:=o17 fG Wm W9.few Og.few (by decide) (by decide) W9.rq Og.rq;rw[s9]at RY;have RY:PC 17 [.agg [LD,LD,LD],.agg aU] (.tup [.agg (Bc Wm),vi 0]):=RY.args (args':=[.agg [LD,LD,LD],.agg aU]) ⟨.agg ⟨.nil,.nil,.nil,trivial⟩,PX,trivial⟩;have Pp:=(uF Wm Og.few).args (args':=[.agg aU]) ⟨PX,trivial⟩;rw[show B6 Wm=0 by kernel_rfl]at Pp;have zm:=o35 qF qF (by decide);rw[At rfl]at zm;have N7:=(o19 Wm Wm Og.few Og.qs).args (args':=[.agg (Bc Wm),.agg aU]) ⟨.refl _,PX,trivial⟩;rw[Ux]at N7;refine Ps ⟨[],[],[],[],[],[],[],[],[],[],[2,3,4,5,6,7,8]⟩ Tryz.func9 rfl (Nz rfl) ?_;refine Xi ⟨[(1,.v (.func (.func 33) #[] #[]))],[],Aa⟩ (Yi ⟨Z1,Tv,Fh,Tv⟩ ?_)
 refine Xi ⟨[(1,.v (.func (.func 33) #[] #[])),(2,.slice (.id 14 2) [[vs ⟨#[98,47,118,49]⟩,.slice .none [[vi 1000,vi 1000000]]]])],[(14,.tok 2 1)],Aa⟩ (Yi ⟨Z2,Z1,Fh,Tv⟩ ?_)
 refine Xi .pure (Xi _ (Yi (qI 0) ?_));refine Xi .pure (Xi _ (Yi (qI 0) ?_));refine Xi .pure (Xi _ (Yi (qI 1) ?_));refine Xi .pure (Xi _ (Yi (qI 2) ?_));refine Yi (Nz rfl) ?_;refine Xi ⟨[(1,.v (.func (.func 33) #[] #[])),(3,.ref 3 0)],[(3,.cells [.slice (.id 28 9) [[vs ⟨#[97,47,118,49]⟩,vi 1,vi 0,vi 0,.slice .none [[vs ⟨#[98,47,118,49]⟩,.slice .none [[vi 1000,vi 1000000]]]],vs ⟨#[]⟩,vs ⟨#[]⟩,vs ⟨#[]⟩,vb false],[vs ⟨#[98,47,118,49]⟩,vi 1,vi 0,vi 0,.v (.slice none 0 0),vs ⟨#[]⟩,vs ⟨#[]⟩,vs ⟨#[]⟩,vb false],[vs ⟨#[98,47,118,49]⟩,vi 1,vi 1,vi 0,.v (.slice none 0 0),vs ⟨#[]⟩,vs ⟨#[]⟩,vs ⟨#[]⟩,vb false],[vs ⟨#[98,47,118,49]⟩,vi 1,vi 2,vi 0,.v (.slice none 0 0),vs ⟨#[]⟩,vs ⟨#[]⟩,vs ⟨#[]⟩,vb true]],.v (.slice none 0 0)]),(28,.tok 9 4)],Aa⟩ (Yi ⟨Z2,Z2,Fh,Tv⟩ ?_)
 refine Xi .pure (Xi _ (Yi (qI 1) ?_));refine Xi .pure (Xi _ (Yi (qI 2) ?_));refine Yi (Nz rfl) ?_;refine Xi ⟨[(3,.ref 3 0),(4,.ref 4 0)],[(3,.cells [.slice (.id 28 9) [[vs ⟨#[97,47,118,49]⟩,vi 1,vi 0,vi 0,.slice .none [[vs ⟨#[98,47,118,49]⟩,.slice .none [[vi 1000,vi 1000000]]]],vs ⟨#[]⟩,vs ⟨#[]⟩,vs ⟨#[]⟩,vb false],[vs ⟨#[98,47,118,49]⟩,vi 1,vi 0,vi 0,.v (.slice none 0 0),vs ⟨#[]⟩,vs ⟨#[]⟩,vs ⟨#[]⟩,vb false],[vs ⟨#[98,47,118,49]⟩,vi 1,vi 1,vi 0,.v (.slice none 0 0),vs ⟨#[]⟩,vs ⟨#[]⟩,vs ⟨#[]⟩,vb false],[vs ⟨#[98,47,118,49]⟩,vi 1,vi 2,vi 0,.v (.slice none 0 0),vs ⟨#[]⟩,vs ⟨#[]⟩,vs ⟨#[]⟩,vb true]],.v (.slice none 0 0)]),(4,.cells [.v (.slice none 0 0),.slice (.id 33 4) [[vs ⟨#[98,47,118,49]⟩,vi 1,vi 1,vi 0]],.slice (.id 37 4) [[vs ⟨#[98,47,118,49]⟩,vi 1,vi 2,vi 0]]]),(28,.tok 9 4),(33,.tok 4 1),(37,.tok 4 1)],Aa⟩ (Yi ⟨Z2,Z5,Fh,Tv⟩ ?_)
 refine Yi (Nz rfl) ?_;refine Yi (Nz rfl) ?_;refine Xi .pure (Xi _ (Yi J3 ?_));refine Yi (Nz rfl) ?_;refine Xi ⟨[(3,.ref 3 0),(4,.ref 4 0),(5,.ref 5 0),(6,vi 0)],[(3,.cells [.slice (.id 28 9) [[vs ⟨#[97,47,118,49]⟩,vi 1,vi 0,vi 0,.slice .none [[vs ⟨#[98,47,118,49]⟩,.slice .none [[vi 1000,vi 1000000]]]],vs ⟨#[]⟩,vs ⟨#[]⟩,vs ⟨#[]⟩,vb false],[vs ⟨#[98,47,118,49]⟩,vi 1,vi 0,vi 0,.v (.slice none 0 0),vs ⟨#[]⟩,vs ⟨#[]⟩,vs ⟨#[]⟩,vb false],[vs ⟨#[98,47,118,49]⟩,vi 1,vi 1,vi 0,.v (.slice none 0 0),vs ⟨#[]⟩,vs ⟨#[]⟩,vs ⟨#[]⟩,vb false],[vs ⟨#[98,47,118,49]⟩,vi 1,vi 2,vi 0,.v (.slice none 0 0),vs ⟨#[]⟩,vs ⟨#[]⟩,vs ⟨#[]⟩,vb true]],.v (.slice none 0 0)]),(4,.cells [.v (.slice none 0 0),.slice (.id 33 4) [[vs ⟨#[98,47,118,49]⟩,vi 1,vi 1,vi 0]],.slice (.id 37 4) [[vs ⟨#[98,47,118,49]⟩,vi 1,vi 2,vi 0]]]),(5,.cells [sl Ai fE,.slice .none []]),(28,.tok 9 4),(33,.tok 4 1),(37,.tok 4 1)],Aa⟩ (Yi ⟨Z4,Z6,Fh,Tv⟩ ?_)
 refine Yi (Nz rfl) ?_;refine Yi (Nz rfl) ?_;refine Xi .pure (Xi _ (Yi h34 ?_));refine Xi ⟨[(4,.ref 4 0),(5,.ref 5 0),(6,vi 0),(7,sl E3 qF),(8,vi 0)],[(4,.cells [.v (.slice none 0 0),.slice (.id 33 4) [[vs ⟨#[98,47,118,49]⟩,vi 1,vi 1,vi 0]],.slice (.id 37 4) [[vs ⟨#[98,47,118,49]⟩,vi 1,vi 2,vi 0]]]),(5,.cells [sl Ai fE,.slice .none []]),(33,.tok 4 1),(37,.tok 4 1)],Aa⟩ (Yi ⟨Z5,Z4,Fh,Tv⟩ ?_)
 refine Yi (Nz rfl) ?_;refine Xi .pure (Xi _ (Yi RY ?_));refine Yi (Nz rfl) ?_;refine Xi ⟨[(4,.ref 4 0),(5,.ref 5 0),(6,vi 0),(7,sl E3 qF),(8,vi 0),(9,.ref 9 0),(10,vi 0)],[(4,.cells [.v (.slice none 0 0),.slice (.id 33 4) [[vs ⟨#[98,47,118,49]⟩,vi 1,vi 1,vi 0]],.slice (.id 37 4) [[vs ⟨#[98,47,118,49]⟩,vi 1,vi 2,vi 0]]]),(5,.cells [sl Ai fE,.slice .none []]),(9,.cells [sl Ai Wm.rep,sl Ae Wm.exc,sl Ae Wm.pin]),(33,.tok 4 1),(37,.tok 4 1)],Aa⟩ (Yi ⟨Z7,Z5,Fh,Tv⟩ ?_)
 refine Yi (Nz rfl) ?_;refine Xi .pure (Xi _ (Yi Pp ?_));refine Yi (fun _=>?_) (fun h=>absurd (by decide) h);refine Yi (fun _=>?_) (fun h=>absurd (by decide) h);refine Yi (fun h1=>?_) (fun h1=>?_)
 ·have h1:((fE.map Ai).length:Int)=(2:Int):=h1;refine Xi (Ai (Xm pb 2 [] false:Rl)) (Yi ⟨by decide,rfl⟩ (Yi rfl ?_));refine Yi (fun hf=>absurd hf (by decide)) (fun _=>?_);refine Yi (fun _=>?_) (fun h=>absurd (by decide) h);refine Xi .pure (Xi _ (Yi zm ?_));refine Yi (fun _=>?_) (fun h=>absurd (by decide) h);refine Yi (Nz rfl) ?_;refine Yi (Nz rfl) ?_;refine Xi .pure (Xi _ (Yi N7 ?_));exact .refl _
 have h1:¬(((fE.map Ai).length:Int)=(2:Int)):=h1;exact absurd rfl h1
end Go.Eng
namespace Go.Eng
theorem YC{α:Type}{p:α→Bool}{l:List α}{x:α}(h:x∈kept p l):x∈l:=(Bo.1 h).1
theorem aw{a b:Wk}(ha:OI a)(hb:OI b):SH (GM a b).1∧aV (GM a b).1.rep:=by
 have z:SH fG∧aV fG.rep:=⟨W9.few,W9.qs⟩;unfold GM;split
 ·exact z
 ·split
  ·exact z
  ·split
   ·exact z
   ·have l1:=Ht (c:=Cj) a.rep b.rep;have l2:=Ht (c:=Fi) a.exc b.exc;have l3:=Ht (c:=I3) (F1 a.pin b.exc) b.pin;have k1:(F1 (AW Fi a.exc b.exc) b.pin).length≤(AW Fi a.exc b.exc).length:=Kj _ _;have k2:(F1 a.pin b.exc).length≤a.pin.length:=Kj _ _;have q1:=ha.rep;have q2:=ha.exc;have q3:=ha.pin;have p1:=hb.rep;have p2:=hb.exc;have p3:=hb.pin;refine⟨⟨fun r hr=>(GL hr).elim (fun h=>(ha.rl r h).2) (fun h=>(hb.rl r h).2),?_,?_,?_,fun s hs=>(GL (YC hs)).elim (ha.excs s) (hb.excs s),fun s hs=>(GL hs).elim (fun h=>ha.pins s (YC h)) (hb.pins s)⟩,fun r hr=>(GL hr).elim (ha.qs r) (hb.qs r)⟩
    ·show(AW Cj a.rep b.rep).length≤1073741824;omega
    ·show(F1 (AW Fi a.exc b.exc) b.pin).length≤1073741824;omega
    ·show(AW I3 (F1 a.pin b.exc) b.pin).length≤1073741824;omega
/-! The empty workspace, and a workspace twice. -/
end Go.Eng
namespace Go.Proofs.YtmcbkdbfaneofaaGreatDoor.joins
open Go Go.Eng Go.Proofs Go.ChangeShapes Go.WideShapes Go.ChangeAt Go.RowKit
section
variable {H:Type}{enc:TypeId×Value→H}{w:World}
theorem all_le{d:DataW H}{l:List (DataW H)}(h:d∈l):Rows.uptoBulk d≤Rows.uptoBulkAll l:=by
 induction l with
 |nil=>cases h
 |cons x r ih =>
  simp only[Rows.uptoBulkAll]
  cases Av.1 h with
  |inl e=>subst e;omega
  |inr e=>have:=ih e;omega
theorem one_le(d:DataW H):1≤Rows.uptoBulk d:=by
 cases d with
 |lit l=>cases l<;>simp[Rows.uptoBulk]
 |nil=>simp[Rows.uptoBulk]
 |ptr d=>simp[Rows.uptoBulk]
 |slice m0 spare=>simp[Rows.uptoBulk]
 |agg parts=>simp[Rows.uptoBulk]
 |iface t d=>simp[Rows.uptoBulk]
 |map entries=>simp[Rows.uptoBulk]
 |held h=>simp[Rows.uptoBulk]
theorem len_le(l:List (DataW H)):l.length≤Rows.uptoBulkAll l:=by
 induction l with
 |nil=>simp[Rows.uptoBulkAll]
 |cons x r ih=>have:=one_le x;simp only[Rows.uptoBulkAll,Au];omega
theorem bulk_ok:Wq (H:=H) Rows.uptoBulk where
 slice es sp:=by
  have h1:=len_le es
  refine⟨by simp only[Rows.uptoBulk];omega,fun d hd=>?_⟩
  have:=all_le hd
  simp only[Rows.uptoBulk];omega
 agg ps d hd:=by
  have:=all_le hd
  simp only[Rows.uptoBulk];omega
 str b:=by simp only[Rows.uptoBulk];omega
theorem app_all(l r:List (DataW H)):Rows.uptoBulkAll (l++r)=Rows.uptoBulkAll l+Rows.uptoBulkAll r:=by
 induction l with
 |nil=>simp[Rows.uptoBulkAll]
 |cons x l ih=>simp only[D6,Rows.uptoBulkAll,ih];omega
abbrev NB:Nat:=1048576
abbrev Op(enc:TypeId×Value→H)(w:World)(t:TypeId){α:Type}(e:α→List AV)(ok:α→Prop):Prop:=KM enc Tryz.prog w Rows.uptoBulk NB t e ok
theorem oI:Op enc w 3 (fun n:Int=>[vi n]) (fun _=>True):=(dW Tryz.underlying3).to id (fun _ _=>⟨rfl,trivial⟩)
theorem oB:Op enc w 4 (fun b:Bool=>[vb b]) (fun _=>True):=aB Tryz.underlying4
theorem oS:Op enc w 9 (fun s:ByteArray=>[vs s]) (fun s=>s.size≤NB):=Xe bulk_ok Tryz.underlying9
theorem oVer:Op enc w 42 JH (fun _=>True) :=
 (FC bulk_ok Tryz.underlying42 (L:=3) (by kernel_rfl) (B9 rfl (n:=1) (by kernel_rfl) oI (B9 rfl (n:=1) (by kernel_rfl) oI (B9 rfl (n:=1) (by kernel_rfl) oI GO)))).to
  (fun p=>(⟨p.1,p.2.1,p.2.2.1⟩:Ver)) (fun _ _=>⟨rfl,trivial⟩)
theorem oSpan:Op enc w 62 Ag (fun _=>True) :=
 (FC bulk_ok Tryz.underlying62 (L:=2) (by kernel_rfl) (B9 rfl (n:=1) (by kernel_rfl) oI (B9 rfl (n:=1) (by kernel_rfl) oI GO))).to
  (fun p=>(p.1,p.2.1)) (fun _ _=>⟨rfl,trivial⟩)
theorem oSet:Op enc w 64 (fun l:Bg=>[sl Ag l]) (fun l=>l.length≤NB) :=
 (IX bulk_ok Tryz.underlying64 (m:=1) (by kernel_rfl) (fun _=>rfl) oSpan).to id (fun _ h=>⟨rfl,h.1⟩)
abbrev OkRq(q:Rq):Prop:=q.path.size≤NB∧q.set.length≤NB
theorem oRq:Op enc w 66 AN OkRq :=
 (FC bulk_ok Tryz.underlying66 (L:=2) (by kernel_rfl) (B9 rfl (n:=1) (by kernel_rfl) oS (B9 rfl (n:=1) (by kernel_rfl) oSet GO))).to
  (fun p=>(⟨p.1,p.2.1⟩:Rq)) (fun _ h=>⟨rfl,h.1,h.2.1⟩)
abbrev OkRqs(l:List Rq):Prop:=l.length≤NB∧∀q∈l,OkRq q
theorem oRqs:Op enc w 43 (fun l:List Rq=>[sl AN l]) OkRqs :=
 IX bulk_ok Tryz.underlying43 (m:=1) (by kernel_rfl) (fun _=>rfl) oRq
abbrev OkRl(r:Rl):Prop:=r.path.size≤NB∧OkRqs r.reqs
theorem oRl:Op enc w 45 Ai OkRl :=
 (FC bulk_ok Tryz.underlying45 (L:=9) (by kernel_rfl) (B9 rfl (n:=1) (by kernel_rfl) oS (B9 rfl (n:=3) (by kernel_rfl) oVer (B9 rfl (n:=1) (by kernel_rfl) oRqs
  (B9 rfl (n:=1) (by kernel_rfl) oS (B9 rfl (n:=1) (by kernel_rfl) oS (B9 rfl (n:=1) (by kernel_rfl) oS (B9 rfl (n:=1) (by kernel_rfl) oB GO)))))))).to
  (fun p=>(⟨p.1,p.2.1,p.2.2.1,p.2.2.2.1,p.2.2.2.2.1,p.2.2.2.2.2.1,p.2.2.2.2.2.2.1⟩:Rl)) (fun _ h=>⟨rfl,h.1,h.2.2.1⟩)
theorem oRls:Op enc w 22 (fun l:List Rl=>[sl Ai l]) (fun l=>l.length≤NB∧∀r∈l,OkRl r) :=
 IX bulk_ok Tryz.underlying22 (m:=8) (by kernel_rfl) (fun _=>rfl) oRl
theorem oIfc:Op enc w 86 (fun s:ByteArray=>[vs s,.junk,.junk,.junk,.junk]) (fun _=>True) :=
 (FC bulk_ok Tryz.underlying86 (L:=5) (by kernel_rfl) (B9 rfl (n:=1) (by kernel_rfl) oS (B9 rfl (n:=1) (by kernel_rfl) (Ng Tryz.underlying81) (B9 rfl (n:=1) (by kernel_rfl) (Ng Tryz.underlying82)
  (B9 rfl (n:=1) (by kernel_rfl) (Ng Tryz.underlying83) (B9 rfl (n:=1) (by kernel_rfl) (Ng Tryz.underlying84) GO)))))).to (fun p=>p.1) (fun _ _=>⟨rfl,trivial⟩)
theorem oIfs:Op enc w 23 (fun l:List ByteArray=>[sl (fun s=>[vs s,.junk,.junk,.junk,.junk]) l]) (fun l=>l.length≤NB) :=
 (IX bulk_ok Tryz.underlying23 (m:=4) (by kernel_rfl) (fun _=>rfl) oIfc).to id (fun _ h=>⟨rfl,h.1⟩)
theorem oIx:Op enc w 25 (fun p:List Rl×List (List AV)=>[sl Ai p.1,.slice .none p.2]) (fun p=>(p.1.length≤NB∧∀r∈p.1,OkRl r)∧p.2.length≤NB∧∀c∈p.2,c.length=5) :=
 (FC bulk_ok Tryz.underlying25 (L:=2) (by kernel_rfl) (B9 rfl (n:=1) (by kernel_rfl) oRls (B9 rfl (n:=1) (by kernel_rfl) oIfs GO))).to
  (fun p=>(p.1,p.2.1.map (fun s=>[vs s,.junk,.junk,.junk,.junk]))) (fun _ h=>⟨rfl,h.1,by rw[Bh];exact h.2.1,fun c hc=>by obtain⟨s,_,rfl⟩:=Ar.1 hc;rfl⟩)
theorem oSl:Op enc w 51 Ae (fun y=>y.path.size≤NB) :=
 (FC bulk_ok Tryz.underlying51 (L:=4) (by kernel_rfl) (B9 rfl (n:=1) (by kernel_rfl) oS (B9 rfl (n:=3) (by kernel_rfl) oVer GO))).to
  (fun p=>(⟨p.1,p.2.1⟩:Sl)) (fun _ h=>⟨rfl,h.1⟩)
theorem oSls:Op enc w 26 (fun l:List Sl=>[sl Ae l]) (fun l=>l.length≤NB∧∀y∈l,y.path.size≤NB) :=
 IX bulk_ok Tryz.underlying26 (m:=3) (by kernel_rfl) (fun _=>rfl) oSl
abbrev OkW(w:Wk):Prop:=(w.rep.length≤NB∧∀r∈w.rep,OkRl r)∧(w.exc.length≤NB∧∀y∈w.exc,y.path.size≤NB)∧w.pin.length≤NB∧∀y∈w.pin,y.path.size≤NB
theorem oWk:Op enc w 28 (fun p:Wk=>Bc p) OkW :=
 (FC bulk_ok Tryz.underlying28 (L:=3) (by kernel_rfl) (B9 rfl (n:=1) (by kernel_rfl) oRls (B9 rfl (n:=1) (by kernel_rfl) oSls (B9 rfl (n:=1) (by kernel_rfl) oSls GO)))).to
  (fun p=>(⟨p.1,p.2.1,p.2.2.1⟩:Wk)) (fun _ h=>⟨rfl,h.1,h.2.1,h.2.2.1⟩)
theorem few_of{n:Nat}(h:n≤NB):n≤1073741824:=A3 h (by decide)
theorem lim_of{x:List Rl}{roots:List Rq}(h:x.length≤NB∧∀r∈x,OkRl r)(k:OkRqs roots):y0 x roots where
 ix:=few_of h.1
 rs:=few_of k.1
 rel r hr:=⟨few_of (h.2 r hr).2.1,few_of (h.2 r hr).1,fun q hq=>⟨few_of ((h.2 r hr).2.2 q hq).2,few_of ((h.2 r hr).2.2 q hq).1⟩⟩
 rq q hq:=⟨few_of (k.2 q hq).2,few_of (k.2 q hq).1⟩
theorem limw_of{w:Wk}(h:OkW w):OI w where
 rep:=h.1.1
 exc:=h.2.1.1
 pin:=h.2.2.1
 rl r hr:=⟨few_of (h.1.2 r hr).2.1,few_of (h.1.2 r hr).1,fun q hq=>⟨few_of ((h.1.2 r hr).2.2 q hq).2,few_of ((h.1.2 r hr).2.2 q hq).1⟩⟩
 excs s hs:=few_of (h.2.1.2 s hs)
 pins s hs:=few_of (h.2.2.2 s hs)
theorem lim0_of{x:List Rl}(h:x.length≤NB∧∀r∈x,OkRl r):y0 x []:=lim_of h ⟨AG _,fun q hq=>by cases hq⟩
end
theorem ok_agg{P:Program}{W:World}{base:Nat}{t:TypeId}{v:Value}{fs:Array Field}(hu:P.underlying t=some (.struct fs))(h:Value.okWide P W .any base t v):∃cs,v=.agg cs:=by
 unfold Value.okWide at h
 rw[hu]at h
 obtain⟨cs,e,_⟩:=h
 exact⟨cs,e⟩
theorem ok_slice{P:Program}{W:World}{base:Nat}{t e:TypeId}{v:Value}(hu:P.underlying t=some (.slice e))(h:Value.okWide P W .any base t v):v.oneCell'=true:=by
 unfold Value.okWide at h
 rw[hu]at h
 unfold Cell.okWide Cell.ok at h
 rw[hu]at h
 cases v<;>first | rfl | simp at h
theorem ok_int{P:Program}{W:World}{base:Nat}{t:TypeId}{k:IntKind}{v:Value}(hu:P.underlying t=some (.int k))(h:Value.okWide P W .any base t v):v.oneCell'=true:=by
 unfold Value.okWide at h
 rw[hu]at h
 unfold Cell.okWide Cell.ok at h
 rw[hu]at h
 cases v<;>first | rfl | simp at h
theorem int_of_shape{P:Program}{w:World}{g:Nat}{t:TypeId}{k:IntKind}{zero:Array Value}(h:w.ShapedOpen P)(hg:g<P.globals.size)
  (h0:((begin P (fun _ _=>0) default).world.heap[g]?).bind Obj.row?=some (zero,t)) (hz:zero.size=1)
  (hb:P.buildable t=true) (hc:P.cellTypes P.depth t=some [t]) (hu:P.underlying t=some (.int k)):∃p,w.cell? ⟨g,0,none⟩=some (.int k p):=by
 obtain⟨cs,hh,hs,hr⟩:=h.1 g zero t hg h0
 obtain⟨ts,hts,_,Fp⟩:=hr hb
 rw[hc]at hts
 cases hts
 have h1:0<cs.size:=by omega
 obtain⟨u,iy,GW⟩:=Fp 0 cs[0] (by simp[h1])
 have:u=t:=by simpa using iy.symm
 subst this
 have DN:w.cell? ⟨g,0,none⟩=some cs[0]:=by simp[World.cell?,hh,h1]
 rw[DN]
 unfold Cell.ok at GW
 rw[hu]at GW
 cases hv:cs[0]<;>rw[hv]at GW<;>simp at GW
 obtain⟨rfl,_⟩:=GW
 exact⟨_,rfl⟩
theorem maxLen_cell{W:World}(h:W.ShapedOpen Tryz.prog):∃m,W.cell? ⟨0,0,none⟩=some (.int .i64 m) :=
 int_of_shape (t:=3) (zero:=#[.int .i64 0]) h (BD (by kernel_rfl)) (by kernel_rfl) rfl (by kernel_rfl) (by kernel_rfl) Tryz.underlying3
def Still(W W' : World):Prop:=W'.os=W.os∧W'.output=W.output∧W.heap.size≤W'.heap.size∧∀b,b<W.heap.size→W'.heap[b]?=W.heap[b]?
theorem run_true{f:Nat}{args:List AV}{vals:Array Value}{W:World}(hc:PC f args (vb true))(hM:∃m,W.cell? ⟨0,0,none⟩=some (.int .i64 m))(hs:vals.size=args.length)
  (hr:∀(i:Nat) (av:AV) (x:Value),args[i]?=some av→vals[i]?=some x→BS (kh W) W FL av x):Calls Tryz.prog f vals W fun e W'=>e=.returned (.bool true)∧Still W W':=by
 refine(hc.2 (kh W) W vals hs (fun i av x q1 q2=>(hr i av x q1 q2).up _) (sW hM (fun _ h=>by cases h))).mono fun e W' ⟨v,r,h',g',e1,e2,e3,e4,_⟩=>?_
 subst e1
 obtain⟨rfl,rfl⟩:=e2
 obtain rfl:=e3.v_eq
 exact⟨rfl,e4.os,e4.output,e4.size,fun b hb=>e4.frame b hb (fun r h=>h.elim)⟩
theorem Still.kept{W W' : World}(h:Still W W')(may:MemPlace→Prop):W.keptBut W' may:=by
 refine⟨h.1,h.2.1,fun i hi=>?_⟩
 rw[h.2.2.2 i hi]
 cases hh:W.heap[i]? with
 |none=>rfl
 |some o=>cases o<;>simp
theorem Still.same{W W' : World}(h:Still W W'){p:MemPlace}(hp:p.block<W.heap.size):W.sameAt W' p:=by
 cases p with
 |cell b off =>
  show W'.cell? ⟨b,off,none⟩=W.cell? ⟨b,off,none⟩
  unfold World.cell?
  rw[h.2.2.2 b hp]
 |map b=>exact h.2.2.2 b hp
theorem kids:Kids Tryz.prog (· < Tryz.prog.types.size):=kids_rows (by kernel_rfl) (by kernel_rfl)
theorem full:∀t e,t<Tryz.prog.types.size→Tryz.prog.underlying t=some (.slice e)→0<Tryz.prog.cellsOf e:=slices_full_of Tryz.prog (by kernel_rfl)
theorem carry{H:Type}{enc:TypeId×Value→H}{W W' : World}(h:Still W W'):∀{ts:List TypeId} {vs:List Value} {ds:List (DataW H)} {ps:List MemPlace},DataW.TrodAll enc Tryz.prog W 0 (fun _=>true) true ts vs ds ps→DataW.TrodAll enc Tryz.prog W' 0 (fun _=>true) true ts vs ds ps
 | [],[],[],_,e=>e
 |t::ts,v::vs,d::ds,ps,k=>by
  have DF:=k.lt
  obtain⟨p,q,⟨n,h1⟩,h2,rfl⟩:=k
  exact⟨p,q,⟨n,DataW.trod_carry n _ _ _ h1 (fun x hx=>h.same (DF x (Br _ hx)))⟩,carry h h2,rfl⟩
 | [],[],_::_,_,k=>k.elim
 | [],_::_,_,_,k=>k.elim
 |_::_,[],_,_,k=>k.elim
 |_::_,_::_,[],_,k=>k.elim
theorem post_true{H:Type}{enc:TypeId×Value→H}{W W' : World}{f:Func}{s:ChangeSpec}{args:Array Value}{ds:List (DataW H)}{before:List MemPlace}(JM:Still W W')(hv:s.vars=[])
  (hW:DataW.Whole enc Tryz.prog f.params.toList s.vars false W args.toList ds [] before) (hr:f.resultTypes=#[4]) (hT:∀t∈f.params.toList,t<Tryz.prog.types.size) (hs:s.fn H ds={ results:=[.lit (.bool true)],args:=ds }) :
  s.post enc Tryz.prog f false true false false W args (.bool true) W':=by
 have zw:=hW
 obtain⟨p,q,hA,hV,rfl,hz,_⟩:=hW
 rw[hv]at hV
 have hq:q=[]:=hV
 subst hq
 have DF:=zw.lt
 have qA:s.fn H (ds++[])={ results:=[.lit (.bool true)],args:=ds }:=by rw[BE];exact hs
 refine⟨ds,[],p++[],[],p,[],zw,?_,?_,?_,JM.kept _,fun h=>by cases h⟩
 ·rw[qA,hr]
  exact⟨[],[],⟨1,by rw[show(Value.bool true).cells.toList=[.bool true]from rfl,DataW.trod_step];unfold DataW.trodStep;rw[Tryz.underlying4]⟩,rfl,rfl⟩
 ·rw[qA]
  exact(carry JM hA).respare kids full hT (fun x hx=>by simpa using DF x (Br _ hx))
 ·rw[qA,hv];rfl
end Go.Proofs.YtmcbkdbfaneofaaGreatDoor.joins
namespace Go.Proofs.YtmcbkdbfaneofaaGreatDoor.joins
open Go Go.Eng Go.Proofs Go.ChangeShapes Go.WideShapes Go.ChangeAt Go.RowKit
theorem own:ownKnob Tryz.prog.godebug=none:=by kernel_rfl
def flatD:Nat→DataW Unit→List Value
 |0,_=>[]
 |n+1,.agg l=>l.flatMap (flatD n)
 |_+1,.lit (.int k i)=>[.int k i]
 |_+1,_=>[]
def layIn(d:DataW Unit):Obj→Obj
 |.cells _ t frozen=>.cells (flatD 4 d).toArray t frozen
 |o=>o
noncomputable def laidWorld(os:Os):World :=
 { World.holding Tryz.prog os ⟨#[],#[],[]⟩with heap:=((World.holding Tryz.prog os ⟨#[],#[],[]⟩).heap.modify 1 (layIn Rows.laid_unicode_utf8_first)).modify 2 (layIn Rows.laid_unicode_utf8_acceptRanges) }
abbrev nilV:Value:=.slice none 0 0
theorem arr1{args:Array Value}{a:Value}(h:args.toList=[a]):args=#[a]:=by
 cases args;simp_all
theorem arr2{args:Array Value}{a b:Value}(h:args.toList=[a,b]):args=#[a,b]:=by
 cases args;simp_all
theorem arr3{args:Array Value}{a b c:Value}(h:args.toList=[a,b,c]):args=#[a,b,c]:=by
 cases args;simp_all
theorem arr4{args:Array Value}{a b c d:Value}(h:args.toList=[a,b,c,d]):args=#[a,b,c,d]:=by
 cases args;simp_all
theorem arr5{args:Array Value}{a b c d e:Value}(h:args.toList=[a,b,c,d,e]):args=#[a,b,c,d,e]:=by
 cases args;simp_all
theorem looksOff:false=Tryz.pinned.checked.prog.looks []:=by kernel_rfl
theorem noStand:∀t∈([25,28,43]:List Nat),Tryz.pinned.checked.prog.wantsStandIn t=false:=by
 intro t ht
 simp only[Av,LZ,or_false]at ht
 rcases ht with rfl | rfl | rfl<;>exact(show Tryz.prog.wantsStandIn _=false by kernel_rfl)
end Go.Proofs.YtmcbkdbfaneofaaGreatDoor.joins
namespace Go.Eng
open Go.Proofs
theorem xG(a b:Wk)(hA:OI a)(hB:OI b):PC 4 [.agg (Bc a),.agg (Bc b)] (vb true):=by
 have q1:=hA.rep;have q2:=hB.rep;have q3:=hA.exc;have q4:=hB.exc;have q5:=hA.pin;have q6:=hB.pin;have RY:=o17 a b hA.few hB.few (by omega) (by omega) hA.rq hB.rq;have zl:=o18 a b hA.few hB.few (by omega) (by omega) (by omega);have hF:=aw hA hB;obtain⟨p,hp⟩:∃p,p=GM a b:=⟨_,rfl⟩;rw[←hp]at RY zl hF;have N7:=o19 p.1 p.1 hF.1 hF.2;rw[Ux]at N7;refine Ps ⟨[2,3,5,7],[],[],[],[],[],[],[],[],[],[3,4,5,6,7]⟩ Tryz.func4 rfl (Nz rfl) ?_;refine Xi .pure (Xi _ (Yi o9 ?_));refine Xi ⟨[(2,.ref 2 0),(3,.ref 3 0)],[(2,.ro (Bc a)),(3,.ro (Bc b))],Aa⟩ (Yi ⟨Z2,Z2,Fh,Tv⟩ ?_)
 refine Yi (Nz rfl) ?_;refine Bq (Bt (Gj a)) (fun h1=>?_) (fun h1=>?_)
 ·have h1:(Gj a)=true:=h1;refine Xi .pure (Xi _ (Yi (cb h1 (uG a hA)) ?_));refine Yi (Nz rfl) ?_;refine Bq (Bt (Gj b)) (fun h2=>?_) (fun h2=>?_)
  ·have h2:(Gj b)=true:=h2;refine Xi .pure (Xi _ (Yi (cb h2 (uG b hB)) ?_));refine Xi ⟨[(2,.ref 2 0),(3,.ref 3 0)],[(2,.ro (Bc a)),(3,.ro (Bc b))],Aa⟩ (Yi ⟨Z2,Z2,Fh,Tv⟩ ?_)
   refine Yi (Nz rfl) ?_;refine Yi (Nz rfl) ?_;refine Xi .pure (Xi _ (Yi RY ?_));refine Yi (Nz rfl) ?_;refine Xi ⟨[(2,.ref 2 0),(3,.ref 3 0),(5,.ref 5 0),(6,vi p.2)],[(2,.ro (Bc a)),(3,.ro (Bc b)),(5,.ro (Bc p.1))],Aa⟩ (Yi ⟨Z4,Z3,Fh,Tv⟩ ?_)
   refine Yi (Nz rfl) ?_;refine Yi (Nz rfl) ?_;refine Xi .pure (Xi _ (Yi zl ?_));refine Yi (Nz rfl) ?_;refine Xi ⟨[(5,.ref 5 0),(6,vi p.2),(7,.ref 7 0),(8,vi p.2)],[(5,.ro (Bc p.1)),(7,.ro (Bc p.1))],Aa⟩ (Yi ⟨Z4,Z2,Fh,Tv⟩ ?_)
   refine Yi (Nz rfl) ?_;refine Yi (Nz rfl) ?_;refine Xi .pure (Xi _ (Yi N7 ?_));refine Yi (fun h3=>?_) (fun h3=>?_)
   ·have h3:(p.2:Int)=(p.2:Int):=h3;exact .refl _
   have h3:¬((p.2:Int)=(p.2:Int)):=h3;exact absurd rfl h3
  have h2:(Gj b)=false:=h2;refine Xi .pure (Xi _ (Yi (cb h2 (uG b hB)) ?_));refine Xi ⟨[],[],Aa⟩ (Yi ⟨Tv,Tv,Fh,Tv⟩ ?_)
  exact .refl _
 have h1:(Gj a)=false:=h1;refine Xi .pure (Xi _ (Yi (cb h1 (uG a hA)) ?_));refine Xi ⟨[],[],Aa⟩ (Yi ⟨Tv,Tv,Fh,Tv⟩ ?_)
 exact .refl _
end Go.Eng
