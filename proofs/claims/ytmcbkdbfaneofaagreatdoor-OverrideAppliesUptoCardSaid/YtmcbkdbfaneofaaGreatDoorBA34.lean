/- Lemmas for the claims of this seat, without a condition: part 34 (S19, S20, O18, O19, J1, J2, O20). -/
import Derived.Test.YtmcbkdbfaneofaaGreatDoorBA33
import Derived.Test.YtmcbkdbfaneofaaGreatDoorCards
import Derived.Test.YtmcbkdbfaneofaaGreatDoorTie
import Derived.ProofKit
import Derived.OpenShut
import Derived.Deep.DeepHandedRow
import Derived.Lib.LaidTab
set_option maxHeartbeats 4000000
namespace Go.Eng
open Go.Proofs
abbrev mq:Si:=⟨[2],[],[],[],[],[],[],[(50,(9,3,95,3))],[(44,0)],[(100016,1009)],[3,4,5,6,7,8,9,10,11,14,15,16]⟩
abbrev an0:An:=⟨false,[],[],[]⟩
def MT(x:List Rl)(roots:List Rq):An:=if G1 x roots=true∧(FZ x roots).ss.full=false then qO x roots else an0
def MU(x:List Rl)(roots:List Rq):Int:=if G1 x roots=true then if(FZ x roots).ss.full=true then 7 else 0 else 1
abbrev jO(x:List Rl)(roots:List Rq):AV:=.tup [.agg (Th (MT x roots)),vi (MU x roots)]
theorem Hi.an0{v:AV}:Hi (.tup [.agg [vb false,.v (.slice none 0 0),.v (.slice none 0 0),.v (.slice none 0 0)],v]) (.tup [.agg (Th an0),v]) :=
 Hi.tup ⟨Hi.agg ⟨.refl _,.nil,.nil,.nil,trivial⟩,.refl _,trivial⟩
theorem Uu{x:List Rl}{roots:List Rq}(hx:∀r∈x,Jg r)(hr:∀q∈roots,N0 q)(h0:A6 x=0)(h1:Bx roots=0){L:List ByteArray}(hl:L.Perm (AU (yR x) [])){o:Km}(ho:FZ x roots=o) :
  Bj Tryz.prog 97 [.ref 1000 0] (Ap (Jq roots (mC x) (L.map (kA x)) uN [] []) Ab) (Zi roots (mC x) (L.map (kA x)) o):=by
 rw[←ho];exact yN (oH hx hr h0 h1 hl) (x.length+1) (.nil x) (I9.nil roots) ⟨⟨rfl,AF _⟩,Fs⟩ rfl (Nat.lt_succ_of_le (BE _ _)) rfl
theorem kd{x:List Rl}{roots:List Rq}(h:G1 x roots=true):A6 x=0∧Bx roots=0:=by
 unfold G1 at h;rw[Ai,Ay,Ay]at h;exact h
theorem mF(x:List Rl)(ifs:List (List AV))(roots:List Rq)(hx:∀r∈x,Jg r)(hr:∀q∈roots,N0 q)(hv:G1 x roots=false):PC 72 [M8 x ifs,sl AM roots] (.tup [.agg (Th an0),vi 1]):=by
 have TF:=uJ x ifs roots hx hr;rw[hv]at TF;refine Ps mq Tryz.func72 rfl (Nz rfl) ?_;refine Yi ?_ ?_
 ·exact Nz rfl
 refine Xi .pure (Xi _ (Yi TF ?_));refine Yi ?_ ?_
 ·exact Nz rfl
 refine Yi ?_ ?_
 ·exact Nz rfl
 exact Hi.an0
theorem jH(x:List Rl)(ifs:List (List AV))(roots:List Rq)(hx:∀r∈x,Jg r)(hr:∀q∈roots,N0 q)(hv:G1 x roots=true)(h0:A6 x=0)(h1:Bx roots=0)(k:Nat)(infs:List Nf)(drv:List (List Tm))(dec:List Cd)(st:List (List Sk))(ho:FZ x roots=⟨k,false,⟨infs,drv,true⟩,dec,st⟩):PC 72 [M8 x ifs,sl AM roots] (.tup [.agg (Th an0),vi 7]):=by
 have TF:=uJ x ifs roots hx hr;rw[hv]at TF;refine Ps mq Tryz.func72 rfl (Nz rfl) ?_;refine Yi ?_ ?_
 ·exact Nz rfl
 refine Xi .pure (Xi _ (Yi TF ?_));refine Xi ⟨[(1,sl AM roots),(2,.ref 2 0),(4,.ref 4 0)],[(2,.ro (Ic x ifs)),(4,.cells [vb false,.v (.slice none 0 0),.v (.slice none 0 0),.v (.slice none 0 0)])],Ab⟩ (Yi ⟨Z3,Z2,Fh,Tv⟩ ?_)
 refine Yi ?_ ?_
 ·exact Nz rfl
 refine Xi (.gen [] 5) (Yi rfl ((yK x ifs roots hx h0).imp ?_));intro v g q;refine BM q (fun L q=>?_);have q1:=q.2.1;have q2:=q.2.2;have qp:=q.1;subst q1;subst q2;refine Xi ⟨[(4,.ref 4 0),(6,.ref 11900 0)],[(4,.cells [vb false,.v (.slice none 0 0),.v (.slice none 0 0),.v (.slice none 0 0)]),(11900,.cells [sl AM roots,.cmap Dn (mC x),.cmap Dn (L.map (kA x)),.slice (.id 11901 6) [],.slice (.id 11902 1) [],.mref 11903,vb false,.slice .none [],.slice .none [],.msl 11904 0]),(11901,.tok 6 0),(11902,.tok 1 0),(11903,.map D4 []),(11904,.arr 1 [])],Ab⟩ (Yi ⟨Z2,Z6,Fh,Tv⟩ ?_)
 refine Xi (.gen [(11900,1000),(11901,1001),(11902,1002),(11903,1003),(11904,1004)] 1) (Yi rfl ((Uu hx hr h0 h1 qp ho).imp ?_));intro v g q;have q1:=q.1;have q2:=q.2;subst q1;subst q2;refine Xi ⟨[(4,.ref 4 0),(6,.ref 11900 0),(7,vi (k:Nat)),(8,vb false)],[(4,.cells [vb false,.v (.slice none 0 0),.v (.slice none 0 0),.v (.slice none 0 0)]),(11900,.cells [sl AM roots,.cmap Dn (mC x),.cmap Dn (L.map (kA x)),.slice (.id 11901 6) (infs.map B4),.slice (.id 11902 1) (drv.map Cj),.mref 11903,vb true,sl AI dec,sl Ae (AO dec),.msl 12200 st.length]),(11901,.tok 6 infs.length),(11902,.tok 1 drv.length),(11903,.map D4 (D6 0 infs)),(12200,.arr 1 (st.map AX))],Ab⟩ (Yi ⟨Z4,Z6,Fh,Tv⟩ ?_)
 refine Yi (fun _=>?_) (fun h=>by cases h);refine Xi ⟨[(4,.ref 4 0)],[(4,.cells [vb false,.v (.slice none 0 0),.v (.slice none 0 0),.v (.slice none 0 0)])],Ab⟩ (Yi ⟨Z1,Z1,Fh,Tv⟩ ?_)
 refine Yi ?_ ?_
 ·exact Nz rfl
 refine Yi ?_ ?_
 ·exact Nz rfl
 exact Hi.an0
theorem pU(x:List Rl)(ifs:List (List AV))(roots:List Rq)(hx:∀r∈x,Jg r)(hr:∀q∈roots,N0 q)(hv:G1 x roots=true)(h0:A6 x=0)(h1:Bx roots=0)(k:Nat)(infs:List Nf)(drv:List (List Tm))(dec:List Cd)(st:List (List Sk))(ho:FZ x roots=⟨k,false,⟨infs,drv,false⟩,dec,st⟩)(hk:k<infs.length)(hl:infs.length≤65536):PC 72 [M8 x ifs,sl AM roots] (.tup [.agg (Th ⟨false,[],infs.take (k+1),[]⟩),vi 0]):=by
 have TF:=uJ x ifs roots hx hr;rw[hv]at TF;refine Ps mq Tryz.func72 rfl (Nz rfl) ?_;refine Yi ?_ ?_
 ·exact Nz rfl
 refine Xi .pure (Xi _ (Yi TF ?_));refine Xi ⟨[(1,sl AM roots),(2,.ref 2 0),(4,.ref 4 0)],[(2,.ro (Ic x ifs)),(4,.cells [vb false,.v (.slice none 0 0),.v (.slice none 0 0),.v (.slice none 0 0)])],Ab⟩ (Yi ⟨Z3,Z2,Fh,Tv⟩ ?_)
 refine Yi ?_ ?_
 ·exact Nz rfl
 refine Xi (.gen [] 5) (Yi rfl ((yK x ifs roots hx h0).imp ?_));intro v g q;refine BM q (fun L q=>?_);have q1:=q.2.1;have q2:=q.2.2;have qp:=q.1;subst q1;subst q2;refine Xi ⟨[(4,.ref 4 0),(6,.ref 11900 0)],[(4,.cells [vb false,.v (.slice none 0 0),.v (.slice none 0 0),.v (.slice none 0 0)]),(11900,.cells [sl AM roots,.cmap Dn (mC x),.cmap Dn (L.map (kA x)),.slice (.id 11901 6) [],.slice (.id 11902 1) [],.mref 11903,vb false,.slice .none [],.slice .none [],.msl 11904 0]),(11901,.tok 6 0),(11902,.tok 1 0),(11903,.map D4 []),(11904,.arr 1 [])],Ab⟩ (Yi ⟨Z2,Z6,Fh,Tv⟩ ?_)
 refine Xi (.gen [(11900,1000),(11901,1001),(11902,1002),(11903,1003),(11904,1004)] 1) (Yi rfl ((Uu hx hr h0 h1 qp ho).imp ?_));intro v g q;have q1:=q.1;have q2:=q.2;subst q1;subst q2;refine Xi ⟨[(4,.ref 4 0),(6,.ref 11900 0),(7,vi (k:Nat)),(8,vb false)],[(4,.cells [vb false,.v (.slice none 0 0),.v (.slice none 0 0),.v (.slice none 0 0)]),(11900,.cells [sl AM roots,.cmap Dn (mC x),.cmap Dn (L.map (kA x)),.slice (.id 11901 6) (infs.map B4),.slice (.id 11902 1) (drv.map Cj),.mref 11903,vb false,sl AI dec,sl Ae (AO dec),.msl 12200 st.length]),(11901,.tok 6 infs.length),(11902,.tok 1 drv.length),(11903,.map D4 (D6 0 infs)),(12200,.arr 1 (st.map AX))],Ab⟩ (Yi ⟨Z4,Z6,Fh,Tv⟩ ?_)
 refine Yi (fun h=>by cases h) (fun _=>?_);refine Xi ⟨[(4,.ref 4 0),(6,.ref 11900 0),(7,vi (k:Nat)),(8,vb false)],[(4,.cells [vb false,.v (.slice none 0 0),.v (.slice none 0 0),.v (.slice none 0 0)]),(11900,.cells [sl AM roots,.cmap Dn (mC x),.cmap Dn (L.map (kA x)),.slice (.id 11901 6) (infs.map B4),.slice (.id 11902 1) (drv.map Cj),.mref 11903,vb false,sl AI dec,sl Ae (AO dec),.msl 12200 st.length]),(11901,.tok 6 infs.length),(11902,.tok 1 drv.length),(11903,.map D4 (D6 0 infs)),(12200,.arr 1 (st.map AX))],Ab⟩ (Yi ⟨Z4,Z6,Fh,Tv⟩ ?_)
 refine Xi ⟨[(4,.ref 4 0),(6,.ref 11900 0),(7,vi (k:Nat))],[(4,.cells [vb false,.v (.slice none 0 0),.v (.slice none 0 0),.v (.slice none 0 0)]),(11900,.cells [sl AM roots,.cmap Dn (mC x),.cmap Dn (L.map (kA x)),.slice (.id 11901 6) (infs.map B4),.slice (.id 11902 1) (drv.map Cj),.mref 11903,vb false,sl AI dec,sl Ae (AO dec),.msl 12200 st.length]),(11901,.tok 6 infs.length),(11902,.tok 1 drv.length),(11903,.map D4 (D6 0 infs)),(12200,.arr 1 (st.map AX))],Ab⟩ (Yi ⟨Z3,Z6,Fh,Tv⟩ ?_)
 refine Yi (Ii k (by omega)) ?_;have el:(infs.map B4).length=infs.length:=Lm ..;refine Yi ⟨AZ _,by show(0:Int)≤(k:Int)+1;omega,by show(k:Int)+1≤((infs.map B4).length:Int);rw[el];omega⟩ ?_;refine Yi (fun cs hcs=>by obtain⟨i,_,rfl⟩:=Ao.1 hcs;rfl) ?_;refine Yi ?_ ?_
 ·exact Nz rfl
 refine Yi ?_ ?_
 ·exact Nz rfl
 have et:((infs.map B4).take ((k:Int)+1).toNat).drop (0:Int).toNat=(infs.take (k+1)).map B4:=by
  rw[show((k:Int)+1).toNat=k+1 by omega];simp
 exact Hi.tup ⟨Hi.agg ⟨.refl _,.nil,.of_eq (show AV.slice .none (((infs.map B4).take ((k:Int)+1).toNat).drop (0:Int).toNat)=_ by rw[et]),.nil,trivial⟩,.refl _,trivial⟩
theorem VG(y:Sl):∀l:List Sl,(UX y l).Perm (y::l)
 | []=>.refl _
 |z::l=>by
  unfold UX;split
  ·exact .refl _
  ·exact((VG y l).cons z).trans (List.Perm.swap y z l)
theorem Uv:∀l:List Sl,(Gg l).Perm l
 | []=>.refl _
 |y::l=>(VG y _).trans ((Uv l).cons y)
theorem X3{b:Nat}:∀{st:List (List Sk)},(∀s∈st,s.length≤b)→st.flatten.length≤b*st.length
 | [],_=>by simp
 |s::st,h=>by
  rw[BI,Ad,Av,Nat.mul_succ]
  have:=h s (Ac ..)
  have:=X3 (st:=st) fun t ht=>h t (Ah _ ht)
  omega
theorem jM{st:List (List Sk)}(h:st.length≤256)(hs:∀s∈st,s.length≤256)(i:Nat):((st.take i).flatten).length≤65536:=by
 have h1:=X3 (b:=256) (st:=st.take i) fun s Xo=>hs s (ED Xo)
 have:(st.take i).length≤256:=by rw[AH];omega
 omega
theorem mG(x:List Rl)(ifs:List (List AV))(roots:List Rq)(hx:∀r∈x,Jg r)(hr:∀q∈roots,N0 q)(hv:G1 x roots=true)(h0:A6 x=0)(h1:Bx roots=0)(k:Nat)(infs:List Nf)(drv:List (List Tm))(dec:List Cd)(st:List (List Sk))(ho:FZ x roots=⟨k,true,⟨infs,drv,false⟩,dec,st⟩)(hd:dec.length≤256)(hn:((AO dec).map (·.path)).Nodup)(JH:st.length≤256)(zW:∀s∈st,s.length≤256):PC 72 [M8 x ifs,sl AM roots] (.tup [.agg (Th ⟨true,Gg (AO dec),infs,st.flatten⟩),vi 0]):=by
 have TF:=uJ x ifs roots hx hr;rw[hv]at TF;refine Ps mq Tryz.func72 rfl (Nz rfl) ?_;refine Yi ?_ ?_
 ·exact Nz rfl
 refine Xi .pure (Xi _ (Yi TF ?_));refine Xi ⟨[(1,sl AM roots),(2,.ref 2 0),(4,.ref 4 0)],[(2,.ro (Ic x ifs)),(4,.cells [vb false,.v (.slice none 0 0),.v (.slice none 0 0),.v (.slice none 0 0)])],Ab⟩ (Yi ⟨Z3,Z2,Fh,Tv⟩ ?_)
 refine Yi ?_ ?_
 ·exact Nz rfl
 refine Xi (.gen [] 5) (Yi rfl ((yK x ifs roots hx h0).imp ?_));intro v g q;refine BM q (fun L q=>?_);have q1:=q.2.1;have q2:=q.2.2;have qp:=q.1;subst q1;subst q2;refine Xi ⟨[(4,.ref 4 0),(6,.ref 11900 0)],[(4,.cells [vb false,.v (.slice none 0 0),.v (.slice none 0 0),.v (.slice none 0 0)]),(11900,.cells [sl AM roots,.cmap Dn (mC x),.cmap Dn (L.map (kA x)),.slice (.id 11901 6) [],.slice (.id 11902 1) [],.mref 11903,vb false,.slice .none [],.slice .none [],.msl 11904 0]),(11901,.tok 6 0),(11902,.tok 1 0),(11903,.map D4 []),(11904,.arr 1 [])],Ab⟩ (Yi ⟨Z2,Z6,Fh,Tv⟩ ?_)
 refine Xi (.gen [(11900,1000),(11901,1001),(11902,1002),(11903,1003),(11904,1004)] 1) (Yi rfl ((Uu hx hr h0 h1 qp ho).imp ?_));intro v g q;have q1:=q.1;have q2:=q.2;subst q1;subst q2;refine Xi ⟨[(4,.ref 4 0),(6,.ref 11900 0),(7,vi (k:Nat)),(8,vb true)],[(4,.cells [vb false,.v (.slice none 0 0),.v (.slice none 0 0),.v (.slice none 0 0)]),(11900,.cells [sl AM roots,.cmap Dn (mC x),.cmap Dn (L.map (kA x)),.slice (.id 11901 6) (infs.map B4),.slice (.id 11902 1) (drv.map Cj),.mref 11903,vb false,sl AI dec,sl Ae (AO dec),.msl 12200 st.length]),(11901,.tok 6 infs.length),(11902,.tok 1 drv.length),(11903,.map D4 (D6 0 infs)),(12200,.arr 1 (st.map AX))],Ab⟩ (Yi ⟨Z4,Z6,Fh,Tv⟩ ?_)
 refine Yi (fun h=>by cases h) (fun _=>?_);refine Xi ⟨[(4,.ref 4 0),(6,.ref 11900 0),(8,vb true)],[(4,.cells [vb false,.v (.slice none 0 0),.v (.slice none 0 0),.v (.slice none 0 0)]),(11900,.cells [sl AM roots,.cmap Dn (mC x),.cmap Dn (L.map (kA x)),.slice (.id 11901 6) (infs.map B4),.slice (.id 11902 1) (drv.map Cj),.mref 11903,vb false,sl AI dec,sl Ae (AO dec),.msl 12200 st.length]),(11901,.tok 6 infs.length),(11902,.tok 1 drv.length),(11903,.map D4 (D6 0 infs)),(12200,.arr 1 (st.map AX))],Ab⟩ (Yi ⟨Z3,Z6,Fh,Tv⟩ ?_)
 refine Xi ⟨[(4,.ref 4 0),(6,.ref 11900 0)],[(4,.cells [vb false,.v (.slice none 0 0),.v (.slice none 0 0),.v (.slice none 0 0)]),(11900,.cells [sl AM roots,.cmap Dn (mC x),.cmap Dn (L.map (kA x)),.slice (.id 11901 6) (infs.map B4),.slice (.id 11902 1) (drv.map Cj),.mref 11903,vb false,sl AI dec,sl Ae (AO dec),.msl 12200 st.length]),(11901,.tok 6 infs.length),(11902,.tok 1 drv.length),(11903,.map D4 (D6 0 infs)),(12200,.arr 1 (st.map AX))],Ab⟩ (Yi ⟨Z2,Z6,Fh,Tv⟩ ?_)
 have qr:(AO dec).length≤256:=by rw[Lm];exact hd
 have br:Ci (AO dec):=AT qr (by decide);refine Xi (AO dec).length (Xi 4 (Xi ((AO dec).map Ae) (Yi rfl (Yi (tM (AO dec) br) ?_))));refine Yi ?_ ?_
 ·exact Nz rfl
 refine Yi (by kernel_rfl) ?_;refine Xi ⟨[(4,.ref 4 0),(6,.ref 11900 0),(9,.ref 9 0)],[(4,.cells [vb false,.v (.slice none 0 0),.v (.slice none 0 0),.v (.slice none 0 0)]),(9,.cells [vb true,.msl 14400 (AO dec).length,.slice (.id 11901 6) (infs.map B4),.v (.slice none 0 0)]),(11900,.cells [sl AM roots,.cmap Dn (mC x),.cmap Dn (L.map (kA x)),.slice (.id 11901 6) (infs.map B4),.slice (.id 11902 1) (drv.map Cj),.mref 11903,vb false,sl AI dec,sl Ae (AO dec),.msl 12200 st.length]),(11901,.tok 6 infs.length),(11902,.tok 1 drv.length),(11903,.map D4 (D6 0 infs)),(12200,.arr 1 (st.map AX)),(14400,.arr 4 ((AO dec).map Ae))],Ab⟩ (Yi ⟨Z3,Z8,Fh,Tv⟩ ?_)
 refine Xi (.gen [(14400,1000)] 0) (Yi rfl ((s47 99 Tryz.closure99 (enters_of Tryz.func99 (by kernel_rfl) rfl) (AO dec) br hn).imp ?_));intro v g q;have q1:=q.1;have q2:=q.2;subst q1;subst q2;refine Xi ⟨[(4,.ref 4 0),(6,.ref 11900 0),(9,.ref 9 0)],[(4,.cells [vb false,.v (.slice none 0 0),.v (.slice none 0 0),.v (.slice none 0 0)]),(9,.cells [vb true,.msl 14400 (AO dec).length,.slice (.id 11901 6) (infs.map B4),.slice (.id 95 3) []]),(95,.tok 3 0),(11900,.cells [sl AM roots,.cmap Dn (mC x),.cmap Dn (L.map (kA x)),.slice (.id 11901 6) (infs.map B4),.slice (.id 11902 1) (drv.map Cj),.mref 11903,vb false,sl AI dec,sl Ae (AO dec),.msl 12200 st.length]),(11901,.tok 6 infs.length),(11902,.tok 1 drv.length),(11903,.map D4 (D6 0 infs)),(12200,.arr 1 (st.map AX)),(14400,.arr 4 ((Gg (AO dec)).map Ae))],Ab⟩ (Yi ⟨Z3,Z9,Fh,Tv⟩ ?_)
 refine Xi {i:Nat // i≤st.length} (Xi (fun i=>⟨[(4,.ref 4 0),(6,.ref 11900 0),(9,.ref 9 0),(56,.msl 12200 st.length),(57,vi (st.length:Nat)),(58,vi i.1)],[(4,.cells [vb false,.v (.slice none 0 0),.v (.slice none 0 0),.v (.slice none 0 0)]),(9,.cells [vb true,.msl 14400 (AO dec).length,.slice (.id 11901 6) (infs.map B4),.slice (.id 95 3) ((st.take i.1).flatten.map B2)]),(95,.tok 3 ((st.take i.1).flatten.map B2).length),(11900,.cells [sl AM roots,.cmap Dn (mC x),.cmap Dn (L.map (kA x)),.slice (.id 11901 6) (infs.map B4),.slice (.id 11902 1) (drv.map Cj),.mref 11903,vb false,sl AI dec,sl Ae (AO dec),.msl 12200 st.length]),(11901,.tok 6 infs.length),(11902,.tok 1 drv.length),(11903,.map D4 (D6 0 infs)),(12200,.arr 1 (st.map AX)),(14400,.arr 4 ((Gg (AO dec)).map Ae))],Ab⟩) (Xi (fun i=>st.length-i.1) (Yi (Xi ⟨0,AF _⟩ ?_) ?_)))
 ·exact⟨Z6,Z9,Fh,Tv⟩
 intro⟨i,i1⟩;have i1:i≤st.length:=i1;refine Yi ?_ ?_
 ·intro h;have h:(i:Int)<(st.length:Nat):=h;have h:i<st.length:=by omega
  have hg:st[i]?=some st[i]:=Ge h;have KU:st.take (i+1)=st.take i++[st[i]]:=by rw[BA,hg];rfl
  refine Yi (Yi (Nn i) (by show(i:Int)<(st.length:Nat);omega)) ?_;refine Yi (by rw[Lm]) (Xi (AX st[i]) (Yi (by show(st.map AX)[((i:Nat):Int).toNat]?=_;rw[Bl,AJ,hg];rfl) ?_));refine Xi ⟨[(4,.ref 4 0),(6,.ref 11900 0),(9,.ref 9 0),(11,sl B2 st[i]),(56,.msl 12200 st.length),(57,vi (st.length:Nat)),(58,vi i)],[(4,.cells [vb false,.v (.slice none 0 0),.v (.slice none 0 0),.v (.slice none 0 0)]),(9,.cells [vb true,.msl 14400 (AO dec).length,.slice (.id 11901 6) (infs.map B4),.slice (.id 95 3) ((st.take i).flatten.map B2)]),(95,.tok 3 ((st.take i).flatten.map B2).length),(11900,.cells [sl AM roots,.cmap Dn (mC x),.cmap Dn (L.map (kA x)),.slice (.id 11901 6) (infs.map B4),.slice (.id 11902 1) (drv.map Cj),.mref 11903,vb false,sl AI dec,sl Ae (AO dec),.msl 12200 st.length]),(11901,.tok 6 infs.length),(11902,.tok 1 drv.length),(11903,.map D4 (D6 0 infs)),(12200,.arr 1 (st.map AX)),(14400,.arr 4 ((Gg (AO dec)).map Ae))],Ab⟩ (Yi ⟨Z7,Z9,Fh,Tv⟩ ?_)
  have hfl:((st.take i).flatten).length≤65536∧st[i].length≤256:=⟨jM JH zW i,zW _ (Ak _)⟩;have F3:Da 3 (st[i].map B2)∧((st.take i).flatten.map B2).length=((st.take i).flatten.map B2).length∧(((st.take i).flatten.map B2).length+(st[i].map B2).length)*32≤140737488355328∧((st.take i).flatten.map B2).length+(st[i].map B2).length≤9223372036854775807:=by
   refine⟨EN (enc:=B2) (n:=3) (fun _=>rfl) _,rfl,?_,?_⟩<;>simp only[Lm]<;>omega
  refine Yi F3 ?_;refine Yi ?_ ?_
  ·exact Nz rfl
  have ef:((st.take i).flatten.map B2)++st[i].map B2=((st.take (i+1)).flatten.map B2):=by rw[KU,CU,AG];simp
  have en:((st.take i).flatten.map B2).length+(st[i].map B2).length=((st.take (i+1)).flatten.map B2).length:=by rw[←ef,Ad]
  refine Xi ⟨[(4,.ref 4 0),(6,.ref 11900 0),(9,.ref 9 0),(56,.msl 12200 st.length),(57,vi (st.length:Nat)),(58,vi i)],[(4,.cells [vb false,.v (.slice none 0 0),.v (.slice none 0 0),.v (.slice none 0 0)]),(9,.cells [vb true,.msl 14400 (AO dec).length,.slice (.id 11901 6) (infs.map B4),.slice (.id 95 3) ((st.take (i+1)).flatten.map B2)]),(95,.tok 3 ((st.take (i+1)).flatten.map B2).length),(11900,.cells [sl AM roots,.cmap Dn (mC x),.cmap Dn (L.map (kA x)),.slice (.id 11901 6) (infs.map B4),.slice (.id 11902 1) (drv.map Cj),.mref 11903,vb false,sl AI dec,sl Ae (AO dec),.msl 12200 st.length]),(11901,.tok 6 infs.length),(11902,.tok 1 drv.length),(11903,.map D4 (D6 0 infs)),(12200,.arr 1 (st.map AX)),(14400,.arr 4 ((Gg (AO dec)).map Ae))],Ab⟩ (Yi ⟨Z6,⟨Zr,⟨Aa (fun z=>HO.cells [vb true,.msl 14400 (AO dec).length,.slice (.id 11901 6) (infs.map B4),.slice (.id 95 3) z]) ef,rfl⟩,⟨Aa (HO.tok 3) en,rfl⟩,Zr,Zr,Zr,Zr,Zr,Zr,Tv⟩,Fh,Tv⟩ ?_)
  refine Yi (Ii i (by omega)) ?_;refine Xi ⟨i+1,by omega⟩ ?_;exact⟨Dl st.length i (by omega),Z6,Z9,Fh,Tv⟩
 ·intro h;have h:¬(i:Int)<(st.length:Nat):=h;have et:st.take i=st:=AL (by omega);have WV:(AO dec).length=((Gg (AO dec)).map Ae).length:=(Uv (AO dec)).length_eq.symm.trans (Lm ..).symm;refine Yi WV ?_;refine Xi ⟨[(4,.ref 4 0),(9,.ref 9 0)],[(4,.cells [vb false,.v (.slice none 0 0),.v (.slice none 0 0),.v (.slice none 0 0)]),(9,.cells [vb true,.slice (.id 14400 4) ((Gg (AO dec)).map Ae),.slice (.id 11901 6) (infs.map B4),.slice (.id 95 3) (st.flatten.map B2)]),(95,.tok 3 (st.flatten.map B2).length),(11901,.tok 6 infs.length),(14400,.tok 4 ((Gg (AO dec)).map Ae).length)],Ab⟩ (Yi ⟨Z2,⟨Zr,⟨Aa (fun z:List (List Sk)=>HO.cells [vb true,.slice (.id 14400 4) ((Gg (AO dec)).map Ae),.slice (.id 11901 6) (infs.map B4),.slice (.id 95 3) (z.flatten.map B2)]) et,rfl⟩,⟨Aa (fun z:List (List Sk)=>HO.tok 3 (z.flatten.map B2).length) et,rfl⟩,Zr,Zr,Tv⟩,Fh,Tv⟩ ?_)
  refine Yi ?_ ?_
  ·exact Nz rfl
  refine Yi ?_ ?_
  ·exact Nz rfl
  refine Yi ?_ ?_
  ·exact Nz rfl
  exact .refl _
theorem QV{s:SS}{b:List Cd}{p:ByteArray}{needs:List Nd}:∀{cs:List Cd} {sk:List Sk},Hd s b p needs cs sk→sk.length≤cs.length
 | [],sk,h=>by
  have h:sk=[]:=h;rw[h];exact Am _
 |c::cs,sk,h=>by
  have h:if(needs.all fun n=>has n.rq.set c.place)=true then _ else _:=h
  by_cases hc:(needs.all fun n=>has n.rq.set c.place)=true
  ·rw[Au hc]at h;obtain⟨k,rest,rfl,_,h3⟩:=h
   have:=QV h3
   simp only[Av];omega
  ·rw[Al hc]at h
   have:=QV h
   simp only[Av];omega
theorem Vn{x:List Rl}{roots:List Rq}{s:SS}:∀{t:List Cd} {sl:List (List Sk)} {b:List Cd},SE x roots s b t sl→sl.length=t.length∧∀k∈sl,k.length≤x.length
 | [],[],_,_=>⟨rfl,fun _ h=>by cases h⟩
 | [],_::_,_,h=>h.elim
 |_::_,[],_,h=>h.elim
 |c::t,sk::sl,b,⟨⟨p,needs,pre,post,hs⟩,h⟩=>by
  obtain⟨h1,h2⟩:=Vn h;refine⟨by simp[h1],fun k hk=>?_⟩;rcases AC.1 hk with rfl | hk
  ·have e1:=QV hs.skips;have e2:=Vk x p;rw[hs.cands,Ad]at e2;omega
  ·exact h2 k hk
theorem s21(x:List Rl)(ifs:List (List AV))(roots:List Rq)(hx:∀r∈x,Jg r)(hr:∀q∈roots,N0 q):PC 72 [M8 x ifs,sl AM roots] (jO x roots):=by
 unfold jO MT MU;cases hv:G1 x roots with
 |false=>simpa using mF x ifs roots hx hr hv
 |true =>
  obtain⟨h0,h1⟩:=kd hv;have hR:=eF h0 h1;have il:=(QB h0).1;have hA:qO x roots=if(FZ x roots).found=true then⟨true,Gg (AO (FZ x roots).dec),(FZ x roots).ss.infs,(FZ x roots).stack.flatten⟩else⟨false,[],(FZ x roots).ss.infs.take ((FZ x roots).res+1),[]⟩:=rfl
  rw[hA];generalize ho:FZ x roots=o at hR⊢;obtain⟨k,b,⟨infs,drv,full⟩,dec,st⟩:=o;have hl:infs.length≤65536:=hR.der.len;have hdl:drv.length=infs.length:=hR.der.dlen;cases b with
  |false =>
   cases full with
   |true=>simpa using jH x ifs roots hx hr hv h0 h1 k infs drv dec st ho
   |false =>
    have hk:k<drv.length:=((hR.no rfl).2.2 rfl).1;simpa using pU x ifs roots hx hr hv h0 h1 k infs drv dec st ho (by omega) hl
  |true =>
   obtain⟨hf,t,sl,e1,e2,hC,_⟩:=hR.yes rfl;have hf:full=false:=hf;subst hf;have e1:dec=[]++t:=e1;have e2:st=[]++sl:=e2;rw[Ep]at e1 e2;subst e1;subst e2;have hD:ER x ([]++dec):=(SE.ok (.nil x) (.nil roots) hC).1;rw[Ep]at hD;have hdx:=XP hD;obtain⟨c1,c2⟩:=Vn hC;have hn:((AO dec).map (·.path)).Nodup:=by rw[Oi];exact hD.nodup
   simpa using mG x ifs roots hx hr hv h0 h1 k infs drv dec st ho (by omega) hn (by omega) (fun s hs=>AT (c2 s hs) il)
def eu(x:List Rl)(roots:List Rq):Int:=if MU x roots≠0 then MU x roots else if(MT x roots).found=true then 0 else 17
def jJ(x:List Rl)(roots:List Rq):List Sl:=if eu x roots=0 then(MT x roots).sel else []
abbrev xV:Si:=⟨[2],[],[],[],[],[],[],[],[],[],[]⟩
theorem pT(x:List Rl)(ifs:List (List AV))(roots:List Rq)(a:An)(e:Int)(h:PC 72 [M8 x ifs,sl AM roots] (.tup [.agg (Th a),vi e])) :
  PC 30 [M8 x ifs,sl AM roots] (.tup [if e≠0 then sl Ae []else if a.found=true then sl Ae a.sel else sl Ae [],vi (if e≠0 then e else if a.found=true then 0 else 17)]):=by
 refine Ps xV Tryz.func30 rfl (Nz rfl) ?_;refine Yi ?_ ?_
 ·exact Nz rfl
 refine Xi .pure (Xi _ (Yi h ?_));refine Yi ?_ ?_
 ·exact Nz rfl
 refine Yi (fun he=>?_) (fun he=>?_)
 ·have he:¬e=0:=he;have e1:AV.tup [sl Ae [],vi e]=.tup [if e≠0 then sl Ae []else if a.found=true then sl Ae a.sel else sl Ae [],vi (if e≠0 then e else if a.found=true then 0 else 17)]:=by rw[Au he,Au he]
  exact(show Hi (.tup [.v (.slice none 0 0),vi e]) (.tup [sl Ae ([]:List Sl),vi e])from Hi.tup ⟨.nil,.refl _,trivial⟩).trans (.of_eq e1)
 ·have he:e=0:=B1.1 he;have DM:¬e≠0:=fun h=>h he;refine Yi (fun hb=>?_) (fun hb=>?_)
  ·have hb:a.found=true:=hb;have e1:AV.tup [sl Ae a.sel,vi 0]=.tup [if e≠0 then sl Ae []else if a.found=true then sl Ae a.sel else sl Ae [],vi (if e≠0 then e else if a.found=true then 0 else 17)]:=by rw[Al DM,Al DM,Au hb,Au hb]
   exact .of_eq e1
  ·have hb:a.found=false:=hb;have hb:¬a.found=true:=by rw[hb];decide
   have e1:AV.tup [sl Ae [],vi 17]=.tup [if e≠0 then sl Ae []else if a.found=true then sl Ae a.sel else sl Ae [],vi (if e≠0 then e else if a.found=true then 0 else 17)]:=by rw[Al DM,Al DM,Al hb,Al hb]
   exact(show Hi (.tup [.v (.slice none 0 0),vi 17]) (.tup [sl Ae ([]:List Sl),vi 17])from Hi.tup ⟨.nil,.refl _,trivial⟩).trans (.of_eq e1)
theorem s16(x:List Rl)(ifs:List (List AV))(roots:List Rq)(hx:∀r∈x,Jg r)(hr:∀q∈roots,N0 q):PC 30 [M8 x ifs,sl AM roots] (.tup [sl Ae (jJ x roots),vi (eu x roots)]):=by
 have h:=pT x ifs roots _ _ (s21 x ifs roots hx hr);have e1:(if MU x roots≠0 then sl Ae []else if(MT x roots).found=true then sl Ae (MT x roots).sel else sl Ae [])=sl Ae (jJ x roots):=by
  unfold jJ eu
  by_cases h1:MU x roots=0
  ·by_cases h2:(MT x roots).found=true
   ·simp[h1,h2]
   ·simp[h1,h2]
  ·simp[h1]
 have e2:(if MU x roots≠0 then MU x roots else if(MT x roots).found=true then 0 else 17)=eu x roots:=rfl;rw[e1,e2]at h;exact h
instance:DecidableEq Mv:=fun x y=>decidable_of_iff (x.path=y.path∧x.a=y.a∧x.b=y.b) ⟨fun⟨h1,h2,h3⟩=>by cases x;cases y;simp_all,fun h=>by subst h;exact⟨rfl,rfl,rfl⟩⟩
theorem sY{a b:Mv}(h:a.path=b.path∧a.a=b.a∧a.b=b.b∧True):a=b:=by cases a;cases b;simp_all
theorem sZ{a b:Mv}(h:¬(a.path=b.path∧a.a=b.a∧a.b=b.b∧True)):a≠b:=fun e=>h (by subst e;exact⟨rfl,rfl,rfl,trivial⟩)
theorem o35(a b:List Mv)(ha:Ci a):PC 35 [sl E2 a,sl E2 b] (vb (decide (a=b))):=by
 have rP:a.length≤1073741824:=ha;refine Ps ⟨[],[],[],[],[],[],[],[],[],[],[7,8]⟩ Tryz.func35 rfl (Nz rfl) ?_;refine Yi (fun h1=>?_) (fun h1=>?_)
 ·have h1:((a.map E2).length:Int)≠((b.map E2).length:Int):=h1;exact .of_eq (show vb false=vb (decide (a=b)) by rw[Aj (fun e=>absurd (Aa (fun z=>((z.map E2).length:Int)) e) h1)])
 have h1:((a.map E2).length:Int)=((b.map E2).length:Int):=A9 h1;have hl:a.length=b.length:=by have q:=h1;rw[Lm,Lm]at q;omega
 refine Xi {q:Nat // q≤a.length∧∀j (hj:j<a.length),j<q→a[j]=b[j]'(hl▸hj)} (Xi (fun q=>⟨[(0,sl E2 a),(1,sl E2 b),(12,vi (a.map E2).length),(13,vi q.1)],[],Ab⟩) (Xi (fun q=>a.length-q.1) (Yi (Xi ⟨0,AF _,fun _ _ h=>absurd h (Cr _)⟩ ?_) ?_)))
 ·exact⟨Z4,Tv,Fh,Tv⟩
 intro⟨i,i1,i2⟩;have i1:i≤a.length:=i1;have i2:∀j (hj:j<a.length),j<i→a[j]=b[j]'(hl▸hj):=i2;refine Yi (fun h3=>?_) (fun h3=>?_)
 ·have h3:(i:Int)<((a.map E2).length:Int):=h3;have n3:=Iy h3;have c8:i<b.length:=by have q:=h3;rw[Lm]at q;omega
  refine Xi (E2 a[i]) (Yi (J3 n3) (Yi rfl ?_));refine Yi (Nz rfl) ?_;refine Xi (E2 b[i]) (Yi (J3 c8) (Yi rfl ?_));refine Yi (Nz rfl) ?_;refine Yi (fun h4=>?_) (fun h4=>?_)
  ·have h4:(a[i].path:ByteArray)=b[i].path∧(a[i].a:Int)=b[i].a∧(a[i].b:Int)=b[i].b∧True:=h4;refine Yi (by kernel_rfl) ?_;refine Xi ⟨[(0,sl E2 a),(1,sl E2 b),(12,vi (a.map E2).length),(13,vi i)],[],Ab⟩ (Yi ⟨Z4,Tv,Fh,Tv⟩ ?_)
   refine Yi (Ii i (by omega)) ?_;refine Xi ⟨i+1,n3,fun j hj GF=>if e:j<i then i2 j hj e else by
     have e:j=i:=by omega
     subst e;exact sY h4⟩ ?_
   exact⟨Dl a.length i (by omega),Z4,Tv,Fh,Tv⟩
  have h4:¬((a[i].path:ByteArray)=b[i].path∧(a[i].a:Int)=b[i].a∧(a[i].b:Int)=b[i].b∧True):=h4;refine Yi (by kernel_rfl) ?_;refine Xi ⟨[],[],Ab⟩ (Yi ⟨Tv,Tv,Fh,Tv⟩ ?_)
  exact .of_eq (show vb false=vb (decide (a=b)) by rw[Aj (XF (i:=i) (ha:=n3) (hb:=c8) (sZ h4))])
 have h3:¬((i:Int)<((a.map E2).length:Int)):=h3;have n3:=Ix h3;exact .of_eq (show vb true=vb (decide (a=b)) by rw[At (Sx hl fun j hj=>i2 j hj (by have q:=h3;rw[Lm]at q;omega))])
abbrev pa:ByteArray:=⟨#[97,47,118,49]⟩
abbrev pb:ByteArray:=⟨#[98,47,118,49]⟩
abbrev mL(m:Int):Ver:=⟨1,m,0⟩
abbrev Xc(p:ByteArray)(m:Int)(q:List Rq)(y:Bool):Rl:=⟨p,mL m,q,mt,mt,mt,y⟩
abbrev uF:List Rq:=[⟨pb,[(1000,1000000)]⟩]
abbrev kw:List Rl:=[Xc pa 0 uF false,Xc pb 0 [] false,Xc pb 1 [] false,Xc pb 2 [] true]
abbrev ft:List Rl:=[Xc pa 0 uF false,Xc pb 2 [] false]
abbrev Wd:Wk:=⟨[],[⟨pb,mL 1⟩],[⟨pb,mL 2⟩]⟩
abbrev mw:List Rq:=[⟨pa,[(0,1000000)]⟩]
abbrev tQ:List Sl:=[⟨pa,mL 0⟩,⟨pb,mL 1⟩]
abbrev tV:List Sl:=[⟨pa,mL 0⟩,⟨pb,mL 2⟩]
abbrev qC:List Mv:=[⟨pb,1000,2000⟩]
theorem mY:∀r∈kw,Jg r :=
 BD.2 ⟨⟨by decide,by decide⟩,BD.2 ⟨⟨by decide,by decide⟩,BD.2 ⟨⟨by decide,by decide⟩,BD.2 ⟨⟨by decide,by decide⟩,BV _⟩⟩⟩⟩
theorem oK:∀r∈ft,Jg r :=
 BD.2 ⟨⟨by decide,by decide⟩,BD.2 ⟨⟨by decide,by decide⟩,BV _⟩⟩
abbrev LE:AV:=.v (.slice none 0 0)
abbrev bR(p:ByteArray)(b:Int)(y:Bool):List AV:=[vs p,vi 1,vi b,vi 0,LE,vs mt,vs mt,vs mt,vb y]
abbrev p7:List AV:=[.slice .none [Ag (Xc pa 0 uF false),bR pb 0 false,bR pb 1 false,bR pb 2 true],LE]
abbrev aP:List AV:=[LE,sl Ae Wd.exc,sl Ae Wd.pin]
theorem cg:Hi (.agg p7) (M8 kw []) :=
 have h (p:ByteArray) (b:Int) (y:Bool):Nv (bR p b y) (Ag (Xc p b [] y)):=⟨.refl _,.refl _,.refl _,.refl _,.nil,.refl _,.refl _,.refl _,.refl _,trivial⟩
 Hi.agg ⟨Hi.slice ⟨.refl _,h pb 0 false,h pb 1 false,h pb 2 true,trivial⟩,.nil,trivial⟩
theorem P0:Hi (.agg aP) (.agg (BH Wd)):=Hi.agg ⟨.nil,.refl _,.refl _,trivial⟩
theorem Ol:Qf Wd:=⟨by decide,by decide,by decide,BV _,BD.2 ⟨by decide,BV _⟩,BD.2 ⟨by decide,BV _⟩⟩
theorem iE:Qf kz:=⟨by decide,by decide,by decide,BV _,BV _,BV _⟩
theorem bU(m:Int)(h:m=1∨m=2):OO [⟨pa,mL 0⟩,⟨pb,mL m⟩]:=by
 rcases h with rfl | rfl
 ·exact⟨by decide,BD.2 ⟨by decide,BD.2 ⟨by decide,BV _⟩⟩,.cons (BD.2 ⟨by show EJ pa pb=true;kernel_rfl,BV _⟩) (.cons (BV _) .nil)⟩
 ·exact⟨by decide,BD.2 ⟨by decide,BD.2 ⟨by decide,BV _⟩⟩,.cons (BD.2 ⟨by show EJ pa pb=true;kernel_rfl,BV _⟩) (.cons (BV _) .nil)⟩
theorem qP:FR kw Wd=(ft,0):=by kernel_rfl
theorem sW:JN kz Wd=(Wd,0):=by kernel_rfl
theorem qF(m:Int):PC 33 [vi m] (.agg [vi 1,vi m,vi 0]):=by
 refine Ps ⟨[],[],[],[],[],[],[],[],[],[],[]⟩ Tryz.func33 rfl (Nz rfl) ?_;refine Yi (Nz rfl) ?_;refine Yi (Nz rfl) ?_;exact .refl _
theorem o9  : PC 9 [] (vb true):=by
 have hq:∀q∈mw,N0 q:=BD.2 ⟨⟨by decide,by decide⟩,BV _⟩;have hrq (l:List Rl) (h:∀r∈l,r.reqs=uF∨r.reqs=[]):∀r∈l,Ci r.reqs:=fun r hr=>by rcases h r hr with e | e<;>rw[e]<;>decide
 have kq:∀r∈kw,Ci r.reqs:=hrq _ (BD.2 ⟨.inl rfl,BD.2 ⟨.inr rfl,BD.2 ⟨.inr rfl,BD.2 ⟨.inr rfl,BV _⟩⟩⟩⟩);have Hm:=o11 kw [] Wd mY (by decide) kq Ol.few Ol.rq (by decide) (fun c hc=>by cases hc);unfold Kn at Hm;rw[qP]at Hm;have Hm:PC 11 [M8 kw [],.agg (BH Wd)] (.tup [M8 ft [],vi 0]):=Hm;have Qw:=s16 kw [] mw mY hq;rw[show eu kw mw=0 by kernel_rfl,show jJ kw mw=tQ by kernel_rfl]at Qw;have g16:=s16 ft [] mw oK hq;rw[show eu ft mw=0 by kernel_rfl,show jJ ft mw=tV by kernel_rfl]at g16;have t7:=o75 tQ tV [pa,pa,pb,pb] (bU 1 (.inl rfl)) (bU 2 (.inr rfl)) (by decide) (by decide) (.cons _ (List.Perm.swap ..)) (by decide);rw[show MG tQ tV (Cf [pa,pa,pb,pb])=qC by kernel_rfl]at t7;have h34:=(o34 kw ft [] [] mw Wd tQ tV qC Hm Qw g16 t7).args (args':=[.agg p7,sl AM mw,.agg aP]) ⟨cg,.refl _,P0,trivial⟩;have Hm:=Hm.args (args':=[.agg p7,.agg aP]) ⟨cg,P0,trivial⟩;have bi:=o17 kz Wd iE.few Ol.few (by decide) (by decide) iE.rq Ol.rq;rw[sW]at bi;have bi:PC 17 [.agg [LE,LE,LE],.agg aP] (.tup [.agg (BH Wd),vi 0]):=bi.args (args':=[.agg [LE,LE,LE],.agg aP]) ⟨.agg ⟨.nil,.nil,.nil,trivial⟩,P0,trivial⟩;have Pt:=(s8 Wd Ol.few).args (args':=[.agg aP]) ⟨P0,trivial⟩;rw[show Ct Wd=0 by kernel_rfl]at Pt;have zi:=o35 qC qC (by decide);rw[At rfl]at zi;have Xl:=(o19 Wd Wd Ol.few Ol.qs).args (args':=[.agg (BH Wd),.agg aP]) ⟨.refl _,P0,trivial⟩;rw[aK]at Xl;refine Ps ⟨[],[],[],[],[],[],[],[],[],[],[2,3,4,5,6,7,8]⟩ Tryz.func9 rfl (Nz rfl) ?_;refine Xi ⟨[(1,.v (.func (.func 33) #[] #[]))],[],Ab⟩ (Yi ⟨Z1,Tv,Fh,Tv⟩ ?_)
 refine Xi ⟨[(1,.v (.func (.func 33) #[] #[])),(2,.slice (.id 14 2) [[vs ⟨#[98,47,118,49]⟩,.slice .none [[vi 1000,vi 1000000]]]])],[(14,.tok 2 1)],Ab⟩ (Yi ⟨Z2,Z1,Fh,Tv⟩ ?_)
 refine Xi .pure (Xi _ (Yi (qF 0) ?_));refine Xi .pure (Xi _ (Yi (qF 0) ?_));refine Xi .pure (Xi _ (Yi (qF 1) ?_));refine Xi .pure (Xi _ (Yi (qF 2) ?_));refine Yi (Nz rfl) ?_;refine Xi ⟨[(1,.v (.func (.func 33) #[] #[])),(3,.ref 3 0)],[(3,.cells [.slice (.id 28 9) [[vs ⟨#[97,47,118,49]⟩,vi 1,vi 0,vi 0,.slice .none [[vs ⟨#[98,47,118,49]⟩,.slice .none [[vi 1000,vi 1000000]]]],vs ⟨#[]⟩,vs ⟨#[]⟩,vs ⟨#[]⟩,vb false],[vs ⟨#[98,47,118,49]⟩,vi 1,vi 0,vi 0,.v (.slice none 0 0),vs ⟨#[]⟩,vs ⟨#[]⟩,vs ⟨#[]⟩,vb false],[vs ⟨#[98,47,118,49]⟩,vi 1,vi 1,vi 0,.v (.slice none 0 0),vs ⟨#[]⟩,vs ⟨#[]⟩,vs ⟨#[]⟩,vb false],[vs ⟨#[98,47,118,49]⟩,vi 1,vi 2,vi 0,.v (.slice none 0 0),vs ⟨#[]⟩,vs ⟨#[]⟩,vs ⟨#[]⟩,vb true]],.v (.slice none 0 0)]),(28,.tok 9 4)],Ab⟩ (Yi ⟨Z2,Z2,Fh,Tv⟩ ?_)
 refine Xi .pure (Xi _ (Yi (qF 1) ?_));refine Xi .pure (Xi _ (Yi (qF 2) ?_));refine Yi (Nz rfl) ?_;refine Xi ⟨[(3,.ref 3 0),(4,.ref 4 0)],[(3,.cells [.slice (.id 28 9) [[vs ⟨#[97,47,118,49]⟩,vi 1,vi 0,vi 0,.slice .none [[vs ⟨#[98,47,118,49]⟩,.slice .none [[vi 1000,vi 1000000]]]],vs ⟨#[]⟩,vs ⟨#[]⟩,vs ⟨#[]⟩,vb false],[vs ⟨#[98,47,118,49]⟩,vi 1,vi 0,vi 0,.v (.slice none 0 0),vs ⟨#[]⟩,vs ⟨#[]⟩,vs ⟨#[]⟩,vb false],[vs ⟨#[98,47,118,49]⟩,vi 1,vi 1,vi 0,.v (.slice none 0 0),vs ⟨#[]⟩,vs ⟨#[]⟩,vs ⟨#[]⟩,vb false],[vs ⟨#[98,47,118,49]⟩,vi 1,vi 2,vi 0,.v (.slice none 0 0),vs ⟨#[]⟩,vs ⟨#[]⟩,vs ⟨#[]⟩,vb true]],.v (.slice none 0 0)]),(4,.cells [.v (.slice none 0 0),.slice (.id 33 4) [[vs ⟨#[98,47,118,49]⟩,vi 1,vi 1,vi 0]],.slice (.id 37 4) [[vs ⟨#[98,47,118,49]⟩,vi 1,vi 2,vi 0]]]),(28,.tok 9 4),(33,.tok 4 1),(37,.tok 4 1)],Ab⟩ (Yi ⟨Z2,Z5,Fh,Tv⟩ ?_)
 refine Yi (Nz rfl) ?_;refine Yi (Nz rfl) ?_;refine Xi .pure (Xi _ (Yi Hm ?_));refine Yi (Nz rfl) ?_;refine Xi ⟨[(3,.ref 3 0),(4,.ref 4 0),(5,.ref 5 0),(6,vi 0)],[(3,.cells [.slice (.id 28 9) [[vs ⟨#[97,47,118,49]⟩,vi 1,vi 0,vi 0,.slice .none [[vs ⟨#[98,47,118,49]⟩,.slice .none [[vi 1000,vi 1000000]]]],vs ⟨#[]⟩,vs ⟨#[]⟩,vs ⟨#[]⟩,vb false],[vs ⟨#[98,47,118,49]⟩,vi 1,vi 0,vi 0,.v (.slice none 0 0),vs ⟨#[]⟩,vs ⟨#[]⟩,vs ⟨#[]⟩,vb false],[vs ⟨#[98,47,118,49]⟩,vi 1,vi 1,vi 0,.v (.slice none 0 0),vs ⟨#[]⟩,vs ⟨#[]⟩,vs ⟨#[]⟩,vb false],[vs ⟨#[98,47,118,49]⟩,vi 1,vi 2,vi 0,.v (.slice none 0 0),vs ⟨#[]⟩,vs ⟨#[]⟩,vs ⟨#[]⟩,vb true]],.v (.slice none 0 0)]),(4,.cells [.v (.slice none 0 0),.slice (.id 33 4) [[vs ⟨#[98,47,118,49]⟩,vi 1,vi 1,vi 0]],.slice (.id 37 4) [[vs ⟨#[98,47,118,49]⟩,vi 1,vi 2,vi 0]]]),(5,.cells [sl Ag ft,.slice .none []]),(28,.tok 9 4),(33,.tok 4 1),(37,.tok 4 1)],Ab⟩ (Yi ⟨Z4,Z6,Fh,Tv⟩ ?_)
 refine Yi (Nz rfl) ?_;refine Yi (Nz rfl) ?_;refine Xi .pure (Xi _ (Yi h34 ?_));refine Xi ⟨[(4,.ref 4 0),(5,.ref 5 0),(6,vi 0),(7,sl E2 qC),(8,vi 0)],[(4,.cells [.v (.slice none 0 0),.slice (.id 33 4) [[vs ⟨#[98,47,118,49]⟩,vi 1,vi 1,vi 0]],.slice (.id 37 4) [[vs ⟨#[98,47,118,49]⟩,vi 1,vi 2,vi 0]]]),(5,.cells [sl Ag ft,.slice .none []]),(33,.tok 4 1),(37,.tok 4 1)],Ab⟩ (Yi ⟨Z5,Z4,Fh,Tv⟩ ?_)
 refine Yi (Nz rfl) ?_;refine Xi .pure (Xi _ (Yi bi ?_));refine Yi (Nz rfl) ?_;refine Xi ⟨[(4,.ref 4 0),(5,.ref 5 0),(6,vi 0),(7,sl E2 qC),(8,vi 0),(9,.ref 9 0),(10,vi 0)],[(4,.cells [.v (.slice none 0 0),.slice (.id 33 4) [[vs ⟨#[98,47,118,49]⟩,vi 1,vi 1,vi 0]],.slice (.id 37 4) [[vs ⟨#[98,47,118,49]⟩,vi 1,vi 2,vi 0]]]),(5,.cells [sl Ag ft,.slice .none []]),(9,.cells [sl Ag Wd.rep,sl Ae Wd.exc,sl Ae Wd.pin]),(33,.tok 4 1),(37,.tok 4 1)],Ab⟩ (Yi ⟨Z7,Z5,Fh,Tv⟩ ?_)
 refine Yi (Nz rfl) ?_;refine Xi .pure (Xi _ (Yi Pt ?_));refine Yi (fun _=>?_) (fun h=>absurd (by decide) h);refine Yi (fun _=>?_) (fun h=>absurd (by decide) h);refine Yi (fun h1=>?_) (fun h1=>?_)
 ·have h1:((ft.map Ag).length:Int)=(2:Int):=h1;refine Xi (Ag (Xc pb 2 [] false:Rl)) (Yi ⟨by decide,rfl⟩ (Yi rfl ?_));refine Yi (fun hf=>absurd hf (by decide)) (fun _=>?_);refine Yi (fun _=>?_) (fun h=>absurd (by decide) h);refine Xi .pure (Xi _ (Yi zi ?_));refine Yi (fun _=>?_) (fun h=>absurd (by decide) h);refine Yi (Nz rfl) ?_;refine Yi (Nz rfl) ?_;refine Xi .pure (Xi _ (Yi Xl ?_));exact .refl _
 have h1:¬(((ft.map Ag).length:Int)=(2:Int)):=h1;exact absurd rfl h1
end Go.Eng
namespace Go.Eng
theorem TX{α:Type}{p:α→Bool}{l:List α}{x:α}(h:x∈kept p l):x∈l:=(Bu.1 h).1
theorem j8{B:List Rl}{i:Nat}{r:Rl}(h:r∈PW B i):r∈B∨∃r0∈B,r={ r0 with yanked:=false }:=by
 unfold PW at h;split at h
 ·rename_i r0 e;rcases Gt h with h | h
  ·exact .inl h
  ·exact .inr ⟨r0,Ax e,h⟩
 ·exact .inl h
theorem VW{p:Rl→Prop}(hp:∀r,p r→p { r with yanked:=false }):∀(l:List Sl) (A B:List Rl),(∀r∈A,p r)→H5 l A=some B→(∀r∈B,p r)∧B.length≤A.length
 | [],A,B,h,e=>by
  cases e
  exact⟨h,Am _⟩
 |s::l,A,B,h,e=>by
  have e:(LX A s).bind (H5 l)=some B:=e;cases hA:LX A s with
  |none=>rw[hA]at e;cases e
  |some C =>
   rw[hA,SL]at e;unfold LX at hA;split at hA
   ·cases hA
   ·cases hA
    obtain⟨h1,h2⟩:=VW hp l _ B (fun r hr=>by
     rcases j8 hr with hr | ⟨r0,bt,rfl⟩
     ·exact h r (TX hr)
     ·exact hp _ (h r0 (TX bt))) e
    refine⟨h1,AT h2 ?_⟩;rw[UC];exact IG _ _
theorem Zo{p:Rl→Prop}(hp:∀r,p r→p { r with yanked:=false }){x:List Rl}{w:Wk}(hx:∀r∈x,p r)(hw:∀r∈w.rep,p r):(∀r∈(FR x w).1,p r)∧(FR x w).1.length≤256:=by
 have z:(∀r∈([]:List Rl),p r)∧([]:List Rl).length≤256:=⟨BV _,by decide⟩;unfold FR;split
 ·exact z
 ·split
  ·exact z
  ·split
   ·exact z
   ·rename_i h3;cases e:H5 w.pin (kept (Ih w) (A4 Ca x w.rep))with
    |none=>exact z
    |some B =>
     obtain⟨h1,h2⟩:=VW hp _ _ _ (fun r hr=>(JM (TX hr)).elim (hx r) (hw r)) e;refine⟨h1,AT h2 (AT (IG _ _) (by omega))⟩
theorem ct{x:List Rl}{w:Wk}(hx:Xr x)(hw:Qf w):Xr (FR x w).1∧(FR x w).1.length≤256:=Zo (p:=fun r=>Ci r.reqs∧∀q∈r.reqs,Ci q.set) (fun _ h=>h) hx hw.qs
/-! The empty workspace, and a workspace twice. -/
end Go.Eng
namespace Go.Proofs.YtmcbkdbfaneofaaGreatDoor.joins
open Go Go.Eng Go.Proofs Go.ChangeShapes Go.WideShapes Go.ChangeAt Go.RowKit
section
variable {H:Type}{enc:TypeId×Value→H}{w:World}
theorem all_le{d:DataW H}{l:List (DataW H)}(h:d∈l):Rows.uptoBulk d≤Rows.uptoBulkAll l:=by
 induction l with
 |nil=>cases h
 |cons x r ih =>
  simp only[Rows.uptoBulkAll]
  cases AC.1 h with
  |inl e=>subst e;omega
  |inr e=>have:=ih e;omega
theorem one_le(d:DataW H):1≤Rows.uptoBulk d:=by
 cases d with
 |lit l=>cases l<;>simp[Rows.uptoBulk]
 |nil=>simp[Rows.uptoBulk]
 |ptr d=>simp[Rows.uptoBulk]
 |slice mW spare=>simp[Rows.uptoBulk]
 |agg parts=>simp[Rows.uptoBulk]
 |iface t d=>simp[Rows.uptoBulk]
 |map entries=>simp[Rows.uptoBulk]
 |held h=>simp[Rows.uptoBulk]
theorem len_le(l:List (DataW H)):l.length≤Rows.uptoBulkAll l:=by
 induction l with
 |nil=>simp[Rows.uptoBulkAll]
 |cons x r ih=>have:=one_le x;simp only[Rows.uptoBulkAll,Av];omega
theorem bulk_ok:Wh (H:=H) Rows.uptoBulk where
 slice es sp:=by
  have h1:=len_le es
  refine⟨by simp only[Rows.uptoBulk];omega,fun d hd=>?_⟩
  have:=all_le hd
  simp only[Rows.uptoBulk];omega
 agg ps d hd:=by
  have:=all_le hd
  simp only[Rows.uptoBulk];omega
 str b:=by simp only[Rows.uptoBulk];omega
theorem app_all(l r:List (DataW H)):Rows.uptoBulkAll (l++r)=Rows.uptoBulkAll l+Rows.uptoBulkAll r:=by
 induction l with
 |nil=>simp[Rows.uptoBulkAll]
 |cons x l ih=>simp only[D7,Rows.uptoBulkAll,ih];omega
abbrev NB:Nat:=1048576
abbrev Op(enc:TypeId×Value→H)(w:World)(t:TypeId){α:Type}(e:α→List AV)(ok:α→Prop):Prop:=KJ enc Tryz.prog w Rows.uptoBulk NB t e ok
theorem oI:Op enc w 3 (fun n:Int=>[vi n]) (fun _=>True):=(dN Tryz.underlying3).to id (fun _ _=>⟨rfl,trivial⟩)
theorem oB:Op enc w 4 (fun b:Bool=>[vb b]) (fun _=>True):=au Tryz.underlying4
theorem oS:Op enc w 9 (fun s:ByteArray=>[vs s]) (fun s=>s.size≤NB):=W5 bulk_ok Tryz.underlying9
theorem oVer:Op enc w 42 JC (fun _=>True) :=
 (Fz bulk_ok Tryz.underlying42 (L:=3) (by kernel_rfl) (B6 rfl (n:=1) (by kernel_rfl) oI (B6 rfl (n:=1) (by kernel_rfl) oI (B6 rfl (n:=1) (by kernel_rfl) oI GJ)))).to
  (fun p=>(⟨p.1,p.2.1,p.2.2.1⟩:Ver)) (fun _ _=>⟨rfl,trivial⟩)
theorem oSpan:Op enc w 62 Af (fun _=>True) :=
 (Fz bulk_ok Tryz.underlying62 (L:=2) (by kernel_rfl) (B6 rfl (n:=1) (by kernel_rfl) oI (B6 rfl (n:=1) (by kernel_rfl) oI GJ))).to
  (fun p=>(p.1,p.2.1)) (fun _ _=>⟨rfl,trivial⟩)
theorem oSet:Op enc w 64 (fun l:Bc=>[sl Af l]) (fun l=>l.length≤NB) :=
 (IX bulk_ok Tryz.underlying64 (m:=1) (by kernel_rfl) (fun _=>rfl) oSpan).to id (fun _ h=>⟨rfl,h.1⟩)
abbrev OkRq(q:Rq):Prop:=q.path.size≤NB∧q.set.length≤NB
theorem oRq:Op enc w 66 AM OkRq :=
 (Fz bulk_ok Tryz.underlying66 (L:=2) (by kernel_rfl) (B6 rfl (n:=1) (by kernel_rfl) oS (B6 rfl (n:=1) (by kernel_rfl) oSet GJ))).to
  (fun p=>(⟨p.1,p.2.1⟩:Rq)) (fun _ h=>⟨rfl,h.1,h.2.1⟩)
abbrev OkRqs(l:List Rq):Prop:=l.length≤NB∧∀q∈l,OkRq q
theorem oRqs:Op enc w 43 (fun l:List Rq=>[sl AM l]) OkRqs :=
 IX bulk_ok Tryz.underlying43 (m:=1) (by kernel_rfl) (fun _=>rfl) oRq
abbrev OkRl(r:Rl):Prop:=r.path.size≤NB∧OkRqs r.reqs
theorem oRl:Op enc w 45 Ag OkRl :=
 (Fz bulk_ok Tryz.underlying45 (L:=9) (by kernel_rfl) (B6 rfl (n:=1) (by kernel_rfl) oS (B6 rfl (n:=3) (by kernel_rfl) oVer (B6 rfl (n:=1) (by kernel_rfl) oRqs
  (B6 rfl (n:=1) (by kernel_rfl) oS (B6 rfl (n:=1) (by kernel_rfl) oS (B6 rfl (n:=1) (by kernel_rfl) oS (B6 rfl (n:=1) (by kernel_rfl) oB GJ)))))))).to
  (fun p=>(⟨p.1,p.2.1,p.2.2.1,p.2.2.2.1,p.2.2.2.2.1,p.2.2.2.2.2.1,p.2.2.2.2.2.2.1⟩:Rl)) (fun _ h=>⟨rfl,h.1,h.2.2.1⟩)
theorem oRls:Op enc w 22 (fun l:List Rl=>[sl Ag l]) (fun l=>l.length≤NB∧∀r∈l,OkRl r) :=
 IX bulk_ok Tryz.underlying22 (m:=8) (by kernel_rfl) (fun _=>rfl) oRl
theorem oIfc:Op enc w 86 (fun s:ByteArray=>[vs s,.junk,.junk,.junk,.junk]) (fun _=>True) :=
 (Fz bulk_ok Tryz.underlying86 (L:=5) (by kernel_rfl) (B6 rfl (n:=1) (by kernel_rfl) oS (B6 rfl (n:=1) (by kernel_rfl) (Nm Tryz.underlying81) (B6 rfl (n:=1) (by kernel_rfl) (Nm Tryz.underlying82)
  (B6 rfl (n:=1) (by kernel_rfl) (Nm Tryz.underlying83) (B6 rfl (n:=1) (by kernel_rfl) (Nm Tryz.underlying84) GJ)))))).to (fun p=>p.1) (fun _ _=>⟨rfl,trivial⟩)
theorem oIfs:Op enc w 23 (fun l:List ByteArray=>[sl (fun s=>[vs s,.junk,.junk,.junk,.junk]) l]) (fun l=>l.length≤NB) :=
 (IX bulk_ok Tryz.underlying23 (m:=4) (by kernel_rfl) (fun _=>rfl) oIfc).to id (fun _ h=>⟨rfl,h.1⟩)
theorem oIx:Op enc w 25 (fun p:List Rl×List (List AV)=>[sl Ag p.1,.slice .none p.2]) (fun p=>(p.1.length≤NB∧∀r∈p.1,OkRl r)∧p.2.length≤NB∧∀c∈p.2,c.length=5) :=
 (Fz bulk_ok Tryz.underlying25 (L:=2) (by kernel_rfl) (B6 rfl (n:=1) (by kernel_rfl) oRls (B6 rfl (n:=1) (by kernel_rfl) oIfs GJ))).to
  (fun p=>(p.1,p.2.1.map (fun s=>[vs s,.junk,.junk,.junk,.junk]))) (fun _ h=>⟨rfl,h.1,by rw[Bg];exact h.2.1,fun c hc=>by obtain⟨s,_,rfl⟩:=Ao.1 hc;rfl⟩)
theorem oSl:Op enc w 51 Ae (fun y=>y.path.size≤NB) :=
 (Fz bulk_ok Tryz.underlying51 (L:=4) (by kernel_rfl) (B6 rfl (n:=1) (by kernel_rfl) oS (B6 rfl (n:=3) (by kernel_rfl) oVer GJ))).to
  (fun p=>(⟨p.1,p.2.1⟩:Sl)) (fun _ h=>⟨rfl,h.1⟩)
theorem oSls:Op enc w 26 (fun l:List Sl=>[sl Ae l]) (fun l=>l.length≤NB∧∀y∈l,y.path.size≤NB) :=
 IX bulk_ok Tryz.underlying26 (m:=3) (by kernel_rfl) (fun _=>rfl) oSl
abbrev OkW(w:Wk):Prop:=(w.rep.length≤NB∧∀r∈w.rep,OkRl r)∧(w.exc.length≤NB∧∀y∈w.exc,y.path.size≤NB)∧w.pin.length≤NB∧∀y∈w.pin,y.path.size≤NB
theorem oWk:Op enc w 28 (fun p:Wk=>BH p) OkW :=
 (Fz bulk_ok Tryz.underlying28 (L:=3) (by kernel_rfl) (B6 rfl (n:=1) (by kernel_rfl) oRls (B6 rfl (n:=1) (by kernel_rfl) oSls (B6 rfl (n:=1) (by kernel_rfl) oSls GJ)))).to
  (fun p=>(⟨p.1,p.2.1,p.2.2.1⟩:Wk)) (fun _ h=>⟨rfl,h.1,h.2.1,h.2.2.1⟩)
theorem few_of{n:Nat}(h:n≤NB):n≤1073741824:=AT h (by decide)
theorem lim_of{x:List Rl}{roots:List Rq}(h:x.length≤NB∧∀r∈x,OkRl r)(k:OkRqs roots):mR x roots where
 ix:=few_of h.1
 rs:=few_of k.1
 rel r hr:=⟨few_of (h.2 r hr).2.1,few_of (h.2 r hr).1,fun q hq=>⟨few_of ((h.2 r hr).2.2 q hq).2,few_of ((h.2 r hr).2.2 q hq).1⟩⟩
 rq q hq:=⟨few_of (k.2 q hq).2,few_of (k.2 q hq).1⟩
theorem limw_of{w:Wk}(h:OkW w):Qf w where
 rep:=h.1.1
 exc:=h.2.1.1
 pin:=h.2.2.1
 rl r hr:=⟨few_of (h.1.2 r hr).2.1,few_of (h.1.2 r hr).1,fun q hq=>⟨few_of ((h.1.2 r hr).2.2 q hq).2,few_of ((h.1.2 r hr).2.2 q hq).1⟩⟩
 excs s hs:=few_of (h.2.1.2 s hs)
 pins s hs:=few_of (h.2.2.2 s hs)
theorem lim0_of{x:List Rl}(h:x.length≤NB∧∀r∈x,OkRl r):mR x []:=lim_of h ⟨AF _,fun q hq=>by cases hq⟩
end
theorem ok_agg{P:Program}{W:World}{base:Nat}{t:TypeId}{v:Value}{fs:Array Field}(hu:P.underlying t=some (.struct fs))(h:Value.okWide P W .any base t v):∃cs,v=.agg cs:=by
 unfold Value.okWide at h
 rw[hu]at h
 obtain⟨cs,e,_⟩:=h
 exact⟨cs,e⟩
theorem ok_slice{P:Program}{W:World}{base:Nat}{t e:TypeId}{v:Value}(hu:P.underlying t=some (.slice e))(h:Value.okWide P W .any base t v):v.oneCell'=true:=by
 unfold Value.okWide at h
 rw[hu]at h
 unfold Cell.okWide Cell.ok at h
 rw[hu]at h
 cases v<;>first | rfl | simp at h
theorem ok_int{P:Program}{W:World}{base:Nat}{t:TypeId}{k:IntKind}{v:Value}(hu:P.underlying t=some (.int k))(h:Value.okWide P W .any base t v):v.oneCell'=true:=by
 unfold Value.okWide at h
 rw[hu]at h
 unfold Cell.okWide Cell.ok at h
 rw[hu]at h
 cases v<;>first | rfl | simp at h
theorem int_of_shape{P:Program}{w:World}{g:Nat}{t:TypeId}{k:IntKind}{zero:Array Value}(h:w.ShapedOpen P)(hg:g<P.globals.size)
  (h0:((begin P (fun _ _=>0) default).world.heap[g]?).bind Obj.row?=some (zero,t)) (hz:zero.size=1)
  (hb:P.buildable t=true) (hc:P.cellTypes P.depth t=some [t]) (hu:P.underlying t=some (.int k)):∃p,w.cell? ⟨g,0,none⟩=some (.int k p):=by
 obtain⟨cs,hh,hs,hr⟩:=h.1 g zero t hg h0
 obtain⟨ts,z6,_,Fm⟩:=hr hb
 rw[hc]at z6
 cases z6
 have h1:0<cs.size:=by omega
 obtain⟨u,ik,GR⟩:=Fm 0 cs[0] (by simp[h1])
 have:u=t:=by simpa using ik.symm
 subst this
 have DO:w.cell? ⟨g,0,none⟩=some cs[0]:=by simp[World.cell?,hh,h1]
 rw[DO]
 unfold Cell.ok at GR
 rw[hu]at GR
 cases hv:cs[0]<;>rw[hv]at GR<;>simp at GR
 obtain⟨rfl,_⟩:=GR
 exact⟨_,rfl⟩
theorem maxLen_cell{W:World}(h:W.ShapedOpen Tryz.prog):∃m,W.cell? ⟨0,0,none⟩=some (.int .i64 m) :=
 int_of_shape (t:=3) (zero:=#[.int .i64 0]) h (BC (by kernel_rfl)) (by kernel_rfl) rfl (by kernel_rfl) (by kernel_rfl) Tryz.underlying3
def Still(W W' : World):Prop:=W'.os=W.os∧W'.output=W.output∧W.heap.size≤W'.heap.size∧∀b,b<W.heap.size→W'.heap[b]?=W.heap[b]?
theorem run_true{f:Nat}{args:List AV}{vals:Array Value}{W:World}(hc:PC f args (vb true))(hM:∃m,W.cell? ⟨0,0,none⟩=some (.int .i64 m))(hs:vals.size=args.length)
  (hr:∀(i:Nat) (av:AV) (x:Value),args[i]?=some av→vals[i]?=some x→BP (kh W) W FH av x):Calls Tryz.prog f vals W fun e W'=>e=.returned (.bool true)∧Still W W':=by
 refine(hc.2 (kh W) W vals hs (fun i av x q1 q2=>(hr i av x q1 q2).up _) (sO hM (fun _ h=>by cases h))).mono fun e W' ⟨v,r,h',g',e1,e2,e3,e4,_⟩=>?_
 subst e1
 obtain⟨rfl,rfl⟩:=e2
 obtain rfl:=e3.v_eq
 exact⟨rfl,e4.os,e4.output,e4.size,fun b hb=>e4.frame b hb (fun r h=>h.elim)⟩
theorem Still.kept{W W' : World}(h:Still W W')(may:MemPlace→Prop):W.keptBut W' may:=by
 refine⟨h.1,h.2.1,fun i hi=>?_⟩
 rw[h.2.2.2 i hi]
 cases hh:W.heap[i]? with
 |none=>rfl
 |some o=>cases o<;>simp
theorem Still.same{W W' : World}(h:Still W W'){p:MemPlace}(hp:p.block<W.heap.size):W.sameAt W' p:=by
 cases p with
 |cell b off =>
  show W'.cell? ⟨b,off,none⟩=W.cell? ⟨b,off,none⟩
  unfold World.cell?
  rw[h.2.2.2 b hp]
 |map b=>exact h.2.2.2 b hp
theorem kids:Kids Tryz.prog (· < Tryz.prog.types.size):=kids_rows (by kernel_rfl) (by kernel_rfl)
theorem full:∀t e,t<Tryz.prog.types.size→Tryz.prog.underlying t=some (.slice e)→0<Tryz.prog.cellsOf e:=slices_full_of Tryz.prog (by kernel_rfl)
theorem carry{H:Type}{enc:TypeId×Value→H}{W W' : World}(h:Still W W'):∀{ts:List TypeId} {vs:List Value} {ds:List (DataW H)} {ps:List MemPlace},DataW.TrodAll enc Tryz.prog W 0 (fun _=>true) true ts vs ds ps→DataW.TrodAll enc Tryz.prog W' 0 (fun _=>true) true ts vs ds ps
 | [],[],[],_,e=>e
 |t::ts,v::vs,d::ds,ps,k=>by
  have DH:=k.lt
  obtain⟨p,q,⟨n,h1⟩,h2,rfl⟩:=k
  exact⟨p,q,⟨n,DataW.trod_carry n _ _ _ h1 (fun x hx=>h.same (DH x (Bz _ hx)))⟩,carry h h2,rfl⟩
 | [],[],_::_,_,k=>k.elim
 | [],_::_,_,_,k=>k.elim
 |_::_,[],_,_,k=>k.elim
 |_::_,_::_,[],_,k=>k.elim
theorem post_true{H:Type}{enc:TypeId×Value→H}{W W' : World}{f:Func}{s:ChangeSpec}{args:Array Value}{ds:List (DataW H)}{before:List MemPlace}(JH:Still W W')(hv:s.vars=[])
  (hW:DataW.Whole enc Tryz.prog f.params.toList s.vars false W args.toList ds [] before) (hr:f.resultTypes=#[4]) (hT:∀t∈f.params.toList,t<Tryz.prog.types.size) (hs:s.fn H ds={ results:=[.lit (.bool true)],args:=ds }) :
  s.post enc Tryz.prog f false true false false W args (.bool true) W':=by
 have zt:=hW
 obtain⟨p,q,hA,hV,rfl,hz,_⟩:=hW
 rw[hv]at hV
 have hq:q=[]:=hV
 subst hq
 have DH:=zt.lt
 have qv:s.fn H (ds++[])={ results:=[.lit (.bool true)],args:=ds }:=by rw[BS];exact hs
 refine⟨ds,[],p++[],[],p,[],zt,?_,?_,?_,JH.kept _,fun h=>by cases h⟩
 ·rw[qv,hr]
  exact⟨[],[],⟨1,by rw[show(Value.bool true).cells.toList=[.bool true]from rfl,DataW.trod_step];unfold DataW.trodStep;rw[Tryz.underlying4]⟩,rfl,rfl⟩
 ·rw[qv]
  exact(carry JH hA).respare kids full hT (fun x hx=>by simpa using DH x (Bz _ hx))
 ·rw[qv,hv];rfl
end Go.Proofs.YtmcbkdbfaneofaaGreatDoor.joins
namespace Go.Proofs.YtmcbkdbfaneofaaGreatDoor.joins
open Go Go.Eng Go.Proofs Go.ChangeShapes Go.WideShapes Go.ChangeAt Go.RowKit
theorem own:ownKnob Tryz.prog.godebug=none:=by kernel_rfl
def flatD:Nat→DataW Unit→List Value
 |0,_=>[]
 |n+1,.agg l=>l.flatMap (flatD n)
 |_+1,.lit (.int k i)=>[.int k i]
 |_+1,_=>[]
def layIn(d:DataW Unit):Obj→Obj
 |.cells _ t frozen=>.cells (flatD 4 d).toArray t frozen
 |o=>o
noncomputable def laidWorld(os:Os):World :=
 { World.holding Tryz.prog os ⟨#[],#[],[]⟩with heap:=((World.holding Tryz.prog os ⟨#[],#[],[]⟩).heap.modify 1 (layIn Rows.laid_unicode_utf8_first)).modify 2 (layIn Rows.laid_unicode_utf8_acceptRanges) }
abbrev nilV:Value:=.slice none 0 0
theorem arr1{args:Array Value}{a:Value}(h:args.toList=[a]):args=#[a]:=by
 cases args;simp_all
theorem arr2{args:Array Value}{a b:Value}(h:args.toList=[a,b]):args=#[a,b]:=by
 cases args;simp_all
theorem arr3{args:Array Value}{a b c:Value}(h:args.toList=[a,b,c]):args=#[a,b,c]:=by
 cases args;simp_all
theorem arr4{args:Array Value}{a b c d:Value}(h:args.toList=[a,b,c,d]):args=#[a,b,c,d]:=by
 cases args;simp_all
theorem arr5{args:Array Value}{a b c d e:Value}(h:args.toList=[a,b,c,d,e]):args=#[a,b,c,d,e]:=by
 cases args;simp_all
theorem looksOff:false=Tryz.pinned.checked.prog.looks []:=by kernel_rfl
theorem noStand:∀t∈([25,28,43]:List Nat),Tryz.pinned.checked.prog.wantsStandIn t=false:=by
 intro t ht
 simp only[AC,L1,or_false]at ht
 rcases ht with rfl | rfl | rfl<;>exact(show Tryz.prog.wantsStandIn _=false by kernel_rfl)
end Go.Proofs.YtmcbkdbfaneofaaGreatDoor.joins
namespace Go.Eng
open Go.Proofs
theorem xA(x:List Rl)(ifs:List (List AV))(w:Wk)(hL:mR x [])(hW:Qf w)(kk:Ci ifs)(qq:∀c∈ifs,c.length=5)(il:x.length≤1048576):PC 3 [M8 x ifs,.agg (BH w)] (vb true):=by
 have hxq:Xr x:=fun r hr=>⟨(hL.rel r hr).1,fun q hq=>((hL.rel r hr).2.2 q hq).1⟩;have Ks:x.length+w.rep.length≤1073741824:=by have:=hW.rep;omega
 have Hm:=o11 x ifs w hL.x Ks (fun r hr=>(hL.rel r hr).1) hW.few hW.rq kk qq;have Iu:=o12 x ifs w hL.x hL.ix Ks hW.few kk qq;have wu:=ct hxq hW;obtain⟨J,hJ⟩:∃J,J=if(FR x w).2=0 then ifs else []:=⟨_,rfl⟩
 unfold Kn at Hm Iu;rw[←hJ]at Hm Iu;obtain⟨R,hR⟩:∃R,R=FR x w:=⟨_,rfl⟩;rw[←hR]at Hm Iu wu;have L9:=xG R.1 R.1 (AT wu.2 (by decide)) wu.1;rw[At rfl]at L9;refine Ps ⟨[2,3,5,7],[],[],[],[],[],[],[],[],[],[3,5,6,7]⟩ Tryz.func3 rfl (Nz rfl) ?_;refine Xi .pure (Xi _ (Yi o9 ?_));refine Xi ⟨[(2,.ref 2 0),(3,.ref 3 0)],[(2,.ro (Ic x ifs)),(3,.ro (BH w))],Ab⟩ (Yi ⟨Z2,Z2,Fh,Tv⟩ ?_)
 refine Yi (Nz rfl) ?_;refine Yi (Nz rfl) ?_;refine Bp (Bt (EO x 16&&Fc w)) (fun h1=>?_) (fun h1=>?_)
 ·have h1:(EO x 16&&Fc w)=true:=h1;refine Xi .pure (Xi _ (Yi (cb h1 (o10 x ifs w hL hW)) ?_));refine Xi ⟨[(2,.ref 2 0),(3,.ref 3 0)],[(2,.ro (Ic x ifs)),(3,.ro (BH w))],Ab⟩ (Yi ⟨Z2,Z2,Fh,Tv⟩ ?_)
  refine Yi (Nz rfl) ?_;refine Yi (Nz rfl) ?_;refine Xi .pure (Xi _ (Yi Hm ?_));refine Yi (Nz rfl) ?_;refine Xi ⟨[(2,.ref 2 0),(3,.ref 3 0),(5,.ref 5 0),(6,vi R.2)],[(2,.ro (Ic x ifs)),(3,.ro (BH w)),(5,.ro [sl Ag R.1,.slice .none J])],Ab⟩ (Yi ⟨Z4,Z3,Fh,Tv⟩ ?_)
  refine Yi (Nz rfl) ?_;refine Yi (Nz rfl) ?_;refine Xi .pure (Xi _ (Yi Iu ?_));refine Yi (Nz rfl) ?_;refine Xi ⟨[(3,.ref 3 0),(5,.ref 5 0),(6,vi R.2),(7,.ref 7 0),(8,vi R.2)],[(3,.ro (BH w)),(5,.ro [sl Ag R.1,.slice .none J]),(7,.ro [sl Ag R.1,.slice .none J])],Ab⟩ (Yi ⟨Z5,Z3,Fh,Tv⟩ ?_)
  refine Yi (Nz rfl) ?_;refine Xi _ (Yi (s8 w hW.few) ?_);refine Yi (Nz rfl) ?_;refine Xi _ (Yi (o14 w hW.few) ?_);refine Yi (fun h2=>?_) (fun h2=>?_)
  ·have h2:((Ct w):Int)=((Ct w):Int):=h2;refine Xi _ (Yi L9 ?_);refine Yi (fun h3=>?_) (fun h3=>?_)
   ·have h3:((J:List (List AV)).length:Int)=((J:List (List AV)).length:Int):=h3;refine Yi (fun h4=>?_) (fun h4=>?_)
    ·have h4:(R.2:Int)=(R.2:Int):=h4;refine Yi (by kernel_rfl) ?_;exact .refl _
    have h4:¬((R.2:Int)=(R.2:Int)):=h4;exact absurd rfl h4
   have h3:¬(((J:List (List AV)).length:Int)=((J:List (List AV)).length:Int)):=h3;exact absurd rfl h3
  have h2:¬(((Ct w):Int)=((Ct w):Int)):=h2;exact absurd rfl h2
 have h1:(EO x 16&&Fc w)=false:=h1;refine Xi .pure (Xi _ (Yi (cb h1 (o10 x ifs w hL hW)) ?_));exact .refl _
end Go.Eng
