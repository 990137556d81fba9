/- Lemmas for the claims of this seat, without a condition: part 31 (S19, S20, O18, O19, J1, J2). -/
import Derived.Test.YtmcbkdbfaneofaaGreatDoorCA30
import Derived.Test.YtmcbkdbfaneofaaGreatDoorCards
import Derived.Test.YtmcbkdbfaneofaaGreatDoorTie
import Derived.ProofKit
import Derived.OpenShut
import Derived.Deep.DeepHandedRow
import Derived.Lib.LaidTab
set_option maxHeartbeats 4000000
namespace Go.Eng
open Go.Proofs
abbrev km:TK:=⟨[2],[],[],[],[],[],[],[(50,(9,3,95,3))],[(44,0)],[(100016,1009)],[3,4,5,6,7,8,9,10,11,14,15,16]⟩
abbrev an0:An:=⟨false,[],[],[]⟩
def Me(x:List Rl)(roots:List Rq):An:=if GB x roots=true∧(FA x roots).ss.full=false then oL x roots else an0
def Mf(x:List Rl)(roots:List Rq):Int:=if GB x roots=true then if(FA x roots).ss.full=true then 7 else 0 else 1
abbrev g8(x:List Rl)(roots:List Rq):AV:=.tup [.agg (Sb (Me x roots)),vi (Mf x roots)]
theorem Ha.an0{v:AV}:Ha (.tup [.agg [vb false,.v (.slice none 0 0),.v (.slice none 0 0),.v (.slice none 0 0)],v]) (.tup [.agg (Sb an0),v]) :=
 Ha.tup ⟨Ha.agg ⟨.refl _,.nil,.nil,.nil,trivial⟩,.refl _,trivial⟩
theorem Ty{x:List Rl}{roots:List Rq}(hx:∀r∈x,J3 r)(hr:∀q∈roots,NW q)(h0:Bb x=0)(h1:BR roots=0){L:List ByteArray}(hl:L.Perm (AQ (yR x) [])){o:JN}(ho:FA x roots=o) :
  Bd Tryz.prog 97 [.ref 1000 0] (Ah (IW roots (mC x) (L.map (kA x)) sm [] []) Ab) (Yo roots (mC x) (L.map (kA x)) o):=by
 rw[←ho];exact wb (mv hx hr h0 h1 hl) (x.length+1) (.nil x) (IB.nil roots) ⟨⟨rfl,AN _⟩,E2⟩ rfl (Nat.lt_succ_of_le (BD _ _)) rfl
theorem iw{x:List Rl}{roots:List Rq}(h:GB x roots=true):Bb x=0∧BR roots=0:=by
 unfold GB at h;rw[Ag,Az,Az]at h;exact h
theorem kD(x:List Rl)(ifs:List (List AV))(roots:List Rq)(hx:∀r∈x,J3 r)(hr:∀q∈roots,NW q)(hv:GB x roots=false):PC 72 [Rd x ifs,sl AM roots] (.tup [.agg (Sb an0),vi 1]):=by
 have Sy:=se x ifs roots hx hr;rw[hv]at Sy;refine Ps km Tryz.func72 rfl (Nz rfl) ?_;refine Yi ?_ ?_
 ·exact Nz rfl
 refine Xi .pure (Xi _ (Yi Sy ?_));refine Yi ?_ ?_
 ·exact Nz rfl
 refine Yi ?_ ?_
 ·exact Nz rfl
 exact Ha.an0
theorem gU(x:List Rl)(ifs:List (List AV))(roots:List Rq)(hx:∀r∈x,J3 r)(hr:∀q∈roots,NW q)(hv:GB x roots=true)(h0:Bb x=0)(h1:BR roots=0)(k:Nat)(infs:List Nf)(drv:List (List Tm))(dec:List Cd)(st:List (List Sk))(ho:FA x roots=⟨k,false,⟨infs,drv,true⟩,dec,st⟩):PC 72 [Rd x ifs,sl AM roots] (.tup [.agg (Sb an0),vi 7]):=by
 have Sy:=se x ifs roots hx hr;rw[hv]at Sy;refine Ps km Tryz.func72 rfl (Nz rfl) ?_;refine Yi ?_ ?_
 ·exact Nz rfl
 refine Xi .pure (Xi _ (Yi Sy ?_));refine Xi ⟨[(1,sl AM roots),(2,.ref 2 0),(4,.ref 4 0)],[(2,.ro (Ic x ifs)),(4,.cells [vb false,.v (.slice none 0 0),.v (.slice none 0 0),.v (.slice none 0 0)])],Ab⟩ (Yi ⟨Z3,Z2,Fh,Tv⟩ ?_)
 refine Yi ?_ ?_
 ·exact Nz rfl
 refine Xi (.gen [] 5) (Yi rfl ((vZ x ifs roots hx h0).imp ?_));intro v g q;refine Dn q (fun L q=>?_);have q1:=q.2.1;have q2:=q.2.2;have qp:=q.1;subst q1;subst q2;refine Xi ⟨[(4,.ref 4 0),(6,.ref 11900 0)],[(4,.cells [vb false,.v (.slice none 0 0),.v (.slice none 0 0),.v (.slice none 0 0)]),(11900,.cells [sl AM roots,.cmap C3 (mC x),.cmap C3 (L.map (kA x)),.slice (.id 11901 6) [],.slice (.id 11902 1) [],.mref 11903,vb false,.slice .none [],.slice .none [],.msl 11904 0]),(11901,.tok 6 0),(11902,.tok 1 0),(11903,.map DR []),(11904,.arr 1 [])],Ab⟩ (Yi ⟨Z2,Z6,Fh,Tv⟩ ?_)
 refine Xi (.gen [(11900,1000),(11901,1001),(11902,1002),(11903,1003),(11904,1004)] 1) (Yi rfl ((Ty hx hr h0 h1 qp ho).imp ?_));intro v g q;have q1:=q.1;have q2:=q.2;subst q1;subst q2;refine Xi ⟨[(4,.ref 4 0),(6,.ref 11900 0),(7,vi (k:Nat)),(8,vb false)],[(4,.cells [vb false,.v (.slice none 0 0),.v (.slice none 0 0),.v (.slice none 0 0)]),(11900,.cells [sl AM roots,.cmap C3 (mC x),.cmap C3 (L.map (kA x)),.slice (.id 11901 6) (infs.map BW),.slice (.id 11902 1) (drv.map B9),.mref 11903,vb true,sl AE dec,sl Ae (AK dec),.msl 12200 st.length]),(11901,.tok 6 infs.length),(11902,.tok 1 drv.length),(11903,.map DR (DT 0 infs)),(12200,.arr 1 (st.map AS))],Ab⟩ (Yi ⟨Z4,Z6,Fh,Tv⟩ ?_)
 refine Yi (fun _=>?_) (fun h=>by cases h);refine Xi ⟨[(4,.ref 4 0)],[(4,.cells [vb false,.v (.slice none 0 0),.v (.slice none 0 0),.v (.slice none 0 0)])],Ab⟩ (Yi ⟨Z1,Z1,Fh,Tv⟩ ?_)
 refine Yi ?_ ?_
 ·exact Nz rfl
 refine Yi ?_ ?_
 ·exact Nz rfl
 exact Ha.an0
theorem nH(x:List Rl)(ifs:List (List AV))(roots:List Rq)(hx:∀r∈x,J3 r)(hr:∀q∈roots,NW q)(hv:GB x roots=true)(h0:Bb x=0)(h1:BR roots=0)(k:Nat)(infs:List Nf)(drv:List (List Tm))(dec:List Cd)(st:List (List Sk))(ho:FA x roots=⟨k,false,⟨infs,drv,false⟩,dec,st⟩)(hk:k<infs.length)(hl:infs.length≤65536):PC 72 [Rd x ifs,sl AM roots] (.tup [.agg (Sb ⟨false,[],infs.take (k+1),[]⟩),vi 0]):=by
 have Sy:=se x ifs roots hx hr;rw[hv]at Sy;refine Ps km Tryz.func72 rfl (Nz rfl) ?_;refine Yi ?_ ?_
 ·exact Nz rfl
 refine Xi .pure (Xi _ (Yi Sy ?_));refine Xi ⟨[(1,sl AM roots),(2,.ref 2 0),(4,.ref 4 0)],[(2,.ro (Ic x ifs)),(4,.cells [vb false,.v (.slice none 0 0),.v (.slice none 0 0),.v (.slice none 0 0)])],Ab⟩ (Yi ⟨Z3,Z2,Fh,Tv⟩ ?_)
 refine Yi ?_ ?_
 ·exact Nz rfl
 refine Xi (.gen [] 5) (Yi rfl ((vZ x ifs roots hx h0).imp ?_));intro v g q;refine Dn q (fun L q=>?_);have q1:=q.2.1;have q2:=q.2.2;have qp:=q.1;subst q1;subst q2;refine Xi ⟨[(4,.ref 4 0),(6,.ref 11900 0)],[(4,.cells [vb false,.v (.slice none 0 0),.v (.slice none 0 0),.v (.slice none 0 0)]),(11900,.cells [sl AM roots,.cmap C3 (mC x),.cmap C3 (L.map (kA x)),.slice (.id 11901 6) [],.slice (.id 11902 1) [],.mref 11903,vb false,.slice .none [],.slice .none [],.msl 11904 0]),(11901,.tok 6 0),(11902,.tok 1 0),(11903,.map DR []),(11904,.arr 1 [])],Ab⟩ (Yi ⟨Z2,Z6,Fh,Tv⟩ ?_)
 refine Xi (.gen [(11900,1000),(11901,1001),(11902,1002),(11903,1003),(11904,1004)] 1) (Yi rfl ((Ty hx hr h0 h1 qp ho).imp ?_));intro v g q;have q1:=q.1;have q2:=q.2;subst q1;subst q2;refine Xi ⟨[(4,.ref 4 0),(6,.ref 11900 0),(7,vi (k:Nat)),(8,vb false)],[(4,.cells [vb false,.v (.slice none 0 0),.v (.slice none 0 0),.v (.slice none 0 0)]),(11900,.cells [sl AM roots,.cmap C3 (mC x),.cmap C3 (L.map (kA x)),.slice (.id 11901 6) (infs.map BW),.slice (.id 11902 1) (drv.map B9),.mref 11903,vb false,sl AE dec,sl Ae (AK dec),.msl 12200 st.length]),(11901,.tok 6 infs.length),(11902,.tok 1 drv.length),(11903,.map DR (DT 0 infs)),(12200,.arr 1 (st.map AS))],Ab⟩ (Yi ⟨Z4,Z6,Fh,Tv⟩ ?_)
 refine Yi (fun h=>by cases h) (fun _=>?_);refine Xi ⟨[(4,.ref 4 0),(6,.ref 11900 0),(7,vi (k:Nat)),(8,vb false)],[(4,.cells [vb false,.v (.slice none 0 0),.v (.slice none 0 0),.v (.slice none 0 0)]),(11900,.cells [sl AM roots,.cmap C3 (mC x),.cmap C3 (L.map (kA x)),.slice (.id 11901 6) (infs.map BW),.slice (.id 11902 1) (drv.map B9),.mref 11903,vb false,sl AE dec,sl Ae (AK dec),.msl 12200 st.length]),(11901,.tok 6 infs.length),(11902,.tok 1 drv.length),(11903,.map DR (DT 0 infs)),(12200,.arr 1 (st.map AS))],Ab⟩ (Yi ⟨Z4,Z6,Fh,Tv⟩ ?_)
 refine Xi ⟨[(4,.ref 4 0),(6,.ref 11900 0),(7,vi (k:Nat))],[(4,.cells [vb false,.v (.slice none 0 0),.v (.slice none 0 0),.v (.slice none 0 0)]),(11900,.cells [sl AM roots,.cmap C3 (mC x),.cmap C3 (L.map (kA x)),.slice (.id 11901 6) (infs.map BW),.slice (.id 11902 1) (drv.map B9),.mref 11903,vb false,sl AE dec,sl Ae (AK dec),.msl 12200 st.length]),(11901,.tok 6 infs.length),(11902,.tok 1 drv.length),(11903,.map DR (DT 0 infs)),(12200,.arr 1 (st.map AS))],Ab⟩ (Yi ⟨Z3,Z6,Fh,Tv⟩ ?_)
 refine Yi (Ii k (by omega)) ?_;have el:(infs.map BW).length=infs.length:=Lm ..;refine Yi ⟨AX _,by show(0:Int)≤(k:Int)+1;omega,by show(k:Int)+1≤((infs.map BW).length:Int);rw[el];omega⟩ ?_;refine Yi (fun cs hcs=>by obtain⟨i,_,rfl⟩:=Am.1 hcs;rfl) ?_;refine Yi ?_ ?_
 ·exact Nz rfl
 refine Yi ?_ ?_
 ·exact Nz rfl
 have et:((infs.map BW).take ((k:Int)+1).toNat).drop (0:Int).toNat=(infs.take (k+1)).map BW:=by
  rw[show((k:Int)+1).toNat=k+1 by omega];simp
 exact Ha.tup ⟨Ha.agg ⟨.refl _,.nil,.of_eq (show AV.slice .none (((infs.map BW).take ((k:Int)+1).toNat).drop (0:Int).toNat)=_ by rw[et]),.nil,trivial⟩,.refl _,trivial⟩
theorem UT(y:Sl):∀l:List Sl,(Ub y l).Perm (y::l)
 | []=>.refl _
 |z::l=>by
  unfold Ub;split
  ·exact .refl _
  ·exact((UT y l).cons z).trans (List.Perm.swap y z l)
theorem Tz:∀l:List Sl,(FO l).Perm l
 | []=>.refl _
 |y::l=>(UT y _).trans ((Tz l).cons y)
theorem Xg{b:Nat}:∀{st:List (List Sk)},(∀s∈st,s.length≤b)→st.flatten.length≤b*st.length
 | [],_=>by simp
 |s::st,h=>by
  rw[By,Ad,At,Nat.mul_succ]
  have:=h s (Aa ..)
  have:=Xg (st:=st) fun t ht=>h t (Af _ ht)
  omega
theorem gY{st:List (List Sk)}(h:st.length≤256)(hs:∀s∈st,s.length≤256)(i:Nat):((st.take i).flatten).length≤65536:=by
 have h1:=Xg (b:=256) (st:=st.take i) fun s WA=>hs s (Em WA)
 have:(st.take i).length≤256:=by rw[AJ];omega
 omega
theorem kE(x:List Rl)(ifs:List (List AV))(roots:List Rq)(hx:∀r∈x,J3 r)(hr:∀q∈roots,NW q)(hv:GB x roots=true)(h0:Bb x=0)(h1:BR roots=0)(k:Nat)(infs:List Nf)(drv:List (List Tm))(dec:List Cd)(st:List (List Sk))(ho:FA x roots=⟨k,true,⟨infs,drv,false⟩,dec,st⟩)(hd:dec.length≤256)(hn:((AK dec).map (·.path)).Nodup)(I9:st.length≤256)(xl:∀s∈st,s.length≤256):PC 72 [Rd x ifs,sl AM roots] (.tup [.agg (Sb ⟨true,FO (AK dec),infs,st.flatten⟩),vi 0]):=by
 have Sy:=se x ifs roots hx hr;rw[hv]at Sy;refine Ps km Tryz.func72 rfl (Nz rfl) ?_;refine Yi ?_ ?_
 ·exact Nz rfl
 refine Xi .pure (Xi _ (Yi Sy ?_));refine Xi ⟨[(1,sl AM roots),(2,.ref 2 0),(4,.ref 4 0)],[(2,.ro (Ic x ifs)),(4,.cells [vb false,.v (.slice none 0 0),.v (.slice none 0 0),.v (.slice none 0 0)])],Ab⟩ (Yi ⟨Z3,Z2,Fh,Tv⟩ ?_)
 refine Yi ?_ ?_
 ·exact Nz rfl
 refine Xi (.gen [] 5) (Yi rfl ((vZ x ifs roots hx h0).imp ?_));intro v g q;refine Dn q (fun L q=>?_);have q1:=q.2.1;have q2:=q.2.2;have qp:=q.1;subst q1;subst q2;refine Xi ⟨[(4,.ref 4 0),(6,.ref 11900 0)],[(4,.cells [vb false,.v (.slice none 0 0),.v (.slice none 0 0),.v (.slice none 0 0)]),(11900,.cells [sl AM roots,.cmap C3 (mC x),.cmap C3 (L.map (kA x)),.slice (.id 11901 6) [],.slice (.id 11902 1) [],.mref 11903,vb false,.slice .none [],.slice .none [],.msl 11904 0]),(11901,.tok 6 0),(11902,.tok 1 0),(11903,.map DR []),(11904,.arr 1 [])],Ab⟩ (Yi ⟨Z2,Z6,Fh,Tv⟩ ?_)
 refine Xi (.gen [(11900,1000),(11901,1001),(11902,1002),(11903,1003),(11904,1004)] 1) (Yi rfl ((Ty hx hr h0 h1 qp ho).imp ?_));intro v g q;have q1:=q.1;have q2:=q.2;subst q1;subst q2;refine Xi ⟨[(4,.ref 4 0),(6,.ref 11900 0),(7,vi (k:Nat)),(8,vb true)],[(4,.cells [vb false,.v (.slice none 0 0),.v (.slice none 0 0),.v (.slice none 0 0)]),(11900,.cells [sl AM roots,.cmap C3 (mC x),.cmap C3 (L.map (kA x)),.slice (.id 11901 6) (infs.map BW),.slice (.id 11902 1) (drv.map B9),.mref 11903,vb false,sl AE dec,sl Ae (AK dec),.msl 12200 st.length]),(11901,.tok 6 infs.length),(11902,.tok 1 drv.length),(11903,.map DR (DT 0 infs)),(12200,.arr 1 (st.map AS))],Ab⟩ (Yi ⟨Z4,Z6,Fh,Tv⟩ ?_)
 refine Yi (fun h=>by cases h) (fun _=>?_);refine Xi ⟨[(4,.ref 4 0),(6,.ref 11900 0),(8,vb true)],[(4,.cells [vb false,.v (.slice none 0 0),.v (.slice none 0 0),.v (.slice none 0 0)]),(11900,.cells [sl AM roots,.cmap C3 (mC x),.cmap C3 (L.map (kA x)),.slice (.id 11901 6) (infs.map BW),.slice (.id 11902 1) (drv.map B9),.mref 11903,vb false,sl AE dec,sl Ae (AK dec),.msl 12200 st.length]),(11901,.tok 6 infs.length),(11902,.tok 1 drv.length),(11903,.map DR (DT 0 infs)),(12200,.arr 1 (st.map AS))],Ab⟩ (Yi ⟨Z3,Z6,Fh,Tv⟩ ?_)
 refine Xi ⟨[(4,.ref 4 0),(6,.ref 11900 0)],[(4,.cells [vb false,.v (.slice none 0 0),.v (.slice none 0 0),.v (.slice none 0 0)]),(11900,.cells [sl AM roots,.cmap C3 (mC x),.cmap C3 (L.map (kA x)),.slice (.id 11901 6) (infs.map BW),.slice (.id 11902 1) (drv.map B9),.mref 11903,vb false,sl AE dec,sl Ae (AK dec),.msl 12200 st.length]),(11901,.tok 6 infs.length),(11902,.tok 1 drv.length),(11903,.map DR (DT 0 infs)),(12200,.arr 1 (st.map AS))],Ab⟩ (Yi ⟨Z2,Z6,Fh,Tv⟩ ?_)
 have oh:(AK dec).length≤256:=by rw[Lm];exact hd
 have aa:Cp (AK dec):=A3 oh (by decide);refine Xi (AK dec).length (Xi 4 (Xi ((AK dec).map Ae) (Yi rfl (Yi (rh (AK dec) aa) ?_))));refine Yi ?_ ?_
 ·exact Nz rfl
 refine Yi (by kernel_rfl) ?_;refine Xi ⟨[(4,.ref 4 0),(6,.ref 11900 0),(9,.ref 9 0)],[(4,.cells [vb false,.v (.slice none 0 0),.v (.slice none 0 0),.v (.slice none 0 0)]),(9,.cells [vb true,.msl 14400 (AK dec).length,.slice (.id 11901 6) (infs.map BW),.v (.slice none 0 0)]),(11900,.cells [sl AM roots,.cmap C3 (mC x),.cmap C3 (L.map (kA x)),.slice (.id 11901 6) (infs.map BW),.slice (.id 11902 1) (drv.map B9),.mref 11903,vb false,sl AE dec,sl Ae (AK dec),.msl 12200 st.length]),(11901,.tok 6 infs.length),(11902,.tok 1 drv.length),(11903,.map DR (DT 0 infs)),(12200,.arr 1 (st.map AS)),(14400,.arr 4 ((AK dec).map Ae))],Ab⟩ (Yi ⟨Z3,Z8,Fh,Tv⟩ ?_)
 refine Xi (.gen [(14400,1000)] 0) (Yi rfl ((s47 99 Tryz.closure99 (enters_of Tryz.func99 (by kernel_rfl) rfl) (AK dec) aa hn).imp ?_));intro v g q;have q1:=q.1;have q2:=q.2;subst q1;subst q2;refine Xi ⟨[(4,.ref 4 0),(6,.ref 11900 0),(9,.ref 9 0)],[(4,.cells [vb false,.v (.slice none 0 0),.v (.slice none 0 0),.v (.slice none 0 0)]),(9,.cells [vb true,.msl 14400 (AK dec).length,.slice (.id 11901 6) (infs.map BW),.slice (.id 95 3) []]),(95,.tok 3 0),(11900,.cells [sl AM roots,.cmap C3 (mC x),.cmap C3 (L.map (kA x)),.slice (.id 11901 6) (infs.map BW),.slice (.id 11902 1) (drv.map B9),.mref 11903,vb false,sl AE dec,sl Ae (AK dec),.msl 12200 st.length]),(11901,.tok 6 infs.length),(11902,.tok 1 drv.length),(11903,.map DR (DT 0 infs)),(12200,.arr 1 (st.map AS)),(14400,.arr 4 ((FO (AK dec)).map Ae))],Ab⟩ (Yi ⟨Z3,Z9,Fh,Tv⟩ ?_)
 refine Xi {i:Nat // i≤st.length} (Xi (fun i=>⟨[(4,.ref 4 0),(6,.ref 11900 0),(9,.ref 9 0),(56,.msl 12200 st.length),(57,vi (st.length:Nat)),(58,vi i.1)],[(4,.cells [vb false,.v (.slice none 0 0),.v (.slice none 0 0),.v (.slice none 0 0)]),(9,.cells [vb true,.msl 14400 (AK dec).length,.slice (.id 11901 6) (infs.map BW),.slice (.id 95 3) ((st.take i.1).flatten.map BS)]),(95,.tok 3 ((st.take i.1).flatten.map BS).length),(11900,.cells [sl AM roots,.cmap C3 (mC x),.cmap C3 (L.map (kA x)),.slice (.id 11901 6) (infs.map BW),.slice (.id 11902 1) (drv.map B9),.mref 11903,vb false,sl AE dec,sl Ae (AK dec),.msl 12200 st.length]),(11901,.tok 6 infs.length),(11902,.tok 1 drv.length),(11903,.map DR (DT 0 infs)),(12200,.arr 1 (st.map AS)),(14400,.arr 4 ((FO (AK dec)).map Ae))],Ab⟩) (Xi (fun i=>st.length-i.1) (Yi (Xi ⟨0,AN _⟩ ?_) ?_)))
 ·exact⟨Z6,Z9,Fh,Tv⟩
 intro⟨i,i1⟩;have i1:i≤st.length:=i1;refine Yi ?_ ?_
 ·intro h;have h:(i:Int)<(st.length:Nat):=h;have h:i<st.length:=by omega
  have hg:st[i]?=some st[i]:=Ge h;have Kl:st.take (i+1)=st.take i++[st[i]]:=by rw[Bs,hg];rfl
  refine Yi (Yi (Nn i) (by show(i:Int)<(st.length:Nat);omega)) ?_;refine Yi (by rw[Lm]) (Xi (AS st[i]) (Yi (by show(st.map AS)[((i:Nat):Int).toNat]?=_;rw[Ch,AG,hg];rfl) ?_));refine Xi ⟨[(4,.ref 4 0),(6,.ref 11900 0),(9,.ref 9 0),(11,sl BS st[i]),(56,.msl 12200 st.length),(57,vi (st.length:Nat)),(58,vi i)],[(4,.cells [vb false,.v (.slice none 0 0),.v (.slice none 0 0),.v (.slice none 0 0)]),(9,.cells [vb true,.msl 14400 (AK dec).length,.slice (.id 11901 6) (infs.map BW),.slice (.id 95 3) ((st.take i).flatten.map BS)]),(95,.tok 3 ((st.take i).flatten.map BS).length),(11900,.cells [sl AM roots,.cmap C3 (mC x),.cmap C3 (L.map (kA x)),.slice (.id 11901 6) (infs.map BW),.slice (.id 11902 1) (drv.map B9),.mref 11903,vb false,sl AE dec,sl Ae (AK dec),.msl 12200 st.length]),(11901,.tok 6 infs.length),(11902,.tok 1 drv.length),(11903,.map DR (DT 0 infs)),(12200,.arr 1 (st.map AS)),(14400,.arr 4 ((FO (AK dec)).map Ae))],Ab⟩ (Yi ⟨Z7,Z9,Fh,Tv⟩ ?_)
  have hfl:((st.take i).flatten).length≤65536∧st[i].length≤256:=⟨gY I9 xl i,xl _ (Aq _)⟩;have Gl:Do 3 (st[i].map BS)∧((st.take i).flatten.map BS).length=((st.take i).flatten.map BS).length∧(((st.take i).flatten.map BS).length+(st[i].map BS).length)*32≤140737488355328∧((st.take i).flatten.map BS).length+(st[i].map BS).length≤9223372036854775807:=by
   refine⟨Eu (enc:=BS) (n:=3) (fun _=>rfl) _,rfl,?_,?_⟩<;>simp only[Lm]<;>omega
  refine Yi Gl ?_;refine Yi ?_ ?_
  ·exact Nz rfl
  have ef:((st.take i).flatten.map BS)++st[i].map BS=((st.take (i+1)).flatten.map BS):=by rw[Kl,CG,AH];simp
  have en:((st.take i).flatten.map BS).length+(st[i].map BS).length=((st.take (i+1)).flatten.map BS).length:=by rw[←ef,Ad]
  refine Xi ⟨[(4,.ref 4 0),(6,.ref 11900 0),(9,.ref 9 0),(56,.msl 12200 st.length),(57,vi (st.length:Nat)),(58,vi i)],[(4,.cells [vb false,.v (.slice none 0 0),.v (.slice none 0 0),.v (.slice none 0 0)]),(9,.cells [vb true,.msl 14400 (AK dec).length,.slice (.id 11901 6) (infs.map BW),.slice (.id 95 3) ((st.take (i+1)).flatten.map BS)]),(95,.tok 3 ((st.take (i+1)).flatten.map BS).length),(11900,.cells [sl AM roots,.cmap C3 (mC x),.cmap C3 (L.map (kA x)),.slice (.id 11901 6) (infs.map BW),.slice (.id 11902 1) (drv.map B9),.mref 11903,vb false,sl AE dec,sl Ae (AK dec),.msl 12200 st.length]),(11901,.tok 6 infs.length),(11902,.tok 1 drv.length),(11903,.map DR (DT 0 infs)),(12200,.arr 1 (st.map AS)),(14400,.arr 4 ((FO (AK dec)).map Ae))],Ab⟩ (Yi ⟨Z6,⟨Zr,⟨Ac (fun z=>HO.cells [vb true,.msl 14400 (AK dec).length,.slice (.id 11901 6) (infs.map BW),.slice (.id 95 3) z]) ef,rfl⟩,⟨Ac (HO.tok 3) en,rfl⟩,Zr,Zr,Zr,Zr,Zr,Zr,Tv⟩,Fh,Tv⟩ ?_)
  refine Yi (Ii i (by omega)) ?_;refine Xi ⟨i+1,by omega⟩ ?_;exact⟨Dl st.length i (by omega),Z6,Z9,Fh,Tv⟩
 ·intro h;have h:¬(i:Int)<(st.length:Nat):=h;have et:st.take i=st:=AT (by omega);have WB:(AK dec).length=((FO (AK dec)).map Ae).length:=(Tz (AK dec)).length_eq.symm.trans (Lm ..).symm;refine Yi WB ?_;refine Xi ⟨[(4,.ref 4 0),(9,.ref 9 0)],[(4,.cells [vb false,.v (.slice none 0 0),.v (.slice none 0 0),.v (.slice none 0 0)]),(9,.cells [vb true,.slice (.id 14400 4) ((FO (AK dec)).map Ae),.slice (.id 11901 6) (infs.map BW),.slice (.id 95 3) (st.flatten.map BS)]),(95,.tok 3 (st.flatten.map BS).length),(11901,.tok 6 infs.length),(14400,.tok 4 ((FO (AK dec)).map Ae).length)],Ab⟩ (Yi ⟨Z2,⟨Zr,⟨Ac (fun z:List (List Sk)=>HO.cells [vb true,.slice (.id 14400 4) ((FO (AK dec)).map Ae),.slice (.id 11901 6) (infs.map BW),.slice (.id 95 3) (z.flatten.map BS)]) et,rfl⟩,⟨Ac (fun z:List (List Sk)=>HO.tok 3 (z.flatten.map BS).length) et,rfl⟩,Zr,Zr,Tv⟩,Fh,Tv⟩ ?_)
  refine Yi ?_ ?_
  ·exact Nz rfl
  refine Yi ?_ ?_
  ·exact Nz rfl
  refine Yi ?_ ?_
  ·exact Nz rfl
  exact .refl _
theorem PV{s:SS}{b:List Cd}{p:ByteArray}{needs:List Nd}:∀{cs:List Cd} {sk:List Sk},GL s b p needs cs sk→sk.length≤cs.length
 | [],sk,h=>by
  have h:sk=[]:=h;rw[h];exact Aj _
 |c::cs,sk,h=>by
  have h:if(needs.all fun n=>has n.rq.set c.place)=true then _ else _:=h
  by_cases hc:(needs.all fun n=>has n.rq.set c.place)=true
  ·rw[Aw hc]at h;obtain⟨k,rest,rfl,_,h3⟩:=h
   have:=PV h3
   simp only[At];omega
  ·rw[Ak hc]at h
   have:=PV h
   simp only[At];omega
theorem Uz{x:List Rl}{roots:List Rq}{s:SS}:∀{t:List Cd} {sl:List (List Sk)} {b:List Cd},Rz x roots s b t sl→sl.length=t.length∧∀k∈sl,k.length≤x.length
 | [],[],_,_=>⟨rfl,fun _ h=>by cases h⟩
 | [],_::_,_,h=>h.elim
 |_::_,[],_,h=>h.elim
 |c::t,sk::sl,b,⟨⟨p,needs,pre,post,hs⟩,h⟩=>by
  obtain⟨h1,h2⟩:=Uz h;refine⟨by simp[h1],fun k hk=>?_⟩;rcases Au.1 hk with rfl | hk
  ·have e1:=PV hs.skips;have e2:=Uw x p;rw[hs.cands,Ad]at e2;omega
  ·exact h2 k hk
theorem s21(x:List Rl)(ifs:List (List AV))(roots:List Rq)(hx:∀r∈x,J3 r)(hr:∀q∈roots,NW q):PC 72 [Rd x ifs,sl AM roots] (g8 x roots):=by
 unfold g8 Me Mf;cases hv:GB x roots with
 |false=>simpa using kD x ifs roots hx hr hv
 |true =>
  obtain⟨h0,h1⟩:=iw hv;have hR:=cW h0 h1;have lw:=(PG h0).1;have hA:oL x roots=if(FA x roots).found=true then⟨true,FO (AK (FA x roots).dec),(FA x roots).ss.infs,(FA x roots).stack.flatten⟩else⟨false,[],(FA x roots).ss.infs.take ((FA x roots).res+1),[]⟩:=rfl
  rw[hA];generalize ho:FA x roots=o at hR⊢;obtain⟨k,b,⟨infs,drv,full⟩,dec,st⟩:=o;have hl:infs.length≤65536:=hR.der.len;have hdl:drv.length=infs.length:=hR.der.dlen;cases b with
  |false =>
   cases full with
   |true=>simpa using gU x ifs roots hx hr hv h0 h1 k infs drv dec st ho
   |false =>
    have hk:k<drv.length:=((hR.no rfl).2.2 rfl).1;simpa using nH x ifs roots hx hr hv h0 h1 k infs drv dec st ho (by omega) hl
  |true =>
   obtain⟨hf,t,sl,e1,e2,hC,_⟩:=hR.yes rfl;have hf:full=false:=hf;subst hf;have e1:dec=[]++t:=e1;have e2:st=[]++sl:=e2;rw[D6]at e1 e2;subst e1;subst e2;have hD:Ey x ([]++dec):=(Rz.ok (.nil x) (.nil roots) hC).1;rw[D6]at hD;have hdx:=W2 hD;obtain⟨c1,c2⟩:=Uz hC;have hn:((AK dec).map (·.path)).Nodup:=by rw[Ny];exact hD.nodup
   simpa using kE x ifs roots hx hr hv h0 h1 k infs drv dec st ho (by omega) hn (by omega) (fun s hs=>A3 (c2 s hs) lw)
def cV(x:List Rl)(roots:List Rq):Int:=if Mf x roots≠0 then Mf x roots else if(Me x roots).found=true then 0 else 17
def gV(x:List Rl)(roots:List Rq):List Sl:=if cV x roots=0 then(Me x roots).sel else []
abbrev u5:TK:=⟨[2],[],[],[],[],[],[],[],[],[],[]⟩
theorem nG(x:List Rl)(ifs:List (List AV))(roots:List Rq)(a:An)(e:Int)(h:PC 72 [Rd x ifs,sl AM roots] (.tup [.agg (Sb a),vi e])) :
  PC 30 [Rd x ifs,sl AM roots] (.tup [if e≠0 then sl Ae []else if a.found=true then sl Ae a.sel else sl Ae [],vi (if e≠0 then e else if a.found=true then 0 else 17)]):=by
 refine Ps u5 Tryz.func30 rfl (Nz rfl) ?_;refine Yi ?_ ?_
 ·exact Nz rfl
 refine Xi .pure (Xi _ (Yi h ?_));refine Yi ?_ ?_
 ·exact Nz rfl
 refine Yi (fun he=>?_) (fun he=>?_)
 ·have he:¬e=0:=he;have e1:AV.tup [sl Ae [],vi e]=.tup [if e≠0 then sl Ae []else if a.found=true then sl Ae a.sel else sl Ae [],vi (if e≠0 then e else if a.found=true then 0 else 17)]:=by rw[Aw he,Aw he]
  exact(show Ha (.tup [.v (.slice none 0 0),vi e]) (.tup [sl Ae ([]:List Sl),vi e])from Ha.tup ⟨.nil,.refl _,trivial⟩).trans (.of_eq e1)
 ·have he:e=0:=Cg.1 he;have Dz:¬e≠0:=fun h=>h he;refine Yi (fun hb=>?_) (fun hb=>?_)
  ·have hb:a.found=true:=hb;have e1:AV.tup [sl Ae a.sel,vi 0]=.tup [if e≠0 then sl Ae []else if a.found=true then sl Ae a.sel else sl Ae [],vi (if e≠0 then e else if a.found=true then 0 else 17)]:=by rw[Ak Dz,Ak Dz,Aw hb,Aw hb]
   exact .of_eq e1
  ·have hb:a.found=false:=hb;have hb:¬a.found=true:=by rw[hb];decide
   have e1:AV.tup [sl Ae [],vi 17]=.tup [if e≠0 then sl Ae []else if a.found=true then sl Ae a.sel else sl Ae [],vi (if e≠0 then e else if a.found=true then 0 else 17)]:=by rw[Ak Dz,Ak Dz,Ak hb,Ak hb]
   exact(show Ha (.tup [.v (.slice none 0 0),vi 17]) (.tup [sl Ae ([]:List Sl),vi 17])from Ha.tup ⟨.nil,.refl _,trivial⟩).trans (.of_eq e1)
theorem xS(x:List Rl)(ifs:List (List AV))(roots:List Rq)(hx:∀r∈x,J3 r)(hr:∀q∈roots,NW q):PC 30 [Rd x ifs,sl AM roots] (.tup [sl Ae (gV x roots),vi (cV x roots)]):=by
 have h:=nG x ifs roots _ _ (s21 x ifs roots hx hr);have e1:(if Mf x roots≠0 then sl Ae []else if(Me x roots).found=true then sl Ae (Me x roots).sel else sl Ae [])=sl Ae (gV x roots):=by
  unfold gV cV
  by_cases h1:Mf x roots=0
  ·by_cases h2:(Me x roots).found=true
   ·simp[h1,h2]
   ·simp[h1,h2]
  ·simp[h1]
 have e2:(if Mf x roots≠0 then Mf x roots else if(Me x roots).found=true then 0 else 17)=cV x roots:=rfl;rw[e1,e2]at h;exact h
instance:DecidableEq Mv:=fun x y=>decidable_of_iff (x.path=y.path∧x.a=y.a∧x.b=y.b) ⟨fun⟨h1,h2,h3⟩=>by cases x;cases y;simp_all,fun h=>by subst h;exact⟨rfl,rfl,rfl⟩⟩
theorem qE{a b:Mv}(h:a.path=b.path∧a.a=b.a∧a.b=b.b∧True):a=b:=by cases a;cases b;simp_all
theorem qF{a b:Mv}(h:¬(a.path=b.path∧a.a=b.a∧a.b=b.b∧True)):a≠b:=fun e=>h (by subst e;exact⟨rfl,rfl,rfl,trivial⟩)
theorem zV(a b:List Mv)(ha:Cp a):PC 35 [sl EG a,sl EG b] (vb (decide (a=b))):=by
 have pG:a.length≤1073741824:=ha;refine Ps ⟨[],[],[],[],[],[],[],[],[],[],[7,8]⟩ Tryz.func35 rfl (Nz rfl) ?_;refine Yi (fun h1=>?_) (fun h1=>?_)
 ·have h1:((a.map EG).length:Int)≠((b.map EG).length:Int):=h1;exact .of_eq (show vb false=vb (decide (a=b)) by rw[Ap (fun e=>absurd (Ac (fun z=>((z.map EG).length:Int)) e) h1)])
 have h1:((a.map EG).length:Int)=((b.map EG).length:Int):=Bq h1;have hl:a.length=b.length:=by have q:=h1;rw[Lm,Lm]at q;omega
 refine Xi {q:Nat // q≤a.length∧∀j (hj:j<a.length),j<q→a[j]=b[j]'(hl▸hj)} (Xi (fun q=>⟨[(0,sl EG a),(1,sl EG b),(12,vi (a.map EG).length),(13,vi q.1)],[],Ab⟩) (Xi (fun q=>a.length-q.1) (Yi (Xi ⟨0,AN _,fun _ _ h=>absurd h (Dt _)⟩ ?_) ?_)))
 ·exact⟨Z4,Tv,Fh,Tv⟩
 intro⟨i,i1,i2⟩;have i1:i≤a.length:=i1;have i2:∀j (hj:j<a.length),j<i→a[j]=b[j]'(hl▸hj):=i2;refine Yi (fun h3=>?_) (fun h3=>?_)
 ·have h3:(i:Int)<((a.map EG).length:Int):=h3;have n3:=KZ h3;have bN:i<b.length:=by have q:=h3;rw[Lm]at q;omega
  refine Xi (EG a[i]) (Yi (Pi n3) (Yi rfl ?_));refine Yi (Nz rfl) ?_;refine Xi (EG b[i]) (Yi (Pi bN) (Yi rfl ?_));refine Yi (Nz rfl) ?_;refine Yi (fun h4=>?_) (fun h4=>?_)
  ·have h4:(a[i].path:ByteArray)=b[i].path∧(a[i].a:Int)=b[i].a∧(a[i].b:Int)=b[i].b∧True:=h4;refine Yi (by kernel_rfl) ?_;refine Xi ⟨[(0,sl EG a),(1,sl EG b),(12,vi (a.map EG).length),(13,vi i)],[],Ab⟩ (Yi ⟨Z4,Tv,Fh,Tv⟩ ?_)
   refine Yi (Ii i (by omega)) ?_;refine Xi ⟨i+1,n3,fun j hj HT=>if e:j<i then i2 j hj e else by
     have e:j=i:=by omega
     subst e;exact qE h4⟩ ?_
   exact⟨Dl a.length i (by omega),Z4,Tv,Fh,Tv⟩
  have h4:¬((a[i].path:ByteArray)=b[i].path∧(a[i].a:Int)=b[i].a∧(a[i].b:Int)=b[i].b∧True):=h4;refine Yi (by kernel_rfl) ?_;refine Xi ⟨[],[],Ab⟩ (Yi ⟨Tv,Tv,Fh,Tv⟩ ?_)
  exact .of_eq (show vb false=vb (decide (a=b)) by rw[Ap (WO (i:=i) (ha:=n3) (hb:=bN) (qF h4))])
 have h3:¬((i:Int)<((a.map EG).length:Int)):=h3;have n3:=KY h3;exact .of_eq (show vb true=vb (decide (a=b)) by rw[AA (Rs hl fun j hj=>i2 j hj (by have q:=h3;rw[Lm]at q;omega))])
abbrev pa:ByteArray:=⟨#[97,47,118,49]⟩
abbrev pb:ByteArray:=⟨#[98,47,118,49]⟩
abbrev kL(m:Int):Ver:=⟨1,m,0⟩
abbrev Wo(p:ByteArray)(m:Int)(q:List Rq)(y:Bool):Rl:=⟨p,kL m,q,mt,mt,mt,y⟩
abbrev sa:List Rq:=[⟨pb,[(1000,1000000)]⟩]
abbrev iK:List Rl:=[Wo pa 0 sa false,Wo pb 0 [] false,Wo pb 1 [] false,Wo pb 2 [] true]
abbrev dx:List Rl:=[Wo pa 0 sa false,Wo pb 2 [] false]
abbrev Vr:Wk:=⟨[],[⟨pb,kL 1⟩],[⟨pb,kL 2⟩]⟩
abbrev kr:List Rq:=[⟨pa,[(0,1000000)]⟩]
abbrev rk:List Sl:=[⟨pa,kL 0⟩,⟨pb,kL 1⟩]
abbrev rr:List Sl:=[⟨pa,kL 0⟩,⟨pb,kL 2⟩]
abbrev oz:List Mv:=[⟨pb,1000,2000⟩]
theorem kU:∀r∈iK,J3 r :=
 Bu.2 ⟨⟨by decide,by decide⟩,Bu.2 ⟨⟨by decide,by decide⟩,Bu.2 ⟨⟨by decide,by decide⟩,Bu.2 ⟨⟨by decide,by decide⟩,BU _⟩⟩⟩⟩
theorem my:∀r∈dx,J3 r :=
 Bu.2 ⟨⟨by decide,by decide⟩,Bu.2 ⟨⟨by decide,by decide⟩,BU _⟩⟩
abbrev K4:AV:=.v (.slice none 0 0)
abbrev aG(p:ByteArray)(b:Int)(y:Bool):List AV:=[vs p,vi 1,vi b,vi 0,K4,vs mt,vs mt,vs mt,vb y]
abbrev nP:List AV:=[.slice .none [Ai (Wo pa 0 sa false),aG pb 0 false,aG pb 1 false,aG pb 2 true],K4]
abbrev ZD:List AV:=[K4,sl Ae Vr.exc,sl Ae Vr.pin]
theorem aT:Ha (.agg nP) (Rd iK []) :=
 have h (p:ByteArray) (b:Int) (y:Bool):ML (aG p b y) (Ai (Wo p b [] y)):=⟨.refl _,.refl _,.refl _,.refl _,.nil,.refl _,.refl _,.refl _,.refl _,trivial⟩
 Ha.agg ⟨Ha.slice ⟨.refl _,h pb 0 false,h pb 1 false,h pb 2 true,trivial⟩,.nil,trivial⟩
theorem Pd:Ha (.agg ZD) (.agg (Bx Vr)):=Ha.agg ⟨.nil,.refl _,.refl _,trivial⟩
theorem ND:Pk Vr:=⟨by decide,by decide,by decide,BU _,Bu.2 ⟨by decide,BU _⟩,Bu.2 ⟨by decide,BU _⟩⟩
theorem Iw:Pk Hd:=⟨by decide,by decide,by decide,BU _,BU _,BU _⟩
theorem aJ(m:Int)(h:m=1∨m=2):NZ [⟨pa,kL 0⟩,⟨pb,kL m⟩]:=by
 rcases h with rfl | rfl
 ·exact⟨by decide,Bu.2 ⟨by decide,Bu.2 ⟨by decide,BU _⟩⟩,.cons (Bu.2 ⟨by show Fa pa pb=true;kernel_rfl,BU _⟩) (.cons (BU _) .nil)⟩
 ·exact⟨by decide,Bu.2 ⟨by decide,Bu.2 ⟨by decide,BU _⟩⟩,.cons (Bu.2 ⟨by show Fa pa pb=true;kernel_rfl,BU _⟩) (.cons (BU _) .nil)⟩
theorem oM:HN iK Vr=(dx,0):=by kernel_rfl
theorem qD:Hv Hd Vr=(Vr,0):=by kernel_rfl
theorem oE(m:Int):PC 33 [vi m] (.agg [vi 1,vi m,vi 0]):=by
 refine Ps ⟨[],[],[],[],[],[],[],[],[],[],[]⟩ Tryz.func33 rfl (Nz rfl) ?_;refine Yi (Nz rfl) ?_;refine Yi (Nz rfl) ?_;exact .refl _
theorem o9  : PC 9 [] (vb true):=by
 have hq:∀q∈kr,NW q:=Bu.2 ⟨⟨by decide,by decide⟩,BU _⟩;have zC (l:List Rl) (h:∀r∈l,r.reqs=sa∨r.reqs=[]):∀r∈l,Cp r.reqs:=fun r hr=>by rcases h r hr with e | e<;>rw[e]<;>decide
 have iG:∀r∈iK,Cp r.reqs:=zC _ (Bu.2 ⟨.inl rfl,Bu.2 ⟨.inr rfl,Bu.2 ⟨.inr rfl,Bu.2 ⟨.inr rfl,BU _⟩⟩⟩⟩);have Jp:=zS iK [] Vr kU (by decide) iG ND.few ND.rq (by decide) (fun c hc=>by cases hc);unfold Pp at Jp;rw[oM]at Jp;have Jp:PC 11 [Rd iK [],.agg (Bx Vr)] (.tup [Rd dx [],vi 0]):=Jp;have Wx:=xS iK [] kr kU hq;rw[show cV iK kr=0 by kernel_rfl,show gV iK kr=rk by kernel_rfl]at Wx;have g16:=xS dx [] kr my hq;rw[show cV dx kr=0 by kernel_rfl,show gV dx kr=rr by kernel_rfl]at g16;have rA:=o75 rk rr [pa,pa,pb,pb] (aJ 1 (.inl rfl)) (aJ 2 (.inr rfl)) (by decide) (by decide) (.cons _ (List.Perm.swap ..)) (by decide);rw[show L1 rk rr (B6 [pa,pa,pb,pb])=oz by kernel_rfl]at rA;have yu:=(zU iK dx [] [] kr Vr rk rr oz Jp Wx g16 rA).args (args':=[.agg nP,sl AM kr,.agg ZD]) ⟨aT,.refl _,Pd,trivial⟩;have Jp:=Jp.args (args':=[.agg nP,.agg ZD]) ⟨aT,Pd,trivial⟩;have rz:=nt Hd Vr Iw.few ND.few (by decide) (by decide) Iw.rq ND.rq;rw[qD]at rz;have rz:PC 17 [.agg [K4,K4,K4],.agg ZD] (.tup [.agg (Bx Vr),vi 0]):=rz.args (args':=[.agg [K4,K4,K4],.agg ZD]) ⟨.agg ⟨.nil,.nil,.nil,trivial⟩,Pd,trivial⟩;have ZT:=(oC Vr ND.few).args (args':=[.agg ZD]) ⟨Pd,trivial⟩;rw[show B4 Vr=0 by kernel_rfl]at ZT;have wD:=zV oz oz (by decide);rw[AA rfl]at wD;have Pg:=(uN Vr Vr ND.few ND.qs).args (args':=[.agg (Bx Vr),.agg ZD]) ⟨.refl _,Pd,trivial⟩;rw[NP]at Pg;refine Ps ⟨[],[],[],[],[],[],[],[],[],[],[2,3,4,5,6,7,8]⟩ Tryz.func9 rfl (Nz rfl) ?_;refine Xi ⟨[(1,.v (.func (.func 33) #[] #[]))],[],Ab⟩ (Yi ⟨Z1,Tv,Fh,Tv⟩ ?_)
 refine Xi ⟨[(1,.v (.func (.func 33) #[] #[])),(2,.slice (.id 14 2) [[vs ⟨#[98,47,118,49]⟩,.slice .none [[vi 1000,vi 1000000]]]])],[(14,.tok 2 1)],Ab⟩ (Yi ⟨Z2,Z1,Fh,Tv⟩ ?_)
 refine Xi .pure (Xi _ (Yi (oE 0) ?_));refine Xi .pure (Xi _ (Yi (oE 0) ?_));refine Xi .pure (Xi _ (Yi (oE 1) ?_));refine Xi .pure (Xi _ (Yi (oE 2) ?_));refine Yi (Nz rfl) ?_;refine Xi ⟨[(1,.v (.func (.func 33) #[] #[])),(3,.ref 3 0)],[(3,.cells [.slice (.id 28 9) [[vs ⟨#[97,47,118,49]⟩,vi 1,vi 0,vi 0,.slice .none [[vs ⟨#[98,47,118,49]⟩,.slice .none [[vi 1000,vi 1000000]]]],vs ⟨#[]⟩,vs ⟨#[]⟩,vs ⟨#[]⟩,vb false],[vs ⟨#[98,47,118,49]⟩,vi 1,vi 0,vi 0,.v (.slice none 0 0),vs ⟨#[]⟩,vs ⟨#[]⟩,vs ⟨#[]⟩,vb false],[vs ⟨#[98,47,118,49]⟩,vi 1,vi 1,vi 0,.v (.slice none 0 0),vs ⟨#[]⟩,vs ⟨#[]⟩,vs ⟨#[]⟩,vb false],[vs ⟨#[98,47,118,49]⟩,vi 1,vi 2,vi 0,.v (.slice none 0 0),vs ⟨#[]⟩,vs ⟨#[]⟩,vs ⟨#[]⟩,vb true]],.v (.slice none 0 0)]),(28,.tok 9 4)],Ab⟩ (Yi ⟨Z2,Z2,Fh,Tv⟩ ?_)
 refine Xi .pure (Xi _ (Yi (oE 1) ?_));refine Xi .pure (Xi _ (Yi (oE 2) ?_));refine Yi (Nz rfl) ?_;refine Xi ⟨[(3,.ref 3 0),(4,.ref 4 0)],[(3,.cells [.slice (.id 28 9) [[vs ⟨#[97,47,118,49]⟩,vi 1,vi 0,vi 0,.slice .none [[vs ⟨#[98,47,118,49]⟩,.slice .none [[vi 1000,vi 1000000]]]],vs ⟨#[]⟩,vs ⟨#[]⟩,vs ⟨#[]⟩,vb false],[vs ⟨#[98,47,118,49]⟩,vi 1,vi 0,vi 0,.v (.slice none 0 0),vs ⟨#[]⟩,vs ⟨#[]⟩,vs ⟨#[]⟩,vb false],[vs ⟨#[98,47,118,49]⟩,vi 1,vi 1,vi 0,.v (.slice none 0 0),vs ⟨#[]⟩,vs ⟨#[]⟩,vs ⟨#[]⟩,vb false],[vs ⟨#[98,47,118,49]⟩,vi 1,vi 2,vi 0,.v (.slice none 0 0),vs ⟨#[]⟩,vs ⟨#[]⟩,vs ⟨#[]⟩,vb true]],.v (.slice none 0 0)]),(4,.cells [.v (.slice none 0 0),.slice (.id 33 4) [[vs ⟨#[98,47,118,49]⟩,vi 1,vi 1,vi 0]],.slice (.id 37 4) [[vs ⟨#[98,47,118,49]⟩,vi 1,vi 2,vi 0]]]),(28,.tok 9 4),(33,.tok 4 1),(37,.tok 4 1)],Ab⟩ (Yi ⟨Z2,Z5,Fh,Tv⟩ ?_)
 refine Yi (Nz rfl) ?_;refine Yi (Nz rfl) ?_;refine Xi .pure (Xi _ (Yi Jp ?_));refine Yi (Nz rfl) ?_;refine Xi ⟨[(3,.ref 3 0),(4,.ref 4 0),(5,.ref 5 0),(6,vi 0)],[(3,.cells [.slice (.id 28 9) [[vs ⟨#[97,47,118,49]⟩,vi 1,vi 0,vi 0,.slice .none [[vs ⟨#[98,47,118,49]⟩,.slice .none [[vi 1000,vi 1000000]]]],vs ⟨#[]⟩,vs ⟨#[]⟩,vs ⟨#[]⟩,vb false],[vs ⟨#[98,47,118,49]⟩,vi 1,vi 0,vi 0,.v (.slice none 0 0),vs ⟨#[]⟩,vs ⟨#[]⟩,vs ⟨#[]⟩,vb false],[vs ⟨#[98,47,118,49]⟩,vi 1,vi 1,vi 0,.v (.slice none 0 0),vs ⟨#[]⟩,vs ⟨#[]⟩,vs ⟨#[]⟩,vb false],[vs ⟨#[98,47,118,49]⟩,vi 1,vi 2,vi 0,.v (.slice none 0 0),vs ⟨#[]⟩,vs ⟨#[]⟩,vs ⟨#[]⟩,vb true]],.v (.slice none 0 0)]),(4,.cells [.v (.slice none 0 0),.slice (.id 33 4) [[vs ⟨#[98,47,118,49]⟩,vi 1,vi 1,vi 0]],.slice (.id 37 4) [[vs ⟨#[98,47,118,49]⟩,vi 1,vi 2,vi 0]]]),(5,.cells [sl Ai dx,.slice .none []]),(28,.tok 9 4),(33,.tok 4 1),(37,.tok 4 1)],Ab⟩ (Yi ⟨Z4,Z6,Fh,Tv⟩ ?_)
 refine Yi (Nz rfl) ?_;refine Yi (Nz rfl) ?_;refine Xi .pure (Xi _ (Yi yu ?_));refine Xi ⟨[(4,.ref 4 0),(5,.ref 5 0),(6,vi 0),(7,sl EG oz),(8,vi 0)],[(4,.cells [.v (.slice none 0 0),.slice (.id 33 4) [[vs ⟨#[98,47,118,49]⟩,vi 1,vi 1,vi 0]],.slice (.id 37 4) [[vs ⟨#[98,47,118,49]⟩,vi 1,vi 2,vi 0]]]),(5,.cells [sl Ai dx,.slice .none []]),(33,.tok 4 1),(37,.tok 4 1)],Ab⟩ (Yi ⟨Z5,Z4,Fh,Tv⟩ ?_)
 refine Yi (Nz rfl) ?_;refine Xi .pure (Xi _ (Yi rz ?_));refine Yi (Nz rfl) ?_;refine Xi ⟨[(4,.ref 4 0),(5,.ref 5 0),(6,vi 0),(7,sl EG oz),(8,vi 0),(9,.ref 9 0),(10,vi 0)],[(4,.cells [.v (.slice none 0 0),.slice (.id 33 4) [[vs ⟨#[98,47,118,49]⟩,vi 1,vi 1,vi 0]],.slice (.id 37 4) [[vs ⟨#[98,47,118,49]⟩,vi 1,vi 2,vi 0]]]),(5,.cells [sl Ai dx,.slice .none []]),(9,.cells [sl Ai Vr.rep,sl Ae Vr.exc,sl Ae Vr.pin]),(33,.tok 4 1),(37,.tok 4 1)],Ab⟩ (Yi ⟨Z7,Z5,Fh,Tv⟩ ?_)
 refine Yi (Nz rfl) ?_;refine Xi .pure (Xi _ (Yi ZT ?_));refine Yi (fun _=>?_) (fun h=>absurd (by decide) h);refine Yi (fun _=>?_) (fun h=>absurd (by decide) h);refine Yi (fun h1=>?_) (fun h1=>?_)
 ·have h1:((dx.map Ai).length:Int)=(2:Int):=h1;refine Xi (Ai (Wo pb 2 [] false:Rl)) (Yi ⟨by decide,rfl⟩ (Yi rfl ?_));refine Yi (fun hf=>absurd hf (by decide)) (fun _=>?_);refine Yi (fun _=>?_) (fun h=>absurd (by decide) h);refine Xi .pure (Xi _ (Yi wD ?_));refine Yi (fun _=>?_) (fun h=>absurd (by decide) h);refine Yi (Nz rfl) ?_;refine Yi (Nz rfl) ?_;refine Xi .pure (Xi _ (Yi Pg ?_));exact .refl _
 have h1:¬(((dx.map Ai).length:Int)=(2:Int)):=h1;exact absurd rfl h1
end Go.Eng
namespace Go.Eng
/-! The empty workspace, and a workspace twice. -/
theorem IT{α:Type}{c:α→α→Int}:∀a:List α,A5 c a []=a
 | []=>rfl
 |x::a=>by
  rw[LY (a:=x::a) (Nat.succ_pos _)];exact Ac (x :: ·) (IT a)
theorem IS{α:Type}{c:α→α→Int}:∀b:List α,A5 c [] b=b
 | []=>rfl
 |y::b=>by
  rw[LZ (b:=y::b) (Nat.succ_pos _)];exact Ac (y :: ·) (IS b)
theorem L0{α β:Type}{c:α→α→Int}{R:α→α→Prop}{key:α→β}(h:OC c R key){a:List α}(ha:a.Pairwise R):A5 c a a=a :=
 ab h (Zb h ha ha) ha fun y=>by
  rw[Za h ha ha];exact⟨fun q=>q.elim id (·.1),.inl⟩
theorem UV{α:Type}{p:α→Bool}{l:List α}(h:∀x∈l,p x=false):kept p l=l:=by
 rw[List.filter_eq_self];intro x hx;rw[h x hx];rfl
theorem U0(l:List Sl):HI l []=l:=UV fun x _=>by simp
theorem LW{l o:List Sl}(h:∀s∈l,s∉o):HI l o=l:=UV fun x hx=>Ap (h x hx)
theorem WU{l:List Rl}(h:Bb l=0):l.length≤256:=by
 unfold Bb at h;split at h
 ·cases h
 ·omega
theorem Nm{w:Wk}(h:B4 w=0):¬256<(w.rep.length:Int):=by
 have:=WU (GY h).1
 omega
theorem N9{w:Wk}(h:B4 w=0):∀s∈w.exc,s∉w.pin:=fun s hs hp=>(GY h).2.2.2 s hp hs
theorem Pv:B4 Hd=0:=by kernel_rfl
theorem XQ{w:Wk}:Hv w Hd=if B4 w=0 then(w,0)else(Hd,B4 w):=by
 by_cases h:B4 w=0
 ·rw[Aw h,OJ h Pv (A:=w.rep) (IT _).symm (Nm h)];show(⟨w.rep,HI (A5 F5 w.exc []) [],A5 No (HI w.pin []) []⟩,(0:Int))=(w,0);rw[IT,U0,U0,IT]
 ·rw[Ak h,S8 h]
theorem XP{w:Wk}:Hv Hd w=if B4 w=0 then(w,0)else(Hd,B4 w):=by
 by_cases h:B4 w=0
 ·rw[Aw h,OJ Pv h (A:=w.rep) (IS _).symm (Nm h)];show(⟨w.rep,HI (A5 F5 [] w.exc) w.pin,A5 No (HI [] w.exc) w.pin⟩,(0:Int))=(w,0);rw[IS,LW (N9 h),show HI [] w.exc=[]from rfl,IS]
 ·rw[Ak h,XO Pv h]
theorem QK{w:Wk}:Hv w w=if B4 w=0 then(w,0)else(Hd,B4 w):=by
 by_cases h:B4 w=0
 ·rw[Aw h,OJ h h (A:=w.rep) (L0 ocR (CI (GY h).1).2).symm (Nm h)];rw[L0 xG (TX h),LW (N9 h),LW (GY h).2.2.2,L0 uY (Ud h)]
 ·rw[Ak h,S8 h]
end Go.Eng
namespace Go.Proofs.YtmcbkdbfaneofaaGreatDoor.joins
open Go Go.Eng Go.Proofs Go.ChangeShapes Go.WideShapes Go.ChangeAt Go.RowKit
section
variable {H:Type}{enc:TypeId×Value→H}{w:World}
theorem all_le{d:DataW H}{l:List (DataW H)}(h:d∈l):Rows.uptoBulk d≤Rows.uptoBulkAll l:=by
 induction l with
 |nil=>cases h
 |cons x r ih =>
  simp only[Rows.uptoBulkAll]
  cases Au.1 h with
  |inl e=>subst e;omega
  |inr e=>have:=ih e;omega
theorem one_le(d:DataW H):1≤Rows.uptoBulk d:=by
 cases d with
 |lit l=>cases l<;>simp[Rows.uptoBulk]
 |nil=>simp[Rows.uptoBulk]
 |ptr d=>simp[Rows.uptoBulk]
 |slice kS spare=>simp[Rows.uptoBulk]
 |agg parts=>simp[Rows.uptoBulk]
 |iface t d=>simp[Rows.uptoBulk]
 |map entries=>simp[Rows.uptoBulk]
 |held h=>simp[Rows.uptoBulk]
theorem len_le(l:List (DataW H)):l.length≤Rows.uptoBulkAll l:=by
 induction l with
 |nil=>simp[Rows.uptoBulkAll]
 |cons x r ih=>have:=one_le x;simp only[Rows.uptoBulkAll,At];omega
theorem bulk_ok:Vv (H:=H) Rows.uptoBulk where
 slice es sp:=by
  have h1:=len_le es
  refine⟨by simp only[Rows.uptoBulk];omega,fun d hd=>?_⟩
  have:=all_le hd
  simp only[Rows.uptoBulk];omega
 agg ps d hd:=by
  have:=all_le hd
  simp only[Rows.uptoBulk];omega
 str b:=by simp only[Rows.uptoBulk];omega
theorem app_all(l r:List (DataW H)):Rows.uptoBulkAll (l++r)=Rows.uptoBulkAll l+Rows.uptoBulkAll r:=by
 induction l with
 |nil=>simp[Rows.uptoBulkAll]
 |cons x l ih=>simp only[It,Rows.uptoBulkAll,ih];omega
abbrev NB:Nat:=1048576
abbrev Op(enc:TypeId×Value→H)(w:World)(t:TypeId){α:Type}(e:α→List AV)(ok:α→Prop):Prop:=Kb enc Tryz.prog w Rows.uptoBulk NB t e ok
theorem oI:Op enc w 3 (fun n:Int=>[vi n]) (fun _=>True):=(cC Tryz.underlying3).to id (fun _ _=>⟨rfl,trivial⟩)
theorem oB:Op enc w 4 (fun b:Bool=>[vb b]) (fun _=>True):=Zi Tryz.underlying4
theorem oS:Op enc w 9 (fun s:ByteArray=>[vs s]) (fun s=>s.size≤NB):=Wg bulk_ok Tryz.underlying9
theorem oVer:Op enc w 42 LH (fun _=>True) :=
 (E8 bulk_ok Tryz.underlying42 (L:=3) (by kernel_rfl) (BY rfl (n:=1) (by kernel_rfl) oI (BY rfl (n:=1) (by kernel_rfl) oI (BY rfl (n:=1) (by kernel_rfl) oI Gb)))).to
  (fun p=>(⟨p.1,p.2.1,p.2.2.1⟩:Ver)) (fun _ _=>⟨rfl,trivial⟩)
theorem oSpan:Op enc w 62 Ao (fun _=>True) :=
 (E8 bulk_ok Tryz.underlying62 (L:=2) (by kernel_rfl) (BY rfl (n:=1) (by kernel_rfl) oI (BY rfl (n:=1) (by kernel_rfl) oI Gb))).to
  (fun p=>(p.1,p.2.1)) (fun _ _=>⟨rfl,trivial⟩)
theorem oSet:Op enc w 64 (fun l:Bl=>[sl Ao l]) (fun l=>l.length≤NB) :=
 (Ip bulk_ok Tryz.underlying64 (m:=1) (by kernel_rfl) (fun _=>rfl) oSpan).to id (fun _ h=>⟨rfl,h.1⟩)
abbrev OkRq(q:Rq):Prop:=q.path.size≤NB∧q.set.length≤NB
theorem oRq:Op enc w 66 AM OkRq :=
 (E8 bulk_ok Tryz.underlying66 (L:=2) (by kernel_rfl) (BY rfl (n:=1) (by kernel_rfl) oS (BY rfl (n:=1) (by kernel_rfl) oSet Gb))).to
  (fun p=>(⟨p.1,p.2.1⟩:Rq)) (fun _ h=>⟨rfl,h.1,h.2.1⟩)
abbrev OkRqs(l:List Rq):Prop:=l.length≤NB∧∀q∈l,OkRq q
theorem oRqs:Op enc w 43 (fun l:List Rq=>[sl AM l]) OkRqs :=
 Ip bulk_ok Tryz.underlying43 (m:=1) (by kernel_rfl) (fun _=>rfl) oRq
abbrev OkRl(r:Rl):Prop:=r.path.size≤NB∧OkRqs r.reqs
theorem oRl:Op enc w 45 Ai OkRl :=
 (E8 bulk_ok Tryz.underlying45 (L:=9) (by kernel_rfl) (BY rfl (n:=1) (by kernel_rfl) oS (BY rfl (n:=3) (by kernel_rfl) oVer (BY rfl (n:=1) (by kernel_rfl) oRqs
  (BY rfl (n:=1) (by kernel_rfl) oS (BY rfl (n:=1) (by kernel_rfl) oS (BY rfl (n:=1) (by kernel_rfl) oS (BY rfl (n:=1) (by kernel_rfl) oB Gb)))))))).to
  (fun p=>(⟨p.1,p.2.1,p.2.2.1,p.2.2.2.1,p.2.2.2.2.1,p.2.2.2.2.2.1,p.2.2.2.2.2.2.1⟩:Rl)) (fun _ h=>⟨rfl,h.1,h.2.2.1⟩)
theorem oRls:Op enc w 22 (fun l:List Rl=>[sl Ai l]) (fun l=>l.length≤NB∧∀r∈l,OkRl r) :=
 Ip bulk_ok Tryz.underlying22 (m:=8) (by kernel_rfl) (fun _=>rfl) oRl
theorem oIfc:Op enc w 86 (fun s:ByteArray=>[vs s,.junk,.junk,.junk,.junk]) (fun _=>True) :=
 (E8 bulk_ok Tryz.underlying86 (L:=5) (by kernel_rfl) (BY rfl (n:=1) (by kernel_rfl) oS (BY rfl (n:=1) (by kernel_rfl) (MD Tryz.underlying81) (BY rfl (n:=1) (by kernel_rfl) (MD Tryz.underlying82)
  (BY rfl (n:=1) (by kernel_rfl) (MD Tryz.underlying83) (BY rfl (n:=1) (by kernel_rfl) (MD Tryz.underlying84) Gb)))))).to (fun p=>p.1) (fun _ _=>⟨rfl,trivial⟩)
theorem oIfs:Op enc w 23 (fun l:List ByteArray=>[sl (fun s=>[vs s,.junk,.junk,.junk,.junk]) l]) (fun l=>l.length≤NB) :=
 (Ip bulk_ok Tryz.underlying23 (m:=4) (by kernel_rfl) (fun _=>rfl) oIfc).to id (fun _ h=>⟨rfl,h.1⟩)
theorem oIx:Op enc w 25 (fun p:List Rl×List (List AV)=>[sl Ai p.1,.slice .none p.2]) (fun p=>(p.1.length≤NB∧∀r∈p.1,OkRl r)∧p.2.length≤NB∧∀c∈p.2,c.length=5) :=
 (E8 bulk_ok Tryz.underlying25 (L:=2) (by kernel_rfl) (BY rfl (n:=1) (by kernel_rfl) oRls (BY rfl (n:=1) (by kernel_rfl) oIfs Gb))).to
  (fun p=>(p.1,p.2.1.map (fun s=>[vs s,.junk,.junk,.junk,.junk]))) (fun _ h=>⟨rfl,h.1,by rw[A9];exact h.2.1,fun c hc=>by obtain⟨s,_,rfl⟩:=Am.1 hc;rfl⟩)
theorem oSl:Op enc w 51 Ae (fun y=>y.path.size≤NB) :=
 (E8 bulk_ok Tryz.underlying51 (L:=4) (by kernel_rfl) (BY rfl (n:=1) (by kernel_rfl) oS (BY rfl (n:=3) (by kernel_rfl) oVer Gb))).to
  (fun p=>(⟨p.1,p.2.1⟩:Sl)) (fun _ h=>⟨rfl,h.1⟩)
theorem oSls:Op enc w 26 (fun l:List Sl=>[sl Ae l]) (fun l=>l.length≤NB∧∀y∈l,y.path.size≤NB) :=
 Ip bulk_ok Tryz.underlying26 (m:=3) (by kernel_rfl) (fun _=>rfl) oSl
abbrev OkW(w:Wk):Prop:=(w.rep.length≤NB∧∀r∈w.rep,OkRl r)∧(w.exc.length≤NB∧∀y∈w.exc,y.path.size≤NB)∧w.pin.length≤NB∧∀y∈w.pin,y.path.size≤NB
theorem oWk:Op enc w 28 (fun p:Wk=>Bx p) OkW :=
 (E8 bulk_ok Tryz.underlying28 (L:=3) (by kernel_rfl) (BY rfl (n:=1) (by kernel_rfl) oRls (BY rfl (n:=1) (by kernel_rfl) oSls (BY rfl (n:=1) (by kernel_rfl) oSls Gb)))).to
  (fun p=>(⟨p.1,p.2.1,p.2.2.1⟩:Wk)) (fun _ h=>⟨rfl,h.1,h.2.1,h.2.2.1⟩)
theorem few_of{n:Nat}(h:n≤NB):n≤1073741824:=A3 h (by decide)
theorem lim_of{x:List Rl}{roots:List Rq}(h:x.length≤NB∧∀r∈x,OkRl r)(k:OkRqs roots):wl x roots where
 ix:=few_of h.1
 rs:=few_of k.1
 rel r hr:=⟨few_of (h.2 r hr).2.1,few_of (h.2 r hr).1,fun q hq=>⟨few_of ((h.2 r hr).2.2 q hq).2,few_of ((h.2 r hr).2.2 q hq).1⟩⟩
 rq q hq:=⟨few_of (k.2 q hq).2,few_of (k.2 q hq).1⟩
theorem limw_of{w:Wk}(h:OkW w):Pk w where
 rep:=h.1.1
 exc:=h.2.1.1
 pin:=h.2.2.1
 rl r hr:=⟨few_of (h.1.2 r hr).2.1,few_of (h.1.2 r hr).1,fun q hq=>⟨few_of ((h.1.2 r hr).2.2 q hq).2,few_of ((h.1.2 r hr).2.2 q hq).1⟩⟩
 excs s hs:=few_of (h.2.1.2 s hs)
 pins s hs:=few_of (h.2.2.2 s hs)
theorem lim0_of{x:List Rl}(h:x.length≤NB∧∀r∈x,OkRl r):wl x []:=lim_of h ⟨AN _,fun q hq=>by cases hq⟩
end
theorem ok_agg{P:Program}{W:World}{base:Nat}{t:TypeId}{v:Value}{fs:Array Field}(hu:P.underlying t=some (.struct fs))(h:Value.okWide P W .any base t v):∃cs,v=.agg cs:=by
 unfold Value.okWide at h
 rw[hu]at h
 obtain⟨cs,e,_⟩:=h
 exact⟨cs,e⟩
theorem ok_slice{P:Program}{W:World}{base:Nat}{t e:TypeId}{v:Value}(hu:P.underlying t=some (.slice e))(h:Value.okWide P W .any base t v):v.oneCell'=true:=by
 unfold Value.okWide at h
 rw[hu]at h
 unfold Cell.okWide Cell.ok at h
 rw[hu]at h
 cases v<;>first | rfl | simp at h
theorem ok_int{P:Program}{W:World}{base:Nat}{t:TypeId}{k:IntKind}{v:Value}(hu:P.underlying t=some (.int k))(h:Value.okWide P W .any base t v):v.oneCell'=true:=by
 unfold Value.okWide at h
 rw[hu]at h
 unfold Cell.okWide Cell.ok at h
 rw[hu]at h
 cases v<;>first | rfl | simp at h
theorem int_of_shape{P:Program}{w:World}{g:Nat}{t:TypeId}{k:IntKind}{zero:Array Value}(h:w.ShapedOpen P)(hg:g<P.globals.size)
  (h0:((begin P (fun _ _=>0) default).world.heap[g]?).bind Obj.row?=some (zero,t)) (hz:zero.size=1)
  (hb:P.buildable t=true) (hc:P.cellTypes P.depth t=some [t]) (hu:P.underlying t=some (.int k)):∃p,w.cell? ⟨g,0,none⟩=some (.int k p):=by
 obtain⟨cs,hh,hs,hr⟩:=h.1 g zero t hg h0
 obtain⟨ts,xp,_,FM⟩:=hr hb
 rw[hc]at xp
 cases xp
 have h1:0<cs.size:=by omega
 obtain⟨u,fD,Gq⟩:=FM 0 cs[0] (by simp[h1])
 have:u=t:=by simpa using fD.symm
 subst this
 have DB:w.cell? ⟨g,0,none⟩=some cs[0]:=by simp[World.cell?,hh,h1]
 rw[DB]
 unfold Cell.ok at Gq
 rw[hu]at Gq
 cases hv:cs[0]<;>rw[hv]at Gq<;>simp at Gq
 obtain⟨rfl,_⟩:=Gq
 exact⟨_,rfl⟩
theorem maxLen_cell{W:World}(h:W.ShapedOpen Tryz.prog):∃m,W.cell? ⟨0,0,none⟩=some (.int .i64 m) :=
 int_of_shape (t:=3) (zero:=#[.int .i64 0]) h (BJ (by kernel_rfl)) (by kernel_rfl) rfl (by kernel_rfl) (by kernel_rfl) Tryz.underlying3
def Still(W W' : World):Prop:=W'.os=W.os∧W'.output=W.output∧W.heap.size≤W'.heap.size∧∀b,b<W.heap.size→W'.heap[b]?=W.heap[b]?
theorem run_true{f:Nat}{args:List AV}{vals:Array Value}{W:World}(hc:PC f args (vb true))(hM:∃m,W.cell? ⟨0,0,none⟩=some (.int .i64 m))(hs:vals.size=args.length)
  (hr:∀(i:Nat) (av:AV) (x:Value),args[i]?=some av→vals[i]?=some x→BG (iA W) W Fi av x):Calls Tryz.prog f vals W fun e W'=>e=.returned (.bool true)∧Still W W':=by
 refine(hc.2 (iA W) W vals hs (fun i av x q1 q2=>(hr i av x q1 q2).up _) (qv hM (fun _ h=>by cases h))).mono fun e W' ⟨v,r,h',g',e1,e2,e3,e4,_⟩=>?_
 subst e1
 obtain⟨rfl,rfl⟩:=e2
 obtain rfl:=e3.v_eq
 exact⟨rfl,e4.os,e4.output,e4.size,fun b hb=>e4.frame b hb (fun r h=>h.elim)⟩
theorem Still.kept{W W' : World}(h:Still W W')(xv:MemPlace→Prop):W.keptBut W' xv:=by
 refine⟨h.1,h.2.1,fun i hi=>?_⟩
 rw[h.2.2.2 i hi]
 cases hh:W.heap[i]? with
 |none=>rfl
 |some o=>cases o<;>simp
theorem Still.same{W W' : World}(h:Still W W'){p:MemPlace}(hp:p.block<W.heap.size):W.sameAt W' p:=by
 cases p with
 |cell b off =>
  show W'.cell? ⟨b,off,none⟩=W.cell? ⟨b,off,none⟩
  unfold World.cell?
  rw[h.2.2.2 b hp]
 |map b=>exact h.2.2.2 b hp
theorem kids:Kids Tryz.prog (· < Tryz.prog.types.size):=kids_rows (by kernel_rfl) (by kernel_rfl)
theorem full:∀t e,t<Tryz.prog.types.size→Tryz.prog.underlying t=some (.slice e)→0<Tryz.prog.cellsOf e:=slices_full_of Tryz.prog (by kernel_rfl)
theorem carry{H:Type}{enc:TypeId×Value→H}{W W' : World}(h:Still W W'):∀{ts:List TypeId} {vs:List Value} {ds:List (DataW H)} {ps:List MemPlace},DataW.TrodAll enc Tryz.prog W 0 (fun _=>true) true ts vs ds ps→DataW.TrodAll enc Tryz.prog W' 0 (fun _=>true) true ts vs ds ps
 | [],[],[],_,e=>e
 |t::ts,v::vs,d::ds,ps,k=>by
  have DF:=k.lt
  obtain⟨p,q,⟨n,h1⟩,h2,rfl⟩:=k
  exact⟨p,q,⟨n,DataW.trod_carry n _ _ _ h1 (fun x hx=>h.same (DF x (Bn _ hx)))⟩,carry h h2,rfl⟩
 | [],[],_::_,_,k=>k.elim
 | [],_::_,_,_,k=>k.elim
 |_::_,[],_,_,k=>k.elim
 |_::_,_::_,[],_,k=>k.elim
theorem post_true{H:Type}{enc:TypeId×Value→H}{W W' : World}{f:Func}{s:ChangeSpec}{args:Array Value}{ds:List (DataW H)}{before:List MemPlace}(I9:Still W W')(hv:s.vars=[])
  (hW:DataW.Whole enc Tryz.prog f.params.toList s.vars false W args.toList ds [] before) (hr:f.resultTypes=#[4]) (hT:∀t∈f.params.toList,t<Tryz.prog.types.size) (hs:s.fn H ds={ results:=[.lit (.bool true)],args:=ds }) :
  s.post enc Tryz.prog f false true false false W args (.bool true) W':=by
 have wM:=hW
 obtain⟨p,q,hA,hV,rfl,hz,_⟩:=hW
 rw[hv]at hV
 have hq:q=[]:=hV
 subst hq
 have DF:=wM.lt
 have oq:s.fn H (ds++[])={ results:=[.lit (.bool true)],args:=ds }:=by rw[BZ];exact hs
 refine⟨ds,[],p++[],[],p,[],wM,?_,?_,?_,I9.kept _,fun h=>by cases h⟩
 ·rw[oq,hr]
  exact⟨[],[],⟨1,by rw[show(Value.bool true).cells.toList=[.bool true]from rfl,DataW.trod_step];unfold DataW.trodStep;rw[Tryz.underlying4]⟩,rfl,rfl⟩
 ·rw[oq]
  exact(carry I9 hA).respare kids full hT (fun x hx=>by simpa using DF x (Bn _ hx))
 ·rw[oq,hv];rfl
end Go.Proofs.YtmcbkdbfaneofaaGreatDoor.joins
namespace Go.Proofs.YtmcbkdbfaneofaaGreatDoor.joins
open Go Go.Eng Go.Proofs Go.ChangeShapes Go.WideShapes Go.ChangeAt Go.RowKit
theorem own:ownKnob Tryz.prog.godebug=none:=by kernel_rfl
def flatD:Nat→DataW Unit→List Value
 |0,_=>[]
 |n+1,.agg l=>l.flatMap (flatD n)
 |_+1,.lit (.int k i)=>[.int k i]
 |_+1,_=>[]
def layIn(d:DataW Unit):Obj→Obj
 |.cells _ t frozen=>.cells (flatD 4 d).toArray t frozen
 |o=>o
noncomputable def laidWorld(os:Os):World :=
 { World.holding Tryz.prog os ⟨#[],#[],[]⟩with heap:=((World.holding Tryz.prog os ⟨#[],#[],[]⟩).heap.modify 1 (layIn Rows.laid_unicode_utf8_first)).modify 2 (layIn Rows.laid_unicode_utf8_acceptRanges) }
abbrev nilV:Value:=.slice none 0 0
theorem arr1{args:Array Value}{a:Value}(h:args.toList=[a]):args=#[a]:=by
 cases args;simp_all
theorem arr2{args:Array Value}{a b:Value}(h:args.toList=[a,b]):args=#[a,b]:=by
 cases args;simp_all
theorem arr3{args:Array Value}{a b c:Value}(h:args.toList=[a,b,c]):args=#[a,b,c]:=by
 cases args;simp_all
theorem arr4{args:Array Value}{a b c d:Value}(h:args.toList=[a,b,c,d]):args=#[a,b,c,d]:=by
 cases args;simp_all
theorem arr5{args:Array Value}{a b c d e:Value}(h:args.toList=[a,b,c,d,e]):args=#[a,b,c,d,e]:=by
 cases args;simp_all
theorem looksOff:false=Tryz.pinned.checked.prog.looks []:=by kernel_rfl
theorem noStand:∀t∈([25,28,43]:List Nat),Tryz.pinned.checked.prog.wantsStandIn t=false:=by
 intro t ht
 simp only[Au,Lq,or_false]at ht
 rcases ht with rfl | rfl | rfl<;>exact(show Tryz.prog.wantsStandIn _=false by kernel_rfl)
end Go.Proofs.YtmcbkdbfaneofaaGreatDoor.joins
