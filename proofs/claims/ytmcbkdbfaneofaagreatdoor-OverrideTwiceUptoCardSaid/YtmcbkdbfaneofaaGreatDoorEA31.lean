/- Lemmas for the claims of this seat, without a condition: part 31 (S19, S20, O18, O19, J1, J2). -/
import Derived.Test.YtmcbkdbfaneofaaGreatDoorEA30
import Derived.Test.YtmcbkdbfaneofaaGreatDoorCards
import Derived.Test.YtmcbkdbfaneofaaGreatDoorTie
import Derived.ProofKit
import Derived.OpenShut
import Derived.Deep.DeepHandedRow
import Derived.Lib.LaidTab
set_option maxHeartbeats 4000000
namespace Go.Eng
open Go.Proofs
abbrev kW:T2:=⟨[2],[],[],[],[],[],[],[(50,(9,3,95,3))],[(44,0)],[(100016,1009)],[3,4,5,6,7,8,9,10,11,14,15,16]⟩
abbrev an0:An:=⟨false,[],[],[]⟩
def Mu(x:List Rl)(roots:List Rq):An:=if GF x roots=true∧(FG x roots).ss.full=false then pp x roots else an0
def Mw(x:List Rl)(roots:List Rq):Int:=if GF x roots=true then if(FG x roots).ss.full=true then 7 else 0 else 1
abbrev iF(x:List Rl)(roots:List Rq):AV:=.tup [.agg (Sr (Mu x roots)),vi (Mw x roots)]
theorem Hm.an0{v:AV}:Hm (.tup [.agg [vb false,.v (.slice none 0 0),.v (.slice none 0 0),.v (.slice none 0 0)],v]) (.tup [.agg (Sr an0),v]) :=
 Hm.tup ⟨Hm.agg ⟨.refl _,.nil,.nil,.nil,trivial⟩,.refl _,trivial⟩
theorem TS{x:List Rl}{roots:List Rq}(hx:∀r∈x,IR r)(hr:∀q∈roots,N6 q)(h0:A4 x=0)(h1:BS roots=0){L:List ByteArray}(hl:L.Perm (AQ (yR x) [])){o:JV}(ho:FG x roots=o) :
  Be Tryz.prog 97 [.ref 1000 0] (Ai (I1 roots (mC x) (L.map (kA x)) s8 [] []) Ab) (YE roots (mC x) (L.map (kA x)) o):=by
 rw[←ho];exact wQ (m5 hx hr h0 h1 hl) (x.length+1) (.nil x) (II.nil roots) ⟨⟨rfl,AO _⟩,E7⟩ rfl (Nat.lt_succ_of_le (BD _ _)) rfl
theorem i7{x:List Rl}{roots:List Rq}(h:GF x roots=true):A4 x=0∧BS roots=0:=by
 unfold GF at h;rw[Ag,AA,AA]at h;exact h
theorem lj(x:List Rl)(ifs:List (List AV))(roots:List Rq)(hx:∀r∈x,IR r)(hr:∀q∈roots,N6 q)(hv:GF x roots=false):PC 72 [I2 x ifs,sl AM roots] (.tup [.agg (Sr an0),vi 1]):=by
 have SM:=sY x ifs roots hx hr;rw[hv]at SM;refine Ps kW Tryz.func72 rfl (Nz rfl) ?_;refine Yi ?_ ?_
 ·exact Nz rfl
 refine Xi .pure (Xi _ (Yi SM ?_));refine Yi ?_ ?_
 ·exact Nz rfl
 refine Yi ?_ ?_
 ·exact Nz rfl
 exact Hm.an0
theorem iz(x:List Rl)(ifs:List (List AV))(roots:List Rq)(hx:∀r∈x,IR r)(hr:∀q∈roots,N6 q)(hv:GF x roots=true)(h0:A4 x=0)(h1:BS roots=0)(k:Nat)(infs:List Nf)(drv:List (List Tm))(dec:List Cd)(st:List (List Sk))(ho:FG x roots=⟨k,false,⟨infs,drv,true⟩,dec,st⟩):PC 72 [I2 x ifs,sl AM roots] (.tup [.agg (Sr an0),vi 7]):=by
 have SM:=sY x ifs roots hx hr;rw[hv]at SM;refine Ps kW Tryz.func72 rfl (Nz rfl) ?_;refine Yi ?_ ?_
 ·exact Nz rfl
 refine Xi .pure (Xi _ (Yi SM ?_));refine Xi ⟨[(1,sl AM roots),(2,.ref 2 0),(4,.ref 4 0)],[(2,.ro (Ic x ifs)),(4,.cells [vb false,.v (.slice none 0 0),.v (.slice none 0 0),.v (.slice none 0 0)])],Ab⟩ (Yi ⟨Z3,Z2,Fh,Tv⟩ ?_)
 refine Yi ?_ ?_
 ·exact Nz rfl
 refine Xi (.gen [] 5) (Yi rfl ((wN x ifs roots hx h0).imp ?_));intro v g q;refine Dn q (fun L q=>?_);have q1:=q.2.1;have q2:=q.2.2;have qp:=q.1;subst q1;subst q2;refine Xi ⟨[(4,.ref 4 0),(6,.ref 11900 0)],[(4,.cells [vb false,.v (.slice none 0 0),.v (.slice none 0 0),.v (.slice none 0 0)]),(11900,.cells [sl AM roots,.cmap C3 (mC x),.cmap C3 (L.map (kA x)),.slice (.id 11901 6) [],.slice (.id 11902 1) [],.mref 11903,vb false,.slice .none [],.slice .none [],.msl 11904 0]),(11901,.tok 6 0),(11902,.tok 1 0),(11903,.map DW []),(11904,.arr 1 [])],Ab⟩ (Yi ⟨Z2,Z6,Fh,Tv⟩ ?_)
 refine Xi (.gen [(11900,1000),(11901,1001),(11902,1002),(11903,1003),(11904,1004)] 1) (Yi rfl ((TS hx hr h0 h1 qp ho).imp ?_));intro v g q;have q1:=q.1;have q2:=q.2;subst q1;subst q2;refine Xi ⟨[(4,.ref 4 0),(6,.ref 11900 0),(7,vi (k:Nat)),(8,vb false)],[(4,.cells [vb false,.v (.slice none 0 0),.v (.slice none 0 0),.v (.slice none 0 0)]),(11900,.cells [sl AM roots,.cmap C3 (mC x),.cmap C3 (L.map (kA x)),.slice (.id 11901 6) (infs.map BX),.slice (.id 11902 1) (drv.map Ca),.mref 11903,vb true,sl AE dec,sl Af (AK dec),.msl 12200 st.length]),(11901,.tok 6 infs.length),(11902,.tok 1 drv.length),(11903,.map DW (DY 0 infs)),(12200,.arr 1 (st.map AS))],Ab⟩ (Yi ⟨Z4,Z6,Fh,Tv⟩ ?_)
 refine Yi (fun _=>?_) (fun h=>by cases h);refine Xi ⟨[(4,.ref 4 0)],[(4,.cells [vb false,.v (.slice none 0 0),.v (.slice none 0 0),.v (.slice none 0 0)])],Ab⟩ (Yi ⟨Z1,Z1,Fh,Tv⟩ ?_)
 refine Yi ?_ ?_
 ·exact Nz rfl
 refine Yi ?_ ?_
 ·exact Nz rfl
 exact Hm.an0
theorem ox(x:List Rl)(ifs:List (List AV))(roots:List Rq)(hx:∀r∈x,IR r)(hr:∀q∈roots,N6 q)(hv:GF x roots=true)(h0:A4 x=0)(h1:BS roots=0)(k:Nat)(infs:List Nf)(drv:List (List Tm))(dec:List Cd)(st:List (List Sk))(ho:FG x roots=⟨k,false,⟨infs,drv,false⟩,dec,st⟩)(hk:k<infs.length)(hl:infs.length≤65536):PC 72 [I2 x ifs,sl AM roots] (.tup [.agg (Sr ⟨false,[],infs.take (k+1),[]⟩),vi 0]):=by
 have SM:=sY x ifs roots hx hr;rw[hv]at SM;refine Ps kW Tryz.func72 rfl (Nz rfl) ?_;refine Yi ?_ ?_
 ·exact Nz rfl
 refine Xi .pure (Xi _ (Yi SM ?_));refine Xi ⟨[(1,sl AM roots),(2,.ref 2 0),(4,.ref 4 0)],[(2,.ro (Ic x ifs)),(4,.cells [vb false,.v (.slice none 0 0),.v (.slice none 0 0),.v (.slice none 0 0)])],Ab⟩ (Yi ⟨Z3,Z2,Fh,Tv⟩ ?_)
 refine Yi ?_ ?_
 ·exact Nz rfl
 refine Xi (.gen [] 5) (Yi rfl ((wN x ifs roots hx h0).imp ?_));intro v g q;refine Dn q (fun L q=>?_);have q1:=q.2.1;have q2:=q.2.2;have qp:=q.1;subst q1;subst q2;refine Xi ⟨[(4,.ref 4 0),(6,.ref 11900 0)],[(4,.cells [vb false,.v (.slice none 0 0),.v (.slice none 0 0),.v (.slice none 0 0)]),(11900,.cells [sl AM roots,.cmap C3 (mC x),.cmap C3 (L.map (kA x)),.slice (.id 11901 6) [],.slice (.id 11902 1) [],.mref 11903,vb false,.slice .none [],.slice .none [],.msl 11904 0]),(11901,.tok 6 0),(11902,.tok 1 0),(11903,.map DW []),(11904,.arr 1 [])],Ab⟩ (Yi ⟨Z2,Z6,Fh,Tv⟩ ?_)
 refine Xi (.gen [(11900,1000),(11901,1001),(11902,1002),(11903,1003),(11904,1004)] 1) (Yi rfl ((TS hx hr h0 h1 qp ho).imp ?_));intro v g q;have q1:=q.1;have q2:=q.2;subst q1;subst q2;refine Xi ⟨[(4,.ref 4 0),(6,.ref 11900 0),(7,vi (k:Nat)),(8,vb false)],[(4,.cells [vb false,.v (.slice none 0 0),.v (.slice none 0 0),.v (.slice none 0 0)]),(11900,.cells [sl AM roots,.cmap C3 (mC x),.cmap C3 (L.map (kA x)),.slice (.id 11901 6) (infs.map BX),.slice (.id 11902 1) (drv.map Ca),.mref 11903,vb false,sl AE dec,sl Af (AK dec),.msl 12200 st.length]),(11901,.tok 6 infs.length),(11902,.tok 1 drv.length),(11903,.map DW (DY 0 infs)),(12200,.arr 1 (st.map AS))],Ab⟩ (Yi ⟨Z4,Z6,Fh,Tv⟩ ?_)
 refine Yi (fun h=>by cases h) (fun _=>?_);refine Xi ⟨[(4,.ref 4 0),(6,.ref 11900 0),(7,vi (k:Nat)),(8,vb false)],[(4,.cells [vb false,.v (.slice none 0 0),.v (.slice none 0 0),.v (.slice none 0 0)]),(11900,.cells [sl AM roots,.cmap C3 (mC x),.cmap C3 (L.map (kA x)),.slice (.id 11901 6) (infs.map BX),.slice (.id 11902 1) (drv.map Ca),.mref 11903,vb false,sl AE dec,sl Af (AK dec),.msl 12200 st.length]),(11901,.tok 6 infs.length),(11902,.tok 1 drv.length),(11903,.map DW (DY 0 infs)),(12200,.arr 1 (st.map AS))],Ab⟩ (Yi ⟨Z4,Z6,Fh,Tv⟩ ?_)
 refine Xi ⟨[(4,.ref 4 0),(6,.ref 11900 0),(7,vi (k:Nat))],[(4,.cells [vb false,.v (.slice none 0 0),.v (.slice none 0 0),.v (.slice none 0 0)]),(11900,.cells [sl AM roots,.cmap C3 (mC x),.cmap C3 (L.map (kA x)),.slice (.id 11901 6) (infs.map BX),.slice (.id 11902 1) (drv.map Ca),.mref 11903,vb false,sl AE dec,sl Af (AK dec),.msl 12200 st.length]),(11901,.tok 6 infs.length),(11902,.tok 1 drv.length),(11903,.map DW (DY 0 infs)),(12200,.arr 1 (st.map AS))],Ab⟩ (Yi ⟨Z3,Z6,Fh,Tv⟩ ?_)
 refine Yi (Ii k (by omega)) ?_;have el:(infs.map BX).length=infs.length:=Lm ..;refine Yi ⟨AZ _,by show(0:Int)≤(k:Int)+1;omega,by show(k:Int)+1≤((infs.map BX).length:Int);rw[el];omega⟩ ?_;refine Yi (fun cs hcs=>by obtain⟨i,_,rfl⟩:=Ak.1 hcs;rfl) ?_;refine Yi ?_ ?_
 ·exact Nz rfl
 refine Yi ?_ ?_
 ·exact Nz rfl
 have et:((infs.map BX).take ((k:Int)+1).toNat).drop (0:Int).toNat=(infs.take (k+1)).map BX:=by
  rw[show((k:Int)+1).toNat=k+1 by omega];simp
 exact Hm.tup ⟨Hm.agg ⟨.refl _,.nil,.of_eq (show AV.slice .none (((infs.map BX).take ((k:Int)+1).toNat).drop (0:Int).toNat)=_ by rw[et]),.nil,trivial⟩,.refl _,trivial⟩
theorem U9(y:Sl):∀l:List Sl,(Uq y l).Perm (y::l)
 | []=>.refl _
 |z::l=>by
  unfold Uq;split
  ·exact .refl _
  ·exact((U9 y l).cons z).trans (List.Perm.swap y z l)
theorem TT:∀l:List Sl,(FU l).Perm l
 | []=>.refl _
 |y::l=>(U9 y _).trans ((TT l).cons y)
theorem Xw{b:Nat}:∀{st:List (List Sk)},(∀s∈st,s.length≤b)→st.flatten.length≤b*st.length
 | [],_=>by simp
 |s::st,h=>by
  rw[By,Ad,Au,Nat.mul_succ]
  have:=h s (Aa ..)
  have:=Xw (st:=st) fun t ht=>h t (Ae _ ht)
  omega
theorem iD{st:List (List Sk)}(h:st.length≤256)(hs:∀s∈st,s.length≤256)(i:Nat):((st.take i).flatten).length≤65536:=by
 have h1:=Xw (b:=256) (st:=st.take i) fun s U6=>hs s (Er U6)
 have:(st.take i).length≤256:=by rw[AJ];omega
 omega
theorem lk(x:List Rl)(ifs:List (List AV))(roots:List Rq)(hx:∀r∈x,IR r)(hr:∀q∈roots,N6 q)(hv:GF x roots=true)(h0:A4 x=0)(h1:BS roots=0)(k:Nat)(infs:List Nf)(drv:List (List Tm))(dec:List Cd)(st:List (List Sk))(ho:FG x roots=⟨k,true,⟨infs,drv,false⟩,dec,st⟩)(hd:dec.length≤256)(hn:((AK dec).map (·.path)).Nodup)(Jg:st.length≤256)(xX:∀s∈st,s.length≤256):PC 72 [I2 x ifs,sl AM roots] (.tup [.agg (Sr ⟨true,FU (AK dec),infs,st.flatten⟩),vi 0]):=by
 have SM:=sY x ifs roots hx hr;rw[hv]at SM;refine Ps kW Tryz.func72 rfl (Nz rfl) ?_;refine Yi ?_ ?_
 ·exact Nz rfl
 refine Xi .pure (Xi _ (Yi SM ?_));refine Xi ⟨[(1,sl AM roots),(2,.ref 2 0),(4,.ref 4 0)],[(2,.ro (Ic x ifs)),(4,.cells [vb false,.v (.slice none 0 0),.v (.slice none 0 0),.v (.slice none 0 0)])],Ab⟩ (Yi ⟨Z3,Z2,Fh,Tv⟩ ?_)
 refine Yi ?_ ?_
 ·exact Nz rfl
 refine Xi (.gen [] 5) (Yi rfl ((wN x ifs roots hx h0).imp ?_));intro v g q;refine Dn q (fun L q=>?_);have q1:=q.2.1;have q2:=q.2.2;have qp:=q.1;subst q1;subst q2;refine Xi ⟨[(4,.ref 4 0),(6,.ref 11900 0)],[(4,.cells [vb false,.v (.slice none 0 0),.v (.slice none 0 0),.v (.slice none 0 0)]),(11900,.cells [sl AM roots,.cmap C3 (mC x),.cmap C3 (L.map (kA x)),.slice (.id 11901 6) [],.slice (.id 11902 1) [],.mref 11903,vb false,.slice .none [],.slice .none [],.msl 11904 0]),(11901,.tok 6 0),(11902,.tok 1 0),(11903,.map DW []),(11904,.arr 1 [])],Ab⟩ (Yi ⟨Z2,Z6,Fh,Tv⟩ ?_)
 refine Xi (.gen [(11900,1000),(11901,1001),(11902,1002),(11903,1003),(11904,1004)] 1) (Yi rfl ((TS hx hr h0 h1 qp ho).imp ?_));intro v g q;have q1:=q.1;have q2:=q.2;subst q1;subst q2;refine Xi ⟨[(4,.ref 4 0),(6,.ref 11900 0),(7,vi (k:Nat)),(8,vb true)],[(4,.cells [vb false,.v (.slice none 0 0),.v (.slice none 0 0),.v (.slice none 0 0)]),(11900,.cells [sl AM roots,.cmap C3 (mC x),.cmap C3 (L.map (kA x)),.slice (.id 11901 6) (infs.map BX),.slice (.id 11902 1) (drv.map Ca),.mref 11903,vb false,sl AE dec,sl Af (AK dec),.msl 12200 st.length]),(11901,.tok 6 infs.length),(11902,.tok 1 drv.length),(11903,.map DW (DY 0 infs)),(12200,.arr 1 (st.map AS))],Ab⟩ (Yi ⟨Z4,Z6,Fh,Tv⟩ ?_)
 refine Yi (fun h=>by cases h) (fun _=>?_);refine Xi ⟨[(4,.ref 4 0),(6,.ref 11900 0),(8,vb true)],[(4,.cells [vb false,.v (.slice none 0 0),.v (.slice none 0 0),.v (.slice none 0 0)]),(11900,.cells [sl AM roots,.cmap C3 (mC x),.cmap C3 (L.map (kA x)),.slice (.id 11901 6) (infs.map BX),.slice (.id 11902 1) (drv.map Ca),.mref 11903,vb false,sl AE dec,sl Af (AK dec),.msl 12200 st.length]),(11901,.tok 6 infs.length),(11902,.tok 1 drv.length),(11903,.map DW (DY 0 infs)),(12200,.arr 1 (st.map AS))],Ab⟩ (Yi ⟨Z3,Z6,Fh,Tv⟩ ?_)
 refine Xi ⟨[(4,.ref 4 0),(6,.ref 11900 0)],[(4,.cells [vb false,.v (.slice none 0 0),.v (.slice none 0 0),.v (.slice none 0 0)]),(11900,.cells [sl AM roots,.cmap C3 (mC x),.cmap C3 (L.map (kA x)),.slice (.id 11901 6) (infs.map BX),.slice (.id 11902 1) (drv.map Ca),.mref 11903,vb false,sl AE dec,sl Af (AK dec),.msl 12200 st.length]),(11901,.tok 6 infs.length),(11902,.tok 1 drv.length),(11903,.map DW (DY 0 infs)),(12200,.arr 1 (st.map AS))],Ab⟩ (Yi ⟨Z2,Z6,Fh,Tv⟩ ?_)
 have o0:(AK dec).length≤256:=by rw[Lm];exact hd
 have aB:Cm (AK dec):=AU o0 (by decide);refine Xi (AK dec).length (Xi 4 (Xi ((AK dec).map Af) (Yi rfl (Yi (rW (AK dec) aB) ?_))));refine Yi ?_ ?_
 ·exact Nz rfl
 refine Yi (by kernel_rfl) ?_;refine Xi ⟨[(4,.ref 4 0),(6,.ref 11900 0),(9,.ref 9 0)],[(4,.cells [vb false,.v (.slice none 0 0),.v (.slice none 0 0),.v (.slice none 0 0)]),(9,.cells [vb true,.msl 14400 (AK dec).length,.slice (.id 11901 6) (infs.map BX),.v (.slice none 0 0)]),(11900,.cells [sl AM roots,.cmap C3 (mC x),.cmap C3 (L.map (kA x)),.slice (.id 11901 6) (infs.map BX),.slice (.id 11902 1) (drv.map Ca),.mref 11903,vb false,sl AE dec,sl Af (AK dec),.msl 12200 st.length]),(11901,.tok 6 infs.length),(11902,.tok 1 drv.length),(11903,.map DW (DY 0 infs)),(12200,.arr 1 (st.map AS)),(14400,.arr 4 ((AK dec).map Af))],Ab⟩ (Yi ⟨Z3,Z8,Fh,Tv⟩ ?_)
 refine Xi (.gen [(14400,1000)] 0) (Yi rfl ((s47 99 Tryz.closure99 (enters_of Tryz.func99 (by kernel_rfl) rfl) (AK dec) aB hn).imp ?_));intro v g q;have q1:=q.1;have q2:=q.2;subst q1;subst q2;refine Xi ⟨[(4,.ref 4 0),(6,.ref 11900 0),(9,.ref 9 0)],[(4,.cells [vb false,.v (.slice none 0 0),.v (.slice none 0 0),.v (.slice none 0 0)]),(9,.cells [vb true,.msl 14400 (AK dec).length,.slice (.id 11901 6) (infs.map BX),.slice (.id 95 3) []]),(95,.tok 3 0),(11900,.cells [sl AM roots,.cmap C3 (mC x),.cmap C3 (L.map (kA x)),.slice (.id 11901 6) (infs.map BX),.slice (.id 11902 1) (drv.map Ca),.mref 11903,vb false,sl AE dec,sl Af (AK dec),.msl 12200 st.length]),(11901,.tok 6 infs.length),(11902,.tok 1 drv.length),(11903,.map DW (DY 0 infs)),(12200,.arr 1 (st.map AS)),(14400,.arr 4 ((FU (AK dec)).map Af))],Ab⟩ (Yi ⟨Z3,Z9,Fh,Tv⟩ ?_)
 refine Xi {i:Nat // i≤st.length} (Xi (fun i=>⟨[(4,.ref 4 0),(6,.ref 11900 0),(9,.ref 9 0),(56,.msl 12200 st.length),(57,vi (st.length:Nat)),(58,vi i.1)],[(4,.cells [vb false,.v (.slice none 0 0),.v (.slice none 0 0),.v (.slice none 0 0)]),(9,.cells [vb true,.msl 14400 (AK dec).length,.slice (.id 11901 6) (infs.map BX),.slice (.id 95 3) ((st.take i.1).flatten.map BV)]),(95,.tok 3 ((st.take i.1).flatten.map BV).length),(11900,.cells [sl AM roots,.cmap C3 (mC x),.cmap C3 (L.map (kA x)),.slice (.id 11901 6) (infs.map BX),.slice (.id 11902 1) (drv.map Ca),.mref 11903,vb false,sl AE dec,sl Af (AK dec),.msl 12200 st.length]),(11901,.tok 6 infs.length),(11902,.tok 1 drv.length),(11903,.map DW (DY 0 infs)),(12200,.arr 1 (st.map AS)),(14400,.arr 4 ((FU (AK dec)).map Af))],Ab⟩) (Xi (fun i=>st.length-i.1) (Yi (Xi ⟨0,AO _⟩ ?_) ?_)))
 ·exact⟨Z6,Z9,Fh,Tv⟩
 intro⟨i,i1⟩;have i1:i≤st.length:=i1;refine Yi ?_ ?_
 ·intro h;have h:(i:Int)<(st.length:Nat):=h;have h:i<st.length:=by omega
  have hg:st[i]?=some st[i]:=Ge h;have Kv:st.take (i+1)=st.take i++[st[i]]:=by rw[Bu,hg];rfl
  refine Yi (Yi (Nn i) (by show(i:Int)<(st.length:Nat);omega)) ?_;refine Yi (by rw[Lm]) (Xi (AS st[i]) (Yi (by show(st.map AS)[((i:Nat):Int).toNat]?=_;rw[Ci,AG,hg];rfl) ?_));refine Xi ⟨[(4,.ref 4 0),(6,.ref 11900 0),(9,.ref 9 0),(11,sl BV st[i]),(56,.msl 12200 st.length),(57,vi (st.length:Nat)),(58,vi i)],[(4,.cells [vb false,.v (.slice none 0 0),.v (.slice none 0 0),.v (.slice none 0 0)]),(9,.cells [vb true,.msl 14400 (AK dec).length,.slice (.id 11901 6) (infs.map BX),.slice (.id 95 3) ((st.take i).flatten.map BV)]),(95,.tok 3 ((st.take i).flatten.map BV).length),(11900,.cells [sl AM roots,.cmap C3 (mC x),.cmap C3 (L.map (kA x)),.slice (.id 11901 6) (infs.map BX),.slice (.id 11902 1) (drv.map Ca),.mref 11903,vb false,sl AE dec,sl Af (AK dec),.msl 12200 st.length]),(11901,.tok 6 infs.length),(11902,.tok 1 drv.length),(11903,.map DW (DY 0 infs)),(12200,.arr 1 (st.map AS)),(14400,.arr 4 ((FU (AK dec)).map Af))],Ab⟩ (Yi ⟨Z7,Z9,Fh,Tv⟩ ?_)
  have hfl:((st.take i).flatten).length≤65536∧st[i].length≤256:=⟨iD Jg xX i,xX _ (Ap _)⟩;have Gp:Do 3 (st[i].map BV)∧((st.take i).flatten.map BV).length=((st.take i).flatten.map BV).length∧(((st.take i).flatten.map BV).length+(st[i].map BV).length)*32≤140737488355328∧((st.take i).flatten.map BV).length+(st[i].map BV).length≤9223372036854775807:=by
   refine⟨Ez (enc:=BV) (n:=3) (fun _=>rfl) _,rfl,?_,?_⟩<;>simp only[Lm]<;>omega
  refine Yi Gp ?_;refine Yi ?_ ?_
  ·exact Nz rfl
  have ef:((st.take i).flatten.map BV)++st[i].map BV=((st.take (i+1)).flatten.map BV):=by rw[Kv,CK,AH];simp
  have en:((st.take i).flatten.map BV).length+(st[i].map BV).length=((st.take (i+1)).flatten.map BV).length:=by rw[←ef,Ad]
  refine Xi ⟨[(4,.ref 4 0),(6,.ref 11900 0),(9,.ref 9 0),(56,.msl 12200 st.length),(57,vi (st.length:Nat)),(58,vi i)],[(4,.cells [vb false,.v (.slice none 0 0),.v (.slice none 0 0),.v (.slice none 0 0)]),(9,.cells [vb true,.msl 14400 (AK dec).length,.slice (.id 11901 6) (infs.map BX),.slice (.id 95 3) ((st.take (i+1)).flatten.map BV)]),(95,.tok 3 ((st.take (i+1)).flatten.map BV).length),(11900,.cells [sl AM roots,.cmap C3 (mC x),.cmap C3 (L.map (kA x)),.slice (.id 11901 6) (infs.map BX),.slice (.id 11902 1) (drv.map Ca),.mref 11903,vb false,sl AE dec,sl Af (AK dec),.msl 12200 st.length]),(11901,.tok 6 infs.length),(11902,.tok 1 drv.length),(11903,.map DW (DY 0 infs)),(12200,.arr 1 (st.map AS)),(14400,.arr 4 ((FU (AK dec)).map Af))],Ab⟩ (Yi ⟨Z6,⟨Zr,⟨Ac (fun z=>HO.cells [vb true,.msl 14400 (AK dec).length,.slice (.id 11901 6) (infs.map BX),.slice (.id 95 3) z]) ef,rfl⟩,⟨Ac (HO.tok 3) en,rfl⟩,Zr,Zr,Zr,Zr,Zr,Zr,Tv⟩,Fh,Tv⟩ ?_)
  refine Yi (Ii i (by omega)) ?_;refine Xi ⟨i+1,by omega⟩ ?_;exact⟨Dl st.length i (by omega),Z6,Z9,Fh,Tv⟩
 ·intro h;have h:¬(i:Int)<(st.length:Nat):=h;have et:st.take i=st:=AT (by omega);have WP:(AK dec).length=((FU (AK dec)).map Af).length:=(TT (AK dec)).length_eq.symm.trans (Lm ..).symm;refine Yi WP ?_;refine Xi ⟨[(4,.ref 4 0),(9,.ref 9 0)],[(4,.cells [vb false,.v (.slice none 0 0),.v (.slice none 0 0),.v (.slice none 0 0)]),(9,.cells [vb true,.slice (.id 14400 4) ((FU (AK dec)).map Af),.slice (.id 11901 6) (infs.map BX),.slice (.id 95 3) (st.flatten.map BV)]),(95,.tok 3 (st.flatten.map BV).length),(11901,.tok 6 infs.length),(14400,.tok 4 ((FU (AK dec)).map Af).length)],Ab⟩ (Yi ⟨Z2,⟨Zr,⟨Ac (fun z:List (List Sk)=>HO.cells [vb true,.slice (.id 14400 4) ((FU (AK dec)).map Af),.slice (.id 11901 6) (infs.map BX),.slice (.id 95 3) (z.flatten.map BV)]) et,rfl⟩,⟨Ac (fun z:List (List Sk)=>HO.tok 3 (z.flatten.map BV).length) et,rfl⟩,Zr,Zr,Tv⟩,Fh,Tv⟩ ?_)
  refine Yi ?_ ?_
  ·exact Nz rfl
  refine Yi ?_ ?_
  ·exact Nz rfl
  refine Yi ?_ ?_
  ·exact Nz rfl
  exact .refl _
theorem Qh{s:SS}{b:List Cd}{p:ByteArray}{needs:List Nd}:∀{cs:List Cd} {sk:List Sk},GQ s b p needs cs sk→sk.length≤cs.length
 | [],sk,h=>by
  have h:sk=[]:=h;rw[h];exact Aj _
 |c::cs,sk,h=>by
  have h:if(needs.all fun n=>has n.rq.set c.place)=true then _ else _:=h
  by_cases hc:(needs.all fun n=>has n.rq.set c.place)=true
  ·rw[Aw hc]at h;obtain⟨k,rest,rfl,_,h3⟩:=h
   have:=Qh h3
   simp only[Au];omega
  ·rw[Ah hc]at h
   have:=Qh h
   simp only[Au];omega
theorem UO{x:List Rl}{roots:List Rq}{s:SS}:∀{t:List Cd} {sl:List (List Sk)} {b:List Cd},RJ x roots s b t sl→sl.length=t.length∧∀k∈sl,k.length≤x.length
 | [],[],_,_=>⟨rfl,fun _ h=>by cases h⟩
 | [],_::_,_,h=>h.elim
 |_::_,[],_,h=>h.elim
 |c::t,sk::sl,b,⟨⟨p,needs,pre,post,hs⟩,h⟩=>by
  obtain⟨h1,h2⟩:=UO h;refine⟨by simp[h1],fun k hk=>?_⟩;rcases Aq.1 hk with rfl | hk
  ·have e1:=Qh hs.skips;have e2:=UL x p;rw[hs.cands,Ad]at e2;omega
  ·exact h2 k hk
theorem s21(x:List Rl)(ifs:List (List AV))(roots:List Rq)(hx:∀r∈x,IR r)(hr:∀q∈roots,N6 q):PC 72 [I2 x ifs,sl AM roots] (iF x roots):=by
 unfold iF Mu Mw;cases hv:GF x roots with
 |false=>simpa using lj x ifs roots hx hr hv
 |true =>
  obtain⟨h0,h1⟩:=i7 hv;have hR:=dy h0 h1;have Zm:=(PR h0).1;have hA:pp x roots=if(FG x roots).found=true then⟨true,FU (AK (FG x roots).dec),(FG x roots).ss.infs,(FG x roots).stack.flatten⟩else⟨false,[],(FG x roots).ss.infs.take ((FG x roots).res+1),[]⟩:=rfl
  rw[hA];generalize ho:FG x roots=o at hR⊢;obtain⟨k,b,⟨infs,drv,full⟩,dec,st⟩:=o;have hl:infs.length≤65536:=hR.der.len;have hdl:drv.length=infs.length:=hR.der.dlen;cases b with
  |false =>
   cases full with
   |true=>simpa using iz x ifs roots hx hr hv h0 h1 k infs drv dec st ho
   |false =>
    have hk:k<drv.length:=((hR.no rfl).2.2 rfl).1;simpa using ox x ifs roots hx hr hv h0 h1 k infs drv dec st ho (by omega) hl
  |true =>
   obtain⟨hf,t,sl,e1,e2,hC,_⟩:=hR.yes rfl;have hf:full=false:=hf;subst hf;have e1:dec=[]++t:=e1;have e2:st=[]++sl:=e2;rw[Ef]at e1 e2;subst e1;subst e2;have hD:EC x ([]++dec):=(RJ.ok (.nil x) (.nil roots) hC).1;rw[Ef]at hD;have hdx:=Xh hD;obtain⟨c1,c2⟩:=UO hC;have hn:((AK dec).map (·.path)).Nodup:=by rw[NL];exact hD.nodup
   simpa using lk x ifs roots hx hr hv h0 h1 k infs drv dec st ho (by omega) hn (by omega) (fun s hs=>AU (c2 s hs) Zm)
def dx(x:List Rl)(roots:List Rq):Int:=if Mw x roots≠0 then Mw x roots else if(Mu x roots).found=true then 0 else 17
def iA(x:List Rl)(roots:List Rq):List Sl:=if dx x roots=0 then(Mu x roots).sel else []
abbrev vS:T2:=⟨[2],[],[],[],[],[],[],[],[],[],[]⟩
theorem ov(x:List Rl)(ifs:List (List AV))(roots:List Rq)(a:An)(e:Int)(h:PC 72 [I2 x ifs,sl AM roots] (.tup [.agg (Sr a),vi e])) :
  PC 30 [I2 x ifs,sl AM roots] (.tup [if e≠0 then sl Af []else if a.found=true then sl Af a.sel else sl Af [],vi (if e≠0 then e else if a.found=true then 0 else 17)]):=by
 refine Ps vS Tryz.func30 rfl (Nz rfl) ?_;refine Yi ?_ ?_
 ·exact Nz rfl
 refine Xi .pure (Xi _ (Yi h ?_));refine Yi ?_ ?_
 ·exact Nz rfl
 refine Yi (fun he=>?_) (fun he=>?_)
 ·have he:¬e=0:=he;have e1:AV.tup [sl Af [],vi e]=.tup [if e≠0 then sl Af []else if a.found=true then sl Af a.sel else sl Af [],vi (if e≠0 then e else if a.found=true then 0 else 17)]:=by rw[Aw he,Aw he]
  exact(show Hm (.tup [.v (.slice none 0 0),vi e]) (.tup [sl Af ([]:List Sl),vi e])from Hm.tup ⟨.nil,.refl _,trivial⟩).trans (.of_eq e1)
 ·have he:e=0:=BT.1 he;have DC:¬e≠0:=fun h=>h he;refine Yi (fun hb=>?_) (fun hb=>?_)
  ·have hb:a.found=true:=hb;have e1:AV.tup [sl Af a.sel,vi 0]=.tup [if e≠0 then sl Af []else if a.found=true then sl Af a.sel else sl Af [],vi (if e≠0 then e else if a.found=true then 0 else 17)]:=by rw[Ah DC,Ah DC,Aw hb,Aw hb]
   exact .of_eq e1
  ·have hb:a.found=false:=hb;have hb:¬a.found=true:=by rw[hb];decide
   have e1:AV.tup [sl Af [],vi 17]=.tup [if e≠0 then sl Af []else if a.found=true then sl Af a.sel else sl Af [],vi (if e≠0 then e else if a.found=true then 0 else 17)]:=by rw[Ah DC,Ah DC,Ah hb,Ah hb]
   exact(show Hm (.tup [.v (.slice none 0 0),vi 17]) (.tup [sl Af ([]:List Sl),vi 17])from Hm.tup ⟨.nil,.refl _,trivial⟩).trans (.of_eq e1)
theorem yB(x:List Rl)(ifs:List (List AV))(roots:List Rq)(hx:∀r∈x,IR r)(hr:∀q∈roots,N6 q):PC 30 [I2 x ifs,sl AM roots] (.tup [sl Af (iA x roots),vi (dx x roots)]):=by
 have h:=ov x ifs roots _ _ (s21 x ifs roots hx hr);have e1:(if Mw x roots≠0 then sl Af []else if(Mu x roots).found=true then sl Af (Mu x roots).sel else sl Af [])=sl Af (iA x roots):=by
  unfold iA dx
  by_cases h1:Mw x roots=0
  ·by_cases h2:(Mu x roots).found=true
   ·simp[h1,h2]
   ·simp[h1,h2]
  ·simp[h1]
 have e2:(if Mw x roots≠0 then Mw x roots else if(Mu x roots).found=true then 0 else 17)=dx x roots:=rfl;rw[e1,e2]at h;exact h
instance:DecidableEq Mv:=fun x y=>decidable_of_iff (x.path=y.path∧x.a=y.a∧x.b=y.b) ⟨fun⟨h1,h2,h3⟩=>by cases x;cases y;simp_all,fun h=>by subst h;exact⟨rfl,rfl,rfl⟩⟩
theorem ri{a b:Mv}(h:a.path=b.path∧a.a=b.a∧a.b=b.b∧True):a=b:=by cases a;cases b;simp_all
theorem rj{a b:Mv}(h:¬(a.path=b.path∧a.a=b.a∧a.b=b.b∧True)):a≠b:=fun e=>h (by subst e;exact⟨rfl,rfl,rfl,trivial⟩)
theorem o35(a b:List Mv)(ha:Cm a):PC 35 [sl EK a,sl EK b] (vb (decide (a=b))):=by
 have qf:a.length≤1073741824:=ha;refine Ps ⟨[],[],[],[],[],[],[],[],[],[],[7,8]⟩ Tryz.func35 rfl (Nz rfl) ?_;refine Yi (fun h1=>?_) (fun h1=>?_)
 ·have h1:((a.map EK).length:Int)≠((b.map EK).length:Int):=h1;exact .of_eq (show vb false=vb (decide (a=b)) by rw[Ar (fun e=>absurd (Ac (fun z=>((z.map EK).length:Int)) e) h1)])
 have h1:((a.map EK).length:Int)=((b.map EK).length:Int):=Bn h1;have hl:a.length=b.length:=by have q:=h1;rw[Lm,Lm]at q;omega
 refine Xi {q:Nat // q≤a.length∧∀j (hj:j<a.length),j<q→a[j]=b[j]'(hl▸hj)} (Xi (fun q=>⟨[(0,sl EK a),(1,sl EK b),(12,vi (a.map EK).length),(13,vi q.1)],[],Ab⟩) (Xi (fun q=>a.length-q.1) (Yi (Xi ⟨0,AO _,fun _ _ h=>absurd h (Dt _)⟩ ?_) ?_)))
 ·exact⟨Z4,Tv,Fh,Tv⟩
 intro⟨i,i1,i2⟩;have i1:i≤a.length:=i1;have i2:∀j (hj:j<a.length),j<i→a[j]=b[j]'(hl▸hj):=i2;refine Yi (fun h3=>?_) (fun h3=>?_)
 ·have h3:(i:Int)<((a.map EK).length:Int):=h3;have n3:=Ld h3;have cj:i<b.length:=by have q:=h3;rw[Lm]at q;omega
  refine Xi (EK a[i]) (Yi (Pu n3) (Yi rfl ?_));refine Yi (Nz rfl) ?_;refine Xi (EK b[i]) (Yi (Pu cj) (Yi rfl ?_));refine Yi (Nz rfl) ?_;refine Yi (fun h4=>?_) (fun h4=>?_)
  ·have h4:(a[i].path:ByteArray)=b[i].path∧(a[i].a:Int)=b[i].a∧(a[i].b:Int)=b[i].b∧True:=h4;refine Yi (by kernel_rfl) ?_;refine Xi ⟨[(0,sl EK a),(1,sl EK b),(12,vi (a.map EK).length),(13,vi i)],[],Ab⟩ (Yi ⟨Z4,Tv,Fh,Tv⟩ ?_)
   refine Yi (Ii i (by omega)) ?_;refine Xi ⟨i+1,n3,fun j hj HZ=>if e:j<i then i2 j hj e else by
     have e:j=i:=by omega
     subst e;exact ri h4⟩ ?_
   exact⟨Dl a.length i (by omega),Z4,Tv,Fh,Tv⟩
  have h4:¬((a[i].path:ByteArray)=b[i].path∧(a[i].a:Int)=b[i].a∧(a[i].b:Int)=b[i].b∧True):=h4;refine Yi (by kernel_rfl) ?_;refine Xi ⟨[],[],Ab⟩ (Yi ⟨Tv,Tv,Fh,Tv⟩ ?_)
  exact .of_eq (show vb false=vb (decide (a=b)) by rw[Ar (W5 (i:=i) (ha:=n3) (hb:=cj) (rj h4))])
 have h3:¬((i:Int)<((a.map EK).length:Int)):=h3;have n3:=Lc h3;exact .of_eq (show vb true=vb (decide (a=b)) by rw[Ax (RB hl fun j hj=>i2 j hj (by have q:=h3;rw[Lm]at q;omega))])
abbrev pa:ByteArray:=⟨#[97,47,118,49]⟩
abbrev pb:ByteArray:=⟨#[98,47,118,49]⟩
abbrev lr(m:Int):Ver:=⟨1,m,0⟩
abbrev WB(p:ByteArray)(m:Int)(q:List Rq)(y:Bool):Rl:=⟨p,lr m,q,mt,mt,mt,y⟩
abbrev sU:List Rq:=[⟨pb,[(1000,1000000)]⟩]
abbrev jo:List Rl:=[WB pa 0 sU false,WB pb 0 [] false,WB pb 1 [] false,WB pb 2 [] true]
abbrev dS:List Rl:=[WB pa 0 sU false,WB pb 2 [] false]
abbrev VB:Wk:=⟨[],[⟨pb,lr 1⟩],[⟨pb,lr 2⟩]⟩
abbrev la:List Rq:=[⟨pa,[(0,1000000)]⟩]
abbrev rZ:List Sl:=[⟨pa,lr 0⟩,⟨pb,lr 1⟩]
abbrev r7:List Sl:=[⟨pa,lr 0⟩,⟨pb,lr 2⟩]
abbrev pe:List Mv:=[⟨pb,1000,2000⟩]
theorem lC:∀r∈jo,IR r :=
 Bv.2 ⟨⟨by decide,by decide⟩,Bv.2 ⟨⟨by decide,by decide⟩,Bv.2 ⟨⟨by decide,by decide⟩,Bv.2 ⟨⟨by decide,by decide⟩,BP _⟩⟩⟩⟩
theorem m7:∀r∈dS,IR r :=
 Bv.2 ⟨⟨by decide,by decide⟩,Bv.2 ⟨⟨by decide,by decide⟩,BP _⟩⟩
abbrev Li:AV:=.v (.slice none 0 0)
abbrev aY(p:ByteArray)(b:Int)(y:Bool):List AV:=[vs p,vi 1,vi b,vi 0,Li,vs mt,vs mt,vs mt,vb y]
abbrev oH:List AV:=[.slice .none [Al (WB pa 0 sU false),aY pb 0 false,aY pb 1 false,aY pb 2 true],Li]
abbrev ZW:List AV:=[Li,sl Af VB.exc,sl Af VB.pin]
theorem bt:Hm (.agg oH) (I2 jo []) :=
 have h (p:ByteArray) (b:Int) (y:Bool):M0 (aY p b y) (Al (WB p b [] y)):=⟨.refl _,.refl _,.refl _,.refl _,.nil,.refl _,.refl _,.refl _,.refl _,trivial⟩
 Hm.agg ⟨Hm.slice ⟨.refl _,h pb 0 false,h pb 1 false,h pb 2 true,trivial⟩,.nil,trivial⟩
theorem Po:Hm (.agg ZW) (.agg (BK VB)):=Hm.agg ⟨.nil,.refl _,.refl _,trivial⟩
theorem NO:LP VB:=⟨by decide,by decide,by decide,BP _,Bv.2 ⟨by decide,BP _⟩,Bv.2 ⟨by decide,BP _⟩⟩
theorem Mf:LP WK:=⟨by decide,by decide,by decide,BP _,BP _,BP _⟩
theorem bf(m:Int)(h:m=1∨m=2):N9 [⟨pa,lr 0⟩,⟨pb,lr m⟩]:=by
 rcases h with rfl | rfl
 ·exact⟨by decide,Bv.2 ⟨by decide,Bv.2 ⟨by decide,BP _⟩⟩,.cons (Bv.2 ⟨by show Fg pa pb=true;kernel_rfl,BP _⟩) (.cons (BP _) .nil)⟩
 ·exact⟨by decide,Bv.2 ⟨by decide,Bv.2 ⟨by decide,BP _⟩⟩,.cons (Bv.2 ⟨by show Fg pa pb=true;kernel_rfl,BP _⟩) (.cons (BP _) .nil)⟩
theorem pq:DQ jo VB=(dS,0):=by kernel_rfl
theorem rg:Jn WK VB=(VB,0):=by kernel_rfl
theorem pi(m:Int):PC 33 [vi m] (.agg [vi 1,vi m,vi 0]):=by
 refine Ps ⟨[],[],[],[],[],[],[],[],[],[],[]⟩ Tryz.func33 rfl (Nz rfl) ?_;refine Yi (Nz rfl) ?_;refine Yi (Nz rfl) ?_;exact .refl _
theorem o9  : PC 9 [] (vb true):=by
 have hq:∀q∈la,N6 q:=Bv.2 ⟨⟨by decide,by decide⟩,BP _⟩;have hrq (l:List Rl) (h:∀r∈l,r.reqs=sU∨r.reqs=[]):∀r∈l,Cm r.reqs:=fun r hr=>by rcases h r hr with e | e<;>rw[e]<;>decide
 have jk:∀r∈jo,Cm r.reqs:=hrq _ (Bv.2 ⟨.inl rfl,Bv.2 ⟨.inr rfl,Bv.2 ⟨.inr rfl,Bv.2 ⟨.inr rfl,BP _⟩⟩⟩⟩);have Hu:=nZ jo [] VB lC (by decide) jk NO.few NO.rq (by decide) (fun c hc=>by cases hc);unfold IC at Hu;rw[pq]at Hu;have Hu:PC 11 [I2 jo [],.agg (BK VB)] (.tup [I2 dS [],vi 0]):=Hu;have Uh:=yB jo [] la lC hq;rw[show dx jo la=0 by kernel_rfl,show iA jo la=rZ by kernel_rfl]at Uh;have g16:=yB dS [] la m7 hq;rw[show dx dS la=0 by kernel_rfl,show iA dS la=r7 by kernel_rfl]at g16;have se:=o75 rZ r7 [pa,pa,pb,pb] (bf 1 (.inl rfl)) (bf 2 (.inr rfl)) (by decide) (by decide) (.cons _ (List.Perm.swap ..)) (by decide);rw[show Mi rZ r7 (B7 [pa,pa,pb,pb])=pe by kernel_rfl]at se;have za:=(o34 jo dS [] [] la VB rZ r7 pe Hu Uh g16 se).args (args':=[.agg oH,sl AM la,.agg ZW]) ⟨bt,.refl _,Po,trivial⟩;have Hu:=Hu.args (args':=[.agg oH,.agg ZW]) ⟨bt,Po,trivial⟩;have sd:=o17 WK VB Mf.few NO.few (by decide) (by decide) Mf.rq NO.rq;rw[rg]at sd;have sd:PC 17 [.agg [Li,Li,Li],.agg ZW] (.tup [.agg (BK VB),vi 0]):=sd.args (args':=[.agg [Li,Li,Li],.agg ZW]) ⟨.agg ⟨.nil,.nil,.nil,trivial⟩,Po,trivial⟩;have lD:=(sP VB NO.few).args (args':=[.agg ZW]) ⟨Po,trivial⟩;rw[show CQ VB=0 by kernel_rfl]at lD;have xj:=o35 pe pe (by decide);rw[Ax rfl]at xj;have WL:=(o19 VB VB NO.few NO.qs).args (args':=[.agg (BK VB),.agg ZW]) ⟨.refl _,Po,trivial⟩;rw[ZQ]at WL;refine Ps ⟨[],[],[],[],[],[],[],[],[],[],[2,3,4,5,6,7,8]⟩ Tryz.func9 rfl (Nz rfl) ?_;refine Xi ⟨[(1,.v (.func (.func 33) #[] #[]))],[],Ab⟩ (Yi ⟨Z1,Tv,Fh,Tv⟩ ?_)
 refine Xi ⟨[(1,.v (.func (.func 33) #[] #[])),(2,.slice (.id 14 2) [[vs ⟨#[98,47,118,49]⟩,.slice .none [[vi 1000,vi 1000000]]]])],[(14,.tok 2 1)],Ab⟩ (Yi ⟨Z2,Z1,Fh,Tv⟩ ?_)
 refine Xi .pure (Xi _ (Yi (pi 0) ?_));refine Xi .pure (Xi _ (Yi (pi 0) ?_));refine Xi .pure (Xi _ (Yi (pi 1) ?_));refine Xi .pure (Xi _ (Yi (pi 2) ?_));refine Yi (Nz rfl) ?_;refine Xi ⟨[(1,.v (.func (.func 33) #[] #[])),(3,.ref 3 0)],[(3,.cells [.slice (.id 28 9) [[vs ⟨#[97,47,118,49]⟩,vi 1,vi 0,vi 0,.slice .none [[vs ⟨#[98,47,118,49]⟩,.slice .none [[vi 1000,vi 1000000]]]],vs ⟨#[]⟩,vs ⟨#[]⟩,vs ⟨#[]⟩,vb false],[vs ⟨#[98,47,118,49]⟩,vi 1,vi 0,vi 0,.v (.slice none 0 0),vs ⟨#[]⟩,vs ⟨#[]⟩,vs ⟨#[]⟩,vb false],[vs ⟨#[98,47,118,49]⟩,vi 1,vi 1,vi 0,.v (.slice none 0 0),vs ⟨#[]⟩,vs ⟨#[]⟩,vs ⟨#[]⟩,vb false],[vs ⟨#[98,47,118,49]⟩,vi 1,vi 2,vi 0,.v (.slice none 0 0),vs ⟨#[]⟩,vs ⟨#[]⟩,vs ⟨#[]⟩,vb true]],.v (.slice none 0 0)]),(28,.tok 9 4)],Ab⟩ (Yi ⟨Z2,Z2,Fh,Tv⟩ ?_)
 refine Xi .pure (Xi _ (Yi (pi 1) ?_));refine Xi .pure (Xi _ (Yi (pi 2) ?_));refine Yi (Nz rfl) ?_;refine Xi ⟨[(3,.ref 3 0),(4,.ref 4 0)],[(3,.cells [.slice (.id 28 9) [[vs ⟨#[97,47,118,49]⟩,vi 1,vi 0,vi 0,.slice .none [[vs ⟨#[98,47,118,49]⟩,.slice .none [[vi 1000,vi 1000000]]]],vs ⟨#[]⟩,vs ⟨#[]⟩,vs ⟨#[]⟩,vb false],[vs ⟨#[98,47,118,49]⟩,vi 1,vi 0,vi 0,.v (.slice none 0 0),vs ⟨#[]⟩,vs ⟨#[]⟩,vs ⟨#[]⟩,vb false],[vs ⟨#[98,47,118,49]⟩,vi 1,vi 1,vi 0,.v (.slice none 0 0),vs ⟨#[]⟩,vs ⟨#[]⟩,vs ⟨#[]⟩,vb false],[vs ⟨#[98,47,118,49]⟩,vi 1,vi 2,vi 0,.v (.slice none 0 0),vs ⟨#[]⟩,vs ⟨#[]⟩,vs ⟨#[]⟩,vb true]],.v (.slice none 0 0)]),(4,.cells [.v (.slice none 0 0),.slice (.id 33 4) [[vs ⟨#[98,47,118,49]⟩,vi 1,vi 1,vi 0]],.slice (.id 37 4) [[vs ⟨#[98,47,118,49]⟩,vi 1,vi 2,vi 0]]]),(28,.tok 9 4),(33,.tok 4 1),(37,.tok 4 1)],Ab⟩ (Yi ⟨Z2,Z5,Fh,Tv⟩ ?_)
 refine Yi (Nz rfl) ?_;refine Yi (Nz rfl) ?_;refine Xi .pure (Xi _ (Yi Hu ?_));refine Yi (Nz rfl) ?_;refine Xi ⟨[(3,.ref 3 0),(4,.ref 4 0),(5,.ref 5 0),(6,vi 0)],[(3,.cells [.slice (.id 28 9) [[vs ⟨#[97,47,118,49]⟩,vi 1,vi 0,vi 0,.slice .none [[vs ⟨#[98,47,118,49]⟩,.slice .none [[vi 1000,vi 1000000]]]],vs ⟨#[]⟩,vs ⟨#[]⟩,vs ⟨#[]⟩,vb false],[vs ⟨#[98,47,118,49]⟩,vi 1,vi 0,vi 0,.v (.slice none 0 0),vs ⟨#[]⟩,vs ⟨#[]⟩,vs ⟨#[]⟩,vb false],[vs ⟨#[98,47,118,49]⟩,vi 1,vi 1,vi 0,.v (.slice none 0 0),vs ⟨#[]⟩,vs ⟨#[]⟩,vs ⟨#[]⟩,vb false],[vs ⟨#[98,47,118,49]⟩,vi 1,vi 2,vi 0,.v (.slice none 0 0),vs ⟨#[]⟩,vs ⟨#[]⟩,vs ⟨#[]⟩,vb true]],.v (.slice none 0 0)]),(4,.cells [.v (.slice none 0 0),.slice (.id 33 4) [[vs ⟨#[98,47,118,49]⟩,vi 1,vi 1,vi 0]],.slice (.id 37 4) [[vs ⟨#[98,47,118,49]⟩,vi 1,vi 2,vi 0]]]),(5,.cells [sl Al dS,.slice .none []]),(28,.tok 9 4),(33,.tok 4 1),(37,.tok 4 1)],Ab⟩ (Yi ⟨Z4,Z6,Fh,Tv⟩ ?_)
 refine Yi (Nz rfl) ?_;refine Yi (Nz rfl) ?_;refine Xi .pure (Xi _ (Yi za ?_));refine Xi ⟨[(4,.ref 4 0),(5,.ref 5 0),(6,vi 0),(7,sl EK pe),(8,vi 0)],[(4,.cells [.v (.slice none 0 0),.slice (.id 33 4) [[vs ⟨#[98,47,118,49]⟩,vi 1,vi 1,vi 0]],.slice (.id 37 4) [[vs ⟨#[98,47,118,49]⟩,vi 1,vi 2,vi 0]]]),(5,.cells [sl Al dS,.slice .none []]),(33,.tok 4 1),(37,.tok 4 1)],Ab⟩ (Yi ⟨Z5,Z4,Fh,Tv⟩ ?_)
 refine Yi (Nz rfl) ?_;refine Xi .pure (Xi _ (Yi sd ?_));refine Yi (Nz rfl) ?_;refine Xi ⟨[(4,.ref 4 0),(5,.ref 5 0),(6,vi 0),(7,sl EK pe),(8,vi 0),(9,.ref 9 0),(10,vi 0)],[(4,.cells [.v (.slice none 0 0),.slice (.id 33 4) [[vs ⟨#[98,47,118,49]⟩,vi 1,vi 1,vi 0]],.slice (.id 37 4) [[vs ⟨#[98,47,118,49]⟩,vi 1,vi 2,vi 0]]]),(5,.cells [sl Al dS,.slice .none []]),(9,.cells [sl Al VB.rep,sl Af VB.exc,sl Af VB.pin]),(33,.tok 4 1),(37,.tok 4 1)],Ab⟩ (Yi ⟨Z7,Z5,Fh,Tv⟩ ?_)
 refine Yi (Nz rfl) ?_;refine Xi .pure (Xi _ (Yi lD ?_));refine Yi (fun _=>?_) (fun h=>absurd (by decide) h);refine Yi (fun _=>?_) (fun h=>absurd (by decide) h);refine Yi (fun h1=>?_) (fun h1=>?_)
 ·have h1:((dS.map Al).length:Int)=(2:Int):=h1;refine Xi (Al (WB pb 2 [] false:Rl)) (Yi ⟨by decide,rfl⟩ (Yi rfl ?_));refine Yi (fun hf=>absurd hf (by decide)) (fun _=>?_);refine Yi (fun _=>?_) (fun h=>absurd (by decide) h);refine Xi .pure (Xi _ (Yi xj ?_));refine Yi (fun _=>?_) (fun h=>absurd (by decide) h);refine Yi (Nz rfl) ?_;refine Yi (Nz rfl) ?_;refine Xi .pure (Xi _ (Yi WL ?_));exact .refl _
 have h1:¬(((dS.map Al).length:Int)=(2:Int)):=h1;exact absurd rfl h1
end Go.Eng
namespace Go.Eng
theorem Te{α:Type}{p:α→Bool}{l:List α}{x:α}(h:x∈kept p l):x∈l:=(Bo.1 h).1
theorem iV{B:List Rl}{i:Nat}{r:Rl}(h:r∈Pk B i):r∈B∨∃r0∈B,r={ r0 with yanked:=false }:=by
 unfold Pk at h;split at h
 ·rename_i r0 e;rcases F1 h with h | h
  ·exact .inl h
  ·exact .inr ⟨r0,Av e,h⟩
 ·exact .inl h
theorem Vq{p:Rl→Prop}(hp:∀r,p r→p { r with yanked:=false }):∀(l:List Sl) (A B:List Rl),(∀r∈A,p r)→HE l A=some B→(∀r∈B,p r)∧B.length≤A.length
 | [],A,B,h,e=>by
  cases e
  exact⟨h,Aj _⟩
 |s::l,A,B,h,e=>by
  have e:(LA A s).bind (HE l)=some B:=e;cases hA:LA A s with
  |none=>rw[hA]at e;cases e
  |some C =>
   rw[hA,RQ]at e;unfold LA at hA;split at hA
   ·cases hA
   ·cases hA
    obtain⟨h1,h2⟩:=Vq hp l _ B (fun r hr=>by
     rcases iV hr with hr | ⟨r0,Yz,rfl⟩
     ·exact h r (Te hr)
     ·exact hp _ (h r0 (Te Yz))) e
    refine⟨h1,AU h2 ?_⟩;rw[T0];exact JM _ _
theorem RW{p:Rl→Prop}(hp:∀r,p r→p { r with yanked:=false }){x:List Rl}{w:Wk}(hx:∀r∈x,p r)(hw:∀r∈w.rep,p r):(∀r∈(DQ x w).1,p r)∧(DQ x w).1.length≤256:=by
 have z:(∀r∈([]:List Rl),p r)∧([]:List Rl).length≤256:=⟨BP _,by decide⟩;unfold DQ;split
 ·exact z
 ·split
  ·exact z
  ·split
   ·exact z
   ·rename_i h3;cases e:HE w.pin (kept (GX w) (AX B5 x w.rep))with
    |none=>exact z
    |some B =>
     obtain⟨h1,h2⟩:=Vq hp _ _ _ (fun r hr=>(H7 (Te hr)).elim (hx r) (hw r)) e;refine⟨h1,AU h2 (AU (JM _ _) (by omega))⟩
theorem bD{x:List Rl}{w:Wk}(hx:RL x)(hw:LP w):RL (DQ x w).1∧(DQ x w).1.length≤256:=RW (p:=fun r=>Cm r.reqs∧∀q∈r.reqs,Cm q.set) (fun _ h=>h) hx hw.qs
theorem W3{x:List Rl}{w:Wk}(hx:∀r∈x,IR r)(hw:LP w):∀r∈(DQ x w).1,IR r:=(RW (p:=IR) (fun _ h=>h) hx fun r hr=>(hw.rl r hr).2).1
/-! The empty workspace, and a workspace twice. -/
theorem Lg{α:Type}{c:α→α→Int}:∀a:List α,AX c a []=a
 | []=>rfl
 |x::a=>by
  rw[Mh (a:=x::a) (Nat.succ_pos _)];exact Ac (x :: ·) (Lg a)
theorem QG{l:List Rl}(h:A4 l=0):l.length≤256:=by
 unfold A4 at h;split at h
 ·cases h
 ·omega
theorem bN:CQ WK=0:=by kernel_rfl
end Go.Eng
namespace Go.Proofs.YtmcbkdbfaneofaaGreatDoor.joins
open Go Go.Eng Go.Proofs Go.ChangeShapes Go.WideShapes Go.ChangeAt Go.RowKit
section
variable {H:Type}{enc:TypeId×Value→H}{w:World}
theorem all_le{d:DataW H}{l:List (DataW H)}(h:d∈l):Rows.uptoBulk d≤Rows.uptoBulkAll l:=by
 induction l with
 |nil=>cases h
 |cons x r ih =>
  simp only[Rows.uptoBulkAll]
  cases Aq.1 h with
  |inl e=>subst e;omega
  |inr e=>have:=ih e;omega
theorem one_le(d:DataW H):1≤Rows.uptoBulk d:=by
 cases d with
 |lit l=>cases l<;>simp[Rows.uptoBulk]
 |nil=>simp[Rows.uptoBulk]
 |ptr d=>simp[Rows.uptoBulk]
 |slice lA spare=>simp[Rows.uptoBulk]
 |agg parts=>simp[Rows.uptoBulk]
 |iface t d=>simp[Rows.uptoBulk]
 |map entries=>simp[Rows.uptoBulk]
 |held h=>simp[Rows.uptoBulk]
theorem len_le(l:List (DataW H)):l.length≤Rows.uptoBulkAll l:=by
 induction l with
 |nil=>simp[Rows.uptoBulkAll]
 |cons x r ih=>have:=one_le x;simp only[Rows.uptoBulkAll,Au];omega
theorem bulk_ok:VG (H:=H) Rows.uptoBulk where
 slice es sp:=by
  have h1:=len_le es
  refine⟨by simp only[Rows.uptoBulk];omega,fun d hd=>?_⟩
  have:=all_le hd
  simp only[Rows.uptoBulk];omega
 agg ps d hd:=by
  have:=all_le hd
  simp only[Rows.uptoBulk];omega
 str b:=by simp only[Rows.uptoBulk];omega
theorem app_all(l r:List (DataW H)):Rows.uptoBulkAll (l++r)=Rows.uptoBulkAll l+Rows.uptoBulkAll r:=by
 induction l with
 |nil=>simp[Rows.uptoBulkAll]
 |cons x l ih=>simp only[IA,Rows.uptoBulkAll,ih];omega
abbrev NB:Nat:=1048576
abbrev Op(enc:TypeId×Value→H)(w:World)(t:TypeId){α:Type}(e:α→List AV)(ok:α→Prop):Prop:=Kl enc Tryz.prog w Rows.uptoBulk NB t e ok
theorem oI:Op enc w 3 (fun n:Int=>[vi n]) (fun _=>True):=(cZ Tryz.underlying3).to id (fun _ _=>⟨rfl,trivial⟩)
theorem oB:Op enc w 4 (fun b:Bool=>[vb b]) (fun _=>True):=ZB Tryz.underlying4
theorem oS:Op enc w 9 (fun s:ByteArray=>[vs s]) (fun s=>s.size≤NB):=Ws bulk_ok Tryz.underlying9
theorem oVer:Op enc w 42 L0 (fun _=>True) :=
 (Fe bulk_ok Tryz.underlying42 (L:=3) (by kernel_rfl) (BZ rfl (n:=1) (by kernel_rfl) oI (BZ rfl (n:=1) (by kernel_rfl) oI (BZ rfl (n:=1) (by kernel_rfl) oI Gg)))).to
  (fun p=>(⟨p.1,p.2.1,p.2.2.1⟩:Ver)) (fun _ _=>⟨rfl,trivial⟩)
theorem oSpan:Op enc w 62 Ao (fun _=>True) :=
 (Fe bulk_ok Tryz.underlying62 (L:=2) (by kernel_rfl) (BZ rfl (n:=1) (by kernel_rfl) oI (BZ rfl (n:=1) (by kernel_rfl) oI Gg))).to
  (fun p=>(p.1,p.2.1)) (fun _ _=>⟨rfl,trivial⟩)
theorem oSet:Op enc w 64 (fun l:Bj=>[sl Ao l]) (fun l=>l.length≤NB) :=
 (Iw bulk_ok Tryz.underlying64 (m:=1) (by kernel_rfl) (fun _=>rfl) oSpan).to id (fun _ h=>⟨rfl,h.1⟩)
abbrev OkRq(q:Rq):Prop:=q.path.size≤NB∧q.set.length≤NB
theorem oRq:Op enc w 66 AM OkRq :=
 (Fe bulk_ok Tryz.underlying66 (L:=2) (by kernel_rfl) (BZ rfl (n:=1) (by kernel_rfl) oS (BZ rfl (n:=1) (by kernel_rfl) oSet Gg))).to
  (fun p=>(⟨p.1,p.2.1⟩:Rq)) (fun _ h=>⟨rfl,h.1,h.2.1⟩)
abbrev OkRqs(l:List Rq):Prop:=l.length≤NB∧∀q∈l,OkRq q
theorem oRqs:Op enc w 43 (fun l:List Rq=>[sl AM l]) OkRqs :=
 Iw bulk_ok Tryz.underlying43 (m:=1) (by kernel_rfl) (fun _=>rfl) oRq
abbrev OkRl(r:Rl):Prop:=r.path.size≤NB∧OkRqs r.reqs
theorem oRl:Op enc w 45 Al OkRl :=
 (Fe bulk_ok Tryz.underlying45 (L:=9) (by kernel_rfl) (BZ rfl (n:=1) (by kernel_rfl) oS (BZ rfl (n:=3) (by kernel_rfl) oVer (BZ rfl (n:=1) (by kernel_rfl) oRqs
  (BZ rfl (n:=1) (by kernel_rfl) oS (BZ rfl (n:=1) (by kernel_rfl) oS (BZ rfl (n:=1) (by kernel_rfl) oS (BZ rfl (n:=1) (by kernel_rfl) oB Gg)))))))).to
  (fun p=>(⟨p.1,p.2.1,p.2.2.1,p.2.2.2.1,p.2.2.2.2.1,p.2.2.2.2.2.1,p.2.2.2.2.2.2.1⟩:Rl)) (fun _ h=>⟨rfl,h.1,h.2.2.1⟩)
theorem oRls:Op enc w 22 (fun l:List Rl=>[sl Al l]) (fun l=>l.length≤NB∧∀r∈l,OkRl r) :=
 Iw bulk_ok Tryz.underlying22 (m:=8) (by kernel_rfl) (fun _=>rfl) oRl
theorem oIfc:Op enc w 86 (fun s:ByteArray=>[vs s,.junk,.junk,.junk,.junk]) (fun _=>True) :=
 (Fe bulk_ok Tryz.underlying86 (L:=5) (by kernel_rfl) (BZ rfl (n:=1) (by kernel_rfl) oS (BZ rfl (n:=1) (by kernel_rfl) (MS Tryz.underlying81) (BZ rfl (n:=1) (by kernel_rfl) (MS Tryz.underlying82)
  (BZ rfl (n:=1) (by kernel_rfl) (MS Tryz.underlying83) (BZ rfl (n:=1) (by kernel_rfl) (MS Tryz.underlying84) Gg)))))).to (fun p=>p.1) (fun _ _=>⟨rfl,trivial⟩)
theorem oIfs:Op enc w 23 (fun l:List ByteArray=>[sl (fun s=>[vs s,.junk,.junk,.junk,.junk]) l]) (fun l=>l.length≤NB) :=
 (Iw bulk_ok Tryz.underlying23 (m:=4) (by kernel_rfl) (fun _=>rfl) oIfc).to id (fun _ h=>⟨rfl,h.1⟩)
theorem oIx:Op enc w 25 (fun p:List Rl×List (List AV)=>[sl Al p.1,.slice .none p.2]) (fun p=>(p.1.length≤NB∧∀r∈p.1,OkRl r)∧p.2.length≤NB∧∀c∈p.2,c.length=5) :=
 (Fe bulk_ok Tryz.underlying25 (L:=2) (by kernel_rfl) (BZ rfl (n:=1) (by kernel_rfl) oRls (BZ rfl (n:=1) (by kernel_rfl) oIfs Gg))).to
  (fun p=>(p.1,p.2.1.map (fun s=>[vs s,.junk,.junk,.junk,.junk]))) (fun _ h=>⟨rfl,h.1,by rw[Ba];exact h.2.1,fun c hc=>by obtain⟨s,_,rfl⟩:=Ak.1 hc;rfl⟩)
theorem oSl:Op enc w 51 Af (fun y=>y.path.size≤NB) :=
 (Fe bulk_ok Tryz.underlying51 (L:=4) (by kernel_rfl) (BZ rfl (n:=1) (by kernel_rfl) oS (BZ rfl (n:=3) (by kernel_rfl) oVer Gg))).to
  (fun p=>(⟨p.1,p.2.1⟩:Sl)) (fun _ h=>⟨rfl,h.1⟩)
theorem oSls:Op enc w 26 (fun l:List Sl=>[sl Af l]) (fun l=>l.length≤NB∧∀y∈l,y.path.size≤NB) :=
 Iw bulk_ok Tryz.underlying26 (m:=3) (by kernel_rfl) (fun _=>rfl) oSl
abbrev OkW(w:Wk):Prop:=(w.rep.length≤NB∧∀r∈w.rep,OkRl r)∧(w.exc.length≤NB∧∀y∈w.exc,y.path.size≤NB)∧w.pin.length≤NB∧∀y∈w.pin,y.path.size≤NB
theorem oWk:Op enc w 28 (fun p:Wk=>BK p) OkW :=
 (Fe bulk_ok Tryz.underlying28 (L:=3) (by kernel_rfl) (BZ rfl (n:=1) (by kernel_rfl) oRls (BZ rfl (n:=1) (by kernel_rfl) oSls (BZ rfl (n:=1) (by kernel_rfl) oSls Gg)))).to
  (fun p=>(⟨p.1,p.2.1,p.2.2.1⟩:Wk)) (fun _ h=>⟨rfl,h.1,h.2.1,h.2.2.1⟩)
theorem few_of{n:Nat}(h:n≤NB):n≤1073741824:=AU h (by decide)
theorem lim_of{x:List Rl}{roots:List Rq}(h:x.length≤NB∧∀r∈x,OkRl r)(k:OkRqs roots):dW x roots where
 ix:=few_of h.1
 rs:=few_of k.1
 rel r hr:=⟨few_of (h.2 r hr).2.1,few_of (h.2 r hr).1,fun q hq=>⟨few_of ((h.2 r hr).2.2 q hq).2,few_of ((h.2 r hr).2.2 q hq).1⟩⟩
 rq q hq:=⟨few_of (k.2 q hq).2,few_of (k.2 q hq).1⟩
theorem limw_of{w:Wk}(h:OkW w):LP w where
 rep:=h.1.1
 exc:=h.2.1.1
 pin:=h.2.2.1
 rl r hr:=⟨few_of (h.1.2 r hr).2.1,few_of (h.1.2 r hr).1,fun q hq=>⟨few_of ((h.1.2 r hr).2.2 q hq).2,few_of ((h.1.2 r hr).2.2 q hq).1⟩⟩
 excs s hs:=few_of (h.2.1.2 s hs)
 pins s hs:=few_of (h.2.2.2 s hs)
theorem lim0_of{x:List Rl}(h:x.length≤NB∧∀r∈x,OkRl r):dW x []:=lim_of h ⟨AO _,fun q hq=>by cases hq⟩
end
theorem ok_agg{P:Program}{W:World}{base:Nat}{t:TypeId}{v:Value}{fs:Array Field}(hu:P.underlying t=some (.struct fs))(h:Value.okWide P W .any base t v):∃cs,v=.agg cs:=by
 unfold Value.okWide at h
 rw[hu]at h
 obtain⟨cs,e,_⟩:=h
 exact⟨cs,e⟩
theorem ok_slice{P:Program}{W:World}{base:Nat}{t e:TypeId}{v:Value}(hu:P.underlying t=some (.slice e))(h:Value.okWide P W .any base t v):v.oneCell'=true:=by
 unfold Value.okWide at h
 rw[hu]at h
 unfold Cell.okWide Cell.ok at h
 rw[hu]at h
 cases v<;>first | rfl | simp at h
theorem ok_int{P:Program}{W:World}{base:Nat}{t:TypeId}{k:IntKind}{v:Value}(hu:P.underlying t=some (.int k))(h:Value.okWide P W .any base t v):v.oneCell'=true:=by
 unfold Value.okWide at h
 rw[hu]at h
 unfold Cell.okWide Cell.ok at h
 rw[hu]at h
 cases v<;>first | rfl | simp at h
theorem int_of_shape{P:Program}{w:World}{g:Nat}{t:TypeId}{k:IntKind}{zero:Array Value}(h:w.ShapedOpen P)(hg:g<P.globals.size)
  (h0:((begin P (fun _ _=>0) default).world.heap[g]?).bind Obj.row?=some (zero,t)) (hz:zero.size=1)
  (hb:P.buildable t=true) (hc:P.cellTypes P.depth t=some [t]) (hu:P.underlying t=some (.int k)):∃p,w.cell? ⟨g,0,none⟩=some (.int k p):=by
 obtain⟨cs,hh,hs,hr⟩:=h.1 g zero t hg h0
 obtain⟨ts,x6,_,FR⟩:=hr hb
 rw[hc]at x6
 cases x6
 have h1:0<cs.size:=by omega
 obtain⟨u,fX,Gu⟩:=FR 0 cs[0] (by simp[h1])
 have:u=t:=by simpa using fX.symm
 subst this
 have DE:w.cell? ⟨g,0,none⟩=some cs[0]:=by simp[World.cell?,hh,h1]
 rw[DE]
 unfold Cell.ok at Gu
 rw[hu]at Gu
 cases hv:cs[0]<;>rw[hv]at Gu<;>simp at Gu
 obtain⟨rfl,_⟩:=Gu
 exact⟨_,rfl⟩
theorem maxLen_cell{W:World}(h:W.ShapedOpen Tryz.prog):∃m,W.cell? ⟨0,0,none⟩=some (.int .i64 m) :=
 int_of_shape (t:=3) (zero:=#[.int .i64 0]) h (BF (by kernel_rfl)) (by kernel_rfl) rfl (by kernel_rfl) (by kernel_rfl) Tryz.underlying3
def Still(W W' : World):Prop:=W'.os=W.os∧W'.output=W.output∧W.heap.size≤W'.heap.size∧∀b,b<W.heap.size→W'.heap[b]?=W.heap[b]?
theorem run_true{f:Nat}{args:List AV}{vals:Array Value}{W:World}(hc:PC f args (vb true))(hM:∃m,W.cell? ⟨0,0,none⟩=some (.int .i64 m))(hs:vals.size=args.length)
  (hr:∀(i:Nat) (av:AV) (x:Value),args[i]?=some av→vals[i]?=some x→BH (jd W) W Fp av x):Calls Tryz.prog f vals W fun e W'=>e=.returned (.bool true)∧Still W W':=by
 refine(hc.2 (jd W) W vals hs (fun i av x q1 q2=>(hr i av x q1 q2).up _) (qZ hM (fun _ h=>by cases h))).mono fun e W' ⟨v,r,h',g',e1,e2,e3,e4,_⟩=>?_
 subst e1
 obtain⟨rfl,rfl⟩:=e2
 obtain rfl:=e3.v_eq
 exact⟨rfl,e4.os,e4.output,e4.size,fun b hb=>e4.frame b hb (fun r h=>h.elim)⟩
theorem Still.kept{W W' : World}(h:Still W W')(yc:MemPlace→Prop):W.keptBut W' yc:=by
 refine⟨h.1,h.2.1,fun i hi=>?_⟩
 rw[h.2.2.2 i hi]
 cases hh:W.heap[i]? with
 |none=>rfl
 |some o=>cases o<;>simp
theorem Still.same{W W' : World}(h:Still W W'){p:MemPlace}(hp:p.block<W.heap.size):W.sameAt W' p:=by
 cases p with
 |cell b off =>
  show W'.cell? ⟨b,off,none⟩=W.cell? ⟨b,off,none⟩
  unfold World.cell?
  rw[h.2.2.2 b hp]
 |map b=>exact h.2.2.2 b hp
theorem kids:Kids Tryz.prog (· < Tryz.prog.types.size):=kids_rows (by kernel_rfl) (by kernel_rfl)
theorem full:∀t e,t<Tryz.prog.types.size→Tryz.prog.underlying t=some (.slice e)→0<Tryz.prog.cellsOf e:=slices_full_of Tryz.prog (by kernel_rfl)
theorem carry{H:Type}{enc:TypeId×Value→H}{W W' : World}(h:Still W W'):∀{ts:List TypeId} {vs:List Value} {ds:List (DataW H)} {ps:List MemPlace},DataW.TrodAll enc Tryz.prog W 0 (fun _=>true) true ts vs ds ps→DataW.TrodAll enc Tryz.prog W' 0 (fun _=>true) true ts vs ds ps
 | [],[],[],_,e=>e
 |t::ts,v::vs,d::ds,ps,k=>by
  have DI:=k.lt
  obtain⟨p,q,⟨n,h1⟩,h2,rfl⟩:=k
  exact⟨p,q,⟨n,DataW.trod_carry n _ _ _ h1 (fun x hx=>h.same (DI x (Bp _ hx)))⟩,carry h h2,rfl⟩
 | [],[],_::_,_,k=>k.elim
 | [],_::_,_,_,k=>k.elim
 |_::_,[],_,_,k=>k.elim
 |_::_,_::_,[],_,k=>k.elim
theorem post_true{H:Type}{enc:TypeId×Value→H}{W W' : World}{f:Func}{s:ChangeSpec}{args:Array Value}{ds:List (DataW H)}{before:List MemPlace}(Jg:Still W W')(hv:s.vars=[])
  (hW:DataW.Whole enc Tryz.prog f.params.toList s.vars false W args.toList ds [] before) (hr:f.resultTypes=#[4]) (hT:∀t∈f.params.toList,t<Tryz.prog.types.size) (hs:s.fn H ds={ results:=[.lit (.bool true)],args:=ds }) :
  s.post enc Tryz.prog f false true false false W args (.bool true) W':=by
 have xu:=hW
 obtain⟨p,q,hA,hV,rfl,hz,_⟩:=hW
 rw[hv]at hV
 have hq:q=[]:=hV
 subst hq
 have DI:=xu.lt
 have o6:s.fn H (ds++[])={ results:=[.lit (.bool true)],args:=ds }:=by rw[B1];exact hs
 refine⟨ds,[],p++[],[],p,[],xu,?_,?_,?_,Jg.kept _,fun h=>by cases h⟩
 ·rw[o6,hr]
  exact⟨[],[],⟨1,by rw[show(Value.bool true).cells.toList=[.bool true]from rfl,DataW.trod_step];unfold DataW.trodStep;rw[Tryz.underlying4]⟩,rfl,rfl⟩
 ·rw[o6]
  exact(carry Jg hA).respare kids full hT (fun x hx=>by simpa using DI x (Bp _ hx))
 ·rw[o6,hv];rfl
end Go.Proofs.YtmcbkdbfaneofaaGreatDoor.joins
namespace Go.Proofs.YtmcbkdbfaneofaaGreatDoor.joins
open Go Go.Eng Go.Proofs Go.ChangeShapes Go.WideShapes Go.ChangeAt Go.RowKit
theorem own:ownKnob Tryz.prog.godebug=none:=by kernel_rfl
def flatD:Nat→DataW Unit→List Value
 |0,_=>[]
 |n+1,.agg l=>l.flatMap (flatD n)
 |_+1,.lit (.int k i)=>[.int k i]
 |_+1,_=>[]
def layIn(d:DataW Unit):Obj→Obj
 |.cells _ t frozen=>.cells (flatD 4 d).toArray t frozen
 |o=>o
noncomputable def laidWorld(os:Os):World :=
 { World.holding Tryz.prog os ⟨#[],#[],[]⟩with heap:=((World.holding Tryz.prog os ⟨#[],#[],[]⟩).heap.modify 1 (layIn Rows.laid_unicode_utf8_first)).modify 2 (layIn Rows.laid_unicode_utf8_acceptRanges) }
abbrev nilV:Value:=.slice none 0 0
theorem arr1{args:Array Value}{a:Value}(h:args.toList=[a]):args=#[a]:=by
 cases args;simp_all
theorem arr2{args:Array Value}{a b:Value}(h:args.toList=[a,b]):args=#[a,b]:=by
 cases args;simp_all
theorem arr3{args:Array Value}{a b c:Value}(h:args.toList=[a,b,c]):args=#[a,b,c]:=by
 cases args;simp_all
theorem arr4{args:Array Value}{a b c d:Value}(h:args.toList=[a,b,c,d]):args=#[a,b,c,d]:=by
 cases args;simp_all
theorem arr5{args:Array Value}{a b c d e:Value}(h:args.toList=[a,b,c,d,e]):args=#[a,b,c,d,e]:=by
 cases args;simp_all
theorem looksOff:false=Tryz.pinned.checked.prog.looks []:=by kernel_rfl
theorem noStand:∀t∈([25,28,43]:List Nat),Tryz.pinned.checked.prog.wantsStandIn t=false:=by
 intro t ht
 simp only[Aq,List.mem_nil_iff,or_false]at ht
 rcases ht with rfl | rfl | rfl<;>exact(show Tryz.prog.wantsStandIn _=false by kernel_rfl)
end Go.Proofs.YtmcbkdbfaneofaaGreatDoor.joins
