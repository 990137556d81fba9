/- Lemmas for the claims of this seat, without a condition: part 28 (S19, S20, O18, O19, O21, V0, V1, V2, V5, V6). -/
import Derived.Test.YtddfphmpfnmknaaGreatDoorCA27
set_option maxHeartbeats 4000000
namespace Go.Eng
open Go.Proofs
abbrev kJ:RK:=⟨[2],[],[],[],[],[],[],[(50,(9,3,95,3))],[(44,0)],[(100016,1009)],[3,4,5,6,7,8,9,10,11,14,15,16]⟩
abbrev an0:An:=⟨false,[],[],[]⟩
def HL(x:List Rl)(roots:List Rq):An:=if DU x roots=true∧(DL x roots).ss.full=false then VE x roots else an0
def GZ(x:List Rl)(roots:List Rq):Int:=if DU x roots=true then if(DL x roots).ss.full=true then 7 else 0 else 1
abbrev ir(x:List Rl)(roots:List Rq):AV:=.tup [.agg (Sh (HL x roots)),vi (GZ x roots)]
theorem Hl.an0{v:AV}:Hl (.tup [.agg [vb false,.v (.slice none 0 0),.v (.slice none 0 0),.v (.slice none 0 0)],v]) (.tup [.agg (Sh an0),v]) :=
 Hl.tup ⟨Hl.agg ⟨.refl _,.nil,.nil,.nil,trivial⟩,.refl _,trivial⟩
theorem TG{x:List Rl}{roots:List Rq}(hx:∀r∈x,JX r)(hr:∀q∈roots,N2 q)(h0:AT x=0)(h1:BL roots=0){L:List ByteArray}(hl:L.Perm (AO (yR x) [])){o:Jx}(ho:DL x roots=o) :
  A3 Tryz.prog 65 [.ref 1000 0] (Ai (IZ roots (mC x) (L.map (kA x)) rT [] []) Aa) (YB roots (mC x) (L.map (kA x)) o):=by
 rw[←ho];exact wU (mW hx hr h0 h1 hl) (x.length+1) (.nil x) (Ij.nil roots) ⟨⟨rfl,AL _⟩,E9⟩ rfl (Nat.lt_succ_of_le (BA _ _)) rfl
theorem Mo{x:List Rl}{roots:List Rq}(h:DU x roots=true):AT x=0∧BL roots=0:=by
 unfold DU at h;rw[Af,As,As]at h;exact h
theorem kV(x:List Rl)(ifs:List (List AV))(roots:List Rq)(hx:∀r∈x,JX r)(hr:∀q∈roots,N2 q)(hv:DU x roots=false):PC 43 [Hi x ifs,sl AK roots] (.tup [.agg (Sh an0),vi 1]):=by
 have SF:=sZ x ifs roots hx hr;rw[hv]at SF;refine Ps kJ Tryz.func43 rfl (Nz rfl) ?_;refine Yi ?_ ?_
 ·exact Nz rfl
 refine Xi .pure (Xi _ (Yi SF ?_));refine Yi ?_ ?_
 ·exact Nz rfl
 refine Yi ?_ ?_
 ·exact Nz rfl
 exact Hl.an0
theorem il(x:List Rl)(ifs:List (List AV))(roots:List Rq)(hx:∀r∈x,JX r)(hr:∀q∈roots,N2 q)(hv:DU x roots=true)(h0:AT x=0)(h1:BL roots=0)(k:Nat)(infs:List Nf)(drv:List (List Tm))(dec:List Cd)(st:List (List Sk))(ho:DL x roots=⟨k,false,⟨infs,drv,true⟩,dec,st⟩):PC 43 [Hi x ifs,sl AK roots] (.tup [.agg (Sh an0),vi 7]):=by
 have SF:=sZ x ifs roots hx hr;rw[hv]at SF;refine Ps kJ Tryz.func43 rfl (Nz rfl) ?_;refine Yi ?_ ?_
 ·exact Nz rfl
 refine Xi .pure (Xi _ (Yi SF ?_));refine Xi ⟨[(1,sl AK roots),(2,.ref 2 0),(4,.ref 4 0)],[(2,.ro (Ic x ifs)),(4,.cells [vb false,.v (.slice none 0 0),.v (.slice none 0 0),.v (.slice none 0 0)])],Aa⟩ (Yi ⟨Z3,Z2,Fh,Tv⟩ ?_)
 refine Yi ?_ ?_
 ·exact Nz rfl
 refine Xi (.gen [] 5) (Yi rfl ((wR x ifs roots hx h0).imp ?_));intro v g q;refine CD q (fun L q=>?_);have q1:=q.2.1;have q2:=q.2.2;have qp:=q.1;subst q1;subst q2;refine Xi ⟨[(4,.ref 4 0),(6,.ref 11900 0)],[(4,.cells [vb false,.v (.slice none 0 0),.v (.slice none 0 0),.v (.slice none 0 0)]),(11900,.cells [sl AK roots,.cmap CM (mC x),.cmap CM (L.map (kA x)),.slice (.id 11901 6) [],.slice (.id 11902 1) [],.mref 11903,vb false,.slice .none [],.slice .none [],.msl 11904 0]),(11901,.tok 6 0),(11902,.tok 1 0),(11903,.map DT []),(11904,.arr 1 [])],Aa⟩ (Yi ⟨Z2,Z6,Fh,Tv⟩ ?_)
 refine Xi (.gen [(11900,1000),(11901,1001),(11902,1002),(11903,1003),(11904,1004)] 1) (Yi rfl ((TG hx hr h0 h1 qp ho).imp ?_));intro v g q;have q1:=q.1;have q2:=q.2;subst q1;subst q2;refine Xi ⟨[(4,.ref 4 0),(6,.ref 11900 0),(7,vi (k:Nat)),(8,vb false)],[(4,.cells [vb false,.v (.slice none 0 0),.v (.slice none 0 0),.v (.slice none 0 0)]),(11900,.cells [sl AK roots,.cmap CM (mC x),.cmap CM (L.map (kA x)),.slice (.id 11901 6) (infs.map BS),.slice (.id 11902 1) (drv.map B6),.mref 11903,vb true,sl Az dec,sl Ae (AJ dec),.msl 12200 st.length]),(11901,.tok 6 infs.length),(11902,.tok 1 drv.length),(11903,.map DT (DX 0 infs)),(12200,.arr 1 (st.map AQ))],Aa⟩ (Yi ⟨Z4,Z6,Fh,Tv⟩ ?_)
 refine Yi (fun _=>?_) (fun h=>by cases h);refine Xi ⟨[(4,.ref 4 0)],[(4,.cells [vb false,.v (.slice none 0 0),.v (.slice none 0 0),.v (.slice none 0 0)])],Aa⟩ (Yi ⟨Z1,Z1,Fh,Tv⟩ ?_)
 refine Yi ?_ ?_
 ·exact Nz rfl
 refine Yi ?_ ?_
 ·exact Nz rfl
 exact Hl.an0
theorem ot(x:List Rl)(ifs:List (List AV))(roots:List Rq)(hx:∀r∈x,JX r)(hr:∀q∈roots,N2 q)(hv:DU x roots=true)(h0:AT x=0)(h1:BL roots=0)(k:Nat)(infs:List Nf)(drv:List (List Tm))(dec:List Cd)(st:List (List Sk))(ho:DL x roots=⟨k,false,⟨infs,drv,false⟩,dec,st⟩)(hk:k<infs.length)(hl:infs.length≤65536):PC 43 [Hi x ifs,sl AK roots] (.tup [.agg (Sh ⟨false,[],infs.take (k+1),[]⟩),vi 0]):=by
 have SF:=sZ x ifs roots hx hr;rw[hv]at SF;refine Ps kJ Tryz.func43 rfl (Nz rfl) ?_;refine Yi ?_ ?_
 ·exact Nz rfl
 refine Xi .pure (Xi _ (Yi SF ?_));refine Xi ⟨[(1,sl AK roots),(2,.ref 2 0),(4,.ref 4 0)],[(2,.ro (Ic x ifs)),(4,.cells [vb false,.v (.slice none 0 0),.v (.slice none 0 0),.v (.slice none 0 0)])],Aa⟩ (Yi ⟨Z3,Z2,Fh,Tv⟩ ?_)
 refine Yi ?_ ?_
 ·exact Nz rfl
 refine Xi (.gen [] 5) (Yi rfl ((wR x ifs roots hx h0).imp ?_));intro v g q;refine CD q (fun L q=>?_);have q1:=q.2.1;have q2:=q.2.2;have qp:=q.1;subst q1;subst q2;refine Xi ⟨[(4,.ref 4 0),(6,.ref 11900 0)],[(4,.cells [vb false,.v (.slice none 0 0),.v (.slice none 0 0),.v (.slice none 0 0)]),(11900,.cells [sl AK roots,.cmap CM (mC x),.cmap CM (L.map (kA x)),.slice (.id 11901 6) [],.slice (.id 11902 1) [],.mref 11903,vb false,.slice .none [],.slice .none [],.msl 11904 0]),(11901,.tok 6 0),(11902,.tok 1 0),(11903,.map DT []),(11904,.arr 1 [])],Aa⟩ (Yi ⟨Z2,Z6,Fh,Tv⟩ ?_)
 refine Xi (.gen [(11900,1000),(11901,1001),(11902,1002),(11903,1003),(11904,1004)] 1) (Yi rfl ((TG hx hr h0 h1 qp ho).imp ?_));intro v g q;have q1:=q.1;have q2:=q.2;subst q1;subst q2;refine Xi ⟨[(4,.ref 4 0),(6,.ref 11900 0),(7,vi (k:Nat)),(8,vb false)],[(4,.cells [vb false,.v (.slice none 0 0),.v (.slice none 0 0),.v (.slice none 0 0)]),(11900,.cells [sl AK roots,.cmap CM (mC x),.cmap CM (L.map (kA x)),.slice (.id 11901 6) (infs.map BS),.slice (.id 11902 1) (drv.map B6),.mref 11903,vb false,sl Az dec,sl Ae (AJ dec),.msl 12200 st.length]),(11901,.tok 6 infs.length),(11902,.tok 1 drv.length),(11903,.map DT (DX 0 infs)),(12200,.arr 1 (st.map AQ))],Aa⟩ (Yi ⟨Z4,Z6,Fh,Tv⟩ ?_)
 refine Yi (fun h=>by cases h) (fun _=>?_);refine Xi ⟨[(4,.ref 4 0),(6,.ref 11900 0),(7,vi (k:Nat)),(8,vb false)],[(4,.cells [vb false,.v (.slice none 0 0),.v (.slice none 0 0),.v (.slice none 0 0)]),(11900,.cells [sl AK roots,.cmap CM (mC x),.cmap CM (L.map (kA x)),.slice (.id 11901 6) (infs.map BS),.slice (.id 11902 1) (drv.map B6),.mref 11903,vb false,sl Az dec,sl Ae (AJ dec),.msl 12200 st.length]),(11901,.tok 6 infs.length),(11902,.tok 1 drv.length),(11903,.map DT (DX 0 infs)),(12200,.arr 1 (st.map AQ))],Aa⟩ (Yi ⟨Z4,Z6,Fh,Tv⟩ ?_)
 refine Xi ⟨[(4,.ref 4 0),(6,.ref 11900 0),(7,vi (k:Nat))],[(4,.cells [vb false,.v (.slice none 0 0),.v (.slice none 0 0),.v (.slice none 0 0)]),(11900,.cells [sl AK roots,.cmap CM (mC x),.cmap CM (L.map (kA x)),.slice (.id 11901 6) (infs.map BS),.slice (.id 11902 1) (drv.map B6),.mref 11903,vb false,sl Az dec,sl Ae (AJ dec),.msl 12200 st.length]),(11901,.tok 6 infs.length),(11902,.tok 1 drv.length),(11903,.map DT (DX 0 infs)),(12200,.arr 1 (st.map AQ))],Aa⟩ (Yi ⟨Z3,Z6,Fh,Tv⟩ ?_)
 refine Yi (Ii k (by omega)) ?_;have el:(infs.map BS).length=infs.length:=Lm ..;refine Yi ⟨BO _,by show(0:Int)≤(k:Int)+1;omega,by show(k:Int)+1≤((infs.map BS).length:Int);rw[el];omega⟩ ?_;refine Yi (fun cs hcs=>by obtain⟨i,_,rfl⟩:=Aj.1 hcs;rfl) ?_;refine Yi ?_ ?_
 ·exact Nz rfl
 refine Yi ?_ ?_
 ·exact Nz rfl
 have et:((infs.map BS).take ((k:Int)+1).toNat).drop (0:Int).toNat=(infs.take (k+1)).map BS:=by
  rw[show((k:Int)+1).toNat=k+1 by omega];simp
 exact Hl.tup ⟨Hl.agg ⟨.refl _,.nil,.of_eq (show AV.slice .none (((infs.map BS).take ((k:Int)+1).toNat).drop (0:Int).toNat)=_ by rw[et]),.nil,trivial⟩,.refl _,trivial⟩
theorem UV(y:Sl):∀l:List Sl,(Ug y l).Perm (y::l)
 | []=>.refl _
 |z::l=>by
  unfold Ug;split
  ·exact .refl _
  ·exact((UV y l).cons z).trans (List.Perm.swap y z l)
theorem NW:∀l:List Sl,(FF l).Perm l
 | []=>.refl _
 |y::l=>(UV y _).trans ((NW l).cons y)
theorem Xo{b:Nat}:∀{st:List (List Sk)},(∀s∈st,s.length≤b)→st.flatten.length≤b*st.length
 | [],_=>by simp
 |s::st,h=>by
  rw[Bm,Ad,Au,Nat.mul_succ]
  have:=h s (Ab ..)
  have:=Xo (st:=st) fun t ht=>h t (Ag _ ht)
  omega
theorem iq{st:List (List Sk)}(h:st.length≤256)(hs:∀s∈st,s.length≤256)(i:Nat):((st.take i).flatten).length≤65536:=by
 have h1:=Xo (b:=256) (st:=st.take i) fun s WK=>hs s (Eo WK)
 have:(st.take i).length≤256:=by rw[AD];omega
 omega
theorem kW(x:List Rl)(ifs:List (List AV))(roots:List Rq)(hx:∀r∈x,JX r)(hr:∀q∈roots,N2 q)(hv:DU x roots=true)(h0:AT x=0)(h1:BL roots=0)(k:Nat)(infs:List Nf)(drv:List (List Tm))(dec:List Cd)(st:List (List Sk))(ho:DL x roots=⟨k,true,⟨infs,drv,false⟩,dec,st⟩)(hd:dec.length≤256)(hn:((AJ dec).map (·.path)).Nodup)(Jf:st.length≤256)(yc:∀s∈st,s.length≤256):PC 43 [Hi x ifs,sl AK roots] (.tup [.agg (Sh ⟨true,FF (AJ dec),infs,st.flatten⟩),vi 0]):=by
 have SF:=sZ x ifs roots hx hr;rw[hv]at SF;refine Ps kJ Tryz.func43 rfl (Nz rfl) ?_;refine Yi ?_ ?_
 ·exact Nz rfl
 refine Xi .pure (Xi _ (Yi SF ?_));refine Xi ⟨[(1,sl AK roots),(2,.ref 2 0),(4,.ref 4 0)],[(2,.ro (Ic x ifs)),(4,.cells [vb false,.v (.slice none 0 0),.v (.slice none 0 0),.v (.slice none 0 0)])],Aa⟩ (Yi ⟨Z3,Z2,Fh,Tv⟩ ?_)
 refine Yi ?_ ?_
 ·exact Nz rfl
 refine Xi (.gen [] 5) (Yi rfl ((wR x ifs roots hx h0).imp ?_));intro v g q;refine CD q (fun L q=>?_);have q1:=q.2.1;have q2:=q.2.2;have qp:=q.1;subst q1;subst q2;refine Xi ⟨[(4,.ref 4 0),(6,.ref 11900 0)],[(4,.cells [vb false,.v (.slice none 0 0),.v (.slice none 0 0),.v (.slice none 0 0)]),(11900,.cells [sl AK roots,.cmap CM (mC x),.cmap CM (L.map (kA x)),.slice (.id 11901 6) [],.slice (.id 11902 1) [],.mref 11903,vb false,.slice .none [],.slice .none [],.msl 11904 0]),(11901,.tok 6 0),(11902,.tok 1 0),(11903,.map DT []),(11904,.arr 1 [])],Aa⟩ (Yi ⟨Z2,Z6,Fh,Tv⟩ ?_)
 refine Xi (.gen [(11900,1000),(11901,1001),(11902,1002),(11903,1003),(11904,1004)] 1) (Yi rfl ((TG hx hr h0 h1 qp ho).imp ?_));intro v g q;have q1:=q.1;have q2:=q.2;subst q1;subst q2;refine Xi ⟨[(4,.ref 4 0),(6,.ref 11900 0),(7,vi (k:Nat)),(8,vb true)],[(4,.cells [vb false,.v (.slice none 0 0),.v (.slice none 0 0),.v (.slice none 0 0)]),(11900,.cells [sl AK roots,.cmap CM (mC x),.cmap CM (L.map (kA x)),.slice (.id 11901 6) (infs.map BS),.slice (.id 11902 1) (drv.map B6),.mref 11903,vb false,sl Az dec,sl Ae (AJ dec),.msl 12200 st.length]),(11901,.tok 6 infs.length),(11902,.tok 1 drv.length),(11903,.map DT (DX 0 infs)),(12200,.arr 1 (st.map AQ))],Aa⟩ (Yi ⟨Z4,Z6,Fh,Tv⟩ ?_)
 refine Yi (fun h=>by cases h) (fun _=>?_);refine Xi ⟨[(4,.ref 4 0),(6,.ref 11900 0),(8,vb true)],[(4,.cells [vb false,.v (.slice none 0 0),.v (.slice none 0 0),.v (.slice none 0 0)]),(11900,.cells [sl AK roots,.cmap CM (mC x),.cmap CM (L.map (kA x)),.slice (.id 11901 6) (infs.map BS),.slice (.id 11902 1) (drv.map B6),.mref 11903,vb false,sl Az dec,sl Ae (AJ dec),.msl 12200 st.length]),(11901,.tok 6 infs.length),(11902,.tok 1 drv.length),(11903,.map DT (DX 0 infs)),(12200,.arr 1 (st.map AQ))],Aa⟩ (Yi ⟨Z3,Z6,Fh,Tv⟩ ?_)
 refine Xi ⟨[(4,.ref 4 0),(6,.ref 11900 0)],[(4,.cells [vb false,.v (.slice none 0 0),.v (.slice none 0 0),.v (.slice none 0 0)]),(11900,.cells [sl AK roots,.cmap CM (mC x),.cmap CM (L.map (kA x)),.slice (.id 11901 6) (infs.map BS),.slice (.id 11902 1) (drv.map B6),.mref 11903,vb false,sl Az dec,sl Ae (AJ dec),.msl 12200 st.length]),(11901,.tok 6 infs.length),(11902,.tok 1 drv.length),(11903,.map DT (DX 0 infs)),(12200,.arr 1 (st.map AQ))],Aa⟩ (Yi ⟨Z2,Z6,Fh,Tv⟩ ?_)
 have o7:(AJ dec).length≤256:=by rw[Lm];exact hd
 have ai:CO (AJ dec):=Br o7 (by decide);refine Xi (AJ dec).length (Xi 4 (Xi ((AJ dec).map Ae) (Yi rfl (Yi (wW (AJ dec) ai) ?_))));refine Yi ?_ ?_
 ·exact Nz rfl
 refine Yi (by kernel_rfl) ?_;refine Xi ⟨[(4,.ref 4 0),(6,.ref 11900 0),(9,.ref 9 0)],[(4,.cells [vb false,.v (.slice none 0 0),.v (.slice none 0 0),.v (.slice none 0 0)]),(9,.cells [vb true,.msl 14400 (AJ dec).length,.slice (.id 11901 6) (infs.map BS),.v (.slice none 0 0)]),(11900,.cells [sl AK roots,.cmap CM (mC x),.cmap CM (L.map (kA x)),.slice (.id 11901 6) (infs.map BS),.slice (.id 11902 1) (drv.map B6),.mref 11903,vb false,sl Az dec,sl Ae (AJ dec),.msl 12200 st.length]),(11901,.tok 6 infs.length),(11902,.tok 1 drv.length),(11903,.map DT (DX 0 infs)),(12200,.arr 1 (st.map AQ)),(14400,.arr 4 ((AJ dec).map Ae))],Aa⟩ (Yi ⟨Z3,Z8,Fh,Tv⟩ ?_)
 refine Xi (.gen [(14400,1000)] 0) (Yi rfl ((s47 68 Tryz.closure68 (enters_of Tryz.func68 (by kernel_rfl) rfl) (AJ dec) ai hn).imp ?_));intro v g q;have q1:=q.1;have q2:=q.2;subst q1;subst q2;refine Xi ⟨[(4,.ref 4 0),(6,.ref 11900 0),(9,.ref 9 0)],[(4,.cells [vb false,.v (.slice none 0 0),.v (.slice none 0 0),.v (.slice none 0 0)]),(9,.cells [vb true,.msl 14400 (AJ dec).length,.slice (.id 11901 6) (infs.map BS),.slice (.id 95 3) []]),(95,.tok 3 0),(11900,.cells [sl AK roots,.cmap CM (mC x),.cmap CM (L.map (kA x)),.slice (.id 11901 6) (infs.map BS),.slice (.id 11902 1) (drv.map B6),.mref 11903,vb false,sl Az dec,sl Ae (AJ dec),.msl 12200 st.length]),(11901,.tok 6 infs.length),(11902,.tok 1 drv.length),(11903,.map DT (DX 0 infs)),(12200,.arr 1 (st.map AQ)),(14400,.arr 4 ((FF (AJ dec)).map Ae))],Aa⟩ (Yi ⟨Z3,Z9,Fh,Tv⟩ ?_)
 refine Xi {i:Nat // i≤st.length} (Xi (fun i=>⟨[(4,.ref 4 0),(6,.ref 11900 0),(9,.ref 9 0),(56,.msl 12200 st.length),(57,vi (st.length:Nat)),(58,vi i.1)],[(4,.cells [vb false,.v (.slice none 0 0),.v (.slice none 0 0),.v (.slice none 0 0)]),(9,.cells [vb true,.msl 14400 (AJ dec).length,.slice (.id 11901 6) (infs.map BS),.slice (.id 95 3) ((st.take i.1).flatten.map BM)]),(95,.tok 3 ((st.take i.1).flatten.map BM).length),(11900,.cells [sl AK roots,.cmap CM (mC x),.cmap CM (L.map (kA x)),.slice (.id 11901 6) (infs.map BS),.slice (.id 11902 1) (drv.map B6),.mref 11903,vb false,sl Az dec,sl Ae (AJ dec),.msl 12200 st.length]),(11901,.tok 6 infs.length),(11902,.tok 1 drv.length),(11903,.map DT (DX 0 infs)),(12200,.arr 1 (st.map AQ)),(14400,.arr 4 ((FF (AJ dec)).map Ae))],Aa⟩) (Xi (fun i=>st.length-i.1) (Yi (Xi ⟨0,AL _⟩ ?_) ?_)))
 ·exact⟨Z6,Z9,Fh,Tv⟩
 intro⟨i,i1⟩;have i1:i≤st.length:=i1;refine Yi ?_ ?_
 ·intro h;have h:(i:Int)<(st.length:Nat):=h;have h:i<st.length:=by omega
  have hg:st[i]?=some st[i]:=Ge h;have Kx:st.take (i+1)=st.take i++[st[i]]:=by rw[Bq,hg];rfl
  refine Yi (Yi (Nn i) (by show(i:Int)<(st.length:Nat);omega)) ?_;refine Yi (by rw[Lm]) (Xi (AQ st[i]) (Yi (by show(st.map AQ)[((i:Nat):Int).toNat]?=_;rw[Ch,AF,hg];rfl) ?_));refine Xi ⟨[(4,.ref 4 0),(6,.ref 11900 0),(9,.ref 9 0),(11,sl BM st[i]),(56,.msl 12200 st.length),(57,vi (st.length:Nat)),(58,vi i)],[(4,.cells [vb false,.v (.slice none 0 0),.v (.slice none 0 0),.v (.slice none 0 0)]),(9,.cells [vb true,.msl 14400 (AJ dec).length,.slice (.id 11901 6) (infs.map BS),.slice (.id 95 3) ((st.take i).flatten.map BM)]),(95,.tok 3 ((st.take i).flatten.map BM).length),(11900,.cells [sl AK roots,.cmap CM (mC x),.cmap CM (L.map (kA x)),.slice (.id 11901 6) (infs.map BS),.slice (.id 11902 1) (drv.map B6),.mref 11903,vb false,sl Az dec,sl Ae (AJ dec),.msl 12200 st.length]),(11901,.tok 6 infs.length),(11902,.tok 1 drv.length),(11903,.map DT (DX 0 infs)),(12200,.arr 1 (st.map AQ)),(14400,.arr 4 ((FF (AJ dec)).map Ae))],Aa⟩ (Yi ⟨Z7,Z9,Fh,Tv⟩ ?_)
  have hfl:((st.take i).flatten).length≤65536∧st[i].length≤256:=⟨iq Jf yc i,yc _ (AC _)⟩;have He:De 3 (st[i].map BM)∧((st.take i).flatten.map BM).length=((st.take i).flatten.map BM).length∧(((st.take i).flatten.map BM).length+(st[i].map BM).length)*32≤140737488355328∧((st.take i).flatten.map BM).length+(st[i].map BM).length≤9223372036854775807:=by
   refine⟨Fi (enc:=BM) (n:=3) (fun _=>rfl) _,rfl,?_,?_⟩<;>simp only[Lm]<;>omega
  refine Yi He ?_;refine Yi ?_ ?_
  ·exact Nz rfl
  have ef:((st.take i).flatten.map BM)++st[i].map BM=((st.take (i+1)).flatten.map BM):=by rw[Kx,Cv,Ax];simp
  have en:((st.take i).flatten.map BM).length+(st[i].map BM).length=((st.take (i+1)).flatten.map BM).length:=by rw[←ef,Ad]
  refine Xi ⟨[(4,.ref 4 0),(6,.ref 11900 0),(9,.ref 9 0),(56,.msl 12200 st.length),(57,vi (st.length:Nat)),(58,vi i)],[(4,.cells [vb false,.v (.slice none 0 0),.v (.slice none 0 0),.v (.slice none 0 0)]),(9,.cells [vb true,.msl 14400 (AJ dec).length,.slice (.id 11901 6) (infs.map BS),.slice (.id 95 3) ((st.take (i+1)).flatten.map BM)]),(95,.tok 3 ((st.take (i+1)).flatten.map BM).length),(11900,.cells [sl AK roots,.cmap CM (mC x),.cmap CM (L.map (kA x)),.slice (.id 11901 6) (infs.map BS),.slice (.id 11902 1) (drv.map B6),.mref 11903,vb false,sl Az dec,sl Ae (AJ dec),.msl 12200 st.length]),(11901,.tok 6 infs.length),(11902,.tok 1 drv.length),(11903,.map DT (DX 0 infs)),(12200,.arr 1 (st.map AQ)),(14400,.arr 4 ((FF (AJ dec)).map Ae))],Aa⟩ (Yi ⟨Z6,⟨Zr,⟨Ac (fun z=>HO.cells [vb true,.msl 14400 (AJ dec).length,.slice (.id 11901 6) (infs.map BS),.slice (.id 95 3) z]) ef,rfl⟩,⟨Ac (HO.tok 3) en,rfl⟩,Zr,Zr,Zr,Zr,Zr,Zr,Tv⟩,Fh,Tv⟩ ?_)
  refine Yi (Ii i (by omega)) ?_;refine Xi ⟨i+1,by omega⟩ ?_;exact⟨Dl st.length i (by omega),Z6,Z9,Fh,Tv⟩
 ·intro h;have h:¬(i:Int)<(st.length:Nat):=h;have et:st.take i=st:=AG (by omega);have WL:(AJ dec).length=((FF (AJ dec)).map Ae).length:=(NW (AJ dec)).length_eq.symm.trans (Lm ..).symm;refine Yi WL ?_;refine Xi ⟨[(4,.ref 4 0),(9,.ref 9 0)],[(4,.cells [vb false,.v (.slice none 0 0),.v (.slice none 0 0),.v (.slice none 0 0)]),(9,.cells [vb true,.slice (.id 14400 4) ((FF (AJ dec)).map Ae),.slice (.id 11901 6) (infs.map BS),.slice (.id 95 3) (st.flatten.map BM)]),(95,.tok 3 (st.flatten.map BM).length),(11901,.tok 6 infs.length),(14400,.tok 4 ((FF (AJ dec)).map Ae).length)],Aa⟩ (Yi ⟨Z2,⟨Zr,⟨Ac (fun z:List (List Sk)=>HO.cells [vb true,.slice (.id 14400 4) ((FF (AJ dec)).map Ae),.slice (.id 11901 6) (infs.map BS),.slice (.id 95 3) (z.flatten.map BM)]) et,rfl⟩,⟨Ac (fun z:List (List Sk)=>HO.tok 3 (z.flatten.map BM).length) et,rfl⟩,Zr,Zr,Tv⟩,Fh,Tv⟩ ?_)
  refine Yi ?_ ?_
  ·exact Nz rfl
  refine Yi ?_ ?_
  ·exact Nz rfl
  refine Yi ?_ ?_
  ·exact Nz rfl
  exact .refl _
theorem PX{s:SS}{b:List Cd}{p:ByteArray}{needs:List Nd}:∀{cs:List Cd} {sk:List Sk},GO s b p needs cs sk→sk.length≤cs.length
 | [],sk,h=>by
  have h:sk=[]:=h;rw[h];exact Al _
 |c::cs,sk,h=>by
  have h:if(needs.all fun n=>has n.rq.set c.place)=true then _ else _:=h
  by_cases hc:(needs.all fun n=>has n.rq.set c.place)=true
  ·rw[Ao hc]at h;obtain⟨k,rest,rfl,_,h3⟩:=h
   have:=PX h3
   simp only[Au];omega
  ·rw[Ah hc]at h
   have:=PX h
   simp only[Au];omega
theorem UE{x:List Rl}{roots:List Rq}{s:SS}:∀{t:List Cd} {sl:List (List Sk)} {b:List Cd},RE x roots s b t sl→sl.length=t.length∧∀k∈sl,k.length≤x.length
 | [],[],_,_=>⟨rfl,fun _ h=>by cases h⟩
 | [],_::_,_,h=>h.elim
 |_::_,[],_,h=>h.elim
 |c::t,sk::sl,b,⟨⟨p,needs,pre,post,hs⟩,h⟩=>by
  obtain⟨h1,h2⟩:=UE h;refine⟨by simp[h1],fun k hk=>?_⟩;rcases Av.1 hk with rfl | hk
  ·have e1:=PX hs.skips;have e2:=UB x p;rw[hs.cands,Ad]at e2;omega
  ·exact h2 k hk
theorem s21(x:List Rl)(ifs:List (List AV))(roots:List Rq)(hx:∀r∈x,JX r)(hr:∀q∈roots,N2 q):PC 43 [Hi x ifs,sl AK roots] (ir x roots):=by
 unfold ir HL GZ;cases hv:DU x roots with
 |false=>simpa using kV x ifs roots hx hr hv
 |true =>
  obtain⟨h0,h1⟩:=Mo hv;have hR:=KL h0 h1;have lR:=(NI h0).1;have hA:VE x roots=if(DL x roots).found=true then⟨true,FF (AJ (DL x roots).dec),(DL x roots).ss.infs,(DL x roots).stack.flatten⟩else⟨false,[],(DL x roots).ss.infs.take ((DL x roots).res+1),[]⟩:=rfl
  rw[hA];generalize ho:DL x roots=o at hR⊢;obtain⟨k,b,⟨infs,drv,full⟩,dec,st⟩:=o;have hl:infs.length≤65536:=hR.der.len;have hdl:drv.length=infs.length:=hR.der.dlen;cases b with
  |false =>
   cases full with
   |true=>simpa using il x ifs roots hx hr hv h0 h1 k infs drv dec st ho
   |false =>
    have hk:k<drv.length:=((hR.no rfl).2.2 rfl).1;simpa using ot x ifs roots hx hr hv h0 h1 k infs drv dec st ho (by omega) hl
  |true =>
   obtain⟨hf,t,sl,e1,e2,hC,_⟩:=hR.yes rfl;have hf:full=false:=hf;subst hf;have e1:dec=[]++t:=e1;have e2:st=[]++sl:=e2;rw[EM]at e1 e2;subst e1;subst e2;have hD:Ez x ([]++dec):=(RE.ok (.nil x) (.nil roots) hC).1;rw[EM]at hD;have hdx:=W8 hD;obtain⟨c1,c2⟩:=UE hC;have hn:((AJ dec).map (·.path)).Nodup:=by rw[NJ];exact hD.nodup
   simpa using kW x ifs roots hx hr hv h0 h1 k infs drv dec st ho (by omega) hn (by omega) (fun s hs=>Br (c2 s hs) lR)
def Dx(x:List Rl)(roots:List Rq):Int:=if GZ x roots≠0 then GZ x roots else if(HL x roots).found=true then 0 else 17
def DS(x:List Rl)(roots:List Rq):List Sl:=if Dx x roots=0 then(HL x roots).sel else []
abbrev vU:RK:=⟨[2],[],[],[],[],[],[],[],[],[],[]⟩
theorem oq(x:List Rl)(ifs:List (List AV))(roots:List Rq)(a:An)(e:Int)(h:PC 43 [Hi x ifs,sl AK roots] (.tup [.agg (Sh a),vi e])) :
  PC 17 [Hi x ifs,sl AK roots] (.tup [if e≠0 then sl Ae []else if a.found=true then sl Ae a.sel else sl Ae [],vi (if e≠0 then e else if a.found=true then 0 else 17)]):=by
 refine Ps vU Tryz.func17 rfl (Nz rfl) ?_;refine Yi ?_ ?_
 ·exact Nz rfl
 refine Xi .pure (Xi _ (Yi h ?_));refine Yi ?_ ?_
 ·exact Nz rfl
 refine Yi (fun he=>?_) (fun he=>?_)
 ·have he:¬e=0:=he;have e1:AV.tup [sl Ae [],vi e]=.tup [if e≠0 then sl Ae []else if a.found=true then sl Ae a.sel else sl Ae [],vi (if e≠0 then e else if a.found=true then 0 else 17)]:=by rw[Ao he,Ao he]
  exact(show Hl (.tup [.v (.slice none 0 0),vi e]) (.tup [sl Ae ([]:List Sl),vi e])from Hl.tup ⟨.nil,.refl _,trivial⟩).trans (.of_eq e1)
 ·have he:e=0:=BZ.1 he;have Dr:¬e≠0:=fun h=>h he;refine Yi (fun hb=>?_) (fun hb=>?_)
  ·have hb:a.found=true:=hb;have e1:AV.tup [sl Ae a.sel,vi 0]=.tup [if e≠0 then sl Ae []else if a.found=true then sl Ae a.sel else sl Ae [],vi (if e≠0 then e else if a.found=true then 0 else 17)]:=by rw[Ah Dr,Ah Dr,Ao hb,Ao hb]
   exact .of_eq e1
  ·have hb:a.found=false:=hb;have hb:¬a.found=true:=by rw[hb];decide
   have e1:AV.tup [sl Ae [],vi 17]=.tup [if e≠0 then sl Ae []else if a.found=true then sl Ae a.sel else sl Ae [],vi (if e≠0 then e else if a.found=true then 0 else 17)]:=by rw[Ah Dr,Ah Dr,Ah hb,Ah hb]
   exact(show Hl (.tup [.v (.slice none 0 0),vi 17]) (.tup [sl Ae ([]:List Sl),vi 17])from Hl.tup ⟨.nil,.refl _,trivial⟩).trans (.of_eq e1)
theorem sY(x:List Rl)(ifs:List (List AV))(roots:List Rq)(hx:∀r∈x,JX r)(hr:∀q∈roots,N2 q):PC 17 [Hi x ifs,sl AK roots] (.tup [sl Ae (DS x roots),vi (Dx x roots)]):=by
 have h:=oq x ifs roots _ _ (s21 x ifs roots hx hr);have e1:(if GZ x roots≠0 then sl Ae []else if(HL x roots).found=true then sl Ae (HL x roots).sel else sl Ae [])=sl Ae (DS x roots):=by
  unfold DS Dx
  by_cases h1:GZ x roots=0
  ·by_cases h2:(HL x roots).found=true
   ·simp[h1,h2]
   ·simp[h1,h2]
  ·simp[h1]
 have e2:(if GZ x roots≠0 then GZ x roots else if(HL x roots).found=true then 0 else 17)=Dx x roots:=rfl;rw[e1,e2]at h;exact h
instance:DecidableEq Mv:=fun x y=>decidable_of_iff (x.path=y.path∧x.a=y.a∧x.b=y.b) ⟨fun⟨h1,h2,h3⟩=>by cases x;cases y;simp_all,fun h=>by subst h;exact⟨rfl,rfl,rfl⟩⟩
theorem rj{a b:Mv}(h:a.path=b.path∧a.a=b.a∧a.b=b.b∧True):a=b:=by cases a;cases b;simp_all
theorem rk{a b:Mv}(h:¬(a.path=b.path∧a.a=b.a∧a.b=b.b∧True)):a≠b:=fun e=>h (by subst e;exact⟨rfl,rfl,rfl,trivial⟩)
theorem o35(a b:List Mv)(ha:CO a):PC 30 [sl DW a,sl DW b] (vb (decide (a=b))):=by
 have ux:a.length≤1073741824:=ha;refine Ps ⟨[],[],[],[],[],[],[],[],[],[],[7,8]⟩ Tryz.func30 rfl (Nz rfl) ?_;refine Yi (fun h1=>?_) (fun h1=>?_)
 ·have h1:((a.map DW).length:Int)≠((b.map DW).length:Int):=h1;exact .of_eq (show vb false=vb (decide (a=b)) by rw[Ay (fun e=>absurd (Ac (fun z=>((z.map DW).length:Int)) e) h1)])
 have h1:((a.map DW).length:Int)=((b.map DW).length:Int):=AW h1;have hl:a.length=b.length:=by have q:=h1;rw[Lm,Lm]at q;omega
 refine Xi {q:Nat // q≤a.length∧∀j (hj:j<a.length),j<q→a[j]=b[j]'(hl▸hj)} (Xi (fun q=>⟨[(0,sl DW a),(1,sl DW b),(12,vi (a.map DW).length),(13,vi q.1)],[],Aa⟩) (Xi (fun q=>a.length-q.1) (Yi (Xi ⟨0,AL _,fun _ _ h=>absurd h (Ju _)⟩ ?_) ?_)))
 ·exact⟨Z4,Tv,Fh,Tv⟩
 intro⟨i,i1,i2⟩;have i1:i≤a.length:=i1;have i2:∀j (hj:j<a.length),j<i→a[j]=b[j]'(hl▸hj):=i2;refine Yi (fun h3=>?_) (fun h3=>?_)
 ·have h3:(i:Int)<((a.map DW).length:Int):=h3;have n3:=Ma h3;have qz:i<b.length:=by have q:=h3;rw[Lm]at q;omega
  refine Xi (DW a[i]) (Yi (UW n3) (Yi rfl ?_));refine Yi (Nz rfl) ?_;refine Xi (DW b[i]) (Yi (UW qz) (Yi rfl ?_));refine Yi (Nz rfl) ?_;refine Yi (fun h4=>?_) (fun h4=>?_)
  ·have h4:(a[i].path:ByteArray)=b[i].path∧(a[i].a:Int)=b[i].a∧(a[i].b:Int)=b[i].b∧True:=h4;refine Yi (by kernel_rfl) ?_;refine Xi ⟨[(0,sl DW a),(1,sl DW b),(12,vi (a.map DW).length),(13,vi i)],[],Aa⟩ (Yi ⟨Z4,Tv,Fh,Tv⟩ ?_)
   refine Yi (Ii i (by omega)) ?_;refine Xi ⟨i+1,n3,fun j hj L3=>if e:j<i then i2 j hj e else by
     have e:j=i:=by omega
     subst e;exact rj h4⟩ ?_
   exact⟨Dl a.length i (by omega),Z4,Tv,Fh,Tv⟩
  have h4:¬((a[i].path:ByteArray)=b[i].path∧(a[i].a:Int)=b[i].a∧(a[i].b:Int)=b[i].b∧True):=h4;refine Yi (by kernel_rfl) ?_;refine Xi ⟨[],[],Aa⟩ (Yi ⟨Tv,Tv,Fh,Tv⟩ ?_)
  exact .of_eq (show vb false=vb (decide (a=b)) by rw[Ay (lp (i:=i) (ha:=n3) (hb:=qz) (rk h4))])
 have h3:¬((i:Int)<((a.map DW).length:Int)):=h3;have n3:=L9 h3;exact .of_eq (show vb true=vb (decide (a=b)) by rw[AA (au hl fun j hj=>i2 j hj (by have q:=h3;rw[Lm]at q;omega))])
abbrev pb:ByteArray:=⟨#[98,47,118,49]⟩
end Go.Eng
namespace Go.Eng
/-! The empty workspace, and a workspace twice. -/
/-! What is merged. -/
/-! What a workspace makes of an index. -/
/-! What the solver selects. -/
theorem im{x:List Rl}{roots:List Rq}(h:Dx x roots=0):(∀z∈DS x roots,∃r∈x,Dm r=z)∧(DS x roots).length≤x.length∧AT x=0:=by
 have h0:=h;unfold Dx at h0;split at h0
 ·rename_i hs;exact absurd h0 hs
 ·rename_i hs;have hs:GZ x roots=0:=BZ.1 hs;split at h0
  ·rename_i hf;have hv:DU x roots=true:=by
    cases e:DU x roots with
    |true=>rfl
    |false=>unfold GZ at hs;rw[e]at hs;cases hs
   have XC:(DL x roots).ss.full=false:=by
    cases e:(DL x roots).ss.full with
    |false=>rfl
    |true=>unfold GZ at hs;rw[hv,e]at hs;cases hs
   obtain⟨hx,hr⟩:=Mo hv;have hA:HL x roots=VE x roots:=by unfold HL;rw[Ao ⟨hv,XC⟩]
   rw[hA]at hf;have OG:(DL x roots).found=true:=by
    cases e:(DL x roots).found with
    |true=>rfl
    |false=>unfold VE at hf;rw[e]at hf;cases hf
   have vA:DS x roots=FF (AJ (DL x roots).dec):=by
    unfold DS;rw[Ao h,hA];unfold VE;rw[Ao OG]
   obtain⟨_,t,sl,y2,y3,y4,y5⟩:=(KL hx hr).yes OG;have ny:(DL x roots).dec∈Ea x roots (x.length+1) []:=List.mem_of_head? y5;have lf:=Ky (Ez.nil x) (Ij.nil roots) _ ny;rw[vA];refine⟨fun z hz=>?_,?_,hx⟩
   ·rw[F1]at hz;obtain⟨c,hc,rfl⟩:=Aj.1 hz;exact⟨c.rel,(lf.ok.cand c hc).1,rfl⟩
   ·rw[(NW _).length_eq,Lm]
    have:=PL (l:=(DL x roots).dec.map fun c=>c.rel) (m:=x) (Zl (f:=fun r:Rl=>r.path) (by rw[BB];exact lf.ok.nodup)) (fun r hr=>by
     obtain⟨c,hc,rfl⟩:=Aj.1 hr;exact(lf.ok.cand c hc).1)
    rwa [Lm]at this
  ·cases h0
section
variable {x:List Rl}{roots:List Rq}
def N3(x:List Rl)(roots:List Rq):Prop:=∃s,mn x roots s
theorem WA(hv:DU x roots=true)(hx:x.length≤16):GZ x roots=0:=by
 unfold GZ;rw[Ao hv,NV hx];rfl
theorem Lk(hv:DU x roots=true)(hx:x.length≤16):HL x roots=VE x roots:=by
 unfold HL;rw[Ao ⟨hv,NV hx⟩]
theorem NC(hv:DU x roots=true)(hx:x.length≤16):(HL x roots).found=true↔N3 x roots:=by
 obtain⟨h0,h1⟩:=Mo hv;have hR:=KL h0 h1;have hf:=NV (roots:=roots) hx;rw[Lk hv hx];unfold VE;generalize DL x roots=o at *
 constructor
 ·intro h
  by_cases OG:o.found=true
  ·obtain⟨_,t,sl,y2,y3,y4,y5⟩:=hR.yes OG;have hm:o.dec∈Ea x roots (x.length+1) []:=List.mem_of_head? y5;exact⟨_,(Ky (.nil x) (.nil roots) _ hm).sol h0⟩
  ·rw[Ah OG]at h;cases h
 ·rintro⟨s,hs⟩
  by_cases OG:o.found=true
  ·rw[Ao OG]
  ·have OG:o.found=false:=by simpa using OG
   obtain⟨n4,n5⟩:=(hR.no OG).2.2 hf;have nB:Dt o.ss o.res=[]:=by
    cases h:Dt o.ss o.res with
    |nil=>rfl
    |cons u l =>
     rw[h]at n5
     have:=(K4.1 n5).2 u (Ab ..)
     cases this
   have ny:Dt o.ss o.res∈o.ss.drv:=Ar (EI n4)
   have:=Ja hs (fun _ h=>by cases h) hR.der.der _ ny
   rw[nB]at this;cases this
theorem Yo(hv:DU x roots=true)(hx:x.length≤16):(Dx x roots=0↔N3 x roots)∧(Dx x roots=17↔¬N3 x roots):=by
 unfold Dx;rw[WA hv hx,Ah (fun h=>h rfl),←NC hv hx]
 by_cases h:(HL x roots).found=true
 ·rw[Ao h];simp[h]
 ·rw[Ah h];simp[h]
theorem Na(hv:DU x roots=true)(hx:x.length≤16):Ea x roots (x.length+1) []≠[]↔N3 x roots:=by
 obtain⟨h0,h1⟩:=Mo hv;constructor
 ·intro h;cases hl:Ea x roots (x.length+1) []with
  |nil=>exact absurd hl h
  |cons d L =>
   have hm:d∈Ea x roots (x.length+1) []:=by rw[hl];exact Ab ..
   exact⟨_,(Ky (.nil x) (.nil roots) _ hm).sol h0⟩
 ·intro h e;have hf:=(NC hv hx).2 h;have hR:=KL h0 h1;rw[Lk hv hx]at hf;unfold VE at hf
  by_cases OG:(DL x roots).found=true
  ·obtain⟨_,t,sl,y2,y3,y4,y5⟩:=hR.yes OG;have hm:=List.mem_of_head? y5;rw[e]at hm;cases hm
  ·rw[Ah OG]at hf;cases hf
theorem PV(hv:DU x roots=true)(hx:x.length≤16){d:List Cd}{l:List (List Cd)}(h:Ea x roots (x.length+1) []=d::l):Dx x roots=0∧DS x roots=FF (AJ d):=by
 obtain⟨h0,h1⟩:=Mo hv;have hF:N3 x roots:=(Na hv hx).1 (by rw[h];exact List.cons_ne_nil _ _);have hE:=(Yo hv hx).1.2 hF;refine⟨hE,?_⟩;have hf:=(NC hv hx).2 hF;have hR:=KL h0 h1;unfold DS;rw[hE,Ao rfl,Lk hv hx];rw[Lk hv hx]at hf;unfold VE at hf⊢
 by_cases OG:(DL x roots).found=true
 ·rw[Ao OG];obtain⟨_,t,sl,y2,y3,y4,y5⟩:=hR.yes OG;rw[h]at y5;have y5:some d=some (DL x roots).dec:=y5;cases y5;rfl
 ·rw[Ah OG]at hf;cases hf
end
/-! Releases whose names satisfy p get Yanked. -/
def yk(y:Bool)(p:Sl→Bool)(x:List Rl):List Rl:=x.map fun r=>if p (Dm r)=true then { r with yanked:=y }else r
section
variable {x:List Rl}{roots:List Rq}{y:Bool}{p:Sl→Bool}
theorem Jt:(yk y p x).length=x.length:=Lm ..
theorem oK(r:Rl):Dm (if p (Dm r)=true then { r with yanked:=y }else r)=Dm r:=by split<;>rfl
theorem me:∀(x:List Rl) (b b' : Option Rl),b.map Dm=b'.map Dm→DH b (yk y p x)=DH b' x
 | [],_,_,_=>rfl
 |r::x,b,b',h=>by
  show DH b ((if p (Dm r)=true then { r with yanked:=y }else r)::yk y p x)=_;have hk:=oK (y:=y) (p:=p) r;have hc:DF (if p (Dm r)=true then { r with yanked:=y }else r)=DF r:=by split<;>rfl
  generalize (if p (Dm r)=true then({ r with yanked:=y }:Rl)else r)=r' at hk hc⊢;have ih:=me x (some r') (some r) (Ac some hk);unfold DH;rw[hc,ih];cases b with
  |none=>cases b' with
   |none=>rfl
   |some _=>cases h
  |some c=>cases b' with
   |none=>cases h
   |some c' =>
    have h:Dm c=Dm c':=Cs h;have h1:Fk c=Fk c':=h;have h2:Fk r'=Fk r:=hk;have h3:Dy c r'=Dy c' r:=by
     show bG (Dm c) (Dm r')=bG (Dm c') (Dm r);rw[h,hk]
    dsimp only;rw[h1,h2,h3]
theorem iR:AT (yk y p x)=AT x:=by
 unfold AT;rw[Jt,me x none none rfl]
theorem Yt:DU (yk y p x) roots=DU x roots:=by unfold DU;rw[iR]
theorem iQ(q:ByteArray):BJ (yk true p x) q=(BJ x q).filter fun c=>!p (Dm c.rel):=by
 unfold BJ yk;rw[List.filter_map,BB,List.filter_map,N4]
 induction x with
 |nil=>rfl
 |cons r x ih =>
  rw[BN,BN]
  by_cases hp:p (Dm r)=true
  ·simp[hp];simpa using ih
  ·have hp:p (Dm r)=false:=by simpa using hp
   simp only[Function.comp_apply,hp,CJ,FX,Bool.not_false,Ed];split
   ·simp[hp];simpa using ih
   ·simpa using ih
theorem S7{x:List Rl}{roots:List Rq}:∀{n:Nat} {dec:List Cd},∀d∈Ea x roots n dec,dec <+: d
 |0,_,_,h=>by cases h
 |n+1,dec,d,h=>by
  unfold Ea at h;split at h
  ·rw[Am.1 h];exact List.prefix_refl _
  ·obtain⟨l,hl,hd⟩:=DY.1 h;obtain⟨c,_,rfl⟩:=Aj.1 hl;split at hd
   ·exact(Jw _ _).trans (S7 d hd)
   ·cases hd
def Lt(p:Sl→Bool)(d:List Cd):Bool:=d.all fun c=>!p (Dm c.rel)
theorem Vr:∀(n:Nat) (dec:List Cd),Lt p dec=true→Ea (yk true p x) roots n dec=(Ea x roots n dec).filter (Lt p)
 |0,_,_=>rfl
 |n+1,dec,h=>by
  unfold Ea;cases e:(Eu roots dec).2 with
  |nil=>simp[h]
  |cons n0 l =>
   dsimp only;rw[iQ,List.filter_flatten,BB];generalize BJ x (Eu roots dec).1=cs
   induction cs with
   |nil=>rfl
   |cons c cs ih =>
    rw[BN,AH,Bm];cases hp:p (Dm c.rel)with
    |true =>
     rw[Ah (by simp),ih]
     have:(if Yw dec (n0::l) c=true then Ea x roots n (dec++[c])else []).filter (Lt p)=[]:=by
      rw[FJ];intro d hd hf;split at hd
      ·obtain⟨t,ht⟩:=S7 (n:=n) d hd;rw[←ht]at hf;unfold Lt at hf;simp[hp]at hf
      ·cases hd
     show _=(if Yw dec (n0::l) c=true then Ea x roots n (dec++[c])else []).filter (Lt p)++_;rw[this,EM]
    |false =>
     rw[Ao (by simp),AH,Bm,ih];show _=(if Yw dec (n0::l) c=true then Ea x roots n (dec++[c])else []).filter (Lt p)++_
     congr 1
     split
     ·exact Vr n _ (by unfold Lt at h⊢;rw[List.all_append,h];simp[hp])
     ·rfl
end
section
variable {x:List Rl}{roots:List Rq}{p:Sl→Bool}
theorem Li(hv:DU x roots=true)(hx:x.length≤16):Dx x roots=17↔Ea x roots (x.length+1) []=[]:=by
 rw[(Yo hv hx).2,←Na hv hx];exact BZ
theorem Wx(h:Dx x roots=0∨Dx x roots=17):DU x roots=true:=by
 cases hv:DU x roots with
 |true=>rfl
 |false =>
  have h2:GZ x roots=1:=by unfold GZ;rw[hv];rfl
  have h3:Dx x roots=1:=by unfold Dx;rw[h2];rfl
  rw[h3]at h;rcases h with h | h<;>cases h
theorem iT:Ea (yk true p x) roots ((yk true p x).length+1) []=(Ea x roots (x.length+1) []).filter (Lt p):=by
 rw[Jt];exact Vr _ _ rfl
theorem UZ{d:List Cd}{z:Sl}:z∈AJ d↔∃c∈d,Dm c.rel=z:=Aj
theorem Xt{d:List Cd}:Lt p d=true↔∀z∈AJ d,p z=false:=by
 unfold Lt;rw[Bk];constructor
 ·intro h z hz;obtain⟨c,hc,rfl⟩:=UZ.1 hz;simpa using h c hc
 ·intro h c hc
  have:=h (Dm c.rel) (UZ.2 ⟨c,hc,rfl⟩)
  simp[this]
theorem cG(hx:x.length≤16):∀z∈DS (yk true p x) roots,p z=false:=by
 intro z hz;have JM : (yk true p x).length≤16:=by rw[Jt];exact hx
 by_cases h:Dx (yk true p x) roots=0
 ·have hv:=Wx (.inl h);cases hl:Ea (yk true p x) roots ((yk true p x).length+1) []with
  |nil=>rw[(Li hv JM).2 hl]at h;cases h
  |cons d l =>
   rw[(PV hv JM hl).2,F1]at hz;have hm:d∈Ea (yk true p x) roots ((yk true p x).length+1) []:=by rw[hl];exact Ab ..
   rw[iT]at hm;exact Xt.1 (BC.1 hm).2 z hz
 ·unfold DS at hz;rw[Ah h]at hz;cases hz
theorem gz(hx:x.length≤16)(h:Dx x roots=17):Dx (yk true p x) roots=17:=by
 have hv:=Wx (.inr h);have JM : (yk true p x).length≤16:=by rw[Jt];exact hx
 rw[Li (Yt.trans hv) JM,iT,(Li hv hx).1 h]
 rfl
theorem Zj(hx:x.length≤16)(h:Dx x roots=0)(hp:∀z∈DS x roots,p z=false):Dx (yk true p x) roots=0∧DS (yk true p x) roots=DS x roots:=by
 have hv:=Wx (.inl h);have JM : (yk true p x).length≤16:=by rw[Jt];exact hx
 cases hl:Ea x roots (x.length+1) []with
 |nil=>rw[(Li hv hx).2 hl]at h;cases h
 |cons d l =>
  have e:=(PV hv hx hl).2;have hd:Lt p d=true:=Xt.2 fun z hz=>hp z (by rw[e,F1];exact hz);have OH : Ea (yk true p x) roots ((yk true p x).length+1) []=d::l.filter (Lt p):=by
   rw[iT,hl,BN,Ao hd]
  have:=PV (Yt.trans hv) JM OH
  exact⟨this.1,this.2.trans e.symm⟩
end
abbrev JI(s:Sl):Sl→Bool:=fun z=>decide (z=s)
def FV(x:List Rl)(s:Sl)(y:Bool):Int:=if AT x≠0 then 1 else match Es x s with
 |none=>6
 |some r=>if r.yanked=y then 8 else 0
def En(x:List Rl)(s:Sl)(y:Bool):List Rl:=if FV x s y=0 then yk y (JI s) x else []
def JO(x:List Rl)(l:List Sl):Int:=if AT x≠0∨FS l=false then 1 else 0
section
variable {x:List Rl}{s:Sl}{y:Bool}
theorem kB(hx:AT x=0){a b:Rl}(ha:a∈x)(hb:b∈x)(h:Dm a=Dm b):a=b:=by
 have h1:=Kv hx ha;have h2:=Kv hx hb;rw[show Fk a=Fk b from h]at h1;exact Cs (h1.symm.trans h2)
theorem Xk(hx:AT x=0)(h:Es x s=none):∀r∈x,Dm r≠s:=fun r hr e=>by
 have:=Kv hx hr
 rw[show Fk r=s from e,h]at this;cases this
theorem Rz(h:FV x s y=0):En x s y=yk y (JI s) x:=by unfold En;rw[Ao h]
theorem io(h:FV x s y≠0):En x s y=[]:=by unfold En;rw[Ah h]
end
/-! Law Keeps: which releases of the selection get yanked, one after the other. -/
section
variable {α:Type}(c:α→α→Int)
def Jq:Nat→List α→List α
 |0,l=>l
 |j+1,l=>match l[j+1]?,l[j]? with
  |some a,some b=>if c a b<0 then Jq j ((l.set (j+1) b).set j a)else l
  |_,_=>l
def Ey(i:Nat)(l:List α):List α:=(List.range i).foldl (fun m i=>Jq c i m) l
theorem Vf:∀(j:Nat) (l:List α),(Jq c j l).length=l.length
 |0,_=>rfl
 |j+1,l=>by
  unfold Jq;split
  ·split
   ·rw[Vf j];simp
   ·rfl
  ·rfl
theorem MB(i:Nat)(l:List α):Ey c (i+1) l=Jq c i (Ey c i l):=by
 unfold Ey;rw[List.range_succ,Fp];rfl
theorem fZ(l:List α):Ey c 1 l=l:=rfl
theorem L6:∀(i:Nat) (l:List α),(Ey c i l).length=l.length
 |0,_=>rfl
 |i+1,l=>by rw[MB,Vf,L6 i]
theorem Vg:∀(j:Nat) (l:List α),∀x∈Jq c j l,x∈l
 |0,_,_,h=>h
 |j+1,l,x,h=>by
  unfold Jq at h;split at h
  ·rename_i a b ha hb;split at h
   ·have h:=Vg j _ x h;rcases EU h with h | rfl
    ·rcases EU h with h | rfl
     ·exact h
     ·exact Ar hb
    ·exact Ar ha
   ·exact h
  ·exact h
theorem SP:∀(i:Nat) (l:List α),∀x∈Ey c i l,x∈l
 |0,_,_,h=>h
 |i+1,l,x,h=>by rw[MB]at h;exact SP i l x (Vg c i _ x h)
theorem ZE{l:List α}{j:Nat}{a b:α}(h0:0<j)(ha:l[j]?=some a)(hb:l[j-1]?=some b)(hc:c a b<0):Jq c j l=Jq c (j-1) ((l.set j b).set (j-1) a):=by
 obtain⟨k,rfl⟩:∃k,j=k+1:=⟨j-1,by omega⟩;have e:k+1-1=k:=rfl;simp only[e]at hb⊢;rw[Jq,ha,hb];exact Ao hc
theorem TF{l:List α}{j:Nat}{a b:α}(h0:0<j)(ha:l[j]?=some a)(hb:l[j-1]?=some b)(hc:¬c a b<0):Jq c j l=l:=by
 obtain⟨k,rfl⟩:∃k,j=k+1:=⟨j-1,by omega⟩;have e:k+1-1=k:=rfl;simp only[e]at hb;rw[Jq,ha,hb];exact Ah hc
theorem UU{l:List α}(h:l.Pairwise fun a b=>¬c b a<0):∀i,i≤l.length→Ey c i l=l
 |0,_=>rfl
 |i+1,hi=>by
  rw[MB,UU h i (by omega)]
  by_cases h0:i=0
  ·subst h0;rfl
  ·exact TF c (by omega) (Ge hi) (Ge (show i-1<l.length by omega)) ((AY.1 h) (i-1) i (by omega) hi (by omega))
end
theorem JN{x:List Rl}(h:AT x=0):Ey Dy x.length x=x:=by
 refine UU Dy ?_ _ (Al _);refine(Cp h).2.imp fun {a b} iV hc=>?_;have h1:bG (Dm a) (Dm b)<0:=Sc.2 iV;have h2:bG (Dm b) (Dm a)<0:=hc;have h1:=Sc.1 h1;have h2:=Sc.1 h2;exact H4 (U3 h1 h2) rfl
def fs(s:Sl)(y:Bool)(l:List Rl):Bool×Bool:=l.foldl (fun a r=>if Dm r=s then(true,decide (r.yanked=y))else a) (false,false)
theorem Rm{s:Sl}{y:Bool}{x:List Rl}{i:Nat}(h:i<x.length):fs s y (x.take (i+1))=if Dm x[i]=s then(true,decide (x[i].yanked=y))else fs s y (x.take i):=by
 unfold fs;rw[Bq,Ge h,Fp]
 rfl
theorem fg{s:Sl}{y:Bool}:∀{l:List Rl} {a:Bool×Bool},(∀r∈l,Dm r≠s)→l.foldl (fun a r=>if Dm r=s then(true,decide (r.yanked=y))else a) a=a
 | [],_,_=>rfl
 |r::l,a,h=>by
  rw[Ef,Ah (h r (Ab ..))];exact fg fun q hq=>h q (Ag _ hq)
theorem fh{s:Sl}{y:Bool}{r:Rl}(hr:Dm r=s):∀{l:List Rl} {a:Bool×Bool},r∈l→(∀q∈l,Dm q=s→q=r)→l.foldl (fun a r=>if Dm r=s then(true,decide (r.yanked=y))else a) a=(true,decide (r.yanked=y))
 | [],_,h,_=>by cases h
 |q::l,a,h,hu=>by
  rw[Ef]
  by_cases hm:r∈l
  ·exact fh hr hm fun p hp=>hu p (Ag _ hp)
  ·have e:r=q:=(Av.1 h).resolve_right hm;subst e;rw[Ao hr];exact fg fun p hp e=>hm (by rw[←hu p (Ag _ hp) e];exact hp)
theorem pV{x:List Rl}(hx:AT x=0)(s:Sl)(y:Bool):fs s y x=match Es x s with | none=>(false,false) | some r=>(true,decide (r.yanked=y)):=by
 cases e:Es x s with
 |none=>exact fg (Xk hx e)
 |some r =>
  obtain⟨_,h1,h2⟩:=Kw e;exact fh h2 h1 fun q hq hk=>kB hx hq h1 (hk.trans (show s=Dm r from h2.symm))
theorem PA{x:List Rl}(hx:AT x=0)(s:Sl)(y:Bool):FV x s y=if(fs s y x).1=false then 6 else if(fs s y x).2=true then 8 else 0:=by
 rw[pV hx];unfold FV;rw[Ah (fun h=>h hx)];cases e:Es x s with
 |none=>rfl
 |some r =>
  dsimp only
  by_cases h:r.yanked=y
  ·simp[h]
  ·simp[h]
def ER(x:List Rl)(z:Sl):Bool:=match Es x z with | some r=>r.yanked | none=>false
def TQ(x:List Rl)(l:List Sl):List Sl:=if JO x l=0 then l.filter (ER x)else []
theorem co(x:List Rl)(l:List Sl):JO x l=0∨JO x l=1:=by unfold JO;split<;>simp
theorem XN{x:List Rl}{l:List Sl}(h:JO x l=0):AT x=0∧FS l=true:=by
 unfold JO at h;split at h
 ·cases h
 ·rename_i q;exact⟨AW fun e=>q (.inl e),by cases e:FS l with
   |true=>rfl
   |false=>exact absurd (.inr e) q⟩
theorem oL{y:Bool}{p:Sl→Bool}{x:List Rl}{P:Rl→Prop}(h:∀r∈x,P r∧P { r with yanked:=y }):∀r∈yk y p x,P r:=fun r hr=>by
 obtain⟨q,hq,rfl⟩:=Aj.1 hr;split
 ·exact(h q hq).2
 ·exact(h q hq).1
theorem li{y:Bool}{p:Sl→Bool}{x:List Rl}(h:∀r∈x,JX r):∀r∈yk y p x,JX r:=oL fun r hr=>⟨h r hr,h r hr⟩
theorem bh{y:Bool}{p:Sl→Bool}{x:List Rl}{i:Nat}(h:i<x.length):(yk y p (x.take i)++x.drop i).set i (if p (Dm x[i])=true then { x[i]with yanked:=y }else x[i])=yk y p (x.take (i+1))++x.drop (i+1):=by
 rw[Bj h,List.set_append_right _ _ (by rw[Jt,AD];omega),Jt,AD,show i-min i x.length=0 by omega,List.set_cons_zero];unfold yk;rw[Bq,Ge h,Ax,BI]
 rfl
theorem md{y:Bool}{p:Sl→Bool}{x:List Rl}{i:Nat}(h:i<x.length):(yk y p (x.take i)++x.drop i)[i]?=some x[i]:=by
 rw[AZ (by rw[Jt,AD];omega),Jt,AD,show i-min i x.length=0 by omega,Bj h]
 rfl
end Go.Eng
namespace Go.Eng
open Go.Proofs
theorem fY{α:Type}(c:α→α→Int){l:List α}{i:Nat}(h1:1≤i)(h2:i≤l.length∨i=1)(h3:l.length≤i):Ey c i l=Ey c l.length l:=by
 by_cases e:i=l.length
 ·rw[e]
 ·have e1:i=1:=by omega
  have e2:l.length=0:=by omega
  rw[e1,e2];rfl
theorem w7(l:List Rl)(hl:CO l):A3 Tryz.prog 192 [.msl 1000 l.length,vi 0,vi (l.length:Nat),.v (.func (.func 60) #[] #[])] (Ai [(1000,.arr 9 (l.map Ak))] Aa) fun r h'=>r=.tup []∧h'=Ai [(1000,.arr 9 ((Ey Dy l.length l).map Ak))] Aa:=by
 have hl:l.length≤1073741824:=hl;refine BX (LC ⟨[],[],[],[],[],[],[],[],[],[],[5,6]⟩) [(1000,1000)] rfl Co hm rfl Tryz.func192 (by kernel_rfl) rfl (Nz rfl) (by kernel_rfl) rfl ?_;refine Yi (Ii 0 (by omega)) ?_;refine Xi {q:Nat // 1≤q∧(q≤l.length∨q=1)} (Xi (fun q=>⟨[(0,.msl 1000 l.length),(1,vi 0),(2,vi (l.length:Nat)),(3,.v (.func (.func 60) #[] #[])),(8,vi q.1)],[(1000,.arr 9 ((Ey Dy q.1 l).map Ak))],Aa⟩) (Xi (fun q=>l.length+1-q.1) (Yi (Xi ⟨1,Al _,.inr rfl⟩ ?_) ?_)))
 ·exact⟨Z5,⟨⟨(show HO.arr 9 (l.map Ak)=.arr 9 ((Ey Dy 1 l).map Ak) by rw[fZ]),rfl⟩,Tv⟩,Fh,Aw (by kernel_rfl)⟩
 intro⟨i,i1,i2⟩;have i1:1≤i:=i1;have i2:i≤l.length∨i=1:=i2;refine Yi (fun h1=>?_) (fun h1=>?_)
 ·have h1:(i:Int)<((l.length:Nat):Int):=h1;have ni:i<l.length:=by omega
  refine Xi {q:Nat×List Rl // q.1≤i∧q.2.length=l.length∧Jq Dy q.1 q.2=Ey Dy (i+1) l} (Xi (fun q=>⟨[(0,.msl 1000 l.length),(1,vi 0),(2,vi (l.length:Nat)),(3,.v (.func (.func 60) #[] #[])),(8,vi i),(9,vi q.1.1)],[(1000,.arr 9 (q.1.2.map Ak))],Aa⟩) (Xi (fun q=>q.1.1) (Yi (Xi ⟨(i,Ey Dy i l),Al _,L6 _ _ _,(MB Dy i l).symm⟩ ?_) ?_)))
  ·exact⟨Z6,Z1,Fh,Aw (by kernel_rfl)⟩
  intro⟨⟨j,N⟩,j1,j2,j3⟩;have j1:j≤i:=j1;have j2:N.length=l.length:=j2;have j3:Jq Dy j N=Ey Dy (i+1) l:=j3;refine Yi (fun h2=>?_) (fun h2=>?_)
  ·have h2:(0:Int)<(j:Int):=h2;have nj:j<N.length:=by omega
   have j0:0<j:=by omega
   have ej:((j-1:Int).toNat)=j-1:=by omega
   refine CD (show ∃a,N[j]?=some a from⟨_,Ge nj⟩) (fun a ga=>?_);refine CD (show ∃b,N[j-1]?=some b from⟨_,Ge (by omega)⟩) (fun b gb=>?_);have gc:N[(j-1:Int).toNat]?=some b:=by rw[ej];exact gb
   refine Yi (by show(0:Int)≤j∧(j:Int)<(l.length:Nat);omega) ?_;refine Yi (show l.length=(N.map Ak).length by simp[j2]) (Xi (Ak a) (Yi (Do ga) ?_));refine Yi (Nz rfl) ?_;refine Yi (by show BQ ((j:Int)-(1:Int));unfold BQ;omega) ?_;refine Yi (by show(0:Int)≤j-1∧(j-1:Int)<(l.length:Nat);omega) ?_;refine Yi (show l.length=(N.map Ak).length by simp[j2]) (Xi (Ak b) (Yi (Do gc) ?_));refine Yi (Nz rfl) ?_;refine Xi _ (Yi (pz a b) ?_);refine Yi (fun h3=>?_) (fun h3=>?_)
   ·have h3:((Dy a b):Int)<(0:Int):=h3;refine Yi (by kernel_rfl) ?_;refine Xi ⟨[(0,.msl 1000 l.length),(1,vi 0),(2,vi (l.length:Nat)),(3,.v (.func (.func 60) #[] #[])),(8,vi i),(9,vi j)],[(1000,.arr 9 (N.map Ak))],Aa⟩ (Yi ⟨Z6,Z1,Fh,Aw (by kernel_rfl)⟩ ?_)
    refine Yi (by show BQ ((j:Int)-(1:Int));unfold BQ;omega) ?_;refine Yi (by show BQ ((j:Int)-(1:Int));unfold BQ;omega) ?_;refine Yi (by show(0:Int)≤j-1∧(j-1:Int)<(l.length:Nat);omega) ?_;refine Yi (show l.length=(N.map Ak).length by simp[j2]) (Xi (Ak b) (Yi (Do gc) ?_));refine Yi (Nz rfl) ?_;refine Yi (by show(0:Int)≤j∧(j:Int)<(l.length:Nat);omega) ?_;refine Yi (show l.length=(N.map Ak).length by simp[j2]) (Xi (Ak a) (Yi (Do ga) ?_));refine Yi (Nz rfl) ?_;refine Yi (by show(0:Int)≤j∧(j:Int)<(l.length:Nat);omega) ?_;refine Yi (show l.length=(N.map Ak).length by simp[j2]) (Xi (Ak a) (Yi (Do ga) (Yi (Nz rfl) ?_)));refine Yi (by show(0:Int)≤j-1∧(j-1:Int)<(l.length:Nat);omega) ?_;refine Yi (show l.length=(((N.map Ak).set j (Ak b)):List (List AV)).length by simp[j2]) (Xi (Ak b) (Yi ((List.getElem?_set_ne (by omega)).trans (Do gc)) (Yi (Nz rfl) ?_)));refine Yi (by kernel_rfl) ?_;refine Xi ⟨[(0,.msl 1000 l.length),(1,vi 0),(2,vi (l.length:Nat)),(3,.v (.func (.func 60) #[] #[])),(8,vi i),(9,vi j)],[(1000,.arr 9 (((N.map Ak).set j (Ak b)).set (j-1:Int).toNat (Ak a)))],Aa⟩ (Yi ⟨Z6,Z1,Fh,Aw (by kernel_rfl)⟩ ?_)
    refine Yi (by show BQ ((j:Int)-(1:Int));unfold BQ;omega) ?_;refine Xi ⟨(j-1,(N.set j b).set (j-1) a),by omega,by rw[CH,CH];exact j2,by rw[←j3,ZE Dy j0 ga gb h3]⟩ ?_;exact⟨by show(j-1:Nat)<j;omega,⟨Zr,Zr,Zr,Zr,Zr,⟨(Ac vi (show(j:Int)-1=((j-1:Nat):Int) by omega)),rfl⟩,Tv⟩,⟨⟨(show HO.arr 9 (((N.map Ak).set j (Ak b)).set ((j-1:Int).toNat) (Ak a))=.arr 9 (((N.set j b).set (j-1) a).map Ak) by rw[ej,Hd,Hd]),rfl⟩,Tv⟩,Fh,Aw (by kernel_rfl)⟩
   have h3:¬(((Dy a b):Int)<(0:Int)):=h3;refine Yi (by kernel_rfl) ?_;refine Yi (Ii i (by omega)) ?_;have eN:N=Ey Dy (i+1) l:=by rw[←j3];exact(TF Dy j0 ga gb h3).symm
   refine Xi ⟨i+1,by omega,.inl ni⟩ ?_;exact⟨by show l.length+1-(i+1)<l.length+1-i;omega,Z5,⟨⟨(show HO.arr 9 (N.map Ak)=.arr 9 ((Ey Dy (i+1) l).map Ak) by rw[eN]),rfl⟩,Tv⟩,Fh,Aw (by kernel_rfl)⟩
  have h2:¬((0:Int)<(j:Int)):=h2;refine Yi (by kernel_rfl) ?_;refine Yi (Ii i (by omega)) ?_;have eN:N=Ey Dy (i+1) l:=by rw[←j3];exact(show Jq Dy j N=N by rw[show j=0 by omega];rfl).symm
  refine Xi ⟨i+1,by omega,.inl ni⟩ ?_;exact⟨by show l.length+1-(i+1)<l.length+1-i;omega,Z5,⟨⟨(show HO.arr 9 (N.map Ak)=.arr 9 ((Ey Dy (i+1) l).map Ak) by rw[eN]),rfl⟩,Tv⟩,Fh,Aw (by kernel_rfl)⟩
 have h1:¬((i:Int)<((l.length:Nat):Int)):=h1;exact Xi _ (Yi (.refl _) ⟨rfl,show Ai [(1000,HO.arr 9 ((Ey Dy i l).map Ak))] Aa=Ai [(1000,.arr 9 ((Ey Dy l.length l).map Ak))] Aa from Ac (fun z=>Ai [(1000,HO.arr 9 (z.map Ak))] Aa) (fY Dy i1 i2 (by omega))⟩)
end Go.Eng
