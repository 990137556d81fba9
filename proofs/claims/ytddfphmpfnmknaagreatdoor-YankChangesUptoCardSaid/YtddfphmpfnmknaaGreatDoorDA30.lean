/- Lemmas for the claims of this seat, without a condition: part 30 (S19, S20, O18, O19, O21, V0, V1, V2, V5, V6, V7). -/
import Derived.Test.YtddfphmpfnmknaaGreatDoorDA29
set_option maxHeartbeats 4000000
namespace Go.Eng
open Go.Proofs
abbrev lK:RE:=⟨[2],[],[],[],[],[],[],[(50,(9,3,95,3))],[(44,0)],[(100016,1009)],[3,4,5,6,7,8,9,10,11,14,15,16]⟩
abbrev an0:An:=⟨false,[],[],[]⟩
def Mz(x:List Rl)(roots:List Rq):An:=if GX x roots=true∧(FW x roots).ss.full=false then qq x roots else an0
def MA(x:List Rl)(roots:List Rq):Int:=if GX x roots=true then if(FW x roots).ss.full=true then 7 else 0 else 1
abbrev ji(x:List Rl)(roots:List Rq):AV:=.tup [.agg (SY (Mz x roots)),vi (MA x roots)]
theorem G1.an0{v:AV}:G1 (.tup [.agg [vb false,.v (.slice none 0 0),.v (.slice none 0 0),.v (.slice none 0 0)],v]) (.tup [.agg (SY an0),v]) :=
 G1.tup ⟨G1.agg ⟨.refl _,.nil,.nil,.nil,trivial⟩,.refl _,trivial⟩
theorem Ui{x:List Rl}{roots:List Rq}(hx:∀r∈x,JM r)(hr:∀q∈roots,NE q)(h0:AQ x=0)(h1:Bp roots=0){L:List ByteArray}(hl:L.Perm (AS (yR x) [])){o:Kf}(ho:FW x roots=o) :
  A6 Tryz.prog 65 [.ref 1000 0] (Ak (Jh roots (mC x) (L.map (kA x)) uF [] []) Aa) (Y9 roots (mC x) (L.map (kA x)) o):=by
 rw[←ho];exact yF (nT hx hr h0 h1 hl) (x.length+1) (.nil x) (IZ.nil roots) ⟨⟨rfl,AD _⟩,Fp⟩ rfl (Nat.lt_succ_of_le (Bv _ _)) rfl
theorem jx{x:List Rl}{roots:List Rq}(h:GX x roots=true):AQ x=0∧Bp roots=0:=by
 unfold GX at h;rw[Ah,Au,Au]at h;exact h
theorem lX(x:List Rl)(ifs:List (List AV))(roots:List Rq)(hx:∀r∈x,JM r)(hr:∀q∈roots,NE q)(hv:GX x roots=false):PC 43 [EV x ifs,sl AF roots] (.tup [.agg (SY an0),vi 1]):=by
 have Tr:=uB x ifs roots hx hr;rw[hv]at Tr;refine Ps lK Tryz.func43 rfl (Nz rfl) ?_;refine Yi ?_ ?_
 ·exact Nz rfl
 refine Xi .pure (Xi _ (Yi Tr ?_));refine Yi ?_ ?_
 ·exact Nz rfl
 refine Yi ?_ ?_
 ·exact Nz rfl
 exact G1.an0
theorem jd(x:List Rl)(ifs:List (List AV))(roots:List Rq)(hx:∀r∈x,JM r)(hr:∀q∈roots,NE q)(hv:GX x roots=true)(h0:AQ x=0)(h1:Bp roots=0)(k:Nat)(infs:List Nf)(drv:List (List Tm))(dec:List Cd)(st:List (List Sk))(ho:FW x roots=⟨k,false,⟨infs,drv,true⟩,dec,st⟩):PC 43 [EV x ifs,sl AF roots] (.tup [.agg (SY an0),vi 7]):=by
 have Tr:=uB x ifs roots hx hr;rw[hv]at Tr;refine Ps lK Tryz.func43 rfl (Nz rfl) ?_;refine Yi ?_ ?_
 ·exact Nz rfl
 refine Xi .pure (Xi _ (Yi Tr ?_));refine Xi ⟨[(1,sl AF roots),(2,.ref 2 0),(4,.ref 4 0)],[(2,.ro (Ic x ifs)),(4,.cells [vb false,.v (.slice none 0 0),.v (.slice none 0 0),.v (.slice none 0 0)])],Aa⟩ (Yi ⟨Z3,Z2,Fh,Tv⟩ ?_)
 refine Yi ?_ ?_
 ·exact Nz rfl
 refine Xi (.gen [] 5) (Yi rfl ((yC x ifs roots hx h0).imp ?_));intro v g q;refine Br q (fun L q=>?_);have q1:=q.2.1;have q2:=q.2.2;have qp:=q.1;subst q1;subst q2;refine Xi ⟨[(4,.ref 4 0),(6,.ref 11900 0)],[(4,.cells [vb false,.v (.slice none 0 0),.v (.slice none 0 0),.v (.slice none 0 0)]),(11900,.cells [sl AF roots,.cmap CZ (mC x),.cmap CZ (L.map (kA x)),.slice (.id 11901 6) [],.slice (.id 11902 1) [],.mref 11903,vb false,.slice .none [],.slice .none [],.msl 11904 0]),(11901,.tok 6 0),(11902,.tok 1 0),(11903,.map D0 []),(11904,.arr 1 [])],Aa⟩ (Yi ⟨Z2,Z6,Fh,Tv⟩ ?_)
 refine Xi (.gen [(11900,1000),(11901,1001),(11902,1002),(11903,1003),(11904,1004)] 1) (Yi rfl ((Ui hx hr h0 h1 qp ho).imp ?_));intro v g q;have q1:=q.1;have q2:=q.2;subst q1;subst q2;refine Xi ⟨[(4,.ref 4 0),(6,.ref 11900 0),(7,vi (k:Nat)),(8,vb false)],[(4,.cells [vb false,.v (.slice none 0 0),.v (.slice none 0 0),.v (.slice none 0 0)]),(11900,.cells [sl AF roots,.cmap CZ (mC x),.cmap CZ (L.map (kA x)),.slice (.id 11901 6) (infs.map BY),.slice (.id 11902 1) (drv.map Cb),.mref 11903,vb true,sl AE dec,sl Ad (AO dec),.msl 12200 st.length]),(11901,.tok 6 infs.length),(11902,.tok 1 drv.length),(11903,.map D0 (D3 0 infs)),(12200,.arr 1 (st.map AX))],Aa⟩ (Yi ⟨Z4,Z6,Fh,Tv⟩ ?_)
 refine Yi (fun _=>?_) (fun h=>by cases h);refine Xi ⟨[(4,.ref 4 0)],[(4,.cells [vb false,.v (.slice none 0 0),.v (.slice none 0 0),.v (.slice none 0 0)])],Aa⟩ (Yi ⟨Z1,Z1,Fh,Tv⟩ ?_)
 refine Yi ?_ ?_
 ·exact Nz rfl
 refine Yi ?_ ?_
 ·exact Nz rfl
 exact G1.an0
theorem po(x:List Rl)(ifs:List (List AV))(roots:List Rq)(hx:∀r∈x,JM r)(hr:∀q∈roots,NE q)(hv:GX x roots=true)(h0:AQ x=0)(h1:Bp roots=0)(k:Nat)(infs:List Nf)(drv:List (List Tm))(dec:List Cd)(st:List (List Sk))(ho:FW x roots=⟨k,false,⟨infs,drv,false⟩,dec,st⟩)(hk:k<infs.length)(hl:infs.length≤65536):PC 43 [EV x ifs,sl AF roots] (.tup [.agg (SY ⟨false,[],infs.take (k+1),[]⟩),vi 0]):=by
 have Tr:=uB x ifs roots hx hr;rw[hv]at Tr;refine Ps lK Tryz.func43 rfl (Nz rfl) ?_;refine Yi ?_ ?_
 ·exact Nz rfl
 refine Xi .pure (Xi _ (Yi Tr ?_));refine Xi ⟨[(1,sl AF roots),(2,.ref 2 0),(4,.ref 4 0)],[(2,.ro (Ic x ifs)),(4,.cells [vb false,.v (.slice none 0 0),.v (.slice none 0 0),.v (.slice none 0 0)])],Aa⟩ (Yi ⟨Z3,Z2,Fh,Tv⟩ ?_)
 refine Yi ?_ ?_
 ·exact Nz rfl
 refine Xi (.gen [] 5) (Yi rfl ((yC x ifs roots hx h0).imp ?_));intro v g q;refine Br q (fun L q=>?_);have q1:=q.2.1;have q2:=q.2.2;have qp:=q.1;subst q1;subst q2;refine Xi ⟨[(4,.ref 4 0),(6,.ref 11900 0)],[(4,.cells [vb false,.v (.slice none 0 0),.v (.slice none 0 0),.v (.slice none 0 0)]),(11900,.cells [sl AF roots,.cmap CZ (mC x),.cmap CZ (L.map (kA x)),.slice (.id 11901 6) [],.slice (.id 11902 1) [],.mref 11903,vb false,.slice .none [],.slice .none [],.msl 11904 0]),(11901,.tok 6 0),(11902,.tok 1 0),(11903,.map D0 []),(11904,.arr 1 [])],Aa⟩ (Yi ⟨Z2,Z6,Fh,Tv⟩ ?_)
 refine Xi (.gen [(11900,1000),(11901,1001),(11902,1002),(11903,1003),(11904,1004)] 1) (Yi rfl ((Ui hx hr h0 h1 qp ho).imp ?_));intro v g q;have q1:=q.1;have q2:=q.2;subst q1;subst q2;refine Xi ⟨[(4,.ref 4 0),(6,.ref 11900 0),(7,vi (k:Nat)),(8,vb false)],[(4,.cells [vb false,.v (.slice none 0 0),.v (.slice none 0 0),.v (.slice none 0 0)]),(11900,.cells [sl AF roots,.cmap CZ (mC x),.cmap CZ (L.map (kA x)),.slice (.id 11901 6) (infs.map BY),.slice (.id 11902 1) (drv.map Cb),.mref 11903,vb false,sl AE dec,sl Ad (AO dec),.msl 12200 st.length]),(11901,.tok 6 infs.length),(11902,.tok 1 drv.length),(11903,.map D0 (D3 0 infs)),(12200,.arr 1 (st.map AX))],Aa⟩ (Yi ⟨Z4,Z6,Fh,Tv⟩ ?_)
 refine Yi (fun h=>by cases h) (fun _=>?_);refine Xi ⟨[(4,.ref 4 0),(6,.ref 11900 0),(7,vi (k:Nat)),(8,vb false)],[(4,.cells [vb false,.v (.slice none 0 0),.v (.slice none 0 0),.v (.slice none 0 0)]),(11900,.cells [sl AF roots,.cmap CZ (mC x),.cmap CZ (L.map (kA x)),.slice (.id 11901 6) (infs.map BY),.slice (.id 11902 1) (drv.map Cb),.mref 11903,vb false,sl AE dec,sl Ad (AO dec),.msl 12200 st.length]),(11901,.tok 6 infs.length),(11902,.tok 1 drv.length),(11903,.map D0 (D3 0 infs)),(12200,.arr 1 (st.map AX))],Aa⟩ (Yi ⟨Z4,Z6,Fh,Tv⟩ ?_)
 refine Xi ⟨[(4,.ref 4 0),(6,.ref 11900 0),(7,vi (k:Nat))],[(4,.cells [vb false,.v (.slice none 0 0),.v (.slice none 0 0),.v (.slice none 0 0)]),(11900,.cells [sl AF roots,.cmap CZ (mC x),.cmap CZ (L.map (kA x)),.slice (.id 11901 6) (infs.map BY),.slice (.id 11902 1) (drv.map Cb),.mref 11903,vb false,sl AE dec,sl Ad (AO dec),.msl 12200 st.length]),(11901,.tok 6 infs.length),(11902,.tok 1 drv.length),(11903,.map D0 (D3 0 infs)),(12200,.arr 1 (st.map AX))],Aa⟩ (Yi ⟨Z3,Z6,Fh,Tv⟩ ?_)
 refine Yi (Ii k (by omega)) ?_;have el:(infs.map BY).length=infs.length:=Lm ..;refine Yi ⟨BJ _,by show(0:Int)≤(k:Int)+1;omega,by show(k:Int)+1≤((infs.map BY).length:Int);rw[el];omega⟩ ?_;refine Yi (fun cs hcs=>by obtain⟨i,_,rfl⟩:=Am.1 hcs;rfl) ?_;refine Yi ?_ ?_
 ·exact Nz rfl
 refine Yi ?_ ?_
 ·exact Nz rfl
 have et:((infs.map BY).take ((k:Int)+1).toNat).drop (0:Int).toNat=(infs.take (k+1)).map BY:=by
  rw[show((k:Int)+1).toNat=k+1 by omega];simp
 exact G1.tup ⟨G1.agg ⟨.refl _,.nil,.of_eq (show AV.slice .none (((infs.map BY).take ((k:Int)+1).toNat).drop (0:Int).toNat)=_ by rw[et]),.nil,trivial⟩,.refl _,trivial⟩
theorem Vr(y:Sl):∀l:List Sl,(UK y l).Perm (y::l)
 | []=>.refl _
 |z::l=>by
  unfold UK;split
  ·exact .refl _
  ·exact((Vr y l).cons z).trans (List.Perm.swap y z l)
theorem Uj:∀l:List Sl,(Gf l).Perm l
 | []=>.refl _
 |y::l=>(Vr y _).trans ((Uj l).cons y)
theorem XW{b:Nat}:∀{st:List (List Sk)},(∀s∈st,s.length≤b)→st.flatten.length≤b*st.length
 | [],_=>by simp
 |s::st,h=>by
  rw[BC,Ae,Az,Nat.mul_succ]
  have:=h s (Ab ..)
  have:=XW (st:=st) fun t ht=>h t (Ai _ ht)
  omega
theorem jh{st:List (List Sk)}(h:st.length≤256)(hs:∀s∈st,s.length≤256)(i:Nat):((st.take i).flatten).length≤65536:=by
 have h1:=XW (b:=256) (st:=st.take i) fun s Xl=>hs s (EB Xl)
 have:(st.take i).length≤256:=by rw[AC];omega
 omega
theorem lY(x:List Rl)(ifs:List (List AV))(roots:List Rq)(hx:∀r∈x,JM r)(hr:∀q∈roots,NE q)(hv:GX x roots=true)(h0:AQ x=0)(h1:Bp roots=0)(k:Nat)(infs:List Nf)(drv:List (List Tm))(dec:List Cd)(st:List (List Sk))(ho:FW x roots=⟨k,true,⟨infs,drv,false⟩,dec,st⟩)(hd:dec.length≤256)(hn:((AO dec).map (·.path)).Nodup)(Jy:st.length≤256)(zX:∀s∈st,s.length≤256):PC 43 [EV x ifs,sl AF roots] (.tup [.agg (SY ⟨true,Gf (AO dec),infs,st.flatten⟩),vi 0]):=by
 have Tr:=uB x ifs roots hx hr;rw[hv]at Tr;refine Ps lK Tryz.func43 rfl (Nz rfl) ?_;refine Yi ?_ ?_
 ·exact Nz rfl
 refine Xi .pure (Xi _ (Yi Tr ?_));refine Xi ⟨[(1,sl AF roots),(2,.ref 2 0),(4,.ref 4 0)],[(2,.ro (Ic x ifs)),(4,.cells [vb false,.v (.slice none 0 0),.v (.slice none 0 0),.v (.slice none 0 0)])],Aa⟩ (Yi ⟨Z3,Z2,Fh,Tv⟩ ?_)
 refine Yi ?_ ?_
 ·exact Nz rfl
 refine Xi (.gen [] 5) (Yi rfl ((yC x ifs roots hx h0).imp ?_));intro v g q;refine Br q (fun L q=>?_);have q1:=q.2.1;have q2:=q.2.2;have qp:=q.1;subst q1;subst q2;refine Xi ⟨[(4,.ref 4 0),(6,.ref 11900 0)],[(4,.cells [vb false,.v (.slice none 0 0),.v (.slice none 0 0),.v (.slice none 0 0)]),(11900,.cells [sl AF roots,.cmap CZ (mC x),.cmap CZ (L.map (kA x)),.slice (.id 11901 6) [],.slice (.id 11902 1) [],.mref 11903,vb false,.slice .none [],.slice .none [],.msl 11904 0]),(11901,.tok 6 0),(11902,.tok 1 0),(11903,.map D0 []),(11904,.arr 1 [])],Aa⟩ (Yi ⟨Z2,Z6,Fh,Tv⟩ ?_)
 refine Xi (.gen [(11900,1000),(11901,1001),(11902,1002),(11903,1003),(11904,1004)] 1) (Yi rfl ((Ui hx hr h0 h1 qp ho).imp ?_));intro v g q;have q1:=q.1;have q2:=q.2;subst q1;subst q2;refine Xi ⟨[(4,.ref 4 0),(6,.ref 11900 0),(7,vi (k:Nat)),(8,vb true)],[(4,.cells [vb false,.v (.slice none 0 0),.v (.slice none 0 0),.v (.slice none 0 0)]),(11900,.cells [sl AF roots,.cmap CZ (mC x),.cmap CZ (L.map (kA x)),.slice (.id 11901 6) (infs.map BY),.slice (.id 11902 1) (drv.map Cb),.mref 11903,vb false,sl AE dec,sl Ad (AO dec),.msl 12200 st.length]),(11901,.tok 6 infs.length),(11902,.tok 1 drv.length),(11903,.map D0 (D3 0 infs)),(12200,.arr 1 (st.map AX))],Aa⟩ (Yi ⟨Z4,Z6,Fh,Tv⟩ ?_)
 refine Yi (fun h=>by cases h) (fun _=>?_);refine Xi ⟨[(4,.ref 4 0),(6,.ref 11900 0),(8,vb true)],[(4,.cells [vb false,.v (.slice none 0 0),.v (.slice none 0 0),.v (.slice none 0 0)]),(11900,.cells [sl AF roots,.cmap CZ (mC x),.cmap CZ (L.map (kA x)),.slice (.id 11901 6) (infs.map BY),.slice (.id 11902 1) (drv.map Cb),.mref 11903,vb false,sl AE dec,sl Ad (AO dec),.msl 12200 st.length]),(11901,.tok 6 infs.length),(11902,.tok 1 drv.length),(11903,.map D0 (D3 0 infs)),(12200,.arr 1 (st.map AX))],Aa⟩ (Yi ⟨Z3,Z6,Fh,Tv⟩ ?_)
 refine Xi ⟨[(4,.ref 4 0),(6,.ref 11900 0)],[(4,.cells [vb false,.v (.slice none 0 0),.v (.slice none 0 0),.v (.slice none 0 0)]),(11900,.cells [sl AF roots,.cmap CZ (mC x),.cmap CZ (L.map (kA x)),.slice (.id 11901 6) (infs.map BY),.slice (.id 11902 1) (drv.map Cb),.mref 11903,vb false,sl AE dec,sl Ad (AO dec),.msl 12200 st.length]),(11901,.tok 6 infs.length),(11902,.tok 1 drv.length),(11903,.map D0 (D3 0 infs)),(12200,.arr 1 (st.map AX))],Aa⟩ (Yi ⟨Z2,Z6,Fh,Tv⟩ ?_)
 have p7:(AO dec).length≤256:=by rw[Lm];exact hd
 have aS:Cp (AO dec):=Bx p7 (by decide);refine Xi (AO dec).length (Xi 4 (Xi ((AO dec).map Ad) (Yi rfl (Yi (yH (AO dec) aS) ?_))));refine Yi ?_ ?_
 ·exact Nz rfl
 refine Yi (by kernel_rfl) ?_;refine Xi ⟨[(4,.ref 4 0),(6,.ref 11900 0),(9,.ref 9 0)],[(4,.cells [vb false,.v (.slice none 0 0),.v (.slice none 0 0),.v (.slice none 0 0)]),(9,.cells [vb true,.msl 14400 (AO dec).length,.slice (.id 11901 6) (infs.map BY),.v (.slice none 0 0)]),(11900,.cells [sl AF roots,.cmap CZ (mC x),.cmap CZ (L.map (kA x)),.slice (.id 11901 6) (infs.map BY),.slice (.id 11902 1) (drv.map Cb),.mref 11903,vb false,sl AE dec,sl Ad (AO dec),.msl 12200 st.length]),(11901,.tok 6 infs.length),(11902,.tok 1 drv.length),(11903,.map D0 (D3 0 infs)),(12200,.arr 1 (st.map AX)),(14400,.arr 4 ((AO dec).map Ad))],Aa⟩ (Yi ⟨Z3,Z8,Fh,Tv⟩ ?_)
 refine Xi (.gen [(14400,1000)] 0) (Yi rfl ((s47 68 Tryz.closure68 (enters_of Tryz.func68 (by kernel_rfl) rfl) (AO dec) aS hn).imp ?_));intro v g q;have q1:=q.1;have q2:=q.2;subst q1;subst q2;refine Xi ⟨[(4,.ref 4 0),(6,.ref 11900 0),(9,.ref 9 0)],[(4,.cells [vb false,.v (.slice none 0 0),.v (.slice none 0 0),.v (.slice none 0 0)]),(9,.cells [vb true,.msl 14400 (AO dec).length,.slice (.id 11901 6) (infs.map BY),.slice (.id 95 3) []]),(95,.tok 3 0),(11900,.cells [sl AF roots,.cmap CZ (mC x),.cmap CZ (L.map (kA x)),.slice (.id 11901 6) (infs.map BY),.slice (.id 11902 1) (drv.map Cb),.mref 11903,vb false,sl AE dec,sl Ad (AO dec),.msl 12200 st.length]),(11901,.tok 6 infs.length),(11902,.tok 1 drv.length),(11903,.map D0 (D3 0 infs)),(12200,.arr 1 (st.map AX)),(14400,.arr 4 ((Gf (AO dec)).map Ad))],Aa⟩ (Yi ⟨Z3,Z9,Fh,Tv⟩ ?_)
 refine Xi {i:Nat // i≤st.length} (Xi (fun i=>⟨[(4,.ref 4 0),(6,.ref 11900 0),(9,.ref 9 0),(56,.msl 12200 st.length),(57,vi (st.length:Nat)),(58,vi i.1)],[(4,.cells [vb false,.v (.slice none 0 0),.v (.slice none 0 0),.v (.slice none 0 0)]),(9,.cells [vb true,.msl 14400 (AO dec).length,.slice (.id 11901 6) (infs.map BY),.slice (.id 95 3) ((st.take i.1).flatten.map BS)]),(95,.tok 3 ((st.take i.1).flatten.map BS).length),(11900,.cells [sl AF roots,.cmap CZ (mC x),.cmap CZ (L.map (kA x)),.slice (.id 11901 6) (infs.map BY),.slice (.id 11902 1) (drv.map Cb),.mref 11903,vb false,sl AE dec,sl Ad (AO dec),.msl 12200 st.length]),(11901,.tok 6 infs.length),(11902,.tok 1 drv.length),(11903,.map D0 (D3 0 infs)),(12200,.arr 1 (st.map AX)),(14400,.arr 4 ((Gf (AO dec)).map Ad))],Aa⟩) (Xi (fun i=>st.length-i.1) (Yi (Xi ⟨0,AD _⟩ ?_) ?_)))
 ·exact⟨Z6,Z9,Fh,Tv⟩
 intro⟨i,i1⟩;have i1:i≤st.length:=i1;refine Yi ?_ ?_
 ·intro h;have h:(i:Int)<(st.length:Nat):=h;have h:i<st.length:=by omega
  have hg:st[i]?=some st[i]:=Ge h;have KJ:st.take (i+1)=st.take i++[st[i]]:=by rw[Bk,hg];rfl
  refine Yi (Yi (Nn i) (by show(i:Int)<(st.length:Nat);omega)) ?_;refine Yi (by rw[Lm]) (Xi (AX st[i]) (Yi (by show(st.map AX)[((i:Nat):Int).toNat]?=_;rw[Bj,AI,hg];rfl) ?_));refine Xi ⟨[(4,.ref 4 0),(6,.ref 11900 0),(9,.ref 9 0),(11,sl BS st[i]),(56,.msl 12200 st.length),(57,vi (st.length:Nat)),(58,vi i)],[(4,.cells [vb false,.v (.slice none 0 0),.v (.slice none 0 0),.v (.slice none 0 0)]),(9,.cells [vb true,.msl 14400 (AO dec).length,.slice (.id 11901 6) (infs.map BY),.slice (.id 95 3) ((st.take i).flatten.map BS)]),(95,.tok 3 ((st.take i).flatten.map BS).length),(11900,.cells [sl AF roots,.cmap CZ (mC x),.cmap CZ (L.map (kA x)),.slice (.id 11901 6) (infs.map BY),.slice (.id 11902 1) (drv.map Cb),.mref 11903,vb false,sl AE dec,sl Ad (AO dec),.msl 12200 st.length]),(11901,.tok 6 infs.length),(11902,.tok 1 drv.length),(11903,.map D0 (D3 0 infs)),(12200,.arr 1 (st.map AX)),(14400,.arr 4 ((Gf (AO dec)).map Ad))],Aa⟩ (Yi ⟨Z7,Z9,Fh,Tv⟩ ?_)
  have hfl:((st.take i).flatten).length≤65536∧st[i].length≤256:=⟨jh Jy zX i,zX _ (At _)⟩;have Gv:CQ 3 (st[i].map BS)∧((st.take i).flatten.map BS).length=((st.take i).flatten.map BS).length∧(((st.take i).flatten.map BS).length+(st[i].map BS).length)*32≤140737488355328∧((st.take i).flatten.map BS).length+(st[i].map BS).length≤9223372036854775807:=by
   refine⟨Fz (enc:=BS) (n:=3) (fun _=>rfl) _,rfl,?_,?_⟩<;>simp only[Lm]<;>omega
  refine Yi Gv ?_;refine Yi ?_ ?_
  ·exact Nz rfl
  have ef:((st.take i).flatten.map BS)++st[i].map BS=((st.take (i+1)).flatten.map BS):=by rw[KJ,CL,Ay];simp
  have en:((st.take i).flatten.map BS).length+(st[i].map BS).length=((st.take (i+1)).flatten.map BS).length:=by rw[←ef,Ae]
  refine Xi ⟨[(4,.ref 4 0),(6,.ref 11900 0),(9,.ref 9 0),(56,.msl 12200 st.length),(57,vi (st.length:Nat)),(58,vi i)],[(4,.cells [vb false,.v (.slice none 0 0),.v (.slice none 0 0),.v (.slice none 0 0)]),(9,.cells [vb true,.msl 14400 (AO dec).length,.slice (.id 11901 6) (infs.map BY),.slice (.id 95 3) ((st.take (i+1)).flatten.map BS)]),(95,.tok 3 ((st.take (i+1)).flatten.map BS).length),(11900,.cells [sl AF roots,.cmap CZ (mC x),.cmap CZ (L.map (kA x)),.slice (.id 11901 6) (infs.map BY),.slice (.id 11902 1) (drv.map Cb),.mref 11903,vb false,sl AE dec,sl Ad (AO dec),.msl 12200 st.length]),(11901,.tok 6 infs.length),(11902,.tok 1 drv.length),(11903,.map D0 (D3 0 infs)),(12200,.arr 1 (st.map AX)),(14400,.arr 4 ((Gf (AO dec)).map Ad))],Aa⟩ (Yi ⟨Z6,⟨Zr,⟨Ac (fun z=>HO.cells [vb true,.msl 14400 (AO dec).length,.slice (.id 11901 6) (infs.map BY),.slice (.id 95 3) z]) ef,rfl⟩,⟨Ac (HO.tok 3) en,rfl⟩,Zr,Zr,Zr,Zr,Zr,Zr,Tv⟩,Fh,Tv⟩ ?_)
  refine Yi (Ii i (by omega)) ?_;refine Xi ⟨i+1,by omega⟩ ?_;exact⟨Dl st.length i (by omega),Z6,Z9,Fh,Tv⟩
 ·intro h;have h:¬(i:Int)<(st.length:Nat):=h;have et:st.take i=st:=Aw (by omega);have WQ:(AO dec).length=((Gf (AO dec)).map Ad).length:=(Uj (AO dec)).length_eq.symm.trans (Lm ..).symm;refine Yi WQ ?_;refine Xi ⟨[(4,.ref 4 0),(9,.ref 9 0)],[(4,.cells [vb false,.v (.slice none 0 0),.v (.slice none 0 0),.v (.slice none 0 0)]),(9,.cells [vb true,.slice (.id 14400 4) ((Gf (AO dec)).map Ad),.slice (.id 11901 6) (infs.map BY),.slice (.id 95 3) (st.flatten.map BS)]),(95,.tok 3 (st.flatten.map BS).length),(11901,.tok 6 infs.length),(14400,.tok 4 ((Gf (AO dec)).map Ad).length)],Aa⟩ (Yi ⟨Z2,⟨Zr,⟨Ac (fun z:List (List Sk)=>HO.cells [vb true,.slice (.id 14400 4) ((Gf (AO dec)).map Ad),.slice (.id 11901 6) (infs.map BY),.slice (.id 95 3) (z.flatten.map BS)]) et,rfl⟩,⟨Ac (fun z:List (List Sk)=>HO.tok 3 (z.flatten.map BS).length) et,rfl⟩,Zr,Zr,Tv⟩,Fh,Tv⟩ ?_)
  refine Yi ?_ ?_
  ·exact Nz rfl
  refine Yi ?_ ?_
  ·exact Nz rfl
  refine Yi ?_ ?_
  ·exact Nz rfl
  exact .refl _
theorem QB{s:SS}{b:List Cd}{p:ByteArray}{needs:List Nd}:∀{cs:List Cd} {sk:List Sk},G7 s b p needs cs sk→sk.length≤cs.length
 | [],sk,h=>by
  have h:sk=[]:=h;rw[h];exact Al _
 |c::cs,sk,h=>by
  have h:if(needs.all fun n=>has n.rq.set c.place)=true then _ else _:=h
  by_cases hc:(needs.all fun n=>has n.rq.set c.place)=true
  ·rw[Ap hc]at h;obtain⟨k,rest,rfl,_,h3⟩:=h
   have:=QB h3
   simp only[Az];omega
  ·rw[Aj hc]at h
   have:=QB h
   simp only[Az];omega
theorem U9{x:List Rl}{roots:List Rq}{s:SS}:∀{t:List Cd} {sl:List (List Sk)} {b:List Cd},Sp x roots s b t sl→sl.length=t.length∧∀k∈sl,k.length≤x.length
 | [],[],_,_=>⟨rfl,fun _ h=>by cases h⟩
 | [],_::_,_,h=>h.elim
 |_::_,[],_,h=>h.elim
 |c::t,sk::sl,b,⟨⟨p,needs,pre,post,hs⟩,h⟩=>by
  obtain⟨h1,h2⟩:=U9 h;refine⟨by simp[h1],fun k hk=>?_⟩;rcases AA.1 hk with rfl | hk
  ·have e1:=QB hs.skips;have e2:=U6 x p;rw[hs.cands,Ae]at e2;omega
  ·exact h2 k hk
theorem s21(x:List Rl)(ifs:List (List AV))(roots:List Rq)(hx:∀r∈x,JM r)(hr:∀q∈roots,NE q):PC 43 [EV x ifs,sl AF roots] (ji x roots):=by
 unfold ji Mz MA;cases hv:GX x roots with
 |false=>simpa using lX x ifs roots hx hr hv
 |true =>
  obtain⟨h0,h1⟩:=jx hv;have hR:=dL h0 h1;have gQ:=(NY h0).1;have hA:qq x roots=if(FW x roots).found=true then⟨true,Gf (AO (FW x roots).dec),(FW x roots).ss.infs,(FW x roots).stack.flatten⟩else⟨false,[],(FW x roots).ss.infs.take ((FW x roots).res+1),[]⟩:=rfl
  rw[hA];generalize ho:FW x roots=o at hR⊢;obtain⟨k,b,⟨infs,drv,full⟩,dec,st⟩:=o;have hl:infs.length≤65536:=hR.der.len;have hdl:drv.length=infs.length:=hR.der.dlen;cases b with
  |false =>
   cases full with
   |true=>simpa using jd x ifs roots hx hr hv h0 h1 k infs drv dec st ho
   |false =>
    have hk:k<drv.length:=((hR.no rfl).2.2 rfl).1;simpa using po x ifs roots hx hr hv h0 h1 k infs drv dec st ho (by omega) hl
  |true =>
   obtain⟨hf,t,sl,e1,e2,hC,_⟩:=hR.yes rfl;have hf:full=false:=hf;subst hf;have e1:dec=[]++t:=e1;have e2:st=[]++sl:=e2;rw[FK]at e1 e2;subst e1;subst e2;have hD:EN x ([]++dec):=(Sp.ok (.nil x) (.nil roots) hC).1;rw[FK]at hD;have hdx:=XH hD;obtain⟨c1,c2⟩:=U9 hC;have hn:((AO dec).map (·.path)).Nodup:=by rw[NZ];exact hD.nodup
   simpa using lY x ifs roots hx hr hv h0 h1 k infs drv dec st ho (by omega) hn (by omega) (fun s hs=>Bx (c2 s hs) gQ)
def Ie(x:List Rl)(roots:List Rq):Int:=if MA x roots≠0 then MA x roots else if(Mz x roots).found=true then 0 else 17
def KW(x:List Rl)(roots:List Rq):List Sl:=if Ie x roots=0 then(Mz x roots).sel else []
abbrev xJ:RE:=⟨[2],[],[],[],[],[],[],[],[],[],[]⟩
theorem pn(x:List Rl)(ifs:List (List AV))(roots:List Rq)(a:An)(e:Int)(h:PC 43 [EV x ifs,sl AF roots] (.tup [.agg (SY a),vi e])) :
  PC 17 [EV x ifs,sl AF roots] (.tup [if e≠0 then sl Ad []else if a.found=true then sl Ad a.sel else sl Ad [],vi (if e≠0 then e else if a.found=true then 0 else 17)]):=by
 refine Ps xJ Tryz.func17 rfl (Nz rfl) ?_;refine Yi ?_ ?_
 ·exact Nz rfl
 refine Xi .pure (Xi _ (Yi h ?_));refine Yi ?_ ?_
 ·exact Nz rfl
 refine Yi (fun he=>?_) (fun he=>?_)
 ·have he:¬e=0:=he;have e1:AV.tup [sl Ad [],vi e]=.tup [if e≠0 then sl Ad []else if a.found=true then sl Ad a.sel else sl Ad [],vi (if e≠0 then e else if a.found=true then 0 else 17)]:=by rw[Ap he,Ap he]
  exact(show G1 (.tup [.v (.slice none 0 0),vi e]) (.tup [sl Ad ([]:List Sl),vi e])from G1.tup ⟨.nil,.refl _,trivial⟩).trans (.of_eq e1)
 ·have he:e=0:=BV.1 he;have DF:¬e≠0:=fun h=>h he;refine Yi (fun hb=>?_) (fun hb=>?_)
  ·have hb:a.found=true:=hb;have e1:AV.tup [sl Ad a.sel,vi 0]=.tup [if e≠0 then sl Ad []else if a.found=true then sl Ad a.sel else sl Ad [],vi (if e≠0 then e else if a.found=true then 0 else 17)]:=by rw[Aj DF,Aj DF,Ap hb,Ap hb]
   exact .of_eq e1
  ·have hb:a.found=false:=hb;have hb:¬a.found=true:=by rw[hb];decide
   have e1:AV.tup [sl Ad [],vi 17]=.tup [if e≠0 then sl Ad []else if a.found=true then sl Ad a.sel else sl Ad [],vi (if e≠0 then e else if a.found=true then 0 else 17)]:=by rw[Aj DF,Aj DF,Aj hb,Aj hb]
   exact(show G1 (.tup [.v (.slice none 0 0),vi 17]) (.tup [sl Ad ([]:List Sl),vi 17])from G1.tup ⟨.nil,.refl _,trivial⟩).trans (.of_eq e1)
theorem s16(x:List Rl)(ifs:List (List AV))(roots:List Rq)(hx:∀r∈x,JM r)(hr:∀q∈roots,NE q):PC 17 [EV x ifs,sl AF roots] (.tup [sl Ad (KW x roots),vi (Ie x roots)]):=by
 have h:=pn x ifs roots _ _ (s21 x ifs roots hx hr);have e1:(if MA x roots≠0 then sl Ad []else if(Mz x roots).found=true then sl Ad (Mz x roots).sel else sl Ad [])=sl Ad (KW x roots):=by
  unfold KW Ie
  by_cases h1:MA x roots=0
  ·by_cases h2:(Mz x roots).found=true
   ·simp[h1,h2]
   ·simp[h1,h2]
  ·simp[h1]
 have e2:(if MA x roots≠0 then MA x roots else if(Mz x roots).found=true then 0 else 17)=Ie x roots:=rfl;rw[e1,e2]at h;exact h
instance:DecidableEq Mv:=fun x y=>decidable_of_iff (x.path=y.path∧x.a=y.a∧x.b=y.b) ⟨fun⟨h1,h2,h3⟩=>by cases x;cases y;simp_all,fun h=>by subst h;exact⟨rfl,rfl,rfl⟩⟩
theorem sI{a b:Mv}(h:a.path=b.path∧a.a=b.a∧a.b=b.b∧True):a=b:=by cases a;cases b;simp_all
theorem sJ{a b:Mv}(h:¬(a.path=b.path∧a.a=b.a∧a.b=b.b∧True)):a≠b:=fun e=>h (by subst e;exact⟨rfl,rfl,rfl,trivial⟩)
theorem o35(a b:List Mv)(ha:Cp a):PC 30 [sl D2 a,sl D2 b] (vb (decide (a=b))):=by
 have rl:a.length≤1073741824:=ha;refine Ps ⟨[],[],[],[],[],[],[],[],[],[],[7,8]⟩ Tryz.func30 rfl (Nz rfl) ?_;refine Yi (fun h1=>?_) (fun h1=>?_)
 ·have h1:((a.map D2).length:Int)≠((b.map D2).length:Int):=h1;exact .of_eq (show vb false=vb (decide (a=b)) by rw[Ao (fun e=>absurd (Ac (fun z=>((z.map D2).length:Int)) e) h1)])
 have h1:((a.map D2).length:Int)=((b.map D2).length:Int):=AN h1;have hl:a.length=b.length:=by have q:=h1;rw[Lm,Lm]at q;omega
 refine Xi {q:Nat // q≤a.length∧∀j (hj:j<a.length),j<q→a[j]=b[j]'(hl▸hj)} (Xi (fun q=>⟨[(0,sl D2 a),(1,sl D2 b),(12,vi (a.map D2).length),(13,vi q.1)],[],Aa⟩) (Xi (fun q=>a.length-q.1) (Yi (Xi ⟨0,AD _,fun _ _ h=>absurd h (Gx _)⟩ ?_) ?_)))
 ·exact⟨Z4,Tv,Fh,Tv⟩
 intro⟨i,i1,i2⟩;have i1:i≤a.length:=i1;have i2:∀j (hj:j<a.length),j<i→a[j]=b[j]'(hl▸hj):=i2;refine Yi (fun h3=>?_) (fun h3=>?_)
 ·have h3:(i:Int)<((a.map D2).length:Int):=h3;have n3:=JT h3;have cD:i<b.length:=by have q:=h3;rw[Lm]at q;omega
  refine Xi (D2 a[i]) (Yi (Ns n3) (Yi rfl ?_));refine Yi (Nz rfl) ?_;refine Xi (D2 b[i]) (Yi (Ns cD) (Yi rfl ?_));refine Yi (Nz rfl) ?_;refine Yi (fun h4=>?_) (fun h4=>?_)
  ·have h4:(a[i].path:ByteArray)=b[i].path∧(a[i].a:Int)=b[i].a∧(a[i].b:Int)=b[i].b∧True:=h4;refine Yi (by kernel_rfl) ?_;refine Xi ⟨[(0,sl D2 a),(1,sl D2 b),(12,vi (a.map D2).length),(13,vi i)],[],Aa⟩ (Yi ⟨Z4,Tv,Fh,Tv⟩ ?_)
   refine Yi (Ii i (by omega)) ?_;refine Xi ⟨i+1,n3,fun j hj Je=>if e:j<i then i2 j hj e else by
     have e:j=i:=by omega
     subst e;exact sI h4⟩ ?_
   exact⟨Dl a.length i (by omega),Z4,Tv,Fh,Tv⟩
  have h4:¬((a[i].path:ByteArray)=b[i].path∧(a[i].a:Int)=b[i].a∧(a[i].b:Int)=b[i].b∧True):=h4;refine Yi (by kernel_rfl) ?_;refine Xi ⟨[],[],Aa⟩ (Yi ⟨Tv,Tv,Fh,Tv⟩ ?_)
  exact .of_eq (show vb false=vb (decide (a=b)) by rw[Ao (Xw (i:=i) (ha:=n3) (hb:=cD) (sJ h4))])
 have h3:¬((i:Int)<((a.map D2).length:Int)):=h3;have n3:=JS h3;exact .of_eq (show vb true=vb (decide (a=b)) by rw[Ar (Se hl fun j hj=>i2 j hj (by have q:=h3;rw[Lm]at q;omega))])
abbrev pb:ByteArray:=⟨#[98,47,118,49]⟩
end Go.Eng
namespace Go.Eng
/-! The empty workspace, and a workspace twice. -/
/-! What is merged. -/
/-! What a workspace makes of an index. -/
/-! What the solver selects. -/
/-! Releases whose names satisfy p get Yanked. -/
def yk(y:Bool)(p:Sl→Bool)(x:List Rl):List Rl:=x.map fun r=>if p (DL r)=true then { r with yanked:=y }else r
section
variable {x:List Rl}{roots:List Rq}{y:Bool}{p:Sl→Bool}
theorem Ok:(yk y p x).length=x.length:=Lm ..
end
abbrev Jb(s:Sl):Sl→Bool:=fun z=>decide (z=s)
abbrev HB(l:List Sl):Sl→Bool:=fun z=>decide (z∈l)
def DZ(x:List Rl)(s:Sl)(y:Bool):Int:=if AQ x≠0 then 1 else match CK x s with
 |none=>6
 |some r=>if r.yanked=y then 8 else 0
def Fw(x:List Rl)(s:Sl)(y:Bool):List Rl:=if DZ x s y=0 then yk y (Jb s) x else []
def EU(x:List Rl)(l:List Sl):Int:=if AQ x≠0∨CO l=false then 1 else 0
def Rm(x:List Rl)(l:List Sl):List Rl:=if EU x l=0 then yk false (HB l) x else []
section
variable {x:List Rl}{s:Sl}{y:Bool}
theorem lD(hx:AQ x=0){a b:Rl}(ha:a∈x)(hb:b∈x)(h:DL a=DL b):a=b:=by
 have h1:=KH hx ha;have h2:=KH hx hb;rw[show EY a=EY b from h]at h1;exact Ca (h1.symm.trans h2)
theorem XS(hx:AQ x=0)(h:CK x s=none):∀r∈x,DL r≠s:=fun r hr e=>by
 have:=KH hx hr
 rw[show EY r=s from e,h]at this;cases this
theorem l5(h:DZ x s y=0):Fw x s y=yk y (Jb s) x:=by unfold Fw;rw[Ap h]
theorem jf(h:DZ x s y≠0):Fw x s y=[]:=by unfold Fw;rw[Aj h]
end
/-! Law Keeps: which releases of the selection get yanked, one after the other. -/
section
variable {α:Type}(c:α→α→Int)
def JI:Nat→List α→List α
 |0,l=>l
 |j+1,l=>match l[j+1]?,l[j]? with
  |some a,some b=>if c a b<0 then JI j ((l.set (j+1) b).set j a)else l
  |_,_=>l
def EI(i:Nat)(l:List α):List α:=(List.range i).foldl (fun m i=>JI c i m) l
theorem VO:∀(j:Nat) (l:List α),(JI c j l).length=l.length
 |0,_=>rfl
 |j+1,l=>by
  unfold JI;split
  ·split
   ·rw[VO j];simp
   ·rfl
  ·rfl
theorem MO(i:Nat)(l:List α):EI c (i+1) l=JI c i (EI c i l):=by
 unfold EI;rw[List.range_succ,FE];rfl
theorem g8(l:List α):EI c 1 l=l:=rfl
theorem Mg:∀(i:Nat) (l:List α),(EI c i l).length=l.length
 |0,_=>rfl
 |i+1,l=>by rw[MO,VO,Mg i]
theorem VP:∀(j:Nat) (l:List α),∀x∈JI c j l,x∈l
 |0,_,_,h=>h
 |j+1,l,x,h=>by
  unfold JI at h;split at h
  ·rename_i a b ha hb;split at h
   ·have h:=VP j _ x h;rcases E8 h with h | rfl
    ·rcases E8 h with h | rfl
     ·exact h
     ·exact Av hb
    ·exact Av ha
   ·exact h
  ·exact h
theorem TC:∀(i:Nat) (l:List α),∀x∈EI c i l,x∈l
 |0,_,_,h=>h
 |i+1,l,x,h=>by rw[MO]at h;exact TC i l x (VP c i _ x h)
theorem aq{l:List α}{j:Nat}{a b:α}(h0:0<j)(ha:l[j]?=some a)(hb:l[j-1]?=some b)(hc:c a b<0):JI c j l=JI c (j-1) ((l.set j b).set (j-1) a):=by
 obtain⟨k,rfl⟩:∃k,j=k+1:=⟨j-1,by omega⟩;have e:k+1-1=k:=rfl;simp only[e]at hb⊢;rw[JI,ha,hb];exact Ap hc
theorem Uh{l:List α}{j:Nat}{a b:α}(h0:0<j)(ha:l[j]?=some a)(hb:l[j-1]?=some b)(hc:¬c a b<0):JI c j l=l:=by
 obtain⟨k,rfl⟩:∃k,j=k+1:=⟨j-1,by omega⟩;have e:k+1-1=k:=rfl;simp only[e]at hb;rw[JI,ha,hb];exact Aj hc
theorem Vq{l:List α}(h:l.Pairwise fun a b=>¬c b a<0):∀i,i≤l.length→EI c i l=l
 |0,_=>rfl
 |i+1,hi=>by
  rw[MO,Vq h i (by omega)]
  by_cases h0:i=0
  ·subst h0;rfl
  ·exact Uh c (by omega) (Ge hi) (Ge (show i-1<l.length by omega)) ((AZ.1 h) (i-1) i (by omega) hi (by omega))
end
theorem Hr{x:List Rl}(h:AQ x=0):EI Dh x.length x=x:=by
 refine Vq Dh ?_ _ (Al _);refine(CF h).2.imp fun {a b} jI hc=>?_;have h1:kk (DL a) (DL b)<0:=SP.2 jI;have h2:kk (DL b) (DL a)<0:=hc;have h1:=SP.1 h1;have h2:=SP.1 h2;exact Ir (Vz h1 h2) rfl
def fs(s:Sl)(y:Bool)(l:List Rl):Bool×Bool:=l.foldl (fun a r=>if DL r=s then(true,decide (r.yanked=y))else a) (false,false)
theorem RV{s:Sl}{y:Bool}{x:List Rl}{i:Nat}(h:i<x.length):fs s y (x.take (i+1))=if DL x[i]=s then(true,decide (x[i].yanked=y))else fs s y (x.take i):=by
 unfold fs;rw[Bk,Ge h,FE]
 rfl
theorem fW{s:Sl}{y:Bool}:∀{l:List Rl} {a:Bool×Bool},(∀r∈l,DL r≠s)→l.foldl (fun a r=>if DL r=s then(true,decide (r.yanked=y))else a) a=a
 | [],_,_=>rfl
 |r::l,a,h=>by
  rw[Eo,Aj (h r (Ab ..))];exact fW fun q hq=>h q (Ai _ hq)
theorem fX{s:Sl}{y:Bool}{r:Rl}(hr:DL r=s):∀{l:List Rl} {a:Bool×Bool},r∈l→(∀q∈l,DL q=s→q=r)→l.foldl (fun a r=>if DL r=s then(true,decide (r.yanked=y))else a) a=(true,decide (r.yanked=y))
 | [],_,h,_=>by cases h
 |q::l,a,h,hu=>by
  rw[Eo]
  by_cases hm:r∈l
  ·exact fX hr hm fun p hp=>hu p (Ai _ hp)
  ·have e:r=q:=(AA.1 h).resolve_right hm;subst e;rw[Ap hr];exact fW fun p hp e=>hm (by rw[←hu p (Ai _ hp) e];exact hp)
theorem qW{x:List Rl}(hx:AQ x=0)(s:Sl)(y:Bool):fs s y x=match CK x s with | none=>(false,false) | some r=>(true,decide (r.yanked=y)):=by
 cases e:CK x s with
 |none=>exact fW (XS hx e)
 |some r =>
  obtain⟨_,h1,h2⟩:=KI e;exact fX h2 h1 fun q hq hk=>lD hx hq h1 (hk.trans (show s=DL r from h2.symm))
theorem P0{x:List Rl}(hx:AQ x=0)(s:Sl)(y:Bool):DZ x s y=if(fs s y x).1=false then 6 else if(fs s y x).2=true then 8 else 0:=by
 rw[qW hx];unfold DZ;rw[Aj (fun h=>h hx)];cases e:CK x s with
 |none=>rfl
 |some r =>
  dsimp only
  by_cases h:r.yanked=y
  ·simp[h]
  ·simp[h]
def Ct(x:List Rl)(z:Sl):Bool:=match CK x z with | some r=>r.yanked | none=>false
def Hx(x:List Rl)(l:List Sl):List Sl:=if EU x l=0 then l.filter (Ct x)else []
theorem pJ(y:Bool)(x:List Rl)(s:Sl):yk y (HB [s]) x=yk y (Jb s) x:=by
 have:HB [s]=Jb s:=funext fun z=>by simp[HB,Jb]
 rw[this]
theorem Vt(x:List Rl)(l:List Sl):EU x l=0∨EU x l=1:=by unfold EU;split<;>simp
theorem Mi{x:List Rl}{l:List Sl}(h:EU x l=0):AQ x=0∧CO l=true:=by
 unfold EU at h;split at h
 ·cases h
 ·rename_i q;exact⟨AN fun e=>q (.inl e),by cases e:CO l with
   |true=>rfl
   |false=>exact absurd (.inr e) q⟩
theorem pI{y:Bool}{p:Sl→Bool}{x:List Rl}{P:Rl→Prop}(h:∀r∈x,P r∧P { r with yanked:=y }):∀r∈yk y p x,P r:=fun r hr=>by
 obtain⟨q,hq,rfl⟩:=Am.1 hr;split
 ·exact(h q hq).2
 ·exact(h q hq).1
theorem Xg{y:Bool}{p:Sl→Bool}{x:List Rl}{i:Nat}(h:i<x.length):(yk y p (x.take i)++x.drop i).set i (if p (DL x[i])=true then { x[i]with yanked:=y }else x[i])=yk y p (x.take (i+1))++x.drop (i+1):=by
 rw[A7 h,Lw _ _ (by rw[Ok,AC];omega),Ok,AC,show i-min i x.length=0 by omega,List.set_cons_zero];unfold yk;rw[Bk,Ge h,Ay,BM]
 rfl
theorem jE{y:Bool}{p:Sl→Bool}{x:List Rl}{i:Nat}(h:i<x.length):(yk y p (x.take i)++x.drop i)[i]?=some x[i]:=by
 rw[AW (by rw[Ok,AC];omega),Ok,AC,show i-min i x.length=0 by omega,A7 h]
 rfl
end Go.Eng
namespace Go.Eng
open Go.Proofs
theorem gZ{α:Type}(c:α→α→Int){l:List α}{i:Nat}(h1:1≤i)(h2:i≤l.length∨i=1)(h3:l.length≤i):EI c i l=EI c l.length l:=by
 by_cases e:i=l.length
 ·rw[e]
 ·have e1:i=1:=by omega
  have e2:l.length=0:=by omega
  rw[e1,e2];rfl
theorem yM(l:List Rl)(hl:Cp l):A6 Tryz.prog 192 [.msl 1000 l.length,vi 0,vi (l.length:Nat),.v (.func (.func 60) #[] #[])] (Ak [(1000,.arr 9 (l.map Ag))] Aa) fun r h'=>r=.tup []∧h'=Ak [(1000,.arr 9 ((EI Dh l.length l).map Ag))] Aa:=by
 have hl:l.length≤1073741824:=hl;refine BW (Lg ⟨[],[],[],[],[],[],[],[],[],[],[5,6]⟩) [(1000,1000)] rfl Cw hm rfl Tryz.func192 (by kernel_rfl) rfl (Nz rfl) (by kernel_rfl) rfl ?_;refine Yi (Ii 0 (by omega)) ?_;refine Xi {q:Nat // 1≤q∧(q≤l.length∨q=1)} (Xi (fun q=>⟨[(0,.msl 1000 l.length),(1,vi 0),(2,vi (l.length:Nat)),(3,.v (.func (.func 60) #[] #[])),(8,vi q.1)],[(1000,.arr 9 ((EI Dh q.1 l).map Ag))],Aa⟩) (Xi (fun q=>l.length+1-q.1) (Yi (Xi ⟨1,Al _,.inr rfl⟩ ?_) ?_)))
 ·exact⟨Z5,⟨⟨(show HO.arr 9 (l.map Ag)=.arr 9 ((EI Dh 1 l).map Ag) by rw[g8]),rfl⟩,Tv⟩,Fh,AB (by kernel_rfl)⟩
 intro⟨i,i1,i2⟩;have i1:1≤i:=i1;have i2:i≤l.length∨i=1:=i2;refine Yi (fun h1=>?_) (fun h1=>?_)
 ·have h1:(i:Int)<((l.length:Nat):Int):=h1;have ni:i<l.length:=by omega
  refine Xi {q:Nat×List Rl // q.1≤i∧q.2.length=l.length∧JI Dh q.1 q.2=EI Dh (i+1) l} (Xi (fun q=>⟨[(0,.msl 1000 l.length),(1,vi 0),(2,vi (l.length:Nat)),(3,.v (.func (.func 60) #[] #[])),(8,vi i),(9,vi q.1.1)],[(1000,.arr 9 (q.1.2.map Ag))],Aa⟩) (Xi (fun q=>q.1.1) (Yi (Xi ⟨(i,EI Dh i l),Al _,Mg _ _ _,(MO Dh i l).symm⟩ ?_) ?_)))
  ·exact⟨Z6,Z1,Fh,AB (by kernel_rfl)⟩
  intro⟨⟨j,N⟩,j1,j2,j3⟩;have j1:j≤i:=j1;have j2:N.length=l.length:=j2;have j3:JI Dh j N=EI Dh (i+1) l:=j3;refine Yi (fun h2=>?_) (fun h2=>?_)
  ·have h2:(0:Int)<(j:Int):=h2;have nj:j<N.length:=by omega
   have j0:0<j:=by omega
   have ej:((j-1:Int).toNat)=j-1:=by omega
   refine Br (show ∃a,N[j]?=some a from⟨_,Ge nj⟩) (fun a ga=>?_);refine Br (show ∃b,N[j-1]?=some b from⟨_,Ge (by omega)⟩) (fun b gb=>?_);have gc:N[(j-1:Int).toNat]?=some b:=by rw[ej];exact gb
   refine Yi (by show(0:Int)≤j∧(j:Int)<(l.length:Nat);omega) ?_;refine Yi (show l.length=(N.map Ag).length by simp[j2]) (Xi (Ag a) (Yi (CC ga) ?_));refine Yi (Nz rfl) ?_;refine Yi (by show Bi ((j:Int)-(1:Int));unfold Bi;omega) ?_;refine Yi (by show(0:Int)≤j-1∧(j-1:Int)<(l.length:Nat);omega) ?_;refine Yi (show l.length=(N.map Ag).length by simp[j2]) (Xi (Ag b) (Yi (CC gc) ?_));refine Yi (Nz rfl) ?_;refine Xi _ (Yi (qz a b) ?_);refine Yi (fun h3=>?_) (fun h3=>?_)
   ·have h3:((Dh a b):Int)<(0:Int):=h3;refine Yi (by kernel_rfl) ?_;refine Xi ⟨[(0,.msl 1000 l.length),(1,vi 0),(2,vi (l.length:Nat)),(3,.v (.func (.func 60) #[] #[])),(8,vi i),(9,vi j)],[(1000,.arr 9 (N.map Ag))],Aa⟩ (Yi ⟨Z6,Z1,Fh,AB (by kernel_rfl)⟩ ?_)
    refine Yi (by show Bi ((j:Int)-(1:Int));unfold Bi;omega) ?_;refine Yi (by show Bi ((j:Int)-(1:Int));unfold Bi;omega) ?_;refine Yi (by show(0:Int)≤j-1∧(j-1:Int)<(l.length:Nat);omega) ?_;refine Yi (show l.length=(N.map Ag).length by simp[j2]) (Xi (Ag b) (Yi (CC gc) ?_));refine Yi (Nz rfl) ?_;refine Yi (by show(0:Int)≤j∧(j:Int)<(l.length:Nat);omega) ?_;refine Yi (show l.length=(N.map Ag).length by simp[j2]) (Xi (Ag a) (Yi (CC ga) ?_));refine Yi (Nz rfl) ?_;refine Yi (by show(0:Int)≤j∧(j:Int)<(l.length:Nat);omega) ?_;refine Yi (show l.length=(N.map Ag).length by simp[j2]) (Xi (Ag a) (Yi (CC ga) (Yi (Nz rfl) ?_)));refine Yi (by show(0:Int)≤j-1∧(j-1:Int)<(l.length:Nat);omega) ?_;refine Yi (show l.length=(((N.map Ag).set j (Ag b)):List (List AV)).length by simp[j2]) (Xi (Ag b) (Yi ((List.getElem?_set_ne (by omega)).trans (CC gc)) (Yi (Nz rfl) ?_)));refine Yi (by kernel_rfl) ?_;refine Xi ⟨[(0,.msl 1000 l.length),(1,vi 0),(2,vi (l.length:Nat)),(3,.v (.func (.func 60) #[] #[])),(8,vi i),(9,vi j)],[(1000,.arr 9 (((N.map Ag).set j (Ag b)).set (j-1:Int).toNat (Ag a)))],Aa⟩ (Yi ⟨Z6,Z1,Fh,AB (by kernel_rfl)⟩ ?_)
    refine Yi (by show Bi ((j:Int)-(1:Int));unfold Bi;omega) ?_;refine Xi ⟨(j-1,(N.set j b).set (j-1) a),by omega,by rw[Cy,Cy];exact j2,by rw[←j3,aq Dh j0 ga gb h3]⟩ ?_;exact⟨by show(j-1:Nat)<j;omega,⟨Zr,Zr,Zr,Zr,Zr,⟨(Ac vi (show(j:Int)-1=((j-1:Nat):Int) by omega)),rfl⟩,Tv⟩,⟨⟨(show HO.arr 9 (((N.map Ag).set j (Ag b)).set ((j-1:Int).toNat) (Ag a))=.arr 9 (((N.set j b).set (j-1) a).map Ag) by rw[ej,EQ,EQ]),rfl⟩,Tv⟩,Fh,AB (by kernel_rfl)⟩
   have h3:¬(((Dh a b):Int)<(0:Int)):=h3;refine Yi (by kernel_rfl) ?_;refine Yi (Ii i (by omega)) ?_;have eN:N=EI Dh (i+1) l:=by rw[←j3];exact(Uh Dh j0 ga gb h3).symm
   refine Xi ⟨i+1,by omega,.inl ni⟩ ?_;exact⟨by show l.length+1-(i+1)<l.length+1-i;omega,Z5,⟨⟨(show HO.arr 9 (N.map Ag)=.arr 9 ((EI Dh (i+1) l).map Ag) by rw[eN]),rfl⟩,Tv⟩,Fh,AB (by kernel_rfl)⟩
  have h2:¬((0:Int)<(j:Int)):=h2;refine Yi (by kernel_rfl) ?_;refine Yi (Ii i (by omega)) ?_;have eN:N=EI Dh (i+1) l:=by rw[←j3];exact(show JI Dh j N=N by rw[show j=0 by omega];rfl).symm
  refine Xi ⟨i+1,by omega,.inl ni⟩ ?_;exact⟨by show l.length+1-(i+1)<l.length+1-i;omega,Z5,⟨⟨(show HO.arr 9 (N.map Ag)=.arr 9 ((EI Dh (i+1) l).map Ag) by rw[eN]),rfl⟩,Tv⟩,Fh,AB (by kernel_rfl)⟩
 have h1:¬((i:Int)<((l.length:Nat):Int)):=h1;exact Xi _ (Yi (.refl _) ⟨rfl,show Ak [(1000,HO.arr 9 ((EI Dh i l).map Ag))] Aa=Ak [(1000,.arr 9 ((EI Dh l.length l).map Ag))] Aa from Ac (fun z=>Ak [(1000,HO.arr 9 (z.map Ag))] Aa) (gZ Dh i1 i2 (by omega))⟩)
theorem yL(l:List Rl)(hl:l.length≤16):A6 Tryz.prog 143 [.msl 1000 l.length,vi (l.length:Nat),.v (.func (.func 60) #[] #[])] (Ak [(1000,.arr 9 (l.map Ag))] Aa) fun r h'=>r=.tup []∧h'=Ak [(1000,.arr 9 ((EI Dh l.length l).map Ag))] Aa:=by
 refine BW (Lg ⟨[],[],[],[],[],[],[],[],[],[],[12,16]⟩) [(1000,1000)] rfl Cw hm rfl Tryz.func143 (by kernel_rfl) rfl (Nz rfl) (by kernel_rfl) rfl ?_;refine Xi {q:Nat // q=0} (Xi (fun q=>⟨[(0,.msl 1000 l.length),(1,vi (l.length:Nat)),(2,.v (.func (.func 60) #[] #[])),(6,vi 20),(7,vi 0),(8,vi 20)],[(1000,.arr 9 (l.map Ag))],Aa⟩) (Xi (fun q=>q.1) (Yi (Xi ⟨0,rfl⟩ ?_) ?_)))
 ·exact⟨Z6,Z1,Fh,AB (by kernel_rfl)⟩
 intro⟨i,i1⟩;refine Yi (fun h1=>?_) (fun h1=>?_)
 ·have h1:(20:Int)≤((l.length:Nat):Int):=h1;exact absurd h1 (by omega)
 have h1:¬((20:Int)≤((l.length:Nat):Int)):=h1;refine Xi (.gen [(1000,1000)] 0) (Yi rfl (A6.to2 (yM l (by unfold Cp;omega)) ?_));refine Xi {q:Nat // q=0} (Xi (fun q=>⟨[(0,.msl 1000 l.length),(1,vi (l.length:Nat)),(2,.v (.func (.func 60) #[] #[])),(6,vi 20)],[(1000,.arr 9 ((EI Dh l.length l).map Ag))],Aa⟩) (Xi (fun q=>q.1) (Yi (Xi ⟨0,rfl⟩ ?_) ?_)))
 ·exact⟨Z4,Z1,Fh,AB (by kernel_rfl)⟩
 intro⟨i,i1⟩;refine Yi (fun h2=>?_) (fun h2=>?_)
 ·have h2:(20:Int)<((l.length:Nat):Int):=h2;exact absurd h2 (by omega)
 have h2:¬((20:Int)<((l.length:Nat):Int)):=h2;exact Xi _ (Yi (.refl _) Zr)
theorem v105(l:List Rl)(hl:l.length≤16):A6 Tryz.prog 105 [.msl 1000 l.length,.v (.func (.func 60) #[] #[])] (Ak [(1000,.arr 9 (l.map Ag))] Aa) fun r h'=>r=.tup []∧h'=Ak [(1000,.arr 9 ((EI Dh l.length l).map Ag))] Aa:=by
 refine BW (Lg ⟨[],[],[],[],[],[],[],[],[],[],[]⟩) [(1000,1000)] rfl Cw hm rfl Tryz.func105 (by kernel_rfl) rfl (Nz rfl) (by kernel_rfl) rfl ?_;refine Xi (.gen [(1000,1000)] 0) (Yi rfl (A6.to2 (yL l hl) ?_));exact Xi _ (Yi (.refl _) Zr)
theorem yO(x:List Rl)(hx:x.length≤16)(hc:∀r∈x,PC 42 [.agg (Ag r)] (.agg (Ag r)))(hk:A6 Tryz.prog 37 [.agg [.msl 1000 ((EI Dh x.length x).map Ag).length,.v (.slice none 0 0)]] (Ak [(1000,.arr 9 ((EI Dh x.length x).map Ag))] Aa) fun r h'=>r=vi 0∧h'=Ak [(1000,.arr 9 ((EI Dh x.length x).map Ag))] Aa):A6 Tryz.prog 72 [sl Ag x] (Ak [] Aa) fun r h'=>r=.tup [.msl 2000 ((EI Dh x.length x).map Ag).length,vi 0]∧h'=Ak [(2000,.arr 9 ((EI Dh x.length x).map Ag))] Aa:=by
 refine BW (Lg ⟨[],[],[(4,9)],[],[],[],[],[],[],[],[7,8,11]⟩) [(4,2000)] rfl Cw hm rfl Tryz.func72 (by kernel_rfl) rfl (Nz rfl) (by kernel_rfl) rfl ?_;refine Xi {q:Nat // q≤x.length} (Xi (fun q=>⟨[(4,.msl 4 (x.take q.1).length),(8,sl Ag x),(9,vi (x.map Ag).length),(10,vi q.1)],[(4,.arr 9 ((x.take q.1).map Ag))],Aa⟩) (Xi (fun q=>x.length-q.1) (Yi (Xi ⟨0,AD _⟩ ?_) ?_)))
 ·exact⟨Z4,Z1,Fh,AB (by kernel_rfl)⟩
 intro⟨i,i1⟩;have i1:i≤x.length:=i1;refine Yi (fun h1=>?_) (fun h1=>?_)
 ·have h1:(i:Int)<((x.map Ag).length:Int):=h1;have n1:=JT h1;refine Xi (Ag x[i]) (Yi (Ns n1) (Yi rfl ?_));refine Yi (Nz rfl) ?_;refine Yi (Nz rfl) ?_;refine Yi (Nz rfl) ?_;refine Xi .pure (Xi _ (Yi (hc x[i] (At n1)) ?_));have b2:CQ 9 [(Ag x[i])]∧((x.take i).map Ag).length=(x.take i).length∧(((x.take i).map Ag).length+([(Ag x[i])]:List (List AV)).length)*120≤140737488355328∧((x.take i).map Ag).length+([(Ag x[i])]:List (List AV)).length≤9223372036854775807:=⟨⟨rfl,trivial⟩,(by rw[Lm]),(by simp only[Lm,Az,AJ,AC];omega),(by simp only[Lm,Az,AJ,AC];omega)⟩;refine Yi b2 ?_;refine Yi (Ii i (by omega)) ?_;refine Xi ⟨i+1,n1⟩ ?_;exact⟨Dl x.length i (by omega),⟨⟨(show AV.msl 4 (((x.take i).map Ag).length+([Ag x[i]]:List (List AV)).length)=.msl 4 (x.take (i+1)).length by rw[DA n1,Ae,Lm];rfl),rfl⟩,Zr,Zr,Zr,Tv⟩,⟨⟨(show HO.arr 9 ((x.take i).map Ag++[Ag x[i]])=.arr 9 ((x.take (i+1)).map Ag) by rw[DA n1,Ay];rfl),rfl⟩,Tv⟩,Fh,AB (by kernel_rfl)⟩
 have h1:¬((i:Int)<((x.map Ag).length:Int)):=h1;have n1:=JS h1;have ei:x.take i=x:=Aw (by omega);refine Xi ⟨[(4,.msl 4 x.length)],[(4,.arr 9 (x.map Ag))],Aa⟩ (Yi ⟨⟨⟨(show AV.msl 4 (x.take i).length=.msl 4 x.length by rw[ei]),rfl⟩,trivial⟩,⟨⟨(show HO.arr 9 ((x.take i).map Ag)=.arr 9 (x.map Ag) by rw[ei]),rfl⟩,trivial⟩,fun _=>.inl rfl,AB (by kernel_rfl)⟩ ?_)
 refine Xi (.gen [(4,1000)] 0) (Yi rfl (A6.to2 (v105 x hx) ?_));refine Xi ⟨[(4,.msl 4 ((EI Dh x.length x).map Ag).length)],[(4,.arr 9 ((EI Dh x.length x).map Ag))],Aa⟩ (Yi ⟨⟨⟨(show AV.msl 4 x.length=.msl 4 ((EI Dh x.length x).map Ag).length by rw[Lm,Mg]),rfl⟩,Tv⟩,Z1,Fh,AB (by kernel_rfl)⟩ ?_)
 refine Xi (.gen [(4,1000)] 0) (Yi rfl (A6.to2 hk ?_));refine Yi (fun h=>absurd h (by decide)) (fun _=>?_);refine Xi ⟨[(4,.msl 4 ((EI Dh x.length x).map Ag).length)],[(4,.arr 9 ((EI Dh x.length x).map Ag))],Aa⟩ (Yi ⟨Z1,Z1,Fh,AB (by kernel_rfl)⟩ ?_)
 exact Xi _ (Yi (.refl _) Zr)
theorem yN(x:List Rl)(hx:x.length≤16)(hc:∀r∈x,PC 42 [.agg (Ag r)] (.agg (Ag r)))(c:Int)(og:c≠0)(hk:A6 Tryz.prog 37 [.agg [.msl 1000 ((EI Dh x.length x).map Ag).length,.v (.slice none 0 0)]] (Ak [(1000,.arr 9 ((EI Dh x.length x).map Ag))] Aa) fun r h'=>r=vi c∧h'=Ak [(1000,.arr 9 ((EI Dh x.length x).map Ag))] Aa):PC 72 [sl Ag x] (.tup [.v (.slice none 0 0),vi c]):=by
 refine Ps ⟨[],[],[(4,9)],[],[],[],[],[],[],[],[7,8,11]⟩ Tryz.func72 rfl (Nz rfl) ?_;refine Xi {q:Nat // q≤x.length} (Xi (fun q=>⟨[(4,.msl 4 (x.take q.1).length),(8,sl Ag x),(9,vi (x.map Ag).length),(10,vi q.1)],[(4,.arr 9 ((x.take q.1).map Ag))],Aa⟩) (Xi (fun q=>x.length-q.1) (Yi (Xi ⟨0,AD _⟩ ?_) ?_)))
 ·exact⟨Z4,Z1,Fh,Tv⟩
 intro⟨i,i1⟩;have i1:i≤x.length:=i1;refine Yi (fun h1=>?_) (fun h1=>?_)
 ·have h1:(i:Int)<((x.map Ag).length:Int):=h1;have n1:=JT h1;refine Xi (Ag x[i]) (Yi (Ns n1) (Yi rfl ?_));refine Yi (Nz rfl) ?_;refine Yi (Nz rfl) ?_;refine Yi (Nz rfl) ?_;refine Xi .pure (Xi _ (Yi (hc x[i] (At n1)) ?_));have b2:CQ 9 [(Ag x[i])]∧((x.take i).map Ag).length=(x.take i).length∧(((x.take i).map Ag).length+([(Ag x[i])]:List (List AV)).length)*120≤140737488355328∧((x.take i).map Ag).length+([(Ag x[i])]:List (List AV)).length≤9223372036854775807:=⟨⟨rfl,trivial⟩,(by rw[Lm]),(by simp only[Lm,Az,AJ,AC];omega),(by simp only[Lm,Az,AJ,AC];omega)⟩;refine Yi b2 ?_;refine Yi (Ii i (by omega)) ?_;refine Xi ⟨i+1,n1⟩ ?_;exact⟨Dl x.length i (by omega),⟨⟨(show AV.msl 4 (((x.take i).map Ag).length+([Ag x[i]]:List (List AV)).length)=.msl 4 (x.take (i+1)).length by rw[DA n1,Ae,Lm];rfl),rfl⟩,Zr,Zr,Zr,Tv⟩,⟨⟨(show HO.arr 9 ((x.take i).map Ag++[Ag x[i]])=.arr 9 ((x.take (i+1)).map Ag) by rw[DA n1,Ay];rfl),rfl⟩,Tv⟩,Fh,Tv⟩
 have h1:¬((i:Int)<((x.map Ag).length:Int)):=h1;have n1:=JS h1;have ei:x.take i=x:=Aw (by omega);refine Xi ⟨[(4,.msl 4 x.length)],[(4,.arr 9 (x.map Ag))],Aa⟩ (Yi ⟨⟨⟨(show AV.msl 4 (x.take i).length=.msl 4 x.length by rw[ei]),rfl⟩,Tv⟩,⟨⟨(show HO.arr 9 ((x.take i).map Ag)=.arr 9 (x.map Ag) by rw[ei]),rfl⟩,Tv⟩,Fh,Tv⟩ ?_)
 refine Xi (.gen [(4,1000)] 0) (Yi rfl (A6.to2 (v105 x hx) ?_));refine Xi ⟨[(4,.msl 4 ((EI Dh x.length x).map Ag).length)],[(4,.arr 9 ((EI Dh x.length x).map Ag))],Aa⟩ (Yi ⟨⟨⟨(show AV.msl 4 x.length=.msl 4 ((EI Dh x.length x).map Ag).length by rw[Lm,Mg]),rfl⟩,Tv⟩,Z1,Fh,Tv⟩ ?_)
 refine Xi (.gen [(4,1000)] 0) (Yi rfl (A6.to2 hk ?_));refine Yi (fun h4=>?_) (fun h4=>?_)
 ·have h4:(c:Int)≠(0:Int):=h4;exact .refl _
 have h4:(c:Int)=(0:Int):=AN h4;exact absurd h4 og
end Go.Eng
