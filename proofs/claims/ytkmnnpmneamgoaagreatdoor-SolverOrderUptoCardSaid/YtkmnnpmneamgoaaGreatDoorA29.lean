/- Lemmas for the claims of this seat, without a condition: part 29 (S19, S20, S21, S22, S23). -/
import Derived.Test.YtkmnnpmneamgoaaGreatDoorA28
namespace Go.Eng
open Go.Proofs
abbrev kL:O3:=⟨[2],[],[],[],[],[],[],[(50,(9,3,95,3))],[(44,0)],[(100016,1009)],[3,4,5,6,7,8,9,10,11,14,15,16]⟩
abbrev an0:An:=⟨false,[],[],[]⟩
def Ft(x:List Rl)(roots:List Rq):An:=if CR x roots=true∧(Eu x roots).ss.full=false then aW x roots else an0
def Fu(x:List Rl)(roots:List Rq):Int:=if CR x roots=true then if(Eu x roots).ss.full=true then 7 else 0 else 1
abbrev Zt(x:List Rl)(roots:List Rq):AV:=.tup [.agg (Jb (Ft x roots)),vi (Fu x roots)]
theorem GO.an0{v:AV}:GO (.tup [.agg [vb false,.v (.slice none 0 0),.v (.slice none 0 0),.v (.slice none 0 0)],v]) (.tup [.agg (Jb an0),v]) :=
 GO.tup ⟨GO.agg ⟨.refl _,.nil,.nil,.nil,trivial⟩,.refl _,trivial⟩
theorem Tw{x:List Rl}{roots:List Rq}(hx:∀r∈x,Io r)(hr:∀q∈roots,Js q)(h0:A6 x=0)(h1:BE roots=0){L:List ByteArray}(hl:L.Perm (AO (yR x) [])){o:Ju}(ho:Eu x roots=o) :
  Bn Tryz.prog 45 [.ref 1000 0] (Ad (HL roots (mC x) (L.map (kA x)) JA [] []) Aa) (Yf roots (mC x) (L.map (kA x)) o):=by
 rw[←ho];exact wP (eF hx hr h0 h1 hl) (x.length+1) (.nil x) (IG.nil roots) ⟨⟨rfl,AS _⟩,Fd⟩ rfl (Nat.lt_succ_of_le (By _ _)) rfl
theorem HH{x:List Rl}{roots:List Rq}(h:CR x roots=true):A6 x=0∧BE roots=0:=by
 unfold CR at h;rw[Af,Az,Az]at h;exact h
set_option maxHeartbeats 4000000 in
theorem kW(x:List Rl)(ifs:List (List AV))(roots:List Rq)(hx:∀r∈x,Io r)(hr:∀q∈roots,Js q)(hv:CR x roots=false):PC 21 [MQ x ifs,sl Ah roots] (.tup [.agg (Jb an0),vi 1]):=by
 have Ku:=oP x ifs roots hx hr;rw[hv]at Ku;refine Ps kL Tryz.func21 rfl (Nz rfl) ?_;refine Yi ?_ ?_
 ·exact Nz rfl
 refine Xi .pure (Xi _ (Yi Ku ?_));refine Yi ?_ ?_
 ·exact Nz rfl
 refine Yi ?_ ?_
 ·exact Nz rfl
 exact GO.an0
set_option maxHeartbeats 4000000 in
theorem il(x:List Rl)(ifs:List (List AV))(roots:List Rq)(hx:∀r∈x,Io r)(hr:∀q∈roots,Js q)(hv:CR x roots=true)(h0:A6 x=0)(h1:BE roots=0)(k:Nat)(infs:List Nf)(drv:List (List Tm))(dec:List Cd)(st:List (List Sk))(ho:Eu x roots=⟨k,false,⟨infs,drv,true⟩,dec,st⟩):PC 21 [MQ x ifs,sl Ah roots] (.tup [.agg (Jb an0),vi 7]):=by
 have Ku:=oP x ifs roots hx hr;rw[hv]at Ku;refine Ps kL Tryz.func21 rfl (Nz rfl) ?_;refine Yi ?_ ?_
 ·exact Nz rfl
 refine Xi .pure (Xi _ (Yi Ku ?_));refine Xi ⟨[(1,sl Ah roots),(2,.ref 2 0),(4,.ref 4 0)],[(2,.ro (Ic x ifs)),(4,.cells [vb false,.v (.slice none 0 0),.v (.slice none 0 0),.v (.slice none 0 0)])],Aa⟩ (Yi ⟨Z3,Z2,Fh,Tv⟩ ?_)
 refine Yi ?_ ?_
 ·exact Nz rfl
 refine Xi (.gen [] 5) (Yi rfl ((su x ifs roots hx h0).imp ?_));intro v g q;refine BC q (fun L q=>?_);have q1:=q.2.1;have q2:=q.2.2;have qp:=q.1;subst q1;subst q2;refine Xi ⟨[(4,.ref 4 0),(6,.ref 11900 0)],[(4,.cells [vb false,.v (.slice none 0 0),.v (.slice none 0 0),.v (.slice none 0 0)]),(11900,.cells [sl Ah roots,.cmap Dv (mC x),.cmap Dv (L.map (kA x)),.slice (.id 11901 6) [],.slice (.id 11902 1) [],.mref 11903,vb false,.slice .none [],.slice .none [],.msl 11904 0]),(11901,.tok 6 0),(11902,.tok 1 0),(11903,.map Dj []),(11904,.arr 1 [])],Aa⟩ (Yi ⟨Z2,Z6,Fh,Tv⟩ ?_)
 refine Xi (.gen [(11900,1000),(11901,1001),(11902,1002),(11903,1003),(11904,1004)] 1) (Yi rfl ((Tw hx hr h0 h1 qp ho).imp ?_));intro v g q;have q1:=q.1;have q2:=q.2;subst q1;subst q2;refine Xi ⟨[(4,.ref 4 0),(6,.ref 11900 0),(7,vi (k:Nat)),(8,vb false)],[(4,.cells [vb false,.v (.slice none 0 0),.v (.slice none 0 0),.v (.slice none 0 0)]),(11900,.cells [sl Ah roots,.cmap Dv (mC x),.cmap Dv (L.map (kA x)),.slice (.id 11901 6) (infs.map AU),.slice (.id 11902 1) (drv.map AG),.mref 11903,vb true,sl Au dec,sl Aq (Ax dec),.msl 12200 st.length]),(11901,.tok 6 infs.length),(11902,.tok 1 drv.length),(11903,.map Dj (DT 0 infs)),(12200,.arr 1 (st.map AP))],Aa⟩ (Yi ⟨Z4,Z6,Fh,Tv⟩ ?_)
 refine Yi (fun _=>?_) (fun h=>by cases h);refine Xi ⟨[(4,.ref 4 0)],[(4,.cells [vb false,.v (.slice none 0 0),.v (.slice none 0 0),.v (.slice none 0 0)])],Aa⟩ (Yi ⟨Z1,Z1,Fh,Tv⟩ ?_)
 refine Yi ?_ ?_
 ·exact Nz rfl
 refine Yi ?_ ?_
 ·exact Nz rfl
 exact GO.an0
set_option maxHeartbeats 4000000 in
theorem nW(x:List Rl)(ifs:List (List AV))(roots:List Rq)(hx:∀r∈x,Io r)(hr:∀q∈roots,Js q)(hv:CR x roots=true)(h0:A6 x=0)(h1:BE roots=0)(k:Nat)(infs:List Nf)(drv:List (List Tm))(dec:List Cd)(st:List (List Sk))(ho:Eu x roots=⟨k,false,⟨infs,drv,false⟩,dec,st⟩)(hk:k<infs.length)(hl:infs.length≤65536):PC 21 [MQ x ifs,sl Ah roots] (.tup [.agg (Jb ⟨false,[],infs.take (k+1),[]⟩),vi 0]):=by
 have Ku:=oP x ifs roots hx hr;rw[hv]at Ku;refine Ps kL Tryz.func21 rfl (Nz rfl) ?_;refine Yi ?_ ?_
 ·exact Nz rfl
 refine Xi .pure (Xi _ (Yi Ku ?_));refine Xi ⟨[(1,sl Ah roots),(2,.ref 2 0),(4,.ref 4 0)],[(2,.ro (Ic x ifs)),(4,.cells [vb false,.v (.slice none 0 0),.v (.slice none 0 0),.v (.slice none 0 0)])],Aa⟩ (Yi ⟨Z3,Z2,Fh,Tv⟩ ?_)
 refine Yi ?_ ?_
 ·exact Nz rfl
 refine Xi (.gen [] 5) (Yi rfl ((su x ifs roots hx h0).imp ?_));intro v g q;refine BC q (fun L q=>?_);have q1:=q.2.1;have q2:=q.2.2;have qp:=q.1;subst q1;subst q2;refine Xi ⟨[(4,.ref 4 0),(6,.ref 11900 0)],[(4,.cells [vb false,.v (.slice none 0 0),.v (.slice none 0 0),.v (.slice none 0 0)]),(11900,.cells [sl Ah roots,.cmap Dv (mC x),.cmap Dv (L.map (kA x)),.slice (.id 11901 6) [],.slice (.id 11902 1) [],.mref 11903,vb false,.slice .none [],.slice .none [],.msl 11904 0]),(11901,.tok 6 0),(11902,.tok 1 0),(11903,.map Dj []),(11904,.arr 1 [])],Aa⟩ (Yi ⟨Z2,Z6,Fh,Tv⟩ ?_)
 refine Xi (.gen [(11900,1000),(11901,1001),(11902,1002),(11903,1003),(11904,1004)] 1) (Yi rfl ((Tw hx hr h0 h1 qp ho).imp ?_));intro v g q;have q1:=q.1;have q2:=q.2;subst q1;subst q2;refine Xi ⟨[(4,.ref 4 0),(6,.ref 11900 0),(7,vi (k:Nat)),(8,vb false)],[(4,.cells [vb false,.v (.slice none 0 0),.v (.slice none 0 0),.v (.slice none 0 0)]),(11900,.cells [sl Ah roots,.cmap Dv (mC x),.cmap Dv (L.map (kA x)),.slice (.id 11901 6) (infs.map AU),.slice (.id 11902 1) (drv.map AG),.mref 11903,vb false,sl Au dec,sl Aq (Ax dec),.msl 12200 st.length]),(11901,.tok 6 infs.length),(11902,.tok 1 drv.length),(11903,.map Dj (DT 0 infs)),(12200,.arr 1 (st.map AP))],Aa⟩ (Yi ⟨Z4,Z6,Fh,Tv⟩ ?_)
 refine Yi (fun h=>by cases h) (fun _=>?_);refine Xi ⟨[(4,.ref 4 0),(6,.ref 11900 0),(7,vi (k:Nat)),(8,vb false)],[(4,.cells [vb false,.v (.slice none 0 0),.v (.slice none 0 0),.v (.slice none 0 0)]),(11900,.cells [sl Ah roots,.cmap Dv (mC x),.cmap Dv (L.map (kA x)),.slice (.id 11901 6) (infs.map AU),.slice (.id 11902 1) (drv.map AG),.mref 11903,vb false,sl Au dec,sl Aq (Ax dec),.msl 12200 st.length]),(11901,.tok 6 infs.length),(11902,.tok 1 drv.length),(11903,.map Dj (DT 0 infs)),(12200,.arr 1 (st.map AP))],Aa⟩ (Yi ⟨Z4,Z6,Fh,Tv⟩ ?_)
 refine Xi ⟨[(4,.ref 4 0),(6,.ref 11900 0),(7,vi (k:Nat))],[(4,.cells [vb false,.v (.slice none 0 0),.v (.slice none 0 0),.v (.slice none 0 0)]),(11900,.cells [sl Ah roots,.cmap Dv (mC x),.cmap Dv (L.map (kA x)),.slice (.id 11901 6) (infs.map AU),.slice (.id 11902 1) (drv.map AG),.mref 11903,vb false,sl Au dec,sl Aq (Ax dec),.msl 12200 st.length]),(11901,.tok 6 infs.length),(11902,.tok 1 drv.length),(11903,.map Dj (DT 0 infs)),(12200,.arr 1 (st.map AP))],Aa⟩ (Yi ⟨Z3,Z6,Fh,Tv⟩ ?_)
 refine Yi (Ii k (by omega)) ?_;have el:(infs.map AU).length=infs.length:=Lm ..;refine Yi ⟨BP _,by show(0:Int)≤(k:Int)+1;omega,by show(k:Int)+1≤((infs.map AU).length:Int);rw[el];omega⟩ ?_;refine Yi (fun cs hcs=>by obtain⟨i,_,rfl⟩:=Ao.1 hcs;rfl) ?_;refine Yi ?_ ?_
 ·exact Nz rfl
 refine Yi ?_ ?_
 ·exact Nz rfl
 have et:((infs.map AU).take ((k:Int)+1).toNat).drop (0:Int).toNat=(infs.take (k+1)).map AU:=by
  rw[show((k:Int)+1).toNat=k+1 by omega];simp
 exact GO.tup ⟨GO.agg ⟨.refl _,.nil,.of_eq (show AV.slice .none (((infs.map AU).take ((k:Int)+1).toNat).drop (0:Int).toNat)=_ by rw[et]),.nil,trivial⟩,.refl _,trivial⟩
theorem UO(y:Sl):∀l:List Sl,(T7 y l).Perm (y::l)
 | []=>.refl _
 |z::l=>by
  unfold T7;split
  ·exact .refl _
  ·exact((UO y l).cons z).trans (List.Perm.swap y z l)
theorem Jo:∀l:List Sl,(Dd l).Perm l
 | []=>.refl _
 |y::l=>(UO y _).trans ((Jo l).cons y)
theorem WY{b:Nat}:∀{st:List (List Sk)},(∀s∈st,s.length≤b)→st.flatten.length≤b*st.length
 | [],_=>by simp
 |s::st,h=>by
  rw[BL,Ac,Al,Nat.mul_succ]
  have:=h s (Ab ..)
  have:=WY (st:=st) fun t ht=>h t (Ag _ ht)
  omega
theorem ip{st:List (List Sk)}(h:st.length≤256)(hs:∀s∈st,s.length≤256)(i:Nat):((st.take i).flatten).length≤65536:=by
 have h1:=WY (b:=256) (st:=st.take i) fun s Wn=>hs s (DQ Wn)
 have:(st.take i).length≤256:=by rw[AN];omega
 omega
set_option maxHeartbeats 4000000 in
theorem kX(x:List Rl)(ifs:List (List AV))(roots:List Rq)(hx:∀r∈x,Io r)(hr:∀q∈roots,Js q)(hv:CR x roots=true)(h0:A6 x=0)(h1:BE roots=0)(k:Nat)(infs:List Nf)(drv:List (List Tm))(dec:List Cd)(st:List (List Sk))(ho:Eu x roots=⟨k,true,⟨infs,drv,false⟩,dec,st⟩)(hd:dec.length≤256)(hn:((Ax dec).map (·.path)).Nodup)(FK:st.length≤256)(xY:∀s∈st,s.length≤256):PC 21 [MQ x ifs,sl Ah roots] (.tup [.agg (Jb ⟨true,Dd (Ax dec),infs,st.flatten⟩),vi 0]):=by
 have Ku:=oP x ifs roots hx hr;rw[hv]at Ku;refine Ps kL Tryz.func21 rfl (Nz rfl) ?_;refine Yi ?_ ?_
 ·exact Nz rfl
 refine Xi .pure (Xi _ (Yi Ku ?_));refine Xi ⟨[(1,sl Ah roots),(2,.ref 2 0),(4,.ref 4 0)],[(2,.ro (Ic x ifs)),(4,.cells [vb false,.v (.slice none 0 0),.v (.slice none 0 0),.v (.slice none 0 0)])],Aa⟩ (Yi ⟨Z3,Z2,Fh,Tv⟩ ?_)
 refine Yi ?_ ?_
 ·exact Nz rfl
 refine Xi (.gen [] 5) (Yi rfl ((su x ifs roots hx h0).imp ?_));intro v g q;refine BC q (fun L q=>?_);have q1:=q.2.1;have q2:=q.2.2;have qp:=q.1;subst q1;subst q2;refine Xi ⟨[(4,.ref 4 0),(6,.ref 11900 0)],[(4,.cells [vb false,.v (.slice none 0 0),.v (.slice none 0 0),.v (.slice none 0 0)]),(11900,.cells [sl Ah roots,.cmap Dv (mC x),.cmap Dv (L.map (kA x)),.slice (.id 11901 6) [],.slice (.id 11902 1) [],.mref 11903,vb false,.slice .none [],.slice .none [],.msl 11904 0]),(11901,.tok 6 0),(11902,.tok 1 0),(11903,.map Dj []),(11904,.arr 1 [])],Aa⟩ (Yi ⟨Z2,Z6,Fh,Tv⟩ ?_)
 refine Xi (.gen [(11900,1000),(11901,1001),(11902,1002),(11903,1003),(11904,1004)] 1) (Yi rfl ((Tw hx hr h0 h1 qp ho).imp ?_));intro v g q;have q1:=q.1;have q2:=q.2;subst q1;subst q2;refine Xi ⟨[(4,.ref 4 0),(6,.ref 11900 0),(7,vi (k:Nat)),(8,vb true)],[(4,.cells [vb false,.v (.slice none 0 0),.v (.slice none 0 0),.v (.slice none 0 0)]),(11900,.cells [sl Ah roots,.cmap Dv (mC x),.cmap Dv (L.map (kA x)),.slice (.id 11901 6) (infs.map AU),.slice (.id 11902 1) (drv.map AG),.mref 11903,vb false,sl Au dec,sl Aq (Ax dec),.msl 12200 st.length]),(11901,.tok 6 infs.length),(11902,.tok 1 drv.length),(11903,.map Dj (DT 0 infs)),(12200,.arr 1 (st.map AP))],Aa⟩ (Yi ⟨Z4,Z6,Fh,Tv⟩ ?_)
 refine Yi (fun h=>by cases h) (fun _=>?_);refine Xi ⟨[(4,.ref 4 0),(6,.ref 11900 0),(8,vb true)],[(4,.cells [vb false,.v (.slice none 0 0),.v (.slice none 0 0),.v (.slice none 0 0)]),(11900,.cells [sl Ah roots,.cmap Dv (mC x),.cmap Dv (L.map (kA x)),.slice (.id 11901 6) (infs.map AU),.slice (.id 11902 1) (drv.map AG),.mref 11903,vb false,sl Au dec,sl Aq (Ax dec),.msl 12200 st.length]),(11901,.tok 6 infs.length),(11902,.tok 1 drv.length),(11903,.map Dj (DT 0 infs)),(12200,.arr 1 (st.map AP))],Aa⟩ (Yi ⟨Z3,Z6,Fh,Tv⟩ ?_)
 refine Xi ⟨[(4,.ref 4 0),(6,.ref 11900 0)],[(4,.cells [vb false,.v (.slice none 0 0),.v (.slice none 0 0),.v (.slice none 0 0)]),(11900,.cells [sl Ah roots,.cmap Dv (mC x),.cmap Dv (L.map (kA x)),.slice (.id 11901 6) (infs.map AU),.slice (.id 11902 1) (drv.map AG),.mref 11903,vb false,sl Au dec,sl Aq (Ax dec),.msl 12200 st.length]),(11901,.tok 6 infs.length),(11902,.tok 1 drv.length),(11903,.map Dj (DT 0 infs)),(12200,.arr 1 (st.map AP))],Aa⟩ (Yi ⟨Z2,Z6,Fh,Tv⟩ ?_)
 have dy:(Ax dec).length≤256:=by rw[Lm];exact hd
 have Xg:Cv (Ax dec):=Bh dy (by decide);refine Xi (Ax dec).length (Xi 4 (Xi ((Ax dec).map Aq) (Yi rfl (Yi (rL (Ax dec) Xg) ?_))));refine Yi ?_ ?_
 ·exact Nz rfl
 refine Yi (by kernel_rfl) ?_;refine Xi ⟨[(4,.ref 4 0),(6,.ref 11900 0),(9,.ref 9 0)],[(4,.cells [vb false,.v (.slice none 0 0),.v (.slice none 0 0),.v (.slice none 0 0)]),(9,.cells [vb true,.msl 14400 (Ax dec).length,.slice (.id 11901 6) (infs.map AU),.v (.slice none 0 0)]),(11900,.cells [sl Ah roots,.cmap Dv (mC x),.cmap Dv (L.map (kA x)),.slice (.id 11901 6) (infs.map AU),.slice (.id 11902 1) (drv.map AG),.mref 11903,vb false,sl Au dec,sl Aq (Ax dec),.msl 12200 st.length]),(11901,.tok 6 infs.length),(11902,.tok 1 drv.length),(11903,.map Dj (DT 0 infs)),(12200,.arr 1 (st.map AP)),(14400,.arr 4 ((Ax dec).map Aq))],Aa⟩ (Yi ⟨Z3,Z8,Fh,Tv⟩ ?_)
 refine Xi (.gen [(14400,1000)] 0) (Yi rfl ((yu 48 Tryz.closure48 (enters_of Tryz.func48 (by kernel_rfl) rfl) (Ax dec) Xg hn).imp ?_));intro v g q;have q1:=q.1;have q2:=q.2;subst q1;subst q2;refine Xi ⟨[(4,.ref 4 0),(6,.ref 11900 0),(9,.ref 9 0)],[(4,.cells [vb false,.v (.slice none 0 0),.v (.slice none 0 0),.v (.slice none 0 0)]),(9,.cells [vb true,.msl 14400 (Ax dec).length,.slice (.id 11901 6) (infs.map AU),.slice (.id 95 3) []]),(95,.tok 3 0),(11900,.cells [sl Ah roots,.cmap Dv (mC x),.cmap Dv (L.map (kA x)),.slice (.id 11901 6) (infs.map AU),.slice (.id 11902 1) (drv.map AG),.mref 11903,vb false,sl Au dec,sl Aq (Ax dec),.msl 12200 st.length]),(11901,.tok 6 infs.length),(11902,.tok 1 drv.length),(11903,.map Dj (DT 0 infs)),(12200,.arr 1 (st.map AP)),(14400,.arr 4 ((Dd (Ax dec)).map Aq))],Aa⟩ (Yi ⟨Z3,Z9,Fh,Tv⟩ ?_)
 refine Xi {i:Nat // i≤st.length} (Xi (fun i=>⟨[(4,.ref 4 0),(6,.ref 11900 0),(9,.ref 9 0),(56,.msl 12200 st.length),(57,vi (st.length:Nat)),(58,vi i.1)],[(4,.cells [vb false,.v (.slice none 0 0),.v (.slice none 0 0),.v (.slice none 0 0)]),(9,.cells [vb true,.msl 14400 (Ax dec).length,.slice (.id 11901 6) (infs.map AU),.slice (.id 95 3) ((st.take i.1).flatten.map Bw)]),(95,.tok 3 ((st.take i.1).flatten.map Bw).length),(11900,.cells [sl Ah roots,.cmap Dv (mC x),.cmap Dv (L.map (kA x)),.slice (.id 11901 6) (infs.map AU),.slice (.id 11902 1) (drv.map AG),.mref 11903,vb false,sl Au dec,sl Aq (Ax dec),.msl 12200 st.length]),(11901,.tok 6 infs.length),(11902,.tok 1 drv.length),(11903,.map Dj (DT 0 infs)),(12200,.arr 1 (st.map AP)),(14400,.arr 4 ((Dd (Ax dec)).map Aq))],Aa⟩) (Xi (fun i=>st.length-i.1) (Yi (Xi ⟨0,AS _⟩ ?_) ?_)))
 ·exact⟨Z6,Z9,Fh,Tv⟩
 intro⟨i,i1⟩;have i1:i≤st.length:=i1;refine Yi ?_ ?_
 ·intro h;have h:(i:Int)<(st.length:Nat):=h;have h:i<st.length:=by omega
  have hg:st[i]?=some st[i]:=Ge h;have Kv:st.take (i+1)=st.take i++[st[i]]:=by rw[Bk,hg];rfl
  refine Yi (Yi (Nn i) (by show(i:Int)<(st.length:Nat);omega)) ?_;refine Yi (by rw[Lm]) (Xi (AP st[i]) (Yi (by show(st.map AP)[((i:Nat):Int).toNat]?=_;rw[BT,AH,hg];rfl) ?_));refine Xi ⟨[(4,.ref 4 0),(6,.ref 11900 0),(9,.ref 9 0),(11,sl Bw st[i]),(56,.msl 12200 st.length),(57,vi (st.length:Nat)),(58,vi i)],[(4,.cells [vb false,.v (.slice none 0 0),.v (.slice none 0 0),.v (.slice none 0 0)]),(9,.cells [vb true,.msl 14400 (Ax dec).length,.slice (.id 11901 6) (infs.map AU),.slice (.id 95 3) ((st.take i).flatten.map Bw)]),(95,.tok 3 ((st.take i).flatten.map Bw).length),(11900,.cells [sl Ah roots,.cmap Dv (mC x),.cmap Dv (L.map (kA x)),.slice (.id 11901 6) (infs.map AU),.slice (.id 11902 1) (drv.map AG),.mref 11903,vb false,sl Au dec,sl Aq (Ax dec),.msl 12200 st.length]),(11901,.tok 6 infs.length),(11902,.tok 1 drv.length),(11903,.map Dj (DT 0 infs)),(12200,.arr 1 (st.map AP)),(14400,.arr 4 ((Dd (Ax dec)).map Aq))],Aa⟩ (Yi ⟨Z7,Z9,Fh,Tv⟩ ?_)
  have hfl:((st.take i).flatten).length≤65536∧st[i].length≤256:=⟨ip FK xY i,xY _ (AC _)⟩;have Ei:BY 3 (st[i].map Bw)∧((st.take i).flatten.map Bw).length=((st.take i).flatten.map Bw).length∧(((st.take i).flatten.map Bw).length+(st[i].map Bw).length)*32≤140737488355328∧((st.take i).flatten.map Bw).length+(st[i].map Bw).length≤9223372036854775807:=by
   refine⟨Es (enc:=Bw) (n:=3) (fun _=>rfl) _,rfl,?_,?_⟩<;>simp only[Lm]<;>omega
  refine Yi Ei ?_;refine Yi ?_ ?_
  ·exact Nz rfl
  have ef:((st.take i).flatten.map Bw)++st[i].map Bw=((st.take (i+1)).flatten.map Bw):=by rw[Kv,Ct,AB];simp
  have en:((st.take i).flatten.map Bw).length+(st[i].map Bw).length=((st.take (i+1)).flatten.map Bw).length:=by rw[←ef,Ac]
  refine Xi ⟨[(4,.ref 4 0),(6,.ref 11900 0),(9,.ref 9 0),(56,.msl 12200 st.length),(57,vi (st.length:Nat)),(58,vi i)],[(4,.cells [vb false,.v (.slice none 0 0),.v (.slice none 0 0),.v (.slice none 0 0)]),(9,.cells [vb true,.msl 14400 (Ax dec).length,.slice (.id 11901 6) (infs.map AU),.slice (.id 95 3) ((st.take (i+1)).flatten.map Bw)]),(95,.tok 3 ((st.take (i+1)).flatten.map Bw).length),(11900,.cells [sl Ah roots,.cmap Dv (mC x),.cmap Dv (L.map (kA x)),.slice (.id 11901 6) (infs.map AU),.slice (.id 11902 1) (drv.map AG),.mref 11903,vb false,sl Au dec,sl Aq (Ax dec),.msl 12200 st.length]),(11901,.tok 6 infs.length),(11902,.tok 1 drv.length),(11903,.map Dj (DT 0 infs)),(12200,.arr 1 (st.map AP)),(14400,.arr 4 ((Dd (Ax dec)).map Aq))],Aa⟩ (Yi ⟨Z6,⟨Zr,⟨Ae (fun z=>HO.cells [vb true,.msl 14400 (Ax dec).length,.slice (.id 11901 6) (infs.map AU),.slice (.id 95 3) z]) ef,rfl⟩,⟨Ae (HO.tok 3) en,rfl⟩,Zr,Zr,Zr,Zr,Zr,Zr,Tv⟩,Fh,Tv⟩ ?_)
  refine Yi (Ii i (by omega)) ?_;refine Xi ⟨i+1,by omega⟩ ?_;exact⟨Dl st.length i (by omega),Z6,Z9,Fh,Tv⟩
 ·intro h;have h:¬(i:Int)<(st.length:Nat):=h;have et:st.take i=st:=AI (by omega);have UK:(Ax dec).length=((Dd (Ax dec)).map Aq).length:=(Jo (Ax dec)).length_eq.symm.trans (Lm ..).symm;refine Yi UK ?_;refine Xi ⟨[(4,.ref 4 0),(9,.ref 9 0)],[(4,.cells [vb false,.v (.slice none 0 0),.v (.slice none 0 0),.v (.slice none 0 0)]),(9,.cells [vb true,.slice (.id 14400 4) ((Dd (Ax dec)).map Aq),.slice (.id 11901 6) (infs.map AU),.slice (.id 95 3) (st.flatten.map Bw)]),(95,.tok 3 (st.flatten.map Bw).length),(11901,.tok 6 infs.length),(14400,.tok 4 ((Dd (Ax dec)).map Aq).length)],Aa⟩ (Yi ⟨Z2,⟨Zr,⟨Ae (fun z:List (List Sk)=>HO.cells [vb true,.slice (.id 14400 4) ((Dd (Ax dec)).map Aq),.slice (.id 11901 6) (infs.map AU),.slice (.id 95 3) (z.flatten.map Bw)]) et,rfl⟩,⟨Ae (fun z:List (List Sk)=>HO.tok 3 (z.flatten.map Bw).length) et,rfl⟩,Zr,Zr,Tv⟩,Fh,Tv⟩ ?_)
  refine Yi ?_ ?_
  ·exact Nz rfl
  refine Yi ?_ ?_
  ·exact Nz rfl
  refine Yi ?_ ?_
  ·exact Nz rfl
  exact .refl _
end Go.Eng

namespace Go.Eng
open Go.Proofs
theorem PO{s:SS}{b:List Cd}{p:ByteArray}{needs:List Nd}:∀{cs:List Cd} {sk:List Sk},GX s b p needs cs sk→sk.length≤cs.length
 | [],sk,h=>by
  have h:sk=[]:=h;rw[h];exact Ak _
 |c::cs,sk,h=>by
  have h:if(needs.all fun n=>has n.rq.set c.place)=true then _ else _:=h
  by_cases hc:(needs.all fun n=>has n.rq.set c.place)=true
  ·rw[Aw hc]at h;obtain⟨k,rest,rfl,_,h3⟩:=h
   have:=PO h3
   simp only[Al];omega
  ·rw[Am hc]at h
   have:=PO h
   simp only[Al];omega
theorem Uv{x:List Rl}{roots:List Rq}{s:SS}:∀{t:List Cd} {sl:List (List Sk)} {b:List Cd},RC x roots s b t sl→sl.length=t.length∧∀k∈sl,k.length≤x.length
 | [],[],_,_=>⟨rfl,fun _ h=>by cases h⟩
 | [],_::_,_,h=>h.elim
 |_::_,[],_,h=>h.elim
 |c::t,sk::sl,b,⟨⟨p,needs,pre,post,hs⟩,h⟩=>by
  obtain⟨h1,h2⟩:=Uv h;refine⟨by simp[h1],fun k hk=>?_⟩;rcases AF.1 hk with rfl | hk
  ·have e1:=PO hs.skips;have e2:=Pe x p;rw[hs.cands,Ac]at e2;omega
  ·exact h2 k hk
theorem sr(x:List Rl)(ifs:List (List AV))(roots:List Rq)(hx:∀r∈x,Io r)(hr:∀q∈roots,Js q):PC 21 [MQ x ifs,sl Ah roots] (Zt x roots):=by
 unfold Zt Ft Fu;cases hv:CR x roots with
 |false=>simpa using kW x ifs roots hx hr hv
 |true =>
  obtain⟨h0,h1⟩:=HH hv;have hR:=MG h0 h1;have ZX:=(Iz h0).1;have hA:aW x roots=if(Eu x roots).found=true then⟨true,Dd (Ax (Eu x roots).dec),(Eu x roots).ss.infs,(Eu x roots).stack.flatten⟩else⟨false,[],(Eu x roots).ss.infs.take ((Eu x roots).res+1),[]⟩:=rfl
  rw[hA];generalize ho:Eu x roots=o at hR⊢;obtain⟨k,b,⟨infs,drv,full⟩,dec,st⟩:=o;have hl:infs.length≤65536:=hR.der.len;have hdl:drv.length=infs.length:=hR.der.dlen;cases b with
  |false =>
   cases full with
   |true=>simpa using il x ifs roots hx hr hv h0 h1 k infs drv dec st ho
   |false =>
    have hk:k<drv.length:=((hR.no rfl).2.2 rfl).1;simpa using nW x ifs roots hx hr hv h0 h1 k infs drv dec st ho (by omega) hl
  |true =>
   obtain⟨hf,t,sl,e1,e2,hC,_⟩:=hR.yes rfl;have hf:full=false:=hf;subst hf;have e1:dec=[]++t:=e1;have e2:st=[]++sl:=e2;rw[D8]at e1 e2;subst e1;subst e2;have hD:DX x ([]++dec):=(RC.ok (.nil x) (.nil roots) hC).1;rw[D8]at hD;have hdx:=LQ hD;obtain⟨c1,c2⟩:=Uv hC;have hn:((Ax dec).map (·.path)).Nodup:=by rw[K6];exact hD.nodup
   simpa using kX x ifs roots hx hr hv h0 h1 k infs drv dec st ho (by omega) hn (by omega) (fun s hs=>Bh (c2 s hs) ZX)
def NP(x:List Rl)(roots:List Rq):Int:=if Fu x roots≠0 then Fu x roots else if(Ft x roots).found=true then 0 else 17
def QZ(x:List Rl)(roots:List Rq):List Sl:=if NP x roots=0 then(Ft x roots).sel else []
abbrev vM:O3:=⟨[2],[],[],[],[],[],[],[],[],[],[]⟩
set_option maxHeartbeats 4000000 in
theorem nV(x:List Rl)(ifs:List (List AV))(roots:List Rq)(a:An)(e:Int)(h:PC 21 [MQ x ifs,sl Ah roots] (.tup [.agg (Jb a),vi e])) :
  PC 16 [MQ x ifs,sl Ah roots] (.tup [if e≠0 then sl Aq []else if a.found=true then sl Aq a.sel else sl Aq [],vi (if e≠0 then e else if a.found=true then 0 else 17)]):=by
 refine Ps vM Tryz.func16 rfl (Nz rfl) ?_;refine Yi ?_ ?_
 ·exact Nz rfl
 refine Xi .pure (Xi _ (Yi h ?_));refine Yi ?_ ?_
 ·exact Nz rfl
 refine Yi (fun he=>?_) (fun he=>?_)
 ·have he:¬e=0:=he;have e1:AV.tup [sl Aq [],vi e]=.tup [if e≠0 then sl Aq []else if a.found=true then sl Aq a.sel else sl Aq [],vi (if e≠0 then e else if a.found=true then 0 else 17)]:=by rw[Aw he,Aw he]
  exact(show GO (.tup [.v (.slice none 0 0),vi e]) (.tup [sl Aq ([]:List Sl),vi e])from GO.tup ⟨.nil,.refl _,trivial⟩).trans (.of_eq e1)
 ·have he:e=0:=BZ.1 he;have Dn:¬e≠0:=fun h=>h he;refine Yi (fun hb=>?_) (fun hb=>?_)
  ·have hb:a.found=true:=hb;have e1:AV.tup [sl Aq a.sel,vi 0]=.tup [if e≠0 then sl Aq []else if a.found=true then sl Aq a.sel else sl Aq [],vi (if e≠0 then e else if a.found=true then 0 else 17)]:=by rw[Am Dn,Am Dn,Aw hb,Aw hb]
   exact .of_eq e1
  ·have hb:a.found=false:=hb;have hb:¬a.found=true:=by rw[hb];decide
   have e1:AV.tup [sl Aq [],vi 17]=.tup [if e≠0 then sl Aq []else if a.found=true then sl Aq a.sel else sl Aq [],vi (if e≠0 then e else if a.found=true then 0 else 17)]:=by rw[Am Dn,Am Dn,Am hb,Am hb]
   exact(show GO (.tup [.v (.slice none 0 0),vi 17]) (.tup [sl Aq ([]:List Sl),vi 17])from GO.tup ⟨.nil,.refl _,trivial⟩).trans (.of_eq e1)
theorem yr(x:List Rl)(ifs:List (List AV))(roots:List Rq)(hx:∀r∈x,Io r)(hr:∀q∈roots,Js q):PC 16 [MQ x ifs,sl Ah roots] (.tup [sl Aq (QZ x roots),vi (NP x roots)]):=by
 have h:=nV x ifs roots _ _ (sr x ifs roots hx hr);have e1:(if Fu x roots≠0 then sl Aq []else if(Ft x roots).found=true then sl Aq (Ft x roots).sel else sl Aq [])=sl Aq (QZ x roots):=by
  unfold QZ NP
  by_cases h1:Fu x roots=0
  ·by_cases h2:(Ft x roots).found=true
   ·simp[h1,h2]
   ·simp[h1,h2]
  ·simp[h1]
 have e2:(if Fu x roots≠0 then Fu x roots else if(Ft x roots).found=true then 0 else 17)=NP x roots:=rfl;rw[e1,e2]at h;exact h
end Go.Eng

namespace Go.Eng
open Go.Proofs
abbrev aO:Hh:=[(1009,1009),(1000,1000),(1001,1001),(1002,1002),(1003,1003),(1004,1004),(1005,1005),(1006,1006),(1007,1007),(1008,1008)]
abbrev Cz(l:List Sl):List AV:=[sl Aq l]
abbrev Ho(yl:Nat):List AV:=[.ref 1005 0,.cptr [.v (.func (.yield yl) #[] #[])],.ref 1006 0]
abbrev vH(roots:List Rq)(C A:List (Value×AV))(yl:Nat)(o:Obj)(dec:List Cd)(out:List (List Sl)):List (Nat×HO) :=
 [(1009,.raw yl o),(1000,.cells (OX roots C A JA dec 0)),(1001,.tok 6 0),(1002,.tok 1 0),(1003,.map Dj []),(1004,.arr 1 []),(1005,.cells [.ref 1000 0]),(1006,.cells [.clo 63 (Ho yl)]),(1007,.cells [.slice (.id 1008 1) (out.map Cz)]),(1008,.tok 1 out.length)]
noncomputable abbrev tK(pl:O3)(l:Nat)(Y:Gh→World→Prop):Cx:=⟨Tryz.prog,i7,pl,true,0,fun l' σ' g w=>l'=l→σ'=aO→Y g w⟩
abbrev oY(H:List (Nat×HO))(Y:Gh→World→Prop):Prop:=∀g w h' g' w',Dk w g (Ad H Aa) (Ad H Aa) g w→Dk w g (Ad H Aa) h' g' w'→Le (Ad H Aa) g w h' g' w'→Y g w→Y (CA aO g') w'
abbrev ND(l:List (List Cd)):List (List Sl):=l.map fun d=>Dd (Ax d)
abbrev V1(x:List Rl)(roots:List Rq)(n:Nat)(dec:List Cd)(N:List Nd)(c:Cd):List (List Cd):=if Wp dec N c then B9 x roots n (dec++[c])else []
abbrev VQ(roots:List Rq)(C A:List (Value×AV))(yl M:Nat)(ob:Bool→Obj)(dec:List Cd)(o:List (List Sl)):AV→(Nat→HO)→Prop :=
 fun r h'=>r=vb (decide (o.length≤M))∧h'=Ad (vH roots C A yl (ob (decide (o.length≤M))) dec (o.take M)) Aa
theorem VQ.le{roots:List Rq}{C A:List (Value×AV)}{yl M:Nat}{ob:Bool→Obj}{dec:List Cd}{o:List (List Sl)}{r:AV}{h' : Nat→HO}(hq:VQ roots C A yl M ob dec o r h')(h:o.length≤M) :
  r=vb true∧h'=Ad (vH roots C A yl (ob true) dec o) Aa:=by
 obtain⟨a,b⟩:=hq;rw[AE h]at a b;rw[AI h]at b;exact⟨a,b⟩
theorem VQ.gt{roots:List Rq}{C A:List (Value×AV)}{yl M:Nat}{ob:Bool→Obj}{dec:List Cd}{o:List (List Sl)}{r:AV}{h' : Nat→HO}(hq:VQ roots C A yl M ob dec o r h')(h:¬o.length≤M) :
  r=vb false∧h'=Ad (vH roots C A yl (ob false) dec (o.take M)) Aa:=by
 obtain⟨a,b⟩:=hq;rw[AD h]at a b;exact⟨a,b⟩
theorem VQ.of_le{roots:List Rq}{C A:List (Value×AV)}{yl M:Nat}{ob:Bool→Obj}{dec:List Cd}{o o' : List (List Sl)}(e:o'=o)(h:o'.length≤M):VQ roots C A yl M ob dec o (vb true) (Ad (vH roots C A yl (ob true) dec o') Aa):=by
 subst e;refine⟨?_,?_⟩
 ·rw[AE h]
 ·rw[AE h,AI h]
theorem VQ.of_gt{roots:List Rq}{C A:List (Value×AV)}{yl M:Nat}{ob:Bool→Obj}{dec:List Cd}{o o' : List (List Sl)}(h:¬o'.length≤M)(e:∃z,o=o'++z):VQ roots C A yl M ob dec o (vb false) (Ad (vH roots C A yl (ob false) dec (o'.take M)) Aa):=by
 obtain⟨z,rfl⟩:=e;have h2:¬(o'++z).length≤M:=by rw[Ac];omega
 refine⟨?_,?_⟩
 ·rw[AD h2]
 ·rw[AD h2,Fe (by omega)]
structure sy(x:List Rl)(roots:List Rq)(C A:List (Value×AV))(Y:Gh→World→Prop)(yl M n:Nat)(ob:Bool→Obj)(dec:List Cd)(p:ByteArray)(n0:Nd)(l:List Nd)(cs:List Cd):Prop where
 hdl:dec.length≤256
 hcl:cs.length≤256
 hnl:Cv (n0::l)
 hnq:∀n∈n0::l,Cv n.rq.set
 hcr:∀(i:Nat) (h:i<cs.length),cs[i].rel.reqs.length≤1073741824
 hcs_:∀(i:Nat) (h:i<cs.length),∀q∈cs[i].rel.reqs,Cv q.set
 hkey:∀(i:Nat) (h:i<cs.length),(Ax dec).map Aq++[[vs p,vi cs[i].rel.ver.a,vi cs[i].rel.ver.b,vi cs[i].rel.ver.c]]=(Ax (dec++[cs[i]])).map Aq
 ih:∀(i:Nat) (h:i<cs.length),Wp dec (n0::l) cs[i]=true→∀(out:List (List Sl)),out.length≤M →
  FS Tryz.prog Y 63 (Ho yl) (Ad (vH roots C A yl (ob true) (dec++[cs[i]]) out) Aa) (VQ roots C A yl M ob (dec++[cs[i]]) (out++ND (B9 x roots n (dec++[cs[i]]))))
def Li(f:Cd→List (List Cd))(cs:List Cd)(i:Nat):List (List Cd):=((cs.take i).map f).flatten
theorem Ve(f:Cd→List (List Cd))(cs:List Cd):Li f cs 0=[]:=rfl
theorem Vd{f:Cd→List (List Cd)}{cs:List Cd}{i:Nat}(h:i<cs.length):Li f cs (i+1)=Li f cs i++f cs[i]:=by
 unfold Li;rw[Kf h,AB,Ct];simp
theorem aI{f:Cd→List (List Cd)}{cs:List Cd}{i:Nat}(h:i<cs.length)(hf:f cs[i]=[]):Li f cs (i+1)=Li f cs i:=by rw[Vd h,hf,CP]
theorem s67(n:Nd)(c:Cd)(hq:Cv n.rq.set):PC 67 [.agg (AQ n),.cptr (Au c)] (vb (!has n.rq.set c.place)):=by
 refine Ps ⟨[2],[],[],[],[],[],[],[],[],[],[]⟩ Tryz.func67 rfl (Nz rfl) ?_;refine Cy (Bt (has n.rq.set c.place)) (fun h1=>?_) (fun h1=>?_)
 ·have h1:(has n.rq.set c.place)=true:=h1;have Re:=(mF n.rq.set c.place hq);rw[show(has n.rq.set c.place)=true from h1]at Re;refine Xi .pure (Xi _ (Yi Re ?_));exact .of_eq (show vb false=vb (!has n.rq.set c.place) by rw[h1];rfl)
 have h1:(has n.rq.set c.place)=false:=h1;have fo:=(mF n.rq.set c.place hq);rw[show(has n.rq.set c.place)=false from h1]at fo;refine Xi .pure (Xi _ (Yi fo ?_));exact .of_eq (show vb true=vb (!has n.rq.set c.place) by rw[h1];rfl)
end Go.Eng

namespace Go.Eng
open Go.Proofs
theorem Zw(f:Cd→List (List Cd))(cs:List Cd)(i:Nat):Li f cs cs.length=Li f cs i++((cs.drop i).map f).flatten:=by
 unfold Li;rw[DU,←Ct,←AB,EQ]
theorem re{dec:List Cd}{N:List Nd}{c:Cd}(h1:(N.any fun n=>!has n.rq.set c.place)=false)(h2:Dw dec c=none):Wp dec N c=true :=
 JR.2 ⟨fun n hn=>by have:=Fy.1 h1 n hn;simpa using this,h2⟩
theorem kn{x:List Rl}{roots:List Rq}{n:Nat}{dec:List Cd}{N:List Nd}{c:Cd}(h:(N.any fun n=>!has n.rq.set c.place)=true):V1 x roots n dec N c=[]:=by
 unfold V1;rw[Am];intro hc;obtain⟨m,h1,h2⟩:=Bf.1 h
 have:=(JR.1 hc).1 m h1
 rw[this]at h2;cases h2
theorem gg{x:List Rl}{roots:List Rq}{n:Nat}{dec:List Cd}{N:List Nd}{c:Cd}{m:Nd}(h:Dw dec c=some m):V1 x roots n dec N c=[]:=by
 unfold V1;rw[Am];intro hc
 have:=(JR.1 hc).2
 rw[this]at h;cases h
set_option maxHeartbeats 16000000 in
theorem wR(x:List Rl)(roots:List Rq)(C A:List (Value×AV))(Y:Gh→World→Prop)(yl M n:Nat)(ob:Bool→Obj)(dec:List Cd)(out:List (List Sl))(p:ByteArray)(n0:Nd)(l:List Nd)(cs:List Cd)(hL:sy x roots C A Y yl M n ob dec p n0 l cs)(FK:oY (vH roots C A yl (ob true) dec out) Y)
  (Iy:Bn Tryz.prog 64 [.ref 1000 0] (Ad (HL roots C A JA dec []) Aa) fun r h'=>r=.tup [vs p,sl AQ (n0::l)]∧h'=Ad (HL roots C A JA dec []) Aa)
  (tT:∀a,(Value.string p,a)∈C→a=sl Au cs) (mP:¬∀a,(Value.string p,a)∉C) (jS:B9 x roots (n+1) dec=Li (V1 x roots n dec (n0::l)) cs cs.length) (hM:out.length≤M) :
  FS Tryz.prog Y 63 (Ho yl) (Ad (vH roots C A yl (ob true) dec out) Aa) (VQ roots C A yl M ob dec (out++ND (B9 x roots (n+1) dec))):=by
 obtain⟨hdl,hcl,hnl,hnq,hcr,hcs_,hkey,ih⟩:=hL;have hdl:dec.length≤256:=hdl;have hcl:cs.length≤256:=hcl;refine Pa (l:=yl) (tK ⟨[8],[],[],[],[],[],[],[],[(63,3),(71,3)],[],[1,2,4,6,8,9,10,11,12,13,14,15,16,17]⟩ yl Y) aO aO rfl BS hm rfl Tryz.func63 (by kernel_rfl) rfl (Nz rfl) (by kernel_rfl) rfl rfl FK ?_;refine Xi ⟨[(0,.ref 1005 0),(1,.cptr [.v (.func (.yield yl) #[] #[])]),(2,.ref 1006 0)],[(1000,.cells (OX roots C A JA dec 0)),(1001,.tok 6 0),(1002,.tok 1 0),(1003,.map Dj []),(1004,.arr 1 []),(1005,.cells [.ref 1000 0]),(1006,.cells [.clo 63 [.ref 1005 0,.cptr [.v (.func (.yield yl) #[] #[])],.ref 1006 0]]),(1007,.cells [.slice (.id 1008 1) (out.map Cz)]),(1008,.tok 1 out.length),(1009,.raw yl (ob true))],Aa⟩ (Yi ⟨Z3,Z10,Fh,Aj (by kernel_rfl)⟩ ?_)
 refine Xi (.gen Ue 0) (Yi rfl (Bn.imp Iy ?_));intro v1 g1 q1;have Zj:=q1.1;have Zk:=q1.2;subst Zj;subst Zk;refine Xi ⟨[(0,.ref 1005 0),(1,.cptr [.v (.func (.yield yl) #[] #[])]),(2,.ref 1006 0),(4,vs p),(5,sl AQ (n0::l))],[(1000,.cells (OX roots C A JA dec 0)),(1001,.tok 6 0),(1002,.tok 1 0),(1003,.map Dj []),(1004,.arr 1 []),(1005,.cells [.ref 1000 0]),(1006,.cells [.clo 63 [.ref 1005 0,.cptr [.v (.func (.yield yl) #[] #[])],.ref 1006 0]]),(1007,.cells [.slice (.id 1008 1) (out.map Cz)]),(1008,.tok 1 out.length),(1009,.raw yl (ob true))],Aa⟩ (Yi ⟨Z5,Z10,Fh,Aj (by kernel_rfl)⟩ ?_)
 refine Yi (fun h2=>?_) (fun h2=>?_)
 ·have h2:(((n0::l).map AQ).length:Int)=(0:Int):=h2;exact absurd h2 (by simp;omega)
 have h2:¬((((n0::l).map AQ).length:Int)=(0:Int)):=h2;refine Xi ⟨[(0,.ref 1005 0),(2,.ref 1006 0),(4,vs p),(5,sl AQ (n0::l))],[(1000,.cells (OX roots C A JA dec 0)),(1001,.tok 6 0),(1002,.tok 1 0),(1003,.map Dj []),(1004,.arr 1 []),(1005,.cells [.ref 1000 0]),(1006,.cells [.clo 63 [.ref 1005 0,.cptr [.v (.func (.yield yl) #[] #[])],.ref 1006 0]]),(1007,.cells [.slice (.id 1008 1) (out.map Cz)]),(1008,.tok 1 out.length),(1009,.raw yl (ob true))],Aa⟩ (Yi ⟨Z4,Z10,Fh,Aj (by kernel_rfl)⟩ ?_)
 refine Yi (fun a ha=>?_) (fun Nw=>?_)
 ·have ea:=tT a ha;subst ea;refine Xi {q:Nat×List (List Sl) // q.1≤cs.length∧q.2=out++ND (Li (V1 x roots n dec (n0::l)) cs q.1)∧q.2.length≤M} (Xi (fun q=>⟨[(0,.ref 1005 0),(2,.ref 1006 0),(4,vs p),(5,sl AQ (n0::l)),(37,sl Au cs),(38,vi (cs.map Au).length),(39,vi q.1.1)],[(1000,.cells (OX roots C A JA dec 0)),(1001,.tok 6 0),(1002,.tok 1 0),(1003,.map Dj []),(1004,.arr 1 []),(1005,.cells [.ref 1000 0]),(1006,.cells [.clo 63 [.ref 1005 0,.cptr [.v (.func (.yield yl) #[] #[])],.ref 1006 0]]),(1007,.cells [.slice (.id 1008 1) (q.1.2.map Cz)]),(1008,.tok 1 q.1.2.length),(1009,.raw yl (ob true))],Aa⟩) (Xi (fun q=>cs.length-q.1.1) (Yi (Xi ⟨(0,out),AS _,by rw[Ve];simp,hM⟩ ?_) ?_)))
  ·exact⟨Z7,Z10,Fh,Aj (by kernel_rfl)⟩
  intro⟨⟨i,o⟩,j1,j2,j3⟩;have j1:i≤cs.length:=j1;have j2:o=out++ND (Li (V1 x roots n dec (n0::l)) cs i):=j2;have j3:o.length≤M:=j3;refine Yi (fun h3=>?_) (fun h3=>?_)
  ·have h3:(i:Int)<((cs.map Au).length:Int):=h3;have n3:i<cs.length:=by have q:=h3;rw[Lm]at q;omega
   have g3:cs[i]?=some cs[i]:=Ge n3;refine Xi ⟨[(0,.ref 1005 0),(2,.ref 1006 0),(4,vs p),(5,sl AQ (n0::l)),(37,sl Au cs),(38,vi (cs.map Au).length),(39,vi i)],[(1000,.cells (OX roots C A JA dec 0)),(1001,.tok 6 0),(1002,.tok 1 0),(1003,.map Dj []),(1004,.arr 1 []),(1005,.cells [.ref 1000 0]),(1006,.cells [.clo 63 (Ho yl)]),(1007,.cells [.slice (.id 1008 1) (o.map Cz)]),(1008,.tok 1 o.length),(1009,.raw yl (ob true))],Aa⟩ (Yi ⟨Z7,Z10,Fh,Aj (by kernel_rfl)⟩ ?_)
   refine Xi (Au cs[i]) (Yi (Yi (Nn i) (Dr g3)) (Yi rfl ?_));refine Yi (Nz rfl) ?_;refine Yi (Nz rfl) ?_;refine Xi ⟨[(0,.ref 1005 0),(2,.ref 1006 0),(4,vs p),(5,sl AQ (n0::l)),(8,.ref 8 0),(37,sl Au cs),(38,vi (cs.map Au).length),(39,vi i)],[(8,.ro (Au cs[i])),(1000,.cells (OX roots C A JA dec 0)),(1001,.tok 6 0),(1002,.tok 1 0),(1003,.map Dj []),(1004,.arr 1 []),(1005,.cells [.ref 1000 0]),(1006,.cells [.clo 63 (Ho yl)]),(1007,.cells [.slice (.id 1008 1) (o.map Cz)]),(1008,.tok 1 o.length),(1009,.raw yl (ob true))],Aa⟩ (Yi ⟨Z8,Z11,Fh,Aj (by kernel_rfl)⟩ ?_)
   have jN:=s66 (fF:=67) (caps:=[.cptr (Au cs[i])]) (fun c hc=>by obtain rfl:=Ai.1 hc;intro h;rfl) (n0::l) (fun n=>!has n.rq.set cs[i].place) (fun n hn=>s67 n cs[i] (hnq n hn)) hnl;refine Cy (Bt ((n0::l).any fun n=>!has n.rq.set cs[i].place)) (fun h4=>?_) (fun h4=>?_)
   ·skip
    rw[h4]at jN;refine Xi .pure (Xi _ (Yi jN ?_));refine Yi (Ii i (by omega)) ?_;have Nw:V1 x roots n dec (n0::l) cs[i]=[]:=kn h4;refine Xi ⟨(i+1,o),DF n3,by rw[j2,aI n3 Nw],j3⟩ ?_;exact⟨Dl cs.length i (by omega),Z7,Z10,Fh,Aj (by kernel_rfl)⟩
   skip
   rw[h4]at jN;refine Xi .pure (Xi _ (Yi jN ?_));refine Xi ⟨[(0,.ref 1005 0),(2,.ref 1006 0),(4,vs p),(5,sl AQ (n0::l)),(8,.ref 8 0),(37,sl Au cs),(38,vi (cs.map Au).length),(39,vi i)],[(8,.ro (Au cs[i])),(1000,.cells (OX roots C A JA dec 0)),(1001,.tok 6 0),(1002,.tok 1 0),(1003,.map Dj []),(1004,.arr 1 []),(1005,.cells [.ref 1000 0]),(1006,.cells [.clo 63 (Ho yl)]),(1007,.cells [.slice (.id 1008 1) (o.map Cz)]),(1008,.tok 1 o.length),(1009,.raw yl (ob true))],Aa⟩ (Yi ⟨Z8,Z11,Fh,Aj (by kernel_rfl)⟩ ?_)
   refine Yi (Nz rfl) ?_;have Ox:=wU roots C A JA dec [] cs[i] (by omega) (hcr i n3) (hcs_ i n3);refine Cy (V6 (Dw dec cs[i])) (fun h6=>?_) (fun h6=>?_)
   ·refine BC h6 (fun nc h6=>?_);have eW:jt (Dw dec cs[i])=.tup [.agg (AQ nc),vb true]:=by rw[h6];rfl
    rw[eW]at Ox;refine Xi (.gen Ue 0) (Yi rfl (Bn.imp Ox ?_));intro v7 g7 q7;have ww:=q7.1;have wx:=q7.2;subst ww;subst wx;refine Yi (Nz rfl) ?_;refine Xi ⟨[(0,.ref 1005 0),(2,.ref 1006 0),(4,vs p),(5,sl AQ (n0::l)),(8,.ref 8 0),(10,vb true),(37,sl Au cs),(38,vi (cs.map Au).length),(39,vi i)],[(8,.ro (Au cs[i])),(1000,.cells (OX roots C A JA dec 0)),(1001,.tok 6 0),(1002,.tok 1 0),(1003,.map Dj []),(1004,.arr 1 []),(1005,.cells [.ref 1000 0]),(1006,.cells [.clo 63 (Ho yl)]),(1007,.cells [.slice (.id 1008 1) (o.map Cz)]),(1008,.tok 1 o.length),(1009,.raw yl (ob true))],Aa⟩ (Yi ⟨Z9,Z11,Fh,Aj (by kernel_rfl)⟩ ?_)
    refine Yi (Ii i (by omega)) ?_;have Nw:V1 x roots n dec (n0::l) cs[i]=[]:=gg h6;refine Xi ⟨(i+1,o),DF n3,by rw[j2,aI n3 Nw],j3⟩ ?_;exact⟨Dl cs.length i (by omega),Z7,Z10,Fh,Aj (by kernel_rfl)⟩
   skip
   have eW:jt (Dw dec cs[i])=.tup [.agg [vs ⟨#[]⟩,.v (.slice none 0 0),vs ⟨#[]⟩,vi 0,vi 0],vb false]:=by rw[h6];rfl
   rw[eW]at Ox;refine Xi (.gen Ue 0) (Yi rfl (Bn.imp Ox ?_));intro v9 g9 q9;have wy:=q9.1;have wz:=q9.2;subst wy;subst wz;refine Yi (Nz rfl) ?_;refine Xi ⟨[(0,.ref 1005 0),(2,.ref 1006 0),(4,vs p),(5,sl AQ (n0::l)),(8,.ref 8 0),(10,vb false),(37,sl Au cs),(38,vi (cs.map Au).length),(39,vi i)],[(8,.ro (Au cs[i])),(1000,.cells (OX roots C A JA dec 0)),(1001,.tok 6 0),(1002,.tok 1 0),(1003,.map Dj []),(1004,.arr 1 []),(1005,.cells [.ref 1000 0]),(1006,.cells [.clo 63 (Ho yl)]),(1007,.cells [.slice (.id 1008 1) (o.map Cz)]),(1008,.tok 1 o.length),(1009,.raw yl (ob true))],Aa⟩ (Yi ⟨Z9,Z11,Fh,Aj (by kernel_rfl)⟩ ?_)
   refine Xi ⟨[(0,.ref 1005 0),(2,.ref 1006 0),(4,vs p),(5,sl AQ (n0::l)),(8,.ref 8 0),(37,sl Au cs),(38,vi (cs.map Au).length),(39,vi i)],[(8,.ro (Au cs[i])),(1000,.cells (OX roots C A JA dec 0)),(1001,.tok 6 0),(1002,.tok 1 0),(1003,.map Dj []),(1004,.arr 1 []),(1005,.cells [.ref 1000 0]),(1006,.cells [.clo 63 (Ho yl)]),(1007,.cells [.slice (.id 1008 1) (o.map Cz)]),(1008,.tok 1 o.length),(1009,.raw yl (ob true))],Aa⟩ (Yi ⟨Z8,Z11,Fh,Aj (by kernel_rfl)⟩ ?_)
   refine Yi (by kernel_rfl) ?_;refine Xi ⟨[(0,.ref 1005 0),(2,.ref 1006 0),(4,vs p),(5,sl AQ (n0::l)),(8,.ref 8 0),(11,sl Au dec),(12,sl Aq (Ax dec)),(37,sl Au cs),(38,vi (cs.map Au).length),(39,vi i)],[(8,.ro (Au cs[i])),(1000,.cells (OX roots C A JA dec 0)),(1001,.tok 6 0),(1002,.tok 1 0),(1003,.map Dj []),(1004,.arr 1 []),(1005,.cells [.ref 1000 0]),(1006,.cells [.clo 63 (Ho yl)]),(1007,.cells [.slice (.id 1008 1) (o.map Cz)]),(1008,.tok 1 o.length),(1009,.raw yl (ob true))],Aa⟩ (Yi ⟨Z10,Z11,Fh,Aj (by kernel_rfl)⟩ ?_)
   refine Xi _ (Xi _ (Yi (by kernel_rfl) (Yi (nX dec (by unfold Cv;omega)) ?_)));refine Yi (Nz rfl) ?_;have ZE:BY 10 [(Au cs[i])]∧(dec.map Au).length=(dec.map Au).length∧((dec.map Au).length+([(Au cs[i])]:List (List AV)).length)*128≤140737488355328∧(dec.map Au).length+([(Au cs[i])]:List (List AV)).length≤9223372036854775807:=⟨⟨rfl,trivial⟩,rfl,(by simp only[Lm,Al,Ar];omega),(by simp only[Lm,Al,Ar];omega)⟩;refine Yi ZE ?_;refine Yi (Nz rfl) ?_;refine Yi (by kernel_rfl) ?_;refine Xi ⟨[(0,.ref 1005 0),(2,.ref 1006 0),(4,vs p),(5,sl AQ (n0::l)),(8,.ref 8 0),(11,sl Au dec),(12,sl Aq (Ax dec)),(37,sl Au cs),(38,vi (cs.map Au).length),(39,vi i)],[(8,.ro (Au cs[i])),(1000,.cells [sl Ah roots,.cmap Dv C,.cmap Dv A,.slice (.id 1001 6) (([]:List Nf).map AU),.slice (.id 1002 1) (([]:List (List Tm)).map AG),.mref 1003,vb JA.full,.slice (.id 16300 10) ((dec.map Au)++[(Au cs[i])]),sl Aq (Ax dec),.msl 1004 0]),(1001,.tok 6 0),(1002,.tok 1 0),(1003,.map Dj []),(1004,.arr 1 []),(1005,.cells [.ref 1000 0]),(1006,.cells [.clo 63 [.ref 1005 0,.cptr [.v (.func (.yield yl) #[] #[])],.ref 1006 0]]),(1007,.cells [.slice (.id 1008 1) (o.map Cz)]),(1008,.tok 1 o.length),(1009,.raw yl (ob true)),(16300,.tok 10 ((dec.map Au).length+([(Au cs[i])]:List (List AV)).length))],Aa⟩ (Yi ⟨Z10,Z12,Fh,Aj (by kernel_rfl)⟩ ?_)
   refine Xi _ (Xi _ (Yi (by kernel_rfl) (Yi (py (Ax dec) (by unfold Cv Ax;rw[Lm];omega)) ?_)));refine Yi (Nz rfl) ?_;have dQ:BY 4 [[vs p,vi cs[i].rel.ver.a,vi cs[i].rel.ver.b,vi cs[i].rel.ver.c]]∧((Ax dec).map Aq).length=((Ax dec).map Aq).length∧(((Ax dec).map Aq).length+([[vs p,vi cs[i].rel.ver.a,vi cs[i].rel.ver.b,vi cs[i].rel.ver.c]]:List (List AV)).length)*40≤140737488355328∧((Ax dec).map Aq).length+([[vs p,vi cs[i].rel.ver.a,vi cs[i].rel.ver.b,vi cs[i].rel.ver.c]]:List (List AV)).length≤9223372036854775807:=⟨⟨rfl,trivial⟩,rfl,(by simp only[Lm,Al,Ar];omega),(by simp only[Lm,Al,Ar];omega)⟩;refine Yi dQ ?_;refine Yi (Nz rfl) ?_;refine Yi (by kernel_rfl) ?_;refine Xi ⟨[(0,.ref 1005 0),(2,.ref 1006 0),(4,vs p),(5,sl AQ (n0::l)),(11,sl Au dec),(12,sl Aq (Ax dec)),(37,sl Au cs),(38,vi (cs.map Au).length),(39,vi i)],[(1000,.cells [sl Ah roots,.cmap Dv C,.cmap Dv A,.slice (.id 1001 6) (([]:List Nf).map AU),.slice (.id 1002 1) (([]:List (List Tm)).map AG),.mref 1003,vb JA.full,.slice (.id 16300 10) ((dec++[cs[i]]).map Au),.slice (.id 17100 4) ((Ax (dec++[cs[i]])).map Aq),.msl 1004 0]),(1001,.tok 6 0),(1002,.tok 1 0),(1003,.map Dj []),(1004,.arr 1 []),(1005,.cells [.ref 1000 0]),(1006,.cells [.clo 63 [.ref 1005 0,.cptr [.v (.func (.yield yl) #[] #[])],.ref 1006 0]]),(1007,.cells [.slice (.id 1008 1) (o.map Cz)]),(1008,.tok 1 o.length),(1009,.raw yl (ob true)),(16300,.tok 10 ((dec++[cs[i]]).map Au).length),(17100,.tok 4 ((Ax (dec++[cs[i]])).map Aq).length)],Aa⟩ (Yi ⟨Z9,⟨⟨(show(.cells [sl Ah roots,.cmap Dv C,.cmap Dv A,.slice (.id 1001 6) (([]:List Nf).map AU),.slice (.id 1002 1) (([]:List (List Tm)).map AG),.mref 1003,vb JA.full,.slice (.id 16300 10) ((dec.map Au)++[(Au cs[i])]),.slice (.id 17100 4) (((Ax dec).map Aq)++[[vs p,vi cs[i].rel.ver.a,vi cs[i].rel.ver.b,vi cs[i].rel.ver.c]]),.msl 1004 0]:HO)=.cells [sl Ah roots,.cmap Dv C,.cmap Dv A,.slice (.id 1001 6) (([]:List Nf).map AU),.slice (.id 1002 1) (([]:List (List Tm)).map AG),.mref 1003,vb JA.full,.slice (.id 16300 10) ((dec++[cs[i]]).map Au),.slice (.id 17100 4) ((Ax (dec++[cs[i]])).map Aq),.msl 1004 0] by rw[hkey i n3];simp),rfl⟩,Zr,Zr,Zr,Zr,Zr,Zr,Zr,Zr,Zr,⟨(show(.tok 10 ((dec.map Au).length+([(Au cs[i])]:List (List AV)).length):HO)=.tok 10 ((dec++[cs[i]]).map Au).length by simp),rfl⟩,⟨(show(.tok 4 (((Ax dec).map Aq).length+([[vs p,vi cs[i].rel.ver.a,vi cs[i].rel.ver.b,vi cs[i].rel.ver.c]]:List (List AV)).length):HO)=.tok 4 ((Ax (dec++[cs[i]])).map Aq).length by rw[←hkey i n3,Ac]),rfl⟩,Tv⟩,Fh,Aj (by kernel_rfl)⟩ ?_)
   have F3:Wp dec (n0::l) cs[i]=true:=re h4 h6;have dz:V1 x roots n dec (n0::l) cs[i]=(B9 x roots n (dec++[cs[i]])):=by unfold V1;rw[Aw F3]
   have x8:Li (V1 x roots n dec (n0::l)) cs (i+1)=Li (V1 x roots n dec (n0::l)) cs i++(B9 x roots n (dec++[cs[i]])):=by rw[Vd n3,dz]
   have jZ:=ih i n3 F3 o j3;refine Cy (DV M (o++ND (B9 x roots n (dec++[cs[i]]))).length) (fun hb=>?_) (fun hb=>?_)
   ·skip
    refine Xi (.geny aO 0) (Yi rfl (FS.imp (FS.pre jZ (fun g w q=>q yl rfl rfl)) ?_));intro v12 g12 LJ;have LJ:=VQ.gt LJ (Nat.not_le.2 hb);have gU:=LJ.1;have gV:=LJ.2;subst gU;subst gV;refine Xi ⟨[(0,.ref 1005 0),(2,.ref 1006 0),(4,vs p),(5,sl AQ (n0::l)),(11,sl Au dec),(12,sl Aq (Ax dec)),(13,vb false),(37,sl Au cs),(38,vi (cs.map Au).length),(39,vi i)],[(1000,.cells [sl Ah roots,.cmap Dv C,.cmap Dv A,.slice (.id 1001 6) (([]:List Nf).map AU),.slice (.id 1002 1) (([]:List (List Tm)).map AG),.mref 1003,vb JA.full,sl Au (dec++[cs[i]]),sl Aq (Ax (dec++[cs[i]])),.msl 1004 0]),(1001,.tok 6 0),(1002,.tok 1 0),(1003,.map Dj []),(1004,.arr 1 []),(1005,.cells [.ref 1000 0]),(1006,.cells [.clo 63 [.ref 1005 0,.cptr [.v (.func (.yield yl) #[] #[])],.ref 1006 0]]),(1007,.cells [.slice (.id 1008 1) (((o++ND (B9 x roots n (dec++[cs[i]]))).take M).map Cz)]),(1008,.tok 1 ((o++ND (B9 x roots n (dec++[cs[i]]))).take M).length),(1009,.raw yl (ob false))],Aa⟩ (Yi ⟨Z10,Z10,Fh,Aj (by kernel_rfl)⟩ ?_)
    refine Yi (Nz rfl) ?_;refine Yi (Nz rfl) ?_;refine Yi (by kernel_rfl) ?_;refine Xi ⟨[(0,.ref 1005 0),(2,.ref 1006 0),(4,vs p),(5,sl AQ (n0::l)),(13,vb false),(37,sl Au cs),(38,vi (cs.map Au).length),(39,vi i)],[(1000,.cells (OX roots C A JA dec 0)),(1001,.tok 6 0),(1002,.tok 1 0),(1003,.map Dj []),(1004,.arr 1 []),(1005,.cells [.ref 1000 0]),(1006,.cells [.clo 63 [.ref 1005 0,.cptr [.v (.func (.yield yl) #[] #[])],.ref 1006 0]]),(1007,.cells [.slice (.id 1008 1) (((o++ND (B9 x roots n (dec++[cs[i]]))).take M).map Cz)]),(1008,.tok 1 ((o++ND (B9 x roots n (dec++[cs[i]]))).take M).length),(1009,.raw yl (ob false))],Aa⟩ (Yi ⟨Z8,Z10,Fh,Aj (by kernel_rfl)⟩ ?_)
    have ni:=Zw (V1 x roots n dec (n0::l)) cs (i+1);exact VQ.of_gt (Nat.not_le.2 hb) (by rw[jS,ni,x8,j2];exact⟨ND (((cs.drop (i+1)).map (V1 x roots n dec (n0::l))).flatten),by simp⟩)
   refine Xi (.geny aO 0) (Yi rfl (FS.imp (FS.pre jZ (fun g w q=>q yl rfl rfl)) ?_));intro v12 g12 LJ;have LJ:=VQ.le LJ hb;have gU:=LJ.1;have gV:=LJ.2;subst gU;subst gV;refine Xi ⟨[(0,.ref 1005 0),(2,.ref 1006 0),(4,vs p),(5,sl AQ (n0::l)),(11,sl Au dec),(12,sl Aq (Ax dec)),(13,vb true),(37,sl Au cs),(38,vi (cs.map Au).length),(39,vi i)],[(1000,.cells [sl Ah roots,.cmap Dv C,.cmap Dv A,.slice (.id 1001 6) (([]:List Nf).map AU),.slice (.id 1002 1) (([]:List (List Tm)).map AG),.mref 1003,vb JA.full,sl Au (dec++[cs[i]]),sl Aq (Ax (dec++[cs[i]])),.msl 1004 0]),(1001,.tok 6 0),(1002,.tok 1 0),(1003,.map Dj []),(1004,.arr 1 []),(1005,.cells [.ref 1000 0]),(1006,.cells [.clo 63 [.ref 1005 0,.cptr [.v (.func (.yield yl) #[] #[])],.ref 1006 0]]),(1007,.cells [.slice (.id 1008 1) ((o++ND (B9 x roots n (dec++[cs[i]]))).map Cz)]),(1008,.tok 1 (o++ND (B9 x roots n (dec++[cs[i]]))).length),(1009,.raw yl (ob true))],Aa⟩ (Yi ⟨Z10,Z10,Fh,Aj (by kernel_rfl)⟩ ?_)
   refine Yi (Nz rfl) ?_;refine Yi (Nz rfl) ?_;refine Yi (by kernel_rfl) ?_;refine Xi ⟨[(0,.ref 1005 0),(2,.ref 1006 0),(4,vs p),(5,sl AQ (n0::l)),(13,vb true),(37,sl Au cs),(38,vi (cs.map Au).length),(39,vi i)],[(1000,.cells (OX roots C A JA dec 0)),(1001,.tok 6 0),(1002,.tok 1 0),(1003,.map Dj []),(1004,.arr 1 []),(1005,.cells [.ref 1000 0]),(1006,.cells [.clo 63 [.ref 1005 0,.cptr [.v (.func (.yield yl) #[] #[])],.ref 1006 0]]),(1007,.cells [.slice (.id 1008 1) ((o++ND (B9 x roots n (dec++[cs[i]]))).map Cz)]),(1008,.tok 1 (o++ND (B9 x roots n (dec++[cs[i]]))).length),(1009,.raw yl (ob true))],Aa⟩ (Yi ⟨Z8,Z10,Fh,Aj (by kernel_rfl)⟩ ?_)
   refine Yi (Ii i (by omega)) ?_;refine Xi ⟨(i+1,o++ND (B9 x roots n (dec++[cs[i]]))),DF n3,by rw[x8,j2];simp,hb⟩ ?_;exact⟨Dl cs.length i (by omega),Z7,Z10,Fh,Aj (by kernel_rfl)⟩
  have h3:¬((i:Int)<((cs.map Au).length:Int)):=h3;have n3:¬i<cs.length:=by have q:=h3;rw[Lm]at q;omega
  have hj:i=cs.length:=by have q:=h3;rw[Lm]at q;omega
  have eo:o=out++ND (B9 x roots (n+1) dec):=by rw[j2,hj,←jS]
  exact VQ.of_le eo j3
 exact absurd Nw mP
end Go.Eng

namespace Go.Eng
open Go.Proofs
set_option maxHeartbeats 16000000 in
theorem wS(x:List Rl)(roots:List Rq)(C A:List (Value×AV))(Y:Gh→World→Prop)(yl M n:Nat)(ob:Bool→Obj)(dec:List Cd)(out:List (List Sl))(p:ByteArray)(n0:Nd)(l:List Nd)(cs:List Cd)(hL:sy x roots C A Y yl M n ob dec p n0 l cs)(FK:oY (vH roots C A yl (ob true) dec out) Y)
  (Iy:Bn Tryz.prog 64 [.ref 1000 0] (Ad (HL roots C A JA dec []) Aa) fun r h'=>r=.tup [vs p,sl AQ (n0::l)]∧h'=Ad (HL roots C A JA dec []) Aa)
  (bL:cs=[]) (mP:∀a,(Value.string p,a)∉C) (jS:B9 x roots (n+1) dec=Li (V1 x roots n dec (n0::l)) cs cs.length) (hM:out.length≤M) :
  FS Tryz.prog Y 63 (Ho yl) (Ad (vH roots C A yl (ob true) dec out) Aa) (VQ roots C A yl M ob dec (out++ND (B9 x roots (n+1) dec))):=by
 obtain⟨hdl,hcl,hnl,hnq,hcr,hcs_,hkey,ih⟩:=hL;have hdl:dec.length≤256:=hdl;have hcl:cs.length≤256:=hcl;refine Pa (l:=yl) (tK ⟨[8],[],[],[],[],[],[],[],[],[],[1,2,4,6,8,9,10,11,12,13,14,15,16,17]⟩ yl Y) aO aO rfl BS hm rfl Tryz.func63 (by kernel_rfl) rfl (Nz rfl) (by kernel_rfl) rfl rfl FK ?_;refine Xi ⟨[(0,.ref 1005 0),(1,.cptr [.v (.func (.yield yl) #[] #[])]),(2,.ref 1006 0)],[(1000,.cells (OX roots C A JA dec 0)),(1001,.tok 6 0),(1002,.tok 1 0),(1003,.map Dj []),(1004,.arr 1 []),(1005,.cells [.ref 1000 0]),(1006,.cells [.clo 63 [.ref 1005 0,.cptr [.v (.func (.yield yl) #[] #[])],.ref 1006 0]]),(1007,.cells [.slice (.id 1008 1) (out.map Cz)]),(1008,.tok 1 out.length),(1009,.raw yl (ob true))],Aa⟩ (Yi ⟨Z3,Z10,Fh,Aj (by kernel_rfl)⟩ ?_)
 refine Xi (.gen Ue 0) (Yi rfl (Bn.imp Iy ?_));intro v1 g1 q1;have Zj:=q1.1;have Zk:=q1.2;subst Zj;subst Zk;refine Xi ⟨[(0,.ref 1005 0),(1,.cptr [.v (.func (.yield yl) #[] #[])]),(2,.ref 1006 0),(4,vs p),(5,sl AQ (n0::l))],[(1000,.cells (OX roots C A JA dec 0)),(1001,.tok 6 0),(1002,.tok 1 0),(1003,.map Dj []),(1004,.arr 1 []),(1005,.cells [.ref 1000 0]),(1006,.cells [.clo 63 [.ref 1005 0,.cptr [.v (.func (.yield yl) #[] #[])],.ref 1006 0]]),(1007,.cells [.slice (.id 1008 1) (out.map Cz)]),(1008,.tok 1 out.length),(1009,.raw yl (ob true))],Aa⟩ (Yi ⟨Z5,Z10,Fh,Aj (by kernel_rfl)⟩ ?_)
 refine Yi (fun h2=>?_) (fun h2=>?_)
 ·have h2:(((n0::l).map AQ).length:Int)=(0:Int):=h2;exact absurd h2 (by simp;omega)
 have h2:¬((((n0::l).map AQ).length:Int)=(0:Int)):=h2;refine Xi ⟨[(0,.ref 1005 0),(2,.ref 1006 0),(4,vs p),(5,sl AQ (n0::l))],[(1000,.cells (OX roots C A JA dec 0)),(1001,.tok 6 0),(1002,.tok 1 0),(1003,.map Dj []),(1004,.arr 1 []),(1005,.cells [.ref 1000 0]),(1006,.cells [.clo 63 [.ref 1005 0,.cptr [.v (.func (.yield yl) #[] #[])],.ref 1006 0]]),(1007,.cells [.slice (.id 1008 1) (out.map Cz)]),(1008,.tok 1 out.length),(1009,.raw yl (ob true))],Aa⟩ (Yi ⟨Z4,Z10,Fh,Aj (by kernel_rfl)⟩ ?_)
 refine Yi (fun a ha=>?_) (fun Nw=>?_)
 ·exact absurd ha (mP a)
 refine Xi {q:Nat×List (List Sl) // q.1≤cs.length∧q.2=out++ND (Li (V1 x roots n dec (n0::l)) cs q.1)∧q.2.length≤M} (Xi (fun q=>⟨[(0,.ref 1005 0),(2,.ref 1006 0),(4,vs p),(5,sl AQ (n0::l)),(37,.v (.slice none 0 0)),(38,vi 0),(39,vi q.1.1)],[(1000,.cells (OX roots C A JA dec 0)),(1001,.tok 6 0),(1002,.tok 1 0),(1003,.map Dj []),(1004,.arr 1 []),(1005,.cells [.ref 1000 0]),(1006,.cells [.clo 63 [.ref 1005 0,.cptr [.v (.func (.yield yl) #[] #[])],.ref 1006 0]]),(1007,.cells [.slice (.id 1008 1) (q.1.2.map Cz)]),(1008,.tok 1 q.1.2.length),(1009,.raw yl (ob true))],Aa⟩) (Xi (fun q=>cs.length-q.1.1) (Yi (Xi ⟨(0,out),AS _,by rw[Ve];simp,hM⟩ ?_) ?_)))
 ·exact⟨Z7,Z10,Fh,Aj (by kernel_rfl)⟩
 intro⟨⟨i,o⟩,j1,j2,j3⟩;have j1:i≤cs.length:=j1;have j2:o=out++ND (Li (V1 x roots n dec (n0::l)) cs i):=j2;have j3:o.length≤M:=j3;refine Yi (fun h3=>?_) (fun h3=>?_)
 ·have h3:(i:Int)<(0:Int):=h3;exact absurd h3 (by have q:=j1;rw[bL,Ar]at q;omega)
 have h3:¬((i:Int)<(0:Int)):=h3;have hj:i=cs.length:=by have q:=j1;rw[bL,Ar]at q;rw[bL,Ar];omega
 have eo:o=out++ND (B9 x roots (n+1) dec):=by rw[j2,hj,←jS]
 exact VQ.of_le eo j3
set_option maxHeartbeats 4000000 in
theorem wT(x:List Rl)(roots:List Rq)(C A:List (Value×AV))(Y:Gh→World→Prop)(yl M n:Nat)(ob:Bool→Obj)(dec:List Cd)(out:List (List Sl))(p:ByteArray)(N:List Nd)(hN:N=[])(hdl:dec.length≤256)(hn:((Ax dec).map (·.path)).Nodup)(FK:oY (vH roots C A yl (ob true) dec out) Y)
  (Iy:Bn Tryz.prog 64 [.ref 1000 0] (Ad (HL roots C A JA dec []) Aa) fun r h'=>r=.tup [vs p,sl AQ N]∧h'=Ad (HL roots C A JA dec []) Aa)
  (dz:B9 x roots (n+1) dec=[dec])
  (hy:GH Tryz.prog Y yl [sl Aq (Dd (Ax dec))] (Ad (vH roots C A yl (ob true) dec out) Aa) (VQ roots C A yl M ob dec (out++[Dd (Ax dec)]))) :
  FS Tryz.prog Y 63 (Ho yl) (Ad (vH roots C A yl (ob true) dec out) Aa) (VQ roots C A yl M ob dec (out++ND (B9 x roots (n+1) dec))):=by
 have Xg:Cv (Ax dec):=by unfold Cv Ax;rw[Lm];omega
 have UK:(Ax dec).length=((Dd (Ax dec)).map Aq).length:=(Jo (Ax dec)).length_eq.symm.trans (Lm ..).symm;refine Pa (l:=yl) (tK ⟨[],[],[],[],[],[],[],[],[],[(200005,6)],[1,2,3,4,5,6,10,11,13,14,15,17]⟩ yl Y) aO aO rfl BS hm rfl Tryz.func63 (by kernel_rfl) rfl (Nz rfl) (by kernel_rfl) rfl rfl FK ?_;refine Xi ⟨[(0,.ref 1005 0),(1,.cptr [.v (.func (.yield yl) #[] #[])]),(2,.ref 1006 0)],[(1000,.cells (OX roots C A JA dec 0)),(1001,.tok 6 0),(1002,.tok 1 0),(1003,.map Dj []),(1004,.arr 1 []),(1005,.cells [.ref 1000 0]),(1006,.cells [.clo 63 [.ref 1005 0,.cptr [.v (.func (.yield yl) #[] #[])],.ref 1006 0]]),(1007,.cells [.slice (.id 1008 1) (out.map Cz)]),(1008,.tok 1 out.length),(1009,.raw yl (ob true))],Aa⟩ (Yi ⟨Z3,Z10,Fh,Aj (by kernel_rfl)⟩ ?_)
 refine Xi (.gen Ue 0) (Yi rfl (Bn.imp Iy ?_));intro v1 g1 q1;have Zj:=q1.1;have Zk:=q1.2;subst Zj;subst Zk;refine Xi ⟨[(0,.ref 1005 0),(1,.cptr [.v (.func (.yield yl) #[] #[])]),(2,.ref 1006 0),(4,vs p),(5,sl AQ N)],[(1000,.cells (OX roots C A JA dec 0)),(1001,.tok 6 0),(1002,.tok 1 0),(1003,.map Dj []),(1004,.arr 1 []),(1005,.cells [.ref 1000 0]),(1006,.cells [.clo 63 [.ref 1005 0,.cptr [.v (.func (.yield yl) #[] #[])],.ref 1006 0]]),(1007,.cells [.slice (.id 1008 1) (out.map Cz)]),(1008,.tok 1 out.length),(1009,.raw yl (ob true))],Aa⟩ (Yi ⟨Z5,Z10,Fh,Aj (by kernel_rfl)⟩ ?_)
 refine Yi (fun h2=>?_) (fun h2=>?_)
 ·have h2:((N.map AQ).length:Int)=(0:Int):=h2;refine Xi ⟨[(0,.ref 1005 0),(1,.cptr [.v (.func (.yield yl) #[] #[])])],[(1000,.cells (OX roots C A JA dec 0)),(1001,.tok 6 0),(1002,.tok 1 0),(1003,.map Dj []),(1004,.arr 1 []),(1005,.cells [.ref 1000 0]),(1006,.cells [.clo 63 [.ref 1005 0,.cptr [.v (.func (.yield yl) #[] #[])],.ref 1006 0]]),(1007,.cells [.slice (.id 1008 1) (out.map Cz)]),(1008,.tok 1 out.length),(1009,.raw yl (ob true))],Aa⟩ (Yi ⟨Z2,Z10,Fh,Aj (by kernel_rfl)⟩ ?_)
  refine Xi (.gen [] 1) (Yi rfl (Bn.imp (rL (Ax dec) Xg) ?_));intro v3 g3 q3;have wh:=q3.1;have wi:=q3.2;subst wh;subst wi;refine Xi ⟨[(1,.cptr [.v (.func (.yield yl) #[] #[])]),(6,.msl 12600 (Ax dec).length)],[(1000,.cells (OX roots C A JA dec 0)),(1001,.tok 6 0),(1002,.tok 1 0),(1003,.map Dj []),(1004,.arr 1 []),(1005,.cells [.ref 1000 0]),(1006,.cells [.clo 63 [.ref 1005 0,.cptr [.v (.func (.yield yl) #[] #[])],.ref 1006 0]]),(1007,.cells [.slice (.id 1008 1) (out.map Cz)]),(1008,.tok 1 out.length),(1009,.raw yl (ob true)),(12600,.arr 4 ((Ax dec).map Aq))],Aa⟩ (Yi ⟨Z2,Z11,Fh,Aj (by kernel_rfl)⟩ ?_)
  refine Xi (.gen [(12600,1000)] 0) (Yi rfl (Bn.imp (yu 65 Tryz.closure65 (enters_of Tryz.func65 (by kernel_rfl) rfl) (Ax dec) Xg hn) ?_));intro v4 g4 q4;have rk:=q4.1;have rl:=q4.2;subst rk;subst rl;refine Yi (show(Ax dec).length=((Dd (Ax dec)).map Aq).length from UK) ?_;refine Xi ⟨[(1,.cptr [.v (.func (.yield yl) #[] #[])]),(6,sl Aq (Dd (Ax dec)))],[(1000,.cells (OX roots C A JA dec 0)),(1001,.tok 6 0),(1002,.tok 1 0),(1003,.map Dj []),(1004,.arr 1 []),(1005,.cells [.ref 1000 0]),(1006,.cells [.clo 63 [.ref 1005 0,.cptr [.v (.func (.yield yl) #[] #[])],.ref 1006 0]]),(1007,.cells [.slice (.id 1008 1) (out.map Cz)]),(1008,.tok 1 out.length),(1009,.raw yl (ob true))],Aa⟩ (Yi ⟨Z2,Z10,Fh,Aj (by kernel_rfl)⟩ ?_)
  refine Xi (.gen aO 0) (Yi rfl (GH.imp (GH.pre hy (fun g w q=>q rfl rfl)) ?_));intro v5 g5 q5;have q5a:=q5.1;have q5b:=q5.2;subst q5a;subst q5b;have eL:out++ND (B9 x roots (n+1) dec)=out++[Dd (Ax dec)]:=by rw[dz];rfl
  exact eL▸Zr
 have h2:¬(((N.map AQ).length:Int)=(0:Int)):=h2;exact absurd (by rw[hN];rfl) h2
end Go.Eng
