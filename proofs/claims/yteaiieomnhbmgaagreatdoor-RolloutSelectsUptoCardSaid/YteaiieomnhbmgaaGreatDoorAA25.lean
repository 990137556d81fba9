/- Lemmas 25. -/
import Derived.Test.YteaiieomnhbmgaaGreatDoorAA24
set_option maxHeartbeats 4000000
namespace Go.Eng
open Go.Proofs Go.Proofs.Tryz
variable (x:List Rl)(ifs:C0)(roots:List Rq)
abbrev tp:Qx:=⟨[2],[],[],[],[],[],[],[(50,(9,3,95,3))],[(44,0)],[(100016,1009)],[3,4,5,6,7,8,9,10,11,14,15,16]⟩
abbrev an0:An:=⟨false,[],[],[]⟩
def Rp:An:=if GH x roots=true/\(EW x roots).ss.full=false then lL x roots else an0
def Oz:Int:=if GH x roots=true then if(EW x roots).ss.full=true then 7 else 0 else 1
abbrev pM:AV:=.tup [.agg (TR (Rp x roots)),vi (Oz x roots)]
theorem BC.an0{v:AV}:BC (.tup [.agg [vb false,nzA,nzA,nzA],v]) (.tup [.agg (TR an0),v]):=
 BC.tup ⟨BC.agg ⟨.refl _,.nil,.nil,.nil,trivial⟩,.refl _,trivial⟩
theorem Vf{x:List Rl}{roots:List Rq}(hx:∀r∈x,CX r)(hr:∀q∈roots,Jb q)(h0:AL x=0)(h1:A8 roots=0){L:List CS}(hl:L.Perm (AW (yR x) [])){o:Ld}(ho:EW x roots=o) :
  AU Tryz.prog 137 [.ref 1000 0] (Ak (Jm roots (mC x) (L.map (kA x)) ss0 [] []) Ae) (cK roots (mC x) (L.map (kA x)) o):=by
 rw[<-ho];exact Ah2 (wH hx hr h0 h1 hl) (x.length+1) (.nil x) (ID.nil roots) ⟨⟨rfl,Aj _⟩,ON⟩ rfl (Nat.lt_succ_of_le (Em _ _)) rfl
theorem cd{x:List Rl}{roots:List Rq}(h:GH x roots=true):AL x=0/\A8 roots=0:=by
 grind [GH]
theorem tJ(hx:∀r∈x,CX r)(hr:∀q∈roots,Jb q)(hv:GH x roots=false):PC 78 [HZ x ifs,sl AI roots] (.tup [.agg (TR an0),vi 1]):=by
 have Ui:=s28 x ifs roots hx hr;rw[hv]at Ui;refine Ps tp func78 rfl (Nz rfl) (Yi ?_ ?_)
 .exact Nz rfl
 refine C1 (C2 Ui (Yi ?_ ?_))
 .omega
 refine Yi ?_ ?_
 .exact Nz rfl
 exact BC.an0
theorem pH(hx:∀r∈x,CX r)(hr:∀q∈roots,Jb q)(hv:GH x roots=true)(h0:AL x=0)(h1:A8 roots=0)(k:Nat)(infs:List Nf)(drv:List (List Tm))(dec:List Cd)(st:List (List Sk))(ho:EW x roots=⟨k,false,⟨infs,drv,true⟩,dec,st⟩):PC 78 [HZ x ifs,sl AI roots] (.tup [.agg (TR an0),vi 7]):=by
 have Ui:=s28 x ifs roots hx hr;rw[hv]at Ui;refine Ps tp func78 rfl (Nz rfl) (Yi ?_ ?_)
 .exact Nz rfl
 refine C1 (C2 Ui (cU [(1,sl AI roots),(2,.ref 2 0),(4,.ref 4 0)] [(2,.ro (Ic x ifs)),(4,.cells [vb false,nzA,nzA,nzA])] Z3 Z2 (Yi ?_ ?_)))
 .exact Nz rfl
 refine Xi (.gen [] 5) (Yi rfl ((s29 x ifs roots hx h0).imp ?_));intro v g q;refine Be q (fun L q=>?_);have q1:=q.2.1;have q2:=q.2.2;have qp:=q.1;subst q1;subst q2;refine cU [(4,.ref 4 0),(6,.ref 11900 0)] [(4,.cells [vb false,nzA,nzA,nzA]),(11900,.cells [sl AI roots,.cmap BW (mC x),.cmap BW (L.map (kA x)),.slice (.id 11901 6) [],.slice (.id 11902 1) [],.mref 11903,vb false,.slice .none [],.slice .none [],.msl 11904 0]),(11901,.tok 6 0),(11902,.tok 1 0),(11903,.map FI []),(11904,.arr 1 [])] Z2 Z6 (Xi (.gen [(11900,1000),(11901,1001),(11902,1002),(11903,1003),(11904,1004)] 1) (Yi rfl ((Vf hx hr h0 h1 qp ho).imp ?_)));intro v g q;have q1:=q.1;have q2:=q.2;subst q1;subst q2;refine cU [(4,.ref 4 0),(6,.ref 11900 0),(7,vi (k:Nat)),(8,vb false)] [(4,.cells [vb false,nzA,nzA,nzA]),(11900,.cells [sl AI roots,.cmap BW (mC x),.cmap BW (L.map (kA x)),.slice (.id 11901 6) (infs.map Dy),.slice (.id 11902 1) (drv.map Df),.mref 11903,vb true,sl AM dec,sl Ab (AP dec),.msl 12200 st.length]),(11901,.tok 6 infs.length),(11902,.tok 1 drv.length),(11903,.map FI (FK 0 infs)),(12200,.arr 1 (st.map Bb))] Z4 Z6 (Yi (fun _=>?_) (fun h=>by cases h));refine cU [(4,.ref 4 0)] [(4,.cells [vb false,nzA,nzA,nzA])] Z1 Z1 (Yi ?_ ?_)
 .exact Nz rfl
 refine Yi ?_ ?_
 .exact Nz rfl
 exact BC.an0
theorem ya(hx:∀r∈x,CX r)(hr:∀q∈roots,Jb q)(hv:GH x roots=true)(h0:AL x=0)(h1:A8 roots=0)(k:Nat)(infs:List Nf)(drv:List (List Tm))(dec:List Cd)(st:List (List Sk))(ho:EW x roots=⟨k,false,⟨infs,drv,false⟩,dec,st⟩)(hk:k<infs.length)(hl:infs.length<=65536):PC 78 [HZ x ifs,sl AI roots] (.tup [.agg (TR ⟨false,[],infs.take (k+1),[]⟩),vi 0]):=by
 have Ui:=s28 x ifs roots hx hr;rw[hv]at Ui;refine Ps tp func78 rfl (Nz rfl) (Yi ?_ ?_)
 .exact Nz rfl
 refine C1 (C2 Ui (cU [(1,sl AI roots),(2,.ref 2 0),(4,.ref 4 0)] [(2,.ro (Ic x ifs)),(4,.cells [vb false,nzA,nzA,nzA])] Z3 Z2 (Yi ?_ ?_)))
 .exact Nz rfl
 refine Xi (.gen [] 5) (Yi rfl ((s29 x ifs roots hx h0).imp ?_));intro v g q;refine Be q (fun L q=>?_);have q1:=q.2.1;have q2:=q.2.2;have qp:=q.1;subst q1;subst q2;refine cU [(4,.ref 4 0),(6,.ref 11900 0)] [(4,.cells [vb false,nzA,nzA,nzA]),(11900,.cells [sl AI roots,.cmap BW (mC x),.cmap BW (L.map (kA x)),.slice (.id 11901 6) [],.slice (.id 11902 1) [],.mref 11903,vb false,.slice .none [],.slice .none [],.msl 11904 0]),(11901,.tok 6 0),(11902,.tok 1 0),(11903,.map FI []),(11904,.arr 1 [])] Z2 Z6 (Xi (.gen [(11900,1000),(11901,1001),(11902,1002),(11903,1003),(11904,1004)] 1) (Yi rfl ((Vf hx hr h0 h1 qp ho).imp ?_)));intro v g q;have q1:=q.1;have q2:=q.2;subst q1;subst q2;refine cU [(4,.ref 4 0),(6,.ref 11900 0),(7,vi (k:Nat)),(8,vb false)] [(4,.cells [vb false,nzA,nzA,nzA]),(11900,.cells [sl AI roots,.cmap BW (mC x),.cmap BW (L.map (kA x)),.slice (.id 11901 6) (infs.map Dy),.slice (.id 11902 1) (drv.map Df),.mref 11903,vb false,sl AM dec,sl Ab (AP dec),.msl 12200 st.length]),(11901,.tok 6 infs.length),(11902,.tok 1 drv.length),(11903,.map FI (FK 0 infs)),(12200,.arr 1 (st.map Bb))] Z4 Z6 (Yi (fun h=>by cases h) (fun _=>?_));refine cU [(4,.ref 4 0),(6,.ref 11900 0),(7,vi (k:Nat)),(8,vb false)] [(4,.cells [vb false,nzA,nzA,nzA]),(11900,.cells [sl AI roots,.cmap BW (mC x),.cmap BW (L.map (kA x)),.slice (.id 11901 6) (infs.map Dy),.slice (.id 11902 1) (drv.map Df),.mref 11903,vb false,sl AM dec,sl Ab (AP dec),.msl 12200 st.length]),(11901,.tok 6 infs.length),(11902,.tok 1 drv.length),(11903,.map FI (FK 0 infs)),(12200,.arr 1 (st.map Bb))] Z4 Z6 (cU [(4,.ref 4 0),(6,.ref 11900 0),(7,vi (k:Nat))] [(4,.cells [vb false,nzA,nzA,nzA]),(11900,.cells [sl AI roots,.cmap BW (mC x),.cmap BW (L.map (kA x)),.slice (.id 11901 6) (infs.map Dy),.slice (.id 11902 1) (drv.map Df),.mref 11903,vb false,sl AM dec,sl Ab (AP dec),.msl 12200 st.length]),(11901,.tok 6 infs.length),(11902,.tok 1 drv.length),(11903,.map FI (FK 0 infs)),(12200,.arr 1 (st.map Bb))] Z3 Z6 (Yi (by grind [Az]) ?_));have el:(infs.map Dy).length=infs.length:=Lm ..;refine Yi ⟨Bs _,by grind,by grind⟩ ?_;refine Yi (fun cs hcs=>by obtain⟨i,_,rfl⟩:=Ay.1 hcs;rfl) (Yi ?_ ?_)
 .exact Nz rfl
 refine Yi ?_ ?_
 .exact Nz rfl
 have et:((infs.map Dy).take ((k:Int)+1).toNat).drop (0:Int).toNat=(infs.take (k+1)).map Dy:=by
  simp_all
 exact BC.tup ⟨BC.agg ⟨.refl _,.nil,.of_eq (show AV.slice .none (((infs.map Dy).take ((k:Int)+1).toNat).drop (0:Int).toNat)=_ by rw[et]),.nil,trivial⟩,.refl _,trivial⟩
theorem WK(y:Sl):∀l:List Sl,(VK y l).Perm (y::l)
 | []=>.refl _
 |z::l=>by
  unfold VK;split
  .simp_all
  .exact((WK y l).cons z).trans (List.Perm.swap y z l)
theorem Ip:∀l:List Sl,(Dx l).Perm l
 | []=>.refl _
 |y::l=>(WK y _).trans ((Ip l).cons y)
theorem ao{b:Nat}:∀{st:List (List Sk)},(∀s∈st,s.length<=b)->st.flatten.length<=b*st.length
 | [],_=>by simp
 |s::st,h=>by
  rw[BZ,Ac,Ap,Nat.mul_succ]
  have:=h s (Ah ..)
  have:=ao (st:=st) fun t ht=>h t (Am _ ht)
  omega
theorem pL{st:List (List Sk)}(h:st.length<=256)(hs:∀s∈st,s.length<=256)(i:Nat):((st.take i).flatten).length<=65536:=by
 have h1:=ao (b:=256) (st:=st.take i) fun s jD=>hs s (CF jD)
 grind
theorem tK(hx:∀r∈x,CX r)(hr:∀q∈roots,Jb q)(hv:GH x roots=true)(h0:AL x=0)(h1:A8 roots=0)(k:Nat)(infs:List Nf)(drv:List (List Tm))(dec:List Cd)(st:List (List Sk))(ho:EW x roots=⟨k,true,⟨infs,drv,false⟩,dec,st⟩)(hd:dec.length<=256)(hn:((AP dec).map (·.path)).Nodup)(KP:st.length<=256)(hsk:∀s∈st,s.length<=256):PC 78 [HZ x ifs,sl AI roots] (.tup [.agg (TR ⟨true,Dx (AP dec),infs,st.flatten⟩),vi 0]):=by
 have Ui:=s28 x ifs roots hx hr;rw[hv]at Ui;refine Ps tp func78 rfl (Nz rfl) (Yi ?_ ?_)
 .exact Nz rfl
 refine C1 (C2 Ui (cU [(1,sl AI roots),(2,.ref 2 0),(4,.ref 4 0)] [(2,.ro (Ic x ifs)),(4,.cells [vb false,nzA,nzA,nzA])] Z3 Z2 (Yi ?_ ?_)))
 .exact Nz rfl
 refine Xi (.gen [] 5) (Yi rfl ((s29 x ifs roots hx h0).imp ?_));intro v g q;refine Be q (fun L q=>?_);have q1:=q.2.1;have q2:=q.2.2;have qp:=q.1;subst q1;subst q2;refine cU [(4,.ref 4 0),(6,.ref 11900 0)] [(4,.cells [vb false,nzA,nzA,nzA]),(11900,.cells [sl AI roots,.cmap BW (mC x),.cmap BW (L.map (kA x)),.slice (.id 11901 6) [],.slice (.id 11902 1) [],.mref 11903,vb false,.slice .none [],.slice .none [],.msl 11904 0]),(11901,.tok 6 0),(11902,.tok 1 0),(11903,.map FI []),(11904,.arr 1 [])] Z2 Z6 (Xi (.gen [(11900,1000),(11901,1001),(11902,1002),(11903,1003),(11904,1004)] 1) (Yi rfl ((Vf hx hr h0 h1 qp ho).imp ?_)));intro v g q;have q1:=q.1;have q2:=q.2;subst q1;subst q2;refine cU [(4,.ref 4 0),(6,.ref 11900 0),(7,vi (k:Nat)),(8,vb true)] [(4,.cells [vb false,nzA,nzA,nzA]),(11900,.cells [sl AI roots,.cmap BW (mC x),.cmap BW (L.map (kA x)),.slice (.id 11901 6) (infs.map Dy),.slice (.id 11902 1) (drv.map Df),.mref 11903,vb false,sl AM dec,sl Ab (AP dec),.msl 12200 st.length]),(11901,.tok 6 infs.length),(11902,.tok 1 drv.length),(11903,.map FI (FK 0 infs)),(12200,.arr 1 (st.map Bb))] Z4 Z6 (Yi (fun h=>by cases h) (fun _=>?_));refine cU [(4,.ref 4 0),(6,.ref 11900 0),(8,vb true)] [(4,.cells [vb false,nzA,nzA,nzA]),(11900,.cells [sl AI roots,.cmap BW (mC x),.cmap BW (L.map (kA x)),.slice (.id 11901 6) (infs.map Dy),.slice (.id 11902 1) (drv.map Df),.mref 11903,vb false,sl AM dec,sl Ab (AP dec),.msl 12200 st.length]),(11901,.tok 6 infs.length),(11902,.tok 1 drv.length),(11903,.map FI (FK 0 infs)),(12200,.arr 1 (st.map Bb))] Z3 Z6 (cU [(4,.ref 4 0),(6,.ref 11900 0)] [(4,.cells [vb false,nzA,nzA,nzA]),(11900,.cells [sl AI roots,.cmap BW (mC x),.cmap BW (L.map (kA x)),.slice (.id 11901 6) (infs.map Dy),.slice (.id 11902 1) (drv.map Df),.mref 11903,vb false,sl AM dec,sl Ab (AP dec),.msl 12200 st.length]),(11901,.tok 6 infs.length),(11902,.tok 1 drv.length),(11903,.map FI (FK 0 infs)),(12200,.arr 1 (st.map Bb))] Z2 Z6 ?_)
 have zx:(AP dec).length<=256:=B0
 have gl:BD (AP dec):=Av zx Wk;refine Xi (AP dec).length (Xi 4 (Xi ((AP dec).map Ab) (Yi rfl (Yi (Ah4 (AP dec) gl) (Yi ?_ ?_)))))
 .exact Nz rfl
 refine Yi aa1 (cU [(4,.ref 4 0),(6,.ref 11900 0),(9,.ref 9 0)] [(4,.cells [vb false,nzA,nzA,nzA]),(9,.cells [vb true,.msl 14400 (AP dec).length,.slice (.id 11901 6) (infs.map Dy),nzA]),(11900,.cells [sl AI roots,.cmap BW (mC x),.cmap BW (L.map (kA x)),.slice (.id 11901 6) (infs.map Dy),.slice (.id 11902 1) (drv.map Df),.mref 11903,vb false,sl AM dec,sl Ab (AP dec),.msl 12200 st.length]),(11901,.tok 6 infs.length),(11902,.tok 1 drv.length),(11903,.map FI (FK 0 infs)),(12200,.arr 1 (st.map Bb)),(14400,.arr 4 ((AP dec).map Ab))] Z3 Z8 (Xi (.gen [(14400,1000)] 0) (Yi rfl ((s47 139 Tryz.closure139 (enters_of func139 aa1 rfl) (AP dec) gl hn).imp ?_))));intro v g q;have q1:=q.1;have q2:=q.2;subst q1;subst q2;refine cU [(4,.ref 4 0),(6,.ref 11900 0),(9,.ref 9 0)] [(4,.cells [vb false,nzA,nzA,nzA]),(9,.cells [vb true,.msl 14400 (AP dec).length,.slice (.id 11901 6) (infs.map Dy),.slice (.id 95 3) []]),(95,.tok 3 0),(11900,.cells [sl AI roots,.cmap BW (mC x),.cmap BW (L.map (kA x)),.slice (.id 11901 6) (infs.map Dy),.slice (.id 11902 1) (drv.map Df),.mref 11903,vb false,sl AM dec,sl Ab (AP dec),.msl 12200 st.length]),(11901,.tok 6 infs.length),(11902,.tok 1 drv.length),(11903,.map FI (FK 0 infs)),(12200,.arr 1 (st.map Bb)),(14400,.arr 4 ((Dx (AP dec)).map Ab))] Z3 Z9 (Xi {i:Nat // i<=st.length} (Xi (fun i=>⟨[(4,.ref 4 0),(6,.ref 11900 0),(9,.ref 9 0),(56,.msl 12200 st.length),(57,vi (st.length:Nat)),(58,vi i.1)],[(4,.cells [vb false,nzA,nzA,nzA]),(9,.cells [vb true,.msl 14400 (AP dec).length,.slice (.id 11901 6) (infs.map Dy),.slice (.id 95 3) ((st.take i.1).flatten.map Cb)]),(95,.tok 3 ((st.take i.1).flatten.map Cb).length),(11900,.cells [sl AI roots,.cmap BW (mC x),.cmap BW (L.map (kA x)),.slice (.id 11901 6) (infs.map Dy),.slice (.id 11902 1) (drv.map Df),.mref 11903,vb false,sl AM dec,sl Ab (AP dec),.msl 12200 st.length]),(11901,.tok 6 infs.length),(11902,.tok 1 drv.length),(11903,.map FI (FK 0 infs)),(12200,.arr 1 (st.map Bb)),(14400,.arr 4 ((Dx (AP dec)).map Ab))],Ae⟩) (Xi (fun i=>st.length-i.1) (Yi (Xi ⟨0,Aj _⟩ ?_) ?_))))
 .exact⟨Z6,Z9,Fh,Tv⟩
 intro⟨i,i1⟩;refine Yi ?_ ?_
 .intro h;have h:(i:Int)<(st.length:Nat):=h;have h:i<st.length:=ch
  have hg:st[i]?=some st[i]:=Ge h;have PA:st.take (i+1)=st.take i++[st[i]]:=B0
  refine Yi (Yi ch ch) (Yi B0 (Xi (Bb st[i]) (Yi B0 ?_)));refine cU [(4,.ref 4 0),(6,.ref 11900 0),(9,.ref 9 0),(11,sl Cb st[i]),(56,.msl 12200 st.length),(57,vi (st.length:Nat)),(58,vi i)] [(4,.cells [vb false,nzA,nzA,nzA]),(9,.cells [vb true,.msl 14400 (AP dec).length,.slice (.id 11901 6) (infs.map Dy),.slice (.id 95 3) ((st.take i).flatten.map Cb)]),(95,.tok 3 ((st.take i).flatten.map Cb).length),(11900,.cells [sl AI roots,.cmap BW (mC x),.cmap BW (L.map (kA x)),.slice (.id 11901 6) (infs.map Dy),.slice (.id 11902 1) (drv.map Df),.mref 11903,vb false,sl AM dec,sl Ab (AP dec),.msl 12200 st.length]),(11901,.tok 6 infs.length),(11902,.tok 1 drv.length),(11903,.map FI (FK 0 infs)),(12200,.arr 1 (st.map Bb)),(14400,.arr 4 ((Dx (AP dec)).map Ab))] Z7 Z9 ?_
  have hfl:((st.take i).flatten).length<=65536/\st[i].length<=256:=⟨pL KP hsk i,hsk _ (Ai _)⟩;have F5:Bi 3 (st[i].map Cb)/\((st.take i).flatten.map Cb).length=((st.take i).flatten.map Cb).length/\(((st.take i).flatten.map Cb).length+(st[i].map Cb).length)*32<=140737488355328/\((st.take i).flatten.map Cb).length+(st[i].map Cb).length<=9223372036854775807:=by
   grind [BV]
  refine Yi F5 (Yi ?_ ?_)
  .exact Nz rfl
  have ef:((st.take i).flatten.map Cb)++st[i].map Cb=((st.take (i+1)).flatten.map Cb):=aa0
  have en:((st.take i).flatten.map Cb).length+(st[i].map Cb).length=((st.take (i+1)).flatten.map Cb).length:=aa0
  refine cU [(4,.ref 4 0),(6,.ref 11900 0),(9,.ref 9 0),(56,.msl 12200 st.length),(57,vi (st.length:Nat)),(58,vi i)] [(4,.cells [vb false,nzA,nzA,nzA]),(9,.cells [vb true,.msl 14400 (AP dec).length,.slice (.id 11901 6) (infs.map Dy),.slice (.id 95 3) ((st.take (i+1)).flatten.map Cb)]),(95,.tok 3 ((st.take (i+1)).flatten.map Cb).length),(11900,.cells [sl AI roots,.cmap BW (mC x),.cmap BW (L.map (kA x)),.slice (.id 11901 6) (infs.map Dy),.slice (.id 11902 1) (drv.map Df),.mref 11903,vb false,sl AM dec,sl Ab (AP dec),.msl 12200 st.length]),(11901,.tok 6 infs.length),(11902,.tok 1 drv.length),(11903,.map FI (FK 0 infs)),(12200,.arr 1 (st.map Bb)),(14400,.arr 4 ((Dx (AP dec)).map Ab))] Z6 ⟨Zr,⟨Aa (fun z=>HO.cells [vb true,.msl 14400 (AP dec).length,.slice (.id 11901 6) (infs.map Dy),.slice (.id 95 3) z]) ef,rfl⟩,⟨Aa (HO.tok 3) en,rfl⟩,Zr,Zr,Zr,Zr,Zr,Zr,Tv⟩ (Yi (Ii i ch) (Xi ⟨i+1,by omega⟩ ?_));exact⟨by grind,Z6,Z9,Fh,Tv⟩
 .intro h;have h:¬(i:Int)<(st.length:Nat):=h;have et:st.take i=st:=As ch;have VH:(AP dec).length=((Dx (AP dec)).map Ab).length:=(Ip (AP dec)).length_eq.symm.trans (Lm ..).symm;refine Yi VH (cU [(4,.ref 4 0),(9,.ref 9 0)] [(4,.cells [vb false,nzA,nzA,nzA]),(9,.cells [vb true,.slice (.id 14400 4) ((Dx (AP dec)).map Ab),.slice (.id 11901 6) (infs.map Dy),.slice (.id 95 3) (st.flatten.map Cb)]),(95,.tok 3 (st.flatten.map Cb).length),(11901,.tok 6 infs.length),(14400,.tok 4 ((Dx (AP dec)).map Ab).length)] Z2 ⟨Zr,⟨Aa (fun z:List (List Sk)=>HO.cells [vb true,.slice (.id 14400 4) ((Dx (AP dec)).map Ab),.slice (.id 11901 6) (infs.map Dy),.slice (.id 95 3) (z.flatten.map Cb)]) et,rfl⟩,⟨Aa (fun z:List (List Sk)=>HO.tok 3 (z.flatten.map Cb).length) et,rfl⟩,Zr,Zr,Tv⟩ (Yi ?_ ?_))
  .exact Nz rfl
  refine Yi ?_ ?_
  .grind
  refine Yi ?_ ?_
  .exact Nz rfl
  exact .refl _
theorem Rk{s:SS}{b:List Cd}{p:CS}{needs:List Nd}:∀{cs:List Cd} {sk:List Sk},GG s b p needs cs sk->sk.length<=cs.length
 | [],sk,h=>by
  have h:sk=[]:=h;simp_all
 |c::cs,sk,h=>by
  have h:if(needs.all fun n=>has n.rq.set c.place)=true then _ else _:=h
  by_cases hc:(needs.all fun n=>has n.rq.set c.place)=true
  .rw[Ax hc]at h;obtain⟨k,rest,rfl,_,h3⟩:=h
   have:=Rk h3
   simp_all
  .rw[AA hc]at h
   have:=Rk h
   grind
theorem Wr{x:List Rl}{roots:List Rq}{s:SS}:∀{t:List Cd} {sl:List (List Sk)} {b:List Cd},Tc x roots s b t sl->sl.length=t.length/\∀k∈sl,k.length<=x.length
 | [],[],_,_=>⟨rfl,fun _ h=>by cases h⟩
 | [],_::_,_,h=>h.elim
 |_::_,[],_,h=>h.elim
 |c::t,sk::sl,b,⟨⟨p,needs,pre,post,hs⟩,h⟩=>by
  obtain⟨h1,h2⟩:=Wr h;refine⟨by simp_all,fun k hk=>?_⟩;rcases AZ.1 hk with rfl | hk
  .have e1:=Rk hs.skips;have e2:=Wo x p;rw[hs.cands,Ac]at e2;omega
  simp_all
theorem s21(hx:∀r∈x,CX r)(hr:∀q∈roots,Jb q):PC 78 [HZ x ifs,sl AI roots] (pM x roots):=by
 unfold pM Rp Oz;cases hv:GH x roots with
 |false=>grind [tJ]
 |true=>
  obtain⟨h0,h1⟩:=cd hv;have hR:=Xo h0 h1;have HE:=(Lz h0).1;have hA:lL x roots=if(EW x roots).found=true then⟨true,Dx (AP (EW x roots).dec),(EW x roots).ss.infs,(EW x roots).stack.flatten⟩else⟨false,[],(EW x roots).ss.infs.take ((EW x roots).res+1),[]⟩:=rfl
  rw[hA];generalize ho:EW x roots=o at hR⊢;obtain⟨k,b,⟨infs,drv,full⟩,dec,st⟩:=o;have hl:infs.length<=65536:=hR.der.len;have hdl:drv.length=infs.length:=hR.der.dlen;cases b with
  |false=>
   cases full with
   |true=>grind [pH]
   |false=>
    have hk:k<drv.length:=((hR.no rfl).2.2 rfl).1
    grind [ya]
  |true=>
   obtain⟨hf,t,sl,e1,e2,hC,_⟩:=hR.yes rfl;subst hf;have e1:dec=[]++t:=e1;have e2:st=[]++sl:=e2;rw[VX]at e1 e2;subst e1;subst e2;have hD:DH x ([]++dec):=(Tc.ok (.nil x) (.nil roots) hC).1;rw[VX]at hD;have hdx:=ZR hD
   grind [Wr,Oi,tK,DH.nodup]
def Ky:Int:=if Oz x roots≠0 then Oz x roots else if(Rp x roots).found=true then 0 else 17
def Ff:List Sl:=if Ky x roots=0 then(Rp x roots).sel else []
abbrev Age:Qx:=(pC [2] [])
theorem x9(a:An)(e:Int)(h:PC 78 [HZ x ifs,sl AI roots] (.tup [.agg (TR a),vi e])) :
  PC 37 [HZ x ifs,sl AI roots] (.tup [if e≠0 then sl Ab []else if a.found=true then sl Ab a.sel else sl Ab [],vi (if e≠0 then e else if a.found=true then 0 else 17)]):=by
 refine Ps Age func37 rfl (Nz rfl) (Yi ?_ ?_)
 .exact Nz rfl
 refine C1 (C2 h (Yi ?_ ?_))
 .exact Nz rfl
 refine Yi (fun he=>?_) (fun he=>?_)
 .have e1:AV.tup [sl Ab [],vi e]=.tup [if e≠0 then sl Ab []else if a.found=true then sl Ab a.sel else sl Ab [],vi (if e≠0 then e else if a.found=true then 0 else 17)]:=B0
  exact(show BC (.tup [nzA,vi e]) (.tup [sl Ab ([]:List Sl),vi e])from BC.tup ⟨.nil,.refl _,trivial⟩).trans (.of_eq e1)
 .have he:e=0:=CI.1 he;have Ef:¬e≠0:=fun h=>h he;refine Yi (fun hb=>?_) (fun hb=>?_)
  .have e1:AV.tup [sl Ab a.sel,vi 0]=.tup [if e≠0 then sl Ab []else if a.found=true then sl Ab a.sel else sl Ab [],vi (if e≠0 then e else if a.found=true then 0 else 17)]:=B0
   exact .of_eq e1
  .have hb:¬a.found=true:=B0
   have e1:AV.tup [sl Ab [],vi 17]=.tup [if e≠0 then sl Ab []else if a.found=true then sl Ab a.sel else sl Ab [],vi (if e≠0 then e else if a.found=true then 0 else 17)]:=B0
   exact(show BC (.tup [nzA,vi 17]) (.tup [sl Ab ([]:List Sl),vi 17])from BC.tup ⟨.nil,.refl _,trivial⟩).trans (.of_eq e1)
theorem s16(hx:∀r∈x,CX r)(hr:∀q∈roots,Jb q):PC 37 [HZ x ifs,sl AI roots] (.tup [sl Ab (Ff x roots),vi (Ky x roots)]):=by
 grind [x9,s21,Ff,Ky]
instance:DecidableEq Mv:=fun x y=>decidable_of_iff (x.path=y.path/\x.a=y.a/\x.b=y.b) ⟨fun⟨h1,h2,h3⟩=>by cases x;cases y;simp_all,fun h=>by subst h;exact⟨rfl,rfl,rfl⟩⟩
abbrev pa:CS:=⟨#[97,47,118,49]⟩
abbrev pb:CS:=⟨#[98,47,118,49]⟩
abbrev v40(m:Int):Ver:=⟨1,m,0⟩
abbrev b40:List Sl:=[⟨pa,v40 0⟩,⟨pb,v40 2⟩]
end Go.Eng
namespace Go.Eng
variable {x:List Rl}{p:Sl->Bool}{y:Bool}{j:Nat}
/-! The empty workspace, and a workspace twice. -/
theorem Pa:∀{l:List Rl} {b:Option Rl},B5 b l=0->∀r∈l,CM r=0
 | [],_,_,r,hr=>by cases hr
 |x::l,b,h,r,hr=>by
  unfold B5 at h;split at h
  .omega
  .rename_i h1;have h1:CM x=0:=CI.1 h1;have go:B5 (some x) l=0:=by
    grind
   rcases AZ.1 hr with rfl | hr
   .exact h1
   .exact Pa go r hr
theorem OZ:∀{l:List Rl} {b:Option Rl},(∀r∈l,CM r=0)->l.Pairwise cz->(∀c,b=some c->∀r∈l,cz c r)->B5 b l=0
 | [],_,_,_,_=>rfl
 |x::l,b,h,hp,hb=>by
  obtain⟨p1,p2⟩:=BI.1 hp;have ih:B5 (some x) l=0:=OZ (fun r hr=>h r (Am _ hr)) p2 (fun c e r hr=>by simp_all);unfold B5;rw[AA (fun q=>q (h x (Ah ..)))];cases b with
  |none=>exact ih
  |some c=>
   have hl:=hb c rfl x (Ah ..);dsimp only;rw[AA (fun q=>JJ hl q),AA (fun q=>by
    have:iZ (cA c) (cA x)<0:=Pb.2 hl
    have q:0<iZ (cA c) (cA x):=q;omega)]
   exact ih
theorem ZI{l:List Rl}:AL l=0↔l.length<=256/\(∀r∈l,CM r=0)/\l.Pairwise cz:=by
 grind [B7,AL,Pa,OZ]
/-! What is merged. -/
/-! What a workspace makes of an index. -/
/-! What the solver selects. -/
theorem Qh{roots:List Rq}(h:Ky x roots=0):(∀z∈Ff x roots,∃r∈x,cA r=z)/\(Ff x roots).length<=x.length/\AL x=0:=by
 have h0:=h;unfold Ky at h0;split at h0
 .omega
 .rename_i hs;have hs:Oz x roots=0:=CI.1 hs;split at h0
  .rename_i hf;have hv:GH x roots=true:=by
    grind [Oz]
   have nG:(EW x roots).ss.full=false:=by
    grind [Oz]
   obtain⟨hx,hr⟩:=cd hv;have hA:Rp x roots=lL x roots:=by grind [Rp]
   rw[hA]at hf;have wV:(EW x roots).found=true:=by
    grind [lL]
   have AfY:Ff x roots=Dx (AP (EW x roots).dec):=by
    grind [Ff,lL]
   obtain⟨_,t,sl,y2,y3,y4,y5⟩:=(Xo hx hr).yes wV;have sm:(EW x roots).dec∈MF x roots (x.length+1) []:=List.mem_of_head? y5;have lf:=QS (DH.nil x) (ID.nil roots) _ sm;rw[AfY];refine⟨fun z hz=>?_,?_,hx⟩
   .rw[FN]at hz;obtain⟨c,hc,rfl⟩:=Ay.1 hz;exact⟨c.rel,(lf.ok.cand c hc).1,rfl⟩
   .rw[(Ip _).length_eq,Lm]
    have:=QX (l:=(EW x roots).dec.map fun c=>c.rel) (m:=x) (dU (f:=fun r:Rl=>r.path) (by rw[Bw];exact lf.ok.nodup)) (fun r hr=>by
     obtain⟨c,hc,rfl⟩:=Ay.1 hr;exact(lf.ok.cand c hc).1)
    simp_all
  omega
/-! Releases whose names satisfy p get Yanked. -/
def yk(y:Bool)(p:Sl->Bool)(x:List Rl):List Rl:=x.map fun r=>if p (cA r)=true then { r with yanked:=y }else r
section
variable {x:List Rl}{roots:List Rq}{y:Bool}{p:Sl->Bool}
theorem Zg:(yk y p x).length=x.length:=Lm ..
end
/-! Law Keeps: which releases of the selection get yanked, one after the other. -/
section
variable {α:Type}(c:α->α->Int)
def JQ:Nat->List α->List α
 |0,l=>l
 |j+1,l=>match l[j+1]?,l[j]? with
  |some a,some b=>if c a b<0 then JQ j ((l.set (j+1) b).set j a)else l
  |_,_=>l
def DN(i:Nat)(l:List α):List α:=(List.range i).foldl (fun m i=>JQ c i m) l
theorem Xl:∀(j:Nat) (l:List α),(JQ c j l).length=l.length
 |0,_=>rfl
 |j+1,l=>by
  unfold JQ;split
  .split
   .rw[Xl j];simp
   .rfl
  .rfl
theorem M8(i:Nat)(l:List α):DN c (i+1) l=JQ c i (DN c i l):=by
 grind [DN,List.range_succ]
theorem oc(l:List α):DN c 1 l=l:=rfl
theorem KQ:∀(i:Nat) (l:List α),(DN c i l).length=l.length
 |0,_=>rfl
 |i+1,l=>by rw[M8,Xl,KQ i]
theorem Xm:∀(j:Nat) (l:List α),∀x∈JQ c j l,x∈l
 |0,_,_,h=>h
 |j+1,l,x,h=>by
  unfold JQ at h;split at h
  .rename_i a b ha hb;split at h
   .have h:=Xm j _ x h
    grind
   omega
  omega
theorem MC:∀(i:Nat) (l:List α),∀x∈DN c i l,x∈l
 |0,_,_,h=>h
 |i+1,l,x,h=>by rw[M8]at h;exact MC i l x (Xm c i _ x h)
theorem eQ{l:List α}{a b:α}(h0:0<j)(ha:l[j]?=some a)(hb:l[j-1]?=some b)(hc:c a b<0):JQ c j l=JQ c (j-1) ((l.set j b).set (j-1) a):=by
 obtain⟨k,rfl⟩:∃k,j=k+1:=⟨j-1,by omega⟩<;>grind [JQ]
theorem Ve{l:List α}{a b:α}(h0:0<j)(ha:l[j]?=some a)(hb:l[j-1]?=some b)(hc:¬c a b<0):JQ c j l=l:=by
 obtain⟨k,rfl⟩:∃k,j=k+1:=⟨j-1,by omega⟩<;>grind [JQ]
theorem WJ{l:List α}(h:l.Pairwise fun a b=>¬c b a<0):∀i,i<=l.length->DN c i l=l
 |0,_=>rfl
 |i+1,hi=>by
  rw[M8,WJ h i ch]
  by_cases h0:i=0
  .subst h0;rfl
  .exact Ve c ch (Ge hi) (Ge (show i-1<l.length by omega)) ((Bz.1 h) (i-1) i ch hi ch)
end
theorem RR(h:AL x=0):DN CB x.length x=x:=by
 refine WJ CB ?_ _ (Ao _);refine(B7 h).2.imp fun {a b} r7 hc=>?_;have h1:iZ (cA a) (cA b)<0:=Pb.2 r7;have h2:iZ (cA b) (cA a)<0:=hc;have h1:=Pb.1 h1;have h2:=Pb.1 h2;exact JJ (WS h1 h2) rfl
theorem qC{P:Rl->Prop}(h:∀r∈x,P r/\P { r with yanked:=y }):∀r∈yk y p x,P r:=fun r hr=>by
 obtain⟨q,hq,rfl⟩:=Ay.1 hr<;>grind
theorem uw(h:∀r∈x,CX r):∀r∈yk y p x,CX r:=qC fun r hr=>⟨h r hr,h r hr⟩
theorem iC{i:Nat}(h:i<x.length):(yk y p (x.take i)++x.drop i).set i (if p (cA x[i])=true then { x[i]with yanked:=y }else x[i])=yk y p (x.take (i+1))++x.drop (i+1):=by
 grind [List.drop_eq_getElem_cons,yk,List.take_add_one]
theorem qB{i:Nat}(h:i<x.length):(yk y p (x.take i)++x.drop i)[i]?=some x[i]:=by
 grind [Zg]
end Go.Eng
namespace Go.Eng
open Go.Proofs Go.Proofs.Tryz
variable {x:List Rl}{i:Nat}{α:Type}(l:List Rl)
theorem oa(c:α->α->Int){l:List α}(h1:1<=i)(h2:i<=l.length\/i=1)(h3:l.length<=i):DN c i l=DN c l.length l:=by
 by_cases e:i=l.length
 .rw[e]
 .have e1:i=1:=ch
  have e2:l.length=0:=ch
  rw[e1,e2];rfl
theorem Ahd(hl:BD l):AU Tryz.prog 196 [.msl 1000 l.length,vi 0,vi (l.length:Nat),.v (.func (.func 85) #[] #[])] (Ak [(1000,.arr 9 (l.map Au))] Ae) fun r h'=>r=.tup []/\h'=Ak [(1000,.arr 9 ((DN CB l.length l).map Au))] Ae:=by
 refine BX (Ms CQ) [(1000,1000)] rfl Ct hm rfl func196 aa1 rfl (Nz rfl) aa1 rfl (Yi (Ii 0 ch) (Xi {q:Nat // 1<=q/\(q<=l.length\/q=1)} (Xi (fun q=>⟨[(0,.msl 1000 l.length),(1,vi 0),(2,vi (l.length:Nat)),(3,.v (.func (.func 85) #[] #[])),(8,vi q.1)],[(1000,.arr 9 ((DN CB q.1 l).map Au))],Ae⟩) (Xi (fun q=>l.length+1-q.1) (Yi (Xi ⟨1,Ao _,.inr rfl⟩ ?_) ?_)))))
 .exact⟨Z5,⟨⟨(show HO.arr 9 (l.map Au)=.arr 9 ((DN CB 1 l).map Au) by rw[oc]),rfl⟩,Tv⟩,Fh,Bu aa1⟩
 intro⟨i,i1,i2⟩;refine Yi (fun h1=>?_) (fun h1=>?_)
 .have h1:(i:Int)<((l.length:Nat):Int):=h1;have ni:i<l.length:=ch
  refine Xi {q:Nat×List Rl // q.1<=i/\q.2.length=l.length/\JQ CB q.1 q.2=DN CB (i+1) l} (Xi (fun q=>⟨[(0,.msl 1000 l.length),(1,vi 0),(2,vi (l.length:Nat)),(3,.v (.func (.func 85) #[] #[])),(8,vi i),(9,vi q.1.1)],[(1000,.arr 9 (q.1.2.map Au))],Ae⟩) (Xi (fun q=>q.1.1) (Yi (Xi ⟨(i,DN CB i l),Ao _,KQ _ _ _,(M8 CB i l).symm⟩ ?_) ?_)))
  .exact⟨Z6,Z1,Fh,Bu aa1⟩
  intro⟨⟨j,N⟩,j1,j2,j3⟩;have j2:N.length=l.length:=j2;have j3:JQ CB j N=DN CB (i+1) l:=j3;refine Yi (fun h2=>?_) (fun h2=>?_)
  .have h2:(0:Int)<(j:Int):=h2;have nj:j<N.length:=ch
   have j0:0<j:=ch
   have ej:((j-1:Int).toNat)=j-1:=ch
   refine Be (show ∃a,N[j]?=some a from⟨_,Ge nj⟩) (fun a ga=>?_);refine Be (show ∃b,N[j-1]?=some b from⟨_,Ge ch⟩) (fun b gb=>?_);have gc:N[(j-1:Int).toNat]?=some b:=by rw[ej];exact gb
   refine Yi (by show(0:Int)<=j/\(j:Int)<(l.length:Nat);omega) (Yi (show l.length=(N.map Au).length by simp[j2]) (Xi (Au a) (Yi (El ga) (yN (Yi (by show Az ((j:Int)-(1:Int));unfold Az;omega) (Yi (by show(0:Int)<=j-1/\(j-1:Int)<(l.length:Nat);omega) (Yi (show l.length=(N.map Au).length by simp[j2]) (Xi (Au b) (Yi (El gc) (yN (C2 (Aa1 a b) (Yi (fun h3=>?_) (fun h3=>?_)))))))))))))
   .have h3:((CB a b):Int)<(0:Int):=h3;refine Yi aa1 (Yi (by show Az ((j:Int)-(1:Int));unfold Az;omega) (Yi (by show Az ((j:Int)-(1:Int));unfold Az;omega) (Yi (by show(0:Int)<=j-1/\(j-1:Int)<(l.length:Nat);omega) (Yi (show l.length=(N.map Au).length by simp[j2]) (Xi (Au b) (Yi (El gc) (yN (Yi (by show(0:Int)<=j/\(j:Int)<(l.length:Nat);omega) (Yi (show l.length=(N.map Au).length by simp[j2]) (Xi (Au a) (Yi (El ga) (yN (Yi (by show(0:Int)<=j/\(j:Int)<(l.length:Nat);omega) (Yi (show l.length=(N.map Au).length by simp[j2]) (Xi (Au a) (Yi (El ga) (yN (Yi (by show(0:Int)<=j-1/\(j-1:Int)<(l.length:Nat);omega) (Yi (show l.length=(((N.map Au).set j (Au b)):C0).length by simp[j2]) (Xi (Au b) (Yi ((List.getElem?_set_ne ch).trans (El gc)) (yN ?_))))))))))))))))))))));refine Yi aa1 (Yi (by show Az ((j:Int)-(1:Int));unfold Az;omega) (Xi ⟨(j-1,(N.set j b).set (j-1) a),by omega,by rw[JX,JX];exact j2,by rw[<-j3,eQ CB j0 ga gb h3]⟩ ?_));exact⟨by show(j-1:Nat)<j;omega,⟨Zr,Zr,Zr,Zr,Zr,⟨(Aa vi (show(j:Int)-1=((j-1:Nat):Int) by omega)),rfl⟩,Tv⟩,⟨⟨(show HO.arr 9 (((N.map Au).set j (Au b)).set ((j-1:Int).toNat) (Au a))=.arr 9 (((N.set j b).set (j-1) a).map Au) by rw[ej,IR,IR]),rfl⟩,Tv⟩,Fh,Bu aa1⟩
   have h3:¬(((CB a b):Int)<(0:Int)):=h3;refine Yi aa1 (Yi (Ii i ch) ?_);have eN:N=DN CB (i+1) l:=by rw[<-j3];exact(Ve CB j0 ga gb h3).symm
   refine Xi ⟨i+1,by omega,.inl ni⟩ ?_;exact⟨by show l.length+1-(i+1)<l.length+1-i;omega,Z5,⟨⟨(show HO.arr 9 (N.map Au)=.arr 9 ((DN CB (i+1) l).map Au) by rw[eN]),rfl⟩,Tv⟩,Fh,Bu aa1⟩
  have h2:¬((0:Int)<(j:Int)):=h2;refine Yi aa1 (Yi (Ii i ch) ?_);have eN:N=DN CB (i+1) l:=by rw[<-j3];exact(show JQ CB j N=N by rw[show j=0 by omega];rfl).symm
  refine Xi ⟨i+1,by omega,.inl ni⟩ ?_;exact⟨by show l.length+1-(i+1)<l.length+1-i;omega,Z5,⟨⟨(show HO.arr 9 (N.map Au)=.arr 9 ((DN CB (i+1) l).map Au) by rw[eN]),rfl⟩,Tv⟩,Fh,Bu aa1⟩
 have h1:¬((i:Int)<((l.length:Nat):Int)):=h1;exact C2 (.refl _) ⟨rfl,show Ak [(1000,HO.arr 9 ((DN CB i l).map Au))] Ae=Ak [(1000,.arr 9 ((DN CB l.length l).map Au))] Ae from Aa (fun z=>Ak [(1000,HO.arr 9 (z.map Au))] Ae) (oa CB i1 i2 ch)⟩
theorem Ahc(hl:l.length<=19):AU Tryz.prog 143 [.msl 1000 l.length,vi (l.length:Nat),.v (.func (.func 85) #[] #[])] (Ak [(1000,.arr 9 (l.map Au))] Ae) fun r h'=>r=.tup []/\h'=Ak [(1000,.arr 9 ((DN CB l.length l).map Au))] Ae:=by
 refine BX (Ms CQ) [(1000,1000)] rfl Ct hm rfl func143 aa1 rfl (Nz rfl) aa1 rfl (Xi {q:Nat // q=0} (Xi (fun q=>⟨[(0,.msl 1000 l.length),(1,vi (l.length:Nat)),(2,.v (.func (.func 85) #[] #[])),(6,vi 20),(7,vi 0),(8,vi 20)],[(1000,.arr 9 (l.map Au))],Ae⟩) (Xi (fun q=>q.1) (Yi (Xi ⟨0,rfl⟩ ?_) ?_))))
 .exact⟨Z6,Z1,Fh,Bu aa1⟩
 intro⟨i,i1⟩;refine Yi (fun h1=>?_) (fun h1=>?_)
 .exact absurd h1 ch
 refine Xi (.gen [(1000,1000)] 0) (Yi rfl (AU.to2 (Ahd l (by unfold BD;omega)) ?_));refine Xi {q:Nat // q=0} (Xi (fun q=>⟨[(0,.msl 1000 l.length),(1,vi (l.length:Nat)),(2,.v (.func (.func 85) #[] #[])),(6,vi 20)],[(1000,.arr 9 ((DN CB l.length l).map Au))],Ae⟩) (Xi (fun q=>q.1) (Yi (Xi ⟨0,rfl⟩ ?_) ?_)))
 .exact⟨Z4,Z1,Fh,Bu aa1⟩
 intro⟨i,i1⟩;refine Yi (fun h2=>?_) (fun h2=>?_)
 .exact absurd h2 ch
 exact C2 (.refl _) Zr
theorem v105(hl:l.length<=19):AU Tryz.prog 84 [.msl 1000 l.length,.v (.func (.func 85) #[] #[])] (Ak [(1000,.arr 9 (l.map Au))] Ae) fun r h'=>r=.tup []/\h'=Ak [(1000,.arr 9 ((DN CB l.length l).map Au))] Ae:=by
 refine BX (Ms CQ) [(1000,1000)] rfl Ct hm rfl func84 aa1 rfl (Nz rfl) aa1 rfl (Xi (.gen [(1000,1000)] 0) (Yi rfl (AU.to2 (Ahc l hl) ?_)));exact C2 (.refl _) Zr
theorem Ahf(x:List Rl)(hx:x.length<=19)(hc:∀r∈x,PC 83 [.agg (Au r)] (.agg (Au r)))(hk:AU Tryz.prog 86 [.agg [.msl 1000 ((DN CB x.length x).map Au).length,nzA]] (Ak [(1000,.arr 9 ((DN CB x.length x).map Au))] Ae) fun r h'=>r=vi 0/\h'=Ak [(1000,.arr 9 ((DN CB x.length x).map Au))] Ae):AU Tryz.prog 43 [sl Au x] (Ak [] Ae) fun r h'=>r=.tup [.msl 2000 ((DN CB x.length x).map Au).length,vi 0]/\h'=Ak [(2000,.arr 9 ((DN CB x.length x).map Au))] Ae:=by
 refine BX (Ms ⟨[],[],[(4,9)],[],[],[],[],[],[],[],[7,8]⟩) [(4,2000)] rfl Ct hm rfl func43 aa1 rfl (Nz rfl) aa1 rfl (Xi {q:Nat // q<=x.length} (Xi (fun q=>⟨[(4,.msl 4 (x.take q.1).length),(8,sl Au x),(9,vi (x.map Au).length),(10,vi q.1)],[(4,.arr 9 ((x.take q.1).map Au))],Ae⟩) (Xi (fun q=>x.length-q.1) (Yi (Xi ⟨0,Aj _⟩ ?_) ?_))))
 .exact⟨Z4,Z1,Fh,Bu aa1⟩
 intro⟨i,i1⟩;refine Yi (fun h1=>?_) (fun h1=>?_)
 .have h1:(i:Int)<((x.map Au).length:Int):=h1;have n1:=Dh h1;refine Xi (Au x[i]) (Yi (DC n1) (Yi rfl (yN (yN (yN (C1 (C2 (hc x[i] (Ai n1)) ?_)))))));have b2:Bi 9 [(Au x[i])]/\((x.take i).map Au).length=(x.take i).length/\(((x.take i).map Au).length+([(Au x[i])]:C0).length)*120<=140737488355328/\((x.take i).map Au).length+([(Au x[i])]:C0).length<=9223372036854775807:=⟨⟨rfl,trivial⟩,(by rw[Lm]),(by simp only[Lm,Ap,AC,AF];omega),(by simp only[Lm,Ap,AC,AF];omega)⟩;refine Yi b2 (Yi (Ii i ch) (Xi ⟨i+1,n1⟩ ?_));exact⟨Dl x.length i ch,⟨⟨(show AV.msl 4 (((x.take i).map Au).length+([Au x[i]]:C0).length)=.msl 4 (x.take (i+1)).length by rw[DV n1,Ac,Lm];rfl),rfl⟩,Zr,Zr,Zr,Tv⟩,⟨⟨(show HO.arr 9 ((x.take i).map Au++[Au x[i]])=.arr 9 ((x.take (i+1)).map Au) by rw[DV n1,Ar];rfl),rfl⟩,Tv⟩,Fh,Bu aa1⟩
 have h1:¬((i:Int)<((x.map Au).length:Int)):=h1;have n1:=BB h1;have ei:x.take i=x:=As ch;refine Xi ⟨[(4,.msl 4 x.length)],[(4,.arr 9 (x.map Au))],Ae⟩ (Yi ⟨⟨⟨(show AV.msl 4 (x.take i).length=.msl 4 x.length by rw[ei]),rfl⟩,trivial⟩,⟨⟨(show HO.arr 9 ((x.take i).map Au)=.arr 9 (x.map Au) by rw[ei]),rfl⟩,trivial⟩,fun _=>.inl rfl,Bu aa1⟩ ?_)
 refine Xi (.gen [(4,1000)] 0) (Yi rfl (AU.to2 (v105 x hx) ?_));refine cU [(4,.msl 4 ((DN CB x.length x).map Au).length)] [(4,.arr 9 ((DN CB x.length x).map Au))] ⟨⟨(show AV.msl 4 x.length=.msl 4 ((DN CB x.length x).map Au).length by rw[Lm,KQ]),rfl⟩,Tv⟩ Z1 ?_
 refine Xi (.gen [(4,1000)] 0) (Yi rfl (AU.to2 hk ?_));refine Yi (fun h=>absurd h Wk) (fun _=>?_);exact C2 (.refl _) Zr
theorem Ahe(x:List Rl)(hx:x.length<=19)(hc:∀r∈x,PC 83 [.agg (Au r)] (.agg (Au r)))(c:Int)(hc0:c≠0)(hk:AU Tryz.prog 86 [.agg [.msl 1000 ((DN CB x.length x).map Au).length,nzA]] (Ak [(1000,.arr 9 ((DN CB x.length x).map Au))] Ae) fun r h'=>r=vi c/\h'=Ak [(1000,.arr 9 ((DN CB x.length x).map Au))] Ae):PC 43 [sl Au x] (.tup [nzA,vi c]):=by
 refine Ps ⟨[],[],[(4,9)],[],[],[],[],[],[],[],[7,8]⟩ func43 rfl (Nz rfl) (Xi {q:Nat // q<=x.length} (Xi (fun q=>⟨[(4,.msl 4 (x.take q.1).length),(8,sl Au x),(9,vi (x.map Au).length),(10,vi q.1)],[(4,.arr 9 ((x.take q.1).map Au))],Ae⟩) (Xi (fun q=>x.length-q.1) (Yi (Xi ⟨0,Aj _⟩ ?_) ?_))))
 .exact⟨Z4,Z1,Fh,Tv⟩
 intro⟨i,i1⟩;refine Yi (fun h1=>?_) (fun h1=>?_)
 .have h1:(i:Int)<((x.map Au).length:Int):=h1;have n1:=Dh h1;refine Xi (Au x[i]) (Yi (DC n1) (Yi rfl (yN (yN (yN (C1 (C2 (hc x[i] (Ai n1)) ?_)))))));have b2:Bi 9 [(Au x[i])]/\((x.take i).map Au).length=(x.take i).length/\(((x.take i).map Au).length+([(Au x[i])]:C0).length)*120<=140737488355328/\((x.take i).map Au).length+([(Au x[i])]:C0).length<=9223372036854775807:=⟨⟨rfl,trivial⟩,(by rw[Lm]),(by simp only[Lm,Ap,AC,AF];omega),(by simp only[Lm,Ap,AC,AF];omega)⟩;refine Yi b2 (Yi (Ii i ch) (Xi ⟨i+1,n1⟩ ?_));exact⟨Dl x.length i ch,⟨⟨(show AV.msl 4 (((x.take i).map Au).length+([Au x[i]]:C0).length)=.msl 4 (x.take (i+1)).length by rw[DV n1,Ac,Lm];rfl),rfl⟩,Zr,Zr,Zr,Tv⟩,⟨⟨(show HO.arr 9 ((x.take i).map Au++[Au x[i]])=.arr 9 ((x.take (i+1)).map Au) by rw[DV n1,Ar];rfl),rfl⟩,Tv⟩,Fh,Tv⟩
 have h1:¬((i:Int)<((x.map Au).length:Int)):=h1;have n1:=BB h1;have ei:x.take i=x:=As ch;refine cU [(4,.msl 4 x.length)] [(4,.arr 9 (x.map Au))] ⟨⟨(show AV.msl 4 (x.take i).length=.msl 4 x.length by rw[ei]),rfl⟩,Tv⟩ ⟨⟨(show HO.arr 9 ((x.take i).map Au)=.arr 9 (x.map Au) by rw[ei]),rfl⟩,Tv⟩ ?_
 refine Xi (.gen [(4,1000)] 0) (Yi rfl (AU.to2 (v105 x hx) ?_));refine cU [(4,.msl 4 ((DN CB x.length x).map Au).length)] [(4,.arr 9 ((DN CB x.length x).map Au))] ⟨⟨(show AV.msl 4 x.length=.msl 4 ((DN CB x.length x).map Au).length by rw[Lm,KQ]),rfl⟩,Tv⟩ Z1 ?_
 refine Xi (.gen [(4,1000)] 0) (Yi rfl (AU.to2 hk ?_));refine Yi (fun h4=>?_) (fun h4=>?_)
 .exact .refl _
 have h4:(c:Int)=(0:Int):=Aq h4;exact absurd h4 hc0
theorem bS{β:Type}{f:α->β}{N:List α}{r:α}(h:N[i]?=some r):N.map f=(N.set i r).map f:=by
 obtain⟨hi,rfl⟩:=Bf.1 h;rw[List.set_getElem_self]
theorem Zh{y:Bool}{p:Sl->Bool}:(yk y p (x.take i)++x.drop i).length=x.length:=by
 rw[Ac,Zg,AF,G1];omega
structure Te(x:List Rl):Prop where
 len:x.length<=16
 few:∀r∈x,CX r
structure VW(x:List Rl):Prop where
 len:x.length<=19
 few:∀r∈x,CX r
theorem Te.to19(h:Te x):VW x:=⟨Av h.len Wk,h.few⟩
theorem y8(hf:∀r∈x,CX r):PC 86 [.agg [sl Au x,nzA]] (vi (AL x)):=(zg VD x [] hf).args ⟨.agg ⟨.refl _,.nil,trivial⟩,trivial⟩
theorem Ahj(h:VW x)(hr:∀r∈x,r.reqs.length<=1000)(hc:AL (DN CB x.length x)=0):AU Tryz.prog 43 [sl Au x] Ae fun r h'=>r=.tup [.msl 2000 x.length,vi 0]/\h'=Ak [(2000,.arr 9 ((DN CB x.length x).map Au))] Ae:=by
 have hk:=IB.lend (sz:=9) (es:=(DN CB x.length x).map Au) (vs:=[.slice none 0 0]) (y8 (x:=DN CB x.length x) fun r hr=>h.few r (MC CB _ _ r hr));rw[hc]at hk;have q:=Ahf x h.len (fun r hm=>c98 r (hr r hm) fun q hq=>((h.few r hm).2 q hq).1) hk;rw[show((DN CB x.length x).map Au).length=x.length by rw[Lm,KQ]]at q;exact q
theorem JF(l:List Sl):CD l=true↔∀j (h:j<l.length),0<j->Dq (l[j-1]' ch).path l[j].path=true:=by
 constructor
 .intro h j hj h0;exact(Bz.1 (Og h).1) (j-1) j ch hj ch
 .intro h;refine dG (Bz.2 fun i j hi hj az=>?_);have key:∀d (hd:i+d+1<l.length),Dq l[i].path (l[i+d+1]'hd).path=true:=fun d=>by
   induction d with
   |zero=>intro hd;exact h (i+1) hd ch
   |succ d ih=>intro hd;exact DF (ih ch) (h (i+d+1+1) hd ch)
  have:=key (j-i-1) ch
  simp only[show i+(j-i-1)+1=j by omega]at this;exact this
end Go.Eng
namespace Go.Eng
variable {t:List CS}{l m:List Sl}
theorem YB:∀{x y:List UInt8},IJ x y=true->x<y
 |x,[],h=>by cases x<;>cases h
 | [],b::y,_=>by simp
 |a::x,b::y,h=>by
  unfold IJ at h;rw[List.cons_lt_cons_iff];rcases JV _ _▸h with h | h
  .simp_all
  .obtain⟨h1,h2⟩:=Dt.1 h;exact .inr ⟨AT h1,YB h2⟩
section
variable {α:Type}[Inhabited α][DecidableEq α]
theorem Pc{R:α->α->Prop}(hR:∀a b c,R a b->R b c->R a c)(xs:List α)(hs:∀i j,(hi:i<xs.length)->(hj:j<xs.length)->i<j->xs[i]=xs[j]\/R xs[i] xs[j]):∀m,m<=xs.length ->
  (Lib.compactUpTo xs.toArray m).Pairwise R/\(∀a,a∈Lib.compactUpTo xs.toArray m↔a∈xs.take m)
 |0,_=>by simp[Lib.compactUpTo]
 |m+1,h=>by
  obtain⟨h1,h2⟩:=Pc hR xs hs m ch;have hg:xs.toArray[m]! = xs[m]' ch:=aa0
  rw[Lib.compactUpTo_succ,hg,DI,Ge ch]
  grind [Lib.keeps,List.mem_iff_getElem,Nat.pos_of_ne_zero]
end
theorem mG(ht:(t.map Ks).Pairwise fun a b=>a<=b):(B8 t).Pairwise (fun a b=>Dq a b=true)/\∀p,p∈B8 t↔p∈t:=by
 have hc:=Pc (R:=fun a b=>IJ a b=true) (fun a b c=>Ok) (t.map Ks) (fun i j hi hj az=>by
  have h:=(Bz.1 ht) i j hi hj az;cases e:IJ (t.map Ks)[i] (t.map Ks)[j]with
  |true=>simp_all
  |false=>
   cases e2:IJ (t.map Ks)[j] (t.map Ks)[i]with
   |true=>exact absurd (YB e2) ch
   |false=>grind [UC]) (t.map Ks).length (Ao _)
 rw[Cf]at hc;have e:B8 t=(Lib.compactUpTo (t.map Ks).toArray (t.map Ks).length).map Sr:=rfl;rw[e];refine⟨?_,fun p=>?_⟩
 .rw[KE];exact hc.1.imp fun {a b} h=>by show IJ (Sr a).data.toList (Sr b).data.toList=true;exact h
 .rw[Ay];constructor
  .rintro⟨a,ha,rfl⟩
   obtain⟨q,hq,rfl⟩:=Ay.1 ((hc.2 a).1 ha)<;>simp_all
  grind
abbrev jX(p:CS)(f t:Int):List Mv:=if f≠t then [⟨p,f,t⟩]else []
def rm:List Sl->List Sl->List Mv
 | [],[]=>[]
 |a::l,[]=>jX a.path (place a.ver) (-1)++rm l []
 | [],b::m=>jX b.path (-1) (place b.ver)++rm [] m
 |a::l,b::m=>if a.path=b.path then jX a.path (place a.ver) (place b.ver)++rm l m else if Dq a.path b.path=true then jX a.path (place a.ver) (-1)++rm l (b::m)else jX b.path (-1) (place b.ver)++rm (a::l) m
termination_by l m=>l.length+m.length
def mp:List Sl->List Sl->List CS
 | [],[]=>[]
 |a::l,[]=>a.path::mp l []
 | [],b::m=>b.path::mp [] m
 |a::l,b::m=>if a.path=b.path then a.path::mp l m else if Dq a.path b.path=true then a.path::mp l (b::m)else b.path::mp (a::l) m
termination_by l m=>l.length+m.length
theorem GF(a:Sl)(l:List Sl)(p:CS):Jv (a::l) p=if a.path=p then place a.ver else Jv l p:=by
 grind [Jv,BE]
theorem H2{l' m':List Sl}{ps:List CS}(h1:∀p∈ps,Jv l p=Jv l' p)(h2:∀p∈ps,Jv m p=Jv m' p):IW l m ps=IW l' m' ps:=
 (by
  induction ps<;>grind [LC])
theorem IK(l m:List Sl)(p:CS)(ps:List CS):IW l m (p::ps)=jX p (Jv l p) (Jv m p)++IW l m ps:=by
 grind [LC]
theorem YM{p:CS}(h:∀s∈l,s.path≠p):Jv l p=-1:=by
 grind [Jv,BE]
theorem PL(l m:List Sl)(hl:l.Pairwise Qu)(hm:m.Pairwise Qu):(mp l m).Pairwise (fun a b=>Dq a b=true)/\(∀p,p∈mp l m↔p∈l.map (·.path)\/p∈m.map (·.path))/\rm l m=IW l m (mp l m):=by
 match l,m with
 | [],[]=>unfold mp rm;simp
 |a::l,[]=>
  obtain⟨a1,a2⟩:=BI.1 hl;obtain⟨h1,h2,h3⟩:=PL l [] a2 hm;have lt:∀p∈mp l [],Dq a.path p=true:=fun p hp=>by
   grind
  unfold mp rm;refine⟨BI.2 ⟨lt,h1⟩,fun p=>by simp_all,?_⟩;rw[IK,h3,GF,Ax rfl]
  congr 1
  grind [H2,GF,Ih]
 | [],b::m=>
  obtain⟨a1,a2⟩:=BI.1 hm;obtain⟨h1,h2,h3⟩:=PL [] m hl a2;have lt:∀p∈mp [] m,Dq b.path p=true:=fun p hp=>by
   grind
  unfold mp rm;refine⟨BI.2 ⟨lt,h1⟩,fun p=>by simp_all,?_⟩;rw[IK,h3,GF,Ax rfl]
  congr 1
  exact H2 (fun _ _=>rfl) fun p hp=>by grind [GF,Ih]
 |a::l,b::m=>
  obtain⟨a1,a2⟩:=BI.1 hl;obtain⟨b1,b2⟩:=BI.1 hm;unfold mp rm
  by_cases e:a.path=b.path
  .rw[Ax e,Ax e];obtain⟨h1,h2,h3⟩:=PL l m a2 b2;have lt:∀p∈mp l m,Dq a.path p=true:=fun p hp=>by
    grind
   refine⟨BI.2 ⟨lt,h1⟩,fun p=>?_,?_⟩
   .grind
   .rw[IK,h3,GF,Ax rfl,GF,Ax e.symm]
    grind [H2,GF,Ih]
  .rw[AA e,AA e]
   by_cases c:Dq a.path b.path=true
   .rw[Ax c,Ax c];obtain⟨h1,h2,h3⟩:=PL l (b::m) a2 hm;have la:∀s∈b::m,Dq a.path s.path=true:=fun s hs=>by
     grind [DF]
    have lt:∀p∈mp l (b::m),Dq a.path p=true:=fun p hp=>by
     grind
    refine⟨BI.2 ⟨lt,h1⟩,fun p=>by grind,?_⟩;rw[IK,h3,GF,Ax rfl,YM (l:=b::m) fun s hs=>(Ih (la s hs)).symm]
    congr 1
    grind [H2,GF,Ih]
   .rw[AA c,AA c];have c' : Dq b.path a.path=true:=by
     grind [Hd]
    obtain⟨h1,h2,h3⟩:=PL (a::l) m hl b2;have la:∀s∈a::l,Dq b.path s.path=true:=fun s hs=>by
     grind [DF]
    have lt:∀p∈mp (a::l) m,Dq b.path p=true:=fun p hp=>by
     grind
    refine⟨BI.2 ⟨lt,h1⟩,fun p=>?_,?_⟩
    .grind
    .rw[IK,h3,YM (l:=a::l) fun s hs=>(Ih (la s hs)).symm,GF b m,Ax rfl]
     congr 1
     exact H2 (fun _ _=>rfl) fun p hp=>by grind [GF,Ih]
termination_by l.length+m.length
theorem bm(hl:FU l)(hm:FU m)(hp:t.Perm ((l++m).map (·.path)))(ht:(t.map Ks).Pairwise fun a b=>a<=b):IW l m (B8 t)=rm l m:=by
 obtain⟨h1,h2,h3⟩:=PL l m hl.inc hm.inc;obtain⟨c1,c2⟩:=mG ht;rw[h3]
 congr 1
 refine List.Perm.eq_of_pairwise (le:=fun a b=>Dq a b=true) (fun a b _ _ x y=>?_) c1 h1 ?_
 .grind [Jn]
 .grind [List.perm_ext_iff_of_nodup,Ih,List.Pairwise.imp]
end Go.Eng
namespace Go.Eng
open Go.Proofs
end Go.Eng
namespace Go.Eng
end Go.Eng
namespace Go.Eng
open Go.Proofs
variable {p:CS}{i:Nat}(x:List Rl)(s:List Sl)(q:Rq)(y:Sl)
theorem y9(v:Ver):PC 67 [.agg (CK v)] (.tup [vi (plc v),vi (if BN v then 0 else 2)]):=zf v
def zeR:Rl:=⟨⟨#[]⟩,⟨0,0,0⟩,[],⟨#[]⟩,⟨#[]⟩,⟨#[]⟩,false⟩
def D5:Rl:=(By x y).getD zeR
abbrev Xj:Value×AV:=(Value.string y.path,AV.agg (Au (D5 x y)))
abbrev Ch:List (Value×AV):=s.map (Xj x)
def J0:Int:=if AL x=0 then if CD s=true then if s.all (fun y=>(By x y).isSome)=true then 0 else 6 else 1 else 1
def Mf:Bool:=match BE s q.path with
 |some y=>has q.set (plc (D5 x y).ver)
 |none=>false
def TN:Bool:=s.all fun y=>(D5 x y).reqs.all (Mf x s)
def Dp:Int:=if J0 x s=0 then if TN x s=true then 0 else 17 else J0 x s
theorem Jl{s:List Sl}(h:CD s=true):s.Pairwise Qu:=by
 rw[JF]at h;rw[Bz];intro i j hi hj az;show Dq s[i].path s[j].path=true
 induction j with
 |zero=>omega
 |succ j ih=>
  have q:=h (j+1) hj ch
  by_cases e:i=j
  .subst e;exact q
  .exact DF (ih ch ch) q
theorem tO{x:List Rl}{s:List Sl}(h:s.Pairwise Qu)(hi:i<s.length):∀b,(Value.string s[i].path,b)∉Ch x (s.take i):=fun b hb=>by
 obtain⟨t,ht,e⟩:=Ay.1 hb;obtain⟨j,hj,rfl⟩:=DS.1 ht;rw[List.getElem_take]at e;rw[AF]at hj;have q:=(Bz.1 h) j i ch hi ch;have e2:s[j].path=s[i].path:=by injection e with e1;injection e1
 rw[Qu,e2,Cm]at q;cases q
theorem kP{x:List Rl}{s:List Sl}(h:s.Pairwise Qu)(hi:i<s.length):EV (Ch x (s.take i)) (.string s[i].path) (.agg (Au (D5 x s[i])))=Ch x (s.take (i+1)):=by
 rw[Im (tO h hi),DV hi];unfold Ch;rw[Ar];rfl
theorem Xk{x:List Rl}{s:List Sl}(h:s.Pairwise Qu){y:Sl}(hy:BE s p=some y):(Value.string p,AV.agg (Au (D5 x y)))∈Ch x s/\∀b,(Value.string p,b)∈Ch x s->b=AV.agg (Au (D5 x y)):=by
 have h1:=DA hy;have e1:y.path=p:=AT h1;refine⟨Ay.2 ⟨y,AX hy,by rw[<-e1]⟩,fun b hb=>?_⟩;obtain⟨t,ht,e⟩:=Ay.1 hb;have e2:t.path=p:=by injection e with e1;injection e1
 have e3:AV.agg (Au (D5 x t))=b:=by injection e
 have e4:BE s p=some t:=by unfold BE;rw[<-e2];exact GB (Jq zI h) ht
 rw[hy]at e4;rw[<-e3,DY e4]
theorem kQ{x:List Rl}{s:List Sl}(h:BE s p=none):∀b,(Value.string p,b)∉Ch x s:=fun b hb=>by
 obtain⟨t,ht,e⟩:=Ay.1 hb;have e2:t.path=p:=by injection e with e1;injection e1
 exact absurd (AB e2) (OM.1 h t ht)
theorem yL(hs:s.Pairwise Qu)(hy:BE s q.path=some y)(hq:BD q.set):PC 129 [.cmap BW (Ch x s),.agg (AI q)] (vb (has q.set (plc (D5 x y).ver))):=by
 refine Ps (pC [3] []) Tryz.func129 rfl (Nz rfl) (Yi (fun a ha=>?_) (fun Qs=>absurd (Xk hs hy).1 (Qs _)));have ea:=(Xk hs hy).2 a ha;subst ea;refine yN (yN (C1 (C2 (y9 (D5 x y).ver) (A1 (Bt (has q.set (plc (D5 x y).ver))) (fun h1=>?_) (fun h1=>?_)))))
 .have h1:(has q.set (plc (D5 x y).ver))=true:=h1;refine C1 (C2 (cb h1 (mg q.set (plc (D5 x y).ver) hq)) ?_);exact BC.of_eq (Aa vb h1.symm)
 have h1:(has q.set (plc (D5 x y).ver))=false:=h1;refine C1 (C2 (cb h1 (mg q.set (plc (D5 x y).ver) hq)) ?_);exact BC.of_eq (Aa vb h1.symm)
theorem yK(hy:BE s q.path=none)(_hq:BD q.set):PC 129 [.cmap BW (Ch x s),.agg (AI q)] (vb false):=by
 refine Ps (pC [3] []) Tryz.func129 rfl (Nz rfl) (Yi (fun a ha=>absurd ha (kQ hy a)) (fun _=>?_));refine yN (yN (C1 (C2 (y9 ⟨0,0,0⟩) ?_)));exact .refl _
theorem vD(hs:s.Pairwise Qu)(hq:BD q.set):PC 129 [.cmap BW (Ch x s),.agg (AI q)] (vb (Mf x s q)):=by
 cases e:BE s q.path with
 |some y=>rw[Mf,e];exact yL x s q y hs e hq
 |none=>rw[Mf,e];exact yK x s q e hq
theorem iq(hs:s.Pairwise Qu)(hq:BD q.set):PC 128 [.agg (AI q),.cptr [.cmap BW (Ch x s)]] (vb (!Mf x s q)):=by
 refine Ps CQ Tryz.func128 rfl (Nz rfl) (yN (A1 (Bt (Mf x s q)) (fun h1=>?_) (fun h1=>?_)))
 .have h1:(Mf x s q)=true:=h1;refine C1 (C2 (cb h1 (vD x s q hs hq)) ?_);exact BC.of_eq (Aa vb (show false=!Mf x s q by rw[h1];rfl))
 have h1:(Mf x s q)=false:=h1;refine C1 (C2 (cb h1 (vD x s q hs hq)) ?_);exact BC.of_eq (Aa vb (show true=!Mf x s q by rw[h1];rfl))
end Go.Eng
