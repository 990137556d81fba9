/- Lemmas 25. -/
import Derived.Test.YteaiieomnhbmgaaGreatDoorBA24
set_option maxHeartbeats 4000000
namespace Go.Eng
open Go.Proofs Go.Proofs.Tryz
variable (x:List Rl)(ifs:C0)(roots:List Rq)
abbrev ta:Qz:=⟨[2],[],[],[],[],[],[],[(50,(9,3,95,3))],[(44,0)],[(100016,1009)],[3,4,5,6,7,8,9,10,11,14,15,16]⟩
abbrev an0:An:=⟨false,[],[],[]⟩
def Iv:An:=if Cp x roots=true/\(DZ x roots).ss.full=false then SD x roots else an0
def H7:Int:=if Cp x roots=true then if(DZ x roots).ss.full=true then 7 else 0 else 1
abbrev pL:AV:=.tup [.agg (T6 (Iv x roots)),vi (H7 x roots)]
theorem BM.an0{v:AV}:BM (.tup [.agg [vb false,BE,BE,BE],v]) (.tup [.agg (T6 an0),v]):=
 BM.tup ⟨BM.agg ⟨.refl _,.nil,.nil,.nil,trivial⟩,.refl _,trivial⟩
theorem VB{x:List Rl}{roots:List Rq}(hx:∀r∈x,CT r)(hr:∀q∈roots,FA q)(h0:AC x=0)(h1:AR roots=0){L:List CS}(hl:L.Perm (AS (yR x) [])){o:KY}(ho:DZ x roots=o) :
  AP Tryz.prog 137 [.ref 1000 0] (Ai (Jv roots (mC x) (L.map (kA x)) ss0 [] []) Ac) (cX roots (mC x) (L.map (kA x)) o):=by
 rw[<-ho];exact AgS (wt hx hr h0 h1 hl) (x.length+1) (.nil x) (Ih.nil roots) ⟨⟨rfl,Al _⟩,O0⟩ rfl (Nat.lt_succ_of_le (DI _ _)) rfl
theorem H9{x:List Rl}{roots:List Rq}(h:Cp x roots=true):AC x=0/\AR roots=0:=by
 grind [Cp]
theorem tq(hx:∀r∈x,CT r)(hr:∀q∈roots,FA q)(hv:Cp x roots=false):PC 78 [Fr x ifs,sl As roots] (.tup [.agg (T6 an0),vi 1]):=by
 have Uu:=s28 x ifs roots hx hr;rw[hv]at Uu;refine Ps ta func78 rfl (Nz rfl) (Yi ?_ ?_)
 .exact Nz rfl
 refine C1 (C2 Uu (Yi ?_ ?_))
 .omega
 refine Yi ?_ ?_
 .exact Nz rfl
 exact BM.an0
theorem pB(hx:∀r∈x,CT r)(hr:∀q∈roots,FA q)(hv:Cp x roots=true)(h0:AC x=0)(h1:AR roots=0)(k:Nat)(infs:List Nf)(drv:List (List Tm))(dec:List Cd)(st:List (List Sk))(ho:DZ x roots=⟨k,false,⟨infs,drv,true⟩,dec,st⟩):PC 78 [Fr x ifs,sl As roots] (.tup [.agg (T6 an0),vi 7]):=by
 have Uu:=s28 x ifs roots hx hr;rw[hv]at Uu;refine Ps ta func78 rfl (Nz rfl) (Yi ?_ ?_)
 .exact Nz rfl
 refine C1 (C2 Uu (cU [(1,sl As roots),(2,.ref 2 0),(4,.ref 4 0)] [(2,.ro (Ic x ifs)),(4,.cells [vb false,BE,BE,BE])] Z3 Z2 (Yi ?_ ?_)))
 .exact Nz rfl
 refine Xi (.gen [] 5) (Yi rfl ((s29 x ifs roots hx h0).imp ?_));intro v g q;refine AX q (fun L q=>?_);have q1:=q.2.1;have q2:=q.2.2;have qp:=q.1;subst q1;subst q2;refine cU [(4,.ref 4 0),(6,.ref 11900 0)] [(4,.cells [vb false,BE,BE,BE]),(11900,.cells [sl As roots,.cmap B4 (mC x),.cmap B4 (L.map (kA x)),.slice (.id 11901 6) [],.slice (.id 11902 1) [],.mref 11903,vb false,.slice .none [],.slice .none [],.msl 11904 0]),(11901,.tok 6 0),(11902,.tok 1 0),(11903,.map Fw []),(11904,.arr 1 [])] Z2 Z6 (Xi (.gen [(11900,1000),(11901,1001),(11902,1002),(11903,1003),(11904,1004)] 1) (Yi rfl ((VB hx hr h0 h1 qp ho).imp ?_)));intro v g q;have q1:=q.1;have q2:=q.2;subst q1;subst q2;refine cU [(4,.ref 4 0),(6,.ref 11900 0),(7,vi (k:Nat)),(8,vb false)] [(4,.cells [vb false,BE,BE,BE]),(11900,.cells [sl As roots,.cmap B4 (mC x),.cmap B4 (L.map (kA x)),.slice (.id 11901 6) (infs.map Dy),.slice (.id 11902 1) (drv.map Dg),.mref 11903,vb true,sl AJ dec,sl Ab (Aw dec),.msl 12200 st.length]),(11901,.tok 6 infs.length),(11902,.tok 1 drv.length),(11903,.map Fw (Fy 0 infs)),(12200,.arr 1 (st.map Bc))] Z4 Z6 (Yi (fun _=>?_) (fun h=>by cases h));refine cU [(4,.ref 4 0)] [(4,.cells [vb false,BE,BE,BE])] Z1 Z1 (Yi ?_ ?_)
 .exact Nz rfl
 refine Yi ?_ ?_
 .exact Nz rfl
 exact BM.an0
theorem xM(hx:∀r∈x,CT r)(hr:∀q∈roots,FA q)(hv:Cp x roots=true)(h0:AC x=0)(h1:AR roots=0)(k:Nat)(infs:List Nf)(drv:List (List Tm))(dec:List Cd)(st:List (List Sk))(ho:DZ x roots=⟨k,false,⟨infs,drv,false⟩,dec,st⟩)(hk:k<infs.length)(hl:infs.length<=65536):PC 78 [Fr x ifs,sl As roots] (.tup [.agg (T6 ⟨false,[],infs.take (k+1),[]⟩),vi 0]):=by
 have Uu:=s28 x ifs roots hx hr;rw[hv]at Uu;refine Ps ta func78 rfl (Nz rfl) (Yi ?_ ?_)
 .exact Nz rfl
 refine C1 (C2 Uu (cU [(1,sl As roots),(2,.ref 2 0),(4,.ref 4 0)] [(2,.ro (Ic x ifs)),(4,.cells [vb false,BE,BE,BE])] Z3 Z2 (Yi ?_ ?_)))
 .exact Nz rfl
 refine Xi (.gen [] 5) (Yi rfl ((s29 x ifs roots hx h0).imp ?_));intro v g q;refine AX q (fun L q=>?_);have q1:=q.2.1;have q2:=q.2.2;have qp:=q.1;subst q1;subst q2;refine cU [(4,.ref 4 0),(6,.ref 11900 0)] [(4,.cells [vb false,BE,BE,BE]),(11900,.cells [sl As roots,.cmap B4 (mC x),.cmap B4 (L.map (kA x)),.slice (.id 11901 6) [],.slice (.id 11902 1) [],.mref 11903,vb false,.slice .none [],.slice .none [],.msl 11904 0]),(11901,.tok 6 0),(11902,.tok 1 0),(11903,.map Fw []),(11904,.arr 1 [])] Z2 Z6 (Xi (.gen [(11900,1000),(11901,1001),(11902,1002),(11903,1003),(11904,1004)] 1) (Yi rfl ((VB hx hr h0 h1 qp ho).imp ?_)));intro v g q;have q1:=q.1;have q2:=q.2;subst q1;subst q2;refine cU [(4,.ref 4 0),(6,.ref 11900 0),(7,vi (k:Nat)),(8,vb false)] [(4,.cells [vb false,BE,BE,BE]),(11900,.cells [sl As roots,.cmap B4 (mC x),.cmap B4 (L.map (kA x)),.slice (.id 11901 6) (infs.map Dy),.slice (.id 11902 1) (drv.map Dg),.mref 11903,vb false,sl AJ dec,sl Ab (Aw dec),.msl 12200 st.length]),(11901,.tok 6 infs.length),(11902,.tok 1 drv.length),(11903,.map Fw (Fy 0 infs)),(12200,.arr 1 (st.map Bc))] Z4 Z6 (Yi (fun h=>by cases h) (fun _=>?_));refine cU [(4,.ref 4 0),(6,.ref 11900 0),(7,vi (k:Nat)),(8,vb false)] [(4,.cells [vb false,BE,BE,BE]),(11900,.cells [sl As roots,.cmap B4 (mC x),.cmap B4 (L.map (kA x)),.slice (.id 11901 6) (infs.map Dy),.slice (.id 11902 1) (drv.map Dg),.mref 11903,vb false,sl AJ dec,sl Ab (Aw dec),.msl 12200 st.length]),(11901,.tok 6 infs.length),(11902,.tok 1 drv.length),(11903,.map Fw (Fy 0 infs)),(12200,.arr 1 (st.map Bc))] Z4 Z6 (cU [(4,.ref 4 0),(6,.ref 11900 0),(7,vi (k:Nat))] [(4,.cells [vb false,BE,BE,BE]),(11900,.cells [sl As roots,.cmap B4 (mC x),.cmap B4 (L.map (kA x)),.slice (.id 11901 6) (infs.map Dy),.slice (.id 11902 1) (drv.map Dg),.mref 11903,vb false,sl AJ dec,sl Ab (Aw dec),.msl 12200 st.length]),(11901,.tok 6 infs.length),(11902,.tok 1 drv.length),(11903,.map Fw (Fy 0 infs)),(12200,.arr 1 (st.map Bc))] Z3 Z6 (Yi (by grind [Av]) ?_));have el:(infs.map Dy).length=infs.length:=Lm ..;refine Yi ⟨Bv _,by grind,by grind⟩ ?_;refine Yi (fun cs hcs=>by obtain⟨i,_,rfl⟩:=Ax.1 hcs;rfl) (Yi ?_ ?_)
 .exact Nz rfl
 refine Yi ?_ ?_
 .exact Nz rfl
 have et:((infs.map Dy).take ((k:Int)+1).toNat).drop (0:Int).toNat=(infs.take (k+1)).map Dy:=by
  simp_all
 exact BM.tup ⟨BM.agg ⟨.refl _,.nil,.of_eq (show AV.slice .none (((infs.map Dy).take ((k:Int)+1).toNat).drop (0:Int).toNat)=_ by rw[et]),.nil,trivial⟩,.refl _,trivial⟩
theorem Xg(y:Sl):∀l:List Sl,(Wf y l).Perm (y::l)
 | []=>.refl _
 |z::l=>by
  unfold Wf;split
  .simp_all
  .exact((Xg y l).cons z).trans (List.Perm.swap y z l)
theorem J6:∀l:List Sl,(CP l).Perm l
 | []=>.refl _
 |y::l=>(Xg y _).trans ((J6 l).cons y)
theorem aF{b:Nat}:∀{st:List (List Sk)},(∀s∈st,s.length<=b)->st.flatten.length<=b*st.length
 | [],_=>by simp
 |s::st,h=>by
  rw[Cz,Ak,AA,Nat.mul_succ]
  have:=h s (Af ..)
  have:=aF (st:=st) fun t ht=>h t (Ao _ ht)
  omega
theorem pJ{st:List (List Sk)}(h:st.length<=256)(hs:∀s∈st,s.length<=256)(i:Nat):((st.take i).flatten).length<=65536:=by
 have h1:=aF (b:=256) (st:=st.take i) fun s dR=>hs s (Db dR)
 grind
theorem tt(hx:∀r∈x,CT r)(hr:∀q∈roots,FA q)(hv:Cp x roots=true)(h0:AC x=0)(h1:AR roots=0)(k:Nat)(infs:List Nf)(drv:List (List Tm))(dec:List Cd)(st:List (List Sk))(ho:DZ x roots=⟨k,true,⟨infs,drv,false⟩,dec,st⟩)(hd:dec.length<=256)(hn:((Aw dec).map (·.path)).Nodup)(KR:st.length<=256)(hsk:∀s∈st,s.length<=256):PC 78 [Fr x ifs,sl As roots] (.tup [.agg (T6 ⟨true,CP (Aw dec),infs,st.flatten⟩),vi 0]):=by
 have Uu:=s28 x ifs roots hx hr;rw[hv]at Uu;refine Ps ta func78 rfl (Nz rfl) (Yi ?_ ?_)
 .exact Nz rfl
 refine C1 (C2 Uu (cU [(1,sl As roots),(2,.ref 2 0),(4,.ref 4 0)] [(2,.ro (Ic x ifs)),(4,.cells [vb false,BE,BE,BE])] Z3 Z2 (Yi ?_ ?_)))
 .exact Nz rfl
 refine Xi (.gen [] 5) (Yi rfl ((s29 x ifs roots hx h0).imp ?_));intro v g q;refine AX q (fun L q=>?_);have q1:=q.2.1;have q2:=q.2.2;have qp:=q.1;subst q1;subst q2;refine cU [(4,.ref 4 0),(6,.ref 11900 0)] [(4,.cells [vb false,BE,BE,BE]),(11900,.cells [sl As roots,.cmap B4 (mC x),.cmap B4 (L.map (kA x)),.slice (.id 11901 6) [],.slice (.id 11902 1) [],.mref 11903,vb false,.slice .none [],.slice .none [],.msl 11904 0]),(11901,.tok 6 0),(11902,.tok 1 0),(11903,.map Fw []),(11904,.arr 1 [])] Z2 Z6 (Xi (.gen [(11900,1000),(11901,1001),(11902,1002),(11903,1003),(11904,1004)] 1) (Yi rfl ((VB hx hr h0 h1 qp ho).imp ?_)));intro v g q;have q1:=q.1;have q2:=q.2;subst q1;subst q2;refine cU [(4,.ref 4 0),(6,.ref 11900 0),(7,vi (k:Nat)),(8,vb true)] [(4,.cells [vb false,BE,BE,BE]),(11900,.cells [sl As roots,.cmap B4 (mC x),.cmap B4 (L.map (kA x)),.slice (.id 11901 6) (infs.map Dy),.slice (.id 11902 1) (drv.map Dg),.mref 11903,vb false,sl AJ dec,sl Ab (Aw dec),.msl 12200 st.length]),(11901,.tok 6 infs.length),(11902,.tok 1 drv.length),(11903,.map Fw (Fy 0 infs)),(12200,.arr 1 (st.map Bc))] Z4 Z6 (Yi (fun h=>by cases h) (fun _=>?_));refine cU [(4,.ref 4 0),(6,.ref 11900 0),(8,vb true)] [(4,.cells [vb false,BE,BE,BE]),(11900,.cells [sl As roots,.cmap B4 (mC x),.cmap B4 (L.map (kA x)),.slice (.id 11901 6) (infs.map Dy),.slice (.id 11902 1) (drv.map Dg),.mref 11903,vb false,sl AJ dec,sl Ab (Aw dec),.msl 12200 st.length]),(11901,.tok 6 infs.length),(11902,.tok 1 drv.length),(11903,.map Fw (Fy 0 infs)),(12200,.arr 1 (st.map Bc))] Z3 Z6 (cU [(4,.ref 4 0),(6,.ref 11900 0)] [(4,.cells [vb false,BE,BE,BE]),(11900,.cells [sl As roots,.cmap B4 (mC x),.cmap B4 (L.map (kA x)),.slice (.id 11901 6) (infs.map Dy),.slice (.id 11902 1) (drv.map Dg),.mref 11903,vb false,sl AJ dec,sl Ab (Aw dec),.msl 12200 st.length]),(11901,.tok 6 infs.length),(11902,.tok 1 drv.length),(11903,.map Fw (Fy 0 infs)),(12200,.arr 1 (st.map Bc))] Z2 Z6 ?_)
 have yT:(Aw dec).length<=256:=by simp_all
 have gE:BJ (Aw dec):=AH yT Cl;refine Xi (Aw dec).length (Xi 4 (Xi ((Aw dec).map Ab) (Yi rfl (Yi (AgU (Aw dec) gE) (Yi ?_ ?_)))))
 .exact Nz rfl
 refine Yi Wk (cU [(4,.ref 4 0),(6,.ref 11900 0),(9,.ref 9 0)] [(4,.cells [vb false,BE,BE,BE]),(9,.cells [vb true,.msl 14400 (Aw dec).length,.slice (.id 11901 6) (infs.map Dy),BE]),(11900,.cells [sl As roots,.cmap B4 (mC x),.cmap B4 (L.map (kA x)),.slice (.id 11901 6) (infs.map Dy),.slice (.id 11902 1) (drv.map Dg),.mref 11903,vb false,sl AJ dec,sl Ab (Aw dec),.msl 12200 st.length]),(11901,.tok 6 infs.length),(11902,.tok 1 drv.length),(11903,.map Fw (Fy 0 infs)),(12200,.arr 1 (st.map Bc)),(14400,.arr 4 ((Aw dec).map Ab))] Z3 Z8 (Xi (.gen [(14400,1000)] 0) (Yi rfl ((s47 139 Tryz.closure139 (enters_of func139 Wk rfl) (Aw dec) gE hn).imp ?_))));intro v g q;have q1:=q.1;have q2:=q.2;subst q1;subst q2;refine cU [(4,.ref 4 0),(6,.ref 11900 0),(9,.ref 9 0)] [(4,.cells [vb false,BE,BE,BE]),(9,.cells [vb true,.msl 14400 (Aw dec).length,.slice (.id 11901 6) (infs.map Dy),.slice (.id 95 3) []]),(95,.tok 3 0),(11900,.cells [sl As roots,.cmap B4 (mC x),.cmap B4 (L.map (kA x)),.slice (.id 11901 6) (infs.map Dy),.slice (.id 11902 1) (drv.map Dg),.mref 11903,vb false,sl AJ dec,sl Ab (Aw dec),.msl 12200 st.length]),(11901,.tok 6 infs.length),(11902,.tok 1 drv.length),(11903,.map Fw (Fy 0 infs)),(12200,.arr 1 (st.map Bc)),(14400,.arr 4 ((CP (Aw dec)).map Ab))] Z3 Z9 (Xi {i:Nat // i<=st.length} (Xi (fun i=>⟨[(4,.ref 4 0),(6,.ref 11900 0),(9,.ref 9 0),(56,.msl 12200 st.length),(57,vi (st.length:Nat)),(58,vi i.1)],[(4,.cells [vb false,BE,BE,BE]),(9,.cells [vb true,.msl 14400 (Aw dec).length,.slice (.id 11901 6) (infs.map Dy),.slice (.id 95 3) ((st.take i.1).flatten.map Cj)]),(95,.tok 3 ((st.take i.1).flatten.map Cj).length),(11900,.cells [sl As roots,.cmap B4 (mC x),.cmap B4 (L.map (kA x)),.slice (.id 11901 6) (infs.map Dy),.slice (.id 11902 1) (drv.map Dg),.mref 11903,vb false,sl AJ dec,sl Ab (Aw dec),.msl 12200 st.length]),(11901,.tok 6 infs.length),(11902,.tok 1 drv.length),(11903,.map Fw (Fy 0 infs)),(12200,.arr 1 (st.map Bc)),(14400,.arr 4 ((CP (Aw dec)).map Ab))],Ac⟩) (Xi (fun i=>st.length-i.1) (Yi (Xi ⟨0,Al _⟩ ?_) ?_))))
 .exact⟨Z6,Z9,Fh,Tv⟩
 intro⟨i,i1⟩;refine Yi ?_ ?_
 .intro h;have h:(i:Int)<(st.length:Nat):=h;have h:i<st.length:=by omega
  have hg:st[i]?=some st[i]:=Ge h;have PM:st.take (i+1)=st.take i++[st[i]]:=by simp_all
  refine Yi (Yi ch ch) (Yi (by simp_all) (Xi (Bc st[i]) (Yi (by simp_all) ?_)));refine cU [(4,.ref 4 0),(6,.ref 11900 0),(9,.ref 9 0),(11,sl Cj st[i]),(56,.msl 12200 st.length),(57,vi (st.length:Nat)),(58,vi i)] [(4,.cells [vb false,BE,BE,BE]),(9,.cells [vb true,.msl 14400 (Aw dec).length,.slice (.id 11901 6) (infs.map Dy),.slice (.id 95 3) ((st.take i).flatten.map Cj)]),(95,.tok 3 ((st.take i).flatten.map Cj).length),(11900,.cells [sl As roots,.cmap B4 (mC x),.cmap B4 (L.map (kA x)),.slice (.id 11901 6) (infs.map Dy),.slice (.id 11902 1) (drv.map Dg),.mref 11903,vb false,sl AJ dec,sl Ab (Aw dec),.msl 12200 st.length]),(11901,.tok 6 infs.length),(11902,.tok 1 drv.length),(11903,.map Fw (Fy 0 infs)),(12200,.arr 1 (st.map Bc)),(14400,.arr 4 ((CP (Aw dec)).map Ab))] Z7 Z9 ?_
  have hfl:((st.take i).flatten).length<=65536/\st[i].length<=256:=⟨pJ KR hsk i,hsk _ (Ae _)⟩;have FZ:Bi 3 (st[i].map Cj)/\((st.take i).flatten.map Cj).length=((st.take i).flatten.map Cj).length/\(((st.take i).flatten.map Cj).length+(st[i].map Cj).length)*32<=140737488355328/\((st.take i).flatten.map Cj).length+(st[i].map Cj).length<=9223372036854775807:=by
   grind [CJ]
  refine Yi FZ (Yi ?_ ?_)
  .exact Nz rfl
  have ef:((st.take i).flatten.map Cj)++st[i].map Cj=((st.take (i+1)).flatten.map Cj):=by grind
  have en:((st.take i).flatten.map Cj).length+(st[i].map Cj).length=((st.take (i+1)).flatten.map Cj).length:=by grind
  refine cU [(4,.ref 4 0),(6,.ref 11900 0),(9,.ref 9 0),(56,.msl 12200 st.length),(57,vi (st.length:Nat)),(58,vi i)] [(4,.cells [vb false,BE,BE,BE]),(9,.cells [vb true,.msl 14400 (Aw dec).length,.slice (.id 11901 6) (infs.map Dy),.slice (.id 95 3) ((st.take (i+1)).flatten.map Cj)]),(95,.tok 3 ((st.take (i+1)).flatten.map Cj).length),(11900,.cells [sl As roots,.cmap B4 (mC x),.cmap B4 (L.map (kA x)),.slice (.id 11901 6) (infs.map Dy),.slice (.id 11902 1) (drv.map Dg),.mref 11903,vb false,sl AJ dec,sl Ab (Aw dec),.msl 12200 st.length]),(11901,.tok 6 infs.length),(11902,.tok 1 drv.length),(11903,.map Fw (Fy 0 infs)),(12200,.arr 1 (st.map Bc)),(14400,.arr 4 ((CP (Aw dec)).map Ab))] Z6 ⟨Zr,⟨Aa (fun z=>HO.cells [vb true,.msl 14400 (Aw dec).length,.slice (.id 11901 6) (infs.map Dy),.slice (.id 95 3) z]) ef,rfl⟩,⟨Aa (HO.tok 3) en,rfl⟩,Zr,Zr,Zr,Zr,Zr,Zr,Tv⟩ (Yi (Ii i ch) (Xi ⟨i+1,by omega⟩ ?_));exact⟨by grind,Z6,Z9,Fh,Tv⟩
 .intro h;have h:¬(i:Int)<(st.length:Nat):=h;have et:st.take i=st:=Au ch;have Ou:(Aw dec).length=((CP (Aw dec)).map Ab).length:=(J6 (Aw dec)).length_eq.symm.trans (Lm ..).symm;refine Yi Ou (cU [(4,.ref 4 0),(9,.ref 9 0)] [(4,.cells [vb false,BE,BE,BE]),(9,.cells [vb true,.slice (.id 14400 4) ((CP (Aw dec)).map Ab),.slice (.id 11901 6) (infs.map Dy),.slice (.id 95 3) (st.flatten.map Cj)]),(95,.tok 3 (st.flatten.map Cj).length),(11901,.tok 6 infs.length),(14400,.tok 4 ((CP (Aw dec)).map Ab).length)] Z2 ⟨Zr,⟨Aa (fun z:List (List Sk)=>HO.cells [vb true,.slice (.id 14400 4) ((CP (Aw dec)).map Ab),.slice (.id 11901 6) (infs.map Dy),.slice (.id 95 3) (z.flatten.map Cj)]) et,rfl⟩,⟨Aa (fun z:List (List Sk)=>HO.tok 3 (z.flatten.map Cj).length) et,rfl⟩,Zr,Zr,Tv⟩ (Yi ?_ ?_))
  .exact Nz rfl
  refine Yi ?_ ?_
  .grind
  refine Yi ?_ ?_
  .exact Nz rfl
  exact .refl _
theorem Rv{s:SS}{b:List Cd}{p:CS}{needs:List Nd}:∀{cs:List Cd} {sk:List Sk},GC s b p needs cs sk->sk.length<=cs.length
 | [],sk,h=>by
  have h:sk=[]:=h;simp_all
 |c::cs,sk,h=>by
  have h:if(needs.all fun n=>has n.rq.set c.place)=true then _ else _:=h
  by_cases hc:(needs.all fun n=>has n.rq.set c.place)=true
  .rw[Ay hc]at h;obtain⟨k,rest,rfl,_,h3⟩:=h
   have:=Rv h3
   simp_all
  .rw[Az hc]at h
   have:=Rv h
   grind
theorem WO{x:List Rl}{roots:List Rq}{s:SS}:∀{t:List Cd} {sl:List (List Sk)} {b:List Cd},Tt x roots s b t sl->sl.length=t.length/\∀k∈sl,k.length<=x.length
 | [],[],_,_=>⟨rfl,fun _ h=>by cases h⟩
 | [],_::_,_,h=>h.elim
 |_::_,[],_,h=>h.elim
 |c::t,sk::sl,b,⟨⟨p,needs,pre,post,hs⟩,h⟩=>by
  obtain⟨h1,h2⟩:=WO h;refine⟨by simp_all,fun k hk=>?_⟩;rcases AU.1 hk with rfl | hk
  .have e1:=Rv hs.skips;have e2:=WL x p;rw[hs.cands,Ak]at e2;omega
  simp_all
theorem s21(hx:∀r∈x,CT r)(hr:∀q∈roots,FA q):PC 78 [Fr x ifs,sl As roots] (pL x roots):=by
 unfold pL Iv H7;cases hv:Cp x roots with
 |false=>grind [tq]
 |true=>
  obtain⟨h0,h1⟩:=H9 hv;have hR:=Iw h0 h1;have Wc:=(JS h0).1;have hA:SD x roots=if(DZ x roots).found=true then⟨true,CP (Aw (DZ x roots).dec),(DZ x roots).ss.infs,(DZ x roots).stack.flatten⟩else⟨false,[],(DZ x roots).ss.infs.take ((DZ x roots).res+1),[]⟩:=rfl
  rw[hA];generalize ho:DZ x roots=o at hR⊢;obtain⟨k,b,⟨infs,drv,full⟩,dec,st⟩:=o;have hl:infs.length<=65536:=hR.der.len;have hdl:drv.length=infs.length:=hR.der.dlen;cases b with
  |false=>
   cases full with
   |true=>grind [pB]
   |false=>
    have hk:k<drv.length:=((hR.no rfl).2.2 rfl).1
    grind [xM]
  |true=>
   obtain⟨hf,t,sl,e1,e2,hC,_⟩:=hR.yes rfl;subst hf;have e1:dec=[]++t:=e1;have e2:st=[]++sl:=e2;rw[Wu]at e1 e2;subst e1;subst e2;have hD:De x ([]++dec):=(Tt.ok (.nil x) (.nil roots) hC).1;rw[Wu]at hD;have hdx:=T3 hD
   grind [WO,LO,tt,De.nodup]
def DD:Int:=if H7 x roots≠0 then H7 x roots else if(Iv x roots).found=true then 0 else 17
def Cf:List Sl:=if DD x roots=0 then(Iv x roots).sel else []
abbrev AfV:Qz:=(pC [2] [])
theorem xL(a:An)(e:Int)(h:PC 78 [Fr x ifs,sl As roots] (.tup [.agg (T6 a),vi e])) :
  PC 37 [Fr x ifs,sl As roots] (.tup [if e≠0 then sl Ab []else if a.found=true then sl Ab a.sel else sl Ab [],vi (if e≠0 then e else if a.found=true then 0 else 17)]):=by
 refine Ps AfV func37 rfl (Nz rfl) (Yi ?_ ?_)
 .exact Nz rfl
 refine C1 (C2 h (Yi ?_ ?_))
 .exact Nz rfl
 refine Yi (fun he=>?_) (fun he=>?_)
 .have e1:AV.tup [sl Ab [],vi e]=.tup [if e≠0 then sl Ab []else if a.found=true then sl Ab a.sel else sl Ab [],vi (if e≠0 then e else if a.found=true then 0 else 17)]:=by simp_all
  exact(show BM (.tup [BE,vi e]) (.tup [sl Ab ([]:List Sl),vi e])from BM.tup ⟨.nil,.refl _,trivial⟩).trans (.of_eq e1)
 .have he:e=0:=B8.1 he;have Ek:¬e≠0:=fun h=>h he;refine Yi (fun hb=>?_) (fun hb=>?_)
  .have e1:AV.tup [sl Ab a.sel,vi 0]=.tup [if e≠0 then sl Ab []else if a.found=true then sl Ab a.sel else sl Ab [],vi (if e≠0 then e else if a.found=true then 0 else 17)]:=by simp_all
   exact .of_eq e1
  .have hb:¬a.found=true:=by simp_all
   have e1:AV.tup [sl Ab [],vi 17]=.tup [if e≠0 then sl Ab []else if a.found=true then sl Ab a.sel else sl Ab [],vi (if e≠0 then e else if a.found=true then 0 else 17)]:=by simp_all
   exact(show BM (.tup [BE,vi 17]) (.tup [sl Ab ([]:List Sl),vi 17])from BM.tup ⟨.nil,.refl _,trivial⟩).trans (.of_eq e1)
theorem s16(hx:∀r∈x,CT r)(hr:∀q∈roots,FA q):PC 37 [Fr x ifs,sl As roots] (.tup [sl Ab (Cf x roots),vi (DD x roots)]):=by
 grind [xL,s21,Cf,DD]
instance:DecidableEq Mv:=fun x y=>decidable_of_iff (x.path=y.path/\x.a=y.a/\x.b=y.b) ⟨fun⟨h1,h2,h3⟩=>by cases x;cases y;simp_all,fun h=>by subst h;exact⟨rfl,rfl,rfl⟩⟩
end Go.Eng
namespace Go.Eng
variable {x:List Rl}{p:Sl->Bool}{y:Bool}{j:Nat}
/-! The empty workspace, and a workspace twice. -/
theorem Po:∀{l:List Rl} {b:Option Rl},Cb b l=0->∀r∈l,CI r=0
 | [],_,_,r,hr=>by cases hr
 |x::l,b,h,r,hr=>by
  unfold Cb at h;split at h
  .omega
  .rename_i h1;have h1:CI x=0:=B8.1 h1;have go:Cb (some x) l=0:=by
    grind
   rcases AU.1 hr with rfl | hr
   .exact h1
   .exact Po go r hr
theorem Pm:∀{l:List Rl} {b:Option Rl},(∀r∈l,CI r=0)->l.Pairwise YZ->(∀c,b=some c->∀r∈l,YZ c r)->Cb b l=0
 | [],_,_,_,_=>rfl
 |x::l,b,h,hp,hb=>by
  obtain⟨p1,p2⟩:=BL.1 hp;have ih:Cb (some x) l=0:=Pm (fun r hr=>h r (Ao _ hr)) p2 (fun c e r hr=>by simp_all);unfold Cb;rw[Az (fun q=>q (h x (Af ..)))];cases b with
  |none=>exact ih
  |some c=>
   have hl:=hb c rfl x (Af ..);dsimp only;rw[Az (fun q=>Hi hl q),Az (fun q=>by
    have:jk (OY c) (OY x)<0:=MF.2 hl
    have q:0<jk (OY c) (OY x):=q;omega)]
   exact ih
theorem Hp{l:List Rl}:AC l=0↔l.length<=256/\(∀r∈l,CI r=0)/\l.Pairwise YZ:=by
 grind [B3,AC,Po,Pm]
/-! What is merged. -/
/-! What a workspace makes of an index. -/
/-! What the solver selects. -/
theorem Lp{roots:List Rq}(h:DD x roots=0):(∀z∈Cf x roots,∃r∈x,OY r=z)/\(Cf x roots).length<=x.length/\AC x=0:=by
 have h0:=h;unfold DD at h0;split at h0
 .omega
 .rename_i hs;have hs:H7 x roots=0:=B8.1 hs;split at h0
  .rename_i hf;have hv:Cp x roots=true:=by
    grind [H7]
   have nC:(DZ x roots).ss.full=false:=by
    grind [H7]
   obtain⟨hx,hr⟩:=H9 hv;have hA:Iv x roots=SD x roots:=by grind [Iv]
   rw[hA]at hf;have Uz:(DZ x roots).found=true:=by
    grind [SD]
   have AfC:Cf x roots=CP (Aw (DZ x roots).dec):=by
    grind [Cf,SD]
   obtain⟨_,t,sl,y2,y3,y4,y5⟩:=(Iw hx hr).yes Uz;have aR:(DZ x roots).dec∈Cn x roots (x.length+1) []:=RK y5;have lf:=Hv (De.nil x) (Ih.nil roots) _ aR;rw[AfC];refine⟨fun z hz=>?_,?_,hx⟩
   .rw[FE]at hz;obtain⟨c,hc,rfl⟩:=Ax.1 hz;exact⟨c.rel,(lf.ok.cand c hc).1,rfl⟩
   .rw[(J6 _).length_eq,Lm]
    have:=Re (l:=(DZ x roots).dec.map fun c=>c.rel) (m:=x) (eI (f:=fun r:Rl=>r.path) (by rw[Br];exact lf.ok.nodup)) (fun r hr=>by
     obtain⟨c,hc,rfl⟩:=Ax.1 hr;exact(lf.ok.cand c hc).1)
    simp_all
  omega
section
variable {x:List Rl}{roots:List Rq}
def SY(x:List Rl)(roots:List Rq):Prop:=∃s,uo x roots s
theorem Zo(hv:Cp x roots=true)(hx:x.length<=16):H7 x roots=0:=by
 grind [H7,OR]
theorem OQ(hv:Cp x roots=true)(hx:x.length<=16):Iv x roots=SD x roots:=by
 grind [Iv,OR]
theorem On(hv:Cp x roots=true)(hx:x.length<=16):(Iv x roots).found=true↔SY x roots:=by
 obtain⟨h0,h1⟩:=H9 hv;have hR:=Iw h0 h1;have hf:=OR (roots:=roots) hx;rw[OQ hv hx];unfold SD;generalize DZ x roots=o at *
 constructor
 .intro h
  by_cases Uz:o.found=true
  .obtain⟨_,t,sl,y2,y3,y4,y5⟩:=hR.yes Uz;have hm:o.dec∈Cn x roots (x.length+1) []:=RK y5;exact⟨_,(Hv (.nil x) (.nil roots) _ hm).sol h0⟩
  simp_all
 .rintro⟨s,hs⟩
  by_cases Uz:o.found=true
  .simp_all
  .have Uz:o.found=false:=by simp_all
   obtain⟨n4,n5⟩:=(hR.no Uz).2.2 hf;have r6:Ef o.ss o.res=[]:=by
    cases h:Ef o.ss o.res with
    |nil=>rfl
    |cons u l=>
     rw[h]at n5
     have:=(Kr.1 n5).2 u (Af ..)
     cases this
   have aR:Ef o.ss o.res∈o.ss.drv:=AB (EF n4)
   have:=HP hs (fun _ h=>by cases h) hR.der.der _ aR
   rw[r6]at this;cases this
theorem cj(hv:Cp x roots=true)(hx:x.length<=16):(DD x roots=0↔SY x roots)/\(DD x roots=17↔¬SY x roots):=by
 grind [DD,Zo,On]
theorem N0(hv:Cp x roots=true)(hx:x.length<=16):Cn x roots (x.length+1) []≠[]↔SY x roots:=by
 obtain⟨h0,h1⟩:=H9 hv;constructor
 .intro h;cases hl:Cn x roots (x.length+1) []with
  |nil=>simp_all
  |cons d L=>
   have hm:d∈Cn x roots (x.length+1) []:=by simp_all
   exact⟨_,(Hv (.nil x) (.nil roots) _ hm).sol h0⟩
 .intro h e;have hf:=(On hv hx).2 h
  grind [Iw,OQ,SD,Mx.yes]
theorem XH(hv:Cp x roots=true)(hx:x.length<=16){d:List Cd}{l:List (List Cd)}(h:Cn x roots (x.length+1) []=d::l):DD x roots=0/\Cf x roots=CP (Aw d):=by
 grind [H9,N0,cj,On,Iw,Cf,OQ,SD,Mx.yes]
theorem cn(h:Cp x roots=false):DD x roots≠0/\Cf x roots=[]:=by
 grind [H7,DD,Cf]
end
/-! Releases whose names satisfy p get Yanked. -/
def yk(y:Bool)(p:Sl->Bool)(x:List Rl):List Rl:=x.map fun r=>if p (OY r)=true then { r with yanked:=y }else r
section
variable {x:List Rl}{roots:List Rq}{y:Bool}{p:Sl->Bool}
theorem RH:(yk y p x).length=x.length:=Lm ..
end
section
variable {x:List Rl}{roots:List Rq}{p:Sl->Bool}
theorem Vx(hv:Cp x roots=true)(hx:x.length<=16):DD x roots=17↔Cn x roots (x.length+1) []=[]:=by
 grind [cj,N0]
end
/-! Law Keeps: which releases of the selection get yanked, one after the other. -/
section
variable {α:Type}(c:α->α->Int)
def Jh:Nat->List α->List α
 |0,l=>l
 |j+1,l=>match l[j+1]?,l[j]? with
  |some a,some b=>if c a b<0 then Jh j ((l.set (j+1) b).set j a)else l
  |_,_=>l
def Dp(i:Nat)(l:List α):List α:=(List.range i).foldl (fun m i=>Jh c i m) l
theorem XK:∀(j:Nat) (l:List α),(Jh c j l).length=l.length
 |0,_=>rfl
 |j+1,l=>by
  unfold Jh;split
  .split
   .rw[XK j];simp
   .rfl
  .rfl
theorem Jy(i:Nat)(l:List α):Dp c (i+1) l=Jh c i (Dp c i l):=by
 grind [Dp,List.range_succ]
theorem nW(l:List α):Dp c 1 l=l:=rfl
theorem JR:∀(i:Nat) (l:List α),(Dp c i l).length=l.length
 |0,_=>rfl
 |i+1,l=>by rw[Jy,XK,JR i]
theorem XL:∀(j:Nat) (l:List α),∀x∈Jh c j l,x∈l
 |0,_,_,h=>h
 |j+1,l,x,h=>by
  unfold Jh at h;split at h
  .rename_i a b ha hb;split at h
   .have h:=XL j _ x h
    grind
   omega
  omega
theorem La:∀(i:Nat) (l:List α),∀x∈Dp c i l,x∈l
 |0,_,_,h=>h
 |i+1,l,x,h=>by rw[Jy]at h;exact La i l x (XL c i _ x h)
theorem VA{l:List α}{a b:α}(h0:0<j)(ha:l[j]?=some a)(hb:l[j-1]?=some b)(hc:c a b<0):Jh c j l=Jh c (j-1) ((l.set j b).set (j-1) a):=by
 obtain⟨k,rfl⟩:∃k,j=k+1:=⟨j-1,by omega⟩<;>grind [Jh]
theorem OO{l:List α}{a b:α}(h0:0<j)(ha:l[j]?=some a)(hb:l[j-1]?=some b)(hc:¬c a b<0):Jh c j l=l:=by
 obtain⟨k,rfl⟩:∃k,j=k+1:=⟨j-1,by omega⟩<;>grind [Jh]
theorem Xf{l:List α}(h:l.Pairwise fun a b=>¬c b a<0):∀i,i<=l.length->Dp c i l=l
 |0,_=>rfl
 |i+1,hi=>by
  rw[Jy,Xf h i ch]
  by_cases h0:i=0
  .subst h0;rfl
  .exact OO c ch (Ge hi) (Ge (show i-1<l.length by omega)) ((Bo.1 h) (i-1) i ch hi ch)
end
theorem Se(h:AC x=0):Dp BU x.length x=x:=by
 refine Xf BU ?_ _ (Ap _);refine(B3 h).2.imp fun {a b} wD hc=>?_;have h1:jk (OY a) (OY b)<0:=MF.2 wD;have h2:jk (OY b) (OY a)<0:=hc;have h1:=MF.1 h1;have h2:=MF.1 h2;exact Hi (Q0 h1 h2) rfl
theorem qw{P:Rl->Prop}(h:∀r∈x,P r/\P { r with yanked:=y }):∀r∈yk y p x,P r:=fun r hr=>by
 obtain⟨q,hq,rfl⟩:=Ax.1 hr<;>grind
theorem iN(h:∀r∈x,CT r):∀r∈yk y p x,CT r:=qw fun r hr=>⟨h r hr,h r hr⟩
theorem iO{i:Nat}(h:i<x.length):(yk y p (x.take i)++x.drop i).set i (if p (OY x[i])=true then { x[i]with yanked:=y }else x[i])=yk y p (x.take (i+1))++x.drop (i+1):=by
 grind [List.drop_eq_getElem_cons,yk,List.take_add_one]
theorem qv{i:Nat}(h:i<x.length):(yk y p (x.take i)++x.drop i)[i]?=some x[i]:=by
 grind [RH]
end Go.Eng
namespace Go.Eng
open Go.Proofs Go.Proofs.Tryz
variable {x:List Rl}{i:Nat}{α:Type}(l:List Rl)
theorem nV(c:α->α->Int){l:List α}(h1:1<=i)(h2:i<=l.length\/i=1)(h3:l.length<=i):Dp c i l=Dp c l.length l:=by
 by_cases e:i=l.length
 .rw[e]
 .have e1:i=1:=by omega
  have e2:l.length=0:=by omega
  rw[e1,e2];rfl
theorem Ah4(hl:BJ l):AP Tryz.prog 196 [.msl 1000 l.length,vi 0,vi (l.length:Nat),.v (.func (.func 85) #[] #[])] (Ai [(1000,.arr 9 (l.map Ah))] Ac) fun r h'=>r=.tup []/\h'=Ai [(1000,.arr 9 ((Dp BU l.length l).map Ah))] Ac:=by
 refine BO (LB C3) [(1000,1000)] rfl Ck hm rfl func196 Wk rfl (Nz rfl) Wk rfl (Yi (Ii 0 ch) (Xi {q:Nat // 1<=q/\(q<=l.length\/q=1)} (Xi (fun q=>⟨[(0,.msl 1000 l.length),(1,vi 0),(2,vi (l.length:Nat)),(3,.v (.func (.func 85) #[] #[])),(8,vi q.1)],[(1000,.arr 9 ((Dp BU q.1 l).map Ah))],Ac⟩) (Xi (fun q=>l.length+1-q.1) (Yi (Xi ⟨1,Ap _,.inr rfl⟩ ?_) ?_)))))
 .exact⟨Z5,⟨⟨(show HO.arr 9 (l.map Ah)=.arr 9 ((Dp BU 1 l).map Ah) by rw[nW]),rfl⟩,Tv⟩,Fh,A4 Wk⟩
 intro⟨i,i1,i2⟩;refine Yi (fun h1=>?_) (fun h1=>?_)
 .have h1:(i:Int)<((l.length:Nat):Int):=h1;have ni:i<l.length:=by omega
  refine Xi {q:Nat×List Rl // q.1<=i/\q.2.length=l.length/\Jh BU q.1 q.2=Dp BU (i+1) l} (Xi (fun q=>⟨[(0,.msl 1000 l.length),(1,vi 0),(2,vi (l.length:Nat)),(3,.v (.func (.func 85) #[] #[])),(8,vi i),(9,vi q.1.1)],[(1000,.arr 9 (q.1.2.map Ah))],Ac⟩) (Xi (fun q=>q.1.1) (Yi (Xi ⟨(i,Dp BU i l),Ap _,JR _ _ _,(Jy BU i l).symm⟩ ?_) ?_)))
  .exact⟨Z6,Z1,Fh,A4 Wk⟩
  intro⟨⟨j,N⟩,j1,j2,j3⟩;have j2:N.length=l.length:=j2;have j3:Jh BU j N=Dp BU (i+1) l:=j3;refine Yi (fun h2=>?_) (fun h2=>?_)
  .have h2:(0:Int)<(j:Int):=h2;have nj:j<N.length:=by omega
   have j0:0<j:=by omega
   have ej:((j-1:Int).toNat)=j-1:=by omega
   refine AX (show ∃a,N[j]?=some a from⟨_,Ge nj⟩) (fun a ga=>?_);refine AX (show ∃b,N[j-1]?=some b from⟨_,Ge ch⟩) (fun b gb=>?_);have gc:N[(j-1:Int).toNat]?=some b:=by rw[ej];exact gb
   refine Yi (by show(0:Int)<=j/\(j:Int)<(l.length:Nat);omega) (Yi (show l.length=(N.map Ah).length by simp[j2]) (Xi (Ah a) (Yi (Ed ga) (yN (Yi (by show Av ((j:Int)-(1:Int));unfold Av;omega) (Yi (by show(0:Int)<=j-1/\(j-1:Int)<(l.length:Nat);omega) (Yi (show l.length=(N.map Ah).length by simp[j2]) (Xi (Ah b) (Yi (Ed gc) (yN (C2 (zu a b) (Yi (fun h3=>?_) (fun h3=>?_)))))))))))))
   .have h3:((BU a b):Int)<(0:Int):=h3;refine Yi Wk (Yi (by show Av ((j:Int)-(1:Int));unfold Av;omega) (Yi (by show Av ((j:Int)-(1:Int));unfold Av;omega) (Yi (by show(0:Int)<=j-1/\(j-1:Int)<(l.length:Nat);omega) (Yi (show l.length=(N.map Ah).length by simp[j2]) (Xi (Ah b) (Yi (Ed gc) (yN (Yi (by show(0:Int)<=j/\(j:Int)<(l.length:Nat);omega) (Yi (show l.length=(N.map Ah).length by simp[j2]) (Xi (Ah a) (Yi (Ed ga) (yN (Yi (by show(0:Int)<=j/\(j:Int)<(l.length:Nat);omega) (Yi (show l.length=(N.map Ah).length by simp[j2]) (Xi (Ah a) (Yi (Ed ga) (yN (Yi (by show(0:Int)<=j-1/\(j-1:Int)<(l.length:Nat);omega) (Yi (show l.length=(((N.map Ah).set j (Ah b)):C0).length by simp[j2]) (Xi (Ah b) (Yi ((List.getElem?_set_ne ch).trans (Ed gc)) (yN ?_))))))))))))))))))))));refine Yi Wk (Yi (by show Av ((j:Int)-(1:Int));unfold Av;omega) (Xi ⟨(j-1,(N.set j b).set (j-1) a),by omega,by rw[Kd,Kd];exact j2,by rw[<-j3,VA BU j0 ga gb h3]⟩ ?_));exact⟨by show(j-1:Nat)<j;omega,⟨Zr,Zr,Zr,Zr,Zr,⟨(Aa vi (show(j:Int)-1=((j-1:Nat):Int) by omega)),rfl⟩,Tv⟩,⟨⟨(show HO.arr 9 (((N.map Ah).set j (Ah b)).set ((j-1:Int).toNat) (Ah a))=.arr 9 (((N.set j b).set (j-1) a).map Ah) by rw[ej,IV,IV]),rfl⟩,Tv⟩,Fh,A4 Wk⟩
   have h3:¬(((BU a b):Int)<(0:Int)):=h3;refine Yi Wk (Yi (Ii i ch) ?_);have eN:N=Dp BU (i+1) l:=by rw[<-j3];exact(OO BU j0 ga gb h3).symm
   refine Xi ⟨i+1,by omega,.inl ni⟩ ?_;exact⟨by show l.length+1-(i+1)<l.length+1-i;omega,Z5,⟨⟨(show HO.arr 9 (N.map Ah)=.arr 9 ((Dp BU (i+1) l).map Ah) by rw[eN]),rfl⟩,Tv⟩,Fh,A4 Wk⟩
  have h2:¬((0:Int)<(j:Int)):=h2;refine Yi Wk (Yi (Ii i ch) ?_);have eN:N=Dp BU (i+1) l:=by rw[<-j3];exact(show Jh BU j N=N by rw[show j=0 by omega];rfl).symm
  refine Xi ⟨i+1,by omega,.inl ni⟩ ?_;exact⟨by show l.length+1-(i+1)<l.length+1-i;omega,Z5,⟨⟨(show HO.arr 9 (N.map Ah)=.arr 9 ((Dp BU (i+1) l).map Ah) by rw[eN]),rfl⟩,Tv⟩,Fh,A4 Wk⟩
 have h1:¬((i:Int)<((l.length:Nat):Int)):=h1;exact C2 (.refl _) ⟨rfl,show Ai [(1000,HO.arr 9 ((Dp BU i l).map Ah))] Ac=Ai [(1000,.arr 9 ((Dp BU l.length l).map Ah))] Ac from Aa (fun z=>Ai [(1000,HO.arr 9 (z.map Ah))] Ac) (nV BU i1 i2 ch)⟩
theorem Ah3(hl:l.length<=19):AP Tryz.prog 143 [.msl 1000 l.length,vi (l.length:Nat),.v (.func (.func 85) #[] #[])] (Ai [(1000,.arr 9 (l.map Ah))] Ac) fun r h'=>r=.tup []/\h'=Ai [(1000,.arr 9 ((Dp BU l.length l).map Ah))] Ac:=by
 refine BO (LB C3) [(1000,1000)] rfl Ck hm rfl func143 Wk rfl (Nz rfl) Wk rfl (Xi {q:Nat // q=0} (Xi (fun q=>⟨[(0,.msl 1000 l.length),(1,vi (l.length:Nat)),(2,.v (.func (.func 85) #[] #[])),(6,vi 20),(7,vi 0),(8,vi 20)],[(1000,.arr 9 (l.map Ah))],Ac⟩) (Xi (fun q=>q.1) (Yi (Xi ⟨0,rfl⟩ ?_) ?_))))
 .exact⟨Z6,Z1,Fh,A4 Wk⟩
 intro⟨i,i1⟩;refine Yi (fun h1=>?_) (fun h1=>?_)
 .exact absurd h1 ch
 refine Xi (.gen [(1000,1000)] 0) (Yi rfl (AP.to2 (Ah4 l (by unfold BJ;omega)) ?_));refine Xi {q:Nat // q=0} (Xi (fun q=>⟨[(0,.msl 1000 l.length),(1,vi (l.length:Nat)),(2,.v (.func (.func 85) #[] #[])),(6,vi 20)],[(1000,.arr 9 ((Dp BU l.length l).map Ah))],Ac⟩) (Xi (fun q=>q.1) (Yi (Xi ⟨0,rfl⟩ ?_) ?_)))
 .exact⟨Z4,Z1,Fh,A4 Wk⟩
 intro⟨i,i1⟩;refine Yi (fun h2=>?_) (fun h2=>?_)
 .exact absurd h2 ch
 exact C2 (.refl _) Zr
theorem v105(hl:l.length<=19):AP Tryz.prog 84 [.msl 1000 l.length,.v (.func (.func 85) #[] #[])] (Ai [(1000,.arr 9 (l.map Ah))] Ac) fun r h'=>r=.tup []/\h'=Ai [(1000,.arr 9 ((Dp BU l.length l).map Ah))] Ac:=by
 refine BO (LB C3) [(1000,1000)] rfl Ck hm rfl func84 Wk rfl (Nz rfl) Wk rfl (Xi (.gen [(1000,1000)] 0) (Yi rfl (AP.to2 (Ah3 l hl) ?_)));exact C2 (.refl _) Zr
theorem Ah6(x:List Rl)(hx:x.length<=19)(hc:∀r∈x,PC 83 [.agg (Ah r)] (.agg (Ah r)))(hk:AP Tryz.prog 86 [.agg [.msl 1000 ((Dp BU x.length x).map Ah).length,BE]] (Ai [(1000,.arr 9 ((Dp BU x.length x).map Ah))] Ac) fun r h'=>r=vi 0/\h'=Ai [(1000,.arr 9 ((Dp BU x.length x).map Ah))] Ac):AP Tryz.prog 43 [sl Ah x] (Ai [] Ac) fun r h'=>r=.tup [.msl 2000 ((Dp BU x.length x).map Ah).length,vi 0]/\h'=Ai [(2000,.arr 9 ((Dp BU x.length x).map Ah))] Ac:=by
 refine BO (LB ⟨[],[],[(4,9)],[],[],[],[],[],[],[],[7,8]⟩) [(4,2000)] rfl Ck hm rfl func43 Wk rfl (Nz rfl) Wk rfl (Xi {q:Nat // q<=x.length} (Xi (fun q=>⟨[(4,.msl 4 (x.take q.1).length),(8,sl Ah x),(9,vi (x.map Ah).length),(10,vi q.1)],[(4,.arr 9 ((x.take q.1).map Ah))],Ac⟩) (Xi (fun q=>x.length-q.1) (Yi (Xi ⟨0,Al _⟩ ?_) ?_))))
 .exact⟨Z4,Z1,Fh,A4 Wk⟩
 intro⟨i,i1⟩;refine Yi (fun h1=>?_) (fun h1=>?_)
 .have h1:(i:Int)<((x.map Ah).length:Int):=h1;have n1:=DK h1;refine Xi (Ah x[i]) (Yi (FJ n1) (Yi rfl (yN (yN (yN (C1 (C2 (hc x[i] (Ae n1)) ?_)))))));have b2:Bi 9 [(Ah x[i])]/\((x.take i).map Ah).length=(x.take i).length/\(((x.take i).map Ah).length+([(Ah x[i])]:C0).length)*120<=140737488355328/\((x.take i).map Ah).length+([(Ah x[i])]:C0).length<=9223372036854775807:=⟨⟨rfl,trivial⟩,(by rw[Lm]),(by simp only[Lm,AA,AE,AD];omega),(by simp only[Lm,AA,AE,AD];omega)⟩;refine Yi b2 (Yi (Ii i ch) (Xi ⟨i+1,n1⟩ ?_));exact⟨Dl x.length i ch,⟨⟨(show AV.msl 4 (((x.take i).map Ah).length+([Ah x[i]]:C0).length)=.msl 4 (x.take (i+1)).length by rw[DU n1,Ak,Lm];rfl),rfl⟩,Zr,Zr,Zr,Tv⟩,⟨⟨(show HO.arr 9 ((x.take i).map Ah++[Ah x[i]])=.arr 9 ((x.take (i+1)).map Ah) by rw[DU n1,AF];rfl),rfl⟩,Tv⟩,Fh,A4 Wk⟩
 have h1:¬((i:Int)<((x.map Ah).length:Int)):=h1;have n1:=B5 h1;have ei:x.take i=x:=Au ch;refine Xi ⟨[(4,.msl 4 x.length)],[(4,.arr 9 (x.map Ah))],Ac⟩ (Yi ⟨⟨⟨(show AV.msl 4 (x.take i).length=.msl 4 x.length by rw[ei]),rfl⟩,trivial⟩,⟨⟨(show HO.arr 9 ((x.take i).map Ah)=.arr 9 (x.map Ah) by rw[ei]),rfl⟩,trivial⟩,fun _=>.inl rfl,A4 Wk⟩ ?_)
 refine Xi (.gen [(4,1000)] 0) (Yi rfl (AP.to2 (v105 x hx) ?_));refine cU [(4,.msl 4 ((Dp BU x.length x).map Ah).length)] [(4,.arr 9 ((Dp BU x.length x).map Ah))] ⟨⟨(show AV.msl 4 x.length=.msl 4 ((Dp BU x.length x).map Ah).length by rw[Lm,JR]),rfl⟩,Tv⟩ Z1 ?_
 refine Xi (.gen [(4,1000)] 0) (Yi rfl (AP.to2 hk ?_));refine Yi (fun h=>absurd h Cl) (fun _=>?_);exact C2 (.refl _) Zr
theorem Ah5(x:List Rl)(hx:x.length<=19)(hc:∀r∈x,PC 83 [.agg (Ah r)] (.agg (Ah r)))(c:Int)(wH:c≠0)(hk:AP Tryz.prog 86 [.agg [.msl 1000 ((Dp BU x.length x).map Ah).length,BE]] (Ai [(1000,.arr 9 ((Dp BU x.length x).map Ah))] Ac) fun r h'=>r=vi c/\h'=Ai [(1000,.arr 9 ((Dp BU x.length x).map Ah))] Ac):PC 43 [sl Ah x] (.tup [BE,vi c]):=by
 refine Ps ⟨[],[],[(4,9)],[],[],[],[],[],[],[],[7,8]⟩ func43 rfl (Nz rfl) (Xi {q:Nat // q<=x.length} (Xi (fun q=>⟨[(4,.msl 4 (x.take q.1).length),(8,sl Ah x),(9,vi (x.map Ah).length),(10,vi q.1)],[(4,.arr 9 ((x.take q.1).map Ah))],Ac⟩) (Xi (fun q=>x.length-q.1) (Yi (Xi ⟨0,Al _⟩ ?_) ?_))))
 .exact⟨Z4,Z1,Fh,Tv⟩
 intro⟨i,i1⟩;refine Yi (fun h1=>?_) (fun h1=>?_)
 .have h1:(i:Int)<((x.map Ah).length:Int):=h1;have n1:=DK h1;refine Xi (Ah x[i]) (Yi (FJ n1) (Yi rfl (yN (yN (yN (C1 (C2 (hc x[i] (Ae n1)) ?_)))))));have b2:Bi 9 [(Ah x[i])]/\((x.take i).map Ah).length=(x.take i).length/\(((x.take i).map Ah).length+([(Ah x[i])]:C0).length)*120<=140737488355328/\((x.take i).map Ah).length+([(Ah x[i])]:C0).length<=9223372036854775807:=⟨⟨rfl,trivial⟩,(by rw[Lm]),(by simp only[Lm,AA,AE,AD];omega),(by simp only[Lm,AA,AE,AD];omega)⟩;refine Yi b2 (Yi (Ii i ch) (Xi ⟨i+1,n1⟩ ?_));exact⟨Dl x.length i ch,⟨⟨(show AV.msl 4 (((x.take i).map Ah).length+([Ah x[i]]:C0).length)=.msl 4 (x.take (i+1)).length by rw[DU n1,Ak,Lm];rfl),rfl⟩,Zr,Zr,Zr,Tv⟩,⟨⟨(show HO.arr 9 ((x.take i).map Ah++[Ah x[i]])=.arr 9 ((x.take (i+1)).map Ah) by rw[DU n1,AF];rfl),rfl⟩,Tv⟩,Fh,Tv⟩
 have h1:¬((i:Int)<((x.map Ah).length:Int)):=h1;have n1:=B5 h1;have ei:x.take i=x:=Au ch;refine cU [(4,.msl 4 x.length)] [(4,.arr 9 (x.map Ah))] ⟨⟨(show AV.msl 4 (x.take i).length=.msl 4 x.length by rw[ei]),rfl⟩,Tv⟩ ⟨⟨(show HO.arr 9 ((x.take i).map Ah)=.arr 9 (x.map Ah) by rw[ei]),rfl⟩,Tv⟩ ?_
 refine Xi (.gen [(4,1000)] 0) (Yi rfl (AP.to2 (v105 x hx) ?_));refine cU [(4,.msl 4 ((Dp BU x.length x).map Ah).length)] [(4,.arr 9 ((Dp BU x.length x).map Ah))] ⟨⟨(show AV.msl 4 x.length=.msl 4 ((Dp BU x.length x).map Ah).length by rw[Lm,JR]),rfl⟩,Tv⟩ Z1 ?_
 refine Xi (.gen [(4,1000)] 0) (Yi rfl (AP.to2 hk ?_));refine Yi (fun h4=>?_) (fun h4=>?_)
 .exact .refl _
 have h4:(c:Int)=(0:Int):=Aq h4;exact absurd h4 wH
theorem co{β:Type}{f:α->β}{N:List α}{r:α}(h:N[i]?=some r):N.map f=(N.set i r).map f:=by
 obtain⟨hi,rfl⟩:=Bf.1 h;rw[List.set_getElem_self]
theorem ZC{y:Bool}{p:Sl->Bool}:(yk y p (x.take i)++x.drop i).length=x.length:=by
 rw[Ak,RH,AD,DE];omega
structure G1(x:List Rl):Prop where
 len:x.length<=16
 few:∀r∈x,CT r
structure Wr(x:List Rl):Prop where
 len:x.length<=19
 few:∀r∈x,CT r
theorem G1.to19(h:G1 x):Wr x:=⟨AH h.len Cl,h.few⟩
theorem yz(hf:∀r∈x,CT r):PC 86 [.agg [sl Ah x,BE]] (vi (AC x)):=(yG VY x [] hf).args ⟨.agg ⟨.refl _,.nil,trivial⟩,trivial⟩
theorem Ahc(h:Wr x)(hr:∀r∈x,r.reqs.length<=1000)(hc:AC (Dp BU x.length x)=0):AP Tryz.prog 43 [sl Ah x] Ac fun r h'=>r=.tup [.msl 2000 x.length,vi 0]/\h'=Ai [(2000,.arr 9 ((Dp BU x.length x).map Ah))] Ac:=by
 have hk:=IG.lend (sz:=9) (es:=(Dp BU x.length x).map Ah) (vs:=[.slice none 0 0]) (yz (x:=Dp BU x.length x) fun r hr=>h.few r (La BU _ _ r hr));rw[hc]at hk;have q:=Ah6 x h.len (fun r hm=>c98 r (hr r hm) fun q hq=>((h.few r hm).2 q hq).1) hk;rw[show((Dp BU x.length x).map Ah).length=x.length by rw[Lm,JR]]at q;exact q
theorem JP(l:List Sl):EK l=true↔∀j (h:j<l.length),0<j->Dz (l[j-1]' ch).path l[j].path=true:=by
 constructor
 .intro h j hj h0;exact(Bo.1 (Ow h).1) (j-1) j ch hj ch
 .intro h;refine nT (Bo.2 fun i j hi hj aO=>?_);have key:∀d (hd:i+d+1<l.length),Dz l[i].path (l[i+d+1]'hd).path=true:=fun d=>by
   induction d with
   |zero=>intro hd;exact h (i+1) hd ch
   |succ d ih=>intro hd;exact Ds (ih ch) (h (i+d+1+1) hd ch)
  have:=key (j-i-1) ch
  simp only[show i+(j-i-1)+1=j by omega]at this;exact this
end Go.Eng
namespace Go.Eng
variable {t:List CS}{l m:List Sl}
theorem gL:∀{x y:List UInt8},IP x y=true->x<y
 |x,[],h=>by cases x<;>cases h
 | [],b::y,_=>by simp
 |a::x,b::y,h=>by
  unfold IP at h;rw[List.cons_lt_cons_iff];rcases Kb _ _▸h with h | h
  .simp_all
  .obtain⟨h1,h2⟩:=Bool.and_eq_true_iff.1 h;exact .inr ⟨AW h1,gL h2⟩
section
variable {α:Type}[Inhabited α][DecidableEq α]
theorem Pp{R:α->α->Prop}(hR:∀a b c,R a b->R b c->R a c)(xs:List α)(hs:∀i j,(hi:i<xs.length)->(hj:j<xs.length)->i<j->xs[i]=xs[j]\/R xs[i] xs[j]):∀m,m<=xs.length ->
  (Lib.compactUpTo xs.toArray m).Pairwise R/\(∀a,a∈Lib.compactUpTo xs.toArray m↔a∈xs.take m)
 |0,_=>by simp[Lib.compactUpTo]
 |m+1,h=>by
  obtain⟨h1,h2⟩:=Pp hR xs hs m ch;have hg:xs.toArray[m]! = xs[m]' ch:=by grind
  rw[Lib.compactUpTo_succ,hg,Dr,Ge ch]
  grind [Lib.keeps,List.mem_iff_getElem,Nat.pos_of_ne_zero]
end
theorem mF(ht:(t.map K4).Pairwise fun a b=>a<=b):(Ce t).Pairwise (fun a b=>Dz a b=true)/\∀p,p∈Ce t↔p∈t:=by
 have hc:=Pp (R:=fun a b=>IP a b=true) (fun a b c=>OA) (t.map K4) (fun i j hi hj aO=>by
  have h:=(Bo.1 ht) i j hi hj aO;cases e:IP (t.map K4)[i] (t.map K4)[j]with
  |true=>simp_all
  |false=>
   cases e2:IP (t.map K4)[j] (t.map K4)[i]with
   |true=>exact absurd (gL e2) ch
   |false=>grind [UT]) (t.map K4).length (Ap _)
 rw[CA]at hc;have e:Ce t=(Lib.compactUpTo (t.map K4).toArray (t.map K4).length).map SF:=rfl;rw[e];refine⟨?_,fun p=>?_⟩
 .rw[RL];exact hc.1.imp fun {a b} h=>by show IP (SF a).data.toList (SF b).data.toList=true;exact h
 .rw[Ax];constructor
  .rintro⟨a,ha,rfl⟩
   obtain⟨q,hq,rfl⟩:=Ax.1 ((hc.2 a).1 ha)<;>simp_all
  grind
abbrev y7(p:CS)(f t:Int):List Mv:=if f≠t then [⟨p,f,t⟩]else []
def rm:List Sl->List Sl->List Mv
 | [],[]=>[]
 |a::l,[]=>y7 a.path (place a.ver) (-1)++rm l []
 | [],b::m=>y7 b.path (-1) (place b.ver)++rm [] m
 |a::l,b::m=>if a.path=b.path then y7 a.path (place a.ver) (place b.ver)++rm l m else if Dz a.path b.path=true then y7 a.path (place a.ver) (-1)++rm l (b::m)else y7 b.path (-1) (place b.ver)++rm (a::l) m
termination_by l m=>l.length+m.length
def mp:List Sl->List Sl->List CS
 | [],[]=>[]
 |a::l,[]=>a.path::mp l []
 | [],b::m=>b.path::mp [] m
 |a::l,b::m=>if a.path=b.path then a.path::mp l m else if Dz a.path b.path=true then a.path::mp l (b::m)else b.path::mp (a::l) m
termination_by l m=>l.length+m.length
theorem GA(a:Sl)(l:List Sl)(p:CS):JD (a::l) p=if a.path=p then place a.ver else JD l p:=by
 grind [JD,Bg]
theorem HZ{l' m':List Sl}{ps:List CS}(h1:∀p∈ps,JD l p=JD l' p)(h2:∀p∈ps,JD m p=JD m' p):I1 l m ps=I1 l' m' ps:=
 (by
  induction ps<;>grind [MV])
theorem IQ(l m:List Sl)(p:CS)(ps:List CS):I1 l m (p::ps)=y7 p (JD l p) (JD m p)++I1 l m ps:=by
 grind [MV]
theorem Zc{p:CS}(h:∀s∈l,s.path≠p):JD l p=-1:=by
 grind [JD,Bg]
theorem U2(l m:List Sl)(hl:l.Pairwise Xp)(hm:m.Pairwise Xp):(mp l m).Pairwise (fun a b=>Dz a b=true)/\(∀p,p∈mp l m↔p∈l.map (·.path)\/p∈m.map (·.path))/\rm l m=I1 l m (mp l m):=by
 match l,m with
 | [],[]=>unfold mp rm;simp
 |a::l,[]=>
  obtain⟨a1,a2⟩:=BL.1 hl;obtain⟨h1,h2,h3⟩:=U2 l [] a2 hm;have lt:∀p∈mp l [],Dz a.path p=true:=fun p hp=>by
   grind
  unfold mp rm;refine⟨BL.2 ⟨lt,h1⟩,fun p=>by simp_all,?_⟩;rw[IQ,h3,GA,Ay rfl]
  congr 1
  grind [HZ,GA,JI]
 | [],b::m=>
  obtain⟨a1,a2⟩:=BL.1 hm;obtain⟨h1,h2,h3⟩:=U2 [] m hl a2;have lt:∀p∈mp [] m,Dz b.path p=true:=fun p hp=>by
   grind
  unfold mp rm;refine⟨BL.2 ⟨lt,h1⟩,fun p=>by simp_all,?_⟩;rw[IQ,h3,GA,Ay rfl]
  congr 1
  exact HZ (fun _ _=>rfl) fun p hp=>by grind [GA,JI]
 |a::l,b::m=>
  obtain⟨a1,a2⟩:=BL.1 hl;obtain⟨b1,b2⟩:=BL.1 hm;unfold mp rm
  by_cases e:a.path=b.path
  .rw[Ay e,Ay e];obtain⟨h1,h2,h3⟩:=U2 l m a2 b2;have lt:∀p∈mp l m,Dz a.path p=true:=fun p hp=>by
    grind
   refine⟨BL.2 ⟨lt,h1⟩,fun p=>?_,?_⟩
   .grind
   .rw[IQ,h3,GA,Ay rfl,GA,Ay e.symm]
    grind [HZ,GA,JI]
  .rw[Az e,Az e]
   by_cases c:Dz a.path b.path=true
   .rw[Ay c,Ay c];obtain⟨h1,h2,h3⟩:=U2 l (b::m) a2 hm;have la:∀s∈b::m,Dz a.path s.path=true:=fun s hs=>by
     grind [Ds]
    have lt:∀p∈mp l (b::m),Dz a.path p=true:=fun p hp=>by
     grind
    refine⟨BL.2 ⟨lt,h1⟩,fun p=>by grind,?_⟩;rw[IQ,h3,GA,Ay rfl,Zc (l:=b::m) fun s hs=>(JI (la s hs)).symm]
    congr 1
    grind [HZ,GA,JI]
   .rw[Az c,Az c];have c' : Dz b.path a.path=true:=by
     grind [GJ]
    obtain⟨h1,h2,h3⟩:=U2 (a::l) m hl b2;have la:∀s∈a::l,Dz b.path s.path=true:=fun s hs=>by
     grind [Ds]
    have lt:∀p∈mp (a::l) m,Dz b.path p=true:=fun p hp=>by
     grind
    refine⟨BL.2 ⟨lt,h1⟩,fun p=>?_,?_⟩
    .grind
    .rw[IQ,h3,Zc (l:=a::l) fun s hs=>(JI (la s hs)).symm,GA b m,Ay rfl]
     congr 1
     exact HZ (fun _ _=>rfl) fun p hp=>by grind [GA,JI]
termination_by l.length+m.length
theorem bC(hl:Ho l)(hm:Ho m)(hp:t.Perm ((l++m).map (·.path)))(ht:(t.map K4).Pairwise fun a b=>a<=b):I1 l m (Ce t)=rm l m:=by
 obtain⟨h1,h2,h3⟩:=U2 l m hl.inc hm.inc;obtain⟨c1,c2⟩:=mF ht;rw[h3]
 congr 1
 refine List.Perm.eq_of_pairwise (le:=fun a b=>Dz a b=true) (fun a b _ _ x y=>?_) c1 h1 ?_
 .grind [WI]
 .grind [List.perm_ext_iff_of_nodup,JI,List.Pairwise.imp]
end Go.Eng
namespace Go.Eng
open Go.Proofs
end Go.Eng
namespace Go.Eng
end Go.Eng
namespace Go.Eng
open Go.Proofs
theorem yA(v:Ver):PC 67 [.agg (CC v)] (.tup [vi (plc v),vi (if Be v then 0 else 2)]):=yF v
end Go.Eng
