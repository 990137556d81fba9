/- Lemmas 31. -/
import Derived.Test.YtkmnnpmneamgoaaGreatDoorPA30
set_option maxHeartbeats 16000000
namespace Go.Eng
open Go.Proofs
variable {o o':List (List Sl)}{N:List Nd}{h':Nat->HO}{c:Cd}{r:AV}(x:List Rl)(roots:List Rq)(C A:List (Value×AV))(Y:Gh->World->Prop)(ifs:List (List AV))(f:Cd->List (List Cd))(yl M n:Nat)(ob:Bool->Obj)(dec cs:List Cd)
abbrev qH:Md:=⟨[2],[],[],[],[],[],[],[(50,(9,3,95,3))],[(44,0)],[(100016,1009)],[3,4,5,6,7,8,9,10,11,14,15,16]⟩
abbrev an0:An:=⟨false,[],[],[]⟩
def Gy:An:=if DY x roots=true/\(EX x roots).ss.full=false then fC x roots else an0
def FS:Int:=if DY x roots=true then if(EX x roots).ss.full=true then 7 else 0 else 1
abbrev XY:AV:=.tup [.agg (EM (Gy x roots)),vi (FS x roots)]
theorem Ea.an0{v:AV}:Ea (.tup [.agg [vb false,nzA,nzA,nzA],v]) (.tup [.agg (EM an0),v]):=
 Ea.tup ⟨Ea.agg ⟨.refl _,.nil,.nil,.nil,trivial⟩,.refl _,trivial⟩
theorem UN{x:List Rl}{roots:List Rq}(hx:∀r∈x,E4 r)(hr:∀q∈roots,HP q)(h0:Av x=0)(h1:AL roots=0){L:List ByteArray}(hl:L.Perm (AK (yR x) [])){o:Ku}(ho:EX x roots=o) :
  A6 Tryz.prog 45 [.ref 1000 0] (Af (Ie roots (mC x) (L.map (kA x)) JT [] []) Ae) (aM roots (mC x) (L.map (kA x)) o):=by
 rw[<-ho];exact AdN (kz hx hr h0 h1 hl) (x.length+1) (.nil x) (IW.nil roots) ⟨⟨rfl,Ap _⟩,Kt⟩ rfl (Nat.lt_succ_of_le (Dz _ _)) rfl
theorem UX{x:List Rl}{roots:List Rq}(h:DY x roots=true):Av x=0/\AL roots=0:=by
 grind [DY]
theorem qS(roots:List Rq)(hx:∀r∈x,E4 r)(hr:∀q∈roots,HP q)(hv:DY x roots=false):PC 21 [Il x ifs,sl Ac roots] (.tup [.agg (EM an0),vi 1]):=by
 have KG:=vF x ifs roots hx hr;rw[hv]at KG;refine Ps qH Tryz.func21 rfl (Nz rfl) (Yi ?_ ?_)
 .exact Nz rfl
 refine Xi .pure (Xi _ (Yi KG (Yi ?_ ?_)))
 .omega
 refine Yi ?_ ?_
 .exact Nz rfl
 exact Ea.an0
theorem nw(roots:List Rq)(hx:∀r∈x,E4 r)(hr:∀q∈roots,HP q)(hv:DY x roots=true)(h0:Av x=0)(h1:AL roots=0)(k:Nat)(infs:List Nf)(drv:List (List Tm))(dec:List Cd)(st:List (List Sk))(ho:EX x roots=⟨k,false,⟨infs,drv,true⟩,dec,st⟩):PC 21 [Il x ifs,sl Ac roots] (.tup [.agg (EM an0),vi 7]):=by
 have KG:=vF x ifs roots hx hr;rw[hv]at KG;refine Ps qH Tryz.func21 rfl (Nz rfl) (Yi ?_ ?_)
 .exact Nz rfl
 refine Xi .pure (Xi _ (Yi KG (cU [(1,sl Ac roots),(2,.ref 2 0),(4,.ref 4 0)] [(2,.ro (Ic x ifs)),(4,.cells [vb false,nzA,nzA,nzA])] Z3 Z2 (Yi ?_ ?_))))
 .exact Nz rfl
 refine Xi (.gen [] 5) (Yi rfl ((zO x ifs roots hx h0).imp ?_));intro v g q;refine Al q (fun L q=>?_);have q1:=q.2.1;have q2:=q.2.2;have qp:=q.1;subst q1;subst q2;refine cU [(4,.ref 4 0),(6,.ref 11900 0)] [(4,.cells [vb false,nzA,nzA,nzA]),(11900,.cells [sl Ac roots,.cmap Cv (mC x),.cmap Cv (L.map (kA x)),.slice (.id 11901 6) [],.slice (.id 11902 1) [],.mref 11903,vb false,.slice .none [],.slice .none [],.msl 11904 0]),(11901,.tok 6 0),(11902,.tok 1 0),(11903,.map Eh []),(11904,.arr 1 [])] Z2 Z6 (Xi (.gen [(11900,1000),(11901,1001),(11902,1002),(11903,1003),(11904,1004)] 1) (Yi rfl ((UN hx hr h0 h1 qp ho).imp ?_)));intro v g q;have q1:=q.1;have q2:=q.2;subst q1;subst q2;refine cU [(4,.ref 4 0),(6,.ref 11900 0),(7,vi (k:Nat)),(8,vb false)] [(4,.cells [vb false,nzA,nzA,nzA]),(11900,.cells [sl Ac roots,.cmap Cv (mC x),.cmap Cv (L.map (kA x)),.slice (.id 11901 6) (infs.map AG),.slice (.id 11902 1) (drv.map Aq),.mref 11903,vb true,sl At dec,sl Ag (Au dec),.msl 12200 st.length]),(11901,.tok 6 infs.length),(11902,.tok 1 drv.length),(11903,.map Eh (FP 0 infs)),(12200,.arr 1 (st.map A5))] Z4 Z6 (Yi (fun _=>?_) (fun h=>by cases h));refine cU [(4,.ref 4 0)] [(4,.cells [vb false,nzA,nzA,nzA])] Z1 Z1 (Yi ?_ ?_)
 .exact Nz rfl
 refine Yi ?_ ?_
 .exact Nz rfl
 exact Ea.an0
theorem uC(roots:List Rq)(hx:∀r∈x,E4 r)(hr:∀q∈roots,HP q)(hv:DY x roots=true)(h0:Av x=0)(h1:AL roots=0)(k:Nat)(infs:List Nf)(drv:List (List Tm))(dec:List Cd)(st:List (List Sk))(ho:EX x roots=⟨k,false,⟨infs,drv,false⟩,dec,st⟩)(hk:k<infs.length)(hl:infs.length<=65536):PC 21 [Il x ifs,sl Ac roots] (.tup [.agg (EM ⟨false,[],infs.take (k+1),[]⟩),vi 0]):=by
 have KG:=vF x ifs roots hx hr;rw[hv]at KG;refine Ps qH Tryz.func21 rfl (Nz rfl) (Yi ?_ ?_)
 .exact Nz rfl
 refine Xi .pure (Xi _ (Yi KG (cU [(1,sl Ac roots),(2,.ref 2 0),(4,.ref 4 0)] [(2,.ro (Ic x ifs)),(4,.cells [vb false,nzA,nzA,nzA])] Z3 Z2 (Yi ?_ ?_))))
 .exact Nz rfl
 refine Xi (.gen [] 5) (Yi rfl ((zO x ifs roots hx h0).imp ?_));intro v g q;refine Al q (fun L q=>?_);have q1:=q.2.1;have q2:=q.2.2;have qp:=q.1;subst q1;subst q2;refine cU [(4,.ref 4 0),(6,.ref 11900 0)] [(4,.cells [vb false,nzA,nzA,nzA]),(11900,.cells [sl Ac roots,.cmap Cv (mC x),.cmap Cv (L.map (kA x)),.slice (.id 11901 6) [],.slice (.id 11902 1) [],.mref 11903,vb false,.slice .none [],.slice .none [],.msl 11904 0]),(11901,.tok 6 0),(11902,.tok 1 0),(11903,.map Eh []),(11904,.arr 1 [])] Z2 Z6 (Xi (.gen [(11900,1000),(11901,1001),(11902,1002),(11903,1003),(11904,1004)] 1) (Yi rfl ((UN hx hr h0 h1 qp ho).imp ?_)));intro v g q;have q1:=q.1;have q2:=q.2;subst q1;subst q2;refine cU [(4,.ref 4 0),(6,.ref 11900 0),(7,vi (k:Nat)),(8,vb false)] [(4,.cells [vb false,nzA,nzA,nzA]),(11900,.cells [sl Ac roots,.cmap Cv (mC x),.cmap Cv (L.map (kA x)),.slice (.id 11901 6) (infs.map AG),.slice (.id 11902 1) (drv.map Aq),.mref 11903,vb false,sl At dec,sl Ag (Au dec),.msl 12200 st.length]),(11901,.tok 6 infs.length),(11902,.tok 1 drv.length),(11903,.map Eh (FP 0 infs)),(12200,.arr 1 (st.map A5))] Z4 Z6 (Yi (fun h=>by cases h) (fun _=>?_));refine cU [(4,.ref 4 0),(6,.ref 11900 0),(7,vi (k:Nat)),(8,vb false)] [(4,.cells [vb false,nzA,nzA,nzA]),(11900,.cells [sl Ac roots,.cmap Cv (mC x),.cmap Cv (L.map (kA x)),.slice (.id 11901 6) (infs.map AG),.slice (.id 11902 1) (drv.map Aq),.mref 11903,vb false,sl At dec,sl Ag (Au dec),.msl 12200 st.length]),(11901,.tok 6 infs.length),(11902,.tok 1 drv.length),(11903,.map Eh (FP 0 infs)),(12200,.arr 1 (st.map A5))] Z4 Z6 (cU [(4,.ref 4 0),(6,.ref 11900 0),(7,vi (k:Nat))] [(4,.cells [vb false,nzA,nzA,nzA]),(11900,.cells [sl Ac roots,.cmap Cv (mC x),.cmap Cv (L.map (kA x)),.slice (.id 11901 6) (infs.map AG),.slice (.id 11902 1) (drv.map Aq),.mref 11903,vb false,sl At dec,sl Ag (Au dec),.msl 12200 st.length]),(11901,.tok 6 infs.length),(11902,.tok 1 drv.length),(11903,.map Eh (FP 0 infs)),(12200,.arr 1 (st.map A5))] Z3 Z6 (Yi (by grind [As]) ?_));have el:(infs.map AG).length=infs.length:=Lm ..;refine Yi ⟨Ce _,by grind,by grind⟩ ?_;refine Yi (fun cs hcs=>by obtain⟨i,_,rfl⟩:=Ar.1 hcs;rfl) (Yi ?_ ?_)
 .exact Nz rfl
 refine Yi ?_ ?_
 .exact Nz rfl
 have et:((infs.map AG).take ((k:Int)+1).toNat).drop (0:Int).toNat=(infs.take (k+1)).map AG:=by
  simp_all
 exact Ea.tup ⟨Ea.agg ⟨.refl _,.nil,.of_eq (show AV.slice .none (((infs.map AG).take ((k:Int)+1).toNat).drop (0:Int).toNat)=_ by rw[et]),.nil,trivial⟩,.refl _,trivial⟩
theorem V6(y:Sl):∀l:List Sl,(Vl y l).Perm (y::l)
 | []=>.refl _
 |z::l=>by
  unfold Vl;split
  .simp_all
  .exact((V6 y l).cons z).trans (List.Perm.swap y z l)
theorem LH:∀l:List Sl,(C3 l).Perm l
 | []=>.refl _
 |y::l=>(V6 y _).trans ((LH l).cons y)
theorem YM{b:Nat}:∀{st:List (List Sk)},(∀s∈st,s.length<=b)->st.flatten.length<=b*st.length
 | [],_=>by simp
 |s::st,h=>by
  rw[Cj,Ay,BF,Nat.mul_succ]
  have:=h s (Ah ..)
  have:=YM (st:=st) fun t ht=>h t (Ai _ ht)
  omega
theorem nD{st:List (List Sk)}(h:st.length<=256)(hs:∀s∈st,s.length<=256)(i:Nat):((st.take i).flatten).length<=65536:=by
 have h1:=YM (b:=256) (st:=st.take i) fun s gL=>hs s (DU gL)
 grind
theorem qT(roots:List Rq)(hx:∀r∈x,E4 r)(hr:∀q∈roots,HP q)(hv:DY x roots=true)(h0:Av x=0)(h1:AL roots=0)(k:Nat)(infs:List Nf)(drv:List (List Tm))(dec:List Cd)(st:List (List Sk))(ho:EX x roots=⟨k,true,⟨infs,drv,false⟩,dec,st⟩)(hd:dec.length<=256)(hn:((Au dec).map (·.path)).Nodup)(Gw:st.length<=256)(hsk:∀s∈st,s.length<=256):PC 21 [Il x ifs,sl Ac roots] (.tup [.agg (EM ⟨true,C3 (Au dec),infs,st.flatten⟩),vi 0]):=by
 have KG:=vF x ifs roots hx hr;rw[hv]at KG;refine Ps qH Tryz.func21 rfl (Nz rfl) (Yi ?_ ?_)
 .exact Nz rfl
 refine Xi .pure (Xi _ (Yi KG (cU [(1,sl Ac roots),(2,.ref 2 0),(4,.ref 4 0)] [(2,.ro (Ic x ifs)),(4,.cells [vb false,nzA,nzA,nzA])] Z3 Z2 (Yi ?_ ?_))))
 .exact Nz rfl
 refine Xi (.gen [] 5) (Yi rfl ((zO x ifs roots hx h0).imp ?_));intro v g q;refine Al q (fun L q=>?_);have q1:=q.2.1;have q2:=q.2.2;have qp:=q.1;subst q1;subst q2;refine cU [(4,.ref 4 0),(6,.ref 11900 0)] [(4,.cells [vb false,nzA,nzA,nzA]),(11900,.cells [sl Ac roots,.cmap Cv (mC x),.cmap Cv (L.map (kA x)),.slice (.id 11901 6) [],.slice (.id 11902 1) [],.mref 11903,vb false,.slice .none [],.slice .none [],.msl 11904 0]),(11901,.tok 6 0),(11902,.tok 1 0),(11903,.map Eh []),(11904,.arr 1 [])] Z2 Z6 (Xi (.gen [(11900,1000),(11901,1001),(11902,1002),(11903,1003),(11904,1004)] 1) (Yi rfl ((UN hx hr h0 h1 qp ho).imp ?_)));intro v g q;have q1:=q.1;have q2:=q.2;subst q1;subst q2;refine cU [(4,.ref 4 0),(6,.ref 11900 0),(7,vi (k:Nat)),(8,vb true)] [(4,.cells [vb false,nzA,nzA,nzA]),(11900,.cells [sl Ac roots,.cmap Cv (mC x),.cmap Cv (L.map (kA x)),.slice (.id 11901 6) (infs.map AG),.slice (.id 11902 1) (drv.map Aq),.mref 11903,vb false,sl At dec,sl Ag (Au dec),.msl 12200 st.length]),(11901,.tok 6 infs.length),(11902,.tok 1 drv.length),(11903,.map Eh (FP 0 infs)),(12200,.arr 1 (st.map A5))] Z4 Z6 (Yi (fun h=>by cases h) (fun _=>?_));refine cU [(4,.ref 4 0),(6,.ref 11900 0),(8,vb true)] [(4,.cells [vb false,nzA,nzA,nzA]),(11900,.cells [sl Ac roots,.cmap Cv (mC x),.cmap Cv (L.map (kA x)),.slice (.id 11901 6) (infs.map AG),.slice (.id 11902 1) (drv.map Aq),.mref 11903,vb false,sl At dec,sl Ag (Au dec),.msl 12200 st.length]),(11901,.tok 6 infs.length),(11902,.tok 1 drv.length),(11903,.map Eh (FP 0 infs)),(12200,.arr 1 (st.map A5))] Z3 Z6 (cU [(4,.ref 4 0),(6,.ref 11900 0)] [(4,.cells [vb false,nzA,nzA,nzA]),(11900,.cells [sl Ac roots,.cmap Cv (mC x),.cmap Cv (L.map (kA x)),.slice (.id 11901 6) (infs.map AG),.slice (.id 11902 1) (drv.map Aq),.mref 11903,vb false,sl At dec,sl Ag (Au dec),.msl 12200 st.length]),(11901,.tok 6 infs.length),(11902,.tok 1 drv.length),(11903,.map Eh (FP 0 infs)),(12200,.arr 1 (st.map A5))] Z2 Z6 ?_)
 have lD:(Au dec).length<=256:=by simp_all
 have Y4:BL (Au dec):=Bl lD aa2;refine Xi (Au dec).length (Xi 4 (Xi ((Au dec).map Ag) (Yi rfl (Yi (y0 (Au dec) Y4) (Yi ?_ ?_)))))
 .exact Nz rfl
 refine Yi aa3 (cU [(4,.ref 4 0),(6,.ref 11900 0),(9,.ref 9 0)] [(4,.cells [vb false,nzA,nzA,nzA]),(9,.cells [vb true,.msl 14400 (Au dec).length,.slice (.id 11901 6) (infs.map AG),nzA]),(11900,.cells [sl Ac roots,.cmap Cv (mC x),.cmap Cv (L.map (kA x)),.slice (.id 11901 6) (infs.map AG),.slice (.id 11902 1) (drv.map Aq),.mref 11903,vb false,sl At dec,sl Ag (Au dec),.msl 12200 st.length]),(11901,.tok 6 infs.length),(11902,.tok 1 drv.length),(11903,.map Eh (FP 0 infs)),(12200,.arr 1 (st.map A5)),(14400,.arr 4 ((Au dec).map Ag))] Z3 Z8 (Xi (.gen [(14400,1000)] 0) (Yi rfl ((s47 48 Tryz.closure48 (enters_of Tryz.func48 aa3 rfl) (Au dec) Y4 hn).imp ?_))));intro v g q;have q1:=q.1;have q2:=q.2;subst q1;subst q2;refine cU [(4,.ref 4 0),(6,.ref 11900 0),(9,.ref 9 0)] [(4,.cells [vb false,nzA,nzA,nzA]),(9,.cells [vb true,.msl 14400 (Au dec).length,.slice (.id 11901 6) (infs.map AG),.slice (.id 95 3) []]),(95,.tok 3 0),(11900,.cells [sl Ac roots,.cmap Cv (mC x),.cmap Cv (L.map (kA x)),.slice (.id 11901 6) (infs.map AG),.slice (.id 11902 1) (drv.map Aq),.mref 11903,vb false,sl At dec,sl Ag (Au dec),.msl 12200 st.length]),(11901,.tok 6 infs.length),(11902,.tok 1 drv.length),(11903,.map Eh (FP 0 infs)),(12200,.arr 1 (st.map A5)),(14400,.arr 4 ((C3 (Au dec)).map Ag))] Z3 Z9 (Xi {i:Nat // i<=st.length} (Xi (fun i=>⟨[(4,.ref 4 0),(6,.ref 11900 0),(9,.ref 9 0),(56,.msl 12200 st.length),(57,vi (st.length:Nat)),(58,vi i.1)],[(4,.cells [vb false,nzA,nzA,nzA]),(9,.cells [vb true,.msl 14400 (Au dec).length,.slice (.id 11901 6) (infs.map AG),.slice (.id 95 3) ((st.take i.1).flatten.map AN)]),(95,.tok 3 ((st.take i.1).flatten.map AN).length),(11900,.cells [sl Ac roots,.cmap Cv (mC x),.cmap Cv (L.map (kA x)),.slice (.id 11901 6) (infs.map AG),.slice (.id 11902 1) (drv.map Aq),.mref 11903,vb false,sl At dec,sl Ag (Au dec),.msl 12200 st.length]),(11901,.tok 6 infs.length),(11902,.tok 1 drv.length),(11903,.map Eh (FP 0 infs)),(12200,.arr 1 (st.map A5)),(14400,.arr 4 ((C3 (Au dec)).map Ag))],Ae⟩) (Xi (fun i=>st.length-i.1) (Yi (Xi ⟨0,Ap _⟩ ?_) ?_))))
 .exact⟨Z6,Z9,Fh,Tv⟩
 intro⟨i,i1⟩;refine Yi ?_ ?_
 .intro h;have h:(i:Int)<(st.length:Nat):=h;have h:i<st.length:=by omega
  have hg:st[i]?=some st[i]:=Ge h;have Pi:st.take (i+1)=st.take i++[st[i]]:=by simp_all
  refine Yi (Yi aa0 aa0) (Yi (by simp_all) (Xi (A5 st[i]) (Yi (by simp_all) ?_)));refine cU [(4,.ref 4 0),(6,.ref 11900 0),(9,.ref 9 0),(11,sl AN st[i]),(56,.msl 12200 st.length),(57,vi (st.length:Nat)),(58,vi i)] [(4,.cells [vb false,nzA,nzA,nzA]),(9,.cells [vb true,.msl 14400 (Au dec).length,.slice (.id 11901 6) (infs.map AG),.slice (.id 95 3) ((st.take i).flatten.map AN)]),(95,.tok 3 ((st.take i).flatten.map AN).length),(11900,.cells [sl Ac roots,.cmap Cv (mC x),.cmap Cv (L.map (kA x)),.slice (.id 11901 6) (infs.map AG),.slice (.id 11902 1) (drv.map Aq),.mref 11903,vb false,sl At dec,sl Ag (Au dec),.msl 12200 st.length]),(11901,.tok 6 infs.length),(11902,.tok 1 drv.length),(11903,.map Eh (FP 0 infs)),(12200,.arr 1 (st.map A5)),(14400,.arr 4 ((C3 (Au dec)).map Ag))] Z7 Z9 ?_
  have hfl:((st.take i).flatten).length<=65536/\st[i].length<=256:=⟨nD Gw hsk i,hsk _ (Ak _)⟩;have CO:A7 3 (st[i].map AN)/\((st.take i).flatten.map AN).length=((st.take i).flatten.map AN).length/\(((st.take i).flatten.map AN).length+(st[i].map AN).length)*32<=140737488355328/\((st.take i).flatten.map AN).length+(st[i].map AN).length<=9223372036854775807:=by
   grind [Cn]
  refine Yi CO (Yi ?_ ?_)
  .exact Nz rfl
  have ef:((st.take i).flatten.map AN)++st[i].map AN=((st.take (i+1)).flatten.map AN):=by grind
  have en:((st.take i).flatten.map AN).length+(st[i].map AN).length=((st.take (i+1)).flatten.map AN).length:=by grind
  refine cU [(4,.ref 4 0),(6,.ref 11900 0),(9,.ref 9 0),(56,.msl 12200 st.length),(57,vi (st.length:Nat)),(58,vi i)] [(4,.cells [vb false,nzA,nzA,nzA]),(9,.cells [vb true,.msl 14400 (Au dec).length,.slice (.id 11901 6) (infs.map AG),.slice (.id 95 3) ((st.take (i+1)).flatten.map AN)]),(95,.tok 3 ((st.take (i+1)).flatten.map AN).length),(11900,.cells [sl Ac roots,.cmap Cv (mC x),.cmap Cv (L.map (kA x)),.slice (.id 11901 6) (infs.map AG),.slice (.id 11902 1) (drv.map Aq),.mref 11903,vb false,sl At dec,sl Ag (Au dec),.msl 12200 st.length]),(11901,.tok 6 infs.length),(11902,.tok 1 drv.length),(11903,.map Eh (FP 0 infs)),(12200,.arr 1 (st.map A5)),(14400,.arr 4 ((C3 (Au dec)).map Ag))] Z6 ⟨Zr,⟨Aa (fun z=>HO.cells [vb true,.msl 14400 (Au dec).length,.slice (.id 11901 6) (infs.map AG),.slice (.id 95 3) z]) ef,rfl⟩,⟨Aa (HO.tok 3) en,rfl⟩,Zr,Zr,Zr,Zr,Zr,Zr,Tv⟩ (Yi (Ii i aa0) (Xi ⟨i+1,by omega⟩ ?_));exact⟨by grind,Z6,Z9,Fh,Tv⟩
 .intro h;have h:¬(i:Int)<(st.length:Nat):=h;have et:st.take i=st:=Bd aa0;have Zc:(Au dec).length=((C3 (Au dec)).map Ag).length:=(LH (Au dec)).length_eq.symm.trans (Lm ..).symm;refine Yi Zc (cU [(4,.ref 4 0),(9,.ref 9 0)] [(4,.cells [vb false,nzA,nzA,nzA]),(9,.cells [vb true,.slice (.id 14400 4) ((C3 (Au dec)).map Ag),.slice (.id 11901 6) (infs.map AG),.slice (.id 95 3) (st.flatten.map AN)]),(95,.tok 3 (st.flatten.map AN).length),(11901,.tok 6 infs.length),(14400,.tok 4 ((C3 (Au dec)).map Ag).length)] Z2 ⟨Zr,⟨Aa (fun z:List (List Sk)=>HO.cells [vb true,.slice (.id 14400 4) ((C3 (Au dec)).map Ag),.slice (.id 11901 6) (infs.map AG),.slice (.id 95 3) (z.flatten.map AN)]) et,rfl⟩,⟨Aa (fun z:List (List Sk)=>HO.tok 3 (z.flatten.map AN).length) et,rfl⟩,Zr,Zr,Tv⟩ (Yi ?_ ?_))
  .exact Nz rfl
  refine Yi ?_ ?_
  .grind
  refine Yi ?_ ?_
  .exact Nz rfl
  exact .refl _
theorem QO{s:SS}{b:List Cd}{p:ByteArray}{needs:List Nd}:∀{cs:List Cd} {sk:List Sk},GG s b p needs cs sk->sk.length<=cs.length
 | [],sk,h=>by
  have h:sk=[]:=h;simp_all
 |c::cs,sk,h=>by
  have h:if(needs.all fun n=>has n.rq.set c.place)=true then _ else _:=h
  by_cases hc:(needs.all fun n=>has n.rq.set c.place)=true
  .rw[AX hc]at h;obtain⟨k,rest,rfl,_,h3⟩:=h
   have:=QO h3
   simp_all
  .rw[AI hc]at h
   have:=QO h
   grind
theorem Qe{x:List Rl}{roots:List Rq}{s:SS}:∀{t:List Cd} {sl:List (List Sk)} {b:List Cd},JU x roots s b t sl->sl.length=t.length/\∀k∈sl,k.length<=x.length
 | [],[],_,_=>⟨rfl,fun _ h=>by cases h⟩
 | [],_::_,_,h=>h.elim
 |_::_,[],_,h=>h.elim
 |c::t,sk::sl,b,⟨⟨p,needs,pre,post,hs⟩,h⟩=>by
  obtain⟨h1,h2⟩:=Qe h;refine⟨by simp_all,fun k hk=>?_⟩;rcases AF.1 hk with rfl | hk
  .have e1:=QO hs.skips;have e2:=Qb x p;rw[hs.cands,Ay]at e2;omega
  simp_all
theorem yY(roots:List Rq)(hx:∀r∈x,E4 r)(hr:∀q∈roots,HP q):PC 21 [Il x ifs,sl Ac roots] (XY x roots):=by
 unfold XY Gy FS;cases hv:DY x roots with
 |false=>grind [qS]
 |true=>
  obtain⟨h0,h1⟩:=UX hv;have hR:=QS h0 h1;have Kl:=(Fb h0).1;have hA:fC x roots=if(EX x roots).found=true then⟨true,C3 (Au (EX x roots).dec),(EX x roots).ss.infs,(EX x roots).stack.flatten⟩else⟨false,[],(EX x roots).ss.infs.take ((EX x roots).res+1),[]⟩:=rfl
  rw[hA];generalize ho:EX x roots=o at hR⊢;obtain⟨k,b,⟨infs,drv,full⟩,dec,st⟩:=o;have hl:infs.length<=65536:=hR.der.len;have hdl:drv.length=infs.length:=hR.der.dlen;cases b with
  |false=>
   cases full with
   |true=>grind [nw]
   |false=>
    have hk:k<drv.length:=((hR.no rfl).2.2 rfl).1
    grind [uC]
  |true=>
   obtain⟨hf,t,sl,e1,e2,hC,_⟩:=hR.yes rfl;subst hf;have e1:dec=[]++t:=e1;have e2:st=[]++sl:=e2;rw[Ek]at e1 e2;subst e1;subst e2;have hD:Dp x ([]++dec):=(JU.ok (.nil x) (.nil roots) hC).1;rw[Ek]at hD;have hdx:=OZ hD
   grind [Qe,Jv,qT,Dp.nodup]
def nA:Int:=if FS x roots≠0 then FS x roots else if(Gy x roots).found=true then 0 else 17
def qW:List Sl:=if nA x roots=0 then(Gy x roots).sel else []
abbrev AcX:Md:=(pC [2] [])
theorem uB(roots:List Rq)(a:An)(e:Int)(h:PC 21 [Il x ifs,sl Ac roots] (.tup [.agg (EM a),vi e])) :
  PC 16 [Il x ifs,sl Ac roots] (.tup [if e≠0 then sl Ag []else if a.found=true then sl Ag a.sel else sl Ag [],vi (if e≠0 then e else if a.found=true then 0 else 17)]):=by
 refine Ps AcX Tryz.func16 rfl (Nz rfl) (Yi ?_ ?_)
 .exact Nz rfl
 refine Xi .pure (Xi _ (Yi h (Yi ?_ ?_)))
 .exact Nz rfl
 refine Yi (fun he=>?_) (fun he=>?_)
 .have e1:AV.tup [sl Ag [],vi e]=.tup [if e≠0 then sl Ag []else if a.found=true then sl Ag a.sel else sl Ag [],vi (if e≠0 then e else if a.found=true then 0 else 17)]:=by simp_all
  exact(show Ea (.tup [nzA,vi e]) (.tup [sl Ag ([]:List Sl),vi e])from Ea.tup ⟨.nil,.refl _,trivial⟩).trans (.of_eq e1)
 .have he:e=0:=Cc.1 he;have D8:¬e≠0:=fun h=>h he;refine Yi (fun hb=>?_) (fun hb=>?_)
  .have e1:AV.tup [sl Ag a.sel,vi 0]=.tup [if e≠0 then sl Ag []else if a.found=true then sl Ag a.sel else sl Ag [],vi (if e≠0 then e else if a.found=true then 0 else 17)]:=by simp_all
   exact .of_eq e1
  .have hb:¬a.found=true:=by simp_all
   have e1:AV.tup [sl Ag [],vi 17]=.tup [if e≠0 then sl Ag []else if a.found=true then sl Ag a.sel else sl Ag [],vi (if e≠0 then e else if a.found=true then 0 else 17)]:=by simp_all
   exact(show Ea (.tup [nzA,vi 17]) (.tup [sl Ag ([]:List Sl),vi 17])from Ea.tup ⟨.nil,.refl _,trivial⟩).trans (.of_eq e1)
theorem s16(roots:List Rq)(hx:∀r∈x,E4 r)(hr:∀q∈roots,HP q):PC 16 [Il x ifs,sl Ac roots] (.tup [sl Ag (qW x roots),vi (nA x roots)]):=by
 grind [uB,yY,qW,nA]
abbrev fh:HJ:=[(1009,1009),(1000,1000),(1001,1001),(1002,1002),(1003,1003),(1004,1004),(1005,1005),(1006,1006),(1007,1007),(1008,1008)]
abbrev Dd(l:List Sl):List AV:=[sl Ag l]
abbrev HU:List AV:=[.ref 1005 0,.cptr [.v (.func (.yield yl) #[] #[])],.ref 1006 0]
abbrev vH(o:Obj)(dec:List Cd)(out:List (List Sl)):List (Nat×HO):=
 [(1009,.raw yl o),(1000,.cells (PS roots C A JT dec 0)),(1001,.tok 6 0),(1002,.tok 1 0),(1003,.map Eh []),(1004,.arr 1 []),(1005,.cells [.ref 1000 0]),(1006,.cells [.clo 63 (HU yl)]),(1007,.cells [.slice (.id 1008 1) (out.map Dd)]),(1008,.tok 1 out.length)]
noncomputable abbrev cxv(pl:Md)(l:Nat)(Y:Gh->World->Prop):Cx:=⟨Tryz.prog,nK,pl,true,0,fun l' σ' g w=>l'=l->σ'=fh->Y g w⟩
abbrev vO(H:List (Nat×HO))(Y:Gh->World->Prop):Prop:=∀g w h' g' w',Cw w g (Af H Ae) (Af H Ae) g w->Cw w g (Af H Ae) h' g' w'->Le (Af H Ae) g w h' g' w'->Y g w->Y (CF fh g') w'
abbrev PR(l:List (List Cd)):List (List Sl):=l.map fun d=>C3 (Au d)
abbrev XF(N:List Nd)(c:Cd):List (List Cd):=if ZX dec N c then CQ x roots n (dec++[c])else []
abbrev VQ(o:List (List Sl)):AV->(Nat->HO)->Prop:=
 fun r h'=>r=vb (decide (o.length<=M))/\h'=Af (vH roots C A yl (ob (decide (o.length<=M))) dec (o.take M)) Ae
theorem VQ.le{roots:List Rq}{C A:List (Value×AV)}{yl M:Nat}{ob:Bool->Obj}{dec:List Cd}(hq:VQ roots C A yl M ob dec o r h')(h:o.length<=M) :
  r=vb true/\h'=Af (vH roots C A yl (ob true) dec o) Ae:=by
 obtain⟨a,b⟩:=hq;rw[Bs h]at a b;rw[Bd h]at b;exact⟨a,b⟩
theorem VQ.gt{roots:List Rq}{C A:List (Value×AV)}{yl M:Nat}{ob:Bool->Obj}{dec:List Cd}(hq:VQ roots C A yl M ob dec o r h')(h:¬o.length<=M) :
  r=vb false/\h'=Af (vH roots C A yl (ob false) dec (o.take M)) Ae:=by
 obtain⟨a,b⟩:=hq;rw[AP h]at a b;exact⟨a,b⟩
theorem VQ.of_le{roots:List Rq}{C A:List (Value×AV)}{yl M:Nat}{ob:Bool->Obj}{dec:List Cd}(e:o'=o)(h:o'.length<=M):VQ roots C A yl M ob dec o (vb true) (Af (vH roots C A yl (ob true) dec o') Ae):=by
 subst e;refine⟨?_,?_⟩
 .rw[Bs h]
 .rw[Bs h,Bd h]
theorem VQ.of_gt{roots:List Rq}{C A:List (Value×AV)}{yl M:Nat}{ob:Bool->Obj}{dec:List Cd}(h:¬o'.length<=M)(e:∃z,o=o'++z):VQ roots C A yl M ob dec o (vb false) (Af (vH roots C A yl (ob false) dec (o'.take M)) Ae):=by
 obtain⟨z,rfl⟩:=e;have h2:¬(o'++z).length<=M:=by rw[Ay];omega
 refine⟨?_,?_⟩
 .rw[AP h2]
 .rw[AP h2,Mh aa0]
structure zR(x:List Rl)(roots:List Rq)(C A:List (Value×AV))(Y:Gh->World->Prop)(yl M n:Nat)(ob:Bool->Obj)(dec:List Cd)(p:ByteArray)(n0:Nd)(l:List Nd)(cs:List Cd):Prop where
 hdl:dec.length<=256
 hcl:cs.length<=256
 hnl:BL (n0::l)
 hnq:∀n∈n0::l,BL n.rq.set
 hcr:∀(i:Nat) (h:i<cs.length),cs[i].rel.reqs.length<=1073741824
 hcs_:∀(i:Nat) (h:i<cs.length),∀q∈cs[i].rel.reqs,BL q.set
 hkey:∀(i:Nat) (h:i<cs.length),(Au dec).map Ag++[[vs p,vi cs[i].rel.ver.a,vi cs[i].rel.ver.b,vi cs[i].rel.ver.c]]=(Au (dec++[cs[i]])).map Ag
 ih:∀(i:Nat) (h:i<cs.length),ZX dec (n0::l) cs[i]=true->∀(out:List (List Sl)),out.length<=M ->
  FZ Tryz.prog Y 63 (HU yl) (Af (vH roots C A yl (ob true) (dec++[cs[i]]) out) Ae) (VQ roots C A yl M ob (dec++[cs[i]]) (out++PR (CQ x roots n (dec++[cs[i]]))))
def LL(i:Nat):List (List Cd):=((cs.take i).map f).flatten
theorem WH:LL f cs 0=[]:=rfl
theorem WG{f:Cd->List (List Cd)}{cs:List Cd}{i:Nat}(h:i<cs.length):LL f cs (i+1)=LL f cs i++f cs[i]:=by
 unfold LL;rw[List.take_succ_eq_append_getElem h,BD,Df];simp
theorem fc{f:Cd->List (List Cd)}{cs:List Cd}{i:Nat}(h:i<cs.length)(hf:f cs[i]=[]):LL f cs (i+1)=LL f cs i:=by rw[WG h,hf,DV]
theorem s67(n:Nd)(c:Cd)(hq:BL n.rq.set):PC 67 [.agg (AU n),.cptr (At c)] (vb (!has n.rq.set c.place)):=by
 refine Ps (pC [2] []) Tryz.func67 rfl (Nz rfl) (AA (Bt (has n.rq.set c.place)) (fun h1=>?_) (fun h1=>?_))
 .have h1:(has n.rq.set c.place)=true:=h1;have Pf:=(oO n.rq.set c.place hq);rw[show(has n.rq.set c.place)=true from h1]at Pf;refine Xi .pure (Xi _ (Yi Pf ?_));exact .of_eq (show vb false=vb (!has n.rq.set c.place) by rw[h1];rfl)
 have h1:(has n.rq.set c.place)=false:=h1;have YV:=(oO n.rq.set c.place hq);rw[show(has n.rq.set c.place)=false from h1]at YV;refine Xi .pure (Xi _ (Yi YV ?_));exact .of_eq (show vb true=vb (!has n.rq.set c.place) by rw[h1];rfl)
theorem cX(i:Nat):LL f cs cs.length=LL f cs i++((cs.drop i).map f).flatten:=by
 unfold LL;rw[F3,<-Df,<-BD,List.take_append_drop]
theorem yr{dec:List Cd}(h1:(N.any fun n=>!has n.rq.set c.place)=false)(h2:Dq dec c=none):ZX dec N c=true:=
 Kc.2 ⟨fun n hn=>by have:=Rd.1 h1 n hn;simpa using this,h2⟩
theorem qk{x:List Rl}{roots:List Rq}{n:Nat}{dec:List Cd}(h:(N.any fun n=>!has n.rq.set c.place)=true):XF x roots n dec N c=[]:=by
 unfold XF;rw[AI];intro hc;obtain⟨m,h1,h2⟩:=Bu.1 h
 have:=(Kc.1 hc).1 m h1
 rw[this]at h2;cases h2
theorem mc{x:List Rl}{roots:List Rq}{n:Nat}{dec:List Cd}{m:Nd}(h:Dq dec c=some m):XF x roots n dec N c=[]:=by
 unfold XF;rw[AI];intro hc
 have:=(Kc.1 hc).2
 rw[this]at h;cases h
theorem AdP(out:List (List Sl))(p:ByteArray)(n0:Nd)(l:List Nd)(cs:List Cd)(hL:zR x roots C A Y yl M n ob dec p n0 l cs)(Gw:vO (vH roots C A yl (ob true) dec out) Y)(IR:A6 Tryz.prog 64 [.ref 1000 0] (Af (Ie roots C A JT dec []) Ae) fun r h'=>r=.tup [vs p,sl AU (n0::l)]/\h'=Af (Ie roots C A JT dec []) Ae)(hC1:∀a,(Value.string p,a)∈C->a=sl At cs)(tf:¬∀a,(Value.string p,a)∉C)(pU:CQ x roots (n+1) dec=LL (XF x roots n dec (n0::l)) cs cs.length)(hM:out.length<=M) :
  FZ Tryz.prog Y 63 (HU yl) (Af (vH roots C A yl (ob true) dec out) Ae) (VQ roots C A yl M ob dec (out++PR (CQ x roots (n+1) dec))):=by
 obtain⟨hdl,hcl,hnl,hnq,hcr,hcs_,hkey,ih⟩:=hL;have hdl:dec.length<=256:=hdl;have hcl:cs.length<=256:=hcl;refine PX (l:=yl) (cxv ⟨[8],[],[],[],[],[],[],[],[(63,3),(71,3)],[],[1,2,4,6,8,9,10,11,12,13,14,15,16,17]⟩ yl Y) fh fh rfl Bz hm rfl Tryz.func63 aa3 rfl (Nz rfl) aa3 rfl rfl Gw (cU [(0,.ref 1005 0),(1,.cptr [.v (.func (.yield yl) #[] #[])]),(2,.ref 1006 0)] [(1000,.cells (PS roots C A JT dec 0)),(1001,.tok 6 0),(1002,.tok 1 0),(1003,.map Eh []),(1004,.arr 1 []),(1005,.cells [.ref 1000 0]),(1006,.cells [.clo 63 [.ref 1005 0,.cptr [.v (.func (.yield yl) #[] #[])],.ref 1006 0]]),(1007,.cells [.slice (.id 1008 1) (out.map Dd)]),(1008,.tok 1 out.length),(1009,.raw yl (ob true))] Z3 Z10 (Xi (.gen Vv 0) (Yi rfl (A6.imp IR ?_))));intro v1 g1 q1;have cG:=q1.1;have cH:=q1.2;subst cG;subst cH;refine cU [(0,.ref 1005 0),(1,.cptr [.v (.func (.yield yl) #[] #[])]),(2,.ref 1006 0),(4,vs p),(5,sl AU (n0::l))] [(1000,.cells (PS roots C A JT dec 0)),(1001,.tok 6 0),(1002,.tok 1 0),(1003,.map Eh []),(1004,.arr 1 []),(1005,.cells [.ref 1000 0]),(1006,.cells [.clo 63 [.ref 1005 0,.cptr [.v (.func (.yield yl) #[] #[])],.ref 1006 0]]),(1007,.cells [.slice (.id 1008 1) (out.map Dd)]),(1008,.tok 1 out.length),(1009,.raw yl (ob true))] Z5 Z10 (Yi (fun h2=>?_) (fun h2=>?_))
 .have h2:(((n0::l).map AU).length:Int)=(0:Int):=h2;exact absurd h2 (by simp;omega)
 have h2:¬((((n0::l).map AU).length:Int)=(0:Int)):=h2;refine cU [(0,.ref 1005 0),(2,.ref 1006 0),(4,vs p),(5,sl AU (n0::l))] [(1000,.cells (PS roots C A JT dec 0)),(1001,.tok 6 0),(1002,.tok 1 0),(1003,.map Eh []),(1004,.arr 1 []),(1005,.cells [.ref 1000 0]),(1006,.cells [.clo 63 [.ref 1005 0,.cptr [.v (.func (.yield yl) #[] #[])],.ref 1006 0]]),(1007,.cells [.slice (.id 1008 1) (out.map Dd)]),(1008,.tok 1 out.length),(1009,.raw yl (ob true))] Z4 Z10 (Yi (fun a ha=>?_) (fun Me=>?_))
 .have ea:=hC1 a ha;subst ea;refine Xi {q:Nat×List (List Sl) // q.1<=cs.length/\q.2=out++PR (LL (XF x roots n dec (n0::l)) cs q.1)/\q.2.length<=M} (Xi (fun q=>⟨[(0,.ref 1005 0),(2,.ref 1006 0),(4,vs p),(5,sl AU (n0::l)),(37,sl At cs),(38,vi (cs.map At).length),(39,vi q.1.1)],[(1000,.cells (PS roots C A JT dec 0)),(1001,.tok 6 0),(1002,.tok 1 0),(1003,.map Eh []),(1004,.arr 1 []),(1005,.cells [.ref 1000 0]),(1006,.cells [.clo 63 [.ref 1005 0,.cptr [.v (.func (.yield yl) #[] #[])],.ref 1006 0]]),(1007,.cells [.slice (.id 1008 1) (q.1.2.map Dd)]),(1008,.tok 1 q.1.2.length),(1009,.raw yl (ob true))],Ae⟩) (Xi (fun q=>cs.length-q.1.1) (Yi (Xi ⟨(0,out),Ap _,by rw[WH];simp,hM⟩ ?_) ?_)))
  .exact⟨Z7,Z10,Fh,Bg aa3⟩
  intro⟨⟨i,o⟩,j1,j2,j3⟩;have j1:i<=cs.length:=j1;have j2:o=out++PR (LL (XF x roots n dec (n0::l)) cs i):=j2;have j3:o.length<=M:=j3;refine Yi (fun h3=>?_) (fun h3=>?_)
  .have h3:(i:Int)<((cs.map At).length:Int):=h3;have n3:i<cs.length:=by have q:=h3;rw[Lm]at q;omega
   have g3:cs[i]?=some cs[i]:=Ge n3;refine cU [(0,.ref 1005 0),(2,.ref 1006 0),(4,vs p),(5,sl AU (n0::l)),(37,sl At cs),(38,vi (cs.map At).length),(39,vi i)] [(1000,.cells (PS roots C A JT dec 0)),(1001,.tok 6 0),(1002,.tok 1 0),(1003,.map Eh []),(1004,.arr 1 []),(1005,.cells [.ref 1000 0]),(1006,.cells [.clo 63 (HU yl)]),(1007,.cells [.slice (.id 1008 1) (o.map Dd)]),(1008,.tok 1 o.length),(1009,.raw yl (ob true))] Z7 Z10 (Xi (At cs[i]) (Yi (Yi (Nn i) (Bk g3)) (Yi rfl (yN (yN (cU [(0,.ref 1005 0),(2,.ref 1006 0),(4,vs p),(5,sl AU (n0::l)),(8,.ref 8 0),(37,sl At cs),(38,vi (cs.map At).length),(39,vi i)] [(8,.ro (At cs[i])),(1000,.cells (PS roots C A JT dec 0)),(1001,.tok 6 0),(1002,.tok 1 0),(1003,.map Eh []),(1004,.arr 1 []),(1005,.cells [.ref 1000 0]),(1006,.cells [.clo 63 (HU yl)]),(1007,.cells [.slice (.id 1008 1) (o.map Dd)]),(1008,.tok 1 o.length),(1009,.raw yl (ob true))] Z8 Z11 ?_))))))
   have pJ:=s66 (fF:=67) (caps:=[.cptr (At cs[i])]) (fun c hc=>by obtain rfl:=AD.1 hc;intro h;rfl) (n0::l) (fun n=>!has n.rq.set cs[i].place) (fun n hn=>s67 n cs[i] (hnq n hn)) hnl;refine AA (Bt ((n0::l).any fun n=>!has n.rq.set cs[i].place)) (fun h4=>?_) (fun h4=>?_)
   .skip
    rw[h4]at pJ;refine Xi .pure (Xi _ (Yi pJ (Yi (Ii i aa0) ?_)));have Me:XF x roots n dec (n0::l) cs[i]=[]:=qk h4;refine Xi ⟨(i+1,o),DB n3,by rw[j2,fc n3 Me],j3⟩ ?_;exact⟨Dl cs.length i aa0,Z7,Z10,Fh,Bg aa3⟩
   skip
   rw[h4]at pJ;refine Xi .pure (Xi _ (Yi pJ (cU [(0,.ref 1005 0),(2,.ref 1006 0),(4,vs p),(5,sl AU (n0::l)),(8,.ref 8 0),(37,sl At cs),(38,vi (cs.map At).length),(39,vi i)] [(8,.ro (At cs[i])),(1000,.cells (PS roots C A JT dec 0)),(1001,.tok 6 0),(1002,.tok 1 0),(1003,.map Eh []),(1004,.arr 1 []),(1005,.cells [.ref 1000 0]),(1006,.cells [.clo 63 (HU yl)]),(1007,.cells [.slice (.id 1008 1) (o.map Dd)]),(1008,.tok 1 o.length),(1009,.raw yl (ob true))] Z8 Z11 (yN ?_))));have Pg:=s69 roots C A JT dec [] cs[i] aa0 (hcr i n3) (hcs_ i n3);refine AA (XL (Dq dec cs[i])) (fun h6=>?_) (fun h6=>?_)
   .refine Al h6 (fun nc h6=>?_);have eW:oV (Dq dec cs[i])=.tup [.agg (AU nc),vb true]:=by rw[h6];rfl
    rw[eW]at Pg;refine Xi (.gen Vv 0) (Yi rfl (A6.imp Pg ?_));intro v7 g7 q7;have q7a:=q7.1;have q7b:=q7.2;subst q7a;subst q7b;refine yN (cU [(0,.ref 1005 0),(2,.ref 1006 0),(4,vs p),(5,sl AU (n0::l)),(8,.ref 8 0),(10,vb true),(37,sl At cs),(38,vi (cs.map At).length),(39,vi i)] [(8,.ro (At cs[i])),(1000,.cells (PS roots C A JT dec 0)),(1001,.tok 6 0),(1002,.tok 1 0),(1003,.map Eh []),(1004,.arr 1 []),(1005,.cells [.ref 1000 0]),(1006,.cells [.clo 63 (HU yl)]),(1007,.cells [.slice (.id 1008 1) (o.map Dd)]),(1008,.tok 1 o.length),(1009,.raw yl (ob true))] Z9 Z11 (Yi (Ii i aa0) ?_));have Me:XF x roots n dec (n0::l) cs[i]=[]:=mc h6;refine Xi ⟨(i+1,o),DB n3,by rw[j2,fc n3 Me],j3⟩ ?_;exact⟨Dl cs.length i aa0,Z7,Z10,Fh,Bg aa3⟩
   skip
   have eW:oV (Dq dec cs[i])=.tup [.agg [vs ⟨#[]⟩,nzA,vs ⟨#[]⟩,vi 0,vi 0],vb false]:=by rw[h6];rfl
   rw[eW]at Pg;refine Xi (.gen Vv 0) (Yi rfl (A6.imp Pg ?_));intro v9 g9 q9;have q9a:=q9.1;have q9b:=q9.2;subst q9a;subst q9b;refine yN (cU [(0,.ref 1005 0),(2,.ref 1006 0),(4,vs p),(5,sl AU (n0::l)),(8,.ref 8 0),(10,vb false),(37,sl At cs),(38,vi (cs.map At).length),(39,vi i)] [(8,.ro (At cs[i])),(1000,.cells (PS roots C A JT dec 0)),(1001,.tok 6 0),(1002,.tok 1 0),(1003,.map Eh []),(1004,.arr 1 []),(1005,.cells [.ref 1000 0]),(1006,.cells [.clo 63 (HU yl)]),(1007,.cells [.slice (.id 1008 1) (o.map Dd)]),(1008,.tok 1 o.length),(1009,.raw yl (ob true))] Z9 Z11 (cU [(0,.ref 1005 0),(2,.ref 1006 0),(4,vs p),(5,sl AU (n0::l)),(8,.ref 8 0),(37,sl At cs),(38,vi (cs.map At).length),(39,vi i)] [(8,.ro (At cs[i])),(1000,.cells (PS roots C A JT dec 0)),(1001,.tok 6 0),(1002,.tok 1 0),(1003,.map Eh []),(1004,.arr 1 []),(1005,.cells [.ref 1000 0]),(1006,.cells [.clo 63 (HU yl)]),(1007,.cells [.slice (.id 1008 1) (o.map Dd)]),(1008,.tok 1 o.length),(1009,.raw yl (ob true))] Z8 Z11 (Yi aa3 (cU [(0,.ref 1005 0),(2,.ref 1006 0),(4,vs p),(5,sl AU (n0::l)),(8,.ref 8 0),(11,sl At dec),(12,sl Ag (Au dec)),(37,sl At cs),(38,vi (cs.map At).length),(39,vi i)] [(8,.ro (At cs[i])),(1000,.cells (PS roots C A JT dec 0)),(1001,.tok 6 0),(1002,.tok 1 0),(1003,.map Eh []),(1004,.arr 1 []),(1005,.cells [.ref 1000 0]),(1006,.cells [.clo 63 (HU yl)]),(1007,.cells [.slice (.id 1008 1) (o.map Dd)]),(1008,.tok 1 o.length),(1009,.raw yl (ob true))] Z10 Z11 (Xi _ (Xi _ (Yi aa3 (Yi (uD dec (by unfold BL;omega)) (yN ?_)))))))));have U0:A7 10 [(At cs[i])]/\(dec.map At).length=(dec.map At).length/\((dec.map At).length+([(At cs[i])]:List (List AV)).length)*128<=140737488355328/\(dec.map At).length+([(At cs[i])]:List (List AV)).length<=9223372036854775807:=⟨⟨rfl,trivial⟩,rfl,(by simp only[Lm,BF,BX];omega),(by simp only[Lm,BF,BX];omega)⟩;refine Yi U0 (yN (Yi aa3 (cU [(0,.ref 1005 0),(2,.ref 1006 0),(4,vs p),(5,sl AU (n0::l)),(8,.ref 8 0),(11,sl At dec),(12,sl Ag (Au dec)),(37,sl At cs),(38,vi (cs.map At).length),(39,vi i)] [(8,.ro (At cs[i])),(1000,.cells [sl Ac roots,.cmap Cv C,.cmap Cv A,.slice (.id 1001 6) (([]:List Nf).map AG),.slice (.id 1002 1) (([]:List (List Tm)).map Aq),.mref 1003,vb JT.full,.slice (.id 16300 10) ((dec.map At)++[(At cs[i])]),sl Ag (Au dec),.msl 1004 0]),(1001,.tok 6 0),(1002,.tok 1 0),(1003,.map Eh []),(1004,.arr 1 []),(1005,.cells [.ref 1000 0]),(1006,.cells [.clo 63 [.ref 1005 0,.cptr [.v (.func (.yield yl) #[] #[])],.ref 1006 0]]),(1007,.cells [.slice (.id 1008 1) (o.map Dd)]),(1008,.tok 1 o.length),(1009,.raw yl (ob true)),(16300,.tok 10 ((dec.map At).length+([(At cs[i])]:List (List AV)).length))] Z10 Z12 (Xi _ (Xi _ (Yi aa3 (Yi (sT (Au dec) (by unfold BL Au;rw[Lm];omega)) (yN ?_))))))));have jR:A7 4 [[vs p,vi cs[i].rel.ver.a,vi cs[i].rel.ver.b,vi cs[i].rel.ver.c]]/\((Au dec).map Ag).length=((Au dec).map Ag).length/\(((Au dec).map Ag).length+([[vs p,vi cs[i].rel.ver.a,vi cs[i].rel.ver.b,vi cs[i].rel.ver.c]]:List (List AV)).length)*40<=140737488355328/\((Au dec).map Ag).length+([[vs p,vi cs[i].rel.ver.a,vi cs[i].rel.ver.b,vi cs[i].rel.ver.c]]:List (List AV)).length<=9223372036854775807:=⟨⟨rfl,trivial⟩,rfl,(by simp only[Lm,BF,BX];omega),(by simp only[Lm,BF,BX];omega)⟩;refine Yi jR (yN (Yi aa3 (cU [(0,.ref 1005 0),(2,.ref 1006 0),(4,vs p),(5,sl AU (n0::l)),(11,sl At dec),(12,sl Ag (Au dec)),(37,sl At cs),(38,vi (cs.map At).length),(39,vi i)] [(1000,.cells [sl Ac roots,.cmap Cv C,.cmap Cv A,.slice (.id 1001 6) (([]:List Nf).map AG),.slice (.id 1002 1) (([]:List (List Tm)).map Aq),.mref 1003,vb JT.full,.slice (.id 16300 10) ((dec++[cs[i]]).map At),.slice (.id 17100 4) ((Au (dec++[cs[i]])).map Ag),.msl 1004 0]),(1001,.tok 6 0),(1002,.tok 1 0),(1003,.map Eh []),(1004,.arr 1 []),(1005,.cells [.ref 1000 0]),(1006,.cells [.clo 63 [.ref 1005 0,.cptr [.v (.func (.yield yl) #[] #[])],.ref 1006 0]]),(1007,.cells [.slice (.id 1008 1) (o.map Dd)]),(1008,.tok 1 o.length),(1009,.raw yl (ob true)),(16300,.tok 10 ((dec++[cs[i]]).map At).length),(17100,.tok 4 ((Au (dec++[cs[i]])).map Ag).length)] Z9 ⟨⟨(show(.cells [sl Ac roots,.cmap Cv C,.cmap Cv A,.slice (.id 1001 6) (([]:List Nf).map AG),.slice (.id 1002 1) (([]:List (List Tm)).map Aq),.mref 1003,vb JT.full,.slice (.id 16300 10) ((dec.map At)++[(At cs[i])]),.slice (.id 17100 4) (((Au dec).map Ag)++[[vs p,vi cs[i].rel.ver.a,vi cs[i].rel.ver.b,vi cs[i].rel.ver.c]]),.msl 1004 0]:HO)=.cells [sl Ac roots,.cmap Cv C,.cmap Cv A,.slice (.id 1001 6) (([]:List Nf).map AG),.slice (.id 1002 1) (([]:List (List Tm)).map Aq),.mref 1003,vb JT.full,.slice (.id 16300 10) ((dec++[cs[i]]).map At),.slice (.id 17100 4) ((Au (dec++[cs[i]])).map Ag),.msl 1004 0] by rw[hkey i n3];simp),rfl⟩,Zr,Zr,Zr,Zr,Zr,Zr,Zr,Zr,Zr,⟨(show(.tok 10 ((dec.map At).length+([(At cs[i])]:List (List AV)).length):HO)=.tok 10 ((dec++[cs[i]]).map At).length by simp),rfl⟩,⟨(show(.tok 4 (((Au dec).map Ag).length+([[vs p,vi cs[i].rel.ver.a,vi cs[i].rel.ver.b,vi cs[i].rel.ver.c]]:List (List AV)).length):HO)=.tok 4 ((Au (dec++[cs[i]])).map Ag).length by rw[<-hkey i n3,Ay]),rfl⟩,Tv⟩ ?_)))
   have Gv:ZX dec (n0::l) cs[i]=true:=yr h4 h6;have jy:XF x roots n dec (n0::l) cs[i]=(CQ x roots n (dec++[cs[i]])):=by unfold XF;rw[AX Gv]
   have hup:LL (XF x roots n dec (n0::l)) cs (i+1)=LL (XF x roots n dec (n0::l)) cs i++(CQ x roots n (dec++[cs[i]])):=by rw[WG n3,jy]
   have pY:=ih i n3 Gv o j3;refine AA (El M (o++PR (CQ x roots n (dec++[cs[i]]))).length) (fun hb=>?_) (fun hb=>?_)
   .skip
    refine Xi (.geny fh 0) (Yi rfl (FZ.imp (FZ.pre pY (fun g w q=>q yl rfl rfl)) ?_));intro v12 g12 LB;have LB:=VQ.gt LB (Nat.not_le.2 hb);have cD:=LB.1;have cE:=LB.2;subst cD;subst cE;refine cU [(0,.ref 1005 0),(2,.ref 1006 0),(4,vs p),(5,sl AU (n0::l)),(11,sl At dec),(12,sl Ag (Au dec)),(13,vb false),(37,sl At cs),(38,vi (cs.map At).length),(39,vi i)] [(1000,.cells [sl Ac roots,.cmap Cv C,.cmap Cv A,.slice (.id 1001 6) (([]:List Nf).map AG),.slice (.id 1002 1) (([]:List (List Tm)).map Aq),.mref 1003,vb JT.full,sl At (dec++[cs[i]]),sl Ag (Au (dec++[cs[i]])),.msl 1004 0]),(1001,.tok 6 0),(1002,.tok 1 0),(1003,.map Eh []),(1004,.arr 1 []),(1005,.cells [.ref 1000 0]),(1006,.cells [.clo 63 [.ref 1005 0,.cptr [.v (.func (.yield yl) #[] #[])],.ref 1006 0]]),(1007,.cells [.slice (.id 1008 1) (((o++PR (CQ x roots n (dec++[cs[i]]))).take M).map Dd)]),(1008,.tok 1 ((o++PR (CQ x roots n (dec++[cs[i]]))).take M).length),(1009,.raw yl (ob false))] Z10 Z10 (yN (yN (Yi aa3 (cU [(0,.ref 1005 0),(2,.ref 1006 0),(4,vs p),(5,sl AU (n0::l)),(13,vb false),(37,sl At cs),(38,vi (cs.map At).length),(39,vi i)] [(1000,.cells (PS roots C A JT dec 0)),(1001,.tok 6 0),(1002,.tok 1 0),(1003,.map Eh []),(1004,.arr 1 []),(1005,.cells [.ref 1000 0]),(1006,.cells [.clo 63 [.ref 1005 0,.cptr [.v (.func (.yield yl) #[] #[])],.ref 1006 0]]),(1007,.cells [.slice (.id 1008 1) (((o++PR (CQ x roots n (dec++[cs[i]]))).take M).map Dd)]),(1008,.tok 1 ((o++PR (CQ x roots n (dec++[cs[i]]))).take M).length),(1009,.raw yl (ob false))] Z8 Z10 ?_))))
    have vw:=cX (XF x roots n dec (n0::l)) cs (i+1);exact VQ.of_gt (Nat.not_le.2 hb) (by rw[pU,vw,hup,j2];exact⟨PR (((cs.drop (i+1)).map (XF x roots n dec (n0::l))).flatten),by simp⟩)
   refine Xi (.geny fh 0) (Yi rfl (FZ.imp (FZ.pre pY (fun g w q=>q yl rfl rfl)) ?_));intro v12 g12 LB;have LB:=VQ.le LB hb;have cD:=LB.1;have cE:=LB.2;subst cD;subst cE;refine cU [(0,.ref 1005 0),(2,.ref 1006 0),(4,vs p),(5,sl AU (n0::l)),(11,sl At dec),(12,sl Ag (Au dec)),(13,vb true),(37,sl At cs),(38,vi (cs.map At).length),(39,vi i)] [(1000,.cells [sl Ac roots,.cmap Cv C,.cmap Cv A,.slice (.id 1001 6) (([]:List Nf).map AG),.slice (.id 1002 1) (([]:List (List Tm)).map Aq),.mref 1003,vb JT.full,sl At (dec++[cs[i]]),sl Ag (Au (dec++[cs[i]])),.msl 1004 0]),(1001,.tok 6 0),(1002,.tok 1 0),(1003,.map Eh []),(1004,.arr 1 []),(1005,.cells [.ref 1000 0]),(1006,.cells [.clo 63 [.ref 1005 0,.cptr [.v (.func (.yield yl) #[] #[])],.ref 1006 0]]),(1007,.cells [.slice (.id 1008 1) ((o++PR (CQ x roots n (dec++[cs[i]]))).map Dd)]),(1008,.tok 1 (o++PR (CQ x roots n (dec++[cs[i]]))).length),(1009,.raw yl (ob true))] Z10 Z10 (yN (yN (Yi aa3 (cU [(0,.ref 1005 0),(2,.ref 1006 0),(4,vs p),(5,sl AU (n0::l)),(13,vb true),(37,sl At cs),(38,vi (cs.map At).length),(39,vi i)] [(1000,.cells (PS roots C A JT dec 0)),(1001,.tok 6 0),(1002,.tok 1 0),(1003,.map Eh []),(1004,.arr 1 []),(1005,.cells [.ref 1000 0]),(1006,.cells [.clo 63 [.ref 1005 0,.cptr [.v (.func (.yield yl) #[] #[])],.ref 1006 0]]),(1007,.cells [.slice (.id 1008 1) ((o++PR (CQ x roots n (dec++[cs[i]]))).map Dd)]),(1008,.tok 1 (o++PR (CQ x roots n (dec++[cs[i]]))).length),(1009,.raw yl (ob true))] Z8 Z10 (Yi (Ii i aa0) (Xi ⟨(i+1,o++PR (CQ x roots n (dec++[cs[i]]))),DB n3,by rw[hup,j2];simp,hb⟩ ?_))))));exact⟨Dl cs.length i aa0,Z7,Z10,Fh,Bg aa3⟩
  have h3:¬((i:Int)<((cs.map At).length:Int)):=h3;have n3:¬i<cs.length:=by have q:=h3;rw[Lm]at q;omega
  have hj:i=cs.length:=by have q:=h3;rw[Lm]at q;omega
  have eo:o=out++PR (CQ x roots (n+1) dec):=by rw[j2,hj,<-pU]
  exact VQ.of_le eo j3
 exact absurd Me tf
theorem AdQ(out:List (List Sl))(p:ByteArray)(n0:Nd)(l:List Nd)(cs:List Cd)(hL:zR x roots C A Y yl M n ob dec p n0 l cs)(Gw:vO (vH roots C A yl (ob true) dec out) Y)(IR:A6 Tryz.prog 64 [.ref 1000 0] (Af (Ie roots C A JT dec []) Ae) fun r h'=>r=.tup [vs p,sl AU (n0::l)]/\h'=Af (Ie roots C A JT dec []) Ae)(pM:cs=[])(tf:∀a,(Value.string p,a)∉C)(pU:CQ x roots (n+1) dec=LL (XF x roots n dec (n0::l)) cs cs.length)(hM:out.length<=M) :
  FZ Tryz.prog Y 63 (HU yl) (Af (vH roots C A yl (ob true) dec out) Ae) (VQ roots C A yl M ob dec (out++PR (CQ x roots (n+1) dec))):=by
 obtain⟨hdl,hcl,hnl,hnq,hcr,hcs_,hkey,ih⟩:=hL;have hdl:dec.length<=256:=hdl;have hcl:cs.length<=256:=hcl;refine PX (l:=yl) (cxv (pC [8] [1,2,4,6,8,9,10,11,12,13,14,15,16,17]) yl Y) fh fh rfl Bz hm rfl Tryz.func63 aa3 rfl (Nz rfl) aa3 rfl rfl Gw (cU [(0,.ref 1005 0),(1,.cptr [.v (.func (.yield yl) #[] #[])]),(2,.ref 1006 0)] [(1000,.cells (PS roots C A JT dec 0)),(1001,.tok 6 0),(1002,.tok 1 0),(1003,.map Eh []),(1004,.arr 1 []),(1005,.cells [.ref 1000 0]),(1006,.cells [.clo 63 [.ref 1005 0,.cptr [.v (.func (.yield yl) #[] #[])],.ref 1006 0]]),(1007,.cells [.slice (.id 1008 1) (out.map Dd)]),(1008,.tok 1 out.length),(1009,.raw yl (ob true))] Z3 Z10 (Xi (.gen Vv 0) (Yi rfl (A6.imp IR ?_))));intro v1 g1 q1;have cG:=q1.1;have cH:=q1.2;subst cG;subst cH;refine cU [(0,.ref 1005 0),(1,.cptr [.v (.func (.yield yl) #[] #[])]),(2,.ref 1006 0),(4,vs p),(5,sl AU (n0::l))] [(1000,.cells (PS roots C A JT dec 0)),(1001,.tok 6 0),(1002,.tok 1 0),(1003,.map Eh []),(1004,.arr 1 []),(1005,.cells [.ref 1000 0]),(1006,.cells [.clo 63 [.ref 1005 0,.cptr [.v (.func (.yield yl) #[] #[])],.ref 1006 0]]),(1007,.cells [.slice (.id 1008 1) (out.map Dd)]),(1008,.tok 1 out.length),(1009,.raw yl (ob true))] Z5 Z10 (Yi (fun h2=>?_) (fun h2=>?_))
 .have h2:(((n0::l).map AU).length:Int)=(0:Int):=h2;exact absurd h2 (by simp;omega)
 have h2:¬((((n0::l).map AU).length:Int)=(0:Int)):=h2;refine cU [(0,.ref 1005 0),(2,.ref 1006 0),(4,vs p),(5,sl AU (n0::l))] [(1000,.cells (PS roots C A JT dec 0)),(1001,.tok 6 0),(1002,.tok 1 0),(1003,.map Eh []),(1004,.arr 1 []),(1005,.cells [.ref 1000 0]),(1006,.cells [.clo 63 [.ref 1005 0,.cptr [.v (.func (.yield yl) #[] #[])],.ref 1006 0]]),(1007,.cells [.slice (.id 1008 1) (out.map Dd)]),(1008,.tok 1 out.length),(1009,.raw yl (ob true))] Z4 Z10 (Yi (fun a ha=>?_) (fun Me=>?_))
 .exact absurd ha (tf a)
 refine Xi {q:Nat×List (List Sl) // q.1<=cs.length/\q.2=out++PR (LL (XF x roots n dec (n0::l)) cs q.1)/\q.2.length<=M} (Xi (fun q=>⟨[(0,.ref 1005 0),(2,.ref 1006 0),(4,vs p),(5,sl AU (n0::l)),(37,nzA),(38,vi 0),(39,vi q.1.1)],[(1000,.cells (PS roots C A JT dec 0)),(1001,.tok 6 0),(1002,.tok 1 0),(1003,.map Eh []),(1004,.arr 1 []),(1005,.cells [.ref 1000 0]),(1006,.cells [.clo 63 [.ref 1005 0,.cptr [.v (.func (.yield yl) #[] #[])],.ref 1006 0]]),(1007,.cells [.slice (.id 1008 1) (q.1.2.map Dd)]),(1008,.tok 1 q.1.2.length),(1009,.raw yl (ob true))],Ae⟩) (Xi (fun q=>cs.length-q.1.1) (Yi (Xi ⟨(0,out),Ap _,by rw[WH];simp,hM⟩ ?_) ?_)))
 .exact⟨Z7,Z10,Fh,Bg aa3⟩
 intro⟨⟨i,o⟩,j1,j2,j3⟩;have j1:i<=cs.length:=j1;have j2:o=out++PR (LL (XF x roots n dec (n0::l)) cs i):=j2;have j3:o.length<=M:=j3;refine Yi (fun h3=>?_) (fun h3=>?_)
 .have h3:(i:Int)<(0:Int):=h3;exact absurd h3 (by have q:=j1;rw[pM,BX]at q;omega)
 have h3:¬((i:Int)<(0:Int)):=h3;have hj:i=cs.length:=by have q:=j1;rw[pM,BX]at q;rw[pM,BX];omega
 have eo:o=out++PR (CQ x roots (n+1) dec):=by rw[j2,hj,<-pU]
 exact VQ.of_le eo j3
theorem AdR(out:List (List Sl))(p:ByteArray)(N:List Nd)(hN:N=[])(hdl:dec.length<=256)(hn:((Au dec).map (·.path)).Nodup)(Gw:vO (vH roots C A yl (ob true) dec out) Y)(IR:A6 Tryz.prog 64 [.ref 1000 0] (Af (Ie roots C A JT dec []) Ae) fun r h'=>r=.tup [vs p,sl AU N]/\h'=Af (Ie roots C A JT dec []) Ae)(jy:CQ x roots (n+1) dec=[dec])(hy:G6 Tryz.prog Y yl [sl Ag (C3 (Au dec))] (Af (vH roots C A yl (ob true) dec out) Ae) (VQ roots C A yl M ob dec (out++[C3 (Au dec)]))) :
  FZ Tryz.prog Y 63 (HU yl) (Af (vH roots C A yl (ob true) dec out) Ae) (VQ roots C A yl M ob dec (out++PR (CQ x roots (n+1) dec))):=by
 have Y4:BL (Au dec):=by unfold BL Au;rw[Lm];omega
 have Zc:(Au dec).length=((C3 (Au dec)).map Ag).length:=(LH (Au dec)).length_eq.symm.trans (Lm ..).symm;refine PX (l:=yl) (cxv ⟨[],[],[],[],[],[],[],[],[],[(200005,6)],[1,2,3,4,5,6,10,11,13,14,15,17]⟩ yl Y) fh fh rfl Bz hm rfl Tryz.func63 aa3 rfl (Nz rfl) aa3 rfl rfl Gw (cU [(0,.ref 1005 0),(1,.cptr [.v (.func (.yield yl) #[] #[])]),(2,.ref 1006 0)] [(1000,.cells (PS roots C A JT dec 0)),(1001,.tok 6 0),(1002,.tok 1 0),(1003,.map Eh []),(1004,.arr 1 []),(1005,.cells [.ref 1000 0]),(1006,.cells [.clo 63 [.ref 1005 0,.cptr [.v (.func (.yield yl) #[] #[])],.ref 1006 0]]),(1007,.cells [.slice (.id 1008 1) (out.map Dd)]),(1008,.tok 1 out.length),(1009,.raw yl (ob true))] Z3 Z10 (Xi (.gen Vv 0) (Yi rfl (A6.imp IR ?_))));intro v1 g1 q1;have cG:=q1.1;have cH:=q1.2;subst cG;subst cH;refine cU [(0,.ref 1005 0),(1,.cptr [.v (.func (.yield yl) #[] #[])]),(2,.ref 1006 0),(4,vs p),(5,sl AU N)] [(1000,.cells (PS roots C A JT dec 0)),(1001,.tok 6 0),(1002,.tok 1 0),(1003,.map Eh []),(1004,.arr 1 []),(1005,.cells [.ref 1000 0]),(1006,.cells [.clo 63 [.ref 1005 0,.cptr [.v (.func (.yield yl) #[] #[])],.ref 1006 0]]),(1007,.cells [.slice (.id 1008 1) (out.map Dd)]),(1008,.tok 1 out.length),(1009,.raw yl (ob true))] Z5 Z10 (Yi (fun h2=>?_) (fun h2=>?_))
 .have h2:((N.map AU).length:Int)=(0:Int):=h2;refine cU [(0,.ref 1005 0),(1,.cptr [.v (.func (.yield yl) #[] #[])])] [(1000,.cells (PS roots C A JT dec 0)),(1001,.tok 6 0),(1002,.tok 1 0),(1003,.map Eh []),(1004,.arr 1 []),(1005,.cells [.ref 1000 0]),(1006,.cells [.clo 63 [.ref 1005 0,.cptr [.v (.func (.yield yl) #[] #[])],.ref 1006 0]]),(1007,.cells [.slice (.id 1008 1) (out.map Dd)]),(1008,.tok 1 out.length),(1009,.raw yl (ob true))] Z2 Z10 (Xi (.gen [] 1) (Yi rfl (A6.imp (y0 (Au dec) Y4) ?_)));intro v3 g3 q3;have q3a:=q3.1;have q3b:=q3.2;subst q3a;subst q3b;refine cU [(1,.cptr [.v (.func (.yield yl) #[] #[])]),(6,.msl 12600 (Au dec).length)] [(1000,.cells (PS roots C A JT dec 0)),(1001,.tok 6 0),(1002,.tok 1 0),(1003,.map Eh []),(1004,.arr 1 []),(1005,.cells [.ref 1000 0]),(1006,.cells [.clo 63 [.ref 1005 0,.cptr [.v (.func (.yield yl) #[] #[])],.ref 1006 0]]),(1007,.cells [.slice (.id 1008 1) (out.map Dd)]),(1008,.tok 1 out.length),(1009,.raw yl (ob true)),(12600,.arr 4 ((Au dec).map Ag))] Z2 Z11 (Xi (.gen [(12600,1000)] 0) (Yi rfl (A6.imp (s47 65 Tryz.closure65 (enters_of Tryz.func65 aa3 rfl) (Au dec) Y4 hn) ?_)));intro v4 g4 q4;have yA:=q4.1;have yB:=q4.2;subst yA;subst yB;refine Yi (show(Au dec).length=((C3 (Au dec)).map Ag).length from Zc) (cU [(1,.cptr [.v (.func (.yield yl) #[] #[])]),(6,sl Ag (C3 (Au dec)))] [(1000,.cells (PS roots C A JT dec 0)),(1001,.tok 6 0),(1002,.tok 1 0),(1003,.map Eh []),(1004,.arr 1 []),(1005,.cells [.ref 1000 0]),(1006,.cells [.clo 63 [.ref 1005 0,.cptr [.v (.func (.yield yl) #[] #[])],.ref 1006 0]]),(1007,.cells [.slice (.id 1008 1) (out.map Dd)]),(1008,.tok 1 out.length),(1009,.raw yl (ob true))] Z2 Z10 (Xi (.gen fh 0) (Yi rfl (G6.imp (G6.pre hy (fun g w q=>q rfl rfl)) ?_))));intro v5 g5 q5;have q5a:=q5.1;have q5b:=q5.2;subst q5a;subst q5b;have eL:out++PR (CQ x roots (n+1) dec)=out++[C3 (Au dec)]:=by rw[jy];rfl
  exact eL▸Zr
 have h2:¬(((N.map AU).length:Int)=(0:Int)):=h2;exact absurd (by rw[hN];rfl) h2
end Go.Eng
