/- Lemmas 29. -/
import Derived.Test.YtjhkbdgingfbaaaGreatDoorHA28
set_option maxHeartbeats 16000000
namespace Go.Eng
open Go.Proofs
variable (x:List Rl)(ifs:List (List AV))(roots:List Rq)
abbrev qY:Qn:=⟨[2],[],[],[],[],[],[],[(50,(9,3,95,3))],[(44,0)],[(100016,1009)],[3,4,5,6,7,8,9,10,11,14,15,16]⟩
abbrev an0:An:=⟨false,[],[],[]⟩
def Jn:An:=if Du x roots=true/\(E6 x roots).ss.full=false then gm x roots else an0
def Jo:Int:=if Du x roots=true then if(E6 x roots).ss.full=true then 7 else 0 else 1
abbrev nZ:AV:=.tup [.agg (TV (Jn x roots)),vi (Jo x roots)]
theorem EY.an0{v:AV}:EY (.tup [.agg [vb false,nzA,nzA,nzA],v]) (.tup [.agg (TV an0),v]):=
 EY.tup ⟨EY.agg ⟨.refl _,.nil,.nil,.nil,trivial⟩,.refl _,trivial⟩
theorem Vf{x:List Rl}{roots:List Rq}(hx:∀r∈x,Jw r)(hr:∀q∈roots,NQ q)(h0:Bd x=0)(h1:B5 roots=0){L:List ByteArray}(hl:L.Perm (AW (yR x) [])){o:Kg}(ho:E6 x roots=o) :
  Bb Tryz.prog 123 [.ref 1000 0] (Ag (Iq roots (mC x) (L.map (kA x)) Kl [] []) Ad) (bM roots (mC x) (L.map (kA x)) o):=by
 rw[<-ho];exact Adm (lI hx hr h0 h1 hl) (x.length+1) (.nil x) (It.nil roots) ⟨⟨rfl,AE _⟩,Fz⟩ rfl (Nat.lt_succ_of_le (BC _ _)) rfl
theorem Ke{x:List Rl}{roots:List Rq}(h:Du x roots=true):Bd x=0/\B5 roots=0:=by
 unfold Du at h;rw[Af,Au,Au]at h;exact h
theorem rj(hx:∀r∈x,Jw r)(hr:∀q∈roots,NQ q)(hv:Du x roots=false):PC 74 [LO x ifs,sl A2 roots] (.tup [.agg (TV an0),vi 1]):=by
 have M3:=wa x ifs roots hx hr;rw[hv]at M3;refine Ps qY Tryz.func74 rfl (Nz rfl) (Yi ?_ ?_)
 .exact Nz rfl
 refine Xi .pure (Xi _ (Yi M3 (Yi ?_ ?_)))
 .exact Nz rfl
 refine Yi ?_ ?_
 .exact Nz rfl
 exact EY.an0
theorem nT(hx:∀r∈x,Jw r)(hr:∀q∈roots,NQ q)(hv:Du x roots=true)(h0:Bd x=0)(h1:B5 roots=0)(k:Nat)(infs:List Nf)(drv:List (List Tm))(dec:List Cd)(st:List (List Sk))(ho:E6 x roots=⟨k,false,⟨infs,drv,true⟩,dec,st⟩):PC 74 [LO x ifs,sl A2 roots] (.tup [.agg (TV an0),vi 7]):=by
 have M3:=wa x ifs roots hx hr;rw[hv]at M3;refine Ps qY Tryz.func74 rfl (Nz rfl) (Yi ?_ ?_)
 .exact Nz rfl
 refine Xi .pure (Xi _ (Yi M3 (cU [(1,sl A2 roots),(2,.ref 2 0),(4,.ref 4 0)] [(2,.ro (Ic x ifs)),(4,.cells [vb false,nzA,nzA,nzA])] Z3 Z2 (Yi ?_ ?_))))
 .exact Nz rfl
 refine Xi (.gen [] 5) (Yi rfl ((s29 x ifs roots hx h0).imp ?_));intro v g q;refine BA q (fun L q=>?_);have q1:=q.2.1;have q2:=q.2.2;have qp:=q.1;subst q1;subst q2;refine cU [(4,.ref 4 0),(6,.ref 11900 0)] [(4,.cells [vb false,nzA,nzA,nzA]),(11900,.cells [sl A2 roots,.cmap Ek (mC x),.cmap Ek (L.map (kA x)),.slice (.id 11901 6) [],.slice (.id 11902 1) [],.mref 11903,vb false,.slice .none [],.slice .none [],.msl 11904 0]),(11901,.tok 6 0),(11902,.tok 1 0),(11903,.map Em []),(11904,.arr 1 [])] Z2 Z6 (Xi (.gen [(11900,1000),(11901,1001),(11902,1002),(11903,1003),(11904,1004)] 1) (Yi rfl ((Vf hx hr h0 h1 qp ho).imp ?_)));intro v g q;have q1:=q.1;have q2:=q.2;subst q1;subst q2;refine cU [(4,.ref 4 0),(6,.ref 11900 0),(7,vi (k:Nat)),(8,vb false)] [(4,.cells [vb false,nzA,nzA,nzA]),(11900,.cells [sl A2 roots,.cmap Ek (mC x),.cmap Ek (L.map (kA x)),.slice (.id 11901 6) (infs.map CX),.slice (.id 11902 1) (drv.map CG),.mref 11903,vb true,sl AF dec,sl Ao (AG dec),.msl 12200 st.length]),(11901,.tok 6 infs.length),(11902,.tok 1 drv.length),(11903,.map Em (FO 0 infs)),(12200,.arr 1 (st.map Bi))] Z4 Z6 (Yi (fun _=>?_) (fun h=>by cases h));refine cU [(4,.ref 4 0)] [(4,.cells [vb false,nzA,nzA,nzA])] Z1 Z1 (Yi ?_ ?_)
 .exact Nz rfl
 refine Yi ?_ ?_
 .exact Nz rfl
 exact EY.an0
theorem uU(hx:∀r∈x,Jw r)(hr:∀q∈roots,NQ q)(hv:Du x roots=true)(h0:Bd x=0)(h1:B5 roots=0)(k:Nat)(infs:List Nf)(drv:List (List Tm))(dec:List Cd)(st:List (List Sk))(ho:E6 x roots=⟨k,false,⟨infs,drv,false⟩,dec,st⟩)(hk:k<infs.length)(hl:infs.length<=65536):PC 74 [LO x ifs,sl A2 roots] (.tup [.agg (TV ⟨false,[],infs.take (k+1),[]⟩),vi 0]):=by
 have M3:=wa x ifs roots hx hr;rw[hv]at M3;refine Ps qY Tryz.func74 rfl (Nz rfl) (Yi ?_ ?_)
 .exact Nz rfl
 refine Xi .pure (Xi _ (Yi M3 (cU [(1,sl A2 roots),(2,.ref 2 0),(4,.ref 4 0)] [(2,.ro (Ic x ifs)),(4,.cells [vb false,nzA,nzA,nzA])] Z3 Z2 (Yi ?_ ?_))))
 .exact Nz rfl
 refine Xi (.gen [] 5) (Yi rfl ((s29 x ifs roots hx h0).imp ?_));intro v g q;refine BA q (fun L q=>?_);have q1:=q.2.1;have q2:=q.2.2;have qp:=q.1;subst q1;subst q2;refine cU [(4,.ref 4 0),(6,.ref 11900 0)] [(4,.cells [vb false,nzA,nzA,nzA]),(11900,.cells [sl A2 roots,.cmap Ek (mC x),.cmap Ek (L.map (kA x)),.slice (.id 11901 6) [],.slice (.id 11902 1) [],.mref 11903,vb false,.slice .none [],.slice .none [],.msl 11904 0]),(11901,.tok 6 0),(11902,.tok 1 0),(11903,.map Em []),(11904,.arr 1 [])] Z2 Z6 (Xi (.gen [(11900,1000),(11901,1001),(11902,1002),(11903,1003),(11904,1004)] 1) (Yi rfl ((Vf hx hr h0 h1 qp ho).imp ?_)));intro v g q;have q1:=q.1;have q2:=q.2;subst q1;subst q2;refine cU [(4,.ref 4 0),(6,.ref 11900 0),(7,vi (k:Nat)),(8,vb false)] [(4,.cells [vb false,nzA,nzA,nzA]),(11900,.cells [sl A2 roots,.cmap Ek (mC x),.cmap Ek (L.map (kA x)),.slice (.id 11901 6) (infs.map CX),.slice (.id 11902 1) (drv.map CG),.mref 11903,vb false,sl AF dec,sl Ao (AG dec),.msl 12200 st.length]),(11901,.tok 6 infs.length),(11902,.tok 1 drv.length),(11903,.map Em (FO 0 infs)),(12200,.arr 1 (st.map Bi))] Z4 Z6 (Yi (fun h=>by cases h) (fun _=>?_));refine cU [(4,.ref 4 0),(6,.ref 11900 0),(7,vi (k:Nat)),(8,vb false)] [(4,.cells [vb false,nzA,nzA,nzA]),(11900,.cells [sl A2 roots,.cmap Ek (mC x),.cmap Ek (L.map (kA x)),.slice (.id 11901 6) (infs.map CX),.slice (.id 11902 1) (drv.map CG),.mref 11903,vb false,sl AF dec,sl Ao (AG dec),.msl 12200 st.length]),(11901,.tok 6 infs.length),(11902,.tok 1 drv.length),(11903,.map Em (FO 0 infs)),(12200,.arr 1 (st.map Bi))] Z4 Z6 (cU [(4,.ref 4 0),(6,.ref 11900 0),(7,vi (k:Nat))] [(4,.cells [vb false,nzA,nzA,nzA]),(11900,.cells [sl A2 roots,.cmap Ek (mC x),.cmap Ek (L.map (kA x)),.slice (.id 11901 6) (infs.map CX),.slice (.id 11902 1) (drv.map CG),.mref 11903,vb false,sl AF dec,sl Ao (AG dec),.msl 12200 st.length]),(11901,.tok 6 infs.length),(11902,.tok 1 drv.length),(11903,.map Em (FO 0 infs)),(12200,.arr 1 (st.map Bi))] Z3 Z6 (Yi (Ii k ch) ?_));have el:(infs.map CX).length=infs.length:=Lm ..;refine Yi ⟨By _,by show(0:Int)<=(k:Int)+1;omega,by show(k:Int)+1<=((infs.map CX).length:Int);rw[el];omega⟩ ?_;refine Yi (fun cs hcs=>by obtain⟨i,_,rfl⟩:=Ak.1 hcs;rfl) (Yi ?_ ?_)
 .exact Nz rfl
 refine Yi ?_ ?_
 .exact Nz rfl
 have et:((infs.map CX).take ((k:Int)+1).toNat).drop (0:Int).toNat=(infs.take (k+1)).map CX:=by
  rw[show((k:Int)+1).toNat=k+1 by omega];simp
 exact EY.tup ⟨EY.agg ⟨.refl _,.nil,.of_eq (show AV.slice .none (((infs.map CX).take ((k:Int)+1).toNat).drop (0:Int).toNat)=_ by rw[et]),.nil,trivial⟩,.refl _,trivial⟩
theorem WB(y:Sl):∀l:List Sl,(VR y l).Perm (y::l)
 | []=>.refl _
 |z::l=>by
  unfold VR;split
  .exact .refl _
  .exact((WB y l).cons z).trans (List.Perm.swap y z l)
theorem Mk:∀l:List Sl,(DO l).Perm l
 | []=>.refl _
 |y::l=>(WB y _).trans ((Mk l).cons y)
theorem ZJ{b:Nat}:∀{st:List (List Sk)},(∀s∈st,s.length<=b)->st.flatten.length<=b*st.length
 | [],_=>by simp
 |s::st,h=>by
  rw[Bu,Ac,Al,Nat.mul_succ]
  have:=h s (Ab ..)
  have:=ZJ (st:=st) fun t ht=>h t (Ae _ ht)
  omega
theorem nX{st:List (List Sk)}(h:st.length<=256)(hs:∀s∈st,s.length<=256)(i:Nat):((st.take i).flatten).length<=65536:=by
 have h1:=ZJ (b:=256) (st:=st.take i) fun s Y2=>hs s (DG Y2)
 have:(st.take i).length<=256:=by rw[AA];omega
 omega
theorem rk(hx:∀r∈x,Jw r)(hr:∀q∈roots,NQ q)(hv:Du x roots=true)(h0:Bd x=0)(h1:B5 roots=0)(k:Nat)(infs:List Nf)(drv:List (List Tm))(dec:List Cd)(st:List (List Sk))(ho:E6 x roots=⟨k,true,⟨infs,drv,false⟩,dec,st⟩)(hd:dec.length<=256)(hn:((AG dec).map (·.path)).Nodup)(Il:st.length<=256)(hsk:∀s∈st,s.length<=256):PC 74 [LO x ifs,sl A2 roots] (.tup [.agg (TV ⟨true,DO (AG dec),infs,st.flatten⟩),vi 0]):=by
 have M3:=wa x ifs roots hx hr;rw[hv]at M3;refine Ps qY Tryz.func74 rfl (Nz rfl) (Yi ?_ ?_)
 .exact Nz rfl
 refine Xi .pure (Xi _ (Yi M3 (cU [(1,sl A2 roots),(2,.ref 2 0),(4,.ref 4 0)] [(2,.ro (Ic x ifs)),(4,.cells [vb false,nzA,nzA,nzA])] Z3 Z2 (Yi ?_ ?_))))
 .exact Nz rfl
 refine Xi (.gen [] 5) (Yi rfl ((s29 x ifs roots hx h0).imp ?_));intro v g q;refine BA q (fun L q=>?_);have q1:=q.2.1;have q2:=q.2.2;have qp:=q.1;subst q1;subst q2;refine cU [(4,.ref 4 0),(6,.ref 11900 0)] [(4,.cells [vb false,nzA,nzA,nzA]),(11900,.cells [sl A2 roots,.cmap Ek (mC x),.cmap Ek (L.map (kA x)),.slice (.id 11901 6) [],.slice (.id 11902 1) [],.mref 11903,vb false,.slice .none [],.slice .none [],.msl 11904 0]),(11901,.tok 6 0),(11902,.tok 1 0),(11903,.map Em []),(11904,.arr 1 [])] Z2 Z6 (Xi (.gen [(11900,1000),(11901,1001),(11902,1002),(11903,1003),(11904,1004)] 1) (Yi rfl ((Vf hx hr h0 h1 qp ho).imp ?_)));intro v g q;have q1:=q.1;have q2:=q.2;subst q1;subst q2;refine cU [(4,.ref 4 0),(6,.ref 11900 0),(7,vi (k:Nat)),(8,vb true)] [(4,.cells [vb false,nzA,nzA,nzA]),(11900,.cells [sl A2 roots,.cmap Ek (mC x),.cmap Ek (L.map (kA x)),.slice (.id 11901 6) (infs.map CX),.slice (.id 11902 1) (drv.map CG),.mref 11903,vb false,sl AF dec,sl Ao (AG dec),.msl 12200 st.length]),(11901,.tok 6 infs.length),(11902,.tok 1 drv.length),(11903,.map Em (FO 0 infs)),(12200,.arr 1 (st.map Bi))] Z4 Z6 (Yi (fun h=>by cases h) (fun _=>?_));refine cU [(4,.ref 4 0),(6,.ref 11900 0),(8,vb true)] [(4,.cells [vb false,nzA,nzA,nzA]),(11900,.cells [sl A2 roots,.cmap Ek (mC x),.cmap Ek (L.map (kA x)),.slice (.id 11901 6) (infs.map CX),.slice (.id 11902 1) (drv.map CG),.mref 11903,vb false,sl AF dec,sl Ao (AG dec),.msl 12200 st.length]),(11901,.tok 6 infs.length),(11902,.tok 1 drv.length),(11903,.map Em (FO 0 infs)),(12200,.arr 1 (st.map Bi))] Z3 Z6 (cU [(4,.ref 4 0),(6,.ref 11900 0)] [(4,.cells [vb false,nzA,nzA,nzA]),(11900,.cells [sl A2 roots,.cmap Ek (mC x),.cmap Ek (L.map (kA x)),.slice (.id 11901 6) (infs.map CX),.slice (.id 11902 1) (drv.map CG),.mref 11903,vb false,sl AF dec,sl Ao (AG dec),.msl 12200 st.length]),(11901,.tok 6 infs.length),(11902,.tok 1 drv.length),(11903,.map Em (FO 0 infs)),(12200,.arr 1 (st.map Bi))] Z2 Z6 ?_)
 have vF:(AG dec).length<=256:=by rw[Lm];exact hd
 have Z0:Cw (AG dec):=A9 vF Cl;refine Xi (AG dec).length (Xi 4 (Xi ((AG dec).map Ao) (Yi rfl (Yi (zf (AG dec) Z0) (Yi ?_ ?_)))))
 .exact Nz rfl
 refine Yi aa0 (cU [(4,.ref 4 0),(6,.ref 11900 0),(9,.ref 9 0)] [(4,.cells [vb false,nzA,nzA,nzA]),(9,.cells [vb true,.msl 14400 (AG dec).length,.slice (.id 11901 6) (infs.map CX),nzA]),(11900,.cells [sl A2 roots,.cmap Ek (mC x),.cmap Ek (L.map (kA x)),.slice (.id 11901 6) (infs.map CX),.slice (.id 11902 1) (drv.map CG),.mref 11903,vb false,sl AF dec,sl Ao (AG dec),.msl 12200 st.length]),(11901,.tok 6 infs.length),(11902,.tok 1 drv.length),(11903,.map Em (FO 0 infs)),(12200,.arr 1 (st.map Bi)),(14400,.arr 4 ((AG dec).map Ao))] Z3 Z8 (Xi (.gen [(14400,1000)] 0) (Yi rfl ((s47 125 Tryz.closure125 (enters_of Tryz.func125 aa0 rfl) (AG dec) Z0 hn).imp ?_))));intro v g q;have q1:=q.1;have q2:=q.2;subst q1;subst q2;refine cU [(4,.ref 4 0),(6,.ref 11900 0),(9,.ref 9 0)] [(4,.cells [vb false,nzA,nzA,nzA]),(9,.cells [vb true,.msl 14400 (AG dec).length,.slice (.id 11901 6) (infs.map CX),.slice (.id 95 3) []]),(95,.tok 3 0),(11900,.cells [sl A2 roots,.cmap Ek (mC x),.cmap Ek (L.map (kA x)),.slice (.id 11901 6) (infs.map CX),.slice (.id 11902 1) (drv.map CG),.mref 11903,vb false,sl AF dec,sl Ao (AG dec),.msl 12200 st.length]),(11901,.tok 6 infs.length),(11902,.tok 1 drv.length),(11903,.map Em (FO 0 infs)),(12200,.arr 1 (st.map Bi)),(14400,.arr 4 ((DO (AG dec)).map Ao))] Z3 Z9 (Xi {i:Nat // i<=st.length} (Xi (fun i=>⟨[(4,.ref 4 0),(6,.ref 11900 0),(9,.ref 9 0),(56,.msl 12200 st.length),(57,vi (st.length:Nat)),(58,vi i.1)],[(4,.cells [vb false,nzA,nzA,nzA]),(9,.cells [vb true,.msl 14400 (AG dec).length,.slice (.id 11901 6) (infs.map CX),.slice (.id 95 3) ((st.take i.1).flatten.map Cy)]),(95,.tok 3 ((st.take i.1).flatten.map Cy).length),(11900,.cells [sl A2 roots,.cmap Ek (mC x),.cmap Ek (L.map (kA x)),.slice (.id 11901 6) (infs.map CX),.slice (.id 11902 1) (drv.map CG),.mref 11903,vb false,sl AF dec,sl Ao (AG dec),.msl 12200 st.length]),(11901,.tok 6 infs.length),(11902,.tok 1 drv.length),(11903,.map Em (FO 0 infs)),(12200,.arr 1 (st.map Bi)),(14400,.arr 4 ((DO (AG dec)).map Ao))],Ad⟩) (Xi (fun i=>st.length-i.1) (Yi (Xi ⟨0,AE _⟩ ?_) ?_))))
 .exact⟨Z6,Z9,Fh,Tv⟩
 intro⟨i,i1⟩;refine Yi ?_ ?_
 .intro h;have h:(i:Int)<(st.length:Nat):=h;have h:i<st.length:=by omega
  have hg:st[i]?=some st[i]:=Ge h;have Ky:st.take (i+1)=st.take i++[st[i]]:=by rw[AZ,hg];rfl
  refine Yi (Yi (Nn i) (by show(i:Int)<(st.length:Nat);omega)) (Yi (by rw[Lm]) (Xi (Bi st[i]) (Yi (by show(st.map Bi)[((i:Nat):Int).toNat]?=_;rw[BE,Aw,hg];rfl) ?_)));refine cU [(4,.ref 4 0),(6,.ref 11900 0),(9,.ref 9 0),(11,sl Cy st[i]),(56,.msl 12200 st.length),(57,vi (st.length:Nat)),(58,vi i)] [(4,.cells [vb false,nzA,nzA,nzA]),(9,.cells [vb true,.msl 14400 (AG dec).length,.slice (.id 11901 6) (infs.map CX),.slice (.id 95 3) ((st.take i).flatten.map Cy)]),(95,.tok 3 ((st.take i).flatten.map Cy).length),(11900,.cells [sl A2 roots,.cmap Ek (mC x),.cmap Ek (L.map (kA x)),.slice (.id 11901 6) (infs.map CX),.slice (.id 11902 1) (drv.map CG),.mref 11903,vb false,sl AF dec,sl Ao (AG dec),.msl 12200 st.length]),(11901,.tok 6 infs.length),(11902,.tok 1 drv.length),(11903,.map Em (FO 0 infs)),(12200,.arr 1 (st.map Bi)),(14400,.arr 4 ((DO (AG dec)).map Ao))] Z7 Z9 ?_
  have hfl:((st.take i).flatten).length<=65536/\st[i].length<=256:=⟨nX Il hsk i,hsk _ (Aq _)⟩;have GA:CR 3 (st[i].map Cy)/\((st.take i).flatten.map Cy).length=((st.take i).flatten.map Cy).length/\(((st.take i).flatten.map Cy).length+(st[i].map Cy).length)*32<=140737488355328/\((st.take i).flatten.map Cy).length+(st[i].map Cy).length<=9223372036854775807:=by
   refine⟨Fj (enc:=Cy) (n:=3) (fun _=>rfl) _,rfl,?_,?_⟩<;>simp only[Lm]<;>omega
  refine Yi GA (Yi ?_ ?_)
  .exact Nz rfl
  have ef:((st.take i).flatten.map Cy)++st[i].map Cy=((st.take (i+1)).flatten.map Cy):=by rw[Ky,Cs,Az];simp
  have en:((st.take i).flatten.map Cy).length+(st[i].map Cy).length=((st.take (i+1)).flatten.map Cy).length:=by rw[<-ef,Ac]
  refine cU [(4,.ref 4 0),(6,.ref 11900 0),(9,.ref 9 0),(56,.msl 12200 st.length),(57,vi (st.length:Nat)),(58,vi i)] [(4,.cells [vb false,nzA,nzA,nzA]),(9,.cells [vb true,.msl 14400 (AG dec).length,.slice (.id 11901 6) (infs.map CX),.slice (.id 95 3) ((st.take (i+1)).flatten.map Cy)]),(95,.tok 3 ((st.take (i+1)).flatten.map Cy).length),(11900,.cells [sl A2 roots,.cmap Ek (mC x),.cmap Ek (L.map (kA x)),.slice (.id 11901 6) (infs.map CX),.slice (.id 11902 1) (drv.map CG),.mref 11903,vb false,sl AF dec,sl Ao (AG dec),.msl 12200 st.length]),(11901,.tok 6 infs.length),(11902,.tok 1 drv.length),(11903,.map Em (FO 0 infs)),(12200,.arr 1 (st.map Bi)),(14400,.arr 4 ((DO (AG dec)).map Ao))] Z6 ⟨Zr,⟨Aa (fun z=>HO.cells [vb true,.msl 14400 (AG dec).length,.slice (.id 11901 6) (infs.map CX),.slice (.id 95 3) z]) ef,rfl⟩,⟨Aa (HO.tok 3) en,rfl⟩,Zr,Zr,Zr,Zr,Zr,Zr,Tv⟩ (Yi (Ii i ch) (Xi ⟨i+1,by omega⟩ ?_));exact⟨Dl st.length i ch,Z6,Z9,Fh,Tv⟩
 .intro h;have h:¬(i:Int)<(st.length:Nat):=h;have et:st.take i=st:=AB ch;have Vw:(AG dec).length=((DO (AG dec)).map Ao).length:=(Mk (AG dec)).length_eq.symm.trans (Lm ..).symm;refine Yi Vw (cU [(4,.ref 4 0),(9,.ref 9 0)] [(4,.cells [vb false,nzA,nzA,nzA]),(9,.cells [vb true,.slice (.id 14400 4) ((DO (AG dec)).map Ao),.slice (.id 11901 6) (infs.map CX),.slice (.id 95 3) (st.flatten.map Cy)]),(95,.tok 3 (st.flatten.map Cy).length),(11901,.tok 6 infs.length),(14400,.tok 4 ((DO (AG dec)).map Ao).length)] Z2 ⟨Zr,⟨Aa (fun z:List (List Sk)=>HO.cells [vb true,.slice (.id 14400 4) ((DO (AG dec)).map Ao),.slice (.id 11901 6) (infs.map CX),.slice (.id 95 3) (z.flatten.map Cy)]) et,rfl⟩,⟨Aa (fun z:List (List Sk)=>HO.tok 3 (z.flatten.map Cy).length) et,rfl⟩,Zr,Zr,Tv⟩ (Yi ?_ ?_))
  .exact Nz rfl
  refine Yi ?_ ?_
  .exact Nz rfl
  refine Yi ?_ ?_
  .exact Nz rfl
  exact .refl _
theorem Ru{s:SS}{b:List Cd}{p:ByteArray}{needs:List Nd}:∀{cs:List Cd} {sk:List Sk},Ht s b p needs cs sk->sk.length<=cs.length
 | [],sk,h=>by
  have h:sk=[]:=h;rw[h];exact Ai _
 |c::cs,sk,h=>by
  have h:if(needs.all fun n=>has n.rq.set c.place)=true then _ else _:=h
  by_cases hc:(needs.all fun n=>has n.rq.set c.place)=true
  .rw[As hc]at h;obtain⟨k,rest,rfl,_,h3⟩:=h
   have:=Ru h3
   simp only[Al];omega
  .rw[Ah hc]at h
   have:=Ru h
   simp only[Al];omega
theorem Wj{x:List Rl}{roots:List Rq}{s:SS}:∀{t:List Cd} {sl:List (List Sk)} {b:List Cd},Tp x roots s b t sl->sl.length=t.length/\∀k∈sl,k.length<=x.length
 | [],[],_,_=>⟨rfl,fun _ h=>by cases h⟩
 | [],_::_,_,h=>h.elim
 |_::_,[],_,h=>h.elim
 |c::t,sk::sl,b,⟨⟨p,needs,pre,post,hs⟩,h⟩=>by
  obtain⟨h1,h2⟩:=Wj h;refine⟨by simp[h1],fun k hk=>?_⟩;rcases Ay.1 hk with rfl | hk
  .have e1:=Ru hs.skips;have e2:=QA x p;rw[hs.cands,Ac]at e2;omega
  .exact h2 k hk
theorem s21(hx:∀r∈x,Jw r)(hr:∀q∈roots,NQ q):PC 74 [LO x ifs,sl A2 roots] (nZ x roots):=by
 unfold nZ Jn Jo;cases hv:Du x roots with
 |false=>simpa using rj x ifs roots hx hr hv
 |true=>
  obtain⟨h0,h1⟩:=Ke hv;have hR:=NO h0 h1;have cP:=(M6 h0).1;have hA:gm x roots=if(E6 x roots).found=true then⟨true,DO (AG (E6 x roots).dec),(E6 x roots).ss.infs,(E6 x roots).stack.flatten⟩else⟨false,[],(E6 x roots).ss.infs.take ((E6 x roots).res+1),[]⟩:=rfl
  rw[hA];generalize ho:E6 x roots=o at hR⊢;obtain⟨k,b,⟨infs,drv,full⟩,dec,st⟩:=o;have hl:infs.length<=65536:=hR.der.len;have hdl:drv.length=infs.length:=hR.der.dlen;cases b with
  |false=>
   cases full with
   |true=>simpa using nT x ifs roots hx hr hv h0 h1 k infs drv dec st ho
   |false=>
    have hk:k<drv.length:=((hR.no rfl).2.2 rfl).1;simpa using uU x ifs roots hx hr hv h0 h1 k infs drv dec st ho ch hl
  |true=>
   obtain⟨hf,t,sl,e1,e2,hC,_⟩:=hR.yes rfl;subst hf;have e1:dec=[]++t:=e1;have e2:st=[]++sl:=e2;rw[E7]at e1 e2;subst e1;subst e2;have hD:EG x ([]++dec):=(Tp.ok (.nil x) (.nil roots) hC).1;rw[E7]at hD;have hdx:=TP hD;obtain⟨c1,c2⟩:=Wj hC;have hn:((AG dec).map (·.path)).Nodup:=by rw[Mb];exact hD.nodup
   simpa using rk x ifs roots hx hr hv h0 h1 k infs drv dec st ho ch hn ch (fun s hs=>A9 (c2 s hs) cP)
def OP:Int:=if Jo x roots≠0 then Jo x roots else if(Jn x roots).found=true then 0 else 17
def Mh:List Sl:=if OP x roots=0 then(Jn x roots).sel else []
abbrev Acw:Qn:=(pC [2] [])
theorem uT(a:An)(e:Int)(h:PC 74 [LO x ifs,sl A2 roots] (.tup [.agg (TV a),vi e])) :
  PC 34 [LO x ifs,sl A2 roots] (.tup [if e≠0 then sl Ao []else if a.found=true then sl Ao a.sel else sl Ao [],vi (if e≠0 then e else if a.found=true then 0 else 17)]):=by
 refine Ps Acw Tryz.func34 rfl (Nz rfl) (Yi ?_ ?_)
 .exact Nz rfl
 refine Xi .pure (Xi _ (Yi h (Yi ?_ ?_)))
 .exact Nz rfl
 refine Yi (fun he=>?_) (fun he=>?_)
 .have e1:AV.tup [sl Ao [],vi e]=.tup [if e≠0 then sl Ao []else if a.found=true then sl Ao a.sel else sl Ao [],vi (if e≠0 then e else if a.found=true then 0 else 17)]:=by rw[As he,As he]
  exact(show EY (.tup [nzA,vi e]) (.tup [sl Ao ([]:List Sl),vi e])from EY.tup ⟨.nil,.refl _,trivial⟩).trans (.of_eq e1)
 .have he:e=0:=Cq.1 he;have Dv:¬e≠0:=fun h=>h he;refine Yi (fun hb=>?_) (fun hb=>?_)
  .have e1:AV.tup [sl Ao a.sel,vi 0]=.tup [if e≠0 then sl Ao []else if a.found=true then sl Ao a.sel else sl Ao [],vi (if e≠0 then e else if a.found=true then 0 else 17)]:=by rw[Ah Dv,Ah Dv,As hb,As hb]
   exact .of_eq e1
  .have hb:¬a.found=true:=by rw[hb];decide
   have e1:AV.tup [sl Ao [],vi 17]=.tup [if e≠0 then sl Ao []else if a.found=true then sl Ao a.sel else sl Ao [],vi (if e≠0 then e else if a.found=true then 0 else 17)]:=by rw[Ah Dv,Ah Dv,Ah hb,Ah hb]
   exact(show EY (.tup [nzA,vi 17]) (.tup [sl Ao ([]:List Sl),vi 17])from EY.tup ⟨.nil,.refl _,trivial⟩).trans (.of_eq e1)
theorem s16(hx:∀r∈x,Jw r)(hr:∀q∈roots,NQ q):PC 34 [LO x ifs,sl A2 roots] (.tup [sl Ao (Mh x roots),vi (OP x roots)]):=by
 have h:=uT x ifs roots _ _ (s21 x ifs roots hx hr);have e1:(if Jo x roots≠0 then sl Ao []else if(Jn x roots).found=true then sl Ao (Jn x roots).sel else sl Ao [])=sl Ao (Mh x roots):=by
  unfold Mh OP
  by_cases h1:Jo x roots=0
  .by_cases h2:(Jn x roots).found=true
   .simp[h1,h2]
   .simp[h1,h2]
  .simp[h1]
 have e2:(if Jo x roots≠0 then Jo x roots else if(Jn x roots).found=true then 0 else 17)=OP x roots:=rfl;rw[e1,e2]at h;exact h
end Go.Eng
namespace Go.Proofs
open Go.Shelf Go.RowKit Go.Lib Go.Sort
theorem Tryz.closure133:CmpSlA 133:=fun x y W=>by
 have hcon:=fun W'=>Any.strings_Compare Tryz.layCompare x.1 y.1 W';obtain⟨a,⟨b,hb⟩,⟨c,hc⟩,⟨d,hd⟩⟩:=x;obtain⟨a',⟨b',oP⟩,⟨c',tD⟩,⟨d',oR⟩⟩:=y;dsimp only at hcon
 change ∀W',Calls Tryz.prog 126 _ _ _ at hcon
 unfold cfSlA;dsimp only;generalize Lib.compareBytes a.data.toList a'.data.toList=r at hcon⊢
 go_enter Tryz.func133,Tryz.ntmps133
 go_wp2_with (go_at_call 126;refine(hcon _).mono ?_;rintro e w' ⟨rfl,rfl⟩)
 go_ret
 exact⟨rfl,0,_,by rw[alloc_eq_grow,alloc_eq_grow,grow_grow];rfl⟩
end Go.Proofs
namespace Go.Eng
open Go.Proofs
variable {C A:List (Value×AV)}{dec:List Cd}{o:List (List Sl)}{roots:List Rq}{ob:Bool->Obj}{o':List (List Sl)}{N:List Nd}{M:Nat}{h':Nat->HO}{c:Cd}{r:AV}(f:Cd->List (List Cd))(x:List Rl)(cs:List Cd)(i:Nat)
abbrev fX:HU:=[(1009,1009),(1000,1000),(1001,1001),(1002,1002),(1003,1003),(1004,1004),(1005,1005),(1006,1006),(1007,1007),(1008,1008)]
abbrev DN(l:List Sl):List AV:=[sl Ao l]
abbrev Oo(yl:Nat):List AV:=[.ref 1005 0,.cptr [.v (.func (.yield yl) #[] #[])],.ref 1006 0]
abbrev vH(roots:List Rq)(C A:List (Value×AV))(yl:Nat)(o:Obj)(dec:List Cd)(out:List (List Sl)):List (Nat×HO):=
 [(1009,.raw yl o),(1000,.cells (Qh roots C A Kl dec 0)),(1001,.tok 6 0),(1002,.tok 1 0),(1003,.map Em []),(1004,.arr 1 []),(1005,.cells [.ref 1000 0]),(1006,.cells [.clo 131 (Oo yl)]),(1007,.cells [.slice (.id 1008 1) (out.map DN)]),(1008,.tok 1 out.length)]
noncomputable abbrev cxv(pl:Qn)(l:Nat)(Y:Gh->World->Prop):Cx:=⟨Tryz.prog,og,pl,true,0,fun l' σ' g w=>l'=l->σ'=fX->Y g w⟩
abbrev wk(H:List (Nat×HO))(Y:Gh->World->Prop):Prop:=∀g w h' g' w',Dr w g (Ag H Ad) (Ag H Ad) g w->Dr w g (Ag H Ad) h' g' w'->Le (Ag H Ad) g w h' g' w'->Y g w->Y (CL fX g') w'
abbrev Qq(l:List (List Cd)):List (List Sl):=l.map fun d=>DO (AG d)
abbrev Yu(roots:List Rq)(n:Nat)(dec:List Cd)(N:List Nd)(c:Cd):List (List Cd):=if bi dec N c then Cn x roots n (dec++[c])else []
abbrev VQ(roots:List Rq)(C A:List (Value×AV))(yl M:Nat)(ob:Bool->Obj)(dec:List Cd)(o:List (List Sl)):AV->(Nat->HO)->Prop:=
 fun r h'=>r=vb (decide (o.length<=M))/\h'=Ag (vH roots C A yl (ob (decide (o.length<=M))) dec (o.take M)) Ad
theorem VQ.le{yl:Nat}(hq:VQ roots C A yl M ob dec o r h')(h:o.length<=M) :
  r=vb true/\h'=Ag (vH roots C A yl (ob true) dec o) Ad:=by
 obtain⟨a,b⟩:=hq;rw[Ap h]at a b;rw[AB h]at b;exact⟨a,b⟩
theorem VQ.gt{yl:Nat}(hq:VQ roots C A yl M ob dec o r h')(h:¬o.length<=M) :
  r=vb false/\h'=Ag (vH roots C A yl (ob false) dec (o.take M)) Ad:=by
 obtain⟨a,b⟩:=hq;rw[Am h]at a b;exact⟨a,b⟩
theorem VQ.of_le{yl:Nat}(e:o'=o)(h:o'.length<=M):VQ roots C A yl M ob dec o (vb true) (Ag (vH roots C A yl (ob true) dec o') Ad):=by
 subst e;refine⟨?_,?_⟩
 .rw[Ap h]
 .rw[Ap h,AB h]
theorem VQ.of_gt{yl:Nat}(h:¬o'.length<=M)(e:∃z,o=o'++z):VQ roots C A yl M ob dec o (vb false) (Ag (vH roots C A yl (ob false) dec (o'.take M)) Ad):=by
 obtain⟨z,rfl⟩:=e;have h2:¬(o'++z).length<=M:=by rw[Ac];omega
 refine⟨?_,?_⟩
 .rw[Am h2]
 .rw[Am h2,FA ch]
structure LvV(x:List Rl)(roots:List Rq)(C A:List (Value×AV))(Y:Gh->World->Prop)(yl M n:Nat)(ob:Bool->Obj)(dec:List Cd)(p:ByteArray)(n0:Nd)(l:List Nd)(cs:List Cd):Prop where
 hdl:dec.length<=256
 hcl:cs.length<=256
 hnl:Cw (n0::l)
 hnq:∀n∈n0::l,Cw n.rq.set
 hcr:∀(i:Nat) (h:i<cs.length),cs[i].rel.reqs.length<=1073741824
 hcs_:∀(i:Nat) (h:i<cs.length),∀q∈cs[i].rel.reqs,Cw q.set
 hkey:∀(i:Nat) (h:i<cs.length),(AG dec).map Ao++[[vs p,vi cs[i].rel.ver.a,vi cs[i].rel.ver.b,vi cs[i].rel.ver.c]]=(AG (dec++[cs[i]])).map Ao
 ih:∀(i:Nat) (h:i<cs.length),bi dec (n0::l) cs[i]=true->∀(out:List (List Sl)),out.length<=M ->
  Gb Tryz.prog Y 131 (Oo yl) (Ag (vH roots C A yl (ob true) (dec++[cs[i]]) out) Ad) (VQ roots C A yl M ob (dec++[cs[i]]) (out++Qq (Cn x roots n (dec++[cs[i]]))))
def Mn:List (List Cd):=((cs.take i).map f).flatten
theorem Xp:Mn f cs 0=[]:=rfl
theorem Xo{f:Cd->List (List Cd)}{cs:List Cd}{i:Nat}(h:i<cs.length):Mn f cs (i+1)=Mn f cs i++f cs[i]:=by
 unfold Mn;rw[K9 h,Az,Cs];simp
theorem fR{f:Cd->List (List Cd)}{cs:List Cd}{i:Nat}(h:i<cs.length)(hf:f cs[i]=[]):Mn f cs (i+1)=Mn f cs i:=by rw[Xo h,hf,BZ]
theorem s66{fF:Nat}{caps:List AV}(hs:DD caps)(l:List (Nd))(p:Nd->Bool)(hF:∀x∈l,PC fF ([.agg (A6 x)]++caps) (vb (p x)))(hl:Cw l) :
  PC 134 [sl A6 l,.clo fF caps] (vb (l.any p)):=by
 refine Ps DU Tryz.func134 rfl (Nz rfl) ?_;have hi:=s86 hs l p hF (by unfold Cw at hl;omega);have CQ:∀h,PC 181 [sl A6 l,.clo fF (caps.map (str0 h))] (vi (IL p l 0)):=fun h=>by rw[hs.map];exact hi
 refine Xi .pure (Xi _ (Yi (CQ _) ?_));have ha:=IM (p:=p) l 0 (By 0);refine Yi ?_ ?_
 .intro h;have h:(0:Int)<=IL p l 0:=h;rw[<-ha,Ap h];exact .refl _
 .intro h;have h:¬(0:Int)<=IL p l 0:=h;rw[<-ha,Am h];exact .refl _
theorem s67(n:Nd)(c:Cd)(hq:Cw n.rq.set):PC 135 [.agg (A6 n),.cptr (AF c)] (vb (!has n.rq.set c.place)):=by
 refine Ps (pC [2] []) Tryz.func135 rfl (Nz rfl) (BL (Bt (has n.rq.set c.place)) (fun h1=>?_) (fun h1=>?_))
 .have h1:(has n.rq.set c.place)=true:=h1;have kg:=(td n.rq.set c.place hq);rw[show(has n.rq.set c.place)=true from h1]at kg;refine Xi .pure (Xi _ (Yi kg ?_));exact .of_eq (show vb false=vb (!has n.rq.set c.place) by rw[h1];rfl)
 have h1:(has n.rq.set c.place)=false:=h1;have hc4:=(td n.rq.set c.place hq);rw[show(has n.rq.set c.place)=false from h1]at hc4;refine Xi .pure (Xi _ (Yi hc4 ?_));exact .of_eq (show vb true=vb (!has n.rq.set c.place) by rw[h1];rfl)
theorem dL:Mn f cs cs.length=Mn f cs i++((cs.drop i).map f).flatten:=by
 unfold Mn;rw[CK,<-Cs,<-Az,Fi]
theorem yE(h1:(N.any fun n=>!has n.rq.set c.place)=false)(h2:DI dec c=none):bi dec N c=true:=
 KD.2 ⟨fun n hn=>by have:=DE.1 h1 n hn;simpa using this,h2⟩
theorem qB{x:List Rl}{n:Nat}(h:(N.any fun n=>!has n.rq.set c.place)=true):Yu x roots n dec N c=[]:=by
 unfold Yu;rw[Ah];intro hc;obtain⟨m,h1,h2⟩:=AX.1 h
 have:=(KD.1 hc).1 m h1
 rw[this]at h2;cases h2
theorem mN{x:List Rl}{n:Nat}{m:Nd}(h:DI dec c=some m):Yu x roots n dec N c=[]:=by
 unfold Yu;rw[Ah];intro hc
 have:=(KD.1 hc).2
 rw[this]at h;cases h
theorem Ado(roots:List Rq)(C A:List (Value×AV))(Y:Gh->World->Prop)(yl M n:Nat)(ob:Bool->Obj)(dec:List Cd)(out:List (List Sl))(p:ByteArray)(n0:Nd)(l:List Nd)(cs:List Cd)(hL:LvV x roots C A Y yl M n ob dec p n0 l cs)(Il:wk (vH roots C A yl (ob true) dec out) Y)(Ji:Bb Tryz.prog 132 [.ref 1000 0] (Ag (Iq roots C A Kl dec []) Ad) fun r h'=>r=.tup [vs p,sl A6 (n0::l)]/\h'=Ag (Iq roots C A Kl dec []) Ad)(hC1:∀a,(Value.string p,a)∈C->a=sl AF cs)(tu:¬∀a,(Value.string p,a)∉C)(qc:Cn x roots (n+1) dec=Mn (Yu x roots n dec (n0::l)) cs cs.length)(hM:out.length<=M) :
  Gb Tryz.prog Y 131 (Oo yl) (Ag (vH roots C A yl (ob true) dec out) Ad) (VQ roots C A yl M ob dec (out++Qq (Cn x roots (n+1) dec))):=by
 obtain⟨hdl,hcl,hnl,hnq,hcr,hcs_,hkey,ih⟩:=hL;have hdl:dec.length<=256:=hdl;have hcl:cs.length<=256:=hcl;refine Qu (l:=yl) (cxv ⟨[8],[],[],[],[],[],[],[],[(63,3),(71,3)],[],[1,2,4,6,8,9,10,11,12,13,14,15,16,17]⟩ yl Y) fX fX rfl Cu hm rfl Tryz.func131 aa0 rfl (Nz rfl) aa0 rfl rfl Il (cU [(0,.ref 1005 0),(1,.cptr [.v (.func (.yield yl) #[] #[])]),(2,.ref 1006 0)] [(1000,.cells (Qh roots C A Kl dec 0)),(1001,.tok 6 0),(1002,.tok 1 0),(1003,.map Em []),(1004,.arr 1 []),(1005,.cells [.ref 1000 0]),(1006,.cells [.clo 131 [.ref 1005 0,.cptr [.v (.func (.yield yl) #[] #[])],.ref 1006 0]]),(1007,.cells [.slice (.id 1008 1) (out.map DN)]),(1008,.tok 1 out.length),(1009,.raw yl (ob true))] Z3 Z10 (Xi (.gen VX 0) (Yi rfl (Bb.imp Ji ?_))));intro v1 g1 q1;have dA:=q1.1;have dB:=q1.2;subst dA;subst dB;refine cU [(0,.ref 1005 0),(1,.cptr [.v (.func (.yield yl) #[] #[])]),(2,.ref 1006 0),(4,vs p),(5,sl A6 (n0::l))] [(1000,.cells (Qh roots C A Kl dec 0)),(1001,.tok 6 0),(1002,.tok 1 0),(1003,.map Em []),(1004,.arr 1 []),(1005,.cells [.ref 1000 0]),(1006,.cells [.clo 131 [.ref 1005 0,.cptr [.v (.func (.yield yl) #[] #[])],.ref 1006 0]]),(1007,.cells [.slice (.id 1008 1) (out.map DN)]),(1008,.tok 1 out.length),(1009,.raw yl (ob true))] Z5 Z10 (Yi (fun h2=>?_) (fun h2=>?_))
 .have h2:(((n0::l).map A6).length:Int)=(0:Int):=h2;exact absurd h2 (by simp;omega)
 have h2:¬((((n0::l).map A6).length:Int)=(0:Int)):=h2;refine cU [(0,.ref 1005 0),(2,.ref 1006 0),(4,vs p),(5,sl A6 (n0::l))] [(1000,.cells (Qh roots C A Kl dec 0)),(1001,.tok 6 0),(1002,.tok 1 0),(1003,.map Em []),(1004,.arr 1 []),(1005,.cells [.ref 1000 0]),(1006,.cells [.clo 131 [.ref 1005 0,.cptr [.v (.func (.yield yl) #[] #[])],.ref 1006 0]]),(1007,.cells [.slice (.id 1008 1) (out.map DN)]),(1008,.tok 1 out.length),(1009,.raw yl (ob true))] Z4 Z10 (Yi (fun a ha=>?_) (fun JH=>?_))
 .have ea:=hC1 a ha;subst ea;refine Xi {q:Nat×List (List Sl) // q.1<=cs.length/\q.2=out++Qq (Mn (Yu x roots n dec (n0::l)) cs q.1)/\q.2.length<=M} (Xi (fun q=>⟨[(0,.ref 1005 0),(2,.ref 1006 0),(4,vs p),(5,sl A6 (n0::l)),(37,sl AF cs),(38,vi (cs.map AF).length),(39,vi q.1.1)],[(1000,.cells (Qh roots C A Kl dec 0)),(1001,.tok 6 0),(1002,.tok 1 0),(1003,.map Em []),(1004,.arr 1 []),(1005,.cells [.ref 1000 0]),(1006,.cells [.clo 131 [.ref 1005 0,.cptr [.v (.func (.yield yl) #[] #[])],.ref 1006 0]]),(1007,.cells [.slice (.id 1008 1) (q.1.2.map DN)]),(1008,.tok 1 q.1.2.length),(1009,.raw yl (ob true))],Ad⟩) (Xi (fun q=>cs.length-q.1.1) (Yi (Xi ⟨(0,out),AE _,by rw[Xp];simp,hM⟩ ?_) ?_)))
  .exact⟨Z7,Z10,Fh,BQ aa0⟩
  intro⟨⟨i,o⟩,j1,j2,j3⟩;have j1:i<=cs.length:=j1;have j2:o=out++Qq (Mn (Yu x roots n dec (n0::l)) cs i):=j2;have j3:o.length<=M:=j3;refine Yi (fun h3=>?_) (fun h3=>?_)
  .have h3:(i:Int)<((cs.map AF).length:Int):=h3;have n3:i<cs.length:=by have q:=h3;rw[Lm]at q;omega
   have g3:cs[i]?=some cs[i]:=Ge n3;refine cU [(0,.ref 1005 0),(2,.ref 1006 0),(4,vs p),(5,sl A6 (n0::l)),(37,sl AF cs),(38,vi (cs.map AF).length),(39,vi i)] [(1000,.cells (Qh roots C A Kl dec 0)),(1001,.tok 6 0),(1002,.tok 1 0),(1003,.map Em []),(1004,.arr 1 []),(1005,.cells [.ref 1000 0]),(1006,.cells [.clo 131 [.ref 1005 0,.cptr [.v (.func (.yield yl) #[] #[])],.ref 1006 0]]),(1007,.cells [.slice (.id 1008 1) (o.map DN)]),(1008,.tok 1 o.length),(1009,.raw yl (ob true))] Z7 Z10 (Xi (AF cs[i]) (Yi (Yi (Nn i) (Ee g3)) (Yi rfl (yN (yN (cU [(0,.ref 1005 0),(2,.ref 1006 0),(4,vs p),(5,sl A6 (n0::l)),(8,.ref 8 0),(37,sl AF cs),(38,vi (cs.map AF).length),(39,vi i)] [(8,.ro (AF cs[i])),(1000,.cells (Qh roots C A Kl dec 0)),(1001,.tok 6 0),(1002,.tok 1 0),(1003,.map Em []),(1004,.arr 1 []),(1005,.cells [.ref 1000 0]),(1006,.cells [.clo 131 [.ref 1005 0,.cptr [.v (.func (.yield yl) #[] #[])],.ref 1006 0]]),(1007,.cells [.slice (.id 1008 1) (o.map DN)]),(1008,.tok 1 o.length),(1009,.raw yl (ob true))] Z8 Z11 ?_))))))
   have p5:=s66 (fF:=135) (caps:=[.cptr (AF cs[i])]) (fun c hc=>by obtain rfl:=Aj.1 hc;intro h;rfl) (n0::l) (fun n=>!has n.rq.set cs[i].place) (fun n hn=>s67 n cs[i] (hnq n hn)) hnl;refine BL (Bt ((n0::l).any fun n=>!has n.rq.set cs[i].place)) (fun h4=>?_) (fun h4=>?_)
   .skip
    rw[h4]at p5;refine Xi .pure (Xi _ (Yi p5 (Yi (Ii i ch) ?_)));have JH:Yu x roots n dec (n0::l) cs[i]=[]:=qB h4;refine Xi ⟨(i+1,o),DY n3,by rw[j2,fR n3 JH],j3⟩ ?_;exact⟨Dl cs.length i ch,Z7,Z10,Fh,BQ aa0⟩
   skip
   rw[h4]at p5;refine Xi .pure (Xi _ (Yi p5 (cU [(0,.ref 1005 0),(2,.ref 1006 0),(4,vs p),(5,sl A6 (n0::l)),(8,.ref 8 0),(37,sl AF cs),(38,vi (cs.map AF).length),(39,vi i)] [(8,.ro (AF cs[i])),(1000,.cells (Qh roots C A Kl dec 0)),(1001,.tok 6 0),(1002,.tok 1 0),(1003,.map Em []),(1004,.arr 1 []),(1005,.cells [.ref 1000 0]),(1006,.cells [.clo 131 [.ref 1005 0,.cptr [.v (.func (.yield yl) #[] #[])],.ref 1006 0]]),(1007,.cells [.slice (.id 1008 1) (o.map DN)]),(1008,.tok 1 o.length),(1009,.raw yl (ob true))] Z8 Z11 (yN ?_))));have PH:=s69 roots C A Kl dec [] cs[i] ch (hcr i n3) (hcs_ i n3);refine BL (YE (DI dec cs[i])) (fun h6=>?_) (fun h6=>?_)
   .refine BA h6 (fun nc h6=>?_);have eW:pE (DI dec cs[i])=.tup [.agg (A6 nc),vb true]:=by rw[h6];rfl
    rw[eW]at PH;refine Xi (.gen VX 0) (Yi rfl (Bb.imp PH ?_));intro v7 g7 q7;have q7a:=q7.1;have q7b:=q7.2;subst q7a;subst q7b;refine yN (cU [(0,.ref 1005 0),(2,.ref 1006 0),(4,vs p),(5,sl A6 (n0::l)),(8,.ref 8 0),(10,vb true),(37,sl AF cs),(38,vi (cs.map AF).length),(39,vi i)] [(8,.ro (AF cs[i])),(1000,.cells (Qh roots C A Kl dec 0)),(1001,.tok 6 0),(1002,.tok 1 0),(1003,.map Em []),(1004,.arr 1 []),(1005,.cells [.ref 1000 0]),(1006,.cells [.clo 131 [.ref 1005 0,.cptr [.v (.func (.yield yl) #[] #[])],.ref 1006 0]]),(1007,.cells [.slice (.id 1008 1) (o.map DN)]),(1008,.tok 1 o.length),(1009,.raw yl (ob true))] Z9 Z11 (Yi (Ii i ch) ?_));have JH:Yu x roots n dec (n0::l) cs[i]=[]:=mN h6;refine Xi ⟨(i+1,o),DY n3,by rw[j2,fR n3 JH],j3⟩ ?_;exact⟨Dl cs.length i ch,Z7,Z10,Fh,BQ aa0⟩
   skip
   have eW:pE (DI dec cs[i])=.tup [.agg [vs ⟨#[]⟩,nzA,vs ⟨#[]⟩,vi 0,vi 0],vb false]:=by rw[h6];rfl
   rw[eW]at PH;refine Xi (.gen VX 0) (Yi rfl (Bb.imp PH ?_));intro v9 g9 q9;have q9a:=q9.1;have q9b:=q9.2;subst q9a;subst q9b;refine yN (cU [(0,.ref 1005 0),(2,.ref 1006 0),(4,vs p),(5,sl A6 (n0::l)),(8,.ref 8 0),(10,vb false),(37,sl AF cs),(38,vi (cs.map AF).length),(39,vi i)] [(8,.ro (AF cs[i])),(1000,.cells (Qh roots C A Kl dec 0)),(1001,.tok 6 0),(1002,.tok 1 0),(1003,.map Em []),(1004,.arr 1 []),(1005,.cells [.ref 1000 0]),(1006,.cells [.clo 131 [.ref 1005 0,.cptr [.v (.func (.yield yl) #[] #[])],.ref 1006 0]]),(1007,.cells [.slice (.id 1008 1) (o.map DN)]),(1008,.tok 1 o.length),(1009,.raw yl (ob true))] Z9 Z11 (cU [(0,.ref 1005 0),(2,.ref 1006 0),(4,vs p),(5,sl A6 (n0::l)),(8,.ref 8 0),(37,sl AF cs),(38,vi (cs.map AF).length),(39,vi i)] [(8,.ro (AF cs[i])),(1000,.cells (Qh roots C A Kl dec 0)),(1001,.tok 6 0),(1002,.tok 1 0),(1003,.map Em []),(1004,.arr 1 []),(1005,.cells [.ref 1000 0]),(1006,.cells [.clo 131 [.ref 1005 0,.cptr [.v (.func (.yield yl) #[] #[])],.ref 1006 0]]),(1007,.cells [.slice (.id 1008 1) (o.map DN)]),(1008,.tok 1 o.length),(1009,.raw yl (ob true))] Z8 Z11 (Yi aa0 (cU [(0,.ref 1005 0),(2,.ref 1006 0),(4,vs p),(5,sl A6 (n0::l)),(8,.ref 8 0),(11,sl AF dec),(12,sl Ao (AG dec)),(37,sl AF cs),(38,vi (cs.map AF).length),(39,vi i)] [(8,.ro (AF cs[i])),(1000,.cells (Qh roots C A Kl dec 0)),(1001,.tok 6 0),(1002,.tok 1 0),(1003,.map Em []),(1004,.arr 1 []),(1005,.cells [.ref 1000 0]),(1006,.cells [.clo 131 [.ref 1005 0,.cptr [.v (.func (.yield yl) #[] #[])],.ref 1006 0]]),(1007,.cells [.slice (.id 1008 1) (o.map DN)]),(1008,.tok 1 o.length),(1009,.raw yl (ob true))] Z10 Z11 (Xi _ (Xi _ (Yi aa0 (Yi (uV dec (by unfold Cw;omega)) (yN ?_)))))))));have KK:CR 10 [(AF cs[i])]/\(dec.map AF).length=(dec.map AF).length/\((dec.map AF).length+([(AF cs[i])]:List (List AV)).length)*128<=140737488355328/\(dec.map AF).length+([(AF cs[i])]:List (List AV)).length<=9223372036854775807:=⟨⟨rfl,trivial⟩,rfl,(by simp only[Lm,Al,Ax];omega),(by simp only[Lm,Al,Ax];omega)⟩;refine Yi KK (yN (Yi aa0 (cU [(0,.ref 1005 0),(2,.ref 1006 0),(4,vs p),(5,sl A6 (n0::l)),(8,.ref 8 0),(11,sl AF dec),(12,sl Ao (AG dec)),(37,sl AF cs),(38,vi (cs.map AF).length),(39,vi i)] [(8,.ro (AF cs[i])),(1000,.cells [sl A2 roots,.cmap Ek C,.cmap Ek A,.slice (.id 1001 6) (([]:List Nf).map CX),.slice (.id 1002 1) (([]:List (List Tm)).map CG),.mref 1003,vb Kl.full,.slice (.id 16300 10) ((dec.map AF)++[(AF cs[i])]),sl Ao (AG dec),.msl 1004 0]),(1001,.tok 6 0),(1002,.tok 1 0),(1003,.map Em []),(1004,.arr 1 []),(1005,.cells [.ref 1000 0]),(1006,.cells [.clo 131 [.ref 1005 0,.cptr [.v (.func (.yield yl) #[] #[])],.ref 1006 0]]),(1007,.cells [.slice (.id 1008 1) (o.map DN)]),(1008,.tok 1 o.length),(1009,.raw yl (ob true)),(16300,.tok 10 ((dec.map AF).length+([(AF cs[i])]:List (List AV)).length))] Z10 Z12 (Xi _ (Xi _ (Yi aa0 (Yi (wU (AG dec) (by unfold Cw AG;rw[Lm];omega)) (yN ?_))))))));have pg:CR 4 [[vs p,vi cs[i].rel.ver.a,vi cs[i].rel.ver.b,vi cs[i].rel.ver.c]]/\((AG dec).map Ao).length=((AG dec).map Ao).length/\(((AG dec).map Ao).length+([[vs p,vi cs[i].rel.ver.a,vi cs[i].rel.ver.b,vi cs[i].rel.ver.c]]:List (List AV)).length)*40<=140737488355328/\((AG dec).map Ao).length+([[vs p,vi cs[i].rel.ver.a,vi cs[i].rel.ver.b,vi cs[i].rel.ver.c]]:List (List AV)).length<=9223372036854775807:=⟨⟨rfl,trivial⟩,rfl,(by simp only[Lm,Al,Ax];omega),(by simp only[Lm,Al,Ax];omega)⟩;refine Yi pg (yN (Yi aa0 (cU [(0,.ref 1005 0),(2,.ref 1006 0),(4,vs p),(5,sl A6 (n0::l)),(11,sl AF dec),(12,sl Ao (AG dec)),(37,sl AF cs),(38,vi (cs.map AF).length),(39,vi i)] [(1000,.cells [sl A2 roots,.cmap Ek C,.cmap Ek A,.slice (.id 1001 6) (([]:List Nf).map CX),.slice (.id 1002 1) (([]:List (List Tm)).map CG),.mref 1003,vb Kl.full,.slice (.id 16300 10) ((dec++[cs[i]]).map AF),.slice (.id 17100 4) ((AG (dec++[cs[i]])).map Ao),.msl 1004 0]),(1001,.tok 6 0),(1002,.tok 1 0),(1003,.map Em []),(1004,.arr 1 []),(1005,.cells [.ref 1000 0]),(1006,.cells [.clo 131 [.ref 1005 0,.cptr [.v (.func (.yield yl) #[] #[])],.ref 1006 0]]),(1007,.cells [.slice (.id 1008 1) (o.map DN)]),(1008,.tok 1 o.length),(1009,.raw yl (ob true)),(16300,.tok 10 ((dec++[cs[i]]).map AF).length),(17100,.tok 4 ((AG (dec++[cs[i]])).map Ao).length)] Z9 ⟨⟨(show(.cells [sl A2 roots,.cmap Ek C,.cmap Ek A,.slice (.id 1001 6) (([]:List Nf).map CX),.slice (.id 1002 1) (([]:List (List Tm)).map CG),.mref 1003,vb Kl.full,.slice (.id 16300 10) ((dec.map AF)++[(AF cs[i])]),.slice (.id 17100 4) (((AG dec).map Ao)++[[vs p,vi cs[i].rel.ver.a,vi cs[i].rel.ver.b,vi cs[i].rel.ver.c]]),.msl 1004 0]:HO)=.cells [sl A2 roots,.cmap Ek C,.cmap Ek A,.slice (.id 1001 6) (([]:List Nf).map CX),.slice (.id 1002 1) (([]:List (List Tm)).map CG),.mref 1003,vb Kl.full,.slice (.id 16300 10) ((dec++[cs[i]]).map AF),.slice (.id 17100 4) ((AG (dec++[cs[i]])).map Ao),.msl 1004 0] by rw[hkey i n3];simp),rfl⟩,Zr,Zr,Zr,Zr,Zr,Zr,Zr,Zr,Zr,⟨(show(.tok 10 ((dec.map AF).length+([(AF cs[i])]:List (List AV)).length):HO)=.tok 10 ((dec++[cs[i]]).map AF).length by simp),rfl⟩,⟨(show(.tok 4 (((AG dec).map Ao).length+([[vs p,vi cs[i].rel.ver.a,vi cs[i].rel.ver.b,vi cs[i].rel.ver.c]]:List (List AV)).length):HO)=.tok 4 ((AG (dec++[cs[i]])).map Ao).length by rw[<-hkey i n3,Ac]),rfl⟩,Tv⟩ ?_)))
   have FY:bi dec (n0::l) cs[i]=true:=yE h4 h6;have eK:Yu x roots n dec (n0::l) cs[i]=(Cn x roots n (dec++[cs[i]])):=by unfold Yu;rw[As FY]
   have hup:Mn (Yu x roots n dec (n0::l)) cs (i+1)=Mn (Yu x roots n dec (n0::l)) cs i++(Cn x roots n (dec++[cs[i]])):=by rw[Xo n3,eK]
   have qk:=ih i n3 FY o j3;refine BL (BT M (o++Qq (Cn x roots n (dec++[cs[i]]))).length) (fun hb=>?_) (fun hb=>?_)
   .skip
    refine Xi (.geny fX 0) (Yi rfl (Gb.imp (Gb.pre qk (fun g w q=>q yl rfl rfl)) ?_));intro v12 g12 YK;have YK:=VQ.gt YK (Nat.not_le.2 hb);have dy:=YK.1;have dz:=YK.2;subst dy;subst dz;refine cU [(0,.ref 1005 0),(2,.ref 1006 0),(4,vs p),(5,sl A6 (n0::l)),(11,sl AF dec),(12,sl Ao (AG dec)),(13,vb false),(37,sl AF cs),(38,vi (cs.map AF).length),(39,vi i)] [(1000,.cells [sl A2 roots,.cmap Ek C,.cmap Ek A,.slice (.id 1001 6) (([]:List Nf).map CX),.slice (.id 1002 1) (([]:List (List Tm)).map CG),.mref 1003,vb Kl.full,sl AF (dec++[cs[i]]),sl Ao (AG (dec++[cs[i]])),.msl 1004 0]),(1001,.tok 6 0),(1002,.tok 1 0),(1003,.map Em []),(1004,.arr 1 []),(1005,.cells [.ref 1000 0]),(1006,.cells [.clo 131 [.ref 1005 0,.cptr [.v (.func (.yield yl) #[] #[])],.ref 1006 0]]),(1007,.cells [.slice (.id 1008 1) (((o++Qq (Cn x roots n (dec++[cs[i]]))).take M).map DN)]),(1008,.tok 1 ((o++Qq (Cn x roots n (dec++[cs[i]]))).take M).length),(1009,.raw yl (ob false))] Z10 Z10 (yN (yN (Yi aa0 (cU [(0,.ref 1005 0),(2,.ref 1006 0),(4,vs p),(5,sl A6 (n0::l)),(13,vb false),(37,sl AF cs),(38,vi (cs.map AF).length),(39,vi i)] [(1000,.cells (Qh roots C A Kl dec 0)),(1001,.tok 6 0),(1002,.tok 1 0),(1003,.map Em []),(1004,.arr 1 []),(1005,.cells [.ref 1000 0]),(1006,.cells [.clo 131 [.ref 1005 0,.cptr [.v (.func (.yield yl) #[] #[])],.ref 1006 0]]),(1007,.cells [.slice (.id 1008 1) (((o++Qq (Cn x roots n (dec++[cs[i]]))).take M).map DN)]),(1008,.tok 1 ((o++Qq (Cn x roots n (dec++[cs[i]]))).take M).length),(1009,.raw yl (ob false))] Z8 Z10 ?_))))
    have qm:=dL (Yu x roots n dec (n0::l)) cs (i+1);exact VQ.of_gt (Nat.not_le.2 hb) (by rw[qc,qm,hup,j2];exact⟨Qq (((cs.drop (i+1)).map (Yu x roots n dec (n0::l))).flatten),by simp⟩)
   refine Xi (.geny fX 0) (Yi rfl (Gb.imp (Gb.pre qk (fun g w q=>q yl rfl rfl)) ?_));intro v12 g12 YK;have YK:=VQ.le YK hb;have dy:=YK.1;have dz:=YK.2;subst dy;subst dz;refine cU [(0,.ref 1005 0),(2,.ref 1006 0),(4,vs p),(5,sl A6 (n0::l)),(11,sl AF dec),(12,sl Ao (AG dec)),(13,vb true),(37,sl AF cs),(38,vi (cs.map AF).length),(39,vi i)] [(1000,.cells [sl A2 roots,.cmap Ek C,.cmap Ek A,.slice (.id 1001 6) (([]:List Nf).map CX),.slice (.id 1002 1) (([]:List (List Tm)).map CG),.mref 1003,vb Kl.full,sl AF (dec++[cs[i]]),sl Ao (AG (dec++[cs[i]])),.msl 1004 0]),(1001,.tok 6 0),(1002,.tok 1 0),(1003,.map Em []),(1004,.arr 1 []),(1005,.cells [.ref 1000 0]),(1006,.cells [.clo 131 [.ref 1005 0,.cptr [.v (.func (.yield yl) #[] #[])],.ref 1006 0]]),(1007,.cells [.slice (.id 1008 1) ((o++Qq (Cn x roots n (dec++[cs[i]]))).map DN)]),(1008,.tok 1 (o++Qq (Cn x roots n (dec++[cs[i]]))).length),(1009,.raw yl (ob true))] Z10 Z10 (yN (yN (Yi aa0 (cU [(0,.ref 1005 0),(2,.ref 1006 0),(4,vs p),(5,sl A6 (n0::l)),(13,vb true),(37,sl AF cs),(38,vi (cs.map AF).length),(39,vi i)] [(1000,.cells (Qh roots C A Kl dec 0)),(1001,.tok 6 0),(1002,.tok 1 0),(1003,.map Em []),(1004,.arr 1 []),(1005,.cells [.ref 1000 0]),(1006,.cells [.clo 131 [.ref 1005 0,.cptr [.v (.func (.yield yl) #[] #[])],.ref 1006 0]]),(1007,.cells [.slice (.id 1008 1) ((o++Qq (Cn x roots n (dec++[cs[i]]))).map DN)]),(1008,.tok 1 (o++Qq (Cn x roots n (dec++[cs[i]]))).length),(1009,.raw yl (ob true))] Z8 Z10 (Yi (Ii i ch) (Xi ⟨(i+1,o++Qq (Cn x roots n (dec++[cs[i]]))),DY n3,by rw[hup,j2];simp,hb⟩ ?_))))));exact⟨Dl cs.length i ch,Z7,Z10,Fh,BQ aa0⟩
  have h3:¬((i:Int)<((cs.map AF).length:Int)):=h3;have n3:¬i<cs.length:=by have q:=h3;rw[Lm]at q;omega
  have hj:i=cs.length:=by have q:=h3;rw[Lm]at q;omega
  have eo:o=out++Qq (Cn x roots (n+1) dec):=by rw[j2,hj,<-qc]
  exact VQ.of_le eo j3
 exact absurd JH tu
end Go.Eng
