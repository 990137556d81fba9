/- Lemmas for the claims of this seat, without a condition: part 29 (S19, S20, O18, O19, O21, V0, V1, V2, V5, V6, V7, V8, V9, V10, V11). -/
import Derived.Test.YteaiieomnhbmgaaGreatDoorA28
set_option maxHeartbeats 4000000
namespace Go.Eng
open Go.Proofs
variable (x:List Rl)(ifs:List (List AV))(roots:List Rq)
abbrev ql:SB:=⟨[2],[],[],[],[],[],[],[(50,(9,3,95,3))],[(44,0)],[(100016,1009)],[3,4,5,6,7,8,9,10,11,14,15,16]⟩
abbrev an0:An:=⟨false,[],[],[]⟩
def K4:An:=if Gy x roots=true/\(EB x roots).ss.full=false then jY x roots else an0
def Kj:Int:=if Gy x roots=true then if(EB x roots).ss.full=true then 7 else 0 else 1
abbrev ng:AV:=.tup [.agg (T4 (K4 x roots)),vi (Kj x roots)]
theorem CZ.an0{v:AV}:CZ (.tup [.agg [vb false,nzA,nzA,nzA],v]) (.tup [.agg (T4 an0),v]) :=
 CZ.tup ⟨CZ.agg ⟨.refl _,.nil,.nil,.nil,trivial⟩,.refl _,trivial⟩
theorem Vj{x:List Rl}{roots:List Rq}(hx:∀r∈x,Eu r)(hr:∀q∈roots,JT q)(h0:A4 x=0)(h1:BI roots=0){L:List ByteArray}(hl:L.Perm (AW (yR x) [])){o:KO}(ho:EB x roots=o) :
  A9 Tryz.prog 137 [.ref 1000 0] (Ao (JK roots (mC x) (L.map (kA x)) ss0 [] []) Af) (bE roots (mC x) (L.map (kA x)) o):=by
 rw[<-ho];exact Adf (s7 hx hr h0 h1 hl) (x.length+1) (.nil x) (IZ.nil roots) ⟨⟨rfl,AE _⟩,Fu⟩ rfl (Nat.lt_succ_of_le (Bq _ _)) rfl
theorem bn{x:List Rl}{roots:List Rq}(h:Gy x roots=true):A4 x=0/\BI roots=0:=by
 unfold Gy at h;rw[Ae,AA,AA]at h;exact h
theorem qA(hx:∀r∈x,Eu r)(hr:∀q∈roots,JT q)(hv:Gy x roots=false):PC 78 [Mo x ifs,sl Ba roots] (.tup [.agg (T4 an0),vi 1]):=by
 have Up:=zZ x ifs roots hx hr;rw[hv]at Up;refine Ps ql Tryz.func78 rfl (Nz rfl) (Yi ?_ ?_)
 .exact Nz rfl
 refine Xi .pure (Xi _ (Yi Up (Yi ?_ ?_)))
 .exact Nz rfl
 refine Yi ?_ ?_
 .exact Nz rfl
 exact CZ.an0
theorem m9(hx:∀r∈x,Eu r)(hr:∀q∈roots,JT q)(hv:Gy x roots=true)(h0:A4 x=0)(h1:BI roots=0)(k:Nat)(infs:List Nf)(drv:List (List Tm))(dec:List Cd)(st:List (List Sk))(ho:EB x roots=⟨k,false,⟨infs,drv,true⟩,dec,st⟩):PC 78 [Mo x ifs,sl Ba roots] (.tup [.agg (T4 an0),vi 7]):=by
 have Up:=zZ x ifs roots hx hr;rw[hv]at Up;refine Ps ql Tryz.func78 rfl (Nz rfl) (Yi ?_ ?_)
 .exact Nz rfl
 refine Xi .pure (Xi _ (Yi Up (cU [(1,sl Ba roots),(2,.ref 2 0),(4,.ref 4 0)] [(2,.ro (Ic x ifs)),(4,.cells [vb false,nzA,nzA,nzA])] Z3 Z2 (Yi ?_ ?_))))
 .exact Nz rfl
 refine Xi (.gen [] 5) (Yi rfl ((s29 x ifs roots hx h0).imp ?_));intro v g q;refine CN q (fun L q=>?_);have q1:=q.2.1;have q2:=q.2.2;have qp:=q.1;subst q1;subst q2;refine cU [(4,.ref 4 0),(6,.ref 11900 0)] [(4,.cells [vb false,nzA,nzA,nzA]),(11900,.cells [sl Ba roots,.cmap Cm (mC x),.cmap Cm (L.map (kA x)),.slice (.id 11901 6) [],.slice (.id 11902 1) [],.mref 11903,vb false,.slice .none [],.slice .none [],.msl 11904 0]),(11901,.tok 6 0),(11902,.tok 1 0),(11903,.map FI []),(11904,.arr 1 [])] Z2 Z6 (Xi (.gen [(11900,1000),(11901,1001),(11902,1002),(11903,1003),(11904,1004)] 1) (Yi rfl ((Vj hx hr h0 h1 qp ho).imp ?_)));intro v g q;have q1:=q.1;have q2:=q.2;subst q1;subst q2;refine cU [(4,.ref 4 0),(6,.ref 11900 0),(7,vi (k:Nat)),(8,vb false)] [(4,.cells [vb false,nzA,nzA,nzA]),(11900,.cells [sl Ba roots,.cmap Cm (mC x),.cmap Cm (L.map (kA x)),.slice (.id 11901 6) (infs.map Dq),.slice (.id 11902 1) (drv.map Dg),.mref 11903,vb true,sl AT dec,sl Am (AR dec),.msl 12200 st.length]),(11901,.tok 6 infs.length),(11902,.tok 1 drv.length),(11903,.map FI (FN 0 infs)),(12200,.arr 1 (st.map Bn))] Z4 Z6 (Yi (fun _=>?_) (fun h=>by cases h));refine cU [(4,.ref 4 0)] [(4,.cells [vb false,nzA,nzA,nzA])] Z1 Z1 (Yi ?_ ?_)
 .exact Nz rfl
 refine Yi ?_ ?_
 .exact Nz rfl
 exact CZ.an0
theorem ut(hx:∀r∈x,Eu r)(hr:∀q∈roots,JT q)(hv:Gy x roots=true)(h0:A4 x=0)(h1:BI roots=0)(k:Nat)(infs:List Nf)(drv:List (List Tm))(dec:List Cd)(st:List (List Sk))(ho:EB x roots=⟨k,false,⟨infs,drv,false⟩,dec,st⟩)(hk:k<infs.length)(hl:infs.length<=65536):PC 78 [Mo x ifs,sl Ba roots] (.tup [.agg (T4 ⟨false,[],infs.take (k+1),[]⟩),vi 0]):=by
 have Up:=zZ x ifs roots hx hr;rw[hv]at Up;refine Ps ql Tryz.func78 rfl (Nz rfl) (Yi ?_ ?_)
 .exact Nz rfl
 refine Xi .pure (Xi _ (Yi Up (cU [(1,sl Ba roots),(2,.ref 2 0),(4,.ref 4 0)] [(2,.ro (Ic x ifs)),(4,.cells [vb false,nzA,nzA,nzA])] Z3 Z2 (Yi ?_ ?_))))
 .exact Nz rfl
 refine Xi (.gen [] 5) (Yi rfl ((s29 x ifs roots hx h0).imp ?_));intro v g q;refine CN q (fun L q=>?_);have q1:=q.2.1;have q2:=q.2.2;have qp:=q.1;subst q1;subst q2;refine cU [(4,.ref 4 0),(6,.ref 11900 0)] [(4,.cells [vb false,nzA,nzA,nzA]),(11900,.cells [sl Ba roots,.cmap Cm (mC x),.cmap Cm (L.map (kA x)),.slice (.id 11901 6) [],.slice (.id 11902 1) [],.mref 11903,vb false,.slice .none [],.slice .none [],.msl 11904 0]),(11901,.tok 6 0),(11902,.tok 1 0),(11903,.map FI []),(11904,.arr 1 [])] Z2 Z6 (Xi (.gen [(11900,1000),(11901,1001),(11902,1002),(11903,1003),(11904,1004)] 1) (Yi rfl ((Vj hx hr h0 h1 qp ho).imp ?_)));intro v g q;have q1:=q.1;have q2:=q.2;subst q1;subst q2;refine cU [(4,.ref 4 0),(6,.ref 11900 0),(7,vi (k:Nat)),(8,vb false)] [(4,.cells [vb false,nzA,nzA,nzA]),(11900,.cells [sl Ba roots,.cmap Cm (mC x),.cmap Cm (L.map (kA x)),.slice (.id 11901 6) (infs.map Dq),.slice (.id 11902 1) (drv.map Dg),.mref 11903,vb false,sl AT dec,sl Am (AR dec),.msl 12200 st.length]),(11901,.tok 6 infs.length),(11902,.tok 1 drv.length),(11903,.map FI (FN 0 infs)),(12200,.arr 1 (st.map Bn))] Z4 Z6 (Yi (fun h=>by cases h) (fun _=>?_));refine cU [(4,.ref 4 0),(6,.ref 11900 0),(7,vi (k:Nat)),(8,vb false)] [(4,.cells [vb false,nzA,nzA,nzA]),(11900,.cells [sl Ba roots,.cmap Cm (mC x),.cmap Cm (L.map (kA x)),.slice (.id 11901 6) (infs.map Dq),.slice (.id 11902 1) (drv.map Dg),.mref 11903,vb false,sl AT dec,sl Am (AR dec),.msl 12200 st.length]),(11901,.tok 6 infs.length),(11902,.tok 1 drv.length),(11903,.map FI (FN 0 infs)),(12200,.arr 1 (st.map Bn))] Z4 Z6 (cU [(4,.ref 4 0),(6,.ref 11900 0),(7,vi (k:Nat))] [(4,.cells [vb false,nzA,nzA,nzA]),(11900,.cells [sl Ba roots,.cmap Cm (mC x),.cmap Cm (L.map (kA x)),.slice (.id 11901 6) (infs.map Dq),.slice (.id 11902 1) (drv.map Dg),.mref 11903,vb false,sl AT dec,sl Am (AR dec),.msl 12200 st.length]),(11901,.tok 6 infs.length),(11902,.tok 1 drv.length),(11903,.map FI (FN 0 infs)),(12200,.arr 1 (st.map Bn))] Z3 Z6 (Yi (Ii k ch) ?_));have el:(infs.map Dq).length=infs.length:=Lm ..;refine Yi ⟨Bs _,by show(0:Int)<=(k:Int)+1;omega,by show(k:Int)+1<=((infs.map Dq).length:Int);rw[el];omega⟩ ?_;refine Yi (fun cs hcs=>by obtain⟨i,_,rfl⟩:=Ag.1 hcs;rfl) (Yi ?_ ?_)
 .exact Nz rfl
 refine Yi ?_ ?_
 .exact Nz rfl
 have et:((infs.map Dq).take ((k:Int)+1).toNat).drop (0:Int).toNat=(infs.take (k+1)).map Dq:=by
  rw[show((k:Int)+1).toNat=k+1 by omega];simp
 exact CZ.tup ⟨CZ.agg ⟨.refl _,.nil,.of_eq (show AV.slice .none (((infs.map Dq).take ((k:Int)+1).toNat).drop (0:Int).toNat)=_ by rw[et]),.nil,trivial⟩,.refl _,trivial⟩
theorem WQ(y:Sl):∀l:List Sl,(VS y l).Perm (y::l)
 | []=>.refl _
 |z::l=>by
  unfold VS;split
  .exact .refl _
  .exact((WQ y l).cons z).trans (List.Perm.swap y z l)
theorem Kl:∀l:List Sl,(D1 l).Perm l
 | []=>.refl _
 |y::l=>(WQ y _).trans ((Kl l).cons y)
theorem ZK{b:Nat}:∀{st:List (List Sk)},(∀s∈st,s.length<=b)->st.flatten.length<=b*st.length
 | [],_=>by simp
 |s::st,h=>by
  rw[BB,Ac,Ak,Nat.mul_succ]
  have:=h s (Ab ..)
  have:=ZK (st:=st) fun t ht=>h t (Ah _ ht)
  omega
theorem nf{st:List (List Sk)}(h:st.length<=256)(hs:∀s∈st,s.length<=256)(i:Nat):((st.take i).flatten).length<=65536:=by
 have h1:=ZK (b:=256) (st:=st.take i) fun s YY=>hs s (CY YY)
 have:(st.take i).length<=256:=by rw[Av];omega
 omega
theorem qB(hx:∀r∈x,Eu r)(hr:∀q∈roots,JT q)(hv:Gy x roots=true)(h0:A4 x=0)(h1:BI roots=0)(k:Nat)(infs:List Nf)(drv:List (List Tm))(dec:List Cd)(st:List (List Sk))(ho:EB x roots=⟨k,true,⟨infs,drv,false⟩,dec,st⟩)(hd:dec.length<=256)(hn:((AR dec).map (·.path)).Nodup)(Ku:st.length<=256)(hsk:∀s∈st,s.length<=256):PC 78 [Mo x ifs,sl Ba roots] (.tup [.agg (T4 ⟨true,D1 (AR dec),infs,st.flatten⟩),vi 0]):=by
 have Up:=zZ x ifs roots hx hr;rw[hv]at Up;refine Ps ql Tryz.func78 rfl (Nz rfl) (Yi ?_ ?_)
 .exact Nz rfl
 refine Xi .pure (Xi _ (Yi Up (cU [(1,sl Ba roots),(2,.ref 2 0),(4,.ref 4 0)] [(2,.ro (Ic x ifs)),(4,.cells [vb false,nzA,nzA,nzA])] Z3 Z2 (Yi ?_ ?_))))
 .exact Nz rfl
 refine Xi (.gen [] 5) (Yi rfl ((s29 x ifs roots hx h0).imp ?_));intro v g q;refine CN q (fun L q=>?_);have q1:=q.2.1;have q2:=q.2.2;have qp:=q.1;subst q1;subst q2;refine cU [(4,.ref 4 0),(6,.ref 11900 0)] [(4,.cells [vb false,nzA,nzA,nzA]),(11900,.cells [sl Ba roots,.cmap Cm (mC x),.cmap Cm (L.map (kA x)),.slice (.id 11901 6) [],.slice (.id 11902 1) [],.mref 11903,vb false,.slice .none [],.slice .none [],.msl 11904 0]),(11901,.tok 6 0),(11902,.tok 1 0),(11903,.map FI []),(11904,.arr 1 [])] Z2 Z6 (Xi (.gen [(11900,1000),(11901,1001),(11902,1002),(11903,1003),(11904,1004)] 1) (Yi rfl ((Vj hx hr h0 h1 qp ho).imp ?_)));intro v g q;have q1:=q.1;have q2:=q.2;subst q1;subst q2;refine cU [(4,.ref 4 0),(6,.ref 11900 0),(7,vi (k:Nat)),(8,vb true)] [(4,.cells [vb false,nzA,nzA,nzA]),(11900,.cells [sl Ba roots,.cmap Cm (mC x),.cmap Cm (L.map (kA x)),.slice (.id 11901 6) (infs.map Dq),.slice (.id 11902 1) (drv.map Dg),.mref 11903,vb false,sl AT dec,sl Am (AR dec),.msl 12200 st.length]),(11901,.tok 6 infs.length),(11902,.tok 1 drv.length),(11903,.map FI (FN 0 infs)),(12200,.arr 1 (st.map Bn))] Z4 Z6 (Yi (fun h=>by cases h) (fun _=>?_));refine cU [(4,.ref 4 0),(6,.ref 11900 0),(8,vb true)] [(4,.cells [vb false,nzA,nzA,nzA]),(11900,.cells [sl Ba roots,.cmap Cm (mC x),.cmap Cm (L.map (kA x)),.slice (.id 11901 6) (infs.map Dq),.slice (.id 11902 1) (drv.map Dg),.mref 11903,vb false,sl AT dec,sl Am (AR dec),.msl 12200 st.length]),(11901,.tok 6 infs.length),(11902,.tok 1 drv.length),(11903,.map FI (FN 0 infs)),(12200,.arr 1 (st.map Bn))] Z3 Z6 (cU [(4,.ref 4 0),(6,.ref 11900 0)] [(4,.cells [vb false,nzA,nzA,nzA]),(11900,.cells [sl Ba roots,.cmap Cm (mC x),.cmap Cm (L.map (kA x)),.slice (.id 11901 6) (infs.map Dq),.slice (.id 11902 1) (drv.map Dg),.mref 11903,vb false,sl AT dec,sl Am (AR dec),.msl 12200 st.length]),(11901,.tok 6 infs.length),(11902,.tok 1 drv.length),(11903,.map FI (FN 0 infs)),(12200,.arr 1 (st.map Bn))] Z2 Z6 ?_)
 have vF:(AR dec).length<=256:=by rw[Lm];exact hd
 have eH:B9 (AR dec):=AJ vF Cl;refine Xi (AR dec).length (Xi 4 (Xi ((AR dec).map Am) (Yi rfl (Yi (Adh (AR dec) eH) (Yi ?_ ?_)))))
 .exact Nz rfl
 refine Yi Wk (cU [(4,.ref 4 0),(6,.ref 11900 0),(9,.ref 9 0)] [(4,.cells [vb false,nzA,nzA,nzA]),(9,.cells [vb true,.msl 14400 (AR dec).length,.slice (.id 11901 6) (infs.map Dq),nzA]),(11900,.cells [sl Ba roots,.cmap Cm (mC x),.cmap Cm (L.map (kA x)),.slice (.id 11901 6) (infs.map Dq),.slice (.id 11902 1) (drv.map Dg),.mref 11903,vb false,sl AT dec,sl Am (AR dec),.msl 12200 st.length]),(11901,.tok 6 infs.length),(11902,.tok 1 drv.length),(11903,.map FI (FN 0 infs)),(12200,.arr 1 (st.map Bn)),(14400,.arr 4 ((AR dec).map Am))] Z3 Z8 (Xi (.gen [(14400,1000)] 0) (Yi rfl ((s47 139 Tryz.closure139 (enters_of Tryz.func139 Wk rfl) (AR dec) eH hn).imp ?_))));intro v g q;have q1:=q.1;have q2:=q.2;subst q1;subst q2;refine cU [(4,.ref 4 0),(6,.ref 11900 0),(9,.ref 9 0)] [(4,.cells [vb false,nzA,nzA,nzA]),(9,.cells [vb true,.msl 14400 (AR dec).length,.slice (.id 11901 6) (infs.map Dq),.slice (.id 95 3) []]),(95,.tok 3 0),(11900,.cells [sl Ba roots,.cmap Cm (mC x),.cmap Cm (L.map (kA x)),.slice (.id 11901 6) (infs.map Dq),.slice (.id 11902 1) (drv.map Dg),.mref 11903,vb false,sl AT dec,sl Am (AR dec),.msl 12200 st.length]),(11901,.tok 6 infs.length),(11902,.tok 1 drv.length),(11903,.map FI (FN 0 infs)),(12200,.arr 1 (st.map Bn)),(14400,.arr 4 ((D1 (AR dec)).map Am))] Z3 Z9 (Xi {i:Nat // i<=st.length} (Xi (fun i=>⟨[(4,.ref 4 0),(6,.ref 11900 0),(9,.ref 9 0),(56,.msl 12200 st.length),(57,vi (st.length:Nat)),(58,vi i.1)],[(4,.cells [vb false,nzA,nzA,nzA]),(9,.cells [vb true,.msl 14400 (AR dec).length,.slice (.id 11901 6) (infs.map Dq),.slice (.id 95 3) ((st.take i.1).flatten.map Cy)]),(95,.tok 3 ((st.take i.1).flatten.map Cy).length),(11900,.cells [sl Ba roots,.cmap Cm (mC x),.cmap Cm (L.map (kA x)),.slice (.id 11901 6) (infs.map Dq),.slice (.id 11902 1) (drv.map Dg),.mref 11903,vb false,sl AT dec,sl Am (AR dec),.msl 12200 st.length]),(11901,.tok 6 infs.length),(11902,.tok 1 drv.length),(11903,.map FI (FN 0 infs)),(12200,.arr 1 (st.map Bn)),(14400,.arr 4 ((D1 (AR dec)).map Am))],Af⟩) (Xi (fun i=>st.length-i.1) (Yi (Xi ⟨0,AE _⟩ ?_) ?_))))
 .exact⟨Z6,Z9,Fh,Tv⟩
 intro⟨i,i1⟩;refine Yi ?_ ?_
 .intro h;have h:(i:Int)<(st.length:Nat):=h;have h:i<st.length:=by omega
  have hg:st[i]?=some st[i]:=Ge h;have Lq:st.take (i+1)=st.take i++[st[i]]:=by rw[Bi,hg];rfl
  refine Yi (Yi (Nn i) (by show(i:Int)<(st.length:Nat);omega)) (Yi (by rw[Lm]) (Xi (Bn st[i]) (Yi (by show(st.map Bn)[((i:Nat):Int).toNat]?=_;rw[Cb,AG,hg];rfl) ?_)));refine cU [(4,.ref 4 0),(6,.ref 11900 0),(9,.ref 9 0),(11,sl Cy st[i]),(56,.msl 12200 st.length),(57,vi (st.length:Nat)),(58,vi i)] [(4,.cells [vb false,nzA,nzA,nzA]),(9,.cells [vb true,.msl 14400 (AR dec).length,.slice (.id 11901 6) (infs.map Dq),.slice (.id 95 3) ((st.take i).flatten.map Cy)]),(95,.tok 3 ((st.take i).flatten.map Cy).length),(11900,.cells [sl Ba roots,.cmap Cm (mC x),.cmap Cm (L.map (kA x)),.slice (.id 11901 6) (infs.map Dq),.slice (.id 11902 1) (drv.map Dg),.mref 11903,vb false,sl AT dec,sl Am (AR dec),.msl 12200 st.length]),(11901,.tok 6 infs.length),(11902,.tok 1 drv.length),(11903,.map FI (FN 0 infs)),(12200,.arr 1 (st.map Bn)),(14400,.arr 4 ((D1 (AR dec)).map Am))] Z7 Z9 ?_
  have hfl:((st.take i).flatten).length<=65536/\st[i].length<=256:=⟨nf Ku hsk i,hsk _ (Aq _)⟩;have Ho:Cn 3 (st[i].map Cy)/\((st.take i).flatten.map Cy).length=((st.take i).flatten.map Cy).length/\(((st.take i).flatten.map Cy).length+(st[i].map Cy).length)*32<=140737488355328/\((st.take i).flatten.map Cy).length+(st[i].map Cy).length<=9223372036854775807:=by
   refine⟨DZ (enc:=Cy) (n:=3) (fun _=>rfl) _,rfl,?_,?_⟩<;>simp only[Lm]<;>omega
  refine Yi Ho (Yi ?_ ?_)
  .exact Nz rfl
  have ef:((st.take i).flatten.map Cy)++st[i].map Cy=((st.take (i+1)).flatten.map Cy):=by rw[Lq,Cc,Ar];simp
  have en:((st.take i).flatten.map Cy).length+(st[i].map Cy).length=((st.take (i+1)).flatten.map Cy).length:=by rw[<-ef,Ac]
  refine cU [(4,.ref 4 0),(6,.ref 11900 0),(9,.ref 9 0),(56,.msl 12200 st.length),(57,vi (st.length:Nat)),(58,vi i)] [(4,.cells [vb false,nzA,nzA,nzA]),(9,.cells [vb true,.msl 14400 (AR dec).length,.slice (.id 11901 6) (infs.map Dq),.slice (.id 95 3) ((st.take (i+1)).flatten.map Cy)]),(95,.tok 3 ((st.take (i+1)).flatten.map Cy).length),(11900,.cells [sl Ba roots,.cmap Cm (mC x),.cmap Cm (L.map (kA x)),.slice (.id 11901 6) (infs.map Dq),.slice (.id 11902 1) (drv.map Dg),.mref 11903,vb false,sl AT dec,sl Am (AR dec),.msl 12200 st.length]),(11901,.tok 6 infs.length),(11902,.tok 1 drv.length),(11903,.map FI (FN 0 infs)),(12200,.arr 1 (st.map Bn)),(14400,.arr 4 ((D1 (AR dec)).map Am))] Z6 ⟨Zr,⟨Aa (fun z=>HO.cells [vb true,.msl 14400 (AR dec).length,.slice (.id 11901 6) (infs.map Dq),.slice (.id 95 3) z]) ef,rfl⟩,⟨Aa (HO.tok 3) en,rfl⟩,Zr,Zr,Zr,Zr,Zr,Zr,Tv⟩ (Yi (Ii i ch) (Xi ⟨i+1,by omega⟩ ?_));exact⟨Dl st.length i ch,Z6,Z9,Fh,Tv⟩
 .intro h;have h:¬(i:Int)<(st.length:Nat):=h;have et:st.take i=st:=As ch;have Sa:(AR dec).length=((D1 (AR dec)).map Am).length:=(Kl (AR dec)).length_eq.symm.trans (Lm ..).symm;refine Yi Sa (cU [(4,.ref 4 0),(9,.ref 9 0)] [(4,.cells [vb false,nzA,nzA,nzA]),(9,.cells [vb true,.slice (.id 14400 4) ((D1 (AR dec)).map Am),.slice (.id 11901 6) (infs.map Dq),.slice (.id 95 3) (st.flatten.map Cy)]),(95,.tok 3 (st.flatten.map Cy).length),(11901,.tok 6 infs.length),(14400,.tok 4 ((D1 (AR dec)).map Am).length)] Z2 ⟨Zr,⟨Aa (fun z:List (List Sk)=>HO.cells [vb true,.slice (.id 14400 4) ((D1 (AR dec)).map Am),.slice (.id 11901 6) (infs.map Dq),.slice (.id 95 3) (z.flatten.map Cy)]) et,rfl⟩,⟨Aa (fun z:List (List Sk)=>HO.tok 3 (z.flatten.map Cy).length) et,rfl⟩,Zr,Zr,Tv⟩ (Yi ?_ ?_))
  .exact Nz rfl
  refine Yi ?_ ?_
  .exact Nz rfl
  refine Yi ?_ ?_
  .exact Nz rfl
  exact .refl _
theorem Rt{s:SS}{b:List Cd}{p:ByteArray}{needs:List Nd}:∀{cs:List Cd} {sk:List Sk},Hv s b p needs cs sk->sk.length<=cs.length
 | [],sk,h=>by
  have h:sk=[]:=h;rw[h];exact Aj _
 |c::cs,sk,h=>by
  have h:if(needs.all fun n=>has n.rq.set c.place)=true then _ else _:=h
  by_cases hc:(needs.all fun n=>has n.rq.set c.place)=true
  .rw[Al hc]at h;obtain⟨k,rest,rfl,_,h3⟩:=h
   have:=Rt h3
   simp only[Ak];omega
  .rw[Ai hc]at h
   have:=Rt h
   simp only[Ak];omega
theorem Wx{x:List Rl}{roots:List Rq}{s:SS}:∀{t:List Cd} {sl:List (List Sk)} {b:List Cd},Tu x roots s b t sl->sl.length=t.length/\∀k∈sl,k.length<=x.length
 | [],[],_,_=>⟨rfl,fun _ h=>by cases h⟩
 | [],_::_,_,h=>h.elim
 |_::_,[],_,h=>h.elim
 |c::t,sk::sl,b,⟨⟨p,needs,pre,post,hs⟩,h⟩=>by
  obtain⟨h1,h2⟩:=Wx h;refine⟨by simp[h1],fun k hk=>?_⟩;rcases Az.1 hk with rfl | hk
  .have e1:=Rt hs.skips;have e2:=Wt x p;rw[hs.cands,Ac]at e2;omega
  .exact h2 k hk
theorem s21(hx:∀r∈x,Eu r)(hr:∀q∈roots,JT q):PC 78 [Mo x ifs,sl Ba roots] (ng x roots):=by
 unfold ng K4 Kj;cases hv:Gy x roots with
 |false=>simpa using qA x ifs roots hx hr hv
 |true =>
  obtain⟨h0,h1⟩:=bn hv;have hR:=Xp h0 h1;have rK:=(L3 h0).1;have hA:jY x roots=if(EB x roots).found=true then⟨true,D1 (AR (EB x roots).dec),(EB x roots).ss.infs,(EB x roots).stack.flatten⟩else⟨false,[],(EB x roots).ss.infs.take ((EB x roots).res+1),[]⟩:=rfl
  rw[hA];generalize ho:EB x roots=o at hR⊢;obtain⟨k,b,⟨infs,drv,full⟩,dec,st⟩:=o;have hl:infs.length<=65536:=hR.der.len;have hdl:drv.length=infs.length:=hR.der.dlen;cases b with
  |false =>
   cases full with
   |true=>simpa using m9 x ifs roots hx hr hv h0 h1 k infs drv dec st ho
   |false =>
    have hk:k<drv.length:=((hR.no rfl).2.2 rfl).1;simpa using ut x ifs roots hx hr hv h0 h1 k infs drv dec st ho ch hl
  |true =>
   obtain⟨hf,t,sl,e1,e2,hC,_⟩:=hR.yes rfl;subst hf;have e1:dec=[]++t:=e1;have e2:st=[]++sl:=e2;rw[FL]at e1 e2;subst e1;subst e2;have hD:ER x ([]++dec):=(Tu.ok (.nil x) (.nil roots) hC).1;rw[FL]at hD;have hdx:=Zs hD;obtain⟨c1,c2⟩:=Wx hC;have hn:((AR dec).map (·.path)).Nodup:=by rw[OA];exact hD.nodup
   simpa using qB x ifs roots hx hr hv h0 h1 k infs drv dec st ho ch hn ch (fun s hs=>AJ (c2 s hs) rK)
def Kw:Int:=if Kj x roots≠0 then Kj x roots else if(K4 x roots).found=true then 0 else 17
def EG:List Sl:=if Kw x roots=0 then(K4 x roots).sel else []
abbrev Acp:SB:=(pC [2] [])
theorem ur(a:An)(e:Int)(h:PC 78 [Mo x ifs,sl Ba roots] (.tup [.agg (T4 a),vi e])) :
  PC 37 [Mo x ifs,sl Ba roots] (.tup [if e≠0 then sl Am []else if a.found=true then sl Am a.sel else sl Am [],vi (if e≠0 then e else if a.found=true then 0 else 17)]):=by
 refine Ps Acp Tryz.func37 rfl (Nz rfl) (Yi ?_ ?_)
 .exact Nz rfl
 refine Xi .pure (Xi _ (Yi h (Yi ?_ ?_)))
 .exact Nz rfl
 refine Yi (fun he=>?_) (fun he=>?_)
 .have e1:AV.tup [sl Am [],vi e]=.tup [if e≠0 then sl Am []else if a.found=true then sl Am a.sel else sl Am [],vi (if e≠0 then e else if a.found=true then 0 else 17)]:=by rw[Al he,Al he]
  exact(show CZ (.tup [nzA,vi e]) (.tup [sl Am ([]:List Sl),vi e])from CZ.tup ⟨.nil,.refl _,trivial⟩).trans (.of_eq e1)
 .have he:e=0:=B3.1 he;have Dy:¬e≠0:=fun h=>h he;refine Yi (fun hb=>?_) (fun hb=>?_)
  .have e1:AV.tup [sl Am a.sel,vi 0]=.tup [if e≠0 then sl Am []else if a.found=true then sl Am a.sel else sl Am [],vi (if e≠0 then e else if a.found=true then 0 else 17)]:=by rw[Ai Dy,Ai Dy,Al hb,Al hb]
   exact .of_eq e1
  .have hb:¬a.found=true:=by rw[hb];decide
   have e1:AV.tup [sl Am [],vi 17]=.tup [if e≠0 then sl Am []else if a.found=true then sl Am a.sel else sl Am [],vi (if e≠0 then e else if a.found=true then 0 else 17)]:=by rw[Ai Dy,Ai Dy,Ai hb,Ai hb]
   exact(show CZ (.tup [nzA,vi 17]) (.tup [sl Am ([]:List Sl),vi 17])from CZ.tup ⟨.nil,.refl _,trivial⟩).trans (.of_eq e1)
theorem s16(hx:∀r∈x,Eu r)(hr:∀q∈roots,JT q):PC 37 [Mo x ifs,sl Ba roots] (.tup [sl Am (EG x roots),vi (Kw x roots)]):=by
 have h:=ur x ifs roots _ _ (s21 x ifs roots hx hr);have e1:(if Kj x roots≠0 then sl Am []else if(K4 x roots).found=true then sl Am (K4 x roots).sel else sl Am [])=sl Am (EG x roots):=by
  unfold EG Kw
  by_cases h1:Kj x roots=0
  .by_cases h2:(K4 x roots).found=true
   .simp[h1,h2]
   .simp[h1,h2]
  .simp[h1]
 have e2:(if Kj x roots≠0 then Kj x roots else if(K4 x roots).found=true then 0 else 17)=Kw x roots:=rfl;rw[e1,e2]at h;exact h
end Go.Eng
namespace Go.Eng
variable {x:List Rl}{p:Sl->Bool}{y:Bool}{l:List Rl}{j:Nat}
/-! The empty workspace, and a workspace twice. -/
theorem Zk(h:A4 l=0):l.length<=256:=by
 unfold A4 at h;split at h
 .cases h
 .omega
theorem Pk:∀{l:List Rl} {b:Option Rl},DL b l=0->∀r∈l,DS r=0
 | [],_,_,r,hr=>by cases hr
 |x::l,b,h,r,hr=>by
  unfold DL at h;split at h
  .rename_i h1;exact absurd h h1
  .rename_i h1;have h1:DS x=0:=B3.1 h1;have go:DL (some x) l=0:=by
    cases b with
    |none=>exact h
    |some b =>
     dsimp only at h;split at h
     .cases h
     .split at h
      .cases h
      .exact h
   rcases Az.1 hr with rfl | hr
   .exact h1
   .exact Pk go r hr
theorem Pj:∀{l:List Rl} {b:Option Rl},(∀r∈l,DS r=0)->l.Pairwise bw->(∀c,b=some c->∀r∈l,bw c r)->DL b l=0
 | [],_,_,_,_=>rfl
 |x::l,b,h,hp,hb=>by
  obtain⟨p1,p2⟩:=BL.1 hp;have ih:DL (some x) l=0:=Pj (fun r hr=>h r (Ah _ hr)) p2 (fun c e r hr=>by cases e;exact p1 r hr);unfold DL;rw[Ai (fun q=>q (h x (Ab ..)))];cases b with
  |none=>exact ih
  |some c =>
   have hl:=hb c rfl x (Ab ..);dsimp only;rw[Ai (fun q=>HD hl q),Ai (fun q=>by
    have:gJ (bx c) (bx x)<0:=Pm.2 hl
    have q:0<gJ (bx c) (bx x):=q;omega)]
   exact ih
theorem Zj:A4 l=0↔l.length<=256/\(∀r∈l,DS r=0)/\l.Pairwise bw:=by
 constructor
 .intro h;refine⟨Zk h,?_,(Cw h).2⟩;unfold A4 at h;split at h
  .cases h
  .exact Pk h
 .rintro⟨h1,h2,h3⟩
  unfold A4;rw[Ai ch];exact Pj h2 h3 (fun c e=>by cases e)
/-! What is merged. -/
/-! What a workspace makes of an index. -/
/-! What the solver selects. -/
theorem Qq{roots:List Rq}(h:Kw x roots=0):(∀z∈EG x roots,∃r∈x,bx r=z)/\(EG x roots).length<=x.length/\A4 x=0:=by
 have h0:=h;unfold Kw at h0;split at h0
 .rename_i hs;exact absurd h0 hs
 .rename_i hs;have hs:Kj x roots=0:=B3.1 hs;split at h0
  .rename_i hf;have hv:Gy x roots=true:=by
    cases e:Gy x roots with
    |true=>rfl
    |false=>unfold Kj at hs;rw[e]at hs;cases hs
   have ZV:(EB x roots).ss.full=false:=by
    cases e:(EB x roots).ss.full with
    |false=>rfl
    |true=>unfold Kj at hs;rw[hv,e]at hs;cases hs
   obtain⟨hx,hr⟩:=bn hv;have hA:K4 x roots=jY x roots:=by unfold K4;rw[Al ⟨hv,ZV⟩]
   rw[hA]at hf;have eG:(EB x roots).found=true:=by
    cases e:(EB x roots).found with
    |true=>rfl
    |false=>unfold jY at hf;rw[e]at hf;cases hf
   have Ac4:EG x roots=D1 (AR (EB x roots).dec):=by
    unfold EG;rw[Al h,hA];unfold jY;rw[Al eG]
   obtain⟨_,t,sl,y2,y3,y4,y5⟩:=(Xp hx hr).yes eG;have AbL:(EB x roots).dec∈MZ x roots (x.length+1) []:=List.mem_of_head? y5;have lf:=Rb (ER.nil x) (IZ.nil roots) _ AbL;rw[Ac4];refine⟨fun z hz=>?_,?_,hx⟩
   .rw[Gr]at hz;obtain⟨c,hc,rfl⟩:=Ag.1 hz;exact⟨c.rel,(lf.ok.cand c hc).1,rfl⟩
   .rw[(Kl _).length_eq,Lm]
    have:=Re (l:=(EB x roots).dec.map fun c=>c.rel) (m:=x) (cX (f:=fun r:Rl=>r.path) (by rw[Bo];exact lf.ok.nodup)) (fun r hr=>by
     obtain⟨c,hc,rfl⟩:=Ag.1 hr;exact(lf.ok.cand c hc).1)
    rwa [Lm]at this
  .cases h0
/-! Releases whose names satisfy p get Yanked. -/
def yk(y:Bool)(p:Sl->Bool)(x:List Rl):List Rl:=x.map fun r=>if p (bx r)=true then { r with yanked:=y }else r
section
variable {x:List Rl}{roots:List Rq}{y:Bool}{p:Sl->Bool}
theorem OR:(yk y p x).length=x.length:=Lm ..
end
/-! Law Keeps: which releases of the selection get yanked, one after the other. -/
section
variable {α:Type}(c:α->α->Int)
def Ki:Nat->List α->List α
 |0,l=>l
 |j+1,l=>match l[j+1]?,l[j]? with
  |some a,some b=>if c a b<0 then Ki j ((l.set (j+1) b).set j a)else l
  |_,_=>l
def D7(i:Nat)(l:List α):List α:=(List.range i).foldl (fun m i=>Ki c i m) l
theorem Xm:∀(j:Nat) (l:List α),(Ki c j l).length=l.length
 |0,_=>rfl
 |j+1,l=>by
  unfold Ki;split
  .split
   .rw[Xm j];simp
   .rfl
  .rfl
theorem Nt(i:Nat)(l:List α):D7 c (i+1) l=Ki c i (D7 c i l):=by
 unfold D7;rw[List.range_succ,Em];rfl
theorem lV(l:List α):D7 c 1 l=l:=rfl
theorem Lr:∀(i:Nat) (l:List α),(D7 c i l).length=l.length
 |0,_=>rfl
 |i+1,l=>by rw[Nt,Xm,Lr i]
theorem Xn:∀(j:Nat) (l:List α),∀x∈Ki c j l,x∈l
 |0,_,_,h=>h
 |j+1,l,x,h=>by
  unfold Ki at h;split at h
  .rename_i a b ha hb;split at h
   .have h:=Xn j _ x h;rcases Ff h with h | rfl
    .rcases Ff h with h | rfl
     .exact h
     .exact Aw hb
    .exact Aw ha
   .exact h
  .exact h
theorem MV:∀(i:Nat) (l:List α),∀x∈D7 c i l,x∈l
 |0,_,_,h=>h
 |i+1,l,x,h=>by rw[Nt]at h;exact MV i l x (Xn c i _ x h)
theorem dx{l:List α}{a b:α}(h0:0<j)(ha:l[j]?=some a)(hb:l[j-1]?=some b)(hc:c a b<0):Ki c j l=Ki c (j-1) ((l.set j b).set (j-1) a):=by
 obtain⟨k,rfl⟩:∃k,j=k+1:=⟨j-1,by omega⟩;have e:k+1-1=k:=rfl;simp only[e]at hb⊢;rw[Ki,ha,hb];exact Al hc
theorem Vi{l:List α}{a b:α}(h0:0<j)(ha:l[j]?=some a)(hb:l[j-1]?=some b)(hc:¬c a b<0):Ki c j l=l:=by
 obtain⟨k,rfl⟩:∃k,j=k+1:=⟨j-1,by omega⟩;have e:k+1-1=k:=rfl;simp only[e]at hb;rw[Ki,ha,hb];exact Ai hc
theorem WP{l:List α}(h:l.Pairwise fun a b=>¬c b a<0):∀i,i<=l.length->D7 c i l=l
 |0,_=>rfl
 |i+1,hi=>by
  rw[Nt,WP h i ch]
  by_cases h0:i=0
  .subst h0;rfl
  .exact Vi c ch (Ge hi) (Ge (show i-1<l.length by omega)) ((AX.1 h) (i-1) i ch hi ch)
end
theorem Sd(h:A4 x=0):D7 Ds x.length x=x:=by
 refine WP Ds ?_ _ (Aj _);refine(Cw h).2.imp fun {a b} cw hc=>?_;have h1:gJ (bx a) (bx b)<0:=Pm.2 cw;have h2:gJ (bx b) (bx a)<0:=hc;have h1:=Pm.1 h1;have h2:=Pm.1 h2;exact HD (WV h1 h2) rfl
theorem n6{P:Rl->Prop}(h:∀r∈x,P r/\P { r with yanked:=y }):∀r∈yk y p x,P r:=fun r hr=>by
 obtain⟨q,hq,rfl⟩:=Ag.1 hr;split
 .exact(h q hq).2
 .exact(h q hq).1
theorem rb(h:∀r∈x,Eu r):∀r∈yk y p x,Eu r:=n6 fun r hr=>⟨h r hr,h r hr⟩
theorem gg{i:Nat}(h:i<x.length):(yk y p (x.take i)++x.drop i).set i (if p (bx x[i])=true then { x[i]with yanked:=y }else x[i])=yk y p (x.take (i+1))++x.drop (i+1):=by
 rw[AH h,List.set_append_right _ _ (by rw[OR,Av];omega),OR,Av,show i-min i x.length=0 by omega,List.set_cons_zero];unfold yk;rw[Bi,Ge h,Ar,BA]
 rfl
theorem nZ{i:Nat}(h:i<x.length):(yk y p (x.take i)++x.drop i)[i]?=some x[i]:=by
 rw[AZ (by rw[OR,Av];omega),OR,Av,show i-min i x.length=0 by omega,AH h]
 rfl
end Go.Eng
namespace Go.Eng
open Go.Proofs
variable {x:List Rl}{i:Nat}{α:Type}(l:List Rl)
theorem lU(c:α->α->Int){l:List α}(h1:1<=i)(h2:i<=l.length\/i=1)(h3:l.length<=i):D7 c i l=D7 c l.length l:=by
 by_cases e:i=l.length
 .rw[e]
 .have e1:i=1:=by omega
  have e2:l.length=0:=by omega
  rw[e1,e2];rfl
theorem Ado(hl:B9 l):A9 Tryz.prog 196 [.msl 1000 l.length,vi 0,vi (l.length:Nat),.v (.func (.func 85) #[] #[])] (Ao [(1000,.arr 9 (l.map AF))] Af) fun r h'=>r=.tup []/\h'=Ao [(1000,.arr 9 ((D7 Ds l.length l).map AF))] Af:=by
 refine Cq (MK Ee) [(1000,1000)] rfl CQ hm rfl Tryz.func196 Wk rfl (Nz rfl) Wk rfl (Yi (Ii 0 ch) (Xi {q:Nat // 1<=q/\(q<=l.length\/q=1)} (Xi (fun q=>⟨[(0,.msl 1000 l.length),(1,vi 0),(2,vi (l.length:Nat)),(3,.v (.func (.func 85) #[] #[])),(8,vi q.1)],[(1000,.arr 9 ((D7 Ds q.1 l).map AF))],Af⟩) (Xi (fun q=>l.length+1-q.1) (Yi (Xi ⟨1,Aj _,.inr rfl⟩ ?_) ?_)))))
 .exact⟨Z5,⟨⟨(show HO.arr 9 (l.map AF)=.arr 9 ((D7 Ds 1 l).map AF) by rw[lV]),rfl⟩,Tv⟩,Fh,BN Wk⟩
 intro⟨i,i1,i2⟩;refine Yi (fun h1=>?_) (fun h1=>?_)
 .have h1:(i:Int)<((l.length:Nat):Int):=h1;have ni:i<l.length:=by omega
  refine Xi {q:Nat×List Rl // q.1<=i/\q.2.length=l.length/\Ki Ds q.1 q.2=D7 Ds (i+1) l} (Xi (fun q=>⟨[(0,.msl 1000 l.length),(1,vi 0),(2,vi (l.length:Nat)),(3,.v (.func (.func 85) #[] #[])),(8,vi i),(9,vi q.1.1)],[(1000,.arr 9 (q.1.2.map AF))],Af⟩) (Xi (fun q=>q.1.1) (Yi (Xi ⟨(i,D7 Ds i l),Aj _,Lr _ _ _,(Nt Ds i l).symm⟩ ?_) ?_)))
  .exact⟨Z6,Z1,Fh,BN Wk⟩
  intro⟨⟨j,N⟩,j1,j2,j3⟩;have j2:N.length=l.length:=j2;have j3:Ki Ds j N=D7 Ds (i+1) l:=j3;refine Yi (fun h2=>?_) (fun h2=>?_)
  .have h2:(0:Int)<(j:Int):=h2;have nj:j<N.length:=by omega
   have j0:0<j:=by omega
   have ej:((j-1:Int).toNat)=j-1:=by omega
   refine CN (show ∃a,N[j]?=some a from⟨_,Ge nj⟩) (fun a ga=>?_);refine CN (show ∃b,N[j-1]?=some b from⟨_,Ge ch⟩) (fun b gb=>?_);have gc:N[(j-1:Int).toNat]?=some b:=by rw[ej];exact gb
   refine Yi (by show(0:Int)<=j/\(j:Int)<(l.length:Nat);omega) (Yi (show l.length=(N.map AF).length by simp[j2]) (Xi (AF a) (Yi (Ed ga) (yN (Yi (by show A7 ((j:Int)-(1:Int));unfold A7;omega) (Yi (by show(0:Int)<=j-1/\(j-1:Int)<(l.length:Nat);omega) (Yi (show l.length=(N.map AF).length by simp[j2]) (Xi (AF b) (Yi (Ed gc) (yN (Xi _ (Yi (wg a b) (Yi (fun h3=>?_) (fun h3=>?_))))))))))))))
   .have h3:((Ds a b):Int)<(0:Int):=h3;refine Yi Wk (Yi (by show A7 ((j:Int)-(1:Int));unfold A7;omega) (Yi (by show A7 ((j:Int)-(1:Int));unfold A7;omega) (Yi (by show(0:Int)<=j-1/\(j-1:Int)<(l.length:Nat);omega) (Yi (show l.length=(N.map AF).length by simp[j2]) (Xi (AF b) (Yi (Ed gc) (yN (Yi (by show(0:Int)<=j/\(j:Int)<(l.length:Nat);omega) (Yi (show l.length=(N.map AF).length by simp[j2]) (Xi (AF a) (Yi (Ed ga) (yN (Yi (by show(0:Int)<=j/\(j:Int)<(l.length:Nat);omega) (Yi (show l.length=(N.map AF).length by simp[j2]) (Xi (AF a) (Yi (Ed ga) (yN (Yi (by show(0:Int)<=j-1/\(j-1:Int)<(l.length:Nat);omega) (Yi (show l.length=(((N.map AF).set j (AF b)):List (List AV)).length by simp[j2]) (Xi (AF b) (Yi ((List.getElem?_set_ne ch).trans (Ed gc)) (yN ?_))))))))))))))))))))));refine Yi Wk (Yi (by show A7 ((j:Int)-(1:Int));unfold A7;omega) (Xi ⟨(j-1,(N.set j b).set (j-1) a),by omega,by rw[Dd,Dd];exact j2,by rw[<-j3,dx Ds j0 ga gb h3]⟩ ?_));exact⟨by show(j-1:Nat)<j;omega,⟨Zr,Zr,Zr,Zr,Zr,⟨(Aa vi (show(j:Int)-1=((j-1:Nat):Int) by omega)),rfl⟩,Tv⟩,⟨⟨(show HO.arr 9 (((N.map AF).set j (AF b)).set ((j-1:Int).toNat) (AF a))=.arr 9 (((N.set j b).set (j-1) a).map AF) by rw[ej,Oh,Oh]),rfl⟩,Tv⟩,Fh,BN Wk⟩
   have h3:¬(((Ds a b):Int)<(0:Int)):=h3;refine Yi Wk (Yi (Ii i ch) ?_);have eN:N=D7 Ds (i+1) l:=by rw[<-j3];exact(Vi Ds j0 ga gb h3).symm
   refine Xi ⟨i+1,by omega,.inl ni⟩ ?_;exact⟨by show l.length+1-(i+1)<l.length+1-i;omega,Z5,⟨⟨(show HO.arr 9 (N.map AF)=.arr 9 ((D7 Ds (i+1) l).map AF) by rw[eN]),rfl⟩,Tv⟩,Fh,BN Wk⟩
  have h2:¬((0:Int)<(j:Int)):=h2;refine Yi Wk (Yi (Ii i ch) ?_);have eN:N=D7 Ds (i+1) l:=by rw[<-j3];exact(show Ki Ds j N=N by rw[show j=0 by omega];rfl).symm
  refine Xi ⟨i+1,by omega,.inl ni⟩ ?_;exact⟨by show l.length+1-(i+1)<l.length+1-i;omega,Z5,⟨⟨(show HO.arr 9 (N.map AF)=.arr 9 ((D7 Ds (i+1) l).map AF) by rw[eN]),rfl⟩,Tv⟩,Fh,BN Wk⟩
 have h1:¬((i:Int)<((l.length:Nat):Int)):=h1;exact Xi _ (Yi (.refl _) ⟨rfl,show Ao [(1000,HO.arr 9 ((D7 Ds i l).map AF))] Af=Ao [(1000,.arr 9 ((D7 Ds l.length l).map AF))] Af from Aa (fun z=>Ao [(1000,HO.arr 9 (z.map AF))] Af) (lU Ds i1 i2 ch)⟩)
theorem Adn(hl:l.length<=19):A9 Tryz.prog 143 [.msl 1000 l.length,vi (l.length:Nat),.v (.func (.func 85) #[] #[])] (Ao [(1000,.arr 9 (l.map AF))] Af) fun r h'=>r=.tup []/\h'=Ao [(1000,.arr 9 ((D7 Ds l.length l).map AF))] Af:=by
 refine Cq (MK Ee) [(1000,1000)] rfl CQ hm rfl Tryz.func143 Wk rfl (Nz rfl) Wk rfl (Xi {q:Nat // q=0} (Xi (fun q=>⟨[(0,.msl 1000 l.length),(1,vi (l.length:Nat)),(2,.v (.func (.func 85) #[] #[])),(6,vi 20),(7,vi 0),(8,vi 20)],[(1000,.arr 9 (l.map AF))],Af⟩) (Xi (fun q=>q.1) (Yi (Xi ⟨0,rfl⟩ ?_) ?_))))
 .exact⟨Z6,Z1,Fh,BN Wk⟩
 intro⟨i,i1⟩;refine Yi (fun h1=>?_) (fun h1=>?_)
 .exact absurd h1 ch
 refine Xi (.gen [(1000,1000)] 0) (Yi rfl (A9.to2 (Ado l (by unfold B9;omega)) ?_));refine Xi {q:Nat // q=0} (Xi (fun q=>⟨[(0,.msl 1000 l.length),(1,vi (l.length:Nat)),(2,.v (.func (.func 85) #[] #[])),(6,vi 20)],[(1000,.arr 9 ((D7 Ds l.length l).map AF))],Af⟩) (Xi (fun q=>q.1) (Yi (Xi ⟨0,rfl⟩ ?_) ?_)))
 .exact⟨Z4,Z1,Fh,BN Wk⟩
 intro⟨i,i1⟩;refine Yi (fun h2=>?_) (fun h2=>?_)
 .exact absurd h2 ch
 exact Xi _ (Yi (.refl _) Zr)
theorem v105(hl:l.length<=19):A9 Tryz.prog 84 [.msl 1000 l.length,.v (.func (.func 85) #[] #[])] (Ao [(1000,.arr 9 (l.map AF))] Af) fun r h'=>r=.tup []/\h'=Ao [(1000,.arr 9 ((D7 Ds l.length l).map AF))] Af:=by
 refine Cq (MK Ee) [(1000,1000)] rfl CQ hm rfl Tryz.func84 Wk rfl (Nz rfl) Wk rfl (Xi (.gen [(1000,1000)] 0) (Yi rfl (A9.to2 (Adn l hl) ?_)));exact Xi _ (Yi (.refl _) Zr)
theorem Adq(x:List Rl)(hx:x.length<=19)(hc:∀r∈x,PC 83 [.agg (AF r)] (.agg (AF r)))(hk:A9 Tryz.prog 86 [.agg [.msl 1000 ((D7 Ds x.length x).map AF).length,nzA]] (Ao [(1000,.arr 9 ((D7 Ds x.length x).map AF))] Af) fun r h'=>r=vi 0/\h'=Ao [(1000,.arr 9 ((D7 Ds x.length x).map AF))] Af):A9 Tryz.prog 43 [sl AF x] (Ao [] Af) fun r h'=>r=.tup [.msl 2000 ((D7 Ds x.length x).map AF).length,vi 0]/\h'=Ao [(2000,.arr 9 ((D7 Ds x.length x).map AF))] Af:=by
 refine Cq (MK ⟨[],[],[(4,9)],[],[],[],[],[],[],[],[7,8]⟩) [(4,2000)] rfl CQ hm rfl Tryz.func43 Wk rfl (Nz rfl) Wk rfl (Xi {q:Nat // q<=x.length} (Xi (fun q=>⟨[(4,.msl 4 (x.take q.1).length),(8,sl AF x),(9,vi (x.map AF).length),(10,vi q.1)],[(4,.arr 9 ((x.take q.1).map AF))],Af⟩) (Xi (fun q=>x.length-q.1) (Yi (Xi ⟨0,AE _⟩ ?_) ?_))))
 .exact⟨Z4,Z1,Fh,BN Wk⟩
 intro⟨i,i1⟩;refine Yi (fun h1=>?_) (fun h1=>?_)
 .have h1:(i:Int)<((x.map AF).length:Int):=h1;have n1:=FW h1;refine Xi (AF x[i]) (Yi (LH n1) (Yi rfl (yN (yN (yN (Xi .pure (Xi _ (Yi (hc x[i] (Aq n1)) ?_))))))));have b2:Cn 9 [(AF x[i])]/\((x.take i).map AF).length=(x.take i).length/\(((x.take i).map AF).length+([(AF x[i])]:List (List AV)).length)*120<=140737488355328/\((x.take i).map AF).length+([(AF x[i])]:List (List AV)).length<=9223372036854775807:=⟨⟨rfl,trivial⟩,(by rw[Lm]),(by simp only[Lm,Ak,At,Av];omega),(by simp only[Lm,Ak,At,Av];omega)⟩;refine Yi b2 (Yi (Ii i ch) (Xi ⟨i+1,n1⟩ ?_));exact⟨Dl x.length i ch,⟨⟨(show AV.msl 4 (((x.take i).map AF).length+([AF x[i]]:List (List AV)).length)=.msl 4 (x.take (i+1)).length by rw[Ej n1,Ac,Lm];rfl),rfl⟩,Zr,Zr,Zr,Tv⟩,⟨⟨(show HO.arr 9 ((x.take i).map AF++[AF x[i]])=.arr 9 ((x.take (i+1)).map AF) by rw[Ej n1,Ar];rfl),rfl⟩,Tv⟩,Fh,BN Wk⟩
 have h1:¬((i:Int)<((x.map AF).length:Int)):=h1;have n1:=DT h1;have ei:x.take i=x:=As ch;refine Xi ⟨[(4,.msl 4 x.length)],[(4,.arr 9 (x.map AF))],Af⟩ (Yi ⟨⟨⟨(show AV.msl 4 (x.take i).length=.msl 4 x.length by rw[ei]),rfl⟩,trivial⟩,⟨⟨(show HO.arr 9 ((x.take i).map AF)=.arr 9 (x.map AF) by rw[ei]),rfl⟩,trivial⟩,fun _=>.inl rfl,BN Wk⟩ ?_)
 refine Xi (.gen [(4,1000)] 0) (Yi rfl (A9.to2 (v105 x hx) ?_));refine cU [(4,.msl 4 ((D7 Ds x.length x).map AF).length)] [(4,.arr 9 ((D7 Ds x.length x).map AF))] ⟨⟨(show AV.msl 4 x.length=.msl 4 ((D7 Ds x.length x).map AF).length by rw[Lm,Lr]),rfl⟩,Tv⟩ Z1 ?_
 refine Xi (.gen [(4,1000)] 0) (Yi rfl (A9.to2 hk ?_));refine Yi (fun h=>absurd h Cl) (fun _=>?_);exact Xi _ (Yi (.refl _) Zr)
theorem Adp(x:List Rl)(hx:x.length<=19)(hc:∀r∈x,PC 83 [.agg (AF r)] (.agg (AF r)))(c:Int)(wZ:c≠0)(hk:A9 Tryz.prog 86 [.agg [.msl 1000 ((D7 Ds x.length x).map AF).length,nzA]] (Ao [(1000,.arr 9 ((D7 Ds x.length x).map AF))] Af) fun r h'=>r=vi c/\h'=Ao [(1000,.arr 9 ((D7 Ds x.length x).map AF))] Af):PC 43 [sl AF x] (.tup [nzA,vi c]):=by
 refine Ps ⟨[],[],[(4,9)],[],[],[],[],[],[],[],[7,8]⟩ Tryz.func43 rfl (Nz rfl) (Xi {q:Nat // q<=x.length} (Xi (fun q=>⟨[(4,.msl 4 (x.take q.1).length),(8,sl AF x),(9,vi (x.map AF).length),(10,vi q.1)],[(4,.arr 9 ((x.take q.1).map AF))],Af⟩) (Xi (fun q=>x.length-q.1) (Yi (Xi ⟨0,AE _⟩ ?_) ?_))))
 .exact⟨Z4,Z1,Fh,Tv⟩
 intro⟨i,i1⟩;refine Yi (fun h1=>?_) (fun h1=>?_)
 .have h1:(i:Int)<((x.map AF).length:Int):=h1;have n1:=FW h1;refine Xi (AF x[i]) (Yi (LH n1) (Yi rfl (yN (yN (yN (Xi .pure (Xi _ (Yi (hc x[i] (Aq n1)) ?_))))))));have b2:Cn 9 [(AF x[i])]/\((x.take i).map AF).length=(x.take i).length/\(((x.take i).map AF).length+([(AF x[i])]:List (List AV)).length)*120<=140737488355328/\((x.take i).map AF).length+([(AF x[i])]:List (List AV)).length<=9223372036854775807:=⟨⟨rfl,trivial⟩,(by rw[Lm]),(by simp only[Lm,Ak,At,Av];omega),(by simp only[Lm,Ak,At,Av];omega)⟩;refine Yi b2 (Yi (Ii i ch) (Xi ⟨i+1,n1⟩ ?_));exact⟨Dl x.length i ch,⟨⟨(show AV.msl 4 (((x.take i).map AF).length+([AF x[i]]:List (List AV)).length)=.msl 4 (x.take (i+1)).length by rw[Ej n1,Ac,Lm];rfl),rfl⟩,Zr,Zr,Zr,Tv⟩,⟨⟨(show HO.arr 9 ((x.take i).map AF++[AF x[i]])=.arr 9 ((x.take (i+1)).map AF) by rw[Ej n1,Ar];rfl),rfl⟩,Tv⟩,Fh,Tv⟩
 have h1:¬((i:Int)<((x.map AF).length:Int)):=h1;have n1:=DT h1;have ei:x.take i=x:=As ch;refine cU [(4,.msl 4 x.length)] [(4,.arr 9 (x.map AF))] ⟨⟨(show AV.msl 4 (x.take i).length=.msl 4 x.length by rw[ei]),rfl⟩,Tv⟩ ⟨⟨(show HO.arr 9 ((x.take i).map AF)=.arr 9 (x.map AF) by rw[ei]),rfl⟩,Tv⟩ ?_
 refine Xi (.gen [(4,1000)] 0) (Yi rfl (A9.to2 (v105 x hx) ?_));refine cU [(4,.msl 4 ((D7 Ds x.length x).map AF).length)] [(4,.arr 9 ((D7 Ds x.length x).map AF))] ⟨⟨(show AV.msl 4 x.length=.msl 4 ((D7 Ds x.length x).map AF).length by rw[Lm,Lr]),rfl⟩,Tv⟩ Z1 ?_
 refine Xi (.gen [(4,1000)] 0) (Yi rfl (A9.to2 hk ?_));refine Yi (fun h4=>?_) (fun h4=>?_)
 .exact .refl _
 have h4:(c:Int)=(0:Int):=AL h4;exact absurd h4 wZ
theorem bc{β:Type}{f:α->β}{N:List α}{r:α}(h:N[i]?=some r):N.map f=(N.set i r).map f:=by
 obtain⟨hi,rfl⟩:=Au.1 h;rw[List.set_getElem_self]
theorem YV{y:Bool}{p:Sl->Bool}:(yk y p (x.take i)++x.drop i).length=x.length:=by
 rw[Ac,OR,Av,Dc];omega
structure Tx(x:List Rl):Prop where
 len:x.length<=16
 few:∀r∈x,Eu r
structure VY(x:List Rl):Prop where
 len:x.length<=19
 few:∀r∈x,Eu r
theorem Tx.to19(h:Tx x):VY x:=⟨AJ h.len Cl,h.few⟩
theorem u7(hf:∀r∈x,Eu r):PC 86 [.agg [sl AF x,nzA]] (vi (A4 x)):=(vq VH x [] hf).args ⟨.agg ⟨.refl _,.nil,trivial⟩,trivial⟩
theorem Adu(h:VY x)(hr:∀r∈x,r.reqs.length<=1000)(hc:A4 (D7 Ds x.length x)=0):A9 Tryz.prog 43 [sl AF x] Af fun r h'=>r=.tup [.msl 2000 x.length,vi 0]/\h'=Ao [(2000,.arr 9 ((D7 Ds x.length x).map AF))] Af:=by
 have hk:=IY.lend (sz:=9) (es:=(D7 Ds x.length x).map AF) (vs:=[.slice none 0 0]) (u7 (x:=D7 Ds x.length x) fun r hr=>h.few r (MV Ds _ _ r hr));rw[hc]at hk;have q:=Adq x h.len (fun r hm=>zr r (hr r hm) fun q hq=>((h.few r hm).2 q hq).1) hk;rw[show((D7 Ds x.length x).map AF).length=x.length by rw[Lm,Lr]]at q;exact q
theorem J7(l:List Sl):EW l=true↔∀j (h:j<l.length),0<j->Ea (l[j-1]' ch).path l[j].path=true:=by
 constructor
 .intro h j hj h0;exact(AX.1 (Oy h).1) (j-1) j ch hj ch
 .intro h;refine lR (AX.2 fun i j hi hj PO=>?_);have key:∀d (hd:i+d+1<l.length),Ea l[i].path (l[i+d+1]'hd).path=true:=fun d=>by
   induction d with
   |zero=>intro hd;exact h (i+1) hd ch
   |succ d ih=>intro hd;exact D2 (ih ch) (h (i+d+1+1) hd ch)
  have:=key (j-i-1) ch
  simp only[show i+(j-i-1)+1=j by omega]at this;exact this
end Go.Eng
