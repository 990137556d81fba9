/- Lemmas for the claims of this seat, without a condition: part 28 (S19, S20, O18, O19, O21, V0, V1, V2, V5, V6, V7). -/
import Derived.Test.YtddfphmpfnmknaaGreatDoorA27
set_option maxHeartbeats 4000000
namespace Go.Eng
open Go.Proofs
abbrev jT:Ro:=⟨[2],[],[],[],[],[],[],[(50,(9,3,95,3))],[(44,0)],[(100016,1009)],[3,4,5,6,7,8,9,10,11,14,15,16]⟩
abbrev an0:An:=⟨false,[],[],[]⟩
def L7(x:List Rl)(roots:List Rq):An:=if Gy x roots=true∧(FA x roots).ss.full=false then oz x roots else an0
def L8(x:List Rl)(roots:List Rq):Int:=if Gy x roots=true then if(FA x roots).ss.full=true then 7 else 0 else 1
abbrev gF(x:List Rl)(roots:List Rq):AV:=.tup [.agg (RL (L7 x roots)),vi (L8 x roots)]
theorem Hg.an0{v:AV}:Hg (.tup [.agg [vb false,.v (.slice none 0 0),.v (.slice none 0 0),.v (.slice none 0 0)],v]) (.tup [.agg (RL an0),v]) :=
 Hg.tup ⟨Hg.agg ⟨.refl _,.nil,.nil,.nil,trivial⟩,.refl _,trivial⟩
theorem Tg{x:List Rl}{roots:List Rq}(hx:∀r∈x,JL r)(hr:∀q∈roots,NJ q)(h0:AU x=0)(h1:BL roots=0){L:List ByteArray}(hl:L.Perm (AO (yR x) [])){o:JN}(ho:FA x roots=o) :
  A3 Tryz.prog 65 [.ref 1000 0] (Aj (IV roots (mC x) (L.map (kA x)) r9 [] []) Aa) (X1 roots (mC x) (L.map (kA x)) o):=by
 rw[←ho];exact wa (md hx hr h0 h1 hl) (x.length+1) (.nil x) (IC.nil roots) ⟨⟨rfl,AL _⟩,E2⟩ rfl (Nat.lt_succ_of_le (BA _ _)) rfl
theorem gW{x:List Rl}{roots:List Rq}(h:Gy x roots=true):AU x=0∧BL roots=0:=by
 unfold Gy at h;rw[Ae,Au,Au]at h;exact h
theorem kc(x:List Rl)(ifs:List (List AV))(roots:List Rq)(hx:∀r∈x,JL r)(hr:∀q∈roots,NJ q)(hv:Gy x roots=false):PC 43 [GP x ifs,sl AI roots] (.tup [.agg (RL an0),vi 1]):=by
 have Sg:=r5 x ifs roots hx hr;rw[hv]at Sg;refine Ps jT Tryz.func43 rfl (Nz rfl) ?_;refine Yi ?_ ?_
 ·exact Nz rfl
 refine Xi .pure (Xi _ (Yi Sg ?_));refine Yi ?_ ?_
 ·exact Nz rfl
 refine Yi ?_ ?_
 ·exact Nz rfl
 exact Hg.an0
theorem gA(x:List Rl)(ifs:List (List AV))(roots:List Rq)(hx:∀r∈x,JL r)(hr:∀q∈roots,NJ q)(hv:Gy x roots=true)(h0:AU x=0)(h1:BL roots=0)(k:Nat)(infs:List Nf)(drv:List (List Tm))(dec:List Cd)(st:List (List Sk))(ho:FA x roots=⟨k,false,⟨infs,drv,true⟩,dec,st⟩):PC 43 [GP x ifs,sl AI roots] (.tup [.agg (RL an0),vi 7]):=by
 have Sg:=r5 x ifs roots hx hr;rw[hv]at Sg;refine Ps jT Tryz.func43 rfl (Nz rfl) ?_;refine Yi ?_ ?_
 ·exact Nz rfl
 refine Xi .pure (Xi _ (Yi Sg ?_));refine Xi ⟨[(1,sl AI roots),(2,.ref 2 0),(4,.ref 4 0)],[(2,.ro (Ic x ifs)),(4,.cells [vb false,.v (.slice none 0 0),.v (.slice none 0 0),.v (.slice none 0 0)])],Aa⟩ (Yi ⟨Z3,Z2,Fh,Tv⟩ ?_)
 refine Yi ?_ ?_
 ·exact Nz rfl
 refine Xi (.gen [] 5) (Yi rfl ((vY x ifs roots hx h0).imp ?_));intro v g q;refine CC q (fun L q=>?_);have q1:=q.2.1;have q2:=q.2.2;have qp:=q.1;subst q1;subst q2;refine Xi ⟨[(4,.ref 4 0),(6,.ref 11900 0)],[(4,.cells [vb false,.v (.slice none 0 0),.v (.slice none 0 0),.v (.slice none 0 0)]),(11900,.cells [sl AI roots,.cmap CM (mC x),.cmap CM (L.map (kA x)),.slice (.id 11901 6) [],.slice (.id 11902 1) [],.mref 11903,vb false,.slice .none [],.slice .none [],.msl 11904 0]),(11901,.tok 6 0),(11902,.tok 1 0),(11903,.map DQ []),(11904,.arr 1 [])],Aa⟩ (Yi ⟨Z2,Z6,Fh,Tv⟩ ?_)
 refine Xi (.gen [(11900,1000),(11901,1001),(11902,1002),(11903,1003),(11904,1004)] 1) (Yi rfl ((Tg hx hr h0 h1 qp ho).imp ?_));intro v g q;have q1:=q.1;have q2:=q.2;subst q1;subst q2;refine Xi ⟨[(4,.ref 4 0),(6,.ref 11900 0),(7,vi (k:Nat)),(8,vb false)],[(4,.cells [vb false,.v (.slice none 0 0),.v (.slice none 0 0),.v (.slice none 0 0)]),(11900,.cells [sl AI roots,.cmap CM (mC x),.cmap CM (L.map (kA x)),.slice (.id 11901 6) (infs.map BQ),.slice (.id 11902 1) (drv.map B2),.mref 11903,vb true,sl AB dec,sl Af (AJ dec),.msl 12200 st.length]),(11901,.tok 6 infs.length),(11902,.tok 1 drv.length),(11903,.map DQ (DT 0 infs)),(12200,.arr 1 (st.map AQ))],Aa⟩ (Yi ⟨Z4,Z6,Fh,Tv⟩ ?_)
 refine Yi (fun _=>?_) (fun h=>by cases h);refine Xi ⟨[(4,.ref 4 0)],[(4,.cells [vb false,.v (.slice none 0 0),.v (.slice none 0 0),.v (.slice none 0 0)])],Aa⟩ (Yi ⟨Z1,Z1,Fh,Tv⟩ ?_)
 refine Yi ?_ ?_
 ·exact Nz rfl
 refine Yi ?_ ?_
 ·exact Nz rfl
 exact Hg.an0
theorem nv(x:List Rl)(ifs:List (List AV))(roots:List Rq)(hx:∀r∈x,JL r)(hr:∀q∈roots,NJ q)(hv:Gy x roots=true)(h0:AU x=0)(h1:BL roots=0)(k:Nat)(infs:List Nf)(drv:List (List Tm))(dec:List Cd)(st:List (List Sk))(ho:FA x roots=⟨k,false,⟨infs,drv,false⟩,dec,st⟩)(hk:k<infs.length)(hl:infs.length≤65536):PC 43 [GP x ifs,sl AI roots] (.tup [.agg (RL ⟨false,[],infs.take (k+1),[]⟩),vi 0]):=by
 have Sg:=r5 x ifs roots hx hr;rw[hv]at Sg;refine Ps jT Tryz.func43 rfl (Nz rfl) ?_;refine Yi ?_ ?_
 ·exact Nz rfl
 refine Xi .pure (Xi _ (Yi Sg ?_));refine Xi ⟨[(1,sl AI roots),(2,.ref 2 0),(4,.ref 4 0)],[(2,.ro (Ic x ifs)),(4,.cells [vb false,.v (.slice none 0 0),.v (.slice none 0 0),.v (.slice none 0 0)])],Aa⟩ (Yi ⟨Z3,Z2,Fh,Tv⟩ ?_)
 refine Yi ?_ ?_
 ·exact Nz rfl
 refine Xi (.gen [] 5) (Yi rfl ((vY x ifs roots hx h0).imp ?_));intro v g q;refine CC q (fun L q=>?_);have q1:=q.2.1;have q2:=q.2.2;have qp:=q.1;subst q1;subst q2;refine Xi ⟨[(4,.ref 4 0),(6,.ref 11900 0)],[(4,.cells [vb false,.v (.slice none 0 0),.v (.slice none 0 0),.v (.slice none 0 0)]),(11900,.cells [sl AI roots,.cmap CM (mC x),.cmap CM (L.map (kA x)),.slice (.id 11901 6) [],.slice (.id 11902 1) [],.mref 11903,vb false,.slice .none [],.slice .none [],.msl 11904 0]),(11901,.tok 6 0),(11902,.tok 1 0),(11903,.map DQ []),(11904,.arr 1 [])],Aa⟩ (Yi ⟨Z2,Z6,Fh,Tv⟩ ?_)
 refine Xi (.gen [(11900,1000),(11901,1001),(11902,1002),(11903,1003),(11904,1004)] 1) (Yi rfl ((Tg hx hr h0 h1 qp ho).imp ?_));intro v g q;have q1:=q.1;have q2:=q.2;subst q1;subst q2;refine Xi ⟨[(4,.ref 4 0),(6,.ref 11900 0),(7,vi (k:Nat)),(8,vb false)],[(4,.cells [vb false,.v (.slice none 0 0),.v (.slice none 0 0),.v (.slice none 0 0)]),(11900,.cells [sl AI roots,.cmap CM (mC x),.cmap CM (L.map (kA x)),.slice (.id 11901 6) (infs.map BQ),.slice (.id 11902 1) (drv.map B2),.mref 11903,vb false,sl AB dec,sl Af (AJ dec),.msl 12200 st.length]),(11901,.tok 6 infs.length),(11902,.tok 1 drv.length),(11903,.map DQ (DT 0 infs)),(12200,.arr 1 (st.map AQ))],Aa⟩ (Yi ⟨Z4,Z6,Fh,Tv⟩ ?_)
 refine Yi (fun h=>by cases h) (fun _=>?_);refine Xi ⟨[(4,.ref 4 0),(6,.ref 11900 0),(7,vi (k:Nat)),(8,vb false)],[(4,.cells [vb false,.v (.slice none 0 0),.v (.slice none 0 0),.v (.slice none 0 0)]),(11900,.cells [sl AI roots,.cmap CM (mC x),.cmap CM (L.map (kA x)),.slice (.id 11901 6) (infs.map BQ),.slice (.id 11902 1) (drv.map B2),.mref 11903,vb false,sl AB dec,sl Af (AJ dec),.msl 12200 st.length]),(11901,.tok 6 infs.length),(11902,.tok 1 drv.length),(11903,.map DQ (DT 0 infs)),(12200,.arr 1 (st.map AQ))],Aa⟩ (Yi ⟨Z4,Z6,Fh,Tv⟩ ?_)
 refine Xi ⟨[(4,.ref 4 0),(6,.ref 11900 0),(7,vi (k:Nat))],[(4,.cells [vb false,.v (.slice none 0 0),.v (.slice none 0 0),.v (.slice none 0 0)]),(11900,.cells [sl AI roots,.cmap CM (mC x),.cmap CM (L.map (kA x)),.slice (.id 11901 6) (infs.map BQ),.slice (.id 11902 1) (drv.map B2),.mref 11903,vb false,sl AB dec,sl Af (AJ dec),.msl 12200 st.length]),(11901,.tok 6 infs.length),(11902,.tok 1 drv.length),(11903,.map DQ (DT 0 infs)),(12200,.arr 1 (st.map AQ))],Aa⟩ (Yi ⟨Z3,Z6,Fh,Tv⟩ ?_)
 refine Yi (Ii k (by omega)) ?_;have el:(infs.map BQ).length=infs.length:=Lm ..;refine Yi ⟨BO _,by show(0:Int)≤(k:Int)+1;omega,by show(k:Int)+1≤((infs.map BQ).length:Int);rw[el];omega⟩ ?_;refine Yi (fun cs hcs=>by obtain⟨i,_,rfl⟩:=Ak.1 hcs;rfl) ?_;refine Yi ?_ ?_
 ·exact Nz rfl
 refine Yi ?_ ?_
 ·exact Nz rfl
 have et:((infs.map BQ).take ((k:Int)+1).toNat).drop (0:Int).toNat=(infs.take (k+1)).map BQ:=by
  rw[show((k:Int)+1).toNat=k+1 by omega];simp
 exact Hg.tup ⟨Hg.agg ⟨.refl _,.nil,.of_eq (show AV.slice .none (((infs.map BQ).take ((k:Int)+1).toNat).drop (0:Int).toNat)=_ by rw[et]),.nil,trivial⟩,.refl _,trivial⟩
theorem Ux(y:Sl):∀l:List Sl,(TT y l).Perm (y::l)
 | []=>.refl _
 |z::l=>by
  unfold TT;split
  ·exact .refl _
  ·exact((Ux y l).cons z).trans (List.Perm.swap y z l)
theorem Th:∀l:List Sl,(FP l).Perm l
 | []=>.refl _
 |y::l=>(Ux y _).trans ((Th l).cons y)
theorem WS{b:Nat}:∀{st:List (List Sk)},(∀s∈st,s.length≤b)→st.flatten.length≤b*st.length
 | [],_=>by simp
 |s::st,h=>by
  rw[Bv,Ad,Ay,Nat.mul_succ]
  have:=h s (Ab ..)
  have:=WS (st:=st) fun t ht=>h t (Ah _ ht)
  omega
theorem gE{st:List (List Sk)}(h:st.length≤256)(hs:∀s∈st,s.length≤256)(i:Nat):((st.take i).flatten).length≤65536:=by
 have h1:=WS (b:=256) (st:=st.take i) fun s Wg=>hs s (Ek Wg)
 have:(st.take i).length≤256:=by rw[AE];omega
 omega
theorem kd(x:List Rl)(ifs:List (List AV))(roots:List Rq)(hx:∀r∈x,JL r)(hr:∀q∈roots,NJ q)(hv:Gy x roots=true)(h0:AU x=0)(h1:BL roots=0)(k:Nat)(infs:List Nf)(drv:List (List Tm))(dec:List Cd)(st:List (List Sk))(ho:FA x roots=⟨k,true,⟨infs,drv,false⟩,dec,st⟩)(hd:dec.length≤256)(hn:((AJ dec).map (·.path)).Nodup)(Ja:st.length≤256)(xp:∀s∈st,s.length≤256):PC 43 [GP x ifs,sl AI roots] (.tup [.agg (RL ⟨true,FP (AJ dec),infs,st.flatten⟩),vi 0]):=by
 have Sg:=r5 x ifs roots hx hr;rw[hv]at Sg;refine Ps jT Tryz.func43 rfl (Nz rfl) ?_;refine Yi ?_ ?_
 ·exact Nz rfl
 refine Xi .pure (Xi _ (Yi Sg ?_));refine Xi ⟨[(1,sl AI roots),(2,.ref 2 0),(4,.ref 4 0)],[(2,.ro (Ic x ifs)),(4,.cells [vb false,.v (.slice none 0 0),.v (.slice none 0 0),.v (.slice none 0 0)])],Aa⟩ (Yi ⟨Z3,Z2,Fh,Tv⟩ ?_)
 refine Yi ?_ ?_
 ·exact Nz rfl
 refine Xi (.gen [] 5) (Yi rfl ((vY x ifs roots hx h0).imp ?_));intro v g q;refine CC q (fun L q=>?_);have q1:=q.2.1;have q2:=q.2.2;have qp:=q.1;subst q1;subst q2;refine Xi ⟨[(4,.ref 4 0),(6,.ref 11900 0)],[(4,.cells [vb false,.v (.slice none 0 0),.v (.slice none 0 0),.v (.slice none 0 0)]),(11900,.cells [sl AI roots,.cmap CM (mC x),.cmap CM (L.map (kA x)),.slice (.id 11901 6) [],.slice (.id 11902 1) [],.mref 11903,vb false,.slice .none [],.slice .none [],.msl 11904 0]),(11901,.tok 6 0),(11902,.tok 1 0),(11903,.map DQ []),(11904,.arr 1 [])],Aa⟩ (Yi ⟨Z2,Z6,Fh,Tv⟩ ?_)
 refine Xi (.gen [(11900,1000),(11901,1001),(11902,1002),(11903,1003),(11904,1004)] 1) (Yi rfl ((Tg hx hr h0 h1 qp ho).imp ?_));intro v g q;have q1:=q.1;have q2:=q.2;subst q1;subst q2;refine Xi ⟨[(4,.ref 4 0),(6,.ref 11900 0),(7,vi (k:Nat)),(8,vb true)],[(4,.cells [vb false,.v (.slice none 0 0),.v (.slice none 0 0),.v (.slice none 0 0)]),(11900,.cells [sl AI roots,.cmap CM (mC x),.cmap CM (L.map (kA x)),.slice (.id 11901 6) (infs.map BQ),.slice (.id 11902 1) (drv.map B2),.mref 11903,vb false,sl AB dec,sl Af (AJ dec),.msl 12200 st.length]),(11901,.tok 6 infs.length),(11902,.tok 1 drv.length),(11903,.map DQ (DT 0 infs)),(12200,.arr 1 (st.map AQ))],Aa⟩ (Yi ⟨Z4,Z6,Fh,Tv⟩ ?_)
 refine Yi (fun h=>by cases h) (fun _=>?_);refine Xi ⟨[(4,.ref 4 0),(6,.ref 11900 0),(8,vb true)],[(4,.cells [vb false,.v (.slice none 0 0),.v (.slice none 0 0),.v (.slice none 0 0)]),(11900,.cells [sl AI roots,.cmap CM (mC x),.cmap CM (L.map (kA x)),.slice (.id 11901 6) (infs.map BQ),.slice (.id 11902 1) (drv.map B2),.mref 11903,vb false,sl AB dec,sl Af (AJ dec),.msl 12200 st.length]),(11901,.tok 6 infs.length),(11902,.tok 1 drv.length),(11903,.map DQ (DT 0 infs)),(12200,.arr 1 (st.map AQ))],Aa⟩ (Yi ⟨Z3,Z6,Fh,Tv⟩ ?_)
 refine Xi ⟨[(4,.ref 4 0),(6,.ref 11900 0)],[(4,.cells [vb false,.v (.slice none 0 0),.v (.slice none 0 0),.v (.slice none 0 0)]),(11900,.cells [sl AI roots,.cmap CM (mC x),.cmap CM (L.map (kA x)),.slice (.id 11901 6) (infs.map BQ),.slice (.id 11902 1) (drv.map B2),.mref 11903,vb false,sl AB dec,sl Af (AJ dec),.msl 12200 st.length]),(11901,.tok 6 infs.length),(11902,.tok 1 drv.length),(11903,.map DQ (DT 0 infs)),(12200,.arr 1 (st.map AQ))],Aa⟩ (Yi ⟨Z2,Z6,Fh,Tv⟩ ?_)
 have n9:(AJ dec).length≤256:=by rw[Lm];exact hd
 have Zu:CJ (AJ dec):=Br n9 (by decide);refine Xi (AJ dec).length (Xi 4 (Xi ((AJ dec).map Af) (Yi rfl (Yi (wd (AJ dec) Zu) ?_))));refine Yi ?_ ?_
 ·exact Nz rfl
 refine Yi (by kernel_rfl) ?_;refine Xi ⟨[(4,.ref 4 0),(6,.ref 11900 0),(9,.ref 9 0)],[(4,.cells [vb false,.v (.slice none 0 0),.v (.slice none 0 0),.v (.slice none 0 0)]),(9,.cells [vb true,.msl 14400 (AJ dec).length,.slice (.id 11901 6) (infs.map BQ),.v (.slice none 0 0)]),(11900,.cells [sl AI roots,.cmap CM (mC x),.cmap CM (L.map (kA x)),.slice (.id 11901 6) (infs.map BQ),.slice (.id 11902 1) (drv.map B2),.mref 11903,vb false,sl AB dec,sl Af (AJ dec),.msl 12200 st.length]),(11901,.tok 6 infs.length),(11902,.tok 1 drv.length),(11903,.map DQ (DT 0 infs)),(12200,.arr 1 (st.map AQ)),(14400,.arr 4 ((AJ dec).map Af))],Aa⟩ (Yi ⟨Z3,Z8,Fh,Tv⟩ ?_)
 refine Xi (.gen [(14400,1000)] 0) (Yi rfl ((zZ 68 Tryz.closure68 (enters_of Tryz.func68 (by kernel_rfl) rfl) (AJ dec) Zu hn).imp ?_));intro v g q;have q1:=q.1;have q2:=q.2;subst q1;subst q2;refine Xi ⟨[(4,.ref 4 0),(6,.ref 11900 0),(9,.ref 9 0)],[(4,.cells [vb false,.v (.slice none 0 0),.v (.slice none 0 0),.v (.slice none 0 0)]),(9,.cells [vb true,.msl 14400 (AJ dec).length,.slice (.id 11901 6) (infs.map BQ),.slice (.id 95 3) []]),(95,.tok 3 0),(11900,.cells [sl AI roots,.cmap CM (mC x),.cmap CM (L.map (kA x)),.slice (.id 11901 6) (infs.map BQ),.slice (.id 11902 1) (drv.map B2),.mref 11903,vb false,sl AB dec,sl Af (AJ dec),.msl 12200 st.length]),(11901,.tok 6 infs.length),(11902,.tok 1 drv.length),(11903,.map DQ (DT 0 infs)),(12200,.arr 1 (st.map AQ)),(14400,.arr 4 ((FP (AJ dec)).map Af))],Aa⟩ (Yi ⟨Z3,Z9,Fh,Tv⟩ ?_)
 refine Xi {i:Nat // i≤st.length} (Xi (fun i=>⟨[(4,.ref 4 0),(6,.ref 11900 0),(9,.ref 9 0),(56,.msl 12200 st.length),(57,vi (st.length:Nat)),(58,vi i.1)],[(4,.cells [vb false,.v (.slice none 0 0),.v (.slice none 0 0),.v (.slice none 0 0)]),(9,.cells [vb true,.msl 14400 (AJ dec).length,.slice (.id 11901 6) (infs.map BQ),.slice (.id 95 3) ((st.take i.1).flatten.map BM)]),(95,.tok 3 ((st.take i.1).flatten.map BM).length),(11900,.cells [sl AI roots,.cmap CM (mC x),.cmap CM (L.map (kA x)),.slice (.id 11901 6) (infs.map BQ),.slice (.id 11902 1) (drv.map B2),.mref 11903,vb false,sl AB dec,sl Af (AJ dec),.msl 12200 st.length]),(11901,.tok 6 infs.length),(11902,.tok 1 drv.length),(11903,.map DQ (DT 0 infs)),(12200,.arr 1 (st.map AQ)),(14400,.arr 4 ((FP (AJ dec)).map Af))],Aa⟩) (Xi (fun i=>st.length-i.1) (Yi (Xi ⟨0,AL _⟩ ?_) ?_)))
 ·exact⟨Z6,Z9,Fh,Tv⟩
 intro⟨i,i1⟩;have i1:i≤st.length:=i1;refine Yi ?_ ?_
 ·intro h;have h:(i:Int)<(st.length:Nat):=h;have h:i<st.length:=by omega
  have hg:st[i]?=some st[i]:=Ge h;have Km:st.take (i+1)=st.take i++[st[i]]:=by rw[Bi,hg];rfl
  refine Yi (Yi (Nn i) (by show(i:Int)<(st.length:Nat);omega)) ?_;refine Yi (by rw[Lm]) (Xi (AQ st[i]) (Yi (by show(st.map AQ)[((i:Nat):Int).toNat]?=_;rw[Cg,AF,hg];rfl) ?_));refine Xi ⟨[(4,.ref 4 0),(6,.ref 11900 0),(9,.ref 9 0),(11,sl BM st[i]),(56,.msl 12200 st.length),(57,vi (st.length:Nat)),(58,vi i)],[(4,.cells [vb false,.v (.slice none 0 0),.v (.slice none 0 0),.v (.slice none 0 0)]),(9,.cells [vb true,.msl 14400 (AJ dec).length,.slice (.id 11901 6) (infs.map BQ),.slice (.id 95 3) ((st.take i).flatten.map BM)]),(95,.tok 3 ((st.take i).flatten.map BM).length),(11900,.cells [sl AI roots,.cmap CM (mC x),.cmap CM (L.map (kA x)),.slice (.id 11901 6) (infs.map BQ),.slice (.id 11902 1) (drv.map B2),.mref 11903,vb false,sl AB dec,sl Af (AJ dec),.msl 12200 st.length]),(11901,.tok 6 infs.length),(11902,.tok 1 drv.length),(11903,.map DQ (DT 0 infs)),(12200,.arr 1 (st.map AQ)),(14400,.arr 4 ((FP (AJ dec)).map Af))],Aa⟩ (Yi ⟨Z7,Z9,Fh,Tv⟩ ?_)
  have hfl:((st.take i).flatten).length≤65536∧st[i].length≤256:=⟨gE Ja xp i,xp _ (Ax _)⟩;have G9:Df 3 (st[i].map BM)∧((st.take i).flatten.map BM).length=((st.take i).flatten.map BM).length∧(((st.take i).flatten.map BM).length+(st[i].map BM).length)*32≤140737488355328∧((st.take i).flatten.map BM).length+(st[i].map BM).length≤9223372036854775807:=by
   refine⟨Fa (enc:=BM) (n:=3) (fun _=>rfl) _,rfl,?_,?_⟩<;>simp only[Lm]<;>omega
  refine Yi G9 ?_;refine Yi ?_ ?_
  ·exact Nz rfl
  have ef:((st.take i).flatten.map BM)++st[i].map BM=((st.take (i+1)).flatten.map BM):=by rw[Km,Cv,Az];simp
  have en:((st.take i).flatten.map BM).length+(st[i].map BM).length=((st.take (i+1)).flatten.map BM).length:=by rw[←ef,Ad]
  refine Xi ⟨[(4,.ref 4 0),(6,.ref 11900 0),(9,.ref 9 0),(56,.msl 12200 st.length),(57,vi (st.length:Nat)),(58,vi i)],[(4,.cells [vb false,.v (.slice none 0 0),.v (.slice none 0 0),.v (.slice none 0 0)]),(9,.cells [vb true,.msl 14400 (AJ dec).length,.slice (.id 11901 6) (infs.map BQ),.slice (.id 95 3) ((st.take (i+1)).flatten.map BM)]),(95,.tok 3 ((st.take (i+1)).flatten.map BM).length),(11900,.cells [sl AI roots,.cmap CM (mC x),.cmap CM (L.map (kA x)),.slice (.id 11901 6) (infs.map BQ),.slice (.id 11902 1) (drv.map B2),.mref 11903,vb false,sl AB dec,sl Af (AJ dec),.msl 12200 st.length]),(11901,.tok 6 infs.length),(11902,.tok 1 drv.length),(11903,.map DQ (DT 0 infs)),(12200,.arr 1 (st.map AQ)),(14400,.arr 4 ((FP (AJ dec)).map Af))],Aa⟩ (Yi ⟨Z6,⟨Zr,⟨Ac (fun z=>HO.cells [vb true,.msl 14400 (AJ dec).length,.slice (.id 11901 6) (infs.map BQ),.slice (.id 95 3) z]) ef,rfl⟩,⟨Ac (HO.tok 3) en,rfl⟩,Zr,Zr,Zr,Zr,Zr,Zr,Tv⟩,Fh,Tv⟩ ?_)
  refine Yi (Ii i (by omega)) ?_;refine Xi ⟨i+1,by omega⟩ ?_;exact⟨Dl st.length i (by omega),Z6,Z9,Fh,Tv⟩
 ·intro h;have h:¬(i:Int)<(st.length:Nat):=h;have et:st.take i=st:=AD (by omega);have Wh:(AJ dec).length=((FP (AJ dec)).map Af).length:=(Th (AJ dec)).length_eq.symm.trans (Lm ..).symm;refine Yi Wh ?_;refine Xi ⟨[(4,.ref 4 0),(9,.ref 9 0)],[(4,.cells [vb false,.v (.slice none 0 0),.v (.slice none 0 0),.v (.slice none 0 0)]),(9,.cells [vb true,.slice (.id 14400 4) ((FP (AJ dec)).map Af),.slice (.id 11901 6) (infs.map BQ),.slice (.id 95 3) (st.flatten.map BM)]),(95,.tok 3 (st.flatten.map BM).length),(11901,.tok 6 infs.length),(14400,.tok 4 ((FP (AJ dec)).map Af).length)],Aa⟩ (Yi ⟨Z2,⟨Zr,⟨Ac (fun z:List (List Sk)=>HO.cells [vb true,.slice (.id 14400 4) ((FP (AJ dec)).map Af),.slice (.id 11901 6) (infs.map BQ),.slice (.id 95 3) (z.flatten.map BM)]) et,rfl⟩,⟨Ac (fun z:List (List Sk)=>HO.tok 3 (z.flatten.map BM).length) et,rfl⟩,Zr,Zr,Tv⟩,Fh,Tv⟩ ?_)
  refine Yi ?_ ?_
  ·exact Nz rfl
  refine Yi ?_ ?_
  ·exact Nz rfl
  refine Yi ?_ ?_
  ·exact Nz rfl
  exact .refl _
theorem PA{s:SS}{b:List Cd}{p:ByteArray}{needs:List Nd}:∀{cs:List Cd} {sk:List Sk},GH s b p needs cs sk→sk.length≤cs.length
 | [],sk,h=>by
  have h:sk=[]:=h;rw[h];exact Al _
 |c::cs,sk,h=>by
  have h:if(needs.all fun n=>has n.rq.set c.place)=true then _ else _:=h
  by_cases hc:(needs.all fun n=>has n.rq.set c.place)=true
  ·rw[Aq hc]at h;obtain⟨k,rest,rfl,_,h3⟩:=h
   have:=PA h3
   simp only[Ay];omega
  ·rw[Ai hc]at h
   have:=PA h
   simp only[Ay];omega
theorem Ug{x:List Rl}{roots:List Rq}{s:SS}:∀{t:List Cd} {sl:List (List Sk)} {b:List Cd},Rh x roots s b t sl→sl.length=t.length∧∀k∈sl,k.length≤x.length
 | [],[],_,_=>⟨rfl,fun _ h=>by cases h⟩
 | [],_::_,_,h=>h.elim
 |_::_,[],_,h=>h.elim
 |c::t,sk::sl,b,⟨⟨p,needs,pre,post,hs⟩,h⟩=>by
  obtain⟨h1,h2⟩:=Ug h;refine⟨by simp[h1],fun k hk=>?_⟩;rcases Av.1 hk with rfl | hk
  ·have e1:=PA hs.skips;have e2:=Ud x p;rw[hs.cands,Ad]at e2;omega
  ·exact h2 k hk
theorem zY(x:List Rl)(ifs:List (List AV))(roots:List Rq)(hx:∀r∈x,JL r)(hr:∀q∈roots,NJ q):PC 43 [GP x ifs,sl AI roots] (gF x roots):=by
 unfold gF L7 L8;cases hv:Gy x roots with
 |false=>simpa using kc x ifs roots hx hr hv
 |true =>
  obtain⟨h0,h1⟩:=gW hv;have hR:=ct h0 h1;have kV:=(Nm h0).1;have hA:oz x roots=if(FA x roots).found=true then⟨true,FP (AJ (FA x roots).dec),(FA x roots).ss.infs,(FA x roots).stack.flatten⟩else⟨false,[],(FA x roots).ss.infs.take ((FA x roots).res+1),[]⟩:=rfl
  rw[hA];generalize ho:FA x roots=o at hR⊢;obtain⟨k,b,⟨infs,drv,full⟩,dec,st⟩:=o;have hl:infs.length≤65536:=hR.der.len;have hdl:drv.length=infs.length:=hR.der.dlen;cases b with
  |false =>
   cases full with
   |true=>simpa using gA x ifs roots hx hr hv h0 h1 k infs drv dec st ho
   |false =>
    have hk:k<drv.length:=((hR.no rfl).2.2 rfl).1;simpa using nv x ifs roots hx hr hv h0 h1 k infs drv dec st ho (by omega) hl
  |true =>
   obtain⟨hf,t,sl,e1,e2,hC,_⟩:=hR.yes rfl;have hf:full=false:=hf;subst hf;have e1:dec=[]++t:=e1;have e2:st=[]++sl:=e2;rw[Fp]at e1 e2;subst e1;subst e2;have hD:Ey x ([]++dec):=(Rh.ok (.nil x) (.nil roots) hC).1;rw[Fp]at hD;have hdx:=WD hD;obtain⟨c1,c2⟩:=Ug hC;have hn:((AJ dec).map (·.path)).Nodup:=by rw[No];exact hD.nodup
   simpa using kd x ifs roots hx hr hv h0 h1 k infs drv dec st ho (by omega) hn (by omega) (fun s hs=>Br (c2 s hs) kV)
def HI(x:List Rl)(roots:List Rq):Int:=if L8 x roots≠0 then L8 x roots else if(L7 x roots).found=true then 0 else 17
def Ky(x:List Rl)(roots:List Rq):List Sl:=if HI x roots=0 then(L7 x roots).sel else []
abbrev uX:Ro:=⟨[2],[],[],[],[],[],[],[],[],[],[]⟩
theorem nu(x:List Rl)(ifs:List (List AV))(roots:List Rq)(a:An)(e:Int)(h:PC 43 [GP x ifs,sl AI roots] (.tup [.agg (RL a),vi e])) :
  PC 17 [GP x ifs,sl AI roots] (.tup [if e≠0 then sl Af []else if a.found=true then sl Af a.sel else sl Af [],vi (if e≠0 then e else if a.found=true then 0 else 17)]):=by
 refine Ps uX Tryz.func17 rfl (Nz rfl) ?_;refine Yi ?_ ?_
 ·exact Nz rfl
 refine Xi .pure (Xi _ (Yi h ?_));refine Yi ?_ ?_
 ·exact Nz rfl
 refine Yi (fun he=>?_) (fun he=>?_)
 ·have he:¬e=0:=he;have e1:AV.tup [sl Af [],vi e]=.tup [if e≠0 then sl Af []else if a.found=true then sl Af a.sel else sl Af [],vi (if e≠0 then e else if a.found=true then 0 else 17)]:=by rw[Aq he,Aq he]
  exact(show Hg (.tup [.v (.slice none 0 0),vi e]) (.tup [sl Af ([]:List Sl),vi e])from Hg.tup ⟨.nil,.refl _,trivial⟩).trans (.of_eq e1)
 ·have he:e=0:=B6.1 he;have Dt:¬e≠0:=fun h=>h he;refine Yi (fun hb=>?_) (fun hb=>?_)
  ·have hb:a.found=true:=hb;have e1:AV.tup [sl Af a.sel,vi 0]=.tup [if e≠0 then sl Af []else if a.found=true then sl Af a.sel else sl Af [],vi (if e≠0 then e else if a.found=true then 0 else 17)]:=by rw[Ai Dt,Ai Dt,Aq hb,Aq hb]
   exact .of_eq e1
  ·have hb:a.found=false:=hb;have hb:¬a.found=true:=by rw[hb];decide
   have e1:AV.tup [sl Af [],vi 17]=.tup [if e≠0 then sl Af []else if a.found=true then sl Af a.sel else sl Af [],vi (if e≠0 then e else if a.found=true then 0 else 17)]:=by rw[Ai Dt,Ai Dt,Ai hb,Ai hb]
   exact(show Hg (.tup [.v (.slice none 0 0),vi 17]) (.tup [sl Af ([]:List Sl),vi 17])from Hg.tup ⟨.nil,.refl _,trivial⟩).trans (.of_eq e1)
theorem xP(x:List Rl)(ifs:List (List AV))(roots:List Rq)(hx:∀r∈x,JL r)(hr:∀q∈roots,NJ q):PC 17 [GP x ifs,sl AI roots] (.tup [sl Af (Ky x roots),vi (HI x roots)]):=by
 have h:=nu x ifs roots _ _ (zY x ifs roots hx hr);have e1:(if L8 x roots≠0 then sl Af []else if(L7 x roots).found=true then sl Af (L7 x roots).sel else sl Af [])=sl Af (Ky x roots):=by
  unfold Ky HI
  by_cases h1:L8 x roots=0
  ·by_cases h2:(L7 x roots).found=true
   ·simp[h1,h2]
   ·simp[h1,h2]
  ·simp[h1]
 have e2:(if L8 x roots≠0 then L8 x roots else if(L7 x roots).found=true then 0 else 17)=HI x roots:=rfl;rw[e1,e2]at h;exact h
instance:DecidableEq Mv:=fun x y=>decidable_of_iff (x.path=y.path∧x.a=y.a∧x.b=y.b) ⟨fun⟨h1,h2,h3⟩=>by cases x;cases y;simp_all,fun h=>by subst h;exact⟨rfl,rfl,rfl⟩⟩
theorem qv{a b:Mv}(h:a.path=b.path∧a.a=b.a∧a.b=b.b∧True):a=b:=by cases a;cases b;simp_all
theorem qw{a b:Mv}(h:¬(a.path=b.path∧a.a=b.a∧a.b=b.b∧True)):a≠b:=fun e=>h (by subst e;exact⟨rfl,rfl,rfl,trivial⟩)
theorem zM(a b:List Mv)(ha:CJ a):PC 30 [sl DS a,sl DS b] (vb (decide (a=b))):=by
 have rE:a.length≤1073741824:=ha;refine Ps ⟨[],[],[],[],[],[],[],[],[],[],[7,8]⟩ Tryz.func30 rfl (Nz rfl) ?_;refine Yi (fun h1=>?_) (fun h1=>?_)
 ·have h1:((a.map DS).length:Int)≠((b.map DS).length:Int):=h1;exact .of_eq (show vb false=vb (decide (a=b)) by rw[At (fun e=>absurd (Ac (fun z=>((z.map DS).length:Int)) e) h1)])
 have h1:((a.map DS).length:Int)=((b.map DS).length:Int):=AR h1;have hl:a.length=b.length:=by have q:=h1;rw[Lm,Lm]at q;omega
 refine Xi {q:Nat // q≤a.length∧∀j (hj:j<a.length),j<q→a[j]=b[j]'(hl▸hj)} (Xi (fun q=>⟨[(0,sl DS a),(1,sl DS b),(12,vi (a.map DS).length),(13,vi q.1)],[],Aa⟩) (Xi (fun q=>a.length-q.1) (Yi (Xi ⟨0,AL _,fun _ _ h=>absurd h (Jo _)⟩ ?_) ?_)))
 ·exact⟨Z4,Tv,Fh,Tv⟩
 intro⟨i,i1,i2⟩;have i1:i≤a.length:=i1;have i2:∀j (hj:j<a.length),j<i→a[j]=b[j]'(hl▸hj):=i2;refine Yi (fun h3=>?_) (fun h3=>?_)
 ·have h3:(i:Int)<((a.map DS).length:Int):=h3;have n3:=LR h3;have ig:i<b.length:=by have q:=h3;rw[Lm]at q;omega
  refine Xi (DS a[i]) (Yi (Sy n3) (Yi rfl ?_));refine Yi (Nz rfl) ?_;refine Xi (DS b[i]) (Yi (Sy ig) (Yi rfl ?_));refine Yi (Nz rfl) ?_;refine Yi (fun h4=>?_) (fun h4=>?_)
  ·have h4:(a[i].path:ByteArray)=b[i].path∧(a[i].a:Int)=b[i].a∧(a[i].b:Int)=b[i].b∧True:=h4;refine Yi (by kernel_rfl) ?_;refine Xi ⟨[(0,sl DS a),(1,sl DS b),(12,vi (a.map DS).length),(13,vi i)],[],Aa⟩ (Yi ⟨Z4,Tv,Fh,Tv⟩ ?_)
   refine Yi (Ii i (by omega)) ?_;refine Xi ⟨i+1,n3,fun j hj MF=>if e:j<i then i2 j hj e else by
     have e:j=i:=by omega
     subst e;exact qv h4⟩ ?_
   exact⟨Dl a.length i (by omega),Z4,Tv,Fh,Tv⟩
  have h4:¬((a[i].path:ByteArray)=b[i].path∧(a[i].a:Int)=b[i].a∧(a[i].b:Int)=b[i].b∧True):=h4;refine Yi (by kernel_rfl) ?_;refine Xi ⟨[],[],Aa⟩ (Yi ⟨Tv,Tv,Fh,Tv⟩ ?_)
  exact .of_eq (show vb false=vb (decide (a=b)) by rw[At (Zc (i:=i) (ha:=n3) (hb:=ig) (qw h4))])
 have h3:¬((i:Int)<((a.map DS).length:Int)):=h3;have n3:=LQ h3;exact .of_eq (show vb true=vb (decide (a=b)) by rw[AA (VK hl fun j hj=>i2 j hj (by have q:=h3;rw[Lm]at q;omega))])
abbrev pb:ByteArray:=⟨#[98,47,118,49]⟩
end Go.Eng
namespace Go.Eng
/-! The empty workspace, and a workspace twice. -/
/-! What is merged. -/
/-! What a workspace makes of an index. -/
/-! What the solver selects. -/
section
variable {x:List Rl}{roots:List Rq}
end
/-! Releases whose names satisfy p get Yanked. -/
def yk(y:Bool)(p:Sl→Bool)(x:List Rl):List Rl:=x.map fun r=>if p (Dn r)=true then { r with yanked:=y }else r
section
variable {x:List Rl}{roots:List Rq}{y:Bool}{p:Sl→Bool}
theorem Mb:(yk y p x).length=x.length:=Lm ..
theorem nL(r:Rl):Dn (if p (Dn r)=true then { r with yanked:=y }else r)=Dn r:=by split<;>rfl
theorem lq:∀(x:List Rl) (b b' : Option Rl),b.map Dn=b'.map Dn→DG b (yk y p x)=DG b' x
 | [],_,_,_=>rfl
 |r::x,b,b',h=>by
  show DG b ((if p (Dn r)=true then { r with yanked:=y }else r)::yk y p x)=_;have hk:=nL (y:=y) (p:=p) r;have hc:DD (if p (Dn r)=true then { r with yanked:=y }else r)=DD r:=by split<;>rfl
  generalize (if p (Dn r)=true then({ r with yanked:=y }:Rl)else r)=r' at hk hc⊢;have ih:=lq x (some r') (some r) (Ac some hk);unfold DG;rw[hc,ih];cases b with
  |none=>cases b' with
   |none=>rfl
   |some _=>cases h
  |some c=>cases b' with
   |none=>cases h
   |some c' =>
    have h:Dn c=Dn c':=Cr h;have h1:Fc c=Fc c':=h;have h2:Fc r'=Fc r:=hk;have h3:Dy c r'=Dy c' r:=by
     show aK (Dn c) (Dn r')=aK (Dn c') (Dn r);rw[h,hk]
    dsimp only;rw[h1,h2,h3]
theorem XU:AU (yk y p x)=AU x:=by
 unfold AU;rw[Mb,lq x none none rfl]
end
section
variable {x:List Rl}{roots:List Rq}{p:Sl→Bool}
end
abbrev IG(s:Sl):Sl→Bool:=fun z=>decide (z=s)
def Cz(x:List Rl)(s:Sl)(y:Bool):Int:=if AU x≠0 then 1 else match DJ x s with
 |none=>6
 |some r=>if r.yanked=y then 8 else 0
def CF(x:List Rl)(s:Sl)(y:Bool):List Rl:=if Cz x s y=0 then yk y (IG s) x else []
def JD(x:List Rl)(l:List Sl):Int:=if AU x≠0∨FK l=false then 1 else 0
section
variable {x:List Rl}{s:Sl}{y:Bool}
theorem ZK(hx:AU x=0){a b:Rl}(ha:a∈x)(hb:b∈x)(h:Dn a=Dn b):a=b:=by
 have h1:=HT hx ha;have h2:=HT hx hb;rw[show Fc a=Fc b from h]at h1;exact Cr (h1.symm.trans h2)
theorem WO(hx:AU x=0)(h:DJ x s=none):∀r∈x,Dn r≠s:=fun r hr e=>by
 have:=HT hx hr
 rw[show Fc r=s from e,h]at this;cases this
theorem gC(h:Cz x s y=0):AU x=0∧∃r,DJ x s=some r∧r∈x∧Dn r=s∧r.yanked≠y:=by
 unfold Cz at h;split at h
 ·cases h
 ·rename_i h1;refine⟨B6.1 h1,?_⟩;cases e:DJ x s with
  |none=>rw[e]at h;cases h
  |some r =>
   rw[e]at h;dsimp only at h;split at h
   ·cases h
   ·rename_i h2;exact⟨r,rfl,(HU e).2.1,(HU e).2.2,h2⟩
theorem OL(h:Cz x s y=0):CF x s y=yk y (IG s) x:=by unfold CF;rw[Aq h]
theorem Td(h:Cz x s y≠0):CF x s y=[]:=by unfold CF;rw[Ai h]
theorem nw(hx:AU x=0){r:Rl}(hr:r∈x)(hs:Dn r=s):Cz x s y=if r.yanked=y then 8 else 0:=by
 unfold Cz;rw[Ai (fun h=>h hx),show DJ x s=some r from by rw[←hs];exact HT hx hr]
theorem km(hx:AU x=0){p:Sl→Bool}{r:Rl}(hr:r∈x)(hp:p (Dn r)=true):DJ (yk y p x) (Dn r)=some { r with yanked:=y }:=by
 have hm:({ r with yanked:=y }:Rl)∈yk y p x:=Ak.2 ⟨r,hr,by rw[Aq hp]⟩;exact HT (XU.trans hx) hm
theorem ah(h:Cz x s y=0):Cz (yk y (IG s) x) s (!y)=0∧yk (!y) (IG s) (yk y (IG s) x)=x:=by
 obtain⟨hx,r,hf,hr,hs,hy⟩:=gC h;constructor
 ·have:=km (y:=y) (p:=IG s) hx hr (by simp[hs])
  rw[hs]at this;unfold Cz;rw[Ai (fun h=>h (XU.trans hx)),this];exact Ai (show ¬y=!y by cases y<;>decide)
 ·unfold yk;rw[BG]
  conv=>rhs;rw[←Ie x]
  refine A8 fun q hq=>?_;simp only[Function.comp_apply,id]
  by_cases e:Dn q=s
  ·have e1:IG s (Dn q)=true:=AA e
   have:q=r:=ZK hx hq hr (e.trans hs.symm)
   rw[Aq e1,Aq (show IG s (Dn { q with yanked:=y })=true from e1)];subst this
   have:q.yanked=!y:=by cases hq:q.yanked<;>cases y<;>simp_all
   show({ q with yanked:=!y }:Rl)=q;rw[←this]
  ·have e1:¬IG s (Dn q)=true:=fun h=>e (Ba h);rw[Ai e1,Ai e1]
structure cZ(x:List Rl)(s:Sl):Prop where
 both:Cz x s true≠0→Cz x s false≠0→Cz x s true=Cz x s false∧(Cz x s true=1∨Cz x s true=6)∧CF x s true=[]∧CF x s false=[]
 yank:Cz x s true=0→Cz (CF x s true) s false=0∧CF (CF x s true) s false=x
 back:Cz x s true≠0→Cz x s false=0→Cz x s true=8∧Cz (CF x s false) s true=0∧CF (CF x s false) s true=x
theorem iE(x:List Rl)(s:Sl):cZ x s where
 both h1 h2:=by
  refine⟨?_,?_,Td h1,Td h2⟩
  ·unfold Cz at h1 h2⊢;split
   ·rfl
   ·rename_i h3;rw[Ai h3]at h1 h2;cases e:DJ x s with
    |none=>rfl
    |some r =>
     rw[e]at h1 h2;cases e2:r.yanked<;>simp[e2]at h1 h2
  ·unfold Cz at h1 h2⊢;split
   ·exact .inl rfl
   ·rename_i h3;rw[Ai h3]at h1 h2;cases e:DJ x s with
    |none=>exact .inr rfl
    |some r =>
     rw[e]at h1 h2;cases e2:r.yanked<;>simp[e2]at h1 h2
 yank h:=by
  rw[OL h];obtain⟨h1,h2⟩:=ah h;exact⟨h1,(OL h1).trans h2⟩
 back h0 h:=by
  rw[OL h];obtain⟨h1,h2⟩:=ah h;refine⟨?_,h1,(OL h1).trans h2⟩;obtain⟨hx,r,hf,hr,hs,hy⟩:=gC h;rw[nw hx hr hs]at h0⊢;split
  ·rfl
  ·rename_i q;rw[Ai q]at h0;exact absurd rfl h0
end
/-! Law Keeps: which releases of the selection get yanked, one after the other. -/
section
variable {α:Type}(c:α→α→Int)
def Jl:Nat→List α→List α
 |0,l=>l
 |j+1,l=>match l[j+1]?,l[j]? with
  |some a,some b=>if c a b<0 then Jl j ((l.set (j+1) b).set j a)else l
  |_,_=>l
def Er(i:Nat)(l:List α):List α:=(List.range i).foldl (fun m i=>Jl c i m) l
theorem UQ:∀(j:Nat) (l:List α),(Jl c j l).length=l.length
 |0,_=>rfl
 |j+1,l=>by
  unfold Jl;split
  ·split
   ·rw[UQ j];simp
   ·rfl
  ·rfl
theorem Mm(i:Nat)(l:List α):Er c (i+1) l=Jl c i (Er c i l):=by
 unfold Er;rw[List.range_succ,Fi];rfl
theorem fj(l:List α):Er c 1 l=l:=rfl
theorem LN:∀(i:Nat) (l:List α),(Er c i l).length=l.length
 |0,_=>rfl
 |i+1,l=>by rw[Mm,UQ,LN i]
theorem UR:∀(j:Nat) (l:List α),∀x∈Jl c j l,x∈l
 |0,_,_,h=>h
 |j+1,l,x,h=>by
  unfold Jl at h;split at h
  ·rename_i a b ha hb;split at h
   ·have h:=UR j _ x h;rcases EM h with h | rfl
    ·rcases EM h with h | rfl
     ·exact h
     ·exact Ar hb
    ·exact Ar ha
   ·exact h
  ·exact h
theorem Sv:∀(i:Nat) (l:List α),∀x∈Er c i l,x∈l
 |0,_,_,h=>h
 |i+1,l,x,h=>by rw[Mm]at h;exact Sv i l x (UR c i _ x h)
theorem Y3{l:List α}{j:Nat}{a b:α}(h0:0<j)(ha:l[j]?=some a)(hb:l[j-1]?=some b)(hc:c a b<0):Jl c j l=Jl c (j-1) ((l.set j b).set (j-1) a):=by
 obtain⟨k,rfl⟩:∃k,j=k+1:=⟨j-1,by omega⟩;have e:k+1-1=k:=rfl;simp only[e]at hb⊢;rw[Jl,ha,hb];exact Aq hc
theorem Tf{l:List α}{j:Nat}{a b:α}(h0:0<j)(ha:l[j]?=some a)(hb:l[j-1]?=some b)(hc:¬c a b<0):Jl c j l=l:=by
 obtain⟨k,rfl⟩:∃k,j=k+1:=⟨j-1,by omega⟩;have e:k+1-1=k:=rfl;simp only[e]at hb;rw[Jl,ha,hb];exact Ai hc
theorem Uw{l:List α}(h:l.Pairwise fun a b=>¬c b a<0):∀i,i≤l.length→Er c i l=l
 |0,_=>rfl
 |i+1,hi=>by
  rw[Mm,Uw h i (by omega)]
  by_cases h0:i=0
  ·subst h0;rfl
  ·exact Tf c (by omega) (Ge hi) (Ge (show i-1<l.length by omega)) ((AY.1 h) (i-1) i (by omega) hi (by omega))
end
theorem JC{x:List Rl}(h:AU x=0):Er Dy x.length x=x:=by
 refine Uw Dy ?_ _ (Al _);refine(Co h).2.imp fun {a b} ie hc=>?_;have h1:aK (Dn a) (Dn b)<0:=RG.2 ie;have h2:aK (Dn b) (Dn a)<0:=hc;have h1:=RG.1 h1;have h2:=RG.1 h2;exact HZ (UD h1 h2) rfl
def fs(s:Sl)(y:Bool)(l:List Rl):Bool×Bool:=l.foldl (fun a r=>if Dn r=s then(true,decide (r.yanked=y))else a) (false,false)
theorem QS{s:Sl}{y:Bool}{x:List Rl}{i:Nat}(h:i<x.length):fs s y (x.take (i+1))=if Dn x[i]=s then(true,decide (x[i].yanked=y))else fs s y (x.take i):=by
 unfold fs;rw[Bi,Ge h,Fi]
 rfl
theorem dU{s:Sl}{y:Bool}:∀{l:List Rl} {a:Bool×Bool},(∀r∈l,Dn r≠s)→l.foldl (fun a r=>if Dn r=s then(true,decide (r.yanked=y))else a) a=a
 | [],_,_=>rfl
 |r::l,a,h=>by
  rw[Ea,Ai (h r (Ab ..))];exact dU fun q hq=>h q (Ah _ hq)
theorem dV{s:Sl}{y:Bool}{r:Rl}(hr:Dn r=s):∀{l:List Rl} {a:Bool×Bool},r∈l→(∀q∈l,Dn q=s→q=r)→l.foldl (fun a r=>if Dn r=s then(true,decide (r.yanked=y))else a) a=(true,decide (r.yanked=y))
 | [],_,h,_=>by cases h
 |q::l,a,h,hu=>by
  rw[Ea]
  by_cases hm:r∈l
  ·exact dV hr hm fun p hp=>hu p (Ah _ hp)
  ·have e:r=q:=(Av.1 h).resolve_right hm;subst e;rw[Aq hr];exact dU fun p hp e=>hm (by rw[←hu p (Ah _ hp) e];exact hp)
theorem o9{x:List Rl}(hx:AU x=0)(s:Sl)(y:Bool):fs s y x=match DJ x s with | none=>(false,false) | some r=>(true,decide (r.yanked=y)):=by
 cases e:DJ x s with
 |none=>exact dU (WO hx e)
 |some r =>
  obtain⟨_,h1,h2⟩:=HU e;exact dV h2 h1 fun q hq hk=>ZK hx hq h1 (hk.trans (show s=Dn r from h2.symm))
theorem Pg{x:List Rl}(hx:AU x=0)(s:Sl)(y:Bool):Cz x s y=if(fs s y x).1=false then 6 else if(fs s y x).2=true then 8 else 0:=by
 rw[o9 hx];unfold Cz;rw[Ai (fun h=>h hx)];cases e:DJ x s with
 |none=>rfl
 |some r =>
  dsimp only
  by_cases h:r.yanked=y
  ·simp[h]
  ·simp[h]
def EJ(x:List Rl)(z:Sl):Bool:=match DJ x z with | some r=>r.yanked | none=>false
def Tr(x:List Rl)(l:List Sl):List Sl:=if JD x l=0 then l.filter (EJ x)else []
theorem bu(x:List Rl)(l:List Sl):JD x l=0∨JD x l=1:=by unfold JD;split<;>simp
theorem Xd{x:List Rl}{l:List Sl}(h:JD x l=0):AU x=0∧FK l=true:=by
 unfold JD at h;split at h
 ·cases h
 ·rename_i q;exact⟨AR fun e=>q (.inl e),by cases e:FK l with
   |true=>rfl
   |false=>exact absurd (.inr e) q⟩
theorem ia{y:Bool}{p:Sl→Bool}{x:List Rl}{P:Rl→Prop}(h:∀r∈x,P r∧P { r with yanked:=y }):∀r∈yk y p x,P r:=fun r hr=>by
 obtain⟨q,hq,rfl⟩:=Ak.1 hr;split
 ·exact(h q hq).2
 ·exact(h q hq).1
theorem kl{y:Bool}{p:Sl→Bool}{x:List Rl}(h:∀r∈x,JL r):∀r∈yk y p x,JL r:=ia fun r hr=>⟨h r hr,h r hr⟩
theorem ai{y:Bool}{p:Sl→Bool}{x:List Rl}{i:Nat}(h:i<x.length):(yk y p (x.take i)++x.drop i).set i (if p (Dn x[i])=true then { x[i]with yanked:=y }else x[i])=yk y p (x.take (i+1))++x.drop (i+1):=by
 rw[Bl h,List.set_append_right _ _ (by rw[Mb,AE];omega),Mb,AE,show i-min i x.length=0 by omega,List.set_cons_zero];unfold yk;rw[Bi,Ge h,Az,BF]
 rfl
theorem lp{y:Bool}{p:Sl→Bool}{x:List Rl}{i:Nat}(h:i<x.length):(yk y p (x.take i)++x.drop i)[i]?=some x[i]:=by
 rw[AZ (by rw[Mb,AE];omega),Mb,AE,show i-min i x.length=0 by omega,Bl h]
 rfl
end Go.Eng
namespace Go.Eng
open Go.Proofs
theorem fh{α:Type}(c:α→α→Int){l:List α}{i:Nat}(h1:1≤i)(h2:i≤l.length∨i=1)(h3:l.length≤i):Er c i l=Er c l.length l:=by
 by_cases e:i=l.length
 ·rw[e]
 ·have e1:i=1:=by omega
  have e2:l.length=0:=by omega
  rw[e1,e2];rfl
theorem wj(l:List Rl)(hl:CJ l):A3 Tryz.prog 192 [.msl 1000 l.length,vi 0,vi (l.length:Nat),.v (.func (.func 60) #[] #[])] (Aj [(1000,.arr 9 (l.map Ag))] Aa) fun r h'=>r=.tup []∧h'=Aj [(1000,.arr 9 ((Er Dy l.length l).map Ag))] Aa:=by
 have hl:l.length≤1073741824:=hl;refine BV (Ll ⟨[],[],[],[],[],[],[],[],[],[],[5,6]⟩) [(1000,1000)] rfl Cn hm rfl Tryz.func192 (by kernel_rfl) rfl (Nz rfl) (by kernel_rfl) rfl ?_;refine Yi (Ii 0 (by omega)) ?_;refine Xi {q:Nat // 1≤q∧(q≤l.length∨q=1)} (Xi (fun q=>⟨[(0,.msl 1000 l.length),(1,vi 0),(2,vi (l.length:Nat)),(3,.v (.func (.func 60) #[] #[])),(8,vi q.1)],[(1000,.arr 9 ((Er Dy q.1 l).map Ag))],Aa⟩) (Xi (fun q=>l.length+1-q.1) (Yi (Xi ⟨1,Al _,.inr rfl⟩ ?_) ?_)))
 ·exact⟨Z5,⟨⟨(show HO.arr 9 (l.map Ag)=.arr 9 ((Er Dy 1 l).map Ag) by rw[fj]),rfl⟩,Tv⟩,Fh,Aw (by kernel_rfl)⟩
 intro⟨i,i1,i2⟩;have i1:1≤i:=i1;have i2:i≤l.length∨i=1:=i2;refine Yi (fun h1=>?_) (fun h1=>?_)
 ·have h1:(i:Int)<((l.length:Nat):Int):=h1;have ni:i<l.length:=by omega
  refine Xi {q:Nat×List Rl // q.1≤i∧q.2.length=l.length∧Jl Dy q.1 q.2=Er Dy (i+1) l} (Xi (fun q=>⟨[(0,.msl 1000 l.length),(1,vi 0),(2,vi (l.length:Nat)),(3,.v (.func (.func 60) #[] #[])),(8,vi i),(9,vi q.1.1)],[(1000,.arr 9 (q.1.2.map Ag))],Aa⟩) (Xi (fun q=>q.1.1) (Yi (Xi ⟨(i,Er Dy i l),Al _,LN _ _ _,(Mm Dy i l).symm⟩ ?_) ?_)))
  ·exact⟨Z6,Z1,Fh,Aw (by kernel_rfl)⟩
  intro⟨⟨j,N⟩,j1,j2,j3⟩;have j1:j≤i:=j1;have j2:N.length=l.length:=j2;have j3:Jl Dy j N=Er Dy (i+1) l:=j3;refine Yi (fun h2=>?_) (fun h2=>?_)
  ·have h2:(0:Int)<(j:Int):=h2;have nj:j<N.length:=by omega
   have j0:0<j:=by omega
   have ej:((j-1:Int).toNat)=j-1:=by omega
   refine CC (show ∃a,N[j]?=some a from⟨_,Ge nj⟩) (fun a ga=>?_);refine CC (show ∃b,N[j-1]?=some b from⟨_,Ge (by omega)⟩) (fun b gb=>?_);have gc:N[(j-1:Int).toNat]?=some b:=by rw[ej];exact gb
   refine Yi (by show(0:Int)≤j∧(j:Int)<(l.length:Nat);omega) ?_;refine Yi (show l.length=(N.map Ag).length by simp[j2]) (Xi (Ag a) (Yi (Dp ga) ?_));refine Yi (Nz rfl) ?_;refine Yi (by show BK ((j:Int)-(1:Int));unfold BK;omega) ?_;refine Yi (by show(0:Int)≤j-1∧(j-1:Int)<(l.length:Nat);omega) ?_;refine Yi (show l.length=(N.map Ag).length by simp[j2]) (Xi (Ag b) (Yi (Dp gc) ?_));refine Yi (Nz rfl) ?_;refine Xi _ (Yi (oH a b) ?_);refine Yi (fun h3=>?_) (fun h3=>?_)
   ·have h3:((Dy a b):Int)<(0:Int):=h3;refine Yi (by kernel_rfl) ?_;refine Xi ⟨[(0,.msl 1000 l.length),(1,vi 0),(2,vi (l.length:Nat)),(3,.v (.func (.func 60) #[] #[])),(8,vi i),(9,vi j)],[(1000,.arr 9 (N.map Ag))],Aa⟩ (Yi ⟨Z6,Z1,Fh,Aw (by kernel_rfl)⟩ ?_)
    refine Yi (by show BK ((j:Int)-(1:Int));unfold BK;omega) ?_;refine Yi (by show BK ((j:Int)-(1:Int));unfold BK;omega) ?_;refine Yi (by show(0:Int)≤j-1∧(j-1:Int)<(l.length:Nat);omega) ?_;refine Yi (show l.length=(N.map Ag).length by simp[j2]) (Xi (Ag b) (Yi (Dp gc) ?_));refine Yi (Nz rfl) ?_;refine Yi (by show(0:Int)≤j∧(j:Int)<(l.length:Nat);omega) ?_;refine Yi (show l.length=(N.map Ag).length by simp[j2]) (Xi (Ag a) (Yi (Dp ga) ?_));refine Yi (Nz rfl) ?_;refine Yi (by show(0:Int)≤j∧(j:Int)<(l.length:Nat);omega) ?_;refine Yi (show l.length=(N.map Ag).length by simp[j2]) (Xi (Ag a) (Yi (Dp ga) (Yi (Nz rfl) ?_)));refine Yi (by show(0:Int)≤j-1∧(j-1:Int)<(l.length:Nat);omega) ?_;refine Yi (show l.length=(((N.map Ag).set j (Ag b)):List (List AV)).length by simp[j2]) (Xi (Ag b) (Yi ((List.getElem?_set_ne (by omega)).trans (Dp gc)) (Yi (Nz rfl) ?_)));refine Yi (by kernel_rfl) ?_;refine Xi ⟨[(0,.msl 1000 l.length),(1,vi 0),(2,vi (l.length:Nat)),(3,.v (.func (.func 60) #[] #[])),(8,vi i),(9,vi j)],[(1000,.arr 9 (((N.map Ag).set j (Ag b)).set (j-1:Int).toNat (Ag a)))],Aa⟩ (Yi ⟨Z6,Z1,Fh,Aw (by kernel_rfl)⟩ ?_)
    refine Yi (by show BK ((j:Int)-(1:Int));unfold BK;omega) ?_;refine Xi ⟨(j-1,(N.set j b).set (j-1) a),by omega,by rw[CH,CH];exact j2,by rw[←j3,Y3 Dy j0 ga gb h3]⟩ ?_;exact⟨by show(j-1:Nat)<j;omega,⟨Zr,Zr,Zr,Zr,Zr,⟨(Ac vi (show(j:Int)-1=((j-1:Nat):Int) by omega)),rfl⟩,Tv⟩,⟨⟨(show HO.arr 9 (((N.map Ag).set j (Ag b)).set ((j-1:Int).toNat) (Ag a))=.arr 9 (((N.set j b).set (j-1) a).map Ag) by rw[ej,G7,G7]),rfl⟩,Tv⟩,Fh,Aw (by kernel_rfl)⟩
   have h3:¬(((Dy a b):Int)<(0:Int)):=h3;refine Yi (by kernel_rfl) ?_;refine Yi (Ii i (by omega)) ?_;have eN:N=Er Dy (i+1) l:=by rw[←j3];exact(Tf Dy j0 ga gb h3).symm
   refine Xi ⟨i+1,by omega,.inl ni⟩ ?_;exact⟨by show l.length+1-(i+1)<l.length+1-i;omega,Z5,⟨⟨(show HO.arr 9 (N.map Ag)=.arr 9 ((Er Dy (i+1) l).map Ag) by rw[eN]),rfl⟩,Tv⟩,Fh,Aw (by kernel_rfl)⟩
  have h2:¬((0:Int)<(j:Int)):=h2;refine Yi (by kernel_rfl) ?_;refine Yi (Ii i (by omega)) ?_;have eN:N=Er Dy (i+1) l:=by rw[←j3];exact(show Jl Dy j N=N by rw[show j=0 by omega];rfl).symm
  refine Xi ⟨i+1,by omega,.inl ni⟩ ?_;exact⟨by show l.length+1-(i+1)<l.length+1-i;omega,Z5,⟨⟨(show HO.arr 9 (N.map Ag)=.arr 9 ((Er Dy (i+1) l).map Ag) by rw[eN]),rfl⟩,Tv⟩,Fh,Aw (by kernel_rfl)⟩
 have h1:¬((i:Int)<((l.length:Nat):Int)):=h1;exact Xi _ (Yi (.refl _) ⟨rfl,show Aj [(1000,HO.arr 9 ((Er Dy i l).map Ag))] Aa=Aj [(1000,.arr 9 ((Er Dy l.length l).map Ag))] Aa from Ac (fun z=>Aj [(1000,HO.arr 9 (z.map Ag))] Aa) (fh Dy i1 i2 (by omega))⟩)
theorem wi(l:List Rl)(hl:l.length≤16):A3 Tryz.prog 143 [.msl 1000 l.length,vi (l.length:Nat),.v (.func (.func 60) #[] #[])] (Aj [(1000,.arr 9 (l.map Ag))] Aa) fun r h'=>r=.tup []∧h'=Aj [(1000,.arr 9 ((Er Dy l.length l).map Ag))] Aa:=by
 refine BV (Ll ⟨[],[],[],[],[],[],[],[],[],[],[12,16]⟩) [(1000,1000)] rfl Cn hm rfl Tryz.func143 (by kernel_rfl) rfl (Nz rfl) (by kernel_rfl) rfl ?_;refine Xi {q:Nat // q=0} (Xi (fun q=>⟨[(0,.msl 1000 l.length),(1,vi (l.length:Nat)),(2,.v (.func (.func 60) #[] #[])),(6,vi 20),(7,vi 0),(8,vi 20)],[(1000,.arr 9 (l.map Ag))],Aa⟩) (Xi (fun q=>q.1) (Yi (Xi ⟨0,rfl⟩ ?_) ?_)))
 ·exact⟨Z6,Z1,Fh,Aw (by kernel_rfl)⟩
 intro⟨i,i1⟩;refine Yi (fun h1=>?_) (fun h1=>?_)
 ·have h1:(20:Int)≤((l.length:Nat):Int):=h1;exact absurd h1 (by omega)
 have h1:¬((20:Int)≤((l.length:Nat):Int)):=h1;refine Xi (.gen [(1000,1000)] 0) (Yi rfl (A3.to2 (wj l (by unfold CJ;omega)) ?_));refine Xi {q:Nat // q=0} (Xi (fun q=>⟨[(0,.msl 1000 l.length),(1,vi (l.length:Nat)),(2,.v (.func (.func 60) #[] #[])),(6,vi 20)],[(1000,.arr 9 ((Er Dy l.length l).map Ag))],Aa⟩) (Xi (fun q=>q.1) (Yi (Xi ⟨0,rfl⟩ ?_) ?_)))
 ·exact⟨Z4,Z1,Fh,Aw (by kernel_rfl)⟩
 intro⟨i,i1⟩;refine Yi (fun h2=>?_) (fun h2=>?_)
 ·have h2:(20:Int)<((l.length:Nat):Int):=h2;exact absurd h2 (by omega)
 have h2:¬((20:Int)<((l.length:Nat):Int)):=h2;exact Xi _ (Yi (.refl _) Zr)
theorem v105(l:List Rl)(hl:l.length≤16):A3 Tryz.prog 105 [.msl 1000 l.length,.v (.func (.func 60) #[] #[])] (Aj [(1000,.arr 9 (l.map Ag))] Aa) fun r h'=>r=.tup []∧h'=Aj [(1000,.arr 9 ((Er Dy l.length l).map Ag))] Aa:=by
 refine BV (Ll ⟨[],[],[],[],[],[],[],[],[],[],[]⟩) [(1000,1000)] rfl Cn hm rfl Tryz.func105 (by kernel_rfl) rfl (Nz rfl) (by kernel_rfl) rfl ?_;refine Xi (.gen [(1000,1000)] 0) (Yi rfl (A3.to2 (wi l hl) ?_));exact Xi _ (Yi (.refl _) Zr)
theorem wl(x:List Rl)(hx:x.length≤16)(hc:∀r∈x,PC 42 [.agg (Ag r)] (.agg (Ag r)))(hk:A3 Tryz.prog 37 [.agg [.msl 1000 ((Er Dy x.length x).map Ag).length,.v (.slice none 0 0)]] (Aj [(1000,.arr 9 ((Er Dy x.length x).map Ag))] Aa) fun r h'=>r=vi 0∧h'=Aj [(1000,.arr 9 ((Er Dy x.length x).map Ag))] Aa):A3 Tryz.prog 72 [sl Ag x] (Aj [] Aa) fun r h'=>r=.tup [.msl 2000 ((Er Dy x.length x).map Ag).length,vi 0]∧h'=Aj [(2000,.arr 9 ((Er Dy x.length x).map Ag))] Aa:=by
 refine BV (Ll ⟨[],[],[(4,9)],[],[],[],[],[],[],[],[7,8,11]⟩) [(4,2000)] rfl Cn hm rfl Tryz.func72 (by kernel_rfl) rfl (Nz rfl) (by kernel_rfl) rfl ?_;refine Xi {q:Nat // q≤x.length} (Xi (fun q=>⟨[(4,.msl 4 (x.take q.1).length),(8,sl Ag x),(9,vi (x.map Ag).length),(10,vi q.1)],[(4,.arr 9 ((x.take q.1).map Ag))],Aa⟩) (Xi (fun q=>x.length-q.1) (Yi (Xi ⟨0,AL _⟩ ?_) ?_)))
 ·exact⟨Z4,Z1,Fh,Aw (by kernel_rfl)⟩
 intro⟨i,i1⟩;have i1:i≤x.length:=i1;refine Yi (fun h1=>?_) (fun h1=>?_)
 ·have h1:(i:Int)<((x.map Ag).length:Int):=h1;have n1:=LR h1;refine Xi (Ag x[i]) (Yi (Sy n1) (Yi rfl ?_));refine Yi (Nz rfl) ?_;refine Yi (Nz rfl) ?_;refine Yi (Nz rfl) ?_;refine Xi .pure (Xi _ (Yi (hc x[i] (Ax n1)) ?_));have b2:Df 9 [(Ag x[i])]∧((x.take i).map Ag).length=(x.take i).length∧(((x.take i).map Ag).length+([(Ag x[i])]:List (List AV)).length)*120≤140737488355328∧((x.take i).map Ag).length+([(Ag x[i])]:List (List AV)).length≤9223372036854775807:=⟨⟨rfl,trivial⟩,(by rw[Lm]),(by simp only[Lm,Ay,AG,AE];omega),(by simp only[Lm,Ay,AG,AE];omega)⟩;refine Yi b2 ?_;refine Yi (Ii i (by omega)) ?_;refine Xi ⟨i+1,n1⟩ ?_;exact⟨Dl x.length i (by omega),⟨⟨(show AV.msl 4 (((x.take i).map Ag).length+([Ag x[i]]:List (List AV)).length)=.msl 4 (x.take (i+1)).length by rw[E1 n1,Ad,Lm];rfl),rfl⟩,Zr,Zr,Zr,Tv⟩,⟨⟨(show HO.arr 9 ((x.take i).map Ag++[Ag x[i]])=.arr 9 ((x.take (i+1)).map Ag) by rw[E1 n1,Az];rfl),rfl⟩,Tv⟩,Fh,Aw (by kernel_rfl)⟩
 have h1:¬((i:Int)<((x.map Ag).length:Int)):=h1;have n1:=LQ h1;have ei:x.take i=x:=AD (by omega);refine Xi ⟨[(4,.msl 4 x.length)],[(4,.arr 9 (x.map Ag))],Aa⟩ (Yi ⟨⟨⟨(show AV.msl 4 (x.take i).length=.msl 4 x.length by rw[ei]),rfl⟩,trivial⟩,⟨⟨(show HO.arr 9 ((x.take i).map Ag)=.arr 9 (x.map Ag) by rw[ei]),rfl⟩,trivial⟩,fun _=>.inl rfl,Aw (by kernel_rfl)⟩ ?_)
 refine Xi (.gen [(4,1000)] 0) (Yi rfl (A3.to2 (v105 x hx) ?_));refine Xi ⟨[(4,.msl 4 ((Er Dy x.length x).map Ag).length)],[(4,.arr 9 ((Er Dy x.length x).map Ag))],Aa⟩ (Yi ⟨⟨⟨(show AV.msl 4 x.length=.msl 4 ((Er Dy x.length x).map Ag).length by rw[Lm,LN]),rfl⟩,Tv⟩,Z1,Fh,Aw (by kernel_rfl)⟩ ?_)
 refine Xi (.gen [(4,1000)] 0) (Yi rfl (A3.to2 hk ?_));refine Yi (fun h=>absurd h (by decide)) (fun _=>?_);refine Xi ⟨[(4,.msl 4 ((Er Dy x.length x).map Ag).length)],[(4,.arr 9 ((Er Dy x.length x).map Ag))],Aa⟩ (Yi ⟨Z1,Z1,Fh,Aw (by kernel_rfl)⟩ ?_)
 exact Xi _ (Yi (.refl _) Zr)
theorem wk(x:List Rl)(hx:x.length≤16)(hc:∀r∈x,PC 42 [.agg (Ag r)] (.agg (Ag r)))(c:Int)(mu:c≠0)(hk:A3 Tryz.prog 37 [.agg [.msl 1000 ((Er Dy x.length x).map Ag).length,.v (.slice none 0 0)]] (Aj [(1000,.arr 9 ((Er Dy x.length x).map Ag))] Aa) fun r h'=>r=vi c∧h'=Aj [(1000,.arr 9 ((Er Dy x.length x).map Ag))] Aa):PC 72 [sl Ag x] (.tup [.v (.slice none 0 0),vi c]):=by
 refine Ps ⟨[],[],[(4,9)],[],[],[],[],[],[],[],[7,8,11]⟩ Tryz.func72 rfl (Nz rfl) ?_;refine Xi {q:Nat // q≤x.length} (Xi (fun q=>⟨[(4,.msl 4 (x.take q.1).length),(8,sl Ag x),(9,vi (x.map Ag).length),(10,vi q.1)],[(4,.arr 9 ((x.take q.1).map Ag))],Aa⟩) (Xi (fun q=>x.length-q.1) (Yi (Xi ⟨0,AL _⟩ ?_) ?_)))
 ·exact⟨Z4,Z1,Fh,Tv⟩
 intro⟨i,i1⟩;have i1:i≤x.length:=i1;refine Yi (fun h1=>?_) (fun h1=>?_)
 ·have h1:(i:Int)<((x.map Ag).length:Int):=h1;have n1:=LR h1;refine Xi (Ag x[i]) (Yi (Sy n1) (Yi rfl ?_));refine Yi (Nz rfl) ?_;refine Yi (Nz rfl) ?_;refine Yi (Nz rfl) ?_;refine Xi .pure (Xi _ (Yi (hc x[i] (Ax n1)) ?_));have b2:Df 9 [(Ag x[i])]∧((x.take i).map Ag).length=(x.take i).length∧(((x.take i).map Ag).length+([(Ag x[i])]:List (List AV)).length)*120≤140737488355328∧((x.take i).map Ag).length+([(Ag x[i])]:List (List AV)).length≤9223372036854775807:=⟨⟨rfl,trivial⟩,(by rw[Lm]),(by simp only[Lm,Ay,AG,AE];omega),(by simp only[Lm,Ay,AG,AE];omega)⟩;refine Yi b2 ?_;refine Yi (Ii i (by omega)) ?_;refine Xi ⟨i+1,n1⟩ ?_;exact⟨Dl x.length i (by omega),⟨⟨(show AV.msl 4 (((x.take i).map Ag).length+([Ag x[i]]:List (List AV)).length)=.msl 4 (x.take (i+1)).length by rw[E1 n1,Ad,Lm];rfl),rfl⟩,Zr,Zr,Zr,Tv⟩,⟨⟨(show HO.arr 9 ((x.take i).map Ag++[Ag x[i]])=.arr 9 ((x.take (i+1)).map Ag) by rw[E1 n1,Az];rfl),rfl⟩,Tv⟩,Fh,Tv⟩
 have h1:¬((i:Int)<((x.map Ag).length:Int)):=h1;have n1:=LQ h1;have ei:x.take i=x:=AD (by omega);refine Xi ⟨[(4,.msl 4 x.length)],[(4,.arr 9 (x.map Ag))],Aa⟩ (Yi ⟨⟨⟨(show AV.msl 4 (x.take i).length=.msl 4 x.length by rw[ei]),rfl⟩,Tv⟩,⟨⟨(show HO.arr 9 ((x.take i).map Ag)=.arr 9 (x.map Ag) by rw[ei]),rfl⟩,Tv⟩,Fh,Tv⟩ ?_)
 refine Xi (.gen [(4,1000)] 0) (Yi rfl (A3.to2 (v105 x hx) ?_));refine Xi ⟨[(4,.msl 4 ((Er Dy x.length x).map Ag).length)],[(4,.arr 9 ((Er Dy x.length x).map Ag))],Aa⟩ (Yi ⟨⟨⟨(show AV.msl 4 x.length=.msl 4 ((Er Dy x.length x).map Ag).length by rw[Lm,LN]),rfl⟩,Tv⟩,Z1,Fh,Tv⟩ ?_)
 refine Xi (.gen [(4,1000)] 0) (Yi rfl (A3.to2 hk ?_));refine Yi (fun h4=>?_) (fun h4=>?_)
 ·have h4:(c:Int)≠(0:Int):=h4;exact .refl _
 have h4:(c:Int)=(0:Int):=AR h4;exact absurd h4 mu
end Go.Eng
