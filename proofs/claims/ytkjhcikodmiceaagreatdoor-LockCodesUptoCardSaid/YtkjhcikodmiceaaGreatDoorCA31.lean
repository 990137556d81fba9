/- Lemmas 31. -/
import Derived.Test.YtkjhcikodmiceaaGreatDoorCA30
set_option maxHeartbeats 16000000
namespace Go.Eng
open Go.Proofs Go.Proofs.Tryz
abbrev Au2:=List Cd
abbrev Au3:=List (Value×AV)
abbrev Au4:=List (List Sk)
abbrev Au5:=List Rq
abbrev Au6:=List Sk
abbrev Au7:=List Nat
variable (x:List F)(roots:Au5)(C A:Au3)(n:Nat)(s:SS)(dec:Au2)(st:Au4)(p:CS)(n0:Nd)(l:List Nd)(V:AV)(cs:Au2)(R O:JB)
theorem iP{α:Type}(o:Option α):(∃x,o=some x)\/o=none:=by
 cases o with
 |none=>exact .inr rfl
 |some x=>exact .inl ⟨x,rfl⟩
theorem Afq{T st:Au4}{sk:Au6}(h:T=st++[sk]):((T.map Bp).take ((T.length:Int)-1).toNat)=st.map Bp/\((T.length:Int)-1).toNat=st.length:=by
 have e:((T.length:Int)-1).toNat=st.length:=by rw[h,Ac,D0];omega
 refine⟨?_,e⟩;rw[e,h,Au,MM aa1,AD aa1]
abbrev HV:Prop:=(∀a,(Value.string p,a)∈A->a=V)/\((∀a,(Value.string p,a)∉A)->V=nzA)/\∀h,PC 229 [vs p,str h V] (sl E (FK p (BA x p)))
abbrev pY(n:Nd):Prop:=∀d,Cc x roots d (QD n)=some (It n)
abbrev qq43:=fun(KT:Cd) (p:CS)=>([vs p,G KT.rel.ver.a,G KT.rel.ver.b,G KT.rel.ver.c]:List AV)
structure Lvl(x:List F)(roots:Au5)(C A:Au3)(n:Nat)(dec:Au2)(p:CS)(n0:Nd)(l:List Nd)(V:AV)(cs:Au2):Prop where
 hx:AU x=0
 hr:Bb roots=0
 hdl:dec.length<=256
 hcl:cs.length<=256
 hcs:cs=Bl x p
 hnl:(n0::l).length<2^63-1
 hnq:∀n∈n0::l,CC n.rq.set
 hnp:∀n∈n0::l,As (n.place+1)
 hex:∀(i:Nat) (h:i<cs.length),∀nd∈n0::l,has nd.rq.set cs[i].place=false->pY x roots nd/\True
 hcx:∀(i:Nat) (h:i<cs.length) (nc:Nd),DM dec cs[i]=some nc->pY x roots nc/\True
 hcq:∀(i:Nat) (h:i<cs.length) (nc:Nd),nc∈Sz cs[i]->CC nc.rq.set
 hcp_:∀(i:Nat) (h:i<cs.length) (nc:Nd),nc∈Sz cs[i]->As (nc.place+1)
 hcr:∀(i:Nat) (h:i<cs.length),cs[i].rel.reqs.length<=2^30
 hcs_:∀(i:Nat) (h:i<cs.length),∀q∈cs[i].rel.reqs,CC q.set
 hkey:∀(i:Nat) (h:i<cs.length),(AM dec).map Ar++[(qq43 cs[i] p)]=(AM (dec++[cs[i]])).map Ar
 hinf0:pY x roots n0
 hV:HV x A p V
 ih:∀c∈Bl x p,oF dec (n0::l) c=true->∀(S:SS) (E6 : Au4),E6.length=dec.length+1->Lx x roots S->S.full=false ->
  A1 prog 82 [.ref 1000 0] (Ah (Jr roots C A S (dec++[c]) E6) Ab) (gx roots C A (Cw x roots n (dec++[c]) S E6))/\Lx x roots (Cw x roots n (dec++[c]) S E6).ss /\
  (S.drv.length<=(Cw x roots n (dec++[c]) S E6).ss.drv.length/\((Cw x roots n (dec++[c]) S E6).found=false->(Cw x roots n (dec++[c]) S E6).ss.full=false->(Cw x roots n (dec++[c]) S E6).res<(Cw x roots n (dec++[c]) S E6).ss.drv.length)) /\
  ((Cw x roots n (dec++[c]) S E6).found=false->(Cw x roots n (dec++[c]) S E6).stack=E6)
abbrev qq34:=fun KT (rs:Au7) (sk:Au6) (st:Au4) (roots:Au5) (C:Au3) (A:Au3) (S:SS) (dec:Au2)=>([(6,.tok 1 rs.length),(7,.tok 3 sk.length),(9,.ro (A2 KT)),(500,.arr 1 (st.map Bp)),(1000,.cells (srM roots C A S dec 500 st.length)),(1001,.tok 6 S.infs.length),(1002,.tok 1 S.drv.length),(1003,.map Hb (GQ 0 S.infs)),(1004,.dead)]:List (Nat×HO))
abbrev qq35:=fun(p:CS) (n0:Nd) (l:List Nd) (rs:Au7) (sk:Au6) (o:JB) (cs:Au2) i=>([(0,.ref 1000 0),(4,vs p),(5,sl Br (n0::l)),(6,.slice (.id 6 1) (rs.map CM)),(7,.slice (.id 7 3) (sk.map AT)),(9,.ref 9 0),(12,G (o.res:Nat)),(32,sl A2 cs),(33,G (cs.map A2).length),(34,G i)]:List (Nat×AV))
abbrev qq36:=fun(p:CS) (n0:Nd) (l:List Nd) (rs:Au7) (sk:Au6) ke (cs:Au2) i=>([(0,.ref 1000 0),(4,vs p),(5,sl Br (n0::l)),(6,.slice (.id 6 1) (rs.map CM)),(7,.slice (.id 7 3) (sk.map AT)),(9,.ref 9 0),(12,G (ke:Nat)),(32,sl A2 cs),(33,G (cs.map A2).length),(34,G i)]:List (Nat×AV))
abbrev qq37:=fun(roots:Au5) (C:Au3) (A:Au3) (S:SS) nc (dec:Au2) (st:Au4)=>((1000,.cells [sl Ak roots,.cmap CU C,.cmap CU A,.slice (.id 1001 6) ((Bx S nc).2.infs.map A8),.slice (.id 1002 1) ((Bx S nc).2.drv.map BD),.mref 1003,Q (Bx S nc).2.full,sl A2 dec,sl Ar (AM dec),.msl 500 st.length]):Nat×HO)
abbrev qq38:=fun KT (rs:Au7) (sk:Au6) (st:Au4) (roots:Au5) (C:Au3) (A:Au3) (o:JB) (dec:Au2)=>([(6,.tok 1 rs.length),(7,.tok 3 sk.length),(9,.ro (A2 KT)),(500,.arr 1 (st.map Bp)),(1000,.cells (srM roots C A o.ss dec 500 st.length)),(1001,.tok 6 o.ss.infs.length),(1002,.tok 1 o.ss.drv.length),(1003,.map Hb (GQ 0 o.ss.infs)),(1004,.dead)]:List (Nat×HO))
abbrev qq39:=fun KT (dec:Au2)=>((16000,.tok 4 ((AM (dec++[KT])).map Ar).length):Nat×HO)
abbrev qq40:=fun KT (dec:Au2)=>((11,.slice (.id 16000 4) ((AM (dec++[KT])).map Ar)):Nat×AV)
abbrev qq41:List AV:=[vs ⟨#[]⟩,nzA,vs ⟨#[]⟩,G 0,G 0]
abbrev qq42:=fun KT (roots:Au5) (C:Au3) (A:Au3) (S:SS) (dec:Au2) (st:Au4) (sk:Au6)=>([sl Ak roots,.cmap CU C,.cmap CU A,.slice (.id 1001 6) (S.infs.map A8),.slice (.id 1002 1) (S.drv.map BD),.mref 1003,Q S.full,.slice (.id 20100 10) ((dec.map A2)++[(A2 KT)]),.slice (.id 16000 4) ((AM (dec++[KT])).map Ar),.msl 500 ((st.map Bp).length+([[sl AT sk]]:C0).length)]:List AV)
abbrev qq44:=fun KT (rs:Au7) (sk:Au6) (roots:Au5) (C:Au3) (A:Au3) (o:JB)=>([(6,.tok 1 rs.length),(7,.tok 3 sk.length),(9,.ro (A2 KT)),(1000,.cells (srM roots C A o.ss o.dec 22200 o.stack.length)),(1001,.tok 6 o.ss.infs.length),(1002,.tok 1 o.ss.drv.length),(1003,.map Hb (GQ 0 o.ss.infs)),(1004,.dead),(22200,.arr 1 (o.stack.map Bp))]:List (Nat×HO))
abbrev qq45:=fun KT (roots:Au5) (C:Au3) (A:Au3) (S:SS) (dec:Au2) (st:Au4) (sk:Au6)=>([sl Ak roots,.cmap CU C,.cmap CU A,.slice (.id 1001 6) (S.infs.map A8),.slice (.id 1002 1) (S.drv.map BD),.mref 1003,Q S.full,.slice (.id 20100 10) ((dec++[KT]).map A2),.slice (.id 16000 4) ((AM (dec++[KT])).map Ar),.msl 500 (st++[sk]).length]:List AV)
abbrev qq46:=fun(p:CS) (n0:Nd) (l:List Nd) (rs:Au7) (sk:Au6) (dec:Au2) (cs:Au2) i=>([(0,.ref 1000 0),(4,vs p),(5,sl Br (n0::l)),(6,.slice (.id 6 1) (rs.map CM)),(7,.slice (.id 7 3) (sk.map AT)),(9,.ref 9 0),(16,sl A2 dec),(17,sl Ar (AM dec)),(32,sl A2 cs),(33,G (cs.map A2).length),(34,G i)]:List (Nat×AV))
theorem AlK(hL:Lvl x roots C A n dec p n0 l V cs)(hs:Lx x roots s)(Jp:st.length=dec.length)(Ug:A1 prog 148 [.ref 1000 0] (Ah (Jr roots C A s dec st) Ab) fun r h'=>r=.tup [vs p,sl Br (n0::l)]/\h'=Ah (Jr roots C A s dec st) Ab)(hC1:∀a,(Value.string p,a)∈C->a=sl A2 cs)(hC2:¬∀a,(Value.string p,a)∉C)(hR:Dx (Cw x roots n) x p (n0::l) n0 dec st cs s [] []=R)(kq:O=R) :
  A1 prog 82 [.ref 1000 0] (Ah (Jr roots C A s dec st) Ab) (gx roots C A O):=by
 obtain⟨hx,hr,hdl,hcl,hcs,hnl,hnq,hnp,hex,hcx,hcq,hcp_,hcr,hcs_,hkey,hinf0,⟨hV1,hV2,hV3⟩,ih⟩:=hL;have hcm:∀(i:Nat) (h:i<cs.length),cs[i]∈Bl x p:=fun i h=>by rw[<-hcs];exact Am h
 have hkl:∀(i:Nat) (h:i<cs.length),CC (AM (dec++[cs[i]])):=fun i h=>by unfold CC AM;rw[Lm,Ac];simp;omega
 clear hcs
 refine Bv (Ky ⟨[9],[(6,1),(7,3),(145,1)],[],[],[],[],[],[],[(60,3),(101,3)],[(300001,500091000),(300026,500091000),(300029,500091000)],[1,5,12,15,17,21,23,24,25,26,28,29,31,32,33]⟩) [(1000,1000),(1001,1001),(1002,1002),(1003,1003),(1004,1004),(500,2000)] rfl BO hm rfl func82 aa5 rfl C4 aa5 rfl (J (show st.length=(st.map Bp).length by simp) (cU [(0,.ref 1000 0)] [(500,.arr 1 (st.map Bp)),(1000,.cells (srM roots C A s dec 500 st.length)),(1001,.tok 6 s.infs.length),(1002,.tok 1 s.drv.length),(1003,.map Hb (GQ 0 s.infs)),(1004,.dead)] Z1 Z6 (M (.gen gu 0) (J rfl (A1.imp Ug ?_)))));intro v1 g1 q1;have xY:=q1.1;have xZ:=q1.2;subst xY;subst xZ;refine J (fun h2=>?_) (fun h2=>?_)
 .exact absurd h2 (by simp;omega)
 refine cU [(0,.ref 1000 0),(4,vs p),(5,sl Br (n0::l)),(6,.slice (.id 6 1) [])] [(6,.tok 1 0),(500,.arr 1 (st.map Bp)),(1000,.cells (srM roots C A s dec 500 st.length)),(1001,.tok 6 s.infs.length),(1002,.tok 1 s.drv.length),(1003,.map Hb (GQ 0 s.infs)),(1004,.dead)] Z4 Z7 (J (fun a ha=>?_) (fun OB=>?_))
 .have ea:=hC1 a ha;subst ea;refine M {q:Nat×SS×Au7×Au6 // q.1<=cs.length/\Dx (Cw x roots n) x p (n0::l) n0 dec st (cs.drop q.1) q.2.1 q.2.2.1 q.2.2.2=R/\Lx x roots q.2.1/\(∀r∈q.2.2.1,r<q.2.1.drv.length)/\q.2.2.1.length<=q.1/\q.2.2.2.length<=q.1} (M (fun q=>⟨[(0,.ref 1000 0),(4,vs p),(5,sl Br (n0::l)),(6,.slice (.id 6 1) (q.1.2.2.1.map CM)),(7,.slice (.id 7 3) (q.1.2.2.2.map AT)),(32,sl A2 cs),(33,G (cs.map A2).length),(34,G q.1.1)],[(6,.tok 1 q.1.2.2.1.length),(7,.tok 3 q.1.2.2.2.length),(500,.arr 1 (st.map Bp)),(1000,.cells (srM roots C A q.1.2.1 dec 500 st.length)),(1001,.tok 6 q.1.2.1.infs.length),(1002,.tok 1 q.1.2.1.drv.length),(1003,.map Hb (GQ 0 q.1.2.1.infs)),(1004,.dead)],Ab⟩) (M (fun q=>cs.length-q.1.1) (J (M ⟨(0,s,[],[]),Ai _,hR,hs,fun r h=>(by cases h),Af _,Af _⟩ ?_) ?_)))
  .exact⟨Z8,Z8,Fh,AX aa5⟩
  intro⟨⟨i,S,rs,sk⟩,j1,j2,j3,j4,j5,j6⟩;have j5:rs.length<=i:=j5;have j6:sk.length<=i:=j6;have hw:=j3.dl;have hft:∀t∈S.drv,ZE t:=fun t ht=>by have q:=j3.der.few hx hr t ht;exact⟨E8 q,q.2⟩
  refine J (fun h3=>?_) (fun h3=>?_)
  .have h3:(i:Int)<((cs.map A2).length:Int):=h3;have n3:=Gj h3;refine M (A2 cs[i]) (J (IM n3) (J rfl (U (U (J (fun h4=>?_) (fun h4=>?_))))))
   .have eR:R=⟨0,false,S,dec,st⟩:=by rw[<-j2];exact vY n3 h4
    exact H (.refl _) (OP (kq.trans eR))
   have io:=s86 (fF:=150) (caps:=[.cptr (A2 cs[i])]) (fun c hc=>by obtain rfl:=AA.1 hc;intro h;rfl) (n0::l) (fun n=>!has n.rq.set cs[i].place) (fun n hn=>s87 n cs[i] (hnq n hn)) hnl;refine Be (nO (fun n=>!has n.rq.set cs[i].place) (n0::l)) (fun h6=>?_) (fun h6=>?_)
   .refine AE h6 (fun k86 h6=>AE h6 (fun nd h6=>?_));rw[h6.1]at io;refine C1 (H io (cU [(0,.ref 1000 0),(4,vs p),(5,sl Br (n0::l)),(6,.slice (.id 6 1) (rs.map CM)),(7,.slice (.id 7 3) (sk.map AT)),(9,.ref 9 0),(10,G (k86:Nat)),(32,sl A2 cs),(33,G (cs.map A2).length),(34,G i)] (qq34 cs[i] rs sk st roots C A S dec) Z10 Z9 (J (fun _=>?_) (fun hf=>absurd (show(0:Int)<=((k86:Nat):Int) by omega) hf))));refine M (Br nd) (J (J (show(0:Int)<=((k86:Nat):Int) by omega) (FB h6.2.1)) (J rfl (U ?_)));have AbB:=hex i n3 nd (BX h6.2.2) (by have q:=Gk h6.2.2;simpa using q);obtain⟨b1,b2,b3⟩:=j3.add (AbB.1 S.drv)
    change Lx x roots (Bx S nd).2 at b1
    change (Bx S nd).1<(Bx S nd).2.drv.length at b2
    change S.drv.length<=(Bx S nd).2.drv.length at b3
    refine M (.gen gu 0) (J rfl (A1.imp (s88 roots C A S dec st nd hw.1 hw.2.1 j3.nodup (hnq nd (Ax h6.2.1)) (hnp nd (Ax h6.2.1))) ?_));intro v7 g7 q7;have q7a:=q7.1;have q7b:=q7.2;subst q7a;subst q7b;refine J (cp rfl I aa3) (J (Ii i I) ?_);have dp:S.full=false:=by simpa using h4
    have eN:Dx (Cw x roots n) x p (n0::l) n0 dec st (cs.drop (i+1)) (Bx S nd).2 (rs++[(Bx S nd).1]) sk=R:=by rw[<-Aeu n3 dp h6.2.2];exact j2
    refine M ⟨(i+1,(Bx S nd).2,rs++[(Bx S nd).1],sk),Fq n3,eN,b1,fun r h=>(Bh.1 h).elim (fun h=>AF (j4 r h) b3) (fun h=>by rw[AA.1 h];exact b2),(by rw[Ac];exact Eg j5),Nat.le_succ_of_le j6⟩ ?_;exact⟨Dl cs.length i I,⟨Z,Z,Z,⟨(show AV.slice (.id 6 1) (rs.map CM++[[G (((Bx S nd).1:Nat):Int)]])=.slice (.id 6 1) ((rs++[(Bx S nd).1]).map CM) by rw[Au];rfl),rfl⟩,Z,Z,Z,Z,X⟩,⟨⟨(show HO.tok 1 ((rs.map CM).length+([[G (((Bx S nd).1:Nat):Int)]]:C0).length)=.tok 1 (rs++[(Bx S nd).1]).length by simp),rfl⟩,Z,Z,Z,Z,Z,Z,Z,X⟩,Fh,AX aa5⟩
   skip
   rw[h6.1]at io;refine C1 (H io (cU [(0,.ref 1000 0),(4,vs p),(5,sl Br (n0::l)),(6,.slice (.id 6 1) (rs.map CM)),(7,.slice (.id 7 3) (sk.map AT)),(9,.ref 9 0),(10,G (-1)),(32,sl A2 cs),(33,G (cs.map A2).length),(34,G i)] (qq34 cs[i] rs sk st roots C A S dec) Z10 Z9 (J (fun h=>absurd h aa3) (fun _=>?_))));refine M _ (H aa5 (J (AaS (AM dec) (by unfold CC AM;rw[Lm];omega)) (U ?_)));have pR:=bT (sz:=4) (k:=40) (n:=((AM dec).map Ar).length) (l:=((AM dec).map Ar)) (ys:=[(qq43 cs[i] p)]) ⟨rfl,trivial⟩ rfl (by simp only[Lm,AK,A4];omega);refine J pR (J aa5 (cU [(0,.ref 1000 0),(4,vs p),(5,sl Br (n0::l)),(6,.slice (.id 6 1) (rs.map CM)),(7,.slice (.id 7 3) (sk.map AT)),(9,.ref 9 0),(qq40 cs[i] dec),(32,sl A2 cs),(33,G (cs.map A2).length),(34,G i)] [(6,.tok 1 rs.length),(7,.tok 3 sk.length),(9,.ro (A2 cs[i])),(500,.arr 1 (st.map Bp)),(1000,.cells (srM roots C A S dec 500 st.length)),(1001,.tok 6 S.infs.length),(1002,.tok 1 S.drv.length),(1003,.map Hb (GQ 0 S.infs)),(1004,.dead),(qq39 cs[i] dec)] ⟨Z,Z,Z,Z,Z,Z,⟨(show(.slice (.id 16000 4) (((AM dec).map Ar)++[(qq43 cs[i] p)]):AV)=.slice (.id 16000 4) ((AM (dec++[cs[i]])).map Ar) by rw[hkey i n3]),rfl⟩,Z,Z,Z,X⟩ ⟨Z,Z,Z,Z,Z,Z,Z,Z,Z,⟨(show(.tok 4 (((AM dec).map Ar).length+([(qq43 cs[i] p)]:C0).length):HO)=.tok 4 ((AM (dec++[cs[i]])).map Ar).length by rw[<-hkey i n3,Ac]),rfl⟩,X⟩ ?_))
   have LU:=s89 roots C A S dec st (AM (dec++[cs[i]])) hw.2.2 hft (hkl i n3);refine Be (iP (OZ S.drv (AM (dec++[cs[i]])))) (fun H1=>?_) (fun H1=>?_)
   .refine AE H1 (fun ke H1=>?_);have eV:ZY S.drv (AM (dec++[cs[i]]))=.tup [G (ke:Nat),Q true]:=by unfold ZY;rw[H1];rfl
    rw[eV]at LU;refine M (.gen gu 0) (J rfl (A1.imp LU ?_));intro v12 g12 iZ;have Acn:=iZ.1;have Aco:=iZ.2;subst Acn;subst Aco;refine U ?_;have au:=s69 roots C A S dec st cs[i] I (hcr i n3) (hcs_ i n3);refine Be (iP (DM dec cs[i])) (fun Rt=>?_) (fun Rt=>?_)
    .refine AE Rt (fun nc Rt=>?_);have eW:clV (DM dec cs[i])=.tup [.agg (Br nc),Q true]:=by rw[Rt];rfl
     rw[eW]at au;refine M (.gen gu 0) (J rfl (A1.imp au ?_));intro v14 g14 q14;have Al9:=q14.1;have Ala:=q14.2;subst Al9;subst Ala;refine U (cU [(0,.ref 1000 0),(4,vs p),(5,sl Br (n0::l)),(6,.slice (.id 6 1) (rs.map CM)),(7,.slice (.id 7 3) (sk.map AT)),(9,.ref 9 0),(qq40 cs[i] dec),(12,G (ke:Nat)),(13,Q true),(14,.ref 14 0),(15,Q true),(32,sl A2 cs),(33,G (cs.map A2).length),(34,G i)] [(6,.tok 1 rs.length),(7,.tok 3 sk.length),(9,.ro (A2 cs[i])),(14,.cells (Br nc)),(500,.arr 1 (st.map Bp)),(1000,.cells (srM roots C A S dec 500 st.length)),(1001,.tok 6 S.infs.length),(1002,.tok 1 S.drv.length),(1003,.map Hb (GQ 0 S.infs)),(1004,.dead),(qq39 cs[i] dec)] ⟨Z,Z,Z,Z,Z,Z,Z,Z,Z,Z,Z,Z,Z,Z,X⟩ Z11 (M ⟨(qq36 p n0 l rs sk ke cs i),(qq34 cs[i] rs sk st roots C A S dec),Ab⟩ (J ⟨Z10,Z9,Fh,AX aa5⟩ (M (BD (D2 S ke)) (J (J (show(0:Int)<=((ke:Nat):Int) by omega) (FB (EV (KV H1).1))) (J rfl ?_))))));have dp:S.full=false:=by simpa using h4
     have Yj:ke<S.drv.length:=(KV H1).1;have kJ:=j3.der.few hx hr;refine Be (Bt (Dq (D2 S ke) p)) (fun Ru=>?_) (fun Ru=>?_)
     .refine C1 (H (cb Ru (vv (D2 S ke) p (E8 (kJ _ (Ax (EV Yj)))))) (M ⟨(qq36 p n0 l rs sk ke cs i),(qq34 cs[i] rs sk st roots C A S dec),Ab⟩ (J ⟨Z10,Z9,Fh,AX aa5⟩ (J (cp rfl I aa3) (J (cp rfl I aa3) (J (Ii i I) ?_))))));have eA:=(ZQ (rec:=Cw x roots n) (x:=x) (p:=p) (n0:=n0) (st:=st) (rs:=rs) (sk:=sk) n3 dp h6.2 H1);have eN:Dx (Cw x roots n) x p (n0::l) n0 dec st (cs.drop (i+1)) S (rs++[ke]) (sk++[(⟨p,cs[i].place,(ke:Nat)⟩:Sk)])=R:=by rw[<-ZK (c:=cs[i]) Ru,<-eA];exact j2
      refine M ⟨(i+1,S,rs++[ke],sk++[(⟨p,cs[i].place,(ke:Nat)⟩:Sk)]),Fq n3,eN,j3,fun r h=>(Bh.1 h).elim ((fun r h=>j4 r h) r) (fun h=>by rw[AA.1 h];exact Yj),(by rw[Ac];exact Eg j5),(by rw[Ac];exact Eg j6)⟩ ?_;exact⟨Dl cs.length i I,⟨Z,Z,Z,⟨(show AV.slice (.id 6 1) (rs.map CM++[[G ((ke:Nat):Int)]])=.slice (.id 6 1) ((rs++[ke]).map CM) by rw[Au];rfl),rfl⟩,⟨(show AV.slice (.id 7 3) (sk.map AT++[[vs p,G cs[i].place,G ((ke:Nat):Int)]])=.slice (.id 7 3) ((sk++[(⟨p,cs[i].place,(ke:Nat)⟩:Sk)]).map AT) by rw[Au];rfl),rfl⟩,Z,Z,Z,X⟩,⟨⟨(show HO.tok 1 ((rs.map CM).length+([[G ((ke:Nat):Int)]]:C0).length)=.tok 1 (rs++[ke]).length by simp),rfl⟩,⟨(show HO.tok 3 ((sk.map AT).length+([[vs p,G cs[i].place,G ((ke:Nat):Int)]]:C0).length)=.tok 3 (sk++[(⟨p,cs[i].place,(ke:Nat)⟩:Sk)]).length by simp),rfl⟩,Z,Z,Z,Z,Z,Z,X⟩,Fh,AX aa5⟩
     refine C1 (H (cb Ru (vv (D2 S ke) p (E8 (kJ _ (Ax (EV Yj)))))) (cU [(12,G (ke:Nat))] [(500,.arr 1 (st.map Bp)),(1000,.cells (srM roots C A S dec 500 st.length)),(1001,.tok 6 S.infs.length),(1002,.tok 1 S.drv.length),(1003,.map Hb (GQ 0 S.infs)),(1004,.dead)] Z1 Z6 ?_))
     have eA:=(ZQ (rec:=Cw x roots n) (x:=x) (p:=p) (n0:=n0) (st:=st) (rs:=rs) (sk:=sk) n3 dp h6.2 H1);have eR:R=⟨ke,false,S,dec,st⟩:=by rw[<-j2];rw[eA];exact jL Ru
     exact H (.refl _) (OP (kq.trans eR))
    skip
    have eW:clV (DM dec cs[i])=.tup [.agg qq41,Q false]:=by rw[Rt];rfl
    rw[eW]at au;refine M (.gen gu 0) (J rfl (A1.imp au ?_));intro v20 g20 q20;have Alb:=q20.1;have Alc:=q20.2;subst Alb;subst Alc;refine U (cU [(0,.ref 1000 0),(4,vs p),(5,sl Br (n0::l)),(6,.slice (.id 6 1) (rs.map CM)),(7,.slice (.id 7 3) (sk.map AT)),(9,.ref 9 0),(qq40 cs[i] dec),(12,G (ke:Nat)),(13,Q true),(14,.ref 14 0),(15,Q false),(32,sl A2 cs),(33,G (cs.map A2).length),(34,G i)] [(6,.tok 1 rs.length),(7,.tok 3 sk.length),(9,.ro (A2 cs[i])),(14,.cells qq41),(500,.arr 1 (st.map Bp)),(1000,.cells (srM roots C A S dec 500 st.length)),(1001,.tok 6 S.infs.length),(1002,.tok 1 S.drv.length),(1003,.map Hb (GQ 0 S.infs)),(1004,.dead),(qq39 cs[i] dec)] ⟨Z,Z,Z,Z,Z,Z,Z,Z,Z,Z,Z,Z,Z,Z,X⟩ Z11 (M ⟨(qq36 p n0 l rs sk ke cs i),(qq34 cs[i] rs sk st roots C A S dec),Ab⟩ (J ⟨Z10,Z9,Fh,AX aa5⟩ (M (BD (D2 S ke)) (J (J (show(0:Int)<=((ke:Nat):Int) by omega) (FB (EV (KV H1).1))) (J rfl ?_))))));have dp:S.full=false:=by simpa using h4
    have Yj:ke<S.drv.length:=(KV H1).1;have kJ:=j3.der.few hx hr;refine Be (Bt (Dq (D2 S ke) p)) (fun h21=>?_) (fun h21=>?_)
    .refine C1 (H (cb h21 (vv (D2 S ke) p (E8 (kJ _ (Ax (EV Yj)))))) (M ⟨(qq36 p n0 l rs sk ke cs i),(qq34 cs[i] rs sk st roots C A S dec),Ab⟩ (J ⟨Z10,Z9,Fh,AX aa5⟩ (J (cp rfl I aa3) (J (cp rfl I aa3) (J (Ii i I) ?_))))));have eA:=(ZQ (rec:=Cw x roots n) (x:=x) (p:=p) (n0:=n0) (st:=st) (rs:=rs) (sk:=sk) n3 dp h6.2 H1);have eN:Dx (Cw x roots n) x p (n0::l) n0 dec st (cs.drop (i+1)) S (rs++[ke]) (sk++[(⟨p,cs[i].place,(ke:Nat)⟩:Sk)])=R:=by rw[<-ZK (c:=cs[i]) h21,<-eA];exact j2
     refine M ⟨(i+1,S,rs++[ke],sk++[(⟨p,cs[i].place,(ke:Nat)⟩:Sk)]),Fq n3,eN,j3,fun r h=>(Bh.1 h).elim ((fun r h=>j4 r h) r) (fun h=>by rw[AA.1 h];exact Yj),(by rw[Ac];exact Eg j5),(by rw[Ac];exact Eg j6)⟩ ?_;exact⟨Dl cs.length i I,⟨Z,Z,Z,⟨(show AV.slice (.id 6 1) (rs.map CM++[[G ((ke:Nat):Int)]])=.slice (.id 6 1) ((rs++[ke]).map CM) by rw[Au];rfl),rfl⟩,⟨(show AV.slice (.id 7 3) (sk.map AT++[[vs p,G cs[i].place,G ((ke:Nat):Int)]])=.slice (.id 7 3) ((sk++[(⟨p,cs[i].place,(ke:Nat)⟩:Sk)]).map AT) by rw[Au];rfl),rfl⟩,Z,Z,Z,X⟩,⟨⟨(show HO.tok 1 ((rs.map CM).length+([[G ((ke:Nat):Int)]]:C0).length)=.tok 1 (rs++[ke]).length by simp),rfl⟩,⟨(show HO.tok 3 ((sk.map AT).length+([[vs p,G cs[i].place,G ((ke:Nat):Int)]]:C0).length)=.tok 3 (sk++[(⟨p,cs[i].place,(ke:Nat)⟩:Sk)]).length by simp),rfl⟩,Z,Z,Z,Z,Z,Z,X⟩,Fh,AX aa5⟩
    refine C1 (H (cb h21 (vv (D2 S ke) p (E8 (kJ _ (Ax (EV Yj)))))) (cU [(12,G (ke:Nat))] [(500,.arr 1 (st.map Bp)),(1000,.cells (srM roots C A S dec 500 st.length)),(1001,.tok 6 S.infs.length),(1002,.tok 1 S.drv.length),(1003,.map Hb (GQ 0 S.infs)),(1004,.dead)] Z1 Z6 ?_))
    have eA:=(ZQ (rec:=Cw x roots n) (x:=x) (p:=p) (n0:=n0) (st:=st) (rs:=rs) (sk:=sk) n3 dp h6.2 H1);have eR:R=⟨ke,false,S,dec,st⟩:=by rw[<-j2];rw[eA];exact jL h21
    exact H (.refl _) (OP (kq.trans eR))
   skip
   have eV:ZY S.drv (AM (dec++[cs[i]]))=.tup [G 0,Q false]:=by unfold ZY;rw[H1];rfl
   rw[eV]at LU;refine M (.gen gu 0) (J rfl (A1.imp LU ?_));intro v26 g26 q26;have Ald:=q26.1;have Ale:=q26.2;subst Ald;subst Ale;refine U ?_;have au:=s69 roots C A S dec st cs[i] I (hcr i n3) (hcs_ i n3);refine Be (iP (DM dec cs[i])) (fun VE=>?_) (fun VE=>?_)
   .refine AE VE (fun nc VE=>?_);have eW:clV (DM dec cs[i])=.tup [.agg (Br nc),Q true]:=by rw[VE];rfl
    rw[eW]at au;refine M (.gen gu 0) (J rfl (A1.imp au ?_));intro v28 g28 q28;have Alf:=q28.1;have Alg:=q28.2;subst Alf;subst Alg;refine U (cU [(0,.ref 1000 0),(4,vs p),(5,sl Br (n0::l)),(6,.slice (.id 6 1) (rs.map CM)),(7,.slice (.id 7 3) (sk.map AT)),(9,.ref 9 0),(qq40 cs[i] dec),(12,G 0),(13,Q false),(14,.ref 14 0),(15,Q true),(32,sl A2 cs),(33,G (cs.map A2).length),(34,G i)] [(6,.tok 1 rs.length),(7,.tok 3 sk.length),(9,.ro (A2 cs[i])),(14,.cells (Br nc)),(500,.arr 1 (st.map Bp)),(1000,.cells (srM roots C A S dec 500 st.length)),(1001,.tok 6 S.infs.length),(1002,.tok 1 S.drv.length),(1003,.map Hb (GQ 0 S.infs)),(1004,.dead),(qq39 cs[i] dec)] ⟨Z,Z,Z,Z,Z,Z,Z,Z,Z,Z,Z,Z,Z,Z,X⟩ Z11 (U ?_));have AbB:=hcx i n3 nc VE;obtain⟨b1,b2,b3⟩:=j3.add (AbB.1 S.drv)
    change Lx x roots (Bx S nc).2 at b1
    change (Bx S nc).1<(Bx S nc).2.drv.length at b2
    change S.drv.length<=(Bx S nc).2.drv.length at b3
    refine M (.gen gu 0) (J rfl (A1.imp (s88 roots C A S dec st nc hw.1 hw.2.1 j3.nodup (hcq i n3 nc (LF VE).1) (hcp_ i n3 nc (LF VE).1)) ?_));intro v29 g29 q29;have Alh:=q29.1;have Ali:=q29.2;subst Alh;subst Ali;refine cU [(0,.ref 1000 0),(4,vs p),(5,sl Br (n0::l)),(6,.slice (.id 6 1) (rs.map CM)),(7,.slice (.id 7 3) (sk.map AT)),(9,.ref 9 0),(12,G ((Bx S nc).1:Nat)),(32,sl A2 cs),(33,G (cs.map A2).length),(34,G i)] [(6,.tok 1 rs.length),(7,.tok 3 sk.length),(9,.ro (A2 cs[i])),(500,.arr 1 (st.map Bp)),(qq37 roots C A S nc dec st),(1001,.tok 6 (Bx S nc).2.infs.length),(1002,.tok 1 (Bx S nc).2.drv.length),(1003,.map Hb (GQ 0 (Bx S nc).2.infs)),(1004,.dead)] Z10 Z9 (M (BD (D2 (Bx S nc).2 (Bx S nc).1)) (J (J (show(0:Int)<=(((Bx S nc).1:Nat):Int) by omega) (FB (EV b2))) (J rfl ?_)));have dp:S.full=false:=by simpa using h4
    have Yj:(Bx S nc).1<(Bx S nc).2.drv.length:=b2;have kJ:=b1.der.few hx hr;refine Be (Bt (Dq (D2 (Bx S nc).2 (Bx S nc).1) p)) (fun ij=>?_) (fun ij=>?_)
    .refine C1 (H (cb ij (vv (D2 (Bx S nc).2 (Bx S nc).1) p (E8 (kJ _ (Ax (EV Yj)))))) (cU [(0,.ref 1000 0),(4,vs p),(5,sl Br (n0::l)),(6,.slice (.id 6 1) (rs.map CM)),(7,.slice (.id 7 3) (sk.map AT)),(9,.ref 9 0),(12,G ((Bx S nc).1:Nat)),(32,sl A2 cs),(33,G (cs.map A2).length),(34,G i)] [(6,.tok 1 rs.length),(7,.tok 3 sk.length),(9,.ro (A2 cs[i])),(500,.arr 1 (st.map Bp)),(qq37 roots C A S nc dec st),(1001,.tok 6 (Bx S nc).2.infs.length),(1002,.tok 1 (Bx S nc).2.drv.length),(1003,.map Hb (GQ 0 (Bx S nc).2.infs)),(1004,.dead)] Z10 Z9 (J (cp rfl I aa3) (J (cp rfl I aa3) (J (Ii i I) ?_)))));have eA:=(cu (rec:=Cw x roots n) (x:=x) (p:=p) (n0:=n0) (st:=st) (rs:=rs) (sk:=sk) n3 dp h6.2 H1 VE);have eN:Dx (Cw x roots n) x p (n0::l) n0 dec st (cs.drop (i+1)) (Bx S nc).2 (rs++[(Bx S nc).1]) (sk++[(⟨p,cs[i].place,((Bx S nc).1:Nat)⟩:Sk)])=R:=by rw[<-ZK (c:=cs[i]) ij,<-eA];exact j2
     refine M ⟨(i+1,(Bx S nc).2,rs++[(Bx S nc).1],sk++[(⟨p,cs[i].place,((Bx S nc).1:Nat)⟩:Sk)]),Fq n3,eN,b1,fun r h=>(Bh.1 h).elim ((fun r h=>AF (j4 r h) b3) r) (fun h=>by rw[AA.1 h];exact Yj),(by rw[Ac];exact Eg j5),(by rw[Ac];exact Eg j6)⟩ ?_;exact⟨Dl cs.length i I,⟨Z,Z,Z,⟨(show AV.slice (.id 6 1) (rs.map CM++[[G (((Bx S nc).1:Nat):Int)]])=.slice (.id 6 1) ((rs++[(Bx S nc).1]).map CM) by rw[Au];rfl),rfl⟩,⟨(show AV.slice (.id 7 3) (sk.map AT++[[vs p,G cs[i].place,G (((Bx S nc).1:Nat):Int)]])=.slice (.id 7 3) ((sk++[(⟨p,cs[i].place,((Bx S nc).1:Nat)⟩:Sk)]).map AT) by rw[Au];rfl),rfl⟩,Z,Z,Z,X⟩,⟨⟨(show HO.tok 1 ((rs.map CM).length+([[G (((Bx S nc).1:Nat):Int)]]:C0).length)=.tok 1 (rs++[(Bx S nc).1]).length by simp),rfl⟩,⟨(show HO.tok 3 ((sk.map AT).length+([[vs p,G cs[i].place,G (((Bx S nc).1:Nat):Int)]]:C0).length)=.tok 3 (sk++[(⟨p,cs[i].place,((Bx S nc).1:Nat)⟩:Sk)]).length by simp),rfl⟩,Z,Z,Z,Z,Z,Z,X⟩,Fh,AX aa5⟩
    refine C1 (H (cb ij (vv (D2 (Bx S nc).2 (Bx S nc).1) p (E8 (kJ _ (Ax (EV Yj)))))) (cU [(12,G ((Bx S nc).1:Nat))] [(500,.arr 1 (st.map Bp)),(qq37 roots C A S nc dec st),(1001,.tok 6 (Bx S nc).2.infs.length),(1002,.tok 1 (Bx S nc).2.drv.length),(1003,.map Hb (GQ 0 (Bx S nc).2.infs)),(1004,.dead)] Z1 Z6 ?_))
    have eA:=(cu (rec:=Cw x roots n) (x:=x) (p:=p) (n0:=n0) (st:=st) (rs:=rs) (sk:=sk) n3 dp h6.2 H1 VE);have eR:R=⟨(Bx S nc).1,false,(Bx S nc).2,dec,st⟩:=by rw[<-j2];rw[eA];exact jL ij
    exact H (.refl _) (OP (kq.trans eR))
   skip
   have eW:clV (DM dec cs[i])=.tup [.agg qq41,Q false]:=by rw[VE];rfl
   rw[eW]at au;refine M (.gen gu 0) (J rfl (A1.imp au ?_));intro v35 g35 q35;have All:=q35.1;have Alm:=q35.2;subst All;subst Alm;refine U (cU [(0,.ref 1000 0),(4,vs p),(5,sl Br (n0::l)),(6,.slice (.id 6 1) (rs.map CM)),(7,.slice (.id 7 3) (sk.map AT)),(9,.ref 9 0),(qq40 cs[i] dec),(12,G 0),(13,Q false),(14,.ref 14 0),(15,Q false),(32,sl A2 cs),(33,G (cs.map A2).length),(34,G i)] [(6,.tok 1 rs.length),(7,.tok 3 sk.length),(9,.ro (A2 cs[i])),(14,.cells qq41),(500,.arr 1 (st.map Bp)),(1000,.cells (srM roots C A S dec 500 st.length)),(1001,.tok 6 S.infs.length),(1002,.tok 1 S.drv.length),(1003,.map Hb (GQ 0 S.infs)),(1004,.dead),(qq39 cs[i] dec)] ⟨Z,Z,Z,Z,Z,Z,Z,Z,Z,Z,Z,Z,Z,Z,X⟩ Z11 (J aa5 (cU [(0,.ref 1000 0),(4,vs p),(5,sl Br (n0::l)),(6,.slice (.id 6 1) (rs.map CM)),(7,.slice (.id 7 3) (sk.map AT)),(9,.ref 9 0),(qq40 cs[i] dec),(16,sl A2 dec),(17,sl Ar (AM dec)),(32,sl A2 cs),(33,G (cs.map A2).length),(34,G i)] [(6,.tok 1 rs.length),(7,.tok 3 sk.length),(9,.ro (A2 cs[i])),(500,.arr 1 (st.map Bp)),(1000,.cells (srM roots C A S dec 500 st.length)),(1001,.tok 6 S.infs.length),(1002,.tok 1 S.drv.length),(1003,.map Hb (GQ 0 S.infs)),(1004,.dead),(qq39 cs[i] dec)] Z12 Z10 (M _ (H aa5 (J (AgC dec (by unfold CC;omega)) (U ?_)))))));have b36:=bT (sz:=10) (k:=128) (n:=(dec.map A2).length) (l:=(dec.map A2)) (ys:=[(A2 cs[i])]) ⟨rfl,trivial⟩ rfl (by simp only[Lm,AK,A4];omega);refine J b36 (U (U (J aa5 ?_)));have b37:=bT (sz:=1) (k:=24) (n:=st.length) (l:=(st.map Bp)) (ys:=[[sl AT sk]]) ⟨rfl,trivial⟩ (by rw[Lm]) (by simp only[Lm,AK,A4];omega);refine J b37 (U (M ⟨(qq46 p n0 l rs sk dec cs i),[(6,.tok 1 rs.length),(7,.tok 3 sk.length),(9,.ro (A2 cs[i])),(500,.arr 1 ((st.map Bp)++[[sl AT sk]])),(1000,.cells (qq42 cs[i] roots C A S dec st sk)),(1001,.tok 6 S.infs.length),(1002,.tok 1 S.drv.length),(1003,.map Hb (GQ 0 S.infs)),(1004,.dead),(qq39 cs[i] dec),(20100,.tok 10 ((dec.map A2).length+([(A2 cs[i])]:C0).length))],Ab⟩ (J ⟨Z11,Z11,Fh,AX aa5⟩ (M ⟨(qq46 p n0 l rs sk dec cs i),[(6,.tok 1 rs.length),(7,.tok 3 sk.length),(9,.ro (A2 cs[i])),(500,.arr 1 ((st++[sk]).map Bp)),(1000,.cells (qq45 cs[i] roots C A S dec st sk)),(1001,.tok 6 S.infs.length),(1002,.tok 1 S.drv.length),(1003,.map Hb (GQ 0 S.infs)),(1004,.dead),(qq39 cs[i] dec),(20100,.tok 10 ((dec++[cs[i]]).map A2).length)],Ab⟩ (J ⟨Z11,⟨Z,Z,Z,⟨(show(.arr 1 ((st.map Bp)++[[sl AT sk]]):HO)=.arr 1 ((st++[sk]).map Bp) by simp),rfl⟩,⟨(show(.cells (qq42 cs[i] roots C A S dec st sk):HO)=.cells (qq45 cs[i] roots C A S dec st sk) by simp),rfl⟩,Z,Z,Z,Z,Z,⟨(show(.tok 10 ((dec.map A2).length+([(A2 cs[i])]:C0).length):HO)=.tok 10 ((dec++[cs[i]]).map A2).length by simp),rfl⟩,X⟩,Fh,AX aa5⟩ ?_)))))
   have EZ:oF dec (n0::l) cs[i]=true:=QR.2 ⟨fun n hn=>by have q:=PN.1 h6.2 n hn;simpa using q,VE⟩;have rI:=ih cs[i] (hcm i n3) EZ S (st++[sk]) (by simp[Jp]) j3 (by simpa using h4);refine AE (show ∃o,o=Cw x roots n (dec++[cs[i]]) S (st++[sk])from⟨_,rfl⟩) (fun o ho=>?_);rw[<-ho]at rI;have hrc:A1 prog 82 [.ref 1000 0] (Ah (Jr roots C A S (dec++[cs[i]]) (st++[sk])) Ab) (fun r h'=>r=.tup [G (o.res:Nat),Q o.found]/\h'=Ah (srE roots C A o.ss o.dec o.stack) Ab):=rI.1;have hrs:=rI.2.1;have hrn:=rI.2.2.1;refine Be (Bt o.found) (fun am=>?_) (fun am=>?_)
   .skip
    rw[am]at hrc;refine M (.gen gu 1) (J rfl (A1.imp hrc ?_));intro v39 g39 q39;have Aln:=q39.1;have Alo:=q39.2;subst Aln;subst Alo;refine cU [(0,.ref 1000 0),(4,vs p),(5,sl Br (n0::l)),(6,.slice (.id 6 1) (rs.map CM)),(7,.slice (.id 7 3) (sk.map AT)),(9,.ref 9 0),(12,G (o.res:Nat)),(16,sl A2 dec),(17,sl Ar (AM dec)),(18,Q true),(32,sl A2 cs),(33,G (cs.map A2).length),(34,G i)] (qq44 cs[i] rs sk roots C A o) Z13 Z9 (J (show o.stack.length=(o.stack.map Bp).length by simp) (cU [] [(500,.arr 1 (o.stack.map Bp)),(1000,.cells (srM roots C A o.ss o.dec 500 o.stack.length)),(1001,.tok 6 o.ss.infs.length),(1002,.tok 1 o.ss.drv.length),(1003,.map Hb (GQ 0 o.ss.infs)),(1004,.dead)] X Z6 ?_))
    have dp:S.full=false:=by simpa using h4
    have eR:R=⟨0,true,o.ss,o.dec,o.stack⟩:=by rw[<-j2];rw[ZR (sk:=sk) n3 dp h6.2 H1 VE ho,AO am]
    exact H (.refl _) (OP (kq.trans eR))
   skip
   rw[am]at hrc;have hrk:=rI.2.2.2 am;have VO:o.stack.length=st.length+1:=by rw[hrk];simp
   refine M (.gen gu 1) (J rfl (A1.imp hrc ?_));intro v41 g41 q41;have Alp:=q41.1;have Alq:=q41.2;subst Alp;subst Alq;refine cU [(0,.ref 1000 0),(4,vs p),(5,sl Br (n0::l)),(6,.slice (.id 6 1) (rs.map CM)),(7,.slice (.id 7 3) (sk.map AT)),(9,.ref 9 0),(12,G (o.res:Nat)),(16,sl A2 dec),(17,sl Ar (AM dec)),(18,Q false),(32,sl A2 cs),(33,G (cs.map A2).length),(34,G i)] (qq44 cs[i] rs sk roots C A o) Z13 Z9 (U (U (M ⟨(qq35 p n0 l rs sk o cs i),[(6,.tok 1 rs.length),(7,.tok 3 sk.length),(9,.ro (A2 cs[i])),(1000,.cells (srM roots C A o.ss dec 22200 o.stack.length)),(1001,.tok 6 o.ss.infs.length),(1002,.tok 1 o.ss.drv.length),(1003,.map Hb (GQ 0 o.ss.infs)),(1004,.dead),(22200,.arr 1 (o.stack.map Bp))],Ab⟩ (J ⟨Z10,Z9,Fh,AX aa5⟩ (J (by show As ((o.stack.length:Int)-(1:Int));unfold As;omega) (J ⟨(show o.stack.length=(o.stack.map Bp).length by simp),(show(0:Int)<=o.stack.length-1 by omega),(show(o.stack.length-1:Int)<=((o.stack.map Bp).length:Nat) by rw[Lm];omega)⟩ (U (J aa5 (J (show(o.stack.length-1:Int).toNat=(((o.stack.map Bp).take (o.stack.length-1:Int).toNat):C0).length by simp) ?_)))))))));have Afp:((o.stack.map Bp).take ((o.stack.length:Int)-1).toNat)=st.map Bp/\((o.stack.length:Int)-1).toNat=st.length:=Afq hrk;refine M ⟨(qq35 p n0 l rs sk o cs i),(qq38 cs[i] rs sk st roots C A o dec),Ab⟩ (J ⟨Z10,⟨Z,Z,Z,⟨(show(.arr 1 ((o.stack.map Bp).take (o.stack.length-1:Int).toNat):HO)=.arr 1 (st.map Bp) by rw[Afp.1]),rfl⟩,⟨(show(.cells (srM roots C A o.ss dec 500 (o.stack.length-1:Int).toNat):HO)=.cells (srM roots C A o.ss dec 500 st.length) by rw[Afp.2]),rfl⟩,Z,Z,Z,Z,X⟩,Fh,AX aa5⟩ ?_)
   refine J (fun h42=>?_) (fun h42=>?_)
   .have dp:S.full=false:=by simpa using h4
    have eR:R=⟨0,false,o.ss,dec,st⟩:=by rw[<-j2];rw[ZR (sk:=sk) n3 dp h6.2 H1 VE ho,AB (by rw[am];decide),AO h42]
    exact H (.refl _) (OP (kq.trans eR))
   have nD:o.ss.full=false:=h42;refine M ⟨(qq35 p n0 l rs sk o cs i),(qq38 cs[i] rs sk st roots C A o dec),Ab⟩ (J ⟨Z10,Z9,Fh,AX aa5⟩ (M (BD (D2 o.ss o.res)) (J (J (show(0:Int)<=((o.res:Nat):Int) by omega) (FB (EV (hrn.2 am nD)))) (J rfl ?_))));have dp:S.full=false:=by simpa using h4
   have Yj:o.res<o.ss.drv.length:=(hrn.2 am nD);have kJ:=hrs.der.few hx hr;refine Be (Bt (Dq (D2 o.ss o.res) p)) (fun h44=>?_) (fun h44=>?_)
   .refine C1 (H (cb h44 (vv (D2 o.ss o.res) p (E8 (kJ _ (Ax (EV Yj)))))) (M ⟨(qq35 p n0 l rs sk o cs i),(qq38 cs[i] rs sk st roots C A o dec),Ab⟩ (J ⟨Z10,Z9,Fh,AX aa5⟩ (J (cp rfl I aa3) (J (cp rfl I aa3) (J (Ii i I) ?_))))));have eA:=(ZR (rec:=Cw x roots n) (x:=x) (p:=p) (n0:=n0) (st:=st) (rs:=rs) (sk:=sk) n3 dp h6.2 H1 VE ho);rw[AB (by rw[am];decide),AB (by rw[nD];decide)]at eA;have eN:Dx (Cw x roots n) x p (n0::l) n0 dec st (cs.drop (i+1)) o.ss (rs++[o.res]) (sk++[(⟨p,cs[i].place,(o.res:Nat)⟩:Sk)])=R:=by rw[<-ZK (c:=cs[i]) h44,<-eA];exact j2
    refine M ⟨(i+1,o.ss,rs++[o.res],sk++[(⟨p,cs[i].place,(o.res:Nat)⟩:Sk)]),Fq n3,eN,hrs,fun r h=>(Bh.1 h).elim ((fun r h=>AF (j4 r h) hrn.1) r) (fun h=>by rw[AA.1 h];exact Yj),(by rw[Ac];exact Eg j5),(by rw[Ac];exact Eg j6)⟩ ?_;exact⟨Dl cs.length i I,⟨Z,Z,Z,⟨(show AV.slice (.id 6 1) (rs.map CM++[[G ((o.res:Nat):Int)]])=.slice (.id 6 1) ((rs++[o.res]).map CM) by rw[Au];rfl),rfl⟩,⟨(show AV.slice (.id 7 3) (sk.map AT++[[vs p,G cs[i].place,G ((o.res:Nat):Int)]])=.slice (.id 7 3) ((sk++[(⟨p,cs[i].place,(o.res:Nat)⟩:Sk)]).map AT) by rw[Au];rfl),rfl⟩,Z,Z,Z,X⟩,⟨⟨(show HO.tok 1 ((rs.map CM).length+([[G ((o.res:Nat):Int)]]:C0).length)=.tok 1 (rs++[o.res]).length by simp),rfl⟩,⟨(show HO.tok 3 ((sk.map AT).length+([[vs p,G cs[i].place,G ((o.res:Nat):Int)]]:C0).length)=.tok 3 (sk++[(⟨p,cs[i].place,(o.res:Nat)⟩:Sk)]).length by simp),rfl⟩,Z,Z,Z,Z,Z,Z,X⟩,Fh,AX aa5⟩
   refine C1 (H (cb h44 (vv (D2 o.ss o.res) p (E8 (kJ _ (Ax (EV Yj)))))) (cU [(12,G (o.res:Nat))] [(500,.arr 1 (st.map Bp)),(1000,.cells (srM roots C A o.ss dec 500 st.length)),(1001,.tok 6 o.ss.infs.length),(1002,.tok 1 o.ss.drv.length),(1003,.map Hb (GQ 0 o.ss.infs)),(1004,.dead)] Z1 Z6 ?_))
   have eA:=(ZR (rec:=Cw x roots n) (x:=x) (p:=p) (n0:=n0) (st:=st) (rs:=rs) (sk:=sk) n3 dp h6.2 H1 VE ho);rw[AB (by rw[am];decide),AB (by rw[nD];decide)]at eA;have eR:R=⟨o.res,false,o.ss,dec,st⟩:=by rw[<-j2];rw[eA];exact jL h44
   exact H (.refl _) (OP (kq.trans eR))
  have n3:=D6 h3;refine M (Br n0) (J (J (show(0:Int)<=0 by decide) rfl) (J rfl (U (M (.gen gu 0) (J rfl (A1.imp (s91 x roots C A S dec st p n0 rs V hx hr j3 hinf0 j4 I (hnq n0 (Ad ..)) (hnp n0 (Ad ..)) hV1 hV2 hV3) ?_))))));intro v49 g49 q49;have Alr:=q49.1;have Als:=q49.2;subst Alr;subst Als;have hj:¬i<cs.length:=by have q:=h3;rw[Lm]at q;omega
  have eR:R=⟨(Dm x p n0 rs S).1,false,(Dm x p n0 rs S).2,dec,st⟩:=by rw[<-j2];exact qt hj
  exact H (.refl _) (OP (kq.trans eR))
 exact absurd OB hC2
abbrev qq47:=fun(st:Au4) (roots:Au5) (C:Au3) (A:Au3) (s:SS) (dec:Au2)=>([(500,.arr 1 (st.map Bp)),(1000,.cells (srM roots C A s dec 500 st.length)),(1001,.tok 6 s.infs.length),(1002,.tok 1 s.drv.length),(1003,.map Hb (GQ 0 s.infs)),(1004,.dead)]:List (Nat×HO))
theorem AlL(hL:Lvl x roots C A n dec p n0 l V cs)(hs:Lx x roots s)(_:st.length=dec.length)(Ug:A1 prog 148 [.ref 1000 0] (Ah (Jr roots C A s dec st) Ab) fun r h'=>r=.tup [vs p,sl Br (n0::l)]/\h'=Ah (Jr roots C A s dec st) Ab)(Af2:cs=[])(hC2:∀a,(Value.string p,a)∉C)(hR:Dx (Cw x roots n) x p (n0::l) n0 dec st cs s [] []=R)(kq:O=R) :
  A1 prog 82 [.ref 1000 0] (Ah (Jr roots C A s dec st) Ab) (gx roots C A O):=by
 obtain⟨hx,hr,hdl,hcl,hcs,hnl,hnq,hnp,hex,hcx,hcq,hcp_,hcr,hcs_,hkey,hinf0,⟨hV1,hV2,hV3⟩,ih⟩:=hL;have hcm:∀(i:Nat) (h:i<cs.length),cs[i]∈Bl x p:=fun i h=>by rw[<-hcs];exact Am h
 have hkl:∀(i:Nat) (h:i<cs.length),CC (AM (dec++[cs[i]])):=fun i h=>by unfold CC AM;rw[Lm,Ac];simp;omega
 clear hcs
 refine Bv (Ky ⟨[9],[(6,1),(7,3),(145,1)],[],[],[],[],[],[],[],[(300001,500091000),(300026,500091000),(300029,500091000)],[1,2,5,10,11,13,14,15,16,17,19,21,22,23,24,25,26,28,29,31,32,33,35]⟩) [(1000,1000),(1001,1001),(1002,1002),(1003,1003),(1004,1004),(500,2000)] rfl BO hm rfl func82 aa5 rfl C4 aa5 rfl (J (show st.length=(st.map Bp).length by simp) (cU [(0,.ref 1000 0)] (qq47 st roots C A s dec) Z1 Z6 (M (.gen gu 0) (J rfl (A1.imp Ug ?_)))));intro v1 g1 q1;have xY:=q1.1;have xZ:=q1.2;subst xY;subst xZ;refine cU [(0,.ref 1000 0),(4,vs p),(5,sl Br (n0::l))] (qq47 st roots C A s dec) Z3 Z6 (J (fun h2=>?_) (fun h2=>?_))
 .exact absurd h2 (by simp;omega)
 refine cU [(0,.ref 1000 0),(4,vs p),(5,sl Br (n0::l)),(6,.slice (.id 6 1) [])] [(6,.tok 1 0),(500,.arr 1 (st.map Bp)),(1000,.cells (srM roots C A s dec 500 st.length)),(1001,.tok 6 s.infs.length),(1002,.tok 1 s.drv.length),(1003,.map Hb (GQ 0 s.infs)),(1004,.dead)] Z4 Z7 (J (fun a ha=>?_) (fun OB=>?_))
 .exact absurd ha (hC2 a)
 refine M {q:Nat×SS×Au7×Au6 // q.1<=cs.length/\Dx (Cw x roots n) x p (n0::l) n0 dec st (cs.drop q.1) q.2.1 q.2.2.1 q.2.2.2=R/\Lx x roots q.2.1/\(∀r∈q.2.2.1,r<q.2.1.drv.length)/\q.2.2.1.length<=q.1/\q.2.2.2.length<=q.1} (M (fun q=>⟨[(0,.ref 1000 0),(4,vs p),(5,sl Br (n0::l)),(6,.slice (.id 6 1) (q.1.2.2.1.map CM)),(7,.slice (.id 7 3) (q.1.2.2.2.map AT)),(32,nzA),(33,G 0),(34,G q.1.1)],[(6,.tok 1 q.1.2.2.1.length),(7,.tok 3 q.1.2.2.2.length),(500,.arr 1 (st.map Bp)),(1000,.cells (srM roots C A q.1.2.1 dec 500 st.length)),(1001,.tok 6 q.1.2.1.infs.length),(1002,.tok 1 q.1.2.1.drv.length),(1003,.map Hb (GQ 0 q.1.2.1.infs)),(1004,.dead)],Ab⟩) (M (fun q=>cs.length-q.1.1) (J (M ⟨(0,s,[],[]),Ai _,hR,hs,fun r h=>(by cases h),Af _,Af _⟩ ?_) ?_)))
 .exact⟨Z8,Z8,Fh,AX aa5⟩
 intro⟨⟨i,S,rs,sk⟩,j1,j2,j3,j4,j5,j6⟩;have j5:rs.length<=i:=j5;have hw:=j3.dl;have hft:∀t∈S.drv,ZE t:=fun t ht=>by have q:=j3.der.few hx hr t ht;exact⟨E8 q,q.2⟩
 refine J (fun h3=>?_) (fun h3=>?_)
 .have h3:(i:Int)<(0:Int):=h3;exact absurd h3 (by have q:=j1;rw[Af2,A4]at q;omega)
 have h3:¬((i:Int)<(0:Int)):=h3;refine M (Br n0) (J (J (show(0:Int)<=0 by decide) rfl) (J rfl (U (M (.gen gu 0) (J rfl (A1.imp (s91 x roots C A S dec st p n0 rs V hx hr j3 hinf0 j4 I (hnq n0 (Ad ..)) (hnp n0 (Ad ..)) hV1 hV2 hV3) ?_))))));intro v4 g4 q4;have q4a:=q4.1;have q4b:=q4.2;subst q4a;subst q4b;have hj:¬i<cs.length:=by rw[Af2];simp
 have eR:R=⟨(Dm x p n0 rs S).1,false,(Dm x p n0 rs S).2,dec,st⟩:=by rw[<-j2];exact qt hj
 exact H (.refl _) (OP (kq.trans eR))
theorem AlN(N:List Nd)(O:JB)(hN:N=[])(Ug:A1 prog 148 [.ref 1000 0] (Ah (Jr roots C A s dec st) Ab) fun r h'=>r=.tup [vs p,sl Br N]/\h'=Ah (Jr roots C A s dec st) Ab)(hO:O=⟨0,true,s,dec,st⟩) :
  A1 prog 82 [.ref 1000 0] (Ah (Jr roots C A s dec st) Ab) (gx roots C A O):=by
 refine Bv (Ky ⟨[],[],[],[],[],[],[],[],[],[(300001,500091000)],[1,2,5,10,11,13,14,15,16,17,19,21,22,23,25,28,29,31,32,33,35]⟩) [(1000,1000),(1001,1001),(1002,1002),(1003,1003),(1004,1004),(500,2000)] rfl BO hm rfl func82 aa5 rfl C4 aa5 rfl (J (show st.length=(st.map Bp).length by simp) (cU [(0,.ref 1000 0)] (qq47 st roots C A s dec) Z1 Z6 (M (.gen gu 0) (J rfl (A1.imp Ug ?_)))));intro v1 g1 q1;have xY:=q1.1;have xZ:=q1.2;subst xY;subst xZ;refine cU [(0,.ref 1000 0),(4,vs p),(5,sl Br N)] (qq47 st roots C A s dec) Z3 Z6 (J (fun h2=>?_) (fun h2=>?_))
 .exact H (.refl _) (OP (st:=st) hO)
 exact absurd (by rw[hN];rfl) h2
section
variable {x:List F}{roots:Au5}{p:CS}
theorem IB:∀(l:Au7) {k:Nat} {s:SS},s.infs.Nodup->(BT p l k s).2.infs.Nodup
 | [],_,_,h=>h
 |r::l,k,s,h=>by
  unfold BT;split
  .exact h
  split
  .exact IB l h
  split
  .exact IB l h
  .exact IB l (Im h)
theorem LB{needs:List Nd}{n0:Nd}{dec:Au2}{st:Au4}{rec:Au2->SS->Au4->JB}(dA:∀c s st,s.infs.Nodup->(rec (dec++[c]) s st).ss.infs.Nodup) :
  ∀(cs:Au2) {s:SS} {rs:Au7} {sk:Au6},s.infs.Nodup->(Dx rec x p needs n0 dec st cs s rs sk).ss.infs.Nodup
 | [],s,rs,sk,h=>IB _ (Im (Im h))
 |c::cs,s,rs,sk,h=>by
  have aft:∀(s' : SS) (k:Nat),s'.infs.Nodup->(IG rec x p needs n0 dec st c cs rs sk k s').ss.infs.Nodup:=fun s' k h'=>by
   unfold IG;split
   .exact h'
   .exact LB dA cs h'
  rw[FI];split
  .exact h
  cases needs.find? fun n=>!has n.rq.set c.place with
  |some n=>exact LB dA cs (Im h)
  |none=>
   dsimp only;cases OZ s.drv (AM (dec++[c]))with
   |some k=>exact aft s k h
   |none=>
    dsimp only;cases DM dec c with
    |some n=>exact aft _ _ (Im h)
    |none=>
     dsimp only;have h2:=dA c s (st++[sk]) h;split
     .exact h2
     split
     .exact h2
     .exact aft _ _ h2
theorem Rf:∀(n:Nat) {dec:Au2} {s:SS} {st:Au4},s.infs.Nodup->(Cw x roots n dec s st).ss.infs.Nodup
 |0,_,_,_,h=>h
 |n+1,dec,s,st,h=>by
  unfold Cw;cases (EA roots dec).2 with
  |nil=>exact h
  |cons n0 l=>exact LB (fun c s st h=>Rf n h) _ h
structure Env(x:List F)(roots:Au5)(C A:Au3):Prop where
 hx:AU x=0
 hr:Bb roots=0
 fx:∀r∈x,Jz r
 fr:∀q∈roots,J5 q
 c1:∀(p:CS) (a:AV),(Value.string p,a)∈C->a=sl A2 (Bl x p)
 c2:∀p:CS,(∀a,(Value.string p,a)∉C)->Bl x p=[]
 c3:∀p:CS,Bl x p=[]->∀a,(Value.string p,a)∉C
 av:∀p:CS,∃V,HV x A p V
theorem Ab7{dec:Au2}(h:∀c∈dec,c.rel.reqs.length<=16):((dec.map fun c=>c.rel.reqs).flatten).length<=16*dec.length:=by
 induction dec with
 |nil=>simp
 |cons c dec ih=>
  rw[A7,BQ,Ac,AK]
  have:=h c (Ad ..)
  have:=ih fun d hd=>h d (Aj _ hd)
  omega
theorem Acm{r:F}(h:J7 r):0<=plc r.ver/\plc r.ver<10^6:=by rw[h.plc];exact JQ h.val
theorem ox(dec:Au2):(EA roots dec).2.length<=(CZ roots dec).length:=by
 rw[Wa];cases Gz (Gf roots dec) (AM dec)with
 |none=>simp
 |some q=>exact CW _ _
theorem s45{C A:Au3}(hE:Env x roots C A)(rj:H64 roots C A):∀(n:Nat) {dec:Au2} {s:SS} {st:Au4},Dy x dec->I8 roots dec->Lx x roots s->s.full=false->FJ x dec<n->st.length=dec.length ->
  A1 prog 82 [.ref 1000 0] (Ah (Jr roots C A s dec st) Ab) (gx roots C A (Cw x roots n dec s st))
 |0,_,_,_,_,_,_,_,h,_=>by omega
 |n+1,dec,s,st,hd,nL,hs,hf,hn,Jp=>by
  have hx:=hE.hx;have hr:=hE.hr;have rP:=JM hx;have hdl:=cH hd;have Af3:dec.length<=256:=by have:=rP.1;omega
  have hrl:∀c∈dec,c.rel.reqs.length<=16:=fun c hc=>rP.2 _ (hd.cand c hc).1;have Ug:=rj s dec st I fun c hc=>Az (hrl c hc) aa3;generalize hO:Cw x roots (n+1) dec s st=O;obtain⟨N,hN⟩:∃N,N=(EA roots dec).2:=⟨_,rfl⟩;obtain⟨q,hq⟩:∃q,q=(EA roots dec).1:=⟨_,rfl⟩;rw[<-hN,<-hq]at Ug;have hNl:N.length<=10000:=by
   have h1:=ox (roots:=roots) dec;have h2:(CZ roots dec).length=(Gf roots dec).length:=by rw[<-Jv,Lm]
   have h3:=Ab7 hrl;have h4:=NA hr;rw[<-hN]at h1;unfold Gf at h2;rw[Ac]at h2;omega
  cases hNc:N with
  |nil=>
   rw[hNc]at hN Ug;refine AlN roots C A s dec st q [] O rfl Ug ?_;rw[<-hO];unfold Cw;rw[<-hN]
  |cons n0 l=>
   rw[hNc]at hN Ug;have hNx:=L0 hN.symm;rw[<-hq]at hNx;have VN:∀nd∈n0::l,nd∈CZ roots dec:=fun nd h=>((hNx.mem nd).1 h).1;have EZ:=(BN hx).1;have few:∀{E:Au2},Dy x E->∀nd∈CZ roots E,CC nd.rq.set/\As (nd.place+1):=fun hE' nd h=>by
    rcases Nl h with ⟨k,r,h1,rfl⟩ | ⟨c,hc,k,r,h1,rfl⟩
    .exact⟨(hE.fr r (Ax h1)).1,by unfold As;show -9223372036854775808<=(0:Int)+1/\(0:Int)+1<2^63;decide⟩
    .have h2:=hE'.cand c hc;have h3:=Acm (EZ _ h2.1);rw[<-h2.2.2]at h3;exact⟨((hE.fx _ h2.1).2 r (Ax h1)).1,by unfold As;show _<=c.place+1/\c.place+1<_;omega⟩
   have zS:∀c∈Bl x q,Dy x (dec++[c])/\c.rel.path=q/\c.rel∈x:=fun c hc=>by
    obtain⟨c1,c2⟩:=G7 hc;exact⟨hd.snoc c2 (by rw[c1];exact hNx.undone),c1,c2.1⟩
   have FA:∀(i:Nat) (h:i<(Bl x q).length),(Bl x q)[i]∈Bl x q:=fun i h=>Am h;obtain⟨V,hV⟩:=hE.av q
   have hL:Lvl x roots C A n dec q n0 l V (Bl x q):={
    hx:=hx
    hr:=hr
    hdl:=Af3
    hcl:=Az (XZ x q) rP.1
    hcs:=rfl
    hnl:=by rw[hNc]at hNl;omega
    hnq:=fun nd h=>(few hd nd (VN nd h)).1
    hnp:=fun nd h=>(few hd nd (VN nd h)).2
    hex:=fun i h nd hm hh=>by
     obtain⟨a,b,_⟩:=zS _ (FA i h);exact⟨(QJ hx hr a (Pr (VN nd hm)) ⟨(Bl x q)[i],by simp,b.trans ((hNx.mem nd).1 hm).2.symm,hh⟩).1,trivial⟩
    hcx:=fun i h nc hc=>by
     obtain⟨a,b,_⟩:=zS _ (FA i h);obtain⟨m1,m2⟩:=LF hc;exact⟨(QJ hx hr a (N1 m1) m2).1,trivial⟩
    hcq:=fun i h nc hm=>(few (zS _ (FA i h)).1 nc (N1 hm)).1
    hcp_:=fun i h nc hm=>(few (zS _ (FA i h)).1 nc (N1 hm)).2
    hcr:=fun i h=>by have:=rP.2 _ (zS _ (FA i h)).2.2;omega
    hcs_:=fun i h r hm=>((hE.fx _ (zS _ (FA i h)).2.2).2 r hm).1
    hkey:=fun i h=>by
     have b:=(zS _ (FA i h)).2.1;unfold AM;rw[Au,Au];show _=_++[[vs (Bl x q)[i].rel.path,G (Bl x q)[i].rel.ver.a,G (Bl x q)[i].rel.ver.b,G (Bl x q)[i].rel.ver.c]];rw[b]
    hinf0:=(Ux hx hr hd (VN n0 (Ad ..)) (.inl (by
     rw[((hNx.mem n0).1 (Ad ..)).2];exact H2 (by rw[Gu];exact hNx.undone)))).inf
    hV:=hV
    ih:=fun c hc Akt S E6 hl hS hSf=>by
     obtain⟨a,b,c3⟩:=zS c hc;obtain⟨k1,k2⟩:=QR.1 Akt;obtain⟨_,c2⟩:=G7 hc;have zQ:=nL.snoc hNx b k1 k2;have VL:FJ x (dec++[c])<n:=by have:=VD (dec:=dec) ⟨c2.1,c2.2.1⟩ (by rw[b];exact hNx.undone);omega
     have h1:=s45 hE rj n a zQ hS hSf VL (st:=E6) (by rw[hl];simp);have h2:=SK hx hr n a zQ hS.der hSf VL (st:=E6);exact⟨h1,⟨h2.der,Rf n hS.nodup⟩,⟨h2.grow.len,fun e1 e2=>((h2.no e1).2.2 e2).1⟩,fun e1=>(h2.no e1).2.1⟩ }
   have hR:Dx (Cw x roots n) x q (n0::l) n0 dec st (Bl x q) s [] []=O:=by
    rw[<-hO]
    conv=>rhs;unfold Cw
    rw[<-hN,hq]
   by_cases hm:∀a,(Value.string q,a)∉C
   .exact AlL x roots C A n s dec st q n0 l V (Bl x q) O O hL hs Jp Ug (hE.c2 q hm) hm hR rfl
   .exact AlK x roots C A n s dec st q n0 l V (Bl x q) O O hL hs Jp Ug (hE.c1 q) hm hR rfl
end
theorem AlM{x:List F}{roots:Au5}{C A:Au3}(hE:Env x roots C A)(n:Nat){dec:Au2}{s:SS}{st:Au4}(h1:Dy x dec)(h2:I8 roots dec)(h3:Lx x roots s)(h4:s.full=false)(h5:FJ x dec<n)(h6:st.length=dec.length) :
  A1 prog 82 [.ref 1000 0] (Ah (Jr roots C A s dec st) Ab) (gx roots C A (Cw x roots n dec s st)):=
 s45 hE (fun s dec st a b=>s64 roots C A s dec st (Az (NA hE.hr) aa3) a b) n h1 h2 h3 h4 h5 h6
def FP:Bool:=decide (AU x=0)&&decide (Bb roots=0)
theorem s28(ifs:C0)(roots:Au5)(hx:∀r∈x,Jz r)(hr:∀q∈roots,J5 q):PC 80 [.agg (Ic x ifs),sl Ak roots] (Q (FP x roots)):=by
 refine Ps (pC [2] []) func80 rfl C4 (U (C1 (H (c64 Xp x ifs hx) (J (fun h1=>?_) (fun h1=>?_)))))
 .refine C1 (H (c65 Xp roots hr) (J (fun h2=>?_) (fun h2=>?_)))
  .exact .of_eq (show Q true=Q (FP x roots) by unfold FP;rw[h1,h2];rfl)
  exact .of_eq (show Q false=Q (FP x roots) by unfold FP;rw[Al h2,Bool.and_false])
 exact .of_eq (show Q false=Q (FP x roots) by unfold FP;rw[Al h1];rfl)
end Go.Eng
