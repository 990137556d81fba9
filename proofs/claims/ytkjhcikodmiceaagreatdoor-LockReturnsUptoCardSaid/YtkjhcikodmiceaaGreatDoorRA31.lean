/- Lemmas 31. -/
import Derived.Test.YtkjhcikodmiceaaGreatDoorRA30
set_option maxHeartbeats 16000000
namespace Go.Eng
open Go.Proofs
variable (x:List Rl)(roots:List Rq)(C A:List (Value×AV))(n:Nat)(s:SS)(dec:List Cd)(st:List (List Sk))(p:ByteArray)(n0:Nd)(l:List Nd)(V:AV)(cs:List Cd)(R O:JO)
theorem aH{α:Type}(o:Option α):(∃x,o=some x)\/o=none:=by
 cases o with
 |none=>exact .inr rfl
 |some x=>exact .inl ⟨x,rfl⟩
theorem tZ{T st:List (List Sk)}{sk:List Sk}(h:T=st++[sk]):((T.map A7).take ((T.length:Int)-1).toNat)=st.map A7/\((T.length:Int)-1).toNat=st.length:=by
 have e:((T.length:Int)-1).toNat=st.length:=by rw[h,Aa,A5];omega
 refine⟨?_,e⟩;rw[e,h,AG,Lq aa0,Bj aa0]
abbrev HV:Prop:=(∀a,(Value.string p,a)∈A->a=V)/\((∀a,(Value.string p,a)∉A)->V=nzA)/\∀h,PC 229 [vs p,str h V] (sl Az (E3 p (BC x p)))
abbrev gC(n:Nd):Prop:=∀d,BA x roots d (OH n)=some (HI n)
structure wS(x:List Rl)(roots:List Rq)(C A:List (Value×AV))(n:Nat)(dec:List Cd)(p:ByteArray)(n0:Nd)(l:List Nd)(V:AV)(cs:List Cd):Prop where
 hx:AX x=0
 hr:Bu roots=0
 hdl:dec.length<=256
 hcl:cs.length<=256
 hcs:cs=Br x p
 hnl:(n0::l).length<9223372036854775807
 hnq:∀n∈n0::l,Cz n.rq.set
 hnp:∀n∈n0::l,A8 (n.place+1)
 hex:∀(i:Nat) (h:i<cs.length),∀nd∈n0::l,has nd.rq.set cs[i].place=false->gC x roots nd/\True
 hcx:∀(i:Nat) (h:i<cs.length) (nc:Nd),DL dec cs[i]=some nc->gC x roots nc/\True
 hcq:∀(i:Nat) (h:i<cs.length) (nc:Nd),nc∈Qb cs[i]->Cz nc.rq.set
 hcp_:∀(i:Nat) (h:i<cs.length) (nc:Nd),nc∈Qb cs[i]->A8 (nc.place+1)
 hcr:∀(i:Nat) (h:i<cs.length),cs[i].rel.reqs.length<=1073741824
 hcs_:∀(i:Nat) (h:i<cs.length),∀q∈cs[i].rel.reqs,Cz q.set
 hkey:∀(i:Nat) (h:i<cs.length),(AH dec).map Al++[[vs p,vi cs[i].rel.ver.a,vi cs[i].rel.ver.b,vi cs[i].rel.ver.c]]=(AH (dec++[cs[i]])).map Al
 hinf0:gC x roots n0
 hV:HV x A p V
 ih:∀c∈Br x p,fD dec (n0::l) c=true->∀(S:SS) (Ef : List (List Sk)),Ef.length=dec.length+1->Kj x roots S->S.full=false ->
  Bd Tryz.prog 82 [.ref 1000 0] (Ag (IR roots C A S (dec++[c]) Ef) Ad) (Zw roots C A (Cs x roots n (dec++[c]) S Ef))/\Kj x roots (Cs x roots n (dec++[c]) S Ef).ss /\
  (S.drv.length<=(Cs x roots n (dec++[c]) S Ef).ss.drv.length/\((Cs x roots n (dec++[c]) S Ef).found=false->(Cs x roots n (dec++[c]) S Ef).ss.full=false->(Cs x roots n (dec++[c]) S Ef).res<(Cs x roots n (dec++[c]) S Ef).ss.drv.length)) /\
  ((Cs x roots n (dec++[c]) S Ef).found=false->(Cs x roots n (dec++[c]) S Ef).stack=Ef)
theorem Aau(hL:wS x roots C A n dec p n0 l V cs)(hs:Kj x roots s)(IM:st.length=dec.length)(Rr:Bd Tryz.prog 148 [.ref 1000 0] (Ag (IR roots C A s dec st) Ad) fun r h'=>r=.tup [vs p,sl Bi (n0::l)]/\h'=Ag (IR roots C A s dec st) Ad)(hC1:∀a,(Value.string p,a)∈C->a=sl AL cs)(ya:¬∀a,(Value.string p,a)∉C)(hR:Dy (Cs x roots n) x p (n0::l) n0 dec st cs s [] []=R)(bH:O=R) :
  Bd Tryz.prog 82 [.ref 1000 0] (Ag (IR roots C A s dec st) Ad) (Zw roots C A O):=by
 obtain⟨hx,hr,hdl,hcl,hcs,hnl,hnq,hnp,hex,hcx,hcq,hcp_,hcr,hcs_,hkey,hinf0,⟨te,tf,tg⟩,ih⟩:=hL;have tB:∀(i:Nat) (h:i<cs.length),cs[i]∈Br x p:=fun i h=>by rw[<-hcs];exact Am h
 have qu:∀(i:Nat) (h:i<cs.length),Cz (AH (dec++[cs[i]])):=fun i h=>by unfold Cz AH;rw[Lm,Aa];simp;omega
 clear hcs
 refine Bm (IF ⟨[9],[(6,1),(7,3),(145,1)],[],[],[],[],[],[],[(60,3),(101,3)],[(300001,500091000),(300026,500091000),(300029,500091000)],[1,5,12,15,17,21,23,24,25,26,28,29,31,32,33]⟩) [(1000,1000),(1001,1001),(1002,1002),(1003,1003),(1004,1004),(500,2000)] rfl BB hm rfl Tryz.func82 aa3 rfl (Nz rfl) aa3 rfl (Yi (show st.length=(st.map A7).length by simp) (cU [(0,.ref 1000 0)] [(500,.arr 1 (st.map A7)),(1000,.cells (srM roots C A s dec 500 st.length)),(1001,.tok 6 s.infs.length),(1002,.tok 1 s.drv.length),(1003,.map E9 (Fe 0 s.infs)),(1004,.dead)] Z1 Z6 (Xi (.gen Zu 0) (Yi rfl (Bd.imp Rr ?_)))));intro v1 g1 q1;have nF:=q1.1;have nG:=q1.2;subst nF;subst nG;refine Yi (fun h2=>?_) (fun h2=>?_)
 .exact absurd h2 (by simp;omega)
 refine cU [(0,.ref 1000 0),(4,vs p),(5,sl Bi (n0::l)),(6,.slice (.id 6 1) [])] [(6,.tok 1 0),(500,.arr 1 (st.map A7)),(1000,.cells (srM roots C A s dec 500 st.length)),(1001,.tok 6 s.infs.length),(1002,.tok 1 s.drv.length),(1003,.map E9 (Fe 0 s.infs)),(1004,.dead)] Z4 Z7 (Yi (fun a ha=>?_) (fun OF=>?_))
 .have ea:=hC1 a ha;subst ea;refine Xi {q:Nat×SS×List Nat×List Sk // q.1<=cs.length/\Dy (Cs x roots n) x p (n0::l) n0 dec st (cs.drop q.1) q.2.1 q.2.2.1 q.2.2.2=R/\Kj x roots q.2.1/\(∀r∈q.2.2.1,r<q.2.1.drv.length)/\q.2.2.1.length<=q.1/\q.2.2.2.length<=q.1} (Xi (fun q=>⟨[(0,.ref 1000 0),(4,vs p),(5,sl Bi (n0::l)),(6,.slice (.id 6 1) (q.1.2.2.1.map Cm)),(7,.slice (.id 7 3) (q.1.2.2.2.map AJ)),(32,sl AL cs),(33,vi (cs.map AL).length),(34,vi q.1.1)],[(6,.tok 1 q.1.2.2.1.length),(7,.tok 3 q.1.2.2.2.length),(500,.arr 1 (st.map A7)),(1000,.cells (srM roots C A q.1.2.1 dec 500 st.length)),(1001,.tok 6 q.1.2.1.infs.length),(1002,.tok 1 q.1.2.1.drv.length),(1003,.map E9 (Fe 0 q.1.2.1.infs)),(1004,.dead)],Ad⟩) (Xi (fun q=>cs.length-q.1.1) (Yi (Xi ⟨(0,s,[],[]),Ao _,hR,hs,fun r h=>(by cases h),Ai _,Ai _⟩ ?_) ?_)))
  .exact⟨Z8,Z8,Fh,Bp aa3⟩
  intro⟨⟨i,S,rs,sk⟩,j1,j2,j3,j4,j5,j6⟩;have j5:rs.length<=i:=j5;have j6:sk.length<=i:=j6;have hw:=j3.dl;have rP:∀t∈S.drv,Vz t:=fun t ht=>by have q:=j3.der.few hx hr t ht;exact⟨EX q,q.2⟩
  refine Yi (fun h3=>?_) (fun h3=>?_)
  .have h3:(i:Int)<((cs.map AL).length:Int):=h3;have n3:=IN h3;refine Xi (AL cs[i]) (Yi (LX n3) (Yi rfl (yN (yN (Yi (fun h4=>?_) (fun h4=>?_))))))
   .have eR:R=⟨0,false,S,dec,st⟩:=by rw[<-j2];exact lM n3 h4
    exact Xi _ (Yi (.refl _) (Ng (bH.trans eR)))
   have ah:=s86 (fF:=150) (caps:=[.cptr (AL cs[i])]) (fun c hc=>by obtain rfl:=AC.1 hc;intro h;rfl) (n0::l) (fun n=>!has n.rq.set cs[i].place) (fun n hn=>s87 n cs[i] (hnq n hn)) hnl;refine BK (eD (fun n=>!has n.rq.set cs[i].place) (n0::l)) (fun h6=>?_) (fun h6=>?_)
   .refine A1 h6 (fun zE h6=>A1 h6 (fun nd h6=>?_));rw[h6.1]at ah;refine Xi .pure (Xi _ (Yi ah (cU [(0,.ref 1000 0),(4,vs p),(5,sl Bi (n0::l)),(6,.slice (.id 6 1) (rs.map Cm)),(7,.slice (.id 7 3) (sk.map AJ)),(9,.ref 9 0),(10,vi (zE:Nat)),(32,sl AL cs),(33,vi (cs.map AL).length),(34,vi i)] [(6,.tok 1 rs.length),(7,.tok 3 sk.length),(9,.ro (AL cs[i])),(500,.arr 1 (st.map A7)),(1000,.cells (srM roots C A S dec 500 st.length)),(1001,.tok 6 S.infs.length),(1002,.tok 1 S.drv.length),(1003,.map E9 (Fe 0 S.infs)),(1004,.dead)] Z10 Z9 (Yi (fun _=>?_) (fun hf=>absurd (show(0:Int)<=((zE:Nat):Int) by omega) hf)))));refine Xi (Bi nd) (Yi (Yi (show(0:Int)<=((zE:Nat):Int) by omega) (Fj h6.2.1)) (Yi rfl (yN ?_)));have qo:=hex i n3 nd (B9 h6.2.2) (by have q:=FW h6.2.2;simpa using q);obtain⟨b1,b2,b3⟩:=j3.add (qo.1 S.drv)
    change Kj x roots (Bx S nd).2 at b1
    change (Bx S nd).1<(Bx S nd).2.drv.length at b2
    change S.drv.length<=(Bx S nd).2.drv.length at b3
    refine Xi (.gen Zu 0) (Yi rfl (Bd.imp (s88 roots C A S dec st nd hw.1 hw.2.1 j3.nodup (hnq nd (Ax h6.2.1)) (hnp nd (Ax h6.2.1))) ?_));intro v7 g7 q7;have q7a:=q7.1;have q7b:=q7.2;subst q7a;subst q7b;refine Yi (Zm rfl B0 aa2) (Yi (Ii i B0) ?_);have XM:S.full=false:=by simpa using h4
    have eN:Dy (Cs x roots n) x p (n0::l) n0 dec st (cs.drop (i+1)) (Bx S nd).2 (rs++[(Bx S nd).1]) sk=R:=by rw[<-sK n3 XM h6.2.2];exact j2
    refine Xi ⟨(i+1,(Bx S nd).2,rs++[(Bx S nd).1],sk),E8 n3,eN,b1,fun r h=>(Bk.1 h).elim (fun h=>AA (j4 r h) b3) (fun h=>by rw[AC.1 h];exact b2),(by rw[Aa];exact Eb j5),Nat.le_succ_of_le j6⟩ ?_;exact⟨Dl cs.length i B0,⟨Zr,Zr,Zr,⟨(show AV.slice (.id 6 1) (rs.map Cm++[[vi (((Bx S nd).1:Nat):Int)]])=.slice (.id 6 1) ((rs++[(Bx S nd).1]).map Cm) by rw[AG];rfl),rfl⟩,Zr,Zr,Zr,Zr,Tv⟩,⟨⟨(show HO.tok 1 ((rs.map Cm).length+([[vi (((Bx S nd).1:Nat):Int)]]:List (List AV)).length)=.tok 1 (rs++[(Bx S nd).1]).length by simp),rfl⟩,Zr,Zr,Zr,Zr,Zr,Zr,Zr,Tv⟩,Fh,Bp aa3⟩
   skip
   rw[h6.1]at ah;refine Xi .pure (Xi _ (Yi ah (cU [(0,.ref 1000 0),(4,vs p),(5,sl Bi (n0::l)),(6,.slice (.id 6 1) (rs.map Cm)),(7,.slice (.id 7 3) (sk.map AJ)),(9,.ref 9 0),(10,vi (-1)),(32,sl AL cs),(33,vi (cs.map AL).length),(34,vi i)] [(6,.tok 1 rs.length),(7,.tok 3 sk.length),(9,.ro (AL cs[i])),(500,.arr 1 (st.map A7)),(1000,.cells (srM roots C A S dec 500 st.length)),(1001,.tok 6 S.infs.length),(1002,.tok 1 S.drv.length),(1003,.map E9 (Fe 0 S.infs)),(1004,.dead)] Z10 Z9 (Yi (fun h=>absurd h aa2) (fun _=>?_)))));refine Xi _ (Xi _ (Yi aa3 (Yi (pW (AH dec) (by unfold Cz AH;rw[Lm];omega)) (yN ?_))));have Zl:BX 4 [[vs p,vi cs[i].rel.ver.a,vi cs[i].rel.ver.b,vi cs[i].rel.ver.c]]/\((AH dec).map Al).length=((AH dec).map Al).length/\(((AH dec).map Al).length+([[vs p,vi cs[i].rel.ver.a,vi cs[i].rel.ver.b,vi cs[i].rel.ver.c]]:List (List AV)).length)*40<=140737488355328/\((AH dec).map Al).length+([[vs p,vi cs[i].rel.ver.a,vi cs[i].rel.ver.b,vi cs[i].rel.ver.c]]:List (List AV)).length<=9223372036854775807:=⟨⟨rfl,trivial⟩,rfl,(by simp only[Lm,AF,A0];omega),(by simp only[Lm,AF,A0];omega)⟩;refine Yi Zl (Yi aa3 (cU [(0,.ref 1000 0),(4,vs p),(5,sl Bi (n0::l)),(6,.slice (.id 6 1) (rs.map Cm)),(7,.slice (.id 7 3) (sk.map AJ)),(9,.ref 9 0),(11,.slice (.id 16000 4) ((AH (dec++[cs[i]])).map Al)),(32,sl AL cs),(33,vi (cs.map AL).length),(34,vi i)] [(6,.tok 1 rs.length),(7,.tok 3 sk.length),(9,.ro (AL cs[i])),(500,.arr 1 (st.map A7)),(1000,.cells (srM roots C A S dec 500 st.length)),(1001,.tok 6 S.infs.length),(1002,.tok 1 S.drv.length),(1003,.map E9 (Fe 0 S.infs)),(1004,.dead),(16000,.tok 4 ((AH (dec++[cs[i]])).map Al).length)] ⟨Zr,Zr,Zr,Zr,Zr,Zr,⟨(show(.slice (.id 16000 4) (((AH dec).map Al)++[[vs p,vi cs[i].rel.ver.a,vi cs[i].rel.ver.b,vi cs[i].rel.ver.c]]):AV)=.slice (.id 16000 4) ((AH (dec++[cs[i]])).map Al) by rw[hkey i n3]),rfl⟩,Zr,Zr,Zr,Tv⟩ ⟨Zr,Zr,Zr,Zr,Zr,Zr,Zr,Zr,Zr,⟨(show(.tok 4 (((AH dec).map Al).length+([[vs p,vi cs[i].rel.ver.a,vi cs[i].rel.ver.b,vi cs[i].rel.ver.c]]:List (List AV)).length):HO)=.tok 4 ((AH (dec++[cs[i]])).map Al).length by rw[<-hkey i n3,Aa]),rfl⟩,Tv⟩ ?_))
   have KB:=s89 roots C A S dec st (AH (dec++[cs[i]])) hw.2.2 rP (qu i n3);refine BK (aH (Nu S.drv (AH (dec++[cs[i]])))) (fun IS=>?_) (fun IS=>?_)
   .refine A1 IS (fun ke IS=>?_);have eV:VU S.drv (AH (dec++[cs[i]]))=.tup [vi (ke:Nat),vb true]:=by unfold VU;rw[IS];rfl
    rw[eV]at KB;refine Xi (.gen Zu 0) (Yi rfl (Bd.imp KB ?_));intro v12 g12 OY;have qY:=OY.1;have qZ:=OY.2;subst qY;subst qZ;refine yN ?_;have Wc:=s69 roots C A S dec st cs[i] B0 (hcr i n3) (hcs_ i n3);refine BK (aH (DL dec cs[i])) (fun UV=>?_) (fun UV=>?_)
    .refine A1 UV (fun nc UV=>?_);have eW:p5 (DL dec cs[i])=.tup [.agg (Bi nc),vb true]:=by rw[UV];rfl
     rw[eW]at Wc;refine Xi (.gen Zu 0) (Yi rfl (Bd.imp Wc ?_));intro v14 g14 q14;have zW:=q14.1;have zX:=q14.2;subst zW;subst zX;refine yN (cU [(0,.ref 1000 0),(4,vs p),(5,sl Bi (n0::l)),(6,.slice (.id 6 1) (rs.map Cm)),(7,.slice (.id 7 3) (sk.map AJ)),(9,.ref 9 0),(11,.slice (.id 16000 4) ((AH (dec++[cs[i]])).map Al)),(12,vi (ke:Nat)),(13,vb true),(14,.ref 14 0),(15,vb true),(32,sl AL cs),(33,vi (cs.map AL).length),(34,vi i)] [(6,.tok 1 rs.length),(7,.tok 3 sk.length),(9,.ro (AL cs[i])),(14,.cells (Bi nc)),(500,.arr 1 (st.map A7)),(1000,.cells (srM roots C A S dec 500 st.length)),(1001,.tok 6 S.infs.length),(1002,.tok 1 S.drv.length),(1003,.map E9 (Fe 0 S.infs)),(1004,.dead),(16000,.tok 4 ((AH (dec++[cs[i]])).map Al).length)] ⟨Zr,Zr,Zr,Zr,Zr,Zr,Zr,Zr,Zr,Zr,Zr,Zr,Zr,Zr,Tv⟩ Z11 (cU [(0,.ref 1000 0),(4,vs p),(5,sl Bi (n0::l)),(6,.slice (.id 6 1) (rs.map Cm)),(7,.slice (.id 7 3) (sk.map AJ)),(9,.ref 9 0),(12,vi (ke:Nat)),(32,sl AL cs),(33,vi (cs.map AL).length),(34,vi i)] [(6,.tok 1 rs.length),(7,.tok 3 sk.length),(9,.ro (AL cs[i])),(500,.arr 1 (st.map A7)),(1000,.cells (srM roots C A S dec 500 st.length)),(1001,.tok 6 S.infs.length),(1002,.tok 1 S.drv.length),(1003,.map E9 (Fe 0 S.infs)),(1004,.dead)] Z10 Z9 (Xi (AD (DX S ke)) (Yi (Yi (show(0:Int)<=((ke:Nat):Int) by omega) (Fj (EO (JU IS).1))) (Yi rfl ?_)))));have XM:S.full=false:=by simpa using h4
     have UZ:ke<S.drv.length:=(JU IS).1;have bR:=j3.der.few hx hr;refine BK (Bt (Dr (DX S ke) p)) (fun XH=>?_) (fun XH=>?_)
     .refine Xi .pure (Xi _ (Yi (cb XH (lj (DX S ke) p (EX (bR _ (Ax (EO UZ)))))) (cU [(0,.ref 1000 0),(4,vs p),(5,sl Bi (n0::l)),(6,.slice (.id 6 1) (rs.map Cm)),(7,.slice (.id 7 3) (sk.map AJ)),(9,.ref 9 0),(12,vi (ke:Nat)),(32,sl AL cs),(33,vi (cs.map AL).length),(34,vi i)] [(6,.tok 1 rs.length),(7,.tok 3 sk.length),(9,.ro (AL cs[i])),(500,.arr 1 (st.map A7)),(1000,.cells (srM roots C A S dec 500 st.length)),(1001,.tok 6 S.infs.length),(1002,.tok 1 S.drv.length),(1003,.map E9 (Fe 0 S.infs)),(1004,.dead)] Z10 Z9 (Yi (Zm rfl B0 aa2) (Yi (Zm rfl B0 aa2) (Yi (Ii i B0) ?_))))));have eA:=(VP (rec:=Cs x roots n) (x:=x) (p:=p) (n0:=n0) (st:=st) (rs:=rs) (sk:=sk) n3 XM h6.2 IS);have eN:Dy (Cs x roots n) x p (n0::l) n0 dec st (cs.drop (i+1)) S (rs++[ke]) (sk++[(⟨p,cs[i].place,(ke:Nat)⟩:Sk)])=R:=by rw[<-VE (c:=cs[i]) XH,<-eA];exact j2
      refine Xi ⟨(i+1,S,rs++[ke],sk++[(⟨p,cs[i].place,(ke:Nat)⟩:Sk)]),E8 n3,eN,j3,fun r h=>(Bk.1 h).elim ((fun r h=>j4 r h) r) (fun h=>by rw[AC.1 h];exact UZ),(by rw[Aa];exact Eb j5),(by rw[Aa];exact Eb j6)⟩ ?_;exact⟨Dl cs.length i B0,⟨Zr,Zr,Zr,⟨(show AV.slice (.id 6 1) (rs.map Cm++[[vi ((ke:Nat):Int)]])=.slice (.id 6 1) ((rs++[ke]).map Cm) by rw[AG];rfl),rfl⟩,⟨(show AV.slice (.id 7 3) (sk.map AJ++[[vs p,vi cs[i].place,vi ((ke:Nat):Int)]])=.slice (.id 7 3) ((sk++[(⟨p,cs[i].place,(ke:Nat)⟩:Sk)]).map AJ) by rw[AG];rfl),rfl⟩,Zr,Zr,Zr,Tv⟩,⟨⟨(show HO.tok 1 ((rs.map Cm).length+([[vi ((ke:Nat):Int)]]:List (List AV)).length)=.tok 1 (rs++[ke]).length by simp),rfl⟩,⟨(show HO.tok 3 ((sk.map AJ).length+([[vs p,vi cs[i].place,vi ((ke:Nat):Int)]]:List (List AV)).length)=.tok 3 (sk++[(⟨p,cs[i].place,(ke:Nat)⟩:Sk)]).length by simp),rfl⟩,Zr,Zr,Zr,Zr,Zr,Zr,Tv⟩,Fh,Bp aa3⟩
     refine Xi .pure (Xi _ (Yi (cb XH (lj (DX S ke) p (EX (bR _ (Ax (EO UZ)))))) (cU [(12,vi (ke:Nat))] [(500,.arr 1 (st.map A7)),(1000,.cells (srM roots C A S dec 500 st.length)),(1001,.tok 6 S.infs.length),(1002,.tok 1 S.drv.length),(1003,.map E9 (Fe 0 S.infs)),(1004,.dead)] Z1 Z6 ?_)))
     have eA:=(VP (rec:=Cs x roots n) (x:=x) (p:=p) (n0:=n0) (st:=st) (rs:=rs) (sk:=sk) n3 XM h6.2 IS);have eR:R=⟨ke,false,S,dec,st⟩:=by rw[<-j2];rw[eA];exact bp XH
     exact Xi _ (Yi (.refl _) (Ng (bH.trans eR)))
    skip
    have eW:p5 (DL dec cs[i])=.tup [.agg [vs ⟨#[]⟩,nzA,vs ⟨#[]⟩,vi 0,vi 0],vb false]:=by rw[UV];rfl
    rw[eW]at Wc;refine Xi (.gen Zu 0) (Yi rfl (Bd.imp Wc ?_));intro v20 g20 q20;have zY:=q20.1;have zZ:=q20.2;subst zY;subst zZ;refine yN (cU [(0,.ref 1000 0),(4,vs p),(5,sl Bi (n0::l)),(6,.slice (.id 6 1) (rs.map Cm)),(7,.slice (.id 7 3) (sk.map AJ)),(9,.ref 9 0),(11,.slice (.id 16000 4) ((AH (dec++[cs[i]])).map Al)),(12,vi (ke:Nat)),(13,vb true),(14,.ref 14 0),(15,vb false),(32,sl AL cs),(33,vi (cs.map AL).length),(34,vi i)] [(6,.tok 1 rs.length),(7,.tok 3 sk.length),(9,.ro (AL cs[i])),(14,.cells [vs ⟨#[]⟩,nzA,vs ⟨#[]⟩,vi 0,vi 0]),(500,.arr 1 (st.map A7)),(1000,.cells (srM roots C A S dec 500 st.length)),(1001,.tok 6 S.infs.length),(1002,.tok 1 S.drv.length),(1003,.map E9 (Fe 0 S.infs)),(1004,.dead),(16000,.tok 4 ((AH (dec++[cs[i]])).map Al).length)] ⟨Zr,Zr,Zr,Zr,Zr,Zr,Zr,Zr,Zr,Zr,Zr,Zr,Zr,Zr,Tv⟩ Z11 (cU [(0,.ref 1000 0),(4,vs p),(5,sl Bi (n0::l)),(6,.slice (.id 6 1) (rs.map Cm)),(7,.slice (.id 7 3) (sk.map AJ)),(9,.ref 9 0),(12,vi (ke:Nat)),(32,sl AL cs),(33,vi (cs.map AL).length),(34,vi i)] [(6,.tok 1 rs.length),(7,.tok 3 sk.length),(9,.ro (AL cs[i])),(500,.arr 1 (st.map A7)),(1000,.cells (srM roots C A S dec 500 st.length)),(1001,.tok 6 S.infs.length),(1002,.tok 1 S.drv.length),(1003,.map E9 (Fe 0 S.infs)),(1004,.dead)] Z10 Z9 (Xi (AD (DX S ke)) (Yi (Yi (show(0:Int)<=((ke:Nat):Int) by omega) (Fj (EO (JU IS).1))) (Yi rfl ?_)))));have XM:S.full=false:=by simpa using h4
    have UZ:ke<S.drv.length:=(JU IS).1;have bR:=j3.der.few hx hr;refine BK (Bt (Dr (DX S ke) p)) (fun s5=>?_) (fun s5=>?_)
    .refine Xi .pure (Xi _ (Yi (cb s5 (lj (DX S ke) p (EX (bR _ (Ax (EO UZ)))))) (cU [(0,.ref 1000 0),(4,vs p),(5,sl Bi (n0::l)),(6,.slice (.id 6 1) (rs.map Cm)),(7,.slice (.id 7 3) (sk.map AJ)),(9,.ref 9 0),(12,vi (ke:Nat)),(32,sl AL cs),(33,vi (cs.map AL).length),(34,vi i)] [(6,.tok 1 rs.length),(7,.tok 3 sk.length),(9,.ro (AL cs[i])),(500,.arr 1 (st.map A7)),(1000,.cells (srM roots C A S dec 500 st.length)),(1001,.tok 6 S.infs.length),(1002,.tok 1 S.drv.length),(1003,.map E9 (Fe 0 S.infs)),(1004,.dead)] Z10 Z9 (Yi (Zm rfl B0 aa2) (Yi (Zm rfl B0 aa2) (Yi (Ii i B0) ?_))))));have eA:=(VP (rec:=Cs x roots n) (x:=x) (p:=p) (n0:=n0) (st:=st) (rs:=rs) (sk:=sk) n3 XM h6.2 IS);have eN:Dy (Cs x roots n) x p (n0::l) n0 dec st (cs.drop (i+1)) S (rs++[ke]) (sk++[(⟨p,cs[i].place,(ke:Nat)⟩:Sk)])=R:=by rw[<-VE (c:=cs[i]) s5,<-eA];exact j2
     refine Xi ⟨(i+1,S,rs++[ke],sk++[(⟨p,cs[i].place,(ke:Nat)⟩:Sk)]),E8 n3,eN,j3,fun r h=>(Bk.1 h).elim ((fun r h=>j4 r h) r) (fun h=>by rw[AC.1 h];exact UZ),(by rw[Aa];exact Eb j5),(by rw[Aa];exact Eb j6)⟩ ?_;exact⟨Dl cs.length i B0,⟨Zr,Zr,Zr,⟨(show AV.slice (.id 6 1) (rs.map Cm++[[vi ((ke:Nat):Int)]])=.slice (.id 6 1) ((rs++[ke]).map Cm) by rw[AG];rfl),rfl⟩,⟨(show AV.slice (.id 7 3) (sk.map AJ++[[vs p,vi cs[i].place,vi ((ke:Nat):Int)]])=.slice (.id 7 3) ((sk++[(⟨p,cs[i].place,(ke:Nat)⟩:Sk)]).map AJ) by rw[AG];rfl),rfl⟩,Zr,Zr,Zr,Tv⟩,⟨⟨(show HO.tok 1 ((rs.map Cm).length+([[vi ((ke:Nat):Int)]]:List (List AV)).length)=.tok 1 (rs++[ke]).length by simp),rfl⟩,⟨(show HO.tok 3 ((sk.map AJ).length+([[vs p,vi cs[i].place,vi ((ke:Nat):Int)]]:List (List AV)).length)=.tok 3 (sk++[(⟨p,cs[i].place,(ke:Nat)⟩:Sk)]).length by simp),rfl⟩,Zr,Zr,Zr,Zr,Zr,Zr,Tv⟩,Fh,Bp aa3⟩
    refine Xi .pure (Xi _ (Yi (cb s5 (lj (DX S ke) p (EX (bR _ (Ax (EO UZ)))))) (cU [(12,vi (ke:Nat))] [(500,.arr 1 (st.map A7)),(1000,.cells (srM roots C A S dec 500 st.length)),(1001,.tok 6 S.infs.length),(1002,.tok 1 S.drv.length),(1003,.map E9 (Fe 0 S.infs)),(1004,.dead)] Z1 Z6 ?_)))
    have eA:=(VP (rec:=Cs x roots n) (x:=x) (p:=p) (n0:=n0) (st:=st) (rs:=rs) (sk:=sk) n3 XM h6.2 IS);have eR:R=⟨ke,false,S,dec,st⟩:=by rw[<-j2];rw[eA];exact bp s5
    exact Xi _ (Yi (.refl _) (Ng (bH.trans eR)))
   skip
   have eV:VU S.drv (AH (dec++[cs[i]]))=.tup [vi 0,vb false]:=by unfold VU;rw[IS];rfl
   rw[eV]at KB;refine Xi (.gen Zu 0) (Yi rfl (Bd.imp KB ?_));intro v26 g26 q26;have z7:=q26.1;have z8:=q26.2;subst z7;subst z8;refine yN ?_;have Wc:=s69 roots C A S dec st cs[i] B0 (hcr i n3) (hcs_ i n3);refine BK (aH (DL dec cs[i])) (fun ab=>?_) (fun ab=>?_)
   .refine A1 ab (fun nc ab=>?_);have eW:p5 (DL dec cs[i])=.tup [.agg (Bi nc),vb true]:=by rw[ab];rfl
    rw[eW]at Wc;refine Xi (.gen Zu 0) (Yi rfl (Bd.imp Wc ?_));intro v28 g28 q28;have Aa0:=q28.1;have Aa1:=q28.2;subst Aa0;subst Aa1;refine yN (cU [(0,.ref 1000 0),(4,vs p),(5,sl Bi (n0::l)),(6,.slice (.id 6 1) (rs.map Cm)),(7,.slice (.id 7 3) (sk.map AJ)),(9,.ref 9 0),(11,.slice (.id 16000 4) ((AH (dec++[cs[i]])).map Al)),(12,vi 0),(13,vb false),(14,.ref 14 0),(15,vb true),(32,sl AL cs),(33,vi (cs.map AL).length),(34,vi i)] [(6,.tok 1 rs.length),(7,.tok 3 sk.length),(9,.ro (AL cs[i])),(14,.cells (Bi nc)),(500,.arr 1 (st.map A7)),(1000,.cells (srM roots C A S dec 500 st.length)),(1001,.tok 6 S.infs.length),(1002,.tok 1 S.drv.length),(1003,.map E9 (Fe 0 S.infs)),(1004,.dead),(16000,.tok 4 ((AH (dec++[cs[i]])).map Al).length)] ⟨Zr,Zr,Zr,Zr,Zr,Zr,Zr,Zr,Zr,Zr,Zr,Zr,Zr,Zr,Tv⟩ Z11 (yN ?_));have qo:=hcx i n3 nc ab;obtain⟨b1,b2,b3⟩:=j3.add (qo.1 S.drv)
    change Kj x roots (Bx S nc).2 at b1
    change (Bx S nc).1<(Bx S nc).2.drv.length at b2
    change S.drv.length<=(Bx S nc).2.drv.length at b3
    refine Xi (.gen Zu 0) (Yi rfl (Bd.imp (s88 roots C A S dec st nc hw.1 hw.2.1 j3.nodup (hcq i n3 nc (Kp ab).1) (hcp_ i n3 nc (Kp ab).1)) ?_));intro v29 g29 q29;have Aa2:=q29.1;have Aa3:=q29.2;subst Aa2;subst Aa3;refine cU [(0,.ref 1000 0),(4,vs p),(5,sl Bi (n0::l)),(6,.slice (.id 6 1) (rs.map Cm)),(7,.slice (.id 7 3) (sk.map AJ)),(9,.ref 9 0),(12,vi ((Bx S nc).1:Nat)),(32,sl AL cs),(33,vi (cs.map AL).length),(34,vi i)] [(6,.tok 1 rs.length),(7,.tok 3 sk.length),(9,.ro (AL cs[i])),(500,.arr 1 (st.map A7)),(1000,.cells [sl Af roots,.cmap Cc C,.cmap Cc A,.slice (.id 1001 6) ((Bx S nc).2.infs.map AR),.slice (.id 1002 1) ((Bx S nc).2.drv.map AD),.mref 1003,vb (Bx S nc).2.full,sl AL dec,sl Al (AH dec),.msl 500 st.length]),(1001,.tok 6 (Bx S nc).2.infs.length),(1002,.tok 1 (Bx S nc).2.drv.length),(1003,.map E9 (Fe 0 (Bx S nc).2.infs)),(1004,.dead)] Z10 Z9 (Xi (AD (DX (Bx S nc).2 (Bx S nc).1)) (Yi (Yi (show(0:Int)<=(((Bx S nc).1:Nat):Int) by omega) (Fj (EO b2))) (Yi rfl ?_)));have XM:S.full=false:=by simpa using h4
    have UZ:(Bx S nc).1<(Bx S nc).2.drv.length:=b2;have bR:=b1.der.few hx hr;refine BK (Bt (Dr (DX (Bx S nc).2 (Bx S nc).1) p)) (fun ac=>?_) (fun ac=>?_)
    .refine Xi .pure (Xi _ (Yi (cb ac (lj (DX (Bx S nc).2 (Bx S nc).1) p (EX (bR _ (Ax (EO UZ)))))) (cU [(0,.ref 1000 0),(4,vs p),(5,sl Bi (n0::l)),(6,.slice (.id 6 1) (rs.map Cm)),(7,.slice (.id 7 3) (sk.map AJ)),(9,.ref 9 0),(12,vi ((Bx S nc).1:Nat)),(32,sl AL cs),(33,vi (cs.map AL).length),(34,vi i)] [(6,.tok 1 rs.length),(7,.tok 3 sk.length),(9,.ro (AL cs[i])),(500,.arr 1 (st.map A7)),(1000,.cells [sl Af roots,.cmap Cc C,.cmap Cc A,.slice (.id 1001 6) ((Bx S nc).2.infs.map AR),.slice (.id 1002 1) ((Bx S nc).2.drv.map AD),.mref 1003,vb (Bx S nc).2.full,sl AL dec,sl Al (AH dec),.msl 500 st.length]),(1001,.tok 6 (Bx S nc).2.infs.length),(1002,.tok 1 (Bx S nc).2.drv.length),(1003,.map E9 (Fe 0 (Bx S nc).2.infs)),(1004,.dead)] Z10 Z9 (Yi (Zm rfl B0 aa2) (Yi (Zm rfl B0 aa2) (Yi (Ii i B0) ?_))))));have eA:=(Xd (rec:=Cs x roots n) (x:=x) (p:=p) (n0:=n0) (st:=st) (rs:=rs) (sk:=sk) n3 XM h6.2 IS ab);have eN:Dy (Cs x roots n) x p (n0::l) n0 dec st (cs.drop (i+1)) (Bx S nc).2 (rs++[(Bx S nc).1]) (sk++[(⟨p,cs[i].place,((Bx S nc).1:Nat)⟩:Sk)])=R:=by rw[<-VE (c:=cs[i]) ac,<-eA];exact j2
     refine Xi ⟨(i+1,(Bx S nc).2,rs++[(Bx S nc).1],sk++[(⟨p,cs[i].place,((Bx S nc).1:Nat)⟩:Sk)]),E8 n3,eN,b1,fun r h=>(Bk.1 h).elim ((fun r h=>AA (j4 r h) b3) r) (fun h=>by rw[AC.1 h];exact UZ),(by rw[Aa];exact Eb j5),(by rw[Aa];exact Eb j6)⟩ ?_;exact⟨Dl cs.length i B0,⟨Zr,Zr,Zr,⟨(show AV.slice (.id 6 1) (rs.map Cm++[[vi (((Bx S nc).1:Nat):Int)]])=.slice (.id 6 1) ((rs++[(Bx S nc).1]).map Cm) by rw[AG];rfl),rfl⟩,⟨(show AV.slice (.id 7 3) (sk.map AJ++[[vs p,vi cs[i].place,vi (((Bx S nc).1:Nat):Int)]])=.slice (.id 7 3) ((sk++[(⟨p,cs[i].place,((Bx S nc).1:Nat)⟩:Sk)]).map AJ) by rw[AG];rfl),rfl⟩,Zr,Zr,Zr,Tv⟩,⟨⟨(show HO.tok 1 ((rs.map Cm).length+([[vi (((Bx S nc).1:Nat):Int)]]:List (List AV)).length)=.tok 1 (rs++[(Bx S nc).1]).length by simp),rfl⟩,⟨(show HO.tok 3 ((sk.map AJ).length+([[vs p,vi cs[i].place,vi (((Bx S nc).1:Nat):Int)]]:List (List AV)).length)=.tok 3 (sk++[(⟨p,cs[i].place,((Bx S nc).1:Nat)⟩:Sk)]).length by simp),rfl⟩,Zr,Zr,Zr,Zr,Zr,Zr,Tv⟩,Fh,Bp aa3⟩
    refine Xi .pure (Xi _ (Yi (cb ac (lj (DX (Bx S nc).2 (Bx S nc).1) p (EX (bR _ (Ax (EO UZ)))))) (cU [(12,vi ((Bx S nc).1:Nat))] [(500,.arr 1 (st.map A7)),(1000,.cells [sl Af roots,.cmap Cc C,.cmap Cc A,.slice (.id 1001 6) ((Bx S nc).2.infs.map AR),.slice (.id 1002 1) ((Bx S nc).2.drv.map AD),.mref 1003,vb (Bx S nc).2.full,sl AL dec,sl Al (AH dec),.msl 500 st.length]),(1001,.tok 6 (Bx S nc).2.infs.length),(1002,.tok 1 (Bx S nc).2.drv.length),(1003,.map E9 (Fe 0 (Bx S nc).2.infs)),(1004,.dead)] Z1 Z6 ?_)))
    have eA:=(Xd (rec:=Cs x roots n) (x:=x) (p:=p) (n0:=n0) (st:=st) (rs:=rs) (sk:=sk) n3 XM h6.2 IS ab);have eR:R=⟨(Bx S nc).1,false,(Bx S nc).2,dec,st⟩:=by rw[<-j2];rw[eA];exact bp ac
    exact Xi _ (Yi (.refl _) (Ng (bH.trans eR)))
   skip
   have eW:p5 (DL dec cs[i])=.tup [.agg [vs ⟨#[]⟩,nzA,vs ⟨#[]⟩,vi 0,vi 0],vb false]:=by rw[ab];rfl
   rw[eW]at Wc;refine Xi (.gen Zu 0) (Yi rfl (Bd.imp Wc ?_));intro v35 g35 q35;have Aa6:=q35.1;have Aa7:=q35.2;subst Aa6;subst Aa7;refine yN (cU [(0,.ref 1000 0),(4,vs p),(5,sl Bi (n0::l)),(6,.slice (.id 6 1) (rs.map Cm)),(7,.slice (.id 7 3) (sk.map AJ)),(9,.ref 9 0),(11,.slice (.id 16000 4) ((AH (dec++[cs[i]])).map Al)),(12,vi 0),(13,vb false),(14,.ref 14 0),(15,vb false),(32,sl AL cs),(33,vi (cs.map AL).length),(34,vi i)] [(6,.tok 1 rs.length),(7,.tok 3 sk.length),(9,.ro (AL cs[i])),(14,.cells [vs ⟨#[]⟩,nzA,vs ⟨#[]⟩,vi 0,vi 0]),(500,.arr 1 (st.map A7)),(1000,.cells (srM roots C A S dec 500 st.length)),(1001,.tok 6 S.infs.length),(1002,.tok 1 S.drv.length),(1003,.map E9 (Fe 0 S.infs)),(1004,.dead),(16000,.tok 4 ((AH (dec++[cs[i]])).map Al).length)] ⟨Zr,Zr,Zr,Zr,Zr,Zr,Zr,Zr,Zr,Zr,Zr,Zr,Zr,Zr,Tv⟩ Z11 (Yi aa3 (cU [(0,.ref 1000 0),(4,vs p),(5,sl Bi (n0::l)),(6,.slice (.id 6 1) (rs.map Cm)),(7,.slice (.id 7 3) (sk.map AJ)),(9,.ref 9 0),(11,.slice (.id 16000 4) ((AH (dec++[cs[i]])).map Al)),(16,sl AL dec),(17,sl Al (AH dec)),(32,sl AL cs),(33,vi (cs.map AL).length),(34,vi i)] [(6,.tok 1 rs.length),(7,.tok 3 sk.length),(9,.ro (AL cs[i])),(500,.arr 1 (st.map A7)),(1000,.cells (srM roots C A S dec 500 st.length)),(1001,.tok 6 S.infs.length),(1002,.tok 1 S.drv.length),(1003,.map E9 (Fe 0 S.infs)),(1004,.dead),(16000,.tok 4 ((AH (dec++[cs[i]])).map Al).length)] Z12 Z10 (Xi _ (Xi _ (Yi aa3 (Yi (vq dec (by unfold Cz;omega)) (yN ?_))))))));have b36:BX 10 [(AL cs[i])]/\(dec.map AL).length=(dec.map AL).length/\((dec.map AL).length+([(AL cs[i])]:List (List AV)).length)*128<=140737488355328/\(dec.map AL).length+([(AL cs[i])]:List (List AV)).length<=9223372036854775807:=⟨⟨rfl,trivial⟩,rfl,(by simp only[Lm,AF,A0];omega),(by simp only[Lm,AF,A0];omega)⟩;refine Yi b36 (yN (yN (Yi aa3 ?_)));have b37:BX 1 [[sl AJ sk]]/\(st.map A7).length=st.length/\((st.map A7).length+([[sl AJ sk]]:List (List AV)).length)*24<=140737488355328/\(st.map A7).length+([[sl AJ sk]]:List (List AV)).length<=9223372036854775807:=⟨⟨rfl,trivial⟩,(by rw[Lm]),(by simp only[Lm,AF,A0];omega),(by simp only[Lm,AF,A0];omega)⟩;refine Yi b37 (yN (cU [(0,.ref 1000 0),(4,vs p),(5,sl Bi (n0::l)),(6,.slice (.id 6 1) (rs.map Cm)),(7,.slice (.id 7 3) (sk.map AJ)),(9,.ref 9 0),(16,sl AL dec),(17,sl Al (AH dec)),(32,sl AL cs),(33,vi (cs.map AL).length),(34,vi i)] [(6,.tok 1 rs.length),(7,.tok 3 sk.length),(9,.ro (AL cs[i])),(500,.arr 1 ((st.map A7)++[[sl AJ sk]])),(1000,.cells [sl Af roots,.cmap Cc C,.cmap Cc A,.slice (.id 1001 6) (S.infs.map AR),.slice (.id 1002 1) (S.drv.map AD),.mref 1003,vb S.full,.slice (.id 20100 10) ((dec.map AL)++[(AL cs[i])]),.slice (.id 16000 4) ((AH (dec++[cs[i]])).map Al),.msl 500 ((st.map A7).length+([[sl AJ sk]]:List (List AV)).length)]),(1001,.tok 6 S.infs.length),(1002,.tok 1 S.drv.length),(1003,.map E9 (Fe 0 S.infs)),(1004,.dead),(16000,.tok 4 ((AH (dec++[cs[i]])).map Al).length),(20100,.tok 10 ((dec.map AL).length+([(AL cs[i])]:List (List AV)).length))] Z11 Z11 (cU [(0,.ref 1000 0),(4,vs p),(5,sl Bi (n0::l)),(6,.slice (.id 6 1) (rs.map Cm)),(7,.slice (.id 7 3) (sk.map AJ)),(9,.ref 9 0),(16,sl AL dec),(17,sl Al (AH dec)),(32,sl AL cs),(33,vi (cs.map AL).length),(34,vi i)] [(6,.tok 1 rs.length),(7,.tok 3 sk.length),(9,.ro (AL cs[i])),(500,.arr 1 ((st++[sk]).map A7)),(1000,.cells [sl Af roots,.cmap Cc C,.cmap Cc A,.slice (.id 1001 6) (S.infs.map AR),.slice (.id 1002 1) (S.drv.map AD),.mref 1003,vb S.full,.slice (.id 20100 10) ((dec++[cs[i]]).map AL),.slice (.id 16000 4) ((AH (dec++[cs[i]])).map Al),.msl 500 (st++[sk]).length]),(1001,.tok 6 S.infs.length),(1002,.tok 1 S.drv.length),(1003,.map E9 (Fe 0 S.infs)),(1004,.dead),(16000,.tok 4 ((AH (dec++[cs[i]])).map Al).length),(20100,.tok 10 ((dec++[cs[i]]).map AL).length)] Z11 ⟨Zr,Zr,Zr,⟨(show(.arr 1 ((st.map A7)++[[sl AJ sk]]):HO)=.arr 1 ((st++[sk]).map A7) by simp),rfl⟩,⟨(show(.cells [sl Af roots,.cmap Cc C,.cmap Cc A,.slice (.id 1001 6) (S.infs.map AR),.slice (.id 1002 1) (S.drv.map AD),.mref 1003,vb S.full,.slice (.id 20100 10) ((dec.map AL)++[(AL cs[i])]),.slice (.id 16000 4) ((AH (dec++[cs[i]])).map Al),.msl 500 ((st.map A7).length+([[sl AJ sk]]:List (List AV)).length)]:HO)=.cells [sl Af roots,.cmap Cc C,.cmap Cc A,.slice (.id 1001 6) (S.infs.map AR),.slice (.id 1002 1) (S.drv.map AD),.mref 1003,vb S.full,.slice (.id 20100 10) ((dec++[cs[i]]).map AL),.slice (.id 16000 4) ((AH (dec++[cs[i]])).map Al),.msl 500 (st++[sk]).length] by simp),rfl⟩,Zr,Zr,Zr,Zr,Zr,⟨(show(.tok 10 ((dec.map AL).length+([(AL cs[i])]:List (List AV)).length):HO)=.tok 10 ((dec++[cs[i]]).map AL).length by simp),rfl⟩,Tv⟩ ?_)))
   have DY:fD dec (n0::l) cs[i]=true:=OV.2 ⟨fun n hn=>by have q:=NZ.1 h6.2 n hn;simpa using q,ab⟩;have iY:=ih cs[i] (tB i n3) DY S (st++[sk]) (by simp[IM]) j3 (by simpa using h4);refine A1 (show ∃o,o=Cs x roots n (dec++[cs[i]]) S (st++[sk])from⟨_,rfl⟩) (fun o ho=>?_);rw[<-ho]at iY;have wt:Bd Tryz.prog 82 [.ref 1000 0] (Ag (IR roots C A S (dec++[cs[i]]) (st++[sk])) Ad) (fun r h'=>r=.tup [vi (o.res:Nat),vb o.found]/\h'=Ag (wP roots C A o.ss o.dec o.stack) Ad):=iY.1;have rS:=iY.2.1;have hrn:=iY.2.2.1;refine BK (Bt o.found) (fun gy=>?_) (fun gy=>?_)
   .skip
    rw[gy]at wt;refine Xi (.gen Zu 1) (Yi rfl (Bd.imp wt ?_));intro v39 g39 q39;have Aa8:=q39.1;have Aa9:=q39.2;subst Aa8;subst Aa9;refine cU [(0,.ref 1000 0),(4,vs p),(5,sl Bi (n0::l)),(6,.slice (.id 6 1) (rs.map Cm)),(7,.slice (.id 7 3) (sk.map AJ)),(9,.ref 9 0),(12,vi (o.res:Nat)),(16,sl AL dec),(17,sl Al (AH dec)),(18,vb true),(32,sl AL cs),(33,vi (cs.map AL).length),(34,vi i)] [(6,.tok 1 rs.length),(7,.tok 3 sk.length),(9,.ro (AL cs[i])),(1000,.cells (srM roots C A o.ss o.dec 22200 o.stack.length)),(1001,.tok 6 o.ss.infs.length),(1002,.tok 1 o.ss.drv.length),(1003,.map E9 (Fe 0 o.ss.infs)),(1004,.dead),(22200,.arr 1 (o.stack.map A7))] Z13 Z9 (Yi (show o.stack.length=(o.stack.map A7).length by simp) (cU [] [(500,.arr 1 (o.stack.map A7)),(1000,.cells (srM roots C A o.ss o.dec 500 o.stack.length)),(1001,.tok 6 o.ss.infs.length),(1002,.tok 1 o.ss.drv.length),(1003,.map E9 (Fe 0 o.ss.infs)),(1004,.dead)] Tv Z6 ?_))
    have XM:S.full=false:=by simpa using h4
    have eR:R=⟨0,true,o.ss,o.dec,o.stack⟩:=by rw[<-j2];rw[VQ (sk:=sk) n3 XM h6.2 IS ab ho,As gy]
    exact Xi _ (Yi (.refl _) (Ng (bH.trans eR)))
   skip
   rw[gy]at wt;have XT:=iY.2.2.2 gy;have JZ:o.stack.length=st.length+1:=by rw[XT];simp
   refine Xi (.gen Zu 1) (Yi rfl (Bd.imp wt ?_));intro v41 g41 q41;have Aaa:=q41.1;have Aab:=q41.2;subst Aaa;subst Aab;refine cU [(0,.ref 1000 0),(4,vs p),(5,sl Bi (n0::l)),(6,.slice (.id 6 1) (rs.map Cm)),(7,.slice (.id 7 3) (sk.map AJ)),(9,.ref 9 0),(12,vi (o.res:Nat)),(16,sl AL dec),(17,sl Al (AH dec)),(18,vb false),(32,sl AL cs),(33,vi (cs.map AL).length),(34,vi i)] [(6,.tok 1 rs.length),(7,.tok 3 sk.length),(9,.ro (AL cs[i])),(1000,.cells (srM roots C A o.ss o.dec 22200 o.stack.length)),(1001,.tok 6 o.ss.infs.length),(1002,.tok 1 o.ss.drv.length),(1003,.map E9 (Fe 0 o.ss.infs)),(1004,.dead),(22200,.arr 1 (o.stack.map A7))] Z13 Z9 (yN (yN (cU [(0,.ref 1000 0),(4,vs p),(5,sl Bi (n0::l)),(6,.slice (.id 6 1) (rs.map Cm)),(7,.slice (.id 7 3) (sk.map AJ)),(9,.ref 9 0),(12,vi (o.res:Nat)),(32,sl AL cs),(33,vi (cs.map AL).length),(34,vi i)] [(6,.tok 1 rs.length),(7,.tok 3 sk.length),(9,.ro (AL cs[i])),(1000,.cells (srM roots C A o.ss dec 22200 o.stack.length)),(1001,.tok 6 o.ss.infs.length),(1002,.tok 1 o.ss.drv.length),(1003,.map E9 (Fe 0 o.ss.infs)),(1004,.dead),(22200,.arr 1 (o.stack.map A7))] Z10 Z9 (Yi (by show A8 ((o.stack.length:Int)-(1:Int));unfold A8;omega) (Yi ⟨(show o.stack.length=(o.stack.map A7).length by simp),(show(0:Int)<=o.stack.length-1 by omega),(show(o.stack.length-1:Int)<=((o.stack.map A7).length:Nat) by rw[Lm];omega)⟩ (yN (Yi aa3 (Yi (show(o.stack.length-1:Int).toNat=(((o.stack.map A7).take (o.stack.length-1:Int).toNat):List (List AV)).length by simp) ?_))))))));have tY:((o.stack.map A7).take ((o.stack.length:Int)-1).toNat)=st.map A7/\((o.stack.length:Int)-1).toNat=st.length:=tZ XT;refine cU [(0,.ref 1000 0),(4,vs p),(5,sl Bi (n0::l)),(6,.slice (.id 6 1) (rs.map Cm)),(7,.slice (.id 7 3) (sk.map AJ)),(9,.ref 9 0),(12,vi (o.res:Nat)),(32,sl AL cs),(33,vi (cs.map AL).length),(34,vi i)] [(6,.tok 1 rs.length),(7,.tok 3 sk.length),(9,.ro (AL cs[i])),(500,.arr 1 (st.map A7)),(1000,.cells (srM roots C A o.ss dec 500 st.length)),(1001,.tok 6 o.ss.infs.length),(1002,.tok 1 o.ss.drv.length),(1003,.map E9 (Fe 0 o.ss.infs)),(1004,.dead)] Z10 ⟨Zr,Zr,Zr,⟨(show(.arr 1 ((o.stack.map A7).take (o.stack.length-1:Int).toNat):HO)=.arr 1 (st.map A7) by rw[tY.1]),rfl⟩,⟨(show(.cells (srM roots C A o.ss dec 500 (o.stack.length-1:Int).toNat):HO)=.cells (srM roots C A o.ss dec 500 st.length) by rw[tY.2]),rfl⟩,Zr,Zr,Zr,Zr,Tv⟩ ?_
   refine Yi (fun x9=>?_) (fun x9=>?_)
   .have XM:S.full=false:=by simpa using h4
    have eR:R=⟨0,false,o.ss,dec,st⟩:=by rw[<-j2];rw[VQ (sk:=sk) n3 XM h6.2 IS ab ho,AB (by rw[gy];decide),As x9]
    exact Xi _ (Yi (.refl _) (Ng (bH.trans eR)))
   have dX:o.ss.full=false:=x9;refine cU [(0,.ref 1000 0),(4,vs p),(5,sl Bi (n0::l)),(6,.slice (.id 6 1) (rs.map Cm)),(7,.slice (.id 7 3) (sk.map AJ)),(9,.ref 9 0),(12,vi (o.res:Nat)),(32,sl AL cs),(33,vi (cs.map AL).length),(34,vi i)] [(6,.tok 1 rs.length),(7,.tok 3 sk.length),(9,.ro (AL cs[i])),(500,.arr 1 (st.map A7)),(1000,.cells (srM roots C A o.ss dec 500 st.length)),(1001,.tok 6 o.ss.infs.length),(1002,.tok 1 o.ss.drv.length),(1003,.map E9 (Fe 0 o.ss.infs)),(1004,.dead)] Z10 Z9 (Xi (AD (DX o.ss o.res)) (Yi (Yi (show(0:Int)<=((o.res:Nat):Int) by omega) (Fj (EO (hrn.2 gy dX)))) (Yi rfl ?_)));have XM:S.full=false:=by simpa using h4
   have UZ:o.res<o.ss.drv.length:=(hrn.2 gy dX);have bR:=rS.der.few hx hr;refine BK (Bt (Dr (DX o.ss o.res) p)) (fun s7=>?_) (fun s7=>?_)
   .refine Xi .pure (Xi _ (Yi (cb s7 (lj (DX o.ss o.res) p (EX (bR _ (Ax (EO UZ)))))) (cU [(0,.ref 1000 0),(4,vs p),(5,sl Bi (n0::l)),(6,.slice (.id 6 1) (rs.map Cm)),(7,.slice (.id 7 3) (sk.map AJ)),(9,.ref 9 0),(12,vi (o.res:Nat)),(32,sl AL cs),(33,vi (cs.map AL).length),(34,vi i)] [(6,.tok 1 rs.length),(7,.tok 3 sk.length),(9,.ro (AL cs[i])),(500,.arr 1 (st.map A7)),(1000,.cells (srM roots C A o.ss dec 500 st.length)),(1001,.tok 6 o.ss.infs.length),(1002,.tok 1 o.ss.drv.length),(1003,.map E9 (Fe 0 o.ss.infs)),(1004,.dead)] Z10 Z9 (Yi (Zm rfl B0 aa2) (Yi (Zm rfl B0 aa2) (Yi (Ii i B0) ?_))))));have eA:=(VQ (rec:=Cs x roots n) (x:=x) (p:=p) (n0:=n0) (st:=st) (rs:=rs) (sk:=sk) n3 XM h6.2 IS ab ho);rw[AB (by rw[gy];decide),AB (by rw[dX];decide)]at eA;have eN:Dy (Cs x roots n) x p (n0::l) n0 dec st (cs.drop (i+1)) o.ss (rs++[o.res]) (sk++[(⟨p,cs[i].place,(o.res:Nat)⟩:Sk)])=R:=by rw[<-VE (c:=cs[i]) s7,<-eA];exact j2
    refine Xi ⟨(i+1,o.ss,rs++[o.res],sk++[(⟨p,cs[i].place,(o.res:Nat)⟩:Sk)]),E8 n3,eN,rS,fun r h=>(Bk.1 h).elim ((fun r h=>AA (j4 r h) hrn.1) r) (fun h=>by rw[AC.1 h];exact UZ),(by rw[Aa];exact Eb j5),(by rw[Aa];exact Eb j6)⟩ ?_;exact⟨Dl cs.length i B0,⟨Zr,Zr,Zr,⟨(show AV.slice (.id 6 1) (rs.map Cm++[[vi ((o.res:Nat):Int)]])=.slice (.id 6 1) ((rs++[o.res]).map Cm) by rw[AG];rfl),rfl⟩,⟨(show AV.slice (.id 7 3) (sk.map AJ++[[vs p,vi cs[i].place,vi ((o.res:Nat):Int)]])=.slice (.id 7 3) ((sk++[(⟨p,cs[i].place,(o.res:Nat)⟩:Sk)]).map AJ) by rw[AG];rfl),rfl⟩,Zr,Zr,Zr,Tv⟩,⟨⟨(show HO.tok 1 ((rs.map Cm).length+([[vi ((o.res:Nat):Int)]]:List (List AV)).length)=.tok 1 (rs++[o.res]).length by simp),rfl⟩,⟨(show HO.tok 3 ((sk.map AJ).length+([[vs p,vi cs[i].place,vi ((o.res:Nat):Int)]]:List (List AV)).length)=.tok 3 (sk++[(⟨p,cs[i].place,(o.res:Nat)⟩:Sk)]).length by simp),rfl⟩,Zr,Zr,Zr,Zr,Zr,Zr,Tv⟩,Fh,Bp aa3⟩
   refine Xi .pure (Xi _ (Yi (cb s7 (lj (DX o.ss o.res) p (EX (bR _ (Ax (EO UZ)))))) (cU [(12,vi (o.res:Nat))] [(500,.arr 1 (st.map A7)),(1000,.cells (srM roots C A o.ss dec 500 st.length)),(1001,.tok 6 o.ss.infs.length),(1002,.tok 1 o.ss.drv.length),(1003,.map E9 (Fe 0 o.ss.infs)),(1004,.dead)] Z1 Z6 ?_)))
   have eA:=(VQ (rec:=Cs x roots n) (x:=x) (p:=p) (n0:=n0) (st:=st) (rs:=rs) (sk:=sk) n3 XM h6.2 IS ab ho);rw[AB (by rw[gy];decide),AB (by rw[dX];decide)]at eA;have eR:R=⟨o.res,false,o.ss,dec,st⟩:=by rw[<-j2];rw[eA];exact bp s7
   exact Xi _ (Yi (.refl _) (Ng (bH.trans eR)))
  have n3:=FH h3;refine Xi (Bi n0) (Yi (Yi (show(0:Int)<=0 by decide) rfl) (Yi rfl (yN (Xi (.gen Zu 0) (Yi rfl (Bd.imp (s91 x roots C A S dec st p n0 rs V hx hr j3 hinf0 j4 B0 (hnq n0 (Ae ..)) (hnp n0 (Ae ..)) te tf tg) ?_))))));intro v49 g49 q49;have Aac:=q49.1;have Aad:=q49.2;subst Aac;subst Aad;have hj:¬i<cs.length:=by have q:=h3;rw[Lm]at q;omega
  have eR:R=⟨(Dj x p n0 rs S).1,false,(Dj x p n0 rs S).2,dec,st⟩:=by rw[<-j2];exact gX hj
  exact Xi _ (Yi (.refl _) (Ng (bH.trans eR)))
 exact absurd OF ya
theorem Aav(hL:wS x roots C A n dec p n0 l V cs)(hs:Kj x roots s)(_:st.length=dec.length)(Rr:Bd Tryz.prog 148 [.ref 1000 0] (Ag (IR roots C A s dec st) Ad) fun r h'=>r=.tup [vs p,sl Bi (n0::l)]/\h'=Ag (IR roots C A s dec st) Ad)(tD:cs=[])(ya:∀a,(Value.string p,a)∉C)(hR:Dy (Cs x roots n) x p (n0::l) n0 dec st cs s [] []=R)(bH:O=R) :
  Bd Tryz.prog 82 [.ref 1000 0] (Ag (IR roots C A s dec st) Ad) (Zw roots C A O):=by
 obtain⟨hx,hr,hdl,hcl,hcs,hnl,hnq,hnp,hex,hcx,hcq,hcp_,hcr,hcs_,hkey,hinf0,⟨te,tf,tg⟩,ih⟩:=hL;have tB:∀(i:Nat) (h:i<cs.length),cs[i]∈Br x p:=fun i h=>by rw[<-hcs];exact Am h
 have qu:∀(i:Nat) (h:i<cs.length),Cz (AH (dec++[cs[i]])):=fun i h=>by unfold Cz AH;rw[Lm,Aa];simp;omega
 clear hcs
 refine Bm (IF ⟨[9],[(6,1),(7,3),(145,1)],[],[],[],[],[],[],[],[(300001,500091000),(300026,500091000),(300029,500091000)],[1,2,5,10,11,13,14,15,16,17,19,21,22,23,24,25,26,28,29,31,32,33,35]⟩) [(1000,1000),(1001,1001),(1002,1002),(1003,1003),(1004,1004),(500,2000)] rfl BB hm rfl Tryz.func82 aa3 rfl (Nz rfl) aa3 rfl (Yi (show st.length=(st.map A7).length by simp) (cU [(0,.ref 1000 0)] [(500,.arr 1 (st.map A7)),(1000,.cells (srM roots C A s dec 500 st.length)),(1001,.tok 6 s.infs.length),(1002,.tok 1 s.drv.length),(1003,.map E9 (Fe 0 s.infs)),(1004,.dead)] Z1 Z6 (Xi (.gen Zu 0) (Yi rfl (Bd.imp Rr ?_)))));intro v1 g1 q1;have nF:=q1.1;have nG:=q1.2;subst nF;subst nG;refine cU [(0,.ref 1000 0),(4,vs p),(5,sl Bi (n0::l))] [(500,.arr 1 (st.map A7)),(1000,.cells (srM roots C A s dec 500 st.length)),(1001,.tok 6 s.infs.length),(1002,.tok 1 s.drv.length),(1003,.map E9 (Fe 0 s.infs)),(1004,.dead)] Z3 Z6 (Yi (fun h2=>?_) (fun h2=>?_))
 .exact absurd h2 (by simp;omega)
 refine cU [(0,.ref 1000 0),(4,vs p),(5,sl Bi (n0::l)),(6,.slice (.id 6 1) [])] [(6,.tok 1 0),(500,.arr 1 (st.map A7)),(1000,.cells (srM roots C A s dec 500 st.length)),(1001,.tok 6 s.infs.length),(1002,.tok 1 s.drv.length),(1003,.map E9 (Fe 0 s.infs)),(1004,.dead)] Z4 Z7 (Yi (fun a ha=>?_) (fun OF=>?_))
 .exact absurd ha (ya a)
 refine Xi {q:Nat×SS×List Nat×List Sk // q.1<=cs.length/\Dy (Cs x roots n) x p (n0::l) n0 dec st (cs.drop q.1) q.2.1 q.2.2.1 q.2.2.2=R/\Kj x roots q.2.1/\(∀r∈q.2.2.1,r<q.2.1.drv.length)/\q.2.2.1.length<=q.1/\q.2.2.2.length<=q.1} (Xi (fun q=>⟨[(0,.ref 1000 0),(4,vs p),(5,sl Bi (n0::l)),(6,.slice (.id 6 1) (q.1.2.2.1.map Cm)),(7,.slice (.id 7 3) (q.1.2.2.2.map AJ)),(32,nzA),(33,vi 0),(34,vi q.1.1)],[(6,.tok 1 q.1.2.2.1.length),(7,.tok 3 q.1.2.2.2.length),(500,.arr 1 (st.map A7)),(1000,.cells (srM roots C A q.1.2.1 dec 500 st.length)),(1001,.tok 6 q.1.2.1.infs.length),(1002,.tok 1 q.1.2.1.drv.length),(1003,.map E9 (Fe 0 q.1.2.1.infs)),(1004,.dead)],Ad⟩) (Xi (fun q=>cs.length-q.1.1) (Yi (Xi ⟨(0,s,[],[]),Ao _,hR,hs,fun r h=>(by cases h),Ai _,Ai _⟩ ?_) ?_)))
 .exact⟨Z8,Z8,Fh,Bp aa3⟩
 intro⟨⟨i,S,rs,sk⟩,j1,j2,j3,j4,j5,j6⟩;have j5:rs.length<=i:=j5;have hw:=j3.dl;have rP:∀t∈S.drv,Vz t:=fun t ht=>by have q:=j3.der.few hx hr t ht;exact⟨EX q,q.2⟩
 refine Yi (fun h3=>?_) (fun h3=>?_)
 .have h3:(i:Int)<(0:Int):=h3;exact absurd h3 (by have q:=j1;rw[tD,A0]at q;omega)
 have h3:¬((i:Int)<(0:Int)):=h3;refine Xi (Bi n0) (Yi (Yi (show(0:Int)<=0 by decide) rfl) (Yi rfl (yN (Xi (.gen Zu 0) (Yi rfl (Bd.imp (s91 x roots C A S dec st p n0 rs V hx hr j3 hinf0 j4 B0 (hnq n0 (Ae ..)) (hnp n0 (Ae ..)) te tf tg) ?_))))));intro v4 g4 q4;have q4a:=q4.1;have q4b:=q4.2;subst q4a;subst q4b;have hj:¬i<cs.length:=by rw[tD];simp
 have eR:R=⟨(Dj x p n0 rs S).1,false,(Dj x p n0 rs S).2,dec,st⟩:=by rw[<-j2];exact gX hj
 exact Xi _ (Yi (.refl _) (Ng (bH.trans eR)))
theorem Aax(N:List Nd)(O:JO)(hN:N=[])(Rr:Bd Tryz.prog 148 [.ref 1000 0] (Ag (IR roots C A s dec st) Ad) fun r h'=>r=.tup [vs p,sl Bi N]/\h'=Ag (IR roots C A s dec st) Ad)(hO:O=⟨0,true,s,dec,st⟩) :
  Bd Tryz.prog 82 [.ref 1000 0] (Ag (IR roots C A s dec st) Ad) (Zw roots C A O):=by
 refine Bm (IF ⟨[],[],[],[],[],[],[],[],[],[(300001,500091000)],[1,2,5,10,11,13,14,15,16,17,19,21,22,23,25,28,29,31,32,33,35]⟩) [(1000,1000),(1001,1001),(1002,1002),(1003,1003),(1004,1004),(500,2000)] rfl BB hm rfl Tryz.func82 aa3 rfl (Nz rfl) aa3 rfl (Yi (show st.length=(st.map A7).length by simp) (cU [(0,.ref 1000 0)] [(500,.arr 1 (st.map A7)),(1000,.cells (srM roots C A s dec 500 st.length)),(1001,.tok 6 s.infs.length),(1002,.tok 1 s.drv.length),(1003,.map E9 (Fe 0 s.infs)),(1004,.dead)] Z1 Z6 (Xi (.gen Zu 0) (Yi rfl (Bd.imp Rr ?_)))));intro v1 g1 q1;have nF:=q1.1;have nG:=q1.2;subst nF;subst nG;refine cU [(0,.ref 1000 0),(4,vs p),(5,sl Bi N)] [(500,.arr 1 (st.map A7)),(1000,.cells (srM roots C A s dec 500 st.length)),(1001,.tok 6 s.infs.length),(1002,.tok 1 s.drv.length),(1003,.map E9 (Fe 0 s.infs)),(1004,.dead)] Z3 Z6 (Yi (fun h2=>?_) (fun h2=>?_))
 .exact Xi _ (Yi (.refl _) (Ng (st:=st) hO))
 exact absurd (by rw[hN];rfl) h2
section
variable {x:List Rl}{roots:List Rq}{p:ByteArray}
theorem HY:∀(l:List Nat) {k:Nat} {s:SS},s.infs.Nodup->(B2 p l k s).2.infs.Nodup
 | [],_,_,h=>h
 |r::l,k,s,h=>by
  unfold B2;split
  .exact h
  split
  .exact HY l h
  split
  .exact HY l h
  .exact HY l (HF h)
theorem Km{needs:List Nd}{n0:Nd}{dec:List Cd}{st:List (List Sk)}{rec:List Cd->SS->List (List Sk)->JO}(XS:∀c s st,s.infs.Nodup->(rec (dec++[c]) s st).ss.infs.Nodup) :
  ∀(cs:List Cd) {s:SS} {rs:List Nat} {sk:List Sk},s.infs.Nodup->(Dy rec x p needs n0 dec st cs s rs sk).ss.infs.Nodup
 | [],s,rs,sk,h=>HY _ (HF (HF h))
 |c::cs,s,rs,sk,h=>by
  have rF:∀(s' : SS) (k:Nat),s'.infs.Nodup->(H3 rec x p needs n0 dec st c cs rs sk k s').ss.infs.Nodup:=fun s' k h'=>by
   unfold H3;split
   .exact h'
   .exact Km XS cs h'
  rw[Fu];split
  .exact h
  cases needs.find? fun n=>!has n.rq.set c.place with
  |some n=>exact Km XS cs (HF h)
  |none=>
   dsimp only;cases Nu s.drv (AH (dec++[c]))with
   |some k=>exact rF s k h
   |none=>
    dsimp only;cases DL dec c with
    |some n=>exact rF _ _ (HF h)
    |none=>
     dsimp only;have h2:=XS c s (st++[sk]) h;split
     .exact h2
     split
     .exact h2
     .exact rF _ _ h2
theorem Pe:∀(n:Nat) {dec:List Cd} {s:SS} {st:List (List Sk)},s.infs.Nodup->(Cs x roots n dec s st).ss.infs.Nodup
 |0,_,_,_,h=>h
 |n+1,dec,s,st,h=>by
  unfold Cs;cases (Et roots dec).2 with
  |nil=>exact h
  |cons n0 l=>exact Km (fun c s st h=>Pe n h) _ h
structure wR(x:List Rl)(roots:List Rq)(C A:List (Value×AV)):Prop where
 hx:AX x=0
 hr:Bu roots=0
 fx:∀r∈x,IX r
 fr:∀q∈roots,Jz q
 c1:∀(p:ByteArray) (a:AV),(Value.string p,a)∈C->a=sl AL (Br x p)
 c2:∀p:ByteArray,(∀a,(Value.string p,a)∉C)->Br x p=[]
 c3:∀p:ByteArray,Br x p=[]->∀a,(Value.string p,a)∉C
 av:∀p:ByteArray,∃V,HV x A p V
theorem qc{dec:List Cd}(h:∀c∈dec,c.rel.reqs.length<=16):((dec.map fun c=>c.rel.reqs).flatten).length<=16*dec.length:=by
 induction dec with
 |nil=>simp
 |cons c dec ih=>
  rw[Bb,By,Aa,AF]
  have:=h c (Ae ..)
  have:=ih fun d hd=>h d (Ah _ hd)
  omega
theorem qX{r:Rl}(h:Jf r):0<=plc r.ver/\plc r.ver<1000000:=by rw[h.plc];exact I7 h.val
theorem fu(dec:List Cd):(Et roots dec).2.length<=(CP roots dec).length:=by
 rw[To];cases F9 (FR roots dec) (AH dec)with
 |none=>simp
 |some q=>exact CL _ _
theorem s45{C A:List (Value×AV)}(hE:wR x roots C A)(qf:H64 roots C A):∀(n:Nat) {dec:List Cd} {s:SS} {st:List (List Sk)},Dz x dec->Is roots dec->Kj x roots s->s.full=false->Fv x dec<n->st.length=dec.length ->
  Bd Tryz.prog 82 [.ref 1000 0] (Ag (IR roots C A s dec st) Ad) (Zw roots C A (Cs x roots n dec s st))
 |0,_,_,_,_,_,_,_,h,_=>by omega
 |n+1,dec,s,st,hd,d9,hs,hf,hn,IM=>by
  have hx:=hE.hx;have hr:=hE.hr;have Wh:=I3 hx;have hdl:=Xl hd;have yG:dec.length<=256:=by have:=Wh.1;omega
  have hrl:∀c∈dec,c.rel.reqs.length<=16:=fun c hc=>Wh.2 _ (hd.cand c hc).1;have Rr:=qf s dec st B0 fun c hc=>AO (hrl c hc) aa2;generalize hO:Cs x roots (n+1) dec s st=O;obtain⟨N,hN⟩:∃N,N=(Et roots dec).2:=⟨_,rfl⟩;obtain⟨q,hq⟩:∃q,q=(Et roots dec).1:=⟨_,rfl⟩;rw[<-hN,<-hq]at Rr;have hNl:N.length<=10000:=by
   have h1:=fu (roots:=roots) dec;have h2:(CP roots dec).length=(FR roots dec).length:=by rw[<-IU,Lm]
   have h3:=qc hrl;have h4:=Me hr;rw[<-hN]at h1;unfold FR at h2;rw[Aa]at h2;omega
  cases hNc:N with
  |nil=>
   rw[hNc]at hN Rr;refine Aax roots C A s dec st q [] O rfl Rr ?_;rw[<-hO];unfold Cs;rw[<-hN]
  |cons n0 l=>
   rw[hNc]at hN Rr;have hNx:=KF hN.symm;rw[<-hq]at hNx;have SU:∀nd∈n0::l,nd∈CP roots dec:=fun nd h=>((hNx.mem nd).1 h).1;have DY:=(BY hx).1;have few:∀{E:List Cd},Dz x E->∀nd∈CP roots E,Cz nd.rq.set/\A8 (nd.place+1):=fun hE' nd h=>by
    rcases L4 h with ⟨k,r,h1,rfl⟩ | ⟨c,hc,k,r,h1,rfl⟩
    .exact⟨(hE.fr r (Ax h1)).1,by unfold A8;show -9223372036854775808<=(0:Int)+1/\(0:Int)+1<9223372036854775808;decide⟩
    .have h2:=hE'.cand c hc;have h3:=qX (DY _ h2.1);rw[<-h2.2.2]at h3;exact⟨((hE.fx _ h2.1).2 r (Ax h1)).1,by unfold A8;show _<=c.place+1/\c.place+1<_;omega⟩
   have oV:∀c∈Br x q,Dz x (dec++[c])/\c.rel.path=q/\c.rel∈x:=fun c hc=>by
    obtain⟨c1,c2⟩:=GK hc;exact⟨hd.snoc c2 (by rw[c1];exact hNx.undone),c1,c2.1⟩
   have Fi:∀(i:Nat) (h:i<(Br x q).length),(Br x q)[i]∈Br x q:=fun i h=>Am h;obtain⟨V,hV⟩:=hE.av q
   have hL:wS x roots C A n dec q n0 l V (Br x q):={
    hx:=hx
    hr:=hr
    hdl:=yG
    hcl:=AO (UF x q) Wh.1
    hcs:=rfl
    hnl:=by rw[hNc]at hNl;omega
    hnq:=fun nd h=>(few hd nd (SU nd h)).1
    hnp:=fun nd h=>(few hd nd (SU nd h)).2
    hex:=fun i h nd hm hh=>by
     obtain⟨a,b,_⟩:=oV _ (Fi i h);exact⟨(OM hx hr a (NM (SU nd hm)) ⟨(Br x q)[i],by simp,b.trans ((hNx.mem nd).1 hm).2.symm,hh⟩).1,trivial⟩
    hcx:=fun i h nc hc=>by
     obtain⟨a,b,_⟩:=oV _ (Fi i h);obtain⟨m1,m2⟩:=Kp hc;exact⟨(OM hx hr a (MB m1) m2).1,trivial⟩
    hcq:=fun i h nc hm=>(few (oV _ (Fi i h)).1 nc (MB hm)).1
    hcp_:=fun i h nc hm=>(few (oV _ (Fi i h)).1 nc (MB hm)).2
    hcr:=fun i h=>by have:=Wh.2 _ (oV _ (Fi i h)).2.2;omega
    hcs_:=fun i h r hm=>((hE.fx _ (oV _ (Fi i h)).2.2).2 r hm).1
    hkey:=fun i h=>by
     have b:=(oV _ (Fi i h)).2.1;unfold AH;rw[AG,AG];show _=_++[[vs (Br x q)[i].rel.path,vi (Br x q)[i].rel.ver.a,vi (Br x q)[i].rel.ver.b,vi (Br x q)[i].rel.ver.c]];rw[b]
    hinf0:=(RE hx hr hd (SU n0 (Ae ..)) (.inl (by
     rw[((hNx.mem n0).1 (Ae ..)).2];exact Hj (by rw[F3];exact hNx.undone)))).inf
    hV:=hV
    ih:=fun c hc zk S Ef hl hS hSf=>by
     obtain⟨a,b,c3⟩:=oV c hc;obtain⟨k1,k2⟩:=OV.1 zk;obtain⟨_,c2⟩:=GK hc;have oU:=d9.snoc hNx b k1 k2;have Rs:Fv x (dec++[c])<n:=by have:=SH (dec:=dec) ⟨c2.1,c2.2.1⟩ (by rw[b];exact hNx.undone);omega
     have h1:=s45 hE qf n a oU hS hSf Rs (st:=Ef) (by rw[hl];simp);have h2:=Qk hx hr n a oU hS.der hSf Rs (st:=Ef);exact⟨h1,⟨h2.der,Pe n hS.nodup⟩,⟨h2.grow.len,fun e1 e2=>((h2.no e1).2.2 e2).1⟩,fun e1=>(h2.no e1).2.1⟩ }
   have hR:Dy (Cs x roots n) x q (n0::l) n0 dec st (Br x q) s [] []=O:=by
    rw[<-hO]
    conv=>rhs;unfold Cs
    rw[<-hN,hq]
   by_cases hm:∀a,(Value.string q,a)∉C
   .exact Aav x roots C A n s dec st q n0 l V (Br x q) O O hL hs IM Rr (hE.c2 q hm) hm hR rfl
   .exact Aau x roots C A n s dec st q n0 l V (Br x q) O O hL hs IM Rr (hE.c1 q) hm hR rfl
end
theorem Aaw{x:List Rl}{roots:List Rq}{C A:List (Value×AV)}(hE:wR x roots C A)(n:Nat){dec:List Cd}{s:SS}{st:List (List Sk)}(h1:Dz x dec)(h2:Is roots dec)(h3:Kj x roots s)(h4:s.full=false)(h5:Fv x dec<n)(h6:st.length=dec.length) :
  Bd Tryz.prog 82 [.ref 1000 0] (Ag (IR roots C A s dec st) Ad) (Zw roots C A (Cs x roots n dec s st)):=
 s45 hE (fun s dec st a b=>s64 roots C A s dec st (AO (Me hE.hr) aa2) a b) n h1 h2 h3 h4 h5 h6
def Fm:Bool:=decide (AX x=0)&&decide (Bu roots=0)
theorem wN(ifs:List (List AV))(roots:List Rq)(hx:∀r∈x,IX r)(hr:∀q∈roots,Jz q):PC 80 [.agg (Ic x ifs),sl Af roots] (vb (Fm x roots)):=by
 refine Ps (pC [2] []) Tryz.func80 rfl (Nz rfl) (yN (Xi .pure (Xi _ (Yi (sD Uh x ifs hx) (Yi (fun h1=>?_) (fun h1=>?_))))))
 .refine Xi .pure (Xi _ (Yi (vQ Uh roots hr) (Yi (fun h2=>?_) (fun h2=>?_))))
  .exact .of_eq (show vb true=vb (Fm x roots) by unfold Fm;rw[h1,h2];rfl)
  exact .of_eq (show vb false=vb (Fm x roots) by unfold Fm;rw[Au h2,Bool.and_false])
 exact .of_eq (show vb false=vb (Fm x roots) by unfold Fm;rw[Au h1];rfl)
end Go.Eng
