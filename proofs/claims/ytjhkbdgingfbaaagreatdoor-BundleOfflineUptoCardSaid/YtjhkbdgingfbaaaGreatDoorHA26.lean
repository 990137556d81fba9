/- Lemmas 26. -/
import Derived.Test.YtjhkbdgingfbaaaGreatDoorHA25
set_option maxHeartbeats 16000000
namespace Go.Eng
open Go.Proofs
variable (x:List Rl)(roots:List Rq)(C A:List (Value×AV))(n:Nat)(s:SS)(dec:List Cd)(st:List (List Sk))(p:ByteArray)(n0:Nd)(l:List Nd)(V:AV)(cs:List Cd)(R O:Kg)
theorem YE{α:Type}(o:Option α):(∃x,o=some x)\/o=none:=by
 cases o with
 |none=>exact .inr rfl
 |some x=>exact .inl ⟨x,rfl⟩
theorem yg{T st:List (List Sk)}{sk:List Sk}(h:T=st++[sk]):((T.map Bi).take ((T.length:Int)-1).toNat)=st.map Bi/\((T.length:Int)-1).toNat=st.length:=by
 have e:((T.length:Int)-1).toNat=st.length:=by rw[h,Ac,AJ];omega
 refine⟨?_,e⟩;rw[e,h,Az,FA B0,AB B0]
abbrev HV:Prop:=(∀a,(Value.string p,a)∈A->a=V)/\((∀a,(Value.string p,a)∉A)->V=nzA)/\∀h,PC 233 [vs p,str h V] (sl AO (If p (B8 x p)))
abbrev kz(n:Nd):Prop:=∀d,D4 x roots d (NT n)=some (H9 n)
structure Lvl(x:List Rl)(roots:List Rq)(C A:List (Value×AV))(n:Nat)(dec:List Cd)(p:ByteArray)(n0:Nd)(l:List Nd)(V:AV)(cs:List Cd):Prop where
 hx:Bd x=0
 hr:B5 roots=0
 hdl:dec.length<=256
 hcl:cs.length<=256
 hcs:cs=Bo x p
 hnl:(n0::l).length<9223372036854775807
 hnq:∀n∈n0::l,Cw n.rq.set
 hnp:∀n∈n0::l,A5 (n.place+1)
 hex:∀(i:Nat) (h:i<cs.length),∀nd∈n0::l,has nd.rq.set cs[i].place=false->kz x roots nd/\True
 hcx:∀(i:Nat) (h:i<cs.length) (nc:Nd),DI dec cs[i]=some nc->kz x roots nc/\True
 hcq:∀(i:Nat) (h:i<cs.length) (nc:Nd),nc∈Rn cs[i]->Cw nc.rq.set
 hcp_:∀(i:Nat) (h:i<cs.length) (nc:Nd),nc∈Rn cs[i]->A5 (nc.place+1)
 hcr:∀(i:Nat) (h:i<cs.length),cs[i].rel.reqs.length<=1073741824
 hcs_:∀(i:Nat) (h:i<cs.length),∀q∈cs[i].rel.reqs,Cw q.set
 hkey:∀(i:Nat) (h:i<cs.length),(AG dec).map Ao++[[vs p,vi cs[i].rel.ver.a,vi cs[i].rel.ver.b,vi cs[i].rel.ver.c]]=(AG (dec++[cs[i]])).map Ao
 hinf0:kz x roots n0
 hV:HV x A p V
 ih:∀c∈Bo x p,bi dec (n0::l) c=true->∀(S:SS) (En : List (List Sk)),En.length=dec.length+1->LP x roots S->S.full=false ->
  Bb Tryz.prog 123 [.ref 1000 0] (Ag (Iq roots C A S (dec++[c]) En) Ad) (bM roots C A (C3 x roots n (dec++[c]) S En))/\LP x roots (C3 x roots n (dec++[c]) S En).ss /\
  (S.drv.length<=(C3 x roots n (dec++[c]) S En).ss.drv.length/\((C3 x roots n (dec++[c]) S En).found=false->(C3 x roots n (dec++[c]) S En).ss.full=false->(C3 x roots n (dec++[c]) S En).res<(C3 x roots n (dec++[c]) S En).ss.drv.length)) /\
  ((C3 x roots n (dec++[c]) S En).found=false->(C3 x roots n (dec++[c]) S En).stack=En)
theorem Adk(hL:Lvl x roots C A n dec p n0 l V cs)(hs:LP x roots s)(Il:st.length=dec.length)(Ji:Bb Tryz.prog 132 [.ref 1000 0] (Ag (Iq roots C A s dec st) Ad) fun r h'=>r=.tup [vs p,sl A6 (n0::l)]/\h'=Ag (Iq roots C A s dec st) Ad)(hC1:∀a,(Value.string p,a)∈C->a=sl AF cs)(tu:¬∀a,(Value.string p,a)∉C)(hR:D3 (C3 x roots n) x p (n0::l) n0 dec st cs s [] []=R)(ez:O=R) :
  Bb Tryz.prog 123 [.ref 1000 0] (Ag (Iq roots C A s dec st) Ad) (bM roots C A O):=by
 obtain⟨hx,hr,hdl,hcl,hcs,hnl,hnq,hnp,hex,hcx,hcq,hcp_,hcr,hcs_,hkey,hinf0,⟨xq,xt,xu⟩,ih⟩:=hL;have xF:∀(i:Nat) (h:i<cs.length),cs[i]∈Bo x p:=fun i h=>by rw[<-hcs];exact Aq h
 have vF:∀(i:Nat) (h:i<cs.length),Cw (AG (dec++[cs[i]])):=fun i h=>by unfold Cw AG;rw[Lm,Ac];simp;omega
 clear hcs
 refine Cm (MC ⟨[9],[(6,1),(7,3),(145,1)],[],[],[],[],[],[],[(60,3),(101,3)],[(300001,500091000),(300026,500091000),(300029,500091000)],[1,5,12,15,17,21,23,24,25,26,28,29,31,32,33]⟩) [(1000,1000),(1001,1001),(1002,1002),(1003,1003),(1004,1004),(500,2000)] rfl Cu hm rfl Tryz.func123 aa0 rfl (Nz rfl) aa0 rfl (Yi (show st.length=(st.map Bi).length by simp) (cU [(0,.ref 1000 0)] [(500,.arr 1 (st.map Bi)),(1000,.cells (srM roots C A s dec 500 st.length)),(1001,.tok 6 s.infs.length),(1002,.tok 1 s.drv.length),(1003,.map Em (FO 0 s.infs)),(1004,.dead)] Z1 Z6 (Xi (.gen bL 0) (Yi rfl (Bb.imp Ji ?_)))));intro v1 g1 q1;have dA:=q1.1;have dB:=q1.2;subst dA;subst dB;refine Yi (fun h2=>?_) (fun h2=>?_)
 .exact absurd h2 (by simp;omega)
 refine cU [(0,.ref 1000 0),(4,vs p),(5,sl A6 (n0::l)),(6,.slice (.id 6 1) [])] [(6,.tok 1 0),(500,.arr 1 (st.map Bi)),(1000,.cells (srM roots C A s dec 500 st.length)),(1001,.tok 6 s.infs.length),(1002,.tok 1 s.drv.length),(1003,.map Em (FO 0 s.infs)),(1004,.dead)] Z4 Z7 (Yi (fun a ha=>?_) (fun JH=>?_))
 .have ea:=hC1 a ha;subst ea;refine Xi {q:Nat×SS×List Nat×List Sk // q.1<=cs.length/\D3 (C3 x roots n) x p (n0::l) n0 dec st (cs.drop q.1) q.2.1 q.2.2.1 q.2.2.2=R/\LP x roots q.2.1/\(∀r∈q.2.2.1,r<q.2.1.drv.length)/\q.2.2.1.length<=q.1/\q.2.2.2.length<=q.1} (Xi (fun q=>⟨[(0,.ref 1000 0),(4,vs p),(5,sl A6 (n0::l)),(6,.slice (.id 6 1) (q.1.2.2.1.map CP)),(7,.slice (.id 7 3) (q.1.2.2.2.map Cy)),(32,sl AF cs),(33,vi (cs.map AF).length),(34,vi q.1.1)],[(6,.tok 1 q.1.2.2.1.length),(7,.tok 3 q.1.2.2.2.length),(500,.arr 1 (st.map Bi)),(1000,.cells (srM roots C A q.1.2.1 dec 500 st.length)),(1001,.tok 6 q.1.2.1.infs.length),(1002,.tok 1 q.1.2.1.drv.length),(1003,.map Em (FO 0 q.1.2.1.infs)),(1004,.dead)],Ad⟩) (Xi (fun q=>cs.length-q.1.1) (Yi (Xi ⟨(0,s,[],[]),AE _,hR,hs,fun r h=>(by cases h),Ai _,Ai _⟩ ?_) ?_)))
  .exact⟨Z8,Z8,Fh,BQ aa0⟩
  intro⟨⟨i,S,rs,sk⟩,j1,j2,j3,j4,j5,j6⟩;have j5:rs.length<=i:=j5;have j6:sk.length<=i:=j6;have hw:=j3.dl;have mi:∀t∈S.drv,kw t:=fun t ht=>by have q:=j3.der.few hx hr t ht;exact⟨Fw q,q.2⟩
  refine Yi (fun h3=>?_) (fun h3=>?_)
  .have h3:(i:Int)<((cs.map AF).length:Int):=h3;have n3:=Lu h3;refine Xi (AF cs[i]) (Yi (Y4 n3) (Yi rfl (yN (yN (Yi (fun h4=>?_) (fun h4=>?_))))))
   .have eR:R=⟨0,false,S,dec,st⟩:=by rw[<-j2];exact pA n3 h4
    exact Xi _ (Yi (.refl _) (Oj (ez.trans eR)))
   have p6:=s86 (fF:=182) (caps:=[.cptr (AF cs[i])]) (fun c hc=>by obtain rfl:=Aj.1 hc;intro h;rfl) (n0::l) (fun n=>!has n.rq.set cs[i].place) (fun n hn=>s87 n cs[i] (hnq n hn)) hnl;refine BL (iD (fun n=>!has n.rq.set cs[i].place) (n0::l)) (fun h6=>?_) (fun h6=>?_)
   .refine BA h6 (fun k86 h6=>BA h6 (fun nd h6=>?_));rw[h6.1]at p6;refine Xi .pure (Xi _ (Yi p6 (cU [(0,.ref 1000 0),(4,vs p),(5,sl A6 (n0::l)),(6,.slice (.id 6 1) (rs.map CP)),(7,.slice (.id 7 3) (sk.map Cy)),(9,.ref 9 0),(10,vi (k86:Nat)),(32,sl AF cs),(33,vi (cs.map AF).length),(34,vi i)] [(6,.tok 1 rs.length),(7,.tok 3 sk.length),(9,.ro (AF cs[i])),(500,.arr 1 (st.map Bi)),(1000,.cells (srM roots C A S dec 500 st.length)),(1001,.tok 6 S.infs.length),(1002,.tok 1 S.drv.length),(1003,.map Em (FO 0 S.infs)),(1004,.dead)] Z10 Z9 (Yi (fun _=>?_) (fun hf=>absurd (show(0:Int)<=((k86:Nat):Int) by omega) hf)))));refine Xi (A6 nd) (Yi (Yi (show(0:Int)<=((k86:Nat):Int) by omega) (Ee h6.2.1)) (Yi rfl (yN ?_)));have tO:=hex i n3 nd (BP h6.2.2) (by have q:=DL h6.2.2;simpa using q);obtain⟨b1,b2,b3⟩:=j3.add (tO.1 S.drv)
    change LP x roots (BD S nd).2 at b1
    change (BD S nd).1<(BD S nd).2.drv.length at b2
    change S.drv.length<=(BD S nd).2.drv.length at b3
    refine Xi (.gen bL 0) (Yi rfl (Bb.imp (s88 roots C A S dec st nd hw.1 hw.2.1 j3.nodup (hnq nd (Av h6.2.1)) (hnp nd (Av h6.2.1))) ?_));intro v7 g7 q7;have q7a:=q7.1;have q7b:=q7.2;subst q7a;subst q7b;refine Yi (gA rfl ch Cl) (Yi (Ii i ch) ?_);have ZY:S.full=false:=by simpa using h4
    have eN:D3 (C3 x roots n) x p (n0::l) n0 dec st (cs.drop (i+1)) (BD S nd).2 (rs++[(BD S nd).1]) sk=R:=by rw[<-wW n3 ZY h6.2.2];exact j2
    refine Xi ⟨(i+1,(BD S nd).2,rs++[(BD S nd).1],sk),DY n3,eN,b1,fun r h=>(AT.1 h).elim (fun h=>Bx (j4 r h) b3) (fun h=>by rw[Aj.1 h];exact b2),(by rw[Ac];exact EI j5),Nat.le_succ_of_le j6⟩ ?_;exact⟨Dl cs.length i ch,⟨Zr,Zr,Zr,⟨(show AV.slice (.id 6 1) (rs.map CP++[[vi (((BD S nd).1:Nat):Int)]])=.slice (.id 6 1) ((rs++[(BD S nd).1]).map CP) by rw[Az];rfl),rfl⟩,Zr,Zr,Zr,Zr,Tv⟩,⟨⟨(show HO.tok 1 ((rs.map CP).length+([[vi (((BD S nd).1:Nat):Int)]]:List (List AV)).length)=.tok 1 (rs++[(BD S nd).1]).length by simp),rfl⟩,Zr,Zr,Zr,Zr,Zr,Zr,Zr,Tv⟩,Fh,BQ aa0⟩
   skip
   rw[h6.1]at p6;refine Xi .pure (Xi _ (Yi p6 (cU [(0,.ref 1000 0),(4,vs p),(5,sl A6 (n0::l)),(6,.slice (.id 6 1) (rs.map CP)),(7,.slice (.id 7 3) (sk.map Cy)),(9,.ref 9 0),(10,vi (-1)),(32,sl AF cs),(33,vi (cs.map AF).length),(34,vi i)] [(6,.tok 1 rs.length),(7,.tok 3 sk.length),(9,.ro (AF cs[i])),(500,.arr 1 (st.map Bi)),(1000,.cells (srM roots C A S dec 500 st.length)),(1001,.tok 6 S.infs.length),(1002,.tok 1 S.drv.length),(1003,.map Em (FO 0 S.infs)),(1004,.dead)] Z10 Z9 (Yi (fun h=>absurd h Cl) (fun _=>?_)))));refine Xi _ (Xi _ (Yi aa0 (Yi (wU (AG dec) (by unfold Cw AG;rw[Lm];omega)) (yN ?_))));have KK:CR 4 [[vs p,vi cs[i].rel.ver.a,vi cs[i].rel.ver.b,vi cs[i].rel.ver.c]]/\((AG dec).map Ao).length=((AG dec).map Ao).length/\(((AG dec).map Ao).length+([[vs p,vi cs[i].rel.ver.a,vi cs[i].rel.ver.b,vi cs[i].rel.ver.c]]:List (List AV)).length)*40<=140737488355328/\((AG dec).map Ao).length+([[vs p,vi cs[i].rel.ver.a,vi cs[i].rel.ver.b,vi cs[i].rel.ver.c]]:List (List AV)).length<=9223372036854775807:=⟨⟨rfl,trivial⟩,rfl,(by simp only[Lm,Al,Ax];omega),(by simp only[Lm,Al,Ax];omega)⟩;refine Yi KK (Yi aa0 (cU [(0,.ref 1000 0),(4,vs p),(5,sl A6 (n0::l)),(6,.slice (.id 6 1) (rs.map CP)),(7,.slice (.id 7 3) (sk.map Cy)),(9,.ref 9 0),(11,.slice (.id 16000 4) ((AG (dec++[cs[i]])).map Ao)),(32,sl AF cs),(33,vi (cs.map AF).length),(34,vi i)] [(6,.tok 1 rs.length),(7,.tok 3 sk.length),(9,.ro (AF cs[i])),(500,.arr 1 (st.map Bi)),(1000,.cells (srM roots C A S dec 500 st.length)),(1001,.tok 6 S.infs.length),(1002,.tok 1 S.drv.length),(1003,.map Em (FO 0 S.infs)),(1004,.dead),(16000,.tok 4 ((AG (dec++[cs[i]])).map Ao).length)] ⟨Zr,Zr,Zr,Zr,Zr,Zr,⟨(show(.slice (.id 16000 4) (((AG dec).map Ao)++[[vs p,vi cs[i].rel.ver.a,vi cs[i].rel.ver.b,vi cs[i].rel.ver.c]]):AV)=.slice (.id 16000 4) ((AG (dec++[cs[i]])).map Ao) by rw[hkey i n3]),rfl⟩,Zr,Zr,Zr,Tv⟩ ⟨Zr,Zr,Zr,Zr,Zr,Zr,Zr,Zr,Zr,⟨(show(.tok 4 (((AG dec).map Ao).length+([[vs p,vi cs[i].rel.ver.a,vi cs[i].rel.ver.b,vi cs[i].rel.ver.c]]:List (List AV)).length):HO)=.tok 4 ((AG (dec++[cs[i]])).map Ao).length by rw[<-hkey i n3,Ac]),rfl⟩,Tv⟩ ?_))
   have p7:=s89 roots C A S dec st (AG (dec++[cs[i]])) hw.2.2 mi (vF i n3);refine BL (YE (Ov S.drv (AG (dec++[cs[i]])))) (fun Ny=>?_) (fun Ny=>?_)
   .refine BA Ny (fun ke Ny=>?_);have eV:XZ S.drv (AG (dec++[cs[i]]))=.tup [vi (ke:Nat),vb true]:=by unfold XZ;rw[Ny];rfl
    rw[eV]at p7;refine Xi (.gen bL 0) (Yi rfl (Bb.imp p7 ?_));intro v12 g12 YK;have dy:=YK.1;have dz:=YK.2;subst dy;subst dz;refine yN ?_;have PH:=s69 roots C A S dec st cs[i] ch (hcr i n3) (hcs_ i n3);refine BL (YE (DI dec cs[i])) (fun xg=>?_) (fun xg=>?_)
    .refine BA xg (fun nc xg=>?_);have eW:pE (DI dec cs[i])=.tup [.agg (A6 nc),vb true]:=by rw[xg];rfl
     rw[eW]at PH;refine Xi (.gen bL 0) (Yi rfl (Bb.imp PH ?_));intro v14 g14 q14;have AcC:=q14.1;have AcD:=q14.2;subst AcC;subst AcD;refine yN (cU [(0,.ref 1000 0),(4,vs p),(5,sl A6 (n0::l)),(6,.slice (.id 6 1) (rs.map CP)),(7,.slice (.id 7 3) (sk.map Cy)),(9,.ref 9 0),(11,.slice (.id 16000 4) ((AG (dec++[cs[i]])).map Ao)),(12,vi (ke:Nat)),(13,vb true),(14,.ref 14 0),(15,vb true),(32,sl AF cs),(33,vi (cs.map AF).length),(34,vi i)] [(6,.tok 1 rs.length),(7,.tok 3 sk.length),(9,.ro (AF cs[i])),(14,.cells (A6 nc)),(500,.arr 1 (st.map Bi)),(1000,.cells (srM roots C A S dec 500 st.length)),(1001,.tok 6 S.infs.length),(1002,.tok 1 S.drv.length),(1003,.map Em (FO 0 S.infs)),(1004,.dead),(16000,.tok 4 ((AG (dec++[cs[i]])).map Ao).length)] ⟨Zr,Zr,Zr,Zr,Zr,Zr,Zr,Zr,Zr,Zr,Zr,Zr,Zr,Zr,Tv⟩ Z11 (cU [(0,.ref 1000 0),(4,vs p),(5,sl A6 (n0::l)),(6,.slice (.id 6 1) (rs.map CP)),(7,.slice (.id 7 3) (sk.map Cy)),(9,.ref 9 0),(12,vi (ke:Nat)),(32,sl AF cs),(33,vi (cs.map AF).length),(34,vi i)] [(6,.tok 1 rs.length),(7,.tok 3 sk.length),(9,.ro (AF cs[i])),(500,.arr 1 (st.map Bi)),(1000,.cells (srM roots C A S dec 500 st.length)),(1001,.tok 6 S.infs.length),(1002,.tok 1 S.drv.length),(1003,.map Em (FO 0 S.infs)),(1004,.dead)] Z10 Z9 (Xi (CG (Eo S ke)) (Yi (Yi (show(0:Int)<=((ke:Nat):Int) by omega) (Ee (E3 (Lq Ny).1))) (Yi rfl ?_)))));have ZY:S.full=false:=by simpa using h4
     have VM:ke<S.drv.length:=(Lq Ny).1;have Z0:=j3.der.few hx hr;refine BL (Bt (DZ (Eo S ke) p)) (fun xh=>?_) (fun xh=>?_)
     .refine Xi .pure (Xi _ (Yi (cb xh (o5 (Eo S ke) p (Fw (Z0 _ (Av (E3 VM)))))) (cU [(0,.ref 1000 0),(4,vs p),(5,sl A6 (n0::l)),(6,.slice (.id 6 1) (rs.map CP)),(7,.slice (.id 7 3) (sk.map Cy)),(9,.ref 9 0),(12,vi (ke:Nat)),(32,sl AF cs),(33,vi (cs.map AF).length),(34,vi i)] [(6,.tok 1 rs.length),(7,.tok 3 sk.length),(9,.ro (AF cs[i])),(500,.arr 1 (st.map Bi)),(1000,.cells (srM roots C A S dec 500 st.length)),(1001,.tok 6 S.infs.length),(1002,.tok 1 S.drv.length),(1003,.map Em (FO 0 S.infs)),(1004,.dead)] Z10 Z9 (Yi (gA rfl ch Cl) (Yi (gA rfl ch Cl) (Yi (Ii i ch) ?_))))));have eA:=(XR (rec:=C3 x roots n) (x:=x) (p:=p) (n0:=n0) (st:=st) (rs:=rs) (sk:=sk) n3 ZY h6.2 Ny);have eN:D3 (C3 x roots n) x p (n0::l) n0 dec st (cs.drop (i+1)) S (rs++[ke]) (sk++[(⟨p,cs[i].place,(ke:Nat)⟩:Sk)])=R:=by rw[<-XE (c:=cs[i]) xh,<-eA];exact j2
      refine Xi ⟨(i+1,S,rs++[ke],sk++[(⟨p,cs[i].place,(ke:Nat)⟩:Sk)]),DY n3,eN,j3,fun r h=>(AT.1 h).elim ((fun r h=>j4 r h) r) (fun h=>by rw[Aj.1 h];exact VM),(by rw[Ac];exact EI j5),(by rw[Ac];exact EI j6)⟩ ?_;exact⟨Dl cs.length i ch,⟨Zr,Zr,Zr,⟨(show AV.slice (.id 6 1) (rs.map CP++[[vi ((ke:Nat):Int)]])=.slice (.id 6 1) ((rs++[ke]).map CP) by rw[Az];rfl),rfl⟩,⟨(show AV.slice (.id 7 3) (sk.map Cy++[[vs p,vi cs[i].place,vi ((ke:Nat):Int)]])=.slice (.id 7 3) ((sk++[(⟨p,cs[i].place,(ke:Nat)⟩:Sk)]).map Cy) by rw[Az];rfl),rfl⟩,Zr,Zr,Zr,Tv⟩,⟨⟨(show HO.tok 1 ((rs.map CP).length+([[vi ((ke:Nat):Int)]]:List (List AV)).length)=.tok 1 (rs++[ke]).length by simp),rfl⟩,⟨(show HO.tok 3 ((sk.map Cy).length+([[vs p,vi cs[i].place,vi ((ke:Nat):Int)]]:List (List AV)).length)=.tok 3 (sk++[(⟨p,cs[i].place,(ke:Nat)⟩:Sk)]).length by simp),rfl⟩,Zr,Zr,Zr,Zr,Zr,Zr,Tv⟩,Fh,BQ aa0⟩
     refine Xi .pure (Xi _ (Yi (cb xh (o5 (Eo S ke) p (Fw (Z0 _ (Av (E3 VM)))))) (cU [(12,vi (ke:Nat))] [(500,.arr 1 (st.map Bi)),(1000,.cells (srM roots C A S dec 500 st.length)),(1001,.tok 6 S.infs.length),(1002,.tok 1 S.drv.length),(1003,.map Em (FO 0 S.infs)),(1004,.dead)] Z1 Z6 ?_)))
     have eA:=(XR (rec:=C3 x roots n) (x:=x) (p:=p) (n0:=n0) (st:=st) (rs:=rs) (sk:=sk) n3 ZY h6.2 Ny);have eR:R=⟨ke,false,S,dec,st⟩:=by rw[<-j2];rw[eA];exact dS xh
     exact Xi _ (Yi (.refl _) (Oj (ez.trans eR)))
    skip
    have eW:pE (DI dec cs[i])=.tup [.agg [vs ⟨#[]⟩,nzA,vs ⟨#[]⟩,vi 0,vi 0],vb false]:=by rw[xg];rfl
    rw[eW]at PH;refine Xi (.gen bL 0) (Yi rfl (Bb.imp PH ?_));intro v20 g20 q20;have AcE:=q20.1;have AcF:=q20.2;subst AcE;subst AcF;refine yN (cU [(0,.ref 1000 0),(4,vs p),(5,sl A6 (n0::l)),(6,.slice (.id 6 1) (rs.map CP)),(7,.slice (.id 7 3) (sk.map Cy)),(9,.ref 9 0),(11,.slice (.id 16000 4) ((AG (dec++[cs[i]])).map Ao)),(12,vi (ke:Nat)),(13,vb true),(14,.ref 14 0),(15,vb false),(32,sl AF cs),(33,vi (cs.map AF).length),(34,vi i)] [(6,.tok 1 rs.length),(7,.tok 3 sk.length),(9,.ro (AF cs[i])),(14,.cells [vs ⟨#[]⟩,nzA,vs ⟨#[]⟩,vi 0,vi 0]),(500,.arr 1 (st.map Bi)),(1000,.cells (srM roots C A S dec 500 st.length)),(1001,.tok 6 S.infs.length),(1002,.tok 1 S.drv.length),(1003,.map Em (FO 0 S.infs)),(1004,.dead),(16000,.tok 4 ((AG (dec++[cs[i]])).map Ao).length)] ⟨Zr,Zr,Zr,Zr,Zr,Zr,Zr,Zr,Zr,Zr,Zr,Zr,Zr,Zr,Tv⟩ Z11 (cU [(0,.ref 1000 0),(4,vs p),(5,sl A6 (n0::l)),(6,.slice (.id 6 1) (rs.map CP)),(7,.slice (.id 7 3) (sk.map Cy)),(9,.ref 9 0),(12,vi (ke:Nat)),(32,sl AF cs),(33,vi (cs.map AF).length),(34,vi i)] [(6,.tok 1 rs.length),(7,.tok 3 sk.length),(9,.ro (AF cs[i])),(500,.arr 1 (st.map Bi)),(1000,.cells (srM roots C A S dec 500 st.length)),(1001,.tok 6 S.infs.length),(1002,.tok 1 S.drv.length),(1003,.map Em (FO 0 S.infs)),(1004,.dead)] Z10 Z9 (Xi (CG (Eo S ke)) (Yi (Yi (show(0:Int)<=((ke:Nat):Int) by omega) (Ee (E3 (Lq Ny).1))) (Yi rfl ?_)))));have ZY:S.full=false:=by simpa using h4
    have VM:ke<S.drv.length:=(Lq Ny).1;have Z0:=j3.der.few hx hr;refine BL (Bt (DZ (Eo S ke) p)) (fun xi=>?_) (fun xi=>?_)
    .refine Xi .pure (Xi _ (Yi (cb xi (o5 (Eo S ke) p (Fw (Z0 _ (Av (E3 VM)))))) (cU [(0,.ref 1000 0),(4,vs p),(5,sl A6 (n0::l)),(6,.slice (.id 6 1) (rs.map CP)),(7,.slice (.id 7 3) (sk.map Cy)),(9,.ref 9 0),(12,vi (ke:Nat)),(32,sl AF cs),(33,vi (cs.map AF).length),(34,vi i)] [(6,.tok 1 rs.length),(7,.tok 3 sk.length),(9,.ro (AF cs[i])),(500,.arr 1 (st.map Bi)),(1000,.cells (srM roots C A S dec 500 st.length)),(1001,.tok 6 S.infs.length),(1002,.tok 1 S.drv.length),(1003,.map Em (FO 0 S.infs)),(1004,.dead)] Z10 Z9 (Yi (gA rfl ch Cl) (Yi (gA rfl ch Cl) (Yi (Ii i ch) ?_))))));have eA:=(XR (rec:=C3 x roots n) (x:=x) (p:=p) (n0:=n0) (st:=st) (rs:=rs) (sk:=sk) n3 ZY h6.2 Ny);have eN:D3 (C3 x roots n) x p (n0::l) n0 dec st (cs.drop (i+1)) S (rs++[ke]) (sk++[(⟨p,cs[i].place,(ke:Nat)⟩:Sk)])=R:=by rw[<-XE (c:=cs[i]) xi,<-eA];exact j2
     refine Xi ⟨(i+1,S,rs++[ke],sk++[(⟨p,cs[i].place,(ke:Nat)⟩:Sk)]),DY n3,eN,j3,fun r h=>(AT.1 h).elim ((fun r h=>j4 r h) r) (fun h=>by rw[Aj.1 h];exact VM),(by rw[Ac];exact EI j5),(by rw[Ac];exact EI j6)⟩ ?_;exact⟨Dl cs.length i ch,⟨Zr,Zr,Zr,⟨(show AV.slice (.id 6 1) (rs.map CP++[[vi ((ke:Nat):Int)]])=.slice (.id 6 1) ((rs++[ke]).map CP) by rw[Az];rfl),rfl⟩,⟨(show AV.slice (.id 7 3) (sk.map Cy++[[vs p,vi cs[i].place,vi ((ke:Nat):Int)]])=.slice (.id 7 3) ((sk++[(⟨p,cs[i].place,(ke:Nat)⟩:Sk)]).map Cy) by rw[Az];rfl),rfl⟩,Zr,Zr,Zr,Tv⟩,⟨⟨(show HO.tok 1 ((rs.map CP).length+([[vi ((ke:Nat):Int)]]:List (List AV)).length)=.tok 1 (rs++[ke]).length by simp),rfl⟩,⟨(show HO.tok 3 ((sk.map Cy).length+([[vs p,vi cs[i].place,vi ((ke:Nat):Int)]]:List (List AV)).length)=.tok 3 (sk++[(⟨p,cs[i].place,(ke:Nat)⟩:Sk)]).length by simp),rfl⟩,Zr,Zr,Zr,Zr,Zr,Zr,Tv⟩,Fh,BQ aa0⟩
    refine Xi .pure (Xi _ (Yi (cb xi (o5 (Eo S ke) p (Fw (Z0 _ (Av (E3 VM)))))) (cU [(12,vi (ke:Nat))] [(500,.arr 1 (st.map Bi)),(1000,.cells (srM roots C A S dec 500 st.length)),(1001,.tok 6 S.infs.length),(1002,.tok 1 S.drv.length),(1003,.map Em (FO 0 S.infs)),(1004,.dead)] Z1 Z6 ?_)))
    have eA:=(XR (rec:=C3 x roots n) (x:=x) (p:=p) (n0:=n0) (st:=st) (rs:=rs) (sk:=sk) n3 ZY h6.2 Ny);have eR:R=⟨ke,false,S,dec,st⟩:=by rw[<-j2];rw[eA];exact dS xi
    exact Xi _ (Yi (.refl _) (Oj (ez.trans eR)))
   skip
   have eV:XZ S.drv (AG (dec++[cs[i]]))=.tup [vi 0,vb false]:=by unfold XZ;rw[Ny];rfl
   rw[eV]at p7;refine Xi (.gen bL 0) (Yi rfl (Bb.imp p7 ?_));intro v26 g26 q26;have AcI:=q26.1;have AcJ:=q26.2;subst AcI;subst AcJ;refine yN ?_;have PH:=s69 roots C A S dec st cs[i] ch (hcr i n3) (hcs_ i n3);refine BL (YE (DI dec cs[i])) (fun YZ=>?_) (fun YZ=>?_)
   .refine BA YZ (fun nc YZ=>?_);have eW:pE (DI dec cs[i])=.tup [.agg (A6 nc),vb true]:=by rw[YZ];rfl
    rw[eW]at PH;refine Xi (.gen bL 0) (Yi rfl (Bb.imp PH ?_));intro v28 g28 q28;have AcK:=q28.1;have AcL:=q28.2;subst AcK;subst AcL;refine yN (cU [(0,.ref 1000 0),(4,vs p),(5,sl A6 (n0::l)),(6,.slice (.id 6 1) (rs.map CP)),(7,.slice (.id 7 3) (sk.map Cy)),(9,.ref 9 0),(11,.slice (.id 16000 4) ((AG (dec++[cs[i]])).map Ao)),(12,vi 0),(13,vb false),(14,.ref 14 0),(15,vb true),(32,sl AF cs),(33,vi (cs.map AF).length),(34,vi i)] [(6,.tok 1 rs.length),(7,.tok 3 sk.length),(9,.ro (AF cs[i])),(14,.cells (A6 nc)),(500,.arr 1 (st.map Bi)),(1000,.cells (srM roots C A S dec 500 st.length)),(1001,.tok 6 S.infs.length),(1002,.tok 1 S.drv.length),(1003,.map Em (FO 0 S.infs)),(1004,.dead),(16000,.tok 4 ((AG (dec++[cs[i]])).map Ao).length)] ⟨Zr,Zr,Zr,Zr,Zr,Zr,Zr,Zr,Zr,Zr,Zr,Zr,Zr,Zr,Tv⟩ Z11 (yN ?_));have tO:=hcx i n3 nc YZ;obtain⟨b1,b2,b3⟩:=j3.add (tO.1 S.drv)
    change LP x roots (BD S nc).2 at b1
    change (BD S nc).1<(BD S nc).2.drv.length at b2
    change S.drv.length<=(BD S nc).2.drv.length at b3
    refine Xi (.gen bL 0) (Yi rfl (Bb.imp (s88 roots C A S dec st nc hw.1 hw.2.1 j3.nodup (hcq i n3 nc (LZ YZ).1) (hcp_ i n3 nc (LZ YZ).1)) ?_));intro v29 g29 q29;have AcM:=q29.1;have AcN:=q29.2;subst AcM;subst AcN;refine cU [(0,.ref 1000 0),(4,vs p),(5,sl A6 (n0::l)),(6,.slice (.id 6 1) (rs.map CP)),(7,.slice (.id 7 3) (sk.map Cy)),(9,.ref 9 0),(12,vi ((BD S nc).1:Nat)),(32,sl AF cs),(33,vi (cs.map AF).length),(34,vi i)] [(6,.tok 1 rs.length),(7,.tok 3 sk.length),(9,.ro (AF cs[i])),(500,.arr 1 (st.map Bi)),(1000,.cells [sl A2 roots,.cmap Ek C,.cmap Ek A,.slice (.id 1001 6) ((BD S nc).2.infs.map CX),.slice (.id 1002 1) ((BD S nc).2.drv.map CG),.mref 1003,vb (BD S nc).2.full,sl AF dec,sl Ao (AG dec),.msl 500 st.length]),(1001,.tok 6 (BD S nc).2.infs.length),(1002,.tok 1 (BD S nc).2.drv.length),(1003,.map Em (FO 0 (BD S nc).2.infs)),(1004,.dead)] Z10 Z9 (Xi (CG (Eo (BD S nc).2 (BD S nc).1)) (Yi (Yi (show(0:Int)<=(((BD S nc).1:Nat):Int) by omega) (Ee (E3 b2))) (Yi rfl ?_)));have ZY:S.full=false:=by simpa using h4
    have VM:(BD S nc).1<(BD S nc).2.drv.length:=b2;have Z0:=b1.der.few hx hr;refine BL (Bt (DZ (Eo (BD S nc).2 (BD S nc).1) p)) (fun xj=>?_) (fun xj=>?_)
    .refine Xi .pure (Xi _ (Yi (cb xj (o5 (Eo (BD S nc).2 (BD S nc).1) p (Fw (Z0 _ (Av (E3 VM)))))) (cU [(0,.ref 1000 0),(4,vs p),(5,sl A6 (n0::l)),(6,.slice (.id 6 1) (rs.map CP)),(7,.slice (.id 7 3) (sk.map Cy)),(9,.ref 9 0),(12,vi ((BD S nc).1:Nat)),(32,sl AF cs),(33,vi (cs.map AF).length),(34,vi i)] [(6,.tok 1 rs.length),(7,.tok 3 sk.length),(9,.ro (AF cs[i])),(500,.arr 1 (st.map Bi)),(1000,.cells [sl A2 roots,.cmap Ek C,.cmap Ek A,.slice (.id 1001 6) ((BD S nc).2.infs.map CX),.slice (.id 1002 1) ((BD S nc).2.drv.map CG),.mref 1003,vb (BD S nc).2.full,sl AF dec,sl Ao (AG dec),.msl 500 st.length]),(1001,.tok 6 (BD S nc).2.infs.length),(1002,.tok 1 (BD S nc).2.drv.length),(1003,.map Em (FO 0 (BD S nc).2.infs)),(1004,.dead)] Z10 Z9 (Yi (gA rfl ch Cl) (Yi (gA rfl ch Cl) (Yi (Ii i ch) ?_))))));have eA:=(Zp (rec:=C3 x roots n) (x:=x) (p:=p) (n0:=n0) (st:=st) (rs:=rs) (sk:=sk) n3 ZY h6.2 Ny YZ);have eN:D3 (C3 x roots n) x p (n0::l) n0 dec st (cs.drop (i+1)) (BD S nc).2 (rs++[(BD S nc).1]) (sk++[(⟨p,cs[i].place,((BD S nc).1:Nat)⟩:Sk)])=R:=by rw[<-XE (c:=cs[i]) xj,<-eA];exact j2
     refine Xi ⟨(i+1,(BD S nc).2,rs++[(BD S nc).1],sk++[(⟨p,cs[i].place,((BD S nc).1:Nat)⟩:Sk)]),DY n3,eN,b1,fun r h=>(AT.1 h).elim ((fun r h=>Bx (j4 r h) b3) r) (fun h=>by rw[Aj.1 h];exact VM),(by rw[Ac];exact EI j5),(by rw[Ac];exact EI j6)⟩ ?_;exact⟨Dl cs.length i ch,⟨Zr,Zr,Zr,⟨(show AV.slice (.id 6 1) (rs.map CP++[[vi (((BD S nc).1:Nat):Int)]])=.slice (.id 6 1) ((rs++[(BD S nc).1]).map CP) by rw[Az];rfl),rfl⟩,⟨(show AV.slice (.id 7 3) (sk.map Cy++[[vs p,vi cs[i].place,vi (((BD S nc).1:Nat):Int)]])=.slice (.id 7 3) ((sk++[(⟨p,cs[i].place,((BD S nc).1:Nat)⟩:Sk)]).map Cy) by rw[Az];rfl),rfl⟩,Zr,Zr,Zr,Tv⟩,⟨⟨(show HO.tok 1 ((rs.map CP).length+([[vi (((BD S nc).1:Nat):Int)]]:List (List AV)).length)=.tok 1 (rs++[(BD S nc).1]).length by simp),rfl⟩,⟨(show HO.tok 3 ((sk.map Cy).length+([[vs p,vi cs[i].place,vi (((BD S nc).1:Nat):Int)]]:List (List AV)).length)=.tok 3 (sk++[(⟨p,cs[i].place,((BD S nc).1:Nat)⟩:Sk)]).length by simp),rfl⟩,Zr,Zr,Zr,Zr,Zr,Zr,Tv⟩,Fh,BQ aa0⟩
    refine Xi .pure (Xi _ (Yi (cb xj (o5 (Eo (BD S nc).2 (BD S nc).1) p (Fw (Z0 _ (Av (E3 VM)))))) (cU [(12,vi ((BD S nc).1:Nat))] [(500,.arr 1 (st.map Bi)),(1000,.cells [sl A2 roots,.cmap Ek C,.cmap Ek A,.slice (.id 1001 6) ((BD S nc).2.infs.map CX),.slice (.id 1002 1) ((BD S nc).2.drv.map CG),.mref 1003,vb (BD S nc).2.full,sl AF dec,sl Ao (AG dec),.msl 500 st.length]),(1001,.tok 6 (BD S nc).2.infs.length),(1002,.tok 1 (BD S nc).2.drv.length),(1003,.map Em (FO 0 (BD S nc).2.infs)),(1004,.dead)] Z1 Z6 ?_)))
    have eA:=(Zp (rec:=C3 x roots n) (x:=x) (p:=p) (n0:=n0) (st:=st) (rs:=rs) (sk:=sk) n3 ZY h6.2 Ny YZ);have eR:R=⟨(BD S nc).1,false,(BD S nc).2,dec,st⟩:=by rw[<-j2];rw[eA];exact dS xj
    exact Xi _ (Yi (.refl _) (Oj (ez.trans eR)))
   skip
   have eW:pE (DI dec cs[i])=.tup [.agg [vs ⟨#[]⟩,nzA,vs ⟨#[]⟩,vi 0,vi 0],vb false]:=by rw[YZ];rfl
   rw[eW]at PH;refine Xi (.gen bL 0) (Yi rfl (Bb.imp PH ?_));intro v35 g35 q35;have AcQ:=q35.1;have AcR:=q35.2;subst AcQ;subst AcR;refine yN (cU [(0,.ref 1000 0),(4,vs p),(5,sl A6 (n0::l)),(6,.slice (.id 6 1) (rs.map CP)),(7,.slice (.id 7 3) (sk.map Cy)),(9,.ref 9 0),(11,.slice (.id 16000 4) ((AG (dec++[cs[i]])).map Ao)),(12,vi 0),(13,vb false),(14,.ref 14 0),(15,vb false),(32,sl AF cs),(33,vi (cs.map AF).length),(34,vi i)] [(6,.tok 1 rs.length),(7,.tok 3 sk.length),(9,.ro (AF cs[i])),(14,.cells [vs ⟨#[]⟩,nzA,vs ⟨#[]⟩,vi 0,vi 0]),(500,.arr 1 (st.map Bi)),(1000,.cells (srM roots C A S dec 500 st.length)),(1001,.tok 6 S.infs.length),(1002,.tok 1 S.drv.length),(1003,.map Em (FO 0 S.infs)),(1004,.dead),(16000,.tok 4 ((AG (dec++[cs[i]])).map Ao).length)] ⟨Zr,Zr,Zr,Zr,Zr,Zr,Zr,Zr,Zr,Zr,Zr,Zr,Zr,Zr,Tv⟩ Z11 (Yi aa0 (cU [(0,.ref 1000 0),(4,vs p),(5,sl A6 (n0::l)),(6,.slice (.id 6 1) (rs.map CP)),(7,.slice (.id 7 3) (sk.map Cy)),(9,.ref 9 0),(11,.slice (.id 16000 4) ((AG (dec++[cs[i]])).map Ao)),(16,sl AF dec),(17,sl Ao (AG dec)),(32,sl AF cs),(33,vi (cs.map AF).length),(34,vi i)] [(6,.tok 1 rs.length),(7,.tok 3 sk.length),(9,.ro (AF cs[i])),(500,.arr 1 (st.map Bi)),(1000,.cells (srM roots C A S dec 500 st.length)),(1001,.tok 6 S.infs.length),(1002,.tok 1 S.drv.length),(1003,.map Em (FO 0 S.infs)),(1004,.dead),(16000,.tok 4 ((AG (dec++[cs[i]])).map Ao).length)] Z12 Z10 (Xi _ (Xi _ (Yi aa0 (Yi (uV dec (by unfold Cw;omega)) (yN ?_))))))));have b36:CR 10 [(AF cs[i])]/\(dec.map AF).length=(dec.map AF).length/\((dec.map AF).length+([(AF cs[i])]:List (List AV)).length)*128<=140737488355328/\(dec.map AF).length+([(AF cs[i])]:List (List AV)).length<=9223372036854775807:=⟨⟨rfl,trivial⟩,rfl,(by simp only[Lm,Al,Ax];omega),(by simp only[Lm,Al,Ax];omega)⟩;refine Yi b36 (yN (yN (Yi aa0 ?_)));have b37:CR 1 [[sl Cy sk]]/\(st.map Bi).length=st.length/\((st.map Bi).length+([[sl Cy sk]]:List (List AV)).length)*24<=140737488355328/\(st.map Bi).length+([[sl Cy sk]]:List (List AV)).length<=9223372036854775807:=⟨⟨rfl,trivial⟩,(by rw[Lm]),(by simp only[Lm,Al,Ax];omega),(by simp only[Lm,Al,Ax];omega)⟩;refine Yi b37 (yN (cU [(0,.ref 1000 0),(4,vs p),(5,sl A6 (n0::l)),(6,.slice (.id 6 1) (rs.map CP)),(7,.slice (.id 7 3) (sk.map Cy)),(9,.ref 9 0),(16,sl AF dec),(17,sl Ao (AG dec)),(32,sl AF cs),(33,vi (cs.map AF).length),(34,vi i)] [(6,.tok 1 rs.length),(7,.tok 3 sk.length),(9,.ro (AF cs[i])),(500,.arr 1 ((st.map Bi)++[[sl Cy sk]])),(1000,.cells [sl A2 roots,.cmap Ek C,.cmap Ek A,.slice (.id 1001 6) (S.infs.map CX),.slice (.id 1002 1) (S.drv.map CG),.mref 1003,vb S.full,.slice (.id 20100 10) ((dec.map AF)++[(AF cs[i])]),.slice (.id 16000 4) ((AG (dec++[cs[i]])).map Ao),.msl 500 ((st.map Bi).length+([[sl Cy sk]]:List (List AV)).length)]),(1001,.tok 6 S.infs.length),(1002,.tok 1 S.drv.length),(1003,.map Em (FO 0 S.infs)),(1004,.dead),(16000,.tok 4 ((AG (dec++[cs[i]])).map Ao).length),(20100,.tok 10 ((dec.map AF).length+([(AF cs[i])]:List (List AV)).length))] Z11 Z11 (cU [(0,.ref 1000 0),(4,vs p),(5,sl A6 (n0::l)),(6,.slice (.id 6 1) (rs.map CP)),(7,.slice (.id 7 3) (sk.map Cy)),(9,.ref 9 0),(16,sl AF dec),(17,sl Ao (AG dec)),(32,sl AF cs),(33,vi (cs.map AF).length),(34,vi i)] [(6,.tok 1 rs.length),(7,.tok 3 sk.length),(9,.ro (AF cs[i])),(500,.arr 1 ((st++[sk]).map Bi)),(1000,.cells [sl A2 roots,.cmap Ek C,.cmap Ek A,.slice (.id 1001 6) (S.infs.map CX),.slice (.id 1002 1) (S.drv.map CG),.mref 1003,vb S.full,.slice (.id 20100 10) ((dec++[cs[i]]).map AF),.slice (.id 16000 4) ((AG (dec++[cs[i]])).map Ao),.msl 500 (st++[sk]).length]),(1001,.tok 6 S.infs.length),(1002,.tok 1 S.drv.length),(1003,.map Em (FO 0 S.infs)),(1004,.dead),(16000,.tok 4 ((AG (dec++[cs[i]])).map Ao).length),(20100,.tok 10 ((dec++[cs[i]]).map AF).length)] Z11 ⟨Zr,Zr,Zr,⟨(show(.arr 1 ((st.map Bi)++[[sl Cy sk]]):HO)=.arr 1 ((st++[sk]).map Bi) by simp),rfl⟩,⟨(show(.cells [sl A2 roots,.cmap Ek C,.cmap Ek A,.slice (.id 1001 6) (S.infs.map CX),.slice (.id 1002 1) (S.drv.map CG),.mref 1003,vb S.full,.slice (.id 20100 10) ((dec.map AF)++[(AF cs[i])]),.slice (.id 16000 4) ((AG (dec++[cs[i]])).map Ao),.msl 500 ((st.map Bi).length+([[sl Cy sk]]:List (List AV)).length)]:HO)=.cells [sl A2 roots,.cmap Ek C,.cmap Ek A,.slice (.id 1001 6) (S.infs.map CX),.slice (.id 1002 1) (S.drv.map CG),.mref 1003,vb S.full,.slice (.id 20100 10) ((dec++[cs[i]]).map AF),.slice (.id 16000 4) ((AG (dec++[cs[i]])).map Ao),.msl 500 (st++[sk]).length] by simp),rfl⟩,Zr,Zr,Zr,Zr,Zr,⟨(show(.tok 10 ((dec.map AF).length+([(AF cs[i])]:List (List AV)).length):HO)=.tok 10 ((dec++[cs[i]]).map AF).length by simp),rfl⟩,Tv⟩ ?_)))
   have FY:bi dec (n0::l) cs[i]=true:=KD.2 ⟨fun n hn=>by have q:=EE.1 h6.2 n hn;simpa using q,YZ⟩;have eO:=ih cs[i] (xF i n3) FY S (st++[sk]) (by simp[Il]) j3 (by simpa using h4);refine BA (show ∃o,o=C3 x roots n (dec++[cs[i]]) S (st++[sk])from⟨_,rfl⟩) (fun o ho=>?_);rw[<-ho]at eO;have qk:Bb Tryz.prog 123 [.ref 1000 0] (Ag (Iq roots C A S (dec++[cs[i]]) (st++[sk])) Ad) (fun r h'=>r=.tup [vi (o.res:Nat),vb o.found]/\h'=Ag (srE roots C A o.ss o.dec o.stack) Ad):=eO.1;have zS:=eO.2.1;have hrn:=eO.2.2.1;refine BL (Bt o.found) (fun oN=>?_) (fun oN=>?_)
   .skip
    rw[oN]at qk;refine Xi (.gen bL 1) (Yi rfl (Bb.imp qk ?_));intro v39 g39 q39;have AcS:=q39.1;have AcT:=q39.2;subst AcS;subst AcT;refine cU [(0,.ref 1000 0),(4,vs p),(5,sl A6 (n0::l)),(6,.slice (.id 6 1) (rs.map CP)),(7,.slice (.id 7 3) (sk.map Cy)),(9,.ref 9 0),(12,vi (o.res:Nat)),(16,sl AF dec),(17,sl Ao (AG dec)),(18,vb true),(32,sl AF cs),(33,vi (cs.map AF).length),(34,vi i)] [(6,.tok 1 rs.length),(7,.tok 3 sk.length),(9,.ro (AF cs[i])),(1000,.cells (srM roots C A o.ss o.dec 22200 o.stack.length)),(1001,.tok 6 o.ss.infs.length),(1002,.tok 1 o.ss.drv.length),(1003,.map Em (FO 0 o.ss.infs)),(1004,.dead),(22200,.arr 1 (o.stack.map Bi))] Z13 Z9 (Yi (show o.stack.length=(o.stack.map Bi).length by simp) (cU [] [(500,.arr 1 (o.stack.map Bi)),(1000,.cells (srM roots C A o.ss o.dec 500 o.stack.length)),(1001,.tok 6 o.ss.infs.length),(1002,.tok 1 o.ss.drv.length),(1003,.map Em (FO 0 o.ss.infs)),(1004,.dead)] Tv Z6 ?_))
    have ZY:S.full=false:=by simpa using h4
    have eR:R=⟨0,true,o.ss,o.dec,o.stack⟩:=by rw[<-j2];rw[XS (sk:=sk) n3 ZY h6.2 Ny YZ ho,As oN]
    exact Xi _ (Yi (.refl _) (Oj (ez.trans eR)))
   skip
   rw[oN]at qk;have hrk:=eO.2.2.2 oN;have Vw:o.stack.length=st.length+1:=by rw[hrk];simp
   refine Xi (.gen bL 1) (Yi rfl (Bb.imp qk ?_));intro kq g41 v8;have AcW:=v8.1;have AcX:=v8.2;subst AcW;subst AcX;refine cU [(0,.ref 1000 0),(4,vs p),(5,sl A6 (n0::l)),(6,.slice (.id 6 1) (rs.map CP)),(7,.slice (.id 7 3) (sk.map Cy)),(9,.ref 9 0),(12,vi (o.res:Nat)),(16,sl AF dec),(17,sl Ao (AG dec)),(18,vb false),(32,sl AF cs),(33,vi (cs.map AF).length),(34,vi i)] [(6,.tok 1 rs.length),(7,.tok 3 sk.length),(9,.ro (AF cs[i])),(1000,.cells (srM roots C A o.ss o.dec 22200 o.stack.length)),(1001,.tok 6 o.ss.infs.length),(1002,.tok 1 o.ss.drv.length),(1003,.map Em (FO 0 o.ss.infs)),(1004,.dead),(22200,.arr 1 (o.stack.map Bi))] Z13 Z9 (yN (yN (cU [(0,.ref 1000 0),(4,vs p),(5,sl A6 (n0::l)),(6,.slice (.id 6 1) (rs.map CP)),(7,.slice (.id 7 3) (sk.map Cy)),(9,.ref 9 0),(12,vi (o.res:Nat)),(32,sl AF cs),(33,vi (cs.map AF).length),(34,vi i)] [(6,.tok 1 rs.length),(7,.tok 3 sk.length),(9,.ro (AF cs[i])),(1000,.cells (srM roots C A o.ss dec 22200 o.stack.length)),(1001,.tok 6 o.ss.infs.length),(1002,.tok 1 o.ss.drv.length),(1003,.map Em (FO 0 o.ss.infs)),(1004,.dead),(22200,.arr 1 (o.stack.map Bi))] Z10 Z9 (Yi (by show A5 ((o.stack.length:Int)-(1:Int));unfold A5;omega) (Yi ⟨(show o.stack.length=(o.stack.map Bi).length by simp),(show(0:Int)<=o.stack.length-1 by omega),(show(o.stack.length-1:Int)<=((o.stack.map Bi).length:Nat) by rw[Lm];omega)⟩ (yN (Yi aa0 (Yi (show(o.stack.length-1:Int).toNat=(((o.stack.map Bi).take (o.stack.length-1:Int).toNat):List (List AV)).length by simp) ?_))))))));have yf:((o.stack.map Bi).take ((o.stack.length:Int)-1).toNat)=st.map Bi/\((o.stack.length:Int)-1).toNat=st.length:=yg hrk;refine cU [(0,.ref 1000 0),(4,vs p),(5,sl A6 (n0::l)),(6,.slice (.id 6 1) (rs.map CP)),(7,.slice (.id 7 3) (sk.map Cy)),(9,.ref 9 0),(12,vi (o.res:Nat)),(32,sl AF cs),(33,vi (cs.map AF).length),(34,vi i)] [(6,.tok 1 rs.length),(7,.tok 3 sk.length),(9,.ro (AF cs[i])),(500,.arr 1 (st.map Bi)),(1000,.cells (srM roots C A o.ss dec 500 st.length)),(1001,.tok 6 o.ss.infs.length),(1002,.tok 1 o.ss.drv.length),(1003,.map Em (FO 0 o.ss.infs)),(1004,.dead)] Z10 ⟨Zr,Zr,Zr,⟨(show(.arr 1 ((o.stack.map Bi).take (o.stack.length-1:Int).toNat):HO)=.arr 1 (st.map Bi) by rw[yf.1]),rfl⟩,⟨(show(.cells (srM roots C A o.ss dec 500 (o.stack.length-1:Int).toNat):HO)=.cells (srM roots C A o.ss dec 500 st.length) by rw[yf.2]),rfl⟩,Zr,Zr,Zr,Zr,Tv⟩ ?_
   refine Yi (fun h42=>?_) (fun h42=>?_)
   .have ZY:S.full=false:=by simpa using h4
    have eR:R=⟨0,false,o.ss,dec,st⟩:=by rw[<-j2];rw[XS (sk:=sk) n3 ZY h6.2 Ny YZ ho,Ah (by rw[oN];decide),As h42]
    exact Xi _ (Yi (.refl _) (Oj (ez.trans eR)))
   have Sa:o.ss.full=false:=h42;refine cU [(0,.ref 1000 0),(4,vs p),(5,sl A6 (n0::l)),(6,.slice (.id 6 1) (rs.map CP)),(7,.slice (.id 7 3) (sk.map Cy)),(9,.ref 9 0),(12,vi (o.res:Nat)),(32,sl AF cs),(33,vi (cs.map AF).length),(34,vi i)] [(6,.tok 1 rs.length),(7,.tok 3 sk.length),(9,.ro (AF cs[i])),(500,.arr 1 (st.map Bi)),(1000,.cells (srM roots C A o.ss dec 500 st.length)),(1001,.tok 6 o.ss.infs.length),(1002,.tok 1 o.ss.drv.length),(1003,.map Em (FO 0 o.ss.infs)),(1004,.dead)] Z10 Z9 (Xi (CG (Eo o.ss o.res)) (Yi (Yi (show(0:Int)<=((o.res:Nat):Int) by omega) (Ee (E3 (hrn.2 oN Sa)))) (Yi rfl ?_)));have ZY:S.full=false:=by simpa using h4
   have VM:o.res<o.ss.drv.length:=(hrn.2 oN Sa);have Z0:=zS.der.few hx hr;refine BL (Bt (DZ (Eo o.ss o.res) p)) (fun xk=>?_) (fun xk=>?_)
   .refine Xi .pure (Xi _ (Yi (cb xk (o5 (Eo o.ss o.res) p (Fw (Z0 _ (Av (E3 VM)))))) (cU [(0,.ref 1000 0),(4,vs p),(5,sl A6 (n0::l)),(6,.slice (.id 6 1) (rs.map CP)),(7,.slice (.id 7 3) (sk.map Cy)),(9,.ref 9 0),(12,vi (o.res:Nat)),(32,sl AF cs),(33,vi (cs.map AF).length),(34,vi i)] [(6,.tok 1 rs.length),(7,.tok 3 sk.length),(9,.ro (AF cs[i])),(500,.arr 1 (st.map Bi)),(1000,.cells (srM roots C A o.ss dec 500 st.length)),(1001,.tok 6 o.ss.infs.length),(1002,.tok 1 o.ss.drv.length),(1003,.map Em (FO 0 o.ss.infs)),(1004,.dead)] Z10 Z9 (Yi (gA rfl ch Cl) (Yi (gA rfl ch Cl) (Yi (Ii i ch) ?_))))));have eA:=(XS (rec:=C3 x roots n) (x:=x) (p:=p) (n0:=n0) (st:=st) (rs:=rs) (sk:=sk) n3 ZY h6.2 Ny YZ ho);rw[Ah (by rw[oN];decide),Ah (by rw[Sa];decide)]at eA;have eN:D3 (C3 x roots n) x p (n0::l) n0 dec st (cs.drop (i+1)) o.ss (rs++[o.res]) (sk++[(⟨p,cs[i].place,(o.res:Nat)⟩:Sk)])=R:=by rw[<-XE (c:=cs[i]) xk,<-eA];exact j2
    refine Xi ⟨(i+1,o.ss,rs++[o.res],sk++[(⟨p,cs[i].place,(o.res:Nat)⟩:Sk)]),DY n3,eN,zS,fun r h=>(AT.1 h).elim ((fun r h=>Bx (j4 r h) hrn.1) r) (fun h=>by rw[Aj.1 h];exact VM),(by rw[Ac];exact EI j5),(by rw[Ac];exact EI j6)⟩ ?_;exact⟨Dl cs.length i ch,⟨Zr,Zr,Zr,⟨(show AV.slice (.id 6 1) (rs.map CP++[[vi ((o.res:Nat):Int)]])=.slice (.id 6 1) ((rs++[o.res]).map CP) by rw[Az];rfl),rfl⟩,⟨(show AV.slice (.id 7 3) (sk.map Cy++[[vs p,vi cs[i].place,vi ((o.res:Nat):Int)]])=.slice (.id 7 3) ((sk++[(⟨p,cs[i].place,(o.res:Nat)⟩:Sk)]).map Cy) by rw[Az];rfl),rfl⟩,Zr,Zr,Zr,Tv⟩,⟨⟨(show HO.tok 1 ((rs.map CP).length+([[vi ((o.res:Nat):Int)]]:List (List AV)).length)=.tok 1 (rs++[o.res]).length by simp),rfl⟩,⟨(show HO.tok 3 ((sk.map Cy).length+([[vs p,vi cs[i].place,vi ((o.res:Nat):Int)]]:List (List AV)).length)=.tok 3 (sk++[(⟨p,cs[i].place,(o.res:Nat)⟩:Sk)]).length by simp),rfl⟩,Zr,Zr,Zr,Zr,Zr,Zr,Tv⟩,Fh,BQ aa0⟩
   refine Xi .pure (Xi _ (Yi (cb xk (o5 (Eo o.ss o.res) p (Fw (Z0 _ (Av (E3 VM)))))) (cU [(12,vi (o.res:Nat))] [(500,.arr 1 (st.map Bi)),(1000,.cells (srM roots C A o.ss dec 500 st.length)),(1001,.tok 6 o.ss.infs.length),(1002,.tok 1 o.ss.drv.length),(1003,.map Em (FO 0 o.ss.infs)),(1004,.dead)] Z1 Z6 ?_)))
   have eA:=(XS (rec:=C3 x roots n) (x:=x) (p:=p) (n0:=n0) (st:=st) (rs:=rs) (sk:=sk) n3 ZY h6.2 Ny YZ ho);rw[Ah (by rw[oN];decide),Ah (by rw[Sa];decide)]at eA;have eR:R=⟨o.res,false,o.ss,dec,st⟩:=by rw[<-j2];rw[eA];exact dS xk
   exact Xi _ (Yi (.refl _) (Oj (ez.trans eR)))
  have n3:=Ip h3;refine Xi (A6 n0) (Yi (Yi (show(0:Int)<=0 by decide) rfl) (Yi rfl (yN (Xi (.gen bL 0) (Yi rfl (Bb.imp (s91 x roots C A S dec st p n0 rs V hx hr j3 hinf0 j4 ch (hnq n0 (Ab ..)) (hnp n0 (Ab ..)) xq xt xu) ?_))))));intro v49 g49 q49;have AcY:=q49.1;have AcZ:=q49.2;subst AcY;subst AcZ;have hj:¬i<cs.length:=by have q:=h3;rw[Lm]at q;omega
  have eR:R=⟨(DT x p n0 rs S).1,false,(DT x p n0 rs S).2,dec,st⟩:=by rw[<-j2];exact lm hj
  exact Xi _ (Yi (.refl _) (Oj (ez.trans eR)))
 exact absurd JH tu
theorem Adl(hL:Lvl x roots C A n dec p n0 l V cs)(hs:LP x roots s)(Il:st.length=dec.length)(Ji:Bb Tryz.prog 132 [.ref 1000 0] (Ag (Iq roots C A s dec st) Ad) fun r h'=>r=.tup [vs p,sl A6 (n0::l)]/\h'=Ag (Iq roots C A s dec st) Ad)(ik:cs=[])(tu:∀a,(Value.string p,a)∉C)(hR:D3 (C3 x roots n) x p (n0::l) n0 dec st cs s [] []=R)(ez:O=R) :
  Bb Tryz.prog 123 [.ref 1000 0] (Ag (Iq roots C A s dec st) Ad) (bM roots C A O):=by
 obtain⟨hx,hr,hdl,hcl,hcs,hnl,hnq,hnp,hex,hcx,hcq,hcp_,hcr,hcs_,hkey,hinf0,⟨xq,xt,xu⟩,ih⟩:=hL;have xF:∀(i:Nat) (h:i<cs.length),cs[i]∈Bo x p:=fun i h=>by rw[<-hcs];exact Aq h
 have vF:∀(i:Nat) (h:i<cs.length),Cw (AG (dec++[cs[i]])):=fun i h=>by unfold Cw AG;rw[Lm,Ac];simp;omega
 clear hcs
 refine Cm (MC ⟨[9],[(6,1),(7,3),(145,1)],[],[],[],[],[],[],[],[(300001,500091000),(300026,500091000),(300029,500091000)],[1,2,5,10,11,13,14,15,16,17,19,21,22,23,24,25,26,28,29,31,32,33,35]⟩) [(1000,1000),(1001,1001),(1002,1002),(1003,1003),(1004,1004),(500,2000)] rfl Cu hm rfl Tryz.func123 aa0 rfl (Nz rfl) aa0 rfl (Yi (show st.length=(st.map Bi).length by simp) (cU [(0,.ref 1000 0)] [(500,.arr 1 (st.map Bi)),(1000,.cells (srM roots C A s dec 500 st.length)),(1001,.tok 6 s.infs.length),(1002,.tok 1 s.drv.length),(1003,.map Em (FO 0 s.infs)),(1004,.dead)] Z1 Z6 (Xi (.gen bL 0) (Yi rfl (Bb.imp Ji ?_)))));intro v1 g1 q1;have dA:=q1.1;have dB:=q1.2;subst dA;subst dB;refine cU [(0,.ref 1000 0),(4,vs p),(5,sl A6 (n0::l))] [(500,.arr 1 (st.map Bi)),(1000,.cells (srM roots C A s dec 500 st.length)),(1001,.tok 6 s.infs.length),(1002,.tok 1 s.drv.length),(1003,.map Em (FO 0 s.infs)),(1004,.dead)] Z3 Z6 (Yi (fun h2=>?_) (fun h2=>?_))
 .exact absurd h2 (by simp;omega)
 refine cU [(0,.ref 1000 0),(4,vs p),(5,sl A6 (n0::l)),(6,.slice (.id 6 1) [])] [(6,.tok 1 0),(500,.arr 1 (st.map Bi)),(1000,.cells (srM roots C A s dec 500 st.length)),(1001,.tok 6 s.infs.length),(1002,.tok 1 s.drv.length),(1003,.map Em (FO 0 s.infs)),(1004,.dead)] Z4 Z7 (Yi (fun a ha=>?_) (fun JH=>?_))
 .exact absurd ha (tu a)
 refine Xi {q:Nat×SS×List Nat×List Sk // q.1<=cs.length/\D3 (C3 x roots n) x p (n0::l) n0 dec st (cs.drop q.1) q.2.1 q.2.2.1 q.2.2.2=R/\LP x roots q.2.1/\(∀r∈q.2.2.1,r<q.2.1.drv.length)/\q.2.2.1.length<=q.1/\q.2.2.2.length<=q.1} (Xi (fun q=>⟨[(0,.ref 1000 0),(4,vs p),(5,sl A6 (n0::l)),(6,.slice (.id 6 1) (q.1.2.2.1.map CP)),(7,.slice (.id 7 3) (q.1.2.2.2.map Cy)),(32,nzA),(33,vi 0),(34,vi q.1.1)],[(6,.tok 1 q.1.2.2.1.length),(7,.tok 3 q.1.2.2.2.length),(500,.arr 1 (st.map Bi)),(1000,.cells (srM roots C A q.1.2.1 dec 500 st.length)),(1001,.tok 6 q.1.2.1.infs.length),(1002,.tok 1 q.1.2.1.drv.length),(1003,.map Em (FO 0 q.1.2.1.infs)),(1004,.dead)],Ad⟩) (Xi (fun q=>cs.length-q.1.1) (Yi (Xi ⟨(0,s,[],[]),AE _,hR,hs,fun r h=>(by cases h),Ai _,Ai _⟩ ?_) ?_)))
 .exact⟨Z8,Z8,Fh,BQ aa0⟩
 intro⟨⟨i,S,rs,sk⟩,j1,j2,j3,j4,j5,j6⟩;have j5:rs.length<=i:=j5;have hw:=j3.dl;have mi:∀t∈S.drv,kw t:=fun t ht=>by have q:=j3.der.few hx hr t ht;exact⟨Fw q,q.2⟩
 refine Yi (fun h3=>?_) (fun h3=>?_)
 .have h3:(i:Int)<(0:Int):=h3;exact absurd h3 (by have q:=j1;rw[ik,Ax]at q;omega)
 have h3:¬((i:Int)<(0:Int)):=h3;refine Xi (A6 n0) (Yi (Yi (show(0:Int)<=0 by decide) rfl) (Yi rfl (yN (Xi (.gen bL 0) (Yi rfl (Bb.imp (s91 x roots C A S dec st p n0 rs V hx hr j3 hinf0 j4 ch (hnq n0 (Ab ..)) (hnp n0 (Ab ..)) xq xt xu) ?_))))));intro v4 g4 q4;have yI:=q4.1;have yJ:=q4.2;subst yI;subst yJ;have hj:¬i<cs.length:=by rw[ik];simp
 have eR:R=⟨(DT x p n0 rs S).1,false,(DT x p n0 rs S).2,dec,st⟩:=by rw[<-j2];exact lm hj
 exact Xi _ (Yi (.refl _) (Oj (ez.trans eR)))
theorem Adn(N:List Nd)(O:Kg)(hN:N=[])(Ji:Bb Tryz.prog 132 [.ref 1000 0] (Ag (Iq roots C A s dec st) Ad) fun r h'=>r=.tup [vs p,sl A6 N]/\h'=Ag (Iq roots C A s dec st) Ad)(hO:O=⟨0,true,s,dec,st⟩) :
  Bb Tryz.prog 123 [.ref 1000 0] (Ag (Iq roots C A s dec st) Ad) (bM roots C A O):=by
 refine Cm (MC ⟨[],[],[],[],[],[],[],[],[],[(300001,500091000)],[1,2,5,10,11,13,14,15,16,17,19,21,22,23,25,28,29,31,32,33,35]⟩) [(1000,1000),(1001,1001),(1002,1002),(1003,1003),(1004,1004),(500,2000)] rfl Cu hm rfl Tryz.func123 aa0 rfl (Nz rfl) aa0 rfl (Yi (show st.length=(st.map Bi).length by simp) (cU [(0,.ref 1000 0)] [(500,.arr 1 (st.map Bi)),(1000,.cells (srM roots C A s dec 500 st.length)),(1001,.tok 6 s.infs.length),(1002,.tok 1 s.drv.length),(1003,.map Em (FO 0 s.infs)),(1004,.dead)] Z1 Z6 (Xi (.gen bL 0) (Yi rfl (Bb.imp Ji ?_)))));intro v1 g1 q1;have dA:=q1.1;have dB:=q1.2;subst dA;subst dB;refine cU [(0,.ref 1000 0),(4,vs p),(5,sl A6 N)] [(500,.arr 1 (st.map Bi)),(1000,.cells (srM roots C A s dec 500 st.length)),(1001,.tok 6 s.infs.length),(1002,.tok 1 s.drv.length),(1003,.map Em (FO 0 s.infs)),(1004,.dead)] Z3 Z6 (Yi (fun h2=>?_) (fun h2=>?_))
 .exact Xi _ (Yi (.refl _) (Oj (st:=st) hO))
 exact absurd (by rw[hN];rfl) h2
section
variable {x:List Rl}{roots:List Rq}{p:ByteArray}
theorem IP:∀(l:List Nat) {k:Nat} {s:SS},s.infs.Nodup->(Cj p l k s).2.infs.Nodup
 | [],_,_,h=>h
 |r::l,k,s,h=>by
  unfold Cj;split
  .exact h
  split
  .exact IP l h
  split
  .exact IP l h
  .exact IP l (Ix h)
theorem LV{needs:List Nd}{n0:Nd}{dec:List Cd}{st:List (List Sk)}{rec:List Cd->SS->List (List Sk)->Kg}(QP:∀c s st,s.infs.Nodup->(rec (dec++[c]) s st).ss.infs.Nodup) :
  ∀(cs:List Cd) {s:SS} {rs:List Nat} {sk:List Sk},s.infs.Nodup->(D3 rec x p needs n0 dec st cs s rs sk).ss.infs.Nodup
 | [],s,rs,sk,h=>IP _ (Ix (Ix h))
 |c::cs,s,rs,sk,h=>by
  have kE:∀(s' : SS) (k:Nat),s'.infs.Nodup->(IY rec x p needs n0 dec st c cs rs sk k s').ss.infs.Nodup:=fun s' k h'=>by
   unfold IY;split
   .exact h'
   .exact LV QP cs h'
  rw[Ga];split
  .exact h
  cases needs.find? fun n=>!has n.rq.set c.place with
  |some n=>exact LV QP cs (Ix h)
  |none=>
   dsimp only;cases Ov s.drv (AG (dec++[c]))with
   |some k=>exact kE s k h
   |none=>
    dsimp only;cases DI dec c with
    |some n=>exact kE _ _ (Ix h)
    |none=>
     dsimp only;have h2:=QP c s (st++[sk]) h;split
     .exact h2
     split
     .exact h2
     .exact kE _ _ h2
theorem Qg:∀(n:Nat) {dec:List Cd} {s:SS} {st:List (List Sk)},s.infs.Nodup->(C3 x roots n dec s st).ss.infs.Nodup
 |0,_,_,_,h=>h
 |n+1,dec,s,st,h=>by
  unfold C3;cases (D6 roots dec).2 with
  |nil=>exact h
  |cons n0 l=>exact LV (fun c s st h=>Qg n h) _ h
structure wg(x:List Rl)(roots:List Rq)(C A:List (Value×AV)):Prop where
 hx:Bd x=0
 hr:B5 roots=0
 fx:∀r∈x,Jw r
 fr:∀q∈roots,NQ q
 c1:∀(p:ByteArray) (a:AV),(Value.string p,a)∈C->a=sl AF (Bo x p)
 c2:∀p:ByteArray,(∀a,(Value.string p,a)∉C)->Bo x p=[]
 c3:∀p:ByteArray,Bo x p=[]->∀a,(Value.string p,a)∉C
 av:∀p:ByteArray,∃V,HV x A p V
theorem lL{dec:List Cd}(h:∀c∈dec,c.rel.reqs.length<=16):((dec.map fun c=>c.rel.reqs).flatten).length<=16*dec.length:=by
 induction dec with
 |nil=>simp
 |cons c dec ih=>
  rw[AK,Bu,Ac,Al]
  have:=h c (Ab ..)
  have:=ih fun d hd=>h d (Ae _ hd)
  omega
theorem uM{r:Rl}(h:Ts r):0<=plc r.ver/\plc r.ver<1000000:=by rw[h.plc];exact J8 h.val
theorem WO(dec:List Cd):(D6 roots dec).2.length<=(Dh roots dec).length:=by
 rw[UJ];cases Lz (Hr roots dec) (AG dec)with
 |none=>simp
 |some q=>exact BC _ _
theorem s45{C A:List (Value×AV)}(hE:wg x roots C A)(tt:H64 roots C A):∀(n:Nat) {dec:List Cd} {s:SS} {st:List (List Sk)},EG x dec->It roots dec->LP x roots s->s.full=false->FI x dec<n->st.length=dec.length ->
  Bb Tryz.prog 123 [.ref 1000 0] (Ag (Iq roots C A s dec st) Ad) (bM roots C A (C3 x roots n dec s st))
 |0,_,_,_,_,_,_,_,h,_=>by omega
 |n+1,dec,s,st,hd,iv,hs,hf,hn,Il=>by
  have hx:=hE.hx;have hr:=hE.hr;have cP:=M6 hx;have hdl:=TP hd;have mg:dec.length<=256:=by have:=cP.1;omega
  have Uk:∀c∈dec,c.rel.reqs.length<=16:=fun c hc=>cP.2 _ (hd.cand c hc).1;have Ji:=tt s dec st ch fun c hc=>A9 (Uk c hc) Cl;generalize hO:C3 x roots (n+1) dec s st=O;obtain⟨N,hN⟩:∃N,N=(D6 roots dec).2:=⟨_,rfl⟩;obtain⟨q,hq⟩:∃q,q=(D6 roots dec).1:=⟨_,rfl⟩;rw[<-hN,<-hq]at Ji;have xo:N.length<=10000:=by
   have h1:=WO (roots:=roots) dec;have h2:(Dh roots dec).length=(Hr roots dec).length:=by rw[<-Ly,Lm]
   have h3:=lL Uk;have h4:=LI hr;rw[<-hN]at h1;unfold Hr at h2;rw[Ac]at h2;omega
  cases hNc:N with
  |nil=>
   rw[hNc]at hN Ji;refine Adn roots C A s dec st q [] O rfl Ji ?_;rw[<-hO];unfold C3;rw[<-hN]
  |cons n0 l=>
   rw[hNc]at hN Ji;have ic:=J4 hN.symm;rw[<-hq]at ic;have PI:∀nd∈n0::l,nd∈Dh roots dec:=fun nd h=>((ic.mem nd).1 h).1;have FY:=(CF hx).1;have few:∀{E:List Cd},EG x E->∀nd∈Dh roots E,Cw nd.rq.set/\A5 (nd.place+1):=fun hE' nd h=>by
    rcases Lx h with ⟨k,r,h1,rfl⟩ | ⟨c,hc,k,r,h1,rfl⟩
    .exact⟨(hE.fr r (Av h1)).1,by unfold A5;show -9223372036854775808<=(0:Int)+1/\(0:Int)+1<9223372036854775808;decide⟩
    .have h2:=hE'.cand c hc;have h3:=uM (FY _ h2.1);rw[<-h2.2.2]at h3;exact⟨((hE.fx _ h2.1).2 r (Av h1)).1,by unfold A5;show _<=c.place+1/\c.place+1<_;omega⟩
   have iw:∀c∈Bo x q,EG x (dec++[c])/\c.rel.path=q/\c.rel∈x:=fun c hc=>by
    obtain⟨c1,c2⟩:=Hu hc;exact⟨hd.snoc c2 (by rw[c1];exact ic.undone),c1,c2.1⟩
   have E1:∀(i:Nat) (h:i<(Bo x q).length),(Bo x q)[i]∈Bo x q:=fun i h=>Aq h;obtain⟨V,hV⟩:=hE.av q
   have hL:Lvl x roots C A n dec q n0 l V (Bo x q):={
    hx:=hx
    hr:=hr
    hdl:=mg
    hcl:=A9 (QA x q) cP.1
    hcs:=rfl
    hnl:=by rw[hNc]at xo;omega
    hnq:=fun nd h=>(few hd nd (PI nd h)).1
    hnp:=fun nd h=>(few hd nd (PI nd h)).2
    hex:=fun i h nd hm hh=>by
     obtain⟨a,b,_⟩:=iw _ (E1 i h);exact⟨(PQ hx hr a (OI (PI nd hm)) ⟨(Bo x q)[i],by simp,b.trans ((ic.mem nd).1 hm).2.symm,hh⟩).1,trivial⟩
    hcx:=fun i h nc hc=>by
     obtain⟨a,b,_⟩:=iw _ (E1 i h);obtain⟨m1,m2⟩:=LZ hc;exact⟨(PQ hx hr a (NG m1) m2).1,trivial⟩
    hcq:=fun i h nc hm=>(few (iw _ (E1 i h)).1 nc (NG hm)).1
    hcp_:=fun i h nc hm=>(few (iw _ (E1 i h)).1 nc (NG hm)).2
    hcr:=fun i h=>by have:=cP.2 _ (iw _ (E1 i h)).2.2;omega
    hcs_:=fun i h r hm=>((hE.fx _ (iw _ (E1 i h)).2.2).2 r hm).1
    hkey:=fun i h=>by
     have b:=(iw _ (E1 i h)).2.1;unfold AG;rw[Az,Az];show _=_++[[vs (Bo x q)[i].rel.path,vi (Bo x q)[i].rel.ver.a,vi (Bo x q)[i].rel.ver.b,vi (Bo x q)[i].rel.ver.c]];rw[b]
    hinf0:=(S0 hx hr hd (PI n0 (Ab ..)) (.inl (by
     rw[((ic.mem n0).1 (Ab ..)).2];exact H6 (by rw[Gi];exact ic.undone)))).inf
    hV:=hV
    ih:=fun c hc Ac2 S En hl hS hSf=>by
     obtain⟨a,b,c3⟩:=iw c hc;obtain⟨k1,k2⟩:=KD.1 Ac2;obtain⟨_,c2⟩:=Hu hc;have rZ:=iv.snoc ic b k1 k2;have oU:FI x (dec++[c])<n:=by have:=OA (dec:=dec) ⟨c2.1,c2.2.1⟩ (by rw[b];exact ic.undone);omega
     have h1:=s45 hE tt n a rZ hS hSf oU (st:=En) (by rw[hl];simp);have h2:=Rw hx hr n a rZ hS.der hSf oU (st:=En);exact⟨h1,⟨h2.der,Qg n hS.nodup⟩,⟨h2.grow.len,fun e1 e2=>((h2.no e1).2.2 e2).1⟩,fun e1=>(h2.no e1).2.1⟩ }
   have hR:D3 (C3 x roots n) x q (n0::l) n0 dec st (Bo x q) s [] []=O:=by
    rw[<-hO]
    conv=>rhs;unfold C3
    rw[<-hN,hq]
   by_cases hm:∀a,(Value.string q,a)∉C
   .exact Adl x roots C A n s dec st q n0 l V (Bo x q) O O hL hs Il Ji (hE.c2 q hm) hm hR rfl
   .exact Adk x roots C A n s dec st q n0 l V (Bo x q) O O hL hs Il Ji (hE.c1 q) hm hR rfl
end
theorem Adm{x:List Rl}{roots:List Rq}{C A:List (Value×AV)}(hE:wg x roots C A)(n:Nat){dec:List Cd}{s:SS}{st:List (List Sk)}(h1:EG x dec)(h2:It roots dec)(h3:LP x roots s)(h4:s.full=false)(h5:FI x dec<n)(h6:st.length=dec.length) :
  Bb Tryz.prog 123 [.ref 1000 0] (Ag (Iq roots C A s dec st) Ad) (bM roots C A (C3 x roots n dec s st)):=
 s45 hE (fun s dec st a b=>s64 roots C A s dec st (A9 (LI hE.hr) Cl) a b) n h1 h2 h3 h4 h5 h6
def Du:Bool:=decide (Bd x=0)&&decide (B5 roots=0)
theorem wa(ifs:List (List AV))(roots:List Rq)(hx:∀r∈x,Jw r)(hr:∀q∈roots,NQ q):PC 75 [.agg (Ic x ifs),sl A2 roots] (vb (Du x roots)):=by
 refine Ps (pC [2] []) Tryz.func75 rfl (Nz rfl) (yN (Xi .pure (Xi _ (Yi (wV Zn x ifs hx) (Yi (fun h1=>?_) (fun h1=>?_))))))
 .refine Xi .pure (Xi _ (Yi (c65 Zn roots hr) (Yi (fun h2=>?_) (fun h2=>?_))))
  .exact .of_eq (show vb true=vb (Du x roots) by unfold Du;rw[h1,h2];rfl)
  exact .of_eq (show vb false=vb (Du x roots) by unfold Du;rw[Am h2,Di])
 exact .of_eq (show vb false=vb (Du x roots) by unfold Du;rw[Am h1];rfl)
end Go.Eng
