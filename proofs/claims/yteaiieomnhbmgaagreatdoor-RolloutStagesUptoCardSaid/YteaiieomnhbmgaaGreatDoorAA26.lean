/- Lemmas 26. -/
import Derived.Test.YteaiieomnhbmgaaGreatDoorAA25
set_option maxHeartbeats 16000000
namespace Go.Eng
open Go.Proofs
variable (x:List Rl)(roots:List Rq)(C A:List (Value×AV))(n:Nat)(s:SS)(dec:List Cd)(st:List (List Sk))(p:ByteArray)(n0:Nd)(l:List Nd)(V:AV)(cs:List Cd)(R O:La)
theorem dY{α:Type}(o:Option α):(∃x,o=some x)\/o=none:=by
 cases o with
 |none=>exact .inr rfl
 |some x=>exact .inl ⟨x,rfl⟩
theorem yS{T st:List (List Sk)}{sk:List Sk}(h:T=st++[sk]):((T.map Bq).take ((T.length:Int)-1).toNat)=st.map Bq/\((T.length:Int)-1).toNat=st.length:=by
 have e:((T.length:Int)-1).toNat=st.length:=by rw[h,Ac,Bh];omega
 refine⟨?_,e⟩;rw[e,h,As,H2 B0,At B0]
abbrev HV:Prop:=(∀a,(Value.string p,a)∈A->a=V)/\((∀a,(Value.string p,a)∉A)->V=nzA)/\∀h,PC 261 [vs p,str h V] (sl AN (IR p (Cn x p)))
abbrev kV(n:Nd):Prop:=∀d,En x roots d (Vb n)=some (JY n)
structure Lvl(x:List Rl)(roots:List Rq)(C A:List (Value×AV))(n:Nat)(dec:List Cd)(p:ByteArray)(n0:Nd)(l:List Nd)(V:AV)(cs:List Cd):Prop where
 hx:A5 x=0
 hr:BN roots=0
 hdl:dec.length<=256
 hcl:cs.length<=256
 hcs:cs=CC x p
 hnl:(n0::l).length<9223372036854775807
 hnq:∀n∈n0::l,Cb n.rq.set
 hnp:∀n∈n0::l,AX (n.place+1)
 hex:∀(i:Nat) (h:i<cs.length),∀nd∈n0::l,has nd.rq.set cs[i].place=false->kV x roots nd/\True
 hcx:∀(i:Nat) (h:i<cs.length) (nc:Nd),ED dec cs[i]=some nc->kV x roots nc/\True
 hcq:∀(i:Nat) (h:i<cs.length) (nc:Nd),nc∈RW cs[i]->Cb nc.rq.set
 hcp_:∀(i:Nat) (h:i<cs.length) (nc:Nd),nc∈RW cs[i]->AX (nc.place+1)
 hcr:∀(i:Nat) (h:i<cs.length),cs[i].rel.reqs.length<=1073741824
 hcs_:∀(i:Nat) (h:i<cs.length),∀q∈cs[i].rel.reqs,Cb q.set
 hkey:∀(i:Nat) (h:i<cs.length),(AR dec).map Am++[[vs p,vi cs[i].rel.ver.a,vi cs[i].rel.ver.b,vi cs[i].rel.ver.c]]=(AR (dec++[cs[i]])).map Am
 hinf0:kV x roots n0
 hV:HV x A p V
 ih:∀c∈CC x p,jI dec (n0::l) c=true->∀(S:SS) (EF : List (List Sk)),EF.length=dec.length+1->L6 x roots S->S.full=false ->
  Ba Tryz.prog 137 [.ref 1000 0] (Ap (J4 roots C A S (dec++[c]) EF) Ae) (cD roots C A (DF x roots n (dec++[c]) S EF))/\L6 x roots (DF x roots n (dec++[c]) S EF).ss /\
  (S.drv.length<=(DF x roots n (dec++[c]) S EF).ss.drv.length/\((DF x roots n (dec++[c]) S EF).found=false->(DF x roots n (dec++[c]) S EF).ss.full=false->(DF x roots n (dec++[c]) S EF).res<(DF x roots n (dec++[c]) S EF).ss.drv.length)) /\
  ((DF x roots n (dec++[c]) S EF).found=false->(DF x roots n (dec++[c]) S EF).stack=EF)
theorem Aek(hL:Lvl x roots C A n dec p n0 l V cs)(hs:L6 x roots s)(KL:st.length=dec.length)(Tt:Ba Tryz.prog 186 [.ref 1000 0] (Ap (J4 roots C A s dec st) Ae) fun r h'=>r=.tup [vs p,sl BH (n0::l)]/\h'=Ap (J4 roots C A s dec st) Ae)(hC1:∀a,(Value.string p,a)∈C->a=sl AT cs)(hC2:¬∀a,(Value.string p,a)∉C)(hR:EJ (DF x roots n) x p (n0::l) n0 dec st cs s [] []=R)(fJ:O=R) :
  Ba Tryz.prog 137 [.ref 1000 0] (Ap (J4 roots C A s dec st) Ae) (cD roots C A O):=by
 obtain⟨hx,hr,hdl,hcl,hcs,hnl,hnq,hnp,hex,hcx,hcq,hcp_,hcr,hcs_,hkey,hinf0,⟨x8,x9,ya⟩,ih⟩:=hL;have hcm:∀(i:Nat) (h:i<cs.length),cs[i]∈CC x p:=fun i h=>by rw[<-hcs];exact Aq h
 have wX:∀(i:Nat) (h:i<cs.length),Cb (AR (dec++[cs[i]])):=fun i h=>by unfold Cb AR;rw[Lm,Ac];simp;omega
 clear hcs
 refine Cu (M7 ⟨[9],[(6,1),(7,3),(145,1)],[],[],[],[],[],[],[(60,3),(101,3)],[(300001,500091000),(300026,500091000),(300029,500091000)],[1,5,12,15,17,21,23,24,25,26,28,29,31,32,33]⟩) [(1000,1000),(1001,1001),(1002,1002),(1003,1003),(1004,1004),(500,2000)] rfl Da hm rfl Tryz.func137 Wk rfl (Nz rfl) Wk rfl (Yi (show st.length=(st.map Bq).length by simp) (cU [(0,.ref 1000 0)] [(500,.arr 1 (st.map Bq)),(1000,.cells (srM roots C A s dec 500 st.length)),(1001,.tok 6 s.infs.length),(1002,.tok 1 s.drv.length),(1003,.map FY (F3 0 s.infs)),(1004,.dead)] Z1 Z6 (Xi (.gen cC 0) (Yi rfl (Ba.imp Tt ?_)))));intro v1 g1 q1;have ry:=q1.1;have rz:=q1.2;subst ry;subst rz;refine Yi (fun h2=>?_) (fun h2=>?_)
 .exact absurd h2 (by simp;omega)
 refine cU [(0,.ref 1000 0),(4,vs p),(5,sl BH (n0::l)),(6,.slice (.id 6 1) [])] [(6,.tok 1 0),(500,.arr 1 (st.map Bq)),(1000,.cells (srM roots C A s dec 500 st.length)),(1001,.tok 6 s.infs.length),(1002,.tok 1 s.drv.length),(1003,.map FY (F3 0 s.infs)),(1004,.dead)] Z4 Z7 (Yi (fun a ha=>?_) (fun Od=>?_))
 .have ea:=hC1 a ha;subst ea;refine Xi {q:Nat×SS×List Nat×List Sk // q.1<=cs.length/\EJ (DF x roots n) x p (n0::l) n0 dec st (cs.drop q.1) q.2.1 q.2.2.1 q.2.2.2=R/\L6 x roots q.2.1/\(∀r∈q.2.2.1,r<q.2.1.drv.length)/\q.2.2.1.length<=q.1/\q.2.2.2.length<=q.1} (Xi (fun q=>⟨[(0,.ref 1000 0),(4,vs p),(5,sl BH (n0::l)),(6,.slice (.id 6 1) (q.1.2.2.1.map Dd)),(7,.slice (.id 7 3) (q.1.2.2.2.map CB)),(32,sl AT cs),(33,vi (cs.map AT).length),(34,vi q.1.1)],[(6,.tok 1 q.1.2.2.1.length),(7,.tok 3 q.1.2.2.2.length),(500,.arr 1 (st.map Bq)),(1000,.cells (srM roots C A q.1.2.1 dec 500 st.length)),(1001,.tok 6 q.1.2.1.infs.length),(1002,.tok 1 q.1.2.1.drv.length),(1003,.map FY (F3 0 q.1.2.1.infs)),(1004,.dead)],Ae⟩) (Xi (fun q=>cs.length-q.1.1) (Yi (Xi ⟨(0,s,[],[]),Ax _,hR,hs,fun r h=>(by cases h),Ak _,Ak _⟩ ?_) ?_)))
  .exact⟨Z8,Z8,Fh,BT Wk⟩
  intro⟨⟨i,S,rs,sk⟩,j1,j2,j3,j4,j5,j6⟩;have j5:rs.length<=i:=j5;have j6:sk.length<=i:=j6;have hw:=j3.dl;have TK:∀t∈S.drv,kU t:=fun t ht=>by have q:=j3.der.few hx hr t ht;exact⟨FG q,q.2⟩
  refine Yi (fun h3=>?_) (fun h3=>?_)
  .have h3:(i:Int)<((cs.map AT).length:Int):=h3;have n3:=FO h3;refine Xi (AT cs[i]) (Yi (JL n3) (Yi rfl (yN (yN (Yi (fun h4=>?_) (fun h4=>?_))))))
   .have eR:R=⟨0,false,S,dec,st⟩:=by rw[<-j2];exact qd n3 h4
    exact Xi _ (Yi (.refl _) (OJ (fJ.trans eR)))
   have qy:=s86 (fF:=188) (caps:=[.cptr (AT cs[i])]) (fun c hc=>by obtain rfl:=Ar.1 hc;intro h;rfl) (n0::l) (fun n=>!has n.rq.set cs[i].place) (fun n hn=>s87 n cs[i] (hnq n hn)) hnl;refine Cf (jh (fun n=>!has n.rq.set cs[i].place) (n0::l)) (fun h6=>?_) (fun h6=>?_)
   .refine CT h6 (fun k86 h6=>CT h6 (fun nd h6=>?_));rw[h6.1]at qy;refine Xi .pure (Xi _ (Yi qy (cU [(0,.ref 1000 0),(4,vs p),(5,sl BH (n0::l)),(6,.slice (.id 6 1) (rs.map Dd)),(7,.slice (.id 7 3) (sk.map CB)),(9,.ref 9 0),(10,vi (k86:Nat)),(32,sl AT cs),(33,vi (cs.map AT).length),(34,vi i)] [(6,.tok 1 rs.length),(7,.tok 3 sk.length),(9,.ro (AT cs[i])),(500,.arr 1 (st.map Bq)),(1000,.cells (srM roots C A S dec 500 st.length)),(1001,.tok 6 S.infs.length),(1002,.tok 1 S.drv.length),(1003,.map FY (F3 0 S.infs)),(1004,.dead)] Z10 Z9 (Yi (fun _=>?_) (fun hf=>absurd (show(0:Int)<=((k86:Nat):Int) by omega) hf)))));refine Xi (BH nd) (Yi (Yi (show(0:Int)<=((k86:Nat):Int) by omega) (Eo h6.2.1)) (Yi rfl (yN ?_)));have uC:=hex i n3 nd (BG h6.2.2) (by have q:=DT h6.2.2;simpa using q);obtain⟨b1,b2,b3⟩:=j3.add (uC.1 S.drv)
    change L6 x roots (BX S nd).2 at b1
    change (BX S nd).1<(BX S nd).2.drv.length at b2
    change S.drv.length<=(BX S nd).2.drv.length at b3
    refine Xi (.gen cC 0) (Yi rfl (Ba.imp (s88 roots C A S dec st nd hw.1 hw.2.1 j3.nodup (hnq nd (Aw h6.2.1)) (hnp nd (Aw h6.2.1))) ?_));intro v7 g7 q7;have q7a:=q7.1;have q7b:=q7.2;subst q7a;subst q7b;refine Yi (kF rfl ch Cl) (Yi (Ii i ch) ?_);have Y0:S.full=false:=by simpa using h4
    have eN:EJ (DF x roots n) x p (n0::l) n0 dec st (cs.drop (i+1)) (BX S nd).2 (rs++[(BX S nd).1]) sk=R:=by rw[<-xF n3 Y0 h6.2.2];exact j2
    refine Xi ⟨(i+1,(BX S nd).2,rs++[(BX S nd).1],sk),FX n3,eN,b1,fun r h=>(AO.1 h).elim (fun h=>BC (j4 r h) b3) (fun h=>by rw[Ar.1 h];exact b2),(by rw[Ac];exact EV j5),Nat.le_succ_of_le j6⟩ ?_;exact⟨Dl cs.length i ch,⟨Zr,Zr,Zr,⟨(show AV.slice (.id 6 1) (rs.map Dd++[[vi (((BX S nd).1:Nat):Int)]])=.slice (.id 6 1) ((rs++[(BX S nd).1]).map Dd) by rw[As];rfl),rfl⟩,Zr,Zr,Zr,Zr,Tv⟩,⟨⟨(show HO.tok 1 ((rs.map Dd).length+([[vi (((BX S nd).1:Nat):Int)]]:List (List AV)).length)=.tok 1 (rs++[(BX S nd).1]).length by simp),rfl⟩,Zr,Zr,Zr,Zr,Zr,Zr,Zr,Tv⟩,Fh,BT Wk⟩
   skip
   rw[h6.1]at qy;refine Xi .pure (Xi _ (Yi qy (cU [(0,.ref 1000 0),(4,vs p),(5,sl BH (n0::l)),(6,.slice (.id 6 1) (rs.map Dd)),(7,.slice (.id 7 3) (sk.map CB)),(9,.ref 9 0),(10,vi (-1)),(32,sl AT cs),(33,vi (cs.map AT).length),(34,vi i)] [(6,.tok 1 rs.length),(7,.tok 3 sk.length),(9,.ro (AT cs[i])),(500,.arr 1 (st.map Bq)),(1000,.cells (srM roots C A S dec 500 st.length)),(1001,.tok 6 S.infs.length),(1002,.tok 1 S.drv.length),(1003,.map FY (F3 0 S.infs)),(1004,.dead)] Z10 Z9 (Yi (fun h=>absurd h Cl) (fun _=>?_)))));refine Xi _ (Xi _ (Yi Wk (Yi (ue (AR dec) (by unfold Cb AR;rw[Lm];omega)) (yN ?_))));have Xe:B5 4 [[vs p,vi cs[i].rel.ver.a,vi cs[i].rel.ver.b,vi cs[i].rel.ver.c]]/\((AR dec).map Am).length=((AR dec).map Am).length/\(((AR dec).map Am).length+([[vs p,vi cs[i].rel.ver.a,vi cs[i].rel.ver.b,vi cs[i].rel.ver.c]]:List (List AV)).length)*40<=140737488355328/\((AR dec).map Am).length+([[vs p,vi cs[i].rel.ver.a,vi cs[i].rel.ver.b,vi cs[i].rel.ver.c]]:List (List AV)).length<=9223372036854775807:=⟨⟨rfl,trivial⟩,rfl,(by simp only[Lm,Ag,Ao];omega),(by simp only[Lm,Ag,Ao];omega)⟩;refine Yi Xe (Yi Wk (cU [(0,.ref 1000 0),(4,vs p),(5,sl BH (n0::l)),(6,.slice (.id 6 1) (rs.map Dd)),(7,.slice (.id 7 3) (sk.map CB)),(9,.ref 9 0),(11,.slice (.id 16000 4) ((AR (dec++[cs[i]])).map Am)),(32,sl AT cs),(33,vi (cs.map AT).length),(34,vi i)] [(6,.tok 1 rs.length),(7,.tok 3 sk.length),(9,.ro (AT cs[i])),(500,.arr 1 (st.map Bq)),(1000,.cells (srM roots C A S dec 500 st.length)),(1001,.tok 6 S.infs.length),(1002,.tok 1 S.drv.length),(1003,.map FY (F3 0 S.infs)),(1004,.dead),(16000,.tok 4 ((AR (dec++[cs[i]])).map Am).length)] ⟨Zr,Zr,Zr,Zr,Zr,Zr,⟨(show(.slice (.id 16000 4) (((AR dec).map Am)++[[vs p,vi cs[i].rel.ver.a,vi cs[i].rel.ver.b,vi cs[i].rel.ver.c]]):AV)=.slice (.id 16000 4) ((AR (dec++[cs[i]])).map Am) by rw[hkey i n3]),rfl⟩,Zr,Zr,Zr,Tv⟩ ⟨Zr,Zr,Zr,Zr,Zr,Zr,Zr,Zr,Zr,⟨(show(.tok 4 (((AR dec).map Am).length+([[vs p,vi cs[i].rel.ver.a,vi cs[i].rel.ver.b,vi cs[i].rel.ver.c]]:List (List AV)).length):HO)=.tok 4 ((AR (dec++[cs[i]])).map Am).length by rw[<-hkey i n3,Ac]),rfl⟩,Tv⟩ ?_))
   have qz:=s89 roots C A S dec st (AR (dec++[cs[i]])) hw.2.2 TK (wX i n3);refine Cf (dY (P0 S.drv (AR (dec++[cs[i]])))) (fun KV=>?_) (fun KV=>?_)
   .refine CT KV (fun ke KV=>?_);have eV:YJ S.drv (AR (dec++[cs[i]]))=.tup [vi (ke:Nat),vb true]:=by unfold YJ;rw[KV];rfl
    rw[eV]at qz;refine Xi (.gen cC 0) (Yi rfl (Ba.imp qz ?_));intro v12 g12 rx;have vC:=rx.1;have vD:=rx.2;subst vC;subst vD;refine yN ?_;have YY:=s69 roots C A S dec st cs[i] ch (hcr i n3) (hcs_ i n3);refine Cf (dY (ED dec cs[i])) (fun SI=>?_) (fun SI=>?_)
    .refine CT SI (fun nc SI=>?_);have eW:uh (ED dec cs[i])=.tup [.agg (BH nc),vb true]:=by rw[SI];rfl
     rw[eW]at YY;refine Xi (.gen cC 0) (Yi rfl (Ba.imp YY ?_));intro v14 g14 q14;have AdF:=q14.1;have AdG:=q14.2;subst AdF;subst AdG;refine yN (cU [(0,.ref 1000 0),(4,vs p),(5,sl BH (n0::l)),(6,.slice (.id 6 1) (rs.map Dd)),(7,.slice (.id 7 3) (sk.map CB)),(9,.ref 9 0),(11,.slice (.id 16000 4) ((AR (dec++[cs[i]])).map Am)),(12,vi (ke:Nat)),(13,vb true),(14,.ref 14 0),(15,vb true),(32,sl AT cs),(33,vi (cs.map AT).length),(34,vi i)] [(6,.tok 1 rs.length),(7,.tok 3 sk.length),(9,.ro (AT cs[i])),(14,.cells (BH nc)),(500,.arr 1 (st.map Bq)),(1000,.cells (srM roots C A S dec 500 st.length)),(1001,.tok 6 S.infs.length),(1002,.tok 1 S.drv.length),(1003,.map FY (F3 0 S.infs)),(1004,.dead),(16000,.tok 4 ((AR (dec++[cs[i]])).map Am).length)] ⟨Zr,Zr,Zr,Zr,Zr,Zr,Zr,Zr,Zr,Zr,Zr,Zr,Zr,Zr,Tv⟩ Z11 (cU [(0,.ref 1000 0),(4,vs p),(5,sl BH (n0::l)),(6,.slice (.id 6 1) (rs.map Dd)),(7,.slice (.id 7 3) (sk.map CB)),(9,.ref 9 0),(12,vi (ke:Nat)),(32,sl AT cs),(33,vi (cs.map AT).length),(34,vi i)] [(6,.tok 1 rs.length),(7,.tok 3 sk.length),(9,.ro (AT cs[i])),(500,.arr 1 (st.map Bq)),(1000,.cells (srM roots C A S dec 500 st.length)),(1001,.tok 6 S.infs.length),(1002,.tok 1 S.drv.length),(1003,.map FY (F3 0 S.infs)),(1004,.dead)] Z10 Z9 (Xi (Do (EW S ke)) (Yi (Yi (show(0:Int)<=((ke:Nat):Int) by omega) (Eo (FB (LI KV).1))) (Yi rfl ?_)))));have Y0:S.full=false:=by simpa using h4
     have WC:ke<S.drv.length:=(LI KV).1;have fP:=j3.der.few hx hr;refine Cf (Bt (Eh (EW S ke) p)) (fun ml=>?_) (fun ml=>?_)
     .refine Xi .pure (Xi _ (Yi (cb ml (pH (EW S ke) p (FG (fP _ (Aw (FB WC)))))) (cU [(0,.ref 1000 0),(4,vs p),(5,sl BH (n0::l)),(6,.slice (.id 6 1) (rs.map Dd)),(7,.slice (.id 7 3) (sk.map CB)),(9,.ref 9 0),(12,vi (ke:Nat)),(32,sl AT cs),(33,vi (cs.map AT).length),(34,vi i)] [(6,.tok 1 rs.length),(7,.tok 3 sk.length),(9,.ro (AT cs[i])),(500,.arr 1 (st.map Bq)),(1000,.cells (srM roots C A S dec 500 st.length)),(1001,.tok 6 S.infs.length),(1002,.tok 1 S.drv.length),(1003,.map FY (F3 0 S.infs)),(1004,.dead)] Z10 Z9 (Yi (kF rfl ch Cl) (Yi (kF rfl ch Cl) (Yi (Ii i ch) ?_))))));have eA:=(YD (rec:=DF x roots n) (x:=x) (p:=p) (n0:=n0) (st:=st) (rs:=rs) (sk:=sk) n3 Y0 h6.2 KV);have eN:EJ (DF x roots n) x p (n0::l) n0 dec st (cs.drop (i+1)) S (rs++[ke]) (sk++[(⟨p,cs[i].place,(ke:Nat)⟩:Sk)])=R:=by rw[<-Yq (c:=cs[i]) ml,<-eA];exact j2
      refine Xi ⟨(i+1,S,rs++[ke],sk++[(⟨p,cs[i].place,(ke:Nat)⟩:Sk)]),FX n3,eN,j3,fun r h=>(AO.1 h).elim ((fun r h=>j4 r h) r) (fun h=>by rw[Ar.1 h];exact WC),(by rw[Ac];exact EV j5),(by rw[Ac];exact EV j6)⟩ ?_;exact⟨Dl cs.length i ch,⟨Zr,Zr,Zr,⟨(show AV.slice (.id 6 1) (rs.map Dd++[[vi ((ke:Nat):Int)]])=.slice (.id 6 1) ((rs++[ke]).map Dd) by rw[As];rfl),rfl⟩,⟨(show AV.slice (.id 7 3) (sk.map CB++[[vs p,vi cs[i].place,vi ((ke:Nat):Int)]])=.slice (.id 7 3) ((sk++[(⟨p,cs[i].place,(ke:Nat)⟩:Sk)]).map CB) by rw[As];rfl),rfl⟩,Zr,Zr,Zr,Tv⟩,⟨⟨(show HO.tok 1 ((rs.map Dd).length+([[vi ((ke:Nat):Int)]]:List (List AV)).length)=.tok 1 (rs++[ke]).length by simp),rfl⟩,⟨(show HO.tok 3 ((sk.map CB).length+([[vs p,vi cs[i].place,vi ((ke:Nat):Int)]]:List (List AV)).length)=.tok 3 (sk++[(⟨p,cs[i].place,(ke:Nat)⟩:Sk)]).length by simp),rfl⟩,Zr,Zr,Zr,Zr,Zr,Zr,Tv⟩,Fh,BT Wk⟩
     refine Xi .pure (Xi _ (Yi (cb ml (pH (EW S ke) p (FG (fP _ (Aw (FB WC)))))) (cU [(12,vi (ke:Nat))] [(500,.arr 1 (st.map Bq)),(1000,.cells (srM roots C A S dec 500 st.length)),(1001,.tok 6 S.infs.length),(1002,.tok 1 S.drv.length),(1003,.map FY (F3 0 S.infs)),(1004,.dead)] Z1 Z6 ?_)))
     have eA:=(YD (rec:=DF x roots n) (x:=x) (p:=p) (n0:=n0) (st:=st) (rs:=rs) (sk:=sk) n3 Y0 h6.2 KV);have eR:R=⟨ke,false,S,dec,st⟩:=by rw[<-j2];rw[eA];exact fc ml
     exact Xi _ (Yi (.refl _) (OJ (fJ.trans eR)))
    skip
    have eW:uh (ED dec cs[i])=.tup [.agg [vs ⟨#[]⟩,nzA,vs ⟨#[]⟩,vi 0,vi 0],vb false]:=by rw[SI];rfl
    rw[eW]at YY;refine Xi (.gen cC 0) (Yi rfl (Ba.imp YY ?_));intro v20 g20 q20;have AdH:=q20.1;have AdI:=q20.2;subst AdH;subst AdI;refine yN (cU [(0,.ref 1000 0),(4,vs p),(5,sl BH (n0::l)),(6,.slice (.id 6 1) (rs.map Dd)),(7,.slice (.id 7 3) (sk.map CB)),(9,.ref 9 0),(11,.slice (.id 16000 4) ((AR (dec++[cs[i]])).map Am)),(12,vi (ke:Nat)),(13,vb true),(14,.ref 14 0),(15,vb false),(32,sl AT cs),(33,vi (cs.map AT).length),(34,vi i)] [(6,.tok 1 rs.length),(7,.tok 3 sk.length),(9,.ro (AT cs[i])),(14,.cells [vs ⟨#[]⟩,nzA,vs ⟨#[]⟩,vi 0,vi 0]),(500,.arr 1 (st.map Bq)),(1000,.cells (srM roots C A S dec 500 st.length)),(1001,.tok 6 S.infs.length),(1002,.tok 1 S.drv.length),(1003,.map FY (F3 0 S.infs)),(1004,.dead),(16000,.tok 4 ((AR (dec++[cs[i]])).map Am).length)] ⟨Zr,Zr,Zr,Zr,Zr,Zr,Zr,Zr,Zr,Zr,Zr,Zr,Zr,Zr,Tv⟩ Z11 (cU [(0,.ref 1000 0),(4,vs p),(5,sl BH (n0::l)),(6,.slice (.id 6 1) (rs.map Dd)),(7,.slice (.id 7 3) (sk.map CB)),(9,.ref 9 0),(12,vi (ke:Nat)),(32,sl AT cs),(33,vi (cs.map AT).length),(34,vi i)] [(6,.tok 1 rs.length),(7,.tok 3 sk.length),(9,.ro (AT cs[i])),(500,.arr 1 (st.map Bq)),(1000,.cells (srM roots C A S dec 500 st.length)),(1001,.tok 6 S.infs.length),(1002,.tok 1 S.drv.length),(1003,.map FY (F3 0 S.infs)),(1004,.dead)] Z10 Z9 (Xi (Do (EW S ke)) (Yi (Yi (show(0:Int)<=((ke:Nat):Int) by omega) (Eo (FB (LI KV).1))) (Yi rfl ?_)))));have Y0:S.full=false:=by simpa using h4
    have WC:ke<S.drv.length:=(LI KV).1;have fP:=j3.der.few hx hr;refine Cf (Bt (Eh (EW S ke) p)) (fun du=>?_) (fun du=>?_)
    .refine Xi .pure (Xi _ (Yi (cb du (pH (EW S ke) p (FG (fP _ (Aw (FB WC)))))) (cU [(0,.ref 1000 0),(4,vs p),(5,sl BH (n0::l)),(6,.slice (.id 6 1) (rs.map Dd)),(7,.slice (.id 7 3) (sk.map CB)),(9,.ref 9 0),(12,vi (ke:Nat)),(32,sl AT cs),(33,vi (cs.map AT).length),(34,vi i)] [(6,.tok 1 rs.length),(7,.tok 3 sk.length),(9,.ro (AT cs[i])),(500,.arr 1 (st.map Bq)),(1000,.cells (srM roots C A S dec 500 st.length)),(1001,.tok 6 S.infs.length),(1002,.tok 1 S.drv.length),(1003,.map FY (F3 0 S.infs)),(1004,.dead)] Z10 Z9 (Yi (kF rfl ch Cl) (Yi (kF rfl ch Cl) (Yi (Ii i ch) ?_))))));have eA:=(YD (rec:=DF x roots n) (x:=x) (p:=p) (n0:=n0) (st:=st) (rs:=rs) (sk:=sk) n3 Y0 h6.2 KV);have eN:EJ (DF x roots n) x p (n0::l) n0 dec st (cs.drop (i+1)) S (rs++[ke]) (sk++[(⟨p,cs[i].place,(ke:Nat)⟩:Sk)])=R:=by rw[<-Yq (c:=cs[i]) du,<-eA];exact j2
     refine Xi ⟨(i+1,S,rs++[ke],sk++[(⟨p,cs[i].place,(ke:Nat)⟩:Sk)]),FX n3,eN,j3,fun r h=>(AO.1 h).elim ((fun r h=>j4 r h) r) (fun h=>by rw[Ar.1 h];exact WC),(by rw[Ac];exact EV j5),(by rw[Ac];exact EV j6)⟩ ?_;exact⟨Dl cs.length i ch,⟨Zr,Zr,Zr,⟨(show AV.slice (.id 6 1) (rs.map Dd++[[vi ((ke:Nat):Int)]])=.slice (.id 6 1) ((rs++[ke]).map Dd) by rw[As];rfl),rfl⟩,⟨(show AV.slice (.id 7 3) (sk.map CB++[[vs p,vi cs[i].place,vi ((ke:Nat):Int)]])=.slice (.id 7 3) ((sk++[(⟨p,cs[i].place,(ke:Nat)⟩:Sk)]).map CB) by rw[As];rfl),rfl⟩,Zr,Zr,Zr,Tv⟩,⟨⟨(show HO.tok 1 ((rs.map Dd).length+([[vi ((ke:Nat):Int)]]:List (List AV)).length)=.tok 1 (rs++[ke]).length by simp),rfl⟩,⟨(show HO.tok 3 ((sk.map CB).length+([[vs p,vi cs[i].place,vi ((ke:Nat):Int)]]:List (List AV)).length)=.tok 3 (sk++[(⟨p,cs[i].place,(ke:Nat)⟩:Sk)]).length by simp),rfl⟩,Zr,Zr,Zr,Zr,Zr,Zr,Tv⟩,Fh,BT Wk⟩
    refine Xi .pure (Xi _ (Yi (cb du (pH (EW S ke) p (FG (fP _ (Aw (FB WC)))))) (cU [(12,vi (ke:Nat))] [(500,.arr 1 (st.map Bq)),(1000,.cells (srM roots C A S dec 500 st.length)),(1001,.tok 6 S.infs.length),(1002,.tok 1 S.drv.length),(1003,.map FY (F3 0 S.infs)),(1004,.dead)] Z1 Z6 ?_)))
    have eA:=(YD (rec:=DF x roots n) (x:=x) (p:=p) (n0:=n0) (st:=st) (rs:=rs) (sk:=sk) n3 Y0 h6.2 KV);have eR:R=⟨ke,false,S,dec,st⟩:=by rw[<-j2];rw[eA];exact fc du
    exact Xi _ (Yi (.refl _) (OJ (fJ.trans eR)))
   skip
   have eV:YJ S.drv (AR (dec++[cs[i]]))=.tup [vi 0,vb false]:=by unfold YJ;rw[KV];rfl
   rw[eV]at qz;refine Xi (.gen cC 0) (Yi rfl (Ba.imp qz ?_));intro v26 g26 q26;have AdL:=q26.1;have AdM:=q26.2;subst AdL;subst AdM;refine yN ?_;have YY:=s69 roots C A S dec st cs[i] ch (hcr i n3) (hcs_ i n3);refine Cf (dY (ED dec cs[i])) (fun dv=>?_) (fun dv=>?_)
   .refine CT dv (fun nc dv=>?_);have eW:uh (ED dec cs[i])=.tup [.agg (BH nc),vb true]:=by rw[dv];rfl
    rw[eW]at YY;refine Xi (.gen cC 0) (Yi rfl (Ba.imp YY ?_));intro v28 g28 q28;have AdN:=q28.1;have AdO:=q28.2;subst AdN;subst AdO;refine yN (cU [(0,.ref 1000 0),(4,vs p),(5,sl BH (n0::l)),(6,.slice (.id 6 1) (rs.map Dd)),(7,.slice (.id 7 3) (sk.map CB)),(9,.ref 9 0),(11,.slice (.id 16000 4) ((AR (dec++[cs[i]])).map Am)),(12,vi 0),(13,vb false),(14,.ref 14 0),(15,vb true),(32,sl AT cs),(33,vi (cs.map AT).length),(34,vi i)] [(6,.tok 1 rs.length),(7,.tok 3 sk.length),(9,.ro (AT cs[i])),(14,.cells (BH nc)),(500,.arr 1 (st.map Bq)),(1000,.cells (srM roots C A S dec 500 st.length)),(1001,.tok 6 S.infs.length),(1002,.tok 1 S.drv.length),(1003,.map FY (F3 0 S.infs)),(1004,.dead),(16000,.tok 4 ((AR (dec++[cs[i]])).map Am).length)] ⟨Zr,Zr,Zr,Zr,Zr,Zr,Zr,Zr,Zr,Zr,Zr,Zr,Zr,Zr,Tv⟩ Z11 (yN ?_));have uC:=hcx i n3 nc dv;obtain⟨b1,b2,b3⟩:=j3.add (uC.1 S.drv)
    change L6 x roots (BX S nc).2 at b1
    change (BX S nc).1<(BX S nc).2.drv.length at b2
    change S.drv.length<=(BX S nc).2.drv.length at b3
    refine Xi (.gen cC 0) (Yi rfl (Ba.imp (s88 roots C A S dec st nc hw.1 hw.2.1 j3.nodup (hcq i n3 nc (Me dv).1) (hcp_ i n3 nc (Me dv).1)) ?_));intro v29 g29 q29;have AdP:=q29.1;have AdQ:=q29.2;subst AdP;subst AdQ;refine cU [(0,.ref 1000 0),(4,vs p),(5,sl BH (n0::l)),(6,.slice (.id 6 1) (rs.map Dd)),(7,.slice (.id 7 3) (sk.map CB)),(9,.ref 9 0),(12,vi ((BX S nc).1:Nat)),(32,sl AT cs),(33,vi (cs.map AT).length),(34,vi i)] [(6,.tok 1 rs.length),(7,.tok 3 sk.length),(9,.ro (AT cs[i])),(500,.arr 1 (st.map Bq)),(1000,.cells [sl Bb roots,.cmap Cq C,.cmap Cq A,.slice (.id 1001 6) ((BX S nc).2.infs.map Dz),.slice (.id 1002 1) ((BX S nc).2.drv.map Do),.mref 1003,vb (BX S nc).2.full,sl AT dec,sl Am (AR dec),.msl 500 st.length]),(1001,.tok 6 (BX S nc).2.infs.length),(1002,.tok 1 (BX S nc).2.drv.length),(1003,.map FY (F3 0 (BX S nc).2.infs)),(1004,.dead)] Z10 Z9 (Xi (Do (EW (BX S nc).2 (BX S nc).1)) (Yi (Yi (show(0:Int)<=(((BX S nc).1:Nat):Int) by omega) (Eo (FB b2))) (Yi rfl ?_)));have Y0:S.full=false:=by simpa using h4
    have WC:(BX S nc).1<(BX S nc).2.drv.length:=b2;have fP:=b1.der.few hx hr;refine Cf (Bt (Eh (EW (BX S nc).2 (BX S nc).1) p)) (fun xW=>?_) (fun xW=>?_)
    .refine Xi .pure (Xi _ (Yi (cb xW (pH (EW (BX S nc).2 (BX S nc).1) p (FG (fP _ (Aw (FB WC)))))) (cU [(0,.ref 1000 0),(4,vs p),(5,sl BH (n0::l)),(6,.slice (.id 6 1) (rs.map Dd)),(7,.slice (.id 7 3) (sk.map CB)),(9,.ref 9 0),(12,vi ((BX S nc).1:Nat)),(32,sl AT cs),(33,vi (cs.map AT).length),(34,vi i)] [(6,.tok 1 rs.length),(7,.tok 3 sk.length),(9,.ro (AT cs[i])),(500,.arr 1 (st.map Bq)),(1000,.cells [sl Bb roots,.cmap Cq C,.cmap Cq A,.slice (.id 1001 6) ((BX S nc).2.infs.map Dz),.slice (.id 1002 1) ((BX S nc).2.drv.map Do),.mref 1003,vb (BX S nc).2.full,sl AT dec,sl Am (AR dec),.msl 500 st.length]),(1001,.tok 6 (BX S nc).2.infs.length),(1002,.tok 1 (BX S nc).2.drv.length),(1003,.map FY (F3 0 (BX S nc).2.infs)),(1004,.dead)] Z10 Z9 (Yi (kF rfl ch Cl) (Yi (kF rfl ch Cl) (Yi (Ii i ch) ?_))))));have eA:=(ZY (rec:=DF x roots n) (x:=x) (p:=p) (n0:=n0) (st:=st) (rs:=rs) (sk:=sk) n3 Y0 h6.2 KV dv);have eN:EJ (DF x roots n) x p (n0::l) n0 dec st (cs.drop (i+1)) (BX S nc).2 (rs++[(BX S nc).1]) (sk++[(⟨p,cs[i].place,((BX S nc).1:Nat)⟩:Sk)])=R:=by rw[<-Yq (c:=cs[i]) xW,<-eA];exact j2
     refine Xi ⟨(i+1,(BX S nc).2,rs++[(BX S nc).1],sk++[(⟨p,cs[i].place,((BX S nc).1:Nat)⟩:Sk)]),FX n3,eN,b1,fun r h=>(AO.1 h).elim ((fun r h=>BC (j4 r h) b3) r) (fun h=>by rw[Ar.1 h];exact WC),(by rw[Ac];exact EV j5),(by rw[Ac];exact EV j6)⟩ ?_;exact⟨Dl cs.length i ch,⟨Zr,Zr,Zr,⟨(show AV.slice (.id 6 1) (rs.map Dd++[[vi (((BX S nc).1:Nat):Int)]])=.slice (.id 6 1) ((rs++[(BX S nc).1]).map Dd) by rw[As];rfl),rfl⟩,⟨(show AV.slice (.id 7 3) (sk.map CB++[[vs p,vi cs[i].place,vi (((BX S nc).1:Nat):Int)]])=.slice (.id 7 3) ((sk++[(⟨p,cs[i].place,((BX S nc).1:Nat)⟩:Sk)]).map CB) by rw[As];rfl),rfl⟩,Zr,Zr,Zr,Tv⟩,⟨⟨(show HO.tok 1 ((rs.map Dd).length+([[vi (((BX S nc).1:Nat):Int)]]:List (List AV)).length)=.tok 1 (rs++[(BX S nc).1]).length by simp),rfl⟩,⟨(show HO.tok 3 ((sk.map CB).length+([[vs p,vi cs[i].place,vi (((BX S nc).1:Nat):Int)]]:List (List AV)).length)=.tok 3 (sk++[(⟨p,cs[i].place,((BX S nc).1:Nat)⟩:Sk)]).length by simp),rfl⟩,Zr,Zr,Zr,Zr,Zr,Zr,Tv⟩,Fh,BT Wk⟩
    refine Xi .pure (Xi _ (Yi (cb xW (pH (EW (BX S nc).2 (BX S nc).1) p (FG (fP _ (Aw (FB WC)))))) (cU [(12,vi ((BX S nc).1:Nat))] [(500,.arr 1 (st.map Bq)),(1000,.cells [sl Bb roots,.cmap Cq C,.cmap Cq A,.slice (.id 1001 6) ((BX S nc).2.infs.map Dz),.slice (.id 1002 1) ((BX S nc).2.drv.map Do),.mref 1003,vb (BX S nc).2.full,sl AT dec,sl Am (AR dec),.msl 500 st.length]),(1001,.tok 6 (BX S nc).2.infs.length),(1002,.tok 1 (BX S nc).2.drv.length),(1003,.map FY (F3 0 (BX S nc).2.infs)),(1004,.dead)] Z1 Z6 ?_)))
    have eA:=(ZY (rec:=DF x roots n) (x:=x) (p:=p) (n0:=n0) (st:=st) (rs:=rs) (sk:=sk) n3 Y0 h6.2 KV dv);have eR:R=⟨(BX S nc).1,false,(BX S nc).2,dec,st⟩:=by rw[<-j2];rw[eA];exact fc xW
    exact Xi _ (Yi (.refl _) (OJ (fJ.trans eR)))
   skip
   have eW:uh (ED dec cs[i])=.tup [.agg [vs ⟨#[]⟩,nzA,vs ⟨#[]⟩,vi 0,vi 0],vb false]:=by rw[dv];rfl
   rw[eW]at YY;refine Xi (.gen cC 0) (Yi rfl (Ba.imp YY ?_));intro v35 g35 q35;have AdT:=q35.1;have AdU:=q35.2;subst AdT;subst AdU;refine yN (cU [(0,.ref 1000 0),(4,vs p),(5,sl BH (n0::l)),(6,.slice (.id 6 1) (rs.map Dd)),(7,.slice (.id 7 3) (sk.map CB)),(9,.ref 9 0),(11,.slice (.id 16000 4) ((AR (dec++[cs[i]])).map Am)),(12,vi 0),(13,vb false),(14,.ref 14 0),(15,vb false),(32,sl AT cs),(33,vi (cs.map AT).length),(34,vi i)] [(6,.tok 1 rs.length),(7,.tok 3 sk.length),(9,.ro (AT cs[i])),(14,.cells [vs ⟨#[]⟩,nzA,vs ⟨#[]⟩,vi 0,vi 0]),(500,.arr 1 (st.map Bq)),(1000,.cells (srM roots C A S dec 500 st.length)),(1001,.tok 6 S.infs.length),(1002,.tok 1 S.drv.length),(1003,.map FY (F3 0 S.infs)),(1004,.dead),(16000,.tok 4 ((AR (dec++[cs[i]])).map Am).length)] ⟨Zr,Zr,Zr,Zr,Zr,Zr,Zr,Zr,Zr,Zr,Zr,Zr,Zr,Zr,Tv⟩ Z11 (Yi Wk (cU [(0,.ref 1000 0),(4,vs p),(5,sl BH (n0::l)),(6,.slice (.id 6 1) (rs.map Dd)),(7,.slice (.id 7 3) (sk.map CB)),(9,.ref 9 0),(11,.slice (.id 16000 4) ((AR (dec++[cs[i]])).map Am)),(16,sl AT dec),(17,sl Am (AR dec)),(32,sl AT cs),(33,vi (cs.map AT).length),(34,vi i)] [(6,.tok 1 rs.length),(7,.tok 3 sk.length),(9,.ro (AT cs[i])),(500,.arr 1 (st.map Bq)),(1000,.cells (srM roots C A S dec 500 st.length)),(1001,.tok 6 S.infs.length),(1002,.tok 1 S.drv.length),(1003,.map FY (F3 0 S.infs)),(1004,.dead),(16000,.tok 4 ((AR (dec++[cs[i]])).map Am).length)] Z12 Z10 (Xi _ (Xi _ (Yi Wk (Yi (z8 dec (by unfold Cb;omega)) (yN ?_))))))));have b36:B5 10 [(AT cs[i])]/\(dec.map AT).length=(dec.map AT).length/\((dec.map AT).length+([(AT cs[i])]:List (List AV)).length)*128<=140737488355328/\(dec.map AT).length+([(AT cs[i])]:List (List AV)).length<=9223372036854775807:=⟨⟨rfl,trivial⟩,rfl,(by simp only[Lm,Ag,Ao];omega),(by simp only[Lm,Ag,Ao];omega)⟩;refine Yi b36 (yN (yN (Yi Wk ?_)));have b37:B5 1 [[sl CB sk]]/\(st.map Bq).length=st.length/\((st.map Bq).length+([[sl CB sk]]:List (List AV)).length)*24<=140737488355328/\(st.map Bq).length+([[sl CB sk]]:List (List AV)).length<=9223372036854775807:=⟨⟨rfl,trivial⟩,(by rw[Lm]),(by simp only[Lm,Ag,Ao];omega),(by simp only[Lm,Ag,Ao];omega)⟩;refine Yi b37 (yN (cU [(0,.ref 1000 0),(4,vs p),(5,sl BH (n0::l)),(6,.slice (.id 6 1) (rs.map Dd)),(7,.slice (.id 7 3) (sk.map CB)),(9,.ref 9 0),(16,sl AT dec),(17,sl Am (AR dec)),(32,sl AT cs),(33,vi (cs.map AT).length),(34,vi i)] [(6,.tok 1 rs.length),(7,.tok 3 sk.length),(9,.ro (AT cs[i])),(500,.arr 1 ((st.map Bq)++[[sl CB sk]])),(1000,.cells [sl Bb roots,.cmap Cq C,.cmap Cq A,.slice (.id 1001 6) (S.infs.map Dz),.slice (.id 1002 1) (S.drv.map Do),.mref 1003,vb S.full,.slice (.id 20100 10) ((dec.map AT)++[(AT cs[i])]),.slice (.id 16000 4) ((AR (dec++[cs[i]])).map Am),.msl 500 ((st.map Bq).length+([[sl CB sk]]:List (List AV)).length)]),(1001,.tok 6 S.infs.length),(1002,.tok 1 S.drv.length),(1003,.map FY (F3 0 S.infs)),(1004,.dead),(16000,.tok 4 ((AR (dec++[cs[i]])).map Am).length),(20100,.tok 10 ((dec.map AT).length+([(AT cs[i])]:List (List AV)).length))] Z11 Z11 (cU [(0,.ref 1000 0),(4,vs p),(5,sl BH (n0::l)),(6,.slice (.id 6 1) (rs.map Dd)),(7,.slice (.id 7 3) (sk.map CB)),(9,.ref 9 0),(16,sl AT dec),(17,sl Am (AR dec)),(32,sl AT cs),(33,vi (cs.map AT).length),(34,vi i)] [(6,.tok 1 rs.length),(7,.tok 3 sk.length),(9,.ro (AT cs[i])),(500,.arr 1 ((st++[sk]).map Bq)),(1000,.cells [sl Bb roots,.cmap Cq C,.cmap Cq A,.slice (.id 1001 6) (S.infs.map Dz),.slice (.id 1002 1) (S.drv.map Do),.mref 1003,vb S.full,.slice (.id 20100 10) ((dec++[cs[i]]).map AT),.slice (.id 16000 4) ((AR (dec++[cs[i]])).map Am),.msl 500 (st++[sk]).length]),(1001,.tok 6 S.infs.length),(1002,.tok 1 S.drv.length),(1003,.map FY (F3 0 S.infs)),(1004,.dead),(16000,.tok 4 ((AR (dec++[cs[i]])).map Am).length),(20100,.tok 10 ((dec++[cs[i]]).map AT).length)] Z11 ⟨Zr,Zr,Zr,⟨(show(.arr 1 ((st.map Bq)++[[sl CB sk]]):HO)=.arr 1 ((st++[sk]).map Bq) by simp),rfl⟩,⟨(show(.cells [sl Bb roots,.cmap Cq C,.cmap Cq A,.slice (.id 1001 6) (S.infs.map Dz),.slice (.id 1002 1) (S.drv.map Do),.mref 1003,vb S.full,.slice (.id 20100 10) ((dec.map AT)++[(AT cs[i])]),.slice (.id 16000 4) ((AR (dec++[cs[i]])).map Am),.msl 500 ((st.map Bq).length+([[sl CB sk]]:List (List AV)).length)]:HO)=.cells [sl Bb roots,.cmap Cq C,.cmap Cq A,.slice (.id 1001 6) (S.infs.map Dz),.slice (.id 1002 1) (S.drv.map Do),.mref 1003,vb S.full,.slice (.id 20100 10) ((dec++[cs[i]]).map AT),.slice (.id 16000 4) ((AR (dec++[cs[i]])).map Am),.msl 500 (st++[sk]).length] by simp),rfl⟩,Zr,Zr,Zr,Zr,Zr,⟨(show(.tok 10 ((dec.map AT).length+([(AT cs[i])]:List (List AV)).length):HO)=.tok 10 ((dec++[cs[i]]).map AT).length by simp),rfl⟩,Tv⟩ ?_)))
   have GM:jI dec (n0::l) cs[i]=true:=QL.2 ⟨fun n hn=>by have q:=DZ.1 h6.2 n hn;simpa using q,dv⟩;have mK:=ih cs[i] (hcm i n3) GM S (st++[sk]) (by simp[KL]) j3 (by simpa using h4);refine CT (show ∃o,o=DF x roots n (dec++[cs[i]]) S (st++[sk])from⟨_,rfl⟩) (fun o ho=>?_);rw[<-ho]at mK;have hrc:Ba Tryz.prog 137 [.ref 1000 0] (Ap (J4 roots C A S (dec++[cs[i]]) (st++[sk])) Ae) (fun r h'=>r=.tup [vi (o.res:Nat),vb o.found]/\h'=Ap (srE roots C A o.ss o.dec o.stack) Ae):=mK.1;have w7:=mK.2.1;have hrn:=mK.2.2.1;refine Cf (Bt o.found) (fun pp=>?_) (fun pp=>?_)
   .skip
    rw[pp]at hrc;refine Xi (.gen cC 1) (Yi rfl (Ba.imp hrc ?_));intro v39 g39 q39;have AdV:=q39.1;have AdW:=q39.2;subst AdV;subst AdW;refine cU [(0,.ref 1000 0),(4,vs p),(5,sl BH (n0::l)),(6,.slice (.id 6 1) (rs.map Dd)),(7,.slice (.id 7 3) (sk.map CB)),(9,.ref 9 0),(12,vi (o.res:Nat)),(16,sl AT dec),(17,sl Am (AR dec)),(18,vb true),(32,sl AT cs),(33,vi (cs.map AT).length),(34,vi i)] [(6,.tok 1 rs.length),(7,.tok 3 sk.length),(9,.ro (AT cs[i])),(1000,.cells (srM roots C A o.ss o.dec 22200 o.stack.length)),(1001,.tok 6 o.ss.infs.length),(1002,.tok 1 o.ss.drv.length),(1003,.map FY (F3 0 o.ss.infs)),(1004,.dead),(22200,.arr 1 (o.stack.map Bq))] Z13 Z9 (Yi (show o.stack.length=(o.stack.map Bq).length by simp) (cU [] [(500,.arr 1 (o.stack.map Bq)),(1000,.cells (srM roots C A o.ss o.dec 500 o.stack.length)),(1001,.tok 6 o.ss.infs.length),(1002,.tok 1 o.ss.drv.length),(1003,.map FY (F3 0 o.ss.infs)),(1004,.dead)] Tv Z6 ?_))
    have Y0:S.full=false:=by simpa using h4
    have eR:R=⟨0,true,o.ss,o.dec,o.stack⟩:=by rw[<-j2];rw[YE (sk:=sk) n3 Y0 h6.2 KV dv ho,Al pp]
    exact Xi _ (Yi (.refl _) (OJ (fJ.trans eR)))
   skip
   rw[pp]at hrc;have hrk:=mK.2.2.2 pp;have SN:o.stack.length=st.length+1:=by rw[hrk];simp
   refine Xi (.gen cC 1) (Yi rfl (Ba.imp hrc ?_));intro v41 g41 q41;have AdX:=q41.1;have AdY:=q41.2;subst AdX;subst AdY;refine cU [(0,.ref 1000 0),(4,vs p),(5,sl BH (n0::l)),(6,.slice (.id 6 1) (rs.map Dd)),(7,.slice (.id 7 3) (sk.map CB)),(9,.ref 9 0),(12,vi (o.res:Nat)),(16,sl AT dec),(17,sl Am (AR dec)),(18,vb false),(32,sl AT cs),(33,vi (cs.map AT).length),(34,vi i)] [(6,.tok 1 rs.length),(7,.tok 3 sk.length),(9,.ro (AT cs[i])),(1000,.cells (srM roots C A o.ss o.dec 22200 o.stack.length)),(1001,.tok 6 o.ss.infs.length),(1002,.tok 1 o.ss.drv.length),(1003,.map FY (F3 0 o.ss.infs)),(1004,.dead),(22200,.arr 1 (o.stack.map Bq))] Z13 Z9 (yN (yN (cU [(0,.ref 1000 0),(4,vs p),(5,sl BH (n0::l)),(6,.slice (.id 6 1) (rs.map Dd)),(7,.slice (.id 7 3) (sk.map CB)),(9,.ref 9 0),(12,vi (o.res:Nat)),(32,sl AT cs),(33,vi (cs.map AT).length),(34,vi i)] [(6,.tok 1 rs.length),(7,.tok 3 sk.length),(9,.ro (AT cs[i])),(1000,.cells (srM roots C A o.ss dec 22200 o.stack.length)),(1001,.tok 6 o.ss.infs.length),(1002,.tok 1 o.ss.drv.length),(1003,.map FY (F3 0 o.ss.infs)),(1004,.dead),(22200,.arr 1 (o.stack.map Bq))] Z10 Z9 (Yi (by show AX ((o.stack.length:Int)-(1:Int));unfold AX;omega) (Yi ⟨(show o.stack.length=(o.stack.map Bq).length by simp),(show(0:Int)<=o.stack.length-1 by omega),(show(o.stack.length-1:Int)<=((o.stack.map Bq).length:Nat) by rw[Lm];omega)⟩ (yN (Yi Wk (Yi (show(o.stack.length-1:Int).toNat=(((o.stack.map Bq).take (o.stack.length-1:Int).toNat):List (List AV)).length by simp) ?_))))))));have yQ:((o.stack.map Bq).take ((o.stack.length:Int)-1).toNat)=st.map Bq/\((o.stack.length:Int)-1).toNat=st.length:=yS hrk;refine cU [(0,.ref 1000 0),(4,vs p),(5,sl BH (n0::l)),(6,.slice (.id 6 1) (rs.map Dd)),(7,.slice (.id 7 3) (sk.map CB)),(9,.ref 9 0),(12,vi (o.res:Nat)),(32,sl AT cs),(33,vi (cs.map AT).length),(34,vi i)] [(6,.tok 1 rs.length),(7,.tok 3 sk.length),(9,.ro (AT cs[i])),(500,.arr 1 (st.map Bq)),(1000,.cells (srM roots C A o.ss dec 500 st.length)),(1001,.tok 6 o.ss.infs.length),(1002,.tok 1 o.ss.drv.length),(1003,.map FY (F3 0 o.ss.infs)),(1004,.dead)] Z10 ⟨Zr,Zr,Zr,⟨(show(.arr 1 ((o.stack.map Bq).take (o.stack.length-1:Int).toNat):HO)=.arr 1 (st.map Bq) by rw[yQ.1]),rfl⟩,⟨(show(.cells (srM roots C A o.ss dec 500 (o.stack.length-1:Int).toNat):HO)=.cells (srM roots C A o.ss dec 500 st.length) by rw[yQ.2]),rfl⟩,Zr,Zr,Zr,Zr,Tv⟩ ?_
   refine Yi (fun h42=>?_) (fun h42=>?_)
   .have Y0:S.full=false:=by simpa using h4
    have eR:R=⟨0,false,o.ss,dec,st⟩:=by rw[<-j2];rw[YE (sk:=sk) n3 Y0 h6.2 KV dv ho,Aj (by rw[pp];decide),Al h42]
    exact Xi _ (Yi (.refl _) (OJ (fJ.trans eR)))
   have fO:o.ss.full=false:=h42;refine cU [(0,.ref 1000 0),(4,vs p),(5,sl BH (n0::l)),(6,.slice (.id 6 1) (rs.map Dd)),(7,.slice (.id 7 3) (sk.map CB)),(9,.ref 9 0),(12,vi (o.res:Nat)),(32,sl AT cs),(33,vi (cs.map AT).length),(34,vi i)] [(6,.tok 1 rs.length),(7,.tok 3 sk.length),(9,.ro (AT cs[i])),(500,.arr 1 (st.map Bq)),(1000,.cells (srM roots C A o.ss dec 500 st.length)),(1001,.tok 6 o.ss.infs.length),(1002,.tok 1 o.ss.drv.length),(1003,.map FY (F3 0 o.ss.infs)),(1004,.dead)] Z10 Z9 (Xi (Do (EW o.ss o.res)) (Yi (Yi (show(0:Int)<=((o.res:Nat):Int) by omega) (Eo (FB (hrn.2 pp fO)))) (Yi rfl ?_)));have Y0:S.full=false:=by simpa using h4
   have WC:o.res<o.ss.drv.length:=(hrn.2 pp fO);have fP:=w7.der.few hx hr;refine Cf (Bt (Eh (EW o.ss o.res) p)) (fun xX=>?_) (fun xX=>?_)
   .refine Xi .pure (Xi _ (Yi (cb xX (pH (EW o.ss o.res) p (FG (fP _ (Aw (FB WC)))))) (cU [(0,.ref 1000 0),(4,vs p),(5,sl BH (n0::l)),(6,.slice (.id 6 1) (rs.map Dd)),(7,.slice (.id 7 3) (sk.map CB)),(9,.ref 9 0),(12,vi (o.res:Nat)),(32,sl AT cs),(33,vi (cs.map AT).length),(34,vi i)] [(6,.tok 1 rs.length),(7,.tok 3 sk.length),(9,.ro (AT cs[i])),(500,.arr 1 (st.map Bq)),(1000,.cells (srM roots C A o.ss dec 500 st.length)),(1001,.tok 6 o.ss.infs.length),(1002,.tok 1 o.ss.drv.length),(1003,.map FY (F3 0 o.ss.infs)),(1004,.dead)] Z10 Z9 (Yi (kF rfl ch Cl) (Yi (kF rfl ch Cl) (Yi (Ii i ch) ?_))))));have eA:=(YE (rec:=DF x roots n) (x:=x) (p:=p) (n0:=n0) (st:=st) (rs:=rs) (sk:=sk) n3 Y0 h6.2 KV dv ho);rw[Aj (by rw[pp];decide),Aj (by rw[fO];decide)]at eA;have eN:EJ (DF x roots n) x p (n0::l) n0 dec st (cs.drop (i+1)) o.ss (rs++[o.res]) (sk++[(⟨p,cs[i].place,(o.res:Nat)⟩:Sk)])=R:=by rw[<-Yq (c:=cs[i]) xX,<-eA];exact j2
    refine Xi ⟨(i+1,o.ss,rs++[o.res],sk++[(⟨p,cs[i].place,(o.res:Nat)⟩:Sk)]),FX n3,eN,w7,fun r h=>(AO.1 h).elim ((fun r h=>BC (j4 r h) hrn.1) r) (fun h=>by rw[Ar.1 h];exact WC),(by rw[Ac];exact EV j5),(by rw[Ac];exact EV j6)⟩ ?_;exact⟨Dl cs.length i ch,⟨Zr,Zr,Zr,⟨(show AV.slice (.id 6 1) (rs.map Dd++[[vi ((o.res:Nat):Int)]])=.slice (.id 6 1) ((rs++[o.res]).map Dd) by rw[As];rfl),rfl⟩,⟨(show AV.slice (.id 7 3) (sk.map CB++[[vs p,vi cs[i].place,vi ((o.res:Nat):Int)]])=.slice (.id 7 3) ((sk++[(⟨p,cs[i].place,(o.res:Nat)⟩:Sk)]).map CB) by rw[As];rfl),rfl⟩,Zr,Zr,Zr,Tv⟩,⟨⟨(show HO.tok 1 ((rs.map Dd).length+([[vi ((o.res:Nat):Int)]]:List (List AV)).length)=.tok 1 (rs++[o.res]).length by simp),rfl⟩,⟨(show HO.tok 3 ((sk.map CB).length+([[vs p,vi cs[i].place,vi ((o.res:Nat):Int)]]:List (List AV)).length)=.tok 3 (sk++[(⟨p,cs[i].place,(o.res:Nat)⟩:Sk)]).length by simp),rfl⟩,Zr,Zr,Zr,Zr,Zr,Zr,Tv⟩,Fh,BT Wk⟩
   refine Xi .pure (Xi _ (Yi (cb xX (pH (EW o.ss o.res) p (FG (fP _ (Aw (FB WC)))))) (cU [(12,vi (o.res:Nat))] [(500,.arr 1 (st.map Bq)),(1000,.cells (srM roots C A o.ss dec 500 st.length)),(1001,.tok 6 o.ss.infs.length),(1002,.tok 1 o.ss.drv.length),(1003,.map FY (F3 0 o.ss.infs)),(1004,.dead)] Z1 Z6 ?_)))
   have eA:=(YE (rec:=DF x roots n) (x:=x) (p:=p) (n0:=n0) (st:=st) (rs:=rs) (sk:=sk) n3 Y0 h6.2 KV dv ho);rw[Aj (by rw[pp];decide),Aj (by rw[fO];decide)]at eA;have eR:R=⟨o.res,false,o.ss,dec,st⟩:=by rw[<-j2];rw[eA];exact fc xX
   exact Xi _ (Yi (.refl _) (OJ (fJ.trans eR)))
  have n3:=DP h3;refine Xi (BH n0) (Yi (Yi (show(0:Int)<=0 by decide) rfl) (Yi rfl (yN (Xi (.gen cC 0) (Yi rfl (Ba.imp (s91 x roots C A S dec st p n0 rs V hx hr j3 hinf0 j4 ch (hnq n0 (Ab ..)) (hnp n0 (Ab ..)) x8 x9 ya) ?_))))));intro v49 g49 q49;have AdZ:=q49.1;have Ae0:=q49.2;subst AdZ;subst Ae0;have hj:¬i<cs.length:=by have q:=h3;rw[Lm]at q;omega
  have eR:R=⟨(Es x p n0 rs S).1,false,(Es x p n0 rs S).2,dec,st⟩:=by rw[<-j2];exact lD hj
  exact Xi _ (Yi (.refl _) (OJ (fJ.trans eR)))
 exact absurd Od hC2
theorem Ael(hL:Lvl x roots C A n dec p n0 l V cs)(hs:L6 x roots s)(KL:st.length=dec.length)(Tt:Ba Tryz.prog 186 [.ref 1000 0] (Ap (J4 roots C A s dec st) Ae) fun r h'=>r=.tup [vs p,sl BH (n0::l)]/\h'=Ap (J4 roots C A s dec st) Ae)(yn:cs=[])(hC2:∀a,(Value.string p,a)∉C)(hR:EJ (DF x roots n) x p (n0::l) n0 dec st cs s [] []=R)(fJ:O=R) :
  Ba Tryz.prog 137 [.ref 1000 0] (Ap (J4 roots C A s dec st) Ae) (cD roots C A O):=by
 obtain⟨hx,hr,hdl,hcl,hcs,hnl,hnq,hnp,hex,hcx,hcq,hcp_,hcr,hcs_,hkey,hinf0,⟨x8,x9,ya⟩,ih⟩:=hL;have hcm:∀(i:Nat) (h:i<cs.length),cs[i]∈CC x p:=fun i h=>by rw[<-hcs];exact Aq h
 have wX:∀(i:Nat) (h:i<cs.length),Cb (AR (dec++[cs[i]])):=fun i h=>by unfold Cb AR;rw[Lm,Ac];simp;omega
 clear hcs
 refine Cu (M7 ⟨[9],[(6,1),(7,3),(145,1)],[],[],[],[],[],[],[],[(300001,500091000),(300026,500091000),(300029,500091000)],[1,2,5,10,11,13,14,15,16,17,19,21,22,23,24,25,26,28,29,31,32,33,35]⟩) [(1000,1000),(1001,1001),(1002,1002),(1003,1003),(1004,1004),(500,2000)] rfl Da hm rfl Tryz.func137 Wk rfl (Nz rfl) Wk rfl (Yi (show st.length=(st.map Bq).length by simp) (cU [(0,.ref 1000 0)] [(500,.arr 1 (st.map Bq)),(1000,.cells (srM roots C A s dec 500 st.length)),(1001,.tok 6 s.infs.length),(1002,.tok 1 s.drv.length),(1003,.map FY (F3 0 s.infs)),(1004,.dead)] Z1 Z6 (Xi (.gen cC 0) (Yi rfl (Ba.imp Tt ?_)))));intro v1 g1 q1;have ry:=q1.1;have rz:=q1.2;subst ry;subst rz;refine cU [(0,.ref 1000 0),(4,vs p),(5,sl BH (n0::l))] [(500,.arr 1 (st.map Bq)),(1000,.cells (srM roots C A s dec 500 st.length)),(1001,.tok 6 s.infs.length),(1002,.tok 1 s.drv.length),(1003,.map FY (F3 0 s.infs)),(1004,.dead)] Z3 Z6 (Yi (fun h2=>?_) (fun h2=>?_))
 .exact absurd h2 (by simp;omega)
 refine cU [(0,.ref 1000 0),(4,vs p),(5,sl BH (n0::l)),(6,.slice (.id 6 1) [])] [(6,.tok 1 0),(500,.arr 1 (st.map Bq)),(1000,.cells (srM roots C A s dec 500 st.length)),(1001,.tok 6 s.infs.length),(1002,.tok 1 s.drv.length),(1003,.map FY (F3 0 s.infs)),(1004,.dead)] Z4 Z7 (Yi (fun a ha=>?_) (fun Od=>?_))
 .exact absurd ha (hC2 a)
 refine Xi {q:Nat×SS×List Nat×List Sk // q.1<=cs.length/\EJ (DF x roots n) x p (n0::l) n0 dec st (cs.drop q.1) q.2.1 q.2.2.1 q.2.2.2=R/\L6 x roots q.2.1/\(∀r∈q.2.2.1,r<q.2.1.drv.length)/\q.2.2.1.length<=q.1/\q.2.2.2.length<=q.1} (Xi (fun q=>⟨[(0,.ref 1000 0),(4,vs p),(5,sl BH (n0::l)),(6,.slice (.id 6 1) (q.1.2.2.1.map Dd)),(7,.slice (.id 7 3) (q.1.2.2.2.map CB)),(32,nzA),(33,vi 0),(34,vi q.1.1)],[(6,.tok 1 q.1.2.2.1.length),(7,.tok 3 q.1.2.2.2.length),(500,.arr 1 (st.map Bq)),(1000,.cells (srM roots C A q.1.2.1 dec 500 st.length)),(1001,.tok 6 q.1.2.1.infs.length),(1002,.tok 1 q.1.2.1.drv.length),(1003,.map FY (F3 0 q.1.2.1.infs)),(1004,.dead)],Ae⟩) (Xi (fun q=>cs.length-q.1.1) (Yi (Xi ⟨(0,s,[],[]),Ax _,hR,hs,fun r h=>(by cases h),Ak _,Ak _⟩ ?_) ?_)))
 .exact⟨Z8,Z8,Fh,BT Wk⟩
 intro⟨⟨i,S,rs,sk⟩,j1,j2,j3,j4,j5,j6⟩;have j5:rs.length<=i:=j5;have hw:=j3.dl;have TK:∀t∈S.drv,kU t:=fun t ht=>by have q:=j3.der.few hx hr t ht;exact⟨FG q,q.2⟩
 refine Yi (fun h3=>?_) (fun h3=>?_)
 .have h3:(i:Int)<(0:Int):=h3;exact absurd h3 (by have q:=j1;rw[yn,Ao]at q;omega)
 have h3:¬((i:Int)<(0:Int)):=h3;refine Xi (BH n0) (Yi (Yi (show(0:Int)<=0 by decide) rfl) (Yi rfl (yN (Xi (.gen cC 0) (Yi rfl (Ba.imp (s91 x roots C A S dec st p n0 rs V hx hr j3 hinf0 j4 ch (hnq n0 (Ab ..)) (hnp n0 (Ab ..)) x8 x9 ya) ?_))))));intro v4 g4 q4;have q4a:=q4.1;have q4b:=q4.2;subst q4a;subst q4b;have hj:¬i<cs.length:=by rw[yn];simp
 have eR:R=⟨(Es x p n0 rs S).1,false,(Es x p n0 rs S).2,dec,st⟩:=by rw[<-j2];exact lD hj
 exact Xi _ (Yi (.refl _) (OJ (fJ.trans eR)))
theorem Aen(N:List Nd)(O:La)(hN:N=[])(Tt:Ba Tryz.prog 186 [.ref 1000 0] (Ap (J4 roots C A s dec st) Ae) fun r h'=>r=.tup [vs p,sl BH N]/\h'=Ap (J4 roots C A s dec st) Ae)(hO:O=⟨0,true,s,dec,st⟩) :
  Ba Tryz.prog 137 [.ref 1000 0] (Ap (J4 roots C A s dec st) Ae) (cD roots C A O):=by
 refine Cu (M7 ⟨[],[],[],[],[],[],[],[],[],[(300001,500091000)],[1,2,5,10,11,13,14,15,16,17,19,21,22,23,25,28,29,31,32,33,35]⟩) [(1000,1000),(1001,1001),(1002,1002),(1003,1003),(1004,1004),(500,2000)] rfl Da hm rfl Tryz.func137 Wk rfl (Nz rfl) Wk rfl (Yi (show st.length=(st.map Bq).length by simp) (cU [(0,.ref 1000 0)] [(500,.arr 1 (st.map Bq)),(1000,.cells (srM roots C A s dec 500 st.length)),(1001,.tok 6 s.infs.length),(1002,.tok 1 s.drv.length),(1003,.map FY (F3 0 s.infs)),(1004,.dead)] Z1 Z6 (Xi (.gen cC 0) (Yi rfl (Ba.imp Tt ?_)))));intro v1 g1 q1;have ry:=q1.1;have rz:=q1.2;subst ry;subst rz;refine cU [(0,.ref 1000 0),(4,vs p),(5,sl BH N)] [(500,.arr 1 (st.map Bq)),(1000,.cells (srM roots C A s dec 500 st.length)),(1001,.tok 6 s.infs.length),(1002,.tok 1 s.drv.length),(1003,.map FY (F3 0 s.infs)),(1004,.dead)] Z3 Z6 (Yi (fun h2=>?_) (fun h2=>?_))
 .exact Xi _ (Yi (.refl _) (OJ (st:=st) hO))
 exact absurd (by rw[hN];rfl) h2
section
variable {x:List Rl}{roots:List Rq}{p:ByteArray}
theorem I8:∀(l:List Nat) {k:Nat} {s:SS},s.infs.Nodup->(CD p l k s).2.infs.Nodup
 | [],_,_,h=>h
 |r::l,k,s,h=>by
  unfold CD;split
  .exact h
  split
  .exact I8 l h
  split
  .exact I8 l h
  .exact I8 l (IT h)
theorem L9{needs:List Nd}{n0:Nd}{dec:List Cd}{st:List (List Sk)}{rec:List Cd->SS->List (List Sk)->La}(jc:∀c s st,s.infs.Nodup->(rec (dec++[c]) s st).ss.infs.Nodup) :
  ∀(cs:List Cd) {s:SS} {rs:List Nat} {sk:List Sk},s.infs.Nodup->(EJ rec x p needs n0 dec st cs s rs sk).ss.infs.Nodup
 | [],s,rs,sk,h=>I8 _ (IT (IT h))
 |c::cs,s,rs,sk,h=>by
  have tE:∀(s' : SS) (k:Nat),s'.infs.Nodup->(KO rec x p needs n0 dec st c cs rs sk k s').ss.infs.Nodup:=fun s' k h'=>by
   unfold KO;split
   .exact h'
   .exact L9 jc cs h'
  rw[GX];split
  .exact h
  cases needs.find? fun n=>!has n.rq.set c.place with
  |some n=>exact L9 jc cs (IT h)
  |none=>
   dsimp only;cases P0 s.drv (AR (dec++[c]))with
   |some k=>exact tE s k h
   |none=>
    dsimp only;cases ED dec c with
    |some n=>exact tE _ _ (IT h)
    |none=>
     dsimp only;have h2:=jc c s (st++[sk]) h;split
     .exact h2
     split
     .exact h2
     .exact tE _ _ h2
theorem Q0:∀(n:Nat) {dec:List Cd} {s:SS} {st:List (List Sk)},s.infs.Nodup->(DF x roots n dec s st).ss.infs.Nodup
 |0,_,_,_,h=>h
 |n+1,dec,s,st,h=>by
  unfold DF;cases (Ho roots dec).2 with
  |nil=>exact h
  |cons n0 l=>exact L9 (fun c s st h=>Q0 n h) _ h
structure Env(x:List Rl)(roots:List Rq)(C A:List (Value×AV)):Prop where
 hx:A5 x=0
 hr:BN roots=0
 fx:∀r∈x,EG r
 fr:∀q∈roots,Kd q
 c1:∀(p:ByteArray) (a:AV),(Value.string p,a)∈C->a=sl AT (CC x p)
 c2:∀p:ByteArray,(∀a,(Value.string p,a)∉C)->CC x p=[]
 c3:∀p:ByteArray,CC x p=[]->∀a,(Value.string p,a)∉C
 av:∀p:ByteArray,∃V,HV x A p V
theorem un{dec:List Cd}(h:∀c∈dec,c.rel.reqs.length<=16):((dec.map fun c=>c.rel.reqs).flatten).length<=16*dec.length:=by
 induction dec with
 |nil=>simp
 |cons c dec ih=>
  rw[AK,BD,Ac,Ag]
  have:=h c (Ab ..)
  have:=ih fun d hd=>h d (Ah _ hd)
  omega
theorem vB{r:Rl}(h:Ub r):0<=plc r.ver/\plc r.ver<1000000:=by rw[h.plc];exact Ku h.val
theorem jA(dec:List Cd):(Ho roots dec).2.length<=(DR roots dec).length:=by
 rw[Vs];cases LQ (IG roots dec) (AR dec)with
 |none=>simp
 |some q=>exact Bw _ _
theorem s45{C A:List (Value×AV)}(hE:Env x roots C A)(kJ:H64 roots C A):∀(n:Nat) {dec:List Cd} {s:SS} {st:List (List Sk)},E5 x dec->Je roots dec->L6 x roots s->s.full=false->SH x dec<n->st.length=dec.length ->
  Ba Tryz.prog 137 [.ref 1000 0] (Ap (J4 roots C A s dec st) Ae) (cD roots C A (DF x roots n dec s st))
 |0,_,_,_,_,_,_,_,h,_=>by omega
 |n+1,dec,s,st,hd,jd,hs,hf,hn,KL=>by
  have hx:=hE.hx;have hr:=hE.hr;have sV:=Mn hx;have hdl:=aj hd;have yo:dec.length<=256:=by have:=sV.1;omega
  have hrl:∀c∈dec,c.rel.reqs.length<=16:=fun c hc=>sV.2 _ (hd.cand c hc).1;have Tt:=kJ s dec st ch fun c hc=>AI (hrl c hc) Cl;generalize hO:DF x roots (n+1) dec s st=O;obtain⟨N,hN⟩:∃N,N=(Ho roots dec).2:=⟨_,rfl⟩;obtain⟨q,hq⟩:∃q,q=(Ho roots dec).1:=⟨_,rfl⟩;rw[<-hN,<-hq]at Tt;have hNl:N.length<=10000:=by
   have h1:=jA (roots:=roots) dec;have h2:(DR roots dec).length=(IG roots dec).length:=by rw[<-NZ,Lm]
   have h3:=un hrl;have h4:=QT hr;rw[<-hN]at h1;unfold IG at h2;rw[Ac]at h2;omega
  cases hNc:N with
  |nil=>
   rw[hNc]at hN Tt;refine Aen roots C A s dec st q [] O rfl Tt ?_;rw[<-hO];unfold DF;rw[<-hN]
  |cons n0 l=>
   rw[hNc]at hN Tt;have hNx:=Pk hN.symm;rw[<-hq]at hNx;have Tu:∀nd∈n0::l,nd∈DR roots dec:=fun nd h=>((hNx.mem nd).1 h).1;have GM:=(CA hx).1;have few:∀{E:List Cd},E5 x E->∀nd∈DR roots E,Cb nd.rq.set/\AX (nd.place+1):=fun hE' nd h=>by
    rcases Nt h with ⟨k,r,h1,rfl⟩ | ⟨c,hc,k,r,h1,rfl⟩
    .exact⟨(hE.fr r (Aw h1)).1,by unfold AX;show -9223372036854775808<=(0:Int)+1/\(0:Int)+1<9223372036854775808;decide⟩
    .have h2:=hE'.cand c hc;have h3:=vB (GM _ h2.1);rw[<-h2.2.2]at h3;exact⟨((hE.fx _ h2.1).2 r (Aw h1)).1,by unfold AX;show _<=c.place+1/\c.place+1<_;omega⟩
   have sT:∀c∈CC x q,E5 x (dec++[c])/\c.rel.path=q/\c.rel∈x:=fun c hc=>by
    obtain⟨c1,c2⟩:=KQ hc;exact⟨hd.snoc c2 (by rw[c1];exact hNx.undone),c1,c2.1⟩
   have FN:∀(i:Nat) (h:i<(CC x q).length),(CC x q)[i]∈CC x q:=fun i h=>Aq h;obtain⟨V,hV⟩:=hE.av q
   have hL:Lvl x roots C A n dec q n0 l V (CC x q):={
    hx:=hx
    hr:=hr
    hdl:=yo
    hcl:=AI (Xj x q) sV.1
    hcs:=rfl
    hnl:=by rw[hNc]at hNl;omega
    hnq:=fun nd h=>(few hd nd (Tu nd h)).1
    hnp:=fun nd h=>(few hd nd (Tu nd h)).2
    hex:=fun i h nd hm hh=>by
     obtain⟨a,b,_⟩:=sT _ (FN i h);exact⟨(QD hx hr a (Ph (Tu nd hm)) ⟨(CC x q)[i],by simp,b.trans ((hNx.mem nd).1 hm).2.symm,hh⟩).1,trivial⟩
    hcx:=fun i h nc hc=>by
     obtain⟨a,b,_⟩:=sT _ (FN i h);obtain⟨m1,m2⟩:=Me hc;exact⟨(QD hx hr a (N0 m1) m2).1,trivial⟩
    hcq:=fun i h nc hm=>(few (sT _ (FN i h)).1 nc (N0 hm)).1
    hcp_:=fun i h nc hm=>(few (sT _ (FN i h)).1 nc (N0 hm)).2
    hcr:=fun i h=>by have:=sV.2 _ (sT _ (FN i h)).2.2;omega
    hcs_:=fun i h r hm=>((hE.fx _ (sT _ (FN i h)).2.2).2 r hm).1
    hkey:=fun i h=>by
     have b:=(sT _ (FN i h)).2.1;unfold AR;rw[As,As];show _=_++[[vs (CC x q)[i].rel.path,vi (CC x q)[i].rel.ver.a,vi (CC x q)[i].rel.ver.b,vi (CC x q)[i].rel.ver.c]];rw[b]
    hinf0:=(TM hx hr hd (Tu n0 (Ab ..)) (.inl (by
     rw[((hNx.mem n0).1 (Ab ..)).2];exact Iw (by rw[Gt];exact hNx.undone)))).inf
    hV:=hV
    ih:=fun c hc Ad7 S EF hl hS hSf=>by
     obtain⟨a,b,c3⟩:=sT c hc;obtain⟨k1,k2⟩:=QL.1 Ad7;obtain⟨_,c2⟩:=KQ hc;have sR:=jd.snoc hNx b k1 k2;have kO:SH x (dec++[c])<n:=by have:=UR (dec:=dec) ⟨c2.1,c2.2.1⟩ (by rw[b];exact hNx.undone);omega
     have h1:=s45 hE kJ n a sR hS hSf kO (st:=EF) (by rw[hl];simp);have h2:=Sd hx hr n a sR hS.der hSf kO (st:=EF);exact⟨h1,⟨h2.der,Q0 n hS.nodup⟩,⟨h2.grow.len,fun e1 e2=>((h2.no e1).2.2 e2).1⟩,fun e1=>(h2.no e1).2.1⟩ }
   have hR:EJ (DF x roots n) x q (n0::l) n0 dec st (CC x q) s [] []=O:=by
    rw[<-hO]
    conv=>rhs;unfold DF
    rw[<-hN,hq]
   by_cases hm:∀a,(Value.string q,a)∉C
   .exact Ael x roots C A n s dec st q n0 l V (CC x q) O O hL hs KL Tt (hE.c2 q hm) hm hR rfl
   .exact Aek x roots C A n s dec st q n0 l V (CC x q) O O hL hs KL Tt (hE.c1 q) hm hR rfl
end
theorem Aem{x:List Rl}{roots:List Rq}{C A:List (Value×AV)}(hE:Env x roots C A)(n:Nat){dec:List Cd}{s:SS}{st:List (List Sk)}(h1:E5 x dec)(h2:Je roots dec)(h3:L6 x roots s)(h4:s.full=false)(h5:SH x dec<n)(h6:st.length=dec.length) :
  Ba Tryz.prog 137 [.ref 1000 0] (Ap (J4 roots C A s dec st) Ae) (cD roots C A (DF x roots n dec s st)):=
 s45 hE (fun s dec st a b=>s64 roots C A s dec st (AI (QT hE.hr) Cl) a b) n h1 h2 h3 h4 h5 h6
def GN:Bool:=decide (A5 x=0)&&decide (BN roots=0)
theorem s28(ifs:List (List AV))(roots:List Rq)(hx:∀r∈x,EG r)(hr:∀q∈roots,Kd q):PC 135 [.agg (Ic x ifs),sl Bb roots] (vb (GN x roots)):=by
 refine Ps (pC [2] []) Tryz.func135 rfl (Nz rfl) (yN (Xi .pure (Xi _ (Yi (wL Ww x ifs hx) (Yi (fun h1=>?_) (fun h1=>?_))))))
 .refine Xi .pure (Xi _ (Yi (c65 Ww roots hr) (Yi (fun h2=>?_) (fun h2=>?_))))
  .exact .of_eq (show vb true=vb (GN x roots) by unfold GN;rw[h1,h2];rfl)
  exact .of_eq (show vb false=vb (GN x roots) by unfold GN;rw[AD h2,Dw])
 exact .of_eq (show vb false=vb (GN x roots) by unfold GN;rw[AD h1];rfl)
end Go.Eng
