/- Lemmas for the claims of this seat, without a condition: part 26 (S8c, S8d, S8e, S11, S12). -/
import Derived.Test.YteaiieomnhbmgaaGreatDoorA25
set_option maxHeartbeats 16000000
namespace Go.Eng
open Go.Proofs
variable (x:List Rl)(roots:List Rq)(C A:List (Value×AV))(n:Nat)(s:SS)(dec:List Cd)(st:List (List Sk))(p:ByteArray)(n0:Nd)(l:List Nd)(V:AV)(cs:List Cd)(R O:KO)
theorem c9{α:Type}(o:Option α):(∃x,o=some x)\/o=none:=by
 cases o with
 |none=>exact .inr rfl
 |some x=>exact .inl ⟨x,rfl⟩
theorem xA{T st:List (List Sk)}{sk:List Sk}(h:T=st++[sk]):((T.map Bn).take ((T.length:Int)-1).toNat)=st.map Bn/\((T.length:Int)-1).toNat=st.length:=by
 have e:((T.length:Int)-1).toNat=st.length:=by rw[h,Ac,Bb];omega
 refine⟨?_,e⟩;rw[e,h,Ar,HI B0,As B0]
abbrev HV:Prop:=(∀a,(Value.string p,a)∈A->a=V)/\((∀a,(Value.string p,a)∉A)->V=nzA)/\∀h,PC 261 [vs p,str h V] (sl AN (IA p (Ch x p)))
abbrev jT(n:Nd):Prop:=∀d,Ec x roots d (UA n)=some (JH n)
structure Lvl(x:List Rl)(roots:List Rq)(C A:List (Value×AV))(n:Nat)(dec:List Cd)(p:ByteArray)(n0:Nd)(l:List Nd)(V:AV)(cs:List Cd):Prop where
 hx:A4 x=0
 hr:BI roots=0
 hdl:dec.length<=256
 hcl:cs.length<=256
 hcs:cs=Cz x p
 hnl:(n0::l).length<9223372036854775807
 hnq:∀n∈n0::l,B9 n.rq.set
 hnp:∀n∈n0::l,A7 (n.place+1)
 hex:∀(i:Nat) (h:i<cs.length),∀nd∈n0::l,has nd.rq.set cs[i].place=false->jT x roots nd/\True
 hcx:∀(i:Nat) (h:i<cs.length) (nc:Nd),Er dec cs[i]=some nc->jT x roots nc/\True
 hcq:∀(i:Nat) (h:i<cs.length) (nc:Nd),nc∈Rm cs[i]->B9 nc.rq.set
 hcp_:∀(i:Nat) (h:i<cs.length) (nc:Nd),nc∈Rm cs[i]->A7 (nc.place+1)
 hcr:∀(i:Nat) (h:i<cs.length),cs[i].rel.reqs.length<=1073741824
 hcs_:∀(i:Nat) (h:i<cs.length),∀q∈cs[i].rel.reqs,B9 q.set
 hkey:∀(i:Nat) (h:i<cs.length),(AR dec).map Am++[[vs p,vi cs[i].rel.ver.a,vi cs[i].rel.ver.b,vi cs[i].rel.ver.c]]=(AR (dec++[cs[i]])).map Am
 hinf0:jT x roots n0
 hV:HV x A p V
 ih:∀c∈Cz x p,iR dec (n0::l) c=true->∀(S:SS) (Et : List (List Sk)),Et.length=dec.length+1->LJ x roots S->S.full=false ->
  A9 Tryz.prog 137 [.ref 1000 0] (Ao (JK roots C A S (dec++[c]) Et) Af) (bE roots C A (Dv x roots n (dec++[c]) S Et))/\LJ x roots (Dv x roots n (dec++[c]) S Et).ss /\
  (S.drv.length<=(Dv x roots n (dec++[c]) S Et).ss.drv.length/\((Dv x roots n (dec++[c]) S Et).found=false->(Dv x roots n (dec++[c]) S Et).ss.full=false->(Dv x roots n (dec++[c]) S Et).res<(Dv x roots n (dec++[c]) S Et).ss.drv.length)) /\
  ((Dv x roots n (dec++[c]) S Et).found=false->(Dv x roots n (dec++[c]) S Et).stack=Et)
theorem Adc(hL:Lvl x roots C A n dec p n0 l V cs)(hs:LJ x roots s)(Ku:st.length=dec.length)(SH:A9 Tryz.prog 186 [.ref 1000 0] (Ao (JK roots C A s dec st) Af) fun r h'=>r=.tup [vs p,sl BF (n0::l)]/\h'=Ao (JK roots C A s dec st) Af)(hC1:∀a,(Value.string p,a)∈C->a=sl AT cs)(hC2:¬∀a,(Value.string p,a)∉C)(hR:Ey (Dv x roots n) x p (n0::l) n0 dec st cs s [] []=R)(eh:O=R) :
  A9 Tryz.prog 137 [.ref 1000 0] (Ao (JK roots C A s dec st) Af) (bE roots C A O):=by
 obtain⟨hx,hr,hdl,hcl,hcs,hnl,hnq,hnp,hex,hcx,hcq,hcp_,hcr,hcs_,hkey,hinf0,⟨wR,wS,wT⟩,ih⟩:=hL;have hcm:∀(i:Nat) (h:i<cs.length),cs[i]∈Cz x p:=fun i h=>by rw[<-hcs];exact Aq h
 have vF:∀(i:Nat) (h:i<cs.length),B9 (AR (dec++[cs[i]])):=fun i h=>by unfold B9 AR;rw[Lm,Ac];simp;omega
 clear hcs
 refine Cq (MK ⟨[9],[(6,1),(7,3),(145,1)],[],[],[],[],[],[],[(60,3),(101,3)],[(300001,500091000),(300026,500091000),(300029,500091000)],[1,5,12,15,17,21,23,24,25,26,28,29,31,32,33]⟩) [(1000,1000),(1001,1001),(1002,1002),(1003,1003),(1004,1004),(500,2000)] rfl CQ hm rfl Tryz.func137 Wk rfl (Nz rfl) Wk rfl (Yi (show st.length=(st.map Bn).length by simp) (cU [(0,.ref 1000 0)] [(500,.arr 1 (st.map Bn)),(1000,.cells (srM roots C A s dec 500 st.length)),(1001,.tok 6 s.infs.length),(1002,.tok 1 s.drv.length),(1003,.map FI (FN 0 s.infs)),(1004,.dead)] Z1 Z6 (Xi (.gen bD 0) (Yi rfl (A9.imp SH ?_)))));intro v1 g1 q1;have qq:=q1.1;have qr:=q1.2;subst qq;subst qr;refine Yi (fun h2=>?_) (fun h2=>?_)
 .exact absurd h2 (by simp;omega)
 refine cU [(0,.ref 1000 0),(4,vs p),(5,sl BF (n0::l)),(6,.slice (.id 6 1) [])] [(6,.tok 1 0),(500,.arr 1 (st.map Bn)),(1000,.cells (srM roots C A s dec 500 st.length)),(1001,.tok 6 s.infs.length),(1002,.tok 1 s.drv.length),(1003,.map FI (FN 0 s.infs)),(1004,.dead)] Z4 Z7 (Yi (fun a ha=>?_) (fun NO=>?_))
 .have ea:=hC1 a ha;subst ea;refine Xi {q:Nat×SS×List Nat×List Sk // q.1<=cs.length/\Ey (Dv x roots n) x p (n0::l) n0 dec st (cs.drop q.1) q.2.1 q.2.2.1 q.2.2.2=R/\LJ x roots q.2.1/\(∀r∈q.2.2.1,r<q.2.1.drv.length)/\q.2.2.1.length<=q.1/\q.2.2.2.length<=q.1} (Xi (fun q=>⟨[(0,.ref 1000 0),(4,vs p),(5,sl BF (n0::l)),(6,.slice (.id 6 1) (q.1.2.2.1.map CU)),(7,.slice (.id 7 3) (q.1.2.2.2.map Cy)),(32,sl AT cs),(33,vi (cs.map AT).length),(34,vi q.1.1)],[(6,.tok 1 q.1.2.2.1.length),(7,.tok 3 q.1.2.2.2.length),(500,.arr 1 (st.map Bn)),(1000,.cells (srM roots C A q.1.2.1 dec 500 st.length)),(1001,.tok 6 q.1.2.1.infs.length),(1002,.tok 1 q.1.2.1.drv.length),(1003,.map FI (FN 0 q.1.2.1.infs)),(1004,.dead)],Af⟩) (Xi (fun q=>cs.length-q.1.1) (Yi (Xi ⟨(0,s,[],[]),AE _,hR,hs,fun r h=>(by cases h),Aj _,Aj _⟩ ?_) ?_)))
  .exact⟨Z8,Z8,Fh,BN Wk⟩
  intro⟨⟨i,S,rs,sk⟩,j1,j2,j3,j4,j5,j6⟩;have j5:rs.length<=i:=j5;have j6:sk.length<=i:=j6;have hw:=j3.dl;have S7:∀t∈S.drv,jS t:=fun t ht=>by have q:=j3.der.few hx hr t ht;exact⟨Fr q,q.2⟩
  refine Yi (fun h3=>?_) (fun h3=>?_)
  .have h3:(i:Int)<((cs.map AT).length:Int):=h3;have n3:=FW h3;refine Xi (AT cs[i]) (Yi (LH n3) (Yi rfl (yN (yN (Yi (fun h4=>?_) (fun h4=>?_))))))
   .have eR:R=⟨0,false,S,dec,st⟩:=by rw[<-j2];exact o0 n3 h4
    exact Xi _ (Yi (.refl _) (Oe (eh.trans eR)))
   have pp:=s86 (fF:=188) (caps:=[.cptr (AT cs[i])]) (fun c hc=>by obtain rfl:=Ap.1 hc;intro h;rfl) (n0::l) (fun n=>!has n.rq.set cs[i].place) (fun n hn=>s87 n cs[i] (hnq n hn)) hnl;refine B8 (ip (fun n=>!has n.rq.set cs[i].place) (n0::l)) (fun h6=>?_) (fun h6=>?_)
   .refine CN h6 (fun k86 h6=>CN h6 (fun nd h6=>?_));rw[h6.1]at pp;refine Xi .pure (Xi _ (Yi pp (cU [(0,.ref 1000 0),(4,vs p),(5,sl BF (n0::l)),(6,.slice (.id 6 1) (rs.map CU)),(7,.slice (.id 7 3) (sk.map Cy)),(9,.ref 9 0),(10,vi (k86:Nat)),(32,sl AT cs),(33,vi (cs.map AT).length),(34,vi i)] [(6,.tok 1 rs.length),(7,.tok 3 sk.length),(9,.ro (AT cs[i])),(500,.arr 1 (st.map Bn)),(1000,.cells (srM roots C A S dec 500 st.length)),(1001,.tok 6 S.infs.length),(1002,.tok 1 S.drv.length),(1003,.map FI (FN 0 S.infs)),(1004,.dead)] Z10 Z9 (Yi (fun _=>?_) (fun hf=>absurd (show(0:Int)<=((k86:Nat):Int) by omega) hf)))));refine Xi (BF nd) (Yi (Yi (show(0:Int)<=((k86:Nat):Int) by omega) (Ed h6.2.1)) (Yi rfl (yN ?_)));have tu:=hex i n3 nd (BE h6.2.2) (by have q:=DJ h6.2.2;simpa using q);obtain⟨b1,b2,b3⟩:=j3.add (tu.1 S.drv)
    change LJ x roots (BU S nd).2 at b1
    change (BU S nd).1<(BU S nd).2.drv.length at b2
    change S.drv.length<=(BU S nd).2.drv.length at b3
    refine Xi (.gen bD 0) (Yi rfl (A9.imp (s88 roots C A S dec st nd hw.1 hw.2.1 j3.nodup (hnq nd (Aw h6.2.1)) (hnp nd (Aw h6.2.1))) ?_));intro v7 g7 q7;have q7a:=q7.1;have q7b:=q7.2;subst q7a;subst q7b;refine Yi (jF rfl ch Cl) (Yi (Ii i ch) ?_);have Ym:S.full=false:=by simpa using h4
    have eN:Ey (Dv x roots n) x p (n0::l) n0 dec st (cs.drop (i+1)) (BU S nd).2 (rs++[(BU S nd).1]) sk=R:=by rw[<-wu n3 Ym h6.2.2];exact j2
    refine Xi ⟨(i+1,(BU S nd).2,rs++[(BU S nd).1],sk),FH n3,eN,b1,fun r h=>(AO.1 h).elim (fun h=>By (j4 r h) b3) (fun h=>by rw[Ap.1 h];exact b2),(by rw[Ac];exact EI j5),Nat.le_succ_of_le j6⟩ ?_;exact⟨Dl cs.length i ch,⟨Zr,Zr,Zr,⟨(show AV.slice (.id 6 1) (rs.map CU++[[vi (((BU S nd).1:Nat):Int)]])=.slice (.id 6 1) ((rs++[(BU S nd).1]).map CU) by rw[Ar];rfl),rfl⟩,Zr,Zr,Zr,Zr,Tv⟩,⟨⟨(show HO.tok 1 ((rs.map CU).length+([[vi (((BU S nd).1:Nat):Int)]]:List (List AV)).length)=.tok 1 (rs++[(BU S nd).1]).length by simp),rfl⟩,Zr,Zr,Zr,Zr,Zr,Zr,Zr,Tv⟩,Fh,BN Wk⟩
   skip
   rw[h6.1]at pp;refine Xi .pure (Xi _ (Yi pp (cU [(0,.ref 1000 0),(4,vs p),(5,sl BF (n0::l)),(6,.slice (.id 6 1) (rs.map CU)),(7,.slice (.id 7 3) (sk.map Cy)),(9,.ref 9 0),(10,vi (-1)),(32,sl AT cs),(33,vi (cs.map AT).length),(34,vi i)] [(6,.tok 1 rs.length),(7,.tok 3 sk.length),(9,.ro (AT cs[i])),(500,.arr 1 (st.map Bn)),(1000,.cells (srM roots C A S dec 500 st.length)),(1001,.tok 6 S.infs.length),(1002,.tok 1 S.drv.length),(1003,.map FI (FN 0 S.infs)),(1004,.dead)] Z10 Z9 (Yi (fun h=>absurd h Cl) (fun _=>?_)))));refine Xi _ (Xi _ (Yi Wk (Yi (sU (AR dec) (by unfold B9 AR;rw[Lm];omega)) (yN ?_))));have Wp:Cn 4 [[vs p,vi cs[i].rel.ver.a,vi cs[i].rel.ver.b,vi cs[i].rel.ver.c]]/\((AR dec).map Am).length=((AR dec).map Am).length/\(((AR dec).map Am).length+([[vs p,vi cs[i].rel.ver.a,vi cs[i].rel.ver.b,vi cs[i].rel.ver.c]]:List (List AV)).length)*40<=140737488355328/\((AR dec).map Am).length+([[vs p,vi cs[i].rel.ver.a,vi cs[i].rel.ver.b,vi cs[i].rel.ver.c]]:List (List AV)).length<=9223372036854775807:=⟨⟨rfl,trivial⟩,rfl,(by simp only[Lm,Ak,At];omega),(by simp only[Lm,Ak,At];omega)⟩;refine Yi Wp (Yi Wk (cU [(0,.ref 1000 0),(4,vs p),(5,sl BF (n0::l)),(6,.slice (.id 6 1) (rs.map CU)),(7,.slice (.id 7 3) (sk.map Cy)),(9,.ref 9 0),(11,.slice (.id 16000 4) ((AR (dec++[cs[i]])).map Am)),(32,sl AT cs),(33,vi (cs.map AT).length),(34,vi i)] [(6,.tok 1 rs.length),(7,.tok 3 sk.length),(9,.ro (AT cs[i])),(500,.arr 1 (st.map Bn)),(1000,.cells (srM roots C A S dec 500 st.length)),(1001,.tok 6 S.infs.length),(1002,.tok 1 S.drv.length),(1003,.map FI (FN 0 S.infs)),(1004,.dead),(16000,.tok 4 ((AR (dec++[cs[i]])).map Am).length)] ⟨Zr,Zr,Zr,Zr,Zr,Zr,⟨(show(.slice (.id 16000 4) (((AR dec).map Am)++[[vs p,vi cs[i].rel.ver.a,vi cs[i].rel.ver.b,vi cs[i].rel.ver.c]]):AV)=.slice (.id 16000 4) ((AR (dec++[cs[i]])).map Am) by rw[hkey i n3]),rfl⟩,Zr,Zr,Zr,Tv⟩ ⟨Zr,Zr,Zr,Zr,Zr,Zr,Zr,Zr,Zr,⟨(show(.tok 4 (((AR dec).map Am).length+([[vs p,vi cs[i].rel.ver.a,vi cs[i].rel.ver.b,vi cs[i].rel.ver.c]]:List (List AV)).length):HO)=.tok 4 ((AR (dec++[cs[i]])).map Am).length by rw[<-hkey i n3,Ac]),rfl⟩,Tv⟩ ?_))
   have pq:=s89 roots C A S dec st (AR (dec++[cs[i]])) hw.2.2 S7 (vF i n3);refine B8 (c9 (Pv S.drv (AR (dec++[cs[i]])))) (fun Mk=>?_) (fun Mk=>?_)
   .refine CN Mk (fun ke Mk=>?_);have eV:X4 S.drv (AR (dec++[cs[i]]))=.tup [vi (ke:Nat),vb true]:=by unfold X4;rw[Mk];rfl
    rw[eV]at pq;refine Xi (.gen bD 0) (Yi rfl (A9.imp pq ?_));intro v12 g12 qo;have uk:=qo.1;have ul:=qo.2;subst uk;subst ul;refine yN ?_;have Yk:=s69 roots C A S dec st cs[i] ch (hcr i n3) (hcs_ i n3);refine B8 (c9 (Er dec cs[i])) (fun RV=>?_) (fun RV=>?_)
    .refine CN RV (fun nc RV=>?_);have eW:sX (Er dec cs[i])=.tup [.agg (BF nc),vb true]:=by rw[RV];rfl
     rw[eW]at Yk;refine Xi (.gen bD 0) (Yi rfl (A9.imp Yk ?_));intro v14 g14 q14;have Acw:=q14.1;have Acx:=q14.2;subst Acw;subst Acx;refine yN (cU [(0,.ref 1000 0),(4,vs p),(5,sl BF (n0::l)),(6,.slice (.id 6 1) (rs.map CU)),(7,.slice (.id 7 3) (sk.map Cy)),(9,.ref 9 0),(11,.slice (.id 16000 4) ((AR (dec++[cs[i]])).map Am)),(12,vi (ke:Nat)),(13,vb true),(14,.ref 14 0),(15,vb true),(32,sl AT cs),(33,vi (cs.map AT).length),(34,vi i)] [(6,.tok 1 rs.length),(7,.tok 3 sk.length),(9,.ro (AT cs[i])),(14,.cells (BF nc)),(500,.arr 1 (st.map Bn)),(1000,.cells (srM roots C A S dec 500 st.length)),(1001,.tok 6 S.infs.length),(1002,.tok 1 S.drv.length),(1003,.map FI (FN 0 S.infs)),(1004,.dead),(16000,.tok 4 ((AR (dec++[cs[i]])).map Am).length)] ⟨Zr,Zr,Zr,Zr,Zr,Zr,Zr,Zr,Zr,Zr,Zr,Zr,Zr,Zr,Tv⟩ Z11 (cU [(0,.ref 1000 0),(4,vs p),(5,sl BF (n0::l)),(6,.slice (.id 6 1) (rs.map CU)),(7,.slice (.id 7 3) (sk.map Cy)),(9,.ref 9 0),(12,vi (ke:Nat)),(32,sl AT cs),(33,vi (cs.map AT).length),(34,vi i)] [(6,.tok 1 rs.length),(7,.tok 3 sk.length),(9,.ro (AT cs[i])),(500,.arr 1 (st.map Bn)),(1000,.cells (srM roots C A S dec 500 st.length)),(1001,.tok 6 S.infs.length),(1002,.tok 1 S.drv.length),(1003,.map FI (FN 0 S.infs)),(1004,.dead)] Z10 Z9 (Xi (Dg (EJ S ke)) (Yi (Yi (show(0:Int)<=((ke:Nat):Int) by omega) (Ed (Fm (Lo Mk).1))) (Yi rfl ?_)))));have Ym:S.full=false:=by simpa using h4
     have VM:ke<S.drv.length:=(Lo Mk).1;have eH:=j3.der.few hx hr;refine B8 (Bt (D6 (EJ S ke) p)) (fun wJ=>?_) (fun wJ=>?_)
     .refine Xi .pure (Xi _ (Yi (cb wJ (oy (EJ S ke) p (Fr (eH _ (Aw (Fm VM)))))) (cU [(0,.ref 1000 0),(4,vs p),(5,sl BF (n0::l)),(6,.slice (.id 6 1) (rs.map CU)),(7,.slice (.id 7 3) (sk.map Cy)),(9,.ref 9 0),(12,vi (ke:Nat)),(32,sl AT cs),(33,vi (cs.map AT).length),(34,vi i)] [(6,.tok 1 rs.length),(7,.tok 3 sk.length),(9,.ro (AT cs[i])),(500,.arr 1 (st.map Bn)),(1000,.cells (srM roots C A S dec 500 st.length)),(1001,.tok 6 S.infs.length),(1002,.tok 1 S.drv.length),(1003,.map FI (FN 0 S.infs)),(1004,.dead)] Z10 Z9 (Yi (jF rfl ch Cl) (Yi (jF rfl ch Cl) (Yi (Ii i ch) ?_))))));have eA:=(XX (rec:=Dv x roots n) (x:=x) (p:=p) (n0:=n0) (st:=st) (rs:=rs) (sk:=sk) n3 Ym h6.2 Mk);have eN:Ey (Dv x roots n) x p (n0::l) n0 dec st (cs.drop (i+1)) S (rs++[ke]) (sk++[(⟨p,cs[i].place,(ke:Nat)⟩:Sk)])=R:=by rw[<-XK (c:=cs[i]) wJ,<-eA];exact j2
      refine Xi ⟨(i+1,S,rs++[ke],sk++[(⟨p,cs[i].place,(ke:Nat)⟩:Sk)]),FH n3,eN,j3,fun r h=>(AO.1 h).elim ((fun r h=>j4 r h) r) (fun h=>by rw[Ap.1 h];exact VM),(by rw[Ac];exact EI j5),(by rw[Ac];exact EI j6)⟩ ?_;exact⟨Dl cs.length i ch,⟨Zr,Zr,Zr,⟨(show AV.slice (.id 6 1) (rs.map CU++[[vi ((ke:Nat):Int)]])=.slice (.id 6 1) ((rs++[ke]).map CU) by rw[Ar];rfl),rfl⟩,⟨(show AV.slice (.id 7 3) (sk.map Cy++[[vs p,vi cs[i].place,vi ((ke:Nat):Int)]])=.slice (.id 7 3) ((sk++[(⟨p,cs[i].place,(ke:Nat)⟩:Sk)]).map Cy) by rw[Ar];rfl),rfl⟩,Zr,Zr,Zr,Tv⟩,⟨⟨(show HO.tok 1 ((rs.map CU).length+([[vi ((ke:Nat):Int)]]:List (List AV)).length)=.tok 1 (rs++[ke]).length by simp),rfl⟩,⟨(show HO.tok 3 ((sk.map Cy).length+([[vs p,vi cs[i].place,vi ((ke:Nat):Int)]]:List (List AV)).length)=.tok 3 (sk++[(⟨p,cs[i].place,(ke:Nat)⟩:Sk)]).length by simp),rfl⟩,Zr,Zr,Zr,Zr,Zr,Zr,Tv⟩,Fh,BN Wk⟩
     refine Xi .pure (Xi _ (Yi (cb wJ (oy (EJ S ke) p (Fr (eH _ (Aw (Fm VM)))))) (cU [(12,vi (ke:Nat))] [(500,.arr 1 (st.map Bn)),(1000,.cells (srM roots C A S dec 500 st.length)),(1001,.tok 6 S.infs.length),(1002,.tok 1 S.drv.length),(1003,.map FI (FN 0 S.infs)),(1004,.dead)] Z1 Z6 ?_)))
     have eA:=(XX (rec:=Dv x roots n) (x:=x) (p:=p) (n0:=n0) (st:=st) (rs:=rs) (sk:=sk) n3 Ym h6.2 Mk);have eR:R=⟨ke,false,S,dec,st⟩:=by rw[<-j2];rw[eA];exact dK wJ
     exact Xi _ (Yi (.refl _) (Oe (eh.trans eR)))
    skip
    have eW:sX (Er dec cs[i])=.tup [.agg [vs ⟨#[]⟩,nzA,vs ⟨#[]⟩,vi 0,vi 0],vb false]:=by rw[RV];rfl
    rw[eW]at Yk;refine Xi (.gen bD 0) (Yi rfl (A9.imp Yk ?_));intro v20 g20 q20;have Acy:=q20.1;have Acz:=q20.2;subst Acy;subst Acz;refine yN (cU [(0,.ref 1000 0),(4,vs p),(5,sl BF (n0::l)),(6,.slice (.id 6 1) (rs.map CU)),(7,.slice (.id 7 3) (sk.map Cy)),(9,.ref 9 0),(11,.slice (.id 16000 4) ((AR (dec++[cs[i]])).map Am)),(12,vi (ke:Nat)),(13,vb true),(14,.ref 14 0),(15,vb false),(32,sl AT cs),(33,vi (cs.map AT).length),(34,vi i)] [(6,.tok 1 rs.length),(7,.tok 3 sk.length),(9,.ro (AT cs[i])),(14,.cells [vs ⟨#[]⟩,nzA,vs ⟨#[]⟩,vi 0,vi 0]),(500,.arr 1 (st.map Bn)),(1000,.cells (srM roots C A S dec 500 st.length)),(1001,.tok 6 S.infs.length),(1002,.tok 1 S.drv.length),(1003,.map FI (FN 0 S.infs)),(1004,.dead),(16000,.tok 4 ((AR (dec++[cs[i]])).map Am).length)] ⟨Zr,Zr,Zr,Zr,Zr,Zr,Zr,Zr,Zr,Zr,Zr,Zr,Zr,Zr,Tv⟩ Z11 (cU [(0,.ref 1000 0),(4,vs p),(5,sl BF (n0::l)),(6,.slice (.id 6 1) (rs.map CU)),(7,.slice (.id 7 3) (sk.map Cy)),(9,.ref 9 0),(12,vi (ke:Nat)),(32,sl AT cs),(33,vi (cs.map AT).length),(34,vi i)] [(6,.tok 1 rs.length),(7,.tok 3 sk.length),(9,.ro (AT cs[i])),(500,.arr 1 (st.map Bn)),(1000,.cells (srM roots C A S dec 500 st.length)),(1001,.tok 6 S.infs.length),(1002,.tok 1 S.drv.length),(1003,.map FI (FN 0 S.infs)),(1004,.dead)] Z10 Z9 (Xi (Dg (EJ S ke)) (Yi (Yi (show(0:Int)<=((ke:Nat):Int) by omega) (Ed (Fm (Lo Mk).1))) (Yi rfl ?_)))));have Ym:S.full=false:=by simpa using h4
    have VM:ke<S.drv.length:=(Lo Mk).1;have eH:=j3.der.few hx hr;refine B8 (Bt (D6 (EJ S ke) p)) (fun rl=>?_) (fun rl=>?_)
    .refine Xi .pure (Xi _ (Yi (cb rl (oy (EJ S ke) p (Fr (eH _ (Aw (Fm VM)))))) (cU [(0,.ref 1000 0),(4,vs p),(5,sl BF (n0::l)),(6,.slice (.id 6 1) (rs.map CU)),(7,.slice (.id 7 3) (sk.map Cy)),(9,.ref 9 0),(12,vi (ke:Nat)),(32,sl AT cs),(33,vi (cs.map AT).length),(34,vi i)] [(6,.tok 1 rs.length),(7,.tok 3 sk.length),(9,.ro (AT cs[i])),(500,.arr 1 (st.map Bn)),(1000,.cells (srM roots C A S dec 500 st.length)),(1001,.tok 6 S.infs.length),(1002,.tok 1 S.drv.length),(1003,.map FI (FN 0 S.infs)),(1004,.dead)] Z10 Z9 (Yi (jF rfl ch Cl) (Yi (jF rfl ch Cl) (Yi (Ii i ch) ?_))))));have eA:=(XX (rec:=Dv x roots n) (x:=x) (p:=p) (n0:=n0) (st:=st) (rs:=rs) (sk:=sk) n3 Ym h6.2 Mk);have eN:Ey (Dv x roots n) x p (n0::l) n0 dec st (cs.drop (i+1)) S (rs++[ke]) (sk++[(⟨p,cs[i].place,(ke:Nat)⟩:Sk)])=R:=by rw[<-XK (c:=cs[i]) rl,<-eA];exact j2
     refine Xi ⟨(i+1,S,rs++[ke],sk++[(⟨p,cs[i].place,(ke:Nat)⟩:Sk)]),FH n3,eN,j3,fun r h=>(AO.1 h).elim ((fun r h=>j4 r h) r) (fun h=>by rw[Ap.1 h];exact VM),(by rw[Ac];exact EI j5),(by rw[Ac];exact EI j6)⟩ ?_;exact⟨Dl cs.length i ch,⟨Zr,Zr,Zr,⟨(show AV.slice (.id 6 1) (rs.map CU++[[vi ((ke:Nat):Int)]])=.slice (.id 6 1) ((rs++[ke]).map CU) by rw[Ar];rfl),rfl⟩,⟨(show AV.slice (.id 7 3) (sk.map Cy++[[vs p,vi cs[i].place,vi ((ke:Nat):Int)]])=.slice (.id 7 3) ((sk++[(⟨p,cs[i].place,(ke:Nat)⟩:Sk)]).map Cy) by rw[Ar];rfl),rfl⟩,Zr,Zr,Zr,Tv⟩,⟨⟨(show HO.tok 1 ((rs.map CU).length+([[vi ((ke:Nat):Int)]]:List (List AV)).length)=.tok 1 (rs++[ke]).length by simp),rfl⟩,⟨(show HO.tok 3 ((sk.map Cy).length+([[vs p,vi cs[i].place,vi ((ke:Nat):Int)]]:List (List AV)).length)=.tok 3 (sk++[(⟨p,cs[i].place,(ke:Nat)⟩:Sk)]).length by simp),rfl⟩,Zr,Zr,Zr,Zr,Zr,Zr,Tv⟩,Fh,BN Wk⟩
    refine Xi .pure (Xi _ (Yi (cb rl (oy (EJ S ke) p (Fr (eH _ (Aw (Fm VM)))))) (cU [(12,vi (ke:Nat))] [(500,.arr 1 (st.map Bn)),(1000,.cells (srM roots C A S dec 500 st.length)),(1001,.tok 6 S.infs.length),(1002,.tok 1 S.drv.length),(1003,.map FI (FN 0 S.infs)),(1004,.dead)] Z1 Z6 ?_)))
    have eA:=(XX (rec:=Dv x roots n) (x:=x) (p:=p) (n0:=n0) (st:=st) (rs:=rs) (sk:=sk) n3 Ym h6.2 Mk);have eR:R=⟨ke,false,S,dec,st⟩:=by rw[<-j2];rw[eA];exact dK rl
    exact Xi _ (Yi (.refl _) (Oe (eh.trans eR)))
   skip
   have eV:X4 S.drv (AR (dec++[cs[i]]))=.tup [vi 0,vb false]:=by unfold X4;rw[Mk];rfl
   rw[eV]at pq;refine Xi (.gen bD 0) (Yi rfl (A9.imp pq ?_));intro v26 g26 q26;have AcC:=q26.1;have AcD:=q26.2;subst AcC;subst AcD;refine yN ?_;have Yk:=s69 roots C A S dec st cs[i] ch (hcr i n3) (hcs_ i n3);refine B8 (c9 (Er dec cs[i])) (fun cr=>?_) (fun cr=>?_)
   .refine CN cr (fun nc cr=>?_);have eW:sX (Er dec cs[i])=.tup [.agg (BF nc),vb true]:=by rw[cr];rfl
    rw[eW]at Yk;refine Xi (.gen bD 0) (Yi rfl (A9.imp Yk ?_));intro v28 g28 q28;have AcE:=q28.1;have AcF:=q28.2;subst AcE;subst AcF;refine yN (cU [(0,.ref 1000 0),(4,vs p),(5,sl BF (n0::l)),(6,.slice (.id 6 1) (rs.map CU)),(7,.slice (.id 7 3) (sk.map Cy)),(9,.ref 9 0),(11,.slice (.id 16000 4) ((AR (dec++[cs[i]])).map Am)),(12,vi 0),(13,vb false),(14,.ref 14 0),(15,vb true),(32,sl AT cs),(33,vi (cs.map AT).length),(34,vi i)] [(6,.tok 1 rs.length),(7,.tok 3 sk.length),(9,.ro (AT cs[i])),(14,.cells (BF nc)),(500,.arr 1 (st.map Bn)),(1000,.cells (srM roots C A S dec 500 st.length)),(1001,.tok 6 S.infs.length),(1002,.tok 1 S.drv.length),(1003,.map FI (FN 0 S.infs)),(1004,.dead),(16000,.tok 4 ((AR (dec++[cs[i]])).map Am).length)] ⟨Zr,Zr,Zr,Zr,Zr,Zr,Zr,Zr,Zr,Zr,Zr,Zr,Zr,Zr,Tv⟩ Z11 (yN ?_));have tu:=hcx i n3 nc cr;obtain⟨b1,b2,b3⟩:=j3.add (tu.1 S.drv)
    change LJ x roots (BU S nc).2 at b1
    change (BU S nc).1<(BU S nc).2.drv.length at b2
    change S.drv.length<=(BU S nc).2.drv.length at b3
    refine Xi (.gen bD 0) (Yi rfl (A9.imp (s88 roots C A S dec st nc hw.1 hw.2.1 j3.nodup (hcq i n3 nc (LR cr).1) (hcp_ i n3 nc (LR cr).1)) ?_));intro v29 g29 q29;have AcG:=q29.1;have AcH:=q29.2;subst AcG;subst AcH;refine cU [(0,.ref 1000 0),(4,vs p),(5,sl BF (n0::l)),(6,.slice (.id 6 1) (rs.map CU)),(7,.slice (.id 7 3) (sk.map Cy)),(9,.ref 9 0),(12,vi ((BU S nc).1:Nat)),(32,sl AT cs),(33,vi (cs.map AT).length),(34,vi i)] [(6,.tok 1 rs.length),(7,.tok 3 sk.length),(9,.ro (AT cs[i])),(500,.arr 1 (st.map Bn)),(1000,.cells [sl Ba roots,.cmap Cm C,.cmap Cm A,.slice (.id 1001 6) ((BU S nc).2.infs.map Dq),.slice (.id 1002 1) ((BU S nc).2.drv.map Dg),.mref 1003,vb (BU S nc).2.full,sl AT dec,sl Am (AR dec),.msl 500 st.length]),(1001,.tok 6 (BU S nc).2.infs.length),(1002,.tok 1 (BU S nc).2.drv.length),(1003,.map FI (FN 0 (BU S nc).2.infs)),(1004,.dead)] Z10 Z9 (Xi (Dg (EJ (BU S nc).2 (BU S nc).1)) (Yi (Yi (show(0:Int)<=(((BU S nc).1:Nat):Int) by omega) (Ed (Fm b2))) (Yi rfl ?_)));have Ym:S.full=false:=by simpa using h4
    have VM:(BU S nc).1<(BU S nc).2.drv.length:=b2;have eH:=b1.der.few hx hr;refine B8 (Bt (D6 (EJ (BU S nc).2 (BU S nc).1) p)) (fun wK=>?_) (fun wK=>?_)
    .refine Xi .pure (Xi _ (Yi (cb wK (oy (EJ (BU S nc).2 (BU S nc).1) p (Fr (eH _ (Aw (Fm VM)))))) (cU [(0,.ref 1000 0),(4,vs p),(5,sl BF (n0::l)),(6,.slice (.id 6 1) (rs.map CU)),(7,.slice (.id 7 3) (sk.map Cy)),(9,.ref 9 0),(12,vi ((BU S nc).1:Nat)),(32,sl AT cs),(33,vi (cs.map AT).length),(34,vi i)] [(6,.tok 1 rs.length),(7,.tok 3 sk.length),(9,.ro (AT cs[i])),(500,.arr 1 (st.map Bn)),(1000,.cells [sl Ba roots,.cmap Cm C,.cmap Cm A,.slice (.id 1001 6) ((BU S nc).2.infs.map Dq),.slice (.id 1002 1) ((BU S nc).2.drv.map Dg),.mref 1003,vb (BU S nc).2.full,sl AT dec,sl Am (AR dec),.msl 500 st.length]),(1001,.tok 6 (BU S nc).2.infs.length),(1002,.tok 1 (BU S nc).2.drv.length),(1003,.map FI (FN 0 (BU S nc).2.infs)),(1004,.dead)] Z10 Z9 (Yi (jF rfl ch Cl) (Yi (jF rfl ch Cl) (Yi (Ii i ch) ?_))))));have eA:=(Zi (rec:=Dv x roots n) (x:=x) (p:=p) (n0:=n0) (st:=st) (rs:=rs) (sk:=sk) n3 Ym h6.2 Mk cr);have eN:Ey (Dv x roots n) x p (n0::l) n0 dec st (cs.drop (i+1)) (BU S nc).2 (rs++[(BU S nc).1]) (sk++[(⟨p,cs[i].place,((BU S nc).1:Nat)⟩:Sk)])=R:=by rw[<-XK (c:=cs[i]) wK,<-eA];exact j2
     refine Xi ⟨(i+1,(BU S nc).2,rs++[(BU S nc).1],sk++[(⟨p,cs[i].place,((BU S nc).1:Nat)⟩:Sk)]),FH n3,eN,b1,fun r h=>(AO.1 h).elim ((fun r h=>By (j4 r h) b3) r) (fun h=>by rw[Ap.1 h];exact VM),(by rw[Ac];exact EI j5),(by rw[Ac];exact EI j6)⟩ ?_;exact⟨Dl cs.length i ch,⟨Zr,Zr,Zr,⟨(show AV.slice (.id 6 1) (rs.map CU++[[vi (((BU S nc).1:Nat):Int)]])=.slice (.id 6 1) ((rs++[(BU S nc).1]).map CU) by rw[Ar];rfl),rfl⟩,⟨(show AV.slice (.id 7 3) (sk.map Cy++[[vs p,vi cs[i].place,vi (((BU S nc).1:Nat):Int)]])=.slice (.id 7 3) ((sk++[(⟨p,cs[i].place,((BU S nc).1:Nat)⟩:Sk)]).map Cy) by rw[Ar];rfl),rfl⟩,Zr,Zr,Zr,Tv⟩,⟨⟨(show HO.tok 1 ((rs.map CU).length+([[vi (((BU S nc).1:Nat):Int)]]:List (List AV)).length)=.tok 1 (rs++[(BU S nc).1]).length by simp),rfl⟩,⟨(show HO.tok 3 ((sk.map Cy).length+([[vs p,vi cs[i].place,vi (((BU S nc).1:Nat):Int)]]:List (List AV)).length)=.tok 3 (sk++[(⟨p,cs[i].place,((BU S nc).1:Nat)⟩:Sk)]).length by simp),rfl⟩,Zr,Zr,Zr,Zr,Zr,Zr,Tv⟩,Fh,BN Wk⟩
    refine Xi .pure (Xi _ (Yi (cb wK (oy (EJ (BU S nc).2 (BU S nc).1) p (Fr (eH _ (Aw (Fm VM)))))) (cU [(12,vi ((BU S nc).1:Nat))] [(500,.arr 1 (st.map Bn)),(1000,.cells [sl Ba roots,.cmap Cm C,.cmap Cm A,.slice (.id 1001 6) ((BU S nc).2.infs.map Dq),.slice (.id 1002 1) ((BU S nc).2.drv.map Dg),.mref 1003,vb (BU S nc).2.full,sl AT dec,sl Am (AR dec),.msl 500 st.length]),(1001,.tok 6 (BU S nc).2.infs.length),(1002,.tok 1 (BU S nc).2.drv.length),(1003,.map FI (FN 0 (BU S nc).2.infs)),(1004,.dead)] Z1 Z6 ?_)))
    have eA:=(Zi (rec:=Dv x roots n) (x:=x) (p:=p) (n0:=n0) (st:=st) (rs:=rs) (sk:=sk) n3 Ym h6.2 Mk cr);have eR:R=⟨(BU S nc).1,false,(BU S nc).2,dec,st⟩:=by rw[<-j2];rw[eA];exact dK wK
    exact Xi _ (Yi (.refl _) (Oe (eh.trans eR)))
   skip
   have eW:sX (Er dec cs[i])=.tup [.agg [vs ⟨#[]⟩,nzA,vs ⟨#[]⟩,vi 0,vi 0],vb false]:=by rw[cr];rfl
   rw[eW]at Yk;refine Xi (.gen bD 0) (Yi rfl (A9.imp Yk ?_));intro v35 g35 q35;have AcK:=q35.1;have AcL:=q35.2;subst AcK;subst AcL;refine yN (cU [(0,.ref 1000 0),(4,vs p),(5,sl BF (n0::l)),(6,.slice (.id 6 1) (rs.map CU)),(7,.slice (.id 7 3) (sk.map Cy)),(9,.ref 9 0),(11,.slice (.id 16000 4) ((AR (dec++[cs[i]])).map Am)),(12,vi 0),(13,vb false),(14,.ref 14 0),(15,vb false),(32,sl AT cs),(33,vi (cs.map AT).length),(34,vi i)] [(6,.tok 1 rs.length),(7,.tok 3 sk.length),(9,.ro (AT cs[i])),(14,.cells [vs ⟨#[]⟩,nzA,vs ⟨#[]⟩,vi 0,vi 0]),(500,.arr 1 (st.map Bn)),(1000,.cells (srM roots C A S dec 500 st.length)),(1001,.tok 6 S.infs.length),(1002,.tok 1 S.drv.length),(1003,.map FI (FN 0 S.infs)),(1004,.dead),(16000,.tok 4 ((AR (dec++[cs[i]])).map Am).length)] ⟨Zr,Zr,Zr,Zr,Zr,Zr,Zr,Zr,Zr,Zr,Zr,Zr,Zr,Zr,Tv⟩ Z11 (Yi Wk (cU [(0,.ref 1000 0),(4,vs p),(5,sl BF (n0::l)),(6,.slice (.id 6 1) (rs.map CU)),(7,.slice (.id 7 3) (sk.map Cy)),(9,.ref 9 0),(11,.slice (.id 16000 4) ((AR (dec++[cs[i]])).map Am)),(16,sl AT dec),(17,sl Am (AR dec)),(32,sl AT cs),(33,vi (cs.map AT).length),(34,vi i)] [(6,.tok 1 rs.length),(7,.tok 3 sk.length),(9,.ro (AT cs[i])),(500,.arr 1 (st.map Bn)),(1000,.cells (srM roots C A S dec 500 st.length)),(1001,.tok 6 S.infs.length),(1002,.tok 1 S.drv.length),(1003,.map FI (FN 0 S.infs)),(1004,.dead),(16000,.tok 4 ((AR (dec++[cs[i]])).map Am).length)] Z12 Z10 (Xi _ (Xi _ (Yi Wk (Yi (yJ dec (by unfold B9;omega)) (yN ?_))))))));have b36:Cn 10 [(AT cs[i])]/\(dec.map AT).length=(dec.map AT).length/\((dec.map AT).length+([(AT cs[i])]:List (List AV)).length)*128<=140737488355328/\(dec.map AT).length+([(AT cs[i])]:List (List AV)).length<=9223372036854775807:=⟨⟨rfl,trivial⟩,rfl,(by simp only[Lm,Ak,At];omega),(by simp only[Lm,Ak,At];omega)⟩;refine Yi b36 (yN (yN (Yi Wk ?_)));have b37:Cn 1 [[sl Cy sk]]/\(st.map Bn).length=st.length/\((st.map Bn).length+([[sl Cy sk]]:List (List AV)).length)*24<=140737488355328/\(st.map Bn).length+([[sl Cy sk]]:List (List AV)).length<=9223372036854775807:=⟨⟨rfl,trivial⟩,(by rw[Lm]),(by simp only[Lm,Ak,At];omega),(by simp only[Lm,Ak,At];omega)⟩;refine Yi b37 (yN (cU [(0,.ref 1000 0),(4,vs p),(5,sl BF (n0::l)),(6,.slice (.id 6 1) (rs.map CU)),(7,.slice (.id 7 3) (sk.map Cy)),(9,.ref 9 0),(16,sl AT dec),(17,sl Am (AR dec)),(32,sl AT cs),(33,vi (cs.map AT).length),(34,vi i)] [(6,.tok 1 rs.length),(7,.tok 3 sk.length),(9,.ro (AT cs[i])),(500,.arr 1 ((st.map Bn)++[[sl Cy sk]])),(1000,.cells [sl Ba roots,.cmap Cm C,.cmap Cm A,.slice (.id 1001 6) (S.infs.map Dq),.slice (.id 1002 1) (S.drv.map Dg),.mref 1003,vb S.full,.slice (.id 20100 10) ((dec.map AT)++[(AT cs[i])]),.slice (.id 16000 4) ((AR (dec++[cs[i]])).map Am),.msl 500 ((st.map Bn).length+([[sl Cy sk]]:List (List AV)).length)]),(1001,.tok 6 S.infs.length),(1002,.tok 1 S.drv.length),(1003,.map FI (FN 0 S.infs)),(1004,.dead),(16000,.tok 4 ((AR (dec++[cs[i]])).map Am).length),(20100,.tok 10 ((dec.map AT).length+([(AT cs[i])]:List (List AV)).length))] Z11 Z11 (cU [(0,.ref 1000 0),(4,vs p),(5,sl BF (n0::l)),(6,.slice (.id 6 1) (rs.map CU)),(7,.slice (.id 7 3) (sk.map Cy)),(9,.ref 9 0),(16,sl AT dec),(17,sl Am (AR dec)),(32,sl AT cs),(33,vi (cs.map AT).length),(34,vi i)] [(6,.tok 1 rs.length),(7,.tok 3 sk.length),(9,.ro (AT cs[i])),(500,.arr 1 ((st++[sk]).map Bn)),(1000,.cells [sl Ba roots,.cmap Cm C,.cmap Cm A,.slice (.id 1001 6) (S.infs.map Dq),.slice (.id 1002 1) (S.drv.map Dg),.mref 1003,vb S.full,.slice (.id 20100 10) ((dec++[cs[i]]).map AT),.slice (.id 16000 4) ((AR (dec++[cs[i]])).map Am),.msl 500 (st++[sk]).length]),(1001,.tok 6 S.infs.length),(1002,.tok 1 S.drv.length),(1003,.map FI (FN 0 S.infs)),(1004,.dead),(16000,.tok 4 ((AR (dec++[cs[i]])).map Am).length),(20100,.tok 10 ((dec++[cs[i]]).map AT).length)] Z11 ⟨Zr,Zr,Zr,⟨(show(.arr 1 ((st.map Bn)++[[sl Cy sk]]):HO)=.arr 1 ((st++[sk]).map Bn) by simp),rfl⟩,⟨(show(.cells [sl Ba roots,.cmap Cm C,.cmap Cm A,.slice (.id 1001 6) (S.infs.map Dq),.slice (.id 1002 1) (S.drv.map Dg),.mref 1003,vb S.full,.slice (.id 20100 10) ((dec.map AT)++[(AT cs[i])]),.slice (.id 16000 4) ((AR (dec++[cs[i]])).map Am),.msl 500 ((st.map Bn).length+([[sl Cy sk]]:List (List AV)).length)]:HO)=.cells [sl Ba roots,.cmap Cm C,.cmap Cm A,.slice (.id 1001 6) (S.infs.map Dq),.slice (.id 1002 1) (S.drv.map Dg),.mref 1003,vb S.full,.slice (.id 20100 10) ((dec++[cs[i]]).map AT),.slice (.id 16000 4) ((AR (dec++[cs[i]])).map Am),.msl 500 (st++[sk]).length] by simp),rfl⟩,Zr,Zr,Zr,Zr,Zr,⟨(show(.tok 10 ((dec.map AT).length+([(AT cs[i])]:List (List AV)).length):HO)=.tok 10 ((dec++[cs[i]]).map AT).length by simp),rfl⟩,Tv⟩ ?_)))
   have GM:iR dec (n0::l) cs[i]=true:=Qe.2 ⟨fun n hn=>by have q:=DO.1 h6.2 n hn;simpa using q,cr⟩;have lH:=ih cs[i] (hcm i n3) GM S (st++[sk]) (by simp[Ku]) j3 (by simpa using h4);refine CN (show ∃o,o=Dv x roots n (dec++[cs[i]]) S (st++[sk])from⟨_,rfl⟩) (fun o ho=>?_);rw[<-ho]at lH;have zM:A9 Tryz.prog 137 [.ref 1000 0] (Ao (JK roots C A S (dec++[cs[i]]) (st++[sk])) Af) (fun r h'=>r=.tup [vi (o.res:Nat),vb o.found]/\h'=Ao (z8 roots C A o.ss o.dec o.stack) Af):=lH.1;have vJ:=lH.2.1;have hrn:=lH.2.2.1;refine B8 (Bt o.found) (fun od=>?_) (fun od=>?_)
   .skip
    rw[od]at zM;refine Xi (.gen bD 1) (Yi rfl (A9.imp zM ?_));intro v39 g39 q39;have AcM:=q39.1;have AcN:=q39.2;subst AcM;subst AcN;refine cU [(0,.ref 1000 0),(4,vs p),(5,sl BF (n0::l)),(6,.slice (.id 6 1) (rs.map CU)),(7,.slice (.id 7 3) (sk.map Cy)),(9,.ref 9 0),(12,vi (o.res:Nat)),(16,sl AT dec),(17,sl Am (AR dec)),(18,vb true),(32,sl AT cs),(33,vi (cs.map AT).length),(34,vi i)] [(6,.tok 1 rs.length),(7,.tok 3 sk.length),(9,.ro (AT cs[i])),(1000,.cells (srM roots C A o.ss o.dec 22200 o.stack.length)),(1001,.tok 6 o.ss.infs.length),(1002,.tok 1 o.ss.drv.length),(1003,.map FI (FN 0 o.ss.infs)),(1004,.dead),(22200,.arr 1 (o.stack.map Bn))] Z13 Z9 (Yi (show o.stack.length=(o.stack.map Bn).length by simp) (cU [] [(500,.arr 1 (o.stack.map Bn)),(1000,.cells (srM roots C A o.ss o.dec 500 o.stack.length)),(1001,.tok 6 o.ss.infs.length),(1002,.tok 1 o.ss.drv.length),(1003,.map FI (FN 0 o.ss.infs)),(1004,.dead)] Tv Z6 ?_))
    have Ym:S.full=false:=by simpa using h4
    have eR:R=⟨0,true,o.ss,o.dec,o.stack⟩:=by rw[<-j2];rw[XY (sk:=sk) n3 Ym h6.2 Mk cr ho,Al od]
    exact Xi _ (Yi (.refl _) (Oe (eh.trans eR)))
   skip
   rw[od]at zM;have hrk:=lH.2.2.2 od;have Sa:o.stack.length=st.length+1:=by rw[hrk];simp
   refine Xi (.gen bD 1) (Yi rfl (A9.imp zM ?_));intro v41 g41 q41;have AcO:=q41.1;have AcP:=q41.2;subst AcO;subst AcP;refine cU [(0,.ref 1000 0),(4,vs p),(5,sl BF (n0::l)),(6,.slice (.id 6 1) (rs.map CU)),(7,.slice (.id 7 3) (sk.map Cy)),(9,.ref 9 0),(12,vi (o.res:Nat)),(16,sl AT dec),(17,sl Am (AR dec)),(18,vb false),(32,sl AT cs),(33,vi (cs.map AT).length),(34,vi i)] [(6,.tok 1 rs.length),(7,.tok 3 sk.length),(9,.ro (AT cs[i])),(1000,.cells (srM roots C A o.ss o.dec 22200 o.stack.length)),(1001,.tok 6 o.ss.infs.length),(1002,.tok 1 o.ss.drv.length),(1003,.map FI (FN 0 o.ss.infs)),(1004,.dead),(22200,.arr 1 (o.stack.map Bn))] Z13 Z9 (yN (yN (cU [(0,.ref 1000 0),(4,vs p),(5,sl BF (n0::l)),(6,.slice (.id 6 1) (rs.map CU)),(7,.slice (.id 7 3) (sk.map Cy)),(9,.ref 9 0),(12,vi (o.res:Nat)),(32,sl AT cs),(33,vi (cs.map AT).length),(34,vi i)] [(6,.tok 1 rs.length),(7,.tok 3 sk.length),(9,.ro (AT cs[i])),(1000,.cells (srM roots C A o.ss dec 22200 o.stack.length)),(1001,.tok 6 o.ss.infs.length),(1002,.tok 1 o.ss.drv.length),(1003,.map FI (FN 0 o.ss.infs)),(1004,.dead),(22200,.arr 1 (o.stack.map Bn))] Z10 Z9 (Yi (by show A7 ((o.stack.length:Int)-(1:Int));unfold A7;omega) (Yi ⟨(show o.stack.length=(o.stack.map Bn).length by simp),(show(0:Int)<=o.stack.length-1 by omega),(show(o.stack.length-1:Int)<=((o.stack.map Bn).length:Nat) by rw[Lm];omega)⟩ (yN (Yi Wk (Yi (show(o.stack.length-1:Int).toNat=(((o.stack.map Bn).take (o.stack.length-1:Int).toNat):List (List AV)).length by simp) ?_))))))));have xz:((o.stack.map Bn).take ((o.stack.length:Int)-1).toNat)=st.map Bn/\((o.stack.length:Int)-1).toNat=st.length:=xA hrk;refine cU [(0,.ref 1000 0),(4,vs p),(5,sl BF (n0::l)),(6,.slice (.id 6 1) (rs.map CU)),(7,.slice (.id 7 3) (sk.map Cy)),(9,.ref 9 0),(12,vi (o.res:Nat)),(32,sl AT cs),(33,vi (cs.map AT).length),(34,vi i)] [(6,.tok 1 rs.length),(7,.tok 3 sk.length),(9,.ro (AT cs[i])),(500,.arr 1 (st.map Bn)),(1000,.cells (srM roots C A o.ss dec 500 st.length)),(1001,.tok 6 o.ss.infs.length),(1002,.tok 1 o.ss.drv.length),(1003,.map FI (FN 0 o.ss.infs)),(1004,.dead)] Z10 ⟨Zr,Zr,Zr,⟨(show(.arr 1 ((o.stack.map Bn).take (o.stack.length-1:Int).toNat):HO)=.arr 1 (st.map Bn) by rw[xz.1]),rfl⟩,⟨(show(.cells (srM roots C A o.ss dec 500 (o.stack.length-1:Int).toNat):HO)=.cells (srM roots C A o.ss dec 500 st.length) by rw[xz.2]),rfl⟩,Zr,Zr,Zr,Zr,Tv⟩ ?_
   refine Yi (fun h42=>?_) (fun h42=>?_)
   .have Ym:S.full=false:=by simpa using h4
    have eR:R=⟨0,false,o.ss,dec,st⟩:=by rw[<-j2];rw[XY (sk:=sk) n3 Ym h6.2 Mk cr ho,Ai (by rw[od];decide),Al h42]
    exact Xi _ (Yi (.refl _) (Oe (eh.trans eR)))
   have eG:o.ss.full=false:=h42;refine cU [(0,.ref 1000 0),(4,vs p),(5,sl BF (n0::l)),(6,.slice (.id 6 1) (rs.map CU)),(7,.slice (.id 7 3) (sk.map Cy)),(9,.ref 9 0),(12,vi (o.res:Nat)),(32,sl AT cs),(33,vi (cs.map AT).length),(34,vi i)] [(6,.tok 1 rs.length),(7,.tok 3 sk.length),(9,.ro (AT cs[i])),(500,.arr 1 (st.map Bn)),(1000,.cells (srM roots C A o.ss dec 500 st.length)),(1001,.tok 6 o.ss.infs.length),(1002,.tok 1 o.ss.drv.length),(1003,.map FI (FN 0 o.ss.infs)),(1004,.dead)] Z10 Z9 (Xi (Dg (EJ o.ss o.res)) (Yi (Yi (show(0:Int)<=((o.res:Nat):Int) by omega) (Ed (Fm (hrn.2 od eG)))) (Yi rfl ?_)));have Ym:S.full=false:=by simpa using h4
   have VM:o.res<o.ss.drv.length:=(hrn.2 od eG);have eH:=vJ.der.few hx hr;refine B8 (Bt (D6 (EJ o.ss o.res) p)) (fun wL=>?_) (fun wL=>?_)
   .refine Xi .pure (Xi _ (Yi (cb wL (oy (EJ o.ss o.res) p (Fr (eH _ (Aw (Fm VM)))))) (cU [(0,.ref 1000 0),(4,vs p),(5,sl BF (n0::l)),(6,.slice (.id 6 1) (rs.map CU)),(7,.slice (.id 7 3) (sk.map Cy)),(9,.ref 9 0),(12,vi (o.res:Nat)),(32,sl AT cs),(33,vi (cs.map AT).length),(34,vi i)] [(6,.tok 1 rs.length),(7,.tok 3 sk.length),(9,.ro (AT cs[i])),(500,.arr 1 (st.map Bn)),(1000,.cells (srM roots C A o.ss dec 500 st.length)),(1001,.tok 6 o.ss.infs.length),(1002,.tok 1 o.ss.drv.length),(1003,.map FI (FN 0 o.ss.infs)),(1004,.dead)] Z10 Z9 (Yi (jF rfl ch Cl) (Yi (jF rfl ch Cl) (Yi (Ii i ch) ?_))))));have eA:=(XY (rec:=Dv x roots n) (x:=x) (p:=p) (n0:=n0) (st:=st) (rs:=rs) (sk:=sk) n3 Ym h6.2 Mk cr ho);rw[Ai (by rw[od];decide),Ai (by rw[eG];decide)]at eA;have eN:Ey (Dv x roots n) x p (n0::l) n0 dec st (cs.drop (i+1)) o.ss (rs++[o.res]) (sk++[(⟨p,cs[i].place,(o.res:Nat)⟩:Sk)])=R:=by rw[<-XK (c:=cs[i]) wL,<-eA];exact j2
    refine Xi ⟨(i+1,o.ss,rs++[o.res],sk++[(⟨p,cs[i].place,(o.res:Nat)⟩:Sk)]),FH n3,eN,vJ,fun r h=>(AO.1 h).elim ((fun r h=>By (j4 r h) hrn.1) r) (fun h=>by rw[Ap.1 h];exact VM),(by rw[Ac];exact EI j5),(by rw[Ac];exact EI j6)⟩ ?_;exact⟨Dl cs.length i ch,⟨Zr,Zr,Zr,⟨(show AV.slice (.id 6 1) (rs.map CU++[[vi ((o.res:Nat):Int)]])=.slice (.id 6 1) ((rs++[o.res]).map CU) by rw[Ar];rfl),rfl⟩,⟨(show AV.slice (.id 7 3) (sk.map Cy++[[vs p,vi cs[i].place,vi ((o.res:Nat):Int)]])=.slice (.id 7 3) ((sk++[(⟨p,cs[i].place,(o.res:Nat)⟩:Sk)]).map Cy) by rw[Ar];rfl),rfl⟩,Zr,Zr,Zr,Tv⟩,⟨⟨(show HO.tok 1 ((rs.map CU).length+([[vi ((o.res:Nat):Int)]]:List (List AV)).length)=.tok 1 (rs++[o.res]).length by simp),rfl⟩,⟨(show HO.tok 3 ((sk.map Cy).length+([[vs p,vi cs[i].place,vi ((o.res:Nat):Int)]]:List (List AV)).length)=.tok 3 (sk++[(⟨p,cs[i].place,(o.res:Nat)⟩:Sk)]).length by simp),rfl⟩,Zr,Zr,Zr,Zr,Zr,Zr,Tv⟩,Fh,BN Wk⟩
   refine Xi .pure (Xi _ (Yi (cb wL (oy (EJ o.ss o.res) p (Fr (eH _ (Aw (Fm VM)))))) (cU [(12,vi (o.res:Nat))] [(500,.arr 1 (st.map Bn)),(1000,.cells (srM roots C A o.ss dec 500 st.length)),(1001,.tok 6 o.ss.infs.length),(1002,.tok 1 o.ss.drv.length),(1003,.map FI (FN 0 o.ss.infs)),(1004,.dead)] Z1 Z6 ?_)))
   have eA:=(XY (rec:=Dv x roots n) (x:=x) (p:=p) (n0:=n0) (st:=st) (rs:=rs) (sk:=sk) n3 Ym h6.2 Mk cr ho);rw[Ai (by rw[od];decide),Ai (by rw[eG];decide)]at eA;have eR:R=⟨o.res,false,o.ss,dec,st⟩:=by rw[<-j2];rw[eA];exact dK wL
   exact Xi _ (Yi (.refl _) (Oe (eh.trans eR)))
  have n3:=DT h3;refine Xi (BF n0) (Yi (Yi (show(0:Int)<=0 by decide) rfl) (Yi rfl (yN (Xi (.gen bD 0) (Yi rfl (A9.imp (s91 x roots C A S dec st p n0 rs V hx hr j3 hinf0 j4 ch (hnq n0 (Ab ..)) (hnp n0 (Ab ..)) wR wS wT) ?_))))));intro v49 g49 q49;have AcQ:=q49.1;have AcR:=q49.2;subst AcQ;subst AcR;have hj:¬i<cs.length:=by have q:=h3;rw[Lm]at q;omega
  have eR:R=⟨(Eh x p n0 rs S).1,false,(Eh x p n0 rs S).2,dec,st⟩:=by rw[<-j2];exact kq hj
  exact Xi _ (Yi (.refl _) (Oe (eh.trans eR)))
 exact absurd NO hC2
theorem Ade(hL:Lvl x roots C A n dec p n0 l V cs)(hs:LJ x roots s)(Ku:st.length=dec.length)(SH:A9 Tryz.prog 186 [.ref 1000 0] (Ao (JK roots C A s dec st) Af) fun r h'=>r=.tup [vs p,sl BF (n0::l)]/\h'=Ao (JK roots C A s dec st) Af)(xa:cs=[])(hC2:∀a,(Value.string p,a)∉C)(hR:Ey (Dv x roots n) x p (n0::l) n0 dec st cs s [] []=R)(eh:O=R) :
  A9 Tryz.prog 137 [.ref 1000 0] (Ao (JK roots C A s dec st) Af) (bE roots C A O):=by
 obtain⟨hx,hr,hdl,hcl,hcs,hnl,hnq,hnp,hex,hcx,hcq,hcp_,hcr,hcs_,hkey,hinf0,⟨wR,wS,wT⟩,ih⟩:=hL;have hcm:∀(i:Nat) (h:i<cs.length),cs[i]∈Cz x p:=fun i h=>by rw[<-hcs];exact Aq h
 have vF:∀(i:Nat) (h:i<cs.length),B9 (AR (dec++[cs[i]])):=fun i h=>by unfold B9 AR;rw[Lm,Ac];simp;omega
 clear hcs
 refine Cq (MK ⟨[9],[(6,1),(7,3),(145,1)],[],[],[],[],[],[],[],[(300001,500091000),(300026,500091000),(300029,500091000)],[1,2,5,10,11,13,14,15,16,17,19,21,22,23,24,25,26,28,29,31,32,33,35]⟩) [(1000,1000),(1001,1001),(1002,1002),(1003,1003),(1004,1004),(500,2000)] rfl CQ hm rfl Tryz.func137 Wk rfl (Nz rfl) Wk rfl (Yi (show st.length=(st.map Bn).length by simp) (cU [(0,.ref 1000 0)] [(500,.arr 1 (st.map Bn)),(1000,.cells (srM roots C A s dec 500 st.length)),(1001,.tok 6 s.infs.length),(1002,.tok 1 s.drv.length),(1003,.map FI (FN 0 s.infs)),(1004,.dead)] Z1 Z6 (Xi (.gen bD 0) (Yi rfl (A9.imp SH ?_)))));intro v1 g1 q1;have qq:=q1.1;have qr:=q1.2;subst qq;subst qr;refine cU [(0,.ref 1000 0),(4,vs p),(5,sl BF (n0::l))] [(500,.arr 1 (st.map Bn)),(1000,.cells (srM roots C A s dec 500 st.length)),(1001,.tok 6 s.infs.length),(1002,.tok 1 s.drv.length),(1003,.map FI (FN 0 s.infs)),(1004,.dead)] Z3 Z6 (Yi (fun h2=>?_) (fun h2=>?_))
 .exact absurd h2 (by simp;omega)
 refine cU [(0,.ref 1000 0),(4,vs p),(5,sl BF (n0::l)),(6,.slice (.id 6 1) [])] [(6,.tok 1 0),(500,.arr 1 (st.map Bn)),(1000,.cells (srM roots C A s dec 500 st.length)),(1001,.tok 6 s.infs.length),(1002,.tok 1 s.drv.length),(1003,.map FI (FN 0 s.infs)),(1004,.dead)] Z4 Z7 (Yi (fun a ha=>?_) (fun NO=>?_))
 .exact absurd ha (hC2 a)
 refine Xi {q:Nat×SS×List Nat×List Sk // q.1<=cs.length/\Ey (Dv x roots n) x p (n0::l) n0 dec st (cs.drop q.1) q.2.1 q.2.2.1 q.2.2.2=R/\LJ x roots q.2.1/\(∀r∈q.2.2.1,r<q.2.1.drv.length)/\q.2.2.1.length<=q.1/\q.2.2.2.length<=q.1} (Xi (fun q=>⟨[(0,.ref 1000 0),(4,vs p),(5,sl BF (n0::l)),(6,.slice (.id 6 1) (q.1.2.2.1.map CU)),(7,.slice (.id 7 3) (q.1.2.2.2.map Cy)),(32,nzA),(33,vi 0),(34,vi q.1.1)],[(6,.tok 1 q.1.2.2.1.length),(7,.tok 3 q.1.2.2.2.length),(500,.arr 1 (st.map Bn)),(1000,.cells (srM roots C A q.1.2.1 dec 500 st.length)),(1001,.tok 6 q.1.2.1.infs.length),(1002,.tok 1 q.1.2.1.drv.length),(1003,.map FI (FN 0 q.1.2.1.infs)),(1004,.dead)],Af⟩) (Xi (fun q=>cs.length-q.1.1) (Yi (Xi ⟨(0,s,[],[]),AE _,hR,hs,fun r h=>(by cases h),Aj _,Aj _⟩ ?_) ?_)))
 .exact⟨Z8,Z8,Fh,BN Wk⟩
 intro⟨⟨i,S,rs,sk⟩,j1,j2,j3,j4,j5,j6⟩;have j5:rs.length<=i:=j5;have hw:=j3.dl;have S7:∀t∈S.drv,jS t:=fun t ht=>by have q:=j3.der.few hx hr t ht;exact⟨Fr q,q.2⟩
 refine Yi (fun h3=>?_) (fun h3=>?_)
 .have h3:(i:Int)<(0:Int):=h3;exact absurd h3 (by have q:=j1;rw[xa,At]at q;omega)
 have h3:¬((i:Int)<(0:Int)):=h3;refine Xi (BF n0) (Yi (Yi (show(0:Int)<=0 by decide) rfl) (Yi rfl (yN (Xi (.gen bD 0) (Yi rfl (A9.imp (s91 x roots C A S dec st p n0 rs V hx hr j3 hinf0 j4 ch (hnq n0 (Ab ..)) (hnp n0 (Ab ..)) wR wS wT) ?_))))));intro v4 g4 q4;have q4a:=q4.1;have q4b:=q4.2;subst q4a;subst q4b;have hj:¬i<cs.length:=by rw[xa];simp
 have eR:R=⟨(Eh x p n0 rs S).1,false,(Eh x p n0 rs S).2,dec,st⟩:=by rw[<-j2];exact kq hj
 exact Xi _ (Yi (.refl _) (Oe (eh.trans eR)))
theorem Adg(N:List Nd)(O:KO)(hN:N=[])(SH:A9 Tryz.prog 186 [.ref 1000 0] (Ao (JK roots C A s dec st) Af) fun r h'=>r=.tup [vs p,sl BF N]/\h'=Ao (JK roots C A s dec st) Af)(hO:O=⟨0,true,s,dec,st⟩) :
  A9 Tryz.prog 137 [.ref 1000 0] (Ao (JK roots C A s dec st) Af) (bE roots C A O):=by
 refine Cq (MK ⟨[],[],[],[],[],[],[],[],[],[(300001,500091000)],[1,2,5,10,11,13,14,15,16,17,19,21,22,23,25,28,29,31,32,33,35]⟩) [(1000,1000),(1001,1001),(1002,1002),(1003,1003),(1004,1004),(500,2000)] rfl CQ hm rfl Tryz.func137 Wk rfl (Nz rfl) Wk rfl (Yi (show st.length=(st.map Bn).length by simp) (cU [(0,.ref 1000 0)] [(500,.arr 1 (st.map Bn)),(1000,.cells (srM roots C A s dec 500 st.length)),(1001,.tok 6 s.infs.length),(1002,.tok 1 s.drv.length),(1003,.map FI (FN 0 s.infs)),(1004,.dead)] Z1 Z6 (Xi (.gen bD 0) (Yi rfl (A9.imp SH ?_)))));intro v1 g1 q1;have qq:=q1.1;have qr:=q1.2;subst qq;subst qr;refine cU [(0,.ref 1000 0),(4,vs p),(5,sl BF N)] [(500,.arr 1 (st.map Bn)),(1000,.cells (srM roots C A s dec 500 st.length)),(1001,.tok 6 s.infs.length),(1002,.tok 1 s.drv.length),(1003,.map FI (FN 0 s.infs)),(1004,.dead)] Z3 Z6 (Yi (fun h2=>?_) (fun h2=>?_))
 .exact Xi _ (Yi (.refl _) (Oe (st:=st) hO))
 exact absurd (by rw[hN];rfl) h2
section
variable {x:List Rl}{roots:List Rq}{p:ByteArray}
theorem IT:∀(l:List Nat) {k:Nat} {s:SS},s.infs.Nodup->(CA p l k s).2.infs.Nodup
 | [],_,_,h=>h
 |r::l,k,s,h=>by
  unfold CA;split
  .exact h
  split
  .exact IT l h
  split
  .exact IT l h
  .exact IT l (ID h)
theorem LL{needs:List Nd}{n0:Nd}{dec:List Cd}{st:List (List Sk)}{rec:List Cd->SS->List (List Sk)->KO}(ie:∀c s st,s.infs.Nodup->(rec (dec++[c]) s st).ss.infs.Nodup) :
  ∀(cs:List Cd) {s:SS} {rs:List Nat} {sk:List Sk},s.infs.Nodup->(Ey rec x p needs n0 dec st cs s rs sk).ss.infs.Nodup
 | [],s,rs,sk,h=>IT _ (ID (ID h))
 |c::cs,s,rs,sk,h=>by
  have so:∀(s' : SS) (k:Nat),s'.infs.Nodup->(Kz rec x p needs n0 dec st c cs rs sk k s').ss.infs.Nodup:=fun s' k h'=>by
   unfold Kz;split
   .exact h'
   .exact LL ie cs h'
  rw[GG];split
  .exact h
  cases needs.find? fun n=>!has n.rq.set c.place with
  |some n=>exact LL ie cs (ID h)
  |none =>
   dsimp only;cases Pv s.drv (AR (dec++[c]))with
   |some k=>exact so s k h
   |none =>
    dsimp only;cases Er dec c with
    |some n=>exact so _ _ (ID h)
    |none =>
     dsimp only;have h2:=ie c s (st++[sk]) h;split
     .exact h2
     split
     .exact h2
     .exact so _ _ h2
theorem Qr:∀(n:Nat) {dec:List Cd} {s:SS} {st:List (List Sk)},s.infs.Nodup->(Dv x roots n dec s st).ss.infs.Nodup
 |0,_,_,_,h=>h
 |n+1,dec,s,st,h=>by
  unfold Dv;cases (G8 roots dec).2 with
  |nil=>exact h
  |cons n0 l=>exact LL (fun c s st h=>Qr n h) _ h
structure Env(x:List Rl)(roots:List Rq)(C A:List (Value×AV)):Prop where
 hx:A4 x=0
 hr:BI roots=0
 fx:∀r∈x,Eu r
 fr:∀q∈roots,JT q
 c1:∀(p:ByteArray) (a:AV),(Value.string p,a)∈C->a=sl AT (Cz x p)
 c2:∀p:ByteArray,(∀a,(Value.string p,a)∉C)->Cz x p=[]
 c3:∀p:ByteArray,Cz x p=[]->∀a,(Value.string p,a)∉C
 av:∀p:ByteArray,∃V,HV x A p V
theorem s9{dec:List Cd}(h:∀c∈dec,c.rel.reqs.length<=16):((dec.map fun c=>c.rel.reqs).flatten).length<=16*dec.length:=by
 induction dec with
 |nil=>simp
 |cons c dec ih =>
  rw[AI,BB,Ac,Ak]
  have:=h c (Ab ..)
  have:=ih fun d hd=>h d (Ah _ hd)
  omega
theorem uj{r:Rl}(h:TC r):0<=plc r.ver/\plc r.ver<1000000:=by rw[h.plc];exact Ke h.val
theorem iJ(dec:List Cd):(G8 roots dec).2.length<=(DH roots dec).length:=by
 rw[UR];cases Lu (Ir roots dec) (AR dec)with
 |none=>simp
 |some q=>exact Bq _ _
theorem s45{C A:List (Value×AV)}(hE:Env x roots C A)(td:H64 roots C A):∀(n:Nat) {dec:List Cd} {s:SS} {st:List (List Sk)},ER x dec->IZ roots dec->LJ x roots s->s.full=false->RU x dec<n->st.length=dec.length ->
  A9 Tryz.prog 137 [.ref 1000 0] (Ao (JK roots C A s dec st) Af) (bE roots C A (Dv x roots n dec s st))
 |0,_,_,_,_,_,_,_,h,_=>by omega
 |n+1,dec,s,st,hd,ig,hs,hf,hn,Ku=>by
  have hx:=hE.hx;have hr:=hE.hr;have rK:=L3 hx;have hdl:=Zs hd;have Abz:dec.length<=256:=by have:=rK.1;omega
  have hrl:∀c∈dec,c.rel.reqs.length<=16:=fun c hc=>rK.2 _ (hd.cand c hc).1;have SH:=td s dec st ch fun c hc=>AJ (hrl c hc) Cl;generalize hO:Dv x roots (n+1) dec s st=O;obtain⟨N,hN⟩:∃N,N=(G8 roots dec).2:=⟨_,rfl⟩;obtain⟨q,hq⟩:∃q,q=(G8 roots dec).1:=⟨_,rfl⟩;rw[<-hN,<-hq]at SH;have hNl:N.length<=10000:=by
   have h1:=iJ (roots:=roots) dec;have h2:(DH roots dec).length=(Ir roots dec).length:=by rw[<-NA,Lm]
   have h3:=s9 hrl;have h4:=Qk hr;rw[<-hN]at h1;unfold Ir at h2;rw[Ac]at h2;omega
  cases hNc:N with
  |nil =>
   rw[hNc]at hN SH;refine Adg roots C A s dec st q [] O rfl SH ?_;rw[<-hO];unfold Dv;rw[<-hN]
  |cons n0 l =>
   rw[hNc]at hN SH;have hNx:=OI hN.symm;rw[<-hq]at hNx;have SI:∀nd∈n0::l,nd∈DH roots dec:=fun nd h=>((hNx.mem nd).1 h).1;have GM:=(Cw hx).1;have few:∀{E:List Cd},ER x E->∀nd∈DH roots E,B9 nd.rq.set/\A7 (nd.place+1):=fun hE' nd h=>by
    rcases M2 h with ⟨k,r,h1,rfl⟩ | ⟨c,hc,k,r,h1,rfl⟩
    .exact⟨(hE.fr r (Aw h1)).1,by unfold A7;show -9223372036854775808<=(0:Int)+1/\(0:Int)+1<9223372036854775808;decide⟩
    .have h2:=hE'.cand c hc;have h3:=uj (GM _ h2.1);rw[<-h2.2.2]at h3;exact⟨((hE.fx _ h2.1).2 r (Aw h1)).1,by unfold A7;show _<=c.place+1/\c.place+1<_;omega⟩
   have rI:∀c∈Cz x q,ER x (dec++[c])/\c.rel.path=q/\c.rel∈x:=fun c hc=>by
    obtain⟨c1,c2⟩:=KA hc;exact⟨hd.snoc c2 (by rw[c1];exact hNx.undone),c1,c2.1⟩
   have Fz:∀(i:Nat) (h:i<(Cz x q).length),(Cz x q)[i]∈Cz x q:=fun i h=>Aq h;obtain⟨V,hV⟩:=hE.av q
   have hL:Lvl x roots C A n dec q n0 l V (Cz x q):={
    hx:=hx
    hr:=hr
    hdl:=Abz
    hcl:=AJ (Wt x q) rK.1
    hcs:=rfl
    hnl:=by rw[hNc]at hNl;omega
    hnq:=fun nd h=>(few hd nd (SI nd h)).1
    hnp:=fun nd h=>(few hd nd (SI nd h)).2
    hex:=fun i h nd hm hh=>by
     obtain⟨a,b,_⟩:=rI _ (Fz i h);exact⟨(PX hx hr a (OF (SI nd hm)) ⟨(Cz x q)[i],by simp,b.trans ((hNx.mem nd).1 hm).2.symm,hh⟩).1,trivial⟩
    hcx:=fun i h nc hc=>by
     obtain⟨a,b,_⟩:=rI _ (Fz i h);obtain⟨m1,m2⟩:=LR hc;exact⟨(PX hx hr a (NC m1) m2).1,trivial⟩
    hcq:=fun i h nc hm=>(few (rI _ (Fz i h)).1 nc (NC hm)).1
    hcp_:=fun i h nc hm=>(few (rI _ (Fz i h)).1 nc (NC hm)).2
    hcr:=fun i h=>by have:=rK.2 _ (rI _ (Fz i h)).2.2;omega
    hcs_:=fun i h r hm=>((hE.fx _ (rI _ (Fz i h)).2.2).2 r hm).1
    hkey:=fun i h=>by
     have b:=(rI _ (Fz i h)).2.1;unfold AR;rw[Ar,Ar];show _=_++[[vs (Cz x q)[i].rel.path,vi (Cz x q)[i].rel.ver.a,vi (Cz x q)[i].rel.ver.b,vi (Cz x q)[i].rel.ver.c]];rw[b]
    hinf0:=(Tb hx hr hd (SI n0 (Ab ..)) (.inl (by
     rw[((hNx.mem n0).1 (Ab ..)).2];exact Ig (by rw[Gb];exact hNx.undone)))).inf
    hV:=hV
    ih:=fun c hc AbV S Et hl hS hSf=>by
     obtain⟨a,b,c3⟩:=rI c hc;obtain⟨k1,k2⟩:=Qe.1 AbV;obtain⟨_,c2⟩:=KA hc;have rH:=ig.snoc hNx b k1 k2;have jL:RU x (dec++[c])<n:=by have:=Uj (dec:=dec) ⟨c2.1,c2.2.1⟩ (by rw[b];exact hNx.undone);omega
     have h1:=s45 hE td n a rH hS hSf jL (st:=Et) (by rw[hl];simp);have h2:=Rv hx hr n a rH hS.der hSf jL (st:=Et);exact⟨h1,⟨h2.der,Qr n hS.nodup⟩,⟨h2.grow.len,fun e1 e2=>((h2.no e1).2.2 e2).1⟩,fun e1=>(h2.no e1).2.1⟩ }
   have hR:Ey (Dv x roots n) x q (n0::l) n0 dec st (Cz x q) s [] []=O:=by
    rw[<-hO]
    conv=>rhs;unfold Dv
    rw[<-hN,hq]
   by_cases hm:∀a,(Value.string q,a)∉C
   .exact Ade x roots C A n s dec st q n0 l V (Cz x q) O O hL hs Ku SH (hE.c2 q hm) hm hR rfl
   .exact Adc x roots C A n s dec st q n0 l V (Cz x q) O O hL hs Ku SH (hE.c1 q) hm hR rfl
end
theorem Adf{x:List Rl}{roots:List Rq}{C A:List (Value×AV)}(hE:Env x roots C A)(n:Nat){dec:List Cd}{s:SS}{st:List (List Sk)}(h1:ER x dec)(h2:IZ roots dec)(h3:LJ x roots s)(h4:s.full=false)(h5:RU x dec<n)(h6:st.length=dec.length) :
  A9 Tryz.prog 137 [.ref 1000 0] (Ao (JK roots C A s dec st) Af) (bE roots C A (Dv x roots n dec s st)) :=
 s45 hE (fun s dec st a b=>s64 roots C A s dec st (AJ (Qk hE.hr) Cl) a b) n h1 h2 h3 h4 h5 h6
def Gy:Bool:=decide (A4 x=0)&&decide (BI roots=0)
theorem zZ(ifs:List (List AV))(roots:List Rq)(hx:∀r∈x,Eu r)(hr:∀q∈roots,JT q):PC 135 [.agg (Ic x ifs),sl Ba roots] (vb (Gy x roots)):=by
 refine Ps (pC [2] []) Tryz.func135 rfl (Nz rfl) (yN (Xi .pure (Xi _ (Yi (vq VH x ifs hx) (Yi (fun h1=>?_) (fun h1=>?_))))))
 .refine Xi .pure (Xi _ (Yi (c65 VH roots hr) (Yi (fun h2=>?_) (fun h2=>?_))))
  .exact .of_eq (show vb true=vb (Gy x roots) by unfold Gy;rw[h1,h2];rfl)
  exact .of_eq (show vb false=vb (Gy x roots) by unfold Gy;rw[AB h2,Dn])
 exact .of_eq (show vb false=vb (Gy x roots) by unfold Gy;rw[AB h1];rfl)
end Go.Eng
