/- Lemmas 26. -/
import Derived.Test.YteaiieomnhbmgaaGreatDoorEA25
set_option maxHeartbeats 16000000
namespace Go.Eng
open Go.Proofs
variable (x:List Rl)(roots:List Rq)(C A:List (Value×AV))(n:Nat)(s:SS)(dec:List Cd)(st:List (List Sk))(p:ByteArray)(n0:Nd)(l:List Nd)(V:AV)(cs:List Cd)(R O:K7)
theorem dM{α:Type}(o:Option α):(∃x,o=some x)\/o=none:=by
 cases o with
 |none=>exact .inr rfl
 |some x=>exact .inl ⟨x,rfl⟩
theorem yM{T st:List (List Sk)}{sk:List Sk}(h:T=st++[sk]):((T.map Bq).take ((T.length:Int)-1).toNat)=st.map Bq/\((T.length:Int)-1).toNat=st.length:=by
 have e:((T.length:Int)-1).toNat=st.length:=by rw[h,Ac,Bg];omega
 refine⟨?_,e⟩;rw[e,h,As,HW B0,At B0]
abbrev HV:Prop:=(∀a,(Value.string p,a)∈A->a=V)/\((∀a,(Value.string p,a)∉A)->V=nzA)/\∀h,PC 261 [vs p,str h V] (sl AO (IM p (Cn x p)))
abbrev kS(n:Nd):Prop:=∀d,Ei x roots d (U8 n)=some (JU n)
structure Lvl(x:List Rl)(roots:List Rq)(C A:List (Value×AV))(n:Nat)(dec:List Cd)(p:ByteArray)(n0:Nd)(l:List Nd)(V:AV)(cs:List Cd):Prop where
 hx:A6 x=0
 hr:BK roots=0
 hdl:dec.length<=256
 hcl:cs.length<=256
 hcs:cs=CE x p
 hnl:(n0::l).length<9223372036854775807
 hnq:∀n∈n0::l,B8 n.rq.set
 hnp:∀n∈n0::l,Ba (n.place+1)
 hex:∀(i:Nat) (h:i<cs.length),∀nd∈n0::l,has nd.rq.set cs[i].place=false->kS x roots nd/\True
 hcx:∀(i:Nat) (h:i<cs.length) (nc:Nd),Ey dec cs[i]=some nc->kS x roots nc/\True
 hcq:∀(i:Nat) (h:i<cs.length) (nc:Nd),nc∈RQ cs[i]->B8 nc.rq.set
 hcp_:∀(i:Nat) (h:i<cs.length) (nc:Nd),nc∈RQ cs[i]->Ba (nc.place+1)
 hcr:∀(i:Nat) (h:i<cs.length),cs[i].rel.reqs.length<=1073741824
 hcs_:∀(i:Nat) (h:i<cs.length),∀q∈cs[i].rel.reqs,B8 q.set
 hkey:∀(i:Nat) (h:i<cs.length),(AU dec).map Ae++[[vs p,vi cs[i].rel.ver.a,vi cs[i].rel.ver.b,vi cs[i].rel.ver.c]]=(AU (dec++[cs[i]])).map Ae
 hinf0:kS x roots n0
 hV:HV x A p V
 ih:∀c∈CE x p,jK dec (n0::l) c=true->∀(S:SS) (EA : List (List Sk)),EA.length=dec.length+1->L1 x roots S->S.full=false ->
  Bc Tryz.prog 137 [.ref 1000 0] (Ap (JW roots C A S (dec++[c]) EA) Af) (cu roots C A (DB x roots n (dec++[c]) S EA))/\L1 x roots (DB x roots n (dec++[c]) S EA).ss /\
  (S.drv.length<=(DB x roots n (dec++[c]) S EA).ss.drv.length/\((DB x roots n (dec++[c]) S EA).found=false->(DB x roots n (dec++[c]) S EA).ss.full=false->(DB x roots n (dec++[c]) S EA).res<(DB x roots n (dec++[c]) S EA).ss.drv.length)) /\
  ((DB x roots n (dec++[c]) S EA).found=false->(DB x roots n (dec++[c]) S EA).stack=EA)
theorem Aep(hL:Lvl x roots C A n dec p n0 l V cs)(hs:L1 x roots s)(Kh:st.length=dec.length)(Tq:Bc Tryz.prog 186 [.ref 1000 0] (Ap (JW roots C A s dec st) Af) fun r h'=>r=.tup [vs p,sl BG (n0::l)]/\h'=Ap (JW roots C A s dec st) Af)(hC1:∀a,(Value.string p,a)∈C->a=sl AX cs)(hC2:¬∀a,(Value.string p,a)∉C)(hR:ED (DB x roots n) x p (n0::l) n0 dec st cs s [] []=R)(fL:O=R) :
  Bc Tryz.prog 137 [.ref 1000 0] (Ap (JW roots C A s dec st) Af) (cu roots C A O):=by
 obtain⟨hx,hr,hdl,hcl,hcs,hnl,hnq,hnp,hex,hcx,hcq,hcp_,hcr,hcs_,hkey,hinf0,⟨xZ,x7,x8⟩,ih⟩:=hL;have hcm:∀(i:Nat) (h:i<cs.length),cs[i]∈CE x p:=fun i h=>by rw[<-hcs];exact Al h
 have wW:∀(i:Nat) (h:i<cs.length),B8 (AU (dec++[cs[i]])):=fun i h=>by unfold B8 AU;rw[Lm,Ac];simp;omega
 clear hcs
 refine Cu (M2 ⟨[9],[(6,1),(7,3),(145,1)],[],[],[],[],[],[],[(60,3),(101,3)],[(300001,500091000),(300026,500091000),(300029,500091000)],[1,5,12,15,17,21,23,24,25,26,28,29,31,32,33]⟩) [(1000,1000),(1001,1001),(1002,1002),(1003,1003),(1004,1004),(500,2000)] rfl CW hm rfl Tryz.func137 Wk rfl (Nz rfl) Wk rfl (Yi (show st.length=(st.map Bq).length by simp) (cU [(0,.ref 1000 0)] [(500,.arr 1 (st.map Bq)),(1000,.cells (srM roots C A s dec 500 st.length)),(1001,.tok 6 s.infs.length),(1002,.tok 1 s.drv.length),(1003,.map FS (FY 0 s.infs)),(1004,.dead)] Z1 Z6 (Xi (.gen ct 0) (Yi rfl (Bc.imp Tq ?_)))));intro v1 g1 q1;have rt:=q1.1;have ru:=q1.2;subst rt;subst ru;refine Yi (fun h2=>?_) (fun h2=>?_)
 .exact absurd h2 (by simp;omega)
 refine cU [(0,.ref 1000 0),(4,vs p),(5,sl BG (n0::l)),(6,.slice (.id 6 1) [])] [(6,.tok 1 0),(500,.arr 1 (st.map Bq)),(1000,.cells (srM roots C A s dec 500 st.length)),(1001,.tok 6 s.infs.length),(1002,.tok 1 s.drv.length),(1003,.map FS (FY 0 s.infs)),(1004,.dead)] Z4 Z7 (Yi (fun a ha=>?_) (fun Ob=>?_))
 .have ea:=hC1 a ha;subst ea;refine Xi {q:Nat×SS×List Nat×List Sk // q.1<=cs.length/\ED (DB x roots n) x p (n0::l) n0 dec st (cs.drop q.1) q.2.1 q.2.2.1 q.2.2.2=R/\L1 x roots q.2.1/\(∀r∈q.2.2.1,r<q.2.1.drv.length)/\q.2.2.1.length<=q.1/\q.2.2.2.length<=q.1} (Xi (fun q=>⟨[(0,.ref 1000 0),(4,vs p),(5,sl BG (n0::l)),(6,.slice (.id 6 1) (q.1.2.2.1.map Da)),(7,.slice (.id 7 3) (q.1.2.2.2.map CD)),(32,sl AX cs),(33,vi (cs.map AX).length),(34,vi q.1.1)],[(6,.tok 1 q.1.2.2.1.length),(7,.tok 3 q.1.2.2.2.length),(500,.arr 1 (st.map Bq)),(1000,.cells (srM roots C A q.1.2.1 dec 500 st.length)),(1001,.tok 6 q.1.2.1.infs.length),(1002,.tok 1 q.1.2.1.drv.length),(1003,.map FS (FY 0 q.1.2.1.infs)),(1004,.dead)],Af⟩) (Xi (fun q=>cs.length-q.1.1) (Yi (Xi ⟨(0,s,[],[]),AA _,hR,hs,fun r h=>(by cases h),Ak _,Ak _⟩ ?_) ?_)))
  .exact⟨Z8,Z8,Fh,BP Wk⟩
  intro⟨⟨i,S,rs,sk⟩,j1,j2,j3,j4,j5,j6⟩;have j5:rs.length<=i:=j5;have j6:sk.length<=i:=j6;have hw:=j3.dl;have TK:∀t∈S.drv,kR t:=fun t ht=>by have q:=j3.der.few hx hr t ht;exact⟨Fy q,q.2⟩
  refine Yi (fun h3=>?_) (fun h3=>?_)
  .have h3:(i:Int)<((cs.map AX).length:Int):=h3;have n3:=EE h3;refine Xi (AX cs[i]) (Yi (IU n3) (Yi rfl (yN (yN (Yi (fun h4=>?_) (fun h4=>?_))))))
   .have eR:R=⟨0,false,S,dec,st⟩:=by rw[<-j2];exact p8 n3 h4
    exact Xi _ (Yi (.refl _) (OH (fL.trans eR)))
   have qt:=s86 (fF:=188) (caps:=[.cptr (AX cs[i])]) (fun c hc=>by obtain rfl:=Aq.1 hc;intro h;rfl) (n0::l) (fun n=>!has n.rq.set cs[i].place) (fun n hn=>s87 n cs[i] (hnq n hn)) hnl;refine BN (jj (fun n=>!has n.rq.set cs[i].place) (n0::l)) (fun h6=>?_) (fun h6=>?_)
   .refine CR h6 (fun k86 h6=>CR h6 (fun nd h6=>?_));rw[h6.1]at qt;refine Xi .pure (Xi _ (Yi qt (cU [(0,.ref 1000 0),(4,vs p),(5,sl BG (n0::l)),(6,.slice (.id 6 1) (rs.map Da)),(7,.slice (.id 7 3) (sk.map CD)),(9,.ref 9 0),(10,vi (k86:Nat)),(32,sl AX cs),(33,vi (cs.map AX).length),(34,vi i)] [(6,.tok 1 rs.length),(7,.tok 3 sk.length),(9,.ro (AX cs[i])),(500,.arr 1 (st.map Bq)),(1000,.cells (srM roots C A S dec 500 st.length)),(1001,.tok 6 S.infs.length),(1002,.tok 1 S.drv.length),(1003,.map FS (FY 0 S.infs)),(1004,.dead)] Z10 Z9 (Yi (fun _=>?_) (fun hf=>absurd (show(0:Int)<=((k86:Nat):Int) by omega) hf)))));refine Xi (BG nd) (Yi (Yi (show(0:Int)<=((k86:Nat):Int) by omega) (Ed h6.2.1)) (Yi rfl (yN ?_)));have uI:=hex i n3 nd (BF h6.2.2) (by have q:=DP h6.2.2;simpa using q);obtain⟨b1,b2,b3⟩:=j3.add (uI.1 S.drv)
    change L1 x roots (BW S nd).2 at b1
    change (BW S nd).1<(BW S nd).2.drv.length at b2
    change S.drv.length<=(BW S nd).2.drv.length at b3
    refine Xi (.gen ct 0) (Yi rfl (Bc.imp (s88 roots C A S dec st nd hw.1 hw.2.1 j3.nodup (hnq nd (Az h6.2.1)) (hnp nd (Az h6.2.1))) ?_));intro v7 g7 q7;have q7a:=q7.1;have q7b:=q7.2;subst q7a;subst q7b;refine Yi (kD rfl ch Cl) (Yi (Ii i ch) ?_);have YU:S.full=false:=by simpa using h4
    have eN:ED (DB x roots n) x p (n0::l) n0 dec st (cs.drop (i+1)) (BW S nd).2 (rs++[(BW S nd).1]) sk=R:=by rw[<-xE n3 YU h6.2.2];exact j2
    refine Xi ⟨(i+1,(BW S nd).2,rs++[(BW S nd).1],sk),FR n3,eN,b1,fun r h=>(AP.1 h).elim (fun h=>BA (j4 r h) b3) (fun h=>by rw[Aq.1 h];exact b2),(by rw[Ac];exact EO j5),Nat.le_succ_of_le j6⟩ ?_;exact⟨Dl cs.length i ch,⟨Zr,Zr,Zr,⟨(show AV.slice (.id 6 1) (rs.map Da++[[vi (((BW S nd).1:Nat):Int)]])=.slice (.id 6 1) ((rs++[(BW S nd).1]).map Da) by rw[As];rfl),rfl⟩,Zr,Zr,Zr,Zr,Tv⟩,⟨⟨(show HO.tok 1 ((rs.map Da).length+([[vi (((BW S nd).1:Nat):Int)]]:List (List AV)).length)=.tok 1 (rs++[(BW S nd).1]).length by simp),rfl⟩,Zr,Zr,Zr,Zr,Zr,Zr,Zr,Tv⟩,Fh,BP Wk⟩
   skip
   rw[h6.1]at qt;refine Xi .pure (Xi _ (Yi qt (cU [(0,.ref 1000 0),(4,vs p),(5,sl BG (n0::l)),(6,.slice (.id 6 1) (rs.map Da)),(7,.slice (.id 7 3) (sk.map CD)),(9,.ref 9 0),(10,vi (-1)),(32,sl AX cs),(33,vi (cs.map AX).length),(34,vi i)] [(6,.tok 1 rs.length),(7,.tok 3 sk.length),(9,.ro (AX cs[i])),(500,.arr 1 (st.map Bq)),(1000,.cells (srM roots C A S dec 500 st.length)),(1001,.tok 6 S.infs.length),(1002,.tok 1 S.drv.length),(1003,.map FS (FY 0 S.infs)),(1004,.dead)] Z10 Z9 (Yi (fun h=>absurd h Cl) (fun _=>?_)))));refine Xi _ (Xi _ (Yi Wk (Yi (uh (AU dec) (by unfold B8 AU;rw[Lm];omega)) (yN ?_))));have WU:Cf 4 [[vs p,vi cs[i].rel.ver.a,vi cs[i].rel.ver.b,vi cs[i].rel.ver.c]]/\((AU dec).map Ae).length=((AU dec).map Ae).length/\(((AU dec).map Ae).length+([[vs p,vi cs[i].rel.ver.a,vi cs[i].rel.ver.b,vi cs[i].rel.ver.c]]:List (List AV)).length)*40<=140737488355328/\((AU dec).map Ae).length+([[vs p,vi cs[i].rel.ver.a,vi cs[i].rel.ver.b,vi cs[i].rel.ver.c]]:List (List AV)).length<=9223372036854775807:=⟨⟨rfl,trivial⟩,rfl,(by simp only[Lm,Am,Au];omega),(by simp only[Lm,Am,Au];omega)⟩;refine Yi WU (Yi Wk (cU [(0,.ref 1000 0),(4,vs p),(5,sl BG (n0::l)),(6,.slice (.id 6 1) (rs.map Da)),(7,.slice (.id 7 3) (sk.map CD)),(9,.ref 9 0),(11,.slice (.id 16000 4) ((AU (dec++[cs[i]])).map Ae)),(32,sl AX cs),(33,vi (cs.map AX).length),(34,vi i)] [(6,.tok 1 rs.length),(7,.tok 3 sk.length),(9,.ro (AX cs[i])),(500,.arr 1 (st.map Bq)),(1000,.cells (srM roots C A S dec 500 st.length)),(1001,.tok 6 S.infs.length),(1002,.tok 1 S.drv.length),(1003,.map FS (FY 0 S.infs)),(1004,.dead),(16000,.tok 4 ((AU (dec++[cs[i]])).map Ae).length)] ⟨Zr,Zr,Zr,Zr,Zr,Zr,⟨(show(.slice (.id 16000 4) (((AU dec).map Ae)++[[vs p,vi cs[i].rel.ver.a,vi cs[i].rel.ver.b,vi cs[i].rel.ver.c]]):AV)=.slice (.id 16000 4) ((AU (dec++[cs[i]])).map Ae) by rw[hkey i n3]),rfl⟩,Zr,Zr,Zr,Tv⟩ ⟨Zr,Zr,Zr,Zr,Zr,Zr,Zr,Zr,Zr,⟨(show(.tok 4 (((AU dec).map Ae).length+([[vs p,vi cs[i].rel.ver.a,vi cs[i].rel.ver.b,vi cs[i].rel.ver.c]]:List (List AV)).length):HO)=.tok 4 ((AU (dec++[cs[i]])).map Ae).length by rw[<-hkey i n3,Ac]),rfl⟩,Tv⟩ ?_))
   have qu:=s89 roots C A S dec st (AU (dec++[cs[i]])) hw.2.2 TK (wW i n3);refine BN (dM (P0 S.drv (AU (dec++[cs[i]])))) (fun MB=>?_) (fun MB=>?_)
   .refine CR MB (fun ke MB=>?_);have eV:YD S.drv (AU (dec++[cs[i]]))=.tup [vi (ke:Nat),vb true]:=by unfold YD;rw[MB];rfl
    rw[eV]at qu;refine Xi (.gen ct 0) (Yi rfl (Bc.imp qu ?_));intro v12 g12 rr;have vE:=rr.1;have vF:=rr.2;subst vE;subst vF;refine yN ?_;have YS:=s69 roots C A S dec st cs[i] ch (hcr i n3) (hcs_ i n3);refine BN (dM (Ey dec cs[i])) (fun Nb=>?_) (fun Nb=>?_)
    .refine CR Nb (fun nc Nb=>?_);have eW:uk (Ey dec cs[i])=.tup [.agg (BG nc),vb true]:=by rw[Nb];rfl
     rw[eW]at YS;refine Xi (.gen ct 0) (Yi rfl (Bc.imp YS ?_));intro v14 g14 q14;have AdJ:=q14.1;have AdK:=q14.2;subst AdJ;subst AdK;refine yN (cU [(0,.ref 1000 0),(4,vs p),(5,sl BG (n0::l)),(6,.slice (.id 6 1) (rs.map Da)),(7,.slice (.id 7 3) (sk.map CD)),(9,.ref 9 0),(11,.slice (.id 16000 4) ((AU (dec++[cs[i]])).map Ae)),(12,vi (ke:Nat)),(13,vb true),(14,.ref 14 0),(15,vb true),(32,sl AX cs),(33,vi (cs.map AX).length),(34,vi i)] [(6,.tok 1 rs.length),(7,.tok 3 sk.length),(9,.ro (AX cs[i])),(14,.cells (BG nc)),(500,.arr 1 (st.map Bq)),(1000,.cells (srM roots C A S dec 500 st.length)),(1001,.tok 6 S.infs.length),(1002,.tok 1 S.drv.length),(1003,.map FS (FY 0 S.infs)),(1004,.dead),(16000,.tok 4 ((AU (dec++[cs[i]])).map Ae).length)] ⟨Zr,Zr,Zr,Zr,Zr,Zr,Zr,Zr,Zr,Zr,Zr,Zr,Zr,Zr,Tv⟩ Z11 (cU [(0,.ref 1000 0),(4,vs p),(5,sl BG (n0::l)),(6,.slice (.id 6 1) (rs.map Da)),(7,.slice (.id 7 3) (sk.map CD)),(9,.ref 9 0),(12,vi (ke:Nat)),(32,sl AX cs),(33,vi (cs.map AX).length),(34,vi i)] [(6,.tok 1 rs.length),(7,.tok 3 sk.length),(9,.ro (AX cs[i])),(500,.arr 1 (st.map Bq)),(1000,.cells (srM roots C A S dec 500 st.length)),(1001,.tok 6 S.infs.length),(1002,.tok 1 S.drv.length),(1003,.map FS (FY 0 S.infs)),(1004,.dead)] Z10 Z9 (Xi (Dn (EP S ke)) (Yi (Yi (show(0:Int)<=((ke:Nat):Int) by omega) (Ed (Ft (LC MB).1))) (Yi rfl ?_)))));have YU:S.full=false:=by simpa using h4
     have Wr:ke<S.drv.length:=(LC MB).1;have fR:=j3.der.few hx hr;refine BN (Bt (Eb (EP S ke) p)) (fun xR=>?_) (fun xR=>?_)
     .refine Xi .pure (Xi _ (Yi (cb xR (pB (EP S ke) p (Fy (fR _ (Az (Ft Wr)))))) (cU [(0,.ref 1000 0),(4,vs p),(5,sl BG (n0::l)),(6,.slice (.id 6 1) (rs.map Da)),(7,.slice (.id 7 3) (sk.map CD)),(9,.ref 9 0),(12,vi (ke:Nat)),(32,sl AX cs),(33,vi (cs.map AX).length),(34,vi i)] [(6,.tok 1 rs.length),(7,.tok 3 sk.length),(9,.ro (AX cs[i])),(500,.arr 1 (st.map Bq)),(1000,.cells (srM roots C A S dec 500 st.length)),(1001,.tok 6 S.infs.length),(1002,.tok 1 S.drv.length),(1003,.map FS (FY 0 S.infs)),(1004,.dead)] Z10 Z9 (Yi (kD rfl ch Cl) (Yi (kD rfl ch Cl) (Yi (Ii i ch) ?_))))));have eA:=(Yu (rec:=DB x roots n) (x:=x) (p:=p) (n0:=n0) (st:=st) (rs:=rs) (sk:=sk) n3 YU h6.2 MB);have eN:ED (DB x roots n) x p (n0::l) n0 dec st (cs.drop (i+1)) S (rs++[ke]) (sk++[(⟨p,cs[i].place,(ke:Nat)⟩:Sk)])=R:=by rw[<-Yh (c:=cs[i]) xR,<-eA];exact j2
      refine Xi ⟨(i+1,S,rs++[ke],sk++[(⟨p,cs[i].place,(ke:Nat)⟩:Sk)]),FR n3,eN,j3,fun r h=>(AP.1 h).elim ((fun r h=>j4 r h) r) (fun h=>by rw[Aq.1 h];exact Wr),(by rw[Ac];exact EO j5),(by rw[Ac];exact EO j6)⟩ ?_;exact⟨Dl cs.length i ch,⟨Zr,Zr,Zr,⟨(show AV.slice (.id 6 1) (rs.map Da++[[vi ((ke:Nat):Int)]])=.slice (.id 6 1) ((rs++[ke]).map Da) by rw[As];rfl),rfl⟩,⟨(show AV.slice (.id 7 3) (sk.map CD++[[vs p,vi cs[i].place,vi ((ke:Nat):Int)]])=.slice (.id 7 3) ((sk++[(⟨p,cs[i].place,(ke:Nat)⟩:Sk)]).map CD) by rw[As];rfl),rfl⟩,Zr,Zr,Zr,Tv⟩,⟨⟨(show HO.tok 1 ((rs.map Da).length+([[vi ((ke:Nat):Int)]]:List (List AV)).length)=.tok 1 (rs++[ke]).length by simp),rfl⟩,⟨(show HO.tok 3 ((sk.map CD).length+([[vs p,vi cs[i].place,vi ((ke:Nat):Int)]]:List (List AV)).length)=.tok 3 (sk++[(⟨p,cs[i].place,(ke:Nat)⟩:Sk)]).length by simp),rfl⟩,Zr,Zr,Zr,Zr,Zr,Zr,Tv⟩,Fh,BP Wk⟩
     refine Xi .pure (Xi _ (Yi (cb xR (pB (EP S ke) p (Fy (fR _ (Az (Ft Wr)))))) (cU [(12,vi (ke:Nat))] [(500,.arr 1 (st.map Bq)),(1000,.cells (srM roots C A S dec 500 st.length)),(1001,.tok 6 S.infs.length),(1002,.tok 1 S.drv.length),(1003,.map FS (FY 0 S.infs)),(1004,.dead)] Z1 Z6 ?_)))
     have eA:=(Yu (rec:=DB x roots n) (x:=x) (p:=p) (n0:=n0) (st:=st) (rs:=rs) (sk:=sk) n3 YU h6.2 MB);have eR:R=⟨ke,false,S,dec,st⟩:=by rw[<-j2];rw[eA];exact eX xR
     exact Xi _ (Yi (.refl _) (OH (fL.trans eR)))
    skip
    have eW:uk (Ey dec cs[i])=.tup [.agg [vs ⟨#[]⟩,nzA,vs ⟨#[]⟩,vi 0,vi 0],vb false]:=by rw[Nb];rfl
    rw[eW]at YS;refine Xi (.gen ct 0) (Yi rfl (Bc.imp YS ?_));intro v20 g20 q20;have AdL:=q20.1;have AdM:=q20.2;subst AdL;subst AdM;refine yN (cU [(0,.ref 1000 0),(4,vs p),(5,sl BG (n0::l)),(6,.slice (.id 6 1) (rs.map Da)),(7,.slice (.id 7 3) (sk.map CD)),(9,.ref 9 0),(11,.slice (.id 16000 4) ((AU (dec++[cs[i]])).map Ae)),(12,vi (ke:Nat)),(13,vb true),(14,.ref 14 0),(15,vb false),(32,sl AX cs),(33,vi (cs.map AX).length),(34,vi i)] [(6,.tok 1 rs.length),(7,.tok 3 sk.length),(9,.ro (AX cs[i])),(14,.cells [vs ⟨#[]⟩,nzA,vs ⟨#[]⟩,vi 0,vi 0]),(500,.arr 1 (st.map Bq)),(1000,.cells (srM roots C A S dec 500 st.length)),(1001,.tok 6 S.infs.length),(1002,.tok 1 S.drv.length),(1003,.map FS (FY 0 S.infs)),(1004,.dead),(16000,.tok 4 ((AU (dec++[cs[i]])).map Ae).length)] ⟨Zr,Zr,Zr,Zr,Zr,Zr,Zr,Zr,Zr,Zr,Zr,Zr,Zr,Zr,Tv⟩ Z11 (cU [(0,.ref 1000 0),(4,vs p),(5,sl BG (n0::l)),(6,.slice (.id 6 1) (rs.map Da)),(7,.slice (.id 7 3) (sk.map CD)),(9,.ref 9 0),(12,vi (ke:Nat)),(32,sl AX cs),(33,vi (cs.map AX).length),(34,vi i)] [(6,.tok 1 rs.length),(7,.tok 3 sk.length),(9,.ro (AX cs[i])),(500,.arr 1 (st.map Bq)),(1000,.cells (srM roots C A S dec 500 st.length)),(1001,.tok 6 S.infs.length),(1002,.tok 1 S.drv.length),(1003,.map FS (FY 0 S.infs)),(1004,.dead)] Z10 Z9 (Xi (Dn (EP S ke)) (Yi (Yi (show(0:Int)<=((ke:Nat):Int) by omega) (Ed (Ft (LC MB).1))) (Yi rfl ?_)))));have YU:S.full=false:=by simpa using h4
    have Wr:ke<S.drv.length:=(LC MB).1;have fR:=j3.der.few hx hr;refine BN (Bt (Eb (EP S ke) p)) (fun Xp=>?_) (fun Xp=>?_)
    .refine Xi .pure (Xi _ (Yi (cb Xp (pB (EP S ke) p (Fy (fR _ (Az (Ft Wr)))))) (cU [(0,.ref 1000 0),(4,vs p),(5,sl BG (n0::l)),(6,.slice (.id 6 1) (rs.map Da)),(7,.slice (.id 7 3) (sk.map CD)),(9,.ref 9 0),(12,vi (ke:Nat)),(32,sl AX cs),(33,vi (cs.map AX).length),(34,vi i)] [(6,.tok 1 rs.length),(7,.tok 3 sk.length),(9,.ro (AX cs[i])),(500,.arr 1 (st.map Bq)),(1000,.cells (srM roots C A S dec 500 st.length)),(1001,.tok 6 S.infs.length),(1002,.tok 1 S.drv.length),(1003,.map FS (FY 0 S.infs)),(1004,.dead)] Z10 Z9 (Yi (kD rfl ch Cl) (Yi (kD rfl ch Cl) (Yi (Ii i ch) ?_))))));have eA:=(Yu (rec:=DB x roots n) (x:=x) (p:=p) (n0:=n0) (st:=st) (rs:=rs) (sk:=sk) n3 YU h6.2 MB);have eN:ED (DB x roots n) x p (n0::l) n0 dec st (cs.drop (i+1)) S (rs++[ke]) (sk++[(⟨p,cs[i].place,(ke:Nat)⟩:Sk)])=R:=by rw[<-Yh (c:=cs[i]) Xp,<-eA];exact j2
     refine Xi ⟨(i+1,S,rs++[ke],sk++[(⟨p,cs[i].place,(ke:Nat)⟩:Sk)]),FR n3,eN,j3,fun r h=>(AP.1 h).elim ((fun r h=>j4 r h) r) (fun h=>by rw[Aq.1 h];exact Wr),(by rw[Ac];exact EO j5),(by rw[Ac];exact EO j6)⟩ ?_;exact⟨Dl cs.length i ch,⟨Zr,Zr,Zr,⟨(show AV.slice (.id 6 1) (rs.map Da++[[vi ((ke:Nat):Int)]])=.slice (.id 6 1) ((rs++[ke]).map Da) by rw[As];rfl),rfl⟩,⟨(show AV.slice (.id 7 3) (sk.map CD++[[vs p,vi cs[i].place,vi ((ke:Nat):Int)]])=.slice (.id 7 3) ((sk++[(⟨p,cs[i].place,(ke:Nat)⟩:Sk)]).map CD) by rw[As];rfl),rfl⟩,Zr,Zr,Zr,Tv⟩,⟨⟨(show HO.tok 1 ((rs.map Da).length+([[vi ((ke:Nat):Int)]]:List (List AV)).length)=.tok 1 (rs++[ke]).length by simp),rfl⟩,⟨(show HO.tok 3 ((sk.map CD).length+([[vs p,vi cs[i].place,vi ((ke:Nat):Int)]]:List (List AV)).length)=.tok 3 (sk++[(⟨p,cs[i].place,(ke:Nat)⟩:Sk)]).length by simp),rfl⟩,Zr,Zr,Zr,Zr,Zr,Zr,Tv⟩,Fh,BP Wk⟩
    refine Xi .pure (Xi _ (Yi (cb Xp (pB (EP S ke) p (Fy (fR _ (Az (Ft Wr)))))) (cU [(12,vi (ke:Nat))] [(500,.arr 1 (st.map Bq)),(1000,.cells (srM roots C A S dec 500 st.length)),(1001,.tok 6 S.infs.length),(1002,.tok 1 S.drv.length),(1003,.map FS (FY 0 S.infs)),(1004,.dead)] Z1 Z6 ?_)))
    have eA:=(Yu (rec:=DB x roots n) (x:=x) (p:=p) (n0:=n0) (st:=st) (rs:=rs) (sk:=sk) n3 YU h6.2 MB);have eR:R=⟨ke,false,S,dec,st⟩:=by rw[<-j2];rw[eA];exact eX Xp
    exact Xi _ (Yi (.refl _) (OH (fL.trans eR)))
   skip
   have eV:YD S.drv (AU (dec++[cs[i]]))=.tup [vi 0,vb false]:=by unfold YD;rw[MB];rfl
   rw[eV]at qu;refine Xi (.gen ct 0) (Yi rfl (Bc.imp qu ?_));intro v26 g26 q26;have AdP:=q26.1;have AdQ:=q26.2;subst AdP;subst AdQ;refine yN ?_;have YS:=s69 roots C A S dec st cs[i] ch (hcr i n3) (hcs_ i n3);refine BN (dM (Ey dec cs[i])) (fun TH=>?_) (fun TH=>?_)
   .refine CR TH (fun nc TH=>?_);have eW:uk (Ey dec cs[i])=.tup [.agg (BG nc),vb true]:=by rw[TH];rfl
    rw[eW]at YS;refine Xi (.gen ct 0) (Yi rfl (Bc.imp YS ?_));intro v28 g28 q28;have AdR:=q28.1;have AdS:=q28.2;subst AdR;subst AdS;refine yN (cU [(0,.ref 1000 0),(4,vs p),(5,sl BG (n0::l)),(6,.slice (.id 6 1) (rs.map Da)),(7,.slice (.id 7 3) (sk.map CD)),(9,.ref 9 0),(11,.slice (.id 16000 4) ((AU (dec++[cs[i]])).map Ae)),(12,vi 0),(13,vb false),(14,.ref 14 0),(15,vb true),(32,sl AX cs),(33,vi (cs.map AX).length),(34,vi i)] [(6,.tok 1 rs.length),(7,.tok 3 sk.length),(9,.ro (AX cs[i])),(14,.cells (BG nc)),(500,.arr 1 (st.map Bq)),(1000,.cells (srM roots C A S dec 500 st.length)),(1001,.tok 6 S.infs.length),(1002,.tok 1 S.drv.length),(1003,.map FS (FY 0 S.infs)),(1004,.dead),(16000,.tok 4 ((AU (dec++[cs[i]])).map Ae).length)] ⟨Zr,Zr,Zr,Zr,Zr,Zr,Zr,Zr,Zr,Zr,Zr,Zr,Zr,Zr,Tv⟩ Z11 (yN ?_));have uI:=hcx i n3 nc TH;obtain⟨b1,b2,b3⟩:=j3.add (uI.1 S.drv)
    change L1 x roots (BW S nc).2 at b1
    change (BW S nc).1<(BW S nc).2.drv.length at b2
    change S.drv.length<=(BW S nc).2.drv.length at b3
    refine Xi (.gen ct 0) (Yi rfl (Bc.imp (s88 roots C A S dec st nc hw.1 hw.2.1 j3.nodup (hcq i n3 nc (L9 TH).1) (hcp_ i n3 nc (L9 TH).1)) ?_));intro v29 g29 q29;have AdT:=q29.1;have AdU:=q29.2;subst AdT;subst AdU;refine cU [(0,.ref 1000 0),(4,vs p),(5,sl BG (n0::l)),(6,.slice (.id 6 1) (rs.map Da)),(7,.slice (.id 7 3) (sk.map CD)),(9,.ref 9 0),(12,vi ((BW S nc).1:Nat)),(32,sl AX cs),(33,vi (cs.map AX).length),(34,vi i)] [(6,.tok 1 rs.length),(7,.tok 3 sk.length),(9,.ro (AX cs[i])),(500,.arr 1 (st.map Bq)),(1000,.cells [sl A8 roots,.cmap Cr C,.cmap Cr A,.slice (.id 1001 6) ((BW S nc).2.infs.map Dw),.slice (.id 1002 1) ((BW S nc).2.drv.map Dn),.mref 1003,vb (BW S nc).2.full,sl AX dec,sl Ae (AU dec),.msl 500 st.length]),(1001,.tok 6 (BW S nc).2.infs.length),(1002,.tok 1 (BW S nc).2.drv.length),(1003,.map FS (FY 0 (BW S nc).2.infs)),(1004,.dead)] Z10 Z9 (Xi (Dn (EP (BW S nc).2 (BW S nc).1)) (Yi (Yi (show(0:Int)<=(((BW S nc).1:Nat):Int) by omega) (Ed (Ft b2))) (Yi rfl ?_)));have YU:S.full=false:=by simpa using h4
    have Wr:(BW S nc).1<(BW S nc).2.drv.length:=b2;have fR:=b1.der.few hx hr;refine BN (Bt (Eb (EP (BW S nc).2 (BW S nc).1) p)) (fun xS=>?_) (fun xS=>?_)
    .refine Xi .pure (Xi _ (Yi (cb xS (pB (EP (BW S nc).2 (BW S nc).1) p (Fy (fR _ (Az (Ft Wr)))))) (cU [(0,.ref 1000 0),(4,vs p),(5,sl BG (n0::l)),(6,.slice (.id 6 1) (rs.map Da)),(7,.slice (.id 7 3) (sk.map CD)),(9,.ref 9 0),(12,vi ((BW S nc).1:Nat)),(32,sl AX cs),(33,vi (cs.map AX).length),(34,vi i)] [(6,.tok 1 rs.length),(7,.tok 3 sk.length),(9,.ro (AX cs[i])),(500,.arr 1 (st.map Bq)),(1000,.cells [sl A8 roots,.cmap Cr C,.cmap Cr A,.slice (.id 1001 6) ((BW S nc).2.infs.map Dw),.slice (.id 1002 1) ((BW S nc).2.drv.map Dn),.mref 1003,vb (BW S nc).2.full,sl AX dec,sl Ae (AU dec),.msl 500 st.length]),(1001,.tok 6 (BW S nc).2.infs.length),(1002,.tok 1 (BW S nc).2.drv.length),(1003,.map FS (FY 0 (BW S nc).2.infs)),(1004,.dead)] Z10 Z9 (Yi (kD rfl ch Cl) (Yi (kD rfl ch Cl) (Yi (Ii i ch) ?_))))));have eA:=(ZR (rec:=DB x roots n) (x:=x) (p:=p) (n0:=n0) (st:=st) (rs:=rs) (sk:=sk) n3 YU h6.2 MB TH);have eN:ED (DB x roots n) x p (n0::l) n0 dec st (cs.drop (i+1)) (BW S nc).2 (rs++[(BW S nc).1]) (sk++[(⟨p,cs[i].place,((BW S nc).1:Nat)⟩:Sk)])=R:=by rw[<-Yh (c:=cs[i]) xS,<-eA];exact j2
     refine Xi ⟨(i+1,(BW S nc).2,rs++[(BW S nc).1],sk++[(⟨p,cs[i].place,((BW S nc).1:Nat)⟩:Sk)]),FR n3,eN,b1,fun r h=>(AP.1 h).elim ((fun r h=>BA (j4 r h) b3) r) (fun h=>by rw[Aq.1 h];exact Wr),(by rw[Ac];exact EO j5),(by rw[Ac];exact EO j6)⟩ ?_;exact⟨Dl cs.length i ch,⟨Zr,Zr,Zr,⟨(show AV.slice (.id 6 1) (rs.map Da++[[vi (((BW S nc).1:Nat):Int)]])=.slice (.id 6 1) ((rs++[(BW S nc).1]).map Da) by rw[As];rfl),rfl⟩,⟨(show AV.slice (.id 7 3) (sk.map CD++[[vs p,vi cs[i].place,vi (((BW S nc).1:Nat):Int)]])=.slice (.id 7 3) ((sk++[(⟨p,cs[i].place,((BW S nc).1:Nat)⟩:Sk)]).map CD) by rw[As];rfl),rfl⟩,Zr,Zr,Zr,Tv⟩,⟨⟨(show HO.tok 1 ((rs.map Da).length+([[vi (((BW S nc).1:Nat):Int)]]:List (List AV)).length)=.tok 1 (rs++[(BW S nc).1]).length by simp),rfl⟩,⟨(show HO.tok 3 ((sk.map CD).length+([[vs p,vi cs[i].place,vi (((BW S nc).1:Nat):Int)]]:List (List AV)).length)=.tok 3 (sk++[(⟨p,cs[i].place,((BW S nc).1:Nat)⟩:Sk)]).length by simp),rfl⟩,Zr,Zr,Zr,Zr,Zr,Zr,Tv⟩,Fh,BP Wk⟩
    refine Xi .pure (Xi _ (Yi (cb xS (pB (EP (BW S nc).2 (BW S nc).1) p (Fy (fR _ (Az (Ft Wr)))))) (cU [(12,vi ((BW S nc).1:Nat))] [(500,.arr 1 (st.map Bq)),(1000,.cells [sl A8 roots,.cmap Cr C,.cmap Cr A,.slice (.id 1001 6) ((BW S nc).2.infs.map Dw),.slice (.id 1002 1) ((BW S nc).2.drv.map Dn),.mref 1003,vb (BW S nc).2.full,sl AX dec,sl Ae (AU dec),.msl 500 st.length]),(1001,.tok 6 (BW S nc).2.infs.length),(1002,.tok 1 (BW S nc).2.drv.length),(1003,.map FS (FY 0 (BW S nc).2.infs)),(1004,.dead)] Z1 Z6 ?_)))
    have eA:=(ZR (rec:=DB x roots n) (x:=x) (p:=p) (n0:=n0) (st:=st) (rs:=rs) (sk:=sk) n3 YU h6.2 MB TH);have eR:R=⟨(BW S nc).1,false,(BW S nc).2,dec,st⟩:=by rw[<-j2];rw[eA];exact eX xS
    exact Xi _ (Yi (.refl _) (OH (fL.trans eR)))
   skip
   have eW:uk (Ey dec cs[i])=.tup [.agg [vs ⟨#[]⟩,nzA,vs ⟨#[]⟩,vi 0,vi 0],vb false]:=by rw[TH];rfl
   rw[eW]at YS;refine Xi (.gen ct 0) (Yi rfl (Bc.imp YS ?_));intro v35 g35 q35;have AdX:=q35.1;have AdY:=q35.2;subst AdX;subst AdY;refine yN (cU [(0,.ref 1000 0),(4,vs p),(5,sl BG (n0::l)),(6,.slice (.id 6 1) (rs.map Da)),(7,.slice (.id 7 3) (sk.map CD)),(9,.ref 9 0),(11,.slice (.id 16000 4) ((AU (dec++[cs[i]])).map Ae)),(12,vi 0),(13,vb false),(14,.ref 14 0),(15,vb false),(32,sl AX cs),(33,vi (cs.map AX).length),(34,vi i)] [(6,.tok 1 rs.length),(7,.tok 3 sk.length),(9,.ro (AX cs[i])),(14,.cells [vs ⟨#[]⟩,nzA,vs ⟨#[]⟩,vi 0,vi 0]),(500,.arr 1 (st.map Bq)),(1000,.cells (srM roots C A S dec 500 st.length)),(1001,.tok 6 S.infs.length),(1002,.tok 1 S.drv.length),(1003,.map FS (FY 0 S.infs)),(1004,.dead),(16000,.tok 4 ((AU (dec++[cs[i]])).map Ae).length)] ⟨Zr,Zr,Zr,Zr,Zr,Zr,Zr,Zr,Zr,Zr,Zr,Zr,Zr,Zr,Tv⟩ Z11 (Yi Wk (cU [(0,.ref 1000 0),(4,vs p),(5,sl BG (n0::l)),(6,.slice (.id 6 1) (rs.map Da)),(7,.slice (.id 7 3) (sk.map CD)),(9,.ref 9 0),(11,.slice (.id 16000 4) ((AU (dec++[cs[i]])).map Ae)),(16,sl AX dec),(17,sl Ae (AU dec)),(32,sl AX cs),(33,vi (cs.map AX).length),(34,vi i)] [(6,.tok 1 rs.length),(7,.tok 3 sk.length),(9,.ro (AX cs[i])),(500,.arr 1 (st.map Bq)),(1000,.cells (srM roots C A S dec 500 st.length)),(1001,.tok 6 S.infs.length),(1002,.tok 1 S.drv.length),(1003,.map FS (FY 0 S.infs)),(1004,.dead),(16000,.tok 4 ((AU (dec++[cs[i]])).map Ae).length)] Z12 Z10 (Xi _ (Xi _ (Yi Wk (Yi (zU dec (by unfold B8;omega)) (yN ?_))))))));have b36:Cf 10 [(AX cs[i])]/\(dec.map AX).length=(dec.map AX).length/\((dec.map AX).length+([(AX cs[i])]:List (List AV)).length)*128<=140737488355328/\(dec.map AX).length+([(AX cs[i])]:List (List AV)).length<=9223372036854775807:=⟨⟨rfl,trivial⟩,rfl,(by simp only[Lm,Am,Au];omega),(by simp only[Lm,Am,Au];omega)⟩;refine Yi b36 (yN (yN (Yi Wk ?_)));have b37:Cf 1 [[sl CD sk]]/\(st.map Bq).length=st.length/\((st.map Bq).length+([[sl CD sk]]:List (List AV)).length)*24<=140737488355328/\(st.map Bq).length+([[sl CD sk]]:List (List AV)).length<=9223372036854775807:=⟨⟨rfl,trivial⟩,(by rw[Lm]),(by simp only[Lm,Am,Au];omega),(by simp only[Lm,Am,Au];omega)⟩;refine Yi b37 (yN (cU [(0,.ref 1000 0),(4,vs p),(5,sl BG (n0::l)),(6,.slice (.id 6 1) (rs.map Da)),(7,.slice (.id 7 3) (sk.map CD)),(9,.ref 9 0),(16,sl AX dec),(17,sl Ae (AU dec)),(32,sl AX cs),(33,vi (cs.map AX).length),(34,vi i)] [(6,.tok 1 rs.length),(7,.tok 3 sk.length),(9,.ro (AX cs[i])),(500,.arr 1 ((st.map Bq)++[[sl CD sk]])),(1000,.cells [sl A8 roots,.cmap Cr C,.cmap Cr A,.slice (.id 1001 6) (S.infs.map Dw),.slice (.id 1002 1) (S.drv.map Dn),.mref 1003,vb S.full,.slice (.id 20100 10) ((dec.map AX)++[(AX cs[i])]),.slice (.id 16000 4) ((AU (dec++[cs[i]])).map Ae),.msl 500 ((st.map Bq).length+([[sl CD sk]]:List (List AV)).length)]),(1001,.tok 6 S.infs.length),(1002,.tok 1 S.drv.length),(1003,.map FS (FY 0 S.infs)),(1004,.dead),(16000,.tok 4 ((AU (dec++[cs[i]])).map Ae).length),(20100,.tok 10 ((dec.map AX).length+([(AX cs[i])]:List (List AV)).length))] Z11 Z11 (cU [(0,.ref 1000 0),(4,vs p),(5,sl BG (n0::l)),(6,.slice (.id 6 1) (rs.map Da)),(7,.slice (.id 7 3) (sk.map CD)),(9,.ref 9 0),(16,sl AX dec),(17,sl Ae (AU dec)),(32,sl AX cs),(33,vi (cs.map AX).length),(34,vi i)] [(6,.tok 1 rs.length),(7,.tok 3 sk.length),(9,.ro (AX cs[i])),(500,.arr 1 ((st++[sk]).map Bq)),(1000,.cells [sl A8 roots,.cmap Cr C,.cmap Cr A,.slice (.id 1001 6) (S.infs.map Dw),.slice (.id 1002 1) (S.drv.map Dn),.mref 1003,vb S.full,.slice (.id 20100 10) ((dec++[cs[i]]).map AX),.slice (.id 16000 4) ((AU (dec++[cs[i]])).map Ae),.msl 500 (st++[sk]).length]),(1001,.tok 6 S.infs.length),(1002,.tok 1 S.drv.length),(1003,.map FS (FY 0 S.infs)),(1004,.dead),(16000,.tok 4 ((AU (dec++[cs[i]])).map Ae).length),(20100,.tok 10 ((dec++[cs[i]]).map AX).length)] Z11 ⟨Zr,Zr,Zr,⟨(show(.arr 1 ((st.map Bq)++[[sl CD sk]]):HO)=.arr 1 ((st++[sk]).map Bq) by simp),rfl⟩,⟨(show(.cells [sl A8 roots,.cmap Cr C,.cmap Cr A,.slice (.id 1001 6) (S.infs.map Dw),.slice (.id 1002 1) (S.drv.map Dn),.mref 1003,vb S.full,.slice (.id 20100 10) ((dec.map AX)++[(AX cs[i])]),.slice (.id 16000 4) ((AU (dec++[cs[i]])).map Ae),.msl 500 ((st.map Bq).length+([[sl CD sk]]:List (List AV)).length)]:HO)=.cells [sl A8 roots,.cmap Cr C,.cmap Cr A,.slice (.id 1001 6) (S.infs.map Dw),.slice (.id 1002 1) (S.drv.map Dn),.mref 1003,vb S.full,.slice (.id 20100 10) ((dec++[cs[i]]).map AX),.slice (.id 16000 4) ((AU (dec++[cs[i]])).map Ae),.msl 500 (st++[sk]).length] by simp),rfl⟩,Zr,Zr,Zr,Zr,Zr,⟨(show(.tok 10 ((dec.map AX).length+([(AX cs[i])]:List (List AV)).length):HO)=.tok 10 ((dec++[cs[i]]).map AX).length by simp),rfl⟩,Tv⟩ ?_)))
   have GU:jK dec (n0::l) cs[i]=true:=QH.2 ⟨fun n hn=>by have q:=DU.1 h6.2 n hn;simpa using q,TH⟩;have mI:=ih cs[i] (hcm i n3) GU S (st++[sk]) (by simp[Kh]) j3 (by simpa using h4);refine CR (show ∃o,o=DB x roots n (dec++[cs[i]]) S (st++[sk])from⟨_,rfl⟩) (fun o ho=>?_);rw[<-ho]at mI;have hrc:Bc Tryz.prog 137 [.ref 1000 0] (Ap (JW roots C A S (dec++[cs[i]]) (st++[sk])) Af) (fun r h'=>r=.tup [vi (o.res:Nat),vb o.found]/\h'=Ap (srE roots C A o.ss o.dec o.stack) Af):=mI.1;have w6:=mI.2.1;have hrn:=mI.2.2.1;refine BN (Bt o.found) (fun pj=>?_) (fun pj=>?_)
   .skip
    rw[pj]at hrc;refine Xi (.gen ct 1) (Yi rfl (Bc.imp hrc ?_));intro v39 g39 q39;have AdZ:=q39.1;have Ae0:=q39.2;subst AdZ;subst Ae0;refine cU [(0,.ref 1000 0),(4,vs p),(5,sl BG (n0::l)),(6,.slice (.id 6 1) (rs.map Da)),(7,.slice (.id 7 3) (sk.map CD)),(9,.ref 9 0),(12,vi (o.res:Nat)),(16,sl AX dec),(17,sl Ae (AU dec)),(18,vb true),(32,sl AX cs),(33,vi (cs.map AX).length),(34,vi i)] [(6,.tok 1 rs.length),(7,.tok 3 sk.length),(9,.ro (AX cs[i])),(1000,.cells (srM roots C A o.ss o.dec 22200 o.stack.length)),(1001,.tok 6 o.ss.infs.length),(1002,.tok 1 o.ss.drv.length),(1003,.map FS (FY 0 o.ss.infs)),(1004,.dead),(22200,.arr 1 (o.stack.map Bq))] Z13 Z9 (Yi (show o.stack.length=(o.stack.map Bq).length by simp) (cU [] [(500,.arr 1 (o.stack.map Bq)),(1000,.cells (srM roots C A o.ss o.dec 500 o.stack.length)),(1001,.tok 6 o.ss.infs.length),(1002,.tok 1 o.ss.drv.length),(1003,.map FS (FY 0 o.ss.infs)),(1004,.dead)] Tv Z6 ?_))
    have YU:S.full=false:=by simpa using h4
    have eR:R=⟨0,true,o.ss,o.dec,o.stack⟩:=by rw[<-j2];rw[Yv (sk:=sk) n3 YU h6.2 MB TH ho,Ao pj]
    exact Xi _ (Yi (.refl _) (OH (fL.trans eR)))
   skip
   rw[pj]at hrc;have hrk:=mI.2.2.2 pj;have SH:o.stack.length=st.length+1:=by rw[hrk];simp
   refine Xi (.gen ct 1) (Yi rfl (Bc.imp hrc ?_));intro v41 g41 q41;have Ae1:=q41.1;have Ae2:=q41.2;subst Ae1;subst Ae2;refine cU [(0,.ref 1000 0),(4,vs p),(5,sl BG (n0::l)),(6,.slice (.id 6 1) (rs.map Da)),(7,.slice (.id 7 3) (sk.map CD)),(9,.ref 9 0),(12,vi (o.res:Nat)),(16,sl AX dec),(17,sl Ae (AU dec)),(18,vb false),(32,sl AX cs),(33,vi (cs.map AX).length),(34,vi i)] [(6,.tok 1 rs.length),(7,.tok 3 sk.length),(9,.ro (AX cs[i])),(1000,.cells (srM roots C A o.ss o.dec 22200 o.stack.length)),(1001,.tok 6 o.ss.infs.length),(1002,.tok 1 o.ss.drv.length),(1003,.map FS (FY 0 o.ss.infs)),(1004,.dead),(22200,.arr 1 (o.stack.map Bq))] Z13 Z9 (yN (yN (cU [(0,.ref 1000 0),(4,vs p),(5,sl BG (n0::l)),(6,.slice (.id 6 1) (rs.map Da)),(7,.slice (.id 7 3) (sk.map CD)),(9,.ref 9 0),(12,vi (o.res:Nat)),(32,sl AX cs),(33,vi (cs.map AX).length),(34,vi i)] [(6,.tok 1 rs.length),(7,.tok 3 sk.length),(9,.ro (AX cs[i])),(1000,.cells (srM roots C A o.ss dec 22200 o.stack.length)),(1001,.tok 6 o.ss.infs.length),(1002,.tok 1 o.ss.drv.length),(1003,.map FS (FY 0 o.ss.infs)),(1004,.dead),(22200,.arr 1 (o.stack.map Bq))] Z10 Z9 (Yi (by show Ba ((o.stack.length:Int)-(1:Int));unfold Ba;omega) (Yi ⟨(show o.stack.length=(o.stack.map Bq).length by simp),(show(0:Int)<=o.stack.length-1 by omega),(show(o.stack.length-1:Int)<=((o.stack.map Bq).length:Nat) by rw[Lm];omega)⟩ (yN (Yi Wk (Yi (show(o.stack.length-1:Int).toNat=(((o.stack.map Bq).take (o.stack.length-1:Int).toNat):List (List AV)).length by simp) ?_))))))));have yL:((o.stack.map Bq).take ((o.stack.length:Int)-1).toNat)=st.map Bq/\((o.stack.length:Int)-1).toNat=st.length:=yM hrk;refine cU [(0,.ref 1000 0),(4,vs p),(5,sl BG (n0::l)),(6,.slice (.id 6 1) (rs.map Da)),(7,.slice (.id 7 3) (sk.map CD)),(9,.ref 9 0),(12,vi (o.res:Nat)),(32,sl AX cs),(33,vi (cs.map AX).length),(34,vi i)] [(6,.tok 1 rs.length),(7,.tok 3 sk.length),(9,.ro (AX cs[i])),(500,.arr 1 (st.map Bq)),(1000,.cells (srM roots C A o.ss dec 500 st.length)),(1001,.tok 6 o.ss.infs.length),(1002,.tok 1 o.ss.drv.length),(1003,.map FS (FY 0 o.ss.infs)),(1004,.dead)] Z10 ⟨Zr,Zr,Zr,⟨(show(.arr 1 ((o.stack.map Bq).take (o.stack.length-1:Int).toNat):HO)=.arr 1 (st.map Bq) by rw[yL.1]),rfl⟩,⟨(show(.cells (srM roots C A o.ss dec 500 (o.stack.length-1:Int).toNat):HO)=.cells (srM roots C A o.ss dec 500 st.length) by rw[yL.2]),rfl⟩,Zr,Zr,Zr,Zr,Tv⟩ ?_
   refine Yi (fun h42=>?_) (fun h42=>?_)
   .have YU:S.full=false:=by simpa using h4
    have eR:R=⟨0,false,o.ss,dec,st⟩:=by rw[<-j2];rw[Yv (sk:=sk) n3 YU h6.2 MB TH ho,Aj (by rw[pj];decide),Ao h42]
    exact Xi _ (Yi (.refl _) (OH (fL.trans eR)))
   have fQ:o.ss.full=false:=h42;refine cU [(0,.ref 1000 0),(4,vs p),(5,sl BG (n0::l)),(6,.slice (.id 6 1) (rs.map Da)),(7,.slice (.id 7 3) (sk.map CD)),(9,.ref 9 0),(12,vi (o.res:Nat)),(32,sl AX cs),(33,vi (cs.map AX).length),(34,vi i)] [(6,.tok 1 rs.length),(7,.tok 3 sk.length),(9,.ro (AX cs[i])),(500,.arr 1 (st.map Bq)),(1000,.cells (srM roots C A o.ss dec 500 st.length)),(1001,.tok 6 o.ss.infs.length),(1002,.tok 1 o.ss.drv.length),(1003,.map FS (FY 0 o.ss.infs)),(1004,.dead)] Z10 Z9 (Xi (Dn (EP o.ss o.res)) (Yi (Yi (show(0:Int)<=((o.res:Nat):Int) by omega) (Ed (Ft (hrn.2 pj fQ)))) (Yi rfl ?_)));have YU:S.full=false:=by simpa using h4
   have Wr:o.res<o.ss.drv.length:=(hrn.2 pj fQ);have fR:=w6.der.few hx hr;refine BN (Bt (Eb (EP o.ss o.res) p)) (fun xT=>?_) (fun xT=>?_)
   .refine Xi .pure (Xi _ (Yi (cb xT (pB (EP o.ss o.res) p (Fy (fR _ (Az (Ft Wr)))))) (cU [(0,.ref 1000 0),(4,vs p),(5,sl BG (n0::l)),(6,.slice (.id 6 1) (rs.map Da)),(7,.slice (.id 7 3) (sk.map CD)),(9,.ref 9 0),(12,vi (o.res:Nat)),(32,sl AX cs),(33,vi (cs.map AX).length),(34,vi i)] [(6,.tok 1 rs.length),(7,.tok 3 sk.length),(9,.ro (AX cs[i])),(500,.arr 1 (st.map Bq)),(1000,.cells (srM roots C A o.ss dec 500 st.length)),(1001,.tok 6 o.ss.infs.length),(1002,.tok 1 o.ss.drv.length),(1003,.map FS (FY 0 o.ss.infs)),(1004,.dead)] Z10 Z9 (Yi (kD rfl ch Cl) (Yi (kD rfl ch Cl) (Yi (Ii i ch) ?_))))));have eA:=(Yv (rec:=DB x roots n) (x:=x) (p:=p) (n0:=n0) (st:=st) (rs:=rs) (sk:=sk) n3 YU h6.2 MB TH ho);rw[Aj (by rw[pj];decide),Aj (by rw[fQ];decide)]at eA;have eN:ED (DB x roots n) x p (n0::l) n0 dec st (cs.drop (i+1)) o.ss (rs++[o.res]) (sk++[(⟨p,cs[i].place,(o.res:Nat)⟩:Sk)])=R:=by rw[<-Yh (c:=cs[i]) xT,<-eA];exact j2
    refine Xi ⟨(i+1,o.ss,rs++[o.res],sk++[(⟨p,cs[i].place,(o.res:Nat)⟩:Sk)]),FR n3,eN,w6,fun r h=>(AP.1 h).elim ((fun r h=>BA (j4 r h) hrn.1) r) (fun h=>by rw[Aq.1 h];exact Wr),(by rw[Ac];exact EO j5),(by rw[Ac];exact EO j6)⟩ ?_;exact⟨Dl cs.length i ch,⟨Zr,Zr,Zr,⟨(show AV.slice (.id 6 1) (rs.map Da++[[vi ((o.res:Nat):Int)]])=.slice (.id 6 1) ((rs++[o.res]).map Da) by rw[As];rfl),rfl⟩,⟨(show AV.slice (.id 7 3) (sk.map CD++[[vs p,vi cs[i].place,vi ((o.res:Nat):Int)]])=.slice (.id 7 3) ((sk++[(⟨p,cs[i].place,(o.res:Nat)⟩:Sk)]).map CD) by rw[As];rfl),rfl⟩,Zr,Zr,Zr,Tv⟩,⟨⟨(show HO.tok 1 ((rs.map Da).length+([[vi ((o.res:Nat):Int)]]:List (List AV)).length)=.tok 1 (rs++[o.res]).length by simp),rfl⟩,⟨(show HO.tok 3 ((sk.map CD).length+([[vs p,vi cs[i].place,vi ((o.res:Nat):Int)]]:List (List AV)).length)=.tok 3 (sk++[(⟨p,cs[i].place,(o.res:Nat)⟩:Sk)]).length by simp),rfl⟩,Zr,Zr,Zr,Zr,Zr,Zr,Tv⟩,Fh,BP Wk⟩
   refine Xi .pure (Xi _ (Yi (cb xT (pB (EP o.ss o.res) p (Fy (fR _ (Az (Ft Wr)))))) (cU [(12,vi (o.res:Nat))] [(500,.arr 1 (st.map Bq)),(1000,.cells (srM roots C A o.ss dec 500 st.length)),(1001,.tok 6 o.ss.infs.length),(1002,.tok 1 o.ss.drv.length),(1003,.map FS (FY 0 o.ss.infs)),(1004,.dead)] Z1 Z6 ?_)))
   have eA:=(Yv (rec:=DB x roots n) (x:=x) (p:=p) (n0:=n0) (st:=st) (rs:=rs) (sk:=sk) n3 YU h6.2 MB TH ho);rw[Aj (by rw[pj];decide),Aj (by rw[fQ];decide)]at eA;have eR:R=⟨o.res,false,o.ss,dec,st⟩:=by rw[<-j2];rw[eA];exact eX xT
   exact Xi _ (Yi (.refl _) (OH (fL.trans eR)))
  have n3:=Dd h3;refine Xi (BG n0) (Yi (Yi (show(0:Int)<=0 by decide) rfl) (Yi rfl (yN (Xi (.gen ct 0) (Yi rfl (Bc.imp (s91 x roots C A S dec st p n0 rs V hx hr j3 hinf0 j4 ch (hnq n0 (Ab ..)) (hnp n0 (Ab ..)) xZ x7 x8) ?_))))));intro v49 g49 q49;have Ae3:=q49.1;have Ae4:=q49.2;subst Ae3;subst Ae4;have hj:¬i<cs.length:=by have q:=h3;rw[Lm]at q;omega
  have eR:R=⟨(Eo x p n0 rs S).1,false,(Eo x p n0 rs S).2,dec,st⟩:=by rw[<-j2];exact lB hj
  exact Xi _ (Yi (.refl _) (OH (fL.trans eR)))
 exact absurd Ob hC2
theorem Aeq(hL:Lvl x roots C A n dec p n0 l V cs)(hs:L1 x roots s)(Kh:st.length=dec.length)(Tq:Bc Tryz.prog 186 [.ref 1000 0] (Ap (JW roots C A s dec st) Af) fun r h'=>r=.tup [vs p,sl BG (n0::l)]/\h'=Ap (JW roots C A s dec st) Af)(yj:cs=[])(hC2:∀a,(Value.string p,a)∉C)(hR:ED (DB x roots n) x p (n0::l) n0 dec st cs s [] []=R)(fL:O=R) :
  Bc Tryz.prog 137 [.ref 1000 0] (Ap (JW roots C A s dec st) Af) (cu roots C A O):=by
 obtain⟨hx,hr,hdl,hcl,hcs,hnl,hnq,hnp,hex,hcx,hcq,hcp_,hcr,hcs_,hkey,hinf0,⟨xZ,x7,x8⟩,ih⟩:=hL;have hcm:∀(i:Nat) (h:i<cs.length),cs[i]∈CE x p:=fun i h=>by rw[<-hcs];exact Al h
 have wW:∀(i:Nat) (h:i<cs.length),B8 (AU (dec++[cs[i]])):=fun i h=>by unfold B8 AU;rw[Lm,Ac];simp;omega
 clear hcs
 refine Cu (M2 ⟨[9],[(6,1),(7,3),(145,1)],[],[],[],[],[],[],[],[(300001,500091000),(300026,500091000),(300029,500091000)],[1,2,5,10,11,13,14,15,16,17,19,21,22,23,24,25,26,28,29,31,32,33,35]⟩) [(1000,1000),(1001,1001),(1002,1002),(1003,1003),(1004,1004),(500,2000)] rfl CW hm rfl Tryz.func137 Wk rfl (Nz rfl) Wk rfl (Yi (show st.length=(st.map Bq).length by simp) (cU [(0,.ref 1000 0)] [(500,.arr 1 (st.map Bq)),(1000,.cells (srM roots C A s dec 500 st.length)),(1001,.tok 6 s.infs.length),(1002,.tok 1 s.drv.length),(1003,.map FS (FY 0 s.infs)),(1004,.dead)] Z1 Z6 (Xi (.gen ct 0) (Yi rfl (Bc.imp Tq ?_)))));intro v1 g1 q1;have rt:=q1.1;have ru:=q1.2;subst rt;subst ru;refine cU [(0,.ref 1000 0),(4,vs p),(5,sl BG (n0::l))] [(500,.arr 1 (st.map Bq)),(1000,.cells (srM roots C A s dec 500 st.length)),(1001,.tok 6 s.infs.length),(1002,.tok 1 s.drv.length),(1003,.map FS (FY 0 s.infs)),(1004,.dead)] Z3 Z6 (Yi (fun h2=>?_) (fun h2=>?_))
 .exact absurd h2 (by simp;omega)
 refine cU [(0,.ref 1000 0),(4,vs p),(5,sl BG (n0::l)),(6,.slice (.id 6 1) [])] [(6,.tok 1 0),(500,.arr 1 (st.map Bq)),(1000,.cells (srM roots C A s dec 500 st.length)),(1001,.tok 6 s.infs.length),(1002,.tok 1 s.drv.length),(1003,.map FS (FY 0 s.infs)),(1004,.dead)] Z4 Z7 (Yi (fun a ha=>?_) (fun Ob=>?_))
 .exact absurd ha (hC2 a)
 refine Xi {q:Nat×SS×List Nat×List Sk // q.1<=cs.length/\ED (DB x roots n) x p (n0::l) n0 dec st (cs.drop q.1) q.2.1 q.2.2.1 q.2.2.2=R/\L1 x roots q.2.1/\(∀r∈q.2.2.1,r<q.2.1.drv.length)/\q.2.2.1.length<=q.1/\q.2.2.2.length<=q.1} (Xi (fun q=>⟨[(0,.ref 1000 0),(4,vs p),(5,sl BG (n0::l)),(6,.slice (.id 6 1) (q.1.2.2.1.map Da)),(7,.slice (.id 7 3) (q.1.2.2.2.map CD)),(32,nzA),(33,vi 0),(34,vi q.1.1)],[(6,.tok 1 q.1.2.2.1.length),(7,.tok 3 q.1.2.2.2.length),(500,.arr 1 (st.map Bq)),(1000,.cells (srM roots C A q.1.2.1 dec 500 st.length)),(1001,.tok 6 q.1.2.1.infs.length),(1002,.tok 1 q.1.2.1.drv.length),(1003,.map FS (FY 0 q.1.2.1.infs)),(1004,.dead)],Af⟩) (Xi (fun q=>cs.length-q.1.1) (Yi (Xi ⟨(0,s,[],[]),AA _,hR,hs,fun r h=>(by cases h),Ak _,Ak _⟩ ?_) ?_)))
 .exact⟨Z8,Z8,Fh,BP Wk⟩
 intro⟨⟨i,S,rs,sk⟩,j1,j2,j3,j4,j5,j6⟩;have j5:rs.length<=i:=j5;have hw:=j3.dl;have TK:∀t∈S.drv,kR t:=fun t ht=>by have q:=j3.der.few hx hr t ht;exact⟨Fy q,q.2⟩
 refine Yi (fun h3=>?_) (fun h3=>?_)
 .have h3:(i:Int)<(0:Int):=h3;exact absurd h3 (by have q:=j1;rw[yj,Au]at q;omega)
 have h3:¬((i:Int)<(0:Int)):=h3;refine Xi (BG n0) (Yi (Yi (show(0:Int)<=0 by decide) rfl) (Yi rfl (yN (Xi (.gen ct 0) (Yi rfl (Bc.imp (s91 x roots C A S dec st p n0 rs V hx hr j3 hinf0 j4 ch (hnq n0 (Ab ..)) (hnp n0 (Ab ..)) xZ x7 x8) ?_))))));intro v4 g4 q4;have q4a:=q4.1;have q4b:=q4.2;subst q4a;subst q4b;have hj:¬i<cs.length:=by rw[yj];simp
 have eR:R=⟨(Eo x p n0 rs S).1,false,(Eo x p n0 rs S).2,dec,st⟩:=by rw[<-j2];exact lB hj
 exact Xi _ (Yi (.refl _) (OH (fL.trans eR)))
theorem Aes(N:List Nd)(O:K7)(hN:N=[])(Tq:Bc Tryz.prog 186 [.ref 1000 0] (Ap (JW roots C A s dec st) Af) fun r h'=>r=.tup [vs p,sl BG N]/\h'=Ap (JW roots C A s dec st) Af)(hO:O=⟨0,true,s,dec,st⟩) :
  Bc Tryz.prog 137 [.ref 1000 0] (Ap (JW roots C A s dec st) Af) (cu roots C A O):=by
 refine Cu (M2 ⟨[],[],[],[],[],[],[],[],[],[(300001,500091000)],[1,2,5,10,11,13,14,15,16,17,19,21,22,23,25,28,29,31,32,33,35]⟩) [(1000,1000),(1001,1001),(1002,1002),(1003,1003),(1004,1004),(500,2000)] rfl CW hm rfl Tryz.func137 Wk rfl (Nz rfl) Wk rfl (Yi (show st.length=(st.map Bq).length by simp) (cU [(0,.ref 1000 0)] [(500,.arr 1 (st.map Bq)),(1000,.cells (srM roots C A s dec 500 st.length)),(1001,.tok 6 s.infs.length),(1002,.tok 1 s.drv.length),(1003,.map FS (FY 0 s.infs)),(1004,.dead)] Z1 Z6 (Xi (.gen ct 0) (Yi rfl (Bc.imp Tq ?_)))));intro v1 g1 q1;have rt:=q1.1;have ru:=q1.2;subst rt;subst ru;refine cU [(0,.ref 1000 0),(4,vs p),(5,sl BG N)] [(500,.arr 1 (st.map Bq)),(1000,.cells (srM roots C A s dec 500 st.length)),(1001,.tok 6 s.infs.length),(1002,.tok 1 s.drv.length),(1003,.map FS (FY 0 s.infs)),(1004,.dead)] Z3 Z6 (Yi (fun h2=>?_) (fun h2=>?_))
 .exact Xi _ (Yi (.refl _) (OH (st:=st) hO))
 exact absurd (by rw[hN];rfl) h2
section
variable {x:List Rl}{roots:List Rq}{p:ByteArray}
theorem I5:∀(l:List Nat) {k:Nat} {s:SS},s.infs.Nodup->(CF p l k s).2.infs.Nodup
 | [],_,_,h=>h
 |r::l,k,s,h=>by
  unfold CF;split
  .exact h
  split
  .exact I5 l h
  split
  .exact I5 l h
  .exact I5 l (IP h)
theorem L4{needs:List Nd}{n0:Nd}{dec:List Cd}{st:List (List Sk)}{rec:List Cd->SS->List (List Sk)->K7}(jf:∀c s st,s.infs.Nodup->(rec (dec++[c]) s st).ss.infs.Nodup) :
  ∀(cs:List Cd) {s:SS} {rs:List Nat} {sk:List Sk},s.infs.Nodup->(ED rec x p needs n0 dec st cs s rs sk).ss.infs.Nodup
 | [],s,rs,sk,h=>I5 _ (IP (IP h))
 |c::cs,s,rs,sk,h=>by
  have tK:∀(s' : SS) (k:Nat),s'.infs.Nodup->(KI rec x p needs n0 dec st c cs rs sk k s').ss.infs.Nodup:=fun s' k h'=>by
   unfold KI;split
   .exact h'
   .exact L4 jf cs h'
  rw[GP];split
  .exact h
  cases needs.find? fun n=>!has n.rq.set c.place with
  |some n=>exact L4 jf cs (IP h)
  |none=>
   dsimp only;cases P0 s.drv (AU (dec++[c]))with
   |some k=>exact tK s k h
   |none=>
    dsimp only;cases Ey dec c with
    |some n=>exact tK _ _ (IP h)
    |none=>
     dsimp only;have h2:=jf c s (st++[sk]) h;split
     .exact h2
     split
     .exact h2
     .exact tK _ _ h2
theorem QV:∀(n:Nat) {dec:List Cd} {s:SS} {st:List (List Sk)},s.infs.Nodup->(DB x roots n dec s st).ss.infs.Nodup
 |0,_,_,_,h=>h
 |n+1,dec,s,st,h=>by
  unfold DB;cases (Hg roots dec).2 with
  |nil=>exact h
  |cons n0 l=>exact L4 (fun c s st h=>QV n h) _ h
structure Env(x:List Rl)(roots:List Rq)(C A:List (Value×AV)):Prop where
 hx:A6 x=0
 hr:BK roots=0
 fx:∀r∈x,En r
 fr:∀q∈roots,J7 q
 c1:∀(p:ByteArray) (a:AV),(Value.string p,a)∈C->a=sl AX (CE x p)
 c2:∀p:ByteArray,(∀a,(Value.string p,a)∉C)->CE x p=[]
 c3:∀p:ByteArray,CE x p=[]->∀a,(Value.string p,a)∉C
 av:∀p:ByteArray,∃V,HV x A p V
theorem ur{dec:List Cd}(h:∀c∈dec,c.rel.reqs.length<=16):((dec.map fun c=>c.rel.reqs).flatten).length<=16*dec.length:=by
 induction dec with
 |nil=>simp
 |cons c dec ih=>
  rw[AL,BC,Ac,Am]
  have:=h c (Ab ..)
  have:=ih fun d hd=>h d (Ah _ hd)
  omega
theorem vD{r:Rl}(h:Ub r):0<=plc r.ver/\plc r.ver<1000000:=by rw[h.plc];exact Kq h.val
theorem jC(dec:List Cd):(Hg roots dec).2.length<=(DN roots dec).length:=by
 rw[Vo];cases LJ (IC roots dec) (AU dec)with
 |none=>simp
 |some q=>exact Bv _ _
theorem s45{C A:List (Value×AV)}(hE:Env x roots C A)(uw:H64 roots C A):∀(n:Nat) {dec:List Cd} {s:SS} {st:List (List Sk)},EY x dec->Jc roots dec->L1 x roots s->s.full=false->SB x dec<n->st.length=dec.length ->
  Bc Tryz.prog 137 [.ref 1000 0] (Ap (JW roots C A s dec st) Af) (cu roots C A (DB x roots n dec s st))
 |0,_,_,_,_,_,_,_,h,_=>by omega
 |n+1,dec,s,st,hd,jg,hs,hf,hn,Kh=>by
  have hx:=hE.hx;have hr:=hE.hr;have sZ:=Mi hx;have hdl:=Z0 hd;have AcF:dec.length<=256:=by have:=sZ.1;omega
  have hrl:∀c∈dec,c.rel.reqs.length<=16:=fun c hc=>sZ.2 _ (hd.cand c hc).1;have Tq:=uw s dec st ch fun c hc=>AG (hrl c hc) Cl;generalize hO:DB x roots (n+1) dec s st=O;obtain⟨N,hN⟩:∃N,N=(Hg roots dec).2:=⟨_,rfl⟩;obtain⟨q,hq⟩:∃q,q=(Hg roots dec).1:=⟨_,rfl⟩;rw[<-hN,<-hq]at Tq;have hNl:N.length<=10000:=by
   have h1:=jC (roots:=roots) dec;have h2:(DN roots dec).length=(IC roots dec).length:=by rw[<-NY,Lm]
   have h3:=ur hrl;have h4:=QO hr;rw[<-hN]at h1;unfold IC at h2;rw[Ac]at h2;omega
  cases hNc:N with
  |nil=>
   rw[hNc]at hN Tq;refine Aes roots C A s dec st q [] O rfl Tq ?_;rw[<-hO];unfold DB;rw[<-hN]
  |cons n0 l=>
   rw[hNc]at hN Tq;have hNx:=Ph hN.symm;rw[<-hq]at hNx;have SD:∀nd∈n0::l,nd∈DN roots dec:=fun nd h=>((hNx.mem nd).1 h).1;have GU:=(CC hx).1;have few:∀{E:List Cd},EY x E->∀nd∈DN roots E,B8 nd.rq.set/\Ba (nd.place+1):=fun hE' nd h=>by
    rcases Nq h with ⟨k,r,h1,rfl⟩ | ⟨c,hc,k,r,h1,rfl⟩
    .exact⟨(hE.fr r (Az h1)).1,by unfold Ba;show -9223372036854775808<=(0:Int)+1/\(0:Int)+1<9223372036854775808;decide⟩
    .have h2:=hE'.cand c hc;have h3:=vD (GU _ h2.1);rw[<-h2.2.2]at h3;exact⟨((hE.fx _ h2.1).2 r (Az h1)).1,by unfold Ba;show _<=c.place+1/\c.place+1<_;omega⟩
   have sY:∀c∈CE x q,EY x (dec++[c])/\c.rel.path=q/\c.rel∈x:=fun c hc=>by
    obtain⟨c1,c2⟩:=KK hc;exact⟨hd.snoc c2 (by rw[c1];exact hNx.undone),c1,c2.1⟩
   have FH:∀(i:Nat) (h:i<(CE x q).length),(CE x q)[i]∈CE x q:=fun i h=>Al h;obtain⟨V,hV⟩:=hE.av q
   have hL:Lvl x roots C A n dec q n0 l V (CE x q):={
    hx:=hx
    hr:=hr
    hdl:=AcF
    hcl:=AG (WY x q) sZ.1
    hcs:=rfl
    hnl:=by rw[hNc]at hNl;omega
    hnq:=fun nd h=>(few hd nd (SD nd h)).1
    hnp:=fun nd h=>(few hd nd (SD nd h)).2
    hex:=fun i h nd hm hh=>by
     obtain⟨a,b,_⟩:=sY _ (FH i h);exact⟨(QA hx hr a (Pe (SD nd hm)) ⟨(CE x q)[i],by simp,b.trans ((hNx.mem nd).1 hm).2.symm,hh⟩).1,trivial⟩
    hcx:=fun i h nc hc=>by
     obtain⟨a,b,_⟩:=sY _ (FH i h);obtain⟨m1,m2⟩:=L9 hc;exact⟨(QA hx hr a (NZ m1) m2).1,trivial⟩
    hcq:=fun i h nc hm=>(few (sY _ (FH i h)).1 nc (NZ hm)).1
    hcp_:=fun i h nc hm=>(few (sY _ (FH i h)).1 nc (NZ hm)).2
    hcr:=fun i h=>by have:=sZ.2 _ (sY _ (FH i h)).2.2;omega
    hcs_:=fun i h r hm=>((hE.fx _ (sY _ (FH i h)).2.2).2 r hm).1
    hkey:=fun i h=>by
     have b:=(sY _ (FH i h)).2.1;unfold AU;rw[As,As];show _=_++[[vs (CE x q)[i].rel.path,vi (CE x q)[i].rel.ver.a,vi (CE x q)[i].rel.ver.b,vi (CE x q)[i].rel.ver.c]];rw[b]
    hinf0:=(TM hx hr hd (SD n0 (Ab ..)) (.inl (by
     rw[((hNx.mem n0).1 (Ab ..)).2];exact Iq (by rw[Gm];exact hNx.undone)))).inf
    hV:=hV
    ih:=fun c hc Ad4 S EA hl hS hSf=>by
     obtain⟨a,b,c3⟩:=sY c hc;obtain⟨k1,k2⟩:=QH.1 Ad4;obtain⟨_,c2⟩:=KK hc;have sX:=jg.snoc hNx b k1 k2;have kL:SB x (dec++[c])<n:=by have:=UP (dec:=dec) ⟨c2.1,c2.2.1⟩ (by rw[b];exact hNx.undone);omega
     have h1:=s45 hE uw n a sX hS hSf kL (st:=EA) (by rw[hl];simp);have h2:=RX hx hr n a sX hS.der hSf kL (st:=EA);exact⟨h1,⟨h2.der,QV n hS.nodup⟩,⟨h2.grow.len,fun e1 e2=>((h2.no e1).2.2 e2).1⟩,fun e1=>(h2.no e1).2.1⟩ }
   have hR:ED (DB x roots n) x q (n0::l) n0 dec st (CE x q) s [] []=O:=by
    rw[<-hO]
    conv=>rhs;unfold DB
    rw[<-hN,hq]
   by_cases hm:∀a,(Value.string q,a)∉C
   .exact Aeq x roots C A n s dec st q n0 l V (CE x q) O O hL hs Kh Tq (hE.c2 q hm) hm hR rfl
   .exact Aep x roots C A n s dec st q n0 l V (CE x q) O O hL hs Kh Tq (hE.c1 q) hm hR rfl
end
theorem Aer{x:List Rl}{roots:List Rq}{C A:List (Value×AV)}(hE:Env x roots C A)(n:Nat){dec:List Cd}{s:SS}{st:List (List Sk)}(h1:EY x dec)(h2:Jc roots dec)(h3:L1 x roots s)(h4:s.full=false)(h5:SB x dec<n)(h6:st.length=dec.length) :
  Bc Tryz.prog 137 [.ref 1000 0] (Ap (JW roots C A s dec st) Af) (cu roots C A (DB x roots n dec s st)):=
 s45 hE (fun s dec st a b=>s64 roots C A s dec st (AG (QO hE.hr) Cl) a b) n h1 h2 h3 h4 h5 h6
def GG:Bool:=decide (A6 x=0)&&decide (BK roots=0)
theorem s28(ifs:List (List AV))(roots:List Rq)(hx:∀r∈x,En r)(hr:∀q∈roots,J7 q):PC 135 [.agg (Ic x ifs),sl A8 roots] (vb (GG x roots)):=by
 refine Ps (pC [2] []) Tryz.func135 rfl (Nz rfl) (yN (Xi .pure (Xi _ (Yi (wI Wm x ifs hx) (Yi (fun h1=>?_) (fun h1=>?_))))))
 .refine Xi .pure (Xi _ (Yi (c65 Wm roots hr) (Yi (fun h2=>?_) (fun h2=>?_))))
  .exact .of_eq (show vb true=vb (GG x roots) by unfold GG;rw[h1,h2];rfl)
  exact .of_eq (show vb false=vb (GG x roots) by unfold GG;rw[Av h2,Ck])
 exact .of_eq (show vb false=vb (GG x roots) by unfold GG;rw[Av h1];rfl)
end Go.Eng
