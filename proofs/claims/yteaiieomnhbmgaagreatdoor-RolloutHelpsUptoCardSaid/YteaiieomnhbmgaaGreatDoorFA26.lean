/- Lemmas 26. -/
import Derived.Test.YteaiieomnhbmgaaGreatDoorFA25
set_option maxHeartbeats 16000000
namespace Go.Eng
open Go.Proofs
variable (x:List Rl)(roots:List Rq)(C A:List (Value×AV))(n:Nat)(s:SS)(dec:List Cd)(st:List (List Sk))(p:ByteArray)(n0:Nd)(l:List Nd)(V:AV)(cs:List Cd)(R O:KW)
theorem eY{α:Type}(o:Option α):(∃x,o=some x)\/o=none:=by
 cases o with
 |none=>exact .inr rfl
 |some x=>exact .inl ⟨x,rfl⟩
theorem zy{T st:List (List Sk)}{sk:List Sk}(h:T=st++[sk]):((T.map Bp).take ((T.length:Int)-1).toNat)=st.map Bp/\((T.length:Int)-1).toNat=st.length:=by
 have e:((T.length:Int)-1).toNat=st.length:=by rw[h,Ac,Be];omega
 refine⟨?_,e⟩;rw[e,h,At,H7 B0,Av B0]
abbrev HV:Prop:=(∀a,(Value.string p,a)∈A->a=V)/\((∀a,(Value.string p,a)∉A)->V=nzA)/\∀h,PC 261 [vs p,str h V] (sl AO (IP p (Co x p)))
abbrev lA(n:Nd):Prop:=∀d,Ei x roots d (Om n)=some (II n)
structure Lvl(x:List Rl)(roots:List Rq)(C A:List (Value×AV))(n:Nat)(dec:List Cd)(p:ByteArray)(n0:Nd)(l:List Nd)(V:AV)(cs:List Cd):Prop where
 hx:A0 x=0
 hr:BH roots=0
 hdl:dec.length<=256
 hcl:cs.length<=256
 hcs:cs=B7 x p
 hnl:(n0::l).length<9223372036854775807
 hnq:∀n∈n0::l,B8 n.rq.set
 hnp:∀n∈n0::l,Bc (n.place+1)
 hex:∀(i:Nat) (h:i<cs.length),∀nd∈n0::l,has nd.rq.set cs[i].place=false->lA x roots nd/\True
 hcx:∀(i:Nat) (h:i<cs.length) (nc:Nd),En dec cs[i]=some nc->lA x roots nc/\True
 hcq:∀(i:Nat) (h:i<cs.length) (nc:Nd),nc∈Sb cs[i]->B8 nc.rq.set
 hcp_:∀(i:Nat) (h:i<cs.length) (nc:Nd),nc∈Sb cs[i]->Bc (nc.place+1)
 hcr:∀(i:Nat) (h:i<cs.length),cs[i].rel.reqs.length<=1073741824
 hcs_:∀(i:Nat) (h:i<cs.length),∀q∈cs[i].rel.reqs,B8 q.set
 hkey:∀(i:Nat) (h:i<cs.length),(AS dec).map Aq++[[vs p,vi cs[i].rel.ver.a,vi cs[i].rel.ver.b,vi cs[i].rel.ver.c]]=(AS (dec++[cs[i]])).map Aq
 hinf0:lA x roots n0
 hV:HV x A p V
 ih:∀c∈B7 x p,ki dec (n0::l) c=true->∀(S:SS) (EB:List (List Sk)),EB.length=dec.length+1->Mh x roots S->S.full=false ->
  A9 Tryz.prog 137 [.ref 1000 0] (As (Kh roots C A S (dec++[c]) EB) Ag) (df roots C A (Do x roots n (dec++[c]) S EB))/\Mh x roots (Do x roots n (dec++[c]) S EB).ss /\
  (S.drv.length<=(Do x roots n (dec++[c]) S EB).ss.drv.length/\((Do x roots n (dec++[c]) S EB).found=false->(Do x roots n (dec++[c]) S EB).ss.full=false->(Do x roots n (dec++[c]) S EB).res<(Do x roots n (dec++[c]) S EB).ss.drv.length)) /\
  ((Do x roots n (dec++[c]) S EB).found=false->(Do x roots n (dec++[c]) S EB).stack=EB)
theorem AeU(hL:Lvl x roots C A n dec p n0 l V cs)(hs:Mh x roots s)(K4:st.length=dec.length)(TB:A9 Tryz.prog 186 [.ref 1000 0] (As (Kh roots C A s dec st) Ag) fun r h'=>r=.tup [vs p,sl BJ (n0::l)]/\h'=As (Kh roots C A s dec st) Ag)(hC1:∀a,(Value.string p,a)∈C->a=sl AY cs)(hC2:¬∀a,(Value.string p,a)∉C)(hR:Eh (Do x roots n) x p (n0::l) n0 dec st cs s [] []=R)(gw:O=R) :
  A9 Tryz.prog 137 [.ref 1000 0] (As (Kh roots C A s dec st) Ag) (df roots C A O):=by
 obtain⟨hx,hr,hdl,hcl,hcs,hnl,hnq,hnp,hex,hcx,hcq,hcp_,hcr,hcs_,hkey,hinf0,⟨yM,yO,yP⟩,ih⟩:=hL;have hcm:∀(i:Nat) (h:i<cs.length),cs[i]∈B7 x p:=fun i h=>by rw[<-hcs];exact Ao h
 have xF:∀(i:Nat) (h:i<cs.length),B8 (AS (dec++[cs[i]])):=fun i h=>by unfold B8 AS;rw[Lm,Ac];simp;omega
 clear hcs
 refine Cz (No ⟨[9],[(6,1),(7,3),(145,1)],[],[],[],[],[],[],[(60,3),(101,3)],[(300001,500091000),(300026,500091000),(300029,500091000)],[1,5,12,15,17,21,23,24,25,26,28,29,31,32,33]⟩) [(1000,1000),(1001,1001),(1002,1002),(1003,1003),(1004,1004),(500,2000)] rfl C3 hm rfl Tryz.func137 Wk rfl (Nz rfl) Wk rfl (Yi (show st.length=(st.map Bp).length by simp) (cU [(0,.ref 1000 0)] [(500,.arr 1 (st.map Bp)),(1000,.cells (srM roots C A s dec 500 st.length)),(1001,.tok 6 s.infs.length),(1002,.tok 1 s.drv.length),(1003,.map FU (F0 0 s.infs)),(1004,.dead)] Z1 Z6 (Xi (.gen de 0) (Yi rfl (A9.imp TB ?_)))));intro v1 g1 q1;have rZ:=q1.1;have r4:=q1.2;subst rZ;subst r4;refine Yi (fun h2=>?_) (fun h2=>?_)
 .exact absurd h2 (by simp;omega)
 refine cU [(0,.ref 1000 0),(4,vs p),(5,sl BJ (n0::l)),(6,.slice (.id 6 1) [])] [(6,.tok 1 0),(500,.arr 1 (st.map Bp)),(1000,.cells (srM roots C A s dec 500 st.length)),(1001,.tok 6 s.infs.length),(1002,.tok 1 s.drv.length),(1003,.map FU (F0 0 s.infs)),(1004,.dead)] Z4 Z7 (Yi (fun a ha=>?_) (fun Ok=>?_))
 .have ea:=hC1 a ha;subst ea;refine Xi {q:Nat×SS×List Nat×List Sk // q.1<=cs.length/\Eh (Do x roots n) x p (n0::l) n0 dec st (cs.drop q.1) q.2.1 q.2.2.1 q.2.2.2=R/\Mh x roots q.2.1/\(∀r∈q.2.2.1,r<q.2.1.drv.length)/\q.2.2.1.length<=q.1/\q.2.2.2.length<=q.1} (Xi (fun q=>⟨[(0,.ref 1000 0),(4,vs p),(5,sl BJ (n0::l)),(6,.slice (.id 6 1) (q.1.2.2.1.map Dc)),(7,.slice (.id 7 3) (q.1.2.2.2.map CG)),(32,sl AY cs),(33,vi (cs.map AY).length),(34,vi q.1.1)],[(6,.tok 1 q.1.2.2.1.length),(7,.tok 3 q.1.2.2.2.length),(500,.arr 1 (st.map Bp)),(1000,.cells (srM roots C A q.1.2.1 dec 500 st.length)),(1001,.tok 6 q.1.2.1.infs.length),(1002,.tok 1 q.1.2.1.drv.length),(1003,.map FU (F0 0 q.1.2.1.infs)),(1004,.dead)],Ag⟩) (Xi (fun q=>cs.length-q.1.1) (Yi (Xi ⟨(0,s,[],[]),AB _,hR,hs,fun r h=>(by cases h),Am _,Am _⟩ ?_) ?_)))
  .exact⟨Z8,Z8,Fh,BV Wk⟩
  intro⟨⟨i,S,rs,sk⟩,j1,j2,j3,j4,j5,j6⟩;have j5:rs.length<=i:=j5;have j6:sk.length<=i:=j6;have hw:=j3.dl;have TR:∀t∈S.drv,lz t:=fun t ht=>by have q:=j3.der.few hx hr t ht;exact⟨FC q,q.2⟩
  refine Yi (fun h3=>?_) (fun h3=>?_)
  .have h3:(i:Int)<((cs.map AY).length:Int):=h3;have n3:=FJ h3;refine Xi (AY cs[i]) (Yi (Lv n3) (Yi rfl (yN (yN (Yi (fun h4=>?_) (fun h4=>?_))))))
   .have eR:R=⟨0,false,S,dec,st⟩:=by rw[<-j2];exact qE n3 h4
    exact Xi _ (Yi (.refl _) (OR (gw.trans eR)))
   have qW:=s86 (fF:=188) (caps:=[.cptr (AY cs[i])]) (fun c hc=>by obtain rfl:=Ar.1 hc;intro h;rfl) (n0::l) (fun n=>!has n.rq.set cs[i].place) (fun n hn=>s87 n cs[i] (hnq n hn)) hnl;refine BX (XM (fun n=>!has n.rq.set cs[i].place) (n0::l)) (fun h6=>?_) (fun h6=>?_)
   .refine CL h6 (fun k86 h6=>CL h6 (fun nd h6=>?_));rw[h6.1]at qW;refine Xi .pure (Xi _ (Yi qW (cU [(0,.ref 1000 0),(4,vs p),(5,sl BJ (n0::l)),(6,.slice (.id 6 1) (rs.map Dc)),(7,.slice (.id 7 3) (sk.map CG)),(9,.ref 9 0),(10,vi (k86:Nat)),(32,sl AY cs),(33,vi (cs.map AY).length),(34,vi i)] [(6,.tok 1 rs.length),(7,.tok 3 sk.length),(9,.ro (AY cs[i])),(500,.arr 1 (st.map Bp)),(1000,.cells (srM roots C A S dec 500 st.length)),(1001,.tok 6 S.infs.length),(1002,.tok 1 S.drv.length),(1003,.map FU (F0 0 S.infs)),(1004,.dead)] Z10 Z9 (Yi (fun _=>?_) (fun hf=>absurd (show(0:Int)<=((k86:Nat):Int) by omega) hf)))));refine Xi (BJ nd) (Yi (Yi (show(0:Int)<=((k86:Nat):Int) by omega) (Ek h6.2.1)) (Yi rfl (yN ?_)));have vg:=hex i n3 nd (BI h6.2.2) (by have q:=Dy h6.2.2;simpa using q);obtain⟨b1,b2,b3⟩:=j3.add (vg.1 S.drv)
    change Mh x roots (BS S nd).2 at b1
    change (BS S nd).1<(BS S nd).2.drv.length at b2
    change S.drv.length<=(BS S nd).2.drv.length at b3
    refine Xi (.gen de 0) (Yi rfl (A9.imp (s88 roots C A S dec st nd hw.1 hw.2.1 j3.nodup (hnq nd (Az h6.2.1)) (hnp nd (Az h6.2.1))) ?_));intro v7 g7 q7;have q7a:=q7.1;have q7b:=q7.2;subst q7a;subst q7b;refine Yi (lj rfl ch Cl) (Yi (Ii i ch) ?_);have Zd:S.full=false:=by simpa using h4
    have eN:Eh (Do x roots n) x p (n0::l) n0 dec st (cs.drop (i+1)) (BS S nd).2 (rs++[(BS S nd).1]) sk=R:=by rw[<-yq n3 Zd h6.2.2];exact j2
    refine Xi ⟨(i+1,(BS S nd).2,rs++[(BS S nd).1],sk),FR n3,eN,b1,fun r h=>(AN.1 h).elim (fun h=>BC (j4 r h) b3) (fun h=>by rw[Ar.1 h];exact b2),(by rw[Ac];exact EQ j5),Nat.le_succ_of_le j6⟩ ?_;exact⟨Dl cs.length i ch,⟨Zr,Zr,Zr,⟨(show AV.slice (.id 6 1) (rs.map Dc++[[vi (((BS S nd).1:Nat):Int)]])=.slice (.id 6 1) ((rs++[(BS S nd).1]).map Dc) by rw[At];rfl),rfl⟩,Zr,Zr,Zr,Zr,Tv⟩,⟨⟨(show HO.tok 1 ((rs.map Dc).length+([[vi (((BS S nd).1:Nat):Int)]]:List (List AV)).length)=.tok 1 (rs++[(BS S nd).1]).length by simp),rfl⟩,Zr,Zr,Zr,Zr,Zr,Zr,Zr,Tv⟩,Fh,BV Wk⟩
   skip
   rw[h6.1]at qW;refine Xi .pure (Xi _ (Yi qW (cU [(0,.ref 1000 0),(4,vs p),(5,sl BJ (n0::l)),(6,.slice (.id 6 1) (rs.map Dc)),(7,.slice (.id 7 3) (sk.map CG)),(9,.ref 9 0),(10,vi (-1)),(32,sl AY cs),(33,vi (cs.map AY).length),(34,vi i)] [(6,.tok 1 rs.length),(7,.tok 3 sk.length),(9,.ro (AY cs[i])),(500,.arr 1 (st.map Bp)),(1000,.cells (srM roots C A S dec 500 st.length)),(1001,.tok 6 S.infs.length),(1002,.tok 1 S.drv.length),(1003,.map FU (F0 0 S.infs)),(1004,.dead)] Z10 Z9 (Yi (fun h=>absurd h Cl) (fun _=>?_)))));refine Xi _ (Xi _ (Yi Wk (Yi (uH (AS dec) (by unfold B8 AS;rw[Lm];omega)) (yN ?_))));have Xo:Cr 4 [[vs p,vi cs[i].rel.ver.a,vi cs[i].rel.ver.b,vi cs[i].rel.ver.c]]/\((AS dec).map Aq).length=((AS dec).map Aq).length/\(((AS dec).map Aq).length+([[vs p,vi cs[i].rel.ver.a,vi cs[i].rel.ver.b,vi cs[i].rel.ver.c]]:List (List AV)).length)*40<=140737488355328/\((AS dec).map Aq).length+([[vs p,vi cs[i].rel.ver.a,vi cs[i].rel.ver.b,vi cs[i].rel.ver.c]]:List (List AV)).length<=9223372036854775807:=⟨⟨rfl,trivial⟩,rfl,(by simp only[Lm,Al,Au];omega),(by simp only[Lm,Al,Au];omega)⟩;refine Yi Xo (Yi Wk (cU [(0,.ref 1000 0),(4,vs p),(5,sl BJ (n0::l)),(6,.slice (.id 6 1) (rs.map Dc)),(7,.slice (.id 7 3) (sk.map CG)),(9,.ref 9 0),(11,.slice (.id 16000 4) ((AS (dec++[cs[i]])).map Aq)),(32,sl AY cs),(33,vi (cs.map AY).length),(34,vi i)] [(6,.tok 1 rs.length),(7,.tok 3 sk.length),(9,.ro (AY cs[i])),(500,.arr 1 (st.map Bp)),(1000,.cells (srM roots C A S dec 500 st.length)),(1001,.tok 6 S.infs.length),(1002,.tok 1 S.drv.length),(1003,.map FU (F0 0 S.infs)),(1004,.dead),(16000,.tok 4 ((AS (dec++[cs[i]])).map Aq).length)] ⟨Zr,Zr,Zr,Zr,Zr,Zr,⟨(show(.slice (.id 16000 4) (((AS dec).map Aq)++[[vs p,vi cs[i].rel.ver.a,vi cs[i].rel.ver.b,vi cs[i].rel.ver.c]]):AV)=.slice (.id 16000 4) ((AS (dec++[cs[i]])).map Aq) by rw[hkey i n3]),rfl⟩,Zr,Zr,Zr,Tv⟩ ⟨Zr,Zr,Zr,Zr,Zr,Zr,Zr,Zr,Zr,⟨(show(.tok 4 (((AS dec).map Aq).length+([[vs p,vi cs[i].rel.ver.a,vi cs[i].rel.ver.b,vi cs[i].rel.ver.c]]:List (List AV)).length):HO)=.tok 4 ((AS (dec++[cs[i]])).map Aq).length by rw[<-hkey i n3,Ac]),rfl⟩,Tv⟩ ?_))
   have qX:=s89 roots C A S dec st (AS (dec++[cs[i]])) hw.2.2 TR (xF i n3);refine BX (eY (Pb S.drv (AS (dec++[cs[i]])))) (fun Kz=>?_) (fun Kz=>?_)
   .refine CL Kz (fun ke Kz=>?_);have eV:YU S.drv (AS (dec++[cs[i]]))=.tup [vi (ke:Nat),vb true]:=by unfold YU;rw[Kz];rfl
    rw[eV]at qX;refine Xi (.gen de 0) (Yi rfl (A9.imp qX ?_));intro v12 g12 rY;have wl:=rY.1;have wm:=rY.2;subst wl;subst wm;refine yN ?_;have Zb:=s69 roots C A S dec st cs[i] ch (hcr i n3) (hcs_ i n3);refine BX (eY (En dec cs[i])) (fun SM=>?_) (fun SM=>?_)
    .refine CL SM (fun nc SM=>?_);have eW:uK (En dec cs[i])=.tup [.agg (BJ nc),vb true]:=by rw[SM];rfl
     rw[eW]at Zb;refine Xi (.gen de 0) (Yi rfl (A9.imp Zb ?_));intro v14 g14 q14;have Aef:=q14.1;have Aeg:=q14.2;subst Aef;subst Aeg;refine yN (cU [(0,.ref 1000 0),(4,vs p),(5,sl BJ (n0::l)),(6,.slice (.id 6 1) (rs.map Dc)),(7,.slice (.id 7 3) (sk.map CG)),(9,.ref 9 0),(11,.slice (.id 16000 4) ((AS (dec++[cs[i]])).map Aq)),(12,vi (ke:Nat)),(13,vb true),(14,.ref 14 0),(15,vb true),(32,sl AY cs),(33,vi (cs.map AY).length),(34,vi i)] [(6,.tok 1 rs.length),(7,.tok 3 sk.length),(9,.ro (AY cs[i])),(14,.cells (BJ nc)),(500,.arr 1 (st.map Bp)),(1000,.cells (srM roots C A S dec 500 st.length)),(1001,.tok 6 S.infs.length),(1002,.tok 1 S.drv.length),(1003,.map FU (F0 0 S.infs)),(1004,.dead),(16000,.tok 4 ((AS (dec++[cs[i]])).map Aq).length)] ⟨Zr,Zr,Zr,Zr,Zr,Zr,Zr,Zr,Zr,Zr,Zr,Zr,Zr,Zr,Tv⟩ Z11 (cU [(0,.ref 1000 0),(4,vs p),(5,sl BJ (n0::l)),(6,.slice (.id 6 1) (rs.map Dc)),(7,.slice (.id 7 3) (sk.map CG)),(9,.ref 9 0),(12,vi (ke:Nat)),(32,sl AY cs),(33,vi (cs.map AY).length),(34,vi i)] [(6,.tok 1 rs.length),(7,.tok 3 sk.length),(9,.ro (AY cs[i])),(500,.arr 1 (st.map Bp)),(1000,.cells (srM roots C A S dec 500 st.length)),(1001,.tok 6 S.infs.length),(1002,.tok 1 S.drv.length),(1003,.map FU (F0 0 S.infs)),(1004,.dead)] Z10 Z9 (Xi (Dn (EC S ke)) (Yi (Yi (show(0:Int)<=((ke:Nat):Int) by omega) (Ek (Ff (LU Kz).1))) (Yi rfl ?_)))));have Zd:S.full=false:=by simpa using h4
     have WK:ke<S.drv.length:=(LU Kz).1;have gD:=j3.der.few hx hr;refine BX (Bt (Ee (EC S ke) p)) (fun jB=>?_) (fun jB=>?_)
     .refine Xi .pure (Xi _ (Yi (cb jB (qd (EC S ke) p (FC (gD _ (Az (Ff WK)))))) (cU [(0,.ref 1000 0),(4,vs p),(5,sl BJ (n0::l)),(6,.slice (.id 6 1) (rs.map Dc)),(7,.slice (.id 7 3) (sk.map CG)),(9,.ref 9 0),(12,vi (ke:Nat)),(32,sl AY cs),(33,vi (cs.map AY).length),(34,vi i)] [(6,.tok 1 rs.length),(7,.tok 3 sk.length),(9,.ro (AY cs[i])),(500,.arr 1 (st.map Bp)),(1000,.cells (srM roots C A S dec 500 st.length)),(1001,.tok 6 S.infs.length),(1002,.tok 1 S.drv.length),(1003,.map FU (F0 0 S.infs)),(1004,.dead)] Z10 Z9 (Yi (lj rfl ch Cl) (Yi (lj rfl ch Cl) (Yi (Ii i ch) ?_))))));have eA:=(YN (rec:=Do x roots n) (x:=x) (p:=p) (n0:=n0) (st:=st) (rs:=rs) (sk:=sk) n3 Zd h6.2 Kz);have eN:Eh (Do x roots n) x p (n0::l) n0 dec st (cs.drop (i+1)) S (rs++[ke]) (sk++[(⟨p,cs[i].place,(ke:Nat)⟩:Sk)])=R:=by rw[<-YA (c:=cs[i]) jB,<-eA];exact j2
      refine Xi ⟨(i+1,S,rs++[ke],sk++[(⟨p,cs[i].place,(ke:Nat)⟩:Sk)]),FR n3,eN,j3,fun r h=>(AN.1 h).elim ((fun r h=>j4 r h) r) (fun h=>by rw[Ar.1 h];exact WK),(by rw[Ac];exact EQ j5),(by rw[Ac];exact EQ j6)⟩ ?_;exact⟨Dl cs.length i ch,⟨Zr,Zr,Zr,⟨(show AV.slice (.id 6 1) (rs.map Dc++[[vi ((ke:Nat):Int)]])=.slice (.id 6 1) ((rs++[ke]).map Dc) by rw[At];rfl),rfl⟩,⟨(show AV.slice (.id 7 3) (sk.map CG++[[vs p,vi cs[i].place,vi ((ke:Nat):Int)]])=.slice (.id 7 3) ((sk++[(⟨p,cs[i].place,(ke:Nat)⟩:Sk)]).map CG) by rw[At];rfl),rfl⟩,Zr,Zr,Zr,Tv⟩,⟨⟨(show HO.tok 1 ((rs.map Dc).length+([[vi ((ke:Nat):Int)]]:List (List AV)).length)=.tok 1 (rs++[ke]).length by simp),rfl⟩,⟨(show HO.tok 3 ((sk.map CG).length+([[vs p,vi cs[i].place,vi ((ke:Nat):Int)]]:List (List AV)).length)=.tok 3 (sk++[(⟨p,cs[i].place,(ke:Nat)⟩:Sk)]).length by simp),rfl⟩,Zr,Zr,Zr,Zr,Zr,Zr,Tv⟩,Fh,BV Wk⟩
     refine Xi .pure (Xi _ (Yi (cb jB (qd (EC S ke) p (FC (gD _ (Az (Ff WK)))))) (cU [(12,vi (ke:Nat))] [(500,.arr 1 (st.map Bp)),(1000,.cells (srM roots C A S dec 500 st.length)),(1001,.tok 6 S.infs.length),(1002,.tok 1 S.drv.length),(1003,.map FU (F0 0 S.infs)),(1004,.dead)] Z1 Z6 ?_)))
     have eA:=(YN (rec:=Do x roots n) (x:=x) (p:=p) (n0:=n0) (st:=st) (rs:=rs) (sk:=sk) n3 Zd h6.2 Kz);have eR:R=⟨ke,false,S,dec,st⟩:=by rw[<-j2];rw[eA];exact fQ jB
     exact Xi _ (Yi (.refl _) (OR (gw.trans eR)))
    skip
    have eW:uK (En dec cs[i])=.tup [.agg [vs ⟨#[]⟩,nzA,vs ⟨#[]⟩,vi 0,vi 0],vb false]:=by rw[SM];rfl
    rw[eW]at Zb;refine Xi (.gen de 0) (Yi rfl (A9.imp Zb ?_));intro v20 g20 q20;have Aeh:=q20.1;have Aei:=q20.2;subst Aeh;subst Aei;refine yN (cU [(0,.ref 1000 0),(4,vs p),(5,sl BJ (n0::l)),(6,.slice (.id 6 1) (rs.map Dc)),(7,.slice (.id 7 3) (sk.map CG)),(9,.ref 9 0),(11,.slice (.id 16000 4) ((AS (dec++[cs[i]])).map Aq)),(12,vi (ke:Nat)),(13,vb true),(14,.ref 14 0),(15,vb false),(32,sl AY cs),(33,vi (cs.map AY).length),(34,vi i)] [(6,.tok 1 rs.length),(7,.tok 3 sk.length),(9,.ro (AY cs[i])),(14,.cells [vs ⟨#[]⟩,nzA,vs ⟨#[]⟩,vi 0,vi 0]),(500,.arr 1 (st.map Bp)),(1000,.cells (srM roots C A S dec 500 st.length)),(1001,.tok 6 S.infs.length),(1002,.tok 1 S.drv.length),(1003,.map FU (F0 0 S.infs)),(1004,.dead),(16000,.tok 4 ((AS (dec++[cs[i]])).map Aq).length)] ⟨Zr,Zr,Zr,Zr,Zr,Zr,Zr,Zr,Zr,Zr,Zr,Zr,Zr,Zr,Tv⟩ Z11 (cU [(0,.ref 1000 0),(4,vs p),(5,sl BJ (n0::l)),(6,.slice (.id 6 1) (rs.map Dc)),(7,.slice (.id 7 3) (sk.map CG)),(9,.ref 9 0),(12,vi (ke:Nat)),(32,sl AY cs),(33,vi (cs.map AY).length),(34,vi i)] [(6,.tok 1 rs.length),(7,.tok 3 sk.length),(9,.ro (AY cs[i])),(500,.arr 1 (st.map Bp)),(1000,.cells (srM roots C A S dec 500 st.length)),(1001,.tok 6 S.infs.length),(1002,.tok 1 S.drv.length),(1003,.map FU (F0 0 S.infs)),(1004,.dead)] Z10 Z9 (Xi (Dn (EC S ke)) (Yi (Yi (show(0:Int)<=((ke:Nat):Int) by omega) (Ek (Ff (LU Kz).1))) (Yi rfl ?_)))));have Zd:S.full=false:=by simpa using h4
    have WK:ke<S.drv.length:=(LU Kz).1;have gD:=j3.der.few hx hr;refine BX (Bt (Ee (EC S ke) p)) (fun c8=>?_) (fun c8=>?_)
    .refine Xi .pure (Xi _ (Yi (cb c8 (qd (EC S ke) p (FC (gD _ (Az (Ff WK)))))) (cU [(0,.ref 1000 0),(4,vs p),(5,sl BJ (n0::l)),(6,.slice (.id 6 1) (rs.map Dc)),(7,.slice (.id 7 3) (sk.map CG)),(9,.ref 9 0),(12,vi (ke:Nat)),(32,sl AY cs),(33,vi (cs.map AY).length),(34,vi i)] [(6,.tok 1 rs.length),(7,.tok 3 sk.length),(9,.ro (AY cs[i])),(500,.arr 1 (st.map Bp)),(1000,.cells (srM roots C A S dec 500 st.length)),(1001,.tok 6 S.infs.length),(1002,.tok 1 S.drv.length),(1003,.map FU (F0 0 S.infs)),(1004,.dead)] Z10 Z9 (Yi (lj rfl ch Cl) (Yi (lj rfl ch Cl) (Yi (Ii i ch) ?_))))));have eA:=(YN (rec:=Do x roots n) (x:=x) (p:=p) (n0:=n0) (st:=st) (rs:=rs) (sk:=sk) n3 Zd h6.2 Kz);have eN:Eh (Do x roots n) x p (n0::l) n0 dec st (cs.drop (i+1)) S (rs++[ke]) (sk++[(⟨p,cs[i].place,(ke:Nat)⟩:Sk)])=R:=by rw[<-YA (c:=cs[i]) c8,<-eA];exact j2
     refine Xi ⟨(i+1,S,rs++[ke],sk++[(⟨p,cs[i].place,(ke:Nat)⟩:Sk)]),FR n3,eN,j3,fun r h=>(AN.1 h).elim ((fun r h=>j4 r h) r) (fun h=>by rw[Ar.1 h];exact WK),(by rw[Ac];exact EQ j5),(by rw[Ac];exact EQ j6)⟩ ?_;exact⟨Dl cs.length i ch,⟨Zr,Zr,Zr,⟨(show AV.slice (.id 6 1) (rs.map Dc++[[vi ((ke:Nat):Int)]])=.slice (.id 6 1) ((rs++[ke]).map Dc) by rw[At];rfl),rfl⟩,⟨(show AV.slice (.id 7 3) (sk.map CG++[[vs p,vi cs[i].place,vi ((ke:Nat):Int)]])=.slice (.id 7 3) ((sk++[(⟨p,cs[i].place,(ke:Nat)⟩:Sk)]).map CG) by rw[At];rfl),rfl⟩,Zr,Zr,Zr,Tv⟩,⟨⟨(show HO.tok 1 ((rs.map Dc).length+([[vi ((ke:Nat):Int)]]:List (List AV)).length)=.tok 1 (rs++[ke]).length by simp),rfl⟩,⟨(show HO.tok 3 ((sk.map CG).length+([[vs p,vi cs[i].place,vi ((ke:Nat):Int)]]:List (List AV)).length)=.tok 3 (sk++[(⟨p,cs[i].place,(ke:Nat)⟩:Sk)]).length by simp),rfl⟩,Zr,Zr,Zr,Zr,Zr,Zr,Tv⟩,Fh,BV Wk⟩
    refine Xi .pure (Xi _ (Yi (cb c8 (qd (EC S ke) p (FC (gD _ (Az (Ff WK)))))) (cU [(12,vi (ke:Nat))] [(500,.arr 1 (st.map Bp)),(1000,.cells (srM roots C A S dec 500 st.length)),(1001,.tok 6 S.infs.length),(1002,.tok 1 S.drv.length),(1003,.map FU (F0 0 S.infs)),(1004,.dead)] Z1 Z6 ?_)))
    have eA:=(YN (rec:=Do x roots n) (x:=x) (p:=p) (n0:=n0) (st:=st) (rs:=rs) (sk:=sk) n3 Zd h6.2 Kz);have eR:R=⟨ke,false,S,dec,st⟩:=by rw[<-j2];rw[eA];exact fQ c8
    exact Xi _ (Yi (.refl _) (OR (gw.trans eR)))
   skip
   have eV:YU S.drv (AS (dec++[cs[i]]))=.tup [vi 0,vb false]:=by unfold YU;rw[Kz];rfl
   rw[eV]at qX;refine Xi (.gen de 0) (Yi rfl (A9.imp qX ?_));intro v26 g26 q26;have Ael:=q26.1;have Aem:=q26.2;subst Ael;subst Aem;refine yN ?_;have Zb:=s69 roots C A S dec st cs[i] ch (hcr i n3) (hcs_ i n3);refine BX (eY (En dec cs[i])) (fun RI=>?_) (fun RI=>?_)
   .refine CL RI (fun nc RI=>?_);have eW:uK (En dec cs[i])=.tup [.agg (BJ nc),vb true]:=by rw[RI];rfl
    rw[eW]at Zb;refine Xi (.gen de 0) (Yi rfl (A9.imp Zb ?_));intro v28 g28 q28;have Aen:=q28.1;have Aeo:=q28.2;subst Aen;subst Aeo;refine yN (cU [(0,.ref 1000 0),(4,vs p),(5,sl BJ (n0::l)),(6,.slice (.id 6 1) (rs.map Dc)),(7,.slice (.id 7 3) (sk.map CG)),(9,.ref 9 0),(11,.slice (.id 16000 4) ((AS (dec++[cs[i]])).map Aq)),(12,vi 0),(13,vb false),(14,.ref 14 0),(15,vb true),(32,sl AY cs),(33,vi (cs.map AY).length),(34,vi i)] [(6,.tok 1 rs.length),(7,.tok 3 sk.length),(9,.ro (AY cs[i])),(14,.cells (BJ nc)),(500,.arr 1 (st.map Bp)),(1000,.cells (srM roots C A S dec 500 st.length)),(1001,.tok 6 S.infs.length),(1002,.tok 1 S.drv.length),(1003,.map FU (F0 0 S.infs)),(1004,.dead),(16000,.tok 4 ((AS (dec++[cs[i]])).map Aq).length)] ⟨Zr,Zr,Zr,Zr,Zr,Zr,Zr,Zr,Zr,Zr,Zr,Zr,Zr,Zr,Tv⟩ Z11 (yN ?_));have vg:=hcx i n3 nc RI;obtain⟨b1,b2,b3⟩:=j3.add (vg.1 S.drv)
    change Mh x roots (BS S nc).2 at b1
    change (BS S nc).1<(BS S nc).2.drv.length at b2
    change S.drv.length<=(BS S nc).2.drv.length at b3
    refine Xi (.gen de 0) (Yi rfl (A9.imp (s88 roots C A S dec st nc hw.1 hw.2.1 j3.nodup (hcq i n3 nc (Mo RI).1) (hcp_ i n3 nc (Mo RI).1)) ?_));intro v29 g29 q29;have Aep:=q29.1;have Aeq:=q29.2;subst Aep;subst Aeq;refine cU [(0,.ref 1000 0),(4,vs p),(5,sl BJ (n0::l)),(6,.slice (.id 6 1) (rs.map Dc)),(7,.slice (.id 7 3) (sk.map CG)),(9,.ref 9 0),(12,vi ((BS S nc).1:Nat)),(32,sl AY cs),(33,vi (cs.map AY).length),(34,vi i)] [(6,.tok 1 rs.length),(7,.tok 3 sk.length),(9,.ro (AY cs[i])),(500,.arr 1 (st.map Bp)),(1000,.cells [sl AW roots,.cmap Cu C,.cmap Cu A,.slice (.id 1001 6) ((BS S nc).2.infs.map DB),.slice (.id 1002 1) ((BS S nc).2.drv.map Dn),.mref 1003,vb (BS S nc).2.full,sl AY dec,sl Aq (AS dec),.msl 500 st.length]),(1001,.tok 6 (BS S nc).2.infs.length),(1002,.tok 1 (BS S nc).2.drv.length),(1003,.map FU (F0 0 (BS S nc).2.infs)),(1004,.dead)] Z10 Z9 (Xi (Dn (EC (BS S nc).2 (BS S nc).1)) (Yi (Yi (show(0:Int)<=(((BS S nc).1:Nat):Int) by omega) (Ek (Ff b2))) (Yi rfl ?_)));have Zd:S.full=false:=by simpa using h4
    have WK:(BS S nc).1<(BS S nc).2.drv.length:=b2;have gD:=b1.der.few hx hr;refine BX (Bt (Ee (EC (BS S nc).2 (BS S nc).1) p)) (fun ll=>?_) (fun ll=>?_)
    .refine Xi .pure (Xi _ (Yi (cb ll (qd (EC (BS S nc).2 (BS S nc).1) p (FC (gD _ (Az (Ff WK)))))) (cU [(0,.ref 1000 0),(4,vs p),(5,sl BJ (n0::l)),(6,.slice (.id 6 1) (rs.map Dc)),(7,.slice (.id 7 3) (sk.map CG)),(9,.ref 9 0),(12,vi ((BS S nc).1:Nat)),(32,sl AY cs),(33,vi (cs.map AY).length),(34,vi i)] [(6,.tok 1 rs.length),(7,.tok 3 sk.length),(9,.ro (AY cs[i])),(500,.arr 1 (st.map Bp)),(1000,.cells [sl AW roots,.cmap Cu C,.cmap Cu A,.slice (.id 1001 6) ((BS S nc).2.infs.map DB),.slice (.id 1002 1) ((BS S nc).2.drv.map Dn),.mref 1003,vb (BS S nc).2.full,sl AY dec,sl Aq (AS dec),.msl 500 st.length]),(1001,.tok 6 (BS S nc).2.infs.length),(1002,.tok 1 (BS S nc).2.drv.length),(1003,.map FU (F0 0 (BS S nc).2.infs)),(1004,.dead)] Z10 Z9 (Yi (lj rfl ch Cl) (Yi (lj rfl ch Cl) (Yi (Ii i ch) ?_))))));have eA:=(ay (rec:=Do x roots n) (x:=x) (p:=p) (n0:=n0) (st:=st) (rs:=rs) (sk:=sk) n3 Zd h6.2 Kz RI);have eN:Eh (Do x roots n) x p (n0::l) n0 dec st (cs.drop (i+1)) (BS S nc).2 (rs++[(BS S nc).1]) (sk++[(⟨p,cs[i].place,((BS S nc).1:Nat)⟩:Sk)])=R:=by rw[<-YA (c:=cs[i]) ll,<-eA];exact j2
     refine Xi ⟨(i+1,(BS S nc).2,rs++[(BS S nc).1],sk++[(⟨p,cs[i].place,((BS S nc).1:Nat)⟩:Sk)]),FR n3,eN,b1,fun r h=>(AN.1 h).elim ((fun r h=>BC (j4 r h) b3) r) (fun h=>by rw[Ar.1 h];exact WK),(by rw[Ac];exact EQ j5),(by rw[Ac];exact EQ j6)⟩ ?_;exact⟨Dl cs.length i ch,⟨Zr,Zr,Zr,⟨(show AV.slice (.id 6 1) (rs.map Dc++[[vi (((BS S nc).1:Nat):Int)]])=.slice (.id 6 1) ((rs++[(BS S nc).1]).map Dc) by rw[At];rfl),rfl⟩,⟨(show AV.slice (.id 7 3) (sk.map CG++[[vs p,vi cs[i].place,vi (((BS S nc).1:Nat):Int)]])=.slice (.id 7 3) ((sk++[(⟨p,cs[i].place,((BS S nc).1:Nat)⟩:Sk)]).map CG) by rw[At];rfl),rfl⟩,Zr,Zr,Zr,Tv⟩,⟨⟨(show HO.tok 1 ((rs.map Dc).length+([[vi (((BS S nc).1:Nat):Int)]]:List (List AV)).length)=.tok 1 (rs++[(BS S nc).1]).length by simp),rfl⟩,⟨(show HO.tok 3 ((sk.map CG).length+([[vs p,vi cs[i].place,vi (((BS S nc).1:Nat):Int)]]:List (List AV)).length)=.tok 3 (sk++[(⟨p,cs[i].place,((BS S nc).1:Nat)⟩:Sk)]).length by simp),rfl⟩,Zr,Zr,Zr,Zr,Zr,Zr,Tv⟩,Fh,BV Wk⟩
    refine Xi .pure (Xi _ (Yi (cb ll (qd (EC (BS S nc).2 (BS S nc).1) p (FC (gD _ (Az (Ff WK)))))) (cU [(12,vi ((BS S nc).1:Nat))] [(500,.arr 1 (st.map Bp)),(1000,.cells [sl AW roots,.cmap Cu C,.cmap Cu A,.slice (.id 1001 6) ((BS S nc).2.infs.map DB),.slice (.id 1002 1) ((BS S nc).2.drv.map Dn),.mref 1003,vb (BS S nc).2.full,sl AY dec,sl Aq (AS dec),.msl 500 st.length]),(1001,.tok 6 (BS S nc).2.infs.length),(1002,.tok 1 (BS S nc).2.drv.length),(1003,.map FU (F0 0 (BS S nc).2.infs)),(1004,.dead)] Z1 Z6 ?_)))
    have eA:=(ay (rec:=Do x roots n) (x:=x) (p:=p) (n0:=n0) (st:=st) (rs:=rs) (sk:=sk) n3 Zd h6.2 Kz RI);have eR:R=⟨(BS S nc).1,false,(BS S nc).2,dec,st⟩:=by rw[<-j2];rw[eA];exact fQ ll
    exact Xi _ (Yi (.refl _) (OR (gw.trans eR)))
   skip
   have eW:uK (En dec cs[i])=.tup [.agg [vs ⟨#[]⟩,nzA,vs ⟨#[]⟩,vi 0,vi 0],vb false]:=by rw[RI];rfl
   rw[eW]at Zb;refine Xi (.gen de 0) (Yi rfl (A9.imp Zb ?_));intro v35 g35 q35;have Aet:=q35.1;have Aeu:=q35.2;subst Aet;subst Aeu;refine yN (cU [(0,.ref 1000 0),(4,vs p),(5,sl BJ (n0::l)),(6,.slice (.id 6 1) (rs.map Dc)),(7,.slice (.id 7 3) (sk.map CG)),(9,.ref 9 0),(11,.slice (.id 16000 4) ((AS (dec++[cs[i]])).map Aq)),(12,vi 0),(13,vb false),(14,.ref 14 0),(15,vb false),(32,sl AY cs),(33,vi (cs.map AY).length),(34,vi i)] [(6,.tok 1 rs.length),(7,.tok 3 sk.length),(9,.ro (AY cs[i])),(14,.cells [vs ⟨#[]⟩,nzA,vs ⟨#[]⟩,vi 0,vi 0]),(500,.arr 1 (st.map Bp)),(1000,.cells (srM roots C A S dec 500 st.length)),(1001,.tok 6 S.infs.length),(1002,.tok 1 S.drv.length),(1003,.map FU (F0 0 S.infs)),(1004,.dead),(16000,.tok 4 ((AS (dec++[cs[i]])).map Aq).length)] ⟨Zr,Zr,Zr,Zr,Zr,Zr,Zr,Zr,Zr,Zr,Zr,Zr,Zr,Zr,Tv⟩ Z11 (Yi Wk (cU [(0,.ref 1000 0),(4,vs p),(5,sl BJ (n0::l)),(6,.slice (.id 6 1) (rs.map Dc)),(7,.slice (.id 7 3) (sk.map CG)),(9,.ref 9 0),(11,.slice (.id 16000 4) ((AS (dec++[cs[i]])).map Aq)),(16,sl AY dec),(17,sl Aq (AS dec)),(32,sl AY cs),(33,vi (cs.map AY).length),(34,vi i)] [(6,.tok 1 rs.length),(7,.tok 3 sk.length),(9,.ro (AY cs[i])),(500,.arr 1 (st.map Bp)),(1000,.cells (srM roots C A S dec 500 st.length)),(1001,.tok 6 S.infs.length),(1002,.tok 1 S.drv.length),(1003,.map FU (F0 0 S.infs)),(1004,.dead),(16000,.tok 4 ((AS (dec++[cs[i]])).map Aq).length)] Z12 Z10 (Xi _ (Xi _ (Yi Wk (Yi (Aaw dec (by unfold B8;omega)) (yN ?_))))))));have b36:Cr 10 [(AY cs[i])]/\(dec.map AY).length=(dec.map AY).length/\((dec.map AY).length+([(AY cs[i])]:List (List AV)).length)*128<=140737488355328/\(dec.map AY).length+([(AY cs[i])]:List (List AV)).length<=9223372036854775807:=⟨⟨rfl,trivial⟩,rfl,(by simp only[Lm,Al,Au];omega),(by simp only[Lm,Al,Au];omega)⟩;refine Yi b36 (yN (yN (Yi Wk ?_)));have b37:Cr 1 [[sl CG sk]]/\(st.map Bp).length=st.length/\((st.map Bp).length+([[sl CG sk]]:List (List AV)).length)*24<=140737488355328/\(st.map Bp).length+([[sl CG sk]]:List (List AV)).length<=9223372036854775807:=⟨⟨rfl,trivial⟩,(by rw[Lm]),(by simp only[Lm,Al,Au];omega),(by simp only[Lm,Al,Au];omega)⟩;refine Yi b37 (yN (cU [(0,.ref 1000 0),(4,vs p),(5,sl BJ (n0::l)),(6,.slice (.id 6 1) (rs.map Dc)),(7,.slice (.id 7 3) (sk.map CG)),(9,.ref 9 0),(16,sl AY dec),(17,sl Aq (AS dec)),(32,sl AY cs),(33,vi (cs.map AY).length),(34,vi i)] [(6,.tok 1 rs.length),(7,.tok 3 sk.length),(9,.ro (AY cs[i])),(500,.arr 1 ((st.map Bp)++[[sl CG sk]])),(1000,.cells [sl AW roots,.cmap Cu C,.cmap Cu A,.slice (.id 1001 6) (S.infs.map DB),.slice (.id 1002 1) (S.drv.map Dn),.mref 1003,vb S.full,.slice (.id 20100 10) ((dec.map AY)++[(AY cs[i])]),.slice (.id 16000 4) ((AS (dec++[cs[i]])).map Aq),.msl 500 ((st.map Bp).length+([[sl CG sk]]:List (List AV)).length)]),(1001,.tok 6 S.infs.length),(1002,.tok 1 S.drv.length),(1003,.map FU (F0 0 S.infs)),(1004,.dead),(16000,.tok 4 ((AS (dec++[cs[i]])).map Aq).length),(20100,.tok 10 ((dec.map AY).length+([(AY cs[i])]:List (List AV)).length))] Z11 Z11 (cU [(0,.ref 1000 0),(4,vs p),(5,sl BJ (n0::l)),(6,.slice (.id 6 1) (rs.map Dc)),(7,.slice (.id 7 3) (sk.map CG)),(9,.ref 9 0),(16,sl AY dec),(17,sl Aq (AS dec)),(32,sl AY cs),(33,vi (cs.map AY).length),(34,vi i)] [(6,.tok 1 rs.length),(7,.tok 3 sk.length),(9,.ro (AY cs[i])),(500,.arr 1 ((st++[sk]).map Bp)),(1000,.cells [sl AW roots,.cmap Cu C,.cmap Cu A,.slice (.id 1001 6) (S.infs.map DB),.slice (.id 1002 1) (S.drv.map Dn),.mref 1003,vb S.full,.slice (.id 20100 10) ((dec++[cs[i]]).map AY),.slice (.id 16000 4) ((AS (dec++[cs[i]])).map Aq),.msl 500 (st++[sk]).length]),(1001,.tok 6 S.infs.length),(1002,.tok 1 S.drv.length),(1003,.map FU (F0 0 S.infs)),(1004,.dead),(16000,.tok 4 ((AS (dec++[cs[i]])).map Aq).length),(20100,.tok 10 ((dec++[cs[i]]).map AY).length)] Z11 ⟨Zr,Zr,Zr,⟨(show(.arr 1 ((st.map Bp)++[[sl CG sk]]):HO)=.arr 1 ((st++[sk]).map Bp) by simp),rfl⟩,⟨(show(.cells [sl AW roots,.cmap Cu C,.cmap Cu A,.slice (.id 1001 6) (S.infs.map DB),.slice (.id 1002 1) (S.drv.map Dn),.mref 1003,vb S.full,.slice (.id 20100 10) ((dec.map AY)++[(AY cs[i])]),.slice (.id 16000 4) ((AS (dec++[cs[i]])).map Aq),.msl 500 ((st.map Bp).length+([[sl CG sk]]:List (List AV)).length)]:HO)=.cells [sl AW roots,.cmap Cu C,.cmap Cu A,.slice (.id 1001 6) (S.infs.map DB),.slice (.id 1002 1) (S.drv.map Dn),.mref 1003,vb S.full,.slice (.id 20100 10) ((dec++[cs[i]]).map AY),.slice (.id 16000 4) ((AS (dec++[cs[i]])).map Aq),.msl 500 (st++[sk]).length] by simp),rfl⟩,Zr,Zr,Zr,Zr,Zr,⟨(show(.tok 10 ((dec.map AY).length+([(AY cs[i])]:List (List AV)).length):HO)=.tok 10 ((dec++[cs[i]]).map AY).length by simp),rfl⟩,Tv⟩ ?_)))
   have G1:ki dec (n0::l) cs[i]=true:=QU.2 ⟨fun n hn=>by have q:=DI.1 h6.2 n hn;simpa using q,RI⟩;have nk:=ih cs[i] (hcm i n3) G1 S (st++[sk]) (by simp[K4]) j3 (by simpa using h4);refine CL (show ∃o,o=Do x roots n (dec++[cs[i]]) S (st++[sk])from⟨_,rfl⟩) (fun o ho=>?_);rw[<-ho]at nk;have hrc:A9 Tryz.prog 137 [.ref 1000 0] (As (Kh roots C A S (dec++[cs[i]]) (st++[sk])) Ag) (fun r h'=>r=.tup [vi (o.res:Nat),vb o.found]/\h'=As (srE roots C A o.ss o.dec o.stack) Ag):=nk.1;have xK:=nk.2.1;have hrn:=nk.2.2.1;refine BX (Bt o.found) (fun bo=>?_) (fun bo=>?_)
   .skip
    rw[bo]at hrc;refine Xi (.gen de 1) (Yi rfl (A9.imp hrc ?_));intro v39 g39 q39;have Aev:=q39.1;have Aew:=q39.2;subst Aev;subst Aew;refine cU [(0,.ref 1000 0),(4,vs p),(5,sl BJ (n0::l)),(6,.slice (.id 6 1) (rs.map Dc)),(7,.slice (.id 7 3) (sk.map CG)),(9,.ref 9 0),(12,vi (o.res:Nat)),(16,sl AY dec),(17,sl Aq (AS dec)),(18,vb true),(32,sl AY cs),(33,vi (cs.map AY).length),(34,vi i)] [(6,.tok 1 rs.length),(7,.tok 3 sk.length),(9,.ro (AY cs[i])),(1000,.cells (srM roots C A o.ss o.dec 22200 o.stack.length)),(1001,.tok 6 o.ss.infs.length),(1002,.tok 1 o.ss.drv.length),(1003,.map FU (F0 0 o.ss.infs)),(1004,.dead),(22200,.arr 1 (o.stack.map Bp))] Z13 Z9 (Yi (show o.stack.length=(o.stack.map Bp).length by simp) (cU [] [(500,.arr 1 (o.stack.map Bp)),(1000,.cells (srM roots C A o.ss o.dec 500 o.stack.length)),(1001,.tok 6 o.ss.infs.length),(1002,.tok 1 o.ss.drv.length),(1003,.map FU (F0 0 o.ss.infs)),(1004,.dead)] Tv Z6 ?_))
    have Zd:S.full=false:=by simpa using h4
    have eR:R=⟨0,true,o.ss,o.dec,o.stack⟩:=by rw[<-j2];rw[YO (sk:=sk) n3 Zd h6.2 Kz RI ho,Ap bo]
    exact Xi _ (Yi (.refl _) (OR (gw.trans eR)))
   skip
   rw[bo]at hrc;have hrk:=nk.2.2.2 bo;have OF:o.stack.length=st.length+1:=by rw[hrk];simp
   refine Xi (.gen de 1) (Yi rfl (A9.imp hrc ?_));intro v41 g41 q41;have Aex:=q41.1;have Aey:=q41.2;subst Aex;subst Aey;refine cU [(0,.ref 1000 0),(4,vs p),(5,sl BJ (n0::l)),(6,.slice (.id 6 1) (rs.map Dc)),(7,.slice (.id 7 3) (sk.map CG)),(9,.ref 9 0),(12,vi (o.res:Nat)),(16,sl AY dec),(17,sl Aq (AS dec)),(18,vb false),(32,sl AY cs),(33,vi (cs.map AY).length),(34,vi i)] [(6,.tok 1 rs.length),(7,.tok 3 sk.length),(9,.ro (AY cs[i])),(1000,.cells (srM roots C A o.ss o.dec 22200 o.stack.length)),(1001,.tok 6 o.ss.infs.length),(1002,.tok 1 o.ss.drv.length),(1003,.map FU (F0 0 o.ss.infs)),(1004,.dead),(22200,.arr 1 (o.stack.map Bp))] Z13 Z9 (yN (yN (cU [(0,.ref 1000 0),(4,vs p),(5,sl BJ (n0::l)),(6,.slice (.id 6 1) (rs.map Dc)),(7,.slice (.id 7 3) (sk.map CG)),(9,.ref 9 0),(12,vi (o.res:Nat)),(32,sl AY cs),(33,vi (cs.map AY).length),(34,vi i)] [(6,.tok 1 rs.length),(7,.tok 3 sk.length),(9,.ro (AY cs[i])),(1000,.cells (srM roots C A o.ss dec 22200 o.stack.length)),(1001,.tok 6 o.ss.infs.length),(1002,.tok 1 o.ss.drv.length),(1003,.map FU (F0 0 o.ss.infs)),(1004,.dead),(22200,.arr 1 (o.stack.map Bp))] Z10 Z9 (Yi (by show Bc ((o.stack.length:Int)-(1:Int));unfold Bc;omega) (Yi ⟨(show o.stack.length=(o.stack.map Bp).length by simp),(show(0:Int)<=o.stack.length-1 by omega),(show(o.stack.length-1:Int)<=((o.stack.map Bp).length:Nat) by rw[Lm];omega)⟩ (yN (Yi Wk (Yi (show(o.stack.length-1:Int).toNat=(((o.stack.map Bp).take (o.stack.length-1:Int).toNat):List (List AV)).length by simp) ?_))))))));have zx:((o.stack.map Bp).take ((o.stack.length:Int)-1).toNat)=st.map Bp/\((o.stack.length:Int)-1).toNat=st.length:=zy hrk;refine cU [(0,.ref 1000 0),(4,vs p),(5,sl BJ (n0::l)),(6,.slice (.id 6 1) (rs.map Dc)),(7,.slice (.id 7 3) (sk.map CG)),(9,.ref 9 0),(12,vi (o.res:Nat)),(32,sl AY cs),(33,vi (cs.map AY).length),(34,vi i)] [(6,.tok 1 rs.length),(7,.tok 3 sk.length),(9,.ro (AY cs[i])),(500,.arr 1 (st.map Bp)),(1000,.cells (srM roots C A o.ss dec 500 st.length)),(1001,.tok 6 o.ss.infs.length),(1002,.tok 1 o.ss.drv.length),(1003,.map FU (F0 0 o.ss.infs)),(1004,.dead)] Z10 ⟨Zr,Zr,Zr,⟨(show(.arr 1 ((o.stack.map Bp).take (o.stack.length-1:Int).toNat):HO)=.arr 1 (st.map Bp) by rw[zx.1]),rfl⟩,⟨(show(.cells (srM roots C A o.ss dec 500 (o.stack.length-1:Int).toNat):HO)=.cells (srM roots C A o.ss dec 500 st.length) by rw[zx.2]),rfl⟩,Zr,Zr,Zr,Zr,Tv⟩ ?_
   refine Yi (fun h42=>?_) (fun h42=>?_)
   .have Zd:S.full=false:=by simpa using h4
    have eR:R=⟨0,false,o.ss,dec,st⟩:=by rw[<-j2];rw[YO (sk:=sk) n3 Zd h6.2 Kz RI ho,Aj (by rw[bo];decide),Ap h42]
    exact Xi _ (Yi (.refl _) (OR (gw.trans eR)))
   have OD:o.ss.full=false:=h42;refine cU [(0,.ref 1000 0),(4,vs p),(5,sl BJ (n0::l)),(6,.slice (.id 6 1) (rs.map Dc)),(7,.slice (.id 7 3) (sk.map CG)),(9,.ref 9 0),(12,vi (o.res:Nat)),(32,sl AY cs),(33,vi (cs.map AY).length),(34,vi i)] [(6,.tok 1 rs.length),(7,.tok 3 sk.length),(9,.ro (AY cs[i])),(500,.arr 1 (st.map Bp)),(1000,.cells (srM roots C A o.ss dec 500 st.length)),(1001,.tok 6 o.ss.infs.length),(1002,.tok 1 o.ss.drv.length),(1003,.map FU (F0 0 o.ss.infs)),(1004,.dead)] Z10 Z9 (Xi (Dn (EC o.ss o.res)) (Yi (Yi (show(0:Int)<=((o.res:Nat):Int) by omega) (Ek (Ff (hrn.2 bo OD)))) (Yi rfl ?_)));have Zd:S.full=false:=by simpa using h4
   have WK:o.res<o.ss.drv.length:=(hrn.2 bo OD);have gD:=xK.der.few hx hr;refine BX (Bt (Ee (EC o.ss o.res) p)) (fun yG=>?_) (fun yG=>?_)
   .refine Xi .pure (Xi _ (Yi (cb yG (qd (EC o.ss o.res) p (FC (gD _ (Az (Ff WK)))))) (cU [(0,.ref 1000 0),(4,vs p),(5,sl BJ (n0::l)),(6,.slice (.id 6 1) (rs.map Dc)),(7,.slice (.id 7 3) (sk.map CG)),(9,.ref 9 0),(12,vi (o.res:Nat)),(32,sl AY cs),(33,vi (cs.map AY).length),(34,vi i)] [(6,.tok 1 rs.length),(7,.tok 3 sk.length),(9,.ro (AY cs[i])),(500,.arr 1 (st.map Bp)),(1000,.cells (srM roots C A o.ss dec 500 st.length)),(1001,.tok 6 o.ss.infs.length),(1002,.tok 1 o.ss.drv.length),(1003,.map FU (F0 0 o.ss.infs)),(1004,.dead)] Z10 Z9 (Yi (lj rfl ch Cl) (Yi (lj rfl ch Cl) (Yi (Ii i ch) ?_))))));have eA:=(YO (rec:=Do x roots n) (x:=x) (p:=p) (n0:=n0) (st:=st) (rs:=rs) (sk:=sk) n3 Zd h6.2 Kz RI ho);rw[Aj (by rw[bo];decide),Aj (by rw[OD];decide)]at eA;have eN:Eh (Do x roots n) x p (n0::l) n0 dec st (cs.drop (i+1)) o.ss (rs++[o.res]) (sk++[(⟨p,cs[i].place,(o.res:Nat)⟩:Sk)])=R:=by rw[<-YA (c:=cs[i]) yG,<-eA];exact j2
    refine Xi ⟨(i+1,o.ss,rs++[o.res],sk++[(⟨p,cs[i].place,(o.res:Nat)⟩:Sk)]),FR n3,eN,xK,fun r h=>(AN.1 h).elim ((fun r h=>BC (j4 r h) hrn.1) r) (fun h=>by rw[Ar.1 h];exact WK),(by rw[Ac];exact EQ j5),(by rw[Ac];exact EQ j6)⟩ ?_;exact⟨Dl cs.length i ch,⟨Zr,Zr,Zr,⟨(show AV.slice (.id 6 1) (rs.map Dc++[[vi ((o.res:Nat):Int)]])=.slice (.id 6 1) ((rs++[o.res]).map Dc) by rw[At];rfl),rfl⟩,⟨(show AV.slice (.id 7 3) (sk.map CG++[[vs p,vi cs[i].place,vi ((o.res:Nat):Int)]])=.slice (.id 7 3) ((sk++[(⟨p,cs[i].place,(o.res:Nat)⟩:Sk)]).map CG) by rw[At];rfl),rfl⟩,Zr,Zr,Zr,Tv⟩,⟨⟨(show HO.tok 1 ((rs.map Dc).length+([[vi ((o.res:Nat):Int)]]:List (List AV)).length)=.tok 1 (rs++[o.res]).length by simp),rfl⟩,⟨(show HO.tok 3 ((sk.map CG).length+([[vs p,vi cs[i].place,vi ((o.res:Nat):Int)]]:List (List AV)).length)=.tok 3 (sk++[(⟨p,cs[i].place,(o.res:Nat)⟩:Sk)]).length by simp),rfl⟩,Zr,Zr,Zr,Zr,Zr,Zr,Tv⟩,Fh,BV Wk⟩
   refine Xi .pure (Xi _ (Yi (cb yG (qd (EC o.ss o.res) p (FC (gD _ (Az (Ff WK)))))) (cU [(12,vi (o.res:Nat))] [(500,.arr 1 (st.map Bp)),(1000,.cells (srM roots C A o.ss dec 500 st.length)),(1001,.tok 6 o.ss.infs.length),(1002,.tok 1 o.ss.drv.length),(1003,.map FU (F0 0 o.ss.infs)),(1004,.dead)] Z1 Z6 ?_)))
   have eA:=(YO (rec:=Do x roots n) (x:=x) (p:=p) (n0:=n0) (st:=st) (rs:=rs) (sk:=sk) n3 Zd h6.2 Kz RI ho);rw[Aj (by rw[bo];decide),Aj (by rw[OD];decide)]at eA;have eR:R=⟨o.res,false,o.ss,dec,st⟩:=by rw[<-j2];rw[eA];exact fQ yG
   exact Xi _ (Yi (.refl _) (OR (gw.trans eR)))
  have n3:=DP h3;refine Xi (BJ n0) (Yi (Yi (show(0:Int)<=0 by decide) rfl) (Yi rfl (yN (Xi (.gen de 0) (Yi rfl (A9.imp (s91 x roots C A S dec st p n0 rs V hx hr j3 hinf0 j4 ch (hnq n0 (Ab ..)) (hnp n0 (Ab ..)) yM yO yP) ?_))))));intro v49 g49 q49;have Aez:=q49.1;have AeA:=q49.2;subst Aez;subst AeA;have hj:¬i<cs.length:=by have q:=h3;rw[Lm]at q;omega
  have eR:R=⟨(D7 x p n0 rs S).1,false,(D7 x p n0 rs S).2,dec,st⟩:=by rw[<-j2];exact l8 hj
  exact Xi _ (Yi (.refl _) (OR (gw.trans eR)))
 exact absurd Ok hC2
theorem AeV(hL:Lvl x roots C A n dec p n0 l V cs)(hs:Mh x roots s)(K4:st.length=dec.length)(TB:A9 Tryz.prog 186 [.ref 1000 0] (As (Kh roots C A s dec st) Ag) fun r h'=>r=.tup [vs p,sl BJ (n0::l)]/\h'=As (Kh roots C A s dec st) Ag)(y6:cs=[])(hC2:∀a,(Value.string p,a)∉C)(hR:Eh (Do x roots n) x p (n0::l) n0 dec st cs s [] []=R)(gw:O=R) :
  A9 Tryz.prog 137 [.ref 1000 0] (As (Kh roots C A s dec st) Ag) (df roots C A O):=by
 obtain⟨hx,hr,hdl,hcl,hcs,hnl,hnq,hnp,hex,hcx,hcq,hcp_,hcr,hcs_,hkey,hinf0,⟨yM,yO,yP⟩,ih⟩:=hL;have hcm:∀(i:Nat) (h:i<cs.length),cs[i]∈B7 x p:=fun i h=>by rw[<-hcs];exact Ao h
 have xF:∀(i:Nat) (h:i<cs.length),B8 (AS (dec++[cs[i]])):=fun i h=>by unfold B8 AS;rw[Lm,Ac];simp;omega
 clear hcs
 refine Cz (No ⟨[9],[(6,1),(7,3),(145,1)],[],[],[],[],[],[],[],[(300001,500091000),(300026,500091000),(300029,500091000)],[1,2,5,10,11,13,14,15,16,17,19,21,22,23,24,25,26,28,29,31,32,33,35]⟩) [(1000,1000),(1001,1001),(1002,1002),(1003,1003),(1004,1004),(500,2000)] rfl C3 hm rfl Tryz.func137 Wk rfl (Nz rfl) Wk rfl (Yi (show st.length=(st.map Bp).length by simp) (cU [(0,.ref 1000 0)] [(500,.arr 1 (st.map Bp)),(1000,.cells (srM roots C A s dec 500 st.length)),(1001,.tok 6 s.infs.length),(1002,.tok 1 s.drv.length),(1003,.map FU (F0 0 s.infs)),(1004,.dead)] Z1 Z6 (Xi (.gen de 0) (Yi rfl (A9.imp TB ?_)))));intro v1 g1 q1;have rZ:=q1.1;have r4:=q1.2;subst rZ;subst r4;refine cU [(0,.ref 1000 0),(4,vs p),(5,sl BJ (n0::l))] [(500,.arr 1 (st.map Bp)),(1000,.cells (srM roots C A s dec 500 st.length)),(1001,.tok 6 s.infs.length),(1002,.tok 1 s.drv.length),(1003,.map FU (F0 0 s.infs)),(1004,.dead)] Z3 Z6 (Yi (fun h2=>?_) (fun h2=>?_))
 .exact absurd h2 (by simp;omega)
 refine cU [(0,.ref 1000 0),(4,vs p),(5,sl BJ (n0::l)),(6,.slice (.id 6 1) [])] [(6,.tok 1 0),(500,.arr 1 (st.map Bp)),(1000,.cells (srM roots C A s dec 500 st.length)),(1001,.tok 6 s.infs.length),(1002,.tok 1 s.drv.length),(1003,.map FU (F0 0 s.infs)),(1004,.dead)] Z4 Z7 (Yi (fun a ha=>?_) (fun Ok=>?_))
 .exact absurd ha (hC2 a)
 refine Xi {q:Nat×SS×List Nat×List Sk // q.1<=cs.length/\Eh (Do x roots n) x p (n0::l) n0 dec st (cs.drop q.1) q.2.1 q.2.2.1 q.2.2.2=R/\Mh x roots q.2.1/\(∀r∈q.2.2.1,r<q.2.1.drv.length)/\q.2.2.1.length<=q.1/\q.2.2.2.length<=q.1} (Xi (fun q=>⟨[(0,.ref 1000 0),(4,vs p),(5,sl BJ (n0::l)),(6,.slice (.id 6 1) (q.1.2.2.1.map Dc)),(7,.slice (.id 7 3) (q.1.2.2.2.map CG)),(32,nzA),(33,vi 0),(34,vi q.1.1)],[(6,.tok 1 q.1.2.2.1.length),(7,.tok 3 q.1.2.2.2.length),(500,.arr 1 (st.map Bp)),(1000,.cells (srM roots C A q.1.2.1 dec 500 st.length)),(1001,.tok 6 q.1.2.1.infs.length),(1002,.tok 1 q.1.2.1.drv.length),(1003,.map FU (F0 0 q.1.2.1.infs)),(1004,.dead)],Ag⟩) (Xi (fun q=>cs.length-q.1.1) (Yi (Xi ⟨(0,s,[],[]),AB _,hR,hs,fun r h=>(by cases h),Am _,Am _⟩ ?_) ?_)))
 .exact⟨Z8,Z8,Fh,BV Wk⟩
 intro⟨⟨i,S,rs,sk⟩,j1,j2,j3,j4,j5,j6⟩;have j5:rs.length<=i:=j5;have hw:=j3.dl;have TR:∀t∈S.drv,lz t:=fun t ht=>by have q:=j3.der.few hx hr t ht;exact⟨FC q,q.2⟩
 refine Yi (fun h3=>?_) (fun h3=>?_)
 .have h3:(i:Int)<(0:Int):=h3;exact absurd h3 (by have q:=j1;rw[y6,Au]at q;omega)
 have h3:¬((i:Int)<(0:Int)):=h3;refine Xi (BJ n0) (Yi (Yi (show(0:Int)<=0 by decide) rfl) (Yi rfl (yN (Xi (.gen de 0) (Yi rfl (A9.imp (s91 x roots C A S dec st p n0 rs V hx hr j3 hinf0 j4 ch (hnq n0 (Ab ..)) (hnp n0 (Ab ..)) yM yO yP) ?_))))));intro v4 g4 q4;have q4a:=q4.1;have q4b:=q4.2;subst q4a;subst q4b;have hj:¬i<cs.length:=by rw[y6];simp
 have eR:R=⟨(D7 x p n0 rs S).1,false,(D7 x p n0 rs S).2,dec,st⟩:=by rw[<-j2];exact l8 hj
 exact Xi _ (Yi (.refl _) (OR (gw.trans eR)))
theorem AeX(N:List Nd)(O:KW)(hN:N=[])(TB:A9 Tryz.prog 186 [.ref 1000 0] (As (Kh roots C A s dec st) Ag) fun r h'=>r=.tup [vs p,sl BJ N]/\h'=As (Kh roots C A s dec st) Ag)(hO:O=⟨0,true,s,dec,st⟩) :
  A9 Tryz.prog 137 [.ref 1000 0] (As (Kh roots C A s dec st) Ag) (df roots C A O):=by
 refine Cz (No ⟨[],[],[],[],[],[],[],[],[],[(300001,500091000)],[1,2,5,10,11,13,14,15,16,17,19,21,22,23,25,28,29,31,32,33,35]⟩) [(1000,1000),(1001,1001),(1002,1002),(1003,1003),(1004,1004),(500,2000)] rfl C3 hm rfl Tryz.func137 Wk rfl (Nz rfl) Wk rfl (Yi (show st.length=(st.map Bp).length by simp) (cU [(0,.ref 1000 0)] [(500,.arr 1 (st.map Bp)),(1000,.cells (srM roots C A s dec 500 st.length)),(1001,.tok 6 s.infs.length),(1002,.tok 1 s.drv.length),(1003,.map FU (F0 0 s.infs)),(1004,.dead)] Z1 Z6 (Xi (.gen de 0) (Yi rfl (A9.imp TB ?_)))));intro v1 g1 q1;have rZ:=q1.1;have r4:=q1.2;subst rZ;subst r4;refine cU [(0,.ref 1000 0),(4,vs p),(5,sl BJ N)] [(500,.arr 1 (st.map Bp)),(1000,.cells (srM roots C A s dec 500 st.length)),(1001,.tok 6 s.infs.length),(1002,.tok 1 s.drv.length),(1003,.map FU (F0 0 s.infs)),(1004,.dead)] Z3 Z6 (Yi (fun h2=>?_) (fun h2=>?_))
 .exact Xi _ (Yi (.refl _) (OR (st:=st) hO))
 exact absurd (by rw[hN];rfl) h2
section
variable {x:List Rl}{roots:List Rq}{p:ByteArray}
theorem Jj:∀(l:List Nat) {k:Nat} {s:SS},s.infs.Nodup->(Cw p l k s).2.infs.Nodup
 | [],_,_,h=>h
 |r::l,k,s,h=>by
  unfold Cw;split
  .exact h
  split
  .exact Jj l h
  split
  .exact Jj l h
  .exact Jj l (I2 h)
theorem Mj{needs:List Nd}{n0:Nd}{dec:List Cd}{st:List (List Sk)}{rec:List Cd->SS->List (List Sk)->KW}(Zh:∀c s st,s.infs.Nodup->(rec (dec++[c]) s st).ss.infs.Nodup) :
  ∀(cs:List Cd) {s:SS} {rs:List Nat} {sk:List Sk},s.infs.Nodup->(Eh rec x p needs n0 dec st cs s rs sk).ss.infs.Nodup
 | [],s,rs,sk,h=>Jj _ (I2 (I2 h))
 |c::cs,s,rs,sk,h=>by
  have lE:∀(s' : SS) (k:Nat),s'.infs.Nodup->(Jq rec x p needs n0 dec st c cs rs sk k s').ss.infs.Nodup:=fun s' k h'=>by
   unfold Jq;split
   .exact h'
   .exact Mj Zh cs h'
  rw[Gm];split
  .exact h
  cases needs.find? fun n=>!has n.rq.set c.place with
  |some n=>exact Mj Zh cs (I2 h)
  |none=>
   dsimp only;cases Pb s.drv (AS (dec++[c]))with
   |some k=>exact lE s k h
   |none=>
    dsimp only;cases En dec c with
    |some n=>exact lE _ _ (I2 h)
    |none=>
     dsimp only;have h2:=Zh c s (st++[sk]) h;split
     .exact h2
     split
     .exact h2
     .exact lE _ _ h2
theorem Rf:∀(n:Nat) {dec:List Cd} {s:SS} {st:List (List Sk)},s.infs.Nodup->(Do x roots n dec s st).ss.infs.Nodup
 |0,_,_,_,h=>h
 |n+1,dec,s,st,h=>by
  unfold Do;cases (Fb roots dec).2 with
  |nil=>exact h
  |cons n0 l=>exact Mj (fun c s st h=>Rf n h) _ h
structure Env(x:List Rl)(roots:List Rq)(C A:List (Value×AV)):Prop where
 hx:A0 x=0
 hr:BH roots=0
 fx:∀r∈x,Ey r
 fr:∀q∈roots,JH q
 c1:∀(p:ByteArray) (a:AV),(Value.string p,a)∈C->a=sl AY (B7 x p)
 c2:∀p:ByteArray,(∀a,(Value.string p,a)∉C)->B7 x p=[]
 c3:∀p:ByteArray,B7 x p=[]->∀a,(Value.string p,a)∉C
 av:∀p:ByteArray,∃V,HV x A p V
theorem uQ{dec:List Cd}(h:∀c∈dec,c.rel.reqs.length<=16):((dec.map fun c=>c.rel.reqs).flatten).length<=16*dec.length:=by
 induction dec with
 |nil=>simp
 |cons c dec ih=>
  rw[AJ,BE,Ac,Al]
  have:=h c (Ab ..)
  have:=ih fun d hd=>h d (Ah _ hd)
  omega
theorem wk{r:Rl}(h:Uh r):0<=plc r.ver/\plc r.ver<1000000:=by rw[h.plc];exact KL h.val
theorem j9(dec:List Cd):(Fb roots dec).2.length<=(DR roots dec).length:=by
 rw[Vy];cases L0 (IS roots dec) (AS dec)with
 |none=>simp
 |some q=>exact Bx _ _
theorem s45{C A:List (Value×AV)}(hE:Env x roots C A)(uV:H64 roots C A):∀(n:Nat) {dec:List Cd} {s:SS} {st:List (List Sk)},EI x dec->Iy roots dec->Mh x roots s->s.full=false->Gn x dec<n->st.length=dec.length ->
  A9 Tryz.prog 137 [.ref 1000 0] (As (Kh roots C A s dec st) Ag) (df roots C A (Do x roots n dec s st))
 |0,_,_,_,_,_,_,_,h,_=>by omega
 |n+1,dec,s,st,hd,jI,hs,hf,hn,K4=>by
  have hx:=hE.hx;have hr:=hE.hr;have tw:=My hx;have hdl:=aH hd;have Adn:dec.length<=256:=by have:=tw.1;omega
  have hrl:∀c∈dec,c.rel.reqs.length<=16:=fun c hc=>tw.2 _ (hd.cand c hc).1;have TB:=uV s dec st ch fun c hc=>AK (hrl c hc) Cl;generalize hO:Do x roots (n+1) dec s st=O;obtain⟨N,hN⟩:∃N,N=(Fb roots dec).2:=⟨_,rfl⟩;obtain⟨q,hq⟩:∃q,q=(Fb roots dec).1:=⟨_,rfl⟩;rw[<-hN,<-hq]at TB;have hNl:N.length<=10000:=by
   have h1:=j9 (roots:=roots) dec;have h2:(DR roots dec).length=(IS roots dec).length:=by rw[<-N8,Lm]
   have h3:=uQ hrl;have h4:=Q0 hr;rw[<-hN]at h1;unfold IS at h2;rw[Ac]at h2;omega
  cases hNc:N with
  |nil=>
   rw[hNc]at hN TB;refine AeX roots C A s dec st q [] O rfl TB ?_;rw[<-hO];unfold Do;rw[<-hN]
  |cons n0 l=>
   rw[hNc]at hN TB;have hNx:=MB hN.symm;rw[<-hq]at hNx;have TC:∀nd∈n0::l,nd∈DR roots dec:=fun nd h=>((hNx.mem nd).1 h).1;have G1:=(CF hx).1;have few:∀{E:List Cd},EI x E->∀nd∈DR roots E,B8 nd.rq.set/\Bc (nd.place+1):=fun hE' nd h=>by
    rcases NG h with ⟨k,r,h1,rfl⟩|⟨c,hc,k,r,h1,rfl⟩
    .exact⟨(hE.fr r (Az h1)).1,by unfold Bc;show -9223372036854775808<=(0:Int)+1/\(0:Int)+1<9223372036854775808;decide⟩
    .have h2:=hE'.cand c hc;have h3:=wk (G1 _ h2.1);rw[<-h2.2.2]at h3;exact⟨((hE.fx _ h2.1).2 r (Az h1)).1,by unfold Bc;show _<=c.place+1/\c.place+1<_;omega⟩
   have tu:∀c∈B7 x q,EI x (dec++[c])/\c.rel.path=q/\c.rel∈x:=fun c hc=>by
    obtain⟨c1,c2⟩:=J7 hc;exact⟨hd.snoc c2 (by rw[c1];exact hNx.undone),c1,c2.1⟩
   have FI:∀(i:Nat) (h:i<(B7 x q).length),(B7 x q)[i]∈B7 x q:=fun i h=>Ao h;obtain⟨V,hV⟩:=hE.av q
   have hL:Lvl x roots C A n dec q n0 l V (B7 x q):={
    hx:=hx
    hr:=hr
    hdl:=Adn
    hcl:=AK (Xs x q) tw.1
    hcs:=rfl
    hnl:=by rw[hNc]at hNl;omega
    hnq:=fun nd h=>(few hd nd (TC nd h)).1
    hnp:=fun nd h=>(few hd nd (TC nd h)).2
    hex:=fun i h nd hm hh=>by
     obtain⟨a,b,_⟩:=tu _ (FI i h);exact⟨(QM hx hr a (Pp (TC nd hm)) ⟨(B7 x q)[i],by simp,b.trans ((hNx.mem nd).1 hm).2.symm,hh⟩).1,trivial⟩
    hcx:=fun i h nc hc=>by
     obtain⟨a,b,_⟩:=tu _ (FI i h);obtain⟨m1,m2⟩:=Mo hc;exact⟨(QM hx hr a (N9 m1) m2).1,trivial⟩
    hcq:=fun i h nc hm=>(few (tu _ (FI i h)).1 nc (N9 hm)).1
    hcp_:=fun i h nc hm=>(few (tu _ (FI i h)).1 nc (N9 hm)).2
    hcr:=fun i h=>by have:=tw.2 _ (tu _ (FI i h)).2.2;omega
    hcs_:=fun i h r hm=>((hE.fx _ (tu _ (FI i h)).2.2).2 r hm).1
    hkey:=fun i h=>by
     have b:=(tu _ (FI i h)).2.1;unfold AS;rw[At,At];show _=_++[[vs (B7 x q)[i].rel.path,vi (B7 x q)[i].rel.ver.a,vi (B7 x q)[i].rel.ver.b,vi (B7 x q)[i].rel.ver.c]];rw[b]
    hinf0:=(TT hx hr hd (TC n0 (Ab ..)) (.inl (by
     rw[((hNx.mem n0).1 (Ab ..)).2];exact IF (by rw[Gu];exact hNx.undone)))).inf
    hV:=hV
    ih:=fun c hc AdH S EB hl hS hSf=>by
     obtain⟨a,b,c3⟩:=tu c hc;obtain⟨k1,k2⟩:=QU.1 AdH;obtain⟨_,c2⟩:=J7 hc;have tt:=jI.snoc hNx b k1 k2;have lq:Gn x (dec++[c])<n:=by have:=UY (dec:=dec) ⟨c2.1,c2.2.1⟩ (by rw[b];exact hNx.undone);omega
     have h1:=s45 hE uV n a tt hS hSf lq (st:=EB) (by rw[hl];simp);have h2:=Si hx hr n a tt hS.der hSf lq (st:=EB);exact⟨h1,⟨h2.der,Rf n hS.nodup⟩,⟨h2.grow.len,fun e1 e2=>((h2.no e1).2.2 e2).1⟩,fun e1=>(h2.no e1).2.1⟩ }
   have hR:Eh (Do x roots n) x q (n0::l) n0 dec st (B7 x q) s [] []=O:=by
    rw[<-hO]
    conv=>rhs;unfold Do
    rw[<-hN,hq]
   by_cases hm:∀a,(Value.string q,a)∉C
   .exact AeV x roots C A n s dec st q n0 l V (B7 x q) O O hL hs K4 TB (hE.c2 q hm) hm hR rfl
   .exact AeU x roots C A n s dec st q n0 l V (B7 x q) O O hL hs K4 TB (hE.c1 q) hm hR rfl
end
theorem AeW{x:List Rl}{roots:List Rq}{C A:List (Value×AV)}(hE:Env x roots C A)(n:Nat){dec:List Cd}{s:SS}{st:List (List Sk)}(h1:EI x dec)(h2:Iy roots dec)(h3:Mh x roots s)(h4:s.full=false)(h5:Gn x dec<n)(h6:st.length=dec.length) :
  A9 Tryz.prog 137 [.ref 1000 0] (As (Kh roots C A s dec st) Ag) (df roots C A (Do x roots n dec s st)):=
 s45 hE (fun s dec st a b=>s64 roots C A s dec st (AK (Q0 hE.hr) Cl) a b) n h1 h2 h3 h4 h5 h6
def El:Bool:=decide (A0 x=0)&&decide (BH roots=0)
theorem s28(ifs:List (List AV))(roots:List Rq)(hx:∀r∈x,Ey r)(hr:∀q∈roots,JH q):PC 135 [.agg (Ic x ifs),sl AW roots] (vb (El x roots)):=by
 refine Ps (pC [2] []) Tryz.func135 rfl (Nz rfl) (yN (Xi .pure (Xi _ (Yi (xo WF x ifs hx) (Yi (fun h1=>?_) (fun h1=>?_))))))
 .refine Xi .pure (Xi _ (Yi (c65 WF roots hr) (Yi (fun h2=>?_) (fun h2=>?_))))
  .exact .of_eq (show vb true=vb (El x roots) by unfold El;rw[h1,h2];rfl)
  exact .of_eq (show vb false=vb (El x roots) by unfold El;rw[Ae h2,Cp])
 exact .of_eq (show vb false=vb (El x roots) by unfold El;rw[Ae h1];rfl)
end Go.Eng
