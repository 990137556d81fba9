/- Lemmas for the claims of this seat, without a condition: part 27 (S8c, S8d, S8e, S11). -/
import Derived.Test.YtddfphmpfnmknaaGreatDoorGA26
set_option maxHeartbeats 16000000
namespace Go.Eng
open Go.Proofs
variable (x:List Rl)(roots:List Rq)(C A:List (Value×AV))(n:Nat)(s:SS)(dec:List Cd)(st:List (List Sk))(p:ByteArray)(n0:Nd)(l:List Nd)(V:AV)(cs:List Cd)(R O:Kx)
theorem cP{α:Type}(o:Option α):(∃x,o=some x)∨o=none:=by
 cases o with
 |none=>exact .inr rfl
 |some x=>exact .inl ⟨x,rfl⟩
theorem wj{T st:List (List Sk)}{sk:List Sk}(h:T=st++[sk]):((T.map Bl).take ((T.length:Int)-1).toNat)=st.map Bl∧((T.length:Int)-1).toNat=st.length:=by
 have e:((T.length:Int)-1).toNat=st.length:=by rw[h,Ad,AG];omega
 refine⟨?_,e⟩;rw[e,h,As,FJ B0,Au B0]
abbrev HV:Prop:=(∀a,(Value.string p,a)∈A→a=V)∧((∀a,(Value.string p,a)∉A)→V=Ce)∧∀h,PC 127 [vs p,str h V] (sl AO (IB p (Ca x p)))
abbrev jm(n:Nd):Prop:=∀d,Eb x roots d (N0 n)=some (Ir n)
structure yK(x:List Rl)(roots:List Rq)(C A:List (Value×AV))(n:Nat)(dec:List Cd)(p:ByteArray)(n0:Nd)(l:List Nd)(V:AV)(cs:List Cd):Prop where
 hx:AN x=0
 hr:Bn roots=0
 hdl:dec.length≤256
 hcl:cs.length≤256
 hcs:cs=BJ x p
 hnl:(n0::l).length<9223372036854775807
 hnq:∀n∈n0::l,Cy n.rq.set
 hnp:∀n∈n0::l,Bc (n.place+1)
 hex:∀(i:Nat) (h:i<cs.length),∀nd∈n0::l,has nd.rq.set cs[i].place=false→jm x roots nd∧True
 hcx:∀(i:Nat) (h:i<cs.length) (nc:Nd),Dc dec cs[i]=some nc→jm x roots nc∧True
 hcq:∀(i:Nat) (h:i<cs.length) (nc:Nd),nc∈QA cs[i]→Cy nc.rq.set
 hcp_:∀(i:Nat) (h:i<cs.length) (nc:Nd),nc∈QA cs[i]→Bc (nc.place+1)
 hcr:∀(i:Nat) (h:i<cs.length),cs[i].rel.reqs.length≤1073741824
 hcs_:∀(i:Nat) (h:i<cs.length),∀q∈cs[i].rel.reqs,Cy q.set
 hkey:∀(i:Nat) (h:i<cs.length),(AD dec).map Ac++[[vs p,vi cs[i].rel.ver.a,vi cs[i].rel.ver.b,vi cs[i].rel.ver.c]]=(AD (dec++[cs[i]])).map Ac
 hinf0:jm x roots n0
 hV:HV x A p V
 ih:∀c∈BJ x p,aK dec (n0::l) c=true→∀(S:SS) (EA : List (List Sk)),EA.length=dec.length+1→Ky x roots S→S.full=false →
  A1 Tryz.prog 65 [.ref 1000 0] (Ak (JW roots C A S (dec++[c]) EA) Af) (bC roots C A (C3 x roots n (dec++[c]) S EA))∧Ky x roots (C3 x roots n (dec++[c]) S EA).ss ∧
  (S.drv.length≤(C3 x roots n (dec++[c]) S EA).ss.drv.length∧((C3 x roots n (dec++[c]) S EA).found=false→(C3 x roots n (dec++[c]) S EA).ss.full=false→(C3 x roots n (dec++[c]) S EA).res<(C3 x roots n (dec++[c]) S EA).ss.drv.length)) ∧
  ((C3 x roots n (dec++[c]) S EA).found=false→(C3 x roots n (dec++[c]) S EA).stack=EA)
theorem Ac9(hL:yK x roots C A n dec p n0 l V cs)(hs:Ky x roots s)(JU:st.length=dec.length)(Ta:A1 Tryz.prog 87 [.ref 1000 0] (Ak (JW roots C A s dec st) Af) fun r h'=>r=.tup [vs p,sl Br (n0::l)]∧h'=Ak (JW roots C A s dec st) Af)(hC1:∀a,(Value.string p,a)∈C→a=sl AU cs)(hC2:¬∀a,(Value.string p,a)∉C)(hR:DX (C3 x roots n) x p (n0::l) n0 dec st cs s [] []=R)(dK:O=R) :
  A1 Tryz.prog 65 [.ref 1000 0] (Ak (JW roots C A s dec st) Af) (bC roots C A O):=by
 obtain⟨hx,hr,hdl,hcl,hcs,hnl,hnq,hnp,hex,hcx,hcq,hcp_,hcr,hcs_,hkey,hinf0,⟨vg,vh,vl⟩,ih⟩:=hL;have hdl:dec.length≤256:=hdl;have hcl:cs.length≤256:=hcl;have JU:st.length=dec.length:=JU;have ZD:∀(i:Nat) (h:i<cs.length),cs[i]∈BJ x p:=fun i h=>by rw[←hcs];exact Aj h
 have tZ:∀(i:Nat) (h:i<cs.length),Cy (AD (dec++[cs[i]])):=fun i h=>by unfold Cy AD;rw[Lm,Ad];simp;omega
 clear hcs
 refine BW (KV ⟨[9],[(6,1),(7,3),(145,1)],[],[],[],[],[],[],[(60,3),(101,3)],[(300001,500091000),(300026,500091000),(300029,500091000)],[1,5,12,15,17,21,23,24,25,26,28,29,31,32,33]⟩) [(1000,1000),(1001,1001),(1002,1002),(1003,1003),(1004,1004),(500,2000)] rfl Co hm rfl Tryz.func65 Wk rfl (Nz rfl) Wk rfl (Yi (show st.length=(st.map Bl).length by simp) (cU [(0,.ref 1000 0)] [(500,.arr 1 (st.map Bl)),(1000,.cells (srM roots C A s dec 500 st.length)),(1001,.tok 6 s.infs.length),(1002,.tok 1 s.drv.length),(1003,.map FY (F3 0 s.infs)),(1004,.dead)] Z1 Z6 (Xi (.gen bB 0) (Yi rfl (A1.imp Ta ?_)))));intro v1 g1 q1;have pz:=q1.1;have pA:=q1.2;subst pz;subst pA;refine Yi (fun h2=>?_) (fun h2=>?_)
 ·have h2:(((n0::l).map Br).length:Int)=(0:Int):=h2;exact absurd h2 (by simp;omega)
 have h2:¬((((n0::l).map Br).length:Int)=(0:Int)):=h2;refine cU [(0,.ref 1000 0),(4,vs p),(5,sl Br (n0::l)),(6,.slice (.id 6 1) [])] [(6,.tok 1 0),(500,.arr 1 (st.map Bl)),(1000,.cells (srM roots C A s dec 500 st.length)),(1001,.tok 6 s.infs.length),(1002,.tok 1 s.drv.length),(1003,.map FY (F3 0 s.infs)),(1004,.dead)] Z4 Z7 (Yi (fun a ha=>?_) (fun Tb=>?_))
 ·have ea:=hC1 a ha;subst ea;refine Xi {q:Nat×SS×List Nat×List Sk // q.1≤cs.length∧DX (C3 x roots n) x p (n0::l) n0 dec st (cs.drop q.1) q.2.1 q.2.2.1 q.2.2.2=R∧Ky x roots q.2.1∧(∀r∈q.2.2.1,r<q.2.1.drv.length)∧q.2.2.1.length≤q.1∧q.2.2.2.length≤q.1} (Xi (fun q=>⟨[(0,.ref 1000 0),(4,vs p),(5,sl Br (n0::l)),(6,.slice (.id 6 1) (q.1.2.2.1.map CP)),(7,.slice (.id 7 3) (q.1.2.2.2.map Cv)),(32,sl AU cs),(33,vi (cs.map AU).length),(34,vi q.1.1)],[(6,.tok 1 q.1.2.2.1.length),(7,.tok 3 q.1.2.2.2.length),(500,.arr 1 (st.map Bl)),(1000,.cells (srM roots C A q.1.2.1 dec 500 st.length)),(1001,.tok 6 q.1.2.1.infs.length),(1002,.tok 1 q.1.2.1.drv.length),(1003,.map FY (F3 0 q.1.2.1.infs)),(1004,.dead)],Af⟩) (Xi (fun q=>cs.length-q.1.1) (Yi (Xi ⟨(0,s,[],[]),AA _,hR,hs,fun r h=>(by cases h),Ao _,Ao _⟩ ?_) ?_)))
  ·exact⟨Z8,Z8,Fh,Bo Wk⟩
  intro⟨⟨i,S,rs,sk⟩,j1,j2,j3,j4,j5,j6⟩;have j1:i≤cs.length:=j1;have j2:DX (C3 x roots n) x p (n0::l) n0 dec st (cs.drop i) S rs sk=R:=j2;have j3:Ky x roots S:=j3;have j4:∀r∈rs,r<S.drv.length:=j4;have j5:rs.length≤i:=j5;have j6:sk.length≤i:=j6;have hw:=j3.dl;have kG:∀t∈S.drv,jk t:=fun t ht=>by have q:=j3.der.few hx hr t ht;exact⟨FF q,q.2⟩
  refine Yi (fun h3=>?_) (fun h3=>?_)
  ·have h3:(i:Int)<((cs.map AU).length:Int):=h3;have n3:=GI h3;refine Xi (AU cs[i]) (Yi (Hb n3) (Yi rfl (yN (yN (Yi (fun h4=>?_) (fun h4=>?_))))))
   ·have h4:S.full=true:=h4;have eR:R=⟨0,false,S,dec,st⟩:=by rw[←j2];exact nP n3 h4
    exact Xi _ (Yi (.refl _) (Ow (dK.trans eR)))
   have h4:S.full=false:=h4;have oq:=s86 (fF:=89) (caps:=[.cptr (AU cs[i])]) (fun c hc=>by obtain rfl:=Ar.1 hc;intro h;rfl) (n0::l) (fun n=>!has n.rq.set cs[i].place) (fun n hn=>s87 n cs[i] (hnq n hn)) hnl;refine BF (gJ (fun n=>!has n.rq.set cs[i].place) (n0::l)) (fun h6=>?_) (fun h6=>?_)
   ·refine Ba h6 (fun k86 h6=>Ba h6 (fun nd h6=>?_));rw[h6.1]at oq;refine Xi .pure (Xi _ (Yi oq (cU [(0,.ref 1000 0),(4,vs p),(5,sl Br (n0::l)),(6,.slice (.id 6 1) (rs.map CP)),(7,.slice (.id 7 3) (sk.map Cv)),(9,.ref 9 0),(10,vi (k86:Nat)),(32,sl AU cs),(33,vi (cs.map AU).length),(34,vi i)] [(6,.tok 1 rs.length),(7,.tok 3 sk.length),(9,.ro (AU cs[i])),(500,.arr 1 (st.map Bl)),(1000,.cells (srM roots C A S dec 500 st.length)),(1001,.tok 6 S.infs.length),(1002,.tok 1 S.drv.length),(1003,.map FY (F3 0 S.infs)),(1004,.dead)] Z10 Z9 (Yi (fun _=>?_) (fun hf=>absurd (show(0:Int)≤((k86:Nat):Int) by omega) hf)))));refine Xi (Br nd) (Yi (Yi (show(0:Int)≤((k86:Nat):Int) by omega) (CR h6.2.1)) (Yi rfl (yN ?_)));have r5:=hex i n3 nd (Cw h6.2.2) (by have q:=Fg h6.2.2;simpa using q);obtain⟨b1,b2,b3⟩:=j3.add (r5.1 S.drv)
    change Ky x roots (BH S nd).2 at b1
    change (BH S nd).1<(BH S nd).2.drv.length at b2
    change S.drv.length≤(BH S nd).2.drv.length at b3
    refine Xi (.gen bB 0) (Yi rfl (A1.imp (s88 roots C A S dec st nd hw.1 hw.2.1 j3.nodup (hnq nd (Ay h6.2.1)) (hnp nd (Ay h6.2.1))) ?_));intro v7 g7 q7;have q7a:=q7.1;have q7b:=q7.2;subst q7a;subst q7b;refine Yi (Wt rfl ch Cl) (Yi (Ii i ch) ?_);have ZJ:S.full=false:=by simpa using h4
    have eN:DX (C3 x roots n) x p (n0::l) n0 dec st (cs.drop (i+1)) (BH S nd).2 (rs++[(BH S nd).1]) sk=R:=by rw[←uN n3 ZJ h6.2.2];exact j2
    refine Xi ⟨(i+1,(BH S nd).2,rs++[(BH S nd).1],sk),FX n3,eN,b1,fun r h=>(AY.1 h).elim (fun h=>BD (j4 r h) b3) (fun h=>by rw[Ar.1 h];exact b2),(by rw[Ad];exact ER j5),Nat.le_succ_of_le j6⟩ ?_;exact⟨Dl cs.length i ch,⟨Zr,Zr,Zr,⟨(show AV.slice (.id 6 1) (rs.map CP++[[vi (((BH S nd).1:Nat):Int)]])=.slice (.id 6 1) ((rs++[(BH S nd).1]).map CP) by rw[As];rfl),rfl⟩,Zr,Zr,Zr,Zr,Tv⟩,⟨⟨(show HO.tok 1 ((rs.map CP).length+([[vi (((BH S nd).1:Nat):Int)]]:List (List AV)).length)=.tok 1 (rs++[(BH S nd).1]).length by simp),rfl⟩,Zr,Zr,Zr,Zr,Zr,Zr,Zr,Tv⟩,Fh,Bo Wk⟩
   skip
   rw[h6.1]at oq;refine Xi .pure (Xi _ (Yi oq (cU [(0,.ref 1000 0),(4,vs p),(5,sl Br (n0::l)),(6,.slice (.id 6 1) (rs.map CP)),(7,.slice (.id 7 3) (sk.map Cv)),(9,.ref 9 0),(10,vi (-1)),(32,sl AU cs),(33,vi (cs.map AU).length),(34,vi i)] [(6,.tok 1 rs.length),(7,.tok 3 sk.length),(9,.ro (AU cs[i])),(500,.arr 1 (st.map Bl)),(1000,.cells (srM roots C A S dec 500 st.length)),(1001,.tok 6 S.infs.length),(1002,.tok 1 S.drv.length),(1003,.map FY (F3 0 S.infs)),(1004,.dead)] Z10 Z9 (Yi (fun h=>absurd h Cl) (fun _=>?_)))));refine Xi _ (Xi _ (Yi Wk (Yi (rA (AD dec) (by unfold Cy AD;rw[Lm];omega)) (yN ?_))));have YO:Cf 4 [[vs p,vi cs[i].rel.ver.a,vi cs[i].rel.ver.b,vi cs[i].rel.ver.c]]∧((AD dec).map Ac).length=((AD dec).map Ac).length∧(((AD dec).map Ac).length+([[vs p,vi cs[i].rel.ver.a,vi cs[i].rel.ver.b,vi cs[i].rel.ver.c]]:List (List AV)).length)*40≤140737488355328∧((AD dec).map Ac).length+([[vs p,vi cs[i].rel.ver.a,vi cs[i].rel.ver.b,vi cs[i].rel.ver.c]]:List (List AV)).length≤9223372036854775807:=⟨⟨rfl,trivial⟩,rfl,(by simp only[Lm,Av,Ax];omega),(by simp only[Lm,Av,Ax];omega)⟩;refine Yi YO (Yi Wk (cU [(0,.ref 1000 0),(4,vs p),(5,sl Br (n0::l)),(6,.slice (.id 6 1) (rs.map CP)),(7,.slice (.id 7 3) (sk.map Cv)),(9,.ref 9 0),(11,.slice (.id 16000 4) ((AD (dec++[cs[i]])).map Ac)),(32,sl AU cs),(33,vi (cs.map AU).length),(34,vi i)] [(6,.tok 1 rs.length),(7,.tok 3 sk.length),(9,.ro (AU cs[i])),(500,.arr 1 (st.map Bl)),(1000,.cells (srM roots C A S dec 500 st.length)),(1001,.tok 6 S.infs.length),(1002,.tok 1 S.drv.length),(1003,.map FY (F3 0 S.infs)),(1004,.dead),(16000,.tok 4 ((AD (dec++[cs[i]])).map Ac).length)] ⟨Zr,Zr,Zr,Zr,Zr,Zr,⟨(show(.slice (.id 16000 4) (((AD dec).map Ac)++[[vs p,vi cs[i].rel.ver.a,vi cs[i].rel.ver.b,vi cs[i].rel.ver.c]]):AV)=.slice (.id 16000 4) ((AD (dec++[cs[i]])).map Ac) by rw[hkey i n3]),rfl⟩,Zr,Zr,Zr,Tv⟩ ⟨Zr,Zr,Zr,Zr,Zr,Zr,Zr,Zr,Zr,⟨(show(.tok 4 (((AD dec).map Ac).length+([[vs p,vi cs[i].rel.ver.a,vi cs[i].rel.ver.b,vi cs[i].rel.ver.c]]:List (List AV)).length):HO)=.tok 4 ((AD (dec++[cs[i]])).map Ac).length by rw[←hkey i n3,Ad]),rfl⟩,Tv⟩ ?_))
   have ot:=s89 roots C A S dec st (AD (dec++[cs[i]])) hw.2.2 kG (tZ i n3);refine BF (cP (OG S.drv (AD (dec++[cs[i]])))) (fun IW=>?_) (fun IW=>?_)
   ·refine Ba IW (fun ke IW=>?_);have eV:X1 S.drv (AD (dec++[cs[i]]))=.tup [vi (ke:Nat),vb true]:=by unfold X1;rw[IW];rfl
    rw[eV]at ot;refine Xi (.gen bB 0) (Yi rfl (A1.imp ot ?_));intro v12 g12 py;have sU:=py.1;have sV:=py.2;subst sU;subst sV;refine yN ?_;have Ye:=s69 roots C A S dec st cs[i] ch (hcr i n3) (hcs_ i n3);refine BF (cP (Dc dec cs[i])) (fun QU=>?_) (fun QU=>?_)
    ·refine Ba QU (fun nc QU=>?_);have eW:rE (Dc dec cs[i])=.tup [.agg (Br nc),vb true]:=by rw[QU];rfl
     rw[eW]at Ye;refine Xi (.gen bB 0) (Yi rfl (A1.imp Ye ?_));intro v14 g14 wO;have sW:=wO.1;have sX:=wO.2;subst sW;subst sX;refine yN (cU [(0,.ref 1000 0),(4,vs p),(5,sl Br (n0::l)),(6,.slice (.id 6 1) (rs.map CP)),(7,.slice (.id 7 3) (sk.map Cv)),(9,.ref 9 0),(11,.slice (.id 16000 4) ((AD (dec++[cs[i]])).map Ac)),(12,vi (ke:Nat)),(13,vb true),(14,.ref 14 0),(15,vb true),(32,sl AU cs),(33,vi (cs.map AU).length),(34,vi i)] [(6,.tok 1 rs.length),(7,.tok 3 sk.length),(9,.ro (AU cs[i])),(14,.cells (Br nc)),(500,.arr 1 (st.map Bl)),(1000,.cells (srM roots C A S dec 500 st.length)),(1001,.tok 6 S.infs.length),(1002,.tok 1 S.drv.length),(1003,.map FY (F3 0 S.infs)),(1004,.dead),(16000,.tok 4 ((AD (dec++[cs[i]])).map Ac).length)] ⟨Zr,Zr,Zr,Zr,Zr,Zr,Zr,Zr,Zr,Zr,Zr,Zr,Zr,Zr,Tv⟩ Z11 (cU [(0,.ref 1000 0),(4,vs p),(5,sl Br (n0::l)),(6,.slice (.id 6 1) (rs.map CP)),(7,.slice (.id 7 3) (sk.map Cv)),(9,.ref 9 0),(12,vi (ke:Nat)),(32,sl AU cs),(33,vi (cs.map AU).length),(34,vi i)] [(6,.tok 1 rs.length),(7,.tok 3 sk.length),(9,.ro (AU cs[i])),(500,.arr 1 (st.map Bl)),(1000,.cells (srM roots C A S dec 500 st.length)),(1001,.tok 6 S.infs.length),(1002,.tok 1 S.drv.length),(1003,.map FY (F3 0 S.infs)),(1004,.dead)] Z10 Z9 (Xi (Dg (D7 S ke)) (Yi (Yi (show(0:Int)≤((ke:Nat):Int) by omega) (CR (EY (Ls IW).1))) (Yi rfl ?_)))));have ZJ:S.full=false:=by simpa using h4
     have VU:ke<S.drv.length:=(Ls IW).1;have dS:=j3.der.few hx hr;refine BF (Bt (Dm (D7 S ke) p)) (fun Yc=>?_) (fun Yc=>?_)
     ·have Yc:(Dm (D7 S ke) p)=true:=Yc;refine Xi .pure (Xi _ (Yi (cb Yc (nf (D7 S ke) p (FF (dS _ (Ay (EY VU)))))) (cU [(0,.ref 1000 0),(4,vs p),(5,sl Br (n0::l)),(6,.slice (.id 6 1) (rs.map CP)),(7,.slice (.id 7 3) (sk.map Cv)),(9,.ref 9 0),(12,vi (ke:Nat)),(32,sl AU cs),(33,vi (cs.map AU).length),(34,vi i)] [(6,.tok 1 rs.length),(7,.tok 3 sk.length),(9,.ro (AU cs[i])),(500,.arr 1 (st.map Bl)),(1000,.cells (srM roots C A S dec 500 st.length)),(1001,.tok 6 S.infs.length),(1002,.tok 1 S.drv.length),(1003,.map FY (F3 0 S.infs)),(1004,.dead)] Z10 Z9 (Yi (Wt rfl ch Cl) (Yi (Wt rfl ch Cl) (Yi (Ii i ch) ?_))))));have eA:=(XX (rec:=C3 x roots n) (x:=x) (p:=p) (n0:=n0) (st:=st) (rs:=rs) (sk:=sk) n3 ZJ h6.2 IW);have eN:DX (C3 x roots n) x p (n0::l) n0 dec st (cs.drop (i+1)) S (rs++[ke]) (sk++[(⟨p,cs[i].place,(ke:Nat)⟩:Sk)])=R:=by rw[←XN (c:=cs[i]) Yc,←eA];exact j2
      refine Xi ⟨(i+1,S,rs++[ke],sk++[(⟨p,cs[i].place,(ke:Nat)⟩:Sk)]),FX n3,eN,j3,fun r h=>(AY.1 h).elim ((fun r h=>j4 r h) r) (fun h=>by rw[Ar.1 h];exact VU),(by rw[Ad];exact ER j5),(by rw[Ad];exact ER j6)⟩ ?_;exact⟨Dl cs.length i ch,⟨Zr,Zr,Zr,⟨(show AV.slice (.id 6 1) (rs.map CP++[[vi ((ke:Nat):Int)]])=.slice (.id 6 1) ((rs++[ke]).map CP) by rw[As];rfl),rfl⟩,⟨(show AV.slice (.id 7 3) (sk.map Cv++[[vs p,vi cs[i].place,vi ((ke:Nat):Int)]])=.slice (.id 7 3) ((sk++[(⟨p,cs[i].place,(ke:Nat)⟩:Sk)]).map Cv) by rw[As];rfl),rfl⟩,Zr,Zr,Zr,Tv⟩,⟨⟨(show HO.tok 1 ((rs.map CP).length+([[vi ((ke:Nat):Int)]]:List (List AV)).length)=.tok 1 (rs++[ke]).length by simp),rfl⟩,⟨(show HO.tok 3 ((sk.map Cv).length+([[vs p,vi cs[i].place,vi ((ke:Nat):Int)]]:List (List AV)).length)=.tok 3 (sk++[(⟨p,cs[i].place,(ke:Nat)⟩:Sk)]).length by simp),rfl⟩,Zr,Zr,Zr,Zr,Zr,Zr,Tv⟩,Fh,Bo Wk⟩
     have Yc:(Dm (D7 S ke) p)=false:=Yc;refine Xi .pure (Xi _ (Yi (cb Yc (nf (D7 S ke) p (FF (dS _ (Ay (EY VU)))))) (cU [(12,vi (ke:Nat))] [(500,.arr 1 (st.map Bl)),(1000,.cells (srM roots C A S dec 500 st.length)),(1001,.tok 6 S.infs.length),(1002,.tok 1 S.drv.length),(1003,.map FY (F3 0 S.infs)),(1004,.dead)] Z1 Z6 ?_)))
     have eA:=(XX (rec:=C3 x roots n) (x:=x) (p:=p) (n0:=n0) (st:=st) (rs:=rs) (sk:=sk) n3 ZJ h6.2 IW);have eR:R=⟨ke,false,S,dec,st⟩:=by rw[←j2];rw[eA];exact dv Yc
     exact Xi _ (Yi (.refl _) (Ow (dK.trans eR)))
    skip
    have eW:rE (Dc dec cs[i])=.tup [.agg [vs ⟨#[]⟩,Ce,vs ⟨#[]⟩,vi 0,vi 0],vb false]:=by rw[QU];rfl
    rw[eW]at Ye;refine Xi (.gen bB 0) (Yi rfl (A1.imp Ye ?_));intro v20 g20 q20;have Abl:=q20.1;have Abm:=q20.2;subst Abl;subst Abm;refine yN (cU [(0,.ref 1000 0),(4,vs p),(5,sl Br (n0::l)),(6,.slice (.id 6 1) (rs.map CP)),(7,.slice (.id 7 3) (sk.map Cv)),(9,.ref 9 0),(11,.slice (.id 16000 4) ((AD (dec++[cs[i]])).map Ac)),(12,vi (ke:Nat)),(13,vb true),(14,.ref 14 0),(15,vb false),(32,sl AU cs),(33,vi (cs.map AU).length),(34,vi i)] [(6,.tok 1 rs.length),(7,.tok 3 sk.length),(9,.ro (AU cs[i])),(14,.cells [vs ⟨#[]⟩,Ce,vs ⟨#[]⟩,vi 0,vi 0]),(500,.arr 1 (st.map Bl)),(1000,.cells (srM roots C A S dec 500 st.length)),(1001,.tok 6 S.infs.length),(1002,.tok 1 S.drv.length),(1003,.map FY (F3 0 S.infs)),(1004,.dead),(16000,.tok 4 ((AD (dec++[cs[i]])).map Ac).length)] ⟨Zr,Zr,Zr,Zr,Zr,Zr,Zr,Zr,Zr,Zr,Zr,Zr,Zr,Zr,Tv⟩ Z11 (cU [(0,.ref 1000 0),(4,vs p),(5,sl Br (n0::l)),(6,.slice (.id 6 1) (rs.map CP)),(7,.slice (.id 7 3) (sk.map Cv)),(9,.ref 9 0),(12,vi (ke:Nat)),(32,sl AU cs),(33,vi (cs.map AU).length),(34,vi i)] [(6,.tok 1 rs.length),(7,.tok 3 sk.length),(9,.ro (AU cs[i])),(500,.arr 1 (st.map Bl)),(1000,.cells (srM roots C A S dec 500 st.length)),(1001,.tok 6 S.infs.length),(1002,.tok 1 S.drv.length),(1003,.map FY (F3 0 S.infs)),(1004,.dead)] Z10 Z9 (Xi (Dg (D7 S ke)) (Yi (Yi (show(0:Int)≤((ke:Nat):Int) by omega) (CR (EY (Ls IW).1))) (Yi rfl ?_)))));have ZJ:S.full=false:=by simpa using h4
    have VU:ke<S.drv.length:=(Ls IW).1;have dS:=j3.der.few hx hr;refine BF (Bt (Dm (D7 S ke) p)) (fun n8=>?_) (fun n8=>?_)
    ·have n8:(Dm (D7 S ke) p)=true:=n8;refine Xi .pure (Xi _ (Yi (cb n8 (nf (D7 S ke) p (FF (dS _ (Ay (EY VU)))))) (cU [(0,.ref 1000 0),(4,vs p),(5,sl Br (n0::l)),(6,.slice (.id 6 1) (rs.map CP)),(7,.slice (.id 7 3) (sk.map Cv)),(9,.ref 9 0),(12,vi (ke:Nat)),(32,sl AU cs),(33,vi (cs.map AU).length),(34,vi i)] [(6,.tok 1 rs.length),(7,.tok 3 sk.length),(9,.ro (AU cs[i])),(500,.arr 1 (st.map Bl)),(1000,.cells (srM roots C A S dec 500 st.length)),(1001,.tok 6 S.infs.length),(1002,.tok 1 S.drv.length),(1003,.map FY (F3 0 S.infs)),(1004,.dead)] Z10 Z9 (Yi (Wt rfl ch Cl) (Yi (Wt rfl ch Cl) (Yi (Ii i ch) ?_))))));have eA:=(XX (rec:=C3 x roots n) (x:=x) (p:=p) (n0:=n0) (st:=st) (rs:=rs) (sk:=sk) n3 ZJ h6.2 IW);have eN:DX (C3 x roots n) x p (n0::l) n0 dec st (cs.drop (i+1)) S (rs++[ke]) (sk++[(⟨p,cs[i].place,(ke:Nat)⟩:Sk)])=R:=by rw[←XN (c:=cs[i]) n8,←eA];exact j2
     refine Xi ⟨(i+1,S,rs++[ke],sk++[(⟨p,cs[i].place,(ke:Nat)⟩:Sk)]),FX n3,eN,j3,fun r h=>(AY.1 h).elim ((fun r h=>j4 r h) r) (fun h=>by rw[Ar.1 h];exact VU),(by rw[Ad];exact ER j5),(by rw[Ad];exact ER j6)⟩ ?_;exact⟨Dl cs.length i ch,⟨Zr,Zr,Zr,⟨(show AV.slice (.id 6 1) (rs.map CP++[[vi ((ke:Nat):Int)]])=.slice (.id 6 1) ((rs++[ke]).map CP) by rw[As];rfl),rfl⟩,⟨(show AV.slice (.id 7 3) (sk.map Cv++[[vs p,vi cs[i].place,vi ((ke:Nat):Int)]])=.slice (.id 7 3) ((sk++[(⟨p,cs[i].place,(ke:Nat)⟩:Sk)]).map Cv) by rw[As];rfl),rfl⟩,Zr,Zr,Zr,Tv⟩,⟨⟨(show HO.tok 1 ((rs.map CP).length+([[vi ((ke:Nat):Int)]]:List (List AV)).length)=.tok 1 (rs++[ke]).length by simp),rfl⟩,⟨(show HO.tok 3 ((sk.map Cv).length+([[vs p,vi cs[i].place,vi ((ke:Nat):Int)]]:List (List AV)).length)=.tok 3 (sk++[(⟨p,cs[i].place,(ke:Nat)⟩:Sk)]).length by simp),rfl⟩,Zr,Zr,Zr,Zr,Zr,Zr,Tv⟩,Fh,Bo Wk⟩
    have n8:(Dm (D7 S ke) p)=false:=n8;refine Xi .pure (Xi _ (Yi (cb n8 (nf (D7 S ke) p (FF (dS _ (Ay (EY VU)))))) (cU [(12,vi (ke:Nat))] [(500,.arr 1 (st.map Bl)),(1000,.cells (srM roots C A S dec 500 st.length)),(1001,.tok 6 S.infs.length),(1002,.tok 1 S.drv.length),(1003,.map FY (F3 0 S.infs)),(1004,.dead)] Z1 Z6 ?_)))
    have eA:=(XX (rec:=C3 x roots n) (x:=x) (p:=p) (n0:=n0) (st:=st) (rs:=rs) (sk:=sk) n3 ZJ h6.2 IW);have eR:R=⟨ke,false,S,dec,st⟩:=by rw[←j2];rw[eA];exact dv n8
    exact Xi _ (Yi (.refl _) (Ow (dK.trans eR)))
   skip
   have eV:X1 S.drv (AD (dec++[cs[i]]))=.tup [vi 0,vb false]:=by unfold X1;rw[IW];rfl
   rw[eV]at ot;refine Xi (.gen bB 0) (Yi rfl (A1.imp ot ?_));intro v26 g26 q26;have Abp:=q26.1;have Abq:=q26.2;subst Abp;subst Abq;refine yN ?_;have Ye:=s69 roots C A S dec st cs[i] ch (hcr i n3) (hcs_ i n3);refine BF (cP (Dc dec cs[i])) (fun Qd=>?_) (fun Qd=>?_)
   ·refine Ba Qd (fun nc Qd=>?_);have eW:rE (Dc dec cs[i])=.tup [.agg (Br nc),vb true]:=by rw[Qd];rfl
    rw[eW]at Ye;refine Xi (.gen bB 0) (Yi rfl (A1.imp Ye ?_));intro v28 g28 q28;have Abr:=q28.1;have Abs:=q28.2;subst Abr;subst Abs;refine yN (cU [(0,.ref 1000 0),(4,vs p),(5,sl Br (n0::l)),(6,.slice (.id 6 1) (rs.map CP)),(7,.slice (.id 7 3) (sk.map Cv)),(9,.ref 9 0),(11,.slice (.id 16000 4) ((AD (dec++[cs[i]])).map Ac)),(12,vi 0),(13,vb false),(14,.ref 14 0),(15,vb true),(32,sl AU cs),(33,vi (cs.map AU).length),(34,vi i)] [(6,.tok 1 rs.length),(7,.tok 3 sk.length),(9,.ro (AU cs[i])),(14,.cells (Br nc)),(500,.arr 1 (st.map Bl)),(1000,.cells (srM roots C A S dec 500 st.length)),(1001,.tok 6 S.infs.length),(1002,.tok 1 S.drv.length),(1003,.map FY (F3 0 S.infs)),(1004,.dead),(16000,.tok 4 ((AD (dec++[cs[i]])).map Ac).length)] ⟨Zr,Zr,Zr,Zr,Zr,Zr,Zr,Zr,Zr,Zr,Zr,Zr,Zr,Zr,Tv⟩ Z11 (yN ?_));have r5:=hcx i n3 nc Qd;obtain⟨b1,b2,b3⟩:=j3.add (r5.1 S.drv)
    change Ky x roots (BH S nc).2 at b1
    change (BH S nc).1<(BH S nc).2.drv.length at b2
    change S.drv.length≤(BH S nc).2.drv.length at b3
    refine Xi (.gen bB 0) (Yi rfl (A1.imp (s88 roots C A S dec st nc hw.1 hw.2.1 j3.nodup (hcq i n3 nc (LW Qd).1) (hcp_ i n3 nc (LW Qd).1)) ?_));intro v29 g29 q29;have Abt:=q29.1;have Abu:=q29.2;subst Abt;subst Abu;refine cU [(0,.ref 1000 0),(4,vs p),(5,sl Br (n0::l)),(6,.slice (.id 6 1) (rs.map CP)),(7,.slice (.id 7 3) (sk.map Cv)),(9,.ref 9 0),(12,vi ((BH S nc).1:Nat)),(32,sl AU cs),(33,vi (cs.map AU).length),(34,vi i)] [(6,.tok 1 rs.length),(7,.tok 3 sk.length),(9,.ro (AU cs[i])),(500,.arr 1 (st.map Bl)),(1000,.cells [sl AH roots,.cmap Du C,.cmap Du A,.slice (.id 1001 6) ((BH S nc).2.infs.map Dn),.slice (.id 1002 1) ((BH S nc).2.drv.map Dg),.mref 1003,vb (BH S nc).2.full,sl AU dec,sl Ac (AD dec),.msl 500 st.length]),(1001,.tok 6 (BH S nc).2.infs.length),(1002,.tok 1 (BH S nc).2.drv.length),(1003,.map FY (F3 0 (BH S nc).2.infs)),(1004,.dead)] Z10 Z9 (Xi (Dg (D7 (BH S nc).2 (BH S nc).1)) (Yi (Yi (show(0:Int)≤(((BH S nc).1:Nat):Int) by omega) (CR (EY b2))) (Yi rfl ?_)));have ZJ:S.full=false:=by simpa using h4
    have VU:(BH S nc).1<(BH S nc).2.drv.length:=b2;have dS:=b1.der.few hx hr;refine BF (Bt (Dm (D7 (BH S nc).2 (BH S nc).1) p)) (fun VF=>?_) (fun VF=>?_)
    ·have VF:(Dm (D7 (BH S nc).2 (BH S nc).1) p)=true:=VF;refine Xi .pure (Xi _ (Yi (cb VF (nf (D7 (BH S nc).2 (BH S nc).1) p (FF (dS _ (Ay (EY VU)))))) (cU [(0,.ref 1000 0),(4,vs p),(5,sl Br (n0::l)),(6,.slice (.id 6 1) (rs.map CP)),(7,.slice (.id 7 3) (sk.map Cv)),(9,.ref 9 0),(12,vi ((BH S nc).1:Nat)),(32,sl AU cs),(33,vi (cs.map AU).length),(34,vi i)] [(6,.tok 1 rs.length),(7,.tok 3 sk.length),(9,.ro (AU cs[i])),(500,.arr 1 (st.map Bl)),(1000,.cells [sl AH roots,.cmap Du C,.cmap Du A,.slice (.id 1001 6) ((BH S nc).2.infs.map Dn),.slice (.id 1002 1) ((BH S nc).2.drv.map Dg),.mref 1003,vb (BH S nc).2.full,sl AU dec,sl Ac (AD dec),.msl 500 st.length]),(1001,.tok 6 (BH S nc).2.infs.length),(1002,.tok 1 (BH S nc).2.drv.length),(1003,.map FY (F3 0 (BH S nc).2.infs)),(1004,.dead)] Z10 Z9 (Yi (Wt rfl ch Cl) (Yi (Wt rfl ch Cl) (Yi (Ii i ch) ?_))))));have eA:=(Y7 (rec:=C3 x roots n) (x:=x) (p:=p) (n0:=n0) (st:=st) (rs:=rs) (sk:=sk) n3 ZJ h6.2 IW Qd);have eN:DX (C3 x roots n) x p (n0::l) n0 dec st (cs.drop (i+1)) (BH S nc).2 (rs++[(BH S nc).1]) (sk++[(⟨p,cs[i].place,((BH S nc).1:Nat)⟩:Sk)])=R:=by rw[←XN (c:=cs[i]) VF,←eA];exact j2
     refine Xi ⟨(i+1,(BH S nc).2,rs++[(BH S nc).1],sk++[(⟨p,cs[i].place,((BH S nc).1:Nat)⟩:Sk)]),FX n3,eN,b1,fun r h=>(AY.1 h).elim ((fun r h=>BD (j4 r h) b3) r) (fun h=>by rw[Ar.1 h];exact VU),(by rw[Ad];exact ER j5),(by rw[Ad];exact ER j6)⟩ ?_;exact⟨Dl cs.length i ch,⟨Zr,Zr,Zr,⟨(show AV.slice (.id 6 1) (rs.map CP++[[vi (((BH S nc).1:Nat):Int)]])=.slice (.id 6 1) ((rs++[(BH S nc).1]).map CP) by rw[As];rfl),rfl⟩,⟨(show AV.slice (.id 7 3) (sk.map Cv++[[vs p,vi cs[i].place,vi (((BH S nc).1:Nat):Int)]])=.slice (.id 7 3) ((sk++[(⟨p,cs[i].place,((BH S nc).1:Nat)⟩:Sk)]).map Cv) by rw[As];rfl),rfl⟩,Zr,Zr,Zr,Tv⟩,⟨⟨(show HO.tok 1 ((rs.map CP).length+([[vi (((BH S nc).1:Nat):Int)]]:List (List AV)).length)=.tok 1 (rs++[(BH S nc).1]).length by simp),rfl⟩,⟨(show HO.tok 3 ((sk.map Cv).length+([[vs p,vi cs[i].place,vi (((BH S nc).1:Nat):Int)]]:List (List AV)).length)=.tok 3 (sk++[(⟨p,cs[i].place,((BH S nc).1:Nat)⟩:Sk)]).length by simp),rfl⟩,Zr,Zr,Zr,Zr,Zr,Zr,Tv⟩,Fh,Bo Wk⟩
    have VF:(Dm (D7 (BH S nc).2 (BH S nc).1) p)=false:=VF;refine Xi .pure (Xi _ (Yi (cb VF (nf (D7 (BH S nc).2 (BH S nc).1) p (FF (dS _ (Ay (EY VU)))))) (cU [(12,vi ((BH S nc).1:Nat))] [(500,.arr 1 (st.map Bl)),(1000,.cells [sl AH roots,.cmap Du C,.cmap Du A,.slice (.id 1001 6) ((BH S nc).2.infs.map Dn),.slice (.id 1002 1) ((BH S nc).2.drv.map Dg),.mref 1003,vb (BH S nc).2.full,sl AU dec,sl Ac (AD dec),.msl 500 st.length]),(1001,.tok 6 (BH S nc).2.infs.length),(1002,.tok 1 (BH S nc).2.drv.length),(1003,.map FY (F3 0 (BH S nc).2.infs)),(1004,.dead)] Z1 Z6 ?_)))
    have eA:=(Y7 (rec:=C3 x roots n) (x:=x) (p:=p) (n0:=n0) (st:=st) (rs:=rs) (sk:=sk) n3 ZJ h6.2 IW Qd);have eR:R=⟨(BH S nc).1,false,(BH S nc).2,dec,st⟩:=by rw[←j2];rw[eA];exact dv VF
    exact Xi _ (Yi (.refl _) (Ow (dK.trans eR)))
   skip
   have eW:rE (Dc dec cs[i])=.tup [.agg [vs ⟨#[]⟩,Ce,vs ⟨#[]⟩,vi 0,vi 0],vb false]:=by rw[Qd];rfl
   rw[eW]at Ye;refine Xi (.gen bB 0) (Yi rfl (A1.imp Ye ?_));intro v35 g35 q35;have Abz:=q35.1;have AbA:=q35.2;subst Abz;subst AbA;refine yN (cU [(0,.ref 1000 0),(4,vs p),(5,sl Br (n0::l)),(6,.slice (.id 6 1) (rs.map CP)),(7,.slice (.id 7 3) (sk.map Cv)),(9,.ref 9 0),(11,.slice (.id 16000 4) ((AD (dec++[cs[i]])).map Ac)),(12,vi 0),(13,vb false),(14,.ref 14 0),(15,vb false),(32,sl AU cs),(33,vi (cs.map AU).length),(34,vi i)] [(6,.tok 1 rs.length),(7,.tok 3 sk.length),(9,.ro (AU cs[i])),(14,.cells [vs ⟨#[]⟩,Ce,vs ⟨#[]⟩,vi 0,vi 0]),(500,.arr 1 (st.map Bl)),(1000,.cells (srM roots C A S dec 500 st.length)),(1001,.tok 6 S.infs.length),(1002,.tok 1 S.drv.length),(1003,.map FY (F3 0 S.infs)),(1004,.dead),(16000,.tok 4 ((AD (dec++[cs[i]])).map Ac).length)] ⟨Zr,Zr,Zr,Zr,Zr,Zr,Zr,Zr,Zr,Zr,Zr,Zr,Zr,Zr,Tv⟩ Z11 (Yi Wk (cU [(0,.ref 1000 0),(4,vs p),(5,sl Br (n0::l)),(6,.slice (.id 6 1) (rs.map CP)),(7,.slice (.id 7 3) (sk.map Cv)),(9,.ref 9 0),(11,.slice (.id 16000 4) ((AD (dec++[cs[i]])).map Ac)),(16,sl AU dec),(17,sl Ac (AD dec)),(32,sl AU cs),(33,vi (cs.map AU).length),(34,vi i)] [(6,.tok 1 rs.length),(7,.tok 3 sk.length),(9,.ro (AU cs[i])),(500,.arr 1 (st.map Bl)),(1000,.cells (srM roots C A S dec 500 st.length)),(1001,.tok 6 S.infs.length),(1002,.tok 1 S.drv.length),(1003,.map FY (F3 0 S.infs)),(1004,.dead),(16000,.tok 4 ((AD (dec++[cs[i]])).map Ac).length)] Z12 Z10 (Xi _ (Xi _ (Yi Wk (Yi (xi dec (by unfold Cy;omega)) (yN ?_))))))));have b36:Cf 10 [(AU cs[i])]∧(dec.map AU).length=(dec.map AU).length∧((dec.map AU).length+([(AU cs[i])]:List (List AV)).length)*128≤140737488355328∧(dec.map AU).length+([(AU cs[i])]:List (List AV)).length≤9223372036854775807:=⟨⟨rfl,trivial⟩,rfl,(by simp only[Lm,Av,Ax];omega),(by simp only[Lm,Av,Ax];omega)⟩;refine Yi b36 (yN (yN (Yi Wk ?_)));have b37:Cf 1 [[sl Cv sk]]∧(st.map Bl).length=st.length∧((st.map Bl).length+([[sl Cv sk]]:List (List AV)).length)*24≤140737488355328∧(st.map Bl).length+([[sl Cv sk]]:List (List AV)).length≤9223372036854775807:=⟨⟨rfl,trivial⟩,(by rw[Lm]),(by simp only[Lm,Av,Ax];omega),(by simp only[Lm,Av,Ax];omega)⟩;refine Yi b37 (yN (cU [(0,.ref 1000 0),(4,vs p),(5,sl Br (n0::l)),(6,.slice (.id 6 1) (rs.map CP)),(7,.slice (.id 7 3) (sk.map Cv)),(9,.ref 9 0),(16,sl AU dec),(17,sl Ac (AD dec)),(32,sl AU cs),(33,vi (cs.map AU).length),(34,vi i)] [(6,.tok 1 rs.length),(7,.tok 3 sk.length),(9,.ro (AU cs[i])),(500,.arr 1 ((st.map Bl)++[[sl Cv sk]])),(1000,.cells [sl AH roots,.cmap Du C,.cmap Du A,.slice (.id 1001 6) (S.infs.map Dn),.slice (.id 1002 1) (S.drv.map Dg),.mref 1003,vb S.full,.slice (.id 20100 10) ((dec.map AU)++[(AU cs[i])]),.slice (.id 16000 4) ((AD (dec++[cs[i]])).map Ac),.msl 500 ((st.map Bl).length+([[sl Cv sk]]:List (List AV)).length)]),(1001,.tok 6 S.infs.length),(1002,.tok 1 S.drv.length),(1003,.map FY (F3 0 S.infs)),(1004,.dead),(16000,.tok 4 ((AD (dec++[cs[i]])).map Ac).length),(20100,.tok 10 ((dec.map AU).length+([(AU cs[i])]:List (List AV)).length))] Z11 Z11 (cU [(0,.ref 1000 0),(4,vs p),(5,sl Br (n0::l)),(6,.slice (.id 6 1) (rs.map CP)),(7,.slice (.id 7 3) (sk.map Cv)),(9,.ref 9 0),(16,sl AU dec),(17,sl Ac (AD dec)),(32,sl AU cs),(33,vi (cs.map AU).length),(34,vi i)] [(6,.tok 1 rs.length),(7,.tok 3 sk.length),(9,.ro (AU cs[i])),(500,.arr 1 ((st++[sk]).map Bl)),(1000,.cells [sl AH roots,.cmap Du C,.cmap Du A,.slice (.id 1001 6) (S.infs.map Dn),.slice (.id 1002 1) (S.drv.map Dg),.mref 1003,vb S.full,.slice (.id 20100 10) ((dec++[cs[i]]).map AU),.slice (.id 16000 4) ((AD (dec++[cs[i]])).map Ac),.msl 500 (st++[sk]).length]),(1001,.tok 6 S.infs.length),(1002,.tok 1 S.drv.length),(1003,.map FY (F3 0 S.infs)),(1004,.dead),(16000,.tok 4 ((AD (dec++[cs[i]])).map Ac).length),(20100,.tok 10 ((dec++[cs[i]]).map AU).length)] Z11 ⟨Zr,Zr,Zr,⟨(show(.arr 1 ((st.map Bl)++[[sl Cv sk]]):HO)=.arr 1 ((st++[sk]).map Bl) by simp),rfl⟩,⟨(show(.cells [sl AH roots,.cmap Du C,.cmap Du A,.slice (.id 1001 6) (S.infs.map Dn),.slice (.id 1002 1) (S.drv.map Dg),.mref 1003,vb S.full,.slice (.id 20100 10) ((dec.map AU)++[(AU cs[i])]),.slice (.id 16000 4) ((AD (dec++[cs[i]])).map Ac),.msl 500 ((st.map Bl).length+([[sl Cv sk]]:List (List AV)).length)]:HO)=.cells [sl AH roots,.cmap Du C,.cmap Du A,.slice (.id 1001 6) (S.infs.map Dn),.slice (.id 1002 1) (S.drv.map Dg),.mref 1003,vb S.full,.slice (.id 20100 10) ((dec++[cs[i]]).map AU),.slice (.id 16000 4) ((AD (dec++[cs[i]])).map Ac),.msl 500 (st++[sk]).length] by simp),rfl⟩,Zr,Zr,Zr,Zr,Zr,⟨(show(.tok 10 ((dec.map AU).length+([(AU cs[i])]:List (List AV)).length):HO)=.tok 10 ((dec++[cs[i]]).map AU).length by simp),rfl⟩,Tv⟩ ?_)))
   have Gs:aK dec (n0::l) cs[i]=true:=I9.2 ⟨fun n hn=>by have q:=DC.1 h6.2 n hn;simpa using q,Qd⟩;have gF:=ih cs[i] (ZD i n3) Gs S (st++[sk]) (by simp[JU]) j3 (by simpa using h4);refine Ba (show ∃o,o=C3 x roots n (dec++[cs[i]]) S (st++[sk])from⟨_,rfl⟩) (fun o ho=>?_);rw[←ho]at gF;have YR:A1 Tryz.prog 65 [.ref 1000 0] (Ak (JW roots C A S (dec++[cs[i]]) (st++[sk])) Af) (fun r h'=>r=.tup [vi (o.res:Nat),vb o.found]∧h'=Ak (yE roots C A o.ss o.dec o.stack) Af):=gF.1;have yg:=gF.2.1;have hrn:=gF.2.2.1;refine BF (Bt o.found) (fun mZ=>?_) (fun mZ=>?_)
   ·skip
    rw[mZ]at YR;refine Xi (.gen bB 1) (Yi rfl (A1.imp YR ?_));intro v39 g39 q39;have AbB:=q39.1;have AbC:=q39.2;subst AbB;subst AbC;refine cU [(0,.ref 1000 0),(4,vs p),(5,sl Br (n0::l)),(6,.slice (.id 6 1) (rs.map CP)),(7,.slice (.id 7 3) (sk.map Cv)),(9,.ref 9 0),(12,vi (o.res:Nat)),(16,sl AU dec),(17,sl Ac (AD dec)),(18,vb true),(32,sl AU cs),(33,vi (cs.map AU).length),(34,vi i)] [(6,.tok 1 rs.length),(7,.tok 3 sk.length),(9,.ro (AU cs[i])),(1000,.cells (srM roots C A o.ss o.dec 22200 o.stack.length)),(1001,.tok 6 o.ss.infs.length),(1002,.tok 1 o.ss.drv.length),(1003,.map FY (F3 0 o.ss.infs)),(1004,.dead),(22200,.arr 1 (o.stack.map Bl))] Z13 Z9 (Yi (show o.stack.length=(o.stack.map Bl).length by simp) (cU [] [(500,.arr 1 (o.stack.map Bl)),(1000,.cells (srM roots C A o.ss o.dec 500 o.stack.length)),(1001,.tok 6 o.ss.infs.length),(1002,.tok 1 o.ss.drv.length),(1003,.map FY (F3 0 o.ss.infs)),(1004,.dead)] Tv Z6 ?_))
    have ZJ:S.full=false:=by simpa using h4
    have eR:R=⟨0,true,o.ss,o.dec,o.stack⟩:=by rw[←j2];rw[XY (sk:=sk) n3 ZJ h6.2 IW Qd ho,Al mZ]
    exact Xi _ (Yi (.refl _) (Ow (dK.trans eR)))
   skip
   rw[mZ]at YR;have hrk:=gF.2.2.2 mZ;have WR:o.stack.length=st.length+1:=by rw[hrk];simp
   refine Xi (.gen bB 1) (Yi rfl (A1.imp YR ?_));intro v41 g41 q41;have AbD:=q41.1;have AbE:=q41.2;subst AbD;subst AbE;refine cU [(0,.ref 1000 0),(4,vs p),(5,sl Br (n0::l)),(6,.slice (.id 6 1) (rs.map CP)),(7,.slice (.id 7 3) (sk.map Cv)),(9,.ref 9 0),(12,vi (o.res:Nat)),(16,sl AU dec),(17,sl Ac (AD dec)),(18,vb false),(32,sl AU cs),(33,vi (cs.map AU).length),(34,vi i)] [(6,.tok 1 rs.length),(7,.tok 3 sk.length),(9,.ro (AU cs[i])),(1000,.cells (srM roots C A o.ss o.dec 22200 o.stack.length)),(1001,.tok 6 o.ss.infs.length),(1002,.tok 1 o.ss.drv.length),(1003,.map FY (F3 0 o.ss.infs)),(1004,.dead),(22200,.arr 1 (o.stack.map Bl))] Z13 Z9 (yN (yN (cU [(0,.ref 1000 0),(4,vs p),(5,sl Br (n0::l)),(6,.slice (.id 6 1) (rs.map CP)),(7,.slice (.id 7 3) (sk.map Cv)),(9,.ref 9 0),(12,vi (o.res:Nat)),(32,sl AU cs),(33,vi (cs.map AU).length),(34,vi i)] [(6,.tok 1 rs.length),(7,.tok 3 sk.length),(9,.ro (AU cs[i])),(1000,.cells (srM roots C A o.ss dec 22200 o.stack.length)),(1001,.tok 6 o.ss.infs.length),(1002,.tok 1 o.ss.drv.length),(1003,.map FY (F3 0 o.ss.infs)),(1004,.dead),(22200,.arr 1 (o.stack.map Bl))] Z10 Z9 (Yi (by show Bc ((o.stack.length:Int)-(1:Int));unfold Bc;omega) (Yi ⟨(show o.stack.length=(o.stack.map Bl).length by simp),(show(0:Int)≤o.stack.length-1 by omega),(show(o.stack.length-1:Int)≤((o.stack.map Bl).length:Nat) by rw[Lm];omega)⟩ (yN (Yi Wk (Yi (show(o.stack.length-1:Int).toNat=(((o.stack.map Bl).take (o.stack.length-1:Int).toNat):List (List AV)).length by simp) ?_))))))));have wi:((o.stack.map Bl).take ((o.stack.length:Int)-1).toNat)=st.map Bl∧((o.stack.length:Int)-1).toNat=st.length:=wj hrk;refine cU [(0,.ref 1000 0),(4,vs p),(5,sl Br (n0::l)),(6,.slice (.id 6 1) (rs.map CP)),(7,.slice (.id 7 3) (sk.map Cv)),(9,.ref 9 0),(12,vi (o.res:Nat)),(32,sl AU cs),(33,vi (cs.map AU).length),(34,vi i)] [(6,.tok 1 rs.length),(7,.tok 3 sk.length),(9,.ro (AU cs[i])),(500,.arr 1 (st.map Bl)),(1000,.cells (srM roots C A o.ss dec 500 st.length)),(1001,.tok 6 o.ss.infs.length),(1002,.tok 1 o.ss.drv.length),(1003,.map FY (F3 0 o.ss.infs)),(1004,.dead)] Z10 ⟨Zr,Zr,Zr,⟨(show(.arr 1 ((o.stack.map Bl).take (o.stack.length-1:Int).toNat):HO)=.arr 1 (st.map Bl) by rw[wi.1]),rfl⟩,⟨(show(.cells (srM roots C A o.ss dec 500 (o.stack.length-1:Int).toNat):HO)=.cells (srM roots C A o.ss dec 500 st.length) by rw[wi.2]),rfl⟩,Zr,Zr,Zr,Zr,Tv⟩ ?_
   refine Yi (fun rO=>?_) (fun rO=>?_)
   ·have rO:o.ss.full=true:=rO;have ZJ:S.full=false:=by simpa using h4
    have eR:R=⟨0,false,o.ss,dec,st⟩:=by rw[←j2];rw[XY (sk:=sk) n3 ZJ h6.2 IW Qd ho,Ae (by rw[mZ];decide),Al rO]
    exact Xi _ (Yi (.refl _) (Ow (dK.trans eR)))
   have rO:o.ss.full=false:=rO;have LN:o.ss.full=false:=rO;refine cU [(0,.ref 1000 0),(4,vs p),(5,sl Br (n0::l)),(6,.slice (.id 6 1) (rs.map CP)),(7,.slice (.id 7 3) (sk.map Cv)),(9,.ref 9 0),(12,vi (o.res:Nat)),(32,sl AU cs),(33,vi (cs.map AU).length),(34,vi i)] [(6,.tok 1 rs.length),(7,.tok 3 sk.length),(9,.ro (AU cs[i])),(500,.arr 1 (st.map Bl)),(1000,.cells (srM roots C A o.ss dec 500 st.length)),(1001,.tok 6 o.ss.infs.length),(1002,.tok 1 o.ss.drv.length),(1003,.map FY (F3 0 o.ss.infs)),(1004,.dead)] Z10 Z9 (Xi (Dg (D7 o.ss o.res)) (Yi (Yi (show(0:Int)≤((o.res:Nat):Int) by omega) (CR (EY (hrn.2 mZ LN)))) (Yi rfl ?_)));have ZJ:S.full=false:=by simpa using h4
   have VU:o.res<o.ss.drv.length:=(hrn.2 mZ LN);have dS:=yg.der.few hx hr;refine BF (Bt (Dm (D7 o.ss o.res) p)) (fun oe=>?_) (fun oe=>?_)
   ·have oe:(Dm (D7 o.ss o.res) p)=true:=oe;refine Xi .pure (Xi _ (Yi (cb oe (nf (D7 o.ss o.res) p (FF (dS _ (Ay (EY VU)))))) (cU [(0,.ref 1000 0),(4,vs p),(5,sl Br (n0::l)),(6,.slice (.id 6 1) (rs.map CP)),(7,.slice (.id 7 3) (sk.map Cv)),(9,.ref 9 0),(12,vi (o.res:Nat)),(32,sl AU cs),(33,vi (cs.map AU).length),(34,vi i)] [(6,.tok 1 rs.length),(7,.tok 3 sk.length),(9,.ro (AU cs[i])),(500,.arr 1 (st.map Bl)),(1000,.cells (srM roots C A o.ss dec 500 st.length)),(1001,.tok 6 o.ss.infs.length),(1002,.tok 1 o.ss.drv.length),(1003,.map FY (F3 0 o.ss.infs)),(1004,.dead)] Z10 Z9 (Yi (Wt rfl ch Cl) (Yi (Wt rfl ch Cl) (Yi (Ii i ch) ?_))))));have eA:=(XY (rec:=C3 x roots n) (x:=x) (p:=p) (n0:=n0) (st:=st) (rs:=rs) (sk:=sk) n3 ZJ h6.2 IW Qd ho);rw[Ae (by rw[mZ];decide),Ae (by rw[LN];decide)]at eA;have eN:DX (C3 x roots n) x p (n0::l) n0 dec st (cs.drop (i+1)) o.ss (rs++[o.res]) (sk++[(⟨p,cs[i].place,(o.res:Nat)⟩:Sk)])=R:=by rw[←XN (c:=cs[i]) oe,←eA];exact j2
    refine Xi ⟨(i+1,o.ss,rs++[o.res],sk++[(⟨p,cs[i].place,(o.res:Nat)⟩:Sk)]),FX n3,eN,yg,fun r h=>(AY.1 h).elim ((fun r h=>BD (j4 r h) hrn.1) r) (fun h=>by rw[Ar.1 h];exact VU),(by rw[Ad];exact ER j5),(by rw[Ad];exact ER j6)⟩ ?_;exact⟨Dl cs.length i ch,⟨Zr,Zr,Zr,⟨(show AV.slice (.id 6 1) (rs.map CP++[[vi ((o.res:Nat):Int)]])=.slice (.id 6 1) ((rs++[o.res]).map CP) by rw[As];rfl),rfl⟩,⟨(show AV.slice (.id 7 3) (sk.map Cv++[[vs p,vi cs[i].place,vi ((o.res:Nat):Int)]])=.slice (.id 7 3) ((sk++[(⟨p,cs[i].place,(o.res:Nat)⟩:Sk)]).map Cv) by rw[As];rfl),rfl⟩,Zr,Zr,Zr,Tv⟩,⟨⟨(show HO.tok 1 ((rs.map CP).length+([[vi ((o.res:Nat):Int)]]:List (List AV)).length)=.tok 1 (rs++[o.res]).length by simp),rfl⟩,⟨(show HO.tok 3 ((sk.map Cv).length+([[vs p,vi cs[i].place,vi ((o.res:Nat):Int)]]:List (List AV)).length)=.tok 3 (sk++[(⟨p,cs[i].place,(o.res:Nat)⟩:Sk)]).length by simp),rfl⟩,Zr,Zr,Zr,Zr,Zr,Zr,Tv⟩,Fh,Bo Wk⟩
   have oe:(Dm (D7 o.ss o.res) p)=false:=oe;refine Xi .pure (Xi _ (Yi (cb oe (nf (D7 o.ss o.res) p (FF (dS _ (Ay (EY VU)))))) (cU [(12,vi (o.res:Nat))] [(500,.arr 1 (st.map Bl)),(1000,.cells (srM roots C A o.ss dec 500 st.length)),(1001,.tok 6 o.ss.infs.length),(1002,.tok 1 o.ss.drv.length),(1003,.map FY (F3 0 o.ss.infs)),(1004,.dead)] Z1 Z6 ?_)))
   have eA:=(XY (rec:=C3 x roots n) (x:=x) (p:=p) (n0:=n0) (st:=st) (rs:=rs) (sk:=sk) n3 ZJ h6.2 IW Qd ho);rw[Ae (by rw[mZ];decide),Ae (by rw[LN];decide)]at eA;have eR:R=⟨o.res,false,o.ss,dec,st⟩:=by rw[←j2];rw[eA];exact dv oe
   exact Xi _ (Yi (.refl _) (Ow (dK.trans eR)))
  have h3:¬((i:Int)<((cs.map AU).length:Int)):=h3;have n3:=GH h3;refine Xi (Br n0) (Yi (Yi (show(0:Int)≤0 by decide) rfl) (Yi rfl (yN (Xi (.gen bB 0) (Yi rfl (A1.imp (s91 x roots C A S dec st p n0 rs V hx hr j3 hinf0 j4 ch (hnq n0 (Aa ..)) (hnp n0 (Aa ..)) vg vh vl) ?_))))));intro v49 g49 q49;have AbF:=q49.1;have AbG:=q49.2;subst AbF;subst AbG;have hj:¬i<cs.length:=by have q:=h3;rw[Lm]at q;omega
  have eR:R=⟨(DZ x p n0 rs S).1,false,(DZ x p n0 rs S).2,dec,st⟩:=by rw[←j2];exact jF hj
  exact Xi _ (Yi (.refl _) (Ow (dK.trans eR)))
 exact absurd Tb hC2
theorem Aca(hL:yK x roots C A n dec p n0 l V cs)(hs:Ky x roots s)(JU:st.length=dec.length)(Ta:A1 Tryz.prog 87 [.ref 1000 0] (Ak (JW roots C A s dec st) Af) fun r h'=>r=.tup [vs p,sl Br (n0::l)]∧h'=Ak (JW roots C A s dec st) Af)(vE:cs=[])(hC2:∀a,(Value.string p,a)∉C)(hR:DX (C3 x roots n) x p (n0::l) n0 dec st cs s [] []=R)(dK:O=R) :
  A1 Tryz.prog 65 [.ref 1000 0] (Ak (JW roots C A s dec st) Af) (bC roots C A O):=by
 obtain⟨hx,hr,hdl,hcl,hcs,hnl,hnq,hnp,hex,hcx,hcq,hcp_,hcr,hcs_,hkey,hinf0,⟨vg,vh,vl⟩,ih⟩:=hL;have hdl:dec.length≤256:=hdl;have hcl:cs.length≤256:=hcl;have JU:st.length=dec.length:=JU;have ZD:∀(i:Nat) (h:i<cs.length),cs[i]∈BJ x p:=fun i h=>by rw[←hcs];exact Aj h
 have tZ:∀(i:Nat) (h:i<cs.length),Cy (AD (dec++[cs[i]])):=fun i h=>by unfold Cy AD;rw[Lm,Ad];simp;omega
 clear hcs
 refine BW (KV ⟨[9],[(6,1),(7,3),(145,1)],[],[],[],[],[],[],[],[(300001,500091000),(300026,500091000),(300029,500091000)],[1,2,5,10,11,13,14,15,16,17,19,21,22,23,24,25,26,28,29,31,32,33,35]⟩) [(1000,1000),(1001,1001),(1002,1002),(1003,1003),(1004,1004),(500,2000)] rfl Co hm rfl Tryz.func65 Wk rfl (Nz rfl) Wk rfl (Yi (show st.length=(st.map Bl).length by simp) (cU [(0,.ref 1000 0)] [(500,.arr 1 (st.map Bl)),(1000,.cells (srM roots C A s dec 500 st.length)),(1001,.tok 6 s.infs.length),(1002,.tok 1 s.drv.length),(1003,.map FY (F3 0 s.infs)),(1004,.dead)] Z1 Z6 (Xi (.gen bB 0) (Yi rfl (A1.imp Ta ?_)))));intro v1 g1 q1;have pz:=q1.1;have pA:=q1.2;subst pz;subst pA;refine cU [(0,.ref 1000 0),(4,vs p),(5,sl Br (n0::l))] [(500,.arr 1 (st.map Bl)),(1000,.cells (srM roots C A s dec 500 st.length)),(1001,.tok 6 s.infs.length),(1002,.tok 1 s.drv.length),(1003,.map FY (F3 0 s.infs)),(1004,.dead)] Z3 Z6 (Yi (fun h2=>?_) (fun h2=>?_))
 ·have h2:(((n0::l).map Br).length:Int)=(0:Int):=h2;exact absurd h2 (by simp;omega)
 have h2:¬((((n0::l).map Br).length:Int)=(0:Int)):=h2;refine cU [(0,.ref 1000 0),(4,vs p),(5,sl Br (n0::l)),(6,.slice (.id 6 1) [])] [(6,.tok 1 0),(500,.arr 1 (st.map Bl)),(1000,.cells (srM roots C A s dec 500 st.length)),(1001,.tok 6 s.infs.length),(1002,.tok 1 s.drv.length),(1003,.map FY (F3 0 s.infs)),(1004,.dead)] Z4 Z7 (Yi (fun a ha=>?_) (fun Tb=>?_))
 ·exact absurd ha (hC2 a)
 refine Xi {q:Nat×SS×List Nat×List Sk // q.1≤cs.length∧DX (C3 x roots n) x p (n0::l) n0 dec st (cs.drop q.1) q.2.1 q.2.2.1 q.2.2.2=R∧Ky x roots q.2.1∧(∀r∈q.2.2.1,r<q.2.1.drv.length)∧q.2.2.1.length≤q.1∧q.2.2.2.length≤q.1} (Xi (fun q=>⟨[(0,.ref 1000 0),(4,vs p),(5,sl Br (n0::l)),(6,.slice (.id 6 1) (q.1.2.2.1.map CP)),(7,.slice (.id 7 3) (q.1.2.2.2.map Cv)),(32,Ce),(33,vi 0),(34,vi q.1.1)],[(6,.tok 1 q.1.2.2.1.length),(7,.tok 3 q.1.2.2.2.length),(500,.arr 1 (st.map Bl)),(1000,.cells (srM roots C A q.1.2.1 dec 500 st.length)),(1001,.tok 6 q.1.2.1.infs.length),(1002,.tok 1 q.1.2.1.drv.length),(1003,.map FY (F3 0 q.1.2.1.infs)),(1004,.dead)],Af⟩) (Xi (fun q=>cs.length-q.1.1) (Yi (Xi ⟨(0,s,[],[]),AA _,hR,hs,fun r h=>(by cases h),Ao _,Ao _⟩ ?_) ?_)))
 ·exact⟨Z8,Z8,Fh,Bo Wk⟩
 intro⟨⟨i,S,rs,sk⟩,j1,j2,j3,j4,j5,j6⟩;have j1:i≤cs.length:=j1;have j2:DX (C3 x roots n) x p (n0::l) n0 dec st (cs.drop i) S rs sk=R:=j2;have j3:Ky x roots S:=j3;have j4:∀r∈rs,r<S.drv.length:=j4;have j5:rs.length≤i:=j5;have j6:sk.length≤i:=j6;have hw:=j3.dl;have kG:∀t∈S.drv,jk t:=fun t ht=>by have q:=j3.der.few hx hr t ht;exact⟨FF q,q.2⟩
 refine Yi (fun h3=>?_) (fun h3=>?_)
 ·have h3:(i:Int)<(0:Int):=h3;exact absurd h3 (by have q:=j1;rw[vE,Ax]at q;omega)
 have h3:¬((i:Int)<(0:Int)):=h3;refine Xi (Br n0) (Yi (Yi (show(0:Int)≤0 by decide) rfl) (Yi rfl (yN (Xi (.gen bB 0) (Yi rfl (A1.imp (s91 x roots C A S dec st p n0 rs V hx hr j3 hinf0 j4 ch (hnq n0 (Aa ..)) (hnp n0 (Aa ..)) vg vh vl) ?_))))));intro v4 g4 q4;have q4a:=q4.1;have q4b:=q4.2;subst q4a;subst q4b;have hj:¬i<cs.length:=by rw[vE];simp
 have eR:R=⟨(DZ x p n0 rs S).1,false,(DZ x p n0 rs S).2,dec,st⟩:=by rw[←j2];exact jF hj
 exact Xi _ (Yi (.refl _) (Ow (dK.trans eR)))
theorem Acd(N:List Nd)(O:Kx)(hN:N=[])(Ta:A1 Tryz.prog 87 [.ref 1000 0] (Ak (JW roots C A s dec st) Af) fun r h'=>r=.tup [vs p,sl Br N]∧h'=Ak (JW roots C A s dec st) Af)(hO:O=⟨0,true,s,dec,st⟩) :
  A1 Tryz.prog 65 [.ref 1000 0] (Ak (JW roots C A s dec st) Af) (bC roots C A O):=by
 refine BW (KV ⟨[],[],[],[],[],[],[],[],[],[(300001,500091000)],[1,2,5,10,11,13,14,15,16,17,19,21,22,23,25,28,29,31,32,33,35]⟩) [(1000,1000),(1001,1001),(1002,1002),(1003,1003),(1004,1004),(500,2000)] rfl Co hm rfl Tryz.func65 Wk rfl (Nz rfl) Wk rfl (Yi (show st.length=(st.map Bl).length by simp) (cU [(0,.ref 1000 0)] [(500,.arr 1 (st.map Bl)),(1000,.cells (srM roots C A s dec 500 st.length)),(1001,.tok 6 s.infs.length),(1002,.tok 1 s.drv.length),(1003,.map FY (F3 0 s.infs)),(1004,.dead)] Z1 Z6 (Xi (.gen bB 0) (Yi rfl (A1.imp Ta ?_)))));intro v1 g1 q1;have pz:=q1.1;have pA:=q1.2;subst pz;subst pA;refine cU [(0,.ref 1000 0),(4,vs p),(5,sl Br N)] [(500,.arr 1 (st.map Bl)),(1000,.cells (srM roots C A s dec 500 st.length)),(1001,.tok 6 s.infs.length),(1002,.tok 1 s.drv.length),(1003,.map FY (F3 0 s.infs)),(1004,.dead)] Z3 Z6 (Yi (fun h2=>?_) (fun h2=>?_))
 ·have h2:((N.map Br).length:Int)=(0:Int):=h2;exact Xi _ (Yi (.refl _) (Ow (st:=st) hO))
 have h2:¬(((N.map Br).length:Int)=(0:Int)):=h2;exact absurd (by rw[hN];rfl) h2
section
variable {x:List Rl}{roots:List Rq}{p:ByteArray}
theorem I6:∀(l:List Nat) {k:Nat} {s:SS},s.infs.Nodup→(Cc p l k s).2.infs.Nodup
 | [],_,_,h=>h
 |r::l,k,s,h=>by
  unfold Cc;split
  ·exact h
  split
  ·exact I6 l h
  split
  ·exact I6 l h
  ·exact I6 l (IQ h)
theorem LQ{needs:List Nd}{n0:Nd}{dec:List Cd}{st:List (List Sk)}{rec:List Cd→SS→List (List Sk)→Kx}(Yk:∀c s st,s.infs.Nodup→(rec (dec++[c]) s st).ss.infs.Nodup) :
  ∀(cs:List Cd) {s:SS} {rs:List Nat} {sk:List Sk},s.infs.Nodup→(DX rec x p needs n0 dec st cs s rs sk).ss.infs.Nodup
 | [],s,rs,sk,h=>I6 _ (IQ (IQ h))
 |c::cs,s,rs,sk,h=>by
  have jp:∀(s' : SS) (k:Nat),s'.infs.Nodup→(Je rec x p needs n0 dec st c cs rs sk k s').ss.infs.Nodup:=fun s' k h'=>by
   unfold Je;split
   ·exact h'
   ·exact LQ Yk cs h'
  rw[Gm];split
  ·exact h
  cases needs.find? fun n=>!has n.rq.set c.place with
  |some n=>exact LQ Yk cs (IQ h)
  |none =>
   dsimp only;cases OG s.drv (AD (dec++[c]))with
   |some k=>exact jp s k h
   |none =>
    dsimp only;cases Dc dec c with
    |some n=>exact jp _ _ (IQ h)
    |none =>
     dsimp only;have h2:=Yk c s (st++[sk]) h;split
     ·exact h2
     split
     ·exact h2
     ·exact jp _ _ h2
theorem QK:∀(n:Nat) {dec:List Cd} {s:SS} {st:List (List Sk)},s.infs.Nodup→(C3 x roots n dec s st).ss.infs.Nodup
 |0,_,_,_,h=>h
 |n+1,dec,s,st,h=>by
  unfold C3;cases (Em roots dec).2 with
  |nil=>exact h
  |cons n0 l=>exact LQ (fun c s st h=>QK n h) _ h
structure yI(x:List Rl)(roots:List Rq)(C A:List (Value×AV)):Prop where
 hx:AN x=0
 hr:Bn roots=0
 fx:∀r∈x,Gv r
 fr:∀q∈roots,J8 q
 c1:∀(p:ByteArray) (a:AV),(Value.string p,a)∈C→a=sl AU (BJ x p)
 c2:∀p:ByteArray,(∀a,(Value.string p,a)∉C)→BJ x p=[]
 c3:∀p:ByteArray,BJ x p=[]→∀a,(Value.string p,a)∉C
 av:∀p:ByteArray,∃V,HV x A p V
theorem rK{dec:List Cd}(h:∀c∈dec,c.rel.reqs.length≤16):((dec.map fun c=>c.rel.reqs).flatten).length≤16*dec.length:=by
 induction dec with
 |nil=>simp
 |cons c dec ih =>
  rw[AJ,Bm,Ad,Av]
  have:=h c (Aa ..)
  have:=ih fun d hd=>h d (Ah _ hd)
  omega
theorem sT{r:Rl}(h:TR r):0≤plc r.ver∧plc r.ver<1000000:=by rw[h.plc];exact Kn h.val
theorem ia(dec:List Cd):(Em roots dec).2.length≤(DI roots dec).length:=by
 rw[U2];cases Iy (Eo roots dec) (AD dec)with
 |none=>simp
 |some q=>exact BC _ _
theorem s45{C A:List (Value×AV)}(hE:yI x roots C A)(rP:H64 roots C A):∀(n:Nat) {dec:List Cd} {s:SS} {st:List (List Sk)},Ef x dec→IM roots dec→Ky x roots s→s.full=false→FM x dec<n→st.length=dec.length →
  A1 Tryz.prog 65 [.ref 1000 0] (Ak (JW roots C A s dec st) Af) (bC roots C A (C3 x roots n dec s st))
 |0,_,_,_,_,_,_,_,h,_=>by omega
 |n+1,dec,s,st,hd,gG,hs,hf,hn,JU=>by
  have hx:=hE.hx;have hr:=hE.hr;have VV:=L6 hx;have hdl:=Ud hd;have Aar:dec.length≤256:=by have:=VV.1;omega
  have hrl:∀c∈dec,c.rel.reqs.length≤16:=fun c hc=>VV.2 _ (hd.cand c hc).1;have Ta:=rP s dec st ch fun c hc=>Bf (hrl c hc) Cl;generalize hO:C3 x roots (n+1) dec s st=O;obtain⟨N,hN⟩:∃N,N=(Em roots dec).2:=⟨_,rfl⟩;obtain⟨q,hq⟩:∃q,q=(Em roots dec).1:=⟨_,rfl⟩;rw[←hN,←hq]at Ta;have vd:N.length≤10000:=by
   have h1:=ia (roots:=roots) dec;have h2:(DI roots dec).length=(Eo roots dec).length:=by rw[←Ly,Lm]
   have h3:=rK hrl;have h4:=Nm hr;rw[←hN]at h1;unfold Eo at h2;rw[Ad]at h2;omega
  cases hNc:N with
  |nil =>
   rw[hNc]at hN Ta;refine Acd roots C A s dec st q [] O rfl Ta ?_;rw[←hO];unfold C3;rw[←hN]
  |cons n0 l =>
   rw[hNc]at hN Ta;have hNx:=Kl hN.symm;rw[←hq]at hNx;have Oh:∀nd∈n0::l,nd∈DI roots dec:=fun nd h=>((hNx.mem nd).1 h).1;have Gs:=(Ct hx).1;have few:∀{E:List Cd},Ef x E→∀nd∈DI roots E,Cy nd.rq.set∧Bc (nd.place+1):=fun hE' nd h=>by
    rcases Ng h with ⟨k,r,h1,rfl⟩ | ⟨c,hc,k,r,h1,rfl⟩
    ·exact⟨(hE.fr r (Ay h1)).1,by unfold Bc;show -9223372036854775808≤(0:Int)+1∧(0:Int)+1<9223372036854775808;decide⟩
    ·have h2:=hE'.cand c hc;have h3:=sT (Gs _ h2.1);rw[←h2.2.2]at h3;exact⟨((hE.fx _ h2.1).2 r (Ay h1)).1,by unfold Bc;show _≤c.place+1∧c.place+1<_;omega⟩
   have qy:∀c∈BJ x q,Ef x (dec++[c])∧c.rel.path=q∧c.rel∈x:=fun c hc=>by
    obtain⟨c1,c2⟩:=I5 hc;exact⟨hd.snoc c2 (by rw[c1];exact hNx.undone),c1,c2.1⟩
   have FN:∀(i:Nat) (h:i<(BJ x q).length),(BJ x q)[i]∈BJ x q:=fun i h=>Aj h;obtain⟨V,hV⟩:=hE.av q
   have hL:yK x roots C A n dec q n0 l V (BJ x q):={
    hx:=hx
    hr:=hr
    hdl:=Aar
    hcl:=Bf (Wy x q) VV.1
    hcs:=rfl
    hnl:=by rw[hNc]at vd;omega
    hnq:=fun nd h=>(few hd nd (Oh nd h)).1
    hnp:=fun nd h=>(few hd nd (Oh nd h)).2
    hex:=fun i h nd hm hh=>by
     obtain⟨a,b,_⟩:=qy _ (FN i h);exact⟨(Qr hx hr a (OY (Oh nd hm)) ⟨(BJ x q)[i],by simp,b.trans ((hNx.mem nd).1 hm).2.symm,hh⟩).1,trivial⟩
    hcx:=fun i h nc hc=>by
     obtain⟨a,b,_⟩:=qy _ (FN i h);obtain⟨m1,m2⟩:=LW hc;exact⟨(Qr hx hr a (NM m1) m2).1,trivial⟩
    hcq:=fun i h nc hm=>(few (qy _ (FN i h)).1 nc (NM hm)).1
    hcp_:=fun i h nc hm=>(few (qy _ (FN i h)).1 nc (NM hm)).2
    hcr:=fun i h=>by have:=VV.2 _ (qy _ (FN i h)).2.2;omega
    hcs_:=fun i h r hm=>((hE.fx _ (qy _ (FN i h)).2.2).2 r hm).1
    hkey:=fun i h=>by
     have b:=(qy _ (FN i h)).2.1;unfold AD;rw[As,As];show _=_++[[vs (BJ x q)[i].rel.path,vi (BJ x q)[i].rel.ver.a,vi (BJ x q)[i].rel.ver.b,vi (BJ x q)[i].rel.ver.c]];rw[b]
    hinf0:=(Tt hx hr hd (Oh n0 (Aa ..)) (.inl (by
     rw[((hNx.mem n0).1 (Aa ..)).2];exact Im (by rw[Gq];exact hNx.undone)))).inf
    hV:=hV
    ih:=fun c hc AaL S EA hl hS hSf=>by
     obtain⟨a,b,c3⟩:=qy c hc;obtain⟨k1,k2⟩:=I9.1 AaL;obtain⟨_,c2⟩:=I5 hc;have qx:=gG.snoc hNx b k1 k2;have i9:FM x (dec++[c])<n:=by have:=OM (dec:=dec) ⟨c2.1,c2.2.1⟩ (by rw[b];exact hNx.undone);omega
     have h1:=s45 hE rP n a qx hS hSf i9 (st:=EA) (by rw[hl];simp);have h2:=RV hx hr n a qx hS.der hSf i9 (st:=EA);exact⟨h1,⟨h2.der,QK n hS.nodup⟩,⟨h2.grow.len,fun e1 e2=>((h2.no e1).2.2 e2).1⟩,fun e1=>(h2.no e1).2.1⟩ }
   have hR:DX (C3 x roots n) x q (n0::l) n0 dec st (BJ x q) s [] []=O:=by
    rw[←hO]
    conv=>rhs;unfold C3
    rw[←hN,hq]
   by_cases hm:∀a,(Value.string q,a)∉C
   ·exact Aca x roots C A n s dec st q n0 l V (BJ x q) O O hL hs JU Ta (hE.c2 q hm) hm hR rfl
   ·exact Ac9 x roots C A n s dec st q n0 l V (BJ x q) O O hL hs JU Ta (hE.c1 q) hm hR rfl
end
theorem Acb{x:List Rl}{roots:List Rq}{C A:List (Value×AV)}(hE:yI x roots C A)(n:Nat){dec:List Cd}{s:SS}{st:List (List Sk)}(h1:Ef x dec)(h2:IM roots dec)(h3:Ky x roots s)(h4:s.full=false)(h5:FM x dec<n)(h6:st.length=dec.length) :
  A1 Tryz.prog 65 [.ref 1000 0] (Ak (JW roots C A s dec st) Af) (bC roots C A (C3 x roots n dec s st)) :=
 s45 hE (fun s dec st a b=>s64 roots C A s dec st (Bf (Nm hE.hr) Cl) a b) n h1 h2 h3 h4 h5 h6
end Go.Eng
