/- Lemmas 26. -/
import Derived.Test.YtkjhcikodmiceaaGreatDoorUA25
set_option maxHeartbeats 16000000
namespace Go.Eng
open Go.Proofs
variable {h:Nat->HO}(x:List Rl)(roots:List Rq)(C A:List (Value×AV))(n:Nat)(s:SS)(y:List Rl)(dec:List Cd)(j:Nat)(st:List (List Sk))(p:ByteArray)(n0:Nd)(l:List Nd)(V:AV)(cs:List Cd)(R O:Jm)
theorem Zl{α:Type}(o:Option α):(∃x,o=some x)\/o=none:=by
 cases o<;>simp_all
theorem rO{T st:List (List Sk)}{sk:List Sk}(h:T=st++[sk]):((T.map AU).take ((T.length:Int)-1).toNat)=st.map AU/\((T.length:Int)-1).toNat=st.length:=by
 simp_all
abbrev HV:Prop:=(∀a,(Value.string p,a)∈A->a=V)/\((∀a,(Value.string p,a)∉A)->V=nzA)/\∀h,PC 229 [vs p,str h V] (sl Am (EK p (Br x p)))
abbrev eB(n:Nd):Prop:=∀d,Bo x roots d (NZ n)=some (Ho n)
structure ux(x:List Rl)(roots:List Rq)(C A:List (Value×AV))(n:Nat)(dec:List Cd)(p:ByteArray)(n0:Nd)(l:List Nd)(V:AV)(cs:List Cd):Prop where
 hx:AC x=0
 hr:A8 roots=0
 hdl:dec.length<=256
 hcl:cs.length<=256
 hcs:cs=Bn x p
 hnl:(n0::l).length<9223372036854775807
 hnq:∀n∈n0::l,Cr n.rq.set
 hnp:∀n∈n0::l,AQ (n.place+1)
 hex:∀(i:Nat) (h:i<cs.length),∀nd∈n0::l,has nd.rq.set cs[i].place=false->eB x roots nd/\True
 hcx:∀(i:Nat) (h:i<cs.length) (nc:Nd),Dq dec cs[i]=some nc->eB x roots nc/\True
 hcq:∀(i:Nat) (h:i<cs.length) (nc:Nd),nc∈Pi cs[i]->Cr nc.rq.set
 hcp_:∀(i:Nat) (h:i<cs.length) (nc:Nd),nc∈Pi cs[i]->AQ (nc.place+1)
 hcr:∀(i:Nat) (h:i<cs.length),cs[i].rel.reqs.length<=1073741824
 hcs_:∀(i:Nat) (h:i<cs.length),∀q∈cs[i].rel.reqs,Cr q.set
 hkey:∀(i:Nat) (h:i<cs.length),(At dec).map Ah++[[vs p,vi cs[i].rel.ver.a,vi cs[i].rel.ver.b,vi cs[i].rel.ver.c]]=(At (dec++[cs[i]])).map Ah
 hinf0:eB x roots n0
 hV:HV x A p V
 ih:∀c∈Bn x p,dj dec (n0::l) c=true->∀(S:SS) (DV : List (List Sk)),DV.length=dec.length+1->JP x roots S->S.full=false ->
  AW Tryz.prog 82 [.ref 1000 0] (Ae (Ik roots C A S (dec++[c]) DV) Ab) (Yd roots C A (B8 x roots n (dec++[c]) S DV))/\JP x roots (B8 x roots n (dec++[c]) S DV).ss /\
  (S.drv.length<=(B8 x roots n (dec++[c]) S DV).ss.drv.length/\((B8 x roots n (dec++[c]) S DV).found=false->(B8 x roots n (dec++[c]) S DV).ss.full=false->(B8 x roots n (dec++[c]) S DV).res<(B8 x roots n (dec++[c]) S DV).ss.drv.length)) /\
  ((B8 x roots n (dec++[c]) S DV).found=false->(B8 x roots n (dec++[c]) S DV).stack=DV)
theorem yw(hL:ux x roots C A n dec p n0 l V cs)(hs:JP x roots s)(HF:st.length=dec.length)(Qo:AW Tryz.prog 148 [.ref 1000 0] (Ae (Ik roots C A s dec st) Ab) fun r h'=>r=.tup [vs p,sl A9 (n0::l)]/\h'=Ae (Ik roots C A s dec st) Ab)(hC1:∀a,(Value.string p,a)∈C->a=sl Ax cs)(vQ:¬∀a,(Value.string p,a)∉C)(hR:Dg (B8 x roots n) x p (n0::l) n0 dec st cs s [] []=R)(ai:O=R) :
  AW Tryz.prog 82 [.ref 1000 0] (Ae (Ik roots C A s dec st) Ab) (Yd roots C A O):=by
 obtain⟨hx,hr,hdl,hcl,hcs,hnl,hnq,hnp,hex,hcx,hcq,hcp_,hcr,hcs_,hkey,hinf0,⟨q8,q9,ra⟩,ih⟩:=hL;have rn:∀(i:Nat) (h:i<cs.length),cs[i]∈Bn x p:=fun i h=>by simp_all
 have oz:∀(i:Nat) (h:i<cs.length),Cr (At (dec++[cs[i]])):=fun i h=>by grind
 clear hcs
 refine A7 (H5 ⟨[9],[(6,1),(7,3),(145,1)],[],[],[],[],[],[],[(60,3),(101,3)],[(300001,500091000),(300026,500091000),(300029,500091000)],[1,5,12,15,17,21,23,24,25,26,28,29,31,32,33]⟩) [(1000,1000),(1001,1001),(1002,1002),(1003,1003),(1004,1004),(500,2000)] rfl Bu hm rfl Tryz.func82 aa0 rfl (Nz rfl) aa0 rfl (Yi (show st.length=(st.map AU).length by simp) (cU [(0,.ref 1000 0)] [(500,.arr 1 (st.map AU)),(1000,.cells (srM roots C A s dec 500 st.length)),(1001,.tok 6 s.infs.length),(1002,.tok 1 s.drv.length),(1003,.map EX (E0 0 s.infs)),(1004,.dead)] Z1 Z6 (Xi (.gen Yb 0) (Yi rfl (AW.imp Qo ?_)))));intro v1 g1 q1;have lK:=q1.1;have lL:=q1.2;subst lK;subst lL;refine Yi (fun h2=>?_) (fun h2=>?_)
 .exact absurd h2 (by grind)
 refine cU [(0,.ref 1000 0),(4,vs p),(5,sl A9 (n0::l)),(6,.slice (.id 6 1) [])] [(6,.tok 1 0),(500,.arr 1 (st.map AU)),(1000,.cells (srM roots C A s dec 500 st.length)),(1001,.tok 6 s.infs.length),(1002,.tok 1 s.drv.length),(1003,.map EX (E0 0 s.infs)),(1004,.dead)] Z4 Z7 (Yi (fun a ha=>?_) (fun NW=>?_))
 .have ea:=hC1 a ha;subst ea;refine Xi {q:Nat×SS×List Nat×List Sk // q.1<=cs.length/\Dg (B8 x roots n) x p (n0::l) n0 dec st (cs.drop q.1) q.2.1 q.2.2.1 q.2.2.2=R/\JP x roots q.2.1/\(∀r∈q.2.2.1,r<q.2.1.drv.length)/\q.2.2.1.length<=q.1/\q.2.2.2.length<=q.1} (Xi (fun q=>⟨[(0,.ref 1000 0),(4,vs p),(5,sl A9 (n0::l)),(6,.slice (.id 6 1) (q.1.2.2.1.map B3)),(7,.slice (.id 7 3) (q.1.2.2.2.map Ay)),(32,sl Ax cs),(33,vi (cs.map Ax).length),(34,vi q.1.1)],[(6,.tok 1 q.1.2.2.1.length),(7,.tok 3 q.1.2.2.2.length),(500,.arr 1 (st.map AU)),(1000,.cells (srM roots C A q.1.2.1 dec 500 st.length)),(1001,.tok 6 q.1.2.1.infs.length),(1002,.tok 1 q.1.2.1.drv.length),(1003,.map EX (E0 0 q.1.2.1.infs)),(1004,.dead)],Ab⟩) (Xi (fun q=>cs.length-q.1.1) (Yi (Xi ⟨(0,s,[],[]),Ar _,hR,hs,fun r h=>(by cases h),Ai _,Ai _⟩ ?_) ?_)))
  .exact⟨Z8,Z8,Fh,Be aa0⟩
  intro⟨⟨i,S,rs,sk⟩,j1,j2,j3,j4,j5,j6⟩;have j5:rs.length<=i:=j5;have j6:sk.length<=i:=j6;have hw:=j3.dl;have dZ:∀t∈S.drv,UO t:=fun t ht=>by have q:=j3.der.few hx hr t ht;grind
  refine Yi (fun h3=>?_) (fun h3=>?_)
  .have h3:(i:Int)<((cs.map Ax).length:Int):=h3;have n3:=Jb h3;refine Xi (Ax cs[i]) (Yi (N0 n3) (Yi rfl (yN (yN (Yi (fun h4=>?_) (fun h4=>?_))))))
   .have eR:R=⟨0,false,S,dec,st⟩:=by rw[<-j2];exact jV n3 h4
    exact Xi _ (Yi (.refl _) (MC (ai.trans eR)))
   have YP:=s86 (fF:=150) (caps:=[.cptr (Ax cs[i])]) (fun c hc=>by obtain rfl:=AB.1 hc;intro h;rfl) (n0::l) (fun n=>!has n.rq.set cs[i].place) (fun n hn=>s87 n cs[i] (hnq n hn)) hnl;refine Bs (cD (fun n=>!has n.rq.set cs[i].place) (n0::l)) (fun h6=>?_) (fun h6=>?_)
   .refine AJ h6 (fun xv h6=>AJ h6 (fun nd h6=>?_));rw[h6.1]at YP;refine Xi .pure (Xi _ (Yi YP (cU [(0,.ref 1000 0),(4,vs p),(5,sl A9 (n0::l)),(6,.slice (.id 6 1) (rs.map B3)),(7,.slice (.id 7 3) (sk.map Ay)),(9,.ref 9 0),(10,vi (xv:Nat)),(32,sl Ax cs),(33,vi (cs.map Ax).length),(34,vi i)] [(6,.tok 1 rs.length),(7,.tok 3 sk.length),(9,.ro (Ax cs[i])),(500,.arr 1 (st.map AU)),(1000,.cells (srM roots C A S dec 500 st.length)),(1001,.tok 6 S.infs.length),(1002,.tok 1 S.drv.length),(1003,.map EX (E0 0 S.infs)),(1004,.dead)] Z10 Z9 (Yi (fun _=>?_) (fun hf=>absurd (show(0:Int)<=((xv:Nat):Int) by omega) hf)))));refine Xi (A9 nd) (Yi (Yi (show(0:Int)<=((xv:Nat):Int) by omega) (EE h6.2.1)) (Yi rfl (yN ?_)));have ov:=hex i n3 nd (BO h6.2.2) (by grind);obtain⟨b1,b2,b3⟩:=j3.add (ov.1 S.drv)
    change JP x roots (Bk S nd).2 at b1
    change (Bk S nd).1<(Bk S nd).2.drv.length at b2
    change S.drv.length<=(Bk S nd).2.drv.length at b3
    refine Xi (.gen Yb 0) (Yi rfl (AW.imp (yB roots C A S dec st nd hw.1 hw.2.1 j3.nodup (hnq nd (Aq h6.2.1)) (hnp nd (Aq h6.2.1))) ?_));intro v7 g7 q7;have q7a:=q7.1;have q7b:=q7.2;subst q7a;subst q7b;refine Yi (X2 rfl ch Wk) (Yi (Ii i ch) ?_);have WX:S.full=false:=by omega
    have eN:Dg (B8 x roots n) x p (n0::l) n0 dec st (cs.drop (i+1)) (Bk S nd).2 (rs++[(Bk S nd).1]) sk=R:=by rw[<-qG n3 WX h6.2.2];exact j2
    refine Xi ⟨(i+1,(Bk S nd).2,rs++[(Bk S nd).1],sk),ER n3,eN,b1,fun r h=>(Bc.1 h).elim (fun h=>AR (j4 r h) b3) (fun h=>by simp_all),(by simp_all),Nat.le_succ_of_le j6⟩ ?_;exact⟨Dl cs.length i ch,⟨Zr,Zr,Zr,⟨(show AV.slice (.id 6 1) (rs.map B3++[[vi (((Bk S nd).1:Nat):Int)]])=.slice (.id 6 1) ((rs++[(Bk S nd).1]).map B3) by simp_all),rfl⟩,Zr,Zr,Zr,Zr,Tv⟩,⟨⟨(show HO.tok 1 ((rs.map B3).length+([[vi (((Bk S nd).1:Nat):Int)]]:List (List AV)).length)=.tok 1 (rs++[(Bk S nd).1]).length by simp),rfl⟩,Zr,Zr,Zr,Zr,Zr,Zr,Zr,Tv⟩,Fh,Be aa0⟩
   skip
   rw[h6.1]at YP;refine Xi .pure (Xi _ (Yi YP (cU [(0,.ref 1000 0),(4,vs p),(5,sl A9 (n0::l)),(6,.slice (.id 6 1) (rs.map B3)),(7,.slice (.id 7 3) (sk.map Ay)),(9,.ref 9 0),(10,vi (-1)),(32,sl Ax cs),(33,vi (cs.map Ax).length),(34,vi i)] [(6,.tok 1 rs.length),(7,.tok 3 sk.length),(9,.ro (Ax cs[i])),(500,.arr 1 (st.map AU)),(1000,.cells (srM roots C A S dec 500 st.length)),(1001,.tok 6 S.infs.length),(1002,.tok 1 S.drv.length),(1003,.map EX (E0 0 S.infs)),(1004,.dead)] Z10 Z9 (Yi (fun h=>absurd h Wk) (fun _=>?_)))));refine Xi _ (Xi _ (Yi aa0 (Yi (nQ (At dec) (by grind)) (yN ?_))));have X1:BJ 4 [[vs p,vi cs[i].rel.ver.a,vi cs[i].rel.ver.b,vi cs[i].rel.ver.c]]/\((At dec).map Ah).length=((At dec).map Ah).length/\(((At dec).map Ah).length+([[vs p,vi cs[i].rel.ver.a,vi cs[i].rel.ver.b,vi cs[i].rel.ver.c]]:List (List AV)).length)*40<=140737488355328/\((At dec).map Ah).length+([[vs p,vi cs[i].rel.ver.a,vi cs[i].rel.ver.b,vi cs[i].rel.ver.c]]:List (List AV)).length<=9223372036854775807:=⟨⟨rfl,trivial⟩,rfl,(by grind),(by grind)⟩;refine Yi X1 (Yi aa0 (cU [(0,.ref 1000 0),(4,vs p),(5,sl A9 (n0::l)),(6,.slice (.id 6 1) (rs.map B3)),(7,.slice (.id 7 3) (sk.map Ay)),(9,.ref 9 0),(11,.slice (.id 16000 4) ((At (dec++[cs[i]])).map Ah)),(32,sl Ax cs),(33,vi (cs.map Ax).length),(34,vi i)] [(6,.tok 1 rs.length),(7,.tok 3 sk.length),(9,.ro (Ax cs[i])),(500,.arr 1 (st.map AU)),(1000,.cells (srM roots C A S dec 500 st.length)),(1001,.tok 6 S.infs.length),(1002,.tok 1 S.drv.length),(1003,.map EX (E0 0 S.infs)),(1004,.dead),(16000,.tok 4 ((At (dec++[cs[i]])).map Ah).length)] ⟨Zr,Zr,Zr,Zr,Zr,Zr,⟨(show(.slice (.id 16000 4) (((At dec).map Ah)++[[vs p,vi cs[i].rel.ver.a,vi cs[i].rel.ver.b,vi cs[i].rel.ver.c]]):AV)=.slice (.id 16000 4) ((At (dec++[cs[i]])).map Ah) by grind),rfl⟩,Zr,Zr,Zr,Tv⟩ ⟨Zr,Zr,Zr,Zr,Zr,Zr,Zr,Zr,Zr,⟨(show(.tok 4 (((At dec).map Ah).length+([[vs p,vi cs[i].rel.ver.a,vi cs[i].rel.ver.b,vi cs[i].rel.ver.c]]:List (List AV)).length):HO)=.tok 4 ((At (dec++[cs[i]])).map Ah).length by simp_all),rfl⟩,Tv⟩ ?_))
   have J8:=s89 roots C A S dec st (At (dec++[cs[i]])) hw.2.2 dZ (oz i n3);refine Bs (Zl (MM S.drv (At (dec++[cs[i]])))) (fun HI=>?_) (fun HI=>?_)
   .refine AJ HI (fun ke HI=>?_);have eV:fH S.drv (At (dec++[cs[i]]))=.tup [vi (ke:Nat),vb true]:=by simp_all
    rw[eV]at J8;refine Xi (.gen Yb 0) (Yi rfl (AW.imp J8 ?_));intro v12 g12 Oi;have pg:=Oi.1;have ph:=Oi.2;subst pg;subst ph;refine yN ?_;have Vm:=s69 roots C A S dec st cs[i] ch (hcr i n3) (hcs_ i n3);refine Bs (Zl (Dq dec cs[i])) (fun af=>?_) (fun af=>?_)
    .refine AJ af (fun nc af=>?_);have eW:nU (Dq dec cs[i])=.tup [.agg (A9 nc),vb true]:=by rw[af];rfl
     rw[eW]at Vm;refine Xi (.gen Yb 0) (Yi rfl (AW.imp Vm ?_));intro v14 g14 q14;have xK:=q14.1;have xL:=q14.2;subst xK;subst xL;refine yN (cU [(0,.ref 1000 0),(4,vs p),(5,sl A9 (n0::l)),(6,.slice (.id 6 1) (rs.map B3)),(7,.slice (.id 7 3) (sk.map Ay)),(9,.ref 9 0),(11,.slice (.id 16000 4) ((At (dec++[cs[i]])).map Ah)),(12,vi (ke:Nat)),(13,vb true),(14,.ref 14 0),(15,vb true),(32,sl Ax cs),(33,vi (cs.map Ax).length),(34,vi i)] [(6,.tok 1 rs.length),(7,.tok 3 sk.length),(9,.ro (Ax cs[i])),(14,.cells (A9 nc)),(500,.arr 1 (st.map AU)),(1000,.cells (srM roots C A S dec 500 st.length)),(1001,.tok 6 S.infs.length),(1002,.tok 1 S.drv.length),(1003,.map EX (E0 0 S.infs)),(1004,.dead),(16000,.tok 4 ((At (dec++[cs[i]])).map Ah).length)] ⟨Zr,Zr,Zr,Zr,Zr,Zr,Zr,Zr,Zr,Zr,Zr,Zr,Zr,Zr,Tv⟩ Z11 (cU [(0,.ref 1000 0),(4,vs p),(5,sl A9 (n0::l)),(6,.slice (.id 6 1) (rs.map B3)),(7,.slice (.id 7 3) (sk.map Ay)),(9,.ref 9 0),(12,vi (ke:Nat)),(32,sl Ax cs),(33,vi (cs.map Ax).length),(34,vi i)] [(6,.tok 1 rs.length),(7,.tok 3 sk.length),(9,.ro (Ax cs[i])),(500,.arr 1 (st.map AU)),(1000,.cells (srM roots C A S dec 500 st.length)),(1001,.tok 6 S.infs.length),(1002,.tok 1 S.drv.length),(1003,.map EX (E0 0 S.infs)),(1004,.dead)] Z10 Z9 (Xi (Ap (DF S ke)) (Yi (Yi (show(0:Int)<=((ke:Nat):Int) by omega) (EE (Eu (Js HI).1))) (Yi rfl ?_)))));have WX:S.full=false:=by omega
     have V2:ke<S.drv.length:=(Js HI).1;have ar:=j3.der.few hx hr;refine Bs (Bt (CY (DF S ke) p)) (fun WS=>?_) (fun WS=>?_)
     .refine Xi .pure (Xi _ (Yi (cb WS (jy (DF S ke) p (Fs (ar _ (Aq (Eu V2)))))) (cU [(0,.ref 1000 0),(4,vs p),(5,sl A9 (n0::l)),(6,.slice (.id 6 1) (rs.map B3)),(7,.slice (.id 7 3) (sk.map Ay)),(9,.ref 9 0),(12,vi (ke:Nat)),(32,sl Ax cs),(33,vi (cs.map Ax).length),(34,vi i)] [(6,.tok 1 rs.length),(7,.tok 3 sk.length),(9,.ro (Ax cs[i])),(500,.arr 1 (st.map AU)),(1000,.cells (srM roots C A S dec 500 st.length)),(1001,.tok 6 S.infs.length),(1002,.tok 1 S.drv.length),(1003,.map EX (E0 0 S.infs)),(1004,.dead)] Z10 Z9 (Yi (X2 rfl ch Wk) (Yi (X2 rfl ch Wk) (Yi (Ii i ch) ?_))))));have eA:=(U6 (rec:=B8 x roots n) (x:=x) (p:=p) (n0:=n0) (st:=st) (rs:=rs) (sk:=sk) n3 WX h6.2 HI);have eN:Dg (B8 x roots n) x p (n0::l) n0 dec st (cs.drop (i+1)) S (rs++[ke]) (sk++[(⟨p,cs[i].place,(ke:Nat)⟩:Sk)])=R:=by rw[<-UU (c:=cs[i]) WS,<-eA];exact j2
      refine Xi ⟨(i+1,S,rs++[ke],sk++[(⟨p,cs[i].place,(ke:Nat)⟩:Sk)]),ER n3,eN,j3,fun r h=>(Bc.1 h).elim ((fun r h=>j4 r h) r) (fun h=>by simp_all),(by simp_all),(by simp_all)⟩ ?_;exact⟨Dl cs.length i ch,⟨Zr,Zr,Zr,⟨(show AV.slice (.id 6 1) (rs.map B3++[[vi ((ke:Nat):Int)]])=.slice (.id 6 1) ((rs++[ke]).map B3) by simp_all),rfl⟩,⟨(show AV.slice (.id 7 3) (sk.map Ay++[[vs p,vi cs[i].place,vi ((ke:Nat):Int)]])=.slice (.id 7 3) ((sk++[(⟨p,cs[i].place,(ke:Nat)⟩:Sk)]).map Ay) by simp_all),rfl⟩,Zr,Zr,Zr,Tv⟩,⟨⟨(show HO.tok 1 ((rs.map B3).length+([[vi ((ke:Nat):Int)]]:List (List AV)).length)=.tok 1 (rs++[ke]).length by simp),rfl⟩,⟨(show HO.tok 3 ((sk.map Ay).length+([[vs p,vi cs[i].place,vi ((ke:Nat):Int)]]:List (List AV)).length)=.tok 3 (sk++[(⟨p,cs[i].place,(ke:Nat)⟩:Sk)]).length by simp),rfl⟩,Zr,Zr,Zr,Zr,Zr,Zr,Tv⟩,Fh,Be aa0⟩
     refine Xi .pure (Xi _ (Yi (cb WS (jy (DF S ke) p (Fs (ar _ (Aq (Eu V2)))))) (cU [(12,vi (ke:Nat))] [(500,.arr 1 (st.map AU)),(1000,.cells (srM roots C A S dec 500 st.length)),(1001,.tok 6 S.infs.length),(1002,.tok 1 S.drv.length),(1003,.map EX (E0 0 S.infs)),(1004,.dead)] Z1 Z6 ?_)))
     have eA:=(U6 (rec:=B8 x roots n) (x:=x) (p:=p) (n0:=n0) (st:=st) (rs:=rs) (sk:=sk) n3 WX h6.2 HI);have eR:R=⟨ke,false,S,dec,st⟩:=by rw[<-j2];rw[eA];exact ZN WS
     exact Xi _ (Yi (.refl _) (MC (ai.trans eR)))
    skip
    have eW:nU (Dq dec cs[i])=.tup [.agg [vs ⟨#[]⟩,nzA,vs ⟨#[]⟩,vi 0,vi 0],vb false]:=by rw[af];rfl
    rw[eW]at Vm;refine Xi (.gen Yb 0) (Yi rfl (AW.imp Vm ?_));intro v20 g20 q20;have xM:=q20.1;have xN:=q20.2;subst xM;subst xN;refine yN (cU [(0,.ref 1000 0),(4,vs p),(5,sl A9 (n0::l)),(6,.slice (.id 6 1) (rs.map B3)),(7,.slice (.id 7 3) (sk.map Ay)),(9,.ref 9 0),(11,.slice (.id 16000 4) ((At (dec++[cs[i]])).map Ah)),(12,vi (ke:Nat)),(13,vb true),(14,.ref 14 0),(15,vb false),(32,sl Ax cs),(33,vi (cs.map Ax).length),(34,vi i)] [(6,.tok 1 rs.length),(7,.tok 3 sk.length),(9,.ro (Ax cs[i])),(14,.cells [vs ⟨#[]⟩,nzA,vs ⟨#[]⟩,vi 0,vi 0]),(500,.arr 1 (st.map AU)),(1000,.cells (srM roots C A S dec 500 st.length)),(1001,.tok 6 S.infs.length),(1002,.tok 1 S.drv.length),(1003,.map EX (E0 0 S.infs)),(1004,.dead),(16000,.tok 4 ((At (dec++[cs[i]])).map Ah).length)] ⟨Zr,Zr,Zr,Zr,Zr,Zr,Zr,Zr,Zr,Zr,Zr,Zr,Zr,Zr,Tv⟩ Z11 (cU [(0,.ref 1000 0),(4,vs p),(5,sl A9 (n0::l)),(6,.slice (.id 6 1) (rs.map B3)),(7,.slice (.id 7 3) (sk.map Ay)),(9,.ref 9 0),(12,vi (ke:Nat)),(32,sl Ax cs),(33,vi (cs.map Ax).length),(34,vi i)] [(6,.tok 1 rs.length),(7,.tok 3 sk.length),(9,.ro (Ax cs[i])),(500,.arr 1 (st.map AU)),(1000,.cells (srM roots C A S dec 500 st.length)),(1001,.tok 6 S.infs.length),(1002,.tok 1 S.drv.length),(1003,.map EX (E0 0 S.infs)),(1004,.dead)] Z10 Z9 (Xi (Ap (DF S ke)) (Yi (Yi (show(0:Int)<=((ke:Nat):Int) by omega) (EE (Eu (Js HI).1))) (Yi rfl ?_)))));have WX:S.full=false:=by omega
    have V2:ke<S.drv.length:=(Js HI).1;have ar:=j3.der.few hx hr;refine Bs (Bt (CY (DF S ke) p)) (fun qU=>?_) (fun qU=>?_)
    .refine Xi .pure (Xi _ (Yi (cb qU (jy (DF S ke) p (Fs (ar _ (Aq (Eu V2)))))) (cU [(0,.ref 1000 0),(4,vs p),(5,sl A9 (n0::l)),(6,.slice (.id 6 1) (rs.map B3)),(7,.slice (.id 7 3) (sk.map Ay)),(9,.ref 9 0),(12,vi (ke:Nat)),(32,sl Ax cs),(33,vi (cs.map Ax).length),(34,vi i)] [(6,.tok 1 rs.length),(7,.tok 3 sk.length),(9,.ro (Ax cs[i])),(500,.arr 1 (st.map AU)),(1000,.cells (srM roots C A S dec 500 st.length)),(1001,.tok 6 S.infs.length),(1002,.tok 1 S.drv.length),(1003,.map EX (E0 0 S.infs)),(1004,.dead)] Z10 Z9 (Yi (X2 rfl ch Wk) (Yi (X2 rfl ch Wk) (Yi (Ii i ch) ?_))))));have eA:=(U6 (rec:=B8 x roots n) (x:=x) (p:=p) (n0:=n0) (st:=st) (rs:=rs) (sk:=sk) n3 WX h6.2 HI);have eN:Dg (B8 x roots n) x p (n0::l) n0 dec st (cs.drop (i+1)) S (rs++[ke]) (sk++[(⟨p,cs[i].place,(ke:Nat)⟩:Sk)])=R:=by rw[<-UU (c:=cs[i]) qU,<-eA];exact j2
     refine Xi ⟨(i+1,S,rs++[ke],sk++[(⟨p,cs[i].place,(ke:Nat)⟩:Sk)]),ER n3,eN,j3,fun r h=>(Bc.1 h).elim ((fun r h=>j4 r h) r) (fun h=>by simp_all),(by simp_all),(by simp_all)⟩ ?_;exact⟨Dl cs.length i ch,⟨Zr,Zr,Zr,⟨(show AV.slice (.id 6 1) (rs.map B3++[[vi ((ke:Nat):Int)]])=.slice (.id 6 1) ((rs++[ke]).map B3) by simp_all),rfl⟩,⟨(show AV.slice (.id 7 3) (sk.map Ay++[[vs p,vi cs[i].place,vi ((ke:Nat):Int)]])=.slice (.id 7 3) ((sk++[(⟨p,cs[i].place,(ke:Nat)⟩:Sk)]).map Ay) by simp_all),rfl⟩,Zr,Zr,Zr,Tv⟩,⟨⟨(show HO.tok 1 ((rs.map B3).length+([[vi ((ke:Nat):Int)]]:List (List AV)).length)=.tok 1 (rs++[ke]).length by simp),rfl⟩,⟨(show HO.tok 3 ((sk.map Ay).length+([[vs p,vi cs[i].place,vi ((ke:Nat):Int)]]:List (List AV)).length)=.tok 3 (sk++[(⟨p,cs[i].place,(ke:Nat)⟩:Sk)]).length by simp),rfl⟩,Zr,Zr,Zr,Zr,Zr,Zr,Tv⟩,Fh,Be aa0⟩
    refine Xi .pure (Xi _ (Yi (cb qU (jy (DF S ke) p (Fs (ar _ (Aq (Eu V2)))))) (cU [(12,vi (ke:Nat))] [(500,.arr 1 (st.map AU)),(1000,.cells (srM roots C A S dec 500 st.length)),(1001,.tok 6 S.infs.length),(1002,.tok 1 S.drv.length),(1003,.map EX (E0 0 S.infs)),(1004,.dead)] Z1 Z6 ?_)))
    have eA:=(U6 (rec:=B8 x roots n) (x:=x) (p:=p) (n0:=n0) (st:=st) (rs:=rs) (sk:=sk) n3 WX h6.2 HI);have eR:R=⟨ke,false,S,dec,st⟩:=by rw[<-j2];rw[eA];exact ZN qU
    exact Xi _ (Yi (.refl _) (MC (ai.trans eR)))
   skip
   have eV:fH S.drv (At (dec++[cs[i]]))=.tup [vi 0,vb false]:=by simp_all
   rw[eV]at J8;refine Xi (.gen Yb 0) (Yi rfl (AW.imp J8 ?_));intro v26 g26 q26;have xO:=q26.1;have xP:=q26.2;subst xO;subst xP;refine yN ?_;have Vm:=s69 roots C A S dec st cs[i] ch (hcr i n3) (hcs_ i n3);refine Bs (Zl (Dq dec cs[i])) (fun YL=>?_) (fun YL=>?_)
   .refine AJ YL (fun nc YL=>?_);have eW:nU (Dq dec cs[i])=.tup [.agg (A9 nc),vb true]:=by rw[YL];rfl
    rw[eW]at Vm;refine Xi (.gen Yb 0) (Yi rfl (AW.imp Vm ?_));intro v28 g28 q28;have xQ:=q28.1;have xR:=q28.2;subst xQ;subst xR;refine yN (cU [(0,.ref 1000 0),(4,vs p),(5,sl A9 (n0::l)),(6,.slice (.id 6 1) (rs.map B3)),(7,.slice (.id 7 3) (sk.map Ay)),(9,.ref 9 0),(11,.slice (.id 16000 4) ((At (dec++[cs[i]])).map Ah)),(12,vi 0),(13,vb false),(14,.ref 14 0),(15,vb true),(32,sl Ax cs),(33,vi (cs.map Ax).length),(34,vi i)] [(6,.tok 1 rs.length),(7,.tok 3 sk.length),(9,.ro (Ax cs[i])),(14,.cells (A9 nc)),(500,.arr 1 (st.map AU)),(1000,.cells (srM roots C A S dec 500 st.length)),(1001,.tok 6 S.infs.length),(1002,.tok 1 S.drv.length),(1003,.map EX (E0 0 S.infs)),(1004,.dead),(16000,.tok 4 ((At (dec++[cs[i]])).map Ah).length)] ⟨Zr,Zr,Zr,Zr,Zr,Zr,Zr,Zr,Zr,Zr,Zr,Zr,Zr,Zr,Tv⟩ Z11 (yN ?_));have ov:=hcx i n3 nc YL;obtain⟨b1,b2,b3⟩:=j3.add (ov.1 S.drv)
    change JP x roots (Bk S nc).2 at b1
    change (Bk S nc).1<(Bk S nc).2.drv.length at b2
    change S.drv.length<=(Bk S nc).2.drv.length at b3
    refine Xi (.gen Yb 0) (Yi rfl (AW.imp (yB roots C A S dec st nc hw.1 hw.2.1 j3.nodup (hcq i n3 nc (JV YL).1) (hcp_ i n3 nc (JV YL).1)) ?_));intro v29 g29 q29;have xS:=q29.1;have xT:=q29.2;subst xS;subst xT;refine cU [(0,.ref 1000 0),(4,vs p),(5,sl A9 (n0::l)),(6,.slice (.id 6 1) (rs.map B3)),(7,.slice (.id 7 3) (sk.map Ay)),(9,.ref 9 0),(12,vi ((Bk S nc).1:Nat)),(32,sl Ax cs),(33,vi (cs.map Ax).length),(34,vi i)] [(6,.tok 1 rs.length),(7,.tok 3 sk.length),(9,.ro (Ax cs[i])),(500,.arr 1 (st.map AU)),(1000,.cells [sl Ac roots,.cmap BS C,.cmap BS A,.slice (.id 1001 6) ((Bk S nc).2.infs.map AG),.slice (.id 1002 1) ((Bk S nc).2.drv.map Ap),.mref 1003,vb (Bk S nc).2.full,sl Ax dec,sl Ah (At dec),.msl 500 st.length]),(1001,.tok 6 (Bk S nc).2.infs.length),(1002,.tok 1 (Bk S nc).2.drv.length),(1003,.map EX (E0 0 (Bk S nc).2.infs)),(1004,.dead)] Z10 Z9 (Xi (Ap (DF (Bk S nc).2 (Bk S nc).1)) (Yi (Yi (show(0:Int)<=(((Bk S nc).1:Nat):Int) by omega) (EE (Eu b2))) (Yi rfl ?_)));have WX:S.full=false:=by omega
    have V2:(Bk S nc).1<(Bk S nc).2.drv.length:=b2;have ar:=b1.der.few hx hr;refine Bs (Bt (CY (DF (Bk S nc).2 (Bk S nc).1) p)) (fun YM=>?_) (fun YM=>?_)
    .refine Xi .pure (Xi _ (Yi (cb YM (jy (DF (Bk S nc).2 (Bk S nc).1) p (Fs (ar _ (Aq (Eu V2)))))) (cU [(0,.ref 1000 0),(4,vs p),(5,sl A9 (n0::l)),(6,.slice (.id 6 1) (rs.map B3)),(7,.slice (.id 7 3) (sk.map Ay)),(9,.ref 9 0),(12,vi ((Bk S nc).1:Nat)),(32,sl Ax cs),(33,vi (cs.map Ax).length),(34,vi i)] [(6,.tok 1 rs.length),(7,.tok 3 sk.length),(9,.ro (Ax cs[i])),(500,.arr 1 (st.map AU)),(1000,.cells [sl Ac roots,.cmap BS C,.cmap BS A,.slice (.id 1001 6) ((Bk S nc).2.infs.map AG),.slice (.id 1002 1) ((Bk S nc).2.drv.map Ap),.mref 1003,vb (Bk S nc).2.full,sl Ax dec,sl Ah (At dec),.msl 500 st.length]),(1001,.tok 6 (Bk S nc).2.infs.length),(1002,.tok 1 (Bk S nc).2.drv.length),(1003,.map EX (E0 0 (Bk S nc).2.infs)),(1004,.dead)] Z10 Z9 (Yi (X2 rfl ch Wk) (Yi (X2 rfl ch Wk) (Yi (Ii i ch) ?_))))));have eA:=(Wn (rec:=B8 x roots n) (x:=x) (p:=p) (n0:=n0) (st:=st) (rs:=rs) (sk:=sk) n3 WX h6.2 HI YL);have eN:Dg (B8 x roots n) x p (n0::l) n0 dec st (cs.drop (i+1)) (Bk S nc).2 (rs++[(Bk S nc).1]) (sk++[(⟨p,cs[i].place,((Bk S nc).1:Nat)⟩:Sk)])=R:=by rw[<-UU (c:=cs[i]) YM,<-eA];exact j2
     refine Xi ⟨(i+1,(Bk S nc).2,rs++[(Bk S nc).1],sk++[(⟨p,cs[i].place,((Bk S nc).1:Nat)⟩:Sk)]),ER n3,eN,b1,fun r h=>(Bc.1 h).elim ((fun r h=>AR (j4 r h) b3) r) (fun h=>by simp_all),(by simp_all),(by simp_all)⟩ ?_;exact⟨Dl cs.length i ch,⟨Zr,Zr,Zr,⟨(show AV.slice (.id 6 1) (rs.map B3++[[vi (((Bk S nc).1:Nat):Int)]])=.slice (.id 6 1) ((rs++[(Bk S nc).1]).map B3) by simp_all),rfl⟩,⟨(show AV.slice (.id 7 3) (sk.map Ay++[[vs p,vi cs[i].place,vi (((Bk S nc).1:Nat):Int)]])=.slice (.id 7 3) ((sk++[(⟨p,cs[i].place,((Bk S nc).1:Nat)⟩:Sk)]).map Ay) by simp_all),rfl⟩,Zr,Zr,Zr,Tv⟩,⟨⟨(show HO.tok 1 ((rs.map B3).length+([[vi (((Bk S nc).1:Nat):Int)]]:List (List AV)).length)=.tok 1 (rs++[(Bk S nc).1]).length by simp),rfl⟩,⟨(show HO.tok 3 ((sk.map Ay).length+([[vs p,vi cs[i].place,vi (((Bk S nc).1:Nat):Int)]]:List (List AV)).length)=.tok 3 (sk++[(⟨p,cs[i].place,((Bk S nc).1:Nat)⟩:Sk)]).length by simp),rfl⟩,Zr,Zr,Zr,Zr,Zr,Zr,Tv⟩,Fh,Be aa0⟩
    refine Xi .pure (Xi _ (Yi (cb YM (jy (DF (Bk S nc).2 (Bk S nc).1) p (Fs (ar _ (Aq (Eu V2)))))) (cU [(12,vi ((Bk S nc).1:Nat))] [(500,.arr 1 (st.map AU)),(1000,.cells [sl Ac roots,.cmap BS C,.cmap BS A,.slice (.id 1001 6) ((Bk S nc).2.infs.map AG),.slice (.id 1002 1) ((Bk S nc).2.drv.map Ap),.mref 1003,vb (Bk S nc).2.full,sl Ax dec,sl Ah (At dec),.msl 500 st.length]),(1001,.tok 6 (Bk S nc).2.infs.length),(1002,.tok 1 (Bk S nc).2.drv.length),(1003,.map EX (E0 0 (Bk S nc).2.infs)),(1004,.dead)] Z1 Z6 ?_)))
    have eA:=(Wn (rec:=B8 x roots n) (x:=x) (p:=p) (n0:=n0) (st:=st) (rs:=rs) (sk:=sk) n3 WX h6.2 HI YL);have eR:R=⟨(Bk S nc).1,false,(Bk S nc).2,dec,st⟩:=by rw[<-j2];rw[eA];exact ZN YM
    exact Xi _ (Yi (.refl _) (MC (ai.trans eR)))
   skip
   have eW:nU (Dq dec cs[i])=.tup [.agg [vs ⟨#[]⟩,nzA,vs ⟨#[]⟩,vi 0,vi 0],vb false]:=by rw[YL];rfl
   rw[eW]at Vm;refine Xi (.gen Yb 0) (Yi rfl (AW.imp Vm ?_));intro v35 g35 q35;have xW:=q35.1;have xX:=q35.2;subst xW;subst xX;refine yN (cU [(0,.ref 1000 0),(4,vs p),(5,sl A9 (n0::l)),(6,.slice (.id 6 1) (rs.map B3)),(7,.slice (.id 7 3) (sk.map Ay)),(9,.ref 9 0),(11,.slice (.id 16000 4) ((At (dec++[cs[i]])).map Ah)),(12,vi 0),(13,vb false),(14,.ref 14 0),(15,vb false),(32,sl Ax cs),(33,vi (cs.map Ax).length),(34,vi i)] [(6,.tok 1 rs.length),(7,.tok 3 sk.length),(9,.ro (Ax cs[i])),(14,.cells [vs ⟨#[]⟩,nzA,vs ⟨#[]⟩,vi 0,vi 0]),(500,.arr 1 (st.map AU)),(1000,.cells (srM roots C A S dec 500 st.length)),(1001,.tok 6 S.infs.length),(1002,.tok 1 S.drv.length),(1003,.map EX (E0 0 S.infs)),(1004,.dead),(16000,.tok 4 ((At (dec++[cs[i]])).map Ah).length)] ⟨Zr,Zr,Zr,Zr,Zr,Zr,Zr,Zr,Zr,Zr,Zr,Zr,Zr,Zr,Tv⟩ Z11 (Yi aa0 (cU [(0,.ref 1000 0),(4,vs p),(5,sl A9 (n0::l)),(6,.slice (.id 6 1) (rs.map B3)),(7,.slice (.id 7 3) (sk.map Ay)),(9,.ref 9 0),(11,.slice (.id 16000 4) ((At (dec++[cs[i]])).map Ah)),(16,sl Ax dec),(17,sl Ah (At dec)),(32,sl Ax cs),(33,vi (cs.map Ax).length),(34,vi i)] [(6,.tok 1 rs.length),(7,.tok 3 sk.length),(9,.ro (Ax cs[i])),(500,.arr 1 (st.map AU)),(1000,.cells (srM roots C A S dec 500 st.length)),(1001,.tok 6 S.infs.length),(1002,.tok 1 S.drv.length),(1003,.map EX (E0 0 S.infs)),(1004,.dead),(16000,.tok 4 ((At (dec++[cs[i]])).map Ah).length)] Z12 Z10 (Xi _ (Xi _ (Yi aa0 (Yi (s9 dec ch) (yN ?_))))))));have b36:BJ 10 [(Ax cs[i])]/\(dec.map Ax).length=(dec.map Ax).length/\((dec.map Ax).length+([(Ax cs[i])]:List (List AV)).length)*128<=140737488355328/\(dec.map Ax).length+([(Ax cs[i])]:List (List AV)).length<=9223372036854775807:=⟨⟨rfl,trivial⟩,rfl,(by grind),(by simp_all)⟩;refine Yi b36 (yN (yN (Yi aa0 ?_)));have b37:BJ 1 [[sl Ay sk]]/\(st.map AU).length=st.length/\((st.map AU).length+([[sl Ay sk]]:List (List AV)).length)*24<=140737488355328/\(st.map AU).length+([[sl Ay sk]]:List (List AV)).length<=9223372036854775807:=⟨⟨rfl,trivial⟩,(by simp_all),(by grind),(by simp_all)⟩;refine Yi b37 (yN (cU [(0,.ref 1000 0),(4,vs p),(5,sl A9 (n0::l)),(6,.slice (.id 6 1) (rs.map B3)),(7,.slice (.id 7 3) (sk.map Ay)),(9,.ref 9 0),(16,sl Ax dec),(17,sl Ah (At dec)),(32,sl Ax cs),(33,vi (cs.map Ax).length),(34,vi i)] [(6,.tok 1 rs.length),(7,.tok 3 sk.length),(9,.ro (Ax cs[i])),(500,.arr 1 ((st.map AU)++[[sl Ay sk]])),(1000,.cells [sl Ac roots,.cmap BS C,.cmap BS A,.slice (.id 1001 6) (S.infs.map AG),.slice (.id 1002 1) (S.drv.map Ap),.mref 1003,vb S.full,.slice (.id 20100 10) ((dec.map Ax)++[(Ax cs[i])]),.slice (.id 16000 4) ((At (dec++[cs[i]])).map Ah),.msl 500 ((st.map AU).length+([[sl Ay sk]]:List (List AV)).length)]),(1001,.tok 6 S.infs.length),(1002,.tok 1 S.drv.length),(1003,.map EX (E0 0 S.infs)),(1004,.dead),(16000,.tok 4 ((At (dec++[cs[i]])).map Ah).length),(20100,.tok 10 ((dec.map Ax).length+([(Ax cs[i])]:List (List AV)).length))] Z11 Z11 (cU [(0,.ref 1000 0),(4,vs p),(5,sl A9 (n0::l)),(6,.slice (.id 6 1) (rs.map B3)),(7,.slice (.id 7 3) (sk.map Ay)),(9,.ref 9 0),(16,sl Ax dec),(17,sl Ah (At dec)),(32,sl Ax cs),(33,vi (cs.map Ax).length),(34,vi i)] [(6,.tok 1 rs.length),(7,.tok 3 sk.length),(9,.ro (Ax cs[i])),(500,.arr 1 ((st++[sk]).map AU)),(1000,.cells [sl Ac roots,.cmap BS C,.cmap BS A,.slice (.id 1001 6) (S.infs.map AG),.slice (.id 1002 1) (S.drv.map Ap),.mref 1003,vb S.full,.slice (.id 20100 10) ((dec++[cs[i]]).map Ax),.slice (.id 16000 4) ((At (dec++[cs[i]])).map Ah),.msl 500 (st++[sk]).length]),(1001,.tok 6 S.infs.length),(1002,.tok 1 S.drv.length),(1003,.map EX (E0 0 S.infs)),(1004,.dead),(16000,.tok 4 ((At (dec++[cs[i]])).map Ah).length),(20100,.tok 10 ((dec++[cs[i]]).map Ax).length)] Z11 ⟨Zr,Zr,Zr,⟨(show(.arr 1 ((st.map AU)++[[sl Ay sk]]):HO)=.arr 1 ((st++[sk]).map AU) by simp),rfl⟩,⟨(show(.cells [sl Ac roots,.cmap BS C,.cmap BS A,.slice (.id 1001 6) (S.infs.map AG),.slice (.id 1002 1) (S.drv.map Ap),.mref 1003,vb S.full,.slice (.id 20100 10) ((dec.map Ax)++[(Ax cs[i])]),.slice (.id 16000 4) ((At (dec++[cs[i]])).map Ah),.msl 500 ((st.map AU).length+([[sl Ay sk]]:List (List AV)).length)]:HO)=.cells [sl Ac roots,.cmap BS C,.cmap BS A,.slice (.id 1001 6) (S.infs.map AG),.slice (.id 1002 1) (S.drv.map Ap),.mref 1003,vb S.full,.slice (.id 20100 10) ((dec++[cs[i]]).map Ax),.slice (.id 16000 4) ((At (dec++[cs[i]])).map Ah),.msl 500 (st++[sk]).length] by simp),rfl⟩,Zr,Zr,Zr,Zr,Zr,⟨(show(.tok 10 ((dec.map Ax).length+([(Ax cs[i])]:List (List AV)).length):HO)=.tok 10 ((dec++[cs[i]]).map Ax).length by simp),rfl⟩,Tv⟩ ?_)))
   have F5:dj dec (n0::l) cs[i]=true:=Of.2 ⟨fun n hn=>by grind,YL⟩;have gw:=ih cs[i] (rn i n3) F5 S (st++[sk]) (by simp_all) j3 ch;refine AJ (show ∃o,o=B8 x roots n (dec++[cs[i]]) S (st++[sk])from⟨_,rfl⟩) (fun o ho=>?_);rw[<-ho]at gw;have t8:AW Tryz.prog 82 [.ref 1000 0] (Ae (Ik roots C A S (dec++[cs[i]]) (st++[sk])) Ab) (fun r h'=>r=.tup [vi (o.res:Nat),vb o.found]/\h'=Ae (uv roots C A o.ss o.dec o.stack) Ab):=gw.1;have rT:=gw.2.1;have hrn:=gw.2.2.1;refine Bs (Bt o.found) (fun kp=>?_) (fun kp=>?_)
   .skip
    rw[kp]at t8;refine Xi (.gen Yb 1) (Yi rfl (AW.imp t8 ?_));intro v39 g39 q39;have xY:=q39.1;have xZ:=q39.2;subst xY;subst xZ;refine cU [(0,.ref 1000 0),(4,vs p),(5,sl A9 (n0::l)),(6,.slice (.id 6 1) (rs.map B3)),(7,.slice (.id 7 3) (sk.map Ay)),(9,.ref 9 0),(12,vi (o.res:Nat)),(16,sl Ax dec),(17,sl Ah (At dec)),(18,vb true),(32,sl Ax cs),(33,vi (cs.map Ax).length),(34,vi i)] [(6,.tok 1 rs.length),(7,.tok 3 sk.length),(9,.ro (Ax cs[i])),(1000,.cells (srM roots C A o.ss o.dec 22200 o.stack.length)),(1001,.tok 6 o.ss.infs.length),(1002,.tok 1 o.ss.drv.length),(1003,.map EX (E0 0 o.ss.infs)),(1004,.dead),(22200,.arr 1 (o.stack.map AU))] Z13 Z9 (Yi (show o.stack.length=(o.stack.map AU).length by simp) (cU [] [(500,.arr 1 (o.stack.map AU)),(1000,.cells (srM roots C A o.ss o.dec 500 o.stack.length)),(1001,.tok 6 o.ss.infs.length),(1002,.tok 1 o.ss.drv.length),(1003,.map EX (E0 0 o.ss.infs)),(1004,.dead)] Tv Z6 ?_))
    have WX:S.full=false:=by omega
    have eR:R=⟨0,true,o.ss,o.dec,o.stack⟩:=by rw[<-j2];rw[U7 (sk:=sk) n3 WX h6.2 HI YL ho,A1 kp]
    exact Xi _ (Yi (.refl _) (MC (ai.trans eR)))
   skip
   rw[kp]at t8;have hrk:=gw.2.2.2 kp;have X4:o.stack.length=st.length+1:=by simp_all
   refine Xi (.gen Yb 1) (Yi rfl (AW.imp t8 ?_));intro v41 g41 q41;have x6:=q41.1;have x7:=q41.2;subst x6;subst x7;refine cU [(0,.ref 1000 0),(4,vs p),(5,sl A9 (n0::l)),(6,.slice (.id 6 1) (rs.map B3)),(7,.slice (.id 7 3) (sk.map Ay)),(9,.ref 9 0),(12,vi (o.res:Nat)),(16,sl Ax dec),(17,sl Ah (At dec)),(18,vb false),(32,sl Ax cs),(33,vi (cs.map Ax).length),(34,vi i)] [(6,.tok 1 rs.length),(7,.tok 3 sk.length),(9,.ro (Ax cs[i])),(1000,.cells (srM roots C A o.ss o.dec 22200 o.stack.length)),(1001,.tok 6 o.ss.infs.length),(1002,.tok 1 o.ss.drv.length),(1003,.map EX (E0 0 o.ss.infs)),(1004,.dead),(22200,.arr 1 (o.stack.map AU))] Z13 Z9 (yN (yN (cU [(0,.ref 1000 0),(4,vs p),(5,sl A9 (n0::l)),(6,.slice (.id 6 1) (rs.map B3)),(7,.slice (.id 7 3) (sk.map Ay)),(9,.ref 9 0),(12,vi (o.res:Nat)),(32,sl Ax cs),(33,vi (cs.map Ax).length),(34,vi i)] [(6,.tok 1 rs.length),(7,.tok 3 sk.length),(9,.ro (Ax cs[i])),(1000,.cells (srM roots C A o.ss dec 22200 o.stack.length)),(1001,.tok 6 o.ss.infs.length),(1002,.tok 1 o.ss.drv.length),(1003,.map EX (E0 0 o.ss.infs)),(1004,.dead),(22200,.arr 1 (o.stack.map AU))] Z10 Z9 (Yi (by show AQ ((o.stack.length:Int)-(1:Int));unfold AQ;omega) (Yi ⟨(show o.stack.length=(o.stack.map AU).length by simp),(show(0:Int)<=o.stack.length-1 by omega),(show(o.stack.length-1:Int)<=((o.stack.map AU).length:Nat) by grind)⟩ (yN (Yi aa0 (Yi (show(o.stack.length-1:Int).toNat=(((o.stack.map AU).take (o.stack.length-1:Int).toNat):List (List AV)).length by simp) ?_))))))));have Acf:((o.stack.map AU).take ((o.stack.length:Int)-1).toNat)=st.map AU/\((o.stack.length:Int)-1).toNat=st.length:=rO hrk;refine cU [(0,.ref 1000 0),(4,vs p),(5,sl A9 (n0::l)),(6,.slice (.id 6 1) (rs.map B3)),(7,.slice (.id 7 3) (sk.map Ay)),(9,.ref 9 0),(12,vi (o.res:Nat)),(32,sl Ax cs),(33,vi (cs.map Ax).length),(34,vi i)] [(6,.tok 1 rs.length),(7,.tok 3 sk.length),(9,.ro (Ax cs[i])),(500,.arr 1 (st.map AU)),(1000,.cells (srM roots C A o.ss dec 500 st.length)),(1001,.tok 6 o.ss.infs.length),(1002,.tok 1 o.ss.drv.length),(1003,.map EX (E0 0 o.ss.infs)),(1004,.dead)] Z10 ⟨Zr,Zr,Zr,⟨(show(.arr 1 ((o.stack.map AU).take (o.stack.length-1:Int).toNat):HO)=.arr 1 (st.map AU) by simp_all),rfl⟩,⟨(show(.cells (srM roots C A o.ss dec 500 (o.stack.length-1:Int).toNat):HO)=.cells (srM roots C A o.ss dec 500 st.length) by simp_all),rfl⟩,Zr,Zr,Zr,Zr,Tv⟩ ?_
   refine Yi (fun vO=>?_) (fun vO=>?_)
   .have WX:S.full=false:=by omega
    have eR:R=⟨0,false,o.ss,dec,st⟩:=by rw[<-j2];rw[U7 (sk:=sk) n3 WX h6.2 HI YL ho,AO (by simp_all),A1 vO]
    exact Xi _ (Yi (.refl _) (MC (ai.trans eR)))
   have gn:o.ss.full=false:=vO;refine cU [(0,.ref 1000 0),(4,vs p),(5,sl A9 (n0::l)),(6,.slice (.id 6 1) (rs.map B3)),(7,.slice (.id 7 3) (sk.map Ay)),(9,.ref 9 0),(12,vi (o.res:Nat)),(32,sl Ax cs),(33,vi (cs.map Ax).length),(34,vi i)] [(6,.tok 1 rs.length),(7,.tok 3 sk.length),(9,.ro (Ax cs[i])),(500,.arr 1 (st.map AU)),(1000,.cells (srM roots C A o.ss dec 500 st.length)),(1001,.tok 6 o.ss.infs.length),(1002,.tok 1 o.ss.drv.length),(1003,.map EX (E0 0 o.ss.infs)),(1004,.dead)] Z10 Z9 (Xi (Ap (DF o.ss o.res)) (Yi (Yi (show(0:Int)<=((o.res:Nat):Int) by omega) (EE (Eu (hrn.2 kp gn)))) (Yi rfl ?_)));have WX:S.full=false:=by omega
   have V2:o.res<o.ss.drv.length:=(hrn.2 kp gn);have ar:=rT.der.few hx hr;refine Bs (Bt (CY (DF o.ss o.res) p)) (fun qW=>?_) (fun qW=>?_)
   .refine Xi .pure (Xi _ (Yi (cb qW (jy (DF o.ss o.res) p (Fs (ar _ (Aq (Eu V2)))))) (cU [(0,.ref 1000 0),(4,vs p),(5,sl A9 (n0::l)),(6,.slice (.id 6 1) (rs.map B3)),(7,.slice (.id 7 3) (sk.map Ay)),(9,.ref 9 0),(12,vi (o.res:Nat)),(32,sl Ax cs),(33,vi (cs.map Ax).length),(34,vi i)] [(6,.tok 1 rs.length),(7,.tok 3 sk.length),(9,.ro (Ax cs[i])),(500,.arr 1 (st.map AU)),(1000,.cells (srM roots C A o.ss dec 500 st.length)),(1001,.tok 6 o.ss.infs.length),(1002,.tok 1 o.ss.drv.length),(1003,.map EX (E0 0 o.ss.infs)),(1004,.dead)] Z10 Z9 (Yi (X2 rfl ch Wk) (Yi (X2 rfl ch Wk) (Yi (Ii i ch) ?_))))));have eA:=(U7 (rec:=B8 x roots n) (x:=x) (p:=p) (n0:=n0) (st:=st) (rs:=rs) (sk:=sk) n3 WX h6.2 HI YL ho);rw[AO (by simp_all),AO (by simp_all)]at eA;have eN:Dg (B8 x roots n) x p (n0::l) n0 dec st (cs.drop (i+1)) o.ss (rs++[o.res]) (sk++[(⟨p,cs[i].place,(o.res:Nat)⟩:Sk)])=R:=by rw[<-UU (c:=cs[i]) qW,<-eA];exact j2
    refine Xi ⟨(i+1,o.ss,rs++[o.res],sk++[(⟨p,cs[i].place,(o.res:Nat)⟩:Sk)]),ER n3,eN,rT,fun r h=>(Bc.1 h).elim ((fun r h=>AR (j4 r h) hrn.1) r) (fun h=>by simp_all),(by simp_all),(by simp_all)⟩ ?_;exact⟨Dl cs.length i ch,⟨Zr,Zr,Zr,⟨(show AV.slice (.id 6 1) (rs.map B3++[[vi ((o.res:Nat):Int)]])=.slice (.id 6 1) ((rs++[o.res]).map B3) by simp_all),rfl⟩,⟨(show AV.slice (.id 7 3) (sk.map Ay++[[vs p,vi cs[i].place,vi ((o.res:Nat):Int)]])=.slice (.id 7 3) ((sk++[(⟨p,cs[i].place,(o.res:Nat)⟩:Sk)]).map Ay) by simp_all),rfl⟩,Zr,Zr,Zr,Tv⟩,⟨⟨(show HO.tok 1 ((rs.map B3).length+([[vi ((o.res:Nat):Int)]]:List (List AV)).length)=.tok 1 (rs++[o.res]).length by simp),rfl⟩,⟨(show HO.tok 3 ((sk.map Ay).length+([[vs p,vi cs[i].place,vi ((o.res:Nat):Int)]]:List (List AV)).length)=.tok 3 (sk++[(⟨p,cs[i].place,(o.res:Nat)⟩:Sk)]).length by simp),rfl⟩,Zr,Zr,Zr,Zr,Zr,Zr,Tv⟩,Fh,Be aa0⟩
   refine Xi .pure (Xi _ (Yi (cb qW (jy (DF o.ss o.res) p (Fs (ar _ (Aq (Eu V2)))))) (cU [(12,vi (o.res:Nat))] [(500,.arr 1 (st.map AU)),(1000,.cells (srM roots C A o.ss dec 500 st.length)),(1001,.tok 6 o.ss.infs.length),(1002,.tok 1 o.ss.drv.length),(1003,.map EX (E0 0 o.ss.infs)),(1004,.dead)] Z1 Z6 ?_)))
   have eA:=(U7 (rec:=B8 x roots n) (x:=x) (p:=p) (n0:=n0) (st:=st) (rs:=rs) (sk:=sk) n3 WX h6.2 HI YL ho);rw[AO (by simp_all),AO (by simp_all)]at eA;have eR:R=⟨o.res,false,o.ss,dec,st⟩:=by rw[<-j2];rw[eA];exact ZN qW
   exact Xi _ (Yi (.refl _) (MC (ai.trans eR)))
  have n3:=FS h3;refine Xi (A9 n0) (Yi (Yi (show(0:Int)<=0 by decide) rfl) (Yi rfl (yN (Xi (.gen Yb 0) (Yi rfl (AW.imp (s91 x roots C A S dec st p n0 rs V hx hr j3 hinf0 j4 ch (hnq n0 (Ad ..)) (hnp n0 (Ad ..)) q8 q9 ra) ?_))))));intro v49 g49 q49;have x8:=q49.1;have x9:=q49.2;subst x8;subst x9;have hj:¬i<cs.length:=by omega
  have eR:R=⟨(CR x p n0 rs S).1,false,(CR x p n0 rs S).2,dec,st⟩:=by rw[<-j2];exact fm hj
  exact Xi _ (Yi (.refl _) (MC (ai.trans eR)))
 exact absurd NW vQ
theorem yx(hL:ux x roots C A n dec p n0 l V cs)(hs:JP x roots s)(_:st.length=dec.length)(Qo:AW Tryz.prog 148 [.ref 1000 0] (Ae (Ik roots C A s dec st) Ab) fun r h'=>r=.tup [vs p,sl A9 (n0::l)]/\h'=Ae (Ik roots C A s dec st) Ab)(AbD:cs=[])(vQ:∀a,(Value.string p,a)∉C)(hR:Dg (B8 x roots n) x p (n0::l) n0 dec st cs s [] []=R)(ai:O=R) :
  AW Tryz.prog 82 [.ref 1000 0] (Ae (Ik roots C A s dec st) Ab) (Yd roots C A O):=by
 obtain⟨hx,hr,hdl,hcl,hcs,hnl,hnq,hnp,hex,hcx,hcq,hcp_,hcr,hcs_,hkey,hinf0,⟨q8,q9,ra⟩,ih⟩:=hL;have rn:∀(i:Nat) (h:i<cs.length),cs[i]∈Bn x p:=fun i h=>by simp_all
 have oz:∀(i:Nat) (h:i<cs.length),Cr (At (dec++[cs[i]])):=fun i h=>by grind
 clear hcs
 refine A7 (H5 ⟨[9],[(6,1),(7,3),(145,1)],[],[],[],[],[],[],[],[(300001,500091000),(300026,500091000),(300029,500091000)],[1,2,5,10,11,13,14,15,16,17,19,21,22,23,24,25,26,28,29,31,32,33,35]⟩) [(1000,1000),(1001,1001),(1002,1002),(1003,1003),(1004,1004),(500,2000)] rfl Bu hm rfl Tryz.func82 aa0 rfl (Nz rfl) aa0 rfl (Yi (show st.length=(st.map AU).length by simp) (cU [(0,.ref 1000 0)] [(500,.arr 1 (st.map AU)),(1000,.cells (srM roots C A s dec 500 st.length)),(1001,.tok 6 s.infs.length),(1002,.tok 1 s.drv.length),(1003,.map EX (E0 0 s.infs)),(1004,.dead)] Z1 Z6 (Xi (.gen Yb 0) (Yi rfl (AW.imp Qo ?_)))));intro v1 g1 q1;have lK:=q1.1;have lL:=q1.2;subst lK;subst lL;refine cU [(0,.ref 1000 0),(4,vs p),(5,sl A9 (n0::l))] [(500,.arr 1 (st.map AU)),(1000,.cells (srM roots C A s dec 500 st.length)),(1001,.tok 6 s.infs.length),(1002,.tok 1 s.drv.length),(1003,.map EX (E0 0 s.infs)),(1004,.dead)] Z3 Z6 (Yi (fun h2=>?_) (fun h2=>?_))
 .exact absurd h2 (by grind)
 refine cU [(0,.ref 1000 0),(4,vs p),(5,sl A9 (n0::l)),(6,.slice (.id 6 1) [])] [(6,.tok 1 0),(500,.arr 1 (st.map AU)),(1000,.cells (srM roots C A s dec 500 st.length)),(1001,.tok 6 s.infs.length),(1002,.tok 1 s.drv.length),(1003,.map EX (E0 0 s.infs)),(1004,.dead)] Z4 Z7 (Yi (fun a ha=>?_) (fun NW=>?_))
 .exact absurd ha (vQ a)
 refine Xi {q:Nat×SS×List Nat×List Sk // q.1<=cs.length/\Dg (B8 x roots n) x p (n0::l) n0 dec st (cs.drop q.1) q.2.1 q.2.2.1 q.2.2.2=R/\JP x roots q.2.1/\(∀r∈q.2.2.1,r<q.2.1.drv.length)/\q.2.2.1.length<=q.1/\q.2.2.2.length<=q.1} (Xi (fun q=>⟨[(0,.ref 1000 0),(4,vs p),(5,sl A9 (n0::l)),(6,.slice (.id 6 1) (q.1.2.2.1.map B3)),(7,.slice (.id 7 3) (q.1.2.2.2.map Ay)),(32,nzA),(33,vi 0),(34,vi q.1.1)],[(6,.tok 1 q.1.2.2.1.length),(7,.tok 3 q.1.2.2.2.length),(500,.arr 1 (st.map AU)),(1000,.cells (srM roots C A q.1.2.1 dec 500 st.length)),(1001,.tok 6 q.1.2.1.infs.length),(1002,.tok 1 q.1.2.1.drv.length),(1003,.map EX (E0 0 q.1.2.1.infs)),(1004,.dead)],Ab⟩) (Xi (fun q=>cs.length-q.1.1) (Yi (Xi ⟨(0,s,[],[]),Ar _,hR,hs,fun r h=>(by cases h),Ai _,Ai _⟩ ?_) ?_)))
 .exact⟨Z8,Z8,Fh,Be aa0⟩
 intro⟨⟨i,S,rs,sk⟩,j1,j2,j3,j4,j5,j6⟩;have j5:rs.length<=i:=j5;have hw:=j3.dl;have dZ:∀t∈S.drv,UO t:=fun t ht=>by have q:=j3.der.few hx hr t ht;grind
 refine Yi (fun h3=>?_) (fun h3=>?_)
 .have h3:(i:Int)<(0:Int):=h3;exact absurd h3 ch
 have h3:¬((i:Int)<(0:Int)):=h3;refine Xi (A9 n0) (Yi (Yi (show(0:Int)<=0 by decide) rfl) (Yi rfl (yN (Xi (.gen Yb 0) (Yi rfl (AW.imp (s91 x roots C A S dec st p n0 rs V hx hr j3 hinf0 j4 ch (hnq n0 (Ad ..)) (hnp n0 (Ad ..)) q8 q9 ra) ?_))))));intro v4 g4 q4;have ya:=q4.1;have yb:=q4.2;subst ya;subst yb;have hj:¬i<cs.length:=by simp_all
 have eR:R=⟨(CR x p n0 rs S).1,false,(CR x p n0 rs S).2,dec,st⟩:=by rw[<-j2];exact fm hj
 exact Xi _ (Yi (.refl _) (MC (ai.trans eR)))
theorem yz(N:List Nd)(O:Jm)(hN:N=[])(Qo:AW Tryz.prog 148 [.ref 1000 0] (Ae (Ik roots C A s dec st) Ab) fun r h'=>r=.tup [vs p,sl A9 N]/\h'=Ae (Ik roots C A s dec st) Ab)(hO:O=⟨0,true,s,dec,st⟩) :
  AW Tryz.prog 82 [.ref 1000 0] (Ae (Ik roots C A s dec st) Ab) (Yd roots C A O):=by
 refine A7 (H5 ⟨[],[],[],[],[],[],[],[],[],[(300001,500091000)],[1,2,5,10,11,13,14,15,16,17,19,21,22,23,25,28,29,31,32,33,35]⟩) [(1000,1000),(1001,1001),(1002,1002),(1003,1003),(1004,1004),(500,2000)] rfl Bu hm rfl Tryz.func82 aa0 rfl (Nz rfl) aa0 rfl (Yi (show st.length=(st.map AU).length by simp) (cU [(0,.ref 1000 0)] [(500,.arr 1 (st.map AU)),(1000,.cells (srM roots C A s dec 500 st.length)),(1001,.tok 6 s.infs.length),(1002,.tok 1 s.drv.length),(1003,.map EX (E0 0 s.infs)),(1004,.dead)] Z1 Z6 (Xi (.gen Yb 0) (Yi rfl (AW.imp Qo ?_)))));intro v1 g1 q1;have lK:=q1.1;have lL:=q1.2;subst lK;subst lL;refine cU [(0,.ref 1000 0),(4,vs p),(5,sl A9 N)] [(500,.arr 1 (st.map AU)),(1000,.cells (srM roots C A s dec 500 st.length)),(1001,.tok 6 s.infs.length),(1002,.tok 1 s.drv.length),(1003,.map EX (E0 0 s.infs)),(1004,.dead)] Z3 Z6 (Yi (fun h2=>?_) (fun h2=>?_))
 .exact Xi _ (Yi (.refl _) (MC (st:=st) hO))
 exact absurd (by simp_all) h2
section
variable {x:List Rl}{roots:List Rq}{p:ByteArray}
theorem Hw:∀(l:List Nat) {k:Nat} {s:SS},s.infs.Nodup->(BL p l k s).2.infs.Nodup
 | [],_,_,h=>h
 |r::l,k,s,h=>by
  unfold BL;split
  .exact h
  split
  .exact Hw l h
  split
  .exact Hw l h
  .exact Hw l (Hk h)
theorem JS{needs:List Nd}{n0:Nd}{dec:List Cd}{st:List (List Sk)}{rec:List Cd->SS->List (List Sk)->Jm}(YU:∀c s st,s.infs.Nodup->(rec (dec++[c]) s st).ss.infs.Nodup) :
  ∀(cs:List Cd) {s:SS} {rs:List Nat} {sk:List Sk},s.infs.Nodup->(Dg rec x p needs n0 dec st cs s rs sk).ss.infs.Nodup
 | [],s,rs,sk,h=>Hw _ (Hk (Hk h))
 |c::cs,s,rs,sk,h=>by
  have tp:∀(s' : SS) (k:Nat),s'.infs.Nodup->(Hz rec x p needs n0 dec st c cs rs sk k s').ss.infs.Nodup:=fun s' k h'=>by
   unfold Hz;split
   .exact h'
   .exact JS YU cs h'
  rw[E6];split
  .exact h
  cases needs.find? fun n=>!has n.rq.set c.place with
  |some n=>exact JS YU cs (Hk h)
  |none=>
   dsimp only;cases MM s.drv (At (dec++[c]))with
   |some k=>simp_all
   |none=>
    dsimp only;cases Dq dec c with
    |some n=>exact tp _ _ (Hk h)
    |none=>
     grind
theorem Oq:∀(n:Nat) {dec:List Cd} {s:SS} {st:List (List Sk)},s.infs.Nodup->(B8 x roots n dec s st).ss.infs.Nodup
 |0,_,_,_,h=>h
 |n+1,dec,s,st,h=>by
  unfold B8;cases (Ea roots dec).2 with
  |nil=>exact h
  |cons n0 l=>exact JS (fun c s st h=>Oq n h) _ h
structure qa(x:List Rl)(roots:List Rq)(C A:List (Value×AV)):Prop where
 hx:AC x=0
 hr:A8 roots=0
 fx:∀r∈x,Ir r
 fr:∀q∈roots,KL q
 c1:∀(p:ByteArray) (a:AV),(Value.string p,a)∈C->a=sl Ax (Bn x p)
 c2:∀p:ByteArray,(∀a,(Value.string p,a)∉C)->Bn x p=[]
 c3:∀p:ByteArray,Bn x p=[]->∀a,(Value.string p,a)∉C
 av:∀p:ByteArray,∃V,HV x A p V
theorem n8{dec:List Cd}(h:∀c∈dec,c.rel.reqs.length<=16):((dec.map fun c=>c.rel.reqs).flatten).length<=16*dec.length:=by
 induction dec<;>grind
theorem pf{r:Rl}(h:Is r):0<=plc r.ver/\plc r.ver<1000000:=by rw[h.plc];exact ID h.val
theorem da(dec:List Cd):(Ea roots dec).2.length<=(CI roots dec).length:=by
 grind [Sj]
theorem s45{C A:List (Value×AV)}(hE:qa x roots C A)(oa:H64 roots C A):∀(n:Nat) {dec:List Cd} {s:SS} {st:List (List Sk)},CT x dec->HZ roots dec->JP x roots s->s.full=false->E8 x dec<n->st.length=dec.length ->
  AW Tryz.prog 82 [.ref 1000 0] (Ae (Ik roots C A s dec st) Ab) (Yd roots C A (B8 x roots n dec s st))
 |0,_,_,_,_,_,_,_,h,_=>by omega
 |n+1,dec,s,st,hd,cB,hs,hf,hn,HF=>by
  have hx:=hE.hx;have hr:=hE.hr;have oK:=Iy hx;have hdl:=Wt hd;have ww:dec.length<=256:=by omega
  have hrl:∀c∈dec,c.rel.reqs.length<=16:=fun c hc=>oK.2 _ (hd.cand c hc).1;have Qo:=oa s dec st ch fun c hc=>AH (hrl c hc) Wk;generalize hO:B8 x roots (n+1) dec s st=O;obtain⟨N,hN⟩:∃N,N=(Ea roots dec).2:=⟨_,rfl⟩;obtain⟨q,hq⟩:∃q,q=(Ea roots dec).1:=⟨_,rfl⟩;rw[<-hN,<-hq]at Qo;have hNl:N.length<=10000:=by
   grind [da,In,Lm,n8,Lz]
  cases hNc:N with
  |nil=>
   rw[hNc]at hN Qo;refine yz roots C A s dec st q [] O rfl Qo ?_
   grind [B8]
  |cons n0 l=>
   rw[hNc]at hN Qo;have hNx:=Kc hN.symm;rw[<-hq]at hNx;have RP:∀nd∈n0::l,nd∈CI roots dec:=fun nd h=>((hNx.mem nd).1 h).1;have F5:=(Bz hx).1;have few:∀{E:List Cd},CT x E->∀nd∈CI roots E,Cr nd.rq.set/\AQ (nd.place+1):=fun hE' nd h=>by
    rcases Ll h with ⟨k,r,h1,rfl⟩ | ⟨c,hc,k,r,h1,rfl⟩
    .grind [AQ,qa.fr]
    .have h2:=hE'.cand c hc;have h3:=pf (F5 _ h2.1)
     grind [AQ,qa.fx]
   have pV:∀c∈Bn x q,CT x (dec++[c])/\c.rel.path=q/\c.rel∈x:=fun c hc=>by
    grind [Gy,CT.snoc,V6.undone]
   have EV:∀(i:Nat) (h:i<(Bn x q).length),(Bn x q)[i]∈Bn x q:=fun i h=>Ao h;obtain⟨V,hV⟩:=hE.av q
   have hL:ux x roots C A n dec q n0 l V (Bn x q):={
    hx:=hx
    hr:=hr
    hdl:=ww
    hcl:=AH (TW x q) oK.1
    hcs:=rfl
    hnl:=by grind
    hnq:=fun nd h=>(few hd nd (RP nd h)).1
    hnp:=fun nd h=>(few hd nd (RP nd h)).2
    hex:=fun i h nd hm hh=>by
     obtain⟨a,b,_⟩:=pV _ (EV i h);exact⟨(N5 hx hr a (M3 (RP nd hm)) ⟨(Bn x q)[i],by simp,b.trans ((hNx.mem nd).1 hm).2.symm,hh⟩).1,trivial⟩
    hcx:=fun i h nc hc=>by
     obtain⟨a,b,_⟩:=pV _ (EV i h);obtain⟨m1,m2⟩:=JV hc;exact⟨(N5 hx hr a (LY m1) m2).1,trivial⟩
    hcq:=fun i h nc hm=>(few (pV _ (EV i h)).1 nc (LY hm)).1
    hcp_:=fun i h nc hm=>(few (pV _ (EV i h)).1 nc (LY hm)).2
    hcr:=fun i h=>by grind
    hcs_:=fun i h r hm=>((hE.fx _ (pV _ (EV i h)).2.2).2 r hm).1
    hkey:=fun i h=>by
     simp_all
    hinf0:=(QA hx hr hd (RP n0 (Ad ..)) (.inl (by
     rw[((hNx.mem n0).1 (Ad ..)).2]
     grind [G4,FN,V6.undone]))).inf
    hV:=hV
    ih:=fun c hc wZ S DV hl hS zb=>by
     obtain⟨a,b,c3⟩:=pV c hc;obtain⟨k1,k2⟩:=Of.1 wZ;obtain⟨_,c2⟩:=Gy hc;have mO:=cB.snoc hNx b k1 k2;have oq:E8 x (dec++[c])<n:=by have:=RE (dec:=dec) ⟨c2.1,c2.2.1⟩ (by grind [V6.undone]);omega
     have h1:=s45 hE oa n a mO hS zb oq (st:=DV) (by simp_all);have h2:=Pq hx hr n a mO hS.der zb oq (st:=DV);exact⟨h1,⟨h2.der,Oq n hS.nodup⟩,⟨h2.grow.len,fun e1 e2=>((h2.no e1).2.2 e2).1⟩,fun e1=>(h2.no e1).2.1⟩ }
   have hR:Dg (B8 x roots n) x q (n0::l) n0 dec st (Bn x q) s [] []=O:=by
    grind [B8]
   by_cases hm:∀a,(Value.string q,a)∉C
   .exact yx x roots C A n s dec st q n0 l V (Bn x q) O O hL hs HF Qo (hE.c2 q hm) hm hR rfl
   .exact yw x roots C A n s dec st q n0 l V (Bn x q) O O hL hs HF Qo (hE.c1 q) hm hR rfl
end
theorem yy{x:List Rl}{roots:List Rq}{C A:List (Value×AV)}(hE:qa x roots C A)(n:Nat){dec:List Cd}{s:SS}{st:List (List Sk)}(h1:CT x dec)(h2:HZ roots dec)(h3:JP x roots s)(h4:s.full=false)(h5:E8 x dec<n)(h6:st.length=dec.length) :
  AW Tryz.prog 82 [.ref 1000 0] (Ae (Ik roots C A s dec st) Ab) (Yd roots C A (B8 x roots n dec s st)):=
 s45 hE (fun s dec st a b=>s64 roots C A s dec st (AH (Lz hE.hr) Wk) a b) n h1 h2 h3 h4 h5 h6
def EF:Bool:=decide (AC x=0)&&decide (A8 roots=0)
theorem uu(ifs:List (List AV))(roots:List Rq)(hx:∀r∈x,Ir r)(hr:∀q∈roots,KL q):PC 80 [.agg (Ic x ifs),sl Ac roots] (vb (EF x roots)):=by
 refine Ps (pC [2] []) Tryz.func80 rfl (Nz rfl) (yN (Xi .pure (Xi _ (Yi (qA Tj x ifs hx) (Yi (fun h1=>?_) (fun h1=>?_))))))
 .refine Xi .pure (Xi _ (Yi (tA Tj roots hr) (Yi (fun h2=>?_) (fun h2=>?_))))
  .exact .of_eq (show vb true=vb (EF x roots) by grind [EF])
  exact .of_eq (show vb false=vb (EF x roots) by grind [EF])
 exact .of_eq (show vb false=vb (EF x roots) by grind [EF])
abbrev Rp(r:Rl):List AV:=Ax ⟨plc r.ver,r⟩
abbrev KJ:List (List AV):=(y.filter fun r=>decide (r.path=p)).map Rp
abbrev mr(q:ByteArray×Nat):Value×AV:=(.string q.1,.slice (.id (q.2+100) 10) (KJ y q.1))
abbrev HQ:List (Value×AV):=(AE y []).zipIdx.map (mr y)
def GR(l:Nat):HO:=match(AE y [])[l]? with
 |some q=>.tok 10 (KJ y q).length
 |none=>.free
def Ij:HO:=bif Nat.ble 100 j&&Nat.blt j 1000 then GR y (j-100)else .free
theorem Ev(hy:y.length<=256)(l:Nat):Ij y (l+100)=GR y l:=by
 grind [Ij,Nat.ble_eq,Nat.blt_eq,GP,GR]
theorem kw{j:Nat}(h:j<100):Ij y j=.free:=by
 grind [Ij,Nat.ble_eq]
section
variable {y:List Rl}{r:Rl}{k:Nat}
open Classical in
theorem fX(h:(AE y [])[k]?=some r.path):Ej (HQ y) (.string r.path) (.slice (.id (k+100) 10) (KJ y r.path++[Rp r]))=HQ (y++[r]):=by
 have hd:=Ei y [] Jj;have hm:mr y (r.path,k)∈HQ y:=Ak.2 ⟨_,GZ.2 h,rfl⟩;rw[Xt (a':=.slice (.id (k+100) 10) (KJ y r.path)) hm];unfold HQ;rw[L5 h,Bx];refine BK fun q hq=>?_
 grind [Io]
theorem XC(h:r.path∉AE y []):KJ y r.path=[]:=by
 grind [List.filter_eq_nil_iff,GQ]
theorem cj(h:r.path∉AE y [])(a:AV):(Value.string r.path,a)∉HQ y:=by
 grind
theorem fV(h:r.path∉AE y []):Ej (HQ y) (.string r.path) (.slice (.id ((AE y []).length+100) 10) [Rp r])=HQ (y++[r]):=by
 grind [HG,L4,List.map_congr_left,XC]
theorem cn{p:ByteArray}{j:Nat}(h:(AE y [])[j]?=some p):(Value.string p,AV.slice (.id (j+100) 10) (KJ y p))∈HQ y/\∀b,(Value.string p,b)∈HQ y->b=AV.slice (.id (j+100) 10) (KJ y p):=by
 refine⟨Ak.2 ⟨(p,j),GZ.2 h,rfl⟩,fun b hb=>?_⟩
 grind [Io,Ei]
theorem bl{p:ByteArray}{j:Nat}(h:(AE y [])[j]?=some p):GR y j=.tok 10 (KJ y p).length:=by
 grind [GR]
theorem je(h:(AE y [])[k]?=some r.path)(l:Nat):(bif Nat.beq (l+100) (k+100)then HO.tok 10 ((KJ y r.path).length+1)else GR y l)=GR (y++[r]) l:=by
 grind [Nat.beq_refl,GR,L5,Nat.eq_of_beq_eq_true,Io,Ei]
theorem jd(h:r.path∉AE y [])(l:Nat):(bif Nat.beq (l+100) ((AE y []).length+100)then HO.tok 10 1 else GR y l)=GR (y++[r]) l:=by
 grind [Nat.beq_refl,GR,L4,XC,Nat.eq_of_beq_eq_true]
end
theorem G3(hh:∀l,h (l+100)=GR y l):PQ h (HQ y)=true:=by
 refine OR fun p hp=>?_;obtain⟨q,h1,rfl⟩:=Ak.1 hp;show Qr h (q.2+100)=true
 grind [Qr,bl]
theorem F4{y:List Rl}(hy:y.length<=256){h':Nat->HO}(hh:∀l,h (l+100)=GR y l)(j:Nat):Ij y j=.free\/(h j=Ij y j/\W7 h' (Ij y j)=true):=by
 by_cases hj:j<100
 .grind [kw]
 .obtain⟨l,rfl⟩:∃l,j=l+100:=⟨j-100,by omega⟩
  right
  rw[Ev y hy];refine⟨hh l,?_⟩;unfold GR;cases (AE y [])[l]?<;>rfl
end Go.Eng
