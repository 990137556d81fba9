/- Lemmas 31. -/
import Derived.Test.YtkjhcikodmiceaaGreatDoorVA30
set_option maxHeartbeats 16000000
namespace Go.Eng
open Go.Proofs Go.Proofs.Tryz
variable {h:Nat->HO}(x:List Rl)(roots:List Rq)(C A:List (Value×AV))(n:Nat)(s:SS)(y:List Rl)(dec:List Cd)(j:Nat)(st:List (List Sk))(p:CS)(n0:Nd)(l:List Nd)(V:AV)(cs:List Cd)(R O:Kz)
theorem dv{α:Type}(o:Option α):(∃x,o=some x)\/o=none:=by
 cases o<;>simp_all
theorem yT{T st:List (List Sk)}{sk:List Sk}(h:T=st++[sk]):((T.map Ba).take ((T.length:Int)-1).toNat)=st.map Ba/\((T.length:Int)-1).toNat=st.length:=by
 simp_all
abbrev HV:Prop:=(∀a,(Value.string p,a)∈A->a=V)/\((∀a,(Value.string p,a)∉A)->V=nzA)/\∀h,PC 229 [vs p,str h V] (sl Ac (D7 p (A9 x p)))
abbrev ko(n:Nd):Prop:=∀d,AQ x roots d (PO n)=some (Ir n)
structure Lvl(x:List Rl)(roots:List Rq)(C A:List (Value×AV))(n:Nat)(dec:List Cd)(p:CS)(n0:Nd)(l:List Nd)(V:AV)(cs:List Cd):Prop where
 hx:At x=0
 hr:AH roots=0
 hdl:dec.length<=256
 hcl:cs.length<=256
 hcs:cs=BA x p
 hnl:(n0::l).length<9223372036854775807
 hnq:∀n∈n0::l,BO n.rq.set
 hnp:∀n∈n0::l,Au (n.place+1)
 hex:∀(i:Nat) (h:i<cs.length),∀nd∈n0::l,has nd.rq.set cs[i].place=false->ko x roots nd/\True
 hcx:∀(i:Nat) (h:i<cs.length) (nc:Nd),D3 dec cs[i]=some nc->ko x roots nc/\True
 hcq:∀(i:Nat) (h:i<cs.length) (nc:Nd),nc∈Rh cs[i]->BO nc.rq.set
 hcp_:∀(i:Nat) (h:i<cs.length) (nc:Nd),nc∈Rh cs[i]->Au (nc.place+1)
 hcr:∀(i:Nat) (h:i<cs.length),cs[i].rel.reqs.length<=1073741824
 hcs_:∀(i:Nat) (h:i<cs.length),∀q∈cs[i].rel.reqs,BO q.set
 hkey:∀(i:Nat) (h:i<cs.length),(AA dec).map Ae++[[vs p,vi cs[i].rel.ver.a,vi cs[i].rel.ver.b,vi cs[i].rel.ver.c]]=(AA (dec++[cs[i]])).map Ae
 hinf0:ko x roots n0
 hV:HV x A p V
 ih:∀c∈BA x p,jt dec (n0::l) c=true->∀(S:SS) (EF : List (List Sk)),EF.length=dec.length+1->K7 x roots S->S.full=false ->
  Bg Tryz.prog 82 [.ref 1000 0] (Ai (Ju roots C A S (dec++[c]) EF) Af) (bO roots C A (CC x roots n (dec++[c]) S EF))/\K7 x roots (CC x roots n (dec++[c]) S EF).ss /\
  (S.drv.length<=(CC x roots n (dec++[c]) S EF).ss.drv.length/\((CC x roots n (dec++[c]) S EF).found=false->(CC x roots n (dec++[c]) S EF).ss.full=false->(CC x roots n (dec++[c]) S EF).res<(CC x roots n (dec++[c]) S EF).ss.drv.length)) /\
  ((CC x roots n (dec++[c]) S EF).found=false->(CC x roots n (dec++[c]) S EF).stack=EF)
theorem AeA(hL:Lvl x roots C A n dec p n0 l V cs)(hs:K7 x roots s)(Jt:st.length=dec.length)(Su:Bg Tryz.prog 148 [.ref 1000 0] (Ai (Ju roots C A s dec st) Af) fun r h'=>r=.tup [vs p,sl Bl (n0::l)]/\h'=Ai (Ju roots C A s dec st) Af)(hC1:∀a,(Value.string p,a)∈C->a=sl AE cs)(hC2:¬∀a,(Value.string p,a)∉C)(hR:DR (CC x roots n) x p (n0::l) n0 dec st cs s [] []=R)(fb:O=R) :
  Bg Tryz.prog 82 [.ref 1000 0] (Ai (Ju roots C A s dec st) Af) (bO roots C A O):=by
 obtain⟨hx,hr,hdl,hcl,hcs,hnl,hnq,hnp,hex,hcx,hcq,hcp_,hcr,hcs_,hkey,hinf0,⟨xU,xV,xW⟩,ih⟩:=hL;have sr:∀(i:Nat) (h:i<cs.length),cs[i]∈BA x p:=fun i h=>by simp_all
 have qr:∀(i:Nat) (h:i<cs.length),BO (AA (dec++[cs[i]])):=fun i h=>by grind
 clear hcs
 refine Bj (I9 ⟨[9],[(6,1),(7,3),(145,1)],[],[],[],[],[],[],[(60,3),(101,3)],[(300001,500091000),(300026,500091000),(300029,500091000)],[1,5,12,15,17,21,23,24,25,26,28,29,31,32,33]⟩) [(1000,1000),(1001,1001),(1002,1002),(1003,1003),(1004,1004),(500,2000)] rfl BI hm rfl func82 aa2 rfl (Nz rfl) aa2 rfl (Yi (show st.length=(st.map Ba).length by simp) (cU [(0,.ref 1000 0)] [(500,.arr 1 (st.map Ba)),(1000,.cells (srM roots C A s dec 500 st.length)),(1001,.tok 6 s.infs.length),(1002,.tok 1 s.drv.length),(1003,.map FL (FO 0 s.infs)),(1004,.dead)] Z1 Z6 (Xi (.gen bM 0) (Yi rfl (Bg.imp Su ?_)))));intro v1 g1 q1;have rk:=q1.1;have rm:=q1.2;subst rk;subst rm;refine Yi (fun h2=>?_) (fun h2=>?_)
 .exact absurd h2 (by grind)
 refine cU [(0,.ref 1000 0),(4,vs p),(5,sl Bl (n0::l)),(6,.slice (.id 6 1) [])] [(6,.tok 1 0),(500,.arr 1 (st.map Ba)),(1000,.cells (srM roots C A s dec 500 st.length)),(1001,.tok 6 s.infs.length),(1002,.tok 1 s.drv.length),(1003,.map FL (FO 0 s.infs)),(1004,.dead)] Z4 Z7 (Yi (fun a ha=>?_) (fun PK=>?_))
 .have ea:=hC1 a ha;subst ea;refine Xi {q:Nat×SS×List Nat×List Sk // q.1<=cs.length/\DR (CC x roots n) x p (n0::l) n0 dec st (cs.drop q.1) q.2.1 q.2.2.1 q.2.2.2=R/\K7 x roots q.2.1/\(∀r∈q.2.2.1,r<q.2.1.drv.length)/\q.2.2.1.length<=q.1/\q.2.2.2.length<=q.1} (Xi (fun q=>⟨[(0,.ref 1000 0),(4,vs p),(5,sl Bl (n0::l)),(6,.slice (.id 6 1) (q.1.2.2.1.map Cu)),(7,.slice (.id 7 3) (q.1.2.2.2.map AB)),(32,sl AE cs),(33,vi (cs.map AE).length),(34,vi q.1.1)],[(6,.tok 1 q.1.2.2.1.length),(7,.tok 3 q.1.2.2.2.length),(500,.arr 1 (st.map Ba)),(1000,.cells (srM roots C A q.1.2.1 dec 500 st.length)),(1001,.tok 6 q.1.2.1.infs.length),(1002,.tok 1 q.1.2.1.drv.length),(1003,.map FL (FO 0 q.1.2.1.infs)),(1004,.dead)],Af⟩) (Xi (fun q=>cs.length-q.1.1) (Yi (Xi ⟨(0,s,[],[]),Al _,hR,hs,fun r h=>(by cases h),Ap _,Ap _⟩ ?_) ?_)))
  .exact⟨Z8,Z8,Fh,Bn aa2⟩
  intro⟨⟨i,S,rs,sk⟩,j1,j2,j3,j4,j5,j6⟩;have j5:rs.length<=i:=j5;have j6:sk.length<=i:=j6;have hw:=j3.dl;have wq:∀t∈S.drv,Qx t:=fun t ht=>by have q:=j3.der.few hx hr t ht;grind
  refine Yi (fun h3=>?_) (fun h3=>?_)
  .have h3:(i:Int)<((cs.map AE).length:Int):=h3;have n3:=Ha h3;refine Xi (AE cs[i]) (Yi (I0 n3) (Yi rfl (yN (yN (Yi (fun h4=>?_) (fun h4=>?_))))))
   .have eR:R=⟨0,false,S,dec,st⟩:=by rw[<-j2];exact py n3 h4
    exact C2 (.refl _) (N7 (fb.trans eR))
   have cM:=s86 (fF:=150) (caps:=[.cptr (AE cs[i])]) (fun c hc=>by obtain rfl:=AJ.1 hc;intro h;rfl) (n0::l) (fun n=>!has n.rq.set cs[i].place) (fun n hn=>s87 n cs[i] (hnq n hn)) hnl;refine Ax (iN (fun n=>!has n.rq.set cs[i].place) (n0::l)) (fun h6=>?_) (fun h6=>?_)
   .refine Ao h6 (fun k86 h6=>Ao h6 (fun nd h6=>?_));rw[h6.1]at cM;refine C1 (C2 cM (cU [(0,.ref 1000 0),(4,vs p),(5,sl Bl (n0::l)),(6,.slice (.id 6 1) (rs.map Cu)),(7,.slice (.id 7 3) (sk.map AB)),(9,.ref 9 0),(10,vi (k86:Nat)),(32,sl AE cs),(33,vi (cs.map AE).length),(34,vi i)] [(6,.tok 1 rs.length),(7,.tok 3 sk.length),(9,.ro (AE cs[i])),(500,.arr 1 (st.map Ba)),(1000,.cells (srM roots C A S dec 500 st.length)),(1001,.tok 6 S.infs.length),(1002,.tok 1 S.drv.length),(1003,.map FL (FO 0 S.infs)),(1004,.dead)] Z10 Z9 (Yi (fun _=>?_) (fun hf=>absurd (show(0:Int)<=((k86:Nat):Int) by omega) hf))));refine Xi (Bl nd) (Yi (Yi (show(0:Int)<=((k86:Nat):Int) by omega) (Bq h6.2.1)) (Yi rfl (yN ?_)));have uz:=hex i n3 nd (Br h6.2.2) (by grind);obtain⟨b1,b2,b3⟩:=j3.add (uz.1 S.drv)
    change K7 x roots (Bx S nd).2 at b1
    change (Bx S nd).1<(Bx S nd).2.drv.length at b2
    change S.drv.length<=(Bx S nd).2.drv.length at b3
    refine Xi (.gen bM 0) (Yi rfl (Bg.imp (s88 roots C A S dec st nd hw.1 hw.2.1 j3.nodup (hnq nd (Az h6.2.1)) (hnp nd (Az h6.2.1))) ?_));intro v7 g7 q7;have q7a:=q7.1;have q7b:=q7.2;subst q7a;subst q7b;refine Yi (YG rfl Wk aa1) (Yi (Ii i Wk) ?_);have ZN:S.full=false:=by omega
    have eN:DR (CC x roots n) x p (n0::l) n0 dec st (cs.drop (i+1)) (Bx S nd).2 (rs++[(Bx S nd).1]) sk=R:=by rw[<-xx n3 ZN h6.2.2];exact j2
    refine Xi ⟨(i+1,(Bx S nd).2,rs++[(Bx S nd).1],sk),FE n3,eN,b1,fun r h=>(Bi.1 h).elim (fun h=>AM (j4 r h) b3) (fun h=>by simp_all),(by simp_all),Nat.le_succ_of_le j6⟩ ?_;exact⟨Dl cs.length i Wk,⟨Zr,Zr,Zr,⟨(show AV.slice (.id 6 1) (rs.map Cu++[[vi (((Bx S nd).1:Nat):Int)]])=.slice (.id 6 1) ((rs++[(Bx S nd).1]).map Cu) by simp_all),rfl⟩,Zr,Zr,Zr,Zr,Tv⟩,⟨⟨(show HO.tok 1 ((rs.map Cu).length+([[vi (((Bx S nd).1:Nat):Int)]]:C0).length)=.tok 1 (rs++[(Bx S nd).1]).length by simp),rfl⟩,Zr,Zr,Zr,Zr,Zr,Zr,Zr,Tv⟩,Fh,Bn aa2⟩
   skip
   rw[h6.1]at cM;refine C1 (C2 cM (cU [(0,.ref 1000 0),(4,vs p),(5,sl Bl (n0::l)),(6,.slice (.id 6 1) (rs.map Cu)),(7,.slice (.id 7 3) (sk.map AB)),(9,.ref 9 0),(10,vi (-1)),(32,sl AE cs),(33,vi (cs.map AE).length),(34,vi i)] [(6,.tok 1 rs.length),(7,.tok 3 sk.length),(9,.ro (AE cs[i])),(500,.arr 1 (st.map Ba)),(1000,.cells (srM roots C A S dec 500 st.length)),(1001,.tok 6 S.infs.length),(1002,.tok 1 S.drv.length),(1003,.map FL (FO 0 S.infs)),(1004,.dead)] Z10 Z9 (Yi (fun h=>absurd h aa1) (fun _=>?_))));refine Xi _ (C2 aa2 (Yi (tW (AA dec) (by grind)) (yN ?_)));have Wc:Bh 4 [[vs p,vi cs[i].rel.ver.a,vi cs[i].rel.ver.b,vi cs[i].rel.ver.c]]/\((AA dec).map Ae).length=((AA dec).map Ae).length/\(((AA dec).map Ae).length+([[vs p,vi cs[i].rel.ver.a,vi cs[i].rel.ver.b,vi cs[i].rel.ver.c]]:C0).length)*40<=140737488355328/\((AA dec).map Ae).length+([[vs p,vi cs[i].rel.ver.a,vi cs[i].rel.ver.b,vi cs[i].rel.ver.c]]:C0).length<=9223372036854775807:=⟨⟨rfl,trivial⟩,rfl,(by grind),(by grind)⟩;refine Yi Wc (Yi aa2 (cU [(0,.ref 1000 0),(4,vs p),(5,sl Bl (n0::l)),(6,.slice (.id 6 1) (rs.map Cu)),(7,.slice (.id 7 3) (sk.map AB)),(9,.ref 9 0),(11,.slice (.id 16000 4) ((AA (dec++[cs[i]])).map Ae)),(32,sl AE cs),(33,vi (cs.map AE).length),(34,vi i)] [(6,.tok 1 rs.length),(7,.tok 3 sk.length),(9,.ro (AE cs[i])),(500,.arr 1 (st.map Ba)),(1000,.cells (srM roots C A S dec 500 st.length)),(1001,.tok 6 S.infs.length),(1002,.tok 1 S.drv.length),(1003,.map FL (FO 0 S.infs)),(1004,.dead),(16000,.tok 4 ((AA (dec++[cs[i]])).map Ae).length)] ⟨Zr,Zr,Zr,Zr,Zr,Zr,⟨(show(.slice (.id 16000 4) (((AA dec).map Ae)++[[vs p,vi cs[i].rel.ver.a,vi cs[i].rel.ver.b,vi cs[i].rel.ver.c]]):AV)=.slice (.id 16000 4) ((AA (dec++[cs[i]])).map Ae) by grind),rfl⟩,Zr,Zr,Zr,Tv⟩ ⟨Zr,Zr,Zr,Zr,Zr,Zr,Zr,Zr,Zr,⟨(show(.tok 4 (((AA dec).map Ae).length+([[vs p,vi cs[i].rel.ver.a,vi cs[i].rel.ver.b,vi cs[i].rel.ver.c]]:C0).length):HO)=.tok 4 ((AA (dec++[cs[i]])).map Ae).length by simp_all),rfl⟩,Tv⟩ ?_))
   have Lt:=s89 roots C A S dec st (AA (dec++[cs[i]])) hw.2.2 wq (qr i n3);refine Ax (dv (Og S.drv (AA (dec++[cs[i]])))) (fun F2=>?_) (fun F2=>?_)
   .refine Ao F2 (fun ke F2=>?_);have eV:lr S.drv (AA (dec++[cs[i]]))=.tup [vi (ke:Nat),vb true]:=by simp_all
    rw[eV]at Lt;refine Xi (.gen bM 0) (Yi rfl (Bg.imp Lt ?_));intro v12 g12 Qj;have vA:=Qj.1;have vB:=Qj.2;subst vA;subst vB;refine yN ?_;have X3:=s69 roots C A S dec st cs[i] Wk (hcr i n3) (hcs_ i n3);refine Ax (dv (D3 dec cs[i])) (fun Lr=>?_) (fun Lr=>?_)
    .refine Ao Lr (fun nc Lr=>?_);have eW:t8 (D3 dec cs[i])=.tup [.agg (Bl nc),vb true]:=by rw[Lr];rfl
     rw[eW]at X3;refine Xi (.gen bM 0) (Yi rfl (Bg.imp X3 ?_));intro v14 g14 q14;have AdY:=q14.1;have AdZ:=q14.2;subst AdY;subst AdZ;refine yN (cU [(0,.ref 1000 0),(4,vs p),(5,sl Bl (n0::l)),(6,.slice (.id 6 1) (rs.map Cu)),(7,.slice (.id 7 3) (sk.map AB)),(9,.ref 9 0),(11,.slice (.id 16000 4) ((AA (dec++[cs[i]])).map Ae)),(12,vi (ke:Nat)),(13,vb true),(14,.ref 14 0),(15,vb true),(32,sl AE cs),(33,vi (cs.map AE).length),(34,vi i)] [(6,.tok 1 rs.length),(7,.tok 3 sk.length),(9,.ro (AE cs[i])),(14,.cells (Bl nc)),(500,.arr 1 (st.map Ba)),(1000,.cells (srM roots C A S dec 500 st.length)),(1001,.tok 6 S.infs.length),(1002,.tok 1 S.drv.length),(1003,.map FL (FO 0 S.infs)),(1004,.dead),(16000,.tok 4 ((AA (dec++[cs[i]])).map Ae).length)] ⟨Zr,Zr,Zr,Zr,Zr,Zr,Zr,Zr,Zr,Zr,Zr,Zr,Zr,Zr,Tv⟩ Z11 (cU [(0,.ref 1000 0),(4,vs p),(5,sl Bl (n0::l)),(6,.slice (.id 6 1) (rs.map Cu)),(7,.slice (.id 7 3) (sk.map AB)),(9,.ref 9 0),(12,vi (ke:Nat)),(32,sl AE cs),(33,vi (cs.map AE).length),(34,vi i)] [(6,.tok 1 rs.length),(7,.tok 3 sk.length),(9,.ro (AE cs[i])),(500,.arr 1 (st.map Ba)),(1000,.cells (srM roots C A S dec 500 st.length)),(1001,.tok 6 S.infs.length),(1002,.tok 1 S.drv.length),(1003,.map FL (FO 0 S.infs)),(1004,.dead)] Z10 Z9 (Xi (As (Eh S ke)) (Yi (Yi (show(0:Int)<=((ke:Nat):Int) by omega) (Bq (Fg (KH F2).1))) (Yi rfl ?_)))));have ZN:S.full=false:=by omega
     have bE:ke<S.drv.length:=(KH F2).1;have fq:=j3.der.few hx hr;refine Ax (Bt (DJ (Eh S ke) p)) (fun Hi=>?_) (fun Hi=>?_)
     .refine C1 (C2 (cb Hi (oW (Eh S ke) p (Gi (fq _ (Az (Fg bE)))))) (cU [(0,.ref 1000 0),(4,vs p),(5,sl Bl (n0::l)),(6,.slice (.id 6 1) (rs.map Cu)),(7,.slice (.id 7 3) (sk.map AB)),(9,.ref 9 0),(12,vi (ke:Nat)),(32,sl AE cs),(33,vi (cs.map AE).length),(34,vi i)] [(6,.tok 1 rs.length),(7,.tok 3 sk.length),(9,.ro (AE cs[i])),(500,.arr 1 (st.map Ba)),(1000,.cells (srM roots C A S dec 500 st.length)),(1001,.tok 6 S.infs.length),(1002,.tok 1 S.drv.length),(1003,.map FL (FO 0 S.infs)),(1004,.dead)] Z10 Z9 (Yi (YG rfl Wk aa1) (Yi (YG rfl Wk aa1) (Yi (Ii i Wk) ?_)))));have eA:=(XD (rec:=CC x roots n) (x:=x) (p:=p) (n0:=n0) (st:=st) (rs:=rs) (sk:=sk) n3 ZN h6.2 F2);have eN:DR (CC x roots n) x p (n0::l) n0 dec st (cs.drop (i+1)) S (rs++[ke]) (sk++[(⟨p,cs[i].place,(ke:Nat)⟩:Sk)])=R:=by rw[<-Xr (c:=cs[i]) Hi,<-eA];exact j2
      refine Xi ⟨(i+1,S,rs++[ke],sk++[(⟨p,cs[i].place,(ke:Nat)⟩:Sk)]),FE n3,eN,j3,fun r h=>(Bi.1 h).elim ((fun r h=>j4 r h) r) (fun h=>by simp_all),(by simp_all),(by simp_all)⟩ ?_;exact⟨Dl cs.length i Wk,⟨Zr,Zr,Zr,⟨(show AV.slice (.id 6 1) (rs.map Cu++[[vi ((ke:Nat):Int)]])=.slice (.id 6 1) ((rs++[ke]).map Cu) by simp_all),rfl⟩,⟨(show AV.slice (.id 7 3) (sk.map AB++[[vs p,vi cs[i].place,vi ((ke:Nat):Int)]])=.slice (.id 7 3) ((sk++[(⟨p,cs[i].place,(ke:Nat)⟩:Sk)]).map AB) by simp_all),rfl⟩,Zr,Zr,Zr,Tv⟩,⟨⟨(show HO.tok 1 ((rs.map Cu).length+([[vi ((ke:Nat):Int)]]:C0).length)=.tok 1 (rs++[ke]).length by simp),rfl⟩,⟨(show HO.tok 3 ((sk.map AB).length+([[vs p,vi cs[i].place,vi ((ke:Nat):Int)]]:C0).length)=.tok 3 (sk++[(⟨p,cs[i].place,(ke:Nat)⟩:Sk)]).length by simp),rfl⟩,Zr,Zr,Zr,Zr,Zr,Zr,Tv⟩,Fh,Bn aa2⟩
     refine C1 (C2 (cb Hi (oW (Eh S ke) p (Gi (fq _ (Az (Fg bE)))))) (cU [(12,vi (ke:Nat))] [(500,.arr 1 (st.map Ba)),(1000,.cells (srM roots C A S dec 500 st.length)),(1001,.tok 6 S.infs.length),(1002,.tok 1 S.drv.length),(1003,.map FL (FO 0 S.infs)),(1004,.dead)] Z1 Z6 ?_))
     have eA:=(XD (rec:=CC x roots n) (x:=x) (p:=p) (n0:=n0) (st:=st) (rs:=rs) (sk:=sk) n3 ZN h6.2 F2);have eR:R=⟨ke,false,S,dec,st⟩:=by rw[<-j2];rw[eA];exact dV Hi
     exact C2 (.refl _) (N7 (fb.trans eR))
    skip
    have eW:t8 (D3 dec cs[i])=.tup [.agg [vs ⟨#[]⟩,nzA,vs ⟨#[]⟩,vi 0,vi 0],vb false]:=by rw[Lr];rfl
    rw[eW]at X3;refine Xi (.gen bM 0) (Yi rfl (Bg.imp X3 ?_));intro v20 g20 q20;have Ae0:=q20.1;have Ae1:=q20.2;subst Ae0;subst Ae1;refine yN (cU [(0,.ref 1000 0),(4,vs p),(5,sl Bl (n0::l)),(6,.slice (.id 6 1) (rs.map Cu)),(7,.slice (.id 7 3) (sk.map AB)),(9,.ref 9 0),(11,.slice (.id 16000 4) ((AA (dec++[cs[i]])).map Ae)),(12,vi (ke:Nat)),(13,vb true),(14,.ref 14 0),(15,vb false),(32,sl AE cs),(33,vi (cs.map AE).length),(34,vi i)] [(6,.tok 1 rs.length),(7,.tok 3 sk.length),(9,.ro (AE cs[i])),(14,.cells [vs ⟨#[]⟩,nzA,vs ⟨#[]⟩,vi 0,vi 0]),(500,.arr 1 (st.map Ba)),(1000,.cells (srM roots C A S dec 500 st.length)),(1001,.tok 6 S.infs.length),(1002,.tok 1 S.drv.length),(1003,.map FL (FO 0 S.infs)),(1004,.dead),(16000,.tok 4 ((AA (dec++[cs[i]])).map Ae).length)] ⟨Zr,Zr,Zr,Zr,Zr,Zr,Zr,Zr,Zr,Zr,Zr,Zr,Zr,Zr,Tv⟩ Z11 (cU [(0,.ref 1000 0),(4,vs p),(5,sl Bl (n0::l)),(6,.slice (.id 6 1) (rs.map Cu)),(7,.slice (.id 7 3) (sk.map AB)),(9,.ref 9 0),(12,vi (ke:Nat)),(32,sl AE cs),(33,vi (cs.map AE).length),(34,vi i)] [(6,.tok 1 rs.length),(7,.tok 3 sk.length),(9,.ro (AE cs[i])),(500,.arr 1 (st.map Ba)),(1000,.cells (srM roots C A S dec 500 st.length)),(1001,.tok 6 S.infs.length),(1002,.tok 1 S.drv.length),(1003,.map FL (FO 0 S.infs)),(1004,.dead)] Z10 Z9 (Xi (As (Eh S ke)) (Yi (Yi (show(0:Int)<=((ke:Nat):Int) by omega) (Bq (Fg (KH F2).1))) (Yi rfl ?_)))));have ZN:S.full=false:=by omega
    have bE:ke<S.drv.length:=(KH F2).1;have fq:=j3.der.few hx hr;refine Ax (Bt (DJ (Eh S ke) p)) (fun XY=>?_) (fun XY=>?_)
    .refine C1 (C2 (cb XY (oW (Eh S ke) p (Gi (fq _ (Az (Fg bE)))))) (cU [(0,.ref 1000 0),(4,vs p),(5,sl Bl (n0::l)),(6,.slice (.id 6 1) (rs.map Cu)),(7,.slice (.id 7 3) (sk.map AB)),(9,.ref 9 0),(12,vi (ke:Nat)),(32,sl AE cs),(33,vi (cs.map AE).length),(34,vi i)] [(6,.tok 1 rs.length),(7,.tok 3 sk.length),(9,.ro (AE cs[i])),(500,.arr 1 (st.map Ba)),(1000,.cells (srM roots C A S dec 500 st.length)),(1001,.tok 6 S.infs.length),(1002,.tok 1 S.drv.length),(1003,.map FL (FO 0 S.infs)),(1004,.dead)] Z10 Z9 (Yi (YG rfl Wk aa1) (Yi (YG rfl Wk aa1) (Yi (Ii i Wk) ?_)))));have eA:=(XD (rec:=CC x roots n) (x:=x) (p:=p) (n0:=n0) (st:=st) (rs:=rs) (sk:=sk) n3 ZN h6.2 F2);have eN:DR (CC x roots n) x p (n0::l) n0 dec st (cs.drop (i+1)) S (rs++[ke]) (sk++[(⟨p,cs[i].place,(ke:Nat)⟩:Sk)])=R:=by rw[<-Xr (c:=cs[i]) XY,<-eA];exact j2
     refine Xi ⟨(i+1,S,rs++[ke],sk++[(⟨p,cs[i].place,(ke:Nat)⟩:Sk)]),FE n3,eN,j3,fun r h=>(Bi.1 h).elim ((fun r h=>j4 r h) r) (fun h=>by simp_all),(by simp_all),(by simp_all)⟩ ?_;exact⟨Dl cs.length i Wk,⟨Zr,Zr,Zr,⟨(show AV.slice (.id 6 1) (rs.map Cu++[[vi ((ke:Nat):Int)]])=.slice (.id 6 1) ((rs++[ke]).map Cu) by simp_all),rfl⟩,⟨(show AV.slice (.id 7 3) (sk.map AB++[[vs p,vi cs[i].place,vi ((ke:Nat):Int)]])=.slice (.id 7 3) ((sk++[(⟨p,cs[i].place,(ke:Nat)⟩:Sk)]).map AB) by simp_all),rfl⟩,Zr,Zr,Zr,Tv⟩,⟨⟨(show HO.tok 1 ((rs.map Cu).length+([[vi ((ke:Nat):Int)]]:C0).length)=.tok 1 (rs++[ke]).length by simp),rfl⟩,⟨(show HO.tok 3 ((sk.map AB).length+([[vs p,vi cs[i].place,vi ((ke:Nat):Int)]]:C0).length)=.tok 3 (sk++[(⟨p,cs[i].place,(ke:Nat)⟩:Sk)]).length by simp),rfl⟩,Zr,Zr,Zr,Zr,Zr,Zr,Tv⟩,Fh,Bn aa2⟩
    refine C1 (C2 (cb XY (oW (Eh S ke) p (Gi (fq _ (Az (Fg bE)))))) (cU [(12,vi (ke:Nat))] [(500,.arr 1 (st.map Ba)),(1000,.cells (srM roots C A S dec 500 st.length)),(1001,.tok 6 S.infs.length),(1002,.tok 1 S.drv.length),(1003,.map FL (FO 0 S.infs)),(1004,.dead)] Z1 Z6 ?_))
    have eA:=(XD (rec:=CC x roots n) (x:=x) (p:=p) (n0:=n0) (st:=st) (rs:=rs) (sk:=sk) n3 ZN h6.2 F2);have eR:R=⟨ke,false,S,dec,st⟩:=by rw[<-j2];rw[eA];exact dV XY
    exact C2 (.refl _) (N7 (fb.trans eR))
   skip
   have eV:lr S.drv (AA (dec++[cs[i]]))=.tup [vi 0,vb false]:=by simp_all
   rw[eV]at Lt;refine Xi (.gen bM 0) (Yi rfl (Bg.imp Lt ?_));intro v26 g26 q26;have Ae2:=q26.1;have Ae3:=q26.2;subst Ae2;subst Ae3;refine yN ?_;have X3:=s69 roots C A S dec st cs[i] Wk (hcr i n3) (hcs_ i n3);refine Ax (dv (D3 dec cs[i])) (fun My=>?_) (fun My=>?_)
   .refine Ao My (fun nc My=>?_);have eW:t8 (D3 dec cs[i])=.tup [.agg (Bl nc),vb true]:=by rw[My];rfl
    rw[eW]at X3;refine Xi (.gen bM 0) (Yi rfl (Bg.imp X3 ?_));intro v28 g28 q28;have Ae4:=q28.1;have Ae5:=q28.2;subst Ae4;subst Ae5;refine yN (cU [(0,.ref 1000 0),(4,vs p),(5,sl Bl (n0::l)),(6,.slice (.id 6 1) (rs.map Cu)),(7,.slice (.id 7 3) (sk.map AB)),(9,.ref 9 0),(11,.slice (.id 16000 4) ((AA (dec++[cs[i]])).map Ae)),(12,vi 0),(13,vb false),(14,.ref 14 0),(15,vb true),(32,sl AE cs),(33,vi (cs.map AE).length),(34,vi i)] [(6,.tok 1 rs.length),(7,.tok 3 sk.length),(9,.ro (AE cs[i])),(14,.cells (Bl nc)),(500,.arr 1 (st.map Ba)),(1000,.cells (srM roots C A S dec 500 st.length)),(1001,.tok 6 S.infs.length),(1002,.tok 1 S.drv.length),(1003,.map FL (FO 0 S.infs)),(1004,.dead),(16000,.tok 4 ((AA (dec++[cs[i]])).map Ae).length)] ⟨Zr,Zr,Zr,Zr,Zr,Zr,Zr,Zr,Zr,Zr,Zr,Zr,Zr,Zr,Tv⟩ Z11 (yN ?_));have uz:=hcx i n3 nc My;obtain⟨b1,b2,b3⟩:=j3.add (uz.1 S.drv)
    change K7 x roots (Bx S nc).2 at b1
    change (Bx S nc).1<(Bx S nc).2.drv.length at b2
    change S.drv.length<=(Bx S nc).2.drv.length at b3
    refine Xi (.gen bM 0) (Yi rfl (Bg.imp (s88 roots C A S dec st nc hw.1 hw.2.1 j3.nodup (hcq i n3 nc (Lc My).1) (hcp_ i n3 nc (Lc My).1)) ?_));intro v29 g29 q29;have Ae6:=q29.1;have Ae7:=q29.2;subst Ae6;subst Ae7;refine cU [(0,.ref 1000 0),(4,vs p),(5,sl Bl (n0::l)),(6,.slice (.id 6 1) (rs.map Cu)),(7,.slice (.id 7 3) (sk.map AB)),(9,.ref 9 0),(12,vi ((Bx S nc).1:Nat)),(32,sl AE cs),(33,vi (cs.map AE).length),(34,vi i)] [(6,.tok 1 rs.length),(7,.tok 3 sk.length),(9,.ro (AE cs[i])),(500,.arr 1 (st.map Ba)),(1000,.cells [sl Ad roots,.cmap Cc C,.cmap Cc A,.slice (.id 1001 6) ((Bx S nc).2.infs.map AG),.slice (.id 1002 1) ((Bx S nc).2.drv.map As),.mref 1003,vb (Bx S nc).2.full,sl AE dec,sl Ae (AA dec),.msl 500 st.length]),(1001,.tok 6 (Bx S nc).2.infs.length),(1002,.tok 1 (Bx S nc).2.drv.length),(1003,.map FL (FO 0 (Bx S nc).2.infs)),(1004,.dead)] Z10 Z9 (Xi (As (Eh (Bx S nc).2 (Bx S nc).1)) (Yi (Yi (show(0:Int)<=(((Bx S nc).1:Nat):Int) by omega) (Bq (Fg b2))) (Yi rfl ?_)));have ZN:S.full=false:=by omega
    have bE:(Bx S nc).1<(Bx S nc).2.drv.length:=b2;have fq:=b1.der.few hx hr;refine Ax (Bt (DJ (Eh (Bx S nc).2 (Bx S nc).1) p)) (fun cJ=>?_) (fun cJ=>?_)
    .refine C1 (C2 (cb cJ (oW (Eh (Bx S nc).2 (Bx S nc).1) p (Gi (fq _ (Az (Fg bE)))))) (cU [(0,.ref 1000 0),(4,vs p),(5,sl Bl (n0::l)),(6,.slice (.id 6 1) (rs.map Cu)),(7,.slice (.id 7 3) (sk.map AB)),(9,.ref 9 0),(12,vi ((Bx S nc).1:Nat)),(32,sl AE cs),(33,vi (cs.map AE).length),(34,vi i)] [(6,.tok 1 rs.length),(7,.tok 3 sk.length),(9,.ro (AE cs[i])),(500,.arr 1 (st.map Ba)),(1000,.cells [sl Ad roots,.cmap Cc C,.cmap Cc A,.slice (.id 1001 6) ((Bx S nc).2.infs.map AG),.slice (.id 1002 1) ((Bx S nc).2.drv.map As),.mref 1003,vb (Bx S nc).2.full,sl AE dec,sl Ae (AA dec),.msl 500 st.length]),(1001,.tok 6 (Bx S nc).2.infs.length),(1002,.tok 1 (Bx S nc).2.drv.length),(1003,.map FL (FO 0 (Bx S nc).2.infs)),(1004,.dead)] Z10 Z9 (Yi (YG rfl Wk aa1) (Yi (YG rfl Wk aa1) (Yi (Ii i Wk) ?_)))));have eA:=(Ze (rec:=CC x roots n) (x:=x) (p:=p) (n0:=n0) (st:=st) (rs:=rs) (sk:=sk) n3 ZN h6.2 F2 My);have eN:DR (CC x roots n) x p (n0::l) n0 dec st (cs.drop (i+1)) (Bx S nc).2 (rs++[(Bx S nc).1]) (sk++[(⟨p,cs[i].place,((Bx S nc).1:Nat)⟩:Sk)])=R:=by rw[<-Xr (c:=cs[i]) cJ,<-eA];exact j2
     refine Xi ⟨(i+1,(Bx S nc).2,rs++[(Bx S nc).1],sk++[(⟨p,cs[i].place,((Bx S nc).1:Nat)⟩:Sk)]),FE n3,eN,b1,fun r h=>(Bi.1 h).elim ((fun r h=>AM (j4 r h) b3) r) (fun h=>by simp_all),(by simp_all),(by simp_all)⟩ ?_;exact⟨Dl cs.length i Wk,⟨Zr,Zr,Zr,⟨(show AV.slice (.id 6 1) (rs.map Cu++[[vi (((Bx S nc).1:Nat):Int)]])=.slice (.id 6 1) ((rs++[(Bx S nc).1]).map Cu) by simp_all),rfl⟩,⟨(show AV.slice (.id 7 3) (sk.map AB++[[vs p,vi cs[i].place,vi (((Bx S nc).1:Nat):Int)]])=.slice (.id 7 3) ((sk++[(⟨p,cs[i].place,((Bx S nc).1:Nat)⟩:Sk)]).map AB) by simp_all),rfl⟩,Zr,Zr,Zr,Tv⟩,⟨⟨(show HO.tok 1 ((rs.map Cu).length+([[vi (((Bx S nc).1:Nat):Int)]]:C0).length)=.tok 1 (rs++[(Bx S nc).1]).length by simp),rfl⟩,⟨(show HO.tok 3 ((sk.map AB).length+([[vs p,vi cs[i].place,vi (((Bx S nc).1:Nat):Int)]]:C0).length)=.tok 3 (sk++[(⟨p,cs[i].place,((Bx S nc).1:Nat)⟩:Sk)]).length by simp),rfl⟩,Zr,Zr,Zr,Zr,Zr,Zr,Tv⟩,Fh,Bn aa2⟩
    refine C1 (C2 (cb cJ (oW (Eh (Bx S nc).2 (Bx S nc).1) p (Gi (fq _ (Az (Fg bE)))))) (cU [(12,vi ((Bx S nc).1:Nat))] [(500,.arr 1 (st.map Ba)),(1000,.cells [sl Ad roots,.cmap Cc C,.cmap Cc A,.slice (.id 1001 6) ((Bx S nc).2.infs.map AG),.slice (.id 1002 1) ((Bx S nc).2.drv.map As),.mref 1003,vb (Bx S nc).2.full,sl AE dec,sl Ae (AA dec),.msl 500 st.length]),(1001,.tok 6 (Bx S nc).2.infs.length),(1002,.tok 1 (Bx S nc).2.drv.length),(1003,.map FL (FO 0 (Bx S nc).2.infs)),(1004,.dead)] Z1 Z6 ?_))
    have eA:=(Ze (rec:=CC x roots n) (x:=x) (p:=p) (n0:=n0) (st:=st) (rs:=rs) (sk:=sk) n3 ZN h6.2 F2 My);have eR:R=⟨(Bx S nc).1,false,(Bx S nc).2,dec,st⟩:=by rw[<-j2];rw[eA];exact dV cJ
    exact C2 (.refl _) (N7 (fb.trans eR))
   skip
   have eW:t8 (D3 dec cs[i])=.tup [.agg [vs ⟨#[]⟩,nzA,vs ⟨#[]⟩,vi 0,vi 0],vb false]:=by rw[My];rfl
   rw[eW]at X3;refine Xi (.gen bM 0) (Yi rfl (Bg.imp X3 ?_));intro v35 g35 q35;have Aea:=q35.1;have Aeb:=q35.2;subst Aea;subst Aeb;refine yN (cU [(0,.ref 1000 0),(4,vs p),(5,sl Bl (n0::l)),(6,.slice (.id 6 1) (rs.map Cu)),(7,.slice (.id 7 3) (sk.map AB)),(9,.ref 9 0),(11,.slice (.id 16000 4) ((AA (dec++[cs[i]])).map Ae)),(12,vi 0),(13,vb false),(14,.ref 14 0),(15,vb false),(32,sl AE cs),(33,vi (cs.map AE).length),(34,vi i)] [(6,.tok 1 rs.length),(7,.tok 3 sk.length),(9,.ro (AE cs[i])),(14,.cells [vs ⟨#[]⟩,nzA,vs ⟨#[]⟩,vi 0,vi 0]),(500,.arr 1 (st.map Ba)),(1000,.cells (srM roots C A S dec 500 st.length)),(1001,.tok 6 S.infs.length),(1002,.tok 1 S.drv.length),(1003,.map FL (FO 0 S.infs)),(1004,.dead),(16000,.tok 4 ((AA (dec++[cs[i]])).map Ae).length)] ⟨Zr,Zr,Zr,Zr,Zr,Zr,Zr,Zr,Zr,Zr,Zr,Zr,Zr,Zr,Tv⟩ Z11 (Yi aa2 (cU [(0,.ref 1000 0),(4,vs p),(5,sl Bl (n0::l)),(6,.slice (.id 6 1) (rs.map Cu)),(7,.slice (.id 7 3) (sk.map AB)),(9,.ref 9 0),(11,.slice (.id 16000 4) ((AA (dec++[cs[i]])).map Ae)),(16,sl AE dec),(17,sl Ae (AA dec)),(32,sl AE cs),(33,vi (cs.map AE).length),(34,vi i)] [(6,.tok 1 rs.length),(7,.tok 3 sk.length),(9,.ro (AE cs[i])),(500,.arr 1 (st.map Ba)),(1000,.cells (srM roots C A S dec 500 st.length)),(1001,.tok 6 S.infs.length),(1002,.tok 1 S.drv.length),(1003,.map FL (FO 0 S.infs)),(1004,.dead),(16000,.tok 4 ((AA (dec++[cs[i]])).map Ae).length)] Z12 Z10 (Xi _ (C2 aa2 (Yi (zZ dec Wk) (yN ?_)))))));have b36:Bh 10 [(AE cs[i])]/\(dec.map AE).length=(dec.map AE).length/\((dec.map AE).length+([(AE cs[i])]:C0).length)*128<=140737488355328/\(dec.map AE).length+([(AE cs[i])]:C0).length<=9223372036854775807:=⟨⟨rfl,trivial⟩,rfl,(by grind),(by simp_all)⟩;refine Yi b36 (yN (yN (Yi aa2 ?_)));have b37:Bh 1 [[sl AB sk]]/\(st.map Ba).length=st.length/\((st.map Ba).length+([[sl AB sk]]:C0).length)*24<=140737488355328/\(st.map Ba).length+([[sl AB sk]]:C0).length<=9223372036854775807:=⟨⟨rfl,trivial⟩,(by simp_all),(by grind),(by simp_all)⟩;refine Yi b37 (yN (cU [(0,.ref 1000 0),(4,vs p),(5,sl Bl (n0::l)),(6,.slice (.id 6 1) (rs.map Cu)),(7,.slice (.id 7 3) (sk.map AB)),(9,.ref 9 0),(16,sl AE dec),(17,sl Ae (AA dec)),(32,sl AE cs),(33,vi (cs.map AE).length),(34,vi i)] [(6,.tok 1 rs.length),(7,.tok 3 sk.length),(9,.ro (AE cs[i])),(500,.arr 1 ((st.map Ba)++[[sl AB sk]])),(1000,.cells [sl Ad roots,.cmap Cc C,.cmap Cc A,.slice (.id 1001 6) (S.infs.map AG),.slice (.id 1002 1) (S.drv.map As),.mref 1003,vb S.full,.slice (.id 20100 10) ((dec.map AE)++[(AE cs[i])]),.slice (.id 16000 4) ((AA (dec++[cs[i]])).map Ae),.msl 500 ((st.map Ba).length+([[sl AB sk]]:C0).length)]),(1001,.tok 6 S.infs.length),(1002,.tok 1 S.drv.length),(1003,.map FL (FO 0 S.infs)),(1004,.dead),(16000,.tok 4 ((AA (dec++[cs[i]])).map Ae).length),(20100,.tok 10 ((dec.map AE).length+([(AE cs[i])]:C0).length))] Z11 Z11 (cU [(0,.ref 1000 0),(4,vs p),(5,sl Bl (n0::l)),(6,.slice (.id 6 1) (rs.map Cu)),(7,.slice (.id 7 3) (sk.map AB)),(9,.ref 9 0),(16,sl AE dec),(17,sl Ae (AA dec)),(32,sl AE cs),(33,vi (cs.map AE).length),(34,vi i)] [(6,.tok 1 rs.length),(7,.tok 3 sk.length),(9,.ro (AE cs[i])),(500,.arr 1 ((st++[sk]).map Ba)),(1000,.cells [sl Ad roots,.cmap Cc C,.cmap Cc A,.slice (.id 1001 6) (S.infs.map AG),.slice (.id 1002 1) (S.drv.map As),.mref 1003,vb S.full,.slice (.id 20100 10) ((dec++[cs[i]]).map AE),.slice (.id 16000 4) ((AA (dec++[cs[i]])).map Ae),.msl 500 (st++[sk]).length]),(1001,.tok 6 S.infs.length),(1002,.tok 1 S.drv.length),(1003,.map FL (FO 0 S.infs)),(1004,.dead),(16000,.tok 4 ((AA (dec++[cs[i]])).map Ae).length),(20100,.tok 10 ((dec++[cs[i]]).map AE).length)] Z11 ⟨Zr,Zr,Zr,⟨(show(.arr 1 ((st.map Ba)++[[sl AB sk]]):HO)=.arr 1 ((st++[sk]).map Ba) by simp),rfl⟩,⟨(show(.cells [sl Ad roots,.cmap Cc C,.cmap Cc A,.slice (.id 1001 6) (S.infs.map AG),.slice (.id 1002 1) (S.drv.map As),.mref 1003,vb S.full,.slice (.id 20100 10) ((dec.map AE)++[(AE cs[i])]),.slice (.id 16000 4) ((AA (dec++[cs[i]])).map Ae),.msl 500 ((st.map Ba).length+([[sl AB sk]]:C0).length)]:HO)=.cells [sl Ad roots,.cmap Cc C,.cmap Cc A,.slice (.id 1001 6) (S.infs.map AG),.slice (.id 1002 1) (S.drv.map As),.mref 1003,vb S.full,.slice (.id 20100 10) ((dec++[cs[i]]).map AE),.slice (.id 16000 4) ((AA (dec++[cs[i]])).map Ae),.msl 500 (st++[sk]).length] by simp),rfl⟩,Zr,Zr,Zr,Zr,Zr,⟨(show(.tok 10 ((dec.map AE).length+([(AE cs[i])]:C0).length):HO)=.tok 10 ((dec++[cs[i]]).map AE).length by simp),rfl⟩,Tv⟩ ?_)))
   have GR:jt dec (n0::l) cs[i]=true:=Qf.2 ⟨fun n hn=>by grind,My⟩;have mr:=ih cs[i] (sr i n3) GR S (st++[sk]) (by simp_all) j3 Wk;refine Ao (show ∃o,o=CC x roots n (dec++[cs[i]]) S (st++[sk])from⟨_,rfl⟩) (fun o ho=>?_);rw[<-ho]at mr;have hrc:Bg Tryz.prog 82 [.ref 1000 0] (Ai (Ju roots C A S (dec++[cs[i]]) (st++[sk])) Af) (fun r h'=>r=.tup [vi (o.res:Nat),vb o.found]/\h'=Ai (srE roots C A o.ss o.dec o.stack) Af):=mr.1;have yZ:=mr.2.1;have hrn:=mr.2.2.1;refine Ax (Bt o.found) (fun SJ=>?_) (fun SJ=>?_)
   .skip
    rw[SJ]at hrc;refine Xi (.gen bM 1) (Yi rfl (Bg.imp hrc ?_));intro v39 g39 q39;have Aec:=q39.1;have Aed:=q39.2;subst Aec;subst Aed;refine cU [(0,.ref 1000 0),(4,vs p),(5,sl Bl (n0::l)),(6,.slice (.id 6 1) (rs.map Cu)),(7,.slice (.id 7 3) (sk.map AB)),(9,.ref 9 0),(12,vi (o.res:Nat)),(16,sl AE dec),(17,sl Ae (AA dec)),(18,vb true),(32,sl AE cs),(33,vi (cs.map AE).length),(34,vi i)] [(6,.tok 1 rs.length),(7,.tok 3 sk.length),(9,.ro (AE cs[i])),(1000,.cells (srM roots C A o.ss o.dec 22200 o.stack.length)),(1001,.tok 6 o.ss.infs.length),(1002,.tok 1 o.ss.drv.length),(1003,.map FL (FO 0 o.ss.infs)),(1004,.dead),(22200,.arr 1 (o.stack.map Ba))] Z13 Z9 (Yi (show o.stack.length=(o.stack.map Ba).length by simp) (cU [] [(500,.arr 1 (o.stack.map Ba)),(1000,.cells (srM roots C A o.ss o.dec 500 o.stack.length)),(1001,.tok 6 o.ss.infs.length),(1002,.tok 1 o.ss.drv.length),(1003,.map FL (FO 0 o.ss.infs)),(1004,.dead)] Tv Z6 ?_))
    have ZN:S.full=false:=by omega
    have eR:R=⟨0,true,o.ss,o.dec,o.stack⟩:=by rw[<-j2];rw[XE (sk:=sk) n3 ZN h6.2 F2 My ho,A3 SJ]
    exact C2 (.refl _) (N7 (fb.trans eR))
   skip
   rw[SJ]at hrc;have hrk:=mr.2.2.2 SJ;have Uh:o.stack.length=st.length+1:=by simp_all
   refine Xi (.gen bM 1) (Yi rfl (Bg.imp hrc ?_));intro v41 g41 q41;have Aee:=q41.1;have Aef:=q41.2;subst Aee;subst Aef;refine cU [(0,.ref 1000 0),(4,vs p),(5,sl Bl (n0::l)),(6,.slice (.id 6 1) (rs.map Cu)),(7,.slice (.id 7 3) (sk.map AB)),(9,.ref 9 0),(12,vi (o.res:Nat)),(16,sl AE dec),(17,sl Ae (AA dec)),(18,vb false),(32,sl AE cs),(33,vi (cs.map AE).length),(34,vi i)] [(6,.tok 1 rs.length),(7,.tok 3 sk.length),(9,.ro (AE cs[i])),(1000,.cells (srM roots C A o.ss o.dec 22200 o.stack.length)),(1001,.tok 6 o.ss.infs.length),(1002,.tok 1 o.ss.drv.length),(1003,.map FL (FO 0 o.ss.infs)),(1004,.dead),(22200,.arr 1 (o.stack.map Ba))] Z13 Z9 (yN (yN (cU [(0,.ref 1000 0),(4,vs p),(5,sl Bl (n0::l)),(6,.slice (.id 6 1) (rs.map Cu)),(7,.slice (.id 7 3) (sk.map AB)),(9,.ref 9 0),(12,vi (o.res:Nat)),(32,sl AE cs),(33,vi (cs.map AE).length),(34,vi i)] [(6,.tok 1 rs.length),(7,.tok 3 sk.length),(9,.ro (AE cs[i])),(1000,.cells (srM roots C A o.ss dec 22200 o.stack.length)),(1001,.tok 6 o.ss.infs.length),(1002,.tok 1 o.ss.drv.length),(1003,.map FL (FO 0 o.ss.infs)),(1004,.dead),(22200,.arr 1 (o.stack.map Ba))] Z10 Z9 (Yi (by show Au ((o.stack.length:Int)-(1:Int));unfold Au;omega) (Yi ⟨(show o.stack.length=(o.stack.map Ba).length by simp),(show(0:Int)<=o.stack.length-1 by omega),(show(o.stack.length-1:Int)<=((o.stack.map Ba).length:Nat) by grind)⟩ (yN (Yi aa2 (Yi (show(o.stack.length-1:Int).toNat=(((o.stack.map Ba).take (o.stack.length-1:Int).toNat):C0).length by simp) ?_))))))));have AiF:((o.stack.map Ba).take ((o.stack.length:Int)-1).toNat)=st.map Ba/\((o.stack.length:Int)-1).toNat=st.length:=yT hrk;refine cU [(0,.ref 1000 0),(4,vs p),(5,sl Bl (n0::l)),(6,.slice (.id 6 1) (rs.map Cu)),(7,.slice (.id 7 3) (sk.map AB)),(9,.ref 9 0),(12,vi (o.res:Nat)),(32,sl AE cs),(33,vi (cs.map AE).length),(34,vi i)] [(6,.tok 1 rs.length),(7,.tok 3 sk.length),(9,.ro (AE cs[i])),(500,.arr 1 (st.map Ba)),(1000,.cells (srM roots C A o.ss dec 500 st.length)),(1001,.tok 6 o.ss.infs.length),(1002,.tok 1 o.ss.drv.length),(1003,.map FL (FO 0 o.ss.infs)),(1004,.dead)] Z10 ⟨Zr,Zr,Zr,⟨(show(.arr 1 ((o.stack.map Ba).take (o.stack.length-1:Int).toNat):HO)=.arr 1 (st.map Ba) by simp_all),rfl⟩,⟨(show(.cells (srM roots C A o.ss dec 500 (o.stack.length-1:Int).toNat):HO)=.cells (srM roots C A o.ss dec 500 st.length) by simp_all),rfl⟩,Zr,Zr,Zr,Zr,Tv⟩ ?_
   refine Yi (fun h42=>?_) (fun h42=>?_)
   .have ZN:S.full=false:=by omega
    have eR:R=⟨0,false,o.ss,dec,st⟩:=by rw[<-j2];rw[XE (sk:=sk) n3 ZN h6.2 F2 My ho,AN (by simp_all),A3 h42]
    exact C2 (.refl _) (N7 (fb.trans eR))
   have mg:o.ss.full=false:=h42;refine cU [(0,.ref 1000 0),(4,vs p),(5,sl Bl (n0::l)),(6,.slice (.id 6 1) (rs.map Cu)),(7,.slice (.id 7 3) (sk.map AB)),(9,.ref 9 0),(12,vi (o.res:Nat)),(32,sl AE cs),(33,vi (cs.map AE).length),(34,vi i)] [(6,.tok 1 rs.length),(7,.tok 3 sk.length),(9,.ro (AE cs[i])),(500,.arr 1 (st.map Ba)),(1000,.cells (srM roots C A o.ss dec 500 st.length)),(1001,.tok 6 o.ss.infs.length),(1002,.tok 1 o.ss.drv.length),(1003,.map FL (FO 0 o.ss.infs)),(1004,.dead)] Z10 Z9 (Xi (As (Eh o.ss o.res)) (Yi (Yi (show(0:Int)<=((o.res:Nat):Int) by omega) (Bq (Fg (hrn.2 SJ mg)))) (Yi rfl ?_)));have ZN:S.full=false:=by omega
   have bE:o.res<o.ss.drv.length:=(hrn.2 SJ mg);have fq:=yZ.der.few hx hr;refine Ax (Bt (DJ (Eh o.ss o.res) p)) (fun p9=>?_) (fun p9=>?_)
   .refine C1 (C2 (cb p9 (oW (Eh o.ss o.res) p (Gi (fq _ (Az (Fg bE)))))) (cU [(0,.ref 1000 0),(4,vs p),(5,sl Bl (n0::l)),(6,.slice (.id 6 1) (rs.map Cu)),(7,.slice (.id 7 3) (sk.map AB)),(9,.ref 9 0),(12,vi (o.res:Nat)),(32,sl AE cs),(33,vi (cs.map AE).length),(34,vi i)] [(6,.tok 1 rs.length),(7,.tok 3 sk.length),(9,.ro (AE cs[i])),(500,.arr 1 (st.map Ba)),(1000,.cells (srM roots C A o.ss dec 500 st.length)),(1001,.tok 6 o.ss.infs.length),(1002,.tok 1 o.ss.drv.length),(1003,.map FL (FO 0 o.ss.infs)),(1004,.dead)] Z10 Z9 (Yi (YG rfl Wk aa1) (Yi (YG rfl Wk aa1) (Yi (Ii i Wk) ?_)))));have eA:=(XE (rec:=CC x roots n) (x:=x) (p:=p) (n0:=n0) (st:=st) (rs:=rs) (sk:=sk) n3 ZN h6.2 F2 My ho);rw[AN (by simp_all),AN (by simp_all)]at eA;have eN:DR (CC x roots n) x p (n0::l) n0 dec st (cs.drop (i+1)) o.ss (rs++[o.res]) (sk++[(⟨p,cs[i].place,(o.res:Nat)⟩:Sk)])=R:=by rw[<-Xr (c:=cs[i]) p9,<-eA];exact j2
    refine Xi ⟨(i+1,o.ss,rs++[o.res],sk++[(⟨p,cs[i].place,(o.res:Nat)⟩:Sk)]),FE n3,eN,yZ,fun r h=>(Bi.1 h).elim ((fun r h=>AM (j4 r h) hrn.1) r) (fun h=>by simp_all),(by simp_all),(by simp_all)⟩ ?_;exact⟨Dl cs.length i Wk,⟨Zr,Zr,Zr,⟨(show AV.slice (.id 6 1) (rs.map Cu++[[vi ((o.res:Nat):Int)]])=.slice (.id 6 1) ((rs++[o.res]).map Cu) by simp_all),rfl⟩,⟨(show AV.slice (.id 7 3) (sk.map AB++[[vs p,vi cs[i].place,vi ((o.res:Nat):Int)]])=.slice (.id 7 3) ((sk++[(⟨p,cs[i].place,(o.res:Nat)⟩:Sk)]).map AB) by simp_all),rfl⟩,Zr,Zr,Zr,Tv⟩,⟨⟨(show HO.tok 1 ((rs.map Cu).length+([[vi ((o.res:Nat):Int)]]:C0).length)=.tok 1 (rs++[o.res]).length by simp),rfl⟩,⟨(show HO.tok 3 ((sk.map AB).length+([[vs p,vi cs[i].place,vi ((o.res:Nat):Int)]]:C0).length)=.tok 3 (sk++[(⟨p,cs[i].place,(o.res:Nat)⟩:Sk)]).length by simp),rfl⟩,Zr,Zr,Zr,Zr,Zr,Zr,Tv⟩,Fh,Bn aa2⟩
   refine C1 (C2 (cb p9 (oW (Eh o.ss o.res) p (Gi (fq _ (Az (Fg bE)))))) (cU [(12,vi (o.res:Nat))] [(500,.arr 1 (st.map Ba)),(1000,.cells (srM roots C A o.ss dec 500 st.length)),(1001,.tok 6 o.ss.infs.length),(1002,.tok 1 o.ss.drv.length),(1003,.map FL (FO 0 o.ss.infs)),(1004,.dead)] Z1 Z6 ?_))
   have eA:=(XE (rec:=CC x roots n) (x:=x) (p:=p) (n0:=n0) (st:=st) (rs:=rs) (sk:=sk) n3 ZN h6.2 F2 My ho);rw[AN (by simp_all),AN (by simp_all)]at eA;have eR:R=⟨o.res,false,o.ss,dec,st⟩:=by rw[<-j2];rw[eA];exact dV p9
   exact C2 (.refl _) (N7 (fb.trans eR))
  have n3:=Et h3;refine Xi (Bl n0) (Yi (Yi (show(0:Int)<=0 by decide) rfl) (Yi rfl (yN (Xi (.gen bM 0) (Yi rfl (Bg.imp (s91 x roots C A S dec st p n0 rs V hx hr j3 hinf0 j4 Wk (hnq n0 (Ag ..)) (hnp n0 (Ag ..)) xU xV xW) ?_))))));intro v49 g49 q49;have Aeg:=q49.1;have Aeh:=q49.2;subst Aeg;subst Aeh;have hj:¬i<cs.length:=by omega
  have eR:R=⟨(DC x p n0 rs S).1,false,(DC x p n0 rs S).2,dec,st⟩:=by rw[<-j2];exact kU hj
  exact C2 (.refl _) (N7 (fb.trans eR))
 exact absurd PK hC2
theorem AeB(hL:Lvl x roots C A n dec p n0 l V cs)(hs:K7 x roots s)(_:st.length=dec.length)(Su:Bg Tryz.prog 148 [.ref 1000 0] (Ai (Ju roots C A s dec st) Af) fun r h'=>r=.tup [vs p,sl Bl (n0::l)]/\h'=Ai (Ju roots C A s dec st) Af)(Ai9:cs=[])(hC2:∀a,(Value.string p,a)∉C)(hR:DR (CC x roots n) x p (n0::l) n0 dec st cs s [] []=R)(fb:O=R) :
  Bg Tryz.prog 82 [.ref 1000 0] (Ai (Ju roots C A s dec st) Af) (bO roots C A O):=by
 obtain⟨hx,hr,hdl,hcl,hcs,hnl,hnq,hnp,hex,hcx,hcq,hcp_,hcr,hcs_,hkey,hinf0,⟨xU,xV,xW⟩,ih⟩:=hL;have sr:∀(i:Nat) (h:i<cs.length),cs[i]∈BA x p:=fun i h=>by simp_all
 have qr:∀(i:Nat) (h:i<cs.length),BO (AA (dec++[cs[i]])):=fun i h=>by grind
 clear hcs
 refine Bj (I9 ⟨[9],[(6,1),(7,3),(145,1)],[],[],[],[],[],[],[],[(300001,500091000),(300026,500091000),(300029,500091000)],[1,2,5,10,11,13,14,15,16,17,19,21,22,23,24,25,26,28,29,31,32,33,35]⟩) [(1000,1000),(1001,1001),(1002,1002),(1003,1003),(1004,1004),(500,2000)] rfl BI hm rfl func82 aa2 rfl (Nz rfl) aa2 rfl (Yi (show st.length=(st.map Ba).length by simp) (cU [(0,.ref 1000 0)] [(500,.arr 1 (st.map Ba)),(1000,.cells (srM roots C A s dec 500 st.length)),(1001,.tok 6 s.infs.length),(1002,.tok 1 s.drv.length),(1003,.map FL (FO 0 s.infs)),(1004,.dead)] Z1 Z6 (Xi (.gen bM 0) (Yi rfl (Bg.imp Su ?_)))));intro v1 g1 q1;have rk:=q1.1;have rm:=q1.2;subst rk;subst rm;refine cU [(0,.ref 1000 0),(4,vs p),(5,sl Bl (n0::l))] [(500,.arr 1 (st.map Ba)),(1000,.cells (srM roots C A s dec 500 st.length)),(1001,.tok 6 s.infs.length),(1002,.tok 1 s.drv.length),(1003,.map FL (FO 0 s.infs)),(1004,.dead)] Z3 Z6 (Yi (fun h2=>?_) (fun h2=>?_))
 .exact absurd h2 (by grind)
 refine cU [(0,.ref 1000 0),(4,vs p),(5,sl Bl (n0::l)),(6,.slice (.id 6 1) [])] [(6,.tok 1 0),(500,.arr 1 (st.map Ba)),(1000,.cells (srM roots C A s dec 500 st.length)),(1001,.tok 6 s.infs.length),(1002,.tok 1 s.drv.length),(1003,.map FL (FO 0 s.infs)),(1004,.dead)] Z4 Z7 (Yi (fun a ha=>?_) (fun PK=>?_))
 .exact absurd ha (hC2 a)
 refine Xi {q:Nat×SS×List Nat×List Sk // q.1<=cs.length/\DR (CC x roots n) x p (n0::l) n0 dec st (cs.drop q.1) q.2.1 q.2.2.1 q.2.2.2=R/\K7 x roots q.2.1/\(∀r∈q.2.2.1,r<q.2.1.drv.length)/\q.2.2.1.length<=q.1/\q.2.2.2.length<=q.1} (Xi (fun q=>⟨[(0,.ref 1000 0),(4,vs p),(5,sl Bl (n0::l)),(6,.slice (.id 6 1) (q.1.2.2.1.map Cu)),(7,.slice (.id 7 3) (q.1.2.2.2.map AB)),(32,nzA),(33,vi 0),(34,vi q.1.1)],[(6,.tok 1 q.1.2.2.1.length),(7,.tok 3 q.1.2.2.2.length),(500,.arr 1 (st.map Ba)),(1000,.cells (srM roots C A q.1.2.1 dec 500 st.length)),(1001,.tok 6 q.1.2.1.infs.length),(1002,.tok 1 q.1.2.1.drv.length),(1003,.map FL (FO 0 q.1.2.1.infs)),(1004,.dead)],Af⟩) (Xi (fun q=>cs.length-q.1.1) (Yi (Xi ⟨(0,s,[],[]),Al _,hR,hs,fun r h=>(by cases h),Ap _,Ap _⟩ ?_) ?_)))
 .exact⟨Z8,Z8,Fh,Bn aa2⟩
 intro⟨⟨i,S,rs,sk⟩,j1,j2,j3,j4,j5,j6⟩;have j5:rs.length<=i:=j5;have hw:=j3.dl;have wq:∀t∈S.drv,Qx t:=fun t ht=>by have q:=j3.der.few hx hr t ht;grind
 refine Yi (fun h3=>?_) (fun h3=>?_)
 .have h3:(i:Int)<(0:Int):=h3;exact absurd h3 Wk
 have h3:¬((i:Int)<(0:Int)):=h3;refine Xi (Bl n0) (Yi (Yi (show(0:Int)<=0 by decide) rfl) (Yi rfl (yN (Xi (.gen bM 0) (Yi rfl (Bg.imp (s91 x roots C A S dec st p n0 rs V hx hr j3 hinf0 j4 Wk (hnq n0 (Ag ..)) (hnp n0 (Ag ..)) xU xV xW) ?_))))));intro v4 g4 q4;have q4a:=q4.1;have q4b:=q4.2;subst q4a;subst q4b;have hj:¬i<cs.length:=by simp_all
 have eR:R=⟨(DC x p n0 rs S).1,false,(DC x p n0 rs S).2,dec,st⟩:=by rw[<-j2];exact kU hj
 exact C2 (.refl _) (N7 (fb.trans eR))
theorem AeD(N:List Nd)(O:Kz)(hN:N=[])(Su:Bg Tryz.prog 148 [.ref 1000 0] (Ai (Ju roots C A s dec st) Af) fun r h'=>r=.tup [vs p,sl Bl N]/\h'=Ai (Ju roots C A s dec st) Af)(hO:O=⟨0,true,s,dec,st⟩) :
  Bg Tryz.prog 82 [.ref 1000 0] (Ai (Ju roots C A s dec st) Af) (bO roots C A O):=by
 refine Bj (I9 ⟨[],[],[],[],[],[],[],[],[],[(300001,500091000)],[1,2,5,10,11,13,14,15,16,17,19,21,22,23,25,28,29,31,32,33,35]⟩) [(1000,1000),(1001,1001),(1002,1002),(1003,1003),(1004,1004),(500,2000)] rfl BI hm rfl func82 aa2 rfl (Nz rfl) aa2 rfl (Yi (show st.length=(st.map Ba).length by simp) (cU [(0,.ref 1000 0)] [(500,.arr 1 (st.map Ba)),(1000,.cells (srM roots C A s dec 500 st.length)),(1001,.tok 6 s.infs.length),(1002,.tok 1 s.drv.length),(1003,.map FL (FO 0 s.infs)),(1004,.dead)] Z1 Z6 (Xi (.gen bM 0) (Yi rfl (Bg.imp Su ?_)))));intro v1 g1 q1;have rk:=q1.1;have rm:=q1.2;subst rk;subst rm;refine cU [(0,.ref 1000 0),(4,vs p),(5,sl Bl N)] [(500,.arr 1 (st.map Ba)),(1000,.cells (srM roots C A s dec 500 st.length)),(1001,.tok 6 s.infs.length),(1002,.tok 1 s.drv.length),(1003,.map FL (FO 0 s.infs)),(1004,.dead)] Z3 Z6 (Yi (fun h2=>?_) (fun h2=>?_))
 .exact C2 (.refl _) (N7 (st:=st) hO)
 exact absurd (by simp_all) h2
section
variable {x:List Rl}{roots:List Rq}{p:CS}
theorem IC:∀(l:List Nat) {k:Nat} {s:SS},s.infs.Nodup->(B4 p l k s).2.infs.Nodup
 | [],_,_,h=>h
 |r::l,k,s,h=>by
  unfold B4;split
  .exact h
  split
  .exact IC l h
  split
  .exact IC l h
  .exact IC l (In h)
theorem K9{needs:List Nd}{n0:Nd}{dec:List Cd}{st:List (List Sk)}{rec:List Cd->SS->List (List Sk)->Kz}(cV:∀c s st,s.infs.Nodup->(rec (dec++[c]) s st).ss.infs.Nodup) :
  ∀(cs:List Cd) {s:SS} {rs:List Nat} {sk:List Sk},s.infs.Nodup->(DR rec x p needs n0 dec st cs s rs sk).ss.infs.Nodup
 | [],s,rs,sk,h=>IC _ (In (In h))
 |c::cs,s,rs,sk,h=>by
  have aft:∀(s' : SS) (k:Nat),s'.infs.Nodup->(IG rec x p needs n0 dec st c cs rs sk k s').ss.infs.Nodup:=fun s' k h'=>by
   unfold IG;split
   .exact h'
   .exact K9 cV cs h'
  rw[FW];split
  .exact h
  cases needs.find? fun n=>!has n.rq.set c.place with
  |some n=>exact K9 cV cs (In h)
  |none=>
   dsimp only;cases Og s.drv (AA (dec++[c]))with
   |some k=>simp_all
   |none=>
    dsimp only;cases D3 dec c with
    |some n=>exact aft _ _ (In h)
    |none=>
     grind
theorem Qp:∀(n:Nat) {dec:List Cd} {s:SS} {st:List (List Sk)},s.infs.Nodup->(CC x roots n dec s st).ss.infs.Nodup
 |0,_,_,_,h=>h
 |n+1,dec,s,st,h=>by
  unfold CC;cases (EV roots dec).2 with
  |nil=>exact h
  |cons n0 l=>exact K9 (fun c s st h=>Qp n h) _ h
structure wJ(x:List Rl)(roots:List Rq)(C A:List (Value×AV)):Prop where
 hx:At x=0
 hr:AH roots=0
 fx:∀r∈x,Fk r
 fr:∀q∈roots,IE q
 c1:∀(p:CS) (a:AV),(Value.string p,a)∈C->a=sl AE (BA x p)
 c2:∀p:CS,(∀a,(Value.string p,a)∉C)->BA x p=[]
 c3:∀p:CS,BA x p=[]->∀a,(Value.string p,a)∉C
 av:∀p:CS,∃V,HV x A p V
theorem ug{dec:List Cd}(h:∀c∈dec,c.rel.reqs.length<=16):((dec.map fun c=>c.rel.reqs).flatten).length<=16*dec.length:=by
 induction dec<;>grind
theorem vz{r:Rl}(h:J4 r):0<=plc r.ver/\plc r.ver<1000000:=by rw[h.plc];exact JS h.val
theorem jl(dec:List Cd):(EV roots dec).2.length<=(Dr roots dec).length:=by
 grind [UG]
theorem s45{C A:List (Value×AV)}(hE:wJ x roots C A)(uk:H64 roots C A):∀(n:Nat) {dec:List Cd} {s:SS} {st:List (List Sk)},DE x dec->I5 roots dec->K7 x roots s->s.full=false->FX x dec<n->st.length=dec.length ->
  Bg Tryz.prog 82 [.ref 1000 0] (Ai (Ju roots C A s dec st) Af) (bO roots C A (CC x roots n dec s st))
 |0,_,_,_,_,_,_,_,h,_=>by omega
 |n+1,dec,s,st,hd,iJ,hs,hf,hn,Jt=>by
  have hx:=hE.hx;have hr:=hE.hr;have L0:=Fs hx;have hdl:=Zk hd;have AcN:dec.length<=256:=by omega
  have hrl:∀c∈dec,c.rel.reqs.length<=16:=fun c hc=>L0.2 _ (hd.cand c hc).1;have Su:=uk s dec st Wk fun c hc=>AS (hrl c hc) aa1;generalize hO:CC x roots (n+1) dec s st=O;obtain⟨N,hN⟩:∃N,N=(EV roots dec).2:=⟨_,rfl⟩;obtain⟨q,hq⟩:∃q,q=(EV roots dec).1:=⟨_,rfl⟩;rw[<-hN,<-hq]at Su;have hNl:N.length<=10000:=by
   grind [jl,Jz,Lm,ug,MW]
  cases hNc:N with
  |nil=>
   rw[hNc]at hN Su;refine AeD roots C A s dec st q [] O rfl Su ?_
   grind [CC]
  |cons n0 l=>
   rw[hNc]at hN Su;have hNx:=Ly hN.symm;rw[<-hq]at hNx;have Vu:∀nd∈n0::l,nd∈Dr roots dec:=fun nd h=>((hNx.mem nd).1 h).1;have GR:=(BB hx).1;have few:∀{E:List Cd},DE x E->∀nd∈Dr roots E,BO nd.rq.set/\Au (nd.place+1):=fun hE' nd h=>by
    rcases MK h with ⟨k,r,h1,rfl⟩ | ⟨c,hc,k,r,h1,rfl⟩
    .grind [Au,wJ.fr]
    .have h2:=hE'.cand c hc;have h3:=vz (GR _ h2.1)
     grind [Au,wJ.fx]
   have wA:∀c∈BA x q,DE x (dec++[c])/\c.rel.path=q/\c.rel∈x:=fun c hc=>by
    grind [Hq,DE.snoc,YL.undone]
   have F3:∀(i:Nat) (h:i<(BA x q).length),(BA x q)[i]∈BA x q:=fun i h=>Ah h;obtain⟨V,hV⟩:=hE.av q
   have hL:Lvl x roots C A n dec q n0 l V (BA x q):={
    hx:=hx
    hr:=hr
    hdl:=AcN
    hcl:=AS (Wh x q) L0.1
    hcs:=rfl
    hnl:=by grind
    hnq:=fun nd h=>(few hd nd (Vu nd h)).1
    hnp:=fun nd h=>(few hd nd (Vu nd h)).2
    hex:=fun i h nd hm hh=>by
     obtain⟨a,b,_⟩:=wA _ (F3 i h);exact⟨(PU hx hr a (OH (Vu nd hm)) ⟨(BA x q)[i],by simp,b.trans ((hNx.mem nd).1 hm).2.symm,hh⟩).1,trivial⟩
    hcx:=fun i h nc hc=>by
     obtain⟨a,b,_⟩:=wA _ (F3 i h);obtain⟨m1,m2⟩:=Lc hc;exact⟨(PU hx hr a (Ns m1) m2).1,trivial⟩
    hcq:=fun i h nc hm=>(few (wA _ (F3 i h)).1 nc (Ns hm)).1
    hcp_:=fun i h nc hm=>(few (wA _ (F3 i h)).1 nc (Ns hm)).2
    hcr:=fun i h=>by grind
    hcs_:=fun i h r hm=>((hE.fx _ (wA _ (F3 i h)).2.2).2 r hm).1
    hkey:=fun i h=>by
     simp_all
    hinf0:=(SK hx hr hd (Vu n0 (Ag ..)) (.inl (by
     rw[((hNx.mem n0).1 (Ag ..)).2]
     grind [H6,GM,YL.undone]))).inf
    hV:=hV
    ih:=fun c hc Adh S EF hl hS hSf=>by
     obtain⟨a,b,c3⟩:=wA c hc;obtain⟨k1,k2⟩:=Qf.1 Adh;obtain⟨_,c2⟩:=Hq hc;have sL:=iJ.snoc hNx b k1 k2;have uw:FX x (dec++[c])<n:=by have:=T1 (dec:=dec) ⟨c2.1,c2.2.1⟩ (by grind [YL.undone]);omega
     have h1:=s45 hE uk n a sL hS hSf uw (st:=EF) (by simp_all);have h2:=Rs hx hr n a sL hS.der hSf uw (st:=EF);exact⟨h1,⟨h2.der,Qp n hS.nodup⟩,⟨h2.grow.len,fun e1 e2=>((h2.no e1).2.2 e2).1⟩,fun e1=>(h2.no e1).2.1⟩ }
   have hR:DR (CC x roots n) x q (n0::l) n0 dec st (BA x q) s [] []=O:=by
    grind [CC]
   by_cases hm:∀a,(Value.string q,a)∉C
   .exact AeB x roots C A n s dec st q n0 l V (BA x q) O O hL hs Jt Su (hE.c2 q hm) hm hR rfl
   .exact AeA x roots C A n s dec st q n0 l V (BA x q) O O hL hs Jt Su (hE.c1 q) hm hR rfl
end
theorem AeC{x:List Rl}{roots:List Rq}{C A:List (Value×AV)}(hE:wJ x roots C A)(n:Nat){dec:List Cd}{s:SS}{st:List (List Sk)}(h1:DE x dec)(h2:I5 roots dec)(h3:K7 x roots s)(h4:s.full=false)(h5:FX x dec<n)(h6:st.length=dec.length) :
  Bg Tryz.prog 82 [.ref 1000 0] (Ai (Ju roots C A s dec st) Af) (bO roots C A (CC x roots n dec s st)):=
 s45 hE (fun s dec st a b=>s64 roots C A s dec st (AS (MW hE.hr) aa1) a b) n h1 h2 h3 h4 h5 h6
def FR:Bool:=decide (At x=0)&&decide (AH roots=0)
theorem s28(ifs:C0)(roots:List Rq)(hx:∀r∈x,Fk r)(hr:∀q∈roots,IE q):PC 80 [.agg (Ic x ifs),sl Ad roots] (vb (FR x roots)):=by
 refine Ps (pC [2] []) func80 rfl (Nz rfl) (yN (C1 (C2 (xp VC x ifs hx) (Yi (fun h1=>?_) (fun h1=>?_)))))
 .refine C1 (C2 (c65 VC roots hr) (Yi (fun h2=>?_) (fun h2=>?_)))
  .exact .of_eq (show vb true=vb (FR x roots) by grind [FR])
  exact .of_eq (show vb false=vb (FR x roots) by grind [FR])
 exact .of_eq (show vb false=vb (FR x roots) by grind [FR])
abbrev TJ(r:Rl):List AV:=AE ⟨plc r.ver,r⟩
abbrev Md:C0:=(y.filter fun r=>decide (r.path=p)).map TJ
abbrev se(q:CS×Nat):Value×AV:=(.string q.1,.slice (.id (q.2+100) 10) (Md y q.1))
abbrev IZ:List (Value×AV):=(AP y []).zipIdx.map (se y)
def HI(l:Nat):HO:=match(AP y [])[l]? with
 |some q=>.tok 10 (Md y q).length
 |none=>.free
def Jr:HO:=bif Nat.ble 100 j&&Nat.blt j 1000 then HI y (j-100)else .free
theorem Fi(hy:y.length<=256)(l:Nat):Jr y (l+100)=HI y l:=by
 grind [Jr,Nat.ble_eq,Nat.blt_eq,HE,HI]
theorem qf{j:Nat}(h:j<100):Jr y j=.free:=by
 grind [Jr,Nat.ble_eq]
section
variable {y:List Rl}{r:Rl}{k:Nat}
open Classical in
theorem lL(h:(AP y [])[k]?=some r.path):E7 (IZ y) (.string r.path) (.slice (.id (k+100) 10) (Md y r.path++[TJ r]))=IZ (y++[r]):=by
 have hd:=E5 y [] Kx;have hm:se y (r.path,k)∈IZ y:=Ar.2 ⟨_,HZ.2 h,rfl⟩;rw[aF (a':=.slice (.id (k+100) 10) (Md y r.path)) hm];unfold IZ;rw[Ny h,BX];refine Ce fun q hq=>?_
 grind [JA]
theorem aP(h:r.path∉AP y []):Md y r.path=[]:=by
 grind [List.filter_eq_nil_iff,HF]
theorem iv(h:r.path∉AP y [])(a:AV):(Value.string r.path,a)∉IZ y:=by
 grind
theorem lJ(h:r.path∉AP y []):E7 (IZ y) (.string r.path) (.slice (.id ((AP y []).length+100) 10) [TJ r])=IZ (y++[r]):=by
 grind [IP,Nx,List.map_congr_left,aP]
theorem iw{p:CS}{j:Nat}(h:(AP y [])[j]?=some p):(Value.string p,AV.slice (.id (j+100) 10) (Md y p))∈IZ y/\∀b,(Value.string p,b)∈IZ y->b=AV.slice (.id (j+100) 10) (Md y p):=by
 refine⟨Ar.2 ⟨(p,j),HZ.2 h,rfl⟩,fun b hb=>?_⟩
 grind [JA,E5]
theorem gn{p:CS}{j:Nat}(h:(AP y [])[j]?=some p):HI y j=.tok 10 (Md y p).length:=by
 grind [HI]
theorem oy(h:(AP y [])[k]?=some r.path)(l:Nat):(bif Nat.beq (l+100) (k+100)then HO.tok 10 ((Md y r.path).length+1)else HI y l)=HI (y++[r]) l:=by
 grind [Nat.beq_refl,HI,Ny,Nat.eq_of_beq_eq_true,JA,E5]
theorem ox(h:r.path∉AP y [])(l:Nat):(bif Nat.beq (l+100) ((AP y []).length+100)then HO.tok 10 1 else HI y l)=HI (y++[r]) l:=by
 grind [Nat.beq_refl,HI,Nx,aP,Nat.eq_of_beq_eq_true]
end
theorem H5(hh:∀l,h (l+100)=HI y l):RU h (IZ y)=true:=by
 refine QR fun p hp=>?_;obtain⟨q,h1,rfl⟩:=Ar.1 hp;show Sy h (q.2+100)=true
 grind [Sy,gn]
theorem G0{y:List Rl}(hy:y.length<=256){h':Nat->HO}(hh:∀l,h (l+100)=HI y l)(j:Nat):Jr y j=.free\/(h j=Jr y j/\ZW h' (Jr y j)=true):=by
 by_cases hj:j<100
 .grind [qf]
 .obtain⟨l,rfl⟩:∃l,j=l+100:=⟨j-100,by omega⟩
  right
  rw[Fi y hy];refine⟨hh l,?_⟩;unfold HI;cases (AP y [])[l]?<;>rfl
end Go.Eng
