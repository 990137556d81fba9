/- Lemmas 22. -/
import Derived.Test.YteaiieomnhbmgaaGreatDoorAA21
set_option maxHeartbeats 16000000
namespace Go.Eng
open Go.Proofs Go.Proofs.Tryz
variable {h:Nat->HO}(x:List Rl)(roots:List Rq)(C A:List (Value×AV))(n:Nat)(s:SS)(y:List Rl)(dec:List Cd)(j:Nat)(st:List (List Sk))(p:CS)(n0:Nd)(l:List Nd)(V:AV)(cs:List Cd)(R O:Ld)
theorem dZ{α:Type}(o:Option α):(∃x,o=some x)\/o=none:=by
 cases o<;>simp_all
theorem Abc{T st:List (List Sk)}{sk:List Sk}(h:T=st++[sk]):((T.map Bb).take ((T.length:Int)-1).toNat)=st.map Bb/\((T.length:Int)-1).toNat=st.length:=by
 simp_all
abbrev HV:Prop:=(∀a,(Value.string p,a)∈A->a=V)/\((∀a,(Value.string p,a)∉A)->V=nzA)/\∀h,PC 261 [vs p,str h V] (sl AH (Ie p (B3 x p)))
abbrev lH(n:Nd):Prop:=∀d,D0 x roots d (VJ n)=some (JE n)
structure Lvl(x:List Rl)(roots:List Rq)(C A:List (Value×AV))(n:Nat)(dec:List Cd)(p:CS)(n0:Nd)(l:List Nd)(V:AV)(cs:List Cd):Prop where
 hx:AL x=0
 hr:A8 roots=0
 hdl:dec.length<=256
 hcl:cs.length<=256
 hcs:cs=Cp x p
 hnl:(n0::l).length<9223372036854775807
 hnq:∀n∈n0::l,BD n.rq.set
 hnp:∀n∈n0::l,Az (n.place+1)
 hex:∀(i:Nat) (h:i<cs.length),∀nd∈n0::l,has nd.rq.set cs[i].place=false->lH x roots nd/\True
 hcx:∀(i:Nat) (h:i<cs.length) (nc:Nd),Ek dec cs[i]=some nc->lH x roots nc/\True
 hcq:∀(i:Nat) (h:i<cs.length) (nc:Nd),nc∈Rf cs[i]->BD nc.rq.set
 hcp_:∀(i:Nat) (h:i<cs.length) (nc:Nd),nc∈Rf cs[i]->Az (nc.place+1)
 hcr:∀(i:Nat) (h:i<cs.length),cs[i].rel.reqs.length<=1073741824
 hcs_:∀(i:Nat) (h:i<cs.length),∀q∈cs[i].rel.reqs,BD q.set
 hkey:∀(i:Nat) (h:i<cs.length),(AP dec).map Ab++[[vs p,vi cs[i].rel.ver.a,vi cs[i].rel.ver.b,vi cs[i].rel.ver.c]]=(AP (dec++[cs[i]])).map Ab
 hinf0:lH x roots n0
 hV:HV x A p V
 ih:∀c∈Cp x p,kk dec (n0::l) c=true->∀(S:SS) (EM : List (List Sk)),EM.length=dec.length+1->Lg x roots S->S.full=false ->
  AU Tryz.prog 137 [.ref 1000 0] (Ak (Jm roots C A S (dec++[c]) EM) Ae) (cK roots C A (Dc x roots n (dec++[c]) S EM))/\Lg x roots (Dc x roots n (dec++[c]) S EM).ss /\
  (S.drv.length<=(Dc x roots n (dec++[c]) S EM).ss.drv.length/\((Dc x roots n (dec++[c]) S EM).found=false->(Dc x roots n (dec++[c]) S EM).ss.full=false->(Dc x roots n (dec++[c]) S EM).res<(Dc x roots n (dec++[c]) S EM).ss.drv.length)) /\
  ((Dc x roots n (dec++[c]) S EM).found=false->(Dc x roots n (dec++[c]) S EM).stack=EM)
theorem Ah0(hL:Lvl x roots C A n dec p n0 l V cs)(hs:Lg x roots s)(KP:st.length=dec.length)(Sw:AU Tryz.prog 186 [.ref 1000 0] (Ak (Jm roots C A s dec st) Ae) fun r h'=>r=.tup [vs p,sl Bn (n0::l)]/\h'=Ak (Jm roots C A s dec st) Ae)(hC1:∀a,(Value.string p,a)∈C->a=sl AM cs)(hC2:¬∀a,(Value.string p,a)∉C)(hR:Ew (Dc x roots n) x p (n0::l) n0 dec st cs s [] []=R)(fX:O=R) :
  AU Tryz.prog 137 [.ref 1000 0] (Ak (Jm roots C A s dec st) Ae) (cK roots C A O):=by
 obtain⟨hx,hr,hdl,hcl,hcs,hnl,hnq,hnp,hex,hcx,hcq,hcp_,hcr,hcs_,hkey,hinf0,⟨hV1,hV2,hV3⟩,ih⟩:=hL;have hcm:∀(i:Nat) (h:i<cs.length),cs[i]∈Cp x p:=fun i h=>by simp_all
 have zx:∀(i:Nat) (h:i<cs.length),BD (AP (dec++[cs[i]])):=fun i h=>by grind
 clear hcs
 refine BX (Ms ⟨[9],[(6,1),(7,3),(145,1)],[],[],[],[],[],[],[(60,3),(101,3)],[(300001,500091000),(300026,500091000),(300029,500091000)],[1,5,12,15,17,21,23,24,25,26,28,29,31,32,33]⟩) [(1000,1000),(1001,1001),(1002,1002),(1003,1003),(1004,1004),(500,2000)] rfl Ct hm rfl func137 aa1 rfl (Nz rfl) aa1 rfl (Yi (show st.length=(st.map Bb).length by simp) (cU [(0,.ref 1000 0)] [(500,.arr 1 (st.map Bb)),(1000,.cells (srM roots C A s dec 500 st.length)),(1001,.tok 6 s.infs.length),(1002,.tok 1 s.drv.length),(1003,.map FI (FK 0 s.infs)),(1004,.dead)] Z1 Z6 (Xi (.gen cI 0) (Yi rfl (AU.imp Sw ?_)))));intro v1 g1 q1;have tv:=q1.1;have tw:=q1.2;subst tv;subst tw;refine Yi (fun h2=>?_) (fun h2=>?_)
 .exact absurd h2 aa0
 refine cU [(0,.ref 1000 0),(4,vs p),(5,sl Bn (n0::l)),(6,.slice (.id 6 1) [])] [(6,.tok 1 0),(500,.arr 1 (st.map Bb)),(1000,.cells (srM roots C A s dec 500 st.length)),(1001,.tok 6 s.infs.length),(1002,.tok 1 s.drv.length),(1003,.map FI (FK 0 s.infs)),(1004,.dead)] Z4 Z7 (Yi (fun a ha=>?_) (fun Qs=>?_))
 .have ea:=hC1 a ha;subst ea;refine Xi {q:Nat×SS×List Nat×List Sk // q.1<=cs.length/\Ew (Dc x roots n) x p (n0::l) n0 dec st (cs.drop q.1) q.2.1 q.2.2.1 q.2.2.2=R/\Lg x roots q.2.1/\(∀r∈q.2.2.1,r<q.2.1.drv.length)/\q.2.2.1.length<=q.1/\q.2.2.2.length<=q.1} (Xi (fun q=>⟨[(0,.ref 1000 0),(4,vs p),(5,sl Bn (n0::l)),(6,.slice (.id 6 1) (q.1.2.2.1.map Cz)),(7,.slice (.id 7 3) (q.1.2.2.2.map Cb)),(32,sl AM cs),(33,vi (cs.map AM).length),(34,vi q.1.1)],[(6,.tok 1 q.1.2.2.1.length),(7,.tok 3 q.1.2.2.2.length),(500,.arr 1 (st.map Bb)),(1000,.cells (srM roots C A q.1.2.1 dec 500 st.length)),(1001,.tok 6 q.1.2.1.infs.length),(1002,.tok 1 q.1.2.1.drv.length),(1003,.map FI (FK 0 q.1.2.1.infs)),(1004,.dead)],Ae⟩) (Xi (fun q=>cs.length-q.1.1) (Yi (Xi ⟨(0,s,[],[]),Aj _,hR,hs,fun r h=>(by cases h),Ao _,Ao _⟩ ?_) ?_)))
  .exact⟨Z8,Z8,Fh,Bu aa1⟩
  intro⟨⟨i,S,rs,sk⟩,j1,j2,j3,j4,j5,j6⟩;have j5:rs.length<=i:=j5;have j6:sk.length<=i:=j6;have hw:=j3.dl;have Yq:∀t∈S.drv,lG t:=fun t ht=>by have q:=j3.der.few hx hr t ht;grind
  refine Yi (fun h3=>?_) (fun h3=>?_)
  .have h3:(i:Int)<((cs.map AM).length:Int):=h3;have n3:=Dh h3;refine Xi (AM cs[i]) (Yi (DC n3) (Yi rfl (yN (yN (Yi (fun h4=>?_) (fun h4=>?_))))))
   .have eR:R=⟨0,false,S,dec,st⟩:=by rw[<-j2];exact rv n3 h4
    exact C2 (.refl _) (NY (fX.trans eR))
   have sa:=s86 (fF:=188) (caps:=[.cptr (AM cs[i])]) (fun c hc=>by obtain rfl:=AQ.1 hc;intro h;rfl) (n0::l) (fun n=>!has n.rq.set cs[i].place) (fun n hn=>s87 n cs[i] (hnq n hn)) hnl;refine A1 (jH (fun n=>!has n.rq.set cs[i].place) (n0::l)) (fun h6=>?_) (fun h6=>?_)
   .refine Be h6 (fun k86 h6=>Be h6 (fun nd h6=>?_));rw[h6.1]at sa;refine C1 (C2 sa (cU [(0,.ref 1000 0),(4,vs p),(5,sl Bn (n0::l)),(6,.slice (.id 6 1) (rs.map Cz)),(7,.slice (.id 7 3) (sk.map Cb)),(9,.ref 9 0),(10,vi (k86:Nat)),(32,sl AM cs),(33,vi (cs.map AM).length),(34,vi i)] [(6,.tok 1 rs.length),(7,.tok 3 sk.length),(9,.ro (AM cs[i])),(500,.arr 1 (st.map Bb)),(1000,.cells (srM roots C A S dec 500 st.length)),(1001,.tok 6 S.infs.length),(1002,.tok 1 S.drv.length),(1003,.map FI (FK 0 S.infs)),(1004,.dead)] Z10 Z9 (Yi (fun _=>?_) (fun hf=>absurd (show(0:Int)<=((k86:Nat):Int) by omega) hf))));refine Xi (Bn nd) (Yi (Yi (show(0:Int)<=((k86:Nat):Int) by omega) (El h6.2.1)) (Yi rfl (yN ?_)));have wX:=hex i n3 nd (AX h6.2.2) aa0;obtain⟨b1,b2,b3⟩:=j3.add (wX.1 S.drv)
    change Lg x roots (Bx S nd).2 at b1
    change (Bx S nd).1<(Bx S nd).2.drv.length at b2
    change S.drv.length<=(Bx S nd).2.drv.length at b3
    refine Xi (.gen cI 0) (Yi rfl (AU.imp (s88 roots C A S dec st nd hw.1 hw.2.1 j3.nodup (hnq nd (AG h6.2.1)) (hnp nd (AG h6.2.1))) ?_));intro v7 g7 q7;have q7a:=q7.1;have q7b:=q7.2;subst q7a;subst q7b;refine Yi (Zi rfl ch Wk) (Yi (Ii i ch) ?_);have Yp:S.full=false:=ch
    have eN:Ew (Dc x roots n) x p (n0::l) n0 dec st (cs.drop (i+1)) (Bx S nd).2 (rs++[(Bx S nd).1]) sk=R:=by rw[<-Aae n3 Yp h6.2.2];exact j2
    refine Xi ⟨(i+1,(Bx S nd).2,rs++[(Bx S nd).1],sk),FC n3,eN,b1,fun r h=>(Bh.1 h).elim (fun h=>Bm (j4 r h) b3) (fun h=>by simp_all),B0,Nat.le_succ_of_le j6⟩ ?_;exact⟨Dl cs.length i ch,⟨Zr,Zr,Zr,⟨(show AV.slice (.id 6 1) (rs.map Cz++[[vi (((Bx S nd).1:Nat):Int)]])=.slice (.id 6 1) ((rs++[(Bx S nd).1]).map Cz) by simp_all),rfl⟩,Zr,Zr,Zr,Zr,Tv⟩,⟨⟨(show HO.tok 1 ((rs.map Cz).length+([[vi (((Bx S nd).1:Nat):Int)]]:C0).length)=.tok 1 (rs++[(Bx S nd).1]).length by simp),rfl⟩,Zr,Zr,Zr,Zr,Zr,Zr,Zr,Tv⟩,Fh,Bu aa1⟩
   skip
   rw[h6.1]at sa;refine C1 (C2 sa (cU [(0,.ref 1000 0),(4,vs p),(5,sl Bn (n0::l)),(6,.slice (.id 6 1) (rs.map Cz)),(7,.slice (.id 7 3) (sk.map Cb)),(9,.ref 9 0),(10,vi (-1)),(32,sl AM cs),(33,vi (cs.map AM).length),(34,vi i)] [(6,.tok 1 rs.length),(7,.tok 3 sk.length),(9,.ro (AM cs[i])),(500,.arr 1 (st.map Bb)),(1000,.cells (srM roots C A S dec 500 st.length)),(1001,.tok 6 S.infs.length),(1002,.tok 1 S.drv.length),(1003,.map FI (FK 0 S.infs)),(1004,.dead)] Z10 Z9 (Yi (fun h=>absurd h Wk) (fun _=>?_))));refine Xi _ (C2 aa1 (Yi (wx (AP dec) aa0) (yN ?_)));have Wi:Bi 4 [[vs p,vi cs[i].rel.ver.a,vi cs[i].rel.ver.b,vi cs[i].rel.ver.c]]/\((AP dec).map Ab).length=((AP dec).map Ab).length/\(((AP dec).map Ab).length+([[vs p,vi cs[i].rel.ver.a,vi cs[i].rel.ver.b,vi cs[i].rel.ver.c]]:C0).length)*40<=140737488355328/\((AP dec).map Ab).length+([[vs p,vi cs[i].rel.ver.a,vi cs[i].rel.ver.b,vi cs[i].rel.ver.c]]:C0).length<=9223372036854775807:=⟨⟨rfl,trivial⟩,rfl,aa0,aa0⟩;refine Yi Wi (Yi aa1 (cU [(0,.ref 1000 0),(4,vs p),(5,sl Bn (n0::l)),(6,.slice (.id 6 1) (rs.map Cz)),(7,.slice (.id 7 3) (sk.map Cb)),(9,.ref 9 0),(11,.slice (.id 16000 4) ((AP (dec++[cs[i]])).map Ab)),(32,sl AM cs),(33,vi (cs.map AM).length),(34,vi i)] [(6,.tok 1 rs.length),(7,.tok 3 sk.length),(9,.ro (AM cs[i])),(500,.arr 1 (st.map Bb)),(1000,.cells (srM roots C A S dec 500 st.length)),(1001,.tok 6 S.infs.length),(1002,.tok 1 S.drv.length),(1003,.map FI (FK 0 S.infs)),(1004,.dead),(16000,.tok 4 ((AP (dec++[cs[i]])).map Ab).length)] ⟨Zr,Zr,Zr,Zr,Zr,Zr,⟨(show(.slice (.id 16000 4) (((AP dec).map Ab)++[[vs p,vi cs[i].rel.ver.a,vi cs[i].rel.ver.b,vi cs[i].rel.ver.c]]):AV)=.slice (.id 16000 4) ((AP (dec++[cs[i]])).map Ab) by grind),rfl⟩,Zr,Zr,Zr,Tv⟩ ⟨Zr,Zr,Zr,Zr,Zr,Zr,Zr,Zr,Zr,⟨(show(.tok 4 (((AP dec).map Ab).length+([[vs p,vi cs[i].rel.ver.a,vi cs[i].rel.ver.b,vi cs[i].rel.ver.c]]:C0).length):HO)=.tok 4 ((AP (dec++[cs[i]])).map Ab).length by simp_all),rfl⟩,Tv⟩ ?_))
   have sb:=s89 roots C A S dec st (AP (dec++[cs[i]])) hw.2.2 Yq (zx i n3);refine A1 (dZ (Ph S.drv (AP (dec++[cs[i]])))) (fun IM=>?_) (fun IM=>?_)
   .refine Be IM (fun ke IM=>?_);have eV:mQ S.drv (AP (dec++[cs[i]]))=.tup [vi (ke:Nat),vb true]:=B0
    rw[eV]at sb;refine Xi (.gen cI 0) (Yi rfl (AU.imp sb ?_));intro v12 g12 tu;have xV:=tu.1;have xW:=tu.2;subst xV;subst xW;refine yN ?_;have Yo:=s69 roots C A S dec st cs[i] ch (hcr i n3) (hcs_ i n3);refine A1 (dZ (Ek dec cs[i])) (fun J6=>?_) (fun J6=>?_)
    .refine Be J6 (fun nc J6=>?_);have eW:wC (Ek dec cs[i])=.tup [.agg (Bn nc),vb true]:=by rw[J6];rfl
     rw[eW]at Yo;refine Xi (.gen cI 0) (Yi rfl (AU.imp Yo ?_));intro v14 g14 q14;have Agk:=q14.1;have Agl:=q14.2;subst Agk;subst Agl;refine yN (cU [(0,.ref 1000 0),(4,vs p),(5,sl Bn (n0::l)),(6,.slice (.id 6 1) (rs.map Cz)),(7,.slice (.id 7 3) (sk.map Cb)),(9,.ref 9 0),(11,.slice (.id 16000 4) ((AP (dec++[cs[i]])).map Ab)),(12,vi (ke:Nat)),(13,vb true),(14,.ref 14 0),(15,vb true),(32,sl AM cs),(33,vi (cs.map AM).length),(34,vi i)] [(6,.tok 1 rs.length),(7,.tok 3 sk.length),(9,.ro (AM cs[i])),(14,.cells (Bn nc)),(500,.arr 1 (st.map Bb)),(1000,.cells (srM roots C A S dec 500 st.length)),(1001,.tok 6 S.infs.length),(1002,.tok 1 S.drv.length),(1003,.map FI (FK 0 S.infs)),(1004,.dead),(16000,.tok 4 ((AP (dec++[cs[i]])).map Ab).length)] ⟨Zr,Zr,Zr,Zr,Zr,Zr,Zr,Zr,Zr,Zr,Zr,Zr,Zr,Zr,Tv⟩ Z11 (cU [(0,.ref 1000 0),(4,vs p),(5,sl Bn (n0::l)),(6,.slice (.id 6 1) (rs.map Cz)),(7,.slice (.id 7 3) (sk.map Cb)),(9,.ref 9 0),(12,vi (ke:Nat)),(32,sl AM cs),(33,vi (cs.map AM).length),(34,vi i)] [(6,.tok 1 rs.length),(7,.tok 3 sk.length),(9,.ro (AM cs[i])),(500,.arr 1 (st.map Bb)),(1000,.cells (srM roots C A S dec 500 st.length)),(1001,.tok 6 S.infs.length),(1002,.tok 1 S.drv.length),(1003,.map FI (FK 0 S.infs)),(1004,.dead)] Z10 Z9 (Xi (Df (EP S ke)) (Yi (Yi (show(0:Int)<=((ke:Nat):Int) by omega) (El (Fi (KN IM).1))) (Yi rfl ?_)))));have Yp:S.full=false:=ch
     have cy:ke<S.drv.length:=(KN IM).1;have gl:=j3.der.few hx hr;refine A1 (Bt (DL (EP S ke) p)) (fun Vv=>?_) (fun Vv=>?_)
     .refine C1 (C2 (cb Vv (qP (EP S ke) p (Gd (gl _ (AG (Fi cy)))))) (cU [(0,.ref 1000 0),(4,vs p),(5,sl Bn (n0::l)),(6,.slice (.id 6 1) (rs.map Cz)),(7,.slice (.id 7 3) (sk.map Cb)),(9,.ref 9 0),(12,vi (ke:Nat)),(32,sl AM cs),(33,vi (cs.map AM).length),(34,vi i)] [(6,.tok 1 rs.length),(7,.tok 3 sk.length),(9,.ro (AM cs[i])),(500,.arr 1 (st.map Bb)),(1000,.cells (srM roots C A S dec 500 st.length)),(1001,.tok 6 S.infs.length),(1002,.tok 1 S.drv.length),(1003,.map FI (FK 0 S.infs)),(1004,.dead)] Z10 Z9 (Yi (Zi rfl ch Wk) (Yi (Zi rfl ch Wk) (Yi (Ii i ch) ?_)))));have eA:=(X0 (rec:=Dc x roots n) (x:=x) (p:=p) (n0:=n0) (st:=st) (rs:=rs) (sk:=sk) n3 Yp h6.2 IM);have eN:Ew (Dc x roots n) x p (n0::l) n0 dec st (cs.drop (i+1)) S (rs++[ke]) (sk++[(⟨p,cs[i].place,(ke:Nat)⟩:Sk)])=R:=by rw[<-XL (c:=cs[i]) Vv,<-eA];exact j2
      refine Xi ⟨(i+1,S,rs++[ke],sk++[(⟨p,cs[i].place,(ke:Nat)⟩:Sk)]),FC n3,eN,j3,fun r h=>(Bh.1 h).elim ((fun r h=>j4 r h) r) (fun h=>by simp_all),B0,B0⟩ ?_;exact⟨Dl cs.length i ch,⟨Zr,Zr,Zr,⟨(show AV.slice (.id 6 1) (rs.map Cz++[[vi ((ke:Nat):Int)]])=.slice (.id 6 1) ((rs++[ke]).map Cz) by simp_all),rfl⟩,⟨(show AV.slice (.id 7 3) (sk.map Cb++[[vs p,vi cs[i].place,vi ((ke:Nat):Int)]])=.slice (.id 7 3) ((sk++[(⟨p,cs[i].place,(ke:Nat)⟩:Sk)]).map Cb) by simp_all),rfl⟩,Zr,Zr,Zr,Tv⟩,⟨⟨(show HO.tok 1 ((rs.map Cz).length+([[vi ((ke:Nat):Int)]]:C0).length)=.tok 1 (rs++[ke]).length by simp),rfl⟩,⟨(show HO.tok 3 ((sk.map Cb).length+([[vs p,vi cs[i].place,vi ((ke:Nat):Int)]]:C0).length)=.tok 3 (sk++[(⟨p,cs[i].place,(ke:Nat)⟩:Sk)]).length by simp),rfl⟩,Zr,Zr,Zr,Zr,Zr,Zr,Tv⟩,Fh,Bu aa1⟩
     refine C1 (C2 (cb Vv (qP (EP S ke) p (Gd (gl _ (AG (Fi cy)))))) (cU [(12,vi (ke:Nat))] [(500,.arr 1 (st.map Bb)),(1000,.cells (srM roots C A S dec 500 st.length)),(1001,.tok 6 S.infs.length),(1002,.tok 1 S.drv.length),(1003,.map FI (FK 0 S.infs)),(1004,.dead)] Z1 Z6 ?_))
     have eA:=(X0 (rec:=Dc x roots n) (x:=x) (p:=p) (n0:=n0) (st:=st) (rs:=rs) (sk:=sk) n3 Yp h6.2 IM);have eR:R=⟨ke,false,S,dec,st⟩:=by rw[<-j2];rw[eA];exact fq Vv
     exact C2 (.refl _) (NY (fX.trans eR))
    skip
    have eW:wC (Ek dec cs[i])=.tup [.agg [vs ⟨#[]⟩,nzA,vs ⟨#[]⟩,vi 0,vi 0],vb false]:=by rw[J6];rfl
    rw[eW]at Yo;refine Xi (.gen cI 0) (Yi rfl (AU.imp Yo ?_));intro v20 g20 q20;have Agm:=q20.1;have Agn:=q20.2;subst Agm;subst Agn;refine yN (cU [(0,.ref 1000 0),(4,vs p),(5,sl Bn (n0::l)),(6,.slice (.id 6 1) (rs.map Cz)),(7,.slice (.id 7 3) (sk.map Cb)),(9,.ref 9 0),(11,.slice (.id 16000 4) ((AP (dec++[cs[i]])).map Ab)),(12,vi (ke:Nat)),(13,vb true),(14,.ref 14 0),(15,vb false),(32,sl AM cs),(33,vi (cs.map AM).length),(34,vi i)] [(6,.tok 1 rs.length),(7,.tok 3 sk.length),(9,.ro (AM cs[i])),(14,.cells [vs ⟨#[]⟩,nzA,vs ⟨#[]⟩,vi 0,vi 0]),(500,.arr 1 (st.map Bb)),(1000,.cells (srM roots C A S dec 500 st.length)),(1001,.tok 6 S.infs.length),(1002,.tok 1 S.drv.length),(1003,.map FI (FK 0 S.infs)),(1004,.dead),(16000,.tok 4 ((AP (dec++[cs[i]])).map Ab).length)] ⟨Zr,Zr,Zr,Zr,Zr,Zr,Zr,Zr,Zr,Zr,Zr,Zr,Zr,Zr,Tv⟩ Z11 (cU [(0,.ref 1000 0),(4,vs p),(5,sl Bn (n0::l)),(6,.slice (.id 6 1) (rs.map Cz)),(7,.slice (.id 7 3) (sk.map Cb)),(9,.ref 9 0),(12,vi (ke:Nat)),(32,sl AM cs),(33,vi (cs.map AM).length),(34,vi i)] [(6,.tok 1 rs.length),(7,.tok 3 sk.length),(9,.ro (AM cs[i])),(500,.arr 1 (st.map Bb)),(1000,.cells (srM roots C A S dec 500 st.length)),(1001,.tok 6 S.infs.length),(1002,.tok 1 S.drv.length),(1003,.map FI (FK 0 S.infs)),(1004,.dead)] Z10 Z9 (Xi (Df (EP S ke)) (Yi (Yi (show(0:Int)<=((ke:Nat):Int) by omega) (El (Fi (KN IM).1))) (Yi rfl ?_)))));have Yp:S.full=false:=ch
    have cy:ke<S.drv.length:=(KN IM).1;have gl:=j3.der.few hx hr;refine A1 (Bt (DL (EP S ke) p)) (fun Uc=>?_) (fun Uc=>?_)
    .refine C1 (C2 (cb Uc (qP (EP S ke) p (Gd (gl _ (AG (Fi cy)))))) (cU [(0,.ref 1000 0),(4,vs p),(5,sl Bn (n0::l)),(6,.slice (.id 6 1) (rs.map Cz)),(7,.slice (.id 7 3) (sk.map Cb)),(9,.ref 9 0),(12,vi (ke:Nat)),(32,sl AM cs),(33,vi (cs.map AM).length),(34,vi i)] [(6,.tok 1 rs.length),(7,.tok 3 sk.length),(9,.ro (AM cs[i])),(500,.arr 1 (st.map Bb)),(1000,.cells (srM roots C A S dec 500 st.length)),(1001,.tok 6 S.infs.length),(1002,.tok 1 S.drv.length),(1003,.map FI (FK 0 S.infs)),(1004,.dead)] Z10 Z9 (Yi (Zi rfl ch Wk) (Yi (Zi rfl ch Wk) (Yi (Ii i ch) ?_)))));have eA:=(X0 (rec:=Dc x roots n) (x:=x) (p:=p) (n0:=n0) (st:=st) (rs:=rs) (sk:=sk) n3 Yp h6.2 IM);have eN:Ew (Dc x roots n) x p (n0::l) n0 dec st (cs.drop (i+1)) S (rs++[ke]) (sk++[(⟨p,cs[i].place,(ke:Nat)⟩:Sk)])=R:=by rw[<-XL (c:=cs[i]) Uc,<-eA];exact j2
     refine Xi ⟨(i+1,S,rs++[ke],sk++[(⟨p,cs[i].place,(ke:Nat)⟩:Sk)]),FC n3,eN,j3,fun r h=>(Bh.1 h).elim ((fun r h=>j4 r h) r) (fun h=>by simp_all),B0,B0⟩ ?_;exact⟨Dl cs.length i ch,⟨Zr,Zr,Zr,⟨(show AV.slice (.id 6 1) (rs.map Cz++[[vi ((ke:Nat):Int)]])=.slice (.id 6 1) ((rs++[ke]).map Cz) by simp_all),rfl⟩,⟨(show AV.slice (.id 7 3) (sk.map Cb++[[vs p,vi cs[i].place,vi ((ke:Nat):Int)]])=.slice (.id 7 3) ((sk++[(⟨p,cs[i].place,(ke:Nat)⟩:Sk)]).map Cb) by simp_all),rfl⟩,Zr,Zr,Zr,Tv⟩,⟨⟨(show HO.tok 1 ((rs.map Cz).length+([[vi ((ke:Nat):Int)]]:C0).length)=.tok 1 (rs++[ke]).length by simp),rfl⟩,⟨(show HO.tok 3 ((sk.map Cb).length+([[vs p,vi cs[i].place,vi ((ke:Nat):Int)]]:C0).length)=.tok 3 (sk++[(⟨p,cs[i].place,(ke:Nat)⟩:Sk)]).length by simp),rfl⟩,Zr,Zr,Zr,Zr,Zr,Zr,Tv⟩,Fh,Bu aa1⟩
    refine C1 (C2 (cb Uc (qP (EP S ke) p (Gd (gl _ (AG (Fi cy)))))) (cU [(12,vi (ke:Nat))] [(500,.arr 1 (st.map Bb)),(1000,.cells (srM roots C A S dec 500 st.length)),(1001,.tok 6 S.infs.length),(1002,.tok 1 S.drv.length),(1003,.map FI (FK 0 S.infs)),(1004,.dead)] Z1 Z6 ?_))
    have eA:=(X0 (rec:=Dc x roots n) (x:=x) (p:=p) (n0:=n0) (st:=st) (rs:=rs) (sk:=sk) n3 Yp h6.2 IM);have eR:R=⟨ke,false,S,dec,st⟩:=by rw[<-j2];rw[eA];exact fq Uc
    exact C2 (.refl _) (NY (fX.trans eR))
   skip
   have eV:mQ S.drv (AP (dec++[cs[i]]))=.tup [vi 0,vb false]:=B0
   rw[eV]at sb;refine Xi (.gen cI 0) (Yi rfl (AU.imp sb ?_));intro v26 g26 q26;have Agq:=q26.1;have Agr:=q26.2;subst Agq;subst Agr;refine yN ?_;have Yo:=s69 roots C A S dec st cs[i] ch (hcr i n3) (hcs_ i n3);refine A1 (dZ (Ek dec cs[i])) (fun Ud=>?_) (fun Ud=>?_)
   .refine Be Ud (fun nc Ud=>?_);have eW:wC (Ek dec cs[i])=.tup [.agg (Bn nc),vb true]:=by rw[Ud];rfl
    rw[eW]at Yo;refine Xi (.gen cI 0) (Yi rfl (AU.imp Yo ?_));intro v28 g28 q28;have Ags:=q28.1;have Agt:=q28.2;subst Ags;subst Agt;refine yN (cU [(0,.ref 1000 0),(4,vs p),(5,sl Bn (n0::l)),(6,.slice (.id 6 1) (rs.map Cz)),(7,.slice (.id 7 3) (sk.map Cb)),(9,.ref 9 0),(11,.slice (.id 16000 4) ((AP (dec++[cs[i]])).map Ab)),(12,vi 0),(13,vb false),(14,.ref 14 0),(15,vb true),(32,sl AM cs),(33,vi (cs.map AM).length),(34,vi i)] [(6,.tok 1 rs.length),(7,.tok 3 sk.length),(9,.ro (AM cs[i])),(14,.cells (Bn nc)),(500,.arr 1 (st.map Bb)),(1000,.cells (srM roots C A S dec 500 st.length)),(1001,.tok 6 S.infs.length),(1002,.tok 1 S.drv.length),(1003,.map FI (FK 0 S.infs)),(1004,.dead),(16000,.tok 4 ((AP (dec++[cs[i]])).map Ab).length)] ⟨Zr,Zr,Zr,Zr,Zr,Zr,Zr,Zr,Zr,Zr,Zr,Zr,Zr,Zr,Tv⟩ Z11 (yN ?_));have wX:=hcx i n3 nc Ud;obtain⟨b1,b2,b3⟩:=j3.add (wX.1 S.drv)
    change Lg x roots (Bx S nc).2 at b1
    change (Bx S nc).1<(Bx S nc).2.drv.length at b2
    change S.drv.length<=(Bx S nc).2.drv.length at b3
    refine Xi (.gen cI 0) (Yi rfl (AU.imp (s88 roots C A S dec st nc hw.1 hw.2.1 j3.nodup (hcq i n3 nc (Lo Ud).1) (hcp_ i n3 nc (Lo Ud).1)) ?_));intro v29 g29 q29;have Agu:=q29.1;have Agv:=q29.2;subst Agu;subst Agv;refine cU [(0,.ref 1000 0),(4,vs p),(5,sl Bn (n0::l)),(6,.slice (.id 6 1) (rs.map Cz)),(7,.slice (.id 7 3) (sk.map Cb)),(9,.ref 9 0),(12,vi ((Bx S nc).1:Nat)),(32,sl AM cs),(33,vi (cs.map AM).length),(34,vi i)] [(6,.tok 1 rs.length),(7,.tok 3 sk.length),(9,.ro (AM cs[i])),(500,.arr 1 (st.map Bb)),(1000,.cells [sl AI roots,.cmap BW C,.cmap BW A,.slice (.id 1001 6) ((Bx S nc).2.infs.map Dy),.slice (.id 1002 1) ((Bx S nc).2.drv.map Df),.mref 1003,vb (Bx S nc).2.full,sl AM dec,sl Ab (AP dec),.msl 500 st.length]),(1001,.tok 6 (Bx S nc).2.infs.length),(1002,.tok 1 (Bx S nc).2.drv.length),(1003,.map FI (FK 0 (Bx S nc).2.infs)),(1004,.dead)] Z10 Z9 (Xi (Df (EP (Bx S nc).2 (Bx S nc).1)) (Yi (Yi (show(0:Int)<=(((Bx S nc).1:Nat):Int) by omega) (El (Fi b2))) (Yi rfl ?_)));have Yp:S.full=false:=ch
    have cy:(Bx S nc).1<(Bx S nc).2.drv.length:=b2;have gl:=b1.der.few hx hr;refine A1 (Bt (DL (EP (Bx S nc).2 (Bx S nc).1) p)) (fun lr=>?_) (fun lr=>?_)
    .refine C1 (C2 (cb lr (qP (EP (Bx S nc).2 (Bx S nc).1) p (Gd (gl _ (AG (Fi cy)))))) (cU [(0,.ref 1000 0),(4,vs p),(5,sl Bn (n0::l)),(6,.slice (.id 6 1) (rs.map Cz)),(7,.slice (.id 7 3) (sk.map Cb)),(9,.ref 9 0),(12,vi ((Bx S nc).1:Nat)),(32,sl AM cs),(33,vi (cs.map AM).length),(34,vi i)] [(6,.tok 1 rs.length),(7,.tok 3 sk.length),(9,.ro (AM cs[i])),(500,.arr 1 (st.map Bb)),(1000,.cells [sl AI roots,.cmap BW C,.cmap BW A,.slice (.id 1001 6) ((Bx S nc).2.infs.map Dy),.slice (.id 1002 1) ((Bx S nc).2.drv.map Df),.mref 1003,vb (Bx S nc).2.full,sl AM dec,sl Ab (AP dec),.msl 500 st.length]),(1001,.tok 6 (Bx S nc).2.infs.length),(1002,.tok 1 (Bx S nc).2.drv.length),(1003,.map FI (FK 0 (Bx S nc).2.infs)),(1004,.dead)] Z10 Z9 (Yi (Zi rfl ch Wk) (Yi (Zi rfl ch Wk) (Yi (Ii i ch) ?_)))));have eA:=(ZH (rec:=Dc x roots n) (x:=x) (p:=p) (n0:=n0) (st:=st) (rs:=rs) (sk:=sk) n3 Yp h6.2 IM Ud);have eN:Ew (Dc x roots n) x p (n0::l) n0 dec st (cs.drop (i+1)) (Bx S nc).2 (rs++[(Bx S nc).1]) (sk++[(⟨p,cs[i].place,((Bx S nc).1:Nat)⟩:Sk)])=R:=by rw[<-XL (c:=cs[i]) lr,<-eA];exact j2
     refine Xi ⟨(i+1,(Bx S nc).2,rs++[(Bx S nc).1],sk++[(⟨p,cs[i].place,((Bx S nc).1:Nat)⟩:Sk)]),FC n3,eN,b1,fun r h=>(Bh.1 h).elim ((fun r h=>Bm (j4 r h) b3) r) (fun h=>by simp_all),B0,B0⟩ ?_;exact⟨Dl cs.length i ch,⟨Zr,Zr,Zr,⟨(show AV.slice (.id 6 1) (rs.map Cz++[[vi (((Bx S nc).1:Nat):Int)]])=.slice (.id 6 1) ((rs++[(Bx S nc).1]).map Cz) by simp_all),rfl⟩,⟨(show AV.slice (.id 7 3) (sk.map Cb++[[vs p,vi cs[i].place,vi (((Bx S nc).1:Nat):Int)]])=.slice (.id 7 3) ((sk++[(⟨p,cs[i].place,((Bx S nc).1:Nat)⟩:Sk)]).map Cb) by simp_all),rfl⟩,Zr,Zr,Zr,Tv⟩,⟨⟨(show HO.tok 1 ((rs.map Cz).length+([[vi (((Bx S nc).1:Nat):Int)]]:C0).length)=.tok 1 (rs++[(Bx S nc).1]).length by simp),rfl⟩,⟨(show HO.tok 3 ((sk.map Cb).length+([[vs p,vi cs[i].place,vi (((Bx S nc).1:Nat):Int)]]:C0).length)=.tok 3 (sk++[(⟨p,cs[i].place,((Bx S nc).1:Nat)⟩:Sk)]).length by simp),rfl⟩,Zr,Zr,Zr,Zr,Zr,Zr,Tv⟩,Fh,Bu aa1⟩
    refine C1 (C2 (cb lr (qP (EP (Bx S nc).2 (Bx S nc).1) p (Gd (gl _ (AG (Fi cy)))))) (cU [(12,vi ((Bx S nc).1:Nat))] [(500,.arr 1 (st.map Bb)),(1000,.cells [sl AI roots,.cmap BW C,.cmap BW A,.slice (.id 1001 6) ((Bx S nc).2.infs.map Dy),.slice (.id 1002 1) ((Bx S nc).2.drv.map Df),.mref 1003,vb (Bx S nc).2.full,sl AM dec,sl Ab (AP dec),.msl 500 st.length]),(1001,.tok 6 (Bx S nc).2.infs.length),(1002,.tok 1 (Bx S nc).2.drv.length),(1003,.map FI (FK 0 (Bx S nc).2.infs)),(1004,.dead)] Z1 Z6 ?_))
    have eA:=(ZH (rec:=Dc x roots n) (x:=x) (p:=p) (n0:=n0) (st:=st) (rs:=rs) (sk:=sk) n3 Yp h6.2 IM Ud);have eR:R=⟨(Bx S nc).1,false,(Bx S nc).2,dec,st⟩:=by rw[<-j2];rw[eA];exact fq lr
    exact C2 (.refl _) (NY (fX.trans eR))
   skip
   have eW:wC (Ek dec cs[i])=.tup [.agg [vs ⟨#[]⟩,nzA,vs ⟨#[]⟩,vi 0,vi 0],vb false]:=by rw[Ud];rfl
   rw[eW]at Yo;refine Xi (.gen cI 0) (Yi rfl (AU.imp Yo ?_));intro v35 g35 q35;have Agy:=q35.1;have Agz:=q35.2;subst Agy;subst Agz;refine yN (cU [(0,.ref 1000 0),(4,vs p),(5,sl Bn (n0::l)),(6,.slice (.id 6 1) (rs.map Cz)),(7,.slice (.id 7 3) (sk.map Cb)),(9,.ref 9 0),(11,.slice (.id 16000 4) ((AP (dec++[cs[i]])).map Ab)),(12,vi 0),(13,vb false),(14,.ref 14 0),(15,vb false),(32,sl AM cs),(33,vi (cs.map AM).length),(34,vi i)] [(6,.tok 1 rs.length),(7,.tok 3 sk.length),(9,.ro (AM cs[i])),(14,.cells [vs ⟨#[]⟩,nzA,vs ⟨#[]⟩,vi 0,vi 0]),(500,.arr 1 (st.map Bb)),(1000,.cells (srM roots C A S dec 500 st.length)),(1001,.tok 6 S.infs.length),(1002,.tok 1 S.drv.length),(1003,.map FI (FK 0 S.infs)),(1004,.dead),(16000,.tok 4 ((AP (dec++[cs[i]])).map Ab).length)] ⟨Zr,Zr,Zr,Zr,Zr,Zr,Zr,Zr,Zr,Zr,Zr,Zr,Zr,Zr,Tv⟩ Z11 (Yi aa1 (cU [(0,.ref 1000 0),(4,vs p),(5,sl Bn (n0::l)),(6,.slice (.id 6 1) (rs.map Cz)),(7,.slice (.id 7 3) (sk.map Cb)),(9,.ref 9 0),(11,.slice (.id 16000 4) ((AP (dec++[cs[i]])).map Ab)),(16,sl AM dec),(17,sl Ab (AP dec)),(32,sl AM cs),(33,vi (cs.map AM).length),(34,vi i)] [(6,.tok 1 rs.length),(7,.tok 3 sk.length),(9,.ro (AM cs[i])),(500,.arr 1 (st.map Bb)),(1000,.cells (srM roots C A S dec 500 st.length)),(1001,.tok 6 S.infs.length),(1002,.tok 1 S.drv.length),(1003,.map FI (FK 0 S.infs)),(1004,.dead),(16000,.tok 4 ((AP (dec++[cs[i]])).map Ab).length)] Z12 Z10 (Xi _ (C2 aa1 (Yi (Acg dec ch) (yN ?_)))))));have b36:Bi 10 [(AM cs[i])]/\(dec.map AM).length=(dec.map AM).length/\((dec.map AM).length+([(AM cs[i])]:C0).length)*128<=140737488355328/\(dec.map AM).length+([(AM cs[i])]:C0).length<=9223372036854775807:=⟨⟨rfl,trivial⟩,rfl,aa0,B0⟩;refine Yi b36 (yN (yN (Yi aa1 ?_)));have b37:Bi 1 [[sl Cb sk]]/\(st.map Bb).length=st.length/\((st.map Bb).length+([[sl Cb sk]]:C0).length)*24<=140737488355328/\(st.map Bb).length+([[sl Cb sk]]:C0).length<=9223372036854775807:=⟨⟨rfl,trivial⟩,B0,aa0,B0⟩;refine Yi b37 (yN (cU [(0,.ref 1000 0),(4,vs p),(5,sl Bn (n0::l)),(6,.slice (.id 6 1) (rs.map Cz)),(7,.slice (.id 7 3) (sk.map Cb)),(9,.ref 9 0),(16,sl AM dec),(17,sl Ab (AP dec)),(32,sl AM cs),(33,vi (cs.map AM).length),(34,vi i)] [(6,.tok 1 rs.length),(7,.tok 3 sk.length),(9,.ro (AM cs[i])),(500,.arr 1 ((st.map Bb)++[[sl Cb sk]])),(1000,.cells [sl AI roots,.cmap BW C,.cmap BW A,.slice (.id 1001 6) (S.infs.map Dy),.slice (.id 1002 1) (S.drv.map Df),.mref 1003,vb S.full,.slice (.id 20100 10) ((dec.map AM)++[(AM cs[i])]),.slice (.id 16000 4) ((AP (dec++[cs[i]])).map Ab),.msl 500 ((st.map Bb).length+([[sl Cb sk]]:C0).length)]),(1001,.tok 6 S.infs.length),(1002,.tok 1 S.drv.length),(1003,.map FI (FK 0 S.infs)),(1004,.dead),(16000,.tok 4 ((AP (dec++[cs[i]])).map Ab).length),(20100,.tok 10 ((dec.map AM).length+([(AM cs[i])]:C0).length))] Z11 Z11 (cU [(0,.ref 1000 0),(4,vs p),(5,sl Bn (n0::l)),(6,.slice (.id 6 1) (rs.map Cz)),(7,.slice (.id 7 3) (sk.map Cb)),(9,.ref 9 0),(16,sl AM dec),(17,sl Ab (AP dec)),(32,sl AM cs),(33,vi (cs.map AM).length),(34,vi i)] [(6,.tok 1 rs.length),(7,.tok 3 sk.length),(9,.ro (AM cs[i])),(500,.arr 1 ((st++[sk]).map Bb)),(1000,.cells [sl AI roots,.cmap BW C,.cmap BW A,.slice (.id 1001 6) (S.infs.map Dy),.slice (.id 1002 1) (S.drv.map Df),.mref 1003,vb S.full,.slice (.id 20100 10) ((dec++[cs[i]]).map AM),.slice (.id 16000 4) ((AP (dec++[cs[i]])).map Ab),.msl 500 (st++[sk]).length]),(1001,.tok 6 S.infs.length),(1002,.tok 1 S.drv.length),(1003,.map FI (FK 0 S.infs)),(1004,.dead),(16000,.tok 4 ((AP (dec++[cs[i]])).map Ab).length),(20100,.tok 10 ((dec++[cs[i]]).map AM).length)] Z11 ⟨Zr,Zr,Zr,⟨(show(.arr 1 ((st.map Bb)++[[sl Cb sk]]):HO)=.arr 1 ((st++[sk]).map Bb) by simp),rfl⟩,⟨(show(.cells [sl AI roots,.cmap BW C,.cmap BW A,.slice (.id 1001 6) (S.infs.map Dy),.slice (.id 1002 1) (S.drv.map Df),.mref 1003,vb S.full,.slice (.id 20100 10) ((dec.map AM)++[(AM cs[i])]),.slice (.id 16000 4) ((AP (dec++[cs[i]])).map Ab),.msl 500 ((st.map Bb).length+([[sl Cb sk]]:C0).length)]:HO)=.cells [sl AI roots,.cmap BW C,.cmap BW A,.slice (.id 1001 6) (S.infs.map Dy),.slice (.id 1002 1) (S.drv.map Df),.mref 1003,vb S.full,.slice (.id 20100 10) ((dec++[cs[i]]).map AM),.slice (.id 16000 4) ((AP (dec++[cs[i]])).map Ab),.msl 500 (st++[sk]).length] by simp),rfl⟩,Zr,Zr,Zr,Zr,Zr,⟨(show(.tok 10 ((dec.map AM).length+([(AM cs[i])]:C0).length):HO)=.tok 10 ((dec++[cs[i]]).map AM).length by simp),rfl⟩,Tv⟩ ?_)))
   have GX:kk dec (n0::l) cs[i]=true:=PU.2 ⟨fun n hn=>by grind,Ud⟩;have nM:=ih cs[i] (hcm i n3) GX S (st++[sk]) B0 j3 ch;refine Be (show ∃o,o=Dc x roots n (dec++[cs[i]]) S (st++[sk])from⟨_,rfl⟩) (fun o ho=>?_);rw[<-ho]at nM;have hrc:AU Tryz.prog 137 [.ref 1000 0] (Ak (Jm roots C A S (dec++[cs[i]]) (st++[sk])) Ae) (fun r h'=>r=.tup [vi (o.res:Nat),vb o.found]/\h'=Ak (srE roots C A o.ss o.dec o.stack) Ae):=nM.1;have hrs:=nM.2.1;have hrn:=nM.2.2.1;refine A1 (Bt o.found) (fun fW=>?_) (fun fW=>?_)
   .skip
    rw[fW]at hrc;refine Xi (.gen cI 1) (Yi rfl (AU.imp hrc ?_));intro v39 g39 q39;have AgA:=q39.1;have AgB:=q39.2;subst AgA;subst AgB;refine cU [(0,.ref 1000 0),(4,vs p),(5,sl Bn (n0::l)),(6,.slice (.id 6 1) (rs.map Cz)),(7,.slice (.id 7 3) (sk.map Cb)),(9,.ref 9 0),(12,vi (o.res:Nat)),(16,sl AM dec),(17,sl Ab (AP dec)),(18,vb true),(32,sl AM cs),(33,vi (cs.map AM).length),(34,vi i)] [(6,.tok 1 rs.length),(7,.tok 3 sk.length),(9,.ro (AM cs[i])),(1000,.cells (srM roots C A o.ss o.dec 22200 o.stack.length)),(1001,.tok 6 o.ss.infs.length),(1002,.tok 1 o.ss.drv.length),(1003,.map FI (FK 0 o.ss.infs)),(1004,.dead),(22200,.arr 1 (o.stack.map Bb))] Z13 Z9 (Yi (show o.stack.length=(o.stack.map Bb).length by simp) (cU [] [(500,.arr 1 (o.stack.map Bb)),(1000,.cells (srM roots C A o.ss o.dec 500 o.stack.length)),(1001,.tok 6 o.ss.infs.length),(1002,.tok 1 o.ss.drv.length),(1003,.map FI (FK 0 o.ss.infs)),(1004,.dead)] Tv Z6 ?_))
    have Yp:S.full=false:=ch
    have eR:R=⟨0,true,o.ss,o.dec,o.stack⟩:=by rw[<-j2];rw[X1 (sk:=sk) n3 Yp h6.2 IM Ud ho,Ax fW]
    exact C2 (.refl _) (NY (fX.trans eR))
   skip
   rw[fW]at hrc;have hrk:=nM.2.2.2 fW;have VH:o.stack.length=st.length+1:=B0
   refine Xi (.gen cI 1) (Yi rfl (AU.imp hrc ?_));intro v41 g41 q41;have AgC:=q41.1;have AgD:=q41.2;subst AgC;subst AgD;refine cU [(0,.ref 1000 0),(4,vs p),(5,sl Bn (n0::l)),(6,.slice (.id 6 1) (rs.map Cz)),(7,.slice (.id 7 3) (sk.map Cb)),(9,.ref 9 0),(12,vi (o.res:Nat)),(16,sl AM dec),(17,sl Ab (AP dec)),(18,vb false),(32,sl AM cs),(33,vi (cs.map AM).length),(34,vi i)] [(6,.tok 1 rs.length),(7,.tok 3 sk.length),(9,.ro (AM cs[i])),(1000,.cells (srM roots C A o.ss o.dec 22200 o.stack.length)),(1001,.tok 6 o.ss.infs.length),(1002,.tok 1 o.ss.drv.length),(1003,.map FI (FK 0 o.ss.infs)),(1004,.dead),(22200,.arr 1 (o.stack.map Bb))] Z13 Z9 (yN (yN (cU [(0,.ref 1000 0),(4,vs p),(5,sl Bn (n0::l)),(6,.slice (.id 6 1) (rs.map Cz)),(7,.slice (.id 7 3) (sk.map Cb)),(9,.ref 9 0),(12,vi (o.res:Nat)),(32,sl AM cs),(33,vi (cs.map AM).length),(34,vi i)] [(6,.tok 1 rs.length),(7,.tok 3 sk.length),(9,.ro (AM cs[i])),(1000,.cells (srM roots C A o.ss dec 22200 o.stack.length)),(1001,.tok 6 o.ss.infs.length),(1002,.tok 1 o.ss.drv.length),(1003,.map FI (FK 0 o.ss.infs)),(1004,.dead),(22200,.arr 1 (o.stack.map Bb))] Z10 Z9 (Yi (by show Az ((o.stack.length:Int)-(1:Int));unfold Az;omega) (Yi ⟨(show o.stack.length=(o.stack.map Bb).length by simp),(show(0:Int)<=o.stack.length-1 by omega),(show(o.stack.length-1:Int)<=((o.stack.map Bb).length:Nat) by grind)⟩ (yN (Yi aa1 (Yi (show(o.stack.length-1:Int).toNat=(((o.stack.map Bb).take (o.stack.length-1:Int).toNat):C0).length by simp) ?_))))))));have AkD:((o.stack.map Bb).take ((o.stack.length:Int)-1).toNat)=st.map Bb/\((o.stack.length:Int)-1).toNat=st.length:=Abc hrk;refine cU [(0,.ref 1000 0),(4,vs p),(5,sl Bn (n0::l)),(6,.slice (.id 6 1) (rs.map Cz)),(7,.slice (.id 7 3) (sk.map Cb)),(9,.ref 9 0),(12,vi (o.res:Nat)),(32,sl AM cs),(33,vi (cs.map AM).length),(34,vi i)] [(6,.tok 1 rs.length),(7,.tok 3 sk.length),(9,.ro (AM cs[i])),(500,.arr 1 (st.map Bb)),(1000,.cells (srM roots C A o.ss dec 500 st.length)),(1001,.tok 6 o.ss.infs.length),(1002,.tok 1 o.ss.drv.length),(1003,.map FI (FK 0 o.ss.infs)),(1004,.dead)] Z10 ⟨Zr,Zr,Zr,⟨(show(.arr 1 ((o.stack.map Bb).take (o.stack.length-1:Int).toNat):HO)=.arr 1 (st.map Bb) by simp_all),rfl⟩,⟨(show(.cells (srM roots C A o.ss dec 500 (o.stack.length-1:Int).toNat):HO)=.cells (srM roots C A o.ss dec 500 st.length) by simp_all),rfl⟩,Zr,Zr,Zr,Zr,Tv⟩ ?_
   refine Yi (fun h42=>?_) (fun h42=>?_)
   .have Yp:S.full=false:=ch
    have eR:R=⟨0,false,o.ss,dec,st⟩:=by rw[<-j2];rw[X1 (sk:=sk) n3 Yp h6.2 IM Ud ho,AA B0,Ax h42]
    exact C2 (.refl _) (NY (fX.trans eR))
   have wV:o.ss.full=false:=h42;refine cU [(0,.ref 1000 0),(4,vs p),(5,sl Bn (n0::l)),(6,.slice (.id 6 1) (rs.map Cz)),(7,.slice (.id 7 3) (sk.map Cb)),(9,.ref 9 0),(12,vi (o.res:Nat)),(32,sl AM cs),(33,vi (cs.map AM).length),(34,vi i)] [(6,.tok 1 rs.length),(7,.tok 3 sk.length),(9,.ro (AM cs[i])),(500,.arr 1 (st.map Bb)),(1000,.cells (srM roots C A o.ss dec 500 st.length)),(1001,.tok 6 o.ss.infs.length),(1002,.tok 1 o.ss.drv.length),(1003,.map FI (FK 0 o.ss.infs)),(1004,.dead)] Z10 Z9 (Xi (Df (EP o.ss o.res)) (Yi (Yi (show(0:Int)<=((o.res:Nat):Int) by omega) (El (Fi (hrn.2 fW wV)))) (Yi rfl ?_)));have Yp:S.full=false:=ch
   have cy:o.res<o.ss.drv.length:=(hrn.2 fW wV);have gl:=hrs.der.few hx hr;refine A1 (Bt (DL (EP o.ss o.res) p)) (fun lu=>?_) (fun lu=>?_)
   .refine C1 (C2 (cb lu (qP (EP o.ss o.res) p (Gd (gl _ (AG (Fi cy)))))) (cU [(0,.ref 1000 0),(4,vs p),(5,sl Bn (n0::l)),(6,.slice (.id 6 1) (rs.map Cz)),(7,.slice (.id 7 3) (sk.map Cb)),(9,.ref 9 0),(12,vi (o.res:Nat)),(32,sl AM cs),(33,vi (cs.map AM).length),(34,vi i)] [(6,.tok 1 rs.length),(7,.tok 3 sk.length),(9,.ro (AM cs[i])),(500,.arr 1 (st.map Bb)),(1000,.cells (srM roots C A o.ss dec 500 st.length)),(1001,.tok 6 o.ss.infs.length),(1002,.tok 1 o.ss.drv.length),(1003,.map FI (FK 0 o.ss.infs)),(1004,.dead)] Z10 Z9 (Yi (Zi rfl ch Wk) (Yi (Zi rfl ch Wk) (Yi (Ii i ch) ?_)))));have eA:=(X1 (rec:=Dc x roots n) (x:=x) (p:=p) (n0:=n0) (st:=st) (rs:=rs) (sk:=sk) n3 Yp h6.2 IM Ud ho);rw[AA B0,AA B0]at eA;have eN:Ew (Dc x roots n) x p (n0::l) n0 dec st (cs.drop (i+1)) o.ss (rs++[o.res]) (sk++[(⟨p,cs[i].place,(o.res:Nat)⟩:Sk)])=R:=by rw[<-XL (c:=cs[i]) lu,<-eA];exact j2
    refine Xi ⟨(i+1,o.ss,rs++[o.res],sk++[(⟨p,cs[i].place,(o.res:Nat)⟩:Sk)]),FC n3,eN,hrs,fun r h=>(Bh.1 h).elim ((fun r h=>Bm (j4 r h) hrn.1) r) (fun h=>by simp_all),B0,B0⟩ ?_;exact⟨Dl cs.length i ch,⟨Zr,Zr,Zr,⟨(show AV.slice (.id 6 1) (rs.map Cz++[[vi ((o.res:Nat):Int)]])=.slice (.id 6 1) ((rs++[o.res]).map Cz) by simp_all),rfl⟩,⟨(show AV.slice (.id 7 3) (sk.map Cb++[[vs p,vi cs[i].place,vi ((o.res:Nat):Int)]])=.slice (.id 7 3) ((sk++[(⟨p,cs[i].place,(o.res:Nat)⟩:Sk)]).map Cb) by simp_all),rfl⟩,Zr,Zr,Zr,Tv⟩,⟨⟨(show HO.tok 1 ((rs.map Cz).length+([[vi ((o.res:Nat):Int)]]:C0).length)=.tok 1 (rs++[o.res]).length by simp),rfl⟩,⟨(show HO.tok 3 ((sk.map Cb).length+([[vs p,vi cs[i].place,vi ((o.res:Nat):Int)]]:C0).length)=.tok 3 (sk++[(⟨p,cs[i].place,(o.res:Nat)⟩:Sk)]).length by simp),rfl⟩,Zr,Zr,Zr,Zr,Zr,Zr,Tv⟩,Fh,Bu aa1⟩
   refine C1 (C2 (cb lu (qP (EP o.ss o.res) p (Gd (gl _ (AG (Fi cy)))))) (cU [(12,vi (o.res:Nat))] [(500,.arr 1 (st.map Bb)),(1000,.cells (srM roots C A o.ss dec 500 st.length)),(1001,.tok 6 o.ss.infs.length),(1002,.tok 1 o.ss.drv.length),(1003,.map FI (FK 0 o.ss.infs)),(1004,.dead)] Z1 Z6 ?_))
   have eA:=(X1 (rec:=Dc x roots n) (x:=x) (p:=p) (n0:=n0) (st:=st) (rs:=rs) (sk:=sk) n3 Yp h6.2 IM Ud ho);rw[AA B0,AA B0]at eA;have eR:R=⟨o.res,false,o.ss,dec,st⟩:=by rw[<-j2];rw[eA];exact fq lu
   exact C2 (.refl _) (NY (fX.trans eR))
  have n3:=BB h3;refine Xi (Bn n0) (Yi (Yi (show(0:Int)<=0 by decide) rfl) (Yi rfl (yN (Xi (.gen cI 0) (Yi rfl (AU.imp (s91 x roots C A S dec st p n0 rs V hx hr j3 hinf0 j4 ch (hnq n0 (Ah ..)) (hnp n0 (Ah ..)) hV1 hV2 hV3) ?_))))));intro v49 g49 q49;have AgE:=q49.1;have AgF:=q49.2;subst AgE;subst AgF;have hj:¬i<cs.length:=ch
  have eR:R=⟨(Ea x p n0 rs S).1,false,(Ea x p n0 rs S).2,dec,st⟩:=by rw[<-j2];exact mn hj
  exact C2 (.refl _) (NY (fX.trans eR))
 exact absurd Qs hC2
theorem Ah1(hL:Lvl x roots C A n dec p n0 l V cs)(hs:Lg x roots s)(_:st.length=dec.length)(Sw:AU Tryz.prog 186 [.ref 1000 0] (Ak (Jm roots C A s dec st) Ae) fun r h'=>r=.tup [vs p,sl Bn (n0::l)]/\h'=Ak (Jm roots C A s dec st) Ae)(Ak2:cs=[])(hC2:∀a,(Value.string p,a)∉C)(hR:Ew (Dc x roots n) x p (n0::l) n0 dec st cs s [] []=R)(fX:O=R) :
  AU Tryz.prog 137 [.ref 1000 0] (Ak (Jm roots C A s dec st) Ae) (cK roots C A O):=by
 obtain⟨hx,hr,hdl,hcl,hcs,hnl,hnq,hnp,hex,hcx,hcq,hcp_,hcr,hcs_,hkey,hinf0,⟨hV1,hV2,hV3⟩,ih⟩:=hL;have hcm:∀(i:Nat) (h:i<cs.length),cs[i]∈Cp x p:=fun i h=>by simp_all
 have zx:∀(i:Nat) (h:i<cs.length),BD (AP (dec++[cs[i]])):=fun i h=>by grind
 clear hcs
 refine BX (Ms ⟨[9],[(6,1),(7,3),(145,1)],[],[],[],[],[],[],[],[(300001,500091000),(300026,500091000),(300029,500091000)],[1,2,5,10,11,13,14,15,16,17,19,21,22,23,24,25,26,28,29,31,32,33,35]⟩) [(1000,1000),(1001,1001),(1002,1002),(1003,1003),(1004,1004),(500,2000)] rfl Ct hm rfl func137 aa1 rfl (Nz rfl) aa1 rfl (Yi (show st.length=(st.map Bb).length by simp) (cU [(0,.ref 1000 0)] [(500,.arr 1 (st.map Bb)),(1000,.cells (srM roots C A s dec 500 st.length)),(1001,.tok 6 s.infs.length),(1002,.tok 1 s.drv.length),(1003,.map FI (FK 0 s.infs)),(1004,.dead)] Z1 Z6 (Xi (.gen cI 0) (Yi rfl (AU.imp Sw ?_)))));intro v1 g1 q1;have tv:=q1.1;have tw:=q1.2;subst tv;subst tw;refine cU [(0,.ref 1000 0),(4,vs p),(5,sl Bn (n0::l))] [(500,.arr 1 (st.map Bb)),(1000,.cells (srM roots C A s dec 500 st.length)),(1001,.tok 6 s.infs.length),(1002,.tok 1 s.drv.length),(1003,.map FI (FK 0 s.infs)),(1004,.dead)] Z3 Z6 (Yi (fun h2=>?_) (fun h2=>?_))
 .exact absurd h2 aa0
 refine cU [(0,.ref 1000 0),(4,vs p),(5,sl Bn (n0::l)),(6,.slice (.id 6 1) [])] [(6,.tok 1 0),(500,.arr 1 (st.map Bb)),(1000,.cells (srM roots C A s dec 500 st.length)),(1001,.tok 6 s.infs.length),(1002,.tok 1 s.drv.length),(1003,.map FI (FK 0 s.infs)),(1004,.dead)] Z4 Z7 (Yi (fun a ha=>?_) (fun Qs=>?_))
 .exact absurd ha (hC2 a)
 refine Xi {q:Nat×SS×List Nat×List Sk // q.1<=cs.length/\Ew (Dc x roots n) x p (n0::l) n0 dec st (cs.drop q.1) q.2.1 q.2.2.1 q.2.2.2=R/\Lg x roots q.2.1/\(∀r∈q.2.2.1,r<q.2.1.drv.length)/\q.2.2.1.length<=q.1/\q.2.2.2.length<=q.1} (Xi (fun q=>⟨[(0,.ref 1000 0),(4,vs p),(5,sl Bn (n0::l)),(6,.slice (.id 6 1) (q.1.2.2.1.map Cz)),(7,.slice (.id 7 3) (q.1.2.2.2.map Cb)),(32,nzA),(33,vi 0),(34,vi q.1.1)],[(6,.tok 1 q.1.2.2.1.length),(7,.tok 3 q.1.2.2.2.length),(500,.arr 1 (st.map Bb)),(1000,.cells (srM roots C A q.1.2.1 dec 500 st.length)),(1001,.tok 6 q.1.2.1.infs.length),(1002,.tok 1 q.1.2.1.drv.length),(1003,.map FI (FK 0 q.1.2.1.infs)),(1004,.dead)],Ae⟩) (Xi (fun q=>cs.length-q.1.1) (Yi (Xi ⟨(0,s,[],[]),Aj _,hR,hs,fun r h=>(by cases h),Ao _,Ao _⟩ ?_) ?_)))
 .exact⟨Z8,Z8,Fh,Bu aa1⟩
 intro⟨⟨i,S,rs,sk⟩,j1,j2,j3,j4,j5,j6⟩;have j5:rs.length<=i:=j5;have hw:=j3.dl;have Yq:∀t∈S.drv,lG t:=fun t ht=>by have q:=j3.der.few hx hr t ht;grind
 refine Yi (fun h3=>?_) (fun h3=>?_)
 .have h3:(i:Int)<(0:Int):=h3;exact absurd h3 ch
 have h3:¬((i:Int)<(0:Int)):=h3;refine Xi (Bn n0) (Yi (Yi (show(0:Int)<=0 by decide) rfl) (Yi rfl (yN (Xi (.gen cI 0) (Yi rfl (AU.imp (s91 x roots C A S dec st p n0 rs V hx hr j3 hinf0 j4 ch (hnq n0 (Ah ..)) (hnp n0 (Ah ..)) hV1 hV2 hV3) ?_))))));intro v4 g4 q4;have q4a:=q4.1;have q4b:=q4.2;subst q4a;subst q4b;have hj:¬i<cs.length:=B0
 have eR:R=⟨(Ea x p n0 rs S).1,false,(Ea x p n0 rs S).2,dec,st⟩:=by rw[<-j2];exact mn hj
 exact C2 (.refl _) (NY (fX.trans eR))
theorem Ah3(N:List Nd)(O:Ld)(hN:N=[])(Sw:AU Tryz.prog 186 [.ref 1000 0] (Ak (Jm roots C A s dec st) Ae) fun r h'=>r=.tup [vs p,sl Bn N]/\h'=Ak (Jm roots C A s dec st) Ae)(hO:O=⟨0,true,s,dec,st⟩) :
  AU Tryz.prog 137 [.ref 1000 0] (Ak (Jm roots C A s dec st) Ae) (cK roots C A O):=by
 refine BX (Ms ⟨[],[],[],[],[],[],[],[],[],[(300001,500091000)],[1,2,5,10,11,13,14,15,16,17,19,21,22,23,25,28,29,31,32,33,35]⟩) [(1000,1000),(1001,1001),(1002,1002),(1003,1003),(1004,1004),(500,2000)] rfl Ct hm rfl func137 aa1 rfl (Nz rfl) aa1 rfl (Yi (show st.length=(st.map Bb).length by simp) (cU [(0,.ref 1000 0)] [(500,.arr 1 (st.map Bb)),(1000,.cells (srM roots C A s dec 500 st.length)),(1001,.tok 6 s.infs.length),(1002,.tok 1 s.drv.length),(1003,.map FI (FK 0 s.infs)),(1004,.dead)] Z1 Z6 (Xi (.gen cI 0) (Yi rfl (AU.imp Sw ?_)))));intro v1 g1 q1;have tv:=q1.1;have tw:=q1.2;subst tv;subst tw;refine cU [(0,.ref 1000 0),(4,vs p),(5,sl Bn N)] [(500,.arr 1 (st.map Bb)),(1000,.cells (srM roots C A s dec 500 st.length)),(1001,.tok 6 s.infs.length),(1002,.tok 1 s.drv.length),(1003,.map FI (FK 0 s.infs)),(1004,.dead)] Z3 Z6 (Yi (fun h2=>?_) (fun h2=>?_))
 .exact C2 (.refl _) (NY (st:=st) hO)
 exact absurd B0 h2
section
variable {x:List Rl}{roots:List Rq}{p:CS}
theorem It:∀(l:List Nat) {k:Nat} {s:SS},s.infs.Nodup->(Cg p l k s).2.infs.Nodup
 | [],_,_,h=>h
 |r::l,k,s,h=>by
  unfold Cg;split
  .exact h
  split
  .exact It l h
  split
  .exact It l h
  .exact It l (Ig h)
theorem Lk{needs:List Nd}{n0:Nd}{dec:List Cd}{st:List (List Sk)}{rec:List Cd->SS->List (List Sk)->Ld}(nP:∀c s st,s.infs.Nodup->(rec (dec++[c]) s st).ss.infs.Nodup) :
  ∀(cs:List Cd) {s:SS} {rs:List Nat} {sk:List Sk},s.infs.Nodup->(Ew rec x p needs n0 dec st cs s rs sk).ss.infs.Nodup
 | [],s,rs,sk,h=>It _ (Ig (Ig h))
 |c::cs,s,rs,sk,h=>by
  have aft:∀(s' : SS) (k:Nat),s'.infs.Nodup->(J9 rec x p needs n0 dec st c cs rs sk k s').ss.infs.Nodup:=fun s' k h'=>by
   unfold J9;split
   .exact h'
   .exact Lk nP cs h'
  rw[Gv];split
  .exact h
  cases needs.find? fun n=>!has n.rq.set c.place with
  |some n=>exact Lk nP cs (Ig h)
  |none=>
   dsimp only;cases Ph s.drv (AP (dec++[c]))with
   |some k=>simp_all
   |none=>
    dsimp only;cases Ek dec c with
    |some n=>exact aft _ _ (Ig h)
    |none=>
     grind
theorem Qi:∀(n:Nat) {dec:List Cd} {s:SS} {st:List (List Sk)},s.infs.Nodup->(Dc x roots n dec s st).ss.infs.Nodup
 |0,_,_,_,h=>h
 |n+1,dec,s,st,h=>by
  unfold Dc;cases (GS roots dec).2 with
  |nil=>exact h
  |cons n0 l=>exact Lk (fun c s st h=>Qi n h) _ h
structure zL(x:List Rl)(roots:List Rq)(C A:List (Value×AV)):Prop where
 hx:AL x=0
 hr:A8 roots=0
 fx:∀r∈x,CX r
 fr:∀q∈roots,Jb q
 c1:∀(p:CS) (a:AV),(Value.string p,a)∈C->a=sl AM (Cp x p)
 c2:∀p:CS,(∀a,(Value.string p,a)∉C)->Cp x p=[]
 c3:∀p:CS,Cp x p=[]->∀a,(Value.string p,a)∉C
 av:∀p:CS,∃V,HV x A p V
theorem wJ{dec:List Cd}(h:∀c∈dec,c.rel.reqs.length<=16):((dec.map fun c=>c.rel.reqs).flatten).length<=16*dec.length:=by
 induction dec<;>grind
theorem xU{r:Rl}(h:KG r):0<=plc r.ver/\plc r.ver<1000000:=by rw[h.plc];exact JO h.val
theorem ka(dec:List Cd):(GS roots dec).2.length<=(Dw roots dec).length:=by
 grind [UG]
theorem s45{C A:List (Value×AV)}(hE:zL x roots C A)(nu:H64 roots C A):∀(n:Nat) {dec:List Cd} {s:SS} {st:List (List Sk)},DH x dec->ID roots dec->Lg x roots s->s.full=false->RO x dec<n->st.length=dec.length ->
  AU Tryz.prog 137 [.ref 1000 0] (Ak (Jm roots C A s dec st) Ae) (cK roots C A (Dc x roots n dec s st))
 |0,_,_,_,_,_,_,_,h,_=>by omega
 |n+1,dec,s,st,hd,jE,hs,hf,hn,KP=>by
  have hx:=hE.hx;have hr:=hE.hr;have HE:=Lz hx;have hdl:=ZR hd;have AaN:dec.length<=256:=ch
  have hrl:∀c∈dec,c.rel.reqs.length<=16:=fun c hc=>HE.2 _ (hd.cand c hc).1;have Sw:=nu s dec st ch fun c hc=>Av (hrl c hc) Wk;generalize hO:Dc x roots (n+1) dec s st=O;obtain⟨N,hN⟩:∃N,N=(GS roots dec).2:=⟨_,rfl⟩;obtain⟨q,hq⟩:∃q,q=(GS roots dec).1:=⟨_,rfl⟩;rw[<-hN,<-hq]at Sw;have hNl:N.length<=10000:=by
   grind [ka,Ni,Lm,wJ,Qe]
  cases hNc:N with
  |nil=>
   rw[hNc]at hN Sw;refine Ah3 roots C A s dec st q [] O rfl Sw ?_
   grind [Dc]
  |cons n0 l=>
   rw[hNc]at hN Sw;have hNx:=Ot hN.symm;rw[<-hq]at hNx;have aD:∀nd∈n0::l,nd∈Dw roots dec:=fun nd h=>((hNx.mem nd).1 h).1;have GX:=(B7 hx).1;have few:∀{E:List Cd},DH x E->∀nd∈Dw roots E,BD nd.rq.set/\Az (nd.place+1):=fun hE' nd h=>by
    rcases MI h with ⟨k,r,h1,rfl⟩ | ⟨c,hc,k,r,h1,rfl⟩
    .grind [Az,zL.fr]
    .have h2:=hE'.cand c hc;have h3:=xU (GX _ h2.1)
     grind [Az,zL.fx]
   have zC:∀c∈Cp x q,DH x (dec++[c])/\c.rel.path=q/\c.rel∈x:=fun c hc=>by
    grind [Ka,DH.snoc,fo.undone]
   have FW:∀(i:Nat) (h:i<(Cp x q).length),(Cp x q)[i]∈Cp x q:=fun i h=>Ai h;obtain⟨V,hV⟩:=hE.av q
   have hL:Lvl x roots C A n dec q n0 l V (Cp x q):={
    hx:=hx
    hr:=hr
    hdl:=AaN
    hcl:=Av (Wo x q) HE.1
    hcs:=rfl
    hnl:=aa0
    hnq:=fun nd h=>(few hd nd (aD nd h)).1
    hnp:=fun nd h=>(few hd nd (aD nd h)).2
    hex:=fun i h nd hm hh=>by
     obtain⟨a,b,_⟩:=zC _ (FW i h);exact⟨(PM hx hr a (On (aD nd hm)) ⟨(Cp x q)[i],by simp,b.trans ((hNx.mem nd).1 hm).2.symm,hh⟩).1,trivial⟩
    hcx:=fun i h nc hc=>by
     obtain⟨a,b,_⟩:=zC _ (FW i h);obtain⟨m1,m2⟩:=Lo hc;exact⟨(PM hx hr a (Nj m1) m2).1,trivial⟩
    hcq:=fun i h nc hm=>(few (zC _ (FW i h)).1 nc (Nj hm)).1
    hcp_:=fun i h nc hm=>(few (zC _ (FW i h)).1 nc (Nj hm)).2
    hcr:=fun i h=>by grind
    hcs_:=fun i h r hm=>((hE.fx _ (zC _ (FW i h)).2.2).2 r hm).1
    hkey:=fun i h=>by
     simp_all
    hinf0:=(SN hx hr hd (aD n0 (Ah ..)) (.inl (by
     rw[((hNx.mem n0).1 (Ah ..)).2]
     grind [HW,Gw,fo.undone]))).inf
    hV:=hV
    ih:=fun c hc AfO S EM hl hS hSf=>by
     obtain⟨a,b,c3⟩:=zC c hc;obtain⟨k1,k2⟩:=PU.1 AfO;obtain⟨_,c2⟩:=Ka hc;have u5:=jE.snoc hNx b k1 k2;have si:RO x (dec++[c])<n:=by have:=Ua (dec:=dec) ⟨c2.1,c2.2.1⟩ (by grind [fo.undone]);omega
     have h1:=s45 hE nu n a u5 hS hSf si (st:=EM) B0;have h2:=Rr hx hr n a u5 hS.der hSf si (st:=EM);exact⟨h1,⟨h2.der,Qi n hS.nodup⟩,⟨h2.grow.len,fun e1 e2=>((h2.no e1).2.2 e2).1⟩,fun e1=>(h2.no e1).2.1⟩ }
   have hR:Ew (Dc x roots n) x q (n0::l) n0 dec st (Cp x q) s [] []=O:=by
    grind [Dc]
   by_cases hm:∀a,(Value.string q,a)∉C
   .exact Ah1 x roots C A n s dec st q n0 l V (Cp x q) O O hL hs KP Sw (hE.c2 q hm) hm hR rfl
   .exact Ah0 x roots C A n s dec st q n0 l V (Cp x q) O O hL hs KP Sw (hE.c1 q) hm hR rfl
end
theorem Ah2{x:List Rl}{roots:List Rq}{C A:List (Value×AV)}(hE:zL x roots C A)(n:Nat){dec:List Cd}{s:SS}{st:List (List Sk)}(h1:DH x dec)(h2:ID roots dec)(h3:Lg x roots s)(h4:s.full=false)(h5:RO x dec<n)(h6:st.length=dec.length) :
  AU Tryz.prog 137 [.ref 1000 0] (Ak (Jm roots C A s dec st) Ae) (cK roots C A (Dc x roots n dec s st)):=
 s45 hE (fun s dec st a b=>s64 roots C A s dec st (Av (Qe hE.hr) Wk) a b) n h1 h2 h3 h4 h5 h6
def GH:Bool:=decide (AL x=0)&&decide (A8 roots=0)
theorem s28(ifs:C0)(roots:List Rq)(hx:∀r∈x,CX r)(hr:∀q∈roots,Jb q):PC 135 [.agg (Ic x ifs),sl AI roots] (vb (GH x roots)):=by
 refine Ps (pC [2] []) func135 rfl (Nz rfl) (yN (C1 (C2 (zg VD x ifs hx) (Yi (fun h1=>?_) (fun h1=>?_)))))
 .refine C1 (C2 (c65 VD roots hr) (Yi (fun h2=>?_) (fun h2=>?_)))
  .exact .of_eq (show vb true=vb (GH x roots) by grind [GH])
  exact .of_eq (show vb false=vb (GH x roots) by grind [GH])
 exact .of_eq (show vb false=vb (GH x roots) by grind [GH])
abbrev TS(r:Rl):List AV:=AM ⟨plc r.ver,r⟩
abbrev Mc:C0:=(y.filter fun r=>decide (r.path=p)).map TS
abbrev uM(q:CS×Nat):Value×AV:=(.string q.1,.slice (.id (q.2+100) 10) (Mc y q.1))
abbrev IU:List (Value×AV):=(AW y []).zipIdx.map (uM y)
def HB(l:Nat):HO:=match(AW y [])[l]? with
 |some q=>.tok 10 (Mc y q).length
 |none=>.free
def Jj:HO:=bif Nat.ble 100 j&&Nat.blt j 1000 then HB y (j-100)else .free
theorem Fj(hy:y.length<=256)(l:Nat):Jj y (l+100)=HB y l:=by
 grind [Jj,Nat.ble_eq,Nat.blt_eq,Hx,HB]
theorem r9{j:Nat}(h:j<100):Jj y j=.free:=by
 grind [Jj,Nat.ble_eq]
section
variable {y:List Rl}{r:Rl}{k:Nat}
open Classical in
theorem nh(h:(AW y [])[k]?=some r.path):EV (IU y) (.string r.path) (.slice (.id (k+100) 10) (Mc y r.path++[TS r]))=IU (y++[r]):=by
 have hd:=E9 y [] ON;have hm:uM y (r.path,k)∈IU y:=Ay.2 ⟨_,HM.2 h,rfl⟩;rw[bn (a':=.slice (.id (k+100) 10) (Mc y r.path)) hm];unfold IU;rw[Nq h,Bw];refine CC fun q hq=>?_
 grind [Js]
theorem bA(h:r.path∉AW y []):Mc y r.path=[]:=by
 grind [List.filter_eq_nil_iff,GE]
theorem ju(h:r.path∉AW y [])(a:AV):(Value.string r.path,a)∉IU y:=by
 grind
theorem nf(h:r.path∉AW y []):EV (IU y) (.string r.path) (.slice (.id ((AW y []).length+100) 10) [TS r])=IU (y++[r]):=by
 grind [MH,Np,List.map_congr_left,bA]
theorem jv{p:CS}{j:Nat}(h:(AW y [])[j]?=some p):(Value.string p,AV.slice (.id (j+100) 10) (Mc y p))∈IU y/\∀b,(Value.string p,b)∈IU y->b=AV.slice (.id (j+100) 10) (Mc y p):=by
 refine⟨Ay.2 ⟨(p,j),HM.2 h,rfl⟩,fun b hb=>?_⟩
 grind [Js,E9]
theorem ii{p:CS}{j:Nat}(h:(AW y [])[j]?=some p):HB y j=.tok 10 (Mc y p).length:=by
 grind [HB]
theorem pZ(h:(AW y [])[k]?=some r.path)(l:Nat):(bif Nat.beq (l+100) (k+100)then HO.tok 10 ((Mc y r.path).length+1)else HB y l)=HB (y++[r]) l:=by
 grind [Nat.beq_refl,HB,Nq,Nat.eq_of_beq_eq_true,Js,E9]
theorem pY(h:r.path∉AW y [])(l:Nat):(bif Nat.beq (l+100) ((AW y []).length+100)then HO.tok 10 1 else HB y l)=HB (y++[r]) l:=by
 grind [Nat.beq_refl,HB,Np,bA,Nat.eq_of_beq_eq_true]
end
theorem HU(hh:∀l,h (l+100)=HB y l):RQ h (IU y)=true:=by
 refine QO fun p hp=>?_;obtain⟨q,h1,rfl⟩:=Ay.1 hp;show Sz h (q.2+100)=true
 grind [Sz,ii]
theorem GN{y:List Rl}(hy:y.length<=256){h':Nat->HO}(hh:∀l,h (l+100)=HB y l)(j:Nat):Jj y j=.free\/(h j=Jj y j/\SA h' (Jj y j)=true):=by
 by_cases hj:j<100
 .grind [r9]
 .obtain⟨l,rfl⟩:∃l,j=l+100:=⟨j-100,by omega⟩
  right
  rw[Fj y hy];refine⟨hh l,?_⟩;unfold HB;cases (AW y [])[l]?<;>rfl
end Go.Eng
