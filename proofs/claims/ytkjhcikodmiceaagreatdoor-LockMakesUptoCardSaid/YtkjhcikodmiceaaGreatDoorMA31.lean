/- Lemmas 31. -/
import Derived.Test.YtkjhcikodmiceaaGreatDoorMA30
set_option maxHeartbeats 16000000
namespace Go.Eng
open Go.Proofs Go.Proofs.Tryz
variable {h:Nat->HO}(x:List Rl)(roots:List Rq)(C A:List (Value×AV))(n:Nat)(s:SS)(y:List Rl)(dec:List Cd)(j:Nat)(st:List (List Sk))(p:CS)(n0:Nd)(l:List Nd)(V:AV)(cs:List Cd)(R O:Ko)
theorem fH{α:Type}(o:Option α):(∃x,o=some x)\/o=none:=by
 cases o<;>simp_all
theorem AaH{T st:List (List Sk)}{sk:List Sk}(h:T=st++[sk]):((T.map Bb).take ((T.length:Int)-1).toNat)=st.map Bb/\((T.length:Int)-1).toNat=st.length:=by
 simp_all
abbrev HV:Prop:=(∀a,(Value.string p,a)∈A->a=V)/\((∀a,(Value.string p,a)∉A)->V=BY)/\∀h,PC 229 [vs p,str h V] (sl M (Eh p (Ba x p)))
abbrev lZ(n:Nd):Prop:=∀d,AR x roots d (OZ n)=some (II n)
structure Lvl(x:List Rl)(roots:List Rq)(C A:List (Value×AV))(n:Nat)(dec:List Cd)(p:CS)(n0:Nd)(l:List Nd)(V:AV)(cs:List Cd):Prop where
 hx:Aw x=0
 hr:AK roots=0
 hdl:dec.length<=256
 hcl:cs.length<=256
 hcs:cs=Bk x p
 hnl:(n0::l).length<9223372036854775807
 hnq:∀n∈n0::l,BF n.rq.set
 hnp:∀n∈n0::l,Au (n.place+1)
 hex:∀(i:Nat) (h:i<cs.length),∀nd∈n0::l,has nd.rq.set cs[i].place=false->lZ x roots nd/\True
 hcx:∀(i:Nat) (h:i<cs.length) (nc:Nd),CX dec cs[i]=some nc->lZ x roots nc/\True
 hcq:∀(i:Nat) (h:i<cs.length) (nc:Nd),nc∈QQ cs[i]->BF nc.rq.set
 hcp_:∀(i:Nat) (h:i<cs.length) (nc:Nd),nc∈QQ cs[i]->Au (nc.place+1)
 hcr:∀(i:Nat) (h:i<cs.length),cs[i].rel.reqs.length<=1073741824
 hcs_:∀(i:Nat) (h:i<cs.length),∀q∈cs[i].rel.reqs,BF q.set
 hkey:∀(i:Nat) (h:i<cs.length),(Q dec).map Ae++[[vs p,G cs[i].rel.ver.a,G cs[i].rel.ver.b,G cs[i].rel.ver.c]]=(Q (dec++[cs[i]])).map Ae
 hinf0:lZ x roots n0
 hV:HV x A p V
 ih:∀c∈Bk x p,cn dec (n0::l) c=true->∀(S:SS) (EQ : List (List Sk)),EQ.length=dec.length+1->LC x roots S->S.full=false ->
  A6 prog 82 [.ref 1000 0] (Ai (JQ roots C A S (dec++[c]) EQ) Af) (dj roots C A (CF x roots n (dec++[c]) S EQ))/\LC x roots (CF x roots n (dec++[c]) S EQ).ss /\
  (S.drv.length<=(CF x roots n (dec++[c]) S EQ).ss.drv.length/\((CF x roots n (dec++[c]) S EQ).found=false->(CF x roots n (dec++[c]) S EQ).ss.full=false->(CF x roots n (dec++[c]) S EQ).res<(CF x roots n (dec++[c]) S EQ).ss.drv.length)) /\
  ((CF x roots n (dec++[c]) S EQ).found=false->(CF x roots n (dec++[c]) S EQ).stack=EQ)
theorem AgN(hL:Lvl x roots C A n dec p n0 l V cs)(hs:LC x roots s)(Iz:st.length=dec.length)(Te:A6 prog 148 [.ref 1000 0] (Ai (JQ roots C A s dec st) Af) fun r h'=>r=.tup [vs p,sl Bm (n0::l)]/\h'=Ai (JQ roots C A s dec st) Af)(hC1:∀a,(Value.string p,a)∈C->a=sl AC cs)(hC2:¬∀a,(Value.string p,a)∉C)(hR:DC (CF x roots n) x p (n0::l) n0 dec st cs s [] []=R)(gO:O=R) :
  A6 prog 82 [.ref 1000 0] (Ai (JQ roots C A s dec st) Af) (dj roots C A O):=by
 obtain⟨hx,hr,hdl,hcl,hcs,hnl,hnq,hnp,hex,hcx,hcq,hcp_,hcr,hcs_,hkey,hinf0,⟨zU,zV,zW⟩,ih⟩:=hL;have Xh:∀(i:Nat) (h:i<cs.length),cs[i]∈Bk x p:=fun i h=>by simp_all
 have r9:∀(i:Nat) (h:i<cs.length),BF (Q (dec++[cs[i]])):=fun i h=>by grind
 clear hcs
 refine Bi (IU ⟨[9],[(6,1),(7,3),(145,1)],[],[],[],[],[],[],[(60,3),(101,3)],[(300001,500091000),(300026,500091000),(300029,500091000)],[1,5,12,15,17,21,23,24,25,26,28,29,31,32,33]⟩) [(1000,1000),(1001,1001),(1002,1002),(1003,1003),(1004,1004),(500,2000)] rfl BA hm rfl func82 aa4 rfl C4 aa4 rfl (J (show st.length=(st.map Bb).length by simp) (cU [(0,.ref 1000 0)] [(500,.arr 1 (st.map Bb)),(1000,.cells (srM roots C A s dec 500 st.length)),(1001,.tok 6 s.infs.length),(1002,.tok 1 s.drv.length),(1003,.map FM (FO 0 s.infs)),(1004,.dead)] Z1 Z6 (Z (.gen dh 0) (J rfl (A6.imp Te ?_)))));intro v1 g1 q1;have te:=q1.1;have tf:=q1.2;subst te;subst tf;refine J (fun h2=>?_) (fun h2=>?_)
 .exact absurd h2 aa2
 refine cU [(0,.ref 1000 0),(4,vs p),(5,sl Bm (n0::l)),(6,.slice (.id 6 1) [])] [(6,.tok 1 0),(500,.arr 1 (st.map Bb)),(1000,.cells (srM roots C A s dec 500 st.length)),(1001,.tok 6 s.infs.length),(1002,.tok 1 s.drv.length),(1003,.map FM (FO 0 s.infs)),(1004,.dead)] Z4 Z7 (J (fun a ha=>?_) (fun Qq=>?_))
 .have ea:=hC1 a ha;subst ea;refine Z {q:Nat×SS×List Nat×List Sk // q.1<=cs.length/\DC (CF x roots n) x p (n0::l) n0 dec st (cs.drop q.1) q.2.1 q.2.2.1 q.2.2.2=R/\LC x roots q.2.1/\(∀r∈q.2.2.1,r<q.2.1.drv.length)/\q.2.2.1.length<=q.1/\q.2.2.2.length<=q.1} (Z (fun q=>⟨[(0,.ref 1000 0),(4,vs p),(5,sl Bm (n0::l)),(6,.slice (.id 6 1) (q.1.2.2.1.map CA)),(7,.slice (.id 7 3) (q.1.2.2.2.map N)),(32,sl AC cs),(33,G (cs.map AC).length),(34,G q.1.1)],[(6,.tok 1 q.1.2.2.1.length),(7,.tok 3 q.1.2.2.2.length),(500,.arr 1 (st.map Bb)),(1000,.cells (srM roots C A q.1.2.1 dec 500 st.length)),(1001,.tok 6 q.1.2.1.infs.length),(1002,.tok 1 q.1.2.1.drv.length),(1003,.map FM (FO 0 q.1.2.1.infs)),(1004,.dead)],Af⟩) (Z (fun q=>cs.length-q.1.1) (J (Z ⟨(0,s,[],[]),Ak _,hR,hs,fun r h=>(by cases h),Ao _,Ao _⟩ ?_) ?_)))
  .exact⟨Z8,Z8,Fh,A2 aa4⟩
  intro⟨⟨i,S,rs,sk⟩,j1,j2,j3,j4,j5,j6⟩;have j5:rs.length<=i:=j5;have j6:sk.length<=i:=j6;have hw:=j3.dl;have yn:∀t∈S.drv,Rb t:=fun t ht=>by have q:=j3.der.few hx hr t ht;grind
  refine J (fun h3=>?_) (fun h3=>?_)
  .have h3:(i:Int)<((cs.map AC).length:Int):=h3;have n3:=FY h3;refine Z (AC cs[i]) (J (Ht n3) (J rfl (yN (yN (J (fun h4=>?_) (fun h4=>?_))))))
   .have eR:R=⟨0,false,S,dec,st⟩:=by rw[<-j2];exact rf n3 h4
    exact U (.refl _) (Oz (gO.trans eR))
   have eD:=s86 (fF:=150) (caps:=[.cptr (AC cs[i])]) (fun c hc=>by obtain rfl:=AI.1 hc;intro h;rfl) (n0::l) (fun n=>!has n.rq.set cs[i].place) (fun n hn=>s87 n cs[i] (hnq n hn)) hnl;refine Ay (kk (fun n=>!has n.rq.set cs[i].place) (n0::l)) (fun h6=>?_) (fun h6=>?_)
   .refine Al h6 (fun k86 h6=>Al h6 (fun nd h6=>?_));rw[h6.1]at eD;refine C1 (U eD (cU [(0,.ref 1000 0),(4,vs p),(5,sl Bm (n0::l)),(6,.slice (.id 6 1) (rs.map CA)),(7,.slice (.id 7 3) (sk.map N)),(9,.ref 9 0),(10,G (k86:Nat)),(32,sl AC cs),(33,G (cs.map AC).length),(34,G i)] [(6,.tok 1 rs.length),(7,.tok 3 sk.length),(9,.ro (AC cs[i])),(500,.arr 1 (st.map Bb)),(1000,.cells (srM roots C A S dec 500 st.length)),(1001,.tok 6 S.infs.length),(1002,.tok 1 S.drv.length),(1003,.map FM (FO 0 S.infs)),(1004,.dead)] Z10 Z9 (J (fun _=>?_) (fun hf=>absurd (show(0:Int)<=((k86:Nat):Int) by omega) hf))));refine Z (Bm nd) (J (J (show(0:Int)<=((k86:Nat):Int) by omega) (Br h6.2.1)) (J rfl (yN ?_)));have wK:=hex i n3 nd (Bh h6.2.2) aa2;obtain⟨b1,b2,b3⟩:=j3.add (wK.1 S.drv)
    change LC x roots (Bx S nd).2 at b1
    change (Bx S nd).1<(Bx S nd).2.drv.length at b2
    change S.drv.length<=(Bx S nd).2.drv.length at b3
    refine Z (.gen dh 0) (J rfl (A6.imp (s88 roots C A S dec st nd hw.1 hw.2.1 j3.nodup (hnq nd (AA h6.2.1)) (hnp nd (AA h6.2.1))) ?_));intro v7 g7 q7;have q7a:=q7.1;have q7b:=q7.2;subst q7a;subst q7b;refine J (Yh rfl Wk aa3) (J (Ii i Wk) ?_);have YP:S.full=false:=Wk
    have eN:DC (CF x roots n) x p (n0::l) n0 dec st (cs.drop (i+1)) (Bx S nd).2 (rs++[(Bx S nd).1]) sk=R:=by rw[<-zu n3 YP h6.2.2];exact j2
    refine Z ⟨(i+1,(Bx S nd).2,rs++[(Bx S nd).1],sk),FG n3,eN,b1,fun r h=>(Bc.1 h).elim (fun h=>AZ (j4 r h) b3) (fun h=>by simp_all),aa0,Nat.le_succ_of_le j6⟩ ?_;exact⟨Dl cs.length i Wk,⟨X,X,X,⟨(show AV.slice (.id 6 1) (rs.map CA++[[G (((Bx S nd).1:Nat):Int)]])=.slice (.id 6 1) ((rs++[(Bx S nd).1]).map CA) by simp_all),rfl⟩,X,X,X,X,W⟩,⟨⟨(show HO.tok 1 ((rs.map CA).length+([[G (((Bx S nd).1:Nat):Int)]]:C0).length)=.tok 1 (rs++[(Bx S nd).1]).length by simp),rfl⟩,X,X,X,X,X,X,X,W⟩,Fh,A2 aa4⟩
   skip
   rw[h6.1]at eD;refine C1 (U eD (cU [(0,.ref 1000 0),(4,vs p),(5,sl Bm (n0::l)),(6,.slice (.id 6 1) (rs.map CA)),(7,.slice (.id 7 3) (sk.map N)),(9,.ref 9 0),(10,G (-1)),(32,sl AC cs),(33,G (cs.map AC).length),(34,G i)] [(6,.tok 1 rs.length),(7,.tok 3 sk.length),(9,.ro (AC cs[i])),(500,.arr 1 (st.map Bb)),(1000,.cells (srM roots C A S dec 500 st.length)),(1001,.tok 6 S.infs.length),(1002,.tok 1 S.drv.length),(1003,.map FM (FO 0 S.infs)),(1004,.dead)] Z10 Z9 (J (fun h=>absurd h aa3) (fun _=>?_))));refine Z _ (U aa4 (J (v8 (Q dec) aa2) (yN ?_)));have Wa:A7 4 [[vs p,G cs[i].rel.ver.a,G cs[i].rel.ver.b,G cs[i].rel.ver.c]]/\((Q dec).map Ae).length=((Q dec).map Ae).length/\(((Q dec).map Ae).length+([[vs p,G cs[i].rel.ver.a,G cs[i].rel.ver.b,G cs[i].rel.ver.c]]:C0).length)*40<=140737488355328/\((Q dec).map Ae).length+([[vs p,G cs[i].rel.ver.a,G cs[i].rel.ver.b,G cs[i].rel.ver.c]]:C0).length<=9223372036854775807:=⟨⟨rfl,trivial⟩,rfl,aa2,aa2⟩;refine J Wa (J aa4 (cU [(0,.ref 1000 0),(4,vs p),(5,sl Bm (n0::l)),(6,.slice (.id 6 1) (rs.map CA)),(7,.slice (.id 7 3) (sk.map N)),(9,.ref 9 0),(11,.slice (.id 16000 4) ((Q (dec++[cs[i]])).map Ae)),(32,sl AC cs),(33,G (cs.map AC).length),(34,G i)] [(6,.tok 1 rs.length),(7,.tok 3 sk.length),(9,.ro (AC cs[i])),(500,.arr 1 (st.map Bb)),(1000,.cells (srM roots C A S dec 500 st.length)),(1001,.tok 6 S.infs.length),(1002,.tok 1 S.drv.length),(1003,.map FM (FO 0 S.infs)),(1004,.dead),(16000,.tok 4 ((Q (dec++[cs[i]])).map Ae).length)] ⟨X,X,X,X,X,X,⟨(show(.slice (.id 16000 4) (((Q dec).map Ae)++[[vs p,G cs[i].rel.ver.a,G cs[i].rel.ver.b,G cs[i].rel.ver.c]]):AV)=.slice (.id 16000 4) ((Q (dec++[cs[i]])).map Ae) by grind),rfl⟩,X,X,X,W⟩ ⟨X,X,X,X,X,X,X,X,X,⟨(show(.tok 4 (((Q dec).map Ae).length+([[vs p,G cs[i].rel.ver.a,G cs[i].rel.ver.b,G cs[i].rel.ver.c]]:C0).length):HO)=.tok 4 ((Q (dec++[cs[i]])).map Ae).length by simp_all),rfl⟩,W⟩ ?_))
   have LR:=s89 roots C A S dec st (Q (dec++[cs[i]])) hw.2.2 yn (r9 i n3);refine Ay (fH (OL S.drv (Q (dec++[cs[i]])))) (fun F4=>?_) (fun F4=>?_)
   .refine Al F4 (fun ke F4=>?_);have eV:mX S.drv (Q (dec++[cs[i]]))=.tup [G (ke:Nat),I true]:=aa0
    rw[eV]at LR;refine Z (.gen dh 0) (J rfl (A6.imp LR ?_));intro v12 g12 QO;have xw:=QO.1;have xx:=QO.2;subst xw;subst xx;refine yN ?_;have YO:=s69 roots C A S dec st cs[i] Wk (hcr i n3) (hcs_ i n3);refine Ay (fH (CX dec cs[i])) (fun MB=>?_) (fun MB=>?_)
    .refine Al MB (fun nc MB=>?_);have eW:wg (CX dec cs[i])=.tup [.agg (Bm nc),I true]:=by rw[MB];rfl
     rw[eW]at YO;refine Z (.gen dh 0) (J rfl (A6.imp YO ?_));intro v14 g14 q14;have xy:=q14.1;have xz:=q14.2;subst xy;subst xz;refine yN (cU [(0,.ref 1000 0),(4,vs p),(5,sl Bm (n0::l)),(6,.slice (.id 6 1) (rs.map CA)),(7,.slice (.id 7 3) (sk.map N)),(9,.ref 9 0),(11,.slice (.id 16000 4) ((Q (dec++[cs[i]])).map Ae)),(12,G (ke:Nat)),(13,I true),(14,.ref 14 0),(15,I true),(32,sl AC cs),(33,G (cs.map AC).length),(34,G i)] [(6,.tok 1 rs.length),(7,.tok 3 sk.length),(9,.ro (AC cs[i])),(14,.cells (Bm nc)),(500,.arr 1 (st.map Bb)),(1000,.cells (srM roots C A S dec 500 st.length)),(1001,.tok 6 S.infs.length),(1002,.tok 1 S.drv.length),(1003,.map FM (FO 0 S.infs)),(1004,.dead),(16000,.tok 4 ((Q (dec++[cs[i]])).map Ae).length)] ⟨X,X,X,X,X,X,X,X,X,X,X,X,X,X,W⟩ Z11 (cU [(0,.ref 1000 0),(4,vs p),(5,sl Bm (n0::l)),(6,.slice (.id 6 1) (rs.map CA)),(7,.slice (.id 7 3) (sk.map N)),(9,.ref 9 0),(12,G (ke:Nat)),(32,sl AC cs),(33,G (cs.map AC).length),(34,G i)] [(6,.tok 1 rs.length),(7,.tok 3 sk.length),(9,.ro (AC cs[i])),(500,.arr 1 (st.map Bb)),(1000,.cells (srM roots C A S dec 500 st.length)),(1001,.tok 6 S.infs.length),(1002,.tok 1 S.drv.length),(1003,.map FM (FO 0 S.infs)),(1004,.dead)] Z10 Z9 (Z (F (Ei S ke)) (J (J (show(0:Int)<=((ke:Nat):Int) by omega) (Br (ES (K7 F4).1))) (J rfl ?_)))));have YP:S.full=false:=Wk
     have cY:ke<S.drv.length:=(K7 F4).1;have gY:=j3.der.few hx hr;refine Ay (Bt (DN (Ei S ke) p)) (fun Jb=>?_) (fun Jb=>?_)
     .refine C1 (U (cb Jb (qF (Ei S ke) p (Gr (gY _ (AA (ES cY)))))) (cU [(0,.ref 1000 0),(4,vs p),(5,sl Bm (n0::l)),(6,.slice (.id 6 1) (rs.map CA)),(7,.slice (.id 7 3) (sk.map N)),(9,.ref 9 0),(12,G (ke:Nat)),(32,sl AC cs),(33,G (cs.map AC).length),(34,G i)] [(6,.tok 1 rs.length),(7,.tok 3 sk.length),(9,.ro (AC cs[i])),(500,.arr 1 (st.map Bb)),(1000,.cells (srM roots C A S dec 500 st.length)),(1001,.tok 6 S.infs.length),(1002,.tok 1 S.drv.length),(1003,.map FM (FO 0 S.infs)),(1004,.dead)] Z10 Z9 (J (Yh rfl Wk aa3) (J (Yh rfl Wk aa3) (J (Ii i Wk) ?_)))));have eA:=(Yn (rec:=CF x roots n) (x:=x) (p:=p) (n0:=n0) (st:=st) (rs:=rs) (sk:=sk) n3 YP h6.2 F4);have eN:DC (CF x roots n) x p (n0::l) n0 dec st (cs.drop (i+1)) S (rs++[ke]) (sk++[(⟨p,cs[i].place,(ke:Nat)⟩:Sk)])=R:=by rw[<-X8 (c:=cs[i]) Jb,<-eA];exact j2
      refine Z ⟨(i+1,S,rs++[ke],sk++[(⟨p,cs[i].place,(ke:Nat)⟩:Sk)]),FG n3,eN,j3,fun r h=>(Bc.1 h).elim ((fun r h=>j4 r h) r) (fun h=>by simp_all),aa0,aa0⟩ ?_;exact⟨Dl cs.length i Wk,⟨X,X,X,⟨(show AV.slice (.id 6 1) (rs.map CA++[[G ((ke:Nat):Int)]])=.slice (.id 6 1) ((rs++[ke]).map CA) by simp_all),rfl⟩,⟨(show AV.slice (.id 7 3) (sk.map N++[[vs p,G cs[i].place,G ((ke:Nat):Int)]])=.slice (.id 7 3) ((sk++[(⟨p,cs[i].place,(ke:Nat)⟩:Sk)]).map N) by simp_all),rfl⟩,X,X,X,W⟩,⟨⟨(show HO.tok 1 ((rs.map CA).length+([[G ((ke:Nat):Int)]]:C0).length)=.tok 1 (rs++[ke]).length by simp),rfl⟩,⟨(show HO.tok 3 ((sk.map N).length+([[vs p,G cs[i].place,G ((ke:Nat):Int)]]:C0).length)=.tok 3 (sk++[(⟨p,cs[i].place,(ke:Nat)⟩:Sk)]).length by simp),rfl⟩,X,X,X,X,X,X,W⟩,Fh,A2 aa4⟩
     refine C1 (U (cb Jb (qF (Ei S ke) p (Gr (gY _ (AA (ES cY)))))) (cU [(12,G (ke:Nat))] [(500,.arr 1 (st.map Bb)),(1000,.cells (srM roots C A S dec 500 st.length)),(1001,.tok 6 S.infs.length),(1002,.tok 1 S.drv.length),(1003,.map FM (FO 0 S.infs)),(1004,.dead)] Z1 Z6 ?_))
     have eA:=(Yn (rec:=CF x roots n) (x:=x) (p:=p) (n0:=n0) (st:=st) (rs:=rs) (sk:=sk) n3 YP h6.2 F4);have eR:R=⟨ke,false,S,dec,st⟩:=by rw[<-j2];rw[eA];exact gn Jb
     exact U (.refl _) (Oz (gO.trans eR))
    skip
    have eW:wg (CX dec cs[i])=.tup [.agg [vs ⟨#[]⟩,BY,vs ⟨#[]⟩,G 0,G 0],I false]:=by rw[MB];rfl
    rw[eW]at YO;refine Z (.gen dh 0) (J rfl (A6.imp YO ?_));intro v20 g20 q20;have Ag1:=q20.1;have Ag2:=q20.2;subst Ag1;subst Ag2;refine yN (cU [(0,.ref 1000 0),(4,vs p),(5,sl Bm (n0::l)),(6,.slice (.id 6 1) (rs.map CA)),(7,.slice (.id 7 3) (sk.map N)),(9,.ref 9 0),(11,.slice (.id 16000 4) ((Q (dec++[cs[i]])).map Ae)),(12,G (ke:Nat)),(13,I true),(14,.ref 14 0),(15,I false),(32,sl AC cs),(33,G (cs.map AC).length),(34,G i)] [(6,.tok 1 rs.length),(7,.tok 3 sk.length),(9,.ro (AC cs[i])),(14,.cells [vs ⟨#[]⟩,BY,vs ⟨#[]⟩,G 0,G 0]),(500,.arr 1 (st.map Bb)),(1000,.cells (srM roots C A S dec 500 st.length)),(1001,.tok 6 S.infs.length),(1002,.tok 1 S.drv.length),(1003,.map FM (FO 0 S.infs)),(1004,.dead),(16000,.tok 4 ((Q (dec++[cs[i]])).map Ae).length)] ⟨X,X,X,X,X,X,X,X,X,X,X,X,X,X,W⟩ Z11 (cU [(0,.ref 1000 0),(4,vs p),(5,sl Bm (n0::l)),(6,.slice (.id 6 1) (rs.map CA)),(7,.slice (.id 7 3) (sk.map N)),(9,.ref 9 0),(12,G (ke:Nat)),(32,sl AC cs),(33,G (cs.map AC).length),(34,G i)] [(6,.tok 1 rs.length),(7,.tok 3 sk.length),(9,.ro (AC cs[i])),(500,.arr 1 (st.map Bb)),(1000,.cells (srM roots C A S dec 500 st.length)),(1001,.tok 6 S.infs.length),(1002,.tok 1 S.drv.length),(1003,.map FM (FO 0 S.infs)),(1004,.dead)] Z10 Z9 (Z (F (Ei S ke)) (J (J (show(0:Int)<=((ke:Nat):Int) by omega) (Br (ES (K7 F4).1))) (J rfl ?_)))));have YP:S.full=false:=Wk
    have cY:ke<S.drv.length:=(K7 F4).1;have gY:=j3.der.few hx hr;refine Ay (Bt (DN (Ei S ke) p)) (fun YK=>?_) (fun YK=>?_)
    .refine C1 (U (cb YK (qF (Ei S ke) p (Gr (gY _ (AA (ES cY)))))) (cU [(0,.ref 1000 0),(4,vs p),(5,sl Bm (n0::l)),(6,.slice (.id 6 1) (rs.map CA)),(7,.slice (.id 7 3) (sk.map N)),(9,.ref 9 0),(12,G (ke:Nat)),(32,sl AC cs),(33,G (cs.map AC).length),(34,G i)] [(6,.tok 1 rs.length),(7,.tok 3 sk.length),(9,.ro (AC cs[i])),(500,.arr 1 (st.map Bb)),(1000,.cells (srM roots C A S dec 500 st.length)),(1001,.tok 6 S.infs.length),(1002,.tok 1 S.drv.length),(1003,.map FM (FO 0 S.infs)),(1004,.dead)] Z10 Z9 (J (Yh rfl Wk aa3) (J (Yh rfl Wk aa3) (J (Ii i Wk) ?_)))));have eA:=(Yn (rec:=CF x roots n) (x:=x) (p:=p) (n0:=n0) (st:=st) (rs:=rs) (sk:=sk) n3 YP h6.2 F4);have eN:DC (CF x roots n) x p (n0::l) n0 dec st (cs.drop (i+1)) S (rs++[ke]) (sk++[(⟨p,cs[i].place,(ke:Nat)⟩:Sk)])=R:=by rw[<-X8 (c:=cs[i]) YK,<-eA];exact j2
     refine Z ⟨(i+1,S,rs++[ke],sk++[(⟨p,cs[i].place,(ke:Nat)⟩:Sk)]),FG n3,eN,j3,fun r h=>(Bc.1 h).elim ((fun r h=>j4 r h) r) (fun h=>by simp_all),aa0,aa0⟩ ?_;exact⟨Dl cs.length i Wk,⟨X,X,X,⟨(show AV.slice (.id 6 1) (rs.map CA++[[G ((ke:Nat):Int)]])=.slice (.id 6 1) ((rs++[ke]).map CA) by simp_all),rfl⟩,⟨(show AV.slice (.id 7 3) (sk.map N++[[vs p,G cs[i].place,G ((ke:Nat):Int)]])=.slice (.id 7 3) ((sk++[(⟨p,cs[i].place,(ke:Nat)⟩:Sk)]).map N) by simp_all),rfl⟩,X,X,X,W⟩,⟨⟨(show HO.tok 1 ((rs.map CA).length+([[G ((ke:Nat):Int)]]:C0).length)=.tok 1 (rs++[ke]).length by simp),rfl⟩,⟨(show HO.tok 3 ((sk.map N).length+([[vs p,G cs[i].place,G ((ke:Nat):Int)]]:C0).length)=.tok 3 (sk++[(⟨p,cs[i].place,(ke:Nat)⟩:Sk)]).length by simp),rfl⟩,X,X,X,X,X,X,W⟩,Fh,A2 aa4⟩
    refine C1 (U (cb YK (qF (Ei S ke) p (Gr (gY _ (AA (ES cY)))))) (cU [(12,G (ke:Nat))] [(500,.arr 1 (st.map Bb)),(1000,.cells (srM roots C A S dec 500 st.length)),(1001,.tok 6 S.infs.length),(1002,.tok 1 S.drv.length),(1003,.map FM (FO 0 S.infs)),(1004,.dead)] Z1 Z6 ?_))
    have eA:=(Yn (rec:=CF x roots n) (x:=x) (p:=p) (n0:=n0) (st:=st) (rs:=rs) (sk:=sk) n3 YP h6.2 F4);have eR:R=⟨ke,false,S,dec,st⟩:=by rw[<-j2];rw[eA];exact gn YK
    exact U (.refl _) (Oz (gO.trans eR))
   skip
   have eV:mX S.drv (Q (dec++[cs[i]]))=.tup [G 0,I false]:=aa0
   rw[eV]at LR;refine Z (.gen dh 0) (J rfl (A6.imp LR ?_));intro v26 g26 q26;have Ag3:=q26.1;have Ag4:=q26.2;subst Ag3;subst Ag4;refine yN ?_;have YO:=s69 roots C A S dec st cs[i] Wk (hcr i n3) (hcs_ i n3);refine Ay (fH (CX dec cs[i])) (fun MR=>?_) (fun MR=>?_)
   .refine Al MR (fun nc MR=>?_);have eW:wg (CX dec cs[i])=.tup [.agg (Bm nc),I true]:=by rw[MR];rfl
    rw[eW]at YO;refine Z (.gen dh 0) (J rfl (A6.imp YO ?_));intro v28 g28 q28;have Ag5:=q28.1;have Ag6:=q28.2;subst Ag5;subst Ag6;refine yN (cU [(0,.ref 1000 0),(4,vs p),(5,sl Bm (n0::l)),(6,.slice (.id 6 1) (rs.map CA)),(7,.slice (.id 7 3) (sk.map N)),(9,.ref 9 0),(11,.slice (.id 16000 4) ((Q (dec++[cs[i]])).map Ae)),(12,G 0),(13,I false),(14,.ref 14 0),(15,I true),(32,sl AC cs),(33,G (cs.map AC).length),(34,G i)] [(6,.tok 1 rs.length),(7,.tok 3 sk.length),(9,.ro (AC cs[i])),(14,.cells (Bm nc)),(500,.arr 1 (st.map Bb)),(1000,.cells (srM roots C A S dec 500 st.length)),(1001,.tok 6 S.infs.length),(1002,.tok 1 S.drv.length),(1003,.map FM (FO 0 S.infs)),(1004,.dead),(16000,.tok 4 ((Q (dec++[cs[i]])).map Ae).length)] ⟨X,X,X,X,X,X,X,X,X,X,X,X,X,X,W⟩ Z11 (yN ?_));have wK:=hcx i n3 nc MR;obtain⟨b1,b2,b3⟩:=j3.add (wK.1 S.drv)
    change LC x roots (Bx S nc).2 at b1
    change (Bx S nc).1<(Bx S nc).2.drv.length at b2
    change S.drv.length<=(Bx S nc).2.drv.length at b3
    refine Z (.gen dh 0) (J rfl (A6.imp (s88 roots C A S dec st nc hw.1 hw.2.1 j3.nodup (hcq i n3 nc (LH MR).1) (hcp_ i n3 nc (LH MR).1)) ?_));intro v29 g29 q29;have Ag7:=q29.1;have Ag8:=q29.2;subst Ag7;subst Ag8;refine cU [(0,.ref 1000 0),(4,vs p),(5,sl Bm (n0::l)),(6,.slice (.id 6 1) (rs.map CA)),(7,.slice (.id 7 3) (sk.map N)),(9,.ref 9 0),(12,G ((Bx S nc).1:Nat)),(32,sl AC cs),(33,G (cs.map AC).length),(34,G i)] [(6,.tok 1 rs.length),(7,.tok 3 sk.length),(9,.ro (AC cs[i])),(500,.arr 1 (st.map Bb)),(1000,.cells [sl Ac roots,.cmap Ca C,.cmap Ca A,.slice (.id 1001 6) ((Bx S nc).2.infs.map AG),.slice (.id 1002 1) ((Bx S nc).2.drv.map F),.mref 1003,I (Bx S nc).2.full,sl AC dec,sl Ae (Q dec),.msl 500 st.length]),(1001,.tok 6 (Bx S nc).2.infs.length),(1002,.tok 1 (Bx S nc).2.drv.length),(1003,.map FM (FO 0 (Bx S nc).2.infs)),(1004,.dead)] Z10 Z9 (Z (F (Ei (Bx S nc).2 (Bx S nc).1)) (J (J (show(0:Int)<=(((Bx S nc).1:Nat):Int) by omega) (Br (ES b2))) (J rfl ?_)));have YP:S.full=false:=Wk
    have cY:(Bx S nc).1<(Bx S nc).2.drv.length:=b2;have gY:=b1.der.few hx hr;refine Ay (Bt (DN (Ei (Bx S nc).2 (Bx S nc).1) p)) (fun Xf=>?_) (fun Xf=>?_)
    .refine C1 (U (cb Xf (qF (Ei (Bx S nc).2 (Bx S nc).1) p (Gr (gY _ (AA (ES cY)))))) (cU [(0,.ref 1000 0),(4,vs p),(5,sl Bm (n0::l)),(6,.slice (.id 6 1) (rs.map CA)),(7,.slice (.id 7 3) (sk.map N)),(9,.ref 9 0),(12,G ((Bx S nc).1:Nat)),(32,sl AC cs),(33,G (cs.map AC).length),(34,G i)] [(6,.tok 1 rs.length),(7,.tok 3 sk.length),(9,.ro (AC cs[i])),(500,.arr 1 (st.map Bb)),(1000,.cells [sl Ac roots,.cmap Ca C,.cmap Ca A,.slice (.id 1001 6) ((Bx S nc).2.infs.map AG),.slice (.id 1002 1) ((Bx S nc).2.drv.map F),.mref 1003,I (Bx S nc).2.full,sl AC dec,sl Ae (Q dec),.msl 500 st.length]),(1001,.tok 6 (Bx S nc).2.infs.length),(1002,.tok 1 (Bx S nc).2.drv.length),(1003,.map FM (FO 0 (Bx S nc).2.infs)),(1004,.dead)] Z10 Z9 (J (Yh rfl Wk aa3) (J (Yh rfl Wk aa3) (J (Ii i Wk) ?_)))));have eA:=(ao (rec:=CF x roots n) (x:=x) (p:=p) (n0:=n0) (st:=st) (rs:=rs) (sk:=sk) n3 YP h6.2 F4 MR);have eN:DC (CF x roots n) x p (n0::l) n0 dec st (cs.drop (i+1)) (Bx S nc).2 (rs++[(Bx S nc).1]) (sk++[(⟨p,cs[i].place,((Bx S nc).1:Nat)⟩:Sk)])=R:=by rw[<-X8 (c:=cs[i]) Xf,<-eA];exact j2
     refine Z ⟨(i+1,(Bx S nc).2,rs++[(Bx S nc).1],sk++[(⟨p,cs[i].place,((Bx S nc).1:Nat)⟩:Sk)]),FG n3,eN,b1,fun r h=>(Bc.1 h).elim ((fun r h=>AZ (j4 r h) b3) r) (fun h=>by simp_all),aa0,aa0⟩ ?_;exact⟨Dl cs.length i Wk,⟨X,X,X,⟨(show AV.slice (.id 6 1) (rs.map CA++[[G (((Bx S nc).1:Nat):Int)]])=.slice (.id 6 1) ((rs++[(Bx S nc).1]).map CA) by simp_all),rfl⟩,⟨(show AV.slice (.id 7 3) (sk.map N++[[vs p,G cs[i].place,G (((Bx S nc).1:Nat):Int)]])=.slice (.id 7 3) ((sk++[(⟨p,cs[i].place,((Bx S nc).1:Nat)⟩:Sk)]).map N) by simp_all),rfl⟩,X,X,X,W⟩,⟨⟨(show HO.tok 1 ((rs.map CA).length+([[G (((Bx S nc).1:Nat):Int)]]:C0).length)=.tok 1 (rs++[(Bx S nc).1]).length by simp),rfl⟩,⟨(show HO.tok 3 ((sk.map N).length+([[vs p,G cs[i].place,G (((Bx S nc).1:Nat):Int)]]:C0).length)=.tok 3 (sk++[(⟨p,cs[i].place,((Bx S nc).1:Nat)⟩:Sk)]).length by simp),rfl⟩,X,X,X,X,X,X,W⟩,Fh,A2 aa4⟩
    refine C1 (U (cb Xf (qF (Ei (Bx S nc).2 (Bx S nc).1) p (Gr (gY _ (AA (ES cY)))))) (cU [(12,G ((Bx S nc).1:Nat))] [(500,.arr 1 (st.map Bb)),(1000,.cells [sl Ac roots,.cmap Ca C,.cmap Ca A,.slice (.id 1001 6) ((Bx S nc).2.infs.map AG),.slice (.id 1002 1) ((Bx S nc).2.drv.map F),.mref 1003,I (Bx S nc).2.full,sl AC dec,sl Ae (Q dec),.msl 500 st.length]),(1001,.tok 6 (Bx S nc).2.infs.length),(1002,.tok 1 (Bx S nc).2.drv.length),(1003,.map FM (FO 0 (Bx S nc).2.infs)),(1004,.dead)] Z1 Z6 ?_))
    have eA:=(ao (rec:=CF x roots n) (x:=x) (p:=p) (n0:=n0) (st:=st) (rs:=rs) (sk:=sk) n3 YP h6.2 F4 MR);have eR:R=⟨(Bx S nc).1,false,(Bx S nc).2,dec,st⟩:=by rw[<-j2];rw[eA];exact gn Xf
    exact U (.refl _) (Oz (gO.trans eR))
   skip
   have eW:wg (CX dec cs[i])=.tup [.agg [vs ⟨#[]⟩,BY,vs ⟨#[]⟩,G 0,G 0],I false]:=by rw[MR];rfl
   rw[eW]at YO;refine Z (.gen dh 0) (J rfl (A6.imp YO ?_));intro v35 g35 q35;have Agd:=q35.1;have Age:=q35.2;subst Agd;subst Age;refine yN (cU [(0,.ref 1000 0),(4,vs p),(5,sl Bm (n0::l)),(6,.slice (.id 6 1) (rs.map CA)),(7,.slice (.id 7 3) (sk.map N)),(9,.ref 9 0),(11,.slice (.id 16000 4) ((Q (dec++[cs[i]])).map Ae)),(12,G 0),(13,I false),(14,.ref 14 0),(15,I false),(32,sl AC cs),(33,G (cs.map AC).length),(34,G i)] [(6,.tok 1 rs.length),(7,.tok 3 sk.length),(9,.ro (AC cs[i])),(14,.cells [vs ⟨#[]⟩,BY,vs ⟨#[]⟩,G 0,G 0]),(500,.arr 1 (st.map Bb)),(1000,.cells (srM roots C A S dec 500 st.length)),(1001,.tok 6 S.infs.length),(1002,.tok 1 S.drv.length),(1003,.map FM (FO 0 S.infs)),(1004,.dead),(16000,.tok 4 ((Q (dec++[cs[i]])).map Ae).length)] ⟨X,X,X,X,X,X,X,X,X,X,X,X,X,X,W⟩ Z11 (J aa4 (cU [(0,.ref 1000 0),(4,vs p),(5,sl Bm (n0::l)),(6,.slice (.id 6 1) (rs.map CA)),(7,.slice (.id 7 3) (sk.map N)),(9,.ref 9 0),(11,.slice (.id 16000 4) ((Q (dec++[cs[i]])).map Ae)),(16,sl AC dec),(17,sl Ae (Q dec)),(32,sl AC cs),(33,G (cs.map AC).length),(34,G i)] [(6,.tok 1 rs.length),(7,.tok 3 sk.length),(9,.ro (AC cs[i])),(500,.arr 1 (st.map Bb)),(1000,.cells (srM roots C A S dec 500 st.length)),(1001,.tok 6 S.infs.length),(1002,.tok 1 S.drv.length),(1003,.map FM (FO 0 S.infs)),(1004,.dead),(16000,.tok 4 ((Q (dec++[cs[i]])).map Ae).length)] Z12 Z10 (Z _ (U aa4 (J (AbS dec Wk) (yN ?_)))))));have b36:A7 10 [(AC cs[i])]/\(dec.map AC).length=(dec.map AC).length/\((dec.map AC).length+([(AC cs[i])]:C0).length)*128<=140737488355328/\(dec.map AC).length+([(AC cs[i])]:C0).length<=9223372036854775807:=⟨⟨rfl,trivial⟩,rfl,aa2,aa0⟩;refine J b36 (yN (yN (J aa4 ?_)));have b37:A7 1 [[sl N sk]]/\(st.map Bb).length=st.length/\((st.map Bb).length+([[sl N sk]]:C0).length)*24<=140737488355328/\(st.map Bb).length+([[sl N sk]]:C0).length<=9223372036854775807:=⟨⟨rfl,trivial⟩,aa0,aa2,aa0⟩;refine J b37 (yN (cU [(0,.ref 1000 0),(4,vs p),(5,sl Bm (n0::l)),(6,.slice (.id 6 1) (rs.map CA)),(7,.slice (.id 7 3) (sk.map N)),(9,.ref 9 0),(16,sl AC dec),(17,sl Ae (Q dec)),(32,sl AC cs),(33,G (cs.map AC).length),(34,G i)] [(6,.tok 1 rs.length),(7,.tok 3 sk.length),(9,.ro (AC cs[i])),(500,.arr 1 ((st.map Bb)++[[sl N sk]])),(1000,.cells [sl Ac roots,.cmap Ca C,.cmap Ca A,.slice (.id 1001 6) (S.infs.map AG),.slice (.id 1002 1) (S.drv.map F),.mref 1003,I S.full,.slice (.id 20100 10) ((dec.map AC)++[(AC cs[i])]),.slice (.id 16000 4) ((Q (dec++[cs[i]])).map Ae),.msl 500 ((st.map Bb).length+([[sl N sk]]:C0).length)]),(1001,.tok 6 S.infs.length),(1002,.tok 1 S.drv.length),(1003,.map FM (FO 0 S.infs)),(1004,.dead),(16000,.tok 4 ((Q (dec++[cs[i]])).map Ae).length),(20100,.tok 10 ((dec.map AC).length+([(AC cs[i])]:C0).length))] Z11 Z11 (cU [(0,.ref 1000 0),(4,vs p),(5,sl Bm (n0::l)),(6,.slice (.id 6 1) (rs.map CA)),(7,.slice (.id 7 3) (sk.map N)),(9,.ref 9 0),(16,sl AC dec),(17,sl Ae (Q dec)),(32,sl AC cs),(33,G (cs.map AC).length),(34,G i)] [(6,.tok 1 rs.length),(7,.tok 3 sk.length),(9,.ro (AC cs[i])),(500,.arr 1 ((st++[sk]).map Bb)),(1000,.cells [sl Ac roots,.cmap Ca C,.cmap Ca A,.slice (.id 1001 6) (S.infs.map AG),.slice (.id 1002 1) (S.drv.map F),.mref 1003,I S.full,.slice (.id 20100 10) ((dec++[cs[i]]).map AC),.slice (.id 16000 4) ((Q (dec++[cs[i]])).map Ae),.msl 500 (st++[sk]).length]),(1001,.tok 6 S.infs.length),(1002,.tok 1 S.drv.length),(1003,.map FM (FO 0 S.infs)),(1004,.dead),(16000,.tok 4 ((Q (dec++[cs[i]])).map Ae).length),(20100,.tok 10 ((dec++[cs[i]]).map AC).length)] Z11 ⟨X,X,X,⟨(show(.arr 1 ((st.map Bb)++[[sl N sk]]):HO)=.arr 1 ((st++[sk]).map Bb) by simp),rfl⟩,⟨(show(.cells [sl Ac roots,.cmap Ca C,.cmap Ca A,.slice (.id 1001 6) (S.infs.map AG),.slice (.id 1002 1) (S.drv.map F),.mref 1003,I S.full,.slice (.id 20100 10) ((dec.map AC)++[(AC cs[i])]),.slice (.id 16000 4) ((Q (dec++[cs[i]])).map Ae),.msl 500 ((st.map Bb).length+([[sl N sk]]:C0).length)]:HO)=.cells [sl Ac roots,.cmap Ca C,.cmap Ca A,.slice (.id 1001 6) (S.infs.map AG),.slice (.id 1002 1) (S.drv.map F),.mref 1003,I S.full,.slice (.id 20100 10) ((dec++[cs[i]]).map AC),.slice (.id 16000 4) ((Q (dec++[cs[i]])).map Ae),.msl 500 (st++[sk]).length] by simp),rfl⟩,X,X,X,X,X,⟨(show(.tok 10 ((dec.map AC).length+([(AC cs[i])]:C0).length):HO)=.tok 10 ((dec++[cs[i]]).map AC).length by simp),rfl⟩,W⟩ ?_)))
   have GJ:cn dec (n0::l) cs[i]=true:=I0.2 ⟨fun n hn=>by grind,MR⟩;have nZ:=ih cs[i] (Xh i n3) GJ S (st++[sk]) aa0 j3 Wk;refine Al (show ∃o,o=CF x roots n (dec++[cs[i]]) S (st++[sk])from⟨_,rfl⟩) (fun o ho=>?_);rw[<-ho]at nZ;have ZK:A6 prog 82 [.ref 1000 0] (Ai (JQ roots C A S (dec++[cs[i]]) (st++[sk])) Af) (fun r h'=>r=.tup [G (o.res:Nat),I o.found]/\h'=Ai (srE roots C A o.ss o.dec o.stack) Af):=nZ.1;have hrs:=nZ.2.1;have hrn:=nZ.2.2.1;refine Ay (Bt o.found) (fun Tt=>?_) (fun Tt=>?_)
   .skip
    rw[Tt]at ZK;refine Z (.gen dh 1) (J rfl (A6.imp ZK ?_));intro v39 g39 q39;have Agf:=q39.1;have Agg:=q39.2;subst Agf;subst Agg;refine cU [(0,.ref 1000 0),(4,vs p),(5,sl Bm (n0::l)),(6,.slice (.id 6 1) (rs.map CA)),(7,.slice (.id 7 3) (sk.map N)),(9,.ref 9 0),(12,G (o.res:Nat)),(16,sl AC dec),(17,sl Ae (Q dec)),(18,I true),(32,sl AC cs),(33,G (cs.map AC).length),(34,G i)] [(6,.tok 1 rs.length),(7,.tok 3 sk.length),(9,.ro (AC cs[i])),(1000,.cells (srM roots C A o.ss o.dec 22200 o.stack.length)),(1001,.tok 6 o.ss.infs.length),(1002,.tok 1 o.ss.drv.length),(1003,.map FM (FO 0 o.ss.infs)),(1004,.dead),(22200,.arr 1 (o.stack.map Bb))] Z13 Z9 (J (show o.stack.length=(o.stack.map Bb).length by simp) (cU [] [(500,.arr 1 (o.stack.map Bb)),(1000,.cells (srM roots C A o.ss o.dec 500 o.stack.length)),(1001,.tok 6 o.ss.infs.length),(1002,.tok 1 o.ss.drv.length),(1003,.map FM (FO 0 o.ss.infs)),(1004,.dead)] W Z6 ?_))
    have YP:S.full=false:=Wk
    have eR:R=⟨0,true,o.ss,o.dec,o.stack⟩:=by rw[<-j2];rw[Yo (sk:=sk) n3 YP h6.2 F4 MR ho,A1 Tt]
    exact U (.refl _) (Oz (gO.trans eR))
   skip
   rw[Tt]at ZK;have hrk:=nZ.2.2.2 Tt;have Xk:o.stack.length=st.length+1:=aa0
   refine Z (.gen dh 1) (J rfl (A6.imp ZK ?_));intro v41 g41 q41;have Agh:=q41.1;have Agi:=q41.2;subst Agh;subst Agi;refine cU [(0,.ref 1000 0),(4,vs p),(5,sl Bm (n0::l)),(6,.slice (.id 6 1) (rs.map CA)),(7,.slice (.id 7 3) (sk.map N)),(9,.ref 9 0),(12,G (o.res:Nat)),(16,sl AC dec),(17,sl Ae (Q dec)),(18,I false),(32,sl AC cs),(33,G (cs.map AC).length),(34,G i)] [(6,.tok 1 rs.length),(7,.tok 3 sk.length),(9,.ro (AC cs[i])),(1000,.cells (srM roots C A o.ss o.dec 22200 o.stack.length)),(1001,.tok 6 o.ss.infs.length),(1002,.tok 1 o.ss.drv.length),(1003,.map FM (FO 0 o.ss.infs)),(1004,.dead),(22200,.arr 1 (o.stack.map Bb))] Z13 Z9 (yN (yN (cU [(0,.ref 1000 0),(4,vs p),(5,sl Bm (n0::l)),(6,.slice (.id 6 1) (rs.map CA)),(7,.slice (.id 7 3) (sk.map N)),(9,.ref 9 0),(12,G (o.res:Nat)),(32,sl AC cs),(33,G (cs.map AC).length),(34,G i)] [(6,.tok 1 rs.length),(7,.tok 3 sk.length),(9,.ro (AC cs[i])),(1000,.cells (srM roots C A o.ss dec 22200 o.stack.length)),(1001,.tok 6 o.ss.infs.length),(1002,.tok 1 o.ss.drv.length),(1003,.map FM (FO 0 o.ss.infs)),(1004,.dead),(22200,.arr 1 (o.stack.map Bb))] Z10 Z9 (J (by show Au ((o.stack.length:Int)-(1:Int));unfold Au;omega) (J ⟨(show o.stack.length=(o.stack.map Bb).length by simp),(show(0:Int)<=o.stack.length-1 by omega),(show(o.stack.length-1:Int)<=((o.stack.map Bb).length:Nat) by grind)⟩ (yN (J aa4 (J (show(o.stack.length-1:Int).toNat=(((o.stack.map Bb).take (o.stack.length-1:Int).toNat):C0).length by simp) ?_))))))));have AkZ:((o.stack.map Bb).take ((o.stack.length:Int)-1).toNat)=st.map Bb/\((o.stack.length:Int)-1).toNat=st.length:=AaH hrk;refine cU [(0,.ref 1000 0),(4,vs p),(5,sl Bm (n0::l)),(6,.slice (.id 6 1) (rs.map CA)),(7,.slice (.id 7 3) (sk.map N)),(9,.ref 9 0),(12,G (o.res:Nat)),(32,sl AC cs),(33,G (cs.map AC).length),(34,G i)] [(6,.tok 1 rs.length),(7,.tok 3 sk.length),(9,.ro (AC cs[i])),(500,.arr 1 (st.map Bb)),(1000,.cells (srM roots C A o.ss dec 500 st.length)),(1001,.tok 6 o.ss.infs.length),(1002,.tok 1 o.ss.drv.length),(1003,.map FM (FO 0 o.ss.infs)),(1004,.dead)] Z10 ⟨X,X,X,⟨(show(.arr 1 ((o.stack.map Bb).take (o.stack.length-1:Int).toNat):HO)=.arr 1 (st.map Bb) by simp_all),rfl⟩,⟨(show(.cells (srM roots C A o.ss dec 500 (o.stack.length-1:Int).toNat):HO)=.cells (srM roots C A o.ss dec 500 st.length) by simp_all),rfl⟩,X,X,X,X,W⟩ ?_
   refine J (fun h42=>?_) (fun h42=>?_)
   .have YP:S.full=false:=Wk
    have eR:R=⟨0,false,o.ss,dec,st⟩:=by rw[<-j2];rw[Yo (sk:=sk) n3 YP h6.2 F4 MR ho,AL aa0,A1 h42]
    exact U (.refl _) (Oz (gO.trans eR))
   have OW:o.ss.full=false:=h42;refine cU [(0,.ref 1000 0),(4,vs p),(5,sl Bm (n0::l)),(6,.slice (.id 6 1) (rs.map CA)),(7,.slice (.id 7 3) (sk.map N)),(9,.ref 9 0),(12,G (o.res:Nat)),(32,sl AC cs),(33,G (cs.map AC).length),(34,G i)] [(6,.tok 1 rs.length),(7,.tok 3 sk.length),(9,.ro (AC cs[i])),(500,.arr 1 (st.map Bb)),(1000,.cells (srM roots C A o.ss dec 500 st.length)),(1001,.tok 6 o.ss.infs.length),(1002,.tok 1 o.ss.drv.length),(1003,.map FM (FO 0 o.ss.infs)),(1004,.dead)] Z10 Z9 (Z (F (Ei o.ss o.res)) (J (J (show(0:Int)<=((o.res:Nat):Int) by omega) (Br (ES (hrn.2 Tt OW)))) (J rfl ?_)));have YP:S.full=false:=Wk
   have cY:o.res<o.ss.drv.length:=(hrn.2 Tt OW);have gY:=hrs.der.few hx hr;refine Ay (Bt (DN (Ei o.ss o.res) p)) (fun rP=>?_) (fun rP=>?_)
   .refine C1 (U (cb rP (qF (Ei o.ss o.res) p (Gr (gY _ (AA (ES cY)))))) (cU [(0,.ref 1000 0),(4,vs p),(5,sl Bm (n0::l)),(6,.slice (.id 6 1) (rs.map CA)),(7,.slice (.id 7 3) (sk.map N)),(9,.ref 9 0),(12,G (o.res:Nat)),(32,sl AC cs),(33,G (cs.map AC).length),(34,G i)] [(6,.tok 1 rs.length),(7,.tok 3 sk.length),(9,.ro (AC cs[i])),(500,.arr 1 (st.map Bb)),(1000,.cells (srM roots C A o.ss dec 500 st.length)),(1001,.tok 6 o.ss.infs.length),(1002,.tok 1 o.ss.drv.length),(1003,.map FM (FO 0 o.ss.infs)),(1004,.dead)] Z10 Z9 (J (Yh rfl Wk aa3) (J (Yh rfl Wk aa3) (J (Ii i Wk) ?_)))));have eA:=(Yo (rec:=CF x roots n) (x:=x) (p:=p) (n0:=n0) (st:=st) (rs:=rs) (sk:=sk) n3 YP h6.2 F4 MR ho);rw[AL aa0,AL aa0]at eA;have eN:DC (CF x roots n) x p (n0::l) n0 dec st (cs.drop (i+1)) o.ss (rs++[o.res]) (sk++[(⟨p,cs[i].place,(o.res:Nat)⟩:Sk)])=R:=by rw[<-X8 (c:=cs[i]) rP,<-eA];exact j2
    refine Z ⟨(i+1,o.ss,rs++[o.res],sk++[(⟨p,cs[i].place,(o.res:Nat)⟩:Sk)]),FG n3,eN,hrs,fun r h=>(Bc.1 h).elim ((fun r h=>AZ (j4 r h) hrn.1) r) (fun h=>by simp_all),aa0,aa0⟩ ?_;exact⟨Dl cs.length i Wk,⟨X,X,X,⟨(show AV.slice (.id 6 1) (rs.map CA++[[G ((o.res:Nat):Int)]])=.slice (.id 6 1) ((rs++[o.res]).map CA) by simp_all),rfl⟩,⟨(show AV.slice (.id 7 3) (sk.map N++[[vs p,G cs[i].place,G ((o.res:Nat):Int)]])=.slice (.id 7 3) ((sk++[(⟨p,cs[i].place,(o.res:Nat)⟩:Sk)]).map N) by simp_all),rfl⟩,X,X,X,W⟩,⟨⟨(show HO.tok 1 ((rs.map CA).length+([[G ((o.res:Nat):Int)]]:C0).length)=.tok 1 (rs++[o.res]).length by simp),rfl⟩,⟨(show HO.tok 3 ((sk.map N).length+([[vs p,G cs[i].place,G ((o.res:Nat):Int)]]:C0).length)=.tok 3 (sk++[(⟨p,cs[i].place,(o.res:Nat)⟩:Sk)]).length by simp),rfl⟩,X,X,X,X,X,X,W⟩,Fh,A2 aa4⟩
   refine C1 (U (cb rP (qF (Ei o.ss o.res) p (Gr (gY _ (AA (ES cY)))))) (cU [(12,G (o.res:Nat))] [(500,.arr 1 (st.map Bb)),(1000,.cells (srM roots C A o.ss dec 500 st.length)),(1001,.tok 6 o.ss.infs.length),(1002,.tok 1 o.ss.drv.length),(1003,.map FM (FO 0 o.ss.infs)),(1004,.dead)] Z1 Z6 ?_))
   have eA:=(Yo (rec:=CF x roots n) (x:=x) (p:=p) (n0:=n0) (st:=st) (rs:=rs) (sk:=sk) n3 YP h6.2 F4 MR ho);rw[AL aa0,AL aa0]at eA;have eR:R=⟨o.res,false,o.ss,dec,st⟩:=by rw[<-j2];rw[eA];exact gn rP
   exact U (.refl _) (Oz (gO.trans eR))
  have n3:=El h3;refine Z (Bm n0) (J (J (show(0:Int)<=0 by decide) rfl) (J rfl (yN (Z (.gen dh 0) (J rfl (A6.imp (s91 x roots C A S dec st p n0 rs V hx hr j3 hinf0 j4 Wk (hnq n0 (Ah ..)) (hnp n0 (Ah ..)) zU zV zW) ?_))))));intro v49 g49 q49;have Agj:=q49.1;have Agk:=q49.2;subst Agj;subst Agk;have hj:¬i<cs.length:=Wk
  have eR:R=⟨(DE x p n0 rs S).1,false,(DE x p n0 rs S).2,dec,st⟩:=by rw[<-j2];exact mE hj
  exact U (.refl _) (Oz (gO.trans eR))
 exact absurd Qq hC2
theorem AgO(hL:Lvl x roots C A n dec p n0 l V cs)(hs:LC x roots s)(_:st.length=dec.length)(Te:A6 prog 148 [.ref 1000 0] (Ai (JQ roots C A s dec st) Af) fun r h'=>r=.tup [vs p,sl Bm (n0::l)]/\h'=Ai (JQ roots C A s dec st) Af)(Akq:cs=[])(hC2:∀a,(Value.string p,a)∉C)(hR:DC (CF x roots n) x p (n0::l) n0 dec st cs s [] []=R)(gO:O=R) :
  A6 prog 82 [.ref 1000 0] (Ai (JQ roots C A s dec st) Af) (dj roots C A O):=by
 obtain⟨hx,hr,hdl,hcl,hcs,hnl,hnq,hnp,hex,hcx,hcq,hcp_,hcr,hcs_,hkey,hinf0,⟨zU,zV,zW⟩,ih⟩:=hL;have Xh:∀(i:Nat) (h:i<cs.length),cs[i]∈Bk x p:=fun i h=>by simp_all
 have r9:∀(i:Nat) (h:i<cs.length),BF (Q (dec++[cs[i]])):=fun i h=>by grind
 clear hcs
 refine Bi (IU ⟨[9],[(6,1),(7,3),(145,1)],[],[],[],[],[],[],[],[(300001,500091000),(300026,500091000),(300029,500091000)],[1,2,5,10,11,13,14,15,16,17,19,21,22,23,24,25,26,28,29,31,32,33,35]⟩) [(1000,1000),(1001,1001),(1002,1002),(1003,1003),(1004,1004),(500,2000)] rfl BA hm rfl func82 aa4 rfl C4 aa4 rfl (J (show st.length=(st.map Bb).length by simp) (cU [(0,.ref 1000 0)] [(500,.arr 1 (st.map Bb)),(1000,.cells (srM roots C A s dec 500 st.length)),(1001,.tok 6 s.infs.length),(1002,.tok 1 s.drv.length),(1003,.map FM (FO 0 s.infs)),(1004,.dead)] Z1 Z6 (Z (.gen dh 0) (J rfl (A6.imp Te ?_)))));intro v1 g1 q1;have te:=q1.1;have tf:=q1.2;subst te;subst tf;refine cU [(0,.ref 1000 0),(4,vs p),(5,sl Bm (n0::l))] [(500,.arr 1 (st.map Bb)),(1000,.cells (srM roots C A s dec 500 st.length)),(1001,.tok 6 s.infs.length),(1002,.tok 1 s.drv.length),(1003,.map FM (FO 0 s.infs)),(1004,.dead)] Z3 Z6 (J (fun h2=>?_) (fun h2=>?_))
 .exact absurd h2 aa2
 refine cU [(0,.ref 1000 0),(4,vs p),(5,sl Bm (n0::l)),(6,.slice (.id 6 1) [])] [(6,.tok 1 0),(500,.arr 1 (st.map Bb)),(1000,.cells (srM roots C A s dec 500 st.length)),(1001,.tok 6 s.infs.length),(1002,.tok 1 s.drv.length),(1003,.map FM (FO 0 s.infs)),(1004,.dead)] Z4 Z7 (J (fun a ha=>?_) (fun Qq=>?_))
 .exact absurd ha (hC2 a)
 refine Z {q:Nat×SS×List Nat×List Sk // q.1<=cs.length/\DC (CF x roots n) x p (n0::l) n0 dec st (cs.drop q.1) q.2.1 q.2.2.1 q.2.2.2=R/\LC x roots q.2.1/\(∀r∈q.2.2.1,r<q.2.1.drv.length)/\q.2.2.1.length<=q.1/\q.2.2.2.length<=q.1} (Z (fun q=>⟨[(0,.ref 1000 0),(4,vs p),(5,sl Bm (n0::l)),(6,.slice (.id 6 1) (q.1.2.2.1.map CA)),(7,.slice (.id 7 3) (q.1.2.2.2.map N)),(32,BY),(33,G 0),(34,G q.1.1)],[(6,.tok 1 q.1.2.2.1.length),(7,.tok 3 q.1.2.2.2.length),(500,.arr 1 (st.map Bb)),(1000,.cells (srM roots C A q.1.2.1 dec 500 st.length)),(1001,.tok 6 q.1.2.1.infs.length),(1002,.tok 1 q.1.2.1.drv.length),(1003,.map FM (FO 0 q.1.2.1.infs)),(1004,.dead)],Af⟩) (Z (fun q=>cs.length-q.1.1) (J (Z ⟨(0,s,[],[]),Ak _,hR,hs,fun r h=>(by cases h),Ao _,Ao _⟩ ?_) ?_)))
 .exact⟨Z8,Z8,Fh,A2 aa4⟩
 intro⟨⟨i,S,rs,sk⟩,j1,j2,j3,j4,j5,j6⟩;have j5:rs.length<=i:=j5;have hw:=j3.dl;have yn:∀t∈S.drv,Rb t:=fun t ht=>by have q:=j3.der.few hx hr t ht;grind
 refine J (fun h3=>?_) (fun h3=>?_)
 .have h3:(i:Int)<(0:Int):=h3;exact absurd h3 Wk
 have h3:¬((i:Int)<(0:Int)):=h3;refine Z (Bm n0) (J (J (show(0:Int)<=0 by decide) rfl) (J rfl (yN (Z (.gen dh 0) (J rfl (A6.imp (s91 x roots C A S dec st p n0 rs V hx hr j3 hinf0 j4 Wk (hnq n0 (Ah ..)) (hnp n0 (Ah ..)) zU zV zW) ?_))))));intro v4 g4 q4;have q4a:=q4.1;have q4b:=q4.2;subst q4a;subst q4b;have hj:¬i<cs.length:=aa0
 have eR:R=⟨(DE x p n0 rs S).1,false,(DE x p n0 rs S).2,dec,st⟩:=by rw[<-j2];exact mE hj
 exact U (.refl _) (Oz (gO.trans eR))
theorem AgQ(N:List Nd)(O:Ko)(hN:N=[])(Te:A6 prog 148 [.ref 1000 0] (Ai (JQ roots C A s dec st) Af) fun r h'=>r=.tup [vs p,sl Bm N]/\h'=Ai (JQ roots C A s dec st) Af)(hO:O=⟨0,true,s,dec,st⟩) :
  A6 prog 82 [.ref 1000 0] (Ai (JQ roots C A s dec st) Af) (dj roots C A O):=by
 refine Bi (IU ⟨[],[],[],[],[],[],[],[],[],[(300001,500091000)],[1,2,5,10,11,13,14,15,16,17,19,21,22,23,25,28,29,31,32,33,35]⟩) [(1000,1000),(1001,1001),(1002,1002),(1003,1003),(1004,1004),(500,2000)] rfl BA hm rfl func82 aa4 rfl C4 aa4 rfl (J (show st.length=(st.map Bb).length by simp) (cU [(0,.ref 1000 0)] [(500,.arr 1 (st.map Bb)),(1000,.cells (srM roots C A s dec 500 st.length)),(1001,.tok 6 s.infs.length),(1002,.tok 1 s.drv.length),(1003,.map FM (FO 0 s.infs)),(1004,.dead)] Z1 Z6 (Z (.gen dh 0) (J rfl (A6.imp Te ?_)))));intro v1 g1 q1;have te:=q1.1;have tf:=q1.2;subst te;subst tf;refine cU [(0,.ref 1000 0),(4,vs p),(5,sl Bm N)] [(500,.arr 1 (st.map Bb)),(1000,.cells (srM roots C A s dec 500 st.length)),(1001,.tok 6 s.infs.length),(1002,.tok 1 s.drv.length),(1003,.map FM (FO 0 s.infs)),(1004,.dead)] Z3 Z6 (J (fun h2=>?_) (fun h2=>?_))
 .exact U (.refl _) (Oz (st:=st) hO)
 exact absurd aa0 h2
section
variable {x:List Rl}{roots:List Rq}{p:CS}
theorem IY:∀(l:List Nat) {k:Nat} {s:SS},s.infs.Nodup->(B2 p l k s).2.infs.Nodup
 | [],_,_,h=>h
 |r::l,k,s,h=>by
  unfold B2;split
  .exact h
  split
  .exact IY l h
  split
  .exact IY l h
  .exact IY l (IE h)
theorem LF{needs:List Nd}{n0:Nd}{dec:List Cd}{st:List (List Sk)}{rec:List Cd->SS->List (List Sk)->Ko}(Ws:∀c s st,s.infs.Nodup->(rec (dec++[c]) s st).ss.infs.Nodup) :
  ∀(cs:List Cd) {s:SS} {rs:List Nat} {sk:List Sk},s.infs.Nodup->(DC rec x p needs n0 dec st cs s rs sk).ss.infs.Nodup
 | [],s,rs,sk,h=>IY _ (IE (IE h))
 |c::cs,s,rs,sk,h=>by
  have aft:∀(s' : SS) (k:Nat),s'.infs.Nodup->(I3 rec x p needs n0 dec st c cs rs sk k s').ss.infs.Nodup:=fun s' k h'=>by
   unfold I3;split
   .exact h'
   .exact LF Ws cs h'
  rw[F0];split
  .exact h
  cases needs.find? fun n=>!has n.rq.set c.place with
  |some n=>exact LF Ws cs (IE h)
  |none=>
   dsimp only;cases OL s.drv (Q (dec++[c]))with
   |some k=>simp_all
   |none=>
    dsimp only;cases CX dec c with
    |some n=>exact aft _ _ (IE h)
    |none=>
     grind
theorem QV:∀(n:Nat) {dec:List Cd} {s:SS} {st:List (List Sk)},s.infs.Nodup->(CF x roots n dec s st).ss.infs.Nodup
 |0,_,_,_,h=>h
 |n+1,dec,s,st,h=>by
  unfold CF;cases (D4 roots dec).2 with
  |nil=>exact h
  |cons n0 l=>exact LF (fun c s st h=>QV n h) _ h
structure yG(x:List Rl)(roots:List Rq)(C A:List (Value×AV)):Prop where
 hx:Aw x=0
 hr:AK roots=0
 fx:∀r∈x,Eo r
 fr:∀q∈roots,G5 q
 c1:∀(p:CS) (a:AV),(Value.string p,a)∈C->a=sl AC (Bk x p)
 c2:∀p:CS,(∀a,(Value.string p,a)∉C)->Bk x p=[]
 c3:∀p:CS,Bk x p=[]->∀a,(Value.string p,a)∉C
 av:∀p:CS,∃V,HV x A p V
theorem wo{dec:List Cd}(h:∀c∈dec,c.rel.reqs.length<=16):((dec.map fun c=>c.rel.reqs).flatten).length<=16*dec.length:=by
 induction dec<;>grind
theorem xv{r:Rl}(h:JE r):0<=plc r.ver/\plc r.ver<1000000:=by rw[h.plc];exact Kf h.val
theorem kP(dec:List Cd):(D4 roots dec).2.length<=(Du roots dec).length:=by
 grind [Vl]
theorem s45{C A:List (Value×AV)}(hE:yG x roots C A)(ww:H64 roots C A):∀(n:Nat) {dec:List Cd} {s:SS} {st:List (List Sk)},Df x dec->Js roots dec->LC x roots s->s.full=false->FA x dec<n->st.length=dec.length ->
  A6 prog 82 [.ref 1000 0] (Ai (JQ roots C A s dec st) Af) (dj roots C A (CF x roots n dec s st))
 |0,_,_,_,_,_,_,_,h,_=>by omega
 |n+1,dec,s,st,hd,kg,hs,hf,hn,Iz=>by
  have hx:=hE.hx;have hr:=hE.hr;have Mu:=Fi hx;have hdl:=Uj hd;have AeQ:dec.length<=256:=Wk
  have hrl:∀c∈dec,c.rel.reqs.length<=16:=fun c hc=>Mu.2 _ (hd.cand c hc).1;have Te:=ww s dec st Wk fun c hc=>Bd (hrl c hc) aa3;generalize hO:CF x roots (n+1) dec s st=O;obtain⟨N,hN⟩:∃N,N=(D4 roots dec).2:=⟨_,rfl⟩;obtain⟨q,hq⟩:∃q,q=(D4 roots dec).1:=⟨_,rfl⟩;rw[<-hN,<-hq]at Te;have hNl:N.length<=10000:=by
   grind [kP,IJ,Lm,wo,Lt]
  cases hNc:N with
  |nil=>
   rw[hNc]at hN Te;refine AgQ roots C A s dec st q [] O rfl Te ?_
   grind [CF]
  |cons n0 l=>
   rw[hNc]at hN Te;have hNx:=Kd hN.symm;rw[<-hq]at hNx;have Rx:∀nd∈n0::l,nd∈Du roots dec:=fun nd h=>((hNx.mem nd).1 h).1;have GJ:=(Bp hx).1;have few:∀{E:List Cd},Df x E->∀nd∈Du roots E,BF nd.rq.set/\Au (nd.place+1):=fun hE' nd h=>by
    rcases M3 h with ⟨k,r,h1,rfl⟩ | ⟨c,hc,k,r,h1,rfl⟩
    .grind [Au,yG.fr]
    .have h2:=hE'.cand c hc;have h3:=xv (GJ _ h2.1)
     grind [Au,yG.fx]
   have yw:∀c∈Bk x q,Df x (dec++[c])/\c.rel.path=q/\c.rel∈x:=fun c hc=>by
    grind [Gz,Df.snoc,V8.undone]
   have F5:∀(i:Nat) (h:i<(Bk x q).length),(Bk x q)[i]∈Bk x q:=fun i h=>Ag h;obtain⟨V,hV⟩:=hE.av q
   have hL:Lvl x roots C A n dec q n0 l V (Bk x q):={
    hx:=hx
    hr:=hr
    hdl:=AeQ
    hcl:=Bd (WV x q) Mu.1
    hcs:=rfl
    hnl:=aa2
    hnq:=fun nd h=>(few hd nd (Rx nd h)).1
    hnp:=fun nd h=>(few hd nd (Rx nd h)).2
    hex:=fun i h nd hm hh=>by
     obtain⟨a,b,_⟩:=yw _ (F5 i h);exact⟨(QA hx hr a (Pk (Rx nd hm)) ⟨(Bk x q)[i],by simp,b.trans ((hNx.mem nd).1 hm).2.symm,hh⟩).1,trivial⟩
    hcx:=fun i h nc hc=>by
     obtain⟨a,b,_⟩:=yw _ (F5 i h);obtain⟨m1,m2⟩:=LH hc;exact⟨(QA hx hr a (NO m1) m2).1,trivial⟩
    hcq:=fun i h nc hm=>(few (yw _ (F5 i h)).1 nc (NO hm)).1
    hcp_:=fun i h nc hm=>(few (yw _ (F5 i h)).1 nc (NO hm)).2
    hcr:=fun i h=>by grind
    hcs_:=fun i h r hm=>((hE.fx _ (yw _ (F5 i h)).2.2).2 r hm).1
    hkey:=fun i h=>by
     simp_all
    hinf0:=(Tw hx hr hd (Rx n0 (Ah ..)) (.inl (by
     rw[((hNx.mem n0).1 (Ah ..)).2]
     grind [Ip,GU,V8.undone]))).inf
    hV:=hV
    ih:=fun c hc Afi S EQ hl hS hSf=>by
     obtain⟨a,b,c3⟩:=yw c hc;obtain⟨k1,k2⟩:=I0.1 Afi;obtain⟨_,c2⟩:=Gz hc;have uN:=kg.snoc hNx b k1 k2;have ym:FA x (dec++[c])<n:=by have:=OR (dec:=dec) ⟨c2.1,c2.2.1⟩ (by grind [V8.undone]);omega
     have h1:=s45 hE ww n a uN hS hSf ym (st:=EQ) aa0;have h2:=RY hx hr n a uN hS.der hSf ym (st:=EQ);exact⟨h1,⟨h2.der,QV n hS.nodup⟩,⟨h2.grow.len,fun e1 e2=>((h2.no e1).2.2 e2).1⟩,fun e1=>(h2.no e1).2.1⟩ }
   have hR:DC (CF x roots n) x q (n0::l) n0 dec st (Bk x q) s [] []=O:=by
    grind [CF]
   by_cases hm:∀a,(Value.string q,a)∉C
   .exact AgO x roots C A n s dec st q n0 l V (Bk x q) O O hL hs Iz Te (hE.c2 q hm) hm hR rfl
   .exact AgN x roots C A n s dec st q n0 l V (Bk x q) O O hL hs Iz Te (hE.c1 q) hm hR rfl
end
theorem AgP{x:List Rl}{roots:List Rq}{C A:List (Value×AV)}(hE:yG x roots C A)(n:Nat){dec:List Cd}{s:SS}{st:List (List Sk)}(h1:Df x dec)(h2:Js roots dec)(h3:LC x roots s)(h4:s.full=false)(h5:FA x dec<n)(h6:st.length=dec.length) :
  A6 prog 82 [.ref 1000 0] (Ai (JQ roots C A s dec st) Af) (dj roots C A (CF x roots n dec s st)):=
 s45 hE (fun s dec st a b=>s64 roots C A s dec st (Bd (Lt hE.hr) aa3) a b) n h1 h2 h3 h4 h5 h6
def Cn:Bool:=decide (Aw x=0)&&decide (AK roots=0)
theorem s28(ifs:C0)(roots:List Rq)(hx:∀r∈x,Eo r)(hr:∀q∈roots,G5 q):PC 80 [.agg (Ic x ifs),sl Ac roots] (I (Cn x roots)):=by
 refine Ps (pC [2] []) func80 rfl C4 (yN (C1 (U (zn Wm x ifs hx) (J (fun h1=>?_) (fun h1=>?_)))))
 .refine C1 (U (c65 Wm roots hr) (J (fun h2=>?_) (fun h2=>?_)))
  .exact .of_eq (show I true=I (Cn x roots) by grind [Cn])
  exact .of_eq (show I false=I (Cn x roots) by grind [Cn])
 exact .of_eq (show I false=I (Cn x roots) by grind [Cn])
abbrev Up(r:Rl):List AV:=AC ⟨plc r.ver,r⟩
abbrev My:C0:=(y.filter fun r=>decide (r.path=p)).map Up
abbrev uo(q:CS×Nat):Value×AV:=(.string q.1,.slice (.id (q.2+100) 10) (My y q.1))
abbrev Jl:List (Value×AV):=(AQ y []).zipIdx.map (uo y)
def H3(l:Nat):HO:=match(AQ y [])[l]? with
 |some q=>.tok 10 (My y q).length
 |none=>.free
def JO:HO:=bif Nat.ble 100 j&&Nat.blt j 1000 then H3 y (j-100)else .free
theorem Fm(hy:y.length<=256)(l:Nat):JO y (l+100)=H3 y l:=by
 grind [JO,Nat.ble_eq,Nat.blt_eq,HY,H3]
theorem rV{j:Nat}(h:j<100):JO y j=.free:=by
 grind [JO,Nat.ble_eq]
section
variable {y:List Rl}{r:Rl}{k:Nat}
open Classical in
theorem nq(h:(AQ y [])[k]?=some r.path):Fc (Jl y) (.string r.path) (.slice (.id (k+100) 10) (My y r.path++[Up r]))=Jl (y++[r]):=by
 have hd:=Fa y [] KX;have hm:uo y (r.path,k)∈Jl y:=Ar.2 ⟨_,Ig.2 h,rfl⟩;rw[bT (a':=.slice (.id (k+100) 10) (My y r.path)) hm];unfold Jl;rw[NU h,BH];refine Cg fun q hq=>?_
 grind [JV]
theorem cf(h:r.path∉AQ y []):My y r.path=[]:=by
 grind [List.filter_eq_nil_iff,HZ]
theorem jS(h:r.path∉AQ y [])(a:AV):(Value.string r.path,a)∉Jl y:=by
 grind
theorem nl(h:r.path∉AQ y []):Fc (Jl y) (.string r.path) (.slice (.id ((AQ y []).length+100) 10) [Up r])=Jl (y++[r]):=by
 grind [Jd,NT,List.map_congr_left,cf]
theorem jT{p:CS}{j:Nat}(h:(AQ y [])[j]?=some p):(Value.string p,AV.slice (.id (j+100) 10) (My y p))∈Jl y/\∀b,(Value.string p,b)∈Jl y->b=AV.slice (.id (j+100) 10) (My y p):=by
 refine⟨Ar.2 ⟨(p,j),Ig.2 h,rfl⟩,fun b hb=>?_⟩
 grind [JV,Fa]
theorem iV{p:CS}{j:Nat}(h:(AQ y [])[j]?=some p):H3 y j=.tok 10 (My y p).length:=by
 grind [H3]
theorem qh(h:(AQ y [])[k]?=some r.path)(l:Nat):(bif Nat.beq (l+100) (k+100)then HO.tok 10 ((My y r.path).length+1)else H3 y l)=H3 (y++[r]) l:=by
 grind [Nat.beq_refl,H3,NU,Nat.eq_of_beq_eq_true,JV,Fa]
theorem qg(h:r.path∉AQ y [])(l:Nat):(bif Nat.beq (l+100) ((AQ y []).length+100)then HO.tok 10 1 else H3 y l)=H3 (y++[r]) l:=by
 grind [Nat.beq_refl,H3,NT,cf,Nat.eq_of_beq_eq_true]
end
theorem Io(hh:∀l,h (l+100)=H3 y l):SF h (Jl y)=true:=by
 refine Rz fun p hp=>?_;obtain⟨q,h1,rfl⟩:=Ar.1 hp;show Th h (q.2+100)=true
 grind [Th,iV]
theorem Hb{y:List Rl}(hy:y.length<=256){h':Nat->HO}(hh:∀l,h (l+100)=H3 y l)(j:Nat):JO y j=.free\/(h j=JO y j/\bn h' (JO y j)=true):=by
 by_cases hj:j<100
 .grind [rV]
 .obtain⟨l,rfl⟩:∃l,j=l+100:=⟨j-100,by omega⟩
  right
  rw[Fm y hy];refine⟨hh l,?_⟩;unfold H3;cases (AQ y [])[l]?<;>rfl
end Go.Eng
