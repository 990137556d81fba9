/- Lemmas 25. -/
import Derived.Test.YteaiieomnhbmgaaGreatDoorAA24
import Derived.Test.YteaiieomnhbmgaaGreatDoorAA17
set_option maxHeartbeats 4000000
namespace Go.Eng
open Go.Proofs
variable {Y:Gh->World->Prop}{k:Nat}{P:Program}{j o sz:Nat}(l:List Nd)(roots:List Rq)(C A:List (Value×AV))(n:Nd)(s:SS)(dec:List Cd)(st:List (List Sk))(m:Nat)
abbrev cA:JR:=[(1000,1000),(1001,1001),(1002,1002),(1003,1003),(1004,1004),(1005,1005),(1006,1006),(1007,1007),(1008,1008),(1009,1009)]
def Hv:ByteArray×List Nd:=((DR roots dec).take m).foldl (EK dec) (mt,[])
theorem bF{roots:List Rq}{dec:List Cd}{m:Nat}{n:Nd}(h:(DR roots dec)[m]?=some n):Hv roots dec (m+1)=EK dec (Hv roots dec m) n:=by
 unfold Hv;rw[Bj,h,Ef];rfl
theorem rd{roots:List Rq}{dec:List Cd}{m:Nat}(h:(DR roots dec).length<=m):Hv roots dec m=Ho roots dec:=by
 unfold Hv Ho;rw[At h]
def Gj(j:Nat):Nat:=roots.length+((dec.take j).map fun c=>c.rel.reqs.length).sum
theorem VL(c:Cd):(RW c).length=c.rel.reqs.length:=LV _ _ _
theorem jH:Gj roots dec 0=roots.length:=by unfold Gj;simp
theorem jG{roots:List Rq}{dec:List Cd}(h:j<dec.length):Gj roots dec (j+1)=Gj roots dec j+dec[j].rel.reqs.length:=by
 unfold Gj;rw[BM h,As,List.sum_append];simp[Nat.add_assoc]
theorem bI:Gj roots dec dec.length=(DR roots dec).length:=by
 unfold Gj DR bV;rw[B7,Ac,LV,List.length_flatten,Bs]
 congr 2
 exact Bi fun c _=>(VL c).symm
theorem jx{roots:List Rq}{dec:List Cd}{i:Nat}(h:i<roots.length):(DR roots dec)[i]?=some ⟨roots[i],mt,0,(i:Nat)⟩:=by
 unfold DR bV;rw[AZ (by rw[LV];exact h),QJ,Ge h,Ip,Bg]
theorem aG{α:Type}:∀{l:List (List α)} {j k:Nat} (hj:j<l.length),k<l[j].length->l.flatten[((l.take j).map List.length).sum+k]?=l[j][k]?
 |y::l,0,k,_,hk=>by
  rw[BD,List.take_zero,Fe,List.sum_nil,Bg,AZ (show k<y.length from hk)];rfl
 |y::l,j+1,k,hj,hk=>by
  rw[BD,JQ,AK,List.sum_cons,A0 ch]
  have:=aG (l:=l) (j:=j) (k:=k) (by simpa using hj) hk
  rw[show y.length+((l.take j).map List.length).sum+k-y.length=((l.take j).map List.length).sum+k by omega,this]
  rfl
theorem nq{roots:List Rq}{dec:List Cd}(hj:j<dec.length)(hk:k<dec[j].rel.reqs.length):(DR roots dec)[Gj roots dec j+k]?=some ⟨dec[j].rel.reqs[k],dec[j].rel.path,dec[j].place,(k:Nat)⟩:=by
 unfold DR bV Gj;rw[A0 (by rw[LV];omega),LV];have h:=aG (l:=dec.map RW) (j:=j) (k:=k) (by simpa using hj) (by rw[List.getElem_map,VL];exact hk);rw[<-Tl,Bs,show(List.length ∘ RW)=fun c=>c.rel.reqs.length from funext VL]at h;rw[show roots.length+((dec.take j).map fun c=>c.rel.reqs.length).sum+k-roots.length=((dec.take j).map fun c=>c.rel.reqs.length).sum+k by omega,h,List.getElem_map];unfold RW;rw[QJ,Ge hk,Ip,Bg]
abbrev nE:List (Nat×HO):=
  [(1000,.cells (srC roots C A s dec st.length)),(1001,.tok 6 s.infs.length),(1002,.tok 1 s.drv.length),(1003,.map FY (F3 0 s.infs)),(1004,.arr 1 (st.map Bq)),
   (1005,.cells [.ref 1000 0]),(1006,.cells [vs (Hv roots dec m).1]),(1007,.cells [.slice (.ver 1008 5 m) ((Hv roots dec m).2.map BH)]),(1008,.var 5 m ((Hv roots dec m).2.map BH).length),(1009,.cells [.ref 1000 0])]
noncomputable abbrev cxn(pl:Tn)(l:Nat)(Y:Gh->World->Prop):Cx:=⟨Tryz.prog,rP,pl,true,0,fun l' σ' g w=>l'=l->σ'=cA->Y g w⟩
theorem JF.pre{Y':Gh->World->Prop}{l:Nat}{args:List AV}{h0:Nat->HO}{Q:AV->(Nat->HO)->Prop}(h:JF P Y l args h0 Q)(hp:∀g w,Y' g w->Y g w):JF P Y' l args h0 Q:=
 fun g w vals q1 q2 q3 q4=>h g w vals q1 q2 q3 (hp g w q4)
theorem Aeg:Ba Tryz.prog 253 [.ref 1000 0] (Ap (J4 roots C A s dec st) Ae) fun r h'=>r=.clo 301 [.ref 2000 0]/\h'=Ap (J4 roots C A s dec st++[(2000,.cells [.ref 1000 0])]) Ae:=by
 refine Cu (M7 El) [(1000,1000),(1001,1001),(1002,1002),(1003,1003),(1004,1004),(1,2000)] rfl Da hm rfl Tryz.func253 Wk rfl (Nz rfl) Wk rfl ?_;exact Xi _ (Yi (.refl _) Zr)
theorem Aeh(l:Nat)(roots:List Rq)(C A:List (Value×AV))(s:SS)(dec:List Cd)(st:List (List Sk))(hr:roots.length<=1073741824)(hd:dec.length<=1073741824)(wV:∀c∈dec,c.rel.reqs.length<=1073741824)(hy:∀m n,(DR roots dec)[m]?=some n->JF Tryz.prog Y l [.agg (BH n)] (Ap (nE roots C A s dec st m) Ae) fun r h'=>r=vb true/\h'=Ap (nE roots C A s dec st (m+1)) Ae) :
  ZL Tryz.prog Y cA 301 [.v (.func (.yield l) #[] #[]),.ref 1005 0] (Ap (nE roots C A s dec st 0) Ae) fun _ h'=>h'=Ap (nE roots C A s dec st (DR roots dec).length) Ae:=by
 refine mP (l:=l) (cxn El l Y) cA rfl Da hm rfl Tryz.func301 Wk rfl (Nz rfl) Wk rfl rfl (Xi {i:Nat // i<=roots.length} (Xi (fun q=>⟨[(0,.v (.func (.yield l) #[] #[])),(1,.ref 1005 0),(12,sl Bb roots),(13,vi (roots.map Bb).length),(14,vi q.1)],[(1000,.cells (srM roots C A s dec 1004 st.length)),(1001,.tok 6 s.infs.length),(1002,.tok 1 s.drv.length),(1003,.map FY (F3 0 s.infs)),(1004,.arr 1 (st.map Bq)),(1005,.cells [.ref 1000 0]),(1006,.cells [vs (Hv roots dec q.1).1]),(1007,.cells [.slice (.ver 1008 5 q.1) ((Hv roots dec q.1).2.map BH)]),(1008,.var 5 q.1 ((Hv roots dec q.1).2.map BH).length),(1009,.cells [.ref 1000 0])],Ae⟩) (Xi (fun q=>roots.length-q.1) (Yi (Xi ⟨0,Ax _⟩ ?_) ?_))))
 .exact⟨Z5,Z10,Fh,BT Wk⟩
 intro⟨i,i1⟩;refine Yi (fun h1=>?_) (fun h1=>?_)
 .have h1:(i:Int)<((roots.map Bb).length:Int):=h1;have n1:=FO h1;refine Xi (Bb roots[i]) (Yi (JL n1) (Yi rfl (yN (yN (yN (Xi (.gen cA 0) (Yi rfl (JF.imp (JF.pre (hy i ⟨roots[i],mt,0,(i:Nat)⟩ (jx n1)) (fun g w q=>q rfl rfl)) ?_))))))));intro v2 g2 q2;have q2a:=q2.1;have q2b:=q2.2;subst q2a;subst q2b;refine Yi (Ii i ch) (Xi ⟨i+1,by omega⟩ ?_);exact⟨Dl roots.length i ch,Z5,Z10,Fh,BT Wk⟩
 have h1:¬((i:Int)<((roots.map Bb).length:Int)):=h1;have n1:=DP h1;have hE:i=Gj roots dec 0:=by rw[jH];omega
 refine Xi {j:Nat // j<=dec.length} (Xi (fun q=>⟨[(0,.v (.func (.yield l) #[] #[])),(29,sl AT dec),(30,vi (dec.map AT).length),(31,vi q.1)],[(1000,.cells (srM roots C A s dec 1004 st.length)),(1001,.tok 6 s.infs.length),(1002,.tok 1 s.drv.length),(1003,.map FY (F3 0 s.infs)),(1004,.arr 1 (st.map Bq)),(1005,.cells [.ref 1000 0]),(1006,.cells [vs (Hv roots dec (Gj roots dec q.1)).1]),(1007,.cells [.slice (.ver 1008 5 (Gj roots dec q.1)) ((Hv roots dec (Gj roots dec q.1)).2.map BH)]),(1008,.var 5 (Gj roots dec q.1) ((Hv roots dec (Gj roots dec q.1)).2.map BH).length),(1009,.cells [.ref 1000 0])],Ae⟩) (Xi (fun q=>dec.length-q.1) (Yi (Xi ⟨0,Ax _⟩ ?_) ?_)))
 .exact⟨Z4,⟨Zr,Zr,Zr,Zr,Zr,Zr,⟨(show .cells [vs (Hv roots dec i).1]=(.cells [vs (Hv roots dec (Gj roots dec 0)).1]:HO) by rw[hE]),rfl⟩,⟨(show .cells [.slice (.ver 1008 5 i) ((Hv roots dec i).2.map BH)]=(.cells [.slice (.ver 1008 5 (Gj roots dec 0)) ((Hv roots dec (Gj roots dec 0)).2.map BH)]:HO) by rw[hE]),rfl⟩,⟨(show .var 5 i ((Hv roots dec i).2.map BH).length=(.var 5 (Gj roots dec 0) ((Hv roots dec (Gj roots dec 0)).2.map BH).length:HO) by rw[hE]),rfl⟩,Zr,Tv⟩,Fh,BT Wk⟩
 intro⟨j,j1⟩;refine Yi (fun h4=>?_) (fun h4=>?_)
 .have h4:(j:Int)<((dec.map AT).length:Int):=h4;have n4:=FO h4;have hdj:=wV dec[j] (Aq n4);refine Xi (AT dec[j]) (Yi (JL n4) (Yi rfl (yN (yN (Xi {k:Nat // k<=dec[j].rel.reqs.length} (Xi (fun q=>⟨[(0,.v (.func (.yield l) #[] #[])),(6,.ref 6 0),(29,sl AT dec),(30,vi (dec.map AT).length),(31,vi j),(37,sl Bb dec[j].rel.reqs),(38,vi (dec[j].rel.reqs.map Bb).length),(39,vi q.1)],[(6,.cells (AT dec[j])),(1000,.cells (srM roots C A s dec 1004 st.length)),(1001,.tok 6 s.infs.length),(1002,.tok 1 s.drv.length),(1003,.map FY (F3 0 s.infs)),(1004,.arr 1 (st.map Bq)),(1005,.cells [.ref 1000 0]),(1006,.cells [vs (Hv roots dec (Gj roots dec j+q.1)).1]),(1007,.cells [.slice (.ver 1008 5 (Gj roots dec j+q.1)) ((Hv roots dec (Gj roots dec j+q.1)).2.map BH)]),(1008,.var 5 (Gj roots dec j+q.1) ((Hv roots dec (Gj roots dec j+q.1)).2.map BH).length),(1009,.cells [.ref 1000 0])],Ae⟩) (Xi (fun q=>dec[j].rel.reqs.length-q.1) (Yi (Xi ⟨0,Ax _⟩ ?_) ?_))))))))
  .exact⟨Z8,Z11,Fh,BT Wk⟩
  intro⟨k,k1⟩;have k1:k<=dec[j].rel.reqs.length:=k1;refine Yi (fun h5=>?_) (fun h5=>?_)
  .have h5:(k:Int)<((dec[j].rel.reqs.map Bb).length:Int):=h5;have n5:=FO h5;refine Xi (Bb dec[j].rel.reqs[k]) (Yi (JL n5) (Yi rfl (yN (yN (yN (Xi (.gen cA 0) (Yi rfl (JF.imp (JF.pre (hy (Gj roots dec j+k) ⟨dec[j].rel.reqs[k],dec[j].rel.path,dec[j].place,(k:Nat)⟩ (nq n4 n5)) (fun g w q=>q rfl rfl)) ?_))))))));intro v6 g6 q6;have q6a:=q6.1;have q6b:=q6.2;subst q6a;subst q6b;refine Yi (Ii k ch) (Xi ⟨k+1,by omega⟩ ?_);exact⟨by show dec[j].rel.reqs.length-(k+1)<dec[j].rel.reqs.length-k;omega,Z8,Z11,Fh,BT Wk⟩
  have h5:¬((k:Int)<((dec[j].rel.reqs.map Bb).length:Int)):=h5;have n5:=DP h5;refine Yi (Ii j ch) ?_;have hE:Gj roots dec j+k=Gj roots dec (j+1):=by rw[jG n4];omega
  refine Xi ⟨j+1,by omega⟩ ?_;exact⟨Dl dec.length j ch,Z4,⟨Zr,Zr,Zr,Zr,Zr,Zr,⟨(show .cells [vs (Hv roots dec (Gj roots dec j+k)).1]=(.cells [vs (Hv roots dec (Gj roots dec (j+1))).1]:HO) by rw[hE]),rfl⟩,⟨(show .cells [.slice (.ver 1008 5 (Gj roots dec j+k)) ((Hv roots dec (Gj roots dec j+k)).2.map BH)]=(.cells [.slice (.ver 1008 5 (Gj roots dec (j+1))) ((Hv roots dec (Gj roots dec (j+1))).2.map BH)]:HO) by rw[hE]),rfl⟩,⟨(show .var 5 (Gj roots dec j+k) ((Hv roots dec (Gj roots dec j+k)).2.map BH).length=(.var 5 (Gj roots dec (j+1)) ((Hv roots dec (Gj roots dec (j+1))).2.map BH).length:HO) by rw[hE]),rfl⟩,Zr,Tv⟩,Fh,BT Wk⟩
 have h4:¬((j:Int)<((dec.map AT).length:Int)):=h4;have n4:=DP h4;exact Aa (fun m=>Ap (nE roots C A s dec st m) Ae) (show Gj roots dec j=(DR roots dec).length by rw[<-bI];congr 1;omega)
theorem vh{h:Nat->HO}{r:Nat}{cs:List AV}{K:(Nat->HO)->Prop}(c1:h o=.cells cs)(c2:J0 cs k=nzA)(c3:h r=.free)(hk:K (A1 (A1 h r (.var sz 0 0)) o (.cells (E8 cs k (.slice (.ver r sz 0) []))))):xc h o k r sz K:=by
 unfold xc;rw[c1];show match J0 cs k with
  |.v (.slice none 0 0)=>match h r with
   |.free=>K (A1 (A1 h r (.var sz 0 0)) o (.cells (E8 cs k (.slice (.ver r sz 0) []))))
   |_=>False
  |_=>False
 rw[c2,c3];exact hk
theorem vH{r0:Nat}{iJ:Cx}{N:Nat}{fn:Func}{σ:JR}{Q:AV->(Nat->HO)->Prop}{b rest:Code}{st:St}(cs:List AV)(c1:st.h o=.cells cs)(c2:J0 cs k=nzA)(c3:st.h r0=.free)(σF σr:JR)(H0 Hn:List (Nat×HO))(gf:Nat)(caps:List AV){sr s:Nat}{ps:Array Tmp}{Hl body:Code}(hb:b=.block sr (.rangeFunc (.tmp s) ps Hl body))(k1:(EO σF&&D4 (A1 (A1 st.h r0 (.var sz 0 0)) o (.cells (E8 cs k (.slice (.ver r0 sz 0) [])))) 0 0&&DI σF 0 0)=true)(k2:F4 σF (A1 (A1 st.h r0 (.var sz 0 0)) o (.cells (E8 cs k (.slice (.ver r0 sz 0) []))))=Ap H0 Ae)(k3:(Ht σr&&Jj σr H0)=true)(k4:Jj σr Hn=true)(k5:ren (CF σF) (A1 (A1 st.h r0 (.var sz 0 0)) o (.cells (E8 cs k (.slice (.ver r0 sz 0) [])))) (st.t s)=.clo gf caps)(k6:∀(l D:Nat) (f' : FuncId) (tm:Array Value),tm.size=N->ZL P (fun g w=>w.heap[l]?=some (.loop (IN f' tm ps Hl body D .ready))/\∀i,BS g w (AQ (Ap H0 Ae)) (ren (CF σF) (A1 (A1 st.h r0 (.var sz 0 0)) o (.cells (E8 cs k (.slice (.ver r0 sz 0) [])))) (st.t i)) (tm.getD i undef)) σr gf
   (.v (.func (.yield l) #[] #[])::caps) (Ap H0 Ae) fun _ h'=>h'=Ap Hn Ae)(k7:EX N rest=true)(k8:To iJ rest (ar iJ fn.results.toList σr fun r h'=>Q (ren (CF σ) (EA σF 0 0 (A1 (A1 st.h r0 (.var sz 0 0)) o (.cells (E8 cs k (.slice (.ver r0 sz 0) [])))) h') (ren (FF σF 0 0) h' r)) (F4 σ (EA σF 0 0 (A1 (A1 st.h r0 (.var sz 0 0)) o (.cells (E8 cs k (.slice (.ver r0 sz 0) [])))) h')))
   ⟨fun i=>ren (CF σF) (A1 (A1 st.h r0 (.var sz 0 0)) o (.cells (E8 cs k (.slice (.ver r0 sz 0) [])))) (st.t i),Ap Hn Ae⟩)(k9:PN [] body=false:=by kernel_rfl):RfV o k r0 sz iJ P N fn σ Q b rest st:=
 vh c1 c2 c3 ⟨σF,σr,H0,Hn,sr,s,ps,Hl,body,gf,caps,hb,k1,k2,k3,k4,k5,k6,k7,k9,k8⟩
section
variable {roots:List Rq}{C A:List (Value×AV)}{s:SS}{dec:List Cd}{st:List (List Sk)}{n:Nd}
theorem Vz{m:Nat}{p:ByteArray}{o:List Nd}(e:Hv roots dec (m+1)=(p,o)){es:List (List AV)}(h1:es=o.map BH)(h2:k=es.length) :
  Ap [(1000,.cells (srC roots C A s dec st.length)),(1001,.tok 6 s.infs.length),(1002,.tok 1 s.drv.length),(1003,.map FY (F3 0 s.infs)),(1004,.arr 1 (st.map Bq)),
   (1005,.cells [.ref 1000 0]),(1006,.cells [vs p]),(1007,.cells [.slice (.ver 1008 5 (m+1)) es]),(1008,.var 5 (m+1) k),(1009,.cells [.ref 1000 0])] Ae=Ap (nE roots C A s dec st (m+1)) Ae:=by
 subst h1;subst h2
 rw[show nE roots C A s dec st (m+1)=[(1000,.cells (srC roots C A s dec st.length)),(1001,.tok 6 s.infs.length),(1002,.tok 1 s.drv.length),(1003,.map FY (F3 0 s.infs)),(1004,.arr 1 (st.map Bq)),
   (1005,.cells [.ref 1000 0]),(1006,.cells [vs (Hv roots dec (m+1)).1]),(1007,.cells [.slice (.ver 1008 5 (m+1)) ((Hv roots dec (m+1)).2.map BH)]),(1008,.var 5 (m+1) ((Hv roots dec (m+1)).2.map BH).length),(1009,.cells [.ref 1000 0])]from rfl,e]
theorem nG{a:ByteArray×List Nd}(h:DU dec n.rq.path=true):EK dec a n=(a.1,a.2):=by unfold EK;rw[Al (.inl h)]
theorem np{o:List Nd}(h:(0:Int)<((o.map BH).length:Int)):o≠[]:=fun e=>by subst e;simp at h
theorem q9{o:List Nd}(h:¬(0:Int)<((o.map BH).length:Int)):o=[]:=by
 cases o with
 |nil=>rfl
 |cons y l=>exact absurd B0 h
theorem rf{a:ByteArray×List Nd}(h:(0:Int)<((a.2.map BH).length:Int))(hb:Ek a.1 n.rq.path=true):EK dec a n=(a.1,a.2):=by unfold EK;rw[Al (.inr ⟨np h,hb⟩)]
theorem nH{a:ByteArray×List Nd}(hd:DU dec n.rq.path=false)(h:(0:Int)<((a.2.map BH).length:Int))(hb:Ek a.1 n.rq.path=false)(hs:Ek n.rq.path a.1=true):EK dec a n=(n.rq.path,[n]):=by
 unfold EK;rw[Aj (by rw[hd,hb];simp),Al ⟨np h,hs⟩]
theorem nI{a:ByteArray×List Nd}(hd:DU dec n.rq.path=false)(hb:Ek a.1 n.rq.path=false)(hs:Ek n.rq.path a.1=false):EK dec a n=(n.rq.path,a.2++[n]):=by
 unfold EK;rw[Aj (by rw[hd,hb];simp),Aj (by rw[hs];simp)]
theorem rh{a:ByteArray×List Nd}(hd:DU dec n.rq.path=false)(h:¬(0:Int)<((a.2.map BH).length:Int)):EK dec a n=(n.rq.path,a.2++[n]):=by
 have:=q9 h
 unfold EK;rw[Aj (by rw[hd,this];simp),Aj (by rw[this];simp)]
theorem rg(a:ByteArray×List Nd)(n:Nd):(EK dec a n).2.length<=a.2.length+1:=by
 unfold EK;split
 .omega
 .split
  .simp
  .simp
theorem gu:∀(m:Nat),(Hv roots dec m).2.length<=m
 |0=>Ak _
 |m+1=>by
  have ih:=gu m;cases h:(DR roots dec)[m]? with
  |none=>
   have e:Hv roots dec (m+1)=Hv roots dec m:=by unfold Hv;rw[Bj,h];simp
   rw[e];omega
  |some n=>rw[bF h];exact AI (rg _ _) (EV ih)
theorem cg:∀{l l' : List (Nat×HO)},l.map Prod.fst=l'.map Prod.fst->(∀p∈l',p.2≠.free)->∀i,AQ (Ap l Ae) i->AQ (Ap l' Ae) i
 | [],[],_,_,_,h=>h
 |(a,o)::l,(a',o')::l',e,h,i,hu=>by
  rw[AK,AK]at e
  injection e with e1 e2
  have e1:a=a':=e1;subst e1;unfold AQ at *
  by_cases q:i=a
  .subst q;simp only[Ap,Dq,KT];exact h _ (Ab ..)
  .simp only[Ap,Df q,Ey]at hu⊢;exact cg e2 (fun p hp=>h p (Ah _ hp)) i hu
theorem nF:∀i,AQ (Ap (nE roots C A s dec st 0) Ae) i->AQ (Ap (nE roots C A s dec st m) Ae) i:=cg rfl (by
 repeat (first | exact Ci _ | refine Bc.2 ⟨by simp,?_⟩))
theorem gM:∀{l:List Cd},(∀c∈l,c.rel.reqs.length<=1073741824)->((l.map fun c=>c.rel.reqs.length)).sum<=l.length*1073741824
 | [],_=>by simp
 |c::l,h=>by
  have h1:=h c (Ab ..);have h2:=gM fun c hc=>h c (Ah _ hc);rw[AK,List.sum_cons,Ag];omega
theorem jy(hr:roots.length<=1073741824)(hd:dec.length<=1000)(h:∀c∈dec,c.rel.reqs.length<=1073741824):(DR roots dec).length<=1074815565824:=by
 rw[<-bI];unfold Gj;rw[B7]
 have:=gM h
 have:=A9 1073741824 hd
 omega
end
theorem bq:l.map BH++[BH n]=(l++[n]).map BH:=by rw[As];rfl
theorem Qz:(l.map BH).length+([BH n]:List (List AV)).length=(l.map BH++[BH n]).length:=Ac.symm
attribute [local irreducible] RfV xc Hv DR EK
theorem s64(hr:roots.length<=1073741824)(hd:dec.length<=1000)(wV:∀c∈dec,c.rel.reqs.length<=1073741824) :
  Ba Tryz.prog 186 [.ref 1000 0] (Ap (J4 roots C A s dec st) Ae) fun r h'=>r=.tup [vs (Ho roots dec).1,sl BH (Ho roots dec).2]/\h'=Ap (J4 roots C A s dec st) Ae:=by
 refine ia 5 0 9 5 (M7 El) (M7 El) cB rfl Da rfl Da hm rfl rfl Tryz.func186 Wk rfl (Nz rfl) Wk rfl 3 (yN (Xi (.gen cB 1) (Yi rfl (Ba.imp (Aeg roots C A s dec st) ?_))));intro v1 g1 q1;have ry:=q1.1;have rz:=q1.2;subst ry;subst rz;refine vH [nzA] Wk Wk Wk [(1000,1000),(1001,1001),(1002,1002),(1003,1003),(1004,1004),(10800,1005),(4,1006),(5,1007),(9,1008),(1,1009)] cA (nE roots C A s dec st 0) (nE roots C A s dec st (DR roots dec).length) 301 [.ref 1005 0] rfl Wk Wk Wk Wk Wk (fun l9 D9 f9 tm9 htm=>Aeh l9 roots C A s dec st hr (AI hd Cl) wV fun m n hn=>kB (σ:=cA) 1007 0 1008 (M7 ⟨[],[(43,5)],[],[],[],[],[],[],[],[(500005,60001007)],[5]⟩) rfl Da hm rfl rfl rfl htm Wk Wk Wk (nF m) ?_) Wk ?_
 .have hml:m<(DR roots dec).length:=(Av.1 hn).1;have hol:=gu (roots:=roots) (dec:=dec) m;have hnl:=jy hr hd wV;have hF:=bF hn;refine yN (Yi ⟨rfl,rfl⟩ (cU [(1,.ref 1009 0),(4,.ref 1006 0),(5,.ref 1007 0),(6,.ref 6 0)] [(6,.cells (BH n)),(60,.tok 5 ((Hv roots dec m).2.map BH).length),(1000,.cells (srM roots C A s dec 1004 st.length)),(1001,.tok 6 s.infs.length),(1002,.tok 1 s.drv.length),(1003,.map FY (F3 0 s.infs)),(1004,.arr 1 (st.map Bq)),(1005,.cells [.ref 1000 0]),(1006,.cells [vs (Hv roots dec m).1]),(1007,.cells [.slice (.id 60 5) ((Hv roots dec m).2.map BH)]),(1008,.vox m),(1009,.cells [.ref 1000 0])] Z4 Z12 (Cf (Bt (DU dec n.rq.path)) (fun h2=>?_) (fun h2=>?_))))
  .have hc3:=(zW roots C A s dec st n.rq.path (AI hd Cl));rw[show(DU dec n.rq.path)=true from h2]at hc3;refine Xi (.gen cB 0) (Yi rfl (Ba.imp hc3 ?_));intro v4 g4 q4;have q4a:=q4.1;have q4b:=q4.2;subst q4a;subst q4b;refine Yi ⟨rfl,rfl⟩ ?_
   -- [('(DU dec n.rq.path)=true',True)]
   exact⟨rfl,Vz (hF.trans (nG h2)) rfl rfl⟩
  have hc5:=(zW roots C A s dec st n.rq.path (AI hd Cl));rw[show(DU dec n.rq.path)=false from h2]at hc5;refine Xi (.gen cB 0) (Yi rfl (Ba.imp hc5 ?_));intro v6 g6 q6;have q6a:=q6.1;have q6b:=q6.2;subst q6a;subst q6b;refine Yi (fun h7=>?_) (fun h7=>?_)
  .have n7:0<(Hv roots dec m).2.length:=by have q:=h7;rw[Lm]at q;omega
   refine Yi (fun h8=>?_) (fun h8=>?_)
   .have h8:Ek (Hv roots dec m).1 n.rq.path=true:=(Gr _ _).trans h8;refine Yi ⟨rfl,rfl⟩ ?_
    -- [('(DU dec n.rq.path)=true',False),('(0:Int)<(((Hv roots dec m).2.map BH).length:Int)',True),('Ek (Hv roots dec m).1 n.rq.path=true',True)]
    exact⟨rfl,Vz (hF.trans (rf h7 h8)) rfl rfl⟩
   have h8:Ek (Hv roots dec m).1 n.rq.path=false:=(Gr _ _).trans (AM.2 h8);refine Yi (fun _=>?_) (fun hf=>absurd h7 hf);refine Yi (fun h9=>?_) (fun h9=>?_)
   .have h9:Ek n.rq.path (Hv roots dec m).1=true:=(Gr _ _).trans h9;refine yN (yN (yN ?_));have Xe:B5 5 [(BH n)]/\([(BH n)]:List (List AV)).length*72<=140737488355328/\([(BH n)]:List (List AV)).length<=9223372036854775807:=⟨⟨rfl,trivial⟩,(by simp only[Ag,Ao];omega),(by simp only[Ag,Ao];omega)⟩;refine Yi Xe (yN (Yi ⟨rfl,rfl⟩ ?_))
    -- [('(DU dec n.rq.path)=true',False),('(0:Int)<(((Hv roots dec m).2.map BH).length:Int)',True),('Ek (Hv roots dec m).1 n.rq.path=true',False),('Ek n.rq.path (Hv roots dec m).1=true',True)]
    exact⟨rfl,Vz (hF.trans (nH h2 h7 h8 h9)) rfl rfl⟩
   have h9:Ek n.rq.path (Hv roots dec m).1=false:=(Gr _ _).trans (AM.2 h9);refine yN (yN ?_);have tT:B5 5 [(BH n)]/\((Hv roots dec m).2.map BH).length=((Hv roots dec m).2.map BH).length/\(((Hv roots dec m).2.map BH).length+([(BH n)]:List (List AV)).length)*72<=140737488355328/\((Hv roots dec m).2.map BH).length+([(BH n)]:List (List AV)).length<=9223372036854775807:=⟨⟨rfl,trivial⟩,rfl,(by simp only[Lm,Ag,Ao];omega),(by simp only[Lm,Ag,Ao];omega)⟩;refine Yi tT (yN (Yi ⟨(Qz _ n).symm,rfl⟩ ?_))
   -- [('(DU dec n.rq.path)=true',False),('(0:Int)<(((Hv roots dec m).2.map BH).length:Int)',True),('Ek (Hv roots dec m).1 n.rq.path=true',False),('Ek n.rq.path (Hv roots dec m).1=true',False)]
   exact⟨rfl,Vz (hF.trans (nI h2 h8 h9)) (bq _ n) (Qz _ n)⟩
  have n7:¬0<(Hv roots dec m).2.length:=by have q:=h7;rw[Lm]at q;omega
  refine Yi (fun hf=>absurd hf h7) (fun _=>?_);refine yN (yN ?_);have wJ:B5 5 [(BH n)]/\((Hv roots dec m).2.map BH).length=((Hv roots dec m).2.map BH).length/\(((Hv roots dec m).2.map BH).length+([(BH n)]:List (List AV)).length)*72<=140737488355328/\((Hv roots dec m).2.map BH).length+([(BH n)]:List (List AV)).length<=9223372036854775807:=⟨⟨rfl,trivial⟩,rfl,(by simp only[Lm,Ag,Ao];omega),(by simp only[Lm,Ag,Ao];omega)⟩;refine Yi wJ (yN (Yi ⟨(Qz _ n).symm,rfl⟩ ?_))
  -- [('(DU dec n.rq.path)=true',False),('(0:Int)<(((Hv roots dec m).2.map BH).length:Int)',False)]
  exact⟨rfl,Vz (hF.trans (rh h2 h7)) (bq _ n) (Qz _ n)⟩
 refine Yi Wk ?_;exact Xi _ (Yi (.refl _) ⟨show AV.tup [vs (Hv roots dec (DR roots dec).length).1,sl BH (Hv roots dec (DR roots dec).length).2]=_ by rw[rd (Ak _)],rfl⟩)
end Go.Eng
namespace Go.Eng
open Go.Proofs
theorem jh{α:Type}(pr:α->Bool)(l:List α):(∃(k:Nat) (n:α),JK pr l 0=(k:Nat)/\l[k]?=some n/\l.find? pr=some n)\/(JK pr l 0=-1/\l.find? pr=none):=by
 have key:∀(l:List α) (b:Nat),(∃(k:Nat) (n:α),JK pr l (b:Nat)=((b+k:Nat):Int)/\l[k]?=some n/\l.find? pr=some n)\/(JK pr l (b:Nat)=-1/\l.find? pr=none):=by
  intro l
  induction l with
  |nil=>intro b;exact .inr Zr
  |cons y l ih=>
   intro b;cases h:pr y with
   |true=>exact .inl ⟨0,y,by unfold JK;rw[Al h];rfl,rfl,by rw[Fp,h]⟩
   |false=>
    have e:JK pr (y::l) (b:Nat)=JK pr l ((b+1:Nat):Int):=by
     conv=>lhs;unfold JK
     rw[Aj (by rw[h];decide)];rw[show((b+1:Nat):Int)=(b:Int)+1 by omega]
    have e2:(y::l).find? pr=l.find? pr:=by rw[Fp,h]
    rcases ih (b+1)with ⟨k,n,h1,h2,h3⟩ | ⟨h1,h2⟩
    .exact .inl ⟨k+1,n,by rw[e,h1];congr 1;omega,by simpa using h2,by rw[e2];exact h3⟩
    .exact .inr ⟨by rw[e];exact h1,by rw[e2];exact h2⟩
 have:=key l 0
 simpa using this
section
variable {rec:List Cd->SS->List (List Sk)->La}{x:List Rl}{p:ByteArray}{N:List Nd}{n0:Nd}{dec:List Cd}{st:List (List Sk)}{cs:List Cd}{i:Nat}{S:SS}{rs:List Nat}{sk:List Sk}
theorem lD(h:¬i<cs.length):EJ rec x p N n0 dec st (cs.drop i) S rs sk=⟨(Es x p n0 rs S).1,false,(Es x p n0 rs S).2,dec,st⟩:=by
 rw[Ce ch];rfl
theorem qd(h:i<cs.length)(hf:S.full=true):EJ rec x p N n0 dec st (cs.drop i) S rs sk=⟨0,false,S,dec,st⟩:=by
 rw[AH h,GX,Al hf]
theorem xF(h:i<cs.length)(hf:S.full=false){n:Nd}(hn:N.find? (fun n=>!has n.rq.set cs[i].place)=some n):EJ rec x p N n0 dec st (cs.drop i) S rs sk=EJ rec x p N n0 dec st (cs.drop (i+1)) (BX S n).2 (rs++[(BX S n).1]) sk:=by
 rw[AH h,GX,Aj (by rw[hf];decide),hn]
theorem YD(h:i<cs.length)(hf:S.full=false)(hn:N.find? (fun n=>!has n.rq.set cs[i].place)=none){k:Nat}(he:P0 S.drv (AR (dec++[cs[i]]))=some k):EJ rec x p N n0 dec st (cs.drop i) S rs sk=KO rec x p N n0 dec st cs[i] (cs.drop (i+1)) rs sk k S:=by
 rw[AH h,GX,Aj (by rw[hf];decide),hn];dsimp only;rw[he]
theorem ZY(h:i<cs.length)(hf:S.full=false)(hn:N.find? (fun n=>!has n.rq.set cs[i].place)=none)(he:P0 S.drv (AR (dec++[cs[i]]))=none){n:Nd}(hc:ED dec cs[i]=some n) :
  EJ rec x p N n0 dec st (cs.drop i) S rs sk=KO rec x p N n0 dec st cs[i] (cs.drop (i+1)) rs sk (BX S n).1 (BX S n).2:=by
 rw[AH h,GX,Aj (by rw[hf];decide),hn];dsimp only;rw[he];dsimp only;rw[hc]
theorem YE(h:i<cs.length)(hf:S.full=false)(hn:N.find? (fun n=>!has n.rq.set cs[i].place)=none)(he:P0 S.drv (AR (dec++[cs[i]]))=none)(hc:ED dec cs[i]=none){o:La}(ho:o=rec (dec++[cs[i]]) S (st++[sk])) :
  EJ rec x p N n0 dec st (cs.drop i) S rs sk=if o.found=true then⟨0,true,o.ss,o.dec,o.stack⟩else if o.ss.full=true then⟨0,false,o.ss,dec,st⟩else KO rec x p N n0 dec st cs[i] (cs.drop (i+1)) rs sk o.res o.ss:=by
 rw[ho,AH h,GX,Aj (by rw[hf];decide),hn];dsimp only;rw[he];dsimp only;rw[hc]
theorem fc{c:Cd}{l:List Cd}{k:Nat}(h:Eh (EW S k) p=false):KO rec x p N n0 dec st c l rs sk k S=⟨k,false,S,dec,st⟩:=by unfold KO;rw[Al h]
theorem Yq{c:Cd}{l:List Cd}{k:Nat}(h:Eh (EW S k) p=true):KO rec x p N n0 dec st c l rs sk k S=EJ rec x p N n0 dec st l S (rs++[k]) (sk++[⟨p,c.place,(k:Nat)⟩]):=by unfold KO;rw[Aj (by rw[h];decide)]
end
theorem aj{x:List Rl}{dec:List Cd}(h:E5 x dec):dec.length<=x.length:=by
 have h1:=Ja (m:=x.map (·.path)) h.nodup fun p hp=>by
  obtain⟨c,hc,rfl⟩:=Ai.1 hp;exact Ai.2 ⟨c.rel,(h.cand c hc).1,rfl⟩
 rw[Lm,Lm]at h1;exact h1
theorem Xj(x:List Rl)(p:ByteArray):(CC x p).length<=x.length:=by
 unfold CC;rw[Lm];exact Bw _ _
end Go.Eng
