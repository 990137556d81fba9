/- Lemmas for the claims of this seat, without a condition: part 30 (S9, S10, S8b). -/
import Derived.Test.YtmcbkdbfaneofaaGreatDoorA29
import Derived.Test.YtmcbkdbfaneofaaGreatDoorA04
set_option maxHeartbeats 4000000
namespace Go.Eng
open Go.Proofs
abbrev Zq:Ji:=[(1000,1000),(1001,1001),(1002,1002),(1003,1003),(1004,1004),(1005,1005),(1006,1006),(1007,1007),(1008,1008),(1009,1009)]
def Gw(roots:List Rq)(dec:List Cd)(m:Nat):ByteArray×List Nd:=((DD roots dec).take m).foldl (Et dec) (mt,[])
theorem Y0{roots:List Rq}{dec:List Cd}{m:Nat}{n:Nd}(h:(DD roots dec)[m]?=some n):Gw roots dec (m+1)=Et dec (Gw roots dec m) n:=by
 unfold Gw;rw[BC,h,KH];rfl
theorem mf{roots:List Rq}{dec:List Cd}{m:Nat}(h:(DD roots dec).length≤m):Gw roots dec m=G1 roots dec:=by
 unfold Gw G1;rw[AJ h]
def Fq(roots:List Rq)(dec:List Cd)(j:Nat):Nat:=roots.length+((dec.take j).map fun c=>c.rel.reqs.length).sum
theorem Uq(c:Cd):(QP c).length=c.rel.reqs.length:=K6 _ _ _
theorem dT(roots:List Rq)(dec:List Cd):Fq roots dec 0=roots.length:=by unfold Fq;simp
theorem dS{roots:List Rq}{dec:List Cd}{j:Nat}(h:j<dec.length):Fq roots dec (j+1)=Fq roots dec j+dec[j].rel.reqs.length:=by
 unfold Fq;rw[EV h,AH,List.sum_append];simp[Nat.add_assoc]
theorem Y3(roots:List Rq)(dec:List Cd):Fq roots dec dec.length=(DD roots dec).length:=by
 unfold Fq DD Zf;rw[Dp,Ad,K6,List.length_flatten,BW]
 congr 2
 exact Bn fun c _=>(Uq c).symm
theorem dL{roots:List Rq}{dec:List Cd}{i:Nat}(h:i<roots.length):(DD roots dec)[i]?=some ⟨roots[i],mt,0,(i:Nat)⟩:=by
 unfold DD Zf;rw[A4 (by rw[K6];exact h),PH,Ge h,FS,Bk]
theorem X7{α:Type}:∀{l:List (List α)} {j k:Nat} (hj:j<l.length),k<l[j].length→l.flatten[((l.take j).map List.length).sum+k]?=l[j][k]?
 |y::l,0,k,_,hk=>by
  rw[BJ,List.take_zero,Fm,List.sum_nil,Bk,A4 (show k<y.length from hk)];rfl
 |y::l,j+1,k,hj,hk=>by
  rw[BJ,Jh,AS,List.sum_cons,A1 (by omega)]
  have:=X7 (l:=l) (j:=j) (k:=k) (by simpa using hj) hk
  rw[show y.length+((l.take j).map List.length).sum+k-y.length=((l.take j).map List.length).sum+k by omega,this]
  rfl
theorem iW{roots:List Rq}{dec:List Cd}{j k:Nat}(hj:j<dec.length)(hk:k<dec[j].rel.reqs.length):(DD roots dec)[Fq roots dec j+k]?=some ⟨dec[j].rel.reqs[k],dec[j].rel.path,dec[j].place,(k:Nat)⟩:=by
 unfold DD Zf Fq;rw[A1 (by rw[K6];omega),K6];have h:=X7 (l:=dec.map QP) (j:=j) (k:=k) (by simpa using hj) (by rw[List.getElem_map,Uq];exact hk);rw[←JE,BW,show(List.length ∘ QP)=fun c=>c.rel.reqs.length from funext Uq]at h;rw[show roots.length+((dec.take j).map fun c=>c.rel.reqs.length).sum+k-roots.length=((dec.take j).map fun c=>c.rel.reqs.length).sum+k by omega,h,List.getElem_map];unfold QP;rw[PH,Ge hk,FS,Bk]
abbrev jf(roots:List Rq)(C A:List (Value×AV))(s:SS)(dec:List Cd)(st:List (List Sk))(m:Nat):List (Nat×HO) :=
  [(1000,.cells (uU roots C A s dec st.length)),(1001,.tok 6 s.infs.length),(1002,.tok 1 s.drv.length),(1003,.map D3 (D5 0 s.infs)),(1004,.arr 1 (st.map AX)),
   (1005,.cells [.ref 1000 0]),(1006,.cells [vs (Gw roots dec m).1]),(1007,.cells [.slice (.ver 1008 5 m) ((Gw roots dec m).2.map Bf)]),(1008,.var 5 m ((Gw roots dec m).2.map Bf).length),(1009,.cells [.ref 1000 0])]
noncomputable abbrev cxn(pl:Sj)(l:Nat)(Y:Gh→World→Prop):Cx:=⟨Tryz.prog,nO,pl,true,0,fun l' σ' g w=>l'=l→σ'=Zq→Y g w⟩
theorem Jb.pre{P:Program}{Y Y' : Gh→World→Prop}{l:Nat}{args:List AV}{h0:Nat→HO}{Q:AV→(Nat→HO)→Prop}(h:Jb P Y l args h0 Q)(hp:∀g w,Y' g w→Y g w):Jb P Y' l args h0 Q :=
 fun g w vals q1 q2 q3 q4=>h g w vals q1 q2 q3 (hp g w q4)
theorem yL(roots:List Rq)(C A:List (Value×AV))(s:SS)(dec:List Cd)(st:List (List Sk)):Bm Tryz.prog 150 [.ref 1000 0] (Aq (Js roots C A s dec st) Aa) fun r h'=>r=.clo 192 [.ref 2000 0]∧h'=Aq (Js roots C A s dec st++[(2000,.cells [.ref 1000 0])]) Aa:=by
 refine Ct (MZ ⟨[],[],[],[],[],[],[],[],[],[],[]⟩) [(1000,1000),(1001,1001),(1002,1002),(1003,1003),(1004,1004),(1,2000)] rfl CY hm rfl Tryz.func150 (by kernel_rfl) rfl (Nz rfl) (by kernel_rfl) rfl ?_;exact Xi _ (Yi (.refl _) Zr)
theorem yM{Y:Gh→World→Prop}(l:Nat)(roots:List Rq)(C A:List (Value×AV))(s:SS)(dec:List Cd)(st:List (List Sk))(hr:roots.length≤1073741824)(hd:dec.length≤1073741824)(nf:∀c∈dec,c.rel.reqs.length≤1073741824)
  (hy:∀m n,(DD roots dec)[m]?=some n→Jb Tryz.prog Y l [.agg (Bf n)] (Aq (jf roots C A s dec st m) Aa) fun r h'=>r=vb true∧h'=Aq (jf roots C A s dec st (m+1)) Aa) :
  XA Tryz.prog Y Zq 192 [.v (.func (.yield l) #[] #[]),.ref 1005 0] (Aq (jf roots C A s dec st 0) Aa) fun _ h'=>h'=Aq (jf roots C A s dec st (DD roots dec).length) Aa:=by
 have hr:roots.length≤1073741824:=hr;refine iz (l:=l) (cxn ⟨[],[],[],[],[],[],[],[],[],[],[4,12]⟩ l Y) Zq rfl CY hm rfl Tryz.func192 (by kernel_rfl) rfl (Nz rfl) (by kernel_rfl) rfl rfl ?_;refine Xi {i:Nat // i≤roots.length} (Xi (fun q=>⟨[(0,.v (.func (.yield l) #[] #[])),(1,.ref 1005 0),(12,sl AN roots),(13,vi (roots.map AN).length),(14,vi q.1)],[(1000,.cells (srM roots C A s dec 1004 st.length)),(1001,.tok 6 s.infs.length),(1002,.tok 1 s.drv.length),(1003,.map D3 (D5 0 s.infs)),(1004,.arr 1 (st.map AX)),(1005,.cells [.ref 1000 0]),(1006,.cells [vs (Gw roots dec q.1).1]),(1007,.cells [.slice (.ver 1008 5 q.1) ((Gw roots dec q.1).2.map Bf)]),(1008,.var 5 q.1 ((Gw roots dec q.1).2.map Bf).length),(1009,.cells [.ref 1000 0])],Aa⟩) (Xi (fun q=>roots.length-q.1) (Yi (Xi ⟨0,AG _⟩ ?_) ?_)))
 ·exact⟨Z5,Z10,Fh,AD (by kernel_rfl)⟩
 intro⟨i,i1⟩;have i1:i≤roots.length:=i1;refine Yi (fun h1=>?_) (fun h1=>?_)
 ·have h1:(i:Int)<((roots.map AN).length:Int):=h1;have n1:=H5 h1;refine Xi (AN roots[i]) (Yi (Jp n1) (Yi rfl ?_));refine Yi (Nz rfl) ?_;refine Yi (Nz rfl) ?_;refine Yi (Nz rfl) ?_;refine Xi (.gen Zq 0) (Yi rfl (Jb.imp (Jb.pre (hy i ⟨roots[i],mt,0,(i:Nat)⟩ (dL n1)) (fun g w q=>q rfl rfl)) ?_));intro v2 g2 q2;have yk:=q2.1;have ym:=q2.2;subst yk;subst ym;refine Xi ⟨[(0,.v (.func (.yield l) #[] #[])),(1,.ref 1005 0),(12,sl AN roots),(13,vi (roots.map AN).length),(14,vi i)],[(1000,.cells (srM roots C A s dec 1004 st.length)),(1001,.tok 6 s.infs.length),(1002,.tok 1 s.drv.length),(1003,.map D3 (D5 0 s.infs)),(1004,.arr 1 (st.map AX)),(1005,.cells [.ref 1000 0]),(1006,.cells [vs (Gw roots dec (i+1)).1]),(1007,.cells [.slice (.ver 1008 5 (i+1)) ((Gw roots dec (i+1)).2.map Bf)]),(1008,.var 5 (i+1) ((Gw roots dec (i+1)).2.map Bf).length),(1009,.cells [.ref 1000 0])],Aa⟩ (Yi ⟨Z5,Z10,Fh,AD (by kernel_rfl)⟩ ?_)
  refine Yi (Ii i (by omega)) ?_;refine Xi ⟨i+1,by omega⟩ ?_;exact⟨Dl roots.length i (by omega),Z5,Z10,Fh,AD (by kernel_rfl)⟩
 have h1:¬((i:Int)<((roots.map AN).length:Int)):=h1;have n1:=H4 h1;have hE:i=Fq roots dec 0:=by rw[dT];omega
 refine Xi {j:Nat // j≤dec.length} (Xi (fun q=>⟨[(0,.v (.func (.yield l) #[] #[])),(29,sl AI dec),(30,vi (dec.map AI).length),(31,vi q.1)],[(1000,.cells (srM roots C A s dec 1004 st.length)),(1001,.tok 6 s.infs.length),(1002,.tok 1 s.drv.length),(1003,.map D3 (D5 0 s.infs)),(1004,.arr 1 (st.map AX)),(1005,.cells [.ref 1000 0]),(1006,.cells [vs (Gw roots dec (Fq roots dec q.1)).1]),(1007,.cells [.slice (.ver 1008 5 (Fq roots dec q.1)) ((Gw roots dec (Fq roots dec q.1)).2.map Bf)]),(1008,.var 5 (Fq roots dec q.1) ((Gw roots dec (Fq roots dec q.1)).2.map Bf).length),(1009,.cells [.ref 1000 0])],Aa⟩) (Xi (fun q=>dec.length-q.1) (Yi (Xi ⟨0,AG _⟩ ?_) ?_)))
 ·exact⟨Z4,⟨Zr,Zr,Zr,Zr,Zr,Zr,⟨(show .cells [vs (Gw roots dec i).1]=(.cells [vs (Gw roots dec (Fq roots dec 0)).1]:HO) by rw[hE]),rfl⟩,⟨(show .cells [.slice (.ver 1008 5 i) ((Gw roots dec i).2.map Bf)]=(.cells [.slice (.ver 1008 5 (Fq roots dec 0)) ((Gw roots dec (Fq roots dec 0)).2.map Bf)]:HO) by rw[hE]),rfl⟩,⟨(show .var 5 i ((Gw roots dec i).2.map Bf).length=(.var 5 (Fq roots dec 0) ((Gw roots dec (Fq roots dec 0)).2.map Bf).length:HO) by rw[hE]),rfl⟩,Zr,Tv⟩,Fh,AD (by kernel_rfl)⟩
 intro⟨j,j1⟩;have j1:j≤dec.length:=j1;refine Yi (fun h4=>?_) (fun h4=>?_)
 ·have h4:(j:Int)<((dec.map AI).length:Int):=h4;have n4:=H5 h4;have uj:=nf dec[j] (Ak n4);refine Xi (AI dec[j]) (Yi (Jp n4) (Yi rfl ?_));refine Yi (Nz rfl) ?_;refine Yi (Nz rfl) ?_;refine Xi {k:Nat // k≤dec[j].rel.reqs.length} (Xi (fun q=>⟨[(0,.v (.func (.yield l) #[] #[])),(6,.ref 6 0),(29,sl AI dec),(30,vi (dec.map AI).length),(31,vi j),(37,sl AN dec[j].rel.reqs),(38,vi (dec[j].rel.reqs.map AN).length),(39,vi q.1)],[(6,.cells (AI dec[j])),(1000,.cells (srM roots C A s dec 1004 st.length)),(1001,.tok 6 s.infs.length),(1002,.tok 1 s.drv.length),(1003,.map D3 (D5 0 s.infs)),(1004,.arr 1 (st.map AX)),(1005,.cells [.ref 1000 0]),(1006,.cells [vs (Gw roots dec (Fq roots dec j+q.1)).1]),(1007,.cells [.slice (.ver 1008 5 (Fq roots dec j+q.1)) ((Gw roots dec (Fq roots dec j+q.1)).2.map Bf)]),(1008,.var 5 (Fq roots dec j+q.1) ((Gw roots dec (Fq roots dec j+q.1)).2.map Bf).length),(1009,.cells [.ref 1000 0])],Aa⟩) (Xi (fun q=>dec[j].rel.reqs.length-q.1) (Yi (Xi ⟨0,AG _⟩ ?_) ?_)))
  ·exact⟨Z8,Z11,Fh,AD (by kernel_rfl)⟩
  intro⟨k,k1⟩;have k1:k≤dec[j].rel.reqs.length:=k1;refine Yi (fun h5=>?_) (fun h5=>?_)
  ·have h5:(k:Int)<((dec[j].rel.reqs.map AN).length:Int):=h5;have n5:=H5 h5;refine Xi (AN dec[j].rel.reqs[k]) (Yi (Jp n5) (Yi rfl ?_));refine Yi (Nz rfl) ?_;refine Yi (Nz rfl) ?_;refine Yi (Nz rfl) ?_;refine Xi (.gen Zq 0) (Yi rfl (Jb.imp (Jb.pre (hy (Fq roots dec j+k) ⟨dec[j].rel.reqs[k],dec[j].rel.path,dec[j].place,(k:Nat)⟩ (iW n4 n5)) (fun g w q=>q rfl rfl)) ?_));intro v6 g6 q6;have yz:=q6.1;have yA:=q6.2;subst yz;subst yA;refine Xi ⟨[(0,.v (.func (.yield l) #[] #[])),(6,.ref 6 0),(29,sl AI dec),(30,vi (dec.map AI).length),(31,vi j),(37,sl AN dec[j].rel.reqs),(38,vi (dec[j].rel.reqs.map AN).length),(39,vi k)],[(6,.cells (AI dec[j])),(1000,.cells (srM roots C A s dec 1004 st.length)),(1001,.tok 6 s.infs.length),(1002,.tok 1 s.drv.length),(1003,.map D3 (D5 0 s.infs)),(1004,.arr 1 (st.map AX)),(1005,.cells [.ref 1000 0]),(1006,.cells [vs (Gw roots dec (Fq roots dec j+(k+1))).1]),(1007,.cells [.slice (.ver 1008 5 (Fq roots dec j+(k+1))) ((Gw roots dec (Fq roots dec j+(k+1))).2.map Bf)]),(1008,.var 5 (Fq roots dec j+(k+1)) ((Gw roots dec (Fq roots dec j+(k+1))).2.map Bf).length),(1009,.cells [.ref 1000 0])],Aa⟩ (Yi ⟨Z8,Z11,Fh,AD (by kernel_rfl)⟩ ?_)
   refine Yi (Ii k (by omega)) ?_;refine Xi ⟨k+1,by omega⟩ ?_;exact⟨by show dec[j].rel.reqs.length-(k+1)<dec[j].rel.reqs.length-k;omega,Z8,Z11,Fh,AD (by kernel_rfl)⟩
  have h5:¬((k:Int)<((dec[j].rel.reqs.map AN).length:Int)):=h5;have n5:=H4 h5;refine Yi (Ii j (by omega)) ?_;have hE:Fq roots dec j+k=Fq roots dec (j+1):=by rw[dS n4];omega
  refine Xi ⟨j+1,by omega⟩ ?_;exact⟨Dl dec.length j (by omega),Z4,⟨Zr,Zr,Zr,Zr,Zr,Zr,⟨(show .cells [vs (Gw roots dec (Fq roots dec j+k)).1]=(.cells [vs (Gw roots dec (Fq roots dec (j+1))).1]:HO) by rw[hE]),rfl⟩,⟨(show .cells [.slice (.ver 1008 5 (Fq roots dec j+k)) ((Gw roots dec (Fq roots dec j+k)).2.map Bf)]=(.cells [.slice (.ver 1008 5 (Fq roots dec (j+1))) ((Gw roots dec (Fq roots dec (j+1))).2.map Bf)]:HO) by rw[hE]),rfl⟩,⟨(show .var 5 (Fq roots dec j+k) ((Gw roots dec (Fq roots dec j+k)).2.map Bf).length=(.var 5 (Fq roots dec (j+1)) ((Gw roots dec (Fq roots dec (j+1))).2.map Bf).length:HO) by rw[hE]),rfl⟩,Zr,Tv⟩,Fh,AD (by kernel_rfl)⟩
 have h4:¬((j:Int)<((dec.map AI).length:Int)):=h4;have n4:=H4 h4;exact Ab (fun m=>Aq (jf roots C A s dec st m) Aa) (show Fq roots dec j=(DD roots dec).length by rw[←Y3];congr 1;omega)
theorem pJ{h:Nat→HO}{o k r sz:Nat}{cs:List AV}{K:(Nat→HO)→Prop}(c1:h o=.cells cs)(c2:Jq cs k=.v (.slice none 0 0))(c3:h r=.free)(hk:K (A2 (A2 h r (.var sz 0 0)) o (.cells (EO cs k (.slice (.ver r sz 0) []))))):qG h o k r sz K:=by
 unfold qG;rw[c1];show match Jq cs k with
  |.v (.slice none 0 0)=>match h r with
   |.free=>K (A2 (A2 h r (.var sz 0 0)) o (.cells (EO cs k (.slice (.ver r sz 0) []))))
   |_=>False
  |_=>False
 rw[c2,c3];exact hk
theorem pW{o k r0 sz:Nat}{cR:Cx}{P:Program}{N:Nat}{fn:Func}{σ:Ji}{Q:AV→(Nat→HO)→Prop}{b rest:Code}{st:St}(cs:List AV)(c1:st.h o=.cells cs)(c2:Jq cs k=.v (.slice none 0 0))(c3:st.h r0=.free)(σF σr:Ji)(H0 Hn:List (Nat×HO))(gf:Nat)(caps:List AV)
  {mX s:Nat} {ps:Array Tmp} {GZ body:Code} (hb:b=.block mX (.rangeFunc (.tmp s) ps GZ body)) (k1:(Ey σF&&DO (A2 (A2 st.h r0 (.var sz 0 0)) o (.cells (EO cs k (.slice (.ver r0 sz 0) [])))) 0 0&&DA σF 0 0)=true) (k2:FU σF (A2 (A2 st.h r0 (.var sz 0 0)) o (.cells (EO cs k (.slice (.ver r0 sz 0) []))))=Aq H0 Aa) (k3:(G5 σr&&IR σr H0)=true) (k4:IR σr Hn=true)
  (k5:ren (CC σF) (A2 (A2 st.h r0 (.var sz 0 0)) o (.cells (EO cs k (.slice (.ver r0 sz 0) [])))) (st.t s)=.clo gf caps)
  (k6:∀(l D:Nat) (f' : FuncId) (tm:Array Value),tm.size=N→XA P (fun g w=>w.heap[l]?=some (.loop (Im f' tm ps GZ body D .ready))∧∀i,BS g w (AU (Aq H0 Aa)) (ren (CC σF) (A2 (A2 st.h r0 (.var sz 0 0)) o (.cells (EO cs k (.slice (.ver r0 sz 0) [])))) (st.t i)) (tm.getD i undef)) σr gf
   (.v (.func (.yield l) #[] #[])::caps) (Aq H0 Aa) fun _ h'=>h'=Aq Hn Aa)
  (k7:EH N rest=true) (k8:RV cR rest (XY cR fn.results.toList σr fun r h'=>Q (ren (CC σ) (Eg σF 0 0 (A2 (A2 st.h r0 (.var sz 0 0)) o (.cells (EO cs k (.slice (.ver r0 sz 0) [])))) h') (ren (Fo σF 0 0) h' r)) (FU σ (Eg σF 0 0 (A2 (A2 st.h r0 (.var sz 0 0)) o (.cells (EO cs k (.slice (.ver r0 sz 0) [])))) h')))
   ⟨fun i=>ren (CC σF) (A2 (A2 st.h r0 (.var sz 0 0)) o (.cells (EO cs k (.slice (.ver r0 sz 0) [])))) (st.t i),Aq Hn Aa⟩) (k9:OT [] body=false:=by kernel_rfl):u5 o k r0 sz cR P N fn σ Q b rest st :=
 pJ c1 c2 c3 ⟨σF,σr,H0,Hn,mX,s,ps,GZ,body,gf,caps,hb,k1,k2,k3,k4,k5,k6,k7,k9,k8⟩
section
variable {roots:List Rq}{C A:List (Value×AV)}{s:SS}{dec:List Cd}{st:List (List Sk)}{n:Nd}
theorem Ug{m:Nat}{p:ByteArray}{o:List Nd}(e:Gw roots dec (m+1)=(p,o)){es:List (List AV)}{k:Nat}(h1:es=o.map Bf)(h2:k=es.length) :
  Aq [(1000,.cells (uU roots C A s dec st.length)),(1001,.tok 6 s.infs.length),(1002,.tok 1 s.drv.length),(1003,.map D3 (D5 0 s.infs)),(1004,.arr 1 (st.map AX)),
   (1005,.cells [.ref 1000 0]),(1006,.cells [vs p]),(1007,.cells [.slice (.ver 1008 5 (m+1)) es]),(1008,.var 5 (m+1) k),(1009,.cells [.ref 1000 0])] Aa=Aq (jf roots C A s dec st (m+1)) Aa:=by
 subst h1;subst h2
 rw[show jf roots C A s dec st (m+1)=[(1000,.cells (uU roots C A s dec st.length)),(1001,.tok 6 s.infs.length),(1002,.tok 1 s.drv.length),(1003,.map D3 (D5 0 s.infs)),(1004,.arr 1 (st.map AX)),
   (1005,.cells [.ref 1000 0]),(1006,.cells [vs (Gw roots dec (m+1)).1]),(1007,.cells [.slice (.ver 1008 5 (m+1)) ((Gw roots dec (m+1)).2.map Bf)]),(1008,.var 5 (m+1) ((Gw roots dec (m+1)).2.map Bf).length),(1009,.cells [.ref 1000 0])]from rfl,e]
theorem jh{a:ByteArray×List Nd}(h:Dt dec n.rq.path=true):Et dec a n=(a.1,a.2):=by unfold Et;rw[Ax (.inl h)]
theorem iV{o:List Nd}(h:(0:Int)<((o.map Bf).length:Int)):o≠[]:=fun e=>by subst e;simp at h
theorem l8{o:List Nd}(h:¬(0:Int)<((o.map Bf).length:Int)):o=[]:=by
 cases o with
 |nil=>rfl
 |cons y l=>exact absurd (by simp) h
theorem mg{a:ByteArray×List Nd}(h:(0:Int)<((a.2.map Bf).length:Int))(hb:EM a.1 n.rq.path=true):Et dec a n=(a.1,a.2):=by unfold Et;rw[Ax (.inr ⟨iV h,hb⟩)]
theorem ji{a:ByteArray×List Nd}(hd:Dt dec n.rq.path=false)(h:(0:Int)<((a.2.map Bf).length:Int))(hb:EM a.1 n.rq.path=false)(hs:EM n.rq.path a.1=true):Et dec a n=(n.rq.path,[n]):=by
 unfold Et;rw[Ao (by rw[hd,hb];simp),Ax ⟨iV h,hs⟩]
theorem jj{a:ByteArray×List Nd}(hd:Dt dec n.rq.path=false)(hb:EM a.1 n.rq.path=false)(hs:EM n.rq.path a.1=false):Et dec a n=(n.rq.path,a.2++[n]):=by
 unfold Et;rw[Ao (by rw[hd,hb];simp),Ao (by rw[hs];simp)]
theorem mi{a:ByteArray×List Nd}(hd:Dt dec n.rq.path=false)(h:¬(0:Int)<((a.2.map Bf).length:Int)):Et dec a n=(n.rq.path,a.2++[n]):=by
 have:=l8 h
 unfold Et;rw[Ao (by rw[hd,this];simp),Ao (by rw[this];simp)]
theorem mh(a:ByteArray×List Nd)(n:Nd):(Et dec a n).2.length≤a.2.length+1:=by
 unfold Et;split
 ·omega
 ·split
  ·simp
  ·simp
theorem bP:∀(m:Nat),(Gw roots dec m).2.length≤m
 |0=>Al _
 |m+1=>by
  have ih:=bP m;cases h:(DD roots dec)[m]? with
  |none =>
   have e:Gw roots dec (m+1)=Gw roots dec m:=by unfold Gw;rw[BC,h];simp
   rw[e];omega
  |some n=>rw[Y0 h];exact A3 (mh _ _) (DR ih)
theorem Zk:∀{l l' : List (Nat×HO)},l.map Prod.fst=l'.map Prod.fst→(∀p∈l',p.2≠.free)→∀i,AU (Aq l Aa) i→AU (Aq l' Aa) i
 | [],[],_,_,_,h=>h
 |(a,o)::l,(a',o')::l',e,h,i,hu=>by
  rw[AS,AS]at e
  injection e with e1 e2
  have e1:a=a':=e1;subst e1;unfold AU at *
  by_cases q:i=a
  ·subst q;simp only[Aq,Dg,Ke];exact h _ (Ac ..)
  ·simp only[Aq,CV q,Ez]at hu⊢;exact Zk e2 (fun p hp=>h p (Af _ hp)) i hu
theorem jg(m:Nat):∀i,AU (Aq (jf roots C A s dec st 0) Aa) i→AU (Aq (jf roots C A s dec st m) Aa) i:=Zk rfl (by
 repeat (first | exact B5 _ | refine BG.2 ⟨by simp,?_⟩))
theorem cn:∀{l:List Cd},(∀c∈l,c.rel.reqs.length≤1073741824)→((l.map fun c=>c.rel.reqs.length)).sum≤l.length*1073741824
 | [],_=>by simp
 |c::l,h=>by
  have h1:=h c (Ac ..);have h2:=cn fun c hc=>h c (Af _ hc);rw[AS,List.sum_cons,Au];omega
theorem dM(hr:roots.length≤1073741824)(hd:dec.length≤1000)(h:∀c∈dec,c.rel.reqs.length≤1073741824):(DD roots dec).length≤1074815565824:=by
 rw[←Y3];unfold Fq;rw[Dp]
 have:=cn h
 have:=Bs 1073741824 hd
 omega
end
theorem YM(l:List Nd)(n:Nd):l.map Bf++[Bf n]=(l++[n]).map Bf:=by rw[AH];rfl
theorem Pw(l:List Nd)(n:Nd):(l.map Bf).length+([Bf n]:List (List AV)).length=(l.map Bf++[Bf n]).length:=Ad.symm
attribute [local irreducible] u5 qG Gw DD Et
theorem s64(roots:List Rq)(C A:List (Value×AV))(s:SS)(dec:List Cd)(st:List (List Sk))(hr:roots.length≤1073741824)(hd:dec.length≤1000)(nf:∀c∈dec,c.rel.reqs.length≤1073741824) :
  Bm Tryz.prog 119 [.ref 1000 0] (Aq (Js roots C A s dec st) Aa) fun r h'=>r=.tup [vs (G1 roots dec).1,sl Bf (G1 roots dec).2]∧h'=Aq (Js roots C A s dec st) Aa:=by
 refine cy 5 0 9 5 (MZ ⟨[],[],[],[],[],[],[],[],[],[],[]⟩) (MZ E8) Zs rfl CY rfl CY hm rfl rfl Tryz.func119 (by kernel_rfl) rfl (Nz rfl) (by kernel_rfl) rfl 3 ?_;refine Yi (Nz rfl) ?_;refine Xi (.gen Zs 1) (Yi rfl (Bm.imp (yL roots C A s dec st) ?_));intro v1 g1 q1;have jD:=q1.1;have jE:=q1.2;subst jD;subst jE;refine pW [.v (.slice none 0 0)] (by kernel_rfl) (by kernel_rfl) (by kernel_rfl) [(1000,1000),(1001,1001),(1002,1002),(1003,1003),(1004,1004),(10800,1005),(4,1006),(5,1007),(9,1008),(1,1009)] Zq (jf roots C A s dec st 0) (jf roots C A s dec st (DD roots dec).length) 192 [.ref 1005 0] rfl (by kernel_rfl) (by kernel_rfl) (by kernel_rfl) (by kernel_rfl) (by kernel_rfl) (fun l9 D9 f9 tm9 ux=>yM l9 roots C A s dec st hr (A3 hd (by decide)) nf fun m n hn=>fh (σ:=Zq) 1007 0 1008 (MZ ⟨[],[(43,5)],[],[],[],[],[],[],[],[(500005,60001007)],[5]⟩) rfl CY hm rfl rfl rfl ux (by kernel_rfl) (by kernel_rfl) (by kernel_rfl) (jg m) ?_) (by kernel_rfl) ?_
 ·have zR:m<(DD roots dec).length:=(Aw.1 hn).1;have hol:=bP (roots:=roots) (dec:=dec) m;have hnl:=dM hr hd nf;have hF:=Y0 hn;refine Yi (Nz rfl) ?_;refine Yi ⟨rfl,rfl⟩ ?_;refine Xi ⟨[(1,.ref 1009 0),(4,.ref 1006 0),(5,.ref 1007 0),(6,.ref 6 0)],[(6,.cells (Bf n)),(60,.tok 5 ((Gw roots dec m).2.map Bf).length),(1000,.cells (srM roots C A s dec 1004 st.length)),(1001,.tok 6 s.infs.length),(1002,.tok 1 s.drv.length),(1003,.map D3 (D5 0 s.infs)),(1004,.arr 1 (st.map AX)),(1005,.cells [.ref 1000 0]),(1006,.cells [vs (Gw roots dec m).1]),(1007,.cells [.slice (.id 60 5) ((Gw roots dec m).2.map Bf)]),(1008,.vox m),(1009,.cells [.ref 1000 0])],Aa⟩ (Yi ⟨Z4,Z12,Fh,AD (by kernel_rfl)⟩ ?_)
  refine Bq (Bt (Dt dec n.rq.path)) (fun h2=>?_) (fun h2=>?_)
  ·have h2:(Dt dec n.rq.path)=true:=h2;have zz:=(tM roots C A s dec st n.rq.path (A3 hd (by decide)));rw[show(Dt dec n.rq.path)=true from h2]at zz;refine Xi (.gen Zs 0) (Yi rfl (Bm.imp zz ?_));intro v4 g4 q4;have yx:=q4.1;have yy:=q4.2;subst yx;subst yy;refine Yi ⟨rfl,rfl⟩ ?_
   -- [('(Dt dec n.rq.path)=true',True)]
   exact⟨rfl,Ug (hF.trans (jh h2)) rfl rfl⟩
  have h2:(Dt dec n.rq.path)=false:=h2;have zA:=(tM roots C A s dec st n.rq.path (A3 hd (by decide)));rw[show(Dt dec n.rq.path)=false from h2]at zA;refine Xi (.gen Zs 0) (Yi rfl (Bm.imp zA ?_));intro v6 g6 q6;have yz:=q6.1;have yA:=q6.2;subst yz;subst yA;refine Yi (fun h7=>?_) (fun h7=>?_)
  ·have h7:(0:Int)<(((Gw roots dec m).2.map Bf).length:Int):=h7;have n7:0<(Gw roots dec m).2.length:=by have q:=h7;rw[Lm]at q;omega
   refine Yi (fun h8=>?_) (fun h8=>?_)
   ·have h8:EM (Gw roots dec m).1 n.rq.path=true:=(E0 _ _).trans h8;refine Yi ⟨rfl,rfl⟩ ?_
    -- [('(Dt dec n.rq.path)=true',False),('(0:Int)<(((Gw roots dec m).2.map Bf).length:Int)',True),('EM (Gw roots dec m).1 n.rq.path=true',True)]
    exact⟨rfl,Ug (hF.trans (mg h7 h8)) rfl rfl⟩
   have h8:EM (Gw roots dec m).1 n.rq.path=false:=(E0 _ _).trans (AF.2 h8);refine Yi (fun _=>?_) (fun hf=>absurd h7 hf);refine Yi (fun h9=>?_) (fun h9=>?_)
   ·have h9:EM n.rq.path (Gw roots dec m).1=true:=(E0 _ _).trans h9;refine Yi (Nz rfl) ?_;refine Yi (Nz rfl) ?_;refine Yi (Nz rfl) ?_;have Zm:CT 5 [(Bf n)]∧([(Bf n)]:List (List AV)).length*72≤140737488355328∧([(Bf n)]:List (List AV)).length≤9223372036854775807:=⟨⟨rfl,trivial⟩,(by simp only[Au,Ay];omega),(by simp only[Au,Ay];omega)⟩;refine Yi Zm ?_;refine Yi (Nz rfl) ?_;refine Yi ⟨rfl,rfl⟩ ?_
    -- [('(Dt dec n.rq.path)=true',False),('(0:Int)<(((Gw roots dec m).2.map Bf).length:Int)',True),('EM (Gw roots dec m).1 n.rq.path=true',False),('EM n.rq.path (Gw roots dec m).1=true',True)]
    exact⟨rfl,Ug (hF.trans (ji h2 h7 h8 h9)) rfl rfl⟩
   have h9:EM n.rq.path (Gw roots dec m).1=false:=(E0 _ _).trans (AF.2 h9);refine Yi (Nz rfl) ?_;refine Yi (Nz rfl) ?_;have og:CT 5 [(Bf n)]∧((Gw roots dec m).2.map Bf).length=((Gw roots dec m).2.map Bf).length∧(((Gw roots dec m).2.map Bf).length+([(Bf n)]:List (List AV)).length)*72≤140737488355328∧((Gw roots dec m).2.map Bf).length+([(Bf n)]:List (List AV)).length≤9223372036854775807:=⟨⟨rfl,trivial⟩,rfl,(by simp only[Lm,Au,Ay];omega),(by simp only[Lm,Au,Ay];omega)⟩;refine Yi og ?_;refine Yi (Nz rfl) ?_;refine Yi ⟨(Pw _ n).symm,rfl⟩ ?_
   -- [('(Dt dec n.rq.path)=true',False),('(0:Int)<(((Gw roots dec m).2.map Bf).length:Int)',True),('EM (Gw roots dec m).1 n.rq.path=true',False),('EM n.rq.path (Gw roots dec m).1=true',False)]
   exact⟨rfl,Ug (hF.trans (jj h2 h8 h9)) (YM _ n) (Pw _ n)⟩
  have h7:¬((0:Int)<(((Gw roots dec m).2.map Bf).length:Int)):=h7;have n7:¬0<(Gw roots dec m).2.length:=by have q:=h7;rw[Lm]at q;omega
  refine Yi (fun hf=>absurd hf h7) (fun _=>?_);refine Yi (Nz rfl) ?_;refine Yi (Nz rfl) ?_;have tZ:CT 5 [(Bf n)]∧((Gw roots dec m).2.map Bf).length=((Gw roots dec m).2.map Bf).length∧(((Gw roots dec m).2.map Bf).length+([(Bf n)]:List (List AV)).length)*72≤140737488355328∧((Gw roots dec m).2.map Bf).length+([(Bf n)]:List (List AV)).length≤9223372036854775807:=⟨⟨rfl,trivial⟩,rfl,(by simp only[Lm,Au,Ay];omega),(by simp only[Lm,Au,Ay];omega)⟩;refine Yi tZ ?_;refine Yi (Nz rfl) ?_;refine Yi ⟨(Pw _ n).symm,rfl⟩ ?_
  -- [('(Dt dec n.rq.path)=true',False),('(0:Int)<(((Gw roots dec m).2.map Bf).length:Int)',False)]
  exact⟨rfl,Ug (hF.trans (mi h2 h7)) (YM _ n) (Pw _ n)⟩
 refine Yi (by kernel_rfl) ?_;exact Xi _ (Yi (.refl _) ⟨show AV.tup [vs (Gw roots dec (DD roots dec).length).1,sl Bf (Gw roots dec (DD roots dec).length).2]=_ by rw[mf (Al _)],rfl⟩)
end Go.Eng
namespace Go.Eng
open Go.Proofs
theorem du{α:Type}(pr:α→Bool)(l:List α):(∃(k:Nat) (n:α),Iw pr l 0=(k:Nat)∧l[k]?=some n∧l.find? pr=some n)∨(Iw pr l 0=-1∧l.find? pr=none):=by
 have key:∀(l:List α) (b:Nat),(∃(k:Nat) (n:α),Iw pr l (b:Nat)=((b+k:Nat):Int)∧l[k]?=some n∧l.find? pr=some n)∨(Iw pr l (b:Nat)=-1∧l.find? pr=none):=by
  intro l
  induction l with
  |nil=>intro b;exact .inr Zr
  |cons y l ih =>
   intro b;cases h:pr y with
   |true=>exact .inl ⟨0,y,by unfold Iw;rw[Ax h];rfl,rfl,by rw[FO,h]⟩
   |false =>
    have e:Iw pr (y::l) (b:Nat)=Iw pr l ((b+1:Nat):Int):=by
     conv=>lhs;unfold Iw
     rw[Ao (by rw[h];decide)];rw[show((b+1:Nat):Int)=(b:Int)+1 by omega]
    have e2:(y::l).find? pr=l.find? pr:=by rw[FO,h]
    rcases ih (b+1)with ⟨k,n,h1,h2,h3⟩ | ⟨h1,h2⟩
    ·exact .inl ⟨k+1,n,by rw[e,h1];congr 1;omega,by simpa using h2,by rw[e2];exact h3⟩
    ·exact .inr ⟨by rw[e];exact h1,by rw[e2];exact h2⟩
 have:=key l 0
 simpa using this
section
variable {rec:List Cd→SS→List (List Sk)→Ks}{x:List Rl}{p:ByteArray}{N:List Nd}{n0:Nd}{dec:List Cd}{st:List (List Sk)}{cs:List Cd}{i:Nat}{S:SS}{rs:List Nat}{sk:List Sk}
theorem ge(h:¬i<cs.length):Eb rec x p N n0 dec st (cs.drop i) S rs sk=⟨(Ed x p n0 rs S).1,false,(Ed x p n0 rs S).2,dec,st⟩:=by
 rw[DI (by omega)];rfl
theorem kT(h:i<cs.length)(hf:S.full=true):Eb rec x p N n0 dec st (cs.drop i) S rs sk=⟨0,false,S,dec,st⟩:=by
 rw[Be h,GE,Ax hf]
theorem rx(h:i<cs.length)(hf:S.full=false){n:Nd}(hn:N.find? (fun n=>!has n.rq.set cs[i].place)=some n):Eb rec x p N n0 dec st (cs.drop i) S rs sk=Eb rec x p N n0 dec st (cs.drop (i+1)) (Bw S n).2 (rs++[(Bw S n).1]) sk:=by
 rw[Be h,GE,Ao (by rw[hf];decide),hn]
theorem WF(h:i<cs.length)(hf:S.full=false)(hn:N.find? (fun n=>!has n.rq.set cs[i].place)=none){k:Nat}(he:OZ S.drv (AO (dec++[cs[i]]))=some k):Eb rec x p N n0 dec st (cs.drop i) S rs sk=Ka rec x p N n0 dec st cs[i] (cs.drop (i+1)) rs sk k S:=by
 rw[Be h,GE,Ao (by rw[hf];decide),hn];dsimp only;rw[he]
theorem XP(h:i<cs.length)(hf:S.full=false)(hn:N.find? (fun n=>!has n.rq.set cs[i].place)=none)(he:OZ S.drv (AO (dec++[cs[i]]))=none){n:Nd}(hc:Ei dec cs[i]=some n) :
  Eb rec x p N n0 dec st (cs.drop i) S rs sk=Ka rec x p N n0 dec st cs[i] (cs.drop (i+1)) rs sk (Bw S n).1 (Bw S n).2:=by
 rw[Be h,GE,Ao (by rw[hf];decide),hn];dsimp only;rw[he];dsimp only;rw[hc]
theorem WG(h:i<cs.length)(hf:S.full=false)(hn:N.find? (fun n=>!has n.rq.set cs[i].place)=none)(he:OZ S.drv (AO (dec++[cs[i]]))=none)(hc:Ei dec cs[i]=none){o:Ks}(ho:o=rec (dec++[cs[i]]) S (st++[sk])) :
  Eb rec x p N n0 dec st (cs.drop i) S rs sk=if o.found=true then⟨0,true,o.ss,o.dec,o.stack⟩else if o.ss.full=true then⟨0,false,o.ss,dec,st⟩else Ka rec x p N n0 dec st cs[i] (cs.drop (i+1)) rs sk o.res o.ss:=by
 rw[ho,Be h,GE,Ao (by rw[hf];decide),hn];dsimp only;rw[he];dsimp only;rw[hc]
theorem aY{c:Cd}{l:List Cd}{k:Nat}(h:Dk (DT S k) p=false):Ka rec x p N n0 dec st c l rs sk k S=⟨k,false,S,dec,st⟩:=by unfold Ka;rw[Ax h]
theorem Wx{c:Cd}{l:List Cd}{k:Nat}(h:Dk (DT S k) p=true):Ka rec x p N n0 dec st c l rs sk k S=Eb rec x p N n0 dec st l S (rs++[k]) (sk++[⟨p,c.place,(k:Nat)⟩]):=by unfold Ka;rw[Ao (by rw[h];decide)]
end
theorem XU{x:List Rl}{dec:List Cd}(h:ER x dec):dec.length≤x.length:=by
 have h1:=IJ (m:=x.map (·.path)) h.nodup fun p hp=>by
  obtain⟨c,hc,rfl⟩:=Ar.1 hp;exact Ar.2 ⟨c.rel,(h.cand c hc).1,rfl⟩
 rw[Lm,Lm]at h1;exact h1
theorem Vo(x:List Rl)(p:ByteArray):(Cw x p).length≤x.length:=by
 unfold Cw;rw[Lm];exact BB _ _
end Go.Eng
