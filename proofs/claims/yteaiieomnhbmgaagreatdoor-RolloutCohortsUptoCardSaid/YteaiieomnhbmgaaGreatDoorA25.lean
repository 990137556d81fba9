/- Lemmas for the claims of this seat, without a condition: part 25 (S9, S10, S8b). -/
import Derived.Test.YteaiieomnhbmgaaGreatDoorA24
import Derived.Test.YteaiieomnhbmgaaGreatDoorA17
set_option maxHeartbeats 4000000
namespace Go.Eng
open Go.Proofs
variable {Y:Gh->World->Prop}{k:Nat}{P:Program}{j o sz:Nat}(l:List Nd)(roots:List Rq)(C A:List (Value×AV))(n:Nd)(s:SS)(dec:List Cd)(st:List (List Sk))(m:Nat)
abbrev bB:JA:=[(1000,1000),(1001,1001),(1002,1002),(1003,1003),(1004,1004),(1005,1005),(1006,1006),(1007,1007),(1008,1008),(1009,1009)]
def Hf:ByteArray×List Nd:=((DH roots dec).take m).foldl (Ez dec) (mt,[])
theorem aI{roots:List Rq}{dec:List Cd}{m:Nat}{n:Nd}(h:(DH roots dec)[m]?=some n):Hf roots dec (m+1)=Ez dec (Hf roots dec m) n:=by
 unfold Hf;rw[Bi,h,Em];rfl
theorem qa{roots:List Rq}{dec:List Cd}{m:Nat}(h:(DH roots dec).length<=m):Hf roots dec m=G8 roots dec:=by
 unfold Hf G8;rw[As h]
def F2(j:Nat):Nat:=roots.length+((dec.take j).map fun c=>c.rel.reqs.length).sum
theorem U8(c:Cd):(Rm c).length=c.rel.reqs.length:=Lx _ _ _
theorem iQ:F2 roots dec 0=roots.length:=by unfold F2;simp
theorem iP{roots:List Rq}{dec:List Cd}(h:j<dec.length):F2 roots dec (j+1)=F2 roots dec j+dec[j].rel.reqs.length:=by
 unfold F2;rw[BW h,Ar,List.sum_append];simp[Nat.add_assoc]
theorem aL:F2 roots dec dec.length=(DH roots dec).length:=by
 unfold F2 DH aY;rw[B4,Ac,Lx,List.length_flatten,Bo]
 congr 2
 exact Bh fun c _=>(U8 c).symm
theorem iG{roots:List Rq}{dec:List Cd}{i:Nat}(h:i<roots.length):(DH roots dec)[i]?=some ⟨roots[i],mt,0,(i:Nat)⟩:=by
 unfold DH aY;rw[AY (by rw[Lx];exact h),Qc,Ge h,H6,Bf]
theorem ZJ{α:Type}:∀{l:List (List α)} {j k:Nat} (hj:j<l.length),k<l[j].length->l.flatten[((l.take j).map List.length).sum+k]?=l[j][k]?
 |y::l,0,k,_,hk=>by
  rw[BB,List.take_zero,E0,List.sum_nil,Bf,AY (show k<y.length from hk)];rfl
 |y::l,j+1,k,hj,hk=>by
  rw[BB,Jz,AI,List.sum_cons,AZ ch]
  have:=ZJ (l:=l) (j:=j) (k:=k) (by simpa using hj) hk
  rw[show y.length+((l.take j).map List.length).sum+k-y.length=((l.take j).map List.length).sum+k by omega,this]
  rfl
theorem mh{roots:List Rq}{dec:List Cd}(hj:j<dec.length)(hk:k<dec[j].rel.reqs.length):(DH roots dec)[F2 roots dec j+k]?=some ⟨dec[j].rel.reqs[k],dec[j].rel.path,dec[j].place,(k:Nat)⟩:=by
 unfold DH aY F2;rw[AZ (by rw[Lx];omega),Lx];have h:=ZJ (l:=dec.map Rm) (j:=j) (k:=k) (by simpa using hj) (by rw[List.getElem_map,U8];exact hk);rw[<-SA,Bo,show(List.length ∘ Rm)=fun c=>c.rel.reqs.length from funext U8]at h;rw[show roots.length+((dec.take j).map fun c=>c.rel.reqs.length).sum+k-roots.length=((dec.take j).map fun c=>c.rel.reqs.length).sum+k by omega,h,List.getElem_map];unfold Rm;rw[Qc,Ge hk,H6,Bf]
abbrev mz:List (Nat×HO) :=
  [(1000,.cells (z7 roots C A s dec st.length)),(1001,.tok 6 s.infs.length),(1002,.tok 1 s.drv.length),(1003,.map FI (FN 0 s.infs)),(1004,.arr 1 (st.map Bn)),
   (1005,.cells [.ref 1000 0]),(1006,.cells [vs (Hf roots dec m).1]),(1007,.cells [.slice (.ver 1008 5 m) ((Hf roots dec m).2.map BF)]),(1008,.var 5 m ((Hf roots dec m).2.map BF).length),(1009,.cells [.ref 1000 0])]
noncomputable abbrev cxn(pl:SB)(l:Nat)(Y:Gh->World->Prop):Cx:=⟨Tryz.prog,qJ,pl,true,0,fun l' σ' g w=>l'=l->σ'=bB->Y g w⟩
theorem Jp.pre{Y':Gh->World->Prop}{l:Nat}{args:List AV}{h0:Nat->HO}{Q:AV->(Nat->HO)->Prop}(h:Jp P Y l args h0 Q)(hp:∀g w,Y' g w->Y g w):Jp P Y' l args h0 Q :=
 fun g w vals q1 q2 q3 q4=>h g w vals q1 q2 q3 (hp g w q4)
theorem Ad7:A9 Tryz.prog 253 [.ref 1000 0] (Ao (JK roots C A s dec st) Af) fun r h'=>r=.clo 301 [.ref 2000 0]/\h'=Ao (JK roots C A s dec st++[(2000,.cells [.ref 1000 0])]) Af:=by
 refine Cq (MK Ee) [(1000,1000),(1001,1001),(1002,1002),(1003,1003),(1004,1004),(1,2000)] rfl CQ hm rfl Tryz.func253 Wk rfl (Nz rfl) Wk rfl ?_;exact Xi _ (Yi (.refl _) Zr)
theorem Ad9(l:Nat)(roots:List Rq)(C A:List (Value×AV))(s:SS)(dec:List Cd)(st:List (List Sk))(hr:roots.length<=1073741824)(hd:dec.length<=1073741824)(vD:∀c∈dec,c.rel.reqs.length<=1073741824)(hy:∀m n,(DH roots dec)[m]?=some n->Jp Tryz.prog Y l [.agg (BF n)] (Ao (mz roots C A s dec st m) Af) fun r h'=>r=vb true/\h'=Ao (mz roots C A s dec st (m+1)) Af) :
  Y5 Tryz.prog Y bB 301 [.v (.func (.yield l) #[] #[]),.ref 1005 0] (Ao (mz roots C A s dec st 0) Af) fun _ h'=>h'=Ao (mz roots C A s dec st (DH roots dec).length) Af:=by
 refine lN (l:=l) (cxn Ee l Y) bB rfl CQ hm rfl Tryz.func301 Wk rfl (Nz rfl) Wk rfl rfl (Xi {i:Nat // i<=roots.length} (Xi (fun q=>⟨[(0,.v (.func (.yield l) #[] #[])),(1,.ref 1005 0),(12,sl Ba roots),(13,vi (roots.map Ba).length),(14,vi q.1)],[(1000,.cells (srM roots C A s dec 1004 st.length)),(1001,.tok 6 s.infs.length),(1002,.tok 1 s.drv.length),(1003,.map FI (FN 0 s.infs)),(1004,.arr 1 (st.map Bn)),(1005,.cells [.ref 1000 0]),(1006,.cells [vs (Hf roots dec q.1).1]),(1007,.cells [.slice (.ver 1008 5 q.1) ((Hf roots dec q.1).2.map BF)]),(1008,.var 5 q.1 ((Hf roots dec q.1).2.map BF).length),(1009,.cells [.ref 1000 0])],Af⟩) (Xi (fun q=>roots.length-q.1) (Yi (Xi ⟨0,AE _⟩ ?_) ?_))))
 .exact⟨Z5,Z10,Fh,BN Wk⟩
 intro⟨i,i1⟩;refine Yi (fun h1=>?_) (fun h1=>?_)
 .have h1:(i:Int)<((roots.map Ba).length:Int):=h1;have n1:=FW h1;refine Xi (Ba roots[i]) (Yi (LH n1) (Yi rfl (yN (yN (yN (Xi (.gen bB 0) (Yi rfl (Jp.imp (Jp.pre (hy i ⟨roots[i],mt,0,(i:Nat)⟩ (iG n1)) (fun g w q=>q rfl rfl)) ?_))))))));intro v2 g2 q2;have q2a:=q2.1;have q2b:=q2.2;subst q2a;subst q2b;refine Yi (Ii i ch) (Xi ⟨i+1,by omega⟩ ?_);exact⟨Dl roots.length i ch,Z5,Z10,Fh,BN Wk⟩
 have h1:¬((i:Int)<((roots.map Ba).length:Int)):=h1;have n1:=DT h1;have hE:i=F2 roots dec 0:=by rw[iQ];omega
 refine Xi {j:Nat // j<=dec.length} (Xi (fun q=>⟨[(0,.v (.func (.yield l) #[] #[])),(29,sl AT dec),(30,vi (dec.map AT).length),(31,vi q.1)],[(1000,.cells (srM roots C A s dec 1004 st.length)),(1001,.tok 6 s.infs.length),(1002,.tok 1 s.drv.length),(1003,.map FI (FN 0 s.infs)),(1004,.arr 1 (st.map Bn)),(1005,.cells [.ref 1000 0]),(1006,.cells [vs (Hf roots dec (F2 roots dec q.1)).1]),(1007,.cells [.slice (.ver 1008 5 (F2 roots dec q.1)) ((Hf roots dec (F2 roots dec q.1)).2.map BF)]),(1008,.var 5 (F2 roots dec q.1) ((Hf roots dec (F2 roots dec q.1)).2.map BF).length),(1009,.cells [.ref 1000 0])],Af⟩) (Xi (fun q=>dec.length-q.1) (Yi (Xi ⟨0,AE _⟩ ?_) ?_)))
 .exact⟨Z4,⟨Zr,Zr,Zr,Zr,Zr,Zr,⟨(show .cells [vs (Hf roots dec i).1]=(.cells [vs (Hf roots dec (F2 roots dec 0)).1]:HO) by rw[hE]),rfl⟩,⟨(show .cells [.slice (.ver 1008 5 i) ((Hf roots dec i).2.map BF)]=(.cells [.slice (.ver 1008 5 (F2 roots dec 0)) ((Hf roots dec (F2 roots dec 0)).2.map BF)]:HO) by rw[hE]),rfl⟩,⟨(show .var 5 i ((Hf roots dec i).2.map BF).length=(.var 5 (F2 roots dec 0) ((Hf roots dec (F2 roots dec 0)).2.map BF).length:HO) by rw[hE]),rfl⟩,Zr,Tv⟩,Fh,BN Wk⟩
 intro⟨j,j1⟩;refine Yi (fun h4=>?_) (fun h4=>?_)
 .have h4:(j:Int)<((dec.map AT).length:Int):=h4;have n4:=FW h4;have zz:=vD dec[j] (Aq n4);refine Xi (AT dec[j]) (Yi (LH n4) (Yi rfl (yN (yN (Xi {k:Nat // k<=dec[j].rel.reqs.length} (Xi (fun q=>⟨[(0,.v (.func (.yield l) #[] #[])),(6,.ref 6 0),(29,sl AT dec),(30,vi (dec.map AT).length),(31,vi j),(37,sl Ba dec[j].rel.reqs),(38,vi (dec[j].rel.reqs.map Ba).length),(39,vi q.1)],[(6,.cells (AT dec[j])),(1000,.cells (srM roots C A s dec 1004 st.length)),(1001,.tok 6 s.infs.length),(1002,.tok 1 s.drv.length),(1003,.map FI (FN 0 s.infs)),(1004,.arr 1 (st.map Bn)),(1005,.cells [.ref 1000 0]),(1006,.cells [vs (Hf roots dec (F2 roots dec j+q.1)).1]),(1007,.cells [.slice (.ver 1008 5 (F2 roots dec j+q.1)) ((Hf roots dec (F2 roots dec j+q.1)).2.map BF)]),(1008,.var 5 (F2 roots dec j+q.1) ((Hf roots dec (F2 roots dec j+q.1)).2.map BF).length),(1009,.cells [.ref 1000 0])],Af⟩) (Xi (fun q=>dec[j].rel.reqs.length-q.1) (Yi (Xi ⟨0,AE _⟩ ?_) ?_))))))))
  .exact⟨Z8,Z11,Fh,BN Wk⟩
  intro⟨k,k1⟩;have k1:k<=dec[j].rel.reqs.length:=k1;refine Yi (fun h5=>?_) (fun h5=>?_)
  .have h5:(k:Int)<((dec[j].rel.reqs.map Ba).length:Int):=h5;have n5:=FW h5;refine Xi (Ba dec[j].rel.reqs[k]) (Yi (LH n5) (Yi rfl (yN (yN (yN (Xi (.gen bB 0) (Yi rfl (Jp.imp (Jp.pre (hy (F2 roots dec j+k) ⟨dec[j].rel.reqs[k],dec[j].rel.path,dec[j].place,(k:Nat)⟩ (mh n4 n5)) (fun g w q=>q rfl rfl)) ?_))))))));intro v6 g6 q6;have q6a:=q6.1;have q6b:=q6.2;subst q6a;subst q6b;refine Yi (Ii k ch) (Xi ⟨k+1,by omega⟩ ?_);exact⟨by show dec[j].rel.reqs.length-(k+1)<dec[j].rel.reqs.length-k;omega,Z8,Z11,Fh,BN Wk⟩
  have h5:¬((k:Int)<((dec[j].rel.reqs.map Ba).length:Int)):=h5;have n5:=DT h5;refine Yi (Ii j ch) ?_;have hE:F2 roots dec j+k=F2 roots dec (j+1):=by rw[iP n4];omega
  refine Xi ⟨j+1,by omega⟩ ?_;exact⟨Dl dec.length j ch,Z4,⟨Zr,Zr,Zr,Zr,Zr,Zr,⟨(show .cells [vs (Hf roots dec (F2 roots dec j+k)).1]=(.cells [vs (Hf roots dec (F2 roots dec (j+1))).1]:HO) by rw[hE]),rfl⟩,⟨(show .cells [.slice (.ver 1008 5 (F2 roots dec j+k)) ((Hf roots dec (F2 roots dec j+k)).2.map BF)]=(.cells [.slice (.ver 1008 5 (F2 roots dec (j+1))) ((Hf roots dec (F2 roots dec (j+1))).2.map BF)]:HO) by rw[hE]),rfl⟩,⟨(show .var 5 (F2 roots dec j+k) ((Hf roots dec (F2 roots dec j+k)).2.map BF).length=(.var 5 (F2 roots dec (j+1)) ((Hf roots dec (F2 roots dec (j+1))).2.map BF).length:HO) by rw[hE]),rfl⟩,Zr,Tv⟩,Fh,BN Wk⟩
 have h4:¬((j:Int)<((dec.map AT).length:Int)):=h4;have n4:=DT h4;exact Aa (fun m=>Ao (mz roots C A s dec st m) Af) (show F2 roots dec j=(DH roots dec).length by rw[<-aL];congr 1;omega)
theorem ua{h:Nat->HO}{r:Nat}{cs:List AV}{K:(Nat->HO)->Prop}(c1:h o=.cells cs)(c2:JJ cs k=nzA)(c3:h r=.free)(hk:K (A0 (A0 h r (.var sz 0 0)) o (.cells (EU cs k (.slice (.ver r sz 0) []))))):vN h o k r sz K:=by
 unfold vN;rw[c1];show match JJ cs k with
  |.v (.slice none 0 0)=>match h r with
   |.free=>K (A0 (A0 h r (.var sz 0 0)) o (.cells (EU cs k (.slice (.ver r sz 0) []))))
   |_=>False
  |_=>False
 rw[c2,c3];exact hk
theorem uq{r0:Nat}{gN:Cx}{N:Nat}{fn:Func}{σ:JA}{Q:AV->(Nat->HO)->Prop}{b rest:Code}{st:St}(cs:List AV)(c1:st.h o=.cells cs)(c2:JJ cs k=nzA)(c3:st.h r0=.free)(σF σr:JA)(H0 Hn:List (Nat×HO))(gf:Nat)(caps:List AV){rg s:Nat}{ps:Array Tmp}{G6 body:Code}(hb:b=.block rg (.rangeFunc (.tmp s) ps G6 body))(k1:(ED σF&&DU (A0 (A0 st.h r0 (.var sz 0 0)) o (.cells (EU cs k (.slice (.ver r0 sz 0) [])))) 0 0&&DA σF 0 0)=true)(k2:FO σF (A0 (A0 st.h r0 (.var sz 0 0)) o (.cells (EU cs k (.slice (.ver r0 sz 0) []))))=Ao H0 Af)(k3:(Hd σr&&I3 σr H0)=true)(k4:I3 σr Hn=true)(k5:ren (CC σF) (A0 (A0 st.h r0 (.var sz 0 0)) o (.cells (EU cs k (.slice (.ver r0 sz 0) [])))) (st.t s)=.clo gf caps)(k6:∀(l D:Nat) (f' : FuncId) (tm:Array Value),tm.size=N->Y5 P (fun g w=>w.heap[l]?=some (.loop (Iy f' tm ps G6 body D .ready))/\∀i,BM g w (AQ (Ao H0 Af)) (ren (CC σF) (A0 (A0 st.h r0 (.var sz 0 0)) o (.cells (EU cs k (.slice (.ver r0 sz 0) [])))) (st.t i)) (tm.getD i undef)) σr gf
   (.v (.func (.yield l) #[] #[])::caps) (Ao H0 Af) fun _ h'=>h'=Ao Hn Af)(k7:EK N rest=true)(k8:SC gN rest (Zx gN fn.results.toList σr fun r h'=>Q (ren (CC σ) (En σF 0 0 (A0 (A0 st.h r0 (.var sz 0 0)) o (.cells (EU cs k (.slice (.ver r0 sz 0) [])))) h') (ren (Fq σF 0 0) h' r)) (FO σ (En σF 0 0 (A0 (A0 st.h r0 (.var sz 0 0)) o (.cells (EU cs k (.slice (.ver r0 sz 0) [])))) h')))
   ⟨fun i=>ren (CC σF) (A0 (A0 st.h r0 (.var sz 0 0)) o (.cells (EU cs k (.slice (.ver r0 sz 0) [])))) (st.t i),Ao Hn Af⟩)(k9:Pg [] body=false:=by kernel_rfl):RfV o k r0 sz gN P N fn σ Q b rest st :=
 ua c1 c2 c3 ⟨σF,σr,H0,Hn,rg,s,ps,G6,body,gf,caps,hb,k1,k2,k3,k4,k5,k6,k7,k9,k8⟩
section
variable {roots:List Rq}{C A:List (Value×AV)}{s:SS}{dec:List Cd}{st:List (List Sk)}{n:Nd}
theorem UX{m:Nat}{p:ByteArray}{o:List Nd}(e:Hf roots dec (m+1)=(p,o)){es:List (List AV)}(h1:es=o.map BF)(h2:k=es.length) :
  Ao [(1000,.cells (z7 roots C A s dec st.length)),(1001,.tok 6 s.infs.length),(1002,.tok 1 s.drv.length),(1003,.map FI (FN 0 s.infs)),(1004,.arr 1 (st.map Bn)),
   (1005,.cells [.ref 1000 0]),(1006,.cells [vs p]),(1007,.cells [.slice (.ver 1008 5 (m+1)) es]),(1008,.var 5 (m+1) k),(1009,.cells [.ref 1000 0])] Af=Ao (mz roots C A s dec st (m+1)) Af:=by
 subst h1;subst h2
 rw[show mz roots C A s dec st (m+1)=[(1000,.cells (z7 roots C A s dec st.length)),(1001,.tok 6 s.infs.length),(1002,.tok 1 s.drv.length),(1003,.map FI (FN 0 s.infs)),(1004,.arr 1 (st.map Bn)),
   (1005,.cells [.ref 1000 0]),(1006,.cells [vs (Hf roots dec (m+1)).1]),(1007,.cells [.slice (.ver 1008 5 (m+1)) ((Hf roots dec (m+1)).2.map BF)]),(1008,.var 5 (m+1) ((Hf roots dec (m+1)).2.map BF).length),(1009,.cells [.ref 1000 0])]from rfl,e]
theorem mB{a:ByteArray×List Nd}(h:DK dec n.rq.path=true):Ez dec a n=(a.1,a.2):=by unfold Ez;rw[Al (.inl h)]
theorem mg{o:List Nd}(h:(0:Int)<((o.map BF).length:Int)):o≠[]:=fun e=>by subst e;simp at h
theorem p6{o:List Nd}(h:¬(0:Int)<((o.map BF).length:Int)):o=[]:=by
 cases o with
 |nil=>rfl
 |cons y l=>exact absurd B0 h
theorem qc{a:ByteArray×List Nd}(h:(0:Int)<((a.2.map BF).length:Int))(hb:Ea a.1 n.rq.path=true):Ez dec a n=(a.1,a.2):=by unfold Ez;rw[Al (.inr ⟨mg h,hb⟩)]
theorem mD{a:ByteArray×List Nd}(hd:DK dec n.rq.path=false)(h:(0:Int)<((a.2.map BF).length:Int))(hb:Ea a.1 n.rq.path=false)(hs:Ea n.rq.path a.1=true):Ez dec a n=(n.rq.path,[n]):=by
 unfold Ez;rw[Ai (by rw[hd,hb];simp),Al ⟨mg h,hs⟩]
theorem mE{a:ByteArray×List Nd}(hd:DK dec n.rq.path=false)(hb:Ea a.1 n.rq.path=false)(hs:Ea n.rq.path a.1=false):Ez dec a n=(n.rq.path,a.2++[n]):=by
 unfold Ez;rw[Ai (by rw[hd,hb];simp),Ai (by rw[hs];simp)]
theorem qe{a:ByteArray×List Nd}(hd:DK dec n.rq.path=false)(h:¬(0:Int)<((a.2.map BF).length:Int)):Ez dec a n=(n.rq.path,a.2++[n]):=by
 have:=p6 h
 unfold Ez;rw[Ai (by rw[hd,this];simp),Ai (by rw[this];simp)]
theorem qd(a:ByteArray×List Nd)(n:Nd):(Ez dec a n).2.length<=a.2.length+1:=by
 unfold Ez;split
 .omega
 .split
  .simp
  .simp
theorem fq:∀(m:Nat),(Hf roots dec m).2.length<=m
 |0=>Aj _
 |m+1=>by
  have ih:=fq m;cases h:(DH roots dec)[m]? with
  |none =>
   have e:Hf roots dec (m+1)=Hf roots dec m:=by unfold Hf;rw[Bi,h];simp
   rw[e];omega
  |some n=>rw[aI h];exact AJ (qd _ _) (EI ih)
theorem bm:∀{l l' : List (Nat×HO)},l.map Prod.fst=l'.map Prod.fst->(∀p∈l',p.2≠.free)->∀i,AQ (Ao l Af) i->AQ (Ao l' Af) i
 | [],[],_,_,_,h=>h
 |(a,o)::l,(a',o')::l',e,h,i,hu=>by
  rw[AI,AI]at e
  injection e with e1 e2
  have e1:a=a':=e1;subst e1;unfold AQ at *
  by_cases q:i=a
  .subst q;simp only[Ao,Di,KC];exact h _ (Ab ..)
  .simp only[Ao,CW q,Ek]at hu⊢;exact bm e2 (fun p hp=>h p (Ah _ hp)) i hu
theorem mA:∀i,AQ (Ao (mz roots C A s dec st 0) Af) i->AQ (Ao (mz roots C A s dec st m) Af) i:=bm rfl (by
 repeat (first | exact Bx _ | refine A1.2 ⟨by simp,?_⟩))
theorem fM:∀{l:List Cd},(∀c∈l,c.rel.reqs.length<=1073741824)->((l.map fun c=>c.rel.reqs.length)).sum<=l.length*1073741824
 | [],_=>by simp
 |c::l,h=>by
  have h1:=h c (Ab ..);have h2:=fM fun c hc=>h c (Ah _ hc);rw[AI,List.sum_cons,Ak];omega
theorem iH(hr:roots.length<=1073741824)(hd:dec.length<=1000)(h:∀c∈dec,c.rel.reqs.length<=1073741824):(DH roots dec).length<=1074815565824:=by
 rw[<-aL];unfold F2;rw[B4]
 have:=fM h
 have:=Bg 1073741824 hd
 omega
end
theorem ar:l.map BF++[BF n]=(l++[n]).map BF:=by rw[Ar];rfl
theorem PT:(l.map BF).length+([BF n]:List (List AV)).length=(l.map BF++[BF n]).length:=Ac.symm
attribute [local irreducible] RfV vN Hf DH Ez
theorem s64(hr:roots.length<=1073741824)(hd:dec.length<=1000)(vD:∀c∈dec,c.rel.reqs.length<=1073741824) :
  A9 Tryz.prog 186 [.ref 1000 0] (Ao (JK roots C A s dec st) Af) fun r h'=>r=.tup [vs (G8 roots dec).1,sl BF (G8 roots dec).2]/\h'=Ao (JK roots C A s dec st) Af:=by
 refine gj 5 0 9 5 (MK Ee) (MK Ee) bC rfl CQ rfl CQ hm rfl rfl Tryz.func186 Wk rfl (Nz rfl) Wk rfl 3 (yN (Xi (.gen bC 1) (Yi rfl (A9.imp (Ad7 roots C A s dec st) ?_))));intro v1 g1 q1;have qq:=q1.1;have qr:=q1.2;subst qq;subst qr;refine uq [nzA] Wk Wk Wk [(1000,1000),(1001,1001),(1002,1002),(1003,1003),(1004,1004),(10800,1005),(4,1006),(5,1007),(9,1008),(1,1009)] bB (mz roots C A s dec st 0) (mz roots C A s dec st (DH roots dec).length) 301 [.ref 1005 0] rfl Wk Wk Wk Wk Wk (fun l9 D9 f9 tm9 zN=>Ad9 l9 roots C A s dec st hr (AJ hd Cl) vD fun m n hn=>jC (σ:=bB) 1007 0 1008 (MK ⟨[],[(43,5)],[],[],[],[],[],[],[],[(500005,60001007)],[5]⟩) rfl CQ hm rfl rfl rfl zN Wk Wk Wk (mA m) ?_) Wk ?_
 .have zJ:m<(DH roots dec).length:=(Au.1 hn).1;have hol:=fq (roots:=roots) (dec:=dec) m;have hnl:=iH hr hd vD;have hF:=aI hn;refine yN (Yi ⟨rfl,rfl⟩ (cU [(1,.ref 1009 0),(4,.ref 1006 0),(5,.ref 1007 0),(6,.ref 6 0)] [(6,.cells (BF n)),(60,.tok 5 ((Hf roots dec m).2.map BF).length),(1000,.cells (srM roots C A s dec 1004 st.length)),(1001,.tok 6 s.infs.length),(1002,.tok 1 s.drv.length),(1003,.map FI (FN 0 s.infs)),(1004,.arr 1 (st.map Bn)),(1005,.cells [.ref 1000 0]),(1006,.cells [vs (Hf roots dec m).1]),(1007,.cells [.slice (.id 60 5) ((Hf roots dec m).2.map BF)]),(1008,.vox m),(1009,.cells [.ref 1000 0])] Z4 Z12 (B8 (Bt (DK dec n.rq.path)) (fun h2=>?_) (fun h2=>?_))))
  .have hc3:=(yE roots C A s dec st n.rq.path (AJ hd Cl));rw[show(DK dec n.rq.path)=true from h2]at hc3;refine Xi (.gen bC 0) (Yi rfl (A9.imp hc3 ?_));intro v4 g4 q4;have q4a:=q4.1;have q4b:=q4.2;subst q4a;subst q4b;refine Yi ⟨rfl,rfl⟩ ?_
   -- [('(DK dec n.rq.path)=true',True)]
   exact⟨rfl,UX (hF.trans (mB h2)) rfl rfl⟩
  have hc5:=(yE roots C A s dec st n.rq.path (AJ hd Cl));rw[show(DK dec n.rq.path)=false from h2]at hc5;refine Xi (.gen bC 0) (Yi rfl (A9.imp hc5 ?_));intro v6 g6 q6;have q6a:=q6.1;have q6b:=q6.2;subst q6a;subst q6b;refine Yi (fun h7=>?_) (fun h7=>?_)
  .have n7:0<(Hf roots dec m).2.length:=by have q:=h7;rw[Lm]at q;omega
   refine Yi (fun h8=>?_) (fun h8=>?_)
   .have h8:Ea (Hf roots dec m).1 n.rq.path=true:=(F9 _ _).trans h8;refine Yi ⟨rfl,rfl⟩ ?_
    -- [('(DK dec n.rq.path)=true',False),('(0:Int)<(((Hf roots dec m).2.map BF).length:Int)',True),('Ea (Hf roots dec m).1 n.rq.path=true',True)]
    exact⟨rfl,UX (hF.trans (qc h7 h8)) rfl rfl⟩
   have h8:Ea (Hf roots dec m).1 n.rq.path=false:=(F9 _ _).trans (AM.2 h8);refine Yi (fun _=>?_) (fun hf=>absurd h7 hf);refine Yi (fun h9=>?_) (fun h9=>?_)
   .have h9:Ea n.rq.path (Hf roots dec m).1=true:=(F9 _ _).trans h9;refine yN (yN (yN ?_));have Wp:Cn 5 [(BF n)]/\([(BF n)]:List (List AV)).length*72<=140737488355328/\([(BF n)]:List (List AV)).length<=9223372036854775807:=⟨⟨rfl,trivial⟩,(by simp only[Ak,At];omega),(by simp only[Ak,At];omega)⟩;refine Yi Wp (yN (Yi ⟨rfl,rfl⟩ ?_))
    -- [('(DK dec n.rq.path)=true',False),('(0:Int)<(((Hf roots dec m).2.map BF).length:Int)',True),('Ea (Hf roots dec m).1 n.rq.path=true',False),('Ea n.rq.path (Hf roots dec m).1=true',True)]
    exact⟨rfl,UX (hF.trans (mD h2 h7 h8 h9)) rfl rfl⟩
   have h9:Ea n.rq.path (Hf roots dec m).1=false:=(F9 _ _).trans (AM.2 h9);refine yN (yN ?_);have sF:Cn 5 [(BF n)]/\((Hf roots dec m).2.map BF).length=((Hf roots dec m).2.map BF).length/\(((Hf roots dec m).2.map BF).length+([(BF n)]:List (List AV)).length)*72<=140737488355328/\((Hf roots dec m).2.map BF).length+([(BF n)]:List (List AV)).length<=9223372036854775807:=⟨⟨rfl,trivial⟩,rfl,(by simp only[Lm,Ak,At];omega),(by simp only[Lm,Ak,At];omega)⟩;refine Yi sF (yN (Yi ⟨(PT _ n).symm,rfl⟩ ?_))
   -- [('(DK dec n.rq.path)=true',False),('(0:Int)<(((Hf roots dec m).2.map BF).length:Int)',True),('Ea (Hf roots dec m).1 n.rq.path=true',False),('Ea n.rq.path (Hf roots dec m).1=true',False)]
   exact⟨rfl,UX (hF.trans (mE h2 h8 h9)) (ar _ n) (PT _ n)⟩
  have n7:¬0<(Hf roots dec m).2.length:=by have q:=h7;rw[Lm]at q;omega
  refine Yi (fun hf=>absurd hf h7) (fun _=>?_);refine yN (yN ?_);have vl:Cn 5 [(BF n)]/\((Hf roots dec m).2.map BF).length=((Hf roots dec m).2.map BF).length/\(((Hf roots dec m).2.map BF).length+([(BF n)]:List (List AV)).length)*72<=140737488355328/\((Hf roots dec m).2.map BF).length+([(BF n)]:List (List AV)).length<=9223372036854775807:=⟨⟨rfl,trivial⟩,rfl,(by simp only[Lm,Ak,At];omega),(by simp only[Lm,Ak,At];omega)⟩;refine Yi vl (yN (Yi ⟨(PT _ n).symm,rfl⟩ ?_))
  -- [('(DK dec n.rq.path)=true',False),('(0:Int)<(((Hf roots dec m).2.map BF).length:Int)',False)]
  exact⟨rfl,UX (hF.trans (qe h2 h7)) (ar _ n) (PT _ n)⟩
 refine Yi Wk ?_;exact Xi _ (Yi (.refl _) ⟨show AV.tup [vs (Hf roots dec (DH roots dec).length).1,sl BF (Hf roots dec (DH roots dec).length).2]=_ by rw[qa (Aj _)],rfl⟩)
end Go.Eng
namespace Go.Eng
open Go.Proofs
theorem ip{α:Type}(pr:α->Bool)(l:List α):(∃(k:Nat) (n:α),Jv pr l 0=(k:Nat)/\l[k]?=some n/\l.find? pr=some n)\/(Jv pr l 0=-1/\l.find? pr=none):=by
 have key:∀(l:List α) (b:Nat),(∃(k:Nat) (n:α),Jv pr l (b:Nat)=((b+k:Nat):Int)/\l[k]?=some n/\l.find? pr=some n)\/(Jv pr l (b:Nat)=-1/\l.find? pr=none):=by
  intro l
  induction l with
  |nil=>intro b;exact .inr Zr
  |cons y l ih =>
   intro b;cases h:pr y with
   |true=>exact .inl ⟨0,y,by unfold Jv;rw[Al h];rfl,rfl,by rw[E8,h]⟩
   |false =>
    have e:Jv pr (y::l) (b:Nat)=Jv pr l ((b+1:Nat):Int):=by
     conv=>lhs;unfold Jv
     rw[Ai (by rw[h];decide)];rw[show((b+1:Nat):Int)=(b:Int)+1 by omega]
    have e2:(y::l).find? pr=l.find? pr:=by rw[E8,h]
    rcases ih (b+1)with ⟨k,n,h1,h2,h3⟩ | ⟨h1,h2⟩
    .exact .inl ⟨k+1,n,by rw[e,h1];congr 1;omega,by simpa using h2,by rw[e2];exact h3⟩
    .exact .inr ⟨by rw[e];exact h1,by rw[e2];exact h2⟩
 have:=key l 0
 simpa using this
section
variable {rec:List Cd->SS->List (List Sk)->KO}{x:List Rl}{p:ByteArray}{N:List Nd}{n0:Nd}{dec:List Cd}{st:List (List Sk)}{cs:List Cd}{i:Nat}{S:SS}{rs:List Nat}{sk:List Sk}
theorem kq(h:¬i<cs.length):Ey rec x p N n0 dec st (cs.drop i) S rs sk=⟨(Eh x p n0 rs S).1,false,(Eh x p n0 rs S).2,dec,st⟩:=by
 rw[Cr ch];rfl
theorem o0(h:i<cs.length)(hf:S.full=true):Ey rec x p N n0 dec st (cs.drop i) S rs sk=⟨0,false,S,dec,st⟩:=by
 rw[AH h,GG,Al hf]
theorem wu(h:i<cs.length)(hf:S.full=false){n:Nd}(hn:N.find? (fun n=>!has n.rq.set cs[i].place)=some n):Ey rec x p N n0 dec st (cs.drop i) S rs sk=Ey rec x p N n0 dec st (cs.drop (i+1)) (BU S n).2 (rs++[(BU S n).1]) sk:=by
 rw[AH h,GG,Ai (by rw[hf];decide),hn]
theorem XX(h:i<cs.length)(hf:S.full=false)(hn:N.find? (fun n=>!has n.rq.set cs[i].place)=none){k:Nat}(he:Pv S.drv (AR (dec++[cs[i]]))=some k):Ey rec x p N n0 dec st (cs.drop i) S rs sk=Kz rec x p N n0 dec st cs[i] (cs.drop (i+1)) rs sk k S:=by
 rw[AH h,GG,Ai (by rw[hf];decide),hn];dsimp only;rw[he]
theorem Zi(h:i<cs.length)(hf:S.full=false)(hn:N.find? (fun n=>!has n.rq.set cs[i].place)=none)(he:Pv S.drv (AR (dec++[cs[i]]))=none){n:Nd}(hc:Er dec cs[i]=some n) :
  Ey rec x p N n0 dec st (cs.drop i) S rs sk=Kz rec x p N n0 dec st cs[i] (cs.drop (i+1)) rs sk (BU S n).1 (BU S n).2:=by
 rw[AH h,GG,Ai (by rw[hf];decide),hn];dsimp only;rw[he];dsimp only;rw[hc]
theorem XY(h:i<cs.length)(hf:S.full=false)(hn:N.find? (fun n=>!has n.rq.set cs[i].place)=none)(he:Pv S.drv (AR (dec++[cs[i]]))=none)(hc:Er dec cs[i]=none){o:KO}(ho:o=rec (dec++[cs[i]]) S (st++[sk])) :
  Ey rec x p N n0 dec st (cs.drop i) S rs sk=if o.found=true then⟨0,true,o.ss,o.dec,o.stack⟩else if o.ss.full=true then⟨0,false,o.ss,dec,st⟩else Kz rec x p N n0 dec st cs[i] (cs.drop (i+1)) rs sk o.res o.ss:=by
 rw[ho,AH h,GG,Ai (by rw[hf];decide),hn];dsimp only;rw[he];dsimp only;rw[hc]
theorem dK{c:Cd}{l:List Cd}{k:Nat}(h:D6 (EJ S k) p=false):Kz rec x p N n0 dec st c l rs sk k S=⟨k,false,S,dec,st⟩:=by unfold Kz;rw[Al h]
theorem XK{c:Cd}{l:List Cd}{k:Nat}(h:D6 (EJ S k) p=true):Kz rec x p N n0 dec st c l rs sk k S=Ey rec x p N n0 dec st l S (rs++[k]) (sk++[⟨p,c.place,(k:Nat)⟩]):=by unfold Kz;rw[Ai (by rw[h];decide)]
end
theorem Zs{x:List Rl}{dec:List Cd}(h:ER x dec):dec.length<=x.length:=by
 have h1:=IV (m:=x.map (·.path)) h.nodup fun p hp=>by
  obtain⟨c,hc,rfl⟩:=Ag.1 hp;exact Ag.2 ⟨c.rel,(h.cand c hc).1,rfl⟩
 rw[Lm,Lm]at h1;exact h1
theorem Wt(x:List Rl)(p:ByteArray):(Cz x p).length<=x.length:=by
 unfold Cz;rw[Lm];exact Bq _ _
end Go.Eng
