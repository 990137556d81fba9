/- Lemmas for the claims of this seat, without a condition: part 25 (S2, S3, S4, S5, S8a, S9). -/
import Derived.Test.YtddfphmpfnmknaaGreatDoorGA24
import Derived.Test.YtddfphmpfnmknaaGreatDoorGA04
set_option maxHeartbeats 4000000
namespace Go.Eng
open Go.Proofs
variable {k:Nat}{i:Nf}{l:List Nf}{Y:Gh→World→Prop}{j:Nat}{n:Nd}(roots:List Rq)(C A:List (Value×AV))(s:SS)(dec:List Cd)(st:List (List Sk))(c:Cd)(S:List Sl)(m:Nat)(p:ByteArray)
theorem Tu:∀{l:List Nf} {k:Nat} {kx:Value} {a:AV},(kx,a)∈F3 k l↔∃j i,l[j]?=some i∧kx=Mu i∧a=vi ((k+j:Nat):Int)
 | [],k,kx,a=>by simp[F3]
 |y::l,k,kx,a=>by
  unfold F3;rw[AF,Tu];constructor
  ·rintro(h | ⟨j,i,h1,h2,h3⟩)
   ·cases h;exact⟨0,y,rfl,rfl,rfl⟩
   ·exact⟨j+1,i,h1,h2,by rw[h3,show k+1+j=k+(j+1) by omega]⟩
  ·rintro⟨j,i,h1,h2,h3⟩
   cases j with
   |zero=>cases h1;exact .inl (by rw[h2,h3];rfl)
   |succ j=>exact .inr ⟨j,i,h1,h2,by rw[h3,show k+1+j=k+(j+1) by omega]⟩
theorem WZ{a b:Nf}(h:Mu a=Mu b):a=b:=by
 obtain⟨a1,a2,a3,a4,a5,a6⟩:=a;obtain⟨b1,b2,b3,b4,b5,b6⟩:=b;unfold Mu at h;simp at h;obtain⟨rfl,rfl,rfl,rfl,rfl,rfl⟩:=h
 rfl
theorem wC(h:MI i 0 l=some k):(Mu i,vi (k:Nat))∈F3 0 l:=by
 obtain⟨j,e,hj⟩:=NS h;exact Tu.2 ⟨j,i,hj,rfl,by rw[e]⟩
theorem oQ(hn:l.Nodup)(h:MI i 0 l=some k):∀b,(Mu i,b)∈F3 0 l→b=vi (k:Nat):=fun b hb=>by
 obtain⟨j,e,hj⟩:=NS h;obtain⟨j',i',h1,h2,h3⟩:=Tu.1 hb
 have:=WZ h2
 subst this;obtain⟨a1,a2⟩:=Aw.1 hj;obtain⟨b1,b2⟩:=Aw.1 h1
 have:j'=j:=(List.getElem_inj hn).1 (b2.trans a2.symm)
 subst this;rw[h3,e]
theorem qC(h:MI i 0 l=none):∀a,(Mu i,a)∉F3 0 l:=fun a ha=>by
 obtain⟨j,i',h1,h2,_⟩:=Tu.1 ha
 have:=WZ h2
 subst this;exact RK h (Ay h1)
theorem dW:∀(l:List Nf) (k:Nat) (i:Nf),F3 k (l++[i])=F3 k l++[(Mu i,vi ((k+l.length:Nat):Int))]
 | [],k,i=>by simp[F3]
 |y::l,k,i=>by
  show(Mu y,_)::F3 (k+1) (l++[i])=_;rw[dW l (k+1) i];simp[F3,show k+1+l.length=k+(l.length+1) by omega]
theorem sD(h:MI i 0 l=none):FD (F3 0 l) (Mu i) (vi ((l.map Dn).length:Int))=F3 0 (l++[i]):=by
 rw[Nc (qC h),dW,Lm,Bi]
theorem Y1{s:SS}{l:List Tm}(h:MI i 0 s.infs=some k):Es s i l=(k,s):=by unfold Es;rw[h]
theorem Wl{s:SS}{l:List Tm}(h:MI i 0 s.infs=none)(hf:65536≤s.infs.length):Es s i l=(s.infs.length-1,⟨s.infs,s.drv,true⟩):=by unfold Es;rw[h];exact Al hf
theorem YZ{s:SS}{l:List Tm}(h:MI i 0 s.infs=none)(hf:¬65536≤s.infs.length):Es s i l=(s.infs.length,⟨s.infs++[i],s.drv++[l],s.full⟩):=by unfold Es;rw[h];exact Ae hf
section
variable {roots:List Rq}{C A:List (Value×AV)}{s s' : SS}{dec:List Cd}{st:List (List Sk)}{i:Nf}{l:List Tm}
theorem jo{z:Int}(e:Es s i l=(k,s'))(hz:z=k):vi z=vi ((Es s i l).1:Nat)∧Ak (JW roots C A s' dec st) Af=Ak (JW roots C A (Es s i l).2 dec st) Af:=by rw[e,hz];exact Zr
theorem ul(h:MI i 0 s.infs=none):Ak [(1000,.cells [sl AH roots,.cmap Du C,.cmap Du A,.slice (.id 1001 6) (s.infs.map Dn++[Dn i]),.slice (.id 1002 1) (s.drv.map Dg++[Dg l]),.mref 1003,vb s.full,sl AU dec,sl Ac (AD dec),.msl 1004 st.length]),
      (1001,.tok 6 ((s.infs.map Dn).length+[Dn i].length)),(1002,.tok 1 ((s.drv.map Dg).length+[Dg l].length)),(1003,.map FY (FD (F3 0 s.infs) (Mu i) (vi ((s.infs.map Dn).length:Int)))),(1004,.arr 1 (st.map Bl))] Af=Ak (JW roots C A ⟨s.infs++[i],s.drv++[l],s.full⟩ dec st) Af:=by
  have e1:s.infs.map Dn++[Dn i]=(s.infs++[i]).map Dn:=by simp
  have e2:s.drv.map Dg++[Dg l]=(s.drv++[l]).map Dg:=by simp
  have e3:(s.infs.map Dn).length+[Dn i].length=(s.infs++[i]).length:=by simp
  have e4:(s.drv.map Dg).length+[Dg l].length=(s.drv++[l]).length:=by simp
  rw[e1,e2,e3,e4,sD h]
end
theorem xe:PC 172 [.agg (AU c),.cptr [vs p]] (vb (decide (c.rel.path=p))):=by
 refine Ps (pC [2] []) Tryz.func172 rfl (Nz rfl) (Yi (fun h1=>?_) (fun h1=>?_))
 ·have h1:(c.rel.path:ByteArray)=p:=h1;exact .of_eq (show vb true=vb (decide (c.rel.path=p)) by rw[Aq h1])
 have h1:¬(c.rel.path:ByteArray)=p:=h1;exact .of_eq (show vb false=vb (decide (c.rel.path=p)) by rw[Ap h1])
theorem xb(t:Tm)(p:ByteArray):PC 126 [.agg (AO t),.cptr [vs p]] (vb (decide (t.path=p))):=by
 refine Ps (pC [2] []) Tryz.func126 rfl (Nz rfl) (Yi (fun h1=>?_) (fun h1=>?_))
 ·have h1:(t.path:ByteArray)=p:=h1;exact .of_eq (show vb true=vb (decide (t.path=p)) by rw[Aq h1])
 have h1:¬(t.path:ByteArray)=p:=h1;exact .of_eq (show vb false=vb (decide (t.path=p)) by rw[Ap h1])
theorem nf(l:List Tm)(p:ByteArray)(hl:Cy l):PC 95 [sl AO l,vs p] (vb (Dm l p)):=by
 refine Ps (pC [3] []) Tryz.func95 rfl (Nz rfl) (BF (Bt (Dm l p)) (fun h1=>?_) (fun h1=>?_))
 ·have h1:(Dm l p)=true:=h1;refine Xi .pure (Xi _ (Yi (cb h1 (show PC 125 [sl AO l,.clo 126 [.cptr [vs p]]] (vb (Dm l p))from rh (fF:=126) (caps:=[.cptr [vs p]]) (fun c hc=>by obtain rfl:=Ar.1 hc;intro h;rfl) l (fun t=>decide (t.path=p)) (fun t _=>xb t p) hl)) ?_));exact .of_eq (show vb true=vb (Dm l p) by rw[h1])
 have h1:(Dm l p)=false:=h1;refine Xi .pure (Xi _ (Yi (cb h1 (show PC 125 [sl AO l,.clo 126 [.cptr [vs p]]] (vb (Dm l p))from rh (fF:=126) (caps:=[.cptr [vs p]]) (fun c hc=>by obtain rfl:=Ar.1 hc;intro h;rfl) l (fun t=>decide (t.path=p)) (fun t _=>xb t p) hl)) ?_));exact .of_eq (show vb false=vb (Dm l p) by rw[h1])
theorem xa(hl:Cy dec):A1 Tryz.prog 118 [.ref 1000 0,vs p] (Ak (JW roots C A s dec st) Af) fun r h'=>r=vb (CV dec p)∧h'=Ak (JW roots C A s dec st) Af:=by
 refine BW (KV (pC [3] [])) [(1000,1000),(1001,1001),(1002,1002),(1003,1003),(1004,1004)] rfl Co hm rfl Tryz.func118 Wk rfl (Nz rfl) Wk rfl (BF (Bt (CV dec p)) (fun h1=>?_) (fun h1=>?_))
 ·have h1:(CV dec p)=true:=h1;refine Xi .pure (Xi _ (Yi (cb h1 (show PC 171 [sl AU dec,.clo 172 [.cptr [vs p]]] (vb (CV dec p))from xd (fF:=172) (caps:=[.cptr [vs p]]) (fun c hc=>by obtain rfl:=Ar.1 hc;intro h;rfl) dec (fun c=>decide (c.rel.path=p)) (fun c _=>xe c p) hl)) ?_));exact Xi _ (Yi (.refl _) (Yi (show vb true=vb (CV dec p) by rw[h1]) rfl))
 have h1:(CV dec p)=false:=h1;refine Xi .pure (Xi _ (Yi (cb h1 (show PC 171 [sl AU dec,.clo 172 [.cptr [vs p]]] (vb (CV dec p))from xd (fF:=172) (caps:=[.cptr [vs p]]) (fun c hc=>by obtain rfl:=Ar.1 hc;intro h;rfl) dec (fun c=>decide (c.rel.path=p)) (fun c _=>xe c p) hl)) ?_));exact Xi _ (Yi (.refl _) (Yi (show vb false=vb (CV dec p) by rw[h1]) rfl))
theorem pH(i:Nf)(l:List Tm)(k:Nat)(hk:MI i 0 s.infs=some k)(Oh:s.infs.Nodup):A1 Tryz.prog 121 [.ref 1000 0,.agg (Dn i),sl AO l] (Ak (JW roots C A s dec st) Af) fun r h'=>r=vi ((Es s i l).1:Nat)∧h'=Ak (JW roots C A (Es s i l).2 dec st) Af:=by
 refine BW (KV (pC [4] [])) [(1000,1000),(1001,1001),(1002,1002),(1003,1003),(1004,1004)] rfl Co hm rfl Tryz.func121 Wk rfl (Nz rfl) Wk rfl (yN ?_);refine Or.inl (Xi (vi (k:Nat)) (Yi (Yi (wC hk) (oQ Oh hk)) ?_));refine Yi Wk ?_;exact Xi _ (Yi (.refl _) (jo (Y1 hk) rfl))
theorem pG(i:Nf)(l:List Tm)(hk:MI i 0 s.infs=none)(hn:s.infs.length≤65536)(hdl:s.drv.length=s.infs.length):A1 Tryz.prog 121 [.ref 1000 0,.agg (Dn i),sl AO l] (Ak (JW roots C A s dec st) Af) fun r h'=>r=vi ((Es s i l).1:Nat)∧h'=Ak (JW roots C A (Es s i l).2 dec st) Af:=by
 have hdn:s.drv.length≤65536:=by omega
 have hml:(s.infs.map Dn).length=s.infs.length:=Lm _;refine BW (KV (pC [4] [])) [(1000,1000),(1001,1001),(1002,1002),(1003,1003),(1004,1004)] rfl Co hm rfl Tryz.func121 Wk rfl (Nz rfl) Wk rfl (yN ?_);refine Or.inr (Yi (qC hk) ?_);refine Yi Wk (Yi (fun h1=>?_) (fun h1=>?_))
 ·have h1:(65536:Int)≤((s.infs.map Dn).length:Int):=h1;refine yN (Yi (by show Bc (((s.infs.map Dn).length:Int)-(1:Int));unfold Bc;omega) ?_);exact Xi _ (Yi (.refl _) (jo (Wl hk (by have q:=h1;rw[Lm]at q;omega)) (by have q:=h1;rw[Lm]at q⊢;omega)))
 have h1:¬((65536:Int)≤((s.infs.map Dn).length:Int)):=h1;refine yN (Yi Wk (yN (Yi (Wt rfl ch Cl) (yN (Yi Wk (Yi (Wt rfl ch Cl) (yN ?_)))))));have hq:=jo (roots:=roots) (C:=C) (A:=A) (dec:=dec) (st:=st) (z:=((s.infs.map Dn).length:Int)) (YZ (l:=l) hk (by have q:=h1;rw[Lm]at q;omega)) (by rw[Lm]);exact Xi _ (Yi (.refl _) (Yi hq.1 ((ul hk).trans hq.2)))
structure Ky(x:List Rl)(roots:List Rq)(s:SS):Prop where
 der:FU x roots s
 nodup:s.infs.Nodup
abbrev qQ(o:Nat×SS)(r:AV)(h' : Nat→HO):Prop:=r=vi (o.1:Nat)∧h'=Ak (JW roots C A o.2 dec st) Af
theorem pF(i:Nf)(l:List Tm)(hn:s.infs.length≤65536)(hdl:s.drv.length=s.infs.length)(Oh:s.infs.Nodup) :
  A1 Tryz.prog 121 [.ref 1000 0,.agg (Dn i),sl AO l] (Ak (JW roots C A s dec st) Af) (qQ roots C A dec st (Es s i l)):=by
 cases hk:MI i 0 s.infs with
 |some k=>exact pH roots C A s dec st i l k hk Oh
 |none=>exact pG roots C A s dec st i l hk hn hdl
abbrev bA:JO:=[(1000,1000),(1001,1001),(1002,1002),(1003,1003),(1004,1004)]
theorem uX{h2:Nat→HO}{cs:List AV}{o1 o2 o3 o4:HO}(e0:h2 1000=.cells cs)(e1:h2 1001=o1)(e2:h2 1002=o2)(e3:h2 1003=o3)(e4:h2 1004=o4) :
  F4 bA h2=Ak [(1000,.cells (cs.map (ren1 (CC bA) h2))),(1001,o1.ren (CC bA) h2),(1002,o2.ren (CC bA) h2),(1003,o3.ren (CC bA) h2),(1004,o4.ren (CC bA) h2)] Af:=by
 unfold F4;simp only[YB];rw[e0,e1,e2,e3,e4];rfl
theorem gL{s:SS}(h:n.path=mt):Es s ⟨0,mt,0,n.number,0,0⟩ (Ko n.rq)=BH s n:=by unfold BH N0 Ir;rw[Al h,Al h]
theorem ld{s:SS}(h:¬n.path=mt):Es s ⟨1,n.path,n.place,n.number,0,0⟩ (EI n.path n.place n.rq)=BH s n:=by unfold BH N0 Ir;rw[Ae h,Ae h]
abbrev X1(d:List (List Tm))(S:List Sl):AV:=.tup [vi (((OG d S).getD 0:Nat):Int),vb (OG d S).isSome]
theorem Zj{S:List Sl}:∀{l:List (List Tm)} {b i:Nat} {t:List Tm},l[i]?=some t→CQ t S=true→(∀j u,j<i→l[j]?=some u→CQ u S=false)→PM S b l=some (b+i)
 | [],_,_,_,h,_,_=>by simp at h
 |u::l,b,0,t,h,he,_=>by cases h;unfold PM;rw[Al he];rfl
 |u::l,b,i+1,t,h,he,hn=>by
  unfold PM;rw[Ae (by rw[hn 0 u ch rfl];decide),Zj (i:=i) (by simpa using h) he (fun j v hj hv=>hn (j+1) v ch (by simpa using hv))]
  congr 1;omega
theorem Zk{S:List Sl}:∀{l:List (List Tm)} {b:Nat},(∀t∈l,CQ t S=false)→PM S b l=none
 | [],_,_=>rfl
 |u::l,b,h=>by
  unfold PM;rw[Ae (by rw[h u (Aa ..)];decide)];exact Zk fun t ht=>h t (Ah _ ht)
theorem s88(n:Nd)(hn:s.infs.length≤65536)(hdl:s.drv.length=s.infs.length)(Oh:s.infs.Nodup)(hq:Cy n.rq.set)(hp:Bc (n.place+1)):A1 Tryz.prog 91 [.ref 1000 0,.agg (Br n)] (Ak (JW roots C A s dec st) Af) fun r h'=>qQ roots C A dec st (BH s n) r h':=by
 refine BW (KV ⟨[3],[],[],[],[],[],[],[],[(15,5),(31,5)],[],[]⟩) [(1000,1000),(1001,1001),(1002,1002),(1003,1003),(1004,1004)] rfl Co hm rfl Tryz.func91 Wk rfl (Nz rfl) Wk rfl (Yi (fun h1=>?_) (fun h1=>?_))
 ·have h1:(n.path:ByteArray)=⟨#[]⟩:=h1;refine yN (Xi _ (Yi (zo n.rq hq) (Xi bA (Xi [(1000,.cells (srM roots C A s dec 1004 st.length)),(1001,.tok 6 s.infs.length),(1002,.tok 1 s.drv.length),(1003,.map FY (F3 0 s.infs)),(1004,.arr 1 (st.map Bl))] (Xi (JW roots C A (Es s ⟨0,mt,0,n.number,0,0⟩ (Ko n.rq)).2 dec st) (Xi [.ref 1000 0,.agg [vi 0,vs ⟨#[]⟩,vi 0,vi n.number,vi 0,vi 0],sl AO (Ko n.rq)] (Xi (vi (((Es s ⟨0,mt,0,n.number,0,0⟩ (Ko n.rq)).1:Nat):Int):AV) (Yi (fun h2 hh=>Yi ((uX (show h2 1000=.cells (srM roots C A s dec 1004 st.length)from hh 1000 Cl) (show h2 1001=.tok 6 s.infs.length from hh 1001 Cl) (show h2 1002=.tok 1 s.drv.length from hh 1002 Cl) (show h2 1003=.map FY (F3 0 s.infs)from hh 1003 Cl) (show h2 1004=.arr 1 (st.map Bl)from hh 1004 Cl)).trans rfl) rfl) (Yi Wk (Yi (pF roots C A s dec st ⟨0,mt,0,n.number,0,0⟩ (Ko n.rq) hn hdl Oh) (Yi Wk ?_)))))))))));have ei:=gL (s:=s) h1;exact Xi _ (Yi (.refl _) (Yi (show vi (((Es s ⟨0,mt,0,n.number,0,0⟩ (Ko n.rq)).1:Nat):Int)=vi (((BH s n).1:Nat):Int) by rw[ei]) (show Ak (JW roots C A (Es s ⟨0,mt,0,n.number,0,0⟩ (Ko n.rq)).2 dec st) Af=Ak (JW roots C A (BH s n).2 dec st) Af by rw[ei])))
 have h1:¬(n.path:ByteArray)=⟨#[]⟩:=h1;refine yN (Xi _ (Yi (zp n.path n.place n.rq hp hq) (Xi bA (Xi [(1000,.cells (srM roots C A s dec 1004 st.length)),(1001,.tok 6 s.infs.length),(1002,.tok 1 s.drv.length),(1003,.map FY (F3 0 s.infs)),(1004,.arr 1 (st.map Bl))] (Xi (JW roots C A (Es s ⟨1,n.path,n.place,n.number,0,0⟩ (EI n.path n.place n.rq)).2 dec st) (Xi [.ref 1000 0,.agg [vi 1,vs n.path,vi n.place,vi n.number,vi 0,vi 0],sl AO (EI n.path n.place n.rq)] (Xi (vi (((Es s ⟨1,n.path,n.place,n.number,0,0⟩ (EI n.path n.place n.rq)).1:Nat):Int):AV) (Yi (fun h2 hh=>Yi ((uX (show h2 1000=.cells (srM roots C A s dec 1004 st.length)from hh 1000 Cl) (show h2 1001=.tok 6 s.infs.length from hh 1001 Cl) (show h2 1002=.tok 1 s.drv.length from hh 1002 Cl) (show h2 1003=.map FY (F3 0 s.infs)from hh 1003 Cl) (show h2 1004=.arr 1 (st.map Bl)from hh 1004 Cl)).trans rfl) rfl) (Yi Wk (Yi (pF roots C A s dec st ⟨1,n.path,n.place,n.number,0,0⟩ (EI n.path n.place n.rq) hn hdl Oh) (Yi Wk ?_)))))))))));have ei:=ld (s:=s) h1;exact Xi _ (Yi (.refl _) (Yi (show vi (((Es s ⟨1,n.path,n.place,n.number,0,0⟩ (EI n.path n.place n.rq)).1:Nat):Int)=vi (((BH s n).1:Nat):Int) by rw[ei]) (show Ak (JW roots C A (Es s ⟨1,n.path,n.place,n.number,0,0⟩ (EI n.path n.place n.rq)).2 dec st) Af=Ak (JW roots C A (BH s n).2 dec st) Af by rw[ei])))
theorem s89(hd:s.drv.length≤65536)(ht:∀t∈s.drv,jk t)(hS:Cy S):A1 Tryz.prog 92 [.ref 1000 0,sl Ac S] (Ak (JW roots C A s dec st) Af) fun r h'=>r=X1 s.drv S∧h'=Ak (JW roots C A s dec st) Af:=by
 refine BW (KV D3) [(1000,1000),(1001,1001),(1002,1002),(1003,1003),(1004,1004)] rfl Co hm rfl Tryz.func92 Wk rfl (Nz rfl) Wk rfl (Xi {i:Nat // i≤s.drv.length∧∀j u,j<i→s.drv[j]?=some u→CQ u S=false} (Xi (fun q=>⟨[(1,sl Ac S),(11,.slice (.id 1002 1) (s.drv.map Dg)),(12,vi (s.drv.map Dg).length),(13,vi q.1)],[(1000,.cells (srM roots C A s dec 1004 st.length)),(1001,.tok 6 s.infs.length),(1002,.tok 1 s.drv.length),(1003,.map FY (F3 0 s.infs)),(1004,.arr 1 (st.map Bl))],Af⟩) (Xi (fun q=>s.drv.length-q.1) (Yi (Xi ⟨0,AA _,fun j u h=>absurd h (F2 j)⟩ ?_) ?_))))
 ·exact⟨Z4,Z5,Fh,Bo Wk⟩
 intro⟨i,i1,i2⟩;have i1:i≤s.drv.length:=i1;have i2:∀j u,j<i→s.drv[j]?=some u→CQ u S=false:=i2;refine Yi (fun h1=>?_) (fun h1=>?_)
 ·have h1:(i:Int)<((s.drv.map Dg).length:Int):=h1;have n1:=GI h1;refine Xi (Dg s.drv[i]) (Yi (Hb n1) (Yi rfl (BF (Bt (CQ s.drv[i] S)) (fun h2=>?_) (fun h2=>?_))))
  ·have h2:(CQ s.drv[i] S)=true:=h2;refine Xi .pure (Xi _ (Yi (cb h2 (c91 s.drv[i] S (ht _ (Aj _)) hS)) ?_));have eE:OG s.drv S=some i:=by unfold OG;rw[Zj (Ge n1) h2 i2,Bi]
   exact Xi _ (Yi (.refl _) (Yi (show AV.tup [vi (i:Int),vb true]=X1 s.drv S by unfold X1;rw[eE];rfl) rfl))
  have h2:(CQ s.drv[i] S)=false:=h2;refine Xi .pure (Xi _ (Yi (cb h2 (c91 s.drv[i] S (ht _ (Aj _)) hS)) (Yi (Ii i ch) ?_)));refine Xi ⟨i+1,by omega,fun j u hj hu=>by
    by_cases e:j=i
    ·subst e;rw[Ge n1]at hu;cases hu;exact h2
    ·exact i2 j u ch hu⟩ ?_
  exact⟨Dl s.drv.length i ch,Z4,Z5,Fh,Bo Wk⟩
 have h1:¬((i:Int)<((s.drv.map Dg).length:Int)):=h1;have n1:=GH h1;have eE:OG s.drv S=none:=Zk fun t ht=>by
  obtain⟨j,hj⟩:=Cg.1 ht
  have:=(Aw.1 hj).1
  exact i2 j t (by have q:=h1;rw[Lm]at q;omega) hj
 exact Xi _ (Yi (.refl _) (Yi (show AV.tup [vi 0,vb false]=X1 s.drv S by unfold X1;rw[eE];rfl) rfl))
def UX(l:List Cd)(q:Rq):Bool:=l.any fun d=>decide (d.rel.path=q.path)&&!has q.set d.place
theorem WH{f:Rq→Nat→Nd}{P:Nd→Bool}:∀{l:List Rq} {b i:Nat} {q:Rq},l[i]?=some q→P (f q (b+i))=true→(∀k u,k<i→l[k]?=some u→P (f u (b+k))=false)→(Ma f b l).find? P=some (f q (b+i))
 | [],_,_,_,h,_,_=>by simp at h
 |u::l,b,0,q,h,he,_=>by
  cases h
  unfold Ma;rw[ED,show P (f u b)=true from he];rfl
 |u::l,b,i+1,q,h,he,hn=>by
  unfold Ma;have h0:P (f u b)=false:=hn 0 u ch rfl;rw[ED,h0]
  have:=WH (f:=f) (P:=P) (l:=l) (b:=b+1) (i:=i) (q:=q) (by simpa using h) (by rw[show b+1+i=b+(i+1) by omega];exact he) (fun k v hk hv=>by
   rw[show b+1+k=b+(k+1) by omega];exact hn (k+1) v ch (by simpa using hv))
  rw[show b+1+i=b+(i+1) by omega]at this;exact this
theorem PV{f:Rq→Nat→Nd}{P:Nd→Bool}:∀{l:List Rq} {b:Nat},(∀k u,l[k]?=some u→P (f u (b+k))=false)→(Ma f b l).find? P=none
 | [],_,_=>rfl
 |u::l,b,h=>by
  unfold Ma;have h0:P (f u b)=false:=h 0 u rfl;rw[ED,h0];exact PV fun k v hv=>by rw[show b+1+k=b+(k+1) by omega];exact h (k+1) v (by simpa using hv)
def zNd:AV:=.agg [vs ⟨#[]⟩,Ce,vs ⟨#[]⟩,vi 0,vi 0]
def rE(o:Option Nd):AV:=match o with | some n=>.tup [.agg (Br n),vb true] | none=>.tup [zNd,vb false]
section
variable {dec:List Cd}{c:Cd}{i:Nat}
theorem jH(hi:i<c.rel.reqs.length)(hn:∀k q,k<i→c.rel.reqs[k]?=some q→UX (dec++[c]) q=false){j:Nat}(hj:j<(dec++[c]).length)(h1:(dec++[c])[j].rel.path=c.rel.reqs[i].path)(h2:has c.rel.reqs[i].set (dec++[c])[j].place=false) :
  Dc dec c=some ⟨c.rel.reqs[i],c.rel.path,c.place,(i:Nat)⟩:=by
 have:=WH (f:=fun q i=>⟨q,c.rel.path,c.place,(i:Nat)⟩) (P:=UW (dec++[c])) (l:=c.rel.reqs) (b:=0) (i:=i) (q:=c.rel.reqs[i]) (Ge hi)
  (A5.2 ⟨_,Aj hj,by rw[Aq h1,h2];rfl⟩) (fun k u hk hu=>hn k u hk hu)
 unfold Dc QA;rw[this,Bi]
theorem jI(hn:∀(k:Nat) (q:Rq),c.rel.reqs[k]?=some q→UX (dec++[c]) q=false):Dc dec c=none:=by
 unfold Dc QA;exact PV fun k u hu=>hn k u hu
theorem lz{q:Rq}(h:∀(m:Nat) (d:Cd),(dec++[c])[m]?=some d→(decide (d.rel.path=q.path)&&!has q.set d.place)=false):UX (dec++[c]) q=false:=by
 unfold UX;rw[De];intro d hd;obtain⟨m,hm⟩:=Cg.1 hd;rw[h m d hm];decide
end
theorem s87(n:Nd)(c:Cd)(hq:Cy n.rq.set):PC 89 [.agg (Br n),.cptr (AU c)] (vb (!has n.rq.set c.place)):=by
 refine Ps (pC [2] []) Tryz.func89 rfl (Nz rfl) (BF (Bt (has n.rq.set c.place)) (fun h1=>?_) (fun h1=>?_))
 ·have h1:(has n.rq.set c.place)=true:=h1;refine Xi .pure (Xi _ (Yi (cb h1 (uM n.rq.set c.place hq)) ?_));exact .of_eq (show vb false=vb (!has n.rq.set c.place) by rw[h1];rfl)
 have h1:(has n.rq.set c.place)=false:=h1;refine Xi .pure (Xi _ (Yi (cb h1 (uM n.rq.set c.place hq)) ?_));exact .of_eq (show vb true=vb (!has n.rq.set c.place) by rw[h1];rfl)
theorem s69(hd:dec.length≤1073741823)(hr:c.rel.reqs.length≤1073741824)(hq:∀q∈c.rel.reqs,Cy q.set):A1 Tryz.prog 93 [.ref 1000 0,.agg (AU c)] (Ak (JW roots C A s dec st) Af) fun r h'=>r=rE (Dc dec c)∧h'=Ak (JW roots C A s dec st) Af:=by
 have hd:dec.length≤1073741823:=hd;have hdl:(dec++[c]).length=dec.length+1:=by simp
 refine BW (KV ⟨[3],[],[],[],[],[],[],[],[(23,3)],[],[]⟩) [(1000,1000),(1001,1001),(1002,1002),(1003,1003),(1004,1004)] rfl Co hm rfl Tryz.func93 Wk rfl (Nz rfl) Wk rfl (Xi {i:Nat // i≤c.rel.reqs.length∧∀k q,k<i→c.rel.reqs[k]?=some q→UX (dec++[c]) q=false} (Xi (fun q=>⟨[(0,.ref 1000 0),(3,.ref 3 0),(4,.ref 4 0),(12,sl AH c.rel.reqs),(13,vi (c.rel.reqs.map AH).length),(14,vi q.1)],[(3,.ro (AU c)),(4,.cells [vs ⟨#[]⟩,Ce,vs ⟨#[]⟩,vi 0,vi 0]),(1000,.cells (srM roots C A s dec 1004 st.length)),(1001,.tok 6 s.infs.length),(1002,.tok 1 s.drv.length),(1003,.map FY (F3 0 s.infs)),(1004,.arr 1 (st.map Bl))],Af⟩) (Xi (fun q=>c.rel.reqs.length-q.1) (Yi (Xi ⟨0,AA _,fun k q h=>absurd h (F2 k)⟩ ?_) ?_))))
 ·exact⟨Z6,Z7,Fh,Bo Wk⟩
 intro⟨i,i1,i2⟩;have i1:i≤c.rel.reqs.length:=i1;have i2:∀k q,k<i→c.rel.reqs[k]?=some q→UX (dec++[c]) q=false:=i2;refine Yi (fun h1=>?_) (fun h1=>?_)
 ·have h1:(i:Int)<((c.rel.reqs.map AH).length:Int):=h1;have n1:=GI h1;refine Xi (AH c.rel.reqs[i]) (Yi (Hb n1) (Yi rfl (yN (yN (Xi _ (Xi _ (Yi Wk (Yi (xi dec (Bf hd Cl)) (yN ?_)))))))));have b2:Cf 10 [(AU c)]∧(dec.map AU).length=(dec.map AU).length∧((dec.map AU).length+([(AU c)]:List (List AV)).length)*128≤140737488355328∧(dec.map AU).length+([(AU c)]:List (List AV)).length≤9223372036854775807:=⟨⟨rfl,trivial⟩,rfl,(by simp only[Lm,Av,Ax];omega),(by simp only[Lm,Av,Ax];omega)⟩;refine Yi b2 (Yi Wk (Xi {j:Nat // j≤(dec++[c]).length∧∀m d,m<j→(dec++[c])[m]?=some d→(decide (d.rel.path=c.rel.reqs[i].path)&&!has c.rel.reqs[i].set d.place)=false} (Xi (fun q=>⟨[(0,.ref 1000 0),(3,.ref 3 0),(4,.ref 4 0),(6,vi i),(7,.ref 7 0),(12,sl AH c.rel.reqs),(13,vi (c.rel.reqs.map AH).length),(14,vi i),(26,.slice (.id 12300 10) ((dec++[c]).map AU)),(27,vi ((dec++[c]).map AU).length),(28,vi q.1)],[(3,.ro (AU c)),(4,.cells [vs ⟨#[]⟩,Ce,vs ⟨#[]⟩,vi 0,vi 0]),(7,.cells (AH c.rel.reqs[i])),(1000,.cells (srM roots C A s dec 1004 st.length)),(1001,.tok 6 s.infs.length),(1002,.tok 1 s.drv.length),(1003,.map FY (F3 0 s.infs)),(1004,.arr 1 (st.map Bl)),(12300,.tok 10 ((dec++[c]).map AU).length)],Af⟩) (Xi (fun q=>(dec++[c]).length-q.1) (Yi (Xi ⟨0,AA _,fun k q h=>absurd h (F2 k)⟩ ?_) ?_)))))
  ·exact⟨⟨Zr,Zr,Zr,Zr,Zr,Zr,Zr,Zr,⟨tkA,rfl⟩,⟨(show vi ((dec.map AU++[AU c]:List (List AV)).length:Int)=vi (((dec++[c]).map AU).length:Int) by rw[As];rfl),rfl⟩,Zr,Tv⟩,⟨Zr,Zr,Zr,Zr,Zr,Zr,Zr,Zr,⟨(show HO.tok 10 ((dec.map AU).length+[AU c].length)=.tok 10 ((dec++[c]).map AU).length by simp),rfl⟩,Tv⟩,Fh,Bo Wk⟩
  intro⟨j,j1,j2⟩;have j1:j≤(dec++[c]).length:=j1;have j2:∀m d,m<j→(dec++[c])[m]?=some d→(decide (d.rel.path=c.rel.reqs[i].path)&&!has c.rel.reqs[i].set d.place)=false:=j2;refine Yi (fun h3=>?_) (fun h3=>?_)
  ·have h3:(j:Int)<(((dec++[c]).map AU).length:Int):=h3;have n3:=GI h3;refine Xi (AU ((dec++[c])[j])) (Yi (Hb n3) (Yi rfl (yN (yN (Yi (fun h4=>?_) (fun h4=>?_))))))
   ·have h4:(((dec++[c])[j]).rel.path:ByteArray)=c.rel.reqs[i].path:=h4;refine BF (Bt (has c.rel.reqs[i].set (dec++[c])[j].place)) (fun h5=>?_) (fun h5=>?_)
    ·have h5:(has c.rel.reqs[i].set (dec++[c])[j].place)=true:=h5;refine Xi .pure (Xi _ (Yi (cb h5 (uM c.rel.reqs[i].set (dec++[c])[j].place (hq _ (Aj _)))) (Yi (Ii j ch) ?_)));refine Xi ⟨j+1,by omega,fun m d hm hd=>by
       by_cases e:m=j
       ·subst e;rw[Ge n3]at hd;cases hd;exact by rw[h5];simp
       ·exact j2 m d ch hd⟩ ?_
     exact⟨by show(dec++[c]).length-(j+1)<(dec++[c]).length-j;omega,Z11,Z9,Fh,Bo Wk⟩
    have h5:(has c.rel.reqs[i].set (dec++[c])[j].place)=false:=h5;refine Xi .pure (Xi _ (Yi (cb h5 (uM c.rel.reqs[i].set (dec++[c])[j].place (hq _ (Aj _)))) (yN (yN (yN ?_)))));have eC:=jH (dec:=dec) (c:=c) n1 i2 n3 h4 h5;exact Xi _ (Yi (.refl _) (Yi (show AV.tup [.agg (Br ⟨c.rel.reqs[i],c.rel.path,c.place,(i:Nat)⟩),vb true]=rE (Dc dec c) by rw[eC];rfl) rfl))
   have h4:¬(((dec++[c])[j]).rel.path:ByteArray)=c.rel.reqs[i].path:=h4;refine Yi (Ii j ch) ?_;refine Xi ⟨j+1,by omega,fun m d hm hd=>by
     by_cases e:m=j
     ·subst e;rw[Ge n3]at hd;cases hd;exact by rw[Ap h4];rfl
     ·exact j2 m d ch hd⟩ ?_
   exact⟨by show(dec++[c]).length-(j+1)<(dec++[c]).length-j;omega,Z11,Z9,Fh,Bo Wk⟩
  have h3:¬((j:Int)<(((dec++[c]).map AU).length:Int)):=h3;have n3:=GH h3;refine Yi (Ii i ch) ?_;have hmq:UX (dec++[c]) c.rel.reqs[i]=false:=lz fun m d hd=>j2 m d (by have:=(Aw.1 hd).1;have q:=h3;rw[Lm]at q;omega) hd;refine Xi ⟨i+1,by omega,fun k q hk hq0=>by
    by_cases e:k=i
    ·subst e;rw[Ge n1]at hq0;cases hq0;exact hmq
    ·exact i2 k q ch hq0⟩ ?_
  exact⟨Dl c.rel.reqs.length i ch,Z6,Z7,Fh,Bo Wk⟩
 have h1:¬((i:Int)<((c.rel.reqs.map AH).length:Int)):=h1;have n1:=GH h1;refine yN (yN ?_);have eC:=jI (dec:=dec) (c:=c) fun k q hk=>i2 k q (by have:=(Aw.1 hk).1;have q:=h1;rw[Lm]at q;omega) hk;exact Xi _ (Yi (.refl _) (Yi (show AV.tup [zNd,vb false]=rE (Dc dec c) by rw[eC];rfl) rfl))
theorem PL{x:List Rl}{roots:List Rq}{l0:List Nf}:∀{l:List Nf} {d d' : List (List Tm)},(∀i∈l,i∈l0)→(∀t∈d,Wf (K8 x roots l0) t)→Ds x roots l d=some d'→∀t∈d',Wf (K8 x roots l0) t
 | [],d,d',_,hd,h=>by cases h;exact hd
 |i::l,d,d',hl,hd,h=>by
  unfold Ds at h;cases hi:Eb x roots d i with
  |none=>rw[hi]at h;cases h
  |some t =>
   rw[hi]at h;refine PL (fun j hj=>hl j (Ah _ hj)) (fun u hu=>?_) h;rcases AY.1 hu with hu | hu
   ·exact hd u hu
   ·rw[Ar.1 hu];exact gM (hl i (Aa ..)) hd hi
section
variable {x:List Rl}{roots:List Rq}{s:SS}
theorem FU.few(hx:AN x=0)(hr:Bn roots=0)(h:FU x roots s):∀t∈s.drv,qS t:=fun t ht =>
 (PL (l0:=s.infs) (fun _ h=>h) (fun _ h=>by cases h) h.der t ht).fewI (cV hx hr h.len)
theorem IQ{l:List Tm}(h:s.infs.Nodup):(Es s i l).2.infs.Nodup:=by
 cases hk:MI i 0 s.infs with
 |some k=>rw[Y1 hk];exact h
 |none =>
  by_cases hf:65536≤s.infs.length
  ·rw[Wl hk hf];exact h
  ·rw[YZ hk hf];show(s.infs++[i]).Nodup;rw[GU];refine⟨h,by simp,fun a ha b hb e=>?_⟩;rw[Ar.1 hb]at e;exact RK hk (e▸ha)
theorem Ky.add(h:Ky x roots s){l:List Tm}(hi:Eb x roots s.drv i=some l):Ky x roots (Es s i l).2∧(Es s i l).1<(Es s i l).2.drv.length∧s.drv.length≤(Es s i l).2.drv.length :=
 ⟨⟨(Ll h.der hi).1,IQ h.nodup⟩,(Ll h.der hi).2.1,(Ln s i l).len⟩
theorem Ky.dl(h:Ky x roots s):s.infs.length≤65536∧s.drv.length=s.infs.length∧s.drv.length≤65536:=by
 have h1:=h.der.dlen;have h2:=h.der.len;exact⟨h2,h1,by omega⟩
theorem lJ(hx:AN x=0)(p:ByteArray):∀d,Eb x roots d ⟨2,p,0,0,0,0⟩=some (IB p (Ca x p)):=fun d=>by
 obtain⟨u,u0,u1,hu⟩:=fj hx p;have hV:GG []:=fun _ h=>by cases h
 have ou:YV [] p (K7 [] p (QR u)):=.ver hV (Fw ⟨u0,u1⟩);have h1:Bh [(⟨p,false,EJ (Ca x p)⟩:Tm)] (K7 [] p (QR u))=true:=by
  rw[BI];intro t ht;rw[Ar.1 ht];show Dy _ (Bv (K7 [] p (QR u)) p)=true;rw[I0 rfl];show(Cj (QR u)&&has (EJ (Ca x p)) (place (QR u)))=true;rw[Fw ⟨u0,u1⟩,HJ,Ga,hu];unfold MG;simp[u0,u1]
 have h2:Bh [(⟨p,false,EJ (Ca x p)⟩:Tm)] []=false:=rfl;have DM:IB p (Ca x p)≠[]:=by
  have c1:=Dk (l:=[(⟨p,false,EJ (Ca x p)⟩:Tm)]) ou.val;have c2:=Dk (l:=[(⟨p,false,EJ (Ca x p)⟩:Tm)]) hV;rw[h1]at c1;rw[h2]at c2;unfold IB RH;cases hc:Db [(⟨p,false,EJ (Ca x p)⟩:Tm)]with
  |none=>rw[hc]at c1;cases c1
  |some c =>
   rw[hc]at c2;intro e;have e:c=[]:=e;rw[e]at c2;cases c2
 unfold Eb;rw[Ae (show ¬((2:Int)=0) by decide),Ae (show ¬((2:Int)=1) by decide),Al rfl,Al ⟨rfl,rfl,rfl,rfl⟩];unfold gX;rw[Ae (by rw[Gp];exact DM)]
theorem EY(h:k<s.drv.length):s.drv[k]?=some (D7 s k):=by
 unfold D7;rw[B6,Ge h];rfl
theorem UQ{p:ByteArray}{L:List Nat}(hj:j<L.length)(h:s.full=true∨Dm (D7 s k) p=false):Cc p (L.drop j) k s=(k,s):=by
 rw[AP hj];unfold Cc;rw[Al h]
theorem cA{p:ByteArray}{L:List Nat}(hj:j<L.length)(h1:¬(s.full=true∨Dm (D7 s k) p=false))(h:L[j]=k):Cc p (L.drop j) k s=Cc p (L.drop (j+1)) k s:=by
 rw[AP hj]
 conv=>lhs;unfold Cc
 rw[Ae h1,Al h]
theorem gT{p:ByteArray}{L:List Nat}(hj:j<L.length)(h1:¬(s.full=true∨Dm (D7 s k) p=false))(h2:¬L[j]=k)(h:(BO (D7 s k) (D7 s L[j]) p).2≠0):Cc p (L.drop j) k s=Cc p (L.drop (j+1)) k s:=by
 rw[AP hj]
 conv=>lhs;unfold Cc
 rw[Ae h1,Ae h2,Al h]
theorem gS{p:ByteArray}{L:List Nat}(hj:j<L.length)(h1:¬(s.full=true∨Dm (D7 s k) p=false))(h2:¬L[j]=k)(h:(BO (D7 s k) (D7 s L[j]) p).2=0) :
  Cc p (L.drop j) k s=Cc p (L.drop (j+1)) (Es s ⟨3,p,0,0,(k:Nat),(L[j]:Nat)⟩ (BO (D7 s k) (D7 s L[j]) p).1).1 (Es s ⟨3,p,0,0,(k:Nat),(L[j]:Nat)⟩ (BO (D7 s k) (D7 s L[j]) p).1).2:=by
 rw[AP hj]
 conv=>lhs;unfold Cc
 rw[Ae h1,Ae h2,Ae (fun h3=>h3 h)]
end
theorem FF{t:List Tm}(h:qS t):Cy t:=by have:=h.1;unfold Cy;omega
theorem s91(x:List Rl)(roots:List Rq)(C A:List (Value×AV))(s:SS)(dec:List Cd)(st:List (List Sk))(p:ByteArray)(n:Nd)(rs:List Nat)(V:AV)(hx:AN x=0)(hr:Bn roots=0)(hs:Ky x roots s)(r6:∀d,Eb x roots d (N0 n)=some (Ir n))(yg:∀r∈rs,r<s.drv.length)(hrl:rs.length≤1073741823)(hnq:Cy n.rq.set)(hnp:Bc (n.place+1))
  (vg:∀a,(Value.string p,a)∈A→a=V) (vh:(∀a,(Value.string p,a)∉A)→V=Ce) (vl:∀h,PC 127 [vs p,str h V] (sl AO (IB p (Ca x p)))):A1 Tryz.prog 96 [.ref 1000 0,vs p,.agg (Br n),sl CP rs] (Ak (JW roots C A s dec st) Af) fun r h'=>qQ roots C A dec st (DZ x p n rs s) r h':=by
 have hw:=hs.dl;obtain⟨so,tX,Ts⟩:=hs.add (r6 s.drv)
 change Ky x roots (BH s n).2 at so
 change (BH s n).1<(BH s n).2.drv.length at tX
 change s.drv.length≤(BH s n).2.drv.length at Ts
 have LO:=so.dl;obtain⟨oF,H6,kH⟩:=so.add (lJ hx p (BH s n).2.drv)
 change Ky x roots (En x p (BH s n).2).2 at oF
 change (En x p (BH s n).2).1<(En x p (BH s n).2).2.drv.length at H6
 change (BH s n).2.drv.length≤(En x p (BH s n).2).2.drv.length at kH
 obtain⟨L,hL⟩:∃L,L=(En x p (BH s n).2).1::rs:=⟨_,rfl⟩;have hLr:∀r∈L,r<(En x p (BH s n).2).2.drv.length:=fun r oE=>by
  rw[hL]at oE;rcases AF.1 oE with rfl | h
  ·exact H6
  ·have:=yg r h;omega
 have hLl:L.length=rs.length+1:=by rw[hL];rfl
 have tX:(BH s n).1<(En x p (BH s n).2).2.drv.length:=by omega
 refine BW (KV (pC [6] [3,7,8,10])) [(1000,1000),(1001,1001),(1002,1002),(1003,1003),(1004,1004)] rfl Co hm rfl Tryz.func96 Wk rfl (Nz rfl) Wk rfl (yN (Xi (.gen bA 0) (Yi rfl (A1.imp (s88 roots C A s dec st n hw.1 hw.2.1 hs.nodup hnq hnp) ?_))));intro v1 g1 q1;have pz:=q1.1;have pA:=q1.2;subst pz;subst pA;refine Qb V Ce vg vh (fun h=>h) (Xi .pure (Xi _ (Yi (vl _) (Xi (.gen bA 0) (Yi rfl (A1.imp (pF roots C A (BH s n).2 dec st ⟨2,p,0,0,0,0⟩ (IB p (Ca x p)) LO.1 LO.2.1 so.nodup) ?_))))));intro v2 g2 q2;have q2a:=q2.1;have q2b:=q2.2;subst q2a;subst q2b;refine cU [(0,.ref 1000 0),(1,vs p),(3,sl CP rs),(9,vi (((BH s n).1:Nat):Int)),(10,vi (((En x p (BH s n).2).1:Nat):Int))] [(1000,.cells [sl AH roots,.cmap Du C,.cmap Du A,.slice (.id 1001 6) ((En x p (BH s n).2).2.infs.map Dn),.slice (.id 1002 1) ((En x p (BH s n).2).2.drv.map Dg),.mref 1003,vb (En x p (BH s n).2).2.full,sl AU dec,sl Ac (AD dec),.msl 1004 st.length]),(1001,.tok 6 (En x p (BH s n).2).2.infs.length),(1002,.tok 1 (En x p (BH s n).2).2.drv.length),(1003,.map FY (F3 0 (En x p (BH s n).2).2.infs)),(1004,.arr 1 (st.map Bl))] Z5 Z5 ?_
 have b3:Cf 1 (rs.map CP)∧([[vi (((En x p (BH s n).2).1:Nat):Int)]]:List (List AV)).length=1∧(([[vi (((En x p (BH s n).2).1:Nat):Int)]]:List (List AV)).length+(rs.map CP).length)*8≤140737488355328∧([[vi (((En x p (BH s n).2).1:Nat):Int)]]:List (List AV)).length+(rs.map CP).length≤9223372036854775807:=⟨(DW (enc:=CP) (n:=1) (fun _=>rfl) rs),(by first | (simp;done) | (rw[Lm];assumption)),(by simp only[Lm,Av,Ax];omega),(by simp only[Lm,Av,Ax];omega)⟩
 refine Yi b3 (Xi {q:Nat×Nat×SS // q.1≤L.length∧Cc p (L.drop q.1) q.2.1 q.2.2=Cc p L (BH s n).1 (En x p (BH s n).2).2∧Ky x roots q.2.2∧q.2.1<q.2.2.drv.length∧∀r∈L,r<q.2.2.drv.length} (Xi (fun q=>⟨[(0,.ref 1000 0),(1,vs p),(9,vi q.1.2.1),(33,.slice (.id 31 1) (L.map CP)),(34,vi (L.map CP).length),(35,vi q.1.1)],[(31,.tok 1 (L.map CP).length),(1000,.cells (srM roots C A q.1.2.2 dec 1004 st.length)),(1001,.tok 6 q.1.2.2.infs.length),(1002,.tok 1 q.1.2.2.drv.length),(1003,.map FY (F3 0 q.1.2.2.infs)),(1004,.arr 1 (st.map Bl))],Af⟩) (Xi (fun q=>L.length-q.1.1) (Yi (Xi ⟨(0,(BH s n).1,(En x p (BH s n).2).2),AA _,by rw[Lg],oF,tX,hLr⟩ ?_) ?_))))
 ·exact⟨⟨Zr,Zr,Zr,⟨(show AV.slice (.id 31 1) ([[vi (((En x p (BH s n).2).1:Nat):Int)]]++rs.map CP)=.slice (.id 31 1) (L.map CP) by rw[hL];rfl),rfl⟩,⟨(show vi (([[vi (((En x p (BH s n).2).1:Nat):Int)]]++rs.map CP:List (List AV)).length:Int)=vi ((L.map CP).length:Int) by rw[hL];rfl),rfl⟩,Zr,Tv⟩,⟨⟨(show HO.tok 1 (([[vi (((En x p (BH s n).2).1:Nat):Int)]]:List (List AV)).length+(rs.map CP).length)=.tok 1 (L.map CP).length by rw[hL];simp[Nat.add_comm]),rfl⟩,Zr,Zr,Zr,Zr,Zr,Tv⟩,Fh,Bo Wk⟩
 intro⟨⟨j,k,S⟩,j1,j2,j3,j4,j5⟩;have j1:j≤L.length:=j1;have j2:Cc p (L.drop j) k S=Cc p L (BH s n).1 (En x p (BH s n).2).2:=j2;have j3:Ky x roots S:=j3;have j4:k<S.drv.length:=j4;have j5:∀r∈L,r<S.drv.length:=j5;have hw3:=j3.dl;have x7:=j3.der.few hx hr;have gk:S.drv[k]?=some (D7 S k):=EY j4;refine Yi (fun h4=>?_) (fun h4=>?_)
 ·have h4:(j:Int)<((L.map CP).length:Int):=h4;have n4:=GI h4;refine Xi (CP L[j]) (Yi (Hb n4) (Yi rfl (Yi (fun h5=>?_) (fun h5=>?_))))
  ·have h5:S.full=true:=h5;refine cU [(9,vi k)] [(1000,.cells (srM roots C A S dec 1004 st.length)),(1001,.tok 6 S.infs.length),(1002,.tok 1 S.drv.length),(1003,.map FY (F3 0 S.infs)),(1004,.arr 1 (st.map Bl))] Z1 Z5 ?_
   have eR:Cc p L (BH s n).1 (En x p (BH s n).2).2=(k,S):=by rw[←j2];exact UQ n4 (.inl h5)
   have eL:DZ x p n rs s=(k,S):=by unfold DZ;rw[←hL];exact eR
   exact Xi _ (Yi (.refl _) (Yi (show vi (k:Int)=vi (((DZ x p n rs s).1:Nat):Int) by rw[eL]) (show Ak (JW roots C A S dec st) Af=Ak (JW roots C A (DZ x p n rs s).2 dec st) Af by rw[eL])))
  have h5:S.full=false:=h5;refine Xi (Dg (D7 S k)) (Yi (Yi (Nn k) (CR gk)) (Yi rfl (BF (Bt (Dm (D7 S k) p)) (fun h7=>?_) (fun h7=>?_))))
  ·have h7:(Dm (D7 S k) p)=true:=h7;refine Xi .pure (Xi _ (Yi (cb h7 (nf (D7 S k) p (FF (x7 _ (Ay (EY j4)))))) (cU [(0,.ref 1000 0),(1,vs p),(9,vi k),(12,vi (L[j]:Nat)),(33,.slice (.id 31 1) (L.map CP)),(34,vi (L.map CP).length),(35,vi j)] [(31,.tok 1 (L.map CP).length),(1000,.cells (srM roots C A S dec 1004 st.length)),(1001,.tok 6 S.infs.length),(1002,.tok 1 S.drv.length),(1003,.map FY (F3 0 S.infs)),(1004,.arr 1 (st.map Bl))] Z7 Z6 (Yi (fun h8=>?_) (fun h8=>?_)))))
   ·have h8:((L[j]:Nat):Int)=(k:Int):=h8;refine Yi (Ii j ch) (Xi ⟨(j+1,k,S),FX n4,by rw[←(cA (s:=S) (p:=p) (L:=L) (j:=j) (k:=k) n4 (by rw[h5,h7];simp) (by have q:=h8;omega))];exact j2,j3,j4,j5⟩ ?_);exact⟨Dl L.length j ch,Z6,Z6,Fh,Bo Wk⟩
   have h8:¬(((L[j]:Nat):Int)=(k:Int)):=h8;refine Xi (Dg (D7 S k)) (Yi (Yi (Nn k) (CR gk)) (Yi rfl (Xi (Dg (D7 S L[j])) (Yi (Yi (show(0:Int)≤(L[j]:Nat) by omega) (CR (EY (j5 _ (Aj n4))))) (Yi rfl ?_)))));have fk:=x7 _ (Ay (EY j4));have fr:=x7 _ (Ay (EY (j5 _ (Aj n4))));refine Xi _ (Yi (zr (D7 S k) (D7 S L[j]) p fk.1 fr.1 fk.2 fr.2) (Yi Wk (cU [(0,.ref 1000 0),(1,vs p),(9,vi k),(12,vi (L[j]:Nat)),(13,sl AO (BO (D7 S k) (D7 S L[j]) p).1),(14,vi (BO (D7 S k) (D7 S L[j]) p).2),(33,.slice (.id 31 1) (L.map CP)),(34,vi (L.map CP).length),(35,vi j)] [(31,.tok 1 (L.map CP).length),(1000,.cells (srM roots C A S dec 1004 st.length)),(1001,.tok 6 S.infs.length),(1002,.tok 1 S.drv.length),(1003,.map FY (F3 0 S.infs)),(1004,.arr 1 (st.map Bl))] Z9 Z6 (Yi (fun Pl=>?_) (fun Pl=>?_)))))
   ·have Pl:((BO (D7 S k) (D7 S L[j]) p).2:Int)≠(0:Int):=Pl;refine Yi (Ii j ch) (Xi ⟨(j+1,k,S),FX n4,by rw[←(gT (s:=S) (p:=p) (L:=L) (j:=j) (k:=k) n4 (by rw[h5,h7];simp) (by have q:=h8;omega) Pl)];exact j2,j3,j4,j5⟩ ?_);exact⟨Dl L.length j ch,Z6,Z6,Fh,Bo Wk⟩
   have Pl:((BO (D7 S k) (D7 S L[j]) p).2:Int)=(0:Int):=AC Pl;refine Xi (.gen bA 0) (Yi rfl (A1.imp (pF roots C A S dec st ⟨3,p,0,0,(k:Nat),(L[j]:Nat)⟩ (BO (D7 S k) (D7 S L[j]) p).1 hw3.1 hw3.2.1 j3.nodup) ?_));intro v12 g12 py;have sU:=py.1;have sV:=py.2;subst sU;subst sV;refine Yi (Ii j ch) ?_;obtain⟨a1,a2,a3⟩:=j3.add (WU (x:=x) (roots:=roots) (p:=p) j4 (j5 _ (Aj n4)) Pl);refine Xi ⟨(j+1,(Es S ⟨3,p,0,0,(k:Nat),(L[j]:Nat)⟩ (BO (D7 S k) (D7 S L[j]) p).1).1,(Es S ⟨3,p,0,0,(k:Nat),(L[j]:Nat)⟩ (BO (D7 S k) (D7 S L[j]) p).1).2),FX n4,by rw[←(gS (s:=S) (p:=p) (L:=L) (j:=j) (k:=k) n4 (by rw[h5,h7];simp) (by have q:=h8;omega) Pl)];exact j2,a1,a2,fun r hr=>BD (j5 r hr) a3⟩ ?_;exact⟨Dl L.length j ch,Z6,Z6,Fh,Bo Wk⟩
  have h7:(Dm (D7 S k) p)=false:=h7;refine Xi .pure (Xi _ (Yi (cb h7 (nf (D7 S k) p (FF (x7 _ (Ay (EY j4)))))) (cU [(9,vi k)] [(1000,.cells (srM roots C A S dec 1004 st.length)),(1001,.tok 6 S.infs.length),(1002,.tok 1 S.drv.length),(1003,.map FY (F3 0 S.infs)),(1004,.arr 1 (st.map Bl))] Z1 Z5 ?_)))
  have eR:Cc p L (BH s n).1 (En x p (BH s n).2).2=(k,S):=by rw[←j2];exact UQ n4 (.inr h7)
  have eL:DZ x p n rs s=(k,S):=by unfold DZ;rw[←hL];exact eR
  exact Xi _ (Yi (.refl _) (Yi (show vi (k:Int)=vi (((DZ x p n rs s).1:Nat):Int) by rw[eL]) (show Ak (JW roots C A S dec st) Af=Ak (JW roots C A (DZ x p n rs s).2 dec st) Af by rw[eL])))
 have h4:¬((j:Int)<((L.map CP).length:Int)):=h4;have n4:=GH h4;have hj:¬j<L.length:=by have q:=h4;rw[Lm]at q;omega
 have eR:Cc p L (BH s n).1 (En x p (BH s n).2).2=(k,S):=by rw[←j2,CK ch];rfl
 have eL:DZ x p n rs s=(k,S):=by unfold DZ;rw[←hL];exact eR
 exact Xi _ (Yi (.refl _) (Yi (show vi (k:Int)=vi (((DZ x p n rs s).1:Nat):Int) by rw[eL]) (show Ak (JW roots C A S dec st) Af=Ak (JW roots C A (DZ x p n rs s).2 dec st) Af by rw[eL])))
abbrev bB:JO:=[(1000,1000),(1001,1001),(1002,1002),(1003,1003),(500,1004)]
abbrev yE:List (Nat×HO) :=
 [(1000,.cells (srM roots C A s dec 2000 st.length)),(1001,.tok 6 s.infs.length),(1002,.tok 1 s.drv.length),(1003,.map FY (F3 0 s.infs)),(1004,.dead),(2000,.arr 1 (st.map Bl))]
abbrev bC(o:Kx)(r:AV)(h' : Nat→HO):Prop:=r=.tup [vi (o.res:Nat),vb o.found]∧h'=Ak (yE roots C A o.ss o.dec o.stack) Af
def H64:Prop:=∀(s:SS) (dec:List Cd) (st:List (List Sk)),dec.length≤1000→(∀c∈dec,c.rel.reqs.length≤1073741824) →
 A1 Tryz.prog 87 [.ref 1000 0] (Ak (JW roots C A s dec st) Af) fun r h'=>r=.tup [vs (Em roots dec).1,sl Br (Em roots dec).2]∧h'=Ak (JW roots C A s dec st) Af
theorem Ow{roots:List Rq}{C A:List (Value×AV)}{o:Kx}{b:Bool}{s:SS}{dec:List Cd}{st:List (List Sk)}(e:o=⟨k,b,s,dec,st⟩) :
  AV.tup [vi (k:Nat),vb b]=.tup [vi (o.res:Nat),vb o.found]∧Ak (yE roots C A s dec st) Af=Ak (yE roots C A o.ss o.dec o.stack) Af:=by rw[e];exact Zr
abbrev bz:JO:=[(1000,1000),(1001,1001),(1002,1002),(1003,1003),(1004,1004),(1005,1005),(1006,1006),(1007,1007),(1008,1008),(1009,1009)]
def Hj:ByteArray×List Nd:=((DI roots dec).take m).foldl (EH dec) (mt,[])
theorem aF{roots:List Rq}{dec:List Cd}{m:Nat}(h:(DI roots dec)[m]?=some n):Hj roots dec (m+1)=EH dec (Hj roots dec m) n:=by
 unfold Hj;rw[Be,h,FV];rfl
theorem pf{roots:List Rq}{dec:List Cd}{m:Nat}(h:(DI roots dec).length≤m):Hj roots dec m=Em roots dec:=by
 unfold Hj Em;rw[Au h]
def Gj(j:Nat):Nat:=roots.length+((dec.take j).map fun c=>c.rel.reqs.length).sum
theorem Vg:(QA c).length=c.rel.reqs.length:=LA _ _ _
theorem il:Gj roots dec 0=roots.length:=by unfold Gj;simp
theorem ik{roots:List Rq}{dec:List Cd}(h:j<dec.length):Gj roots dec (j+1)=Gj roots dec j+dec[j].rel.reqs.length:=by
 unfold Gj;rw[D6 h,As,List.sum_append];simp[Nat.add_assoc]
theorem aI:Gj roots dec dec.length=(DI roots dec).length:=by
 unfold Gj DI aX;rw[Dp,Ad,LA,List.length_flatten,BE]
 congr 2
 exact Bd fun c _=>(Vg c).symm
theorem gZ{roots:List Rq}{dec:List Cd}{i:Nat}(h:i<roots.length):(DI roots dec)[i]?=some ⟨roots[i],mt,0,(i:Nat)⟩:=by
 unfold DI aX;rw[A2 (by rw[LA];exact h),Qy,Ge h,Ib,Bi]
theorem Zt{α:Type}:∀{l:List (List α)} {j k:Nat} (hj:j<l.length),k<l[j].length→l.flatten[((l.take j).map List.length).sum+k]?=l[j][k]?
 |y::l,0,k,_,hk=>by
  rw[Bm,List.take_zero,FA,List.sum_nil,Bi,A2 (show k<y.length from hk)];rfl
 |y::l,j+1,k,hj,hk=>by
  rw[Bm,JN,AJ,List.sum_cons,AR ch]
  have:=Zt (l:=l) (j:=j) (k:=k) (by simpa using hj) hk
  rw[show y.length+((l.take j).map List.length).sum+k-y.length=((l.take j).map List.length).sum+k by omega,this]
  rfl
theorem lC{roots:List Rq}{dec:List Cd}(hj:j<dec.length)(hk:k<dec[j].rel.reqs.length):(DI roots dec)[Gj roots dec j+k]?=some ⟨dec[j].rel.reqs[k],dec[j].rel.path,dec[j].place,(k:Nat)⟩:=by
 unfold DI aX Gj;rw[AR (by rw[LA];omega),LA];have h:=Zt (l:=dec.map QA) (j:=j) (k:=k) (by simpa using hj) (by rw[TN,Vg];exact hk);rw[←SX,BE,show(List.length ∘ QA)=fun c=>c.rel.reqs.length from funext Vg]at h;rw[show roots.length+((dec.take j).map fun c=>c.rel.reqs.length).sum+k-roots.length=((dec.take j).map fun c=>c.rel.reqs.length).sum+k by omega,h,TN];unfold QA;rw[Qy,Ge hk,Ib,Bi]
abbrev lN:List (Nat×HO) :=
  [(1000,.cells (yD roots C A s dec st.length)),(1001,.tok 6 s.infs.length),(1002,.tok 1 s.drv.length),(1003,.map FY (F3 0 s.infs)),(1004,.arr 1 (st.map Bl)),
   (1005,.cells [.ref 1000 0]),(1006,.cells [vs (Hj roots dec m).1]),(1007,.cells [.slice (.ver 1008 5 m) ((Hj roots dec m).2.map Br)]),(1008,.var 5 m ((Hj roots dec m).2.map Br).length),(1009,.cells [.ref 1000 0])]
noncomputable abbrev cxn(pl:Q0)(l:Nat)(Y:Gh→World→Prop):Cx:=⟨Tryz.prog,pU,pl,true,0,fun l' σ' g w=>l'=l→σ'=bz→Y g w⟩
theorem JH.pre{P:Program}{Y':Gh→World→Prop}{l:Nat}{args:List AV}{h0:Nat→HO}{Q:AV→(Nat→HO)→Prop}(h:JH P Y l args h0 Q)(hp:∀g w,Y' g w→Y g w):JH P Y' l args h0 Q :=
 fun g w vals q1 q2 q3 q4=>h g w vals q1 q2 q3 (hp g w q4)
theorem AbY:A1 Tryz.prog 117 [.ref 1000 0] (Ak (JW roots C A s dec st) Af) fun r h'=>r=.clo 170 [.ref 2000 0]∧h'=Ak (JW roots C A s dec st++[(2000,.cells [.ref 1000 0])]) Af:=by
 refine BW (KV D3) [(1000,1000),(1001,1001),(1002,1002),(1003,1003),(1004,1004),(1,2000)] rfl Co hm rfl Tryz.func117 Wk rfl (Nz rfl) Wk rfl ?_;exact Xi _ (Yi (.refl _) Zr)
theorem Ac1(l:Nat)(roots:List Rq)(C A:List (Value×AV))(s:SS)(dec:List Cd)(st:List (List Sk))(hr:roots.length≤1073741824)(hd:dec.length≤1073741824)(qm:∀c∈dec,c.rel.reqs.length≤1073741824)(hy:∀m n,(DI roots dec)[m]?=some n→JH Tryz.prog Y l [.agg (Br n)] (Ak (lN roots C A s dec st m) Af) fun r h'=>r=vb true∧h'=Ak (lN roots C A s dec st (m+1)) Af) :
  YT Tryz.prog Y bz 170 [.v (.func (.yield l) #[] #[]),.ref 1005 0] (Ak (lN roots C A s dec st 0) Af) fun _ h'=>h'=Ak (lN roots C A s dec st (DI roots dec).length) Af:=by
 have hr:roots.length≤1073741824:=hr;refine kV (l:=l) (cxn D3 l Y) bz rfl Co hm rfl Tryz.func170 Wk rfl (Nz rfl) Wk rfl rfl (Xi {i:Nat // i≤roots.length} (Xi (fun q=>⟨[(0,.v (.func (.yield l) #[] #[])),(1,.ref 1005 0),(12,sl AH roots),(13,vi (roots.map AH).length),(14,vi q.1)],[(1000,.cells (srM roots C A s dec 1004 st.length)),(1001,.tok 6 s.infs.length),(1002,.tok 1 s.drv.length),(1003,.map FY (F3 0 s.infs)),(1004,.arr 1 (st.map Bl)),(1005,.cells [.ref 1000 0]),(1006,.cells [vs (Hj roots dec q.1).1]),(1007,.cells [.slice (.ver 1008 5 q.1) ((Hj roots dec q.1).2.map Br)]),(1008,.var 5 q.1 ((Hj roots dec q.1).2.map Br).length),(1009,.cells [.ref 1000 0])],Af⟩) (Xi (fun q=>roots.length-q.1) (Yi (Xi ⟨0,AA _⟩ ?_) ?_))))
 ·exact⟨Z5,Z10,Fh,Bo Wk⟩
 intro⟨i,i1⟩;have i1:i≤roots.length:=i1;refine Yi (fun h1=>?_) (fun h1=>?_)
 ·have h1:(i:Int)<((roots.map AH).length:Int):=h1;have n1:=GI h1;refine Xi (AH roots[i]) (Yi (Hb n1) (Yi rfl (yN (yN (yN (Xi (.gen bz 0) (Yi rfl (JH.imp (JH.pre (hy i ⟨roots[i],mt,0,(i:Nat)⟩ (gZ n1)) (fun g w q=>q rfl rfl)) ?_))))))));intro v2 g2 q2;have q2a:=q2.1;have q2b:=q2.2;subst q2a;subst q2b;refine Yi (Ii i ch) (Xi ⟨i+1,by omega⟩ ?_);exact⟨Dl roots.length i ch,Z5,Z10,Fh,Bo Wk⟩
 have h1:¬((i:Int)<((roots.map AH).length:Int)):=h1;have n1:=GH h1;have hE:i=Gj roots dec 0:=by rw[il];omega
 refine Xi {j:Nat // j≤dec.length} (Xi (fun q=>⟨[(0,.v (.func (.yield l) #[] #[])),(29,sl AU dec),(30,vi (dec.map AU).length),(31,vi q.1)],[(1000,.cells (srM roots C A s dec 1004 st.length)),(1001,.tok 6 s.infs.length),(1002,.tok 1 s.drv.length),(1003,.map FY (F3 0 s.infs)),(1004,.arr 1 (st.map Bl)),(1005,.cells [.ref 1000 0]),(1006,.cells [vs (Hj roots dec (Gj roots dec q.1)).1]),(1007,.cells [.slice (.ver 1008 5 (Gj roots dec q.1)) ((Hj roots dec (Gj roots dec q.1)).2.map Br)]),(1008,.var 5 (Gj roots dec q.1) ((Hj roots dec (Gj roots dec q.1)).2.map Br).length),(1009,.cells [.ref 1000 0])],Af⟩) (Xi (fun q=>dec.length-q.1) (Yi (Xi ⟨0,AA _⟩ ?_) ?_)))
 ·exact⟨Z4,⟨Zr,Zr,Zr,Zr,Zr,Zr,⟨(show .cells [vs (Hj roots dec i).1]=(.cells [vs (Hj roots dec (Gj roots dec 0)).1]:HO) by rw[hE]),rfl⟩,⟨(show .cells [.slice (.ver 1008 5 i) ((Hj roots dec i).2.map Br)]=(.cells [.slice (.ver 1008 5 (Gj roots dec 0)) ((Hj roots dec (Gj roots dec 0)).2.map Br)]:HO) by rw[hE]),rfl⟩,⟨(show .var 5 i ((Hj roots dec i).2.map Br).length=(.var 5 (Gj roots dec 0) ((Hj roots dec (Gj roots dec 0)).2.map Br).length:HO) by rw[hE]),rfl⟩,Zr,Tv⟩,Fh,Bo Wk⟩
 intro⟨j,j1⟩;have j1:j≤dec.length:=j1;refine Yi (fun h4=>?_) (fun h4=>?_)
 ·have h4:(j:Int)<((dec.map AU).length:Int):=h4;have n4:=GI h4;have x5:=qm dec[j] (Aj n4);refine Xi (AU dec[j]) (Yi (Hb n4) (Yi rfl (yN (yN (Xi {k:Nat // k≤dec[j].rel.reqs.length} (Xi (fun q=>⟨[(0,.v (.func (.yield l) #[] #[])),(6,.ref 6 0),(29,sl AU dec),(30,vi (dec.map AU).length),(31,vi j),(37,sl AH dec[j].rel.reqs),(38,vi (dec[j].rel.reqs.map AH).length),(39,vi q.1)],[(6,.cells (AU dec[j])),(1000,.cells (srM roots C A s dec 1004 st.length)),(1001,.tok 6 s.infs.length),(1002,.tok 1 s.drv.length),(1003,.map FY (F3 0 s.infs)),(1004,.arr 1 (st.map Bl)),(1005,.cells [.ref 1000 0]),(1006,.cells [vs (Hj roots dec (Gj roots dec j+q.1)).1]),(1007,.cells [.slice (.ver 1008 5 (Gj roots dec j+q.1)) ((Hj roots dec (Gj roots dec j+q.1)).2.map Br)]),(1008,.var 5 (Gj roots dec j+q.1) ((Hj roots dec (Gj roots dec j+q.1)).2.map Br).length),(1009,.cells [.ref 1000 0])],Af⟩) (Xi (fun q=>dec[j].rel.reqs.length-q.1) (Yi (Xi ⟨0,AA _⟩ ?_) ?_))))))))
  ·exact⟨Z8,Z11,Fh,Bo Wk⟩
  intro⟨k,k1⟩;have k1:k≤dec[j].rel.reqs.length:=k1;refine Yi (fun h5=>?_) (fun h5=>?_)
  ·have h5:(k:Int)<((dec[j].rel.reqs.map AH).length:Int):=h5;have n5:=GI h5;refine Xi (AH dec[j].rel.reqs[k]) (Yi (Hb n5) (Yi rfl (yN (yN (yN (Xi (.gen bz 0) (Yi rfl (JH.imp (JH.pre (hy (Gj roots dec j+k) ⟨dec[j].rel.reqs[k],dec[j].rel.path,dec[j].place,(k:Nat)⟩ (lC n4 n5)) (fun g w q=>q rfl rfl)) ?_))))))));intro v6 g6 q6;have q6a:=q6.1;have q6b:=q6.2;subst q6a;subst q6b;refine Yi (Ii k ch) (Xi ⟨k+1,by omega⟩ ?_);exact⟨by show dec[j].rel.reqs.length-(k+1)<dec[j].rel.reqs.length-k;omega,Z8,Z11,Fh,Bo Wk⟩
  have h5:¬((k:Int)<((dec[j].rel.reqs.map AH).length:Int)):=h5;have n5:=GH h5;refine Yi (Ii j ch) ?_;have hE:Gj roots dec j+k=Gj roots dec (j+1):=by rw[ik n4];omega
  refine Xi ⟨j+1,by omega⟩ ?_;exact⟨Dl dec.length j ch,Z4,⟨Zr,Zr,Zr,Zr,Zr,Zr,⟨(show .cells [vs (Hj roots dec (Gj roots dec j+k)).1]=(.cells [vs (Hj roots dec (Gj roots dec (j+1))).1]:HO) by rw[hE]),rfl⟩,⟨(show .cells [.slice (.ver 1008 5 (Gj roots dec j+k)) ((Hj roots dec (Gj roots dec j+k)).2.map Br)]=(.cells [.slice (.ver 1008 5 (Gj roots dec (j+1))) ((Hj roots dec (Gj roots dec (j+1))).2.map Br)]:HO) by rw[hE]),rfl⟩,⟨(show .var 5 (Gj roots dec j+k) ((Hj roots dec (Gj roots dec j+k)).2.map Br).length=(.var 5 (Gj roots dec (j+1)) ((Hj roots dec (Gj roots dec (j+1))).2.map Br).length:HO) by rw[hE]),rfl⟩,Zr,Tv⟩,Fh,Bo Wk⟩
 have h4:¬((j:Int)<((dec.map AU).length:Int)):=h4;have n4:=GH h4;exact Ab (fun m=>Ak (lN roots C A s dec st m) Af) (show Gj roots dec j=(DI roots dec).length by rw[←aI];congr 1;omega)
end Go.Eng
