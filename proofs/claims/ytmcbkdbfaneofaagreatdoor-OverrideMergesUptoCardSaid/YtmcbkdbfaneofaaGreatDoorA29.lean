/- Lemmas for the claims of this seat, without a condition: part 29 (S2, S3, S4, S5, S8a). -/
import Derived.Test.YtmcbkdbfaneofaaGreatDoorA28
set_option maxHeartbeats 4000000
namespace Go.Eng
open Go.Proofs
theorem Su:∀{l:List Nf} {k:Nat} {kx:Value} {a:AV},(kx,a)∈D5 k l↔∃j i,l[j]?=some i∧kx=JP i∧a=vi ((k+j:Nat):Int)
 | [],k,kx,a=>by simp[D5]
 |y::l,k,kx,a=>by
  unfold D5;rw[Av,Su];constructor
  ·rintro(h | ⟨j,i,h1,h2,h3⟩)
   ·cases h;exact⟨0,y,rfl,rfl,rfl⟩
   ·exact⟨j+1,i,h1,h2,by rw[h3,show k+1+j=k+(j+1) by omega]⟩
  ·rintro⟨j,i,h1,h2,h3⟩
   cases j with
   |zero=>cases h1;exact .inl (by rw[h2,h3];rfl)
   |succ j=>exact .inr ⟨j,i,h1,h2,by rw[h3,show k+1+j=k+(j+1) by omega]⟩
theorem VP{a b:Nf}(h:JP a=JP b):a=b:=by
 obtain⟨a1,a2,a3,a4,a5,a6⟩:=a;obtain⟨b1,b2,b3,b4,b5,b6⟩:=b;unfold JP at h;simp at h;obtain⟨rfl,rfl,rfl,rfl,rfl,rfl⟩:=h
 rfl
theorem sZ{l:List Nf}{i:Nf}{k:Nat}(h:L6 i 0 l=some k):(JP i,vi (k:Nat))∈D5 0 l:=by
 obtain⟨j,e,hj⟩:=Nj h;exact Su.2 ⟨j,i,hj,rfl,by rw[e]⟩
theorem lQ{l:List Nf}(hn:l.Nodup){i:Nf}{k:Nat}(h:L6 i 0 l=some k):∀b,(JP i,b)∈D5 0 l→b=vi (k:Nat):=fun b hb=>by
 obtain⟨j,e,hj⟩:=Nj h;obtain⟨j',i',h1,h2,h3⟩:=Su.1 hb
 have:=VP h2
 subst this;obtain⟨a1,a2⟩:=Aw.1 hj;obtain⟨b1,b2⟩:=Aw.1 h1
 have:j'=j:=(List.getElem_inj hn).1 (b2.trans a2.symm)
 subst this;rw[h3,e]
theorem nE{l:List Nf}{i:Nf}(h:L6 i 0 l=none):∀a,(JP i,a)∉D5 0 l:=fun a ha=>by
 obtain⟨j,i',h1,h2,_⟩:=Su.1 ha
 have:=VP h2
 subst this;exact QM h (AA h1)
theorem bF:∀(l:List Nf) (k:Nat) (i:Nf),D5 k (l++[i])=D5 k l++[(JP i,vi ((k+l.length:Nat):Int))]
 | [],k,i=>by simp[D5]
 |y::l,k,i=>by
  show(JP y,_)::D5 (k+1) (l++[i])=_;rw[bF l (k+1) i];simp[D5,show k+1+l.length=k+(l.length+1) by omega]
theorem pD{l:List Nf}{i:Nf}(h:L6 i 0 l=none):E7 (D5 0 l) (JP i) (vi ((l.map B7).length:Int))=D5 0 (l++[i]):=by
 rw[ME (nE h),bF,Lm,Bk]
theorem XH{s:SS}{i:Nf}{l:List Tm}{k:Nat}(h:L6 i 0 s.infs=some k):El s i l=(k,s):=by unfold El;rw[h]
theorem Vf{s:SS}{i:Nf}{l:List Tm}(h:L6 i 0 s.infs=none)(hf:65536≤s.infs.length):El s i l=(s.infs.length-1,⟨s.infs,s.drv,true⟩):=by unfold El;rw[h];exact Ax hf
theorem XG{s:SS}{i:Nf}{l:List Tm}(h:L6 i 0 s.infs=none)(hf:¬65536≤s.infs.length):El s i l=(s.infs.length,⟨s.infs++[i],s.drv++[l],s.full⟩):=by unfold El;rw[h];exact Ao hf
section
variable {roots:List Rq}{C A:List (Value×AV)}{s s' : SS}{dec:List Cd}{st:List (List Sk)}{i:Nf}{l:List Tm}
theorem fL{k:Nat}{z:Int}(e:El s i l=(k,s'))(hz:z=k):vi z=vi ((El s i l).1:Nat)∧Aq (Js roots C A s' dec st) Aa=Aq (Js roots C A (El s i l).2 dec st) Aa:=by rw[e,hz];exact Zr
theorem qQ(h:L6 i 0 s.infs=none):Aq [(1000,.cells [sl AN roots,.cmap Dm C,.cmap Dm A,.slice (.id 1001 6) (s.infs.map B7++[B7 i]),.slice (.id 1002 1) (s.drv.map Cm++[Cm l]),.mref 1003,vb s.full,sl AI dec,sl Ae (AO dec),.msl 1004 st.length]),
      (1001,.tok 6 ((s.infs.map B7).length+[B7 i].length)),(1002,.tok 1 ((s.drv.map Cm).length+[Cm l].length)),(1003,.map D3 (E7 (D5 0 s.infs) (JP i) (vi ((s.infs.map B7).length:Int)))),(1004,.arr 1 (st.map AX))] Aa=Aq (Js roots C A ⟨s.infs++[i],s.drv++[l],s.full⟩ dec st) Aa:=by
  have e1:s.infs.map B7++[B7 i]=(s.infs++[i]).map B7:=by simp
  have e2:s.drv.map Cm++[Cm l]=(s.drv++[l]).map Cm:=by simp
  have e3:(s.infs.map B7).length+[B7 i].length=(s.infs++[i]).length:=by simp
  have e4:(s.drv.map Cm).length+[Cm l].length=(s.drv++[l]).length:=by simp
  rw[e1,e2,e3,e4,pD h]
end
theorem tQ(c:Cd)(p:ByteArray):PC 194 [.agg (AI c),.cptr [vs p]] (vb (decide (c.rel.path=p))):=by
 refine Ps ⟨[2],[],[],[],[],[],[],[],[],[],[]⟩ Tryz.func194 rfl (Nz rfl) ?_;refine Yi (fun h1=>?_) (fun h1=>?_)
 ·have h1:(c.rel.path:ByteArray)=p:=h1;exact .of_eq (show vb true=vb (decide (c.rel.path=p)) by rw[At h1])
 have h1:¬(c.rel.path:ByteArray)=p:=h1;exact .of_eq (show vb false=vb (decide (c.rel.path=p)) by rw[Aj h1])
theorem tN(t:Tm)(p:ByteArray):PC 159 [.agg (AL t),.cptr [vs p]] (vb (decide (t.path=p))):=by
 refine Ps ⟨[2],[],[],[],[],[],[],[],[],[],[]⟩ Tryz.func159 rfl (Nz rfl) ?_;refine Yi (fun h1=>?_) (fun h1=>?_)
 ·have h1:(t.path:ByteArray)=p:=h1;exact .of_eq (show vb true=vb (decide (t.path=p)) by rw[At h1])
 have h1:¬(t.path:ByteArray)=p:=h1;exact .of_eq (show vb false=vb (decide (t.path=p)) by rw[Aj h1])
theorem ku(l:List Tm)(p:ByteArray)(hl:Co l):PC 127 [sl AL l,vs p] (vb (Dk l p)):=by
 refine Ps ⟨[3],[],[],[],[],[],[],[],[],[],[]⟩ Tryz.func127 rfl (Nz rfl) ?_;refine Bq (Bt (Dk l p)) (fun h1=>?_) (fun h1=>?_)
 ·have h1:(Dk l p)=true:=h1;refine Xi .pure (Xi _ (Yi (cb h1 (show PC 158 [sl AL l,.clo 159 [.cptr [vs p]]] (vb (Dk l p))from oo (fF:=159) (caps:=[.cptr [vs p]]) (fun c hc=>by obtain rfl:=As.1 hc;intro h;rfl) l (fun t=>decide (t.path=p)) (fun t _=>tN t p) hl)) ?_));exact .of_eq (show vb true=vb (Dk l p) by rw[h1])
 have h1:(Dk l p)=false:=h1;refine Xi .pure (Xi _ (Yi (cb h1 (show PC 158 [sl AL l,.clo 159 [.cptr [vs p]]] (vb (Dk l p))from oo (fF:=159) (caps:=[.cptr [vs p]]) (fun c hc=>by obtain rfl:=As.1 hc;intro h;rfl) l (fun t=>decide (t.path=p)) (fun t _=>tN t p) hl)) ?_));exact .of_eq (show vb false=vb (Dk l p) by rw[h1])
theorem tM(roots:List Rq)(C A:List (Value×AV))(s:SS)(dec:List Cd)(st:List (List Sk))(p:ByteArray)(hl:Co dec):Bm Tryz.prog 151 [.ref 1000 0,vs p] (Aq (Js roots C A s dec st) Aa) fun r h'=>r=vb (Dt dec p)∧h'=Aq (Js roots C A s dec st) Aa:=by
 refine Ct (MZ ⟨[3],[],[],[],[],[],[],[],[],[],[]⟩) [(1000,1000),(1001,1001),(1002,1002),(1003,1003),(1004,1004)] rfl CY hm rfl Tryz.func151 (by kernel_rfl) rfl (Nz rfl) (by kernel_rfl) rfl ?_;refine Bq (Bt (Dt dec p)) (fun h1=>?_) (fun h1=>?_)
 ·have h1:(Dt dec p)=true:=h1;refine Xi .pure (Xi _ (Yi (cb h1 (show PC 193 [sl AI dec,.clo 194 [.cptr [vs p]]] (vb (Dt dec p))from tO (fF:=194) (caps:=[.cptr [vs p]]) (fun c hc=>by obtain rfl:=As.1 hc;intro h;rfl) dec (fun c=>decide (c.rel.path=p)) (fun c _=>tQ c p) hl)) ?_));exact Xi _ (Yi (.refl _) (Yi (show vb true=vb (Dt dec p) by rw[h1]) rfl))
 have h1:(Dt dec p)=false:=h1;refine Xi .pure (Xi _ (Yi (cb h1 (show PC 193 [sl AI dec,.clo 194 [.cptr [vs p]]] (vb (Dt dec p))from tO (fF:=194) (caps:=[.cptr [vs p]]) (fun c hc=>by obtain rfl:=As.1 hc;intro h;rfl) dec (fun c=>decide (c.rel.path=p)) (fun c _=>tQ c p) hl)) ?_));exact Xi _ (Yi (.refl _) (Yi (show vb false=vb (Dt dec p) by rw[h1]) rfl))
theorem mI(roots:List Rq)(C A:List (Value×AV))(s:SS)(dec:List Cd)(st:List (List Sk))(i:Nf)(l:List Tm)(k:Nat)(hk:L6 i 0 s.infs=some k)(Sb:s.infs.Nodup):Bm Tryz.prog 154 [.ref 1000 0,.agg (B7 i),sl AL l] (Aq (Js roots C A s dec st) Aa) fun r h'=>r=vi ((El s i l).1:Nat)∧h'=Aq (Js roots C A (El s i l).2 dec st) Aa:=by
 refine Ct (MZ ⟨[4],[],[],[],[],[],[],[],[],[],[2,5,7,8,9,10,11]⟩) [(1000,1000),(1001,1001),(1002,1002),(1003,1003),(1004,1004)] rfl CY hm rfl Tryz.func154 (by kernel_rfl) rfl (Nz rfl) (by kernel_rfl) rfl ?_;refine Yi (Nz rfl) ?_;refine Or.inl (Xi (vi (k:Nat)) (Yi (Yi (sZ hk) (lQ Sb hk)) ?_));refine Yi (by kernel_rfl) ?_;refine Xi ⟨[(0,.ref 1000 0),(2,sl AL l),(4,.ref 4 0),(7,vi (k:Nat)),(8,vb true)],[(4,.ro (B7 i)),(1000,.cells (srM roots C A s dec 1004 st.length)),(1001,.tok 6 s.infs.length),(1002,.tok 1 s.drv.length),(1003,.map D3 (D5 0 s.infs)),(1004,.arr 1 (st.map AX))],Aa⟩ (Yi ⟨Z5,Z6,Fh,AD (by kernel_rfl)⟩ ?_)
 exact Xi _ (Yi (.refl _) (fL (XH hk) rfl))
theorem mH(roots:List Rq)(C A:List (Value×AV))(s:SS)(dec:List Cd)(st:List (List Sk))(i:Nf)(l:List Tm)(hk:L6 i 0 s.infs=none)(hn:s.infs.length≤65536)(hdl:s.drv.length=s.infs.length):Bm Tryz.prog 154 [.ref 1000 0,.agg (B7 i),sl AL l] (Aq (Js roots C A s dec st) Aa) fun r h'=>r=vi ((El s i l).1:Nat)∧h'=Aq (Js roots C A (El s i l).2 dec st) Aa:=by
 have hdn:s.drv.length≤65536:=by omega
 have zR:(s.infs.map B7).length=s.infs.length:=Lm _;refine Ct (MZ ⟨[4],[],[],[],[],[],[],[],[],[],[2,5,7,8,9,10,11]⟩) [(1000,1000),(1001,1001),(1002,1002),(1003,1003),(1004,1004)] rfl CY hm rfl Tryz.func154 (by kernel_rfl) rfl (Nz rfl) (by kernel_rfl) rfl ?_;refine Yi (Nz rfl) ?_;refine Or.inr (Yi (nE hk) ?_);refine Yi (by kernel_rfl) ?_;refine Xi ⟨[(0,.ref 1000 0),(2,sl AL l),(4,.ref 4 0),(7,vi 0),(8,vb false)],[(4,.ro (B7 i)),(1000,.cells (srM roots C A s dec 1004 st.length)),(1001,.tok 6 s.infs.length),(1002,.tok 1 s.drv.length),(1003,.map D3 (D5 0 s.infs)),(1004,.arr 1 (st.map AX))],Aa⟩ (Yi ⟨Z5,Z6,Fh,AD (by kernel_rfl)⟩ ?_)
 refine Yi (fun h1=>?_) (fun h1=>?_)
 ·have h1:(65536:Int)≤((s.infs.map B7).length:Int):=h1;refine Xi ⟨[(0,.ref 1000 0)],[(1000,.cells (srM roots C A s dec 1004 st.length)),(1001,.tok 6 s.infs.length),(1002,.tok 1 s.drv.length),(1003,.map D3 (D5 0 s.infs)),(1004,.arr 1 (st.map AX))],Aa⟩ (Yi ⟨Z1,Z5,Fh,AD (by kernel_rfl)⟩ ?_)
  refine Yi (Nz rfl) ?_;refine Yi (by show Bu (((s.infs.map B7).length:Int)-(1:Int));unfold Bu;omega) ?_;exact Xi _ (Yi (.refl _) (fL (Vf hk (by have q:=h1;rw[Lm]at q;omega)) (by have q:=h1;rw[Lm]at q⊢;omega)))
 have h1:¬((65536:Int)≤((s.infs.map B7).length:Int)):=h1;refine Xi ⟨[(0,.ref 1000 0),(2,sl AL l),(4,.ref 4 0)],[(4,.ro (B7 i)),(1000,.cells (srM roots C A s dec 1004 st.length)),(1001,.tok 6 s.infs.length),(1002,.tok 1 s.drv.length),(1003,.map D3 (D5 0 s.infs)),(1004,.arr 1 (st.map AX))],Aa⟩ (Yi ⟨Z3,Z6,Fh,AD (by kernel_rfl)⟩ ?_)
 refine Xi ⟨[(0,.ref 1000 0),(2,sl AL l),(4,.ref 4 0),(9,vi (s.infs.map B7).length)],[(4,.ro (B7 i)),(1000,.cells (srM roots C A s dec 1004 st.length)),(1001,.tok 6 s.infs.length),(1002,.tok 1 s.drv.length),(1003,.map D3 (D5 0 s.infs)),(1004,.arr 1 (st.map AX))],Aa⟩ (Yi ⟨Z4,Z6,Fh,AD (by kernel_rfl)⟩ ?_)
 refine Yi (Nz rfl) ?_;refine Yi (by kernel_rfl) ?_;refine Xi ⟨[(0,.ref 1000 0),(2,sl AL l),(4,.ref 4 0),(9,vi (s.infs.map B7).length)],[(4,.ro (B7 i)),(1000,.cells (srM roots C A s dec 1004 st.length)),(1001,.tok 6 s.infs.length),(1002,.tok 1 s.drv.length),(1003,.map D3 (E7 (D5 0 s.infs) (JP i) (vi (s.infs.map B7).length))),(1004,.arr 1 (st.map AX))],Aa⟩ (Yi ⟨Z4,Z6,Fh,AD (by kernel_rfl)⟩ ?_)
 refine Yi (Nz rfl) ?_;refine Yi (Md rfl (by omega) (by decide)) ?_;refine Yi (Nz rfl) ?_;refine Yi (by kernel_rfl) ?_;refine Xi ⟨[(0,.ref 1000 0),(2,sl AL l),(9,vi (s.infs.map B7).length)],[(1000,.cells [sl AN roots,.cmap Dm C,.cmap Dm A,.slice (.id 1001 6) ((s.infs.map B7)++[(B7 i)]),.slice (.id 1002 1) (s.drv.map Cm),.mref 1003,vb s.full,sl AI dec,sl Ae (AO dec),.msl 1004 st.length]),(1001,.tok 6 ((s.infs.map B7).length+([(B7 i)]:List (List AV)).length)),(1002,.tok 1 s.drv.length),(1003,.map D3 (E7 (D5 0 s.infs) (JP i) (vi (s.infs.map B7).length))),(1004,.arr 1 (st.map AX))],Aa⟩ (Yi ⟨Z3,Z5,Fh,AD (by kernel_rfl)⟩ ?_)
 refine Yi (Md rfl (by omega) (by decide)) ?_;refine Yi (Nz rfl) ?_;refine Xi ⟨[(9,vi (s.infs.map B7).length)],[(1000,.cells [sl AN roots,.cmap Dm C,.cmap Dm A,.slice (.id 1001 6) ((s.infs.map B7)++[(B7 i)]),.slice (.id 1002 1) ((s.drv.map Cm)++[[sl AL l]]),.mref 1003,vb s.full,sl AI dec,sl Ae (AO dec),.msl 1004 st.length]),(1001,.tok 6 ((s.infs.map B7).length+([(B7 i)]:List (List AV)).length)),(1002,.tok 1 ((s.drv.map Cm).length+([[sl AL l]]:List (List AV)).length)),(1003,.map D3 (E7 (D5 0 s.infs) (JP i) (vi (s.infs.map B7).length))),(1004,.arr 1 (st.map AX))],Aa⟩ (Yi ⟨Z1,Z5,Fh,AD (by kernel_rfl)⟩ ?_)
 have hq:=fL (roots:=roots) (C:=C) (A:=A) (dec:=dec) (st:=st) (z:=((s.infs.map B7).length:Int)) (XG (l:=l) hk (by have q:=h1;rw[Lm]at q;omega)) (by rw[Lm]);exact Xi _ (Yi (.refl _) (Yi hq.1 ((qQ hk).trans hq.2)))
structure J6(x:List Rl)(roots:List Rq)(s:SS):Prop where
 der:FG x roots s
 nodup:s.infs.Nodup
abbrev nQ(roots:List Rq)(C A:List (Value×AV))(dec:List Cd)(st:List (List Sk))(o:Nat×SS)(r:AV)(h' : Nat→HO):Prop:=r=vi (o.1:Nat)∧h'=Aq (Js roots C A o.2 dec st) Aa
theorem mG(roots:List Rq)(C A:List (Value×AV))(s:SS)(dec:List Cd)(st:List (List Sk))(i:Nf)(l:List Tm)(hn:s.infs.length≤65536)(hdl:s.drv.length=s.infs.length)(Sb:s.infs.Nodup) :
  Bm Tryz.prog 154 [.ref 1000 0,.agg (B7 i),sl AL l] (Aq (Js roots C A s dec st) Aa) (nQ roots C A dec st (El s i l)):=by
 cases hk:L6 i 0 s.infs with
 |some k=>exact mI roots C A s dec st i l k hk Sb
 |none=>exact mH roots C A s dec st i l hk hn hdl
abbrev Zs:Ji:=[(1000,1000),(1001,1001),(1002,1002),(1003,1003),(1004,1004)]
theorem rH{h2:Nat→HO}{cs:List AV}{o1 o2 o3 o4:HO}(e0:h2 1000=.cells cs)(e1:h2 1001=o1)(e2:h2 1002=o2)(e3:h2 1003=o3)(e4:h2 1004=o4) :
  FU Zs h2=Aq [(1000,.cells (cs.map (ren1 (CC Zs) h2))),(1001,o1.ren (CC Zs) h2),(1002,o2.ren (CC Zs) h2),(1003,o3.ren (CC Zs) h2),(1004,o4.ren (CC Zs) h2)] Aa:=by
 unfold FU;simp only[Xj];rw[e0,e1,e2,e3,e4];rfl
theorem dw{s:SS}{n:Nd}(h:n.path=mt):El s ⟨0,mt,0,n.number,0,0⟩ (JV n.rq)=Bw s n:=by unfold Bw TS Jo;rw[Ax h,Ax h]
theorem iG{s:SS}{n:Nd}(h:¬n.path=mt):El s ⟨1,n.path,n.place,n.number,0,0⟩ (Eu n.path n.place n.rq)=Bw s n:=by unfold Bw TS Jo;rw[Ao h,Ao h]
abbrev WJ(d:List (List Tm))(S:List Sl):AV:=.tup [vi (((OZ d S).getD 0:Nat):Int),vb (OZ d S).isSome]
theorem XZ{S:List Sl}:∀{l:List (List Tm)} {b i:Nat} {t:List Tm},l[i]?=some t→CN t S=true→(∀j u,j<i→l[j]?=some u→CN u S=false)→OY S b l=some (b+i)
 | [],_,_,_,h,_,_=>by simp at h
 |u::l,b,0,t,h,he,_=>by cases h;unfold OY;rw[Ax he];rfl
 |u::l,b,i+1,t,h,he,hn=>by
  unfold OY;rw[Ao (by rw[hn 0 u (by omega) rfl];decide),XZ (i:=i) (by simpa using h) he (fun j v hj hv=>hn (j+1) v (by omega) (by simpa using hv))]
  congr 1;omega
theorem X0{S:List Sl}:∀{l:List (List Tm)} {b:Nat},(∀t∈l,CN t S=false)→OY S b l=none
 | [],_,_=>rfl
 |u::l,b,h=>by
  unfold OY;rw[Ao (by rw[h u (Ac ..)];decide)];exact X0 fun t ht=>h t (Af _ ht)
theorem yW(roots:List Rq)(C A:List (Value×AV))(s:SS)(dec:List Cd)(st:List (List Sk))(n:Nd)(hn:s.infs.length≤65536)(hdl:s.drv.length=s.infs.length)(Sb:s.infs.Nodup)(hq:Co n.rq.set)(hp:Bu (n.place+1)):Bm Tryz.prog 123 [.ref 1000 0,.agg (Bf n)] (Aq (Js roots C A s dec st) Aa) fun r h'=>nQ roots C A dec st (Bw s n) r h':=by
 refine Ct (MZ ⟨[3],[],[],[],[],[],[],[],[(15,5),(31,5)],[],[2,3]⟩) [(1000,1000),(1001,1001),(1002,1002),(1003,1003),(1004,1004)] rfl CY hm rfl Tryz.func123 (by kernel_rfl) rfl (Nz rfl) (by kernel_rfl) rfl ?_;refine Yi (fun h1=>?_) (fun h1=>?_)
 ·have h1:(n.path:ByteArray)=⟨#[]⟩:=h1;refine Xi ⟨[(0,.ref 1000 0),(3,.ref 3 0)],[(3,.ro (Bf n)),(1000,.cells (srM roots C A s dec 1004 st.length)),(1001,.tok 6 s.infs.length),(1002,.tok 1 s.drv.length),(1003,.map D3 (D5 0 s.infs)),(1004,.arr 1 (st.map AX))],Aa⟩ (Yi ⟨Z2,Z6,Fh,AD (by kernel_rfl)⟩ ?_)
  refine Yi (Nz rfl) ?_;refine Xi _ (Yi (vJ n.rq hq) ?_);refine Xi Zs (Xi [(1000,.cells (srM roots C A s dec 1004 st.length)),(1001,.tok 6 s.infs.length),(1002,.tok 1 s.drv.length),(1003,.map D3 (D5 0 s.infs)),(1004,.arr 1 (st.map AX))] (Xi (Js roots C A (El s ⟨0,mt,0,n.number,0,0⟩ (JV n.rq)).2 dec st) (Xi [.ref 1000 0,.agg [vi 0,vs ⟨#[]⟩,vi 0,vi n.number,vi 0,vi 0],sl AL (JV n.rq)] (Xi (vi (((El s ⟨0,mt,0,n.number,0,0⟩ (JV n.rq)).1:Nat):Int):AV) (Yi (fun h2 hh=>Yi ((rH (show h2 1000=.cells (srM roots C A s dec 1004 st.length)from hh 1000 (by decide)) (show h2 1001=.tok 6 s.infs.length from hh 1001 (by decide)) (show h2 1002=.tok 1 s.drv.length from hh 1002 (by decide)) (show h2 1003=.map D3 (D5 0 s.infs)from hh 1003 (by decide)) (show h2 1004=.arr 1 (st.map AX)from hh 1004 (by decide))).trans rfl) rfl) (Yi (by kernel_rfl) (Yi (mG roots C A s dec st ⟨0,mt,0,n.number,0,0⟩ (JV n.rq) hn hdl Sb) ?_)))))));refine Yi (by kernel_rfl) ?_;have ei:=dw (s:=s) h1;exact Xi _ (Yi (.refl _) (Yi (show vi (((El s ⟨0,mt,0,n.number,0,0⟩ (JV n.rq)).1:Nat):Int)=vi (((Bw s n).1:Nat):Int) by rw[ei]) (show Aq (Js roots C A (El s ⟨0,mt,0,n.number,0,0⟩ (JV n.rq)).2 dec st) Aa=Aq (Js roots C A (Bw s n).2 dec st) Aa by rw[ei])))
 have h1:¬(n.path:ByteArray)=⟨#[]⟩:=h1;refine Xi ⟨[(0,.ref 1000 0),(3,.ref 3 0)],[(3,.ro (Bf n)),(1000,.cells (srM roots C A s dec 1004 st.length)),(1001,.tok 6 s.infs.length),(1002,.tok 1 s.drv.length),(1003,.map D3 (D5 0 s.infs)),(1004,.arr 1 (st.map AX))],Aa⟩ (Yi ⟨Z2,Z6,Fh,AD (by kernel_rfl)⟩ ?_)
 refine Yi (Nz rfl) ?_;refine Xi _ (Yi (vK n.path n.place n.rq hp hq) ?_);refine Xi Zs (Xi [(1000,.cells (srM roots C A s dec 1004 st.length)),(1001,.tok 6 s.infs.length),(1002,.tok 1 s.drv.length),(1003,.map D3 (D5 0 s.infs)),(1004,.arr 1 (st.map AX))] (Xi (Js roots C A (El s ⟨1,n.path,n.place,n.number,0,0⟩ (Eu n.path n.place n.rq)).2 dec st) (Xi [.ref 1000 0,.agg [vi 1,vs n.path,vi n.place,vi n.number,vi 0,vi 0],sl AL (Eu n.path n.place n.rq)] (Xi (vi (((El s ⟨1,n.path,n.place,n.number,0,0⟩ (Eu n.path n.place n.rq)).1:Nat):Int):AV) (Yi (fun h2 hh=>Yi ((rH (show h2 1000=.cells (srM roots C A s dec 1004 st.length)from hh 1000 (by decide)) (show h2 1001=.tok 6 s.infs.length from hh 1001 (by decide)) (show h2 1002=.tok 1 s.drv.length from hh 1002 (by decide)) (show h2 1003=.map D3 (D5 0 s.infs)from hh 1003 (by decide)) (show h2 1004=.arr 1 (st.map AX)from hh 1004 (by decide))).trans rfl) rfl) (Yi (by kernel_rfl) (Yi (mG roots C A s dec st ⟨1,n.path,n.place,n.number,0,0⟩ (Eu n.path n.place n.rq) hn hdl Sb) ?_)))))));refine Yi (by kernel_rfl) ?_;have ei:=iG (s:=s) h1;exact Xi _ (Yi (.refl _) (Yi (show vi (((El s ⟨1,n.path,n.place,n.number,0,0⟩ (Eu n.path n.place n.rq)).1:Nat):Int)=vi (((Bw s n).1:Nat):Int) by rw[ei]) (show Aq (Js roots C A (El s ⟨1,n.path,n.place,n.number,0,0⟩ (Eu n.path n.place n.rq)).2 dec st) Aa=Aq (Js roots C A (Bw s n).2 dec st) Aa by rw[ei])))
theorem s89(roots:List Rq)(C A:List (Value×AV))(s:SS)(dec:List Cd)(st:List (List Sk))(S:List Sl)(hd:s.drv.length≤65536)(ht:∀t∈s.drv,fI t)(hS:Co S):Bm Tryz.prog 124 [.ref 1000 0,sl Ae S] (Aq (Js roots C A s dec st) Aa) fun r h'=>r=WJ s.drv S∧h'=Aq (Js roots C A s dec st) Aa:=by
 refine Ct (MZ ⟨[],[],[],[],[],[],[],[],[],[],[4,6]⟩) [(1000,1000),(1001,1001),(1002,1002),(1003,1003),(1004,1004)] rfl CY hm rfl Tryz.func124 (by kernel_rfl) rfl (Nz rfl) (by kernel_rfl) rfl ?_;refine Xi {i:Nat // i≤s.drv.length∧∀j u,j<i→s.drv[j]?=some u→CN u S=false} (Xi (fun q=>⟨[(1,sl Ae S),(11,.slice (.id 1002 1) (s.drv.map Cm)),(12,vi (s.drv.map Cm).length),(13,vi q.1)],[(1000,.cells (srM roots C A s dec 1004 st.length)),(1001,.tok 6 s.infs.length),(1002,.tok 1 s.drv.length),(1003,.map D3 (D5 0 s.infs)),(1004,.arr 1 (st.map AX))],Aa⟩) (Xi (fun q=>s.drv.length-q.1) (Yi (Xi ⟨0,AG _,fun j u h=>absurd h (Cu j)⟩ ?_) ?_)))
 ·exact⟨Z4,Z5,Fh,AD (by kernel_rfl)⟩
 intro⟨i,i1,i2⟩;have i1:i≤s.drv.length:=i1;have i2:∀j u,j<i→s.drv[j]?=some u→CN u S=false:=i2;refine Yi (fun h1=>?_) (fun h1=>?_)
 ·have h1:(i:Int)<((s.drv.map Cm).length:Int):=h1;have n1:=H5 h1;refine Xi (Cm s.drv[i]) (Yi (Jp n1) (Yi rfl ?_));refine Xi ⟨[(1,sl Ae S),(6,vi i),(7,sl AL s.drv[i]),(11,.slice (.id 1002 1) (s.drv.map Cm)),(12,vi (s.drv.map Cm).length),(13,vi i)],[(1000,.cells (srM roots C A s dec 1004 st.length)),(1001,.tok 6 s.infs.length),(1002,.tok 1 s.drv.length),(1003,.map D3 (D5 0 s.infs)),(1004,.arr 1 (st.map AX))],Aa⟩ (Yi ⟨Z6,Z5,Fh,AD (by kernel_rfl)⟩ ?_)
  refine Bq (Bt (CN s.drv[i] S)) (fun h2=>?_) (fun h2=>?_)
  ·have h2:(CN s.drv[i] S)=true:=h2;refine Xi .pure (Xi _ (Yi (cb h2 (zf s.drv[i] S (ht _ (Ak _)) hS)) ?_));have eE:OZ s.drv S=some i:=by unfold OZ;rw[XZ (Ge n1) h2 i2,Bk]
   exact Xi _ (Yi (.refl _) (Yi (show AV.tup [vi (i:Int),vb true]=WJ s.drv S by unfold WJ;rw[eE];rfl) rfl))
  have h2:(CN s.drv[i] S)=false:=h2;refine Xi .pure (Xi _ (Yi (cb h2 (zf s.drv[i] S (ht _ (Ak _)) hS)) ?_));refine Xi ⟨[(1,sl Ae S),(11,.slice (.id 1002 1) (s.drv.map Cm)),(12,vi (s.drv.map Cm).length),(13,vi i)],[(1000,.cells (srM roots C A s dec 1004 st.length)),(1001,.tok 6 s.infs.length),(1002,.tok 1 s.drv.length),(1003,.map D3 (D5 0 s.infs)),(1004,.arr 1 (st.map AX))],Aa⟩ (Yi ⟨Z4,Z5,Fh,AD (by kernel_rfl)⟩ ?_)
  refine Yi (Ii i (by omega)) ?_;refine Xi ⟨i+1,by omega,fun j u hj hu=>by
    by_cases e:j=i
    ·subst e;rw[Ge n1]at hu;cases hu;exact h2
    ·exact i2 j u (by omega) hu⟩ ?_
  exact⟨Dl s.drv.length i (by omega),Z4,Z5,Fh,AD (by kernel_rfl)⟩
 have h1:¬((i:Int)<((s.drv.map Cm).length:Int)):=h1;have n1:=H4 h1;have eE:OZ s.drv S=none:=X0 fun t ht=>by
  obtain⟨j,hj⟩:=Ck.1 ht
  have:=(Aw.1 hj).1
  exact i2 j t (by have q:=h1;rw[Lm]at q;omega) hj
 exact Xi _ (Yi (.refl _) (Yi (show AV.tup [vi 0,vb false]=WJ s.drv S by unfold WJ;rw[eE];rfl) rfl))
def T9(l:List Cd)(q:Rq):Bool:=l.any fun d=>decide (d.rel.path=q.path)&&!has q.set d.place
theorem Vz{f:Rq→Nat→Nd}{P:Nd→Bool}:∀{l:List Rq} {b i:Nat} {q:Rq},l[i]?=some q→P (f q (b+i))=true→(∀k u,k<i→l[k]?=some u→P (f u (b+k))=false)→(MG f b l).find? P=some (f q (b+i))
 | [],_,_,_,h,_,_=>by simp at h
 |u::l,b,0,q,h,he,_=>by
  cases h
  unfold MG;rw[FO,show P (f u b)=true from he];rfl
 |u::l,b,i+1,q,h,he,hn=>by
  unfold MG;have h0:P (f u b)=false:=hn 0 u (by omega) rfl;rw[FO,h0]
  have:=Vz (f:=f) (P:=P) (l:=l) (b:=b+1) (i:=i) (q:=q) (by simpa using h) (by rw[show b+1+i=b+(i+1) by omega];exact he) (fun k v hk hv=>by
   rw[show b+1+k=b+(k+1) by omega];exact hn (k+1) v (by omega) (by simpa using hv))
  rw[show b+1+i=b+(i+1) by omega]at this;exact this
theorem Ph{f:Rq→Nat→Nd}{P:Nd→Bool}:∀{l:List Rq} {b:Nat},(∀k u,l[k]?=some u→P (f u (b+k))=false)→(MG f b l).find? P=none
 | [],_,_=>rfl
 |u::l,b,h=>by
  unfold MG;have h0:P (f u b)=false:=h 0 u rfl;rw[FO,h0];exact Ph fun k v hv=>by rw[show b+1+k=b+(k+1) by omega];exact h (k+1) v (by simpa using hv)
def zNd:AV:=.agg [vs ⟨#[]⟩,.v (.slice none 0 0),vs ⟨#[]⟩,vi 0,vi 0]
def oK(o:Option Nd):AV:=match o with | some n=>.tup [.agg (Bf n),vb true] | none=>.tup [zNd,vb false]
section
variable {dec:List Cd}{c:Cd}{i:Nat}
theorem gl(hi:i<c.rel.reqs.length)(hn:∀k q,k<i→c.rel.reqs[k]?=some q→T9 (dec++[c]) q=false){j:Nat}(hj:j<(dec++[c]).length)(h1:(dec++[c])[j].rel.path=c.rel.reqs[i].path)(h2:has c.rel.reqs[i].set (dec++[c])[j].place=false) :
  Ei dec c=some ⟨c.rel.reqs[i],c.rel.path,c.place,(i:Nat)⟩:=by
 have:=Vz (f:=fun q i=>⟨q,c.rel.path,c.place,(i:Nat)⟩) (P:=bL (dec++[c])) (l:=c.rel.reqs) (b:=0) (i:=i) (q:=c.rel.reqs[i]) (Ge hi)
  (Bb.2 ⟨_,Ak hj,by rw[At h1,h2];rfl⟩) (fun k u hk hu=>hn k u hk hu)
 unfold Ei QP;rw[this,Bk]
theorem gm(hn:∀(k:Nat) (q:Rq),c.rel.reqs[k]?=some q→T9 (dec++[c]) q=false):Ei dec c=none:=by
 unfold Ei QP;exact Ph fun k u hu=>hn k u hu
theorem iR{q:Rq}(h:∀(m:Nat) (d:Cd),(dec++[c])[m]?=some d→(decide (d.rel.path=q.path)&&!has q.set d.place)=false):T9 (dec++[c]) q=false:=by
 unfold T9;rw[FH];intro d hd;obtain⟨m,hm⟩:=Ck.1 hd;rw[h m d hm];decide
end
theorem s87(n:Nd)(c:Cd)(hq:Co n.rq.set):PC 121 [.agg (Bf n),.cptr (AI c)] (vb (!has n.rq.set c.place)):=by
 refine Ps ⟨[2],[],[],[],[],[],[],[],[],[],[]⟩ Tryz.func121 rfl (Nz rfl) ?_;refine Bq (Bt (has n.rq.set c.place)) (fun h1=>?_) (fun h1=>?_)
 ·have h1:(has n.rq.set c.place)=true:=h1;refine Xi .pure (Xi _ (Yi (cb h1 (rv n.rq.set c.place hq)) ?_));exact .of_eq (show vb false=vb (!has n.rq.set c.place) by rw[h1];rfl)
 have h1:(has n.rq.set c.place)=false:=h1;refine Xi .pure (Xi _ (Yi (cb h1 (rv n.rq.set c.place hq)) ?_));exact .of_eq (show vb true=vb (!has n.rq.set c.place) by rw[h1];rfl)
theorem s69(roots:List Rq)(C A:List (Value×AV))(s:SS)(dec:List Cd)(st:List (List Sk))(c:Cd)(hd:dec.length≤1073741823)(hr:c.rel.reqs.length≤1073741824)(hq:∀q∈c.rel.reqs,Co q.set):Bm Tryz.prog 125 [.ref 1000 0,.agg (AI c)] (Aq (Js roots C A s dec st) Aa) fun r h'=>r=oK (Ei dec c)∧h'=Aq (Js roots C A s dec st) Aa:=by
 have hd:dec.length≤1073741823:=hd;have hdl:(dec++[c]).length=dec.length+1:=by simp
 refine Ct (MZ ⟨[3],[],[],[],[],[],[],[],[(23,3)],[],[4,8,9]⟩) [(1000,1000),(1001,1001),(1002,1002),(1003,1003),(1004,1004)] rfl CY hm rfl Tryz.func125 (by kernel_rfl) rfl (Nz rfl) (by kernel_rfl) rfl ?_;refine Xi {i:Nat // i≤c.rel.reqs.length∧∀k q,k<i→c.rel.reqs[k]?=some q→T9 (dec++[c]) q=false} (Xi (fun q=>⟨[(0,.ref 1000 0),(3,.ref 3 0),(4,.ref 4 0),(12,sl AN c.rel.reqs),(13,vi (c.rel.reqs.map AN).length),(14,vi q.1)],[(3,.ro (AI c)),(4,.cells [vs ⟨#[]⟩,.v (.slice none 0 0),vs ⟨#[]⟩,vi 0,vi 0]),(1000,.cells (srM roots C A s dec 1004 st.length)),(1001,.tok 6 s.infs.length),(1002,.tok 1 s.drv.length),(1003,.map D3 (D5 0 s.infs)),(1004,.arr 1 (st.map AX))],Aa⟩) (Xi (fun q=>c.rel.reqs.length-q.1) (Yi (Xi ⟨0,AG _,fun k q h=>absurd h (Cu k)⟩ ?_) ?_)))
 ·exact⟨Z6,Z7,Fh,AD (by kernel_rfl)⟩
 intro⟨i,i1,i2⟩;have i1:i≤c.rel.reqs.length:=i1;have i2:∀k q,k<i→c.rel.reqs[k]?=some q→T9 (dec++[c]) q=false:=i2;refine Yi (fun h1=>?_) (fun h1=>?_)
 ·have h1:(i:Int)<((c.rel.reqs.map AN).length:Int):=h1;have n1:=H5 h1;refine Xi (AN c.rel.reqs[i]) (Yi (Jp n1) (Yi rfl ?_));refine Yi (Nz rfl) ?_;refine Yi (Nz rfl) ?_;refine Xi ⟨[(0,.ref 1000 0),(3,.ref 3 0),(4,.ref 4 0),(6,vi i),(7,.ref 7 0),(12,sl AN c.rel.reqs),(13,vi (c.rel.reqs.map AN).length),(14,vi i)],[(3,.ro (AI c)),(4,.cells [vs ⟨#[]⟩,.v (.slice none 0 0),vs ⟨#[]⟩,vi 0,vi 0]),(7,.cells (AN c.rel.reqs[i])),(1000,.cells (srM roots C A s dec 1004 st.length)),(1001,.tok 6 s.infs.length),(1002,.tok 1 s.drv.length),(1003,.map D3 (D5 0 s.infs)),(1004,.arr 1 (st.map AX))],Aa⟩ (Yi ⟨Z8,Z8,Fh,AD (by kernel_rfl)⟩ ?_)
  refine Xi _ (Xi _ (Yi (by kernel_rfl) (Yi (tU dec (A3 hd (by decide))) ?_)));refine Yi (Nz rfl) ?_;have b2:CT 10 [(AI c)]∧(dec.map AI).length=(dec.map AI).length∧((dec.map AI).length+([(AI c)]:List (List AV)).length)*128≤140737488355328∧(dec.map AI).length+([(AI c)]:List (List AV)).length≤9223372036854775807:=⟨⟨rfl,trivial⟩,rfl,(by simp only[Lm,Au,Ay];omega),(by simp only[Lm,Au,Ay];omega)⟩;refine Yi b2 ?_;refine Yi (by kernel_rfl) ?_;refine Xi {j:Nat // j≤(dec++[c]).length∧∀m d,m<j→(dec++[c])[m]?=some d→(decide (d.rel.path=c.rel.reqs[i].path)&&!has c.rel.reqs[i].set d.place)=false} (Xi (fun q=>⟨[(0,.ref 1000 0),(3,.ref 3 0),(4,.ref 4 0),(6,vi i),(7,.ref 7 0),(12,sl AN c.rel.reqs),(13,vi (c.rel.reqs.map AN).length),(14,vi i),(26,.slice (.id 12300 10) ((dec++[c]).map AI)),(27,vi ((dec++[c]).map AI).length),(28,vi q.1)],[(3,.ro (AI c)),(4,.cells [vs ⟨#[]⟩,.v (.slice none 0 0),vs ⟨#[]⟩,vi 0,vi 0]),(7,.cells (AN c.rel.reqs[i])),(1000,.cells (srM roots C A s dec 1004 st.length)),(1001,.tok 6 s.infs.length),(1002,.tok 1 s.drv.length),(1003,.map D3 (D5 0 s.infs)),(1004,.arr 1 (st.map AX)),(12300,.tok 10 ((dec++[c]).map AI).length)],Aa⟩) (Xi (fun q=>(dec++[c]).length-q.1) (Yi (Xi ⟨0,AG _,fun k q h=>absurd h (Cu k)⟩ ?_) ?_)))
  ·exact⟨⟨Zr,Zr,Zr,Zr,Zr,Zr,Zr,Zr,⟨Qc,rfl⟩,⟨(show vi ((dec.map AI++[AI c]:List (List AV)).length:Int)=vi (((dec++[c]).map AI).length:Int) by rw[AH];rfl),rfl⟩,Zr,Tv⟩,⟨Zr,Zr,Zr,Zr,Zr,Zr,Zr,Zr,⟨(show HO.tok 10 ((dec.map AI).length+[AI c].length)=.tok 10 ((dec++[c]).map AI).length by simp),rfl⟩,Tv⟩,Fh,AD (by kernel_rfl)⟩
  intro⟨j,j1,j2⟩;have j1:j≤(dec++[c]).length:=j1;have j2:∀m d,m<j→(dec++[c])[m]?=some d→(decide (d.rel.path=c.rel.reqs[i].path)&&!has c.rel.reqs[i].set d.place)=false:=j2;refine Yi (fun h3=>?_) (fun h3=>?_)
  ·have h3:(j:Int)<(((dec++[c]).map AI).length:Int):=h3;have n3:=H5 h3;refine Xi (AI ((dec++[c])[j])) (Yi (Jp n3) (Yi rfl ?_));refine Yi (Nz rfl) ?_;refine Yi (Nz rfl) ?_;refine Yi (fun h4=>?_) (fun h4=>?_)
   ·have h4:(((dec++[c])[j]).rel.path:ByteArray)=c.rel.reqs[i].path:=h4;refine Bq (Bt (has c.rel.reqs[i].set (dec++[c])[j].place)) (fun h5=>?_) (fun h5=>?_)
    ·have h5:(has c.rel.reqs[i].set (dec++[c])[j].place)=true:=h5;refine Xi .pure (Xi _ (Yi (cb h5 (rv c.rel.reqs[i].set (dec++[c])[j].place (hq _ (Ak _)))) ?_));refine Xi ⟨[(0,.ref 1000 0),(3,.ref 3 0),(4,.ref 4 0),(6,vi i),(7,.ref 7 0),(12,sl AN c.rel.reqs),(13,vi (c.rel.reqs.map AN).length),(14,vi i),(26,.slice (.id 12300 10) ((dec++[c]).map AI)),(27,vi ((dec++[c]).map AI).length),(28,vi j)],[(3,.ro (AI c)),(4,.cells [vs ⟨#[]⟩,.v (.slice none 0 0),vs ⟨#[]⟩,vi 0,vi 0]),(7,.cells (AN c.rel.reqs[i])),(1000,.cells (srM roots C A s dec 1004 st.length)),(1001,.tok 6 s.infs.length),(1002,.tok 1 s.drv.length),(1003,.map D3 (D5 0 s.infs)),(1004,.arr 1 (st.map AX)),(12300,.tok 10 ((dec++[c]).map AI).length)],Aa⟩ (Yi ⟨Z11,Z9,Fh,AD (by kernel_rfl)⟩ ?_)
     refine Yi (Ii j (by omega)) ?_;refine Xi ⟨j+1,by omega,fun m d hm hd=>by
       by_cases e:m=j
       ·subst e;rw[Ge n3]at hd;cases hd;exact by rw[h5];simp
       ·exact j2 m d (by omega) hd⟩ ?_
     exact⟨by show(dec++[c]).length-(j+1)<(dec++[c]).length-j;omega,Z11,Z9,Fh,AD (by kernel_rfl)⟩
    have h5:(has c.rel.reqs[i].set (dec++[c])[j].place)=false:=h5;refine Xi .pure (Xi _ (Yi (cb h5 (rv c.rel.reqs[i].set (dec++[c])[j].place (hq _ (Ak _)))) ?_));refine Xi ⟨[(3,.ref 3 0),(4,.ref 4 0),(6,vi i),(7,.ref 7 0)],[(3,.ro (AI c)),(4,.cells [vs ⟨#[]⟩,.v (.slice none 0 0),vs ⟨#[]⟩,vi 0,vi 0]),(7,.cells (AN c.rel.reqs[i])),(1000,.cells (srM roots C A s dec 1004 st.length)),(1001,.tok 6 s.infs.length),(1002,.tok 1 s.drv.length),(1003,.map D3 (D5 0 s.infs)),(1004,.arr 1 (st.map AX))],Aa⟩ (Yi ⟨Z4,Z8,Fh,AD (by kernel_rfl)⟩ ?_)
    refine Yi (Nz rfl) ?_;refine Yi (Nz rfl) ?_;refine Yi (Nz rfl) ?_;have eC:=gl (dec:=dec) (c:=c) n1 i2 n3 h4 h5;exact Xi _ (Yi (.refl _) (Yi (show AV.tup [.agg (Bf ⟨c.rel.reqs[i],c.rel.path,c.place,(i:Nat)⟩),vb true]=oK (Ei dec c) by rw[eC];rfl) rfl))
   have h4:¬(((dec++[c])[j]).rel.path:ByteArray)=c.rel.reqs[i].path:=h4;refine Xi ⟨[(0,.ref 1000 0),(3,.ref 3 0),(4,.ref 4 0),(6,vi i),(7,.ref 7 0),(12,sl AN c.rel.reqs),(13,vi (c.rel.reqs.map AN).length),(14,vi i),(26,.slice (.id 12300 10) ((dec++[c]).map AI)),(27,vi ((dec++[c]).map AI).length),(28,vi j)],[(3,.ro (AI c)),(4,.cells [vs ⟨#[]⟩,.v (.slice none 0 0),vs ⟨#[]⟩,vi 0,vi 0]),(7,.cells (AN c.rel.reqs[i])),(1000,.cells (srM roots C A s dec 1004 st.length)),(1001,.tok 6 s.infs.length),(1002,.tok 1 s.drv.length),(1003,.map D3 (D5 0 s.infs)),(1004,.arr 1 (st.map AX)),(12300,.tok 10 ((dec++[c]).map AI).length)],Aa⟩ (Yi ⟨Z11,Z9,Fh,AD (by kernel_rfl)⟩ ?_)
   refine Yi (Ii j (by omega)) ?_;refine Xi ⟨j+1,by omega,fun m d hm hd=>by
     by_cases e:m=j
     ·subst e;rw[Ge n3]at hd;cases hd;exact by rw[Aj h4];rfl
     ·exact j2 m d (by omega) hd⟩ ?_
   exact⟨by show(dec++[c]).length-(j+1)<(dec++[c]).length-j;omega,Z11,Z9,Fh,AD (by kernel_rfl)⟩
  have h3:¬((j:Int)<(((dec++[c]).map AI).length:Int)):=h3;have n3:=H4 h3;refine Yi (Ii i (by omega)) ?_;have hmq:T9 (dec++[c]) c.rel.reqs[i]=false:=iR fun m d hd=>j2 m d (by have:=(Aw.1 hd).1;have q:=h3;rw[Lm]at q;omega) hd;refine Xi ⟨i+1,by omega,fun k q hk xo=>by
    by_cases e:k=i
    ·subst e;rw[Ge n1]at xo;cases xo;exact hmq
    ·exact i2 k q (by omega) xo⟩ ?_
  exact⟨Dl c.rel.reqs.length i (by omega),Z6,Z7,Fh,AD (by kernel_rfl)⟩
 have h1:¬((i:Int)<((c.rel.reqs.map AN).length:Int)):=h1;have n1:=H4 h1;refine Yi (Nz rfl) ?_;refine Yi (Nz rfl) ?_;have eC:=gm (dec:=dec) (c:=c) fun k q hk=>i2 k q (by have:=(Aw.1 hk).1;have q:=h1;rw[Lm]at q;omega) hk;exact Xi _ (Yi (.refl _) (Yi (show AV.tup [zNd,vb false]=oK (Ei dec c) by rw[eC];rfl) rfl))
theorem OX{x:List Rl}{roots:List Rq}{l0:List Nf}:∀{l:List Nf} {d d' : List (List Tm)},(∀i∈l,i∈l0)→(∀t∈d,Vb (KD x roots l0) t)→Ds x roots l d=some d'→∀t∈d',Vb (KD x roots l0) t
 | [],d,d',_,hd,h=>by cases h;exact hd
 |i::l,d,d',hl,hd,h=>by
  unfold Ds at h;cases hi:DY x roots d i with
  |none=>rw[hi]at h;cases h
  |some t =>
   rw[hi]at h;refine OX (fun j hj=>hl j (Af _ hj)) (fun u hu=>?_) h;rcases A6.1 hu with hu | hu
   ·exact hd u hu
   ·rw[As.1 hu];exact dx (hl i (Ac ..)) hd hi
section
variable {x:List Rl}{roots:List Rq}{s:SS}
theorem FG.few(hx:A9 x=0)(hr:By roots=0)(h:FG x roots s):∀t∈s.drv,nS t:=fun t ht =>
 (OX (l0:=s.infs) (fun _ h=>h) (fun _ h=>by cases h) h.der t ht).fewI (aG hx hr h.len)
theorem Is{i:Nf}{l:List Tm}(h:s.infs.Nodup):(El s i l).2.infs.Nodup:=by
 cases hk:L6 i 0 s.infs with
 |some k=>rw[XH hk];exact h
 |none =>
  by_cases hf:65536≤s.infs.length
  ·rw[Vf hk hf];exact h
  ·rw[XG hk hf];show(s.infs++[i]).Nodup;rw[ET];refine⟨h,by simp,fun a ha b hb e=>?_⟩;rw[As.1 hb]at e;exact QM hk (e▸ha)
theorem J6.add(h:J6 x roots s){i:Nf}{l:List Tm}(hi:DY x roots s.drv i=some l):J6 x roots (El s i l).2∧(El s i l).1<(El s i l).2.drv.length∧s.drv.length≤(El s i l).2.drv.length :=
 ⟨⟨(KO h.der hi).1,Is h.nodup⟩,(KO h.der hi).2.1,(KP s i l).len⟩
theorem J6.dl(h:J6 x roots s):s.infs.length≤65536∧s.drv.length=s.infs.length∧s.drv.length≤65536:=by
 have h1:=h.der.dlen;have h2:=h.der.len;exact⟨h2,h1,by omega⟩
theorem jc(hx:A9 x=0)(p:ByteArray):∀d,DY x roots d ⟨2,p,0,0,0,0⟩=some (Ip p (Ci x p)):=fun d=>by
 obtain⟨u,u0,u1,hu⟩:=cq hx p;have hV:Gt []:=fun _ h=>by cases h
 have ou:XC [] p (KC [] p (PW u)):=.ver hV (Fe ⟨u0,u1⟩);have h1:Bp [(⟨p,false,Ev (Ci x p)⟩:Tm)] (KC [] p (PW u))=true:=by
  rw[BL];intro t ht;rw[As.1 ht];show Dx _ (Cn (KC [] p (PW u)) p)=true;rw[ID rfl];show(Cy (PW u)&&has (Ev (Ci x p)) (place (PW u)))=true;rw[Fe ⟨u0,u1⟩,Hv,F0,hu];unfold L4;simp[u0,u1]
 have h2:Bp [(⟨p,false,Ev (Ci x p)⟩:Tm)] []=false:=rfl;have DL:Ip p (Ci x p)≠[]:=by
  have c1:=Dj (l:=[(⟨p,false,Ev (Ci x p)⟩:Tm)]) ou.val;have c2:=Dj (l:=[(⟨p,false,Ev (Ci x p)⟩:Tm)]) hV;rw[h1]at c1;rw[h2]at c2;unfold Ip QJ;cases hc:C3 [(⟨p,false,Ev (Ci x p)⟩:Tm)]with
  |none=>rw[hc]at c1;cases c1
  |some c =>
   rw[hc]at c2;intro e;have e:c=[]:=e;rw[e]at c2;cases c2
 unfold DY;rw[Ao (show ¬((2:Int)=0) by decide),Ao (show ¬((2:Int)=1) by decide),Ax rfl,Ax ⟨rfl,rfl,rfl,rfl⟩];unfold dJ;rw[Ao (by rw[Gc];exact DL)]
theorem Ff{k:Nat}(h:k<s.drv.length):s.drv[k]?=some (DT s k):=by
 unfold DT;rw[BY,Ge h];rfl
theorem T0{p:ByteArray}{L:List Nat}{j k:Nat}(hj:j<L.length)(h:s.full=true∨Dk (DT s k) p=false):Cs p (L.drop j) k s=(k,s):=by
 rw[Be hj];unfold Cs;rw[Ax h]
theorem aq{p:ByteArray}{L:List Nat}{j k:Nat}(hj:j<L.length)(h1:¬(s.full=true∨Dk (DT s k) p=false))(h:L[j]=k):Cs p (L.drop j) k s=Cs p (L.drop (j+1)) k s:=by
 rw[Be hj]
 conv=>lhs;unfold Cs
 rw[Ao h1,Ax h]
theorem dE{p:ByteArray}{L:List Nat}{j k:Nat}(hj:j<L.length)(h1:¬(s.full=true∨Dk (DT s k) p=false))(h2:¬L[j]=k)(h:(BH (DT s k) (DT s L[j]) p).2≠0):Cs p (L.drop j) k s=Cs p (L.drop (j+1)) k s:=by
 rw[Be hj]
 conv=>lhs;unfold Cs
 rw[Ao h1,Ao h2,Ax h]
theorem dD{p:ByteArray}{L:List Nat}{j k:Nat}(hj:j<L.length)(h1:¬(s.full=true∨Dk (DT s k) p=false))(h2:¬L[j]=k)(h:(BH (DT s k) (DT s L[j]) p).2=0) :
  Cs p (L.drop j) k s=Cs p (L.drop (j+1)) (El s ⟨3,p,0,0,(k:Nat),(L[j]:Nat)⟩ (BH (DT s k) (DT s L[j]) p).1).1 (El s ⟨3,p,0,0,(k:Nat),(L[j]:Nat)⟩ (BH (DT s k) (DT s L[j]) p).1).2:=by
 rw[Be hj]
 conv=>lhs;unfold Cs
 rw[Ao h1,Ao h2,Ao (fun h3=>h3 h)]
end
theorem Fr{t:List Tm}(h:nS t):Co t:=by have:=h.1;unfold Co;omega
theorem s91(x:List Rl)(roots:List Rq)(C A:List (Value×AV))(s:SS)(dec:List Cd)(st:List (List Sk))(p:ByteArray)(n:Nd)(rs:List Nat)(V:AV)(hx:A9 x=0)(hr:By roots=0)(hs:J6 x roots s)(pe:∀d,DY x roots d (TS n)=some (Jo n))(uu:∀r∈rs,r<s.drv.length)(W4:rs.length≤1073741823)(hnq:Co n.rq.set)(hnp:Bu (n.place+1))
  (rQ:∀a,(Value.string p,a)∈A→a=V) (rR:(∀a,(Value.string p,a)∉A)→V=.v (.slice none 0 0)) (rS:∀h,PC 160 [vs p,str h V] (sl AL (Ip p (Ci x p)))):Bm Tryz.prog 128 [.ref 1000 0,vs p,.agg (Bf n),sl BV rs] (Aq (Js roots C A s dec st) Aa) fun r h'=>nQ roots C A dec st (Ed x p n rs s) r h':=by
 have hw:=hs.dl;obtain⟨uv,qv,Sq⟩:=hs.add (pe s.drv)
 change J6 x roots (Bw s n).2 at uv
 change (Bw s n).1<(Bw s n).2.drv.length at qv
 change s.drv.length≤(Bw s n).2.drv.length at Sq
 have Lj:=uv.dl;obtain⟨qA,HL,ic⟩:=uv.add (jc hx p (Bw s n).2.drv)
 change J6 x roots (Ew x p (Bw s n).2).2 at qA
 change (Ew x p (Bw s n).2).1<(Ew x p (Bw s n).2).2.drv.length at HL
 change (Bw s n).2.drv.length≤(Ew x p (Bw s n).2).2.drv.length at ic
 obtain⟨L,hL⟩:∃L,L=(Ew x p (Bw s n).2).1::rs:=⟨_,rfl⟩;have hLr:∀r∈L,r<(Ew x p (Bw s n).2).2.drv.length:=fun r pn=>by
  rw[hL]at pn;rcases Av.1 pn with rfl | h
  ·exact HL
  ·have:=uu r h;omega
 have zr:L.length=rs.length+1:=by rw[hL];rfl
 have qv:(Bw s n).1<(Ew x p (Bw s n).2).2.drv.length:=by omega
 refine Ct (MZ ⟨[6],[],[],[],[],[],[],[],[],[],[2,3,7,8,10,12]⟩) [(1000,1000),(1001,1001),(1002,1002),(1003,1003),(1004,1004)] rfl CY hm rfl Tryz.func128 (by kernel_rfl) rfl (Nz rfl) (by kernel_rfl) rfl ?_;refine Yi (Nz rfl) ?_;refine Xi (.gen Zs 0) (Yi rfl (Bm.imp (yW roots C A s dec st n hw.1 hw.2.1 hs.nodup hnq hnp) ?_));intro v1 g1 q1;have jD:=q1.1;have jE:=q1.2;subst jD;subst jE;refine Xi ⟨[(0,.ref 1000 0),(1,vs p),(3,sl BV rs),(9,vi (((Bw s n).1:Nat):Int))],[(1000,.cells [sl AN roots,.cmap Dm C,.cmap Dm A,.slice (.id 1001 6) ((Bw s n).2.infs.map B7),.slice (.id 1002 1) ((Bw s n).2.drv.map Cm),.mref 1003,vb (Bw s n).2.full,sl AI dec,sl Ae (AO dec),.msl 1004 st.length]),(1001,.tok 6 (Bw s n).2.infs.length),(1002,.tok 1 (Bw s n).2.drv.length),(1003,.map D3 (D5 0 (Bw s n).2.infs)),(1004,.arr 1 (st.map AX))],Aa⟩ (Yi ⟨Z4,Z5,Fh,AD (by kernel_rfl)⟩ ?_)
 refine Pn V (.v (.slice none 0 0)) rQ rR (fun h=>h) ?_;refine Xi .pure (Xi _ (Yi (rS _) ?_));refine Xi (.gen Zs 0) (Yi rfl (Bm.imp (mG roots C A (Bw s n).2 dec st ⟨2,p,0,0,0,0⟩ (Ip p (Ci x p)) Lj.1 Lj.2.1 uv.nodup) ?_));intro v2 g2 q2;have yk:=q2.1;have ym:=q2.2;subst yk;subst ym;refine Xi ⟨[(0,.ref 1000 0),(1,vs p),(3,sl BV rs),(9,vi (((Bw s n).1:Nat):Int)),(10,vi (((Ew x p (Bw s n).2).1:Nat):Int))],[(1000,.cells [sl AN roots,.cmap Dm C,.cmap Dm A,.slice (.id 1001 6) ((Ew x p (Bw s n).2).2.infs.map B7),.slice (.id 1002 1) ((Ew x p (Bw s n).2).2.drv.map Cm),.mref 1003,vb (Ew x p (Bw s n).2).2.full,sl AI dec,sl Ae (AO dec),.msl 1004 st.length]),(1001,.tok 6 (Ew x p (Bw s n).2).2.infs.length),(1002,.tok 1 (Ew x p (Bw s n).2).2.drv.length),(1003,.map D3 (D5 0 (Ew x p (Bw s n).2).2.infs)),(1004,.arr 1 (st.map AX))],Aa⟩ (Yi ⟨Z5,Z5,Fh,AD (by kernel_rfl)⟩ ?_)
 have b3:CT 1 (rs.map BV)∧([[vi (((Ew x p (Bw s n).2).1:Nat):Int)]]:List (List AV)).length=1∧(([[vi (((Ew x p (Bw s n).2).1:Nat):Int)]]:List (List AV)).length+(rs.map BV).length)*8≤140737488355328∧([[vi (((Ew x p (Bw s n).2).1:Nat):Int)]]:List (List AV)).length+(rs.map BV).length≤9223372036854775807:=⟨(Ea (enc:=BV) (n:=1) (fun _=>rfl) rs),(by first | (simp;done) | (rw[Lm];assumption)),(by simp only[Lm,Au,Ay];omega),(by simp only[Lm,Au,Ay];omega)⟩
 refine Yi b3 ?_;refine Xi {q:Nat×Nat×SS // q.1≤L.length∧Cs p (L.drop q.1) q.2.1 q.2.2=Cs p L (Bw s n).1 (Ew x p (Bw s n).2).2∧J6 x roots q.2.2∧q.2.1<q.2.2.drv.length∧∀r∈L,r<q.2.2.drv.length} (Xi (fun q=>⟨[(0,.ref 1000 0),(1,vs p),(9,vi q.1.2.1),(33,.slice (.id 31 1) (L.map BV)),(34,vi (L.map BV).length),(35,vi q.1.1)],[(31,.tok 1 (L.map BV).length),(1000,.cells (srM roots C A q.1.2.2 dec 1004 st.length)),(1001,.tok 6 q.1.2.2.infs.length),(1002,.tok 1 q.1.2.2.drv.length),(1003,.map D3 (D5 0 q.1.2.2.infs)),(1004,.arr 1 (st.map AX))],Aa⟩) (Xi (fun q=>L.length-q.1.1) (Yi (Xi ⟨(0,(Bw s n).1,(Ew x p (Bw s n).2).2),AG _,by rw[KG],qA,qv,hLr⟩ ?_) ?_)))
 ·exact⟨⟨Zr,Zr,Zr,⟨(show AV.slice (.id 31 1) ([[vi (((Ew x p (Bw s n).2).1:Nat):Int)]]++rs.map BV)=.slice (.id 31 1) (L.map BV) by rw[hL];rfl),rfl⟩,⟨(show vi (([[vi (((Ew x p (Bw s n).2).1:Nat):Int)]]++rs.map BV:List (List AV)).length:Int)=vi ((L.map BV).length:Int) by rw[hL];rfl),rfl⟩,Zr,Tv⟩,⟨⟨(show HO.tok 1 (([[vi (((Ew x p (Bw s n).2).1:Nat):Int)]]:List (List AV)).length+(rs.map BV).length)=.tok 1 (L.map BV).length by rw[hL];simp[Nat.add_comm]),rfl⟩,Zr,Zr,Zr,Zr,Zr,Tv⟩,Fh,AD (by kernel_rfl)⟩
 intro⟨⟨j,k,S⟩,j1,j2,j3,j4,j5⟩;have j1:j≤L.length:=j1;have j2:Cs p (L.drop j) k S=Cs p L (Bw s n).1 (Ew x p (Bw s n).2).2:=j2;have j3:J6 x roots S:=j3;have j4:k<S.drv.length:=j4;have j5:∀r∈L,r<S.drv.length:=j5;have hw3:=j3.dl;have ul:=j3.der.few hx hr;have gk:S.drv[k]?=some (DT S k):=Ff j4;refine Yi (fun h4=>?_) (fun h4=>?_)
 ·have h4:(j:Int)<((L.map BV).length:Int):=h4;have n4:=H5 h4;refine Xi (BV L[j]) (Yi (Jp n4) (Yi rfl ?_));refine Yi (fun h5=>?_) (fun h5=>?_)
  ·have h5:S.full=true:=h5;refine Xi ⟨[(9,vi k)],[(1000,.cells (srM roots C A S dec 1004 st.length)),(1001,.tok 6 S.infs.length),(1002,.tok 1 S.drv.length),(1003,.map D3 (D5 0 S.infs)),(1004,.arr 1 (st.map AX))],Aa⟩ (Yi ⟨Z1,Z5,Fh,AD (by kernel_rfl)⟩ ?_)
   have eR:Cs p L (Bw s n).1 (Ew x p (Bw s n).2).2=(k,S):=by rw[←j2];exact T0 n4 (.inl h5)
   have eL:Ed x p n rs s=(k,S):=by unfold Ed;rw[←hL];exact eR
   exact Xi _ (Yi (.refl _) (Yi (show vi (k:Int)=vi (((Ed x p n rs s).1:Nat):Int) by rw[eL]) (show Aq (Js roots C A S dec st) Aa=Aq (Js roots C A (Ed x p n rs s).2 dec st) Aa by rw[eL])))
  have h5:S.full=false:=h5;refine Xi (Cm (DT S k)) (Yi (Yi (Nn k) (B4 gk)) (Yi rfl ?_));refine Bq (Bt (Dk (DT S k) p)) (fun h7=>?_) (fun h7=>?_)
  ·have h7:(Dk (DT S k) p)=true:=h7;refine Xi .pure (Xi _ (Yi (cb h7 (ku (DT S k) p (Fr (ul _ (AA (Ff j4)))))) ?_));refine Xi ⟨[(0,.ref 1000 0),(1,vs p),(9,vi k),(12,vi (L[j]:Nat)),(33,.slice (.id 31 1) (L.map BV)),(34,vi (L.map BV).length),(35,vi j)],[(31,.tok 1 (L.map BV).length),(1000,.cells (srM roots C A S dec 1004 st.length)),(1001,.tok 6 S.infs.length),(1002,.tok 1 S.drv.length),(1003,.map D3 (D5 0 S.infs)),(1004,.arr 1 (st.map AX))],Aa⟩ (Yi ⟨Z7,Z6,Fh,AD (by kernel_rfl)⟩ ?_)
   refine Yi (fun h8=>?_) (fun h8=>?_)
   ·have h8:((L[j]:Nat):Int)=(k:Int):=h8;refine Xi ⟨[(0,.ref 1000 0),(1,vs p),(9,vi k),(33,.slice (.id 31 1) (L.map BV)),(34,vi (L.map BV).length),(35,vi j)],[(31,.tok 1 (L.map BV).length),(1000,.cells (srM roots C A S dec 1004 st.length)),(1001,.tok 6 S.infs.length),(1002,.tok 1 S.drv.length),(1003,.map D3 (D5 0 S.infs)),(1004,.arr 1 (st.map AX))],Aa⟩ (Yi ⟨Z6,Z6,Fh,AD (by kernel_rfl)⟩ ?_)
    refine Yi (Ii j (by omega)) ?_;refine Xi ⟨(j+1,k,S),FK n4,by rw[←(aq (s:=S) (p:=p) (L:=L) (j:=j) (k:=k) n4 (by rw[h5,h7];simp) (by have q:=h8;omega))];exact j2,j3,j4,j5⟩ ?_;exact⟨Dl L.length j (by omega),Z6,Z6,Fh,AD (by kernel_rfl)⟩
   have h8:¬(((L[j]:Nat):Int)=(k:Int)):=h8;refine Xi (Cm (DT S k)) (Yi (Yi (Nn k) (B4 gk)) (Yi rfl ?_));refine Xi (Cm (DT S L[j])) (Yi (Yi (show(0:Int)≤(L[j]:Nat) by omega) (B4 (Ff (j5 _ (Ak n4))))) (Yi rfl ?_));have fk:=ul _ (AA (Ff j4));have fr:=ul _ (AA (Ff (j5 _ (Ak n4))));refine Xi _ (Yi (vM (DT S k) (DT S L[j]) p fk.1 fr.1 fk.2 fr.2) ?_);refine Yi (by kernel_rfl) ?_;refine Xi ⟨[(0,.ref 1000 0),(1,vs p),(9,vi k),(12,vi (L[j]:Nat)),(13,sl AL (BH (DT S k) (DT S L[j]) p).1),(14,vi (BH (DT S k) (DT S L[j]) p).2),(33,.slice (.id 31 1) (L.map BV)),(34,vi (L.map BV).length),(35,vi j)],[(31,.tok 1 (L.map BV).length),(1000,.cells (srM roots C A S dec 1004 st.length)),(1001,.tok 6 S.infs.length),(1002,.tok 1 S.drv.length),(1003,.map D3 (D5 0 S.infs)),(1004,.arr 1 (st.map AX))],Aa⟩ (Yi ⟨Z9,Z6,Fh,AD (by kernel_rfl)⟩ ?_)
   refine Yi (fun M3=>?_) (fun M3=>?_)
   ·have M3:((BH (DT S k) (DT S L[j]) p).2:Int)≠(0:Int):=M3;refine Xi ⟨[(0,.ref 1000 0),(1,vs p),(9,vi k),(33,.slice (.id 31 1) (L.map BV)),(34,vi (L.map BV).length),(35,vi j)],[(31,.tok 1 (L.map BV).length),(1000,.cells (srM roots C A S dec 1004 st.length)),(1001,.tok 6 S.infs.length),(1002,.tok 1 S.drv.length),(1003,.map D3 (D5 0 S.infs)),(1004,.arr 1 (st.map AX))],Aa⟩ (Yi ⟨Z6,Z6,Fh,AD (by kernel_rfl)⟩ ?_)
    refine Yi (Ii j (by omega)) ?_;refine Xi ⟨(j+1,k,S),FK n4,by rw[←(dE (s:=S) (p:=p) (L:=L) (j:=j) (k:=k) n4 (by rw[h5,h7];simp) (by have q:=h8;omega) M3)];exact j2,j3,j4,j5⟩ ?_;exact⟨Dl L.length j (by omega),Z6,Z6,Fh,AD (by kernel_rfl)⟩
   have M3:((BH (DT S k) (DT S L[j]) p).2:Int)=(0:Int):=Bj M3;refine Xi (.gen Zs 0) (Yi rfl (Bm.imp (mG roots C A S dec st ⟨3,p,0,0,(k:Nat),(L[j]:Nat)⟩ (BH (DT S k) (DT S L[j]) p).1 hw3.1 hw3.2.1 j3.nodup) ?_));intro v12 g12 mz;have pS:=mz.1;have pT:=mz.2;subst pS;subst pT;refine Xi ⟨[(0,.ref 1000 0),(1,vs p),(9,vi (((El S ⟨3,p,0,0,(k:Nat),(L[j]:Nat)⟩ (BH (DT S k) (DT S L[j]) p).1).1:Nat):Int)),(33,.slice (.id 31 1) (L.map BV)),(34,vi (L.map BV).length),(35,vi j)],[(31,.tok 1 (L.map BV).length),(1000,.cells [sl AN roots,.cmap Dm C,.cmap Dm A,.slice (.id 1001 6) ((El S ⟨3,p,0,0,(k:Nat),(L[j]:Nat)⟩ (BH (DT S k) (DT S L[j]) p).1).2.infs.map B7),.slice (.id 1002 1) ((El S ⟨3,p,0,0,(k:Nat),(L[j]:Nat)⟩ (BH (DT S k) (DT S L[j]) p).1).2.drv.map Cm),.mref 1003,vb (El S ⟨3,p,0,0,(k:Nat),(L[j]:Nat)⟩ (BH (DT S k) (DT S L[j]) p).1).2.full,sl AI dec,sl Ae (AO dec),.msl 1004 st.length]),(1001,.tok 6 (El S ⟨3,p,0,0,(k:Nat),(L[j]:Nat)⟩ (BH (DT S k) (DT S L[j]) p).1).2.infs.length),(1002,.tok 1 (El S ⟨3,p,0,0,(k:Nat),(L[j]:Nat)⟩ (BH (DT S k) (DT S L[j]) p).1).2.drv.length),(1003,.map D3 (D5 0 (El S ⟨3,p,0,0,(k:Nat),(L[j]:Nat)⟩ (BH (DT S k) (DT S L[j]) p).1).2.infs)),(1004,.arr 1 (st.map AX))],Aa⟩ (Yi ⟨Z6,Z6,Fh,AD (by kernel_rfl)⟩ ?_)
   refine Yi (Ii j (by omega)) ?_;obtain⟨a1,a2,a3⟩:=j3.add (VL (x:=x) (roots:=roots) (p:=p) j4 (j5 _ (Ak n4)) M3);refine Xi ⟨(j+1,(El S ⟨3,p,0,0,(k:Nat),(L[j]:Nat)⟩ (BH (DT S k) (DT S L[j]) p).1).1,(El S ⟨3,p,0,0,(k:Nat),(L[j]:Nat)⟩ (BH (DT S k) (DT S L[j]) p).1).2),FK n4,by rw[←(dD (s:=S) (p:=p) (L:=L) (j:=j) (k:=k) n4 (by rw[h5,h7];simp) (by have q:=h8;omega) M3)];exact j2,a1,a2,fun r hr=>BT (j5 r hr) a3⟩ ?_;exact⟨Dl L.length j (by omega),Z6,Z6,Fh,AD (by kernel_rfl)⟩
  have h7:(Dk (DT S k) p)=false:=h7;refine Xi .pure (Xi _ (Yi (cb h7 (ku (DT S k) p (Fr (ul _ (AA (Ff j4)))))) ?_));refine Xi ⟨[(9,vi k)],[(1000,.cells (srM roots C A S dec 1004 st.length)),(1001,.tok 6 S.infs.length),(1002,.tok 1 S.drv.length),(1003,.map D3 (D5 0 S.infs)),(1004,.arr 1 (st.map AX))],Aa⟩ (Yi ⟨Z1,Z5,Fh,AD (by kernel_rfl)⟩ ?_)
  have eR:Cs p L (Bw s n).1 (Ew x p (Bw s n).2).2=(k,S):=by rw[←j2];exact T0 n4 (.inr h7)
  have eL:Ed x p n rs s=(k,S):=by unfold Ed;rw[←hL];exact eR
  exact Xi _ (Yi (.refl _) (Yi (show vi (k:Int)=vi (((Ed x p n rs s).1:Nat):Int) by rw[eL]) (show Aq (Js roots C A S dec st) Aa=Aq (Js roots C A (Ed x p n rs s).2 dec st) Aa by rw[eL])))
 have h4:¬((j:Int)<((L.map BV).length:Int)):=h4;have n4:=H4 h4;have hj:¬j<L.length:=by have q:=h4;rw[Lm]at q;omega
 have eR:Cs p L (Bw s n).1 (Ew x p (Bw s n).2).2=(k,S):=by rw[←j2,DI (by omega)];rfl
 have eL:Ed x p n rs s=(k,S):=by unfold Ed;rw[←hL];exact eR
 exact Xi _ (Yi (.refl _) (Yi (show vi (k:Int)=vi (((Ed x p n rs s).1:Nat):Int) by rw[eL]) (show Aq (Js roots C A S dec st) Aa=Aq (Js roots C A (Ed x p n rs s).2 dec st) Aa by rw[eL])))
abbrev Zt:Ji:=[(1000,1000),(1001,1001),(1002,1002),(1003,1003),(500,1004)]
abbrev uV(roots:List Rq)(C A:List (Value×AV))(s:SS)(dec:List Cd)(st:List (List Sk)):List (Nat×HO) :=
 [(1000,.cells (srM roots C A s dec 2000 st.length)),(1001,.tok 6 s.infs.length),(1002,.tok 1 s.drv.length),(1003,.map D3 (D5 0 s.infs)),(1004,.dead),(2000,.arr 1 (st.map AX))]
abbrev Zu(roots:List Rq)(C A:List (Value×AV))(o:Ks)(r:AV)(h' : Nat→HO):Prop:=r=.tup [vi (o.res:Nat),vb o.found]∧h'=Aq (uV roots C A o.ss o.dec o.stack) Aa
def H64(roots:List Rq)(C A:List (Value×AV)):Prop:=∀(s:SS) (dec:List Cd) (st:List (List Sk)),dec.length≤1000→(∀c∈dec,c.rel.reqs.length≤1073741824) →
 Bm Tryz.prog 119 [.ref 1000 0] (Aq (Js roots C A s dec st) Aa) fun r h'=>r=.tup [vs (G1 roots dec).1,sl Bf (G1 roots dec).2]∧h'=Aq (Js roots C A s dec st) Aa
theorem NT{roots:List Rq}{C A:List (Value×AV)}{o:Ks}{k:Nat}{b:Bool}{s:SS}{dec:List Cd}{st:List (List Sk)}(e:o=⟨k,b,s,dec,st⟩) :
  AV.tup [vi (k:Nat),vb b]=.tup [vi (o.res:Nat),vb o.found]∧Aq (uV roots C A s dec st) Aa=Aq (uV roots C A o.ss o.dec o.stack) Aa:=by rw[e];exact Zr
end Go.Eng
