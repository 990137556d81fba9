/- Lemmas for the claims of this seat, without a condition: part 25 (S1, S2, S3, S4, S5). -/
import Derived.Test.YtddfphmpfnmknaaGreatDoorDA22
import Derived.Test.YtddfphmpfnmknaaGreatDoorDA03
set_option maxHeartbeats 4000000
namespace Go.Eng
open Go.Proofs
abbrev AE(c:Cd):List AV:=vi c.place::Ag c.rel
abbrev A9(n:Nd):List AV:=[vs n.rq.path,sl Af n.rq.set,vs n.path,vi n.place,vi n.number]
abbrev AX(l:List Sk):List AV:=[sl BS l]
abbrev BP(i:Nat):List AV:=[vi (i:Nat)]
def D0:ET:=⟨true,[.int .i64,.str,.int .i64,.int .i64,.int .i64,.int .i64]⟩
def JB(i:Nf):Value:=.agg [.int .i64 i.kind,.string i.path,.int .i64 i.place,.int .i64 i.number,.int .i64 i.left,.int .i64 i.right].toArray
def D3:Nat→List Nf→List (Value×AV)
 |_,[]=>[]
 |k,i::l=>(JB i,vi (k:Nat))::D3 (k+1) l
abbrev uD(roots:List Rq)(C A:List (Value×AV))(s:SS)(dec:List Cd)(n:Nat):List AV :=
 [sl AF roots,.cmap CZ C,.cmap CZ A,.slice (.id 1001 6) (s.infs.map BY),.slice (.id 1002 1) (s.drv.map Cb),.mref 1003,vb s.full,sl AE dec,sl Ad (AO dec),.msl 1004 n]
abbrev srM(roots:List Rq)(C A:List (Value×AV))(s:SS)(dec:List Cd)(k n:Nat):List AV :=
 [sl AF roots,.cmap CZ C,.cmap CZ A,.slice (.id 1001 6) (s.infs.map BY),.slice (.id 1002 1) (s.drv.map Cb),.mref 1003,vb s.full,sl AE dec,sl Ad (AO dec),.msl k n]
abbrev Jh(roots:List Rq)(C A:List (Value×AV))(s:SS)(dec:List Cd)(st:List (List Sk)):List (Nat×HO) :=
 [(1000,.cells (uD roots C A s dec st.length)),(1001,.tok 6 s.infs.length),(1002,.tok 1 s.drv.length),(1003,.map D0 (D3 0 s.infs)),(1004,.arr 1 (st.map AX))]
theorem yB{fF:Nat}{caps:List AV}(hs:Fi caps)(l:List (Cd))(p:Cd→Bool)(hF:∀x∈l,PC fF ([.agg (AE x)]++caps) (vb (p x)))(hl:l.length<9223372036854775807) :
  PC 206 [sl AE l,.clo fF caps] (vi (Ks p l 0)):=by
 refine Ps E4 Tryz.func206 rfl (Nz rfl) ?_;refine Xi {i:Nat // i≤l.length∧∀j (hj:j<l.length),j<i→p l[j]=false} (Xi (fun i=>⟨[(0,sl AE l),(1,.clo fF caps),(7,vi (l.map AE).length),(8,vi i.1)],[],Aa⟩) (Xi (fun i=>l.length-i.1) (Yi (Xi ⟨0,by simp⟩ ?_) ?_)))
 ·exact⟨⟨Zr,⟨rfl,hs.ids _⟩,Zr,Zr,Tv⟩,Tv,Fh,Tv⟩
 ·intro⟨i,h1,h2⟩;refine Yi ?_ ?_
  ·intro h;have h:(i:Int)<(l.map AE).length:=h;have h:i<l.length:=by simpa using h
   have hg:l[i]?=some l[i]:=Ge h;refine Xi (AE l[i]) (Yi (Yi (Nn i) (by simp[hg])) (Yi rfl (Yi (Nz rfl) ?_)));have Eb:∀h,PC fF ([.agg (AE l[i])]++caps.map (str0 h)) (vb (p l[i])):=fun h=>by rw[hs.map];exact hF l[i] (At _)
   cases hp:p l[i]with
   |true =>
    rw[hp]at Eb;refine Xi .pure (Xi (vb true) (Yi (Eb _) ?_));rw[NV h (fun j hj Je=>h2 j hj Je) hp,IQ];exact .refl _
   |false =>
    rw[hp]at Eb;refine Xi .pure (Xi (vb false) (Yi (Eb _) ?_));refine Yi (Ii i (by omega)) ?_;refine Xi ⟨i+1,by omega,fun j hj Je=>?_⟩ ?_
    ·by_cases e:j=i
     ·subst e;exact hp
     ·exact h2 j hj (by omega)
    ·exact⟨Dl l.length i (by omega),⟨Zr,⟨rfl,hs.ids _⟩,Zr,Zr,Tv⟩,Tv,Fh,Tv⟩
  ·intro h;have h:¬(i:Int)<(l.map AE).length:=h;have h:¬i<l.length:=by simpa using h
   rw[Jz fun j hj=>h2 j hj (by omega)];exact .refl _
theorem s86{fF:Nat}{caps:List AV}(hs:Fi caps)(l:List (Nd))(p:Nd→Bool)(hF:∀x∈l,PC fF ([.agg (A9 x)]++caps) (vb (p x)))(hl:l.length<9223372036854775807) :
  PC 88 [sl A9 l,.clo fF caps] (vi (Ks p l 0)):=by
 refine Ps E4 Tryz.func88 rfl (Nz rfl) ?_;refine Xi {i:Nat // i≤l.length∧∀j (hj:j<l.length),j<i→p l[j]=false} (Xi (fun i=>⟨[(0,sl A9 l),(1,.clo fF caps),(7,vi (l.map A9).length),(8,vi i.1)],[],Aa⟩) (Xi (fun i=>l.length-i.1) (Yi (Xi ⟨0,by simp⟩ ?_) ?_)))
 ·exact⟨⟨Zr,⟨rfl,hs.ids _⟩,Zr,Zr,Tv⟩,Tv,Fh,Tv⟩
 ·intro⟨i,h1,h2⟩;refine Yi ?_ ?_
  ·intro h;have h:(i:Int)<(l.map A9).length:=h;have h:i<l.length:=by simpa using h
   have hg:l[i]?=some l[i]:=Ge h;refine Xi (A9 l[i]) (Yi (Yi (Nn i) (by simp[hg])) (Yi rfl (Yi (Nz rfl) ?_)));have Eb:∀h,PC fF ([.agg (A9 l[i])]++caps.map (str0 h)) (vb (p l[i])):=fun h=>by rw[hs.map];exact hF l[i] (At _)
   cases hp:p l[i]with
   |true =>
    rw[hp]at Eb;refine Xi .pure (Xi (vb true) (Yi (Eb _) ?_));rw[NV h (fun j hj Je=>h2 j hj Je) hp,IQ];exact .refl _
   |false =>
    rw[hp]at Eb;refine Xi .pure (Xi (vb false) (Yi (Eb _) ?_));refine Yi (Ii i (by omega)) ?_;refine Xi ⟨i+1,by omega,fun j hj Je=>?_⟩ ?_
    ·by_cases e:j=i
     ·subst e;exact hp
     ·exact h2 j hj (by omega)
    ·exact⟨Dl l.length i (by omega),⟨Zr,⟨rfl,hs.ids _⟩,Zr,Zr,Tv⟩,Tv,Fh,Tv⟩
  ·intro h;have h:¬(i:Int)<(l.map A9).length:=h;have h:¬i<l.length:=by simpa using h
   rw[Jz fun j hj=>h2 j hj (by omega)];exact .refl _
theorem tf{fF:Nat}{caps:List AV}(hs:Fi caps)(l:List (Cd))(p:Cd→Bool)(hF:∀x∈l,PC fF ([.agg (AE x)]++caps) (vb (p x)))(hl:Cp l) :
  PC 171 [sl AE l,.clo fF caps] (vb (l.any p)):=by
 refine Ps E4 Tryz.func171 rfl (Nz rfl) ?_;have hi:=yB hs l p hF (by unfold Cp at hl;omega);have Eb:∀h,PC 206 [sl AE l,.clo fF (caps.map (str0 h))] (vi (Ks p l 0)):=fun h=>by rw[hs.map];exact hi
 refine Xi .pure (Xi _ (Yi (Eb _) ?_));have ha:=MN (p:=p) l 0 (BJ 0);refine Yi ?_ ?_
 ·intro h;have h:(0:Int)≤Ks p l 0:=h;rw[←ha,Ar h];exact .refl _
 ·intro h;have h:¬(0:Int)≤Ks p l 0:=h;rw[←ha,Ao h];exact .refl _
theorem th(l:List Cd)(hl:Cp l):A6 Tryz.prog 94 [sl AE l] (Ak [] Aa) fun r h'=>r=.slice (.id 2000 10) (l.map AE)∧h'=Ak [(2000,.tok 10 (l.map AE).length)] Aa:=by
 refine BW (Lg (xM 10)) [(2,2000)] rfl Cw hm rfl Tryz.func94 (by kernel_rfl) rfl (Nz rfl) (by kernel_rfl) rfl ?_;have Gv:CQ 10 (l.map AE)∧([]:List (List AV)).length=0∧(([]:List (List AV)).length+(l.map AE).length)*128≤140737488355328∧([]:List (List AV)).length+(l.map AE).length≤9223372036854775807:=by
  refine⟨Fz (enc:=AE) (n:=10) (fun _=>rfl) l,rfl,?_,?_⟩<;>simp only[AJ,Lm]<;>unfold Cp at hl<;>omega
 have e2:HO.tok 10 (([]:List (List AV)).length+(l.map AE).length)=.tok 10 (l.map AE).length:=by rw[AJ,Bl]
 have e3:AV.slice (.id 2000 10) ([]++l.map AE)=.slice (.id 2000 10) (l.map AE):=rfl;have full:∀st:St,(∃s:LS,St.le (Lg (xM 10)) st s∧True)→True:=fun _ _=>trivial;refine Xi 0 ?_;refine Xi 0 ?_;refine Yi ?_ ?_
 ·intro _;refine Xi ⟨[(0,sl AE l)],[],Aa⟩ (Yi ⟨Z1,Tv,Fh,AB (by kernel_rfl)⟩ ?_)
  refine Xi 2 ?_;refine Yi Gv ?_;exact Xi _ (Yi (.refl _) (Yi e3 (Ac (fun o=>Ak [(2000,o)] Aa) e2)))
 ·intro h;have h:l.map AE=[]:=h;refine Yi ?_ ?_
  ·refine Xi ⟨[],[],Aa⟩ (Yi ⟨trivial,trivial,fun _=>.inl rfl,AB (by kernel_rfl)⟩ ?_)
   refine Xi 0 ?_;exact Xi _ (Yi (.refl _) (Yi (show AV.slice (.id 2000 10) []=_ by rw[h]) (show Ak [(2000,HO.tok 10 0)] Aa=_ by rw[h];rfl)))
  ·refine Xi ⟨[(0,sl AE l)],[],Aa⟩ (Yi ⟨Z1,Tv,Fh,AB (by kernel_rfl)⟩ ?_)
   refine Xi 2 ?_;refine Yi Gv ?_;exact Xi _ (Yi (.refl _) (Yi e3 (Ac (fun o=>Ak [(2000,o)] Aa) e2)))
theorem Sa:∀{l:List Nf} {k:Nat} {kx:Value} {a:AV},(kx,a)∈D3 k l↔∃j i,l[j]?=some i∧kx=JB i∧a=vi ((k+j:Nat):Int)
 | [],k,kx,a=>by simp[D3]
 |y::l,k,kx,a=>by
  unfold D3;rw[AA,Sa];constructor
  ·rintro(h | ⟨j,i,h1,h2,h3⟩)
   ·cases h;exact⟨0,y,rfl,rfl,rfl⟩
   ·exact⟨j+1,i,h1,h2,by rw[h3,show k+1+j=k+(j+1) by omega]⟩
  ·rintro⟨j,i,h1,h2,h3⟩
   cases j with
   |zero=>cases h1;exact .inl (by rw[h2,h3];rfl)
   |succ j=>exact .inr ⟨j,i,h1,h2,by rw[h3,show k+1+j=k+(j+1) by omega]⟩
theorem Vu{a b:Nf}(h:JB a=JB b):a=b:=by
 obtain⟨a1,a2,a3,a4,a5,a6⟩:=a;obtain⟨b1,b2,b3,b4,b5,b6⟩:=b;unfold JB at h;simp at h;obtain⟨rfl,rfl,rfl,rfl,rfl,rfl⟩:=h
 rfl
theorem sA{l:List Nf}{i:Nf}{k:Nat}(h:LQ i 0 l=some k):(JB i,vi (k:Nat))∈D3 0 l:=by
 obtain⟨j,e,hj⟩:=M2 h;exact Sa.2 ⟨j,i,hj,rfl,by rw[e]⟩
theorem ld{l:List Nf}(hn:l.Nodup){i:Nf}{k:Nat}(h:LQ i 0 l=some k):∀b,(JB i,b)∈D3 0 l→b=vi (k:Nat):=fun b hb=>by
 obtain⟨j,e,hj⟩:=M2 h;obtain⟨j',i',h1,h2,h3⟩:=Sa.1 hb
 have:=Vu h2
 subst this;obtain⟨a1,a2⟩:=As.1 hj;obtain⟨b1,b2⟩:=As.1 h1
 have:j'=j:=(List.getElem_inj hn).1 (b2.trans a2.symm)
 subst this;rw[h3,e]
theorem mN{l:List Nf}{i:Nf}(h:LQ i 0 l=none):∀a,(JB i,a)∉D3 0 l:=fun a ha=>by
 obtain⟨j,i',h1,h2,_⟩:=Sa.1 ha
 have:=Vu h2
 subst this;exact Qq h (Av h1)
theorem aV:∀(l:List Nf) (k:Nat) (i:Nf),D3 k (l++[i])=D3 k l++[(JB i,vi ((k+l.length:Nat):Int))]
 | [],k,i=>by simp[D3]
 |y::l,k,i=>by
  show(JB y,_)::D3 (k+1) (l++[i])=_;rw[aV l (k+1) i];simp[D3,show k+1+l.length=k+(l.length+1) by omega]
theorem oU{l:List Nf}{i:Nf}(h:LQ i 0 l=none):E7 (D3 0 l) (JB i) (vi ((l.map BY).length:Int))=D3 0 (l++[i]):=by
 rw[Mm (mN h),aV,Lm,Bl]
theorem Xu{s:SS}{i:Nf}{l:List Tm}{k:Nat}(h:LQ i 0 s.infs=some k):Em s i l=(k,s):=by unfold Em;rw[h]
theorem UV{s:SS}{i:Nf}{l:List Tm}(h:LQ i 0 s.infs=none)(hf:65536≤s.infs.length):Em s i l=(s.infs.length-1,⟨s.infs,s.drv,true⟩):=by unfold Em;rw[h];exact Ap hf
theorem Xt{s:SS}{i:Nf}{l:List Tm}(h:LQ i 0 s.infs=none)(hf:¬65536≤s.infs.length):Em s i l=(s.infs.length,⟨s.infs++[i],s.drv++[l],s.full⟩):=by unfold Em;rw[h];exact Aj hf
section
variable {roots:List Rq}{C A:List (Value×AV)}{s s' : SS}{dec:List Cd}{st:List (List Sk)}{i:Nf}{l:List Tm}
theorem eQ{k:Nat}{z:Int}(e:Em s i l=(k,s'))(hz:z=k):vi z=vi ((Em s i l).1:Nat)∧Ak (Jh roots C A s' dec st) Aa=Ak (Jh roots C A (Em s i l).2 dec st) Aa:=by rw[e,hz];exact Zr
theorem qo(h:LQ i 0 s.infs=none):Ak [(1000,.cells [sl AF roots,.cmap CZ C,.cmap CZ A,.slice (.id 1001 6) (s.infs.map BY++[BY i]),.slice (.id 1002 1) (s.drv.map Cb++[Cb l]),.mref 1003,vb s.full,sl AE dec,sl Ad (AO dec),.msl 1004 st.length]),
      (1001,.tok 6 ((s.infs.map BY).length+[BY i].length)),(1002,.tok 1 ((s.drv.map Cb).length+[Cb l].length)),(1003,.map D0 (E7 (D3 0 s.infs) (JB i) (vi ((s.infs.map BY).length:Int)))),(1004,.arr 1 (st.map AX))] Aa=Ak (Jh roots C A ⟨s.infs++[i],s.drv++[l],s.full⟩ dec st) Aa:=by
  have e1:s.infs.map BY++[BY i]=(s.infs++[i]).map BY:=by simp
  have e2:s.drv.map Cb++[Cb l]=(s.drv++[l]).map Cb:=by simp
  have e3:(s.infs.map BY).length+[BY i].length=(s.infs++[i]).length:=by simp
  have e4:(s.drv.map Cb).length+[Cb l].length=(s.drv++[l]).length:=by simp
  rw[e1,e2,e3,e4,oU h]
end
theorem tg(c:Cd)(p:ByteArray):PC 172 [.agg (AE c),.cptr [vs p]] (vb (decide (c.rel.path=p))):=by
 refine Ps ⟨[2],[],[],[],[],[],[],[],[],[],[]⟩ Tryz.func172 rfl (Nz rfl) ?_;refine Yi (fun h1=>?_) (fun h1=>?_)
 ·have h1:(c.rel.path:ByteArray)=p:=h1;exact .of_eq (show vb true=vb (decide (c.rel.path=p)) by rw[Ar h1])
 have h1:¬(c.rel.path:ByteArray)=p:=h1;exact .of_eq (show vb false=vb (decide (c.rel.path=p)) by rw[Ao h1])
theorem te(t:Tm)(p:ByteArray):PC 126 [.agg (AH t),.cptr [vs p]] (vb (decide (t.path=p))):=by
 refine Ps ⟨[2],[],[],[],[],[],[],[],[],[],[]⟩ Tryz.func126 rfl (Nz rfl) ?_;refine Yi (fun h1=>?_) (fun h1=>?_)
 ·have h1:(t.path:ByteArray)=p:=h1;exact .of_eq (show vb true=vb (decide (t.path=p)) by rw[Ar h1])
 have h1:¬(t.path:ByteArray)=p:=h1;exact .of_eq (show vb false=vb (decide (t.path=p)) by rw[Ao h1])
theorem jQ(l:List Tm)(p:ByteArray)(hl:Cp l):PC 95 [sl AH l,vs p] (vb (De l p)):=by
 refine Ps ⟨[3],[],[],[],[],[],[],[],[],[],[]⟩ Tryz.func95 rfl (Nz rfl) ?_;refine BT (Bt (De l p)) (fun h1=>?_) (fun h1=>?_)
 ·have h1:(De l p)=true:=h1;refine Xi .pure (Xi _ (Yi (cb h1 (show PC 125 [sl AH l,.clo 126 [.cptr [vs p]]] (vb (De l p))from nB (fF:=126) (caps:=[.cptr [vs p]]) (fun c hc=>by obtain rfl:=Aq.1 hc;intro h;rfl) l (fun t=>decide (t.path=p)) (fun t _=>te t p) hl)) ?_));exact .of_eq (show vb true=vb (De l p) by rw[h1])
 have h1:(De l p)=false:=h1;refine Xi .pure (Xi _ (Yi (cb h1 (show PC 125 [sl AH l,.clo 126 [.cptr [vs p]]] (vb (De l p))from nB (fF:=126) (caps:=[.cptr [vs p]]) (fun c hc=>by obtain rfl:=Aq.1 hc;intro h;rfl) l (fun t=>decide (t.path=p)) (fun t _=>te t p) hl)) ?_));exact .of_eq (show vb false=vb (De l p) by rw[h1])
theorem td(roots:List Rq)(C A:List (Value×AV))(s:SS)(dec:List Cd)(st:List (List Sk))(p:ByteArray)(hl:Cp dec):A6 Tryz.prog 118 [.ref 1000 0,vs p] (Ak (Jh roots C A s dec st) Aa) fun r h'=>r=vb (Do dec p)∧h'=Ak (Jh roots C A s dec st) Aa:=by
 refine BW (Lg ⟨[3],[],[],[],[],[],[],[],[],[],[]⟩) [(1000,1000),(1001,1001),(1002,1002),(1003,1003),(1004,1004)] rfl Cw hm rfl Tryz.func118 (by kernel_rfl) rfl (Nz rfl) (by kernel_rfl) rfl ?_;refine BT (Bt (Do dec p)) (fun h1=>?_) (fun h1=>?_)
 ·have h1:(Do dec p)=true:=h1;refine Xi .pure (Xi _ (Yi (cb h1 (show PC 171 [sl AE dec,.clo 172 [.cptr [vs p]]] (vb (Do dec p))from tf (fF:=172) (caps:=[.cptr [vs p]]) (fun c hc=>by obtain rfl:=Aq.1 hc;intro h;rfl) dec (fun c=>decide (c.rel.path=p)) (fun c _=>tg c p) hl)) ?_));exact Xi _ (Yi (.refl _) (Yi (show vb true=vb (Do dec p) by rw[h1]) rfl))
 have h1:(Do dec p)=false:=h1;refine Xi .pure (Xi _ (Yi (cb h1 (show PC 171 [sl AE dec,.clo 172 [.cptr [vs p]]] (vb (Do dec p))from tf (fF:=172) (caps:=[.cptr [vs p]]) (fun c hc=>by obtain rfl:=Aq.1 hc;intro h;rfl) dec (fun c=>decide (c.rel.path=p)) (fun c _=>tg c p) hl)) ?_));exact Xi _ (Yi (.refl _) (Yi (show vb false=vb (Do dec p) by rw[h1]) rfl))
theorem lW(roots:List Rq)(C A:List (Value×AV))(s:SS)(dec:List Cd)(st:List (List Sk))(i:Nf)(l:List Tm)(k:Nat)(hk:LQ i 0 s.infs=some k)(RK:s.infs.Nodup):A6 Tryz.prog 121 [.ref 1000 0,.agg (BY i),sl AH l] (Ak (Jh roots C A s dec st) Aa) fun r h'=>r=vi ((Em s i l).1:Nat)∧h'=Ak (Jh roots C A (Em s i l).2 dec st) Aa:=by
 refine BW (Lg ⟨[4],[],[],[],[],[],[],[],[],[],[2,5,7,8,9,10,11]⟩) [(1000,1000),(1001,1001),(1002,1002),(1003,1003),(1004,1004)] rfl Cw hm rfl Tryz.func121 (by kernel_rfl) rfl (Nz rfl) (by kernel_rfl) rfl ?_;refine Yi (Nz rfl) ?_;refine Or.inl (Xi (vi (k:Nat)) (Yi (Yi (sA hk) (ld RK hk)) ?_));refine Yi (by kernel_rfl) ?_;refine Xi ⟨[(0,.ref 1000 0),(2,sl AH l),(4,.ref 4 0),(7,vi (k:Nat)),(8,vb true)],[(4,.ro (BY i)),(1000,.cells (srM roots C A s dec 1004 st.length)),(1001,.tok 6 s.infs.length),(1002,.tok 1 s.drv.length),(1003,.map D0 (D3 0 s.infs)),(1004,.arr 1 (st.map AX))],Aa⟩ (Yi ⟨Z5,Z6,Fh,AB (by kernel_rfl)⟩ ?_)
 exact Xi _ (Yi (.refl _) (eQ (Xu hk) rfl))
theorem lV(roots:List Rq)(C A:List (Value×AV))(s:SS)(dec:List Cd)(st:List (List Sk))(i:Nf)(l:List Tm)(hk:LQ i 0 s.infs=none)(hn:s.infs.length≤65536)(hdl:s.drv.length=s.infs.length):A6 Tryz.prog 121 [.ref 1000 0,.agg (BY i),sl AH l] (Ak (Jh roots C A s dec st) Aa) fun r h'=>r=vi ((Em s i l).1:Nat)∧h'=Ak (Jh roots C A (Em s i l).2 dec st) Aa:=by
 have hdn:s.drv.length≤65536:=by omega
 have zP:(s.infs.map BY).length=s.infs.length:=Lm _;refine BW (Lg ⟨[4],[],[],[],[],[],[],[],[],[],[2,5,7,8,9,10,11]⟩) [(1000,1000),(1001,1001),(1002,1002),(1003,1003),(1004,1004)] rfl Cw hm rfl Tryz.func121 (by kernel_rfl) rfl (Nz rfl) (by kernel_rfl) rfl ?_;refine Yi (Nz rfl) ?_;refine Or.inr (Yi (mN hk) ?_);refine Yi (by kernel_rfl) ?_;refine Xi ⟨[(0,.ref 1000 0),(2,sl AH l),(4,.ref 4 0),(7,vi 0),(8,vb false)],[(4,.ro (BY i)),(1000,.cells (srM roots C A s dec 1004 st.length)),(1001,.tok 6 s.infs.length),(1002,.tok 1 s.drv.length),(1003,.map D0 (D3 0 s.infs)),(1004,.arr 1 (st.map AX))],Aa⟩ (Yi ⟨Z5,Z6,Fh,AB (by kernel_rfl)⟩ ?_)
 refine Yi (fun h1=>?_) (fun h1=>?_)
 ·have h1:(65536:Int)≤((s.infs.map BY).length:Int):=h1;refine Xi ⟨[(0,.ref 1000 0)],[(1000,.cells (srM roots C A s dec 1004 st.length)),(1001,.tok 6 s.infs.length),(1002,.tok 1 s.drv.length),(1003,.map D0 (D3 0 s.infs)),(1004,.arr 1 (st.map AX))],Aa⟩ (Yi ⟨Z1,Z5,Fh,AB (by kernel_rfl)⟩ ?_)
  refine Yi (Nz rfl) ?_;refine Yi (by show Bi (((s.infs.map BY).length:Int)-(1:Int));unfold Bi;omega) ?_;exact Xi _ (Yi (.refl _) (eQ (UV hk (by have q:=h1;rw[Lm]at q;omega)) (by have q:=h1;rw[Lm]at q⊢;omega)))
 have h1:¬((65536:Int)≤((s.infs.map BY).length:Int)):=h1;refine Xi ⟨[(0,.ref 1000 0),(2,sl AH l),(4,.ref 4 0)],[(4,.ro (BY i)),(1000,.cells (srM roots C A s dec 1004 st.length)),(1001,.tok 6 s.infs.length),(1002,.tok 1 s.drv.length),(1003,.map D0 (D3 0 s.infs)),(1004,.arr 1 (st.map AX))],Aa⟩ (Yi ⟨Z3,Z6,Fh,AB (by kernel_rfl)⟩ ?_)
 refine Xi ⟨[(0,.ref 1000 0),(2,sl AH l),(4,.ref 4 0),(9,vi (s.infs.map BY).length)],[(4,.ro (BY i)),(1000,.cells (srM roots C A s dec 1004 st.length)),(1001,.tok 6 s.infs.length),(1002,.tok 1 s.drv.length),(1003,.map D0 (D3 0 s.infs)),(1004,.arr 1 (st.map AX))],Aa⟩ (Yi ⟨Z4,Z6,Fh,AB (by kernel_rfl)⟩ ?_)
 refine Yi (Nz rfl) ?_;refine Yi (by kernel_rfl) ?_;refine Xi ⟨[(0,.ref 1000 0),(2,sl AH l),(4,.ref 4 0),(9,vi (s.infs.map BY).length)],[(4,.ro (BY i)),(1000,.cells (srM roots C A s dec 1004 st.length)),(1001,.tok 6 s.infs.length),(1002,.tok 1 s.drv.length),(1003,.map D0 (E7 (D3 0 s.infs) (JB i) (vi (s.infs.map BY).length))),(1004,.arr 1 (st.map AX))],Aa⟩ (Yi ⟨Z4,Z6,Fh,AB (by kernel_rfl)⟩ ?_)
 refine Yi (Nz rfl) ?_;refine Yi (Zi rfl (by omega) (by decide)) ?_;refine Yi (Nz rfl) ?_;refine Yi (by kernel_rfl) ?_;refine Xi ⟨[(0,.ref 1000 0),(2,sl AH l),(9,vi (s.infs.map BY).length)],[(1000,.cells [sl AF roots,.cmap CZ C,.cmap CZ A,.slice (.id 1001 6) ((s.infs.map BY)++[(BY i)]),.slice (.id 1002 1) (s.drv.map Cb),.mref 1003,vb s.full,sl AE dec,sl Ad (AO dec),.msl 1004 st.length]),(1001,.tok 6 ((s.infs.map BY).length+([(BY i)]:List (List AV)).length)),(1002,.tok 1 s.drv.length),(1003,.map D0 (E7 (D3 0 s.infs) (JB i) (vi (s.infs.map BY).length))),(1004,.arr 1 (st.map AX))],Aa⟩ (Yi ⟨Z3,Z5,Fh,AB (by kernel_rfl)⟩ ?_)
 refine Yi (Zi rfl (by omega) (by decide)) ?_;refine Yi (Nz rfl) ?_;refine Xi ⟨[(9,vi (s.infs.map BY).length)],[(1000,.cells [sl AF roots,.cmap CZ C,.cmap CZ A,.slice (.id 1001 6) ((s.infs.map BY)++[(BY i)]),.slice (.id 1002 1) ((s.drv.map Cb)++[[sl AH l]]),.mref 1003,vb s.full,sl AE dec,sl Ad (AO dec),.msl 1004 st.length]),(1001,.tok 6 ((s.infs.map BY).length+([(BY i)]:List (List AV)).length)),(1002,.tok 1 ((s.drv.map Cb).length+([[sl AH l]]:List (List AV)).length)),(1003,.map D0 (E7 (D3 0 s.infs) (JB i) (vi (s.infs.map BY).length))),(1004,.arr 1 (st.map AX))],Aa⟩ (Yi ⟨Z1,Z5,Fh,AB (by kernel_rfl)⟩ ?_)
 have hq:=eQ (roots:=roots) (C:=C) (A:=A) (dec:=dec) (st:=st) (z:=((s.infs.map BY).length:Int)) (Xt (l:=l) hk (by have q:=h1;rw[Lm]at q;omega)) (by rw[Lm]);exact Xi _ (Yi (.refl _) (Yi hq.1 ((qo hk).trans hq.2)))
structure JO(x:List Rl)(roots:List Rq)(s:SS):Prop where
 der:FC x roots s
 nodup:s.infs.Nodup
abbrev m5(roots:List Rq)(C A:List (Value×AV))(dec:List Cd)(st:List (List Sk))(o:Nat×SS)(r:AV)(h' : Nat→HO):Prop:=r=vi (o.1:Nat)∧h'=Ak (Jh roots C A o.2 dec st) Aa
theorem lU(roots:List Rq)(C A:List (Value×AV))(s:SS)(dec:List Cd)(st:List (List Sk))(i:Nf)(l:List Tm)(hn:s.infs.length≤65536)(hdl:s.drv.length=s.infs.length)(RK:s.infs.Nodup) :
  A6 Tryz.prog 121 [.ref 1000 0,.agg (BY i),sl AH l] (Ak (Jh roots C A s dec st) Aa) (m5 roots C A dec st (Em s i l)):=by
 cases hk:LQ i 0 s.infs with
 |some k=>exact lW roots C A s dec st i l k hk RK
 |none=>exact lV roots C A s dec st i l hk hn hdl
abbrev Y7:I7:=[(1000,1000),(1001,1001),(1002,1002),(1003,1003),(1004,1004)]
theorem qY{h2:Nat→HO}{cs:List AV}{o1 o2 o3 o4:HO}(e0:h2 1000=.cells cs)(e1:h2 1001=o1)(e2:h2 1002=o2)(e3:h2 1003=o3)(e4:h2 1004=o4) :
  FM Y7 h2=Ak [(1000,.cells (cs.map (ren1 (Cq Y7) h2))),(1001,o1.ren (Cq Y7) h2),(1002,o2.ren (Cq Y7) h2),(1003,o3.ren (Cq Y7) h2),(1004,o4.ren (Cq Y7) h2)] Aa:=by
 unfold FM;simp only[W4];rw[e0,e1,e2,e3,e4];rfl
theorem cN{s:SS}{n:Nd}(h:n.path=mt):Em s ⟨0,mt,0,n.number,0,0⟩ (JH n.rq)=Bm s n:=by unfold Bm TB Jf;rw[Ap h,Ap h]
theorem gY{s:SS}{n:Nd}(h:¬n.path=mt):Em s ⟨1,n.path,n.place,n.number,0,0⟩ (Es n.path n.place n.rq)=Bm s n:=by unfold Bm TB Jf;rw[Aj h,Aj h]
abbrev Wy(d:List (List Tm))(S:List Sl):AV:=.tup [vi (((OJ d S).getD 0:Nat):Int),vb (OJ d S).isSome]
theorem XM{S:List Sl}:∀{l:List (List Tm)} {b i:Nat} {t:List Tm},l[i]?=some t→CG t S=true→(∀j u,j<i→l[j]?=some u→CG u S=false)→OI S b l=some (b+i)
 | [],_,_,_,h,_,_=>by simp at h
 |u::l,b,0,t,h,he,_=>by cases h;unfold OI;rw[Ap he];rfl
 |u::l,b,i+1,t,h,he,hn=>by
  unfold OI;rw[Aj (by rw[hn 0 u (by omega) rfl];decide),XM (i:=i) (by simpa using h) he (fun j v hj hv=>hn (j+1) v (by omega) (by simpa using hv))]
  congr 1;omega
theorem XN{S:List Sl}:∀{l:List (List Tm)} {b:Nat},(∀t∈l,CG t S=false)→OI S b l=none
 | [],_,_=>rfl
 |u::l,b,h=>by
  unfold OI;rw[Aj (by rw[h u (Ab ..)];decide)];exact XN fun t ht=>h t (Ai _ ht)
theorem yI(roots:List Rq)(C A:List (Value×AV))(s:SS)(dec:List Cd)(st:List (List Sk))(n:Nd)(hn:s.infs.length≤65536)(hdl:s.drv.length=s.infs.length)(RK:s.infs.Nodup)(hq:Cp n.rq.set)(hp:Bi (n.place+1)):A6 Tryz.prog 91 [.ref 1000 0,.agg (A9 n)] (Ak (Jh roots C A s dec st) Aa) fun r h'=>m5 roots C A dec st (Bm s n) r h':=by
 refine BW (Lg ⟨[3],[],[],[],[],[],[],[],[(15,5),(31,5)],[],[2,3]⟩) [(1000,1000),(1001,1001),(1002,1002),(1003,1003),(1004,1004)] rfl Cw hm rfl Tryz.func91 (by kernel_rfl) rfl (Nz rfl) (by kernel_rfl) rfl ?_;refine Yi (fun h1=>?_) (fun h1=>?_)
 ·have h1:(n.path:ByteArray)=⟨#[]⟩:=h1;refine Xi ⟨[(0,.ref 1000 0),(3,.ref 3 0)],[(3,.ro (A9 n)),(1000,.cells (srM roots C A s dec 1004 st.length)),(1001,.tok 6 s.infs.length),(1002,.tok 1 s.drv.length),(1003,.map D0 (D3 0 s.infs)),(1004,.arr 1 (st.map AX))],Aa⟩ (Yi ⟨Z2,Z6,Fh,AB (by kernel_rfl)⟩ ?_)
  refine Yi (Nz rfl) ?_;refine Xi _ (Yi (vw n.rq hq) ?_);refine Xi Y7 (Xi [(1000,.cells (srM roots C A s dec 1004 st.length)),(1001,.tok 6 s.infs.length),(1002,.tok 1 s.drv.length),(1003,.map D0 (D3 0 s.infs)),(1004,.arr 1 (st.map AX))] (Xi (Jh roots C A (Em s ⟨0,mt,0,n.number,0,0⟩ (JH n.rq)).2 dec st) (Xi [.ref 1000 0,.agg [vi 0,vs ⟨#[]⟩,vi 0,vi n.number,vi 0,vi 0],sl AH (JH n.rq)] (Xi (vi (((Em s ⟨0,mt,0,n.number,0,0⟩ (JH n.rq)).1:Nat):Int):AV) (Yi (fun h2 hh=>Yi ((qY (show h2 1000=.cells (srM roots C A s dec 1004 st.length)from hh 1000 (by decide)) (show h2 1001=.tok 6 s.infs.length from hh 1001 (by decide)) (show h2 1002=.tok 1 s.drv.length from hh 1002 (by decide)) (show h2 1003=.map D0 (D3 0 s.infs)from hh 1003 (by decide)) (show h2 1004=.arr 1 (st.map AX)from hh 1004 (by decide))).trans rfl) rfl) (Yi (by kernel_rfl) (Yi (lU roots C A s dec st ⟨0,mt,0,n.number,0,0⟩ (JH n.rq) hn hdl RK) ?_)))))));refine Yi (by kernel_rfl) ?_;have ei:=cN (s:=s) h1;exact Xi _ (Yi (.refl _) (Yi (show vi (((Em s ⟨0,mt,0,n.number,0,0⟩ (JH n.rq)).1:Nat):Int)=vi (((Bm s n).1:Nat):Int) by rw[ei]) (show Ak (Jh roots C A (Em s ⟨0,mt,0,n.number,0,0⟩ (JH n.rq)).2 dec st) Aa=Ak (Jh roots C A (Bm s n).2 dec st) Aa by rw[ei])))
 have h1:¬(n.path:ByteArray)=⟨#[]⟩:=h1;refine Xi ⟨[(0,.ref 1000 0),(3,.ref 3 0)],[(3,.ro (A9 n)),(1000,.cells (srM roots C A s dec 1004 st.length)),(1001,.tok 6 s.infs.length),(1002,.tok 1 s.drv.length),(1003,.map D0 (D3 0 s.infs)),(1004,.arr 1 (st.map AX))],Aa⟩ (Yi ⟨Z2,Z6,Fh,AB (by kernel_rfl)⟩ ?_)
 refine Yi (Nz rfl) ?_;refine Xi _ (Yi (vz n.path n.place n.rq hp hq) ?_);refine Xi Y7 (Xi [(1000,.cells (srM roots C A s dec 1004 st.length)),(1001,.tok 6 s.infs.length),(1002,.tok 1 s.drv.length),(1003,.map D0 (D3 0 s.infs)),(1004,.arr 1 (st.map AX))] (Xi (Jh roots C A (Em s ⟨1,n.path,n.place,n.number,0,0⟩ (Es n.path n.place n.rq)).2 dec st) (Xi [.ref 1000 0,.agg [vi 1,vs n.path,vi n.place,vi n.number,vi 0,vi 0],sl AH (Es n.path n.place n.rq)] (Xi (vi (((Em s ⟨1,n.path,n.place,n.number,0,0⟩ (Es n.path n.place n.rq)).1:Nat):Int):AV) (Yi (fun h2 hh=>Yi ((qY (show h2 1000=.cells (srM roots C A s dec 1004 st.length)from hh 1000 (by decide)) (show h2 1001=.tok 6 s.infs.length from hh 1001 (by decide)) (show h2 1002=.tok 1 s.drv.length from hh 1002 (by decide)) (show h2 1003=.map D0 (D3 0 s.infs)from hh 1003 (by decide)) (show h2 1004=.arr 1 (st.map AX)from hh 1004 (by decide))).trans rfl) rfl) (Yi (by kernel_rfl) (Yi (lU roots C A s dec st ⟨1,n.path,n.place,n.number,0,0⟩ (Es n.path n.place n.rq) hn hdl RK) ?_)))))));refine Yi (by kernel_rfl) ?_;have ei:=gY (s:=s) h1;exact Xi _ (Yi (.refl _) (Yi (show vi (((Em s ⟨1,n.path,n.place,n.number,0,0⟩ (Es n.path n.place n.rq)).1:Nat):Int)=vi (((Bm s n).1:Nat):Int) by rw[ei]) (show Ak (Jh roots C A (Em s ⟨1,n.path,n.place,n.number,0,0⟩ (Es n.path n.place n.rq)).2 dec st) Aa=Ak (Jh roots C A (Bm s n).2 dec st) Aa by rw[ei])))
theorem s89(roots:List Rq)(C A:List (Value×AV))(s:SS)(dec:List Cd)(st:List (List Sk))(S:List Sl)(hd:s.drv.length≤65536)(ht:∀t∈s.drv,eI t)(hS:Cp S):A6 Tryz.prog 92 [.ref 1000 0,sl Ad S] (Ak (Jh roots C A s dec st) Aa) fun r h'=>r=Wy s.drv S∧h'=Ak (Jh roots C A s dec st) Aa:=by
 refine BW (Lg ⟨[],[],[],[],[],[],[],[],[],[],[4,6]⟩) [(1000,1000),(1001,1001),(1002,1002),(1003,1003),(1004,1004)] rfl Cw hm rfl Tryz.func92 (by kernel_rfl) rfl (Nz rfl) (by kernel_rfl) rfl ?_;refine Xi {i:Nat // i≤s.drv.length∧∀j u,j<i→s.drv[j]?=some u→CG u S=false} (Xi (fun q=>⟨[(1,sl Ad S),(11,.slice (.id 1002 1) (s.drv.map Cb)),(12,vi (s.drv.map Cb).length),(13,vi q.1)],[(1000,.cells (srM roots C A s dec 1004 st.length)),(1001,.tok 6 s.infs.length),(1002,.tok 1 s.drv.length),(1003,.map D0 (D3 0 s.infs)),(1004,.arr 1 (st.map AX))],Aa⟩) (Xi (fun q=>s.drv.length-q.1) (Yi (Xi ⟨0,AD _,fun j u h=>absurd h (Gx j)⟩ ?_) ?_)))
 ·exact⟨Z4,Z5,Fh,AB (by kernel_rfl)⟩
 intro⟨i,i1,i2⟩;have i1:i≤s.drv.length:=i1;have i2:∀j u,j<i→s.drv[j]?=some u→CG u S=false:=i2;refine Yi (fun h1=>?_) (fun h1=>?_)
 ·have h1:(i:Int)<((s.drv.map Cb).length:Int):=h1;have n1:=JT h1;refine Xi (Cb s.drv[i]) (Yi (Ns n1) (Yi rfl ?_));refine Xi ⟨[(1,sl Ad S),(6,vi i),(7,sl AH s.drv[i]),(11,.slice (.id 1002 1) (s.drv.map Cb)),(12,vi (s.drv.map Cb).length),(13,vi i)],[(1000,.cells (srM roots C A s dec 1004 st.length)),(1001,.tok 6 s.infs.length),(1002,.tok 1 s.drv.length),(1003,.map D0 (D3 0 s.infs)),(1004,.arr 1 (st.map AX))],Aa⟩ (Yi ⟨Z6,Z5,Fh,AB (by kernel_rfl)⟩ ?_)
  refine BT (Bt (CG s.drv[i] S)) (fun h2=>?_) (fun h2=>?_)
  ·have h2:(CG s.drv[i] S)=true:=h2;refine Xi .pure (Xi _ (Yi (cb h2 (zh s.drv[i] S (ht _ (At _)) hS)) ?_));have eE:OJ s.drv S=some i:=by unfold OJ;rw[XM (Ge n1) h2 i2,Bl]
   exact Xi _ (Yi (.refl _) (Yi (show AV.tup [vi (i:Int),vb true]=Wy s.drv S by unfold Wy;rw[eE];rfl) rfl))
  have h2:(CG s.drv[i] S)=false:=h2;refine Xi .pure (Xi _ (Yi (cb h2 (zh s.drv[i] S (ht _ (At _)) hS)) ?_));refine Xi ⟨[(1,sl Ad S),(11,.slice (.id 1002 1) (s.drv.map Cb)),(12,vi (s.drv.map Cb).length),(13,vi i)],[(1000,.cells (srM roots C A s dec 1004 st.length)),(1001,.tok 6 s.infs.length),(1002,.tok 1 s.drv.length),(1003,.map D0 (D3 0 s.infs)),(1004,.arr 1 (st.map AX))],Aa⟩ (Yi ⟨Z4,Z5,Fh,AB (by kernel_rfl)⟩ ?_)
  refine Yi (Ii i (by omega)) ?_;refine Xi ⟨i+1,by omega,fun j u hj hu=>by
    by_cases e:j=i
    ·subst e;rw[Ge n1]at hu;cases hu;exact h2
    ·exact i2 j u (by omega) hu⟩ ?_
  exact⟨Dl s.drv.length i (by omega),Z4,Z5,Fh,AB (by kernel_rfl)⟩
 have h1:¬((i:Int)<((s.drv.map Cb).length:Int)):=h1;have n1:=JS h1;have eE:OJ s.drv S=none:=XN fun t ht=>by
  obtain⟨j,hj⟩:=B9.1 ht
  have:=(As.1 hj).1
  exact i2 j t (by have q:=h1;rw[Lm]at q;omega) hj
 exact Xi _ (Yi (.refl _) (Yi (show AV.tup [vi 0,vb false]=Wy s.drv S by unfold Wy;rw[eE];rfl) rfl))
def TS(l:List Cd)(q:Rq):Bool:=l.any fun d=>decide (d.rel.path=q.path)&&!has q.set d.place
theorem Vf{f:Rq→Nat→Nd}{P:Nd→Bool}:∀{l:List Rq} {b i:Nat} {q:Rq},l[i]?=some q→P (f q (b+i))=true→(∀k u,k<i→l[k]?=some u→P (f u (b+k))=false)→(Mo f b l).find? P=some (f q (b+i))
 | [],_,_,_,h,_,_=>by simp at h
 |u::l,b,0,q,h,he,_=>by
  cases h
  unfold Mo;rw[E0,show P (f u b)=true from he];rfl
 |u::l,b,i+1,q,h,he,hn=>by
  unfold Mo;have h0:P (f u b)=false:=hn 0 u (by omega) rfl;rw[E0,h0]
  have:=Vf (f:=f) (P:=P) (l:=l) (b:=b+1) (i:=i) (q:=q) (by simpa using h) (by rw[show b+1+i=b+(i+1) by omega];exact he) (fun k v hk hv=>by
   rw[show b+1+k=b+(k+1) by omega];exact hn (k+1) v (by omega) (by simpa using hv))
  rw[show b+1+i=b+(i+1) by omega]at this;exact this
theorem OR{f:Rq→Nat→Nd}{P:Nd→Bool}:∀{l:List Rq} {b:Nat},(∀k u,l[k]?=some u→P (f u (b+k))=false)→(Mo f b l).find? P=none
 | [],_,_=>rfl
 |u::l,b,h=>by
  unfold Mo;have h0:P (f u b)=false:=h 0 u rfl;rw[E0,h0];exact OR fun k v hv=>by rw[show b+1+k=b+(k+1) by omega];exact h (k+1) v (by simpa using hv)
def zNd:AV:=.agg [vs ⟨#[]⟩,.v (.slice none 0 0),vs ⟨#[]⟩,vi 0,vi 0]
def nP(o:Option Nd):AV:=match o with | some n=>.tup [.agg (A9 n),vb true] | none=>.tup [zNd,vb false]
section
variable {dec:List Cd}{c:Cd}{i:Nat}
theorem fp(hi:i<c.rel.reqs.length)(hn:∀k q,k<i→c.rel.reqs[k]?=some q→TS (dec++[c]) q=false){j:Nat}(hj:j<(dec++[c]).length)(h1:(dec++[c])[j].rel.path=c.rel.reqs[i].path)(h2:has c.rel.reqs[i].set (dec++[c])[j].place=false) :
  Ek dec c=some ⟨c.rel.reqs[i],c.rel.path,c.place,(i:Nat)⟩:=by
 have:=Vf (f:=fun q i=>⟨q,c.rel.path,c.place,(i:Nat)⟩) (P:=bf (dec++[c])) (l:=c.rel.reqs) (b:=0) (i:=i) (q:=c.rel.reqs[i]) (Ge hi)
  (Bc.2 ⟨_,At hj,by rw[Ar h1,h2];rfl⟩) (fun k u hk hu=>hn k u hk hu)
 unfold Ek Qt;rw[this,Bl]
theorem fq(hn:∀(k:Nat) (q:Rq),c.rel.reqs[k]?=some q→TS (dec++[c]) q=false):Ek dec c=none:=by
 unfold Ek Qt;exact OR fun k u hu=>hn k u hu
theorem il{q:Rq}(h:∀(m:Nat) (d:Cd),(dec++[c])[m]?=some d→(decide (d.rel.path=q.path)&&!has q.set d.place)=false):TS (dec++[c]) q=false:=by
 unfold TS;rw[FD];intro d hd;obtain⟨m,hm⟩:=B9.1 hd;rw[h m d hm];decide
end
theorem s87(n:Nd)(c:Cd)(hq:Cp n.rq.set):PC 89 [.agg (A9 n),.cptr (AE c)] (vb (!has n.rq.set c.place)):=by
 refine Ps ⟨[2],[],[],[],[],[],[],[],[],[],[]⟩ Tryz.func89 rfl (Nz rfl) ?_;refine BT (Bt (has n.rq.set c.place)) (fun h1=>?_) (fun h1=>?_)
 ·have h1:(has n.rq.set c.place)=true:=h1;refine Xi .pure (Xi _ (Yi (cb h1 (qN n.rq.set c.place hq)) ?_));exact .of_eq (show vb false=vb (!has n.rq.set c.place) by rw[h1];rfl)
 have h1:(has n.rq.set c.place)=false:=h1;refine Xi .pure (Xi _ (Yi (cb h1 (qN n.rq.set c.place hq)) ?_));exact .of_eq (show vb true=vb (!has n.rq.set c.place) by rw[h1];rfl)
theorem s69(roots:List Rq)(C A:List (Value×AV))(s:SS)(dec:List Cd)(st:List (List Sk))(c:Cd)(hd:dec.length≤1073741823)(hr:c.rel.reqs.length≤1073741824)(hq:∀q∈c.rel.reqs,Cp q.set):A6 Tryz.prog 93 [.ref 1000 0,.agg (AE c)] (Ak (Jh roots C A s dec st) Aa) fun r h'=>r=nP (Ek dec c)∧h'=Ak (Jh roots C A s dec st) Aa:=by
 have hd:dec.length≤1073741823:=hd;have hdl:(dec++[c]).length=dec.length+1:=by simp
 refine BW (Lg ⟨[3],[],[],[],[],[],[],[],[(23,3)],[],[4,8,9]⟩) [(1000,1000),(1001,1001),(1002,1002),(1003,1003),(1004,1004)] rfl Cw hm rfl Tryz.func93 (by kernel_rfl) rfl (Nz rfl) (by kernel_rfl) rfl ?_;refine Xi {i:Nat // i≤c.rel.reqs.length∧∀k q,k<i→c.rel.reqs[k]?=some q→TS (dec++[c]) q=false} (Xi (fun q=>⟨[(0,.ref 1000 0),(3,.ref 3 0),(4,.ref 4 0),(12,sl AF c.rel.reqs),(13,vi (c.rel.reqs.map AF).length),(14,vi q.1)],[(3,.ro (AE c)),(4,.cells [vs ⟨#[]⟩,.v (.slice none 0 0),vs ⟨#[]⟩,vi 0,vi 0]),(1000,.cells (srM roots C A s dec 1004 st.length)),(1001,.tok 6 s.infs.length),(1002,.tok 1 s.drv.length),(1003,.map D0 (D3 0 s.infs)),(1004,.arr 1 (st.map AX))],Aa⟩) (Xi (fun q=>c.rel.reqs.length-q.1) (Yi (Xi ⟨0,AD _,fun k q h=>absurd h (Gx k)⟩ ?_) ?_)))
 ·exact⟨Z6,Z7,Fh,AB (by kernel_rfl)⟩
 intro⟨i,i1,i2⟩;have i1:i≤c.rel.reqs.length:=i1;have i2:∀k q,k<i→c.rel.reqs[k]?=some q→TS (dec++[c]) q=false:=i2;refine Yi (fun h1=>?_) (fun h1=>?_)
 ·have h1:(i:Int)<((c.rel.reqs.map AF).length:Int):=h1;have n1:=JT h1;refine Xi (AF c.rel.reqs[i]) (Yi (Ns n1) (Yi rfl ?_));refine Yi (Nz rfl) ?_;refine Yi (Nz rfl) ?_;refine Xi ⟨[(0,.ref 1000 0),(3,.ref 3 0),(4,.ref 4 0),(6,vi i),(7,.ref 7 0),(12,sl AF c.rel.reqs),(13,vi (c.rel.reqs.map AF).length),(14,vi i)],[(3,.ro (AE c)),(4,.cells [vs ⟨#[]⟩,.v (.slice none 0 0),vs ⟨#[]⟩,vi 0,vi 0]),(7,.cells (AF c.rel.reqs[i])),(1000,.cells (srM roots C A s dec 1004 st.length)),(1001,.tok 6 s.infs.length),(1002,.tok 1 s.drv.length),(1003,.map D0 (D3 0 s.infs)),(1004,.arr 1 (st.map AX))],Aa⟩ (Yi ⟨Z8,Z8,Fh,AB (by kernel_rfl)⟩ ?_)
  refine Xi _ (Xi _ (Yi (by kernel_rfl) (Yi (th dec (Bx hd (by decide))) ?_)));refine Yi (Nz rfl) ?_;have b2:CQ 10 [(AE c)]∧(dec.map AE).length=(dec.map AE).length∧((dec.map AE).length+([(AE c)]:List (List AV)).length)*128≤140737488355328∧(dec.map AE).length+([(AE c)]:List (List AV)).length≤9223372036854775807:=⟨⟨rfl,trivial⟩,rfl,(by simp only[Lm,Az,AJ];omega),(by simp only[Lm,Az,AJ];omega)⟩;refine Yi b2 ?_;refine Yi (by kernel_rfl) ?_;refine Xi {j:Nat // j≤(dec++[c]).length∧∀m d,m<j→(dec++[c])[m]?=some d→(decide (d.rel.path=c.rel.reqs[i].path)&&!has c.rel.reqs[i].set d.place)=false} (Xi (fun q=>⟨[(0,.ref 1000 0),(3,.ref 3 0),(4,.ref 4 0),(6,vi i),(7,.ref 7 0),(12,sl AF c.rel.reqs),(13,vi (c.rel.reqs.map AF).length),(14,vi i),(26,.slice (.id 12300 10) ((dec++[c]).map AE)),(27,vi ((dec++[c]).map AE).length),(28,vi q.1)],[(3,.ro (AE c)),(4,.cells [vs ⟨#[]⟩,.v (.slice none 0 0),vs ⟨#[]⟩,vi 0,vi 0]),(7,.cells (AF c.rel.reqs[i])),(1000,.cells (srM roots C A s dec 1004 st.length)),(1001,.tok 6 s.infs.length),(1002,.tok 1 s.drv.length),(1003,.map D0 (D3 0 s.infs)),(1004,.arr 1 (st.map AX)),(12300,.tok 10 ((dec++[c]).map AE).length)],Aa⟩) (Xi (fun q=>(dec++[c]).length-q.1) (Yi (Xi ⟨0,AD _,fun k q h=>absurd h (Gx k)⟩ ?_) ?_)))
  ·exact⟨⟨Zr,Zr,Zr,Zr,Zr,Zr,Zr,Zr,⟨tkA,rfl⟩,⟨(show vi ((dec.map AE++[AE c]:List (List AV)).length:Int)=vi (((dec++[c]).map AE).length:Int) by rw[Ay];rfl),rfl⟩,Zr,Tv⟩,⟨Zr,Zr,Zr,Zr,Zr,Zr,Zr,Zr,⟨(show HO.tok 10 ((dec.map AE).length+[AE c].length)=.tok 10 ((dec++[c]).map AE).length by simp),rfl⟩,Tv⟩,Fh,AB (by kernel_rfl)⟩
  intro⟨j,j1,j2⟩;have j1:j≤(dec++[c]).length:=j1;have j2:∀m d,m<j→(dec++[c])[m]?=some d→(decide (d.rel.path=c.rel.reqs[i].path)&&!has c.rel.reqs[i].set d.place)=false:=j2;refine Yi (fun h3=>?_) (fun h3=>?_)
  ·have h3:(j:Int)<(((dec++[c]).map AE).length:Int):=h3;have n3:=JT h3;refine Xi (AE ((dec++[c])[j])) (Yi (Ns n3) (Yi rfl ?_));refine Yi (Nz rfl) ?_;refine Yi (Nz rfl) ?_;refine Yi (fun h4=>?_) (fun h4=>?_)
   ·have h4:(((dec++[c])[j]).rel.path:ByteArray)=c.rel.reqs[i].path:=h4;refine BT (Bt (has c.rel.reqs[i].set (dec++[c])[j].place)) (fun h5=>?_) (fun h5=>?_)
    ·have h5:(has c.rel.reqs[i].set (dec++[c])[j].place)=true:=h5;refine Xi .pure (Xi _ (Yi (cb h5 (qN c.rel.reqs[i].set (dec++[c])[j].place (hq _ (At _)))) ?_));refine Xi ⟨[(0,.ref 1000 0),(3,.ref 3 0),(4,.ref 4 0),(6,vi i),(7,.ref 7 0),(12,sl AF c.rel.reqs),(13,vi (c.rel.reqs.map AF).length),(14,vi i),(26,.slice (.id 12300 10) ((dec++[c]).map AE)),(27,vi ((dec++[c]).map AE).length),(28,vi j)],[(3,.ro (AE c)),(4,.cells [vs ⟨#[]⟩,.v (.slice none 0 0),vs ⟨#[]⟩,vi 0,vi 0]),(7,.cells (AF c.rel.reqs[i])),(1000,.cells (srM roots C A s dec 1004 st.length)),(1001,.tok 6 s.infs.length),(1002,.tok 1 s.drv.length),(1003,.map D0 (D3 0 s.infs)),(1004,.arr 1 (st.map AX)),(12300,.tok 10 ((dec++[c]).map AE).length)],Aa⟩ (Yi ⟨Z11,Z9,Fh,AB (by kernel_rfl)⟩ ?_)
     refine Yi (Ii j (by omega)) ?_;refine Xi ⟨j+1,by omega,fun m d hm hd=>by
       by_cases e:m=j
       ·subst e;rw[Ge n3]at hd;cases hd;exact by rw[h5];simp
       ·exact j2 m d (by omega) hd⟩ ?_
     exact⟨by show(dec++[c]).length-(j+1)<(dec++[c]).length-j;omega,Z11,Z9,Fh,AB (by kernel_rfl)⟩
    have h5:(has c.rel.reqs[i].set (dec++[c])[j].place)=false:=h5;refine Xi .pure (Xi _ (Yi (cb h5 (qN c.rel.reqs[i].set (dec++[c])[j].place (hq _ (At _)))) ?_));refine Xi ⟨[(3,.ref 3 0),(4,.ref 4 0),(6,vi i),(7,.ref 7 0)],[(3,.ro (AE c)),(4,.cells [vs ⟨#[]⟩,.v (.slice none 0 0),vs ⟨#[]⟩,vi 0,vi 0]),(7,.cells (AF c.rel.reqs[i])),(1000,.cells (srM roots C A s dec 1004 st.length)),(1001,.tok 6 s.infs.length),(1002,.tok 1 s.drv.length),(1003,.map D0 (D3 0 s.infs)),(1004,.arr 1 (st.map AX))],Aa⟩ (Yi ⟨Z4,Z8,Fh,AB (by kernel_rfl)⟩ ?_)
    refine Yi (Nz rfl) ?_;refine Yi (Nz rfl) ?_;refine Yi (Nz rfl) ?_;have eC:=fp (dec:=dec) (c:=c) n1 i2 n3 h4 h5;exact Xi _ (Yi (.refl _) (Yi (show AV.tup [.agg (A9 ⟨c.rel.reqs[i],c.rel.path,c.place,(i:Nat)⟩),vb true]=nP (Ek dec c) by rw[eC];rfl) rfl))
   have h4:¬(((dec++[c])[j]).rel.path:ByteArray)=c.rel.reqs[i].path:=h4;refine Xi ⟨[(0,.ref 1000 0),(3,.ref 3 0),(4,.ref 4 0),(6,vi i),(7,.ref 7 0),(12,sl AF c.rel.reqs),(13,vi (c.rel.reqs.map AF).length),(14,vi i),(26,.slice (.id 12300 10) ((dec++[c]).map AE)),(27,vi ((dec++[c]).map AE).length),(28,vi j)],[(3,.ro (AE c)),(4,.cells [vs ⟨#[]⟩,.v (.slice none 0 0),vs ⟨#[]⟩,vi 0,vi 0]),(7,.cells (AF c.rel.reqs[i])),(1000,.cells (srM roots C A s dec 1004 st.length)),(1001,.tok 6 s.infs.length),(1002,.tok 1 s.drv.length),(1003,.map D0 (D3 0 s.infs)),(1004,.arr 1 (st.map AX)),(12300,.tok 10 ((dec++[c]).map AE).length)],Aa⟩ (Yi ⟨Z11,Z9,Fh,AB (by kernel_rfl)⟩ ?_)
   refine Yi (Ii j (by omega)) ?_;refine Xi ⟨j+1,by omega,fun m d hm hd=>by
     by_cases e:m=j
     ·subst e;rw[Ge n3]at hd;cases hd;exact by rw[Ao h4];rfl
     ·exact j2 m d (by omega) hd⟩ ?_
   exact⟨by show(dec++[c]).length-(j+1)<(dec++[c]).length-j;omega,Z11,Z9,Fh,AB (by kernel_rfl)⟩
  have h3:¬((j:Int)<(((dec++[c]).map AE).length:Int)):=h3;have n3:=JS h3;refine Yi (Ii i (by omega)) ?_;have hmq:TS (dec++[c]) c.rel.reqs[i]=false:=il fun m d hd=>j2 m d (by have:=(As.1 hd).1;have q:=h3;rw[Lm]at q;omega) hd;refine Xi ⟨i+1,by omega,fun k q hk xk=>by
    by_cases e:k=i
    ·subst e;rw[Ge n1]at xk;cases xk;exact hmq
    ·exact i2 k q (by omega) xk⟩ ?_
  exact⟨Dl c.rel.reqs.length i (by omega),Z6,Z7,Fh,AB (by kernel_rfl)⟩
 have h1:¬((i:Int)<((c.rel.reqs.map AF).length:Int)):=h1;have n1:=JS h1;refine Yi (Nz rfl) ?_;refine Yi (Nz rfl) ?_;have eC:=fq (dec:=dec) (c:=c) fun k q hk=>i2 k q (by have:=(As.1 hk).1;have q:=h1;rw[Lm]at q;omega) hk;exact Xi _ (Yi (.refl _) (Yi (show AV.tup [zNd,vb false]=nP (Ek dec c) by rw[eC];rfl) rfl))
theorem OH{x:List Rl}{roots:List Rq}{l0:List Nf}:∀{l:List Nf} {d d' : List (List Tm)},(∀i∈l,i∈l0)→(∀t∈d,UR (Kp x roots l0) t)→Dn x roots l d=some d'→∀t∈d',UR (Kp x roots l0) t
 | [],d,d',_,hd,h=>by cases h;exact hd
 |i::l,d,d',hl,hd,h=>by
  unfold Dn at h;cases hi:DW x roots d i with
  |none=>rw[hi]at h;cases h
  |some t =>
   rw[hi]at h;refine OH (fun j hj=>hl j (Ai _ hj)) (fun u hu=>?_) h;rcases A1.1 hu with hu | hu
   ·exact hd u hu
   ·rw[Aq.1 hu];exact cO (hl i (Ab ..)) hd hi
section
variable {x:List Rl}{roots:List Rq}{s:SS}
theorem FC.few(hx:AQ x=0)(hr:Bp roots=0)(h:FC x roots s):∀t∈s.drv,m7 t:=fun t ht =>
 (OH (l0:=s.infs) (fun _ h=>h) (fun _ h=>by cases h) h.der t ht).fewI (ab hx hr h.len)
theorem Ij{i:Nf}{l:List Tm}(h:s.infs.Nodup):(Em s i l).2.infs.Nodup:=by
 cases hk:LQ i 0 s.infs with
 |some k=>rw[Xu hk];exact h
 |none =>
  by_cases hf:65536≤s.infs.length
  ·rw[UV hk hf];exact h
  ·rw[Xt hk hf];show(s.infs++[i]).Nodup;rw[GB];refine⟨h,by simp,fun a ha b hb e=>?_⟩;rw[Aq.1 hb]at e;exact Qq hk (e▸ha)
theorem JO.add(h:JO x roots s){i:Nf}{l:List Tm}(hi:DW x roots s.drv i=some l):JO x roots (Em s i l).2∧(Em s i l).1<(Em s i l).2.drv.length∧s.drv.length≤(Em s i l).2.drv.length :=
 ⟨⟨(Kz h.der hi).1,Ij h.nodup⟩,(Kz h.der hi).2.1,(KA s i l).len⟩
theorem JO.dl(h:JO x roots s):s.infs.length≤65536∧s.drv.length=s.infs.length∧s.drv.length≤65536:=by
 have h1:=h.der.dlen;have h2:=h.der.len;exact⟨h2,h1,by omega⟩
theorem iy(hx:AQ x=0)(p:ByteArray):∀d,DW x roots d ⟨2,p,0,0,0,0⟩=some (Ig p (B8 x p)):=fun d=>by
 obtain⟨u,u0,u1,hu⟩:=bG hx p;have hV:Gm []:=fun _ h=>by cases h
 have ou:Xp [] p (Ko [] p (PH u)):=.ver hV (Fb ⟨u0,u1⟩);have h1:Bf [(⟨p,false,Et (B8 x p)⟩:Tm)] (Ko [] p (PH u))=true:=by
  rw[BE];intro t ht;rw[Aq.1 ht];show Ds _ (B4 (Ko [] p (PH u)) p)=true;rw[Is rfl];show(Cr (PH u)&&has (Et (B8 x p)) (place (PH u)))=true;rw[Fb ⟨u0,u1⟩,Hi,FS,hu];unfold LO;simp[u0,u1]
 have h2:Bf [(⟨p,false,Et (B8 x p)⟩:Tm)] []=false:=rfl;have DF:Ig p (B8 x p)≠[]:=by
  have c1:=Dc (l:=[(⟨p,false,Et (B8 x p)⟩:Tm)]) ou.val;have c2:=Dc (l:=[(⟨p,false,Et (B8 x p)⟩:Tm)]) hV;rw[h1]at c1;rw[h2]at c2;unfold Ig Qo;cases hc:CR [(⟨p,false,Et (B8 x p)⟩:Tm)]with
  |none=>rw[hc]at c1;cases c1
  |some c =>
   rw[hc]at c2;intro e;have e:c=[]:=e;rw[e]at c2;cases c2
 unfold DW;rw[Aj (show ¬((2:Int)=0) by decide),Aj (show ¬((2:Int)=1) by decide),Ap rfl,Ap ⟨rfl,rfl,rfl,rfl⟩];unfold c9;rw[Aj (by rw[F4];exact DF)]
theorem Fc{k:Nat}(h:k<s.drv.length):s.drv[k]?=some (DP s k):=by
 unfold DP;rw[BX,Ge h];rfl
theorem TM{p:ByteArray}{L:List Nat}{j k:Nat}(hj:j<L.length)(h:s.full=true∨De (DP s k) p=false):Ci p (L.drop j) k s=(k,s):=by
 rw[A7 hj];unfold Ci;rw[Ap h]
theorem ZQ{p:ByteArray}{L:List Nat}{j k:Nat}(hj:j<L.length)(h1:¬(s.full=true∨De (DP s k) p=false))(h:L[j]=k):Ci p (L.drop j) k s=Ci p (L.drop (j+1)) k s:=by
 rw[A7 hj]
 conv=>lhs;unfold Ci
 rw[Aj h1,Ap h]
theorem cW{p:ByteArray}{L:List Nat}{j k:Nat}(hj:j<L.length)(h1:¬(s.full=true∨De (DP s k) p=false))(h2:¬L[j]=k)(h:(Bz (DP s k) (DP s L[j]) p).2≠0):Ci p (L.drop j) k s=Ci p (L.drop (j+1)) k s:=by
 rw[A7 hj]
 conv=>lhs;unfold Ci
 rw[Aj h1,Aj h2,Ap h]
theorem cV{p:ByteArray}{L:List Nat}{j k:Nat}(hj:j<L.length)(h1:¬(s.full=true∨De (DP s k) p=false))(h2:¬L[j]=k)(h:(Bz (DP s k) (DP s L[j]) p).2=0) :
  Ci p (L.drop j) k s=Ci p (L.drop (j+1)) (Em s ⟨3,p,0,0,(k:Nat),(L[j]:Nat)⟩ (Bz (DP s k) (DP s L[j]) p).1).1 (Em s ⟨3,p,0,0,(k:Nat),(L[j]:Nat)⟩ (Bz (DP s k) (DP s L[j]) p).1).2:=by
 rw[A7 hj]
 conv=>lhs;unfold Ci
 rw[Aj h1,Aj h2,Aj (fun h3=>h3 h)]
end
theorem Fl{t:List Tm}(h:m7 t):Cp t:=by have:=h.1;unfold Cp;omega
theorem s91(x:List Rl)(roots:List Rq)(C A:List (Value×AV))(s:SS)(dec:List Cd)(st:List (List Sk))(p:ByteArray)(n:Nd)(rs:List Nat)(V:AV)(hx:AQ x=0)(hr:Bp roots=0)(hs:JO x roots s)(ov:∀d,DW x roots d (TB n)=some (Jf n))(un:∀r∈rs,r<s.drv.length)(WP:rs.length≤1073741823)(hnq:Cp n.rq.set)(hnp:Bi (n.place+1))
  (ri:∀a,(Value.string p,a)∈A→a=V) (rj:(∀a,(Value.string p,a)∉A)→V=.v (.slice none 0 0)) (rk:∀h,PC 127 [vs p,str h V] (sl AH (Ig p (B8 x p)))):A6 Tryz.prog 96 [.ref 1000 0,vs p,.agg (A9 n),sl BP rs] (Ak (Jh roots C A s dec st) Aa) fun r h'=>m5 roots C A dec st (Ec x p n rs s) r h':=by
 have hw:=hs.dl;obtain⟨oK,wX,RY⟩:=hs.add (ov s.drv)
 change JO x roots (Bm s n).2 at oK
 change (Bm s n).1<(Bm s n).2.drv.length at wX
 change s.drv.length≤(Bm s n).2.drv.length at RY
 have K4:=oK.dl;obtain⟨kS,Ia,gE⟩:=oK.add (iy hx p (Bm s n).2.drv)
 change JO x roots (Eu x p (Bm s n).2).2 at kS
 change (Eu x p (Bm s n).2).1<(Eu x p (Bm s n).2).2.drv.length at Ia
 change (Bm s n).2.drv.length≤(Eu x p (Bm s n).2).2.drv.length at gE
 obtain⟨L,hL⟩:∃L,L=(Eu x p (Bm s n).2).1::rs:=⟨_,rfl⟩;have hLr:∀r∈L,r<(Eu x p (Bm s n).2).2.drv.length:=fun r oF=>by
  rw[hL]at oF;rcases AA.1 oF with rfl | h
  ·exact Ia
  ·have:=un r h;omega
 have zq:L.length=rs.length+1:=by rw[hL];rfl
 have wX:(Bm s n).1<(Eu x p (Bm s n).2).2.drv.length:=by omega
 refine BW (Lg ⟨[6],[],[],[],[],[],[],[],[],[],[2,3,7,8,10,12]⟩) [(1000,1000),(1001,1001),(1002,1002),(1003,1003),(1004,1004)] rfl Cw hm rfl Tryz.func96 (by kernel_rfl) rfl (Nz rfl) (by kernel_rfl) rfl ?_;refine Yi (Nz rfl) ?_;refine Xi (.gen Y7 0) (Yi rfl (A6.imp (yI roots C A s dec st n hw.1 hw.2.1 hs.nodup hnq hnp) ?_));intro v1 g1 q1;have lO:=q1.1;have lP:=q1.2;subst lO;subst lP;refine Xi ⟨[(0,.ref 1000 0),(1,vs p),(3,sl BP rs),(9,vi (((Bm s n).1:Nat):Int))],[(1000,.cells [sl AF roots,.cmap CZ C,.cmap CZ A,.slice (.id 1001 6) ((Bm s n).2.infs.map BY),.slice (.id 1002 1) ((Bm s n).2.drv.map Cb),.mref 1003,vb (Bm s n).2.full,sl AE dec,sl Ad (AO dec),.msl 1004 st.length]),(1001,.tok 6 (Bm s n).2.infs.length),(1002,.tok 1 (Bm s n).2.drv.length),(1003,.map D0 (D3 0 (Bm s n).2.infs)),(1004,.arr 1 (st.map AX))],Aa⟩ (Yi ⟨Z4,Z5,Fh,AB (by kernel_rfl)⟩ ?_)
 refine OX V (.v (.slice none 0 0)) ri rj (fun h=>h) ?_;refine Xi .pure (Xi _ (Yi (rk _) ?_));refine Xi (.gen Y7 0) (Yi rfl (A6.imp (lU roots C A (Bm s n).2 dec st ⟨2,p,0,0,0,0⟩ (Ig p (B8 x p)) K4.1 K4.2.1 oK.nodup) ?_));intro v2 g2 q2;have x6:=q2.1;have x7:=q2.2;subst x6;subst x7;refine Xi ⟨[(0,.ref 1000 0),(1,vs p),(3,sl BP rs),(9,vi (((Bm s n).1:Nat):Int)),(10,vi (((Eu x p (Bm s n).2).1:Nat):Int))],[(1000,.cells [sl AF roots,.cmap CZ C,.cmap CZ A,.slice (.id 1001 6) ((Eu x p (Bm s n).2).2.infs.map BY),.slice (.id 1002 1) ((Eu x p (Bm s n).2).2.drv.map Cb),.mref 1003,vb (Eu x p (Bm s n).2).2.full,sl AE dec,sl Ad (AO dec),.msl 1004 st.length]),(1001,.tok 6 (Eu x p (Bm s n).2).2.infs.length),(1002,.tok 1 (Eu x p (Bm s n).2).2.drv.length),(1003,.map D0 (D3 0 (Eu x p (Bm s n).2).2.infs)),(1004,.arr 1 (st.map AX))],Aa⟩ (Yi ⟨Z5,Z5,Fh,AB (by kernel_rfl)⟩ ?_)
 have b3:CQ 1 (rs.map BP)∧([[vi (((Eu x p (Bm s n).2).1:Nat):Int)]]:List (List AV)).length=1∧(([[vi (((Eu x p (Bm s n).2).1:Nat):Int)]]:List (List AV)).length+(rs.map BP).length)*8≤140737488355328∧([[vi (((Eu x p (Bm s n).2).1:Nat):Int)]]:List (List AV)).length+(rs.map BP).length≤9223372036854775807:=⟨(Fz (enc:=BP) (n:=1) (fun _=>rfl) rs),(by first | (simp;done) | (rw[Lm];assumption)),(by simp only[Lm,Az,AJ];omega),(by simp only[Lm,Az,AJ];omega)⟩
 refine Yi b3 ?_;refine Xi {q:Nat×Nat×SS // q.1≤L.length∧Ci p (L.drop q.1) q.2.1 q.2.2=Ci p L (Bm s n).1 (Eu x p (Bm s n).2).2∧JO x roots q.2.2∧q.2.1<q.2.2.drv.length∧∀r∈L,r<q.2.2.drv.length} (Xi (fun q=>⟨[(0,.ref 1000 0),(1,vs p),(9,vi q.1.2.1),(33,.slice (.id 31 1) (L.map BP)),(34,vi (L.map BP).length),(35,vi q.1.1)],[(31,.tok 1 (L.map BP).length),(1000,.cells (srM roots C A q.1.2.2 dec 1004 st.length)),(1001,.tok 6 q.1.2.2.infs.length),(1002,.tok 1 q.1.2.2.drv.length),(1003,.map D0 (D3 0 q.1.2.2.infs)),(1004,.arr 1 (st.map AX))],Aa⟩) (Xi (fun q=>L.length-q.1.1) (Yi (Xi ⟨(0,(Bm s n).1,(Eu x p (Bm s n).2).2),AD _,by rw[Oo],kS,wX,hLr⟩ ?_) ?_)))
 ·exact⟨⟨Zr,Zr,Zr,⟨(show AV.slice (.id 31 1) ([[vi (((Eu x p (Bm s n).2).1:Nat):Int)]]++rs.map BP)=.slice (.id 31 1) (L.map BP) by rw[hL];rfl),rfl⟩,⟨(show vi (([[vi (((Eu x p (Bm s n).2).1:Nat):Int)]]++rs.map BP:List (List AV)).length:Int)=vi ((L.map BP).length:Int) by rw[hL];rfl),rfl⟩,Zr,Tv⟩,⟨⟨(show HO.tok 1 (([[vi (((Eu x p (Bm s n).2).1:Nat):Int)]]:List (List AV)).length+(rs.map BP).length)=.tok 1 (L.map BP).length by rw[hL];simp[Nat.add_comm]),rfl⟩,Zr,Zr,Zr,Zr,Zr,Tv⟩,Fh,AB (by kernel_rfl)⟩
 intro⟨⟨j,k,S⟩,j1,j2,j3,j4,j5⟩;have j1:j≤L.length:=j1;have j2:Ci p (L.drop j) k S=Ci p L (Bm s n).1 (Eu x p (Bm s n).2).2:=j2;have j3:JO x roots S:=j3;have j4:k<S.drv.length:=j4;have j5:∀r∈L,r<S.drv.length:=j5;have z8:=j3.dl;have ug:=j3.der.few hx hr;have gk:S.drv[k]?=some (DP S k):=Fc j4;refine Yi (fun h4=>?_) (fun h4=>?_)
 ·have h4:(j:Int)<((L.map BP).length:Int):=h4;have n4:=JT h4;refine Xi (BP L[j]) (Yi (Ns n4) (Yi rfl ?_));refine Yi (fun h5=>?_) (fun h5=>?_)
  ·have h5:S.full=true:=h5;refine Xi ⟨[(9,vi k)],[(1000,.cells (srM roots C A S dec 1004 st.length)),(1001,.tok 6 S.infs.length),(1002,.tok 1 S.drv.length),(1003,.map D0 (D3 0 S.infs)),(1004,.arr 1 (st.map AX))],Aa⟩ (Yi ⟨Z1,Z5,Fh,AB (by kernel_rfl)⟩ ?_)
   have eR:Ci p L (Bm s n).1 (Eu x p (Bm s n).2).2=(k,S):=by rw[←j2];exact TM n4 (.inl h5)
   have eL:Ec x p n rs s=(k,S):=by unfold Ec;rw[←hL];exact eR
   exact Xi _ (Yi (.refl _) (Yi (show vi (k:Int)=vi (((Ec x p n rs s).1:Nat):Int) by rw[eL]) (show Ak (Jh roots C A S dec st) Aa=Ak (Jh roots C A (Ec x p n rs s).2 dec st) Aa by rw[eL])))
  have h5:S.full=false:=h5;refine Xi (Cb (DP S k)) (Yi (Yi (Nn k) (CC gk)) (Yi rfl ?_));refine BT (Bt (De (DP S k) p)) (fun h7=>?_) (fun h7=>?_)
  ·have h7:(De (DP S k) p)=true:=h7;refine Xi .pure (Xi _ (Yi (cb h7 (jQ (DP S k) p (Fl (ug _ (Av (Fc j4)))))) ?_));refine Xi ⟨[(0,.ref 1000 0),(1,vs p),(9,vi k),(12,vi (L[j]:Nat)),(33,.slice (.id 31 1) (L.map BP)),(34,vi (L.map BP).length),(35,vi j)],[(31,.tok 1 (L.map BP).length),(1000,.cells (srM roots C A S dec 1004 st.length)),(1001,.tok 6 S.infs.length),(1002,.tok 1 S.drv.length),(1003,.map D0 (D3 0 S.infs)),(1004,.arr 1 (st.map AX))],Aa⟩ (Yi ⟨Z7,Z6,Fh,AB (by kernel_rfl)⟩ ?_)
   refine Yi (fun h8=>?_) (fun h8=>?_)
   ·have h8:((L[j]:Nat):Int)=(k:Int):=h8;refine Xi ⟨[(0,.ref 1000 0),(1,vs p),(9,vi k),(33,.slice (.id 31 1) (L.map BP)),(34,vi (L.map BP).length),(35,vi j)],[(31,.tok 1 (L.map BP).length),(1000,.cells (srM roots C A S dec 1004 st.length)),(1001,.tok 6 S.infs.length),(1002,.tok 1 S.drv.length),(1003,.map D0 (D3 0 S.infs)),(1004,.arr 1 (st.map AX))],Aa⟩ (Yi ⟨Z6,Z6,Fh,AB (by kernel_rfl)⟩ ?_)
    refine Yi (Ii j (by omega)) ?_;refine Xi ⟨(j+1,k,S),FG n4,by rw[←(ZQ (s:=S) (p:=p) (L:=L) (j:=j) (k:=k) n4 (by rw[h5,h7];simp) (by have q:=h8;omega))];exact j2,j3,j4,j5⟩ ?_;exact⟨Dl L.length j (by omega),Z6,Z6,Fh,AB (by kernel_rfl)⟩
   have h8:¬(((L[j]:Nat):Int)=(k:Int)):=h8;refine Xi (Cb (DP S k)) (Yi (Yi (Nn k) (CC gk)) (Yi rfl ?_));refine Xi (Cb (DP S L[j])) (Yi (Yi (show(0:Int)≤(L[j]:Nat) by omega) (CC (Fc (j5 _ (At n4))))) (Yi rfl ?_));have fk:=ug _ (Av (Fc j4));have fr:=ug _ (Av (Fc (j5 _ (At n4))));refine Xi _ (Yi (vB (DP S k) (DP S L[j]) p fk.1 fr.1 fk.2 fr.2) ?_);refine Yi (by kernel_rfl) ?_;refine Xi ⟨[(0,.ref 1000 0),(1,vs p),(9,vi k),(12,vi (L[j]:Nat)),(13,sl AH (Bz (DP S k) (DP S L[j]) p).1),(14,vi (Bz (DP S k) (DP S L[j]) p).2),(33,.slice (.id 31 1) (L.map BP)),(34,vi (L.map BP).length),(35,vi j)],[(31,.tok 1 (L.map BP).length),(1000,.cells (srM roots C A S dec 1004 st.length)),(1001,.tok 6 S.infs.length),(1002,.tok 1 S.drv.length),(1003,.map D0 (D3 0 S.infs)),(1004,.arr 1 (st.map AX))],Aa⟩ (Yi ⟨Z9,Z6,Fh,AB (by kernel_rfl)⟩ ?_)
   refine Yi (fun NR=>?_) (fun NR=>?_)
   ·have NR:((Bz (DP S k) (DP S L[j]) p).2:Int)≠(0:Int):=NR;refine Xi ⟨[(0,.ref 1000 0),(1,vs p),(9,vi k),(33,.slice (.id 31 1) (L.map BP)),(34,vi (L.map BP).length),(35,vi j)],[(31,.tok 1 (L.map BP).length),(1000,.cells (srM roots C A S dec 1004 st.length)),(1001,.tok 6 S.infs.length),(1002,.tok 1 S.drv.length),(1003,.map D0 (D3 0 S.infs)),(1004,.arr 1 (st.map AX))],Aa⟩ (Yi ⟨Z6,Z6,Fh,AB (by kernel_rfl)⟩ ?_)
    refine Yi (Ii j (by omega)) ?_;refine Xi ⟨(j+1,k,S),FG n4,by rw[←(cW (s:=S) (p:=p) (L:=L) (j:=j) (k:=k) n4 (by rw[h5,h7];simp) (by have q:=h8;omega) NR)];exact j2,j3,j4,j5⟩ ?_;exact⟨Dl L.length j (by omega),Z6,Z6,Fh,AB (by kernel_rfl)⟩
   have NR:((Bz (DP S k) (DP S L[j]) p).2:Int)=(0:Int):=AN NR;refine Xi (.gen Y7 0) (Yi rfl (A6.imp (lU roots C A S dec st ⟨3,p,0,0,(k:Nat),(L[j]:Nat)⟩ (Bz (DP S k) (DP S L[j]) p).1 z8.1 z8.2.1 j3.nodup) ?_));intro v12 g12 lN;have pg:=lN.1;have ph:=lN.2;subst pg;subst ph;refine Xi ⟨[(0,.ref 1000 0),(1,vs p),(9,vi (((Em S ⟨3,p,0,0,(k:Nat),(L[j]:Nat)⟩ (Bz (DP S k) (DP S L[j]) p).1).1:Nat):Int)),(33,.slice (.id 31 1) (L.map BP)),(34,vi (L.map BP).length),(35,vi j)],[(31,.tok 1 (L.map BP).length),(1000,.cells [sl AF roots,.cmap CZ C,.cmap CZ A,.slice (.id 1001 6) ((Em S ⟨3,p,0,0,(k:Nat),(L[j]:Nat)⟩ (Bz (DP S k) (DP S L[j]) p).1).2.infs.map BY),.slice (.id 1002 1) ((Em S ⟨3,p,0,0,(k:Nat),(L[j]:Nat)⟩ (Bz (DP S k) (DP S L[j]) p).1).2.drv.map Cb),.mref 1003,vb (Em S ⟨3,p,0,0,(k:Nat),(L[j]:Nat)⟩ (Bz (DP S k) (DP S L[j]) p).1).2.full,sl AE dec,sl Ad (AO dec),.msl 1004 st.length]),(1001,.tok 6 (Em S ⟨3,p,0,0,(k:Nat),(L[j]:Nat)⟩ (Bz (DP S k) (DP S L[j]) p).1).2.infs.length),(1002,.tok 1 (Em S ⟨3,p,0,0,(k:Nat),(L[j]:Nat)⟩ (Bz (DP S k) (DP S L[j]) p).1).2.drv.length),(1003,.map D0 (D3 0 (Em S ⟨3,p,0,0,(k:Nat),(L[j]:Nat)⟩ (Bz (DP S k) (DP S L[j]) p).1).2.infs)),(1004,.arr 1 (st.map AX))],Aa⟩ (Yi ⟨Z6,Z6,Fh,AB (by kernel_rfl)⟩ ?_)
   refine Yi (Ii j (by omega)) ?_;obtain⟨a1,a2,a3⟩:=j3.add (Vp (x:=x) (roots:=roots) (p:=p) j4 (j5 _ (At n4)) NR);refine Xi ⟨(j+1,(Em S ⟨3,p,0,0,(k:Nat),(L[j]:Nat)⟩ (Bz (DP S k) (DP S L[j]) p).1).1,(Em S ⟨3,p,0,0,(k:Nat),(L[j]:Nat)⟩ (Bz (DP S k) (DP S L[j]) p).1).2),FG n4,by rw[←(cV (s:=S) (p:=p) (L:=L) (j:=j) (k:=k) n4 (by rw[h5,h7];simp) (by have q:=h8;omega) NR)];exact j2,a1,a2,fun r hr=>BB (j5 r hr) a3⟩ ?_;exact⟨Dl L.length j (by omega),Z6,Z6,Fh,AB (by kernel_rfl)⟩
  have h7:(De (DP S k) p)=false:=h7;refine Xi .pure (Xi _ (Yi (cb h7 (jQ (DP S k) p (Fl (ug _ (Av (Fc j4)))))) ?_));refine Xi ⟨[(9,vi k)],[(1000,.cells (srM roots C A S dec 1004 st.length)),(1001,.tok 6 S.infs.length),(1002,.tok 1 S.drv.length),(1003,.map D0 (D3 0 S.infs)),(1004,.arr 1 (st.map AX))],Aa⟩ (Yi ⟨Z1,Z5,Fh,AB (by kernel_rfl)⟩ ?_)
  have eR:Ci p L (Bm s n).1 (Eu x p (Bm s n).2).2=(k,S):=by rw[←j2];exact TM n4 (.inr h7)
  have eL:Ec x p n rs s=(k,S):=by unfold Ec;rw[←hL];exact eR
  exact Xi _ (Yi (.refl _) (Yi (show vi (k:Int)=vi (((Ec x p n rs s).1:Nat):Int) by rw[eL]) (show Ak (Jh roots C A S dec st) Aa=Ak (Jh roots C A (Ec x p n rs s).2 dec st) Aa by rw[eL])))
 have h4:¬((j:Int)<((L.map BP).length:Int)):=h4;have n4:=JS h4;have hj:¬j<L.length:=by have q:=h4;rw[Lm]at q;omega
 have eR:Ci p L (Bm s n).1 (Eu x p (Bm s n).2).2=(k,S):=by rw[←j2,EP (by omega)];rfl
 have eL:Ec x p n rs s=(k,S):=by unfold Ec;rw[←hL];exact eR
 exact Xi _ (Yi (.refl _) (Yi (show vi (k:Int)=vi (((Ec x p n rs s).1:Nat):Int) by rw[eL]) (show Ak (Jh roots C A S dec st) Aa=Ak (Jh roots C A (Ec x p n rs s).2 dec st) Aa by rw[eL])))
end Go.Eng
