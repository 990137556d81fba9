/- Lemmas for the claims of this seat, without a condition: part 26 (S1, S2, S3, S4, S5). -/
import Derived.Test.YtmcbkdbfaneofaaGreatDoorCA21
import Derived.Test.YtmcbkdbfaneofaaGreatDoorCA03
set_option maxHeartbeats 4000000
namespace Go.Eng
open Go.Proofs
abbrev AE(c:Cd):List AV:=vi c.place::Ai c.rel
abbrev A8(n:Nd):List AV:=[vs n.rq.path,sl Ao n.rq.set,vs n.path,vi n.place,vi n.number]
abbrev AS(l:List Sk):List AV:=[sl BS l]
abbrev BM(i:Nat):List AV:=[vi (i:Nat)]
def DR:EA:=⟨true,[.int .i64,.str,.int .i64,.int .i64,.int .i64,.int .i64]⟩
def Jd(i:Nf):Value:=.agg [.int .i64 i.kind,.string i.path,.int .i64 i.place,.int .i64 i.number,.int .i64 i.left,.int .i64 i.right].toArray
def DT:Nat→List Nf→List (Value×AV)
 |_,[]=>[]
 |k,i::l=>(Jd i,vi (k:Nat))::DT (k+1) l
abbrev si(roots:List Rq)(C A:List (Value×AV))(s:SS)(dec:List Cd)(n:Nat):List AV :=
 [sl AM roots,.cmap C3 C,.cmap C3 A,.slice (.id 1001 6) (s.infs.map BW),.slice (.id 1002 1) (s.drv.map B9),.mref 1003,vb s.full,sl AE dec,sl Ae (AK dec),.msl 1004 n]
abbrev srM(roots:List Rq)(C A:List (Value×AV))(s:SS)(dec:List Cd)(k n:Nat):List AV :=
 [sl AM roots,.cmap C3 C,.cmap C3 A,.slice (.id 1001 6) (s.infs.map BW),.slice (.id 1002 1) (s.drv.map B9),.mref 1003,vb s.full,sl AE dec,sl Ae (AK dec),.msl k n]
abbrev IW(roots:List Rq)(C A:List (Value×AV))(s:SS)(dec:List Cd)(st:List (List Sk)):List (Nat×HO) :=
 [(1000,.cells (si roots C A s dec st.length)),(1001,.tok 6 s.infs.length),(1002,.tok 1 s.drv.length),(1003,.map DR (DT 0 s.infs)),(1004,.arr 1 (st.map AS))]
theorem vY{fF:Nat}{caps:List AV}(hs:ED caps)(l:List (Cd))(p:Cd→Bool)(hF:∀x∈l,PC fF ([.agg (AE x)]++caps) (vb (p x)))(hl:l.length<9223372036854775807) :
  PC 224 [sl AE l,.clo fF caps] (vi (HU p l 0)):=by
 refine Ps Gc Tryz.func224 rfl (Nz rfl) ?_;refine Xi {i:Nat // i≤l.length∧∀j (hj:j<l.length),j<i→p l[j]=false} (Xi (fun i=>⟨[(0,sl AE l),(1,.clo fF caps),(7,vi (l.map AE).length),(8,vi i.1)],[],Ab⟩) (Xi (fun i=>l.length-i.1) (Yi (Xi ⟨0,by simp⟩ ?_) ?_)))
 ·exact⟨⟨Zr,⟨rfl,hs.ids _⟩,Zr,Zr,Tv⟩,Tv,Fh,Tv⟩
 ·intro⟨i,h1,h2⟩;refine Yi ?_ ?_
  ·intro h;have h:(i:Int)<(l.map AE).length:=h;have h:i<l.length:=by simpa using h
   have hg:l[i]?=some l[i]:=Ge h;refine Xi (AE l[i]) (Yi (Yi (Nn i) (by simp[hg])) (Yi rfl (Yi (Nz rfl) ?_)));have DA:∀h,PC fF ([.agg (AE l[i])]++caps.map (str0 h)) (vb (p l[i])):=fun h=>by rw[hs.map];exact hF l[i] (Aq _)
   cases hp:p l[i]with
   |true =>
    rw[hp]at DA;refine Xi .pure (Xi (vb true) (Yi (DA _) ?_));rw[Ja h (fun j hj HT=>h2 j hj HT) hp,EV];exact .refl _
   |false =>
    rw[hp]at DA;refine Xi .pure (Xi (vb false) (Yi (DA _) ?_));refine Yi (Ii i (by omega)) ?_;refine Xi ⟨i+1,by omega,fun j hj HT=>?_⟩ ?_
    ·by_cases e:j=i
     ·subst e;exact hp
     ·exact h2 j hj (by omega)
    ·exact⟨Dl l.length i (by omega),⟨Zr,⟨rfl,hs.ids _⟩,Zr,Zr,Tv⟩,Tv,Fh,Tv⟩
  ·intro h;have h:¬(i:Int)<(l.map AE).length:=h;have h:¬i<l.length:=by simpa using h
   rw[F7 fun j hj=>h2 j hj (by omega)];exact .refl _
theorem s86{fF:Nat}{caps:List AV}(hs:ED caps)(l:List (Nd))(p:Nd→Bool)(hF:∀x∈l,PC fF ([.agg (A8 x)]++caps) (vb (p x)))(hl:l.length<9223372036854775807) :
  PC 120 [sl A8 l,.clo fF caps] (vi (HU p l 0)):=by
 refine Ps Gc Tryz.func120 rfl (Nz rfl) ?_;refine Xi {i:Nat // i≤l.length∧∀j (hj:j<l.length),j<i→p l[j]=false} (Xi (fun i=>⟨[(0,sl A8 l),(1,.clo fF caps),(7,vi (l.map A8).length),(8,vi i.1)],[],Ab⟩) (Xi (fun i=>l.length-i.1) (Yi (Xi ⟨0,by simp⟩ ?_) ?_)))
 ·exact⟨⟨Zr,⟨rfl,hs.ids _⟩,Zr,Zr,Tv⟩,Tv,Fh,Tv⟩
 ·intro⟨i,h1,h2⟩;refine Yi ?_ ?_
  ·intro h;have h:(i:Int)<(l.map A8).length:=h;have h:i<l.length:=by simpa using h
   have hg:l[i]?=some l[i]:=Ge h;refine Xi (A8 l[i]) (Yi (Yi (Nn i) (by simp[hg])) (Yi rfl (Yi (Nz rfl) ?_)));have DA:∀h,PC fF ([.agg (A8 l[i])]++caps.map (str0 h)) (vb (p l[i])):=fun h=>by rw[hs.map];exact hF l[i] (Aq _)
   cases hp:p l[i]with
   |true =>
    rw[hp]at DA;refine Xi .pure (Xi (vb true) (Yi (DA _) ?_));rw[Ja h (fun j hj HT=>h2 j hj HT) hp,EV];exact .refl _
   |false =>
    rw[hp]at DA;refine Xi .pure (Xi (vb false) (Yi (DA _) ?_));refine Yi (Ii i (by omega)) ?_;refine Xi ⟨i+1,by omega,fun j hj HT=>?_⟩ ?_
    ·by_cases e:j=i
     ·subst e;exact hp
     ·exact h2 j hj (by omega)
    ·exact⟨Dl l.length i (by omega),⟨Zr,⟨rfl,hs.ids _⟩,Zr,Zr,Tv⟩,Tv,Fh,Tv⟩
  ·intro h;have h:¬(i:Int)<(l.map A8).length:=h;have h:¬i<l.length:=by simpa using h
   rw[F7 fun j hj=>h2 j hj (by omega)];exact .refl _
theorem re{fF:Nat}{caps:List AV}(hs:ED caps)(l:List (Cd))(p:Cd→Bool)(hF:∀x∈l,PC fF ([.agg (AE x)]++caps) (vb (p x)))(hl:Cp l) :
  PC 193 [sl AE l,.clo fF caps] (vb (l.any p)):=by
 refine Ps Gc Tryz.func193 rfl (Nz rfl) ?_;have hi:=vY hs l p hF (by unfold Cp at hl;omega);have DA:∀h,PC 224 [sl AE l,.clo fF (caps.map (str0 h))] (vi (HU p l 0)):=fun h=>by rw[hs.map];exact hi
 refine Xi .pure (Xi _ (Yi (DA _) ?_));have ha:=KT (p:=p) l 0 (AX 0);refine Yi ?_ ?_
 ·intro h;have h:(0:Int)≤HU p l 0:=h;rw[←ha,AA h];exact .refl _
 ·intro h;have h:¬(0:Int)≤HU p l 0:=h;rw[←ha,Ap h];exact .refl _
theorem ri(l:List Cd)(hl:Cp l):Bd Tryz.prog 126 [sl AE l] (Ah [] Ab) fun r h'=>r=.slice (.id 2000 10) (l.map AE)∧h'=Ah [(2000,.tok 10 (l.map AE).length)] Ab:=by
 refine Cm (Mo (u7 10)) [(2,2000)] rfl CK hm rfl Tryz.func126 (by kernel_rfl) rfl (Nz rfl) (by kernel_rfl) rfl ?_;have Gl:Do 10 (l.map AE)∧([]:List (List AV)).length=0∧(([]:List (List AV)).length+(l.map AE).length)*128≤140737488355328∧([]:List (List AV)).length+(l.map AE).length≤9223372036854775807:=by
  refine⟨Eu (enc:=AE) (n:=10) (fun _=>rfl) l,rfl,?_,?_⟩<;>simp only[AC,Lm]<;>unfold Cp at hl<;>omega
 have e2:HO.tok 10 (([]:List (List AV)).length+(l.map AE).length)=.tok 10 (l.map AE).length:=by rw[AC,Bi]
 have e3:AV.slice (.id 2000 10) ([]++l.map AE)=.slice (.id 2000 10) (l.map AE):=rfl;have full:∀st:St,(∃s:LS,St.le (Mo (u7 10)) st s∧True)→True:=fun _ _=>trivial;refine Xi 0 ?_;refine Xi 0 ?_;refine Yi ?_ ?_
 ·intro _;refine Xi ⟨[(0,sl AE l)],[],Ab⟩ (Yi ⟨Z1,Tv,Fh,Ax (by kernel_rfl)⟩ ?_)
  refine Xi 2 ?_;refine Yi Gl ?_;exact Xi _ (Yi (.refl _) (Yi e3 (Ac (fun o=>Ah [(2000,o)] Ab) e2)))
 ·intro h;have h:l.map AE=[]:=h;refine Yi ?_ ?_
  ·refine Xi ⟨[],[],Ab⟩ (Yi ⟨trivial,trivial,fun _=>.inl rfl,Ax (by kernel_rfl)⟩ ?_)
   refine Xi 0 ?_;exact Xi _ (Yi (.refl _) (Yi (show AV.slice (.id 2000 10) []=_ by rw[h]) (show Ah [(2000,HO.tok 10 0)] Ab=_ by rw[h];rfl)))
  ·refine Xi ⟨[(0,sl AE l)],[],Ab⟩ (Yi ⟨Z1,Tv,Fh,Ax (by kernel_rfl)⟩ ?_)
   refine Xi 2 ?_;refine Yi Gl ?_;exact Xi _ (Yi (.refl _) (Yi e3 (Ac (fun o=>Ah [(2000,o)] Ab) e2)))
theorem Rn:∀{l:List Nf} {k:Nat} {kx:Value} {a:AV},(kx,a)∈DT k l↔∃j i,l[j]?=some i∧kx=Jd i∧a=vi ((k+j:Nat):Int)
 | [],k,kx,a=>by simp[DT]
 |y::l,k,kx,a=>by
  unfold DT;rw[Au,Rn];constructor
  ·rintro(h | ⟨j,i,h1,h2,h3⟩)
   ·cases h;exact⟨0,y,rfl,rfl,rfl⟩
   ·exact⟨j+1,i,h1,h2,by rw[h3,show k+1+j=k+(j+1) by omega]⟩
  ·rintro⟨j,i,h1,h2,h3⟩
   cases j with
   |zero=>cases h1;exact .inl (by rw[h2,h3];rfl)
   |succ j=>exact .inr ⟨j,i,h1,h2,by rw[h3,show k+1+j=k+(j+1) by omega]⟩
theorem UW{a b:Nf}(h:Jd a=Jd b):a=b:=by
 obtain⟨a1,a2,a3,a4,a5,a6⟩:=a;obtain⟨b1,b2,b3,b4,b5,b6⟩:=b;unfold Jd at h;simp at h;obtain⟨rfl,rfl,rfl,rfl,rfl,rfl⟩:=h
 rfl
theorem qx{l:List Nf}{i:Nf}{k:Nat}(h:Lv i 0 l=some k):(Jd i,vi (k:Nat))∈DT 0 l:=by
 obtain⟨j,e,hj⟩:=MG h;exact Rn.2 ⟨j,i,hj,rfl,by rw[e]⟩
theorem jO{l:List Nf}(hn:l.Nodup){i:Nf}{k:Nat}(h:Lv i 0 l=some k):∀b,(Jd i,b)∈DT 0 l→b=vi (k:Nat):=fun b hb=>by
 obtain⟨j,e,hj⟩:=MG h;obtain⟨j',i',h1,h2,h3⟩:=Rn.1 hb
 have:=UW h2
 subst this;obtain⟨a1,a2⟩:=As.1 hj;obtain⟨b1,b2⟩:=As.1 h1
 have:j'=j:=(List.getElem_inj hn).1 (b2.trans a2.symm)
 subst this;rw[h3,e]
theorem lz{l:List Nf}{i:Nf}(h:Lv i 0 l=none):∀a,(Jd i,a)∉DT 0 l:=fun a ha=>by
 obtain⟨j,i',h1,h2,_⟩:=Rn.1 ha
 have:=UW h2
 subst this;exact PO h (Av h1)
theorem af:∀(l:List Nf) (k:Nat) (i:Nf),DT k (l++[i])=DT k l++[(Jd i,vi ((k+l.length:Nat):Int))]
 | [],k,i=>by simp[DT]
 |y::l,k,i=>by
  show(Jd y,_)::DT (k+1) (l++[i])=_;rw[af l (k+1) i];simp[DT,show k+1+l.length=k+(l.length+1) by omega]
theorem ng{l:List Nf}{i:Nf}(h:Lv i 0 l=none):EK (DT 0 l) (Jd i) (vi ((l.map BW).length:Int))=DT 0 (l++[i]):=by
 rw[L3 (lz h),af,Lm,Bi]
theorem WL{s:SS}{i:Nf}{l:List Tm}{k:Nat}(h:Lv i 0 s.infs=some k):D4 s i l=(k,s):=by unfold D4;rw[h]
theorem Um{s:SS}{i:Nf}{l:List Tm}(h:Lv i 0 s.infs=none)(hf:65536≤s.infs.length):D4 s i l=(s.infs.length-1,⟨s.infs,s.drv,true⟩):=by unfold D4;rw[h];exact Aw hf
theorem WK{s:SS}{i:Nf}{l:List Tm}(h:Lv i 0 s.infs=none)(hf:¬65536≤s.infs.length):D4 s i l=(s.infs.length,⟨s.infs++[i],s.drv++[l],s.full⟩):=by unfold D4;rw[h];exact Ak hf
section
variable {roots:List Rq}{C A:List (Value×AV)}{s s' : SS}{dec:List Cd}{st:List (List Sk)}{i:Nf}{l:List Tm}
theorem dC{k:Nat}{z:Int}(e:D4 s i l=(k,s'))(hz:z=k):vi z=vi ((D4 s i l).1:Nat)∧Ah (IW roots C A s' dec st) Ab=Ah (IW roots C A (D4 s i l).2 dec st) Ab:=by rw[e,hz];exact Zr
theorem oK(h:Lv i 0 s.infs=none):Ah [(1000,.cells [sl AM roots,.cmap C3 C,.cmap C3 A,.slice (.id 1001 6) (s.infs.map BW++[BW i]),.slice (.id 1002 1) (s.drv.map B9++[B9 l]),.mref 1003,vb s.full,sl AE dec,sl Ae (AK dec),.msl 1004 st.length]),
      (1001,.tok 6 ((s.infs.map BW).length+[BW i].length)),(1002,.tok 1 ((s.drv.map B9).length+[B9 l].length)),(1003,.map DR (EK (DT 0 s.infs) (Jd i) (vi ((s.infs.map BW).length:Int)))),(1004,.arr 1 (st.map AS))] Ab=Ah (IW roots C A ⟨s.infs++[i],s.drv++[l],s.full⟩ dec st) Ab:=by
  have e1:s.infs.map BW++[BW i]=(s.infs++[i]).map BW:=by simp
  have e2:s.drv.map B9++[B9 l]=(s.drv++[l]).map B9:=by simp
  have e3:(s.infs.map BW).length+[BW i].length=(s.infs++[i]).length:=by simp
  have e4:(s.drv.map B9).length+[B9 l].length=(s.drv++[l]).length:=by simp
  rw[e1,e2,e3,e4,ng h]
end
theorem rf(c:Cd)(p:ByteArray):PC 194 [.agg (AE c),.cptr [vs p]] (vb (decide (c.rel.path=p))):=by
 refine Ps ⟨[2],[],[],[],[],[],[],[],[],[],[]⟩ Tryz.func194 rfl (Nz rfl) ?_;refine Yi (fun h1=>?_) (fun h1=>?_)
 ·have h1:(c.rel.path:ByteArray)=p:=h1;exact .of_eq (show vb true=vb (decide (c.rel.path=p)) by rw[AA h1])
 have h1:¬(c.rel.path:ByteArray)=p:=h1;exact .of_eq (show vb false=vb (decide (c.rel.path=p)) by rw[Ap h1])
theorem rd(t:Tm)(p:ByteArray):PC 159 [.agg (AF t),.cptr [vs p]] (vb (decide (t.path=p))):=by
 refine Ps ⟨[2],[],[],[],[],[],[],[],[],[],[]⟩ Tryz.func159 rfl (Nz rfl) ?_;refine Yi (fun h1=>?_) (fun h1=>?_)
 ·have h1:(t.path:ByteArray)=p:=h1;exact .of_eq (show vb true=vb (decide (t.path=p)) by rw[AA h1])
 have h1:¬(t.path:ByteArray)=p:=h1;exact .of_eq (show vb false=vb (decide (t.path=p)) by rw[Ap h1])
theorem iJ(l:List Tm)(p:ByteArray)(hl:Cp l):PC 127 [sl AF l,vs p] (vb (CZ l p)):=by
 refine Ps ⟨[3],[],[],[],[],[],[],[],[],[],[]⟩ Tryz.func127 rfl (Nz rfl) ?_;refine BV (Bt (CZ l p)) (fun h1=>?_) (fun h1=>?_)
 ·have h1:(CZ l p)=true:=h1;refine Xi .pure (Xi _ (Yi (cb h1 (show PC 158 [sl AF l,.clo 159 [.cptr [vs p]]] (vb (CZ l p))from mc (fF:=159) (caps:=[.cptr [vs p]]) (fun c hc=>by obtain rfl:=Al.1 hc;intro h;rfl) l (fun t=>decide (t.path=p)) (fun t _=>rd t p) hl)) ?_));exact .of_eq (show vb true=vb (CZ l p) by rw[h1])
 have h1:(CZ l p)=false:=h1;refine Xi .pure (Xi _ (Yi (cb h1 (show PC 158 [sl AF l,.clo 159 [.cptr [vs p]]] (vb (CZ l p))from mc (fF:=159) (caps:=[.cptr [vs p]]) (fun c hc=>by obtain rfl:=Al.1 hc;intro h;rfl) l (fun t=>decide (t.path=p)) (fun t _=>rd t p) hl)) ?_));exact .of_eq (show vb false=vb (CZ l p) by rw[h1])
theorem rc(roots:List Rq)(C A:List (Value×AV))(s:SS)(dec:List Cd)(st:List (List Sk))(p:ByteArray)(hl:Cp dec):Bd Tryz.prog 151 [.ref 1000 0,vs p] (Ah (IW roots C A s dec st) Ab) fun r h'=>r=vb (De dec p)∧h'=Ah (IW roots C A s dec st) Ab:=by
 refine Cm (Mo ⟨[3],[],[],[],[],[],[],[],[],[],[]⟩) [(1000,1000),(1001,1001),(1002,1002),(1003,1003),(1004,1004)] rfl CK hm rfl Tryz.func151 (by kernel_rfl) rfl (Nz rfl) (by kernel_rfl) rfl ?_;refine BV (Bt (De dec p)) (fun h1=>?_) (fun h1=>?_)
 ·have h1:(De dec p)=true:=h1;refine Xi .pure (Xi _ (Yi (cb h1 (show PC 193 [sl AE dec,.clo 194 [.cptr [vs p]]] (vb (De dec p))from re (fF:=194) (caps:=[.cptr [vs p]]) (fun c hc=>by obtain rfl:=Al.1 hc;intro h;rfl) dec (fun c=>decide (c.rel.path=p)) (fun c _=>rf c p) hl)) ?_));exact Xi _ (Yi (.refl _) (Yi (show vb true=vb (De dec p) by rw[h1]) rfl))
 have h1:(De dec p)=false:=h1;refine Xi .pure (Xi _ (Yi (cb h1 (show PC 193 [sl AE dec,.clo 194 [.cptr [vs p]]] (vb (De dec p))from re (fF:=194) (caps:=[.cptr [vs p]]) (fun c hc=>by obtain rfl:=Al.1 hc;intro h;rfl) dec (fun c=>decide (c.rel.path=p)) (fun c _=>rf c p) hl)) ?_));exact Xi _ (Yi (.refl _) (Yi (show vb false=vb (De dec p) by rw[h1]) rfl))
theorem kB(roots:List Rq)(C A:List (Value×AV))(s:SS)(dec:List Cd)(st:List (List Sk))(i:Nf)(l:List Tm)(k:Nat)(hk:Lv i 0 s.infs=some k)(Q0:s.infs.Nodup):Bd Tryz.prog 154 [.ref 1000 0,.agg (BW i),sl AF l] (Ah (IW roots C A s dec st) Ab) fun r h'=>r=vi ((D4 s i l).1:Nat)∧h'=Ah (IW roots C A (D4 s i l).2 dec st) Ab:=by
 refine Cm (Mo ⟨[4],[],[],[],[],[],[],[],[],[],[2,5,7,8,9,10,11]⟩) [(1000,1000),(1001,1001),(1002,1002),(1003,1003),(1004,1004)] rfl CK hm rfl Tryz.func154 (by kernel_rfl) rfl (Nz rfl) (by kernel_rfl) rfl ?_;refine Yi (Nz rfl) ?_;refine Or.inl (Xi (vi (k:Nat)) (Yi (Yi (qx hk) (jO Q0 hk)) ?_));refine Yi (by kernel_rfl) ?_;refine Xi ⟨[(0,.ref 1000 0),(2,sl AF l),(4,.ref 4 0),(7,vi (k:Nat)),(8,vb true)],[(4,.ro (BW i)),(1000,.cells (srM roots C A s dec 1004 st.length)),(1001,.tok 6 s.infs.length),(1002,.tok 1 s.drv.length),(1003,.map DR (DT 0 s.infs)),(1004,.arr 1 (st.map AS))],Ab⟩ (Yi ⟨Z5,Z6,Fh,Ax (by kernel_rfl)⟩ ?_)
 exact Xi _ (Yi (.refl _) (dC (WL hk) rfl))
theorem kz(roots:List Rq)(C A:List (Value×AV))(s:SS)(dec:List Cd)(st:List (List Sk))(i:Nf)(l:List Tm)(hk:Lv i 0 s.infs=none)(hn:s.infs.length≤65536)(hdl:s.drv.length=s.infs.length):Bd Tryz.prog 154 [.ref 1000 0,.agg (BW i),sl AF l] (Ah (IW roots C A s dec st) Ab) fun r h'=>r=vi ((D4 s i l).1:Nat)∧h'=Ah (IW roots C A (D4 s i l).2 dec st) Ab:=by
 have hdn:s.drv.length≤65536:=by omega
 have xd:(s.infs.map BW).length=s.infs.length:=Lm _;refine Cm (Mo ⟨[4],[],[],[],[],[],[],[],[],[],[2,5,7,8,9,10,11]⟩) [(1000,1000),(1001,1001),(1002,1002),(1003,1003),(1004,1004)] rfl CK hm rfl Tryz.func154 (by kernel_rfl) rfl (Nz rfl) (by kernel_rfl) rfl ?_;refine Yi (Nz rfl) ?_;refine Or.inr (Yi (lz hk) ?_);refine Yi (by kernel_rfl) ?_;refine Xi ⟨[(0,.ref 1000 0),(2,sl AF l),(4,.ref 4 0),(7,vi 0),(8,vb false)],[(4,.ro (BW i)),(1000,.cells (srM roots C A s dec 1004 st.length)),(1001,.tok 6 s.infs.length),(1002,.tok 1 s.drv.length),(1003,.map DR (DT 0 s.infs)),(1004,.arr 1 (st.map AS))],Ab⟩ (Yi ⟨Z5,Z6,Fh,Ax (by kernel_rfl)⟩ ?_)
 refine Yi (fun h1=>?_) (fun h1=>?_)
 ·have h1:(65536:Int)≤((s.infs.map BW).length:Int):=h1;refine Xi ⟨[(0,.ref 1000 0)],[(1000,.cells (srM roots C A s dec 1004 st.length)),(1001,.tok 6 s.infs.length),(1002,.tok 1 s.drv.length),(1003,.map DR (DT 0 s.infs)),(1004,.arr 1 (st.map AS))],Ab⟩ (Yi ⟨Z1,Z5,Fh,Ax (by kernel_rfl)⟩ ?_)
  refine Yi (Nz rfl) ?_;refine Yi (by show B1 (((s.infs.map BW).length:Int)-(1:Int));unfold B1;omega) ?_;exact Xi _ (Yi (.refl _) (dC (Um hk (by have q:=h1;rw[Lm]at q;omega)) (by have q:=h1;rw[Lm]at q⊢;omega)))
 have h1:¬((65536:Int)≤((s.infs.map BW).length:Int)):=h1;refine Xi ⟨[(0,.ref 1000 0),(2,sl AF l),(4,.ref 4 0)],[(4,.ro (BW i)),(1000,.cells (srM roots C A s dec 1004 st.length)),(1001,.tok 6 s.infs.length),(1002,.tok 1 s.drv.length),(1003,.map DR (DT 0 s.infs)),(1004,.arr 1 (st.map AS))],Ab⟩ (Yi ⟨Z3,Z6,Fh,Ax (by kernel_rfl)⟩ ?_)
 refine Xi ⟨[(0,.ref 1000 0),(2,sl AF l),(4,.ref 4 0),(9,vi (s.infs.map BW).length)],[(4,.ro (BW i)),(1000,.cells (srM roots C A s dec 1004 st.length)),(1001,.tok 6 s.infs.length),(1002,.tok 1 s.drv.length),(1003,.map DR (DT 0 s.infs)),(1004,.arr 1 (st.map AS))],Ab⟩ (Yi ⟨Z4,Z6,Fh,Ax (by kernel_rfl)⟩ ?_)
 refine Yi (Nz rfl) ?_;refine Yi (by kernel_rfl) ?_;refine Xi ⟨[(0,.ref 1000 0),(2,sl AF l),(4,.ref 4 0),(9,vi (s.infs.map BW).length)],[(4,.ro (BW i)),(1000,.cells (srM roots C A s dec 1004 st.length)),(1001,.tok 6 s.infs.length),(1002,.tok 1 s.drv.length),(1003,.map DR (EK (DT 0 s.infs) (Jd i) (vi (s.infs.map BW).length))),(1004,.arr 1 (st.map AS))],Ab⟩ (Yi ⟨Z4,Z6,Fh,Ax (by kernel_rfl)⟩ ?_)
 refine Yi (Nz rfl) ?_;refine Yi (Pf rfl (by omega) (by decide)) ?_;refine Yi (Nz rfl) ?_;refine Yi (by kernel_rfl) ?_;refine Xi ⟨[(0,.ref 1000 0),(2,sl AF l),(9,vi (s.infs.map BW).length)],[(1000,.cells [sl AM roots,.cmap C3 C,.cmap C3 A,.slice (.id 1001 6) ((s.infs.map BW)++[(BW i)]),.slice (.id 1002 1) (s.drv.map B9),.mref 1003,vb s.full,sl AE dec,sl Ae (AK dec),.msl 1004 st.length]),(1001,.tok 6 ((s.infs.map BW).length+([(BW i)]:List (List AV)).length)),(1002,.tok 1 s.drv.length),(1003,.map DR (EK (DT 0 s.infs) (Jd i) (vi (s.infs.map BW).length))),(1004,.arr 1 (st.map AS))],Ab⟩ (Yi ⟨Z3,Z5,Fh,Ax (by kernel_rfl)⟩ ?_)
 refine Yi (Pf rfl (by omega) (by decide)) ?_;refine Yi (Nz rfl) ?_;refine Xi ⟨[(9,vi (s.infs.map BW).length)],[(1000,.cells [sl AM roots,.cmap C3 C,.cmap C3 A,.slice (.id 1001 6) ((s.infs.map BW)++[(BW i)]),.slice (.id 1002 1) ((s.drv.map B9)++[[sl AF l]]),.mref 1003,vb s.full,sl AE dec,sl Ae (AK dec),.msl 1004 st.length]),(1001,.tok 6 ((s.infs.map BW).length+([(BW i)]:List (List AV)).length)),(1002,.tok 1 ((s.drv.map B9).length+([[sl AF l]]:List (List AV)).length)),(1003,.map DR (EK (DT 0 s.infs) (Jd i) (vi (s.infs.map BW).length))),(1004,.arr 1 (st.map AS))],Ab⟩ (Yi ⟨Z1,Z5,Fh,Ax (by kernel_rfl)⟩ ?_)
 have hq:=dC (roots:=roots) (C:=C) (A:=A) (dec:=dec) (st:=st) (z:=((s.infs.map BW).length:Int)) (WK (l:=l) hk (by have q:=h1;rw[Lm]at q;omega)) (by rw[Lm]);exact Xi _ (Yi (.refl _) (Yi hq.1 ((oK hk).trans hq.2)))
structure Jr(x:List Rl)(roots:List Rq)(s:SS):Prop where
 der:Fe x roots s
 nodup:s.infs.Nodup
abbrev lL(roots:List Rq)(C A:List (Value×AV))(dec:List Cd)(st:List (List Sk))(o:Nat×SS)(r:AV)(h' : Nat→HO):Prop:=r=vi (o.1:Nat)∧h'=Ah (IW roots C A o.2 dec st) Ab
theorem ky(roots:List Rq)(C A:List (Value×AV))(s:SS)(dec:List Cd)(st:List (List Sk))(i:Nf)(l:List Tm)(hn:s.infs.length≤65536)(hdl:s.drv.length=s.infs.length)(Q0:s.infs.Nodup) :
  Bd Tryz.prog 154 [.ref 1000 0,.agg (BW i),sl AF l] (Ah (IW roots C A s dec st) Ab) (lL roots C A dec st (D4 s i l)):=by
 cases hk:Lv i 0 s.infs with
 |some k=>exact kB roots C A s dec st i l k hk Q0
 |none=>exact kz roots C A s dec st i l hk hn hdl
abbrev Ym:IK:=[(1000,1000),(1001,1001),(1002,1002),(1003,1003),(1004,1004)]
theorem pq{h2:Nat→HO}{cs:List AV}{o1 o2 o3 o4:HO}(e0:h2 1000=.cells cs)(e1:h2 1001=o1)(e2:h2 1002=o2)(e3:h2 1003=o3)(e4:h2 1004=o4) :
  Fr Ym h2=Ah [(1000,.cells (cs.map (ren1 (Ct Ym) h2))),(1001,o1.ren (Ct Ym) h2),(1002,o2.ren (Ct Ym) h2),(1003,o3.ren (Ct Ym) h2),(1004,o4.ren (Ct Ym) h2)] Ab:=by
 unfold Fr;simp only[Wl];rw[e0,e1,e2,e3,e4];rfl
theorem bW{s:SS}{n:Nd}(h:n.path=mt):D4 s ⟨0,mt,0,n.number,0,0⟩ (Jk n.rq)=Bk s n:=by unfold Bk SM IR;rw[Aw h,Aw h]
theorem fJ{s:SS}{n:Nd}(h:¬n.path=mt):D4 s ⟨1,n.path,n.place,n.number,0,0⟩ (Ec n.path n.place n.rq)=Bk s n:=by unfold Bk SM IR;rw[Ak h,Ak h]
abbrev VP(d:List (List Tm))(S:List Sl):AV:=.tup [vi (((Oe d S).getD 0:Nat):Int),vb (Oe d S).isSome]
theorem W7{S:List Sl}:∀{l:List (List Tm)} {b i:Nat} {t:List Tm},l[i]?=some t→CA t S=true→(∀j u,j<i→l[j]?=some u→CA u S=false)→Od S b l=some (b+i)
 | [],_,_,_,h,_,_=>by simp at h
 |u::l,b,0,t,h,he,_=>by cases h;unfold Od;rw[Aw he];rfl
 |u::l,b,i+1,t,h,he,hn=>by
  unfold Od;rw[Ak (by rw[hn 0 u (by omega) rfl];decide),W7 (i:=i) (by simpa using h) he (fun j v hj hv=>hn (j+1) v (by omega) (by simpa using hv))]
  congr 1;omega
theorem W8{S:List Sl}:∀{l:List (List Tm)} {b:Nat},(∀t∈l,CA t S=false)→Od S b l=none
 | [],_,_=>rfl
 |u::l,b,h=>by
  unfold Od;rw[Ak (by rw[h u (Aa ..)];decide)];exact W8 fun t ht=>h t (Af _ ht)
theorem wh(roots:List Rq)(C A:List (Value×AV))(s:SS)(dec:List Cd)(st:List (List Sk))(n:Nd)(hn:s.infs.length≤65536)(hdl:s.drv.length=s.infs.length)(Q0:s.infs.Nodup)(hq:Cp n.rq.set)(hp:B1 (n.place+1)):Bd Tryz.prog 123 [.ref 1000 0,.agg (A8 n)] (Ah (IW roots C A s dec st) Ab) fun r h'=>lL roots C A dec st (Bk s n) r h':=by
 refine Cm (Mo ⟨[3],[],[],[],[],[],[],[],[(15,5),(31,5)],[],[2,3]⟩) [(1000,1000),(1001,1001),(1002,1002),(1003,1003),(1004,1004)] rfl CK hm rfl Tryz.func123 (by kernel_rfl) rfl (Nz rfl) (by kernel_rfl) rfl ?_;refine Yi (fun h1=>?_) (fun h1=>?_)
 ·have h1:(n.path:ByteArray)=⟨#[]⟩:=h1;refine Xi ⟨[(0,.ref 1000 0),(3,.ref 3 0)],[(3,.ro (A8 n)),(1000,.cells (srM roots C A s dec 1004 st.length)),(1001,.tok 6 s.infs.length),(1002,.tok 1 s.drv.length),(1003,.map DR (DT 0 s.infs)),(1004,.arr 1 (st.map AS))],Ab⟩ (Yi ⟨Z2,Z6,Fh,Ax (by kernel_rfl)⟩ ?_)
  refine Yi (Nz rfl) ?_;refine Xi _ (Yi (sT n.rq hq) ?_);refine Xi Ym (Xi [(1000,.cells (srM roots C A s dec 1004 st.length)),(1001,.tok 6 s.infs.length),(1002,.tok 1 s.drv.length),(1003,.map DR (DT 0 s.infs)),(1004,.arr 1 (st.map AS))] (Xi (IW roots C A (D4 s ⟨0,mt,0,n.number,0,0⟩ (Jk n.rq)).2 dec st) (Xi [.ref 1000 0,.agg [vi 0,vs ⟨#[]⟩,vi 0,vi n.number,vi 0,vi 0],sl AF (Jk n.rq)] (Xi (vi (((D4 s ⟨0,mt,0,n.number,0,0⟩ (Jk n.rq)).1:Nat):Int):AV) (Yi (fun h2 hh=>Yi ((pq (show h2 1000=.cells (srM roots C A s dec 1004 st.length)from hh 1000 (by decide)) (show h2 1001=.tok 6 s.infs.length from hh 1001 (by decide)) (show h2 1002=.tok 1 s.drv.length from hh 1002 (by decide)) (show h2 1003=.map DR (DT 0 s.infs)from hh 1003 (by decide)) (show h2 1004=.arr 1 (st.map AS)from hh 1004 (by decide))).trans rfl) rfl) (Yi (by kernel_rfl) (Yi (ky roots C A s dec st ⟨0,mt,0,n.number,0,0⟩ (Jk n.rq) hn hdl Q0) ?_)))))));refine Yi (by kernel_rfl) ?_;have ei:=bW (s:=s) h1;exact Xi _ (Yi (.refl _) (Yi (show vi (((D4 s ⟨0,mt,0,n.number,0,0⟩ (Jk n.rq)).1:Nat):Int)=vi (((Bk s n).1:Nat):Int) by rw[ei]) (show Ah (IW roots C A (D4 s ⟨0,mt,0,n.number,0,0⟩ (Jk n.rq)).2 dec st) Ab=Ah (IW roots C A (Bk s n).2 dec st) Ab by rw[ei])))
 have h1:¬(n.path:ByteArray)=⟨#[]⟩:=h1;refine Xi ⟨[(0,.ref 1000 0),(3,.ref 3 0)],[(3,.ro (A8 n)),(1000,.cells (srM roots C A s dec 1004 st.length)),(1001,.tok 6 s.infs.length),(1002,.tok 1 s.drv.length),(1003,.map DR (DT 0 s.infs)),(1004,.arr 1 (st.map AS))],Ab⟩ (Yi ⟨Z2,Z6,Fh,Ax (by kernel_rfl)⟩ ?_)
 refine Yi (Nz rfl) ?_;refine Xi _ (Yi (sU n.path n.place n.rq hp hq) ?_);refine Xi Ym (Xi [(1000,.cells (srM roots C A s dec 1004 st.length)),(1001,.tok 6 s.infs.length),(1002,.tok 1 s.drv.length),(1003,.map DR (DT 0 s.infs)),(1004,.arr 1 (st.map AS))] (Xi (IW roots C A (D4 s ⟨1,n.path,n.place,n.number,0,0⟩ (Ec n.path n.place n.rq)).2 dec st) (Xi [.ref 1000 0,.agg [vi 1,vs n.path,vi n.place,vi n.number,vi 0,vi 0],sl AF (Ec n.path n.place n.rq)] (Xi (vi (((D4 s ⟨1,n.path,n.place,n.number,0,0⟩ (Ec n.path n.place n.rq)).1:Nat):Int):AV) (Yi (fun h2 hh=>Yi ((pq (show h2 1000=.cells (srM roots C A s dec 1004 st.length)from hh 1000 (by decide)) (show h2 1001=.tok 6 s.infs.length from hh 1001 (by decide)) (show h2 1002=.tok 1 s.drv.length from hh 1002 (by decide)) (show h2 1003=.map DR (DT 0 s.infs)from hh 1003 (by decide)) (show h2 1004=.arr 1 (st.map AS)from hh 1004 (by decide))).trans rfl) rfl) (Yi (by kernel_rfl) (Yi (ky roots C A s dec st ⟨1,n.path,n.place,n.number,0,0⟩ (Ec n.path n.place n.rq) hn hdl Q0) ?_)))))));refine Yi (by kernel_rfl) ?_;have ei:=fJ (s:=s) h1;exact Xi _ (Yi (.refl _) (Yi (show vi (((D4 s ⟨1,n.path,n.place,n.number,0,0⟩ (Ec n.path n.place n.rq)).1:Nat):Int)=vi (((Bk s n).1:Nat):Int) by rw[ei]) (show Ah (IW roots C A (D4 s ⟨1,n.path,n.place,n.number,0,0⟩ (Ec n.path n.place n.rq)).2 dec st) Ab=Ah (IW roots C A (Bk s n).2 dec st) Ab by rw[ei])))
theorem s89(roots:List Rq)(C A:List (Value×AV))(s:SS)(dec:List Cd)(st:List (List Sk))(S:List Sl)(hd:s.drv.length≤65536)(ht:∀t∈s.drv,dz t)(hS:Cp S):Bd Tryz.prog 124 [.ref 1000 0,sl Ae S] (Ah (IW roots C A s dec st) Ab) fun r h'=>r=VP s.drv S∧h'=Ah (IW roots C A s dec st) Ab:=by
 refine Cm (Mo ⟨[],[],[],[],[],[],[],[],[],[],[4,6]⟩) [(1000,1000),(1001,1001),(1002,1002),(1003,1003),(1004,1004)] rfl CK hm rfl Tryz.func124 (by kernel_rfl) rfl (Nz rfl) (by kernel_rfl) rfl ?_;refine Xi {i:Nat // i≤s.drv.length∧∀j u,j<i→s.drv[j]?=some u→CA u S=false} (Xi (fun q=>⟨[(1,sl Ae S),(11,.slice (.id 1002 1) (s.drv.map B9)),(12,vi (s.drv.map B9).length),(13,vi q.1)],[(1000,.cells (srM roots C A s dec 1004 st.length)),(1001,.tok 6 s.infs.length),(1002,.tok 1 s.drv.length),(1003,.map DR (DT 0 s.infs)),(1004,.arr 1 (st.map AS))],Ab⟩) (Xi (fun q=>s.drv.length-q.1) (Yi (Xi ⟨0,AN _,fun j u h=>absurd h (Dt j)⟩ ?_) ?_)))
 ·exact⟨Z4,Z5,Fh,Ax (by kernel_rfl)⟩
 intro⟨i,i1,i2⟩;have i1:i≤s.drv.length:=i1;have i2:∀j u,j<i→s.drv[j]?=some u→CA u S=false:=i2;refine Yi (fun h1=>?_) (fun h1=>?_)
 ·have h1:(i:Int)<((s.drv.map B9).length:Int):=h1;have n1:=KZ h1;refine Xi (B9 s.drv[i]) (Yi (Pi n1) (Yi rfl ?_));refine Xi ⟨[(1,sl Ae S),(6,vi i),(7,sl AF s.drv[i]),(11,.slice (.id 1002 1) (s.drv.map B9)),(12,vi (s.drv.map B9).length),(13,vi i)],[(1000,.cells (srM roots C A s dec 1004 st.length)),(1001,.tok 6 s.infs.length),(1002,.tok 1 s.drv.length),(1003,.map DR (DT 0 s.infs)),(1004,.arr 1 (st.map AS))],Ab⟩ (Yi ⟨Z6,Z5,Fh,Ax (by kernel_rfl)⟩ ?_)
  refine BV (Bt (CA s.drv[i] S)) (fun h2=>?_) (fun h2=>?_)
  ·have h2:(CA s.drv[i] S)=true:=h2;refine Xi .pure (Xi _ (Yi (cb h2 (wx s.drv[i] S (ht _ (Aq _)) hS)) ?_));have eE:Oe s.drv S=some i:=by unfold Oe;rw[W7 (Ge n1) h2 i2,Bi]
   exact Xi _ (Yi (.refl _) (Yi (show AV.tup [vi (i:Int),vb true]=VP s.drv S by unfold VP;rw[eE];rfl) rfl))
  have h2:(CA s.drv[i] S)=false:=h2;refine Xi .pure (Xi _ (Yi (cb h2 (wx s.drv[i] S (ht _ (Aq _)) hS)) ?_));refine Xi ⟨[(1,sl Ae S),(11,.slice (.id 1002 1) (s.drv.map B9)),(12,vi (s.drv.map B9).length),(13,vi i)],[(1000,.cells (srM roots C A s dec 1004 st.length)),(1001,.tok 6 s.infs.length),(1002,.tok 1 s.drv.length),(1003,.map DR (DT 0 s.infs)),(1004,.arr 1 (st.map AS))],Ab⟩ (Yi ⟨Z4,Z5,Fh,Ax (by kernel_rfl)⟩ ?_)
  refine Yi (Ii i (by omega)) ?_;refine Xi ⟨i+1,by omega,fun j u hj hu=>by
    by_cases e:j=i
    ·subst e;rw[Ge n1]at hu;cases hu;exact h2
    ·exact i2 j u (by omega) hu⟩ ?_
  exact⟨Dl s.drv.length i (by omega),Z4,Z5,Fh,Ax (by kernel_rfl)⟩
 have h1:¬((i:Int)<((s.drv.map B9).length:Int)):=h1;have n1:=KY h1;have eE:Oe s.drv S=none:=W8 fun t ht=>by
  obtain⟨j,hj⟩:=B8.1 ht
  have:=(As.1 hj).1
  exact i2 j t (by have q:=h1;rw[Lm]at q;omega) hj
 exact Xi _ (Yi (.refl _) (Yi (show AV.tup [vi 0,vb false]=VP s.drv S by unfold VP;rw[eE];rfl) rfl))
def Ta(l:List Cd)(q:Rq):Bool:=l.any fun d=>decide (d.rel.path=q.path)&&!has q.set d.place
theorem UI{f:Rq→Nat→Nd}{P:Nd→Bool}:∀{l:List Rq} {b i:Nat} {q:Rq},l[i]?=some q→P (f q (b+i))=true→(∀k u,k<i→l[k]?=some u→P (f u (b+k))=false)→(L5 f b l).find? P=some (f q (b+i))
 | [],_,_,_,h,_,_=>by simp at h
 |u::l,b,0,q,h,he,_=>by
  cases h
  unfold L5;rw[Fl,show P (f u b)=true from he];rfl
 |u::l,b,i+1,q,h,he,hn=>by
  unfold L5;have h0:P (f u b)=false:=hn 0 u (by omega) rfl;rw[Fl,h0]
  have:=UI (f:=f) (P:=P) (l:=l) (b:=b+1) (i:=i) (q:=q) (by simpa using h) (by rw[show b+1+i=b+(i+1) by omega];exact he) (fun k v hk hv=>by
   rw[show b+1+k=b+(k+1) by omega];exact hn (k+1) v (by omega) (by simpa using hv))
  rw[show b+1+i=b+(i+1) by omega]at this;exact this
theorem On{f:Rq→Nat→Nd}{P:Nd→Bool}:∀{l:List Rq} {b:Nat},(∀k u,l[k]?=some u→P (f u (b+k))=false)→(L5 f b l).find? P=none
 | [],_,_=>rfl
 |u::l,b,h=>by
  unfold L5;have h0:P (f u b)=false:=h 0 u rfl;rw[Fl,h0];exact On fun k v hv=>by rw[show b+1+k=b+(k+1) by omega];exact h (k+1) v (by simpa using hv)
def xZ:AV:=.agg [vs ⟨#[]⟩,.v (.slice none 0 0),vs ⟨#[]⟩,vi 0,vi 0]
def mp(o:Option Nd):AV:=match o with | some n=>.tup [.agg (A8 n),vb true] | none=>.tup [xZ,vb false]
section
variable {dec:List Cd}{c:Cd}{i:Nat}
theorem dV(hi:i<c.rel.reqs.length)(hn:∀k q,k<i→c.rel.reqs[k]?=some q→Ta (dec++[c]) q=false){j:Nat}(hj:j<(dec++[c]).length)(h1:(dec++[c])[j].rel.path=c.rel.reqs[i].path)(h2:has c.rel.reqs[i].set (dec++[c])[j].place=false) :
  D1 dec c=some ⟨c.rel.reqs[i],c.rel.path,c.place,(i:Nat)⟩:=by
 have:=UI (f:=fun q i=>⟨q,c.rel.path,c.place,(i:Nat)⟩) (P:=ao (dec++[c])) (l:=c.rel.reqs) (b:=0) (i:=i) (q:=c.rel.reqs[i]) (Ge hi)
  (Ba.2 ⟨_,Aq hj,by rw[AA h1,h2];rfl⟩) (fun k u hk hu=>hn k u hk hu)
 unfold D1 PR;rw[this,Bi]
theorem dW(hn:∀(k:Nat) (q:Rq),c.rel.reqs[k]?=some q→Ta (dec++[c]) q=false):D1 dec c=none:=by
 unfold D1 PR;exact On fun k u hu=>hn k u hu
theorem fV{q:Rq}(h:∀(m:Nat) (d:Cd),(dec++[c])[m]?=some d→(decide (d.rel.path=q.path)&&!has q.set d.place)=false):Ta (dec++[c]) q=false:=by
 unfold Ta;rw[FZ];intro d hd;obtain⟨m,hm⟩:=B8.1 hd;rw[h m d hm];decide
end
theorem s87(n:Nd)(c:Cd)(hq:Cp n.rq.set):PC 121 [.agg (A8 n),.cptr (AE c)] (vb (!has n.rq.set c.place)):=by
 refine Ps ⟨[2],[],[],[],[],[],[],[],[],[],[]⟩ Tryz.func121 rfl (Nz rfl) ?_;refine BV (Bt (has n.rq.set c.place)) (fun h1=>?_) (fun h1=>?_)
 ·have h1:(has n.rq.set c.place)=true:=h1;refine Xi .pure (Xi _ (Yi (cb h1 (pf n.rq.set c.place hq)) ?_));exact .of_eq (show vb false=vb (!has n.rq.set c.place) by rw[h1];rfl)
 have h1:(has n.rq.set c.place)=false:=h1;refine Xi .pure (Xi _ (Yi (cb h1 (pf n.rq.set c.place hq)) ?_));exact .of_eq (show vb true=vb (!has n.rq.set c.place) by rw[h1];rfl)
theorem xU(roots:List Rq)(C A:List (Value×AV))(s:SS)(dec:List Cd)(st:List (List Sk))(c:Cd)(hd:dec.length≤1073741823)(hr:c.rel.reqs.length≤1073741824)(hq:∀q∈c.rel.reqs,Cp q.set):Bd Tryz.prog 125 [.ref 1000 0,.agg (AE c)] (Ah (IW roots C A s dec st) Ab) fun r h'=>r=mp (D1 dec c)∧h'=Ah (IW roots C A s dec st) Ab:=by
 have hd:dec.length≤1073741823:=hd;have hdl:(dec++[c]).length=dec.length+1:=by simp
 refine Cm (Mo ⟨[3],[],[],[],[],[],[],[],[(23,3)],[],[4,8,9]⟩) [(1000,1000),(1001,1001),(1002,1002),(1003,1003),(1004,1004)] rfl CK hm rfl Tryz.func125 (by kernel_rfl) rfl (Nz rfl) (by kernel_rfl) rfl ?_;refine Xi {i:Nat // i≤c.rel.reqs.length∧∀k q,k<i→c.rel.reqs[k]?=some q→Ta (dec++[c]) q=false} (Xi (fun q=>⟨[(0,.ref 1000 0),(3,.ref 3 0),(4,.ref 4 0),(12,sl AM c.rel.reqs),(13,vi (c.rel.reqs.map AM).length),(14,vi q.1)],[(3,.ro (AE c)),(4,.cells [vs ⟨#[]⟩,.v (.slice none 0 0),vs ⟨#[]⟩,vi 0,vi 0]),(1000,.cells (srM roots C A s dec 1004 st.length)),(1001,.tok 6 s.infs.length),(1002,.tok 1 s.drv.length),(1003,.map DR (DT 0 s.infs)),(1004,.arr 1 (st.map AS))],Ab⟩) (Xi (fun q=>c.rel.reqs.length-q.1) (Yi (Xi ⟨0,AN _,fun k q h=>absurd h (Dt k)⟩ ?_) ?_)))
 ·exact⟨Z6,Z7,Fh,Ax (by kernel_rfl)⟩
 intro⟨i,i1,i2⟩;have i1:i≤c.rel.reqs.length:=i1;have i2:∀k q,k<i→c.rel.reqs[k]?=some q→Ta (dec++[c]) q=false:=i2;refine Yi (fun h1=>?_) (fun h1=>?_)
 ·have h1:(i:Int)<((c.rel.reqs.map AM).length:Int):=h1;have n1:=KZ h1;refine Xi (AM c.rel.reqs[i]) (Yi (Pi n1) (Yi rfl ?_));refine Yi (Nz rfl) ?_;refine Yi (Nz rfl) ?_;refine Xi ⟨[(0,.ref 1000 0),(3,.ref 3 0),(4,.ref 4 0),(6,vi i),(7,.ref 7 0),(12,sl AM c.rel.reqs),(13,vi (c.rel.reqs.map AM).length),(14,vi i)],[(3,.ro (AE c)),(4,.cells [vs ⟨#[]⟩,.v (.slice none 0 0),vs ⟨#[]⟩,vi 0,vi 0]),(7,.cells (AM c.rel.reqs[i])),(1000,.cells (srM roots C A s dec 1004 st.length)),(1001,.tok 6 s.infs.length),(1002,.tok 1 s.drv.length),(1003,.map DR (DT 0 s.infs)),(1004,.arr 1 (st.map AS))],Ab⟩ (Yi ⟨Z8,Z8,Fh,Ax (by kernel_rfl)⟩ ?_)
  refine Xi _ (Xi _ (Yi (by kernel_rfl) (Yi (ri dec (A3 hd (by decide))) ?_)));refine Yi (Nz rfl) ?_;have b2:Do 10 [(AE c)]∧(dec.map AE).length=(dec.map AE).length∧((dec.map AE).length+([(AE c)]:List (List AV)).length)*128≤140737488355328∧(dec.map AE).length+([(AE c)]:List (List AV)).length≤9223372036854775807:=⟨⟨rfl,trivial⟩,rfl,(by simp only[Lm,At,AC];omega),(by simp only[Lm,At,AC];omega)⟩;refine Yi b2 ?_;refine Yi (by kernel_rfl) ?_;refine Xi {j:Nat // j≤(dec++[c]).length∧∀m d,m<j→(dec++[c])[m]?=some d→(decide (d.rel.path=c.rel.reqs[i].path)&&!has c.rel.reqs[i].set d.place)=false} (Xi (fun q=>⟨[(0,.ref 1000 0),(3,.ref 3 0),(4,.ref 4 0),(6,vi i),(7,.ref 7 0),(12,sl AM c.rel.reqs),(13,vi (c.rel.reqs.map AM).length),(14,vi i),(26,.slice (.id 12300 10) ((dec++[c]).map AE)),(27,vi ((dec++[c]).map AE).length),(28,vi q.1)],[(3,.ro (AE c)),(4,.cells [vs ⟨#[]⟩,.v (.slice none 0 0),vs ⟨#[]⟩,vi 0,vi 0]),(7,.cells (AM c.rel.reqs[i])),(1000,.cells (srM roots C A s dec 1004 st.length)),(1001,.tok 6 s.infs.length),(1002,.tok 1 s.drv.length),(1003,.map DR (DT 0 s.infs)),(1004,.arr 1 (st.map AS)),(12300,.tok 10 ((dec++[c]).map AE).length)],Ab⟩) (Xi (fun q=>(dec++[c]).length-q.1) (Yi (Xi ⟨0,AN _,fun k q h=>absurd h (Dt k)⟩ ?_) ?_)))
  ·exact⟨⟨Zr,Zr,Zr,Zr,Zr,Zr,Zr,Zr,⟨Ug,rfl⟩,⟨(show vi ((dec.map AE++[AE c]:List (List AV)).length:Int)=vi (((dec++[c]).map AE).length:Int) by rw[AH];rfl),rfl⟩,Zr,Tv⟩,⟨Zr,Zr,Zr,Zr,Zr,Zr,Zr,Zr,⟨(show HO.tok 10 ((dec.map AE).length+[AE c].length)=.tok 10 ((dec++[c]).map AE).length by simp),rfl⟩,Tv⟩,Fh,Ax (by kernel_rfl)⟩
  intro⟨j,j1,j2⟩;have j1:j≤(dec++[c]).length:=j1;have j2:∀m d,m<j→(dec++[c])[m]?=some d→(decide (d.rel.path=c.rel.reqs[i].path)&&!has c.rel.reqs[i].set d.place)=false:=j2;refine Yi (fun h3=>?_) (fun h3=>?_)
  ·have h3:(j:Int)<(((dec++[c]).map AE).length:Int):=h3;have n3:=KZ h3;refine Xi (AE ((dec++[c])[j])) (Yi (Pi n3) (Yi rfl ?_));refine Yi (Nz rfl) ?_;refine Yi (Nz rfl) ?_;refine Yi (fun h4=>?_) (fun h4=>?_)
   ·have h4:(((dec++[c])[j]).rel.path:ByteArray)=c.rel.reqs[i].path:=h4;refine BV (Bt (has c.rel.reqs[i].set (dec++[c])[j].place)) (fun h5=>?_) (fun h5=>?_)
    ·have h5:(has c.rel.reqs[i].set (dec++[c])[j].place)=true:=h5;refine Xi .pure (Xi _ (Yi (cb h5 (pf c.rel.reqs[i].set (dec++[c])[j].place (hq _ (Aq _)))) ?_));refine Xi ⟨[(0,.ref 1000 0),(3,.ref 3 0),(4,.ref 4 0),(6,vi i),(7,.ref 7 0),(12,sl AM c.rel.reqs),(13,vi (c.rel.reqs.map AM).length),(14,vi i),(26,.slice (.id 12300 10) ((dec++[c]).map AE)),(27,vi ((dec++[c]).map AE).length),(28,vi j)],[(3,.ro (AE c)),(4,.cells [vs ⟨#[]⟩,.v (.slice none 0 0),vs ⟨#[]⟩,vi 0,vi 0]),(7,.cells (AM c.rel.reqs[i])),(1000,.cells (srM roots C A s dec 1004 st.length)),(1001,.tok 6 s.infs.length),(1002,.tok 1 s.drv.length),(1003,.map DR (DT 0 s.infs)),(1004,.arr 1 (st.map AS)),(12300,.tok 10 ((dec++[c]).map AE).length)],Ab⟩ (Yi ⟨Z11,Z9,Fh,Ax (by kernel_rfl)⟩ ?_)
     refine Yi (Ii j (by omega)) ?_;refine Xi ⟨j+1,by omega,fun m d hm hd=>by
       by_cases e:m=j
       ·subst e;rw[Ge n3]at hd;cases hd;exact by rw[h5];simp
       ·exact j2 m d (by omega) hd⟩ ?_
     exact⟨by show(dec++[c]).length-(j+1)<(dec++[c]).length-j;omega,Z11,Z9,Fh,Ax (by kernel_rfl)⟩
    have h5:(has c.rel.reqs[i].set (dec++[c])[j].place)=false:=h5;refine Xi .pure (Xi _ (Yi (cb h5 (pf c.rel.reqs[i].set (dec++[c])[j].place (hq _ (Aq _)))) ?_));refine Xi ⟨[(3,.ref 3 0),(4,.ref 4 0),(6,vi i),(7,.ref 7 0)],[(3,.ro (AE c)),(4,.cells [vs ⟨#[]⟩,.v (.slice none 0 0),vs ⟨#[]⟩,vi 0,vi 0]),(7,.cells (AM c.rel.reqs[i])),(1000,.cells (srM roots C A s dec 1004 st.length)),(1001,.tok 6 s.infs.length),(1002,.tok 1 s.drv.length),(1003,.map DR (DT 0 s.infs)),(1004,.arr 1 (st.map AS))],Ab⟩ (Yi ⟨Z4,Z8,Fh,Ax (by kernel_rfl)⟩ ?_)
    refine Yi (Nz rfl) ?_;refine Yi (Nz rfl) ?_;refine Yi (Nz rfl) ?_;have eC:=dV (dec:=dec) (c:=c) n1 i2 n3 h4 h5;exact Xi _ (Yi (.refl _) (Yi (show AV.tup [.agg (A8 ⟨c.rel.reqs[i],c.rel.path,c.place,(i:Nat)⟩),vb true]=mp (D1 dec c) by rw[eC];rfl) rfl))
   have h4:¬(((dec++[c])[j]).rel.path:ByteArray)=c.rel.reqs[i].path:=h4;refine Xi ⟨[(0,.ref 1000 0),(3,.ref 3 0),(4,.ref 4 0),(6,vi i),(7,.ref 7 0),(12,sl AM c.rel.reqs),(13,vi (c.rel.reqs.map AM).length),(14,vi i),(26,.slice (.id 12300 10) ((dec++[c]).map AE)),(27,vi ((dec++[c]).map AE).length),(28,vi j)],[(3,.ro (AE c)),(4,.cells [vs ⟨#[]⟩,.v (.slice none 0 0),vs ⟨#[]⟩,vi 0,vi 0]),(7,.cells (AM c.rel.reqs[i])),(1000,.cells (srM roots C A s dec 1004 st.length)),(1001,.tok 6 s.infs.length),(1002,.tok 1 s.drv.length),(1003,.map DR (DT 0 s.infs)),(1004,.arr 1 (st.map AS)),(12300,.tok 10 ((dec++[c]).map AE).length)],Ab⟩ (Yi ⟨Z11,Z9,Fh,Ax (by kernel_rfl)⟩ ?_)
   refine Yi (Ii j (by omega)) ?_;refine Xi ⟨j+1,by omega,fun m d hm hd=>by
     by_cases e:m=j
     ·subst e;rw[Ge n3]at hd;cases hd;exact by rw[Ap h4];rfl
     ·exact j2 m d (by omega) hd⟩ ?_
   exact⟨by show(dec++[c]).length-(j+1)<(dec++[c]).length-j;omega,Z11,Z9,Fh,Ax (by kernel_rfl)⟩
  have h3:¬((j:Int)<(((dec++[c]).map AE).length:Int)):=h3;have n3:=KY h3;refine Yi (Ii i (by omega)) ?_;have zn:Ta (dec++[c]) c.rel.reqs[i]=false:=fV fun m d hd=>j2 m d (by have:=(As.1 hd).1;have q:=h3;rw[Lm]at q;omega) hd;refine Xi ⟨i+1,by omega,fun k q hk un=>by
    by_cases e:k=i
    ·subst e;rw[Ge n1]at un;cases un;exact zn
    ·exact i2 k q (by omega) un⟩ ?_
  exact⟨Dl c.rel.reqs.length i (by omega),Z6,Z7,Fh,Ax (by kernel_rfl)⟩
 have h1:¬((i:Int)<((c.rel.reqs.map AM).length:Int)):=h1;have n1:=KY h1;refine Yi (Nz rfl) ?_;refine Yi (Nz rfl) ?_;have eC:=dW (dec:=dec) (c:=c) fun k q hk=>i2 k q (by have:=(As.1 hk).1;have q:=h1;rw[Lm]at q;omega) hk;exact Xi _ (Yi (.refl _) (Yi (show AV.tup [xZ,vb false]=mp (D1 dec c) by rw[eC];rfl) rfl))
theorem Oc{x:List Rl}{roots:List Rq}{l0:List Nf}:∀{l:List Nf} {d d' : List (List Tm)},(∀i∈l,i∈l0)→(∀t∈d,Ui (JY x roots l0) t)→Dd x roots l d=some d'→∀t∈d',Ui (JY x roots l0) t
 | [],d,d',_,hd,h=>by cases h;exact hd
 |i::l,d,d',hl,hd,h=>by
  unfold Dd at h;cases hi:DO x roots d i with
  |none=>rw[hi]at h;cases h
  |some t =>
   rw[hi]at h;refine Oc (fun j hj=>hl j (Af _ hj)) (fun u hu=>?_) h;rcases A6.1 hu with hu | hu
   ·exact hd u hu
   ·rw[Al.1 hu];exact bX (hl i (Aa ..)) hd hi
section
variable {x:List Rl}{roots:List Rq}{s:SS}
theorem Fe.few(hx:Bb x=0)(hr:BR roots=0)(h:Fe x roots s):∀t∈s.drv,lN t:=fun t ht =>
 (Oc (l0:=s.infs) (fun _ h=>h) (fun _ h=>by cases h) h.der t ht).fewI (Zn hx hr h.len)
theorem HM{i:Nf}{l:List Tm}(h:s.infs.Nodup):(D4 s i l).2.infs.Nodup:=by
 cases hk:Lv i 0 s.infs with
 |some k=>rw[WL hk];exact h
 |none =>
  by_cases hf:65536≤s.infs.length
  ·rw[Um hk hf];exact h
  ·rw[WK hk hf];show(s.infs++[i]).Nodup;rw[F0];refine⟨h,by simp,fun a ha b hb e=>?_⟩;rw[Al.1 hb]at e;exact PO hk (e▸ha)
theorem Jr.add(h:Jr x roots s){i:Nf}{l:List Tm}(hi:DO x roots s.drv i=some l):Jr x roots (D4 s i l).2∧(D4 s i l).1<(D4 s i l).2.drv.length∧s.drv.length≤(D4 s i l).2.drv.length :=
 ⟨⟨(Kd h.der hi).1,HM h.nodup⟩,(Kd h.der hi).2.1,(Ke s i l).len⟩
theorem Jr.dl(h:Jr x roots s):s.infs.length≤65536∧s.drv.length=s.infs.length∧s.drv.length≤65536:=by
 have h1:=h.der.dlen;have h2:=h.der.len;exact⟨h2,h1,by omega⟩
theorem gg(hx:Bb x=0)(p:ByteArray):∀d,DO x roots d ⟨2,p,0,0,0,0⟩=some (HJ p (B7 x p)):=fun d=>by
 obtain⟨u,u0,u1,hu⟩:=aP hx p;have hV:FU []:=fun _ h=>by cases h
 have ou:WG [] p (JX [] p (Pc u)):=.ver hV (EP ⟨u0,u1⟩);have h1:Bf [(⟨p,false,Ed (B7 x p)⟩:Tm)] (JX [] p (Pc u))=true:=by
  rw[BA];intro t ht;rw[Al.1 ht];show Dh _ (Ca (JX [] p (Pc u)) p)=true;rw[H2 rfl];show(CL (Pc u)&&has (Ed (B7 x p)) (place (Pc u)))=true;rw[EP ⟨u0,u1⟩,GV,Fx,hu];unfold Lt;simp[u0,u1]
 have h2:Bf [(⟨p,false,Ed (B7 x p)⟩:Tm)] []=false:=rfl;have Dz:HJ p (B7 x p)≠[]:=by
  have c1:=CX (l:=[(⟨p,false,Ed (B7 x p)⟩:Tm)]) ou.val;have c2:=CX (l:=[(⟨p,false,Ed (B7 x p)⟩:Tm)]) hV;rw[h1]at c1;rw[h2]at c2;unfold HJ PM;cases hc:CN [(⟨p,false,Ed (B7 x p)⟩:Tm)]with
  |none=>rw[hc]at c1;cases c1
  |some c =>
   rw[hc]at c2;intro e;have e:c=[]:=e;rw[e]at c2;cases c2
 unfold DO;rw[Ak (show ¬((2:Int)=0) by decide),Ak (show ¬((2:Int)=1) by decide),Aw rfl,Aw ⟨rfl,rfl,rfl,rfl⟩];unfold cj;rw[Ak (by rw[GE];exact Dz)]
theorem EQ{k:Nat}(h:k<s.drv.length):s.drv[k]?=some (DK s k):=by
 unfold DK;rw[Ci,Ge h];rfl
theorem SV{p:ByteArray}{L:List Nat}{j k:Nat}(hj:j<L.length)(h:s.full=true∨CZ (DK s k) p=false):Ck p (L.drop j) k s=(k,s):=by
 rw[Br hj];unfold Ck;rw[Aw h]
theorem Y6{p:ByteArray}{L:List Nat}{j k:Nat}(hj:j<L.length)(h1:¬(s.full=true∨CZ (DK s k) p=false))(h:L[j]=k):Ck p (L.drop j) k s=Ck p (L.drop (j+1)) k s:=by
 rw[Br hj]
 conv=>lhs;unfold Ck
 rw[Ak h1,Aw h]
theorem ce{p:ByteArray}{L:List Nat}{j k:Nat}(hj:j<L.length)(h1:¬(s.full=true∨CZ (DK s k) p=false))(h2:¬L[j]=k)(h:(Bv (DK s k) (DK s L[j]) p).2≠0):Ck p (L.drop j) k s=Ck p (L.drop (j+1)) k s:=by
 rw[Br hj]
 conv=>lhs;unfold Ck
 rw[Ak h1,Ak h2,Aw h]
theorem cd{p:ByteArray}{L:List Nat}{j k:Nat}(hj:j<L.length)(h1:¬(s.full=true∨CZ (DK s k) p=false))(h2:¬L[j]=k)(h:(Bv (DK s k) (DK s L[j]) p).2=0) :
  Ck p (L.drop j) k s=Ck p (L.drop (j+1)) (D4 s ⟨3,p,0,0,(k:Nat),(L[j]:Nat)⟩ (Bv (DK s k) (DK s L[j]) p).1).1 (D4 s ⟨3,p,0,0,(k:Nat),(L[j]:Nat)⟩ (Bv (DK s k) (DK s L[j]) p).1).2:=by
 rw[Br hj]
 conv=>lhs;unfold Ck
 rw[Ak h1,Ak h2,Ak (fun h3=>h3 h)]
end
theorem EZ{t:List Tm}(h:lN t):Cp t:=by have:=h.1;unfold Cp;omega
theorem xV(x:List Rl)(roots:List Rq)(C A:List (Value×AV))(s:SS)(dec:List Cd)(st:List (List Sk))(p:ByteArray)(n:Nd)(rs:List Nat)(V:AV)(hx:Bb x=0)(hr:BR roots=0)(hs:Jr x roots s)(mP:∀d,DO x roots d (SM n)=some (IR n))(rT:∀r∈rs,r<s.drv.length)(Wz:rs.length≤1073741823)(hnq:Cp n.rq.set)(hnp:B1 (n.place+1))
  (pD:∀a,(Value.string p,a)∈A→a=V) (pE:(∀a,(Value.string p,a)∉A)→V=.v (.slice none 0 0)) (pF:∀h,PC 160 [vs p,str h V] (sl AF (HJ p (B7 x p)))):Bd Tryz.prog 128 [.ref 1000 0,vs p,.agg (A8 n),sl BM rs] (Ah (IW roots C A s dec st) Ab) fun r h'=>lL roots C A dec st (DX x p n rs s) r h':=by
 have hw:=hs.dl;obtain⟨rU,tX,T4⟩:=hs.add (mP s.drv)
 change Jr x roots (Bk s n).2 at rU
 change (Bk s n).1<(Bk s n).2.drv.length at tX
 change s.drv.length≤(Bk s n).2.drv.length at T4
 have KD:=rU.dl;obtain⟨oq,Im,fh⟩:=rU.add (gg hx p (Bk s n).2.drv)
 change Jr x roots (Ee x p (Bk s n).2).2 at oq
 change (Ee x p (Bk s n).2).1<(Ee x p (Bk s n).2).2.drv.length at Im
 change (Bk s n).2.drv.length≤(Ee x p (Bk s n).2).2.drv.length at fh
 obtain⟨L,hL⟩:∃L,L=(Ee x p (Bk s n).2).1::rs:=⟨_,rfl⟩;have yG:∀r∈L,r<(Ee x p (Bk s n).2).2.drv.length:=fun r mW=>by
  rw[hL]at mW;rcases Au.1 mW with rfl | h
  ·exact Im
  ·have:=rT r h;omega
 have wI:L.length=rs.length+1:=by rw[hL];rfl
 have tX:(Bk s n).1<(Ee x p (Bk s n).2).2.drv.length:=by omega
 refine Cm (Mo ⟨[6],[],[],[],[],[],[],[],[],[],[2,3,7,8,10,12]⟩) [(1000,1000),(1001,1001),(1002,1002),(1003,1003),(1004,1004)] rfl CK hm rfl Tryz.func128 (by kernel_rfl) rfl (Nz rfl) (by kernel_rfl) rfl ?_;refine Yi (Nz rfl) ?_;refine Xi (.gen Ym 0) (Yi rfl (Bd.imp (wh roots C A s dec st n hw.1 hw.2.1 hs.nodup hnq hnp) ?_));intro v1 g1 q1;have gN:=q1.1;have gO:=q1.2;subst gN;subst gO;refine Xi ⟨[(0,.ref 1000 0),(1,vs p),(3,sl BM rs),(9,vi (((Bk s n).1:Nat):Int))],[(1000,.cells [sl AM roots,.cmap C3 C,.cmap C3 A,.slice (.id 1001 6) ((Bk s n).2.infs.map BW),.slice (.id 1002 1) ((Bk s n).2.drv.map B9),.mref 1003,vb (Bk s n).2.full,sl AE dec,sl Ae (AK dec),.msl 1004 st.length]),(1001,.tok 6 (Bk s n).2.infs.length),(1002,.tok 1 (Bk s n).2.drv.length),(1003,.map DR (DT 0 (Bk s n).2.infs)),(1004,.arr 1 (st.map AS))],Ab⟩ (Yi ⟨Z4,Z5,Fh,Ax (by kernel_rfl)⟩ ?_)
 refine Ow V (.v (.slice none 0 0)) pD pE (fun h=>h) ?_;refine Xi .pure (Xi _ (Yi (pF _) ?_));refine Xi (.gen Ym 0) (Yi rfl (Bd.imp (ky roots C A (Bk s n).2 dec st ⟨2,p,0,0,0,0⟩ (HJ p (B7 x p)) KD.1 KD.2.1 rU.nodup) ?_));intro v2 g2 q2;have vw:=q2.1;have vz:=q2.2;subst vw;subst vz;refine Xi ⟨[(0,.ref 1000 0),(1,vs p),(3,sl BM rs),(9,vi (((Bk s n).1:Nat):Int)),(10,vi (((Ee x p (Bk s n).2).1:Nat):Int))],[(1000,.cells [sl AM roots,.cmap C3 C,.cmap C3 A,.slice (.id 1001 6) ((Ee x p (Bk s n).2).2.infs.map BW),.slice (.id 1002 1) ((Ee x p (Bk s n).2).2.drv.map B9),.mref 1003,vb (Ee x p (Bk s n).2).2.full,sl AE dec,sl Ae (AK dec),.msl 1004 st.length]),(1001,.tok 6 (Ee x p (Bk s n).2).2.infs.length),(1002,.tok 1 (Ee x p (Bk s n).2).2.drv.length),(1003,.map DR (DT 0 (Ee x p (Bk s n).2).2.infs)),(1004,.arr 1 (st.map AS))],Ab⟩ (Yi ⟨Z5,Z5,Fh,Ax (by kernel_rfl)⟩ ?_)
 have b3:Do 1 (rs.map BM)∧([[vi (((Ee x p (Bk s n).2).1:Nat):Int)]]:List (List AV)).length=1∧(([[vi (((Ee x p (Bk s n).2).1:Nat):Int)]]:List (List AV)).length+(rs.map BM).length)*8≤140737488355328∧([[vi (((Ee x p (Bk s n).2).1:Nat):Int)]]:List (List AV)).length+(rs.map BM).length≤9223372036854775807:=⟨(Eu (enc:=BM) (n:=1) (fun _=>rfl) rs),(by first | (simp;done) | (rw[Lm];assumption)),(by simp only[Lm,At,AC];omega),(by simp only[Lm,At,AC];omega)⟩
 refine Yi b3 ?_;refine Xi {q:Nat×Nat×SS // q.1≤L.length∧Ck p (L.drop q.1) q.2.1 q.2.2=Ck p L (Bk s n).1 (Ee x p (Bk s n).2).2∧Jr x roots q.2.2∧q.2.1<q.2.2.drv.length∧∀r∈L,r<q.2.2.drv.length} (Xi (fun q=>⟨[(0,.ref 1000 0),(1,vs p),(9,vi q.1.2.1),(33,.slice (.id 31 1) (L.map BM)),(34,vi (L.map BM).length),(35,vi q.1.1)],[(31,.tok 1 (L.map BM).length),(1000,.cells (srM roots C A q.1.2.2 dec 1004 st.length)),(1001,.tok 6 q.1.2.2.infs.length),(1002,.tok 1 q.1.2.2.drv.length),(1003,.map DR (DT 0 q.1.2.2.infs)),(1004,.arr 1 (st.map AS))],Ab⟩) (Xi (fun q=>L.length-q.1.1) (Yi (Xi ⟨(0,(Bk s n).1,(Ee x p (Bk s n).2).2),AN _,by rw[List.drop_zero],oq,tX,yG⟩ ?_) ?_)))
 ·exact⟨⟨Zr,Zr,Zr,⟨(show AV.slice (.id 31 1) ([[vi (((Ee x p (Bk s n).2).1:Nat):Int)]]++rs.map BM)=.slice (.id 31 1) (L.map BM) by rw[hL];rfl),rfl⟩,⟨(show vi (([[vi (((Ee x p (Bk s n).2).1:Nat):Int)]]++rs.map BM:List (List AV)).length:Int)=vi ((L.map BM).length:Int) by rw[hL];rfl),rfl⟩,Zr,Tv⟩,⟨⟨(show HO.tok 1 (([[vi (((Ee x p (Bk s n).2).1:Nat):Int)]]:List (List AV)).length+(rs.map BM).length)=.tok 1 (L.map BM).length by rw[hL];simp[Nat.add_comm]),rfl⟩,Zr,Zr,Zr,Zr,Zr,Tv⟩,Fh,Ax (by kernel_rfl)⟩
 intro⟨⟨j,k,S⟩,j1,j2,j3,j4,j5⟩;have j1:j≤L.length:=j1;have j2:Ck p (L.drop j) k S=Ck p L (Bk s n).1 (Ee x p (Bk s n).2).2:=j2;have j3:Jr x roots S:=j3;have j4:k<S.drv.length:=j4;have j5:∀r∈L,r<S.drv.length:=j5;have xq:=j3.dl;have rK:=j3.der.few hx hr;have gk:S.drv[k]?=some (DK S k):=EQ j4;refine Yi (fun h4=>?_) (fun h4=>?_)
 ·have h4:(j:Int)<((L.map BM).length:Int):=h4;have n4:=KZ h4;refine Xi (BM L[j]) (Yi (Pi n4) (Yi rfl ?_));refine Yi (fun h5=>?_) (fun h5=>?_)
  ·have h5:S.full=true:=h5;refine Xi ⟨[(9,vi k)],[(1000,.cells (srM roots C A S dec 1004 st.length)),(1001,.tok 6 S.infs.length),(1002,.tok 1 S.drv.length),(1003,.map DR (DT 0 S.infs)),(1004,.arr 1 (st.map AS))],Ab⟩ (Yi ⟨Z1,Z5,Fh,Ax (by kernel_rfl)⟩ ?_)
   have eR:Ck p L (Bk s n).1 (Ee x p (Bk s n).2).2=(k,S):=by rw[←j2];exact SV n4 (.inl h5)
   have eL:DX x p n rs s=(k,S):=by unfold DX;rw[←hL];exact eR
   exact Xi _ (Yi (.refl _) (Yi (show vi (k:Int)=vi (((DX x p n rs s).1:Nat):Int) by rw[eL]) (show Ah (IW roots C A S dec st) Ab=Ah (IW roots C A (DX x p n rs s).2 dec st) Ab by rw[eL])))
  have h5:S.full=false:=h5;refine Xi (B9 (DK S k)) (Yi (Yi (Nn k) (Cf gk)) (Yi rfl ?_));refine BV (Bt (CZ (DK S k) p)) (fun h7=>?_) (fun h7=>?_)
  ·have h7:(CZ (DK S k) p)=true:=h7;refine Xi .pure (Xi _ (Yi (cb h7 (iJ (DK S k) p (EZ (rK _ (Av (EQ j4)))))) ?_));refine Xi ⟨[(0,.ref 1000 0),(1,vs p),(9,vi k),(12,vi (L[j]:Nat)),(33,.slice (.id 31 1) (L.map BM)),(34,vi (L.map BM).length),(35,vi j)],[(31,.tok 1 (L.map BM).length),(1000,.cells (srM roots C A S dec 1004 st.length)),(1001,.tok 6 S.infs.length),(1002,.tok 1 S.drv.length),(1003,.map DR (DT 0 S.infs)),(1004,.arr 1 (st.map AS))],Ab⟩ (Yi ⟨Z7,Z6,Fh,Ax (by kernel_rfl)⟩ ?_)
   refine Yi (fun h8=>?_) (fun h8=>?_)
   ·have h8:((L[j]:Nat):Int)=(k:Int):=h8;refine Xi ⟨[(0,.ref 1000 0),(1,vs p),(9,vi k),(33,.slice (.id 31 1) (L.map BM)),(34,vi (L.map BM).length),(35,vi j)],[(31,.tok 1 (L.map BM).length),(1000,.cells (srM roots C A S dec 1004 st.length)),(1001,.tok 6 S.infs.length),(1002,.tok 1 S.drv.length),(1003,.map DR (DT 0 S.infs)),(1004,.arr 1 (st.map AS))],Ab⟩ (Yi ⟨Z6,Z6,Fh,Ax (by kernel_rfl)⟩ ?_)
    refine Yi (Ii j (by omega)) ?_;refine Xi ⟨(j+1,k,S),Fg n4,by rw[←(Y6 (s:=S) (p:=p) (L:=L) (j:=j) (k:=k) n4 (by rw[h5,h7];simp) (by have q:=h8;omega))];exact j2,j3,j4,j5⟩ ?_;exact⟨Dl L.length j (by omega),Z6,Z6,Fh,Ax (by kernel_rfl)⟩
   have h8:¬(((L[j]:Nat):Int)=(k:Int)):=h8;refine Xi (B9 (DK S k)) (Yi (Yi (Nn k) (Cf gk)) (Yi rfl ?_));refine Xi (B9 (DK S L[j])) (Yi (Yi (show(0:Int)≤(L[j]:Nat) by omega) (Cf (EQ (j5 _ (Aq n4))))) (Yi rfl ?_));have fk:=rK _ (Av (EQ j4));have fr:=rK _ (Av (EQ (j5 _ (Aq n4))));refine Xi _ (Yi (sW (DK S k) (DK S L[j]) p fk.1 fr.1 fk.2 fr.2) ?_);refine Yi (by kernel_rfl) ?_;refine Xi ⟨[(0,.ref 1000 0),(1,vs p),(9,vi k),(12,vi (L[j]:Nat)),(13,sl AF (Bv (DK S k) (DK S L[j]) p).1),(14,vi (Bv (DK S k) (DK S L[j]) p).2),(33,.slice (.id 31 1) (L.map BM)),(34,vi (L.map BM).length),(35,vi j)],[(31,.tok 1 (L.map BM).length),(1000,.cells (srM roots C A S dec 1004 st.length)),(1001,.tok 6 S.infs.length),(1002,.tok 1 S.drv.length),(1003,.map DR (DT 0 S.infs)),(1004,.arr 1 (st.map AS))],Ab⟩ (Yi ⟨Z9,Z6,Fh,Ax (by kernel_rfl)⟩ ?_)
   refine Yi (fun Sr=>?_) (fun Sr=>?_)
   ·have Sr:((Bv (DK S k) (DK S L[j]) p).2:Int)≠(0:Int):=Sr;refine Xi ⟨[(0,.ref 1000 0),(1,vs p),(9,vi k),(33,.slice (.id 31 1) (L.map BM)),(34,vi (L.map BM).length),(35,vi j)],[(31,.tok 1 (L.map BM).length),(1000,.cells (srM roots C A S dec 1004 st.length)),(1001,.tok 6 S.infs.length),(1002,.tok 1 S.drv.length),(1003,.map DR (DT 0 S.infs)),(1004,.arr 1 (st.map AS))],Ab⟩ (Yi ⟨Z6,Z6,Fh,Ax (by kernel_rfl)⟩ ?_)
    refine Yi (Ii j (by omega)) ?_;refine Xi ⟨(j+1,k,S),Fg n4,by rw[←(ce (s:=S) (p:=p) (L:=L) (j:=j) (k:=k) n4 (by rw[h5,h7];simp) (by have q:=h8;omega) Sr)];exact j2,j3,j4,j5⟩ ?_;exact⟨Dl L.length j (by omega),Z6,Z6,Fh,Ax (by kernel_rfl)⟩
   have Sr:((Bv (DK S k) (DK S L[j]) p).2:Int)=(0:Int):=Bq Sr;refine Xi (.gen Ym 0) (Yi rfl (Bd.imp (ky roots C A S dec st ⟨3,p,0,0,(k:Nat),(L[j]:Nat)⟩ (Bv (DK S k) (DK S L[j]) p).1 xq.1 xq.2.1 j3.nodup) ?_));intro v12 g12 kq;have nB:=kq.1;have nC:=kq.2;subst nB;subst nC;refine Xi ⟨[(0,.ref 1000 0),(1,vs p),(9,vi (((D4 S ⟨3,p,0,0,(k:Nat),(L[j]:Nat)⟩ (Bv (DK S k) (DK S L[j]) p).1).1:Nat):Int)),(33,.slice (.id 31 1) (L.map BM)),(34,vi (L.map BM).length),(35,vi j)],[(31,.tok 1 (L.map BM).length),(1000,.cells [sl AM roots,.cmap C3 C,.cmap C3 A,.slice (.id 1001 6) ((D4 S ⟨3,p,0,0,(k:Nat),(L[j]:Nat)⟩ (Bv (DK S k) (DK S L[j]) p).1).2.infs.map BW),.slice (.id 1002 1) ((D4 S ⟨3,p,0,0,(k:Nat),(L[j]:Nat)⟩ (Bv (DK S k) (DK S L[j]) p).1).2.drv.map B9),.mref 1003,vb (D4 S ⟨3,p,0,0,(k:Nat),(L[j]:Nat)⟩ (Bv (DK S k) (DK S L[j]) p).1).2.full,sl AE dec,sl Ae (AK dec),.msl 1004 st.length]),(1001,.tok 6 (D4 S ⟨3,p,0,0,(k:Nat),(L[j]:Nat)⟩ (Bv (DK S k) (DK S L[j]) p).1).2.infs.length),(1002,.tok 1 (D4 S ⟨3,p,0,0,(k:Nat),(L[j]:Nat)⟩ (Bv (DK S k) (DK S L[j]) p).1).2.drv.length),(1003,.map DR (DT 0 (D4 S ⟨3,p,0,0,(k:Nat),(L[j]:Nat)⟩ (Bv (DK S k) (DK S L[j]) p).1).2.infs)),(1004,.arr 1 (st.map AS))],Ab⟩ (Yi ⟨Z6,Z6,Fh,Ax (by kernel_rfl)⟩ ?_)
   refine Yi (Ii j (by omega)) ?_;obtain⟨a1,a2,a3⟩:=j3.add (US (x:=x) (roots:=roots) (p:=p) j4 (j5 _ (Aq n4)) Sr);refine Xi ⟨(j+1,(D4 S ⟨3,p,0,0,(k:Nat),(L[j]:Nat)⟩ (Bv (DK S k) (DK S L[j]) p).1).1,(D4 S ⟨3,p,0,0,(k:Nat),(L[j]:Nat)⟩ (Bv (DK S k) (DK S L[j]) p).1).2),Fg n4,by rw[←(cd (s:=S) (p:=p) (L:=L) (j:=j) (k:=k) n4 (by rw[h5,h7];simp) (by have q:=h8;omega) Sr)];exact j2,a1,a2,fun r hr=>BH (j5 r hr) a3⟩ ?_;exact⟨Dl L.length j (by omega),Z6,Z6,Fh,Ax (by kernel_rfl)⟩
  have h7:(CZ (DK S k) p)=false:=h7;refine Xi .pure (Xi _ (Yi (cb h7 (iJ (DK S k) p (EZ (rK _ (Av (EQ j4)))))) ?_));refine Xi ⟨[(9,vi k)],[(1000,.cells (srM roots C A S dec 1004 st.length)),(1001,.tok 6 S.infs.length),(1002,.tok 1 S.drv.length),(1003,.map DR (DT 0 S.infs)),(1004,.arr 1 (st.map AS))],Ab⟩ (Yi ⟨Z1,Z5,Fh,Ax (by kernel_rfl)⟩ ?_)
  have eR:Ck p L (Bk s n).1 (Ee x p (Bk s n).2).2=(k,S):=by rw[←j2];exact SV n4 (.inr h7)
  have eL:DX x p n rs s=(k,S):=by unfold DX;rw[←hL];exact eR
  exact Xi _ (Yi (.refl _) (Yi (show vi (k:Int)=vi (((DX x p n rs s).1:Nat):Int) by rw[eL]) (show Ah (IW roots C A S dec st) Ab=Ah (IW roots C A (DX x p n rs s).2 dec st) Ab by rw[eL])))
 have h4:¬((j:Int)<((L.map BM).length:Int)):=h4;have n4:=KY h4;have hj:¬j<L.length:=by have q:=h4;rw[Lm]at q;omega
 have eR:Ck p L (Bk s n).1 (Ee x p (Bk s n).2).2=(k,S):=by rw[←j2,G8 (by omega)];rfl
 have eL:DX x p n rs s=(k,S):=by unfold DX;rw[←hL];exact eR
 exact Xi _ (Yi (.refl _) (Yi (show vi (k:Int)=vi (((DX x p n rs s).1:Nat):Int) by rw[eL]) (show Ah (IW roots C A S dec st) Ab=Ah (IW roots C A (DX x p n rs s).2 dec st) Ab by rw[eL])))
end Go.Eng
