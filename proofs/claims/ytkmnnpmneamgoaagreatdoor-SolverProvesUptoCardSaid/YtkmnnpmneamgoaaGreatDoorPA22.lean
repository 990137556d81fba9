/- Lemmas 22. -/
import Derived.Test.YtkmnnpmneamgoaaGreatDoorPA20
import Derived.Test.YtkmnnpmneamgoaaGreatDoorPA03
set_option maxHeartbeats 4000000
namespace Go.Eng
open Go.Proofs
variable {α:Type}{f:α->List AV}{k:Nat}{i:Nf}{caps:List AV}{l:List Nf}{Y:Gh->World->Prop}{j fF:Nat}{args:List AV}{O:List α}{b:Bool}(roots:List Rq)(C A:List (Value×AV))(s:SS)(dec:List Cd)(st:List (List Sk))(c:Cd)(S:List Sl)(m:Nat)(p:ByteArray)(n:Nd)
abbrev At:List AV:=vi c.place::Am c.rel
abbrev AU:List AV:=[vs n.rq.path,sl Ab n.rq.set,vs n.path,vi n.place,vi n.number]
abbrev A5(l:List Sk):List AV:=[sl AN l]
abbrev Cs(i:Nat):List AV:=[vi (i:Nat)]
def Eh:EL:=⟨true,[.int .i64,.str,.int .i64,.int .i64,.int .i64,.int .i64]⟩
def LU(i:Nf):Value:=.agg [.int .i64 i.kind,.string i.path,.int .i64 i.place,.int .i64 i.number,.int .i64 i.left,.int .i64 i.right].toArray
def FP:Nat->List Nf->List (Value×AV)
 |_,[]=>[]
 |k,i::l=>(LU i,vi (k:Nat))::FP (k+1) l
abbrev PS(n:Nat):List AV:=
 [sl Ac roots,.cmap Cv C,.cmap Cv A,.slice (.id 1001 6) (s.infs.map AG),.slice (.id 1002 1) (s.drv.map Aq),.mref 1003,vb s.full,sl At dec,sl Ag (Au dec),.msl 1004 n]
abbrev srM(k n:Nat):List AV:=
 [sl Ac roots,.cmap Cv C,.cmap Cv A,.slice (.id 1001 6) (s.infs.map AG),.slice (.id 1002 1) (s.drv.map Aq),.mref 1003,vb s.full,sl At dec,sl Ag (Au dec),.msl k n]
abbrev Ie:List (Nat×HO):=
 [(1000,.cells (PS roots C A s dec st.length)),(1001,.tok 6 s.infs.length),(1002,.tok 1 s.drv.length),(1003,.map Eh (FP 0 s.infs)),(1004,.arr 1 (st.map A5))]
theorem AdK(hs:DP caps)(l:List (Cd))(p:Cd->Bool)(hF:∀x∈l,PC fF ([.agg (At x)]++caps) (vb (p x)))(hl:l.length<9223372036854775807) :
  PC 217 [sl At l,.clo fF caps] (vi (KJ p l 0)):=by
 refine Ps De Tryz.func217 rfl (Nz rfl) (Xi {i:Nat // i<=l.length/\∀j (hj:j<l.length),j<i->p l[j]=false} (Xi (fun i=>⟨[(0,sl At l),(1,.clo fF caps),(7,vi (l.map At).length),(8,vi i.1)],[],Ae⟩) (Xi (fun i=>l.length-i.1) (Yi (Xi ⟨0,by simp⟩ ?_) ?_))))
 .exact⟨⟨Zr,⟨rfl,hs.ids _⟩,Zr,Zr,Tv⟩,Tv,Fh,Tv⟩
 .intro⟨i,h1,h2⟩;refine Yi ?_ ?_
  .intro h;have h:i<l.length:=by simp_all
   have hg:l[i]?=some l[i]:=Ge h;refine Xi (At l[i]) (Yi (Yi aa0 (by simp_all)) (Yi rfl (yN ?_)));have CV:∀h,PC fF ([.agg (At l[i])]++caps.map (str0 h)) (vb (p l[i])):=fun h=>by rw[hs.map];simp_all
   cases hp:p l[i]with
   |true=>
    rw[hp]at CV;refine Xi .pure (Xi (vb true) (Yi (CV _) ?_));rw[Of h (fun j hj Hg=>h2 j hj Hg) hp,IL];exact .refl _
   |false=>
    rw[hp]at CV;refine Xi .pure (Xi (vb false) (Yi (CV _) (Yi (by grind [As]) (Xi ⟨i+1,by omega,fun j hj Hg=>?_⟩ ?_))))
    .grind
    .exact⟨by grind,⟨Zr,⟨rfl,hs.ids _⟩,Zr,Zr,Tv⟩,Tv,Fh,Tv⟩
  .intro h;have h:¬i<l.length:=by simp_all
   rw[Jt fun j hj=>h2 j hj aa0];exact .refl _
theorem s86(hs:DP caps)(l:List (Nd))(p:Nd->Bool)(hF:∀x∈l,PC fF ([.agg (AU x)]++caps) (vb (p x)))(hl:l.length<9223372036854775807) :
  PC 86 [sl AU l,.clo fF caps] (vi (KJ p l 0)):=by
 refine Ps De Tryz.func86 rfl (Nz rfl) (Xi {i:Nat // i<=l.length/\∀j (hj:j<l.length),j<i->p l[j]=false} (Xi (fun i=>⟨[(0,sl AU l),(1,.clo fF caps),(7,vi (l.map AU).length),(8,vi i.1)],[],Ae⟩) (Xi (fun i=>l.length-i.1) (Yi (Xi ⟨0,by simp⟩ ?_) ?_))))
 .exact⟨⟨Zr,⟨rfl,hs.ids _⟩,Zr,Zr,Tv⟩,Tv,Fh,Tv⟩
 .intro⟨i,h1,h2⟩;refine Yi ?_ ?_
  .intro h;have h:i<l.length:=by simp_all
   have hg:l[i]?=some l[i]:=Ge h;refine Xi (AU l[i]) (Yi (Yi aa0 (by simp_all)) (Yi rfl (yN ?_)));have CV:∀h,PC fF ([.agg (AU l[i])]++caps.map (str0 h)) (vb (p l[i])):=fun h=>by rw[hs.map];simp_all
   cases hp:p l[i]with
   |true=>
    rw[hp]at CV;refine Xi .pure (Xi (vb true) (Yi (CV _) ?_));rw[Of h (fun j hj Hg=>h2 j hj Hg) hp,IL];exact .refl _
   |false=>
    rw[hp]at CV;refine Xi .pure (Xi (vb false) (Yi (CV _) (Yi (by grind [As]) (Xi ⟨i+1,by omega,fun j hj Hg=>?_⟩ ?_))))
    .grind
    .exact⟨by grind,⟨Zr,⟨rfl,hs.ids _⟩,Zr,Zr,Tv⟩,Tv,Fh,Tv⟩
  .intro h;have h:¬i<l.length:=by simp_all
   rw[Jt fun j hj=>h2 j hj aa0];exact .refl _
theorem yW(hs:DP caps)(l:List (Cd))(p:Cd->Bool)(hF:∀x∈l,PC fF ([.agg (At x)]++caps) (vb (p x)))(hl:BL l) :
  PC 171 [sl At l,.clo fF caps] (vb (l.any p)):=by
 refine Ps De Tryz.func171 rfl (Nz rfl) ?_;have hi:=AdK hs l p hF aa0;have CV:∀h,PC 217 [sl At l,.clo fF (caps.map (str0 h))] (vi (KJ p l 0)):=fun h=>by grind [DP.map]
 refine Xi .pure (Xi _ (Yi (CV _) ?_));have ha:=Lq (p:=p) l 0 (Ce 0);refine Yi ?_ ?_
 .intro h;rw[<-ha,Bs h];exact .refl _
 .intro h;rw[<-ha,AP h];exact .refl _
theorem uD(l:List Cd)(hl:BL l):A6 Tryz.prog 70 [sl At l] (Af [] Ae) fun r h'=>r=.slice (.id 2000 10) (l.map At)/\h'=Af [(2000,.tok 10 (l.map At).length)] Ae:=by
 refine Bi (IB (yx 10)) [(2,2000)] rfl Bz hm rfl Tryz.func70 aa3 rfl (Nz rfl) aa3 rfl ?_;have CO:A7 10 (l.map At)/\([]:List (List AV)).length=0/\(([]:List (List AV)).length+(l.map At).length)*128<=140737488355328/\([]:List (List AV)).length+(l.map At).length<=9223372036854775807:=by
  refine⟨Cn (enc:=At) (n:=10) (fun _=>rfl) l,rfl,?_,?_⟩<;>simp only[BX,Lm]<;>unfold BL at hl<;>omega
 have e2:HO.tok 10 (([]:List (List AV)).length+(l.map At).length)=.tok 10 (l.map At).length:=by simp_all
 have e3:AV.slice (.id 2000 10) ([]++l.map At)=.slice (.id 2000 10) (l.map At):=rfl;have full:∀st:St,(∃s:LS,St.le (IB (yx 10)) st s/\True)->True:=fun _ _=>trivial;refine Xi 0 (Xi 0 (Yi ?_ ?_))
 .intro _;refine cU [(0,sl At l)] [] Z1 Tv (Xi 2 (Yi CO ?_));exact Xi _ (Yi (.refl _) (Yi e3 (Aa (fun o=>Af [(2000,o)] Ae) e2)))
 .intro h;refine Yi ?_ ?_
  .refine Xi ⟨[],[],Ae⟩ (Yi ⟨trivial,trivial,fun _=>.inl rfl,Bg aa3⟩ ?_);refine Xi 0 ?_;exact Xi _ (Yi (.refl _) (Yi (show AV.slice (.id 2000 10) []=_ by rw[h]) (show Af [(2000,HO.tok 10 0)] Ae=_ by simp_all)))
  .refine cU [(0,sl At l)] [] Z1 Tv (Xi 2 (Yi CO ?_));exact Xi _ (Yi (.refl _) (Yi e3 (Aa (fun o=>Af [(2000,o)] Ae) e2)))
theorem s66(hs:DP caps)(l:List (Nd))(p:Nd->Bool)(hF:∀x∈l,PC fF ([.agg (AU x)]++caps) (vb (p x)))(hl:BL l) :
  PC 66 [sl AU l,.clo fF caps] (vb (l.any p)):=by
 refine Ps De Tryz.func66 rfl (Nz rfl) ?_;have hi:=s86 hs l p hF (by unfold BL at hl;omega);have CV:∀h,PC 86 [sl AU l,.clo fF (caps.map (str0 h))] (vi (KJ p l 0)):=fun h=>by rw[hs.map];exact hi
 refine Xi .pure (Xi _ (Yi (CV _) ?_));have ha:=Lq (p:=p) l 0 (Ce 0);refine Yi ?_ ?_
 .intro h;have h:(0:Int)<=KJ p l 0:=h;rw[<-ha,Bs h];exact .refl _
 .intro h;have h:¬(0:Int)<=KJ p l 0:=h;rw[<-ha,AP h];exact .refl _
theorem cb{f:Nat}{x:Bool}(h:b=x)(hc:PC f args (vb b)):PC f args (vb x):=h▸hc
theorem Ok{l:List α}{i:Nat}(h:(i:Int)<((l.map f).length:Int)):i<l.length:=by rw[Lm]at h;omega
theorem Oj{l:List α}{i:Nat}(h:¬(i:Int)<((l.map f).length:Int)):¬i<l.length:=by rw[Lm]at h;omega
theorem TZ{l:List α}{i:Nat}(h:i<l.length):(0:Int)<=(i:Int)/\(l.map f)[((i:Nat):Int).toNat]?=some (f l[i]):=⟨Int.natCast_nonneg _,by rw[FI,BA,Ge h];rfl⟩
theorem js{n z:Nat}{x:List AV}(hx:x.length=n)(h:O.length<=2147483647)(hz:z<=65536) :
  A7 n [x]/\(O.map f).length=O.length/\((O.map f).length+([x]:List (List AV)).length)*z<=140737488355328/\(O.map f).length+([x]:List (List AV)).length<=9223372036854775807:=by
 refine⟨⟨hx,trivial⟩,Lm _,?_,?_⟩<;>rw[Lm]<;>simp only[BF,BX]
 .have:=Nat.mul_le_mul (show O.length+(0+1)<=2147483648 by omega) hz
  omega
 .omega
theorem tkA{x:α}{r n:Nat}:AV.slice (.id r n) (O.map f++[f x])=.slice (.id r n) ((O++[x]).map f):=by rw[BD];rfl
theorem Sm:∀{l:List Nf} {k:Nat} {kx:Value} {a:AV},(kx,a)∈FP k l↔∃j i,l[j]?=some i/\kx=LU i/\a=vi ((k+j:Nat):Int)
 | [],k,kx,a=>by simp[FP]
 |y::l,k,kx,a=>by
  unfold FP;rw[AF,Sm];constructor
  .rintro(h | ⟨j,i,h1,h2,h3⟩)
   .cases h<;>grind
   .exact⟨j+1,i,h1,h2,by grind⟩
  grind
theorem V8{a b:Nf}(h:LU a=LU b):a=b:=by
 obtain⟨a1,a2,a3,a4,a5,a6⟩:=a;obtain⟨b1,b2,b3,b4,b5,b6⟩:=b<;>grind [LU]
theorem yh(h:Mb i 0 l=some k):(LU i,vi (k:Nat))∈FP 0 l:=by
 grind [No,Sm]
theorem qh(hn:l.Nodup)(h:Mb i 0 l=some k):∀b,(LU i,b)∈FP 0 l->b=vi (k:Nat):=fun b hb=>by
 grind [No,Sm,V8,List.getElem_inj]
theorem rX(h:Mb i 0 l=none):∀a,(LU i,a)∉FP 0 l:=fun a ha=>by
 obtain⟨j,i',h1,h2,_⟩:=Sm.1 ha
 have:=V8 h2
 subst this;exact QF h (Ax h1)
theorem dW:∀(l:List Nf) (k:Nat) (i:Nf),FP k (l++[i])=FP k l++[(LU i,vi ((k+l.length:Nat):Int))]
 | [],k,i=>by simp[FP]
 |y::l,k,i=>by
  show(LU y,_)::FP (k+1) (l++[i])=_;rw[dW l (k+1) i]
  grind [FP]
theorem uc(h:Mb i 0 l=none):Fm (FP 0 l) (LU i) (vi ((l.map AG).length:Int))=FP 0 (l++[i]):=by
 grind [IH,rX,dW]
theorem Ye{s:SS}{l:List Tm}(h:Mb i 0 s.infs=some k):Eb s i l=(k,s):=by grind [Eb]
theorem VA{s:SS}{l:List Tm}(h:Mb i 0 s.infs=none)(hf:65536<=s.infs.length):Eb s i l=(s.infs.length-1,⟨s.infs,s.drv,true⟩):=by grind [Eb]
theorem Yc{s:SS}{l:List Tm}(h:Mb i 0 s.infs=none)(hf:¬65536<=s.infs.length):Eb s i l=(s.infs.length,⟨s.infs++[i],s.drv++[l],s.full⟩):=by grind [Eb]
section
variable {roots:List Rq}{C A:List (Value×AV)}{s s' : SS}{dec:List Cd}{st:List (List Sk)}{i:Nf}{l:List Tm}
theorem jG{z:Int}(e:Eb s i l=(k,s'))(hz:z=k):vi z=vi ((Eb s i l).1:Nat)/\Af (Ie roots C A s' dec st) Ae=Af (Ie roots C A (Eb s i l).2 dec st) Ae:=by simp_all
theorem vQ(h:Mb i 0 s.infs=none):Af [(1000,.cells [sl Ac roots,.cmap Cv C,.cmap Cv A,.slice (.id 1001 6) (s.infs.map AG++[AG i]),.slice (.id 1002 1) (s.drv.map Aq++[Aq l]),.mref 1003,vb s.full,sl At dec,sl Ag (Au dec),.msl 1004 st.length]),
      (1001,.tok 6 ((s.infs.map AG).length+[AG i].length)),(1002,.tok 1 ((s.drv.map Aq).length+[Aq l].length)),(1003,.map Eh (Fm (FP 0 s.infs) (LU i) (vi ((s.infs.map AG).length:Int)))),(1004,.arr 1 (st.map A5))] Ae=Af (Ie roots C A ⟨s.infs++[i],s.drv++[l],s.full⟩ dec st) Ae:=by
  grind [uc]
end
theorem yX:PC 172 [.agg (At c),.cptr [vs p]] (vb (decide (c.rel.path=p))):=by
 refine Ps (pC [2] []) Tryz.func172 rfl (Nz rfl) (Yi (fun h1=>?_) (fun h1=>?_))
 .exact .of_eq (show vb true=vb (decide (c.rel.path=p)) by simp_all)
 exact .of_eq (show vb false=vb (decide (c.rel.path=p)) by simp_all)
theorem yV(t:Tm)(p:ByteArray):PC 136 [.agg (Ad t),.cptr [vs p]] (vb (decide (t.path=p))):=by
 refine Ps (pC [2] []) Tryz.func136 rfl (Nz rfl) (Yi (fun h1=>?_) (fun h1=>?_))
 .exact .of_eq (show vb true=vb (decide (t.path=p)) by simp_all)
 exact .of_eq (show vb false=vb (decide (t.path=p)) by simp_all)
theorem om(l:List Tm)(p:ByteArray)(hl:BL l):PC 90 [sl Ad l,vs p] (vb (DC l p)):=by
 refine Ps (pC [3] []) Tryz.func90 rfl (Nz rfl) (AA (Bt (DC l p)) (fun h1=>?_) (fun h1=>?_))
 .refine Xi .pure (Xi _ (Yi (cb h1 (show PC 135 [sl Ad l,.clo 136 [.cptr [vs p]]] (vb (DC l p))from sy (fF:=136) (caps:=[.cptr [vs p]]) (fun c hc=>by obtain rfl:=AD.1 hc;intro h;rfl) l (fun t=>decide (t.path=p)) (fun t _=>yV t p) hl)) ?_));exact .of_eq (show vb true=vb (DC l p) by rw[h1])
 refine Xi .pure (Xi _ (Yi (cb h1 (show PC 135 [sl Ad l,.clo 136 [.cptr [vs p]]] (vb (DC l p))from sy (fF:=136) (caps:=[.cptr [vs p]]) (fun c hc=>by obtain rfl:=AD.1 hc;intro h;rfl) l (fun t=>decide (t.path=p)) (fun t _=>yV t p) hl)) ?_));exact .of_eq (show vb false=vb (DC l p) by rw[h1])
theorem yU(hl:BL dec):A6 Tryz.prog 118 [.ref 1000 0,vs p] (Af (Ie roots C A s dec st) Ae) fun r h'=>r=vb (Dv dec p)/\h'=Af (Ie roots C A s dec st) Ae:=by
 refine Bi (IB (pC [3] [])) [(1000,1000),(1001,1001),(1002,1002),(1003,1003),(1004,1004)] rfl Bz hm rfl Tryz.func118 aa3 rfl (Nz rfl) aa3 rfl (AA (Bt (Dv dec p)) (fun h1=>?_) (fun h1=>?_))
 .refine Xi .pure (Xi _ (Yi (cb h1 (show PC 171 [sl At dec,.clo 172 [.cptr [vs p]]] (vb (Dv dec p))from yW (fF:=172) (caps:=[.cptr [vs p]]) (fun c hc=>by obtain rfl:=AD.1 hc;intro h;rfl) dec (fun c=>decide (c.rel.path=p)) (fun c _=>yX c p) hl)) ?_));exact Xi _ (Yi (.refl _) (Yi (show vb true=vb (Dv dec p) by rw[h1]) rfl))
 refine Xi .pure (Xi _ (Yi (cb h1 (show PC 171 [sl At dec,.clo 172 [.cptr [vs p]]] (vb (Dv dec p))from yW (fF:=172) (caps:=[.cptr [vs p]]) (fun c hc=>by obtain rfl:=AD.1 hc;intro h;rfl) dec (fun c=>decide (c.rel.path=p)) (fun c _=>yX c p) hl)) ?_));exact Xi _ (Yi (.refl _) (Yi (show vb false=vb (Dv dec p) by rw[h1]) rfl))
theorem qR(i:Nf)(l:List Tm)(k:Nat)(hk:Mb i 0 s.infs=some k)(Sh:s.infs.Nodup):A6 Tryz.prog 132 [.ref 1000 0,.agg (AG i),sl Ad l] (Af (Ie roots C A s dec st) Ae) fun r h'=>r=vi ((Eb s i l).1:Nat)/\h'=Af (Ie roots C A (Eb s i l).2 dec st) Ae:=by
 refine Bi (IB (pC [4] [])) [(1000,1000),(1001,1001),(1002,1002),(1003,1003),(1004,1004)] rfl Bz hm rfl Tryz.func132 aa3 rfl (Nz rfl) aa3 rfl (yN ?_);refine Or.inl (Xi (vi (k:Nat)) (Yi (Yi (yh hk) (qh Sh hk)) ?_));refine Yi aa3 ?_;exact Xi _ (Yi (.refl _) (jG (Ye hk) rfl))
theorem qQ(i:Nf)(l:List Tm)(hk:Mb i 0 s.infs=none)(hn:s.infs.length<=65536)(hdl:s.drv.length=s.infs.length):A6 Tryz.prog 132 [.ref 1000 0,.agg (AG i),sl Ad l] (Af (Ie roots C A s dec st) Ae) fun r h'=>r=vi ((Eb s i l).1:Nat)/\h'=Af (Ie roots C A (Eb s i l).2 dec st) Ae:=by
 have hdn:s.drv.length<=65536:=by omega
 have zC:(s.infs.map AG).length=s.infs.length:=Lm _;refine Bi (IB (pC [4] [])) [(1000,1000),(1001,1001),(1002,1002),(1003,1003),(1004,1004)] rfl Bz hm rfl Tryz.func132 aa3 rfl (Nz rfl) aa3 rfl (yN ?_);refine Or.inr (Yi (rX hk) ?_);refine Yi aa3 (Yi (fun h1=>?_) (fun h1=>?_))
 .refine yN (Yi (by grind [As]) ?_);exact Xi _ (Yi (.refl _) (jG (VA hk aa0) aa0))
 refine yN (Yi aa3 (yN (Yi (js rfl aa0 aa2) (yN (Yi aa3 (Yi (js rfl aa0 aa2) (yN ?_)))))));have hq:=jG (roots:=roots) (C:=C) (A:=A) (dec:=dec) (st:=st) (z:=((s.infs.map AG).length:Int)) (Yc (l:=l) hk aa0) aa0;exact Xi _ (Yi (.refl _) (Yi hq.1 ((vQ hk).trans hq.2)))
structure K6(x:List Rl)(roots:List Rq)(s:SS):Prop where
 der:EJ x roots s
 nodup:s.infs.Nodup
abbrev r9(o:Nat×SS)(r:AV)(h' : Nat->HO):Prop:=r=vi (o.1:Nat)/\h'=Af (Ie roots C A o.2 dec st) Ae
theorem qP(i:Nf)(l:List Tm)(hn:s.infs.length<=65536)(hdl:s.drv.length=s.infs.length)(Sh:s.infs.Nodup) :
  A6 Tryz.prog 132 [.ref 1000 0,.agg (AG i),sl Ad l] (Af (Ie roots C A s dec st) Ae) (r9 roots C A dec st (Eb s i l)):=by
 cases hk:Mb i 0 s.infs<;>grind [qR,qQ]
abbrev Vv:HJ:=[(1000,1000),(1001,1001),(1002,1002),(1003,1003),(1004,1004)]
theorem wN{h2:Nat->HO}{cs:List AV}{o1 o2 o3 o4:HO}(e0:h2 1000=.cells cs)(e1:h2 1001=o1)(e2:h2 1002=o2)(e3:h2 1003=o3)(e4:h2 1004=o4) :
  Fo Vv h2=Af [(1000,.cells (cs.map (ren1 (Cf Vv) h2))),(1001,o1.ren (Cf Vv) h2),(1002,o2.ren (Cf Vv) h2),(1003,o3.ren (Cf Vv) h2),(1004,o4.ren (Cf Vv) h2)] Ae:=by
 unfold Fo;simp only[XQ];rw[e0,e1,e2,e3,e4];rfl
theorem gV{s:SS}{n:Nd}(h:n.path=mt):Eb s ⟨0,mt,0,n.number,0,0⟩ (GF n.rq)=By s n:=by grind [By,Pl,Ik]
theorem lX{s:SS}{n:Nd}(h:¬n.path=mt):Eb s ⟨1,n.path,n.place,n.number,0,0⟩ (BJ n.path n.place n.rq)=By s n:=by grind [By,Pl,Ik]
abbrev kw(d:List (List Tm))(S:List Sl):AV:=.tup [vi (((N2 d S).getD 0:Nat):Int),vb (N2 d S).isSome]
theorem YC{S:List Sl}:∀{l:List (List Tm)} {b i:Nat} {t:List Tm},l[i]?=some t->Bm t S=true->(∀j u,j<i->l[j]?=some u->Bm u S=false)->O4 S b l=some (b+i)
 | [],_,_,_,h,_,_=>by simp_all
 |u::l,b,0,t,h,he,_=>by grind [O4]
 |u::l,b,i+1,t,h,he,hn=>by
  unfold O4;rw[AI (by rw[hn 0 u aa0 rfl];decide),YC (i:=i) (by simp_all) he (fun j v hj hv=>hn (j+1) v aa0 (by simp_all))]
  grind
theorem YD{S:List Sl}:∀{l:List (List Tm)} {b:Nat},(∀t∈l,Bm t S=false)->O4 S b l=none
 | [],_,_=>rfl
 |u::l,b,h=>by
  unfold O4;rw[AI (by simp_all)];exact YD fun t ht=>h t (Ai _ ht)
theorem s88(hn:s.infs.length<=65536)(hdl:s.drv.length=s.infs.length)(Sh:s.infs.Nodup)(hq:BL n.rq.set)(hp:As (n.place+1)):A6 Tryz.prog 88 [.ref 1000 0,.agg (AU n)] (Af (Ie roots C A s dec st) Ae) fun r h'=>r9 roots C A dec st (By s n) r h':=by
 refine Bi (IB ⟨[3],[],[],[],[],[],[],[],[(15,5),(31,5)],[],[]⟩) [(1000,1000),(1001,1001),(1002,1002),(1003,1003),(1004,1004)] rfl Bz hm rfl Tryz.func88 aa3 rfl (Nz rfl) aa3 rfl (Yi (fun h1=>?_) (fun h1=>?_))
 .refine yN (Xi _ (Yi (wl n.rq hq) (Xi Vv (Xi [(1000,.cells (srM roots C A s dec 1004 st.length)),(1001,.tok 6 s.infs.length),(1002,.tok 1 s.drv.length),(1003,.map Eh (FP 0 s.infs)),(1004,.arr 1 (st.map A5))] (Xi (Ie roots C A (Eb s ⟨0,mt,0,n.number,0,0⟩ (GF n.rq)).2 dec st) (Xi [.ref 1000 0,.agg [vi 0,vs ⟨#[]⟩,vi 0,vi n.number,vi 0,vi 0],sl Ad (GF n.rq)] (Xi (vi (((Eb s ⟨0,mt,0,n.number,0,0⟩ (GF n.rq)).1:Nat):Int):AV) (Yi (fun h2 hh=>Yi ((wN (show h2 1000=.cells (srM roots C A s dec 1004 st.length)from hh 1000 aa2) (show h2 1001=.tok 6 s.infs.length from hh 1001 aa2) (show h2 1002=.tok 1 s.drv.length from hh 1002 aa2) (show h2 1003=.map Eh (FP 0 s.infs)from hh 1003 aa2) (show h2 1004=.arr 1 (st.map A5)from hh 1004 aa2)).trans rfl) rfl) (Yi aa3 (Yi (qP roots C A s dec st ⟨0,mt,0,n.number,0,0⟩ (GF n.rq) hn hdl Sh) (Yi aa3 ?_)))))))))));have ei:=gV (s:=s) h1;exact Xi _ (Yi (.refl _) (Yi (show vi (((Eb s ⟨0,mt,0,n.number,0,0⟩ (GF n.rq)).1:Nat):Int)=vi (((By s n).1:Nat):Int) by rw[ei]) (show Af (Ie roots C A (Eb s ⟨0,mt,0,n.number,0,0⟩ (GF n.rq)).2 dec st) Ae=Af (Ie roots C A (By s n).2 dec st) Ae by rw[ei])))
 refine yN (Xi _ (Yi (wm n.path n.place n.rq hp hq) (Xi Vv (Xi [(1000,.cells (srM roots C A s dec 1004 st.length)),(1001,.tok 6 s.infs.length),(1002,.tok 1 s.drv.length),(1003,.map Eh (FP 0 s.infs)),(1004,.arr 1 (st.map A5))] (Xi (Ie roots C A (Eb s ⟨1,n.path,n.place,n.number,0,0⟩ (BJ n.path n.place n.rq)).2 dec st) (Xi [.ref 1000 0,.agg [vi 1,vs n.path,vi n.place,vi n.number,vi 0,vi 0],sl Ad (BJ n.path n.place n.rq)] (Xi (vi (((Eb s ⟨1,n.path,n.place,n.number,0,0⟩ (BJ n.path n.place n.rq)).1:Nat):Int):AV) (Yi (fun h2 hh=>Yi ((wN (show h2 1000=.cells (srM roots C A s dec 1004 st.length)from hh 1000 aa2) (show h2 1001=.tok 6 s.infs.length from hh 1001 aa2) (show h2 1002=.tok 1 s.drv.length from hh 1002 aa2) (show h2 1003=.map Eh (FP 0 s.infs)from hh 1003 aa2) (show h2 1004=.arr 1 (st.map A5)from hh 1004 aa2)).trans rfl) rfl) (Yi aa3 (Yi (qP roots C A s dec st ⟨1,n.path,n.place,n.number,0,0⟩ (BJ n.path n.place n.rq) hn hdl Sh) (Yi aa3 ?_)))))))))));have ei:=lX (s:=s) h1;exact Xi _ (Yi (.refl _) (Yi (show vi (((Eb s ⟨1,n.path,n.place,n.number,0,0⟩ (BJ n.path n.place n.rq)).1:Nat):Int)=vi (((By s n).1:Nat):Int) by rw[ei]) (show Af (Ie roots C A (Eb s ⟨1,n.path,n.place,n.number,0,0⟩ (BJ n.path n.place n.rq)).2 dec st) Ae=Af (Ie roots C A (By s n).2 dec st) Ae by rw[ei])))
theorem s89(hd:s.drv.length<=65536)(ht:∀t∈s.drv,PT t)(hS:BL S):A6 Tryz.prog 89 [.ref 1000 0,sl Ag S] (Af (Ie roots C A s dec st) Ae) fun r h'=>r=kw s.drv S/\h'=Af (Ie roots C A s dec st) Ae:=by
 refine Bi (IB De) [(1000,1000),(1001,1001),(1002,1002),(1003,1003),(1004,1004)] rfl Bz hm rfl Tryz.func89 aa3 rfl (Nz rfl) aa3 rfl (Xi {i:Nat // i<=s.drv.length/\∀j u,j<i->s.drv[j]?=some u->Bm u S=false} (Xi (fun q=>⟨[(1,sl Ag S),(11,.slice (.id 1002 1) (s.drv.map Aq)),(12,vi (s.drv.map Aq).length),(13,vi q.1)],[(1000,.cells (srM roots C A s dec 1004 st.length)),(1001,.tok 6 s.infs.length),(1002,.tok 1 s.drv.length),(1003,.map Eh (FP 0 s.infs)),(1004,.arr 1 (st.map A5))],Ae⟩) (Xi (fun q=>s.drv.length-q.1) (Yi (Xi ⟨0,Ap _,fun j u h=>absurd h (Nu j)⟩ ?_) ?_))))
 .exact⟨Z4,Z5,Fh,Bg aa3⟩
 intro⟨i,i1,i2⟩;refine Yi (fun h1=>?_) (fun h1=>?_)
 .have h1:(i:Int)<((s.drv.map Aq).length:Int):=h1;have n1:=Ok h1;refine Xi (Aq s.drv[i]) (Yi (TZ n1) (Yi rfl (AA (Bt (Bm s.drv[i] S)) (fun h2=>?_) (fun h2=>?_))))
  .refine Xi .pure (Xi _ (Yi (cb h2 (c91 s.drv[i] S (ht _ (Ak _)) hS)) ?_));have eE:N2 s.drv S=some i:=by unfold N2;rw[YC (Ge n1) h2 i2,HI]
   exact Xi _ (Yi (.refl _) (Yi (show AV.tup [vi (i:Int),vb true]=kw s.drv S by simp_all) rfl))
  have h2:(Bm s.drv[i] S)=false:=h2;refine Xi .pure (Xi _ (Yi (cb h2 (c91 s.drv[i] S (ht _ (Ak _)) hS)) (Yi (by grind [As]) ?_)));refine Xi ⟨i+1,by omega,fun j u hj hu=>by
    grind⟩ ?_
  exact⟨Dl s.drv.length i aa0,Z4,Z5,Fh,Bg aa3⟩
 have h1:¬((i:Int)<((s.drv.map Aq).length:Int)):=h1;have n1:=Oj h1;have eE:N2 s.drv S=none:=YD fun t ht=>by
  grind [List.mem_iff_getElem?]
 exact Xi _ (Yi (.refl _) (Yi (show AV.tup [vi 0,vb false]=kw s.drv S by simp_all) rfl))
def Wg(l:List Cd)(q:Rq):Bool:=l.any fun d=>decide (d.rel.path=q.path)&&!has q.set d.place
theorem VY{f:Rq->Nat->Nd}{P:Nd->Bool}:∀{l:List Rq} {b i:Nat} {q:Rq},l[i]?=some q->P (f q (b+i))=true->(∀k u,k<i->l[k]?=some u->P (f u (b+k))=false)->(MI f b l).find? P=some (f q (b+i))
 | [],_,_,_,h,_,_=>by simp_all
 |u::l,b,0,q,h,he,_=>by
  grind [MI]
 |u::l,b,i+1,q,h,he,hn=>by
  unfold MI;have h0:P (f u b)=false:=hn 0 u aa0 rfl;rw[HQ,h0]
  have:=VY (f:=f) (P:=P) (l:=l) (b:=b+1) (i:=i) (q:=q) (by simp_all) (by grind) (fun k v hk hv=>by
   grind)
  grind
theorem O7{f:Rq->Nat->Nd}{P:Nd->Bool}:∀{l:List Rq} {b:Nat},(∀k u,l[k]?=some u->P (f u (b+k))=false)->(MI f b l).find? P=none
 | [],_,_=>rfl
 |u::l,b,h=>by
  unfold MI;have h0:P (f u b)=false:=h 0 u rfl;rw[HQ,h0];exact O7 fun k v hv=>by rw[show b+1+k=b+(k+1) by omega];simp_all
def zNd:AV:=.agg [vs ⟨#[]⟩,nzA,vs ⟨#[]⟩,vi 0,vi 0]
def oV(o:Option Nd):AV:=match o with | some n=>.tup [.agg (AU n),vb true] | none=>.tup [zNd,vb false]
section
variable {dec:List Cd}{c:Cd}{i:Nat}
theorem kd(hi:i<c.rel.reqs.length)(hn:∀k q,k<i->c.rel.reqs[k]?=some q->Wg (dec++[c]) q=false){j:Nat}(hj:j<(dec++[c]).length)(h1:(dec++[c])[j].rel.path=c.rel.reqs[i].path)(h2:has c.rel.reqs[i].set (dec++[c])[j].place=false) :
  Dq dec c=some ⟨c.rel.reqs[i],c.rel.path,c.place,(i:Nat)⟩:=by
 have:=VY (f:=fun q i=>⟨q,c.rel.path,c.place,(i:Nat)⟩) (P:=d5 (dec++[c])) (l:=c.rel.reqs) (b:=0) (i:=i) (q:=c.rel.reqs[i]) (Ge hi)
  (Bu.2 ⟨_,Ak hj,by simp_all⟩) (fun k u hk hu=>hn k u hk hu)
 grind [Dq,QI]
theorem kf(hn:∀(k:Nat) (q:Rq),c.rel.reqs[k]?=some q->Wg (dec++[c]) q=false):Dq dec c=none:=by
 unfold Dq QI;exact O7 fun k u hu=>hn k u hu
theorem mg{q:Rq}(h:∀(m:Nat) (d:Cd),(dec++[c])[m]?=some d->(decide (d.rel.path=q.path)&&!has q.set d.place)=false):Wg (dec++[c]) q=false:=by
 grind [Wg,List.mem_iff_getElem?]
end
theorem s87(c:Cd)(hq:BL n.rq.set):PC 87 [.agg (AU n),.cptr (At c)] (vb (!has n.rq.set c.place)):=by
 refine Ps (pC [2] []) Tryz.func87 rfl (Nz rfl) (AA (Bt (has n.rq.set c.place)) (fun h1=>?_) (fun h1=>?_))
 .refine Xi .pure (Xi _ (Yi (cb h1 (oO n.rq.set c.place hq)) ?_));exact .of_eq (show vb false=vb (!has n.rq.set c.place) by simp_all)
 refine Xi .pure (Xi _ (Yi (cb h1 (oO n.rq.set c.place hq)) ?_));exact .of_eq (show vb true=vb (!has n.rq.set c.place) by simp_all)
theorem s69(hd:dec.length<=1073741823)(hr:c.rel.reqs.length<=1073741824)(hq:∀q∈c.rel.reqs,BL q.set):A6 Tryz.prog 69 [.ref 1000 0,.agg (At c)] (Af (Ie roots C A s dec st) Ae) fun r h'=>r=oV (Dq dec c)/\h'=Af (Ie roots C A s dec st) Ae:=by
 have hdl:(dec++[c]).length=dec.length+1:=by simp
 refine Bi (IB ⟨[3],[],[],[],[],[],[],[],[(23,3)],[],[]⟩) [(1000,1000),(1001,1001),(1002,1002),(1003,1003),(1004,1004)] rfl Bz hm rfl Tryz.func69 aa3 rfl (Nz rfl) aa3 rfl (Xi {i:Nat // i<=c.rel.reqs.length/\∀k q,k<i->c.rel.reqs[k]?=some q->Wg (dec++[c]) q=false} (Xi (fun q=>⟨[(0,.ref 1000 0),(3,.ref 3 0),(4,.ref 4 0),(12,sl Ac c.rel.reqs),(13,vi (c.rel.reqs.map Ac).length),(14,vi q.1)],[(3,.ro (At c)),(4,.cells [vs ⟨#[]⟩,nzA,vs ⟨#[]⟩,vi 0,vi 0]),(1000,.cells (srM roots C A s dec 1004 st.length)),(1001,.tok 6 s.infs.length),(1002,.tok 1 s.drv.length),(1003,.map Eh (FP 0 s.infs)),(1004,.arr 1 (st.map A5))],Ae⟩) (Xi (fun q=>c.rel.reqs.length-q.1) (Yi (Xi ⟨0,Ap _,fun k q h=>absurd h (Nu k)⟩ ?_) ?_))))
 .exact⟨Z6,Z7,Fh,Bg aa3⟩
 intro⟨i,i1,i2⟩;refine Yi (fun h1=>?_) (fun h1=>?_)
 .have h1:(i:Int)<((c.rel.reqs.map Ac).length:Int):=h1;have n1:=Ok h1;refine Xi (Ac c.rel.reqs[i]) (Yi (TZ n1) (Yi rfl (yN (yN (Xi _ (Xi _ (Yi aa3 (Yi (uD dec (Bl hd aa2)) (yN ?_)))))))));have b2:A7 10 [(At c)]/\(dec.map At).length=(dec.map At).length/\((dec.map At).length+([(At c)]:List (List AV)).length)*128<=140737488355328/\(dec.map At).length+([(At c)]:List (List AV)).length<=9223372036854775807:=⟨⟨rfl,trivial⟩,rfl,(by grind),(by grind)⟩;refine Yi b2 (Yi aa3 (Xi {j:Nat // j<=(dec++[c]).length/\∀m d,m<j->(dec++[c])[m]?=some d->(decide (d.rel.path=c.rel.reqs[i].path)&&!has c.rel.reqs[i].set d.place)=false} (Xi (fun q=>⟨[(0,.ref 1000 0),(3,.ref 3 0),(4,.ref 4 0),(6,vi i),(7,.ref 7 0),(12,sl Ac c.rel.reqs),(13,vi (c.rel.reqs.map Ac).length),(14,vi i),(26,.slice (.id 12300 10) ((dec++[c]).map At)),(27,vi ((dec++[c]).map At).length),(28,vi q.1)],[(3,.ro (At c)),(4,.cells [vs ⟨#[]⟩,nzA,vs ⟨#[]⟩,vi 0,vi 0]),(7,.cells (Ac c.rel.reqs[i])),(1000,.cells (srM roots C A s dec 1004 st.length)),(1001,.tok 6 s.infs.length),(1002,.tok 1 s.drv.length),(1003,.map Eh (FP 0 s.infs)),(1004,.arr 1 (st.map A5)),(12300,.tok 10 ((dec++[c]).map At).length)],Ae⟩) (Xi (fun q=>(dec++[c]).length-q.1) (Yi (Xi ⟨0,Ap _,fun k q h=>absurd h (Nu k)⟩ ?_) ?_)))))
  .exact⟨⟨Zr,Zr,Zr,Zr,Zr,Zr,Zr,Zr,⟨tkA,rfl⟩,⟨(show vi ((dec.map At++[At c]:List (List AV)).length:Int)=vi (((dec++[c]).map At).length:Int) by simp_all),rfl⟩,Zr,Tv⟩,⟨Zr,Zr,Zr,Zr,Zr,Zr,Zr,Zr,⟨(show HO.tok 10 ((dec.map At).length+[At c].length)=.tok 10 ((dec++[c]).map At).length by simp),rfl⟩,Tv⟩,Fh,Bg aa3⟩
  intro⟨j,j1,j2⟩;refine Yi (fun h3=>?_) (fun h3=>?_)
  .have h3:(j:Int)<(((dec++[c]).map At).length:Int):=h3;have n3:=Ok h3;refine Xi (At ((dec++[c])[j])) (Yi (TZ n3) (Yi rfl (yN (yN (Yi (fun h4=>?_) (fun h4=>?_))))))
   .have h4:(((dec++[c])[j]).rel.path:ByteArray)=c.rel.reqs[i].path:=h4;refine AA (Bt (has c.rel.reqs[i].set (dec++[c])[j].place)) (fun h5=>?_) (fun h5=>?_)
    .have h5:(has c.rel.reqs[i].set (dec++[c])[j].place)=true:=h5;refine Xi .pure (Xi _ (Yi (cb h5 (oO c.rel.reqs[i].set (dec++[c])[j].place (hq _ (Ak _)))) (Yi (by grind [As]) ?_)));refine Xi ⟨j+1,by omega,fun m d hm hd=>by
       grind⟩ ?_
     exact⟨by show(dec++[c]).length-(j+1)<(dec++[c]).length-j;omega,Z11,Z9,Fh,Bg aa3⟩
    have h5:(has c.rel.reqs[i].set (dec++[c])[j].place)=false:=h5;refine Xi .pure (Xi _ (Yi (cb h5 (oO c.rel.reqs[i].set (dec++[c])[j].place (hq _ (Ak _)))) (yN (yN (yN ?_)))));have eC:=kd (dec:=dec) (c:=c) n1 i2 n3 h4 h5;exact Xi _ (Yi (.refl _) (Yi (show AV.tup [.agg (AU ⟨c.rel.reqs[i],c.rel.path,c.place,(i:Nat)⟩),vb true]=oV (Dq dec c) by rw[eC];rfl) rfl))
   have h4:¬(((dec++[c])[j]).rel.path:ByteArray)=c.rel.reqs[i].path:=h4;refine Yi (by grind [As]) ?_;refine Xi ⟨j+1,by omega,fun m d hm hd=>by
     grind⟩ ?_
   exact⟨by show(dec++[c]).length-(j+1)<(dec++[c]).length-j;omega,Z11,Z9,Fh,Bg aa3⟩
  have h3:¬((j:Int)<(((dec++[c]).map At).length:Int)):=h3;have n3:=Oj h3;refine Yi (by grind [As]) ?_;have hmq:Wg (dec++[c]) c.rel.reqs[i]=false:=mg fun m d hd=>j2 m d (by grind) hd;refine Xi ⟨i+1,by omega,fun k q hk hq0=>by
    grind⟩ ?_
  exact⟨Dl c.rel.reqs.length i aa0,Z6,Z7,Fh,Bg aa3⟩
 have h1:¬((i:Int)<((c.rel.reqs.map Ac).length:Int)):=h1;have n1:=Oj h1;refine yN (yN ?_);have eC:=kf (dec:=dec) (c:=c) fun k q hk=>i2 k q (by grind) hk;exact Xi _ (Yi (.refl _) (Yi (show AV.tup [zNd,vb false]=oV (Dq dec c) by rw[eC];rfl) rfl))
theorem O2{x:List Rl}{roots:List Rq}{l0:List Nf}:∀{l:List Nf} {d d' : List (List Tm)},(∀i∈l,i∈l0)->(∀t∈d,PU (Hc x roots l0) t)->BH x roots l d=some d'->∀t∈d',PU (Hc x roots l0) t
 | [],d,d',_,hd,h=>by cases h;exact hd
 |i::l,d,d',hl,hd,h=>by
  unfold BH at h;cases hi:AM x roots d i with
  |none=>simp_all
  |some t=>
   rw[hi]at h;refine O2 (fun j hj=>hl j (Ai _ hj)) (fun u hu=>?_) h
   grind [M5,List.mem_cons_self]
section
variable {x:List Rl}{roots:List Rq}{s:SS}
theorem EJ.few(hx:Av x=0)(hr:AL roots=0)(h:EJ x roots s):∀t∈s.drv,U4 t:=fun t ht=>
 (O2 (l0:=s.infs) (fun _ h=>h) (fun _ h=>by cases h) h.der t ht).fewI (Lx hx hr h.len)
theorem Ig{l:List Tm}(h:s.infs.Nodup):(Eb s i l).2.infs.Nodup:=by
 cases hk:Mb i 0 s.infs with
 |some k=>rw[Ye hk];exact h
 |none=>
  grind [VA,Yc,QF]
theorem K6.add(h:K6 x roots s){l:List Tm}(hi:AM x roots s.drv i=some l):K6 x roots (Eb s i l).2/\(Eb s i l).1<(Eb s i l).2.drv.length/\s.drv.length<=(Eb s i l).2.drv.length:=
 ⟨⟨(Kv h.der hi).1,Ig h.nodup⟩,(Kv h.der hi).2.1,(Kw s i l).len⟩
theorem K6.dl(h:K6 x roots s):s.infs.length<=65536/\s.drv.length=s.infs.length/\s.drv.length<=65536:=by
 have h1:=h.der.dlen;have h2:=h.der.len;omega
theorem mw(hx:Av x=0)(p:ByteArray):∀d,AM x roots d ⟨2,p,0,0,0,0⟩=some (D6 p (A4 x p)):=fun d=>by
 obtain⟨u,u0,u1,hu⟩:=fb hx p;have hV:Gt []:=fun _ h=>by cases h
 have ou:UZ [] p (ML [] p (cZ u)):=.ver hV (Ff ⟨u0,u1⟩);have h1:AT [(⟨p,false,BU (A4 x p)⟩:Tm)] (ML [] p (cZ u))=true:=by
  grind [Bq,CW,AB,Ff,Hw,Fx,Pj]
 have h2:AT [(⟨p,false,BU (A4 x p)⟩:Tm)] []=false:=rfl;have D8:D6 p (A4 x p)≠[]:=by
  have c1:=Da (l:=[(⟨p,false,BU (A4 x p)⟩:Tm)]) ou.val;have c2:=Da (l:=[(⟨p,false,BU (A4 x p)⟩:Tm)]) hV;rw[h1]at c1;rw[h2]at c2;unfold D6 BT;cases hc:A3 [(⟨p,false,BU (A4 x p)⟩:Tm)]with
  |none=>grind
  |some c=>
   rw[hc]at c2;intro e;have e:c=[]:=e;rw[e]at c2;cases c2
 grind [AM,Oo]
theorem Fg(h:k<s.drv.length):s.drv[k]?=some (Em s k):=by
 simp_all
theorem T5{p:ByteArray}{L:List Nat}(hj:j<L.length)(h:s.full=true\/DC (Em s k) p=false):B4 p (L.drop j) k s=(k,s):=by
 grind [List.drop_eq_getElem_cons,B4]
theorem cd{p:ByteArray}{L:List Nat}(hj:j<L.length)(h1:¬(s.full=true\/DC (Em s k) p=false))(h:L[j]=k):B4 p (L.drop j) k s=B4 p (L.drop (j+1)) k s:=by
 grind [List.drop_eq_getElem_cons,B4]
theorem ie{p:ByteArray}{L:List Nat}(hj:j<L.length)(h1:¬(s.full=true\/DC (Em s k) p=false))(h2:¬L[j]=k)(h:(AQ (Em s k) (Em s L[j]) p).2≠0):B4 p (L.drop j) k s=B4 p (L.drop (j+1)) k s:=by
 grind [List.drop_eq_getElem_cons,B4]
theorem ic{p:ByteArray}{L:List Nat}(hj:j<L.length)(h1:¬(s.full=true\/DC (Em s k) p=false))(h2:¬L[j]=k)(h:(AQ (Em s k) (Em s L[j]) p).2=0) :
  B4 p (L.drop j) k s=B4 p (L.drop (j+1)) (Eb s ⟨3,p,0,0,(k:Nat),(L[j]:Nat)⟩ (AQ (Em s k) (Em s L[j]) p).1).1 (Eb s ⟨3,p,0,0,(k:Nat),(L[j]:Nat)⟩ (AQ (Em s k) (Em s L[j]) p).1).2:=by
 grind [List.drop_eq_getElem_cons,B4]
end
theorem Gn{t:List Tm}(h:U4 t):BL t:=by omega
theorem s91(x:List Rl)(roots:List Rq)(C A:List (Value×AV))(s:SS)(dec:List Cd)(st:List (List Sk))(p:ByteArray)(n:Nd)(rs:List Nat)(V:AV)(hx:Av x=0)(hr:AL roots=0)(hs:K6 x roots s)(Y3:∀d,AM x roots d (Pl n)=some (Ik n))(hrs:∀r∈rs,r<s.drv.length)(Jh:rs.length<=1073741823)(hnq:BL n.rq.set)(hnp:As (n.place+1))
  (w8:∀a,(Value.string p,a)∈A->a=V) (w9:(∀a,(Value.string p,a)∉A)->V=nzA) (xa:∀h,PC 137 [vs p,str h V] (sl Ad (D6 p (A4 x p)))):A6 Tryz.prog 91 [.ref 1000 0,vs p,.agg (AU n),sl Cs rs] (Af (Ie roots C A s dec st) Ae) fun r h'=>r9 roots C A dec st (Dx x p n rs s) r h':=by
 have hw:=hs.dl;obtain⟨zD,hk1,dQ⟩:=hs.add (Y3 s.drv)
 change K6 x roots (By s n).2 at zD
 change (By s n).1<(By s n).2.drv.length at hk1
 change s.drv.length<=(By s n).2.drv.length at dQ
 have TP:=zD.dl;obtain⟨vv,U2,rK⟩:=zD.add (mw hx p (By s n).2.drv)
 change K6 x roots (Et x p (By s n).2).2 at vv
 change (Et x p (By s n).2).1<(Et x p (By s n).2).2.drv.length at U2
 change (By s n).2.drv.length<=(Et x p (By s n).2).2.drv.length at rK
 obtain⟨L,hL⟩:∃L,L=(Et x p (By s n).2).1::rs:=⟨_,rfl⟩;have hLr:∀r∈L,r<(Et x p (By s n).2).2.drv.length:=fun r Vh=>by
  grind
 have hLl:L.length=rs.length+1:=by simp_all
 have hk1:(By s n).1<(Et x p (By s n).2).2.drv.length:=by omega
 refine Bi (IB (pC [6] [3,7,8,10])) [(1000,1000),(1001,1001),(1002,1002),(1003,1003),(1004,1004)] rfl Bz hm rfl Tryz.func91 aa3 rfl (Nz rfl) aa3 rfl (yN (Xi (.gen Vv 0) (Yi rfl (A6.imp (s88 roots C A s dec st n hw.1 hw.2.1 hs.nodup hnq hnp) ?_))));intro v1 g1 q1;have cG:=q1.1;have cH:=q1.2;subst cG;subst cH;refine Pb V nzA w8 w9 (fun h=>h) (Xi .pure (Xi _ (Yi (xa _) (Xi (.gen Vv 0) (Yi rfl (A6.imp (qP roots C A (By s n).2 dec st ⟨2,p,0,0,0,0⟩ (D6 p (A4 x p)) TP.1 TP.2.1 zD.nodup) ?_))))));intro v2 g2 q2;have q2a:=q2.1;have q2b:=q2.2;subst q2a;subst q2b;refine cU [(0,.ref 1000 0),(1,vs p),(3,sl Cs rs),(9,vi (((By s n).1:Nat):Int)),(10,vi (((Et x p (By s n).2).1:Nat):Int))] [(1000,.cells [sl Ac roots,.cmap Cv C,.cmap Cv A,.slice (.id 1001 6) ((Et x p (By s n).2).2.infs.map AG),.slice (.id 1002 1) ((Et x p (By s n).2).2.drv.map Aq),.mref 1003,vb (Et x p (By s n).2).2.full,sl At dec,sl Ag (Au dec),.msl 1004 st.length]),(1001,.tok 6 (Et x p (By s n).2).2.infs.length),(1002,.tok 1 (Et x p (By s n).2).2.drv.length),(1003,.map Eh (FP 0 (Et x p (By s n).2).2.infs)),(1004,.arr 1 (st.map A5))] Z5 Z5 ?_
 have b3:A7 1 (rs.map Cs)/\([[vi (((Et x p (By s n).2).1:Nat):Int)]]:List (List AV)).length=1/\(([[vi (((Et x p (By s n).2).1:Nat):Int)]]:List (List AV)).length+(rs.map Cs).length)*8<=140737488355328/\([[vi (((Et x p (By s n).2).1:Nat):Int)]]:List (List AV)).length+(rs.map Cs).length<=9223372036854775807:=⟨(Cn (enc:=Cs) (n:=1) (fun _=>rfl) rs),(by simp_all),(by grind),(by grind)⟩;refine Yi b3 (Xi {q:Nat×Nat×SS // q.1<=L.length/\B4 p (L.drop q.1) q.2.1 q.2.2=B4 p L (By s n).1 (Et x p (By s n).2).2/\K6 x roots q.2.2/\q.2.1<q.2.2.drv.length/\∀r∈L,r<q.2.2.drv.length} (Xi (fun q=>⟨[(0,.ref 1000 0),(1,vs p),(9,vi q.1.2.1),(33,.slice (.id 31 1) (L.map Cs)),(34,vi (L.map Cs).length),(35,vi q.1.1)],[(31,.tok 1 (L.map Cs).length),(1000,.cells (srM roots C A q.1.2.2 dec 1004 st.length)),(1001,.tok 6 q.1.2.2.infs.length),(1002,.tok 1 q.1.2.2.drv.length),(1003,.map Eh (FP 0 q.1.2.2.infs)),(1004,.arr 1 (st.map A5))],Ae⟩) (Xi (fun q=>L.length-q.1.1) (Yi (Xi ⟨(0,(By s n).1,(Et x p (By s n).2).2),Ap _,by simp_all,vv,hk1,hLr⟩ ?_) ?_))))
 .exact⟨⟨Zr,Zr,Zr,⟨(show AV.slice (.id 31 1) ([[vi (((Et x p (By s n).2).1:Nat):Int)]]++rs.map Cs)=.slice (.id 31 1) (L.map Cs) by simp_all),rfl⟩,⟨(show vi (([[vi (((Et x p (By s n).2).1:Nat):Int)]]++rs.map Cs:List (List AV)).length:Int)=vi ((L.map Cs).length:Int) by simp_all),rfl⟩,Zr,Tv⟩,⟨⟨(show HO.tok 1 (([[vi (((Et x p (By s n).2).1:Nat):Int)]]:List (List AV)).length+(rs.map Cs).length)=.tok 1 (L.map Cs).length by grind),rfl⟩,Zr,Zr,Zr,Zr,Zr,Tv⟩,Fh,Bg aa3⟩
 intro⟨⟨j,k,S⟩,j1,j2,j3,j4,j5⟩;have hw3:=j3.dl;have zx:=j3.der.few hx hr;have gk:S.drv[k]?=some (Em S k):=Fg j4;refine Yi (fun h4=>?_) (fun h4=>?_)
 .have h4:(j:Int)<((L.map Cs).length:Int):=h4;have n4:=Ok h4;refine Xi (Cs L[j]) (Yi (TZ n4) (Yi rfl (Yi (fun h5=>?_) (fun h5=>?_))))
  .refine cU [(9,vi k)] [(1000,.cells (srM roots C A S dec 1004 st.length)),(1001,.tok 6 S.infs.length),(1002,.tok 1 S.drv.length),(1003,.map Eh (FP 0 S.infs)),(1004,.arr 1 (st.map A5))] Z1 Z5 ?_
   have eR:B4 p L (By s n).1 (Et x p (By s n).2).2=(k,S):=by grind [T5]
   have eL:Dx x p n rs s=(k,S):=by grind [Dx]
   exact Xi _ (Yi (.refl _) (Yi (show vi (k:Int)=vi (((Dx x p n rs s).1:Nat):Int) by rw[eL]) (show Af (Ie roots C A S dec st) Ae=Af (Ie roots C A (Dx x p n rs s).2 dec st) Ae by rw[eL])))
  refine Xi (Aq (Em S k)) (Yi (Yi (Nn k) (Bk gk)) (Yi rfl (AA (Bt (DC (Em S k) p)) (fun h7=>?_) (fun h7=>?_))))
  .refine Xi .pure (Xi _ (Yi (cb h7 (om (Em S k) p (Gn (zx _ (Ax (Fg j4)))))) (cU [(0,.ref 1000 0),(1,vs p),(9,vi k),(12,vi (L[j]:Nat)),(33,.slice (.id 31 1) (L.map Cs)),(34,vi (L.map Cs).length),(35,vi j)] [(31,.tok 1 (L.map Cs).length),(1000,.cells (srM roots C A S dec 1004 st.length)),(1001,.tok 6 S.infs.length),(1002,.tok 1 S.drv.length),(1003,.map Eh (FP 0 S.infs)),(1004,.arr 1 (st.map A5))] Z7 Z6 (Yi (fun h8=>?_) (fun h8=>?_)))))
   .refine Yi (by grind [As]) (Xi ⟨(j+1,k,S),DB n4,by grind [cd],j3,j4,j5⟩ ?_);exact⟨Dl L.length j aa0,Z6,Z6,Fh,Bg aa3⟩
   refine Xi (Aq (Em S k)) (Yi (Yi (Nn k) (Bk gk)) (Yi rfl (Xi (Aq (Em S L[j])) (Yi (Yi (show(0:Int)<=(L[j]:Nat) by omega) (Bk (Fg (j5 _ (Ak n4))))) (Yi rfl ?_)))));have fk:=zx _ (Ax (Fg j4));have fr:=zx _ (Ax (Fg (j5 _ (Ak n4))));refine Xi _ (Yi (wq (Em S k) (Em S L[j]) p fk.1 fr.1 fk.2 fr.2) (Yi aa3 (cU [(0,.ref 1000 0),(1,vs p),(9,vi k),(12,vi (L[j]:Nat)),(13,sl Ad (AQ (Em S k) (Em S L[j]) p).1),(14,vi (AQ (Em S k) (Em S L[j]) p).2),(33,.slice (.id 31 1) (L.map Cs)),(34,vi (L.map Cs).length),(35,vi j)] [(31,.tok 1 (L.map Cs).length),(1000,.cells (srM roots C A S dec 1004 st.length)),(1001,.tok 6 S.infs.length),(1002,.tok 1 S.drv.length),(1003,.map Eh (FP 0 S.infs)),(1004,.arr 1 (st.map A5))] Z9 Z6 (Yi (fun JR=>?_) (fun JR=>?_)))))
   .refine Yi (by grind [As]) (Xi ⟨(j+1,k,S),DB n4,by rw[<-(ie (s:=S) (p:=p) (L:=L) (j:=j) (k:=k) n4 (by grind) aa0 JR)];exact j2,j3,j4,j5⟩ ?_);exact⟨Dl L.length j aa0,Z6,Z6,Fh,Bg aa3⟩
   have JR:((AQ (Em S k) (Em S L[j]) p).2:Int)=(0:Int):=A9 JR;refine Xi (.gen Vv 0) (Yi rfl (A6.imp (qP roots C A S dec st ⟨3,p,0,0,(k:Nat),(L[j]:Nat)⟩ (AQ (Em S k) (Em S L[j]) p).1 hw3.1 hw3.2.1 j3.nodup) ?_));intro v12 g12 LB;have cD:=LB.1;have cE:=LB.2;subst cD;subst cE;refine Yi (by grind [As]) ?_;obtain⟨a1,a2,a3⟩:=j3.add (V5 (x:=x) (roots:=roots) (p:=p) j4 (j5 _ (Ak n4)) JR);refine Xi ⟨(j+1,(Eb S ⟨3,p,0,0,(k:Nat),(L[j]:Nat)⟩ (AQ (Em S k) (Em S L[j]) p).1).1,(Eb S ⟨3,p,0,0,(k:Nat),(L[j]:Nat)⟩ (AQ (Em S k) (Em S L[j]) p).1).2),DB n4,by rw[<-(ic (s:=S) (p:=p) (L:=L) (j:=j) (k:=k) n4 (by grind) aa0 JR)];exact j2,a1,a2,fun r hr=>Cp (j5 r hr) a3⟩ ?_;exact⟨Dl L.length j aa0,Z6,Z6,Fh,Bg aa3⟩
  refine Xi .pure (Xi _ (Yi (cb h7 (om (Em S k) p (Gn (zx _ (Ax (Fg j4)))))) (cU [(9,vi k)] [(1000,.cells (srM roots C A S dec 1004 st.length)),(1001,.tok 6 S.infs.length),(1002,.tok 1 S.drv.length),(1003,.map Eh (FP 0 S.infs)),(1004,.arr 1 (st.map A5))] Z1 Z5 ?_)))
  have eR:B4 p L (By s n).1 (Et x p (By s n).2).2=(k,S):=by grind [T5]
  have eL:Dx x p n rs s=(k,S):=by grind [Dx]
  exact Xi _ (Yi (.refl _) (Yi (show vi (k:Int)=vi (((Dx x p n rs s).1:Nat):Int) by rw[eL]) (show Af (Ie roots C A S dec st) Ae=Af (Ie roots C A (Dx x p n rs s).2 dec st) Ae by rw[eL])))
 have n4:=Oj h4;have hj:¬j<L.length:=by omega
 have eR:B4 p L (By s n).1 (Et x p (By s n).2).2=(k,S):=by rw[<-j2,D0 aa0];rfl
 have eL:Dx x p n rs s=(k,S):=by grind [Dx]
 exact Xi _ (Yi (.refl _) (Yi (show vi (k:Int)=vi (((Dx x p n rs s).1:Nat):Int) by rw[eL]) (show Af (Ie roots C A S dec st) Ae=Af (Ie roots C A (Dx x p n rs s).2 dec st) Ae by rw[eL])))
abbrev aK:HJ:=[(1000,1000),(1001,1001),(1002,1002),(1003,1003),(500,1004)]
abbrev zP:List (Nat×HO):=
 [(1000,.cells (srM roots C A s dec 2000 st.length)),(1001,.tok 6 s.infs.length),(1002,.tok 1 s.drv.length),(1003,.map Eh (FP 0 s.infs)),(1004,.dead),(2000,.arr 1 (st.map A5))]
abbrev aM(o:Ku)(r:AV)(h' : Nat->HO):Prop:=r=.tup [vi (o.res:Nat),vb o.found]/\h'=Af (zP roots C A o.ss o.dec o.stack) Ae
def H64:Prop:=∀(s:SS) (dec:List Cd) (st:List (List Sk)),dec.length<=1000->(∀c∈dec,c.rel.reqs.length<=1073741824) ->
 A6 Tryz.prog 64 [.ref 1000 0] (Af (Ie roots C A s dec st) Ae) fun r h'=>r=.tup [vs (D5 roots dec).1,sl AU (D5 roots dec).2]/\h'=Af (Ie roots C A s dec st) Ae
theorem NT{roots:List Rq}{C A:List (Value×AV)}{o:Ku}{s:SS}{dec:List Cd}{st:List (List Sk)}(e:o=⟨k,b,s,dec,st⟩) :
  AV.tup [vi (k:Nat),vb b]=.tup [vi (o.res:Nat),vb o.found]/\Af (zP roots C A s dec st) Ae=Af (zP roots C A o.ss o.dec o.stack) Ae:=by simp_all
abbrev aJ:HJ:=[(1000,1000),(1001,1001),(1002,1002),(1003,1003),(1004,1004),(1005,1005),(1006,1006),(1007,1007),(1008,1008),(1009,1009)]
def HL:ByteArray×List Nd:=((CY roots dec).take m).foldl (Ep dec) (mt,[])
theorem mA{roots:List Rq}{dec:List Cd}{m:Nat}{n:Nd}(h:(CY roots dec)[m]?=some n):HL roots dec (m+1)=Ep dec (HL roots dec m) n:=by
 grind [HL,List.take_add_one]
theorem qz{roots:List Rq}{dec:List Cd}{m:Nat}(h:(CY roots dec).length<=m):HL roots dec m=D5 roots dec:=by
 grind [HL,D5,List.take_of_length_le]
def FV(j:Nat):Nat:=roots.length+((dec.take j).map fun c=>c.rel.reqs.length).sum
theorem Uz:(QI c).length=c.rel.reqs.length:=MJ _ _ _
theorem iB:FV roots dec 0=roots.length:=by grind [FV]
theorem iA{roots:List Rq}{dec:List Cd}(h:j<dec.length):FV roots dec (j+1)=FV roots dec j+dec[j].rel.reqs.length:=by
 grind [FV,List.take_succ_eq_append_getElem]
theorem ZV:FV roots dec dec.length=(CY roots dec).length:=by
 grind [FV,CY,am,MJ,List.map_congr_left,Uz]
theorem ip{roots:List Rq}{dec:List Cd}{i:Nat}(h:i<roots.length):(CY roots dec)[i]?=some ⟨roots[i],mt,0,(i:Nat)⟩:=by
 grind [CY,am,List.getElem?_append_left,PA]
theorem YL{α:Type}:∀{l:List (List α)} {j k:Nat} (hj:j<l.length),k<l[j].length->l.flatten[((l.take j).map List.length).sum+k]?=l[j][k]?
 |y::l,0,k,_,hk=>by
  grind
 |y::l,j+1,k,hj,hk=>by
  rw[Cj,List.take_succ_cons,Bv,List.sum_cons,BQ aa0]
  have:=YL (l:=l) (j:=j) (k:=k) (by grind) hk
  grind
theorem ml{roots:List Rq}{dec:List Cd}(hj:j<dec.length)(hk:k<dec[j].rel.reqs.length):(CY roots dec)[FV roots dec j+k]?=some ⟨dec[j].rel.reqs[k],dec[j].rel.path,dec[j].place,(k:Nat)⟩:=by
 unfold CY am FV;rw[BQ (by grind [MJ]),MJ];have h:=YL (l:=dec.map QI) (j:=j) (k:=k) (by simp_all) (by grind [Uz]);rw[<-List.map_take,B2,show(List.length ∘ QI)=fun c=>c.rel.reqs.length from funext Uz]at h
 grind [QI,PA]
abbrev ol:List (Nat×HO):=
  [(1000,.cells (PS roots C A s dec st.length)),(1001,.tok 6 s.infs.length),(1002,.tok 1 s.drv.length),(1003,.map Eh (FP 0 s.infs)),(1004,.arr 1 (st.map A5)),
   (1005,.cells [.ref 1000 0]),(1006,.cells [vs (HL roots dec m).1]),(1007,.cells [.slice (.ver 1008 5 m) ((HL roots dec m).2.map AU)]),(1008,.var 5 m ((HL roots dec m).2.map AU).length),(1009,.cells [.ref 1000 0])]
noncomputable abbrev cxn(pl:Md)(l:Nat)(Y:Gh->World->Prop):Cx:=⟨Tryz.prog,nK,pl,true,0,fun l' σ' g w=>l'=l->σ'=aJ->Y g w⟩
theorem G6.pre{P:Program}{Y':Gh->World->Prop}{l:Nat}{h0:Nat->HO}{Q:AV->(Nat->HO)->Prop}(h:G6 P Y l args h0 Q)(hp:∀g w,Y' g w->Y g w):G6 P Y' l args h0 Q:=
 fun g w vals q1 q2 q3 q4=>h g w vals q1 q2 q3 (hp g w q4)
theorem AdI:A6 Tryz.prog 117 [.ref 1000 0] (Af (Ie roots C A s dec st) Ae) fun r h'=>r=.clo 170 [.ref 2000 0]/\h'=Af (Ie roots C A s dec st++[(2000,.cells [.ref 1000 0])]) Ae:=by
 refine Bi (IB De) [(1000,1000),(1001,1001),(1002,1002),(1003,1003),(1004,1004),(1,2000)] rfl Bz hm rfl Tryz.func117 aa3 rfl (Nz rfl) aa3 rfl ?_;exact Xi _ (Yi (.refl _) Zr)
theorem AdJ(l:Nat)(roots:List Rq)(C A:List (Value×AV))(s:SS)(dec:List Cd)(st:List (List Sk))(hr:roots.length<=1073741824)(hd:dec.length<=1073741824)(rH:∀c∈dec,c.rel.reqs.length<=1073741824)(hy:∀m n,(CY roots dec)[m]?=some n->G6 Tryz.prog Y l [.agg (AU n)] (Af (ol roots C A s dec st m) Ae) fun r h'=>r=vb true/\h'=Af (ol roots C A s dec st (m+1)) Ae) :
  NA Tryz.prog Y aJ 170 [.v (.func (.yield l) #[] #[]),.ref 1005 0] (Af (ol roots C A s dec st 0) Ae) fun _ h'=>h'=Af (ol roots C A s dec st (CY roots dec).length) Ae:=by
 refine lR (l:=l) (cxn De l Y) aJ rfl Bz hm rfl Tryz.func170 aa3 rfl (Nz rfl) aa3 rfl rfl (Xi {i:Nat // i<=roots.length} (Xi (fun q=>⟨[(0,.v (.func (.yield l) #[] #[])),(1,.ref 1005 0),(12,sl Ac roots),(13,vi (roots.map Ac).length),(14,vi q.1)],[(1000,.cells (srM roots C A s dec 1004 st.length)),(1001,.tok 6 s.infs.length),(1002,.tok 1 s.drv.length),(1003,.map Eh (FP 0 s.infs)),(1004,.arr 1 (st.map A5)),(1005,.cells [.ref 1000 0]),(1006,.cells [vs (HL roots dec q.1).1]),(1007,.cells [.slice (.ver 1008 5 q.1) ((HL roots dec q.1).2.map AU)]),(1008,.var 5 q.1 ((HL roots dec q.1).2.map AU).length),(1009,.cells [.ref 1000 0])],Ae⟩) (Xi (fun q=>roots.length-q.1) (Yi (Xi ⟨0,Ap _⟩ ?_) ?_))))
 .exact⟨Z5,Z10,Fh,Bg aa3⟩
 intro⟨i,i1⟩;refine Yi (fun h1=>?_) (fun h1=>?_)
 .have h1:(i:Int)<((roots.map Ac).length:Int):=h1;have n1:=Ok h1;refine Xi (Ac roots[i]) (Yi (TZ n1) (Yi rfl (yN (yN (yN (Xi (.gen aJ 0) (Yi rfl (G6.imp (G6.pre (hy i ⟨roots[i],mt,0,(i:Nat)⟩ (ip n1)) (fun g w q=>q rfl rfl)) ?_))))))));intro v2 g2 q2;have q2a:=q2.1;have q2b:=q2.2;subst q2a;subst q2b;refine Yi (by grind [As]) (Xi ⟨i+1,by omega⟩ ?_);exact⟨by grind,Z5,Z10,Fh,Bg aa3⟩
 have h1:¬((i:Int)<((roots.map Ac).length:Int)):=h1;have n1:=Oj h1;have hE:i=FV roots dec 0:=by grind [iB]
 refine Xi {j:Nat // j<=dec.length} (Xi (fun q=>⟨[(0,.v (.func (.yield l) #[] #[])),(29,sl At dec),(30,vi (dec.map At).length),(31,vi q.1)],[(1000,.cells (srM roots C A s dec 1004 st.length)),(1001,.tok 6 s.infs.length),(1002,.tok 1 s.drv.length),(1003,.map Eh (FP 0 s.infs)),(1004,.arr 1 (st.map A5)),(1005,.cells [.ref 1000 0]),(1006,.cells [vs (HL roots dec (FV roots dec q.1)).1]),(1007,.cells [.slice (.ver 1008 5 (FV roots dec q.1)) ((HL roots dec (FV roots dec q.1)).2.map AU)]),(1008,.var 5 (FV roots dec q.1) ((HL roots dec (FV roots dec q.1)).2.map AU).length),(1009,.cells [.ref 1000 0])],Ae⟩) (Xi (fun q=>dec.length-q.1) (Yi (Xi ⟨0,Ap _⟩ ?_) ?_)))
 .exact⟨Z4,⟨Zr,Zr,Zr,Zr,Zr,Zr,⟨(show .cells [vs (HL roots dec i).1]=(.cells [vs (HL roots dec (FV roots dec 0)).1]:HO) by rw[hE]),rfl⟩,⟨(show .cells [.slice (.ver 1008 5 i) ((HL roots dec i).2.map AU)]=(.cells [.slice (.ver 1008 5 (FV roots dec 0)) ((HL roots dec (FV roots dec 0)).2.map AU)]:HO) by rw[hE]),rfl⟩,⟨(show .var 5 i ((HL roots dec i).2.map AU).length=(.var 5 (FV roots dec 0) ((HL roots dec (FV roots dec 0)).2.map AU).length:HO) by rw[hE]),rfl⟩,Zr,Tv⟩,Fh,Bg aa3⟩
 intro⟨j,j1⟩;refine Yi (fun h4=>?_) (fun h4=>?_)
 .have h4:(j:Int)<((dec.map At).length:Int):=h4;have n4:=Ok h4;have hdj:=rH dec[j] (Ak n4);refine Xi (At dec[j]) (Yi (TZ n4) (Yi rfl (yN (yN (Xi {k:Nat // k<=dec[j].rel.reqs.length} (Xi (fun q=>⟨[(0,.v (.func (.yield l) #[] #[])),(6,.ref 6 0),(29,sl At dec),(30,vi (dec.map At).length),(31,vi j),(37,sl Ac dec[j].rel.reqs),(38,vi (dec[j].rel.reqs.map Ac).length),(39,vi q.1)],[(6,.cells (At dec[j])),(1000,.cells (srM roots C A s dec 1004 st.length)),(1001,.tok 6 s.infs.length),(1002,.tok 1 s.drv.length),(1003,.map Eh (FP 0 s.infs)),(1004,.arr 1 (st.map A5)),(1005,.cells [.ref 1000 0]),(1006,.cells [vs (HL roots dec (FV roots dec j+q.1)).1]),(1007,.cells [.slice (.ver 1008 5 (FV roots dec j+q.1)) ((HL roots dec (FV roots dec j+q.1)).2.map AU)]),(1008,.var 5 (FV roots dec j+q.1) ((HL roots dec (FV roots dec j+q.1)).2.map AU).length),(1009,.cells [.ref 1000 0])],Ae⟩) (Xi (fun q=>dec[j].rel.reqs.length-q.1) (Yi (Xi ⟨0,Ap _⟩ ?_) ?_))))))))
  .exact⟨Z8,Z11,Fh,Bg aa3⟩
  intro⟨k,k1⟩;have k1:k<=dec[j].rel.reqs.length:=k1;refine Yi (fun h5=>?_) (fun h5=>?_)
  .have h5:(k:Int)<((dec[j].rel.reqs.map Ac).length:Int):=h5;have n5:=Ok h5;refine Xi (Ac dec[j].rel.reqs[k]) (Yi (TZ n5) (Yi rfl (yN (yN (yN (Xi (.gen aJ 0) (Yi rfl (G6.imp (G6.pre (hy (FV roots dec j+k) ⟨dec[j].rel.reqs[k],dec[j].rel.path,dec[j].place,(k:Nat)⟩ (ml n4 n5)) (fun g w q=>q rfl rfl)) ?_))))))));intro v6 g6 q6;have q6a:=q6.1;have q6b:=q6.2;subst q6a;subst q6b;refine Yi (by grind [As]) (Xi ⟨k+1,by omega⟩ ?_);exact⟨by grind,Z8,Z11,Fh,Bg aa3⟩
  have h5:¬((k:Int)<((dec[j].rel.reqs.map Ac).length:Int)):=h5;have n5:=Oj h5;refine Yi (by grind [As]) ?_;have hE:FV roots dec j+k=FV roots dec (j+1):=by grind [iA]
  refine Xi ⟨j+1,by omega⟩ ?_;exact⟨by grind,Z4,⟨Zr,Zr,Zr,Zr,Zr,Zr,⟨(show .cells [vs (HL roots dec (FV roots dec j+k)).1]=(.cells [vs (HL roots dec (FV roots dec (j+1))).1]:HO) by rw[hE]),rfl⟩,⟨(show .cells [.slice (.ver 1008 5 (FV roots dec j+k)) ((HL roots dec (FV roots dec j+k)).2.map AU)]=(.cells [.slice (.ver 1008 5 (FV roots dec (j+1))) ((HL roots dec (FV roots dec (j+1))).2.map AU)]:HO) by rw[hE]),rfl⟩,⟨(show .var 5 (FV roots dec j+k) ((HL roots dec (FV roots dec j+k)).2.map AU).length=(.var 5 (FV roots dec (j+1)) ((HL roots dec (FV roots dec (j+1))).2.map AU).length:HO) by rw[hE]),rfl⟩,Zr,Tv⟩,Fh,Bg aa3⟩
 have h4:¬((j:Int)<((dec.map At).length:Int)):=h4;have n4:=Oj h4;exact Aa (fun m=>Af (ol roots C A s dec st m) Ae) (show FV roots dec j=(CY roots dec).length by grind [ZV])
end Go.Eng
