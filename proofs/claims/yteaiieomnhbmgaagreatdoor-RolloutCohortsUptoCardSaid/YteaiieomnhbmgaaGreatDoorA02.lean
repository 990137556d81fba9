/- Lemmas for the claims of this seat, without a condition: part 2 (P8, P9, P10, P11, P12, P13, P14, Q1, Q2). -/
import Derived.Test.YteaiieomnhbmgaaGreatDoorA01
import Derived.Lib.SplitLaws
import Derived.Lib.IndexBytes
namespace Go.Eng
variable {x:Int×Int}{B:List Int}{s:List Tm}(m:List (Int×Int))(S:Bu)(l:List Tm)(r:Bu)(i:Nat)(k:Int)(t:Tm)(v j:Int)
def DW(l:Bu):Bu:=(l.map I2).filter fun x=>decide (x.1<x.2)
theorem Pl(a b:Bu):DW (a++b)=DW a++DW b:=by unfold DW;rw[Ar,EE]
theorem Wy{l:Bu}(h:x∈DW l):0<=x.1/\x.1<x.2/\x.2<=1000000:=by
 unfold DW at h;rw[Bv,Ag]at h;obtain⟨⟨y,_,rfl⟩,h2⟩:=h;have h2:=AU h2;refine⟨?_,h2,?_⟩<;>simp only[I2]<;>omega
theorem gG(l:Bu)(p:Int):(DW l).any (BV p)=has l p:=by
 rw[<-Ll]
 induction l with
 |nil=>rfl
 |cons x r ih =>
  have e:DW (x::r)=(if(I2 x).1<(I2 x).2 then [I2 x]else [])++DW r:=by
   unfold DW;rw[AI,Ef]
   by_cases h:(I2 x).1<(I2 x).2<;>simp[h]
  have ec:canon (x::r)=if(I2 x).1<(I2 x).2 then XJ (I2 x) (canon r)else canon r:=rfl
  rw[e,H5,ih,ec]
  by_cases h:(I2 x).1<(I2 x).2
  .rw[Al h,Al h,Pa _ p (Cv r) h];simp
  .rw[Ai h,Ai h];simp
theorem Om:∀{l:Bu} {lo:Int},E4 lo l↔(∀y∈l,lo<=y.1/\y.1<y.2/\y.2<=1000000)/\l.Pairwise fun a b=>a.2<b.1
 | [],lo=>by simp[E4]
 |y::r,lo=>by
  rw[BL];constructor
  .intro h;have hl:=h.low;refine⟨hl,fun z hz=>?_,((Om (l:=r)).1 h.2.2.2).2⟩
   have:=h.2.2.2.low z hz;omega
  .intro⟨h1,h2,h3⟩;have hy:=h1 y (Ab ..);refine⟨hy.1,hy.2.1,hy.2.2,Om.2 ⟨fun z hz=>?_,h3⟩⟩
   have:=h1 z (Ah _ hz)
   have:=h2 z hz
   omega
def LC(x:Int×Int):Bu:=match r with
 | []=>[x]
 |y::t=>if x.1<=y.2 then(y.1,max y.2 x.2)::t else x::y::t
def BQ(s:Bu):Bu:=s.foldl LC []
theorem GN(s:Bu)(i:Nat)(h:i<s.length):BQ (s.take (i+1))=LC (BQ (s.take i)) s[i]:=by
 unfold BQ;rw[Bi,Ay h,Em];rfl
theorem jt(x:Int×Int):(LC r x).length<=r.length+1/\r.length<=(LC r x).length/\0<(LC r x).length:=by
 unfold LC;split
 .simp
 .split<;>simp
theorem UO(s:Bu):∀i,i<=s.length->(BQ (s.take i)).length<=i/\(0<i->0<(BQ (s.take i)).length):=by
 intro i
 induction i with
 |zero=>intro _;simp[BQ]
 |succ i ih =>
  intro h;rw[GN s i ch]
  have:=jt (BQ (s.take i)) s[i]
  have:=ih ch
  omega
structure se(r done:Bu):Prop where
 ok:∀y∈r,0<=y.1/\y.1<y.2/\y.2<=1000000
 pw:r.Pairwise fun a b=>b.2<a.1
 has:∀p,r.any (BV p)=done.any (BV p)
 first:∀y t,r=y::t->∃x∈done,y.1=x.1
theorem js{r done:Bu}(h:se r done)(hx:0<=x.1/\x.1<x.2/\x.2<=1000000)(hs:∀y∈done,y.1<=x.1):se (LC r x) (done++[x]):=by
 unfold LC;split
 .refine⟨fun y hy=>?_,by simp,fun p=>?_,fun y t e=>?_⟩
  .rw[Ap.1 hy];exact hx
  .rw[H5,<-h.has];rfl
  .cases e;exact⟨x,by simp,rfl⟩
 .rename_i y t;have hy:=h.ok y (Ab ..);obtain⟨pw1,pw2⟩:=BL.1 h.pw;obtain⟨z,hz,e⟩:=h.first y t rfl
  have vL:=hs z hz;split
  .rename_i H2;refine⟨fun u hu=>?_,BL.2 ⟨pw1,pw2⟩,fun p=>?_,fun u t' e'=>?_⟩
   .rcases Az.1 hu with rfl | hu
    .exact⟨hy.1,by dsimp only;omega,by dsimp only;omega⟩
    .exact h.ok u (Ah _ hu)
   .rw[H5,<-h.has,Ce,Ce,Ce,List.any_nil,Bool.or_false]
    have:BV p (y.1,max y.2 x.2)=(BV p y||BV p x):=by
     simp only[BV];rw[B1];simp only[Ae,CJ,AA];omega
    rw[this];cases BV p y<;>cases BV p x<;>cases t.any (BV p)<;>rfl
   .cases e';exact⟨z,BC _ hz,e⟩
  .rename_i H2;refine⟨fun u hu=>?_,BL.2 ⟨fun u hu=>?_,h.pw⟩,fun p=>?_,fun u t' e'=>?_⟩
   .rcases Az.1 hu with rfl | hu
    .exact hx
    .exact h.ok u hu
   .rcases Az.1 hu with rfl | hu
    .omega
    .have:=pw1 u hu;omega
   .rw[H5,<-h.has,Ce,Ce,Ce,List.any_nil,Bool.or_false];cases BV p y<;>cases BV p x<;>cases t.any (BV p)<;>rfl
   .cases e';exact⟨x,by simp,rfl⟩
theorem cR{s:Bu}(GM:∀y∈s,0<=y.1/\y.1<y.2/\y.2<=1000000)(hs:s.Pairwise fun a b=>a.1<=b.1):∀i,i<=s.length->se (BQ (s.take i)) (s.take i):=by
 intro i
 induction i with
 |zero=>intro _;exact⟨fun _ h=>by simp[BQ]at h,by simp[BQ],fun p=>by simp[BQ],fun y t e=>by simp[BQ]at e⟩
 |succ i ih =>
  intro h;have hi:i<s.length:=by omega
  rw[GN s i hi];have e:s.take (i+1)=s.take i++[s[i]]:=by rw[Bi,Ay hi];rfl
  rw[e];refine js (ih ch) (GM _ (Aq hi)) fun y hy=>?_;obtain⟨j,hj,rfl⟩:=Cf.1 hy;rw[GE];rw[Av]at hj;exact(AX.1 hs) j i ch hi ch
theorem SE{l s:Bu}(hp:s.Perm (DW l))(hs:s.Pairwise fun a b=>a.1<=b.1):(BQ s).reverse=canon l:=by
 have hi:=cR (s:=s) (fun y hy=>Wy (hp.mem_iff.1 hy)) hs s.length (Aj _);rw[B4]at hi;have hc:EZ (BQ s).reverse:=by
  unfold EZ;rw[Om];refine⟨fun y hy=>hi.ok y (List.mem_reverse.1 hy),?_⟩;rw[List.pairwise_reverse];exact hi.pw
 refine TX hc fun p=>?_;rw[Ih hc,List.any_reverse,hi.has,<-gG];rw[B1,Bd,Bd];constructor
 .rintro⟨y,h1,h2⟩;exact⟨y,hp.mem_iff.1 h1,h2⟩
 .rintro⟨y,h1,h2⟩;exact⟨y,hp.mem_iff.2 h1,h2⟩
-- maps from numbers to numbers,as lists in the order in which they are met
def FB:Int:=match m.find? (fun p=>decide (p.1=k))with | some p=>p.2 | none=>0
def L9:List (Int×Int):=if m.any (fun p=>decide (p.1=k))then m.map (fun p=>if p.1=k then(k,v)else p)else m++[(k,v)]
theorem HX(p:Int×Int)(m:List (Int×Int))(k:Int):FB (p::m) k=if p.1=k then p.2 else FB m k:=by
 unfold FB;rw[E8];by_cases h:p.1=k<;>simp[h]
theorem Qx:FB (L9 m k v) j=if j=k then v else FB m j:=by
 unfold L9;split
 .rename_i h
  induction m with
  |nil=>simp at h
  |cons p m ih =>
   rw[AI,HX,HX]
   by_cases e:p.1=k
   .rw[Al e];dsimp only
    by_cases ej:j=k
    .subst ej;simp
    .rw[Ai (fun c=>ej c.symm),Ai ej,Ai (fun c=>ej (c.symm.trans e))]
     by_cases hm:(m.any fun p=>decide (p.1=k))=true
     .rw[ih hm,Ai ej]
     .have:∀q∈m,q.1≠k:=fun q hq e=>hm (Bd.2 ⟨q,hq,by simp[e]⟩)
      have:m.map (fun p=>if p.1=k then(k,v)else p)=m:=by
       conv=>rhs;rw[<-F3 m]
       exact Bh fun q hq=>by simp[this q hq]
      rw[this]
   .rw[Ai e];have hm:(m.any fun p=>decide (p.1=k))=true:=by simpa[e]using h
    rw[ih hm]
    by_cases ej:j=k
    .subst ej;simp[e]
    .simp[ej]
 .rename_i h;have hn:∀q∈m,q.1≠k:=fun q hq e=>h (Bd.2 ⟨q,hq,by simp[e]⟩)
  induction m with
  |nil =>
   rw[FL,HX]
   by_cases ej:j=k
   .simp[ej]
   .have:¬k=j:=fun c=>ej c.symm
    simp[ej,this]
  |cons p m ih =>
   rw[Hi,HX,HX];have e:=hn p (Ab ..);have ih:=ih (by simpa[e]using h) fun q hq=>hn q (Ah _ hq)
   by_cases ep:p.1=j
   .have:¬j=k:=fun c=>e (ep.trans c)
    simp[ep,this]
   .simp only[ep,Gl];exact ih
def Fp:List Int:=m.map (·.1)
theorem WT:Fp (L9 m k v)=if k∈Fp m then Fp m else Fp m++[k]:=by
 unfold L9 Fp;have e:(m.any fun p=>decide (p.1=k))=decide (k∈m.map (·.1)):=by
  rw[B1];simp only[Bd,AA,Ag]
 rw[e]
 by_cases h:k∈m.map (·.1)
 .simp only[h,decide_true,Sc,Bo];apply Bh;intro p _;simp only[Function.comp];split
  .rename_i e;exact e.symm
  .rfl
 .simp[h]
theorem MX{m:List (Int×Int)}(h:(Fp m).Nodup)(k v:Int):(Fp (L9 m k v)).Nodup:=by
 rw[WT];split
 .exact h
 .rename_i hn;rw[FG];exact⟨h,by simp,fun a ha b hb e=>by subst e;rw[Ap.1 hb]at ha;exact hn ha⟩
theorem II:j∈Fp (L9 m k v)↔j=k\/j∈Fp m:=by
 rw[WT];split
 .rename_i h;constructor
  .exact .inr
  .rintro(rfl | h')
   .exact h
   .exact h'
 .simp[or_comm]
theorem nD{m:List (Int×Int)}(h:(Fp m).Nodup){p:Int×Int}(hp:p∈m):FB m p.1=p.2:=by
 induction m with
 |nil=>cases hp
 |cons q m ih =>
  rw[HX];unfold Fp at h ih;rw[AI,De]at h;rcases Az.1 hp with rfl | hp
  .simp
  .have:¬q.1=p.1:=fun e=>h.1 (e▸Ag.2 ⟨p,hp,rfl⟩)
   rw[Ai this];exact ih h.2 hp
theorem nE{m:List (Int×Int)}{k:Int}(h:k∉Fp m):FB m k=0:=by
 unfold FB
 have:m.find? (fun p=>decide (p.1=k))=none:=by
  rw[DO];intro p hp;simp only[AA];exact fun e=>h (Ag.2 ⟨p,hp,e⟩)
 rw[this]
-- counting
def cF:Nat:=S.countP fun x=>decide (x.1=k)
def cT:Nat:=S.countP fun x=>decide (x.2=k)
def lF:Nat:=S.countP fun x=>decide (x.1<=k)
def lT:Nat:=S.countP fun x=>decide (x.2<=k)
theorem JB{α:Type}{p q r:α->Bool}:∀{l:List α},(∀x∈l,(p x=true↔q x=true\/r x=true)/\¬(q x=true/\r x=true))->l.countP p=l.countP q+l.countP r
 | [],_=>rfl
 |x::l,h=>by
  have ih:=JB fun y hy=>h y (Ah _ hy);obtain⟨h1,h2⟩:=h x (Ab ..);rw[Jh,Jh,Jh,ih];cases hp:p x<;>cases hq:q x<;>cases hr:r x<;>simp_all<;>omega
structure Jo(m:List (Int×Int))(S:Bu):Prop where
 nd:(Fp m).Nodup
 val:∀k,FB m k=(cF S k:Int)-cT S k
 keys:0∈Fp m/\1000000∈Fp m/\∀x∈S,x.1∈Fp m/\x.2∈Fp m
 rng:∀k∈Fp m,0<=k/\k<=1000000
def ww:List (Int×Int):=[(0,0),(1000000,0)]
theorem o5:Jo ww []:=⟨by decide,fun k=>by
  unfold ww;rw[HX,HX];simp[FB,cF,cT],⟨by decide,by decide,fun _ h=>by cases h⟩,fun k hk=>by
  unfold ww Fp at hk;simp at hk;omega⟩
def bh(x:Int×Int):List (Int×Int):=L9 (L9 m x.1 (FB m x.1+1)) x.2 (FB (L9 m x.1 (FB m x.1+1)) x.2-1)
theorem jr{m:List (Int×Int)}{S:Bu}(h:Jo m S)(hx:0<=x.1/\x.1<x.2/\x.2<=1000000):Jo (bh m x) (S++[x]):=by
 unfold bh;refine⟨MX (MX h.nd _ _) _ _,fun k=>?_,⟨?_,?_,fun y hy=>?_⟩,fun k hk=>?_⟩
 .rw[Qx,Qx,Qx,h.val,h.val,h.val];unfold cF cT;simp only[List.countP_append,List.countP_singleton,AA]
  by_cases e1:k=x.2
  .subst e1
   have:¬x.2=x.1:=by omega
   have:¬x.1=x.2:=by omega
   simp[*];omega
  .by_cases e2:k=x.1
   .subst e2
    have:¬x.2=x.1:=by omega
    have:¬x.1=x.2:=by omega
    simp[*];omega
   .have a1:¬x.1=k:=fun c=>e2 c.symm;have a2:¬x.2=k:=fun c=>e1 c.symm;simp[e1,e2,a1,a2]
 .rw[II,II];exact .inr (.inr h.keys.1)
 .rw[II,II];exact .inr (.inr h.keys.2.1)
 .simp only[II];rcases AO.1 hy with hy | hy
  .have:=h.keys.2.2 y hy
   exact⟨.inr (.inr this.1),.inr (.inr this.2)⟩
  .rw[Ap.1 hy];exact⟨.inr (.inl rfl),.inl rfl⟩
 .rw[II,II]at hk;rcases hk with rfl | rfl | hk
  .omega
  .omega
  .exact h.rng k hk
def Jc(B:List Int):Int:=(B.map (FB m)).foldl (·+·) 0
theorem RA(B:List Int)(i:Nat)(h:i<B.length):Jc m (B.take (i+1))=Jc m (B.take i)+FB m B[i]:=by
 unfold Jc;rw[Bi,Ay h,Ar,Em];simp only[Option.toList_some,AI,E0,E9,List.foldl_nil]
structure oC(B:List Int)(m:List (Int×Int)):Prop where
 perm:B.Perm (Fp m)
 srt:B.Pairwise fun a b=>a<b
theorem fL{m:List (Int×Int)}{S:Bu}(h:Jo m S)(hB:oC B m):∀i (hi:i<B.length),Jc m (B.take (i+1))=(lF S B[i]:Int)-lT S B[i]:=by
 have mem:∀k,k∈Fp m->∃j,∃hj:j<B.length,B[j]=k:=fun k hk=>by
  have:=hB.perm.mem_iff.2 hk
  obtain⟨j,hj,e⟩:=Cf.1 this;exact⟨j,hj,e⟩
 have lt:∀i j (hi:i<B.length) (hj:j<B.length),i<j->B[i]<B[j]:=fun i j hi hj PO=>(AX.1 hB.srt) i j hi hj PO;intro i
 induction i with
 |zero =>
  intro hi;rw[RA m B 0 hi,h.val]
  have:Jc m (B.take 0)=0:=by simp[Jc]
  rw[this];have low:∀k∈Fp m,B[0]<=k:=fun k hk=>by
   obtain⟨j,hj,rfl⟩:=mem k hk;cases j with
   |zero=>exact Bs _
   |succ j=>have:=lt 0 (j+1) hi hj ch;omega
  have e1:lF S B[0]=cF S B[0]:=by
   unfold lF cF;apply RI;intro x hx
   have:=low _ (h.keys.2.2 x hx).1
   simp only[AA];omega
  have e2:lT S B[0]=cT S B[0]:=by
   unfold lT cT;apply RI;intro x hx
   have:=low _ (h.keys.2.2 x hx).2
   simp only[AA];omega
  rw[e1,e2];omega
 |succ i ih =>
  intro hi;rw[RA m B (i+1) hi,ih ch,h.val];have nb:∀k∈Fp m,k<=B[i+1]↔k<=B[i]\/k=B[i+1]:=fun k hk=>by
   obtain⟨j,hj,rfl⟩:=mem k hk;have l0:=lt i (i+1) ch hi ch;rcases Nat.lt_trichotomy j (i+1)with c | c | c
   .have:B[j]<=B[i]:=by
     rcases DQ j i with d | d
     .have:=lt j i hj ch d;omega
     .have:j=i:=by omega
      subst this;exact Bs _
    omega
   .subst c;omega
   .have:=lt (i+1) j hi hj c;omega
  have l0:=lt i (i+1) ch hi ch;have e1:lF S B[i+1]=lF S B[i]+cF S B[i+1]:=by
   unfold lF cF;apply JB;intro x hx
   have:=nb _ (h.keys.2.2 x hx).1
   simp only[AA];omega
  have e2:lT S B[i+1]=lT S B[i]+cT S B[i+1]:=by
   unfold lT cT;apply JB;intro x hx
   have:=nb _ (h.keys.2.2 x hx).2
   simp only[AA];omega
  rw[e1,e2];omega
theorem Zq{S:Bu}(hS:∀x∈S,x.1<x.2)(p:Int):(lF S p:Int)-lT S p=(S.countP (BV p):Nat):=by
 have:lF S p=S.countP (BV p)+lT S p:=by
  unfold lF lT;apply JB;intro x hx
  have:=hS x hx
  simp only[BV,Ae,AA];omega
 omega
theorem Pp:∀{l:Bu} {lo:Int} (p:Int),E4 lo l->l.countP (BV p)=if l.any (BV p)then 1 else 0
 | [],_,_,_=>rfl
 |y::r,lo,p,⟨h1,h2,h3,h4⟩=>by
  rw[Jh,Pp p h4,Ce];cases hy:BV p y with
  |false=>rw[MB];simp
  |true =>
   have:=D0.1 hy
   have:r.any (BV p)=false:=by
    rw[AM];intro hr;have:=Ni h4 hr;omega
   simp[this]
theorem MJ:∀(l:List Bu) (p:Int),((l.map canon).flatten).countP (BV p)=jG l p
 | [],_=>rfl
 |s::l,p=>by
  rw[AI,BB,List.countP_append,MJ l p,Pp p (Cv s),Ll];unfold jG;rw[Jh];omega
def EN(keep:Nat->Bool)(m:List (Int×Int))(B:List Int):Nat->Bu
 |0=>[]
 |i+1=>EN keep m B i++(match B[i]?,B[i+1]? with
  |some a,some b=>if keep (Jc m (B.take (i+1))).toNat then [(a,b)]else []
  |_,_=>[])
theorem QZ{keep:Nat->Bool}{m:List (Int×Int)}{B:List Int}{x:Int×Int}:∀{n:Nat},x∈EN keep m B n↔∃i,i<n/\∃(h1:i<B.length) (h2:i+1<B.length),keep (Jc m (B.take (i+1))).toNat=true/\x=(B[i],B[i+1])
 |0=>by simp[EN]
 |n+1=>by
  unfold EN;rw[AO,QZ (n:=n)];constructor
  .rintro(⟨i,h1,h2⟩ | h)
   .exact⟨i,by omega,h2⟩
   .split at h
    .rename_i a b ha hb;obtain⟨h1,e1⟩:=Au.1 ha;obtain⟨h2,e2⟩:=Au.1 hb;split at h
     .rename_i hk;refine⟨n,by omega,h1,h2,hk,?_⟩;rw[Ap.1 h,e1,e2]
     .cases h
    .cases h
  .rintro⟨i,h1,h2,h3,h4,rfl⟩
   by_cases e:i=n
   .subst e;refine .inr ?_;rw[Ay h2,Ay h3];simp[h4]
   .exact .inl ⟨i,by omega,h2,h3,h4,rfl⟩
theorem Pf{B:List Int}(hs:B.Pairwise fun a b=>a<b){p:Int}:∀(n:Nat) (h0:0<B.length) (hn:n<B.length),B[0]<=p->p<B[n]->∃i,∃(h1:i<B.length) (h2:i+1<B.length),B[i]<=p/\p<B[i+1]
 |0,h0,hn,h1,h2=>by omega
 |n+1,h0,hn,h1,h2=>by
  by_cases e:B[n]<=p
  .exact⟨n,by omega,hn,e,h2⟩
  .exact Pf hs n h0 ch h1 ch
theorem lY{keep:Nat->Bool}{l:List Bu}{m:List (Int×Int)}(h:Jo m (l.map canon).flatten)(hB:oC B m)(p:Int):has (EN keep m B (B.length-1)) p=(Mx p&&keep (jG l p)):=by
 have hS:∀x∈(l.map canon).flatten,x.1<x.2:=fun x hx=>by
  obtain⟨s,hs,hx⟩:=DY.1 hx;obtain⟨t,_,rfl⟩:=Ag.1 hs;exact((Cv t).low x hx).2.1
 have mem:∀k,k∈Fp m->∃j,∃hj:j<B.length,B[j]=k:=fun k hk=>by
  obtain⟨j,hj,e⟩:=Cf.1 (hB.perm.mem_iff.2 hk);exact⟨j,hj,e⟩
 have lt:∀i j (hi:i<B.length) (hj:j<B.length),i<j->B[i]<B[j]:=fun i j hi hj PO=>(AX.1 hB.srt) i j hi hj PO;have rng:∀i (hi:i<B.length),0<=B[i]/\B[i]<=1000000:=fun i hi=>h.rng _ (hB.perm.mem_iff.1 (Aq hi))
 -- XR two bounds
 have XR:∀i (h1:i<B.length) (h2:i+1<B.length),B[i]<=p->p<B[i+1]->(Jc m (B.take (i+1))).toNat=jG l p:=fun i h1 h2 a b=>by
  have same:∀k∈Fp m,k<=B[i]↔k<=p:=fun k hk=>by
   obtain⟨j,hj,rfl⟩:=mem k hk;constructor
   .intro c;omega
   .intro c;rcases DQ i j with d | d
    .rcases DQ (i+1) j with f | f
     .have:=lt (i+1) j h2 hj f;omega
     .have:j=i+1:=by omega
      subst this;omega
    .rcases DQ j i with f | f
     .have:=lt j i hj h1 f;omega
     .have:j=i:=by omega
      subst this;exact Bs _
  have e1:lF (l.map canon).flatten B[i]=lF (l.map canon).flatten p:=by
   unfold lF;apply RI;intro x hx
   have:=same _ (h.keys.2.2 x hx).1
   simp only[AA];exact this
  have e2:lT (l.map canon).flatten B[i]=lT (l.map canon).flatten p:=by
   unfold lT;apply RI;intro x hx
   have:=same _ (h.keys.2.2 x hx).2
   simp only[AA];exact this
  rw[fL h hB i h1,e1,e2,Zq hS,MJ];simp
 rw[B1];constructor
 .intro hh;have oh:=MU hh;unfold has at hh;simp only[oh,decide_true,EY]at hh;obtain⟨x,hx,hp⟩:=Bd.1 hh;obtain⟨i,_,h1,h2,hk,rfl⟩:=QZ.1 hx
  have:=D0.1 hp
  dsimp only at this;rw[<-XR i h1 h2 this.1 this.2];simp[Mx,oh,hk]
 .intro hh;simp only[Ae,Mx,AA]at hh;obtain⟨⟨p0,p1⟩,hk⟩:=hh;obtain⟨j0,hj0,e0⟩:=mem 0 h.keys.1;obtain⟨j1,hj1,e1⟩:=mem 1000000 h.keys.2.1;have hb0:B[0]' ch<=p:=by
   have:B[0]' ch<=0:=by
    cases j0 with
    |zero=>omega
    |succ j=>have:=lt 0 (j+1) ch hj0 ch;omega
   omega
  obtain⟨i,h1,h2,a,b⟩:=Pf hB.srt j1 ch hj1 hb0 ch;unfold has;simp only[p0,p1,decide_true,EY];exact Bd.2 ⟨(B[i],B[i+1]),QZ.2 ⟨i,by omega,h1,h2,by rw[XR i h1 h2 a b];exact hk,rfl⟩,D0.2 ⟨a,b⟩⟩
theorem np{l:List Bu}{m:List (Int×Int)}(h:Jo m (l.map canon).flatten)(hB:oC B m)(i:Nat)(hi:i<B.length):0<=Jc m (B.take (i+1))/\Jc m (B.take (i+1))<=l.length:=by
 have hS:∀x∈(l.map canon).flatten,x.1<x.2:=fun x hx=>by
  obtain⟨s,hs,hx⟩:=DY.1 hx;obtain⟨t,_,rfl⟩:=Ag.1 hs;exact((Cv t).low x hx).2.1
 rw[fL h hB i hi,Zq hS,MJ]
 have:jG l B[i]<=l.length:=List.countP_le_length
 omega
def YD(m:List Tm)(t:Tm):List Tm:=if m.any (fun u=>decide (u.path=t.path))then m.map (fun u=>if u.path=t.path then t else u)else m++[t]
def Sx(m:List Tm)(t:Tm):List Tm:=YD m (OJ (Dx m t.path) t)
def DG:List Tm:=l.foldl Sx []
theorem gV(p:ByteArray):∀m:List Tm,Dx (YD m t) p=if t.path=p then some t else Dx m p:=by
 intro m;unfold YD
 by_cases h:(m.any fun u=>decide (u.path=t.path))=true
 .rw[Al h]
  induction m with
  |nil=>simp at h
  |cons u m ih =>
   rw[AI,CX,CX]
   by_cases e:u.path=t.path
   .rw[Al e]
    by_cases ep:t.path=p
    .simp[ep]
    .rw[Ai ep,Ai ep,Ai (fun c=>ep (e.symm.trans c))]
     by_cases hm:(m.any fun u=>decide (u.path=t.path))=true
     .rw[ih hm,Ai ep]
     .have:∀q∈m,q.path≠t.path:=fun q hq c=>hm (Bd.2 ⟨q,hq,by simp[c]⟩)
      have:m.map (fun u=>if u.path=t.path then t else u)=m:=by
       conv=>rhs;rw[<-F3 m]
       exact Bh fun q hq=>by simp[this q hq]
      rw[this]
   .rw[Ai e];have hm:(m.any fun u=>decide (u.path=t.path))=true:=by simpa[e]using h
    rw[ih hm]
    by_cases ep:t.path=p
    .subst ep;simp[e]
    .simp[ep]
 .rw[Ai h];have hn:∀q∈m,q.path≠t.path:=fun q hq e=>h (Bd.2 ⟨q,hq,by simp[e]⟩)
  clear h
  induction m with
  |nil=>rw[FL,CX]
  |cons u m ih =>
   rw[Hi,CX,CX,ih fun q hq=>hn q (Ah _ hq)]
   have:=hn u (Ab ..)
   by_cases e:u.path=p
   .have:¬t.path=p:=fun c=>this (e.trans c.symm)
    simp[e,this]
   .simp[e]
def EP(m:List Tm):List ByteArray:=m.map (·.path)
open Classical in
theorem de(m:List Tm)(t:Tm):EP (YD m t)=if t.path∈EP m then EP m else EP m++[t.path]:=by
 unfold YD EP;have e:(m.any fun u=>decide (u.path=t.path))=true↔t.path∈m.map (·.path):=by
  simp only[Bd,AA,Ag]
 by_cases h:t.path∈m.map (·.path)
 .rw[Al (e.2 h),Al h,Bo];apply Bh;intro p _;simp only[Function.comp];split
  .rename_i e;exact e.symm
  .rfl
 .rw[Ai (fun c=>h (e.1 c)),Ai h,Ar];rfl
theorem iL{m:List Tm}(h:(EP m).Nodup)(t:Tm):(EP (YD m t)).Nodup:=by
 rw[de];split
 .exact h
 .rename_i hn;rw[FG];exact⟨h,by simp,fun a ha b hb e=>by subst e;rw[Ap.1 hb]at ha;exact hn ha⟩
theorem Sm(h:i<l.length):DG (l.take (i+1))=Sx (DG (l.take i)) l[i]:=by
 unfold DG;rw[Bi,Ay h,Em];rfl
theorem PH:∀(l m:List Tm),(EP m).Nodup->(EP (l.foldl Sx m)).Nodup
 | [],_,h=>h
 |_::l,_,h=>PH l _ (iL h _)
theorem Il:(EP (DG l)).Nodup:=PH l [] .nil
theorem ZI(m:List Tm)(t:Tm)(p:ByteArray):Dx (Sx m t) p=KM p (Dx m p) t:=by
 unfold Sx KM;have hp:(OJ (Dx m t.path) t).path=t.path:=Rj _ _ fun u h=>HB h;rw[gV,hp]
 by_cases e:t.path=p
 .rw[Al e,Al e,e]
 .rw[Ai e,Ai e]
theorem PD(p:ByteArray):∀(l m:List Tm),Dx (l.foldl Sx m) p=l.foldl (KM p) (Dx m p)
 | [],_=>rfl
 |t::l,m=>by rw[E9,E9,PD p l,ZI]
theorem ci(p:ByteArray):Dx (DG l) p=Dx (Fj l) p:=by
 unfold DG;rw[PD,JE];rfl
theorem MP{m:List Tm}(h:(EP m).Nodup){t:Tm}:t∈m↔Dx m t.path=some t:=by
 constructor
 .induction m with
  |nil=>intro h;cases h
  |cons u m ih =>
   intro ht;unfold EP at h ih;rw[AI,De]at h;rw[CX];rcases Az.1 ht with rfl | ht
   .rw[Al rfl]
   .have:¬u.path=t.path:=fun e=>h.1 (e▸Ag.2 ⟨t,ht,rfl⟩)
    rw[Ai this];exact ih h.2 ht
 .exact Fs
theorem Io{m:List Tm}(h:(EP m).Nodup):m.Nodup:=by
 unfold EP at h
 induction m with
 |nil=>exact .nil
 |cons u m ih =>
  rw[AI,De]at h;exact De.2 ⟨fun hu=>h.1 (Ag.2 ⟨u,hu,rfl⟩),ih h.2⟩
theorem Iu{l:List Tm}{lo:Option ByteArray}(h:Co lo l):(EP l).Nodup:=by
 unfold EP
 induction l generalizing lo with
 |nil=>exact .nil
 |cons t l ih =>
  rw[AI,De];refine⟨fun hm=>?_,ih h.2.2⟩;obtain⟨u,hu,e⟩:=Ag.1 hm
  have:=h.2.2.low u hu
  rw[e,Df]at this;cases this
theorem JN:t∈DG l↔t∈Fj l:=by
 rw[MP (Il l),ci,<-MP (Iu (EF l))]
theorem PW:∀t∈DG l,EZ t.set:=fun t ht=>(EF l).canon t ((JN l t).1 ht)
theorem ju(m:List Tm)(t:Tm):(Sx m t).length<=m.length+1:=by
 unfold Sx YD;split<;>simp
theorem OE:∀i,i<=l.length->(DG (l.take i)).length<=i:=by
 intro i
 induction i with
 |zero=>intro _;simp[DG]
 |succ i ih =>
  intro h;rw[Sm l i ch]
  have:=ju (DG (l.take i)) l[i]
  have:=ih ch
  omega
theorem dy(hs:s.Pairwise fun x y=>Ea x.path y.path=true)(hc:∀t∈s,EZ t.set):Co none s:=by
 have:∀(s:List Tm) (lo:Option ByteArray),s.Pairwise (fun x y=>Ea x.path y.path=true)->(∀t∈s,EZ t.set)->(∀p,lo=some p->∀t∈s,Ea p t.path=true)->Co lo s:=by
  intro s
  induction s with
  |nil=>intro _ _ _ _;trivial
  |cons t s ih =>
   intro lo hs hc hl;obtain⟨h1,h2⟩:=BL.1 hs;exact⟨fun p e=>hl p e t (Ab ..),hc t (Ab ..),ih _ h2 (fun u hu=>hc u (Ah _ hu)) fun p e u hu=>by cases e;exact h1 u hu⟩
 exact this s none hs hc fun _ e=>by cases e
theorem QL{l:List Tm}(q:Tm->Bool)(hp:s.Perm ((DG l).filter q))(hs:s.Pairwise fun x y=>Ea y.path x.path=false):s=(Fj l).filter q:=by
 have hm:∀t,t∈s↔t∈(Fj l).filter q:=fun t=>by
  rw[hp.mem_iff,Bv,Bv,JN]
 have SI:(EP s).Nodup:=by
  have h1:(EP ((DG l).filter q)).Nodup:=by
   unfold EP;exact List.Nodup.sublist (List.Sublist.map _ List.filter_sublist) (Il l)
  unfold EP at h1⊢;exact(hp.map (·.path)).nodup_iff.2 h1
 have Ku:s.Pairwise fun x y=>Ea x.path y.path=true:=by
  rw[AX]at hs⊢;intro i j hi hj PO;cases hb:Ea s[i].path s[j].path with
  |true=>rfl
  |false =>
   have e:=H8 hb (hs i j hi hj PO);unfold EP at SI
   have:=(AX.1 SI) i j (by simpa using hi) (by simpa using hj) PO
   simp at this;exact absurd e this
 have hss:Co none s:=dy Ku fun t ht=>(EF l).canon t (Bv.1 ((hm t).1 ht)).1;have oo:Co none ((Fj l).filter q):=Co.filter q (EF l);refine Na hss oo fun p=>?_;cases h1:Dx s p with
 |some t =>
  have:=(hm t).1 (Fs h1)
  rw[FS oo,HB h1]at this;exact this.symm
 |none =>
  cases h2:Dx ((Fj l).filter q) p with
  |none=>rfl
  |some t =>
   have:=(hm t).2 (Fs h2)
   rw[FS hss,HB h2,h1]at this;cases this
theorem bP:Hm t t=Mh t:=by unfold Hm Mh;rw[cK,Bool.and_self]
theorem fG(o:Option Tm)(t:Tm):OJ o t=Hm (o.getD t) t:=by cases o with | none=>exact(bP t).symm | some u=>rfl
theorem gp{t:Tm}(h:EZ t.set):(t.absent&&(ES t.set).isEmpty)=GX t:=by
 unfold GX
 congr 1
 rw[B1,Hk,AA];have ha:EZ [(0,1000000)]:=⟨Bs _,by dsimp only;omega,Bs _,trivial⟩;constructor
 .intro e;refine H9 h ha fun p=>?_
  have:=FV t.set p
  rw[e]at this;have h0:has [] p=false:=by simp[has]
  rw[h0]at this;have h1:has [(0,1000000)] p=Mx p:=by simp[has,Mx,BV]
  rw[h1];cases hp:Mx p with
  |true=>rw[hp]at this;simpa using this.symm
  |false =>
   rw[AM];intro hh
   have:=MU hh
   simp[Mx,this]at hp
 .intro e;rw[Rd (HN _)];intro p;rw[FV,e];have h1:has [(0,1000000)] p=Mx p:=by simp[has,Mx,BV]
  rw[h1];simp
theorem mi{t:Tm}(h:EZ t.set):(!t.absent&&(canon t.set).isEmpty)=IM t:=by unfold IM;rw[JV h]
end Go.Eng
namespace Go.Eng
open Go.Lib
theorem Rw(c:UInt8):∀(s:List UInt8) (k:Nat),s.count c<=k->splitK [c] 0 k s=FC c s
 | [],k,_=>by
  cases k with
  |zero=>rfl
  |succ k=>rfl
 |b::r,k,h=>by
  rw[FC]
  by_cases e:b=c
  .subst e;rw[List.count_cons_self]at h;obtain⟨k',rfl⟩:∃k',k=k'+1:=⟨k-1,by omega⟩;rw[Al rfl,splitK,index_one,indexByte];simp only[beq_self_eq_true,Sc];rw[Ai Cl];show []::splitK [b] 0 k' r=_;rw[Rw b r k' ch]
  .have Dy:(b == c)=false:=by simpa using e
   rw[List.count_cons_of_ne (by simpa using e)]at h;have ih:=Rw c r k h;rw[Ai e];cases k with
   |zero =>
    rw[<-ih];rfl
   |succ k =>
    rw[<-ih,splitK,splitK,index_one,index_one,indexByte,Dy]
    by_cases h0:indexByte r c=-1
    .rw[h0];rfl
    .have h1:(indexByte r c == -1)=false:=by simpa using h0
     have h2:=indexByte_ge r c;have h3:(indexByte r c+1 == -1)=false:=by rw[beq_eq_false_iff_ne];omega
     simp only[Dh,Gl,h1,h3];obtain⟨i,hi⟩:∃i:Nat,indexByte r c=i:=⟨(indexByte r c).toNat,by omega⟩;rw[hi];show(b::r).take (((i:Int)+1).toNat+0)::_=(b::r.take ((i:Int).toNat+0))::_;rw[show((i:Int)+1).toNat=i+1 by omega,show((i:Nat):Int).toNat=i by omega]
     rfl
theorem Zp(c:UInt8):∀(n:Nat) (s:List UInt8),s.length<=n->count s [c]=s.count c
 |n,s,hn=>by
  rcases Int.lt_or_le (indexByte s c) 0 with h | h
  .have h2:=indexByte_ge s c;have h3:indexByte s c=-1:=by omega
   rw[count_miss (by rw[index_one];exact h3)]
   symm
   rw[List.count_eq_zero];intro hm;obtain⟨k,hk,e⟩:=Jy hm;exact indexByte_none h3 k (by rw[Ay hk,e])
  .obtain⟨i,hi⟩:∃i:Nat,indexByte s c=i:=⟨(indexByte s c).toNat,by omega⟩;obtain⟨h1,h2⟩:=indexByte_some hi;obtain⟨hl,hg⟩:=Au.1 h1;cases n with
   |zero=>omega
   |succ n =>
    have hc:=count_hit (s:=s) (sub:=[c]) (i:=i) B0 (by rw[index_one];exact hi);rw[hc];have ih:=Zp c n (s.drop (i+1)) (by rw[Dc];omega);have xJ:s=s.take i++c::s.drop (i+1):=by
     rw[<-hg,<-AH hl,Gp]
    have h0:(s.take i).count c=0:=by
     rw[List.count_eq_zero];intro hm;obtain⟨k,hk,e⟩:=Jy hm;rw[Av]at hk;rw[GE]at e;exact h2 k ch (by rw[Ay ch,e])
    conv=>rhs;rw[xJ]
    rw[List.count_append,h0,List.count_cons_self];show 1+count (s.drop (i+1)) [c]=_;rw[ih];omega
theorem jq(s:ByteArray)(c:UInt8):((splitB ⟨#[c]⟩ 0 (countB s ⟨#[c]⟩) s).map (·.data.toList))=FC c s.data.toList:=by
 rw[splitB_data];refine Rw c _ _ ?_;show _<=count s.data.toList [c];rw[Zp c _ _ (Aj _)];exact Aj _
end Go.Eng
namespace Go.Eng
variable {U:List ByteArray}{d:List (List Tm)}{l t c:List Tm}{i:Nf}{k:Nat}(x:List Rl)(p:ByteArray)(roots:List Rq)
theorem Re{α:Type}:∀{l m:List α},l.Nodup->(∀x∈l,x∈m)->l.length<=m.length
 | [],_,_,_=>AE _
 |a::l,m,hn,hs=>by
  obtain⟨h1,h2⟩:=De.1 hn;obtain⟨s,t,rfl⟩:=List.append_of_mem (hs a (Ab ..))
  have:l.length<=(s++t).length:=Re h2 fun x hx=>by
   rcases AO.1 (hs x (Ah _ hx))with h | h
   .exact BC _ h
   .rcases Az.1 h with rfl | h
    .exact absurd hx h1
    .exact Br _ h
  simp only[Ac,Ak]at this⊢;omega
theorem Mj(p:ByteArray):∀(l:List Tm) (o:Option Tm),(∀u∈l,u.path≠p)->l.foldl (KM p) o=o
 | [],_,_=>rfl
 |t::l,o,h=>by
  rw[E9,show KM p o t=o by unfold KM;rw[Ai (h t (Ab ..))]];exact Mj p l o fun u hu=>h u (Ah _ hu)
theorem cS{t:Tm}(h:t∈Fj l):∃u∈l,u.path=t.path:=by
 apply AL;intro hn
 have:∀u∈l,u.path≠t.path:=fun u hu e=>hn ⟨u,hu,e⟩
 have h1:=(FS (EF l)).1 h;rw[JE,Mj _ _ _ this]at h1;cases h1
def VZ(U:List ByteArray)(t:List Tm):Prop:=Co none t/\∀u∈t,u.path∈U
theorem VZ.len(h:VZ U t):t.length<=U.length:=by
 have:=Re (Iu h.1) (m:=U) fun p hp=>by
  obtain⟨u,hu,rfl⟩:=Ag.1 hp;exact h.2 u hu
 unfold EP at this
 rwa [A8]at this
theorem bQ(h:C3 l=some c){t:Tm}(ht:t∈c):t∈Fj l:=by
 unfold C3 at h;split at h
 .cases h
 .cases h;exact(Bv.1 ht).1
theorem QK(h:C3 l=some c)(hu:∀u∈l,u.path∈U):VZ U c :=
 ⟨Fa h,fun t ht=>by
  obtain⟨u,h1,h2⟩:=cS (bQ h ht);rw[<-h2];exact hu u h1⟩
theorem VZ.nil(U:List ByteArray):VZ U []:=⟨trivial,fun u hu=>by cases hu⟩
theorem UY(hu:∀u∈l,u.path∈U):VZ U (Rf l):=by
 unfold Rf;cases h:C3 l with
 |none=>exact .nil U
 |some c=>exact QK h hu
theorem Sv{a b:List Tm}{p:ByteArray}(ha:VZ U a)(hb:VZ U b):VZ U (BX a b p).1:=by
 have sp:∀{l r:List Tm} {t:Tm},VZ U l->FD l p=some (t,r)->t.path∈U/\∀u∈r,u.path∈U:=by
  intro l r t hl h;unfold FD at h;cases e:C3 l with
  |none=>rw[e]at h;cases h
  |some c =>
   rw[e]at h;have h:(match Dx c p with | none=>none | some t=>some (t,F1 c p))=some (t,r):=h;have hc:=QK e hl.2;cases e2:Dx c p with
   |none=>rw[e2]at h;cases h
   |some u =>
    rw[e2]at h;cases h;exact⟨hc.2 _ (Fs e2),fun u hu=>hc.2 u (Bv.1 hu).1⟩
 unfold BX;split
 .rename_i t r u m e1 e2;obtain⟨a1,a2⟩:=sp ha e1;obtain⟨b1,b2⟩:=sp hb e2;split
  .rename_i o e3;refine QK e3 fun v hv=>?_;rcases AO.1 hv with hv | hv
   .rcases AO.1 hv with hv | hv
    .exact a2 v hv
    .exact b2 v hv
   .rw[Ap.1 hv];exact a1
  .exact .nil U
 .exact .nil U
def K3(l:List Nf):List ByteArray:=(x.map (·.path))++((x.map (·.reqs)).flatten.map (·.path)++(roots.map (·.path)++l.map (·.path)))
theorem iu{x:List Rl}{roots:List Rq}{l:List Nf}(hi:i∈l)(hd:∀t∈d,VZ (K3 x roots l) t)(h:Ec x roots d i=some t):VZ (K3 x roots l) t:=by
 have hp:i.path∈K3 x roots l:=by
  unfold K3;exact Br _ (Br _ (Br _ (Ag.2 ⟨i,hi,rfl⟩)))
 have nz:∀{α:Type} {l:List α} {k:Int} {a:α},Kb l k=some a->a∈l:=by
  intro α l k a h;unfold Kb at h;split at h
  .cases h
  .exact Aw h
 have n0:∀{a b:List Tm},iE a=some b->b=a:=by
  intro a b h;unfold iE at h;split at h
  .cases h
  .cases h;rfl
 unfold Ec at h;split at h
 .split at h
  .cases e:Kb roots i.number with
   |none=>rw[e]at h;cases h
   |some q =>
    rw[e]at h;cases h;refine UY fun u hu=>?_;rw[Ap.1 hu];unfold K3;exact Br _ (Br _ (BC _ (Ag.2 ⟨q,nz e,rfl⟩)))
  .cases h
 split at h
 .split at h
  .cases e:Qi x i.path i.place with
   |none=>rw[e]at h;cases h
   |some r =>
    rw[e]at h;have h:(match Kb r.reqs i.number with | none=>none | some q=>iE (EA i.path i.place q))=some t:=h;cases e2:Kb r.reqs i.number with
    |none=>rw[e2]at h;cases h
    |some q =>
     rw[e2]at h;have h:=n0 (show iE (EA i.path i.place q)=some t from h);subst h;refine UY fun u hu=>?_;rcases Az.1 hu with rfl | hu
     .exact hp
     .rw[Ap.1 hu];unfold K3;refine Br _ (BC _ (Ag.2 ⟨q,?_,rfl⟩));exact DY.2 ⟨r.reqs,Ag.2 ⟨r,BE e,rfl⟩,nz e2⟩
  .cases h
 split at h
 .split at h
  .have h:=n0 h;subst h;refine UY fun u hu=>?_;rw[Ap.1 hu];exact hp
  .cases h
 split at h
 .split at h
  .cases e:Kb d i.left with
   |none=>rw[e]at h;cases h
   |some a =>
    cases e2:Kb d i.right with
    |none=>rw[e,e2]at h;cases h
    |some b =>
     rw[e,e2]at h;have h:(if(BX a b i.path).2=0 then some (BX a b i.path).1 else none)=some t:=h;split at h
     .cases h;exact Sv (hd a (nz e)) (hd b (nz e2))
     .cases h
  .cases h
 .cases h
structure Cd where
 place:Int
 rel:Rl
structure Nd where
 rq:Rq
 path:ByteArray
 place:Int
 number:Int
variable (n:Nd)
structure SS where
 infs:List Nf
 drv:List (List Tm)
 full:Bool
variable {s':SS}(s:SS)
abbrev UE(c:Cd):Sl:=⟨c.rel.path,c.rel.ver⟩
abbrev AR(l:List Cd):List Sl:=l.map UE
def Cz:List Cd:=(x.filter fun r=>decide (r.path=p)&&!r.yanked).map fun r=>⟨plc r.ver,r⟩
def M3(f:Rq->Nat->Nd):Nat->List Rq->List Nd
 |_,[]=>[]
 |i,q::l=>f q i::M3 f (i+1) l
def aY:List Nd:=M3 (fun q i=>⟨q,mt,0,i⟩) 0 roots
def Rm(c:Cd):List Nd:=M3 (fun q i=>⟨q,c.rel.path,c.place,i⟩) 0 c.rel.reqs
def DH(dec:List Cd):List Nd:=aY roots++(dec.map Rm).flatten
def DK(dec:List Cd)(p:ByteArray):Bool:=dec.any fun c=>decide (c.rel.path=p)
def Ez(dec:List Cd)(a:ByteArray×List Nd)(n:Nd):ByteArray×List Nd :=
 if DK dec n.rq.path=true\/(a.2≠[]/\Ea a.1 n.rq.path=true)then a
 else if a.2≠[]/\Ea n.rq.path a.1=true then(n.rq.path,[n])else(n.rq.path,a.2++[n])
def G8(dec:List Cd):ByteArray×List Nd:=(DH roots dec).foldl (Ez dec) (mt,[])
def fb(l:List Cd)(n:Nd):Bool:=l.any fun d=>decide (d.rel.path=n.rq.path)&&!has n.rq.set d.place
def Er(dec:List Cd)(c:Cd):Option Nd:=(Rm c).find? (fb (dec++[c]))
def Pt(s:List Sl):Nat->List (List Tm)->Option Nat
 |_,[]=>none
 |i,t::l=>if Da t s then some i else Pt s (i+1) l
def Pv(d:List (List Tm))(s:List Sl):Option Nat:=Pt s 0 d
def D6(l:List Tm)(p:ByteArray):Bool:=l.any fun t=>decide (t.path=p)
instance:DecidableEq Nf:=fun a b=>by
 obtain⟨a1,a2,a3,a4,a5,a6⟩:=a;obtain⟨b1,b2,b3,b4,b5,b6⟩:=b;exact decidable_of_iff (a1=b1/\a2=b2/\a3=b3/\a4=b4/\a5=b5/\a6=b6) ⟨fun⟨h1,h2,h3,h4,h5,h6⟩=>by subst h1 h2 h3 h4 h5 h6;rfl,fun h=>by cases h;exact⟨rfl,rfl,rfl,rfl,rfl,rfl⟩⟩
def My(i:Nf):Nat->List Nf->Option Nat
 |_,[]=>none
 |k,j::l=>if j=i then some k else My i (k+1) l
def E5(i:Nf)(l:List Tm):Nat×SS :=
 match My i 0 s.infs with
 |some k=>(k,s)
 |none=>if 65536<=s.infs.length then(s.infs.length-1,⟨s.infs,s.drv,true⟩)else(s.infs.length,⟨s.infs++[i],s.drv++[l],s.full⟩)
def UA:Nf:=if n.path=mt then⟨0,mt,0,n.number,0,0⟩else⟨1,n.path,n.place,n.number,0,0⟩
def JH:List Tm:=if n.path=mt then Kg n.rq else EA n.path n.place n.rq
def BU(n:Nd):Nat×SS:=E5 s (UA n) (JH n)
abbrev EJ(k:Nat):List Tm:=s.drv.getD k []
def CA(p:ByteArray):List Nat->Nat->SS->Nat×SS
 | [],k,s=>(k,s)
 |r::l,k,s =>
  if s.full=true\/D6 (EJ s k) p=false then(k,s)
  else if r=k then CA p l k s
  else if(BX (EJ s k) (EJ s r) p).2≠0 then CA p l k s
  else CA p l (E5 s ⟨3,p,0,0,k,r⟩ (BX (EJ s k) (EJ s r) p).1).1 (E5 s ⟨3,p,0,0,k,r⟩ (BX (EJ s k) (EJ s r) p).1).2
def EO:Nat×SS:=E5 s ⟨2,p,0,0,0,0⟩ (IA p (Ch x p))
def Eh(Gd:List Nat)(s:SS):Nat×SS :=
 CA p ((EO x p (BU s n).2).1::Gd) (BU s n).1 (EO x p (BU s n).2).2
structure KO where
 res:Nat
 found:Bool
 ss:SS
 dec:List Cd
 stack:List (List Sk)
def Ey(rec:List Cd->SS->List (List Sk)->KO)(x:List Rl)(p:ByteArray)(needs:List Nd)(n0:Nd)(dec:List Cd)(stack:List (List Sk)):List Cd->SS->List Nat->List Sk->KO
 | [],s,Gd,_=>⟨(Eh x p n0 Gd s).1,false,(Eh x p n0 Gd s).2,dec,stack⟩
 |c::cs,s,Gd,skips =>
  let after (k:Nat) (s:SS):KO:=if D6 (EJ s k) p=false then⟨k,false,s,dec,stack⟩else Ey rec x p needs n0 dec stack cs s (Gd++[k]) (skips++[⟨p,c.place,k⟩])
  if s.full=true then⟨0,false,s,dec,stack⟩
  else match needs.find? fun n=>!has n.rq.set c.place with
   |some n=>Ey rec x p needs n0 dec stack cs (BU s n).2 (Gd++[(BU s n).1]) skips
   |none=>match Pv s.drv (AR (dec++[c]))with
    |some k=>after k s
    |none=>match Er dec c with
     |some n=>after (BU s n).1 (BU s n).2
     |none =>
      let o:=rec (dec++[c]) s (stack++[skips])
      if o.found=true then⟨0,true,o.ss,o.dec,o.stack⟩
      else if o.ss.full=true then⟨0,false,o.ss,dec,stack⟩
      else after o.res o.ss
def Dv(x:List Rl)(roots:List Rq):Nat->List Cd->SS->List (List Sk)->KO
 |0,dec,s,stack=>⟨0,false,s,dec,stack⟩
 |n+1,dec,s,stack=>match(G8 roots dec).2 with
  | []=>⟨0,true,s,dec,stack⟩
  |n0::l=>Ey (Dv x roots n) x (G8 roots dec).1 (n0::l) n0 dec stack (Cz x (G8 roots dec).1) s [] []
abbrev ss0:SS:=⟨[],[],false⟩
def RU(dec:List Cd):Nat:=(x.filter fun r=>!r.yanked&&!DK dec r.path).length
def EB:KO:=Dv x roots (x.length+1) [] ss0 []
theorem Qc(f:Rq->Nat->Nd):∀(l:List Rq) (i k:Nat),(M3 f i l)[k]?=(l[k]?).map fun q=>f q (i+k)
 | [],i,k=>by simp[M3]
 |q::l,i,0=>by simp[M3]
 |q::l,i,k+1=>by
  have h:=Qc f l (i+1) k;simp only[M3,Hj,h];rw[show i+1+k=i+(k+1) by omega]
theorem Lx(f:Rq->Nat->Nd):∀(l:List Rq) (i:Nat),(M3 f i l).length=l.length
 | [],_=>rfl
 |_::l,i=>by simp[M3,Lx f l (i+1)]
theorem aH{f:Rq->Nat->Nd}{l:List Rq}{n:Nd}(h:n∈M3 f 0 l):∃k q,l[k]?=some q/\n=f q k:=by
 obtain⟨k,hk⟩:=Ck.1 h;rw[Qc,AS]at hk;obtain⟨q,h1,h2⟩:=hk;exact⟨k,q,h1,by rw[<-h2,Bf]⟩
theorem Ti{f:Rq->Nat->Nd}(hf:∀q i,(f q i).rq=q):∀(l:List Rq) (i:Nat),(M3 f i l).map (·.rq)=l
 | [],_=>rfl
 |q::l,i=>by simp[M3,hf,Ti hf l (i+1)]
abbrev Ir(dec:List Cd):List Rq:=roots++(dec.map fun c=>c.rel.reqs).flatten
theorem NA(dec:List Cd):(DH roots dec).map (·.rq)=Ir roots dec:=by
 unfold DH aY;rw[Ar,Ti (fun _ _=>rfl),TA,Bo]
 congr 2
 exact Bh fun c _=>Ti (fun _ _=>rfl) _ _
theorem Gb(dec:List Cd)(p:ByteArray):CR (AR dec) p=DK dec p:=by
 unfold CR DK AR;rw[List.any_map];rfl
theorem Ka(before:List Sl):∀{l:List Rq} {a p:ByteArray},DI before l (some a)=some p->p=a\/Ea p a=true
 | [],a,p,h=>by cases h;exact .inl rfl
 |q::l,a,p,h=>by
  unfold DI at h;split at h
  .exact Ka before h
  .dsimp only at h;split at h
   .rename_i hb;rcases Ka before h with e | e
    .exact .inr (by rw[e];exact hb)
    .exact .inr (D2 e hb)
   .exact Ka before h
theorem I9(before:List Sl):∀{l:List Rq} {a:ByteArray},DI before l (some a)≠none
 | [],a=>by simp[DI]
 |q::l,a=>by
  unfold DI;split
  .exact I9 before
  .dsimp only;split<;>exact I9 before
theorem PB{n:Nd}{p:ByteArray}(e:n.rq.path≠p)(L:List Nd):((n::L).filter fun n=>decide (n.rq.path=p))=L.filter fun n=>decide (n.rq.path=p):=by rw[Ef,Ai (by simpa using e)]
theorem Ya{n:Nd}{p:ByteArray}(e:n.rq.path=p)(L:List Nd):((n::L).filter fun n=>decide (n.rq.path=p))=n::L.filter fun n=>decide (n.rq.path=p):=by rw[Ef,Al (by simpa using e)]
theorem ND(dec:List Cd):∀(L:List Nd) (a:ByteArray×List Nd),(a.2≠[]->DK dec a.1=false) ->
  L.foldl (Ez dec) a=match DI (AR dec) (L.map (·.rq)) (if a.2=[]then none else some a.1)with
   |none=>a
   |some p=>(p,(if a.2≠[]/\a.1=p then a.2 else [])++L.filter fun n=>decide (n.rq.path=p))
 | [],a,h=>by
  obtain⟨p,o⟩:=a;cases o with
  |nil=>simp[DI]
  |cons n o=>simp[DI]
 |n::L,a,h=>by
  obtain⟨p0,o⟩:=a;rw[E9,AI];have xK:∀(acc:Option ByteArray) (l:List Rq),(∀p,acc=some p->DK dec p=false)->∀p,DI (AR dec) l acc=some p->DK dec p=false:=fun acc l ha p hp=>by
   have:=((KI (AR dec) (l:=l) (acc:=acc) (fun p e=>by rw[Gb];exact ha p e)).1 p hp).1
   rw[Gb]at this;exact this
  cases hd:DK dec n.rq.path with
  |true =>
   have e1:Ez dec (p0,o) n=(p0,o):=by unfold Ez;rw[Al (.inl hd)]
   have e2:DI (AR dec) (n.rq::L.map (·.rq)) (if o=[]then none else some p0)=DI (AR dec) (L.map (·.rq)) (if o=[]then none else some p0):=by
    conv=>lhs;unfold DI
    rw[Al (by rw[Gb];exact hd)]
   rw[e1,e2,ND dec L (p0,o) h];dsimp only;cases hg:DI (AR dec) (L.map (·.rq)) (if o=[]then none else some p0)with
   |none=>rfl
   |some p =>
    dsimp only;have hp:=xK _ _ (fun q e=>by
     split at e
     .cases e
     .rename_i ho;cases e;exact h ho) p hg
    have Dy:n.rq.path≠p:=fun e=>by rw[e,hp]at hd;cases hd
    rw[PB Dy]
  |false =>
   have SI:CR (AR dec) n.rq.path=false:=by rw[Gb];exact hd
   by_cases ho:o=[]
   .subst ho;have e1:Ez dec (p0,[]) n=(n.rq.path,[n]):=by
     unfold Ez;rw[Ai (by simp[hd]),Ai B0];rfl
    have e2:DI (AR dec) (n.rq::L.map (·.rq)) none=DI (AR dec) (L.map (·.rq)) (some n.rq.path):=by
     conv=>lhs;unfold DI
     rw[Ai (by rw[SI];decide)]
    rw[e1,ND dec L (n.rq.path,[n]) (fun _=>hd),Al rfl,e2];rw[Ai B0];cases hg:DI (AR dec) (L.map (·.rq)) (some n.rq.path)with
    |none=>exact absurd hg (I9 _)
    |some p =>
     dsimp only;rw[Ai (show ¬(([]:List Nd)≠[]/\p0=p)from fun h=>h.1 rfl)]
     by_cases e:n.rq.path=p
     .rw[Ya e,Al ⟨by simp,e⟩];rfl
     .rw[PB e,Ai (fun h=>e h.2)]
   .have hif:(if o=[]then none else some p0)=some p0:=Ai ho;rw[hif];cases hb:Ea p0 n.rq.path with
    |true =>
     have e1:Ez dec (p0,o) n=(p0,o):=by unfold Ez;rw[Al (.inr ⟨ho,hb⟩)]
     have QA:Ea n.rq.path p0=false:=Nk hb;have e2:DI (AR dec) (n.rq::L.map (·.rq)) (some p0)=DI (AR dec) (L.map (·.rq)) (some p0):=by
      conv=>lhs;unfold DI
      rw[Ai (by rw[SI];decide)];dsimp only;rw[Ai (by rw[QA];decide)]
     rw[e1,e2,ND dec L (p0,o) h];dsimp only;rw[hif];cases hg:DI (AR dec) (L.map (·.rq)) (some p0)with
     |none=>rfl
     |some p =>
      dsimp only;have Dy:n.rq.path≠p:=fun e=>by
       rcases Ka _ hg with e3 | e3
       .rw[e,e3,Df]at hb;cases hb
       .rw[e,Nk e3]at hb;cases hb
      rw[PB Dy]
    |false =>
     cases QA:Ea n.rq.path p0 with
     |true =>
      have e1:Ez dec (p0,o) n=(n.rq.path,[n]):=by
       unfold Ez;rw[Ai (by simp[hd,hb]),Al ⟨ho,QA⟩]
      have e2:DI (AR dec) (n.rq::L.map (·.rq)) (some p0)=DI (AR dec) (L.map (·.rq)) (some n.rq.path):=by
       conv=>lhs;unfold DI
       rw[Ai (by rw[SI];decide)];dsimp only;rw[Al QA]
      rw[e1,e2,ND dec L (n.rq.path,[n]) (fun _=>hd),Ai B0];cases hg:DI (AR dec) (L.map (·.rq)) (some n.rq.path)with
      |none=>exact absurd hg (I9 _)
      |some p =>
       dsimp only;have Dy:p0≠p:=fun e=>by
        rcases Ka _ hg with e3 | e3
        .rw[e,e3,Df]at QA;cases QA
        .rw[e]at QA;rw[Nk e3]at QA;cases QA
       rw[Ai (show ¬(o≠[]/\p0=p)from fun h=>Dy h.2)]
       by_cases e:n.rq.path=p
       .rw[Ya e,Al ⟨by simp,e⟩];rfl
       .rw[PB e,Ai (fun h=>e h.2)]
     |false =>
      have e0:n.rq.path=p0:=H8 QA hb;have e1:Ez dec (p0,o) n=(p0,o++[n]):=by
       unfold Ez;rw[Ai (by simp[hd,hb]),Ai (by simp[QA]),e0]
      have e2:DI (AR dec) (n.rq::L.map (·.rq)) (some p0)=DI (AR dec) (L.map (·.rq)) (some p0):=by
       conv=>lhs;unfold DI
       rw[Ai (by rw[SI];decide)];dsimp only;rw[Ai (by rw[QA];decide)]
      rw[e1,e2,ND dec L (p0,o++[n]) (fun _=>by rw[<-e0];exact hd),Ai B0];cases hg:DI (AR dec) (L.map (·.rq)) (some p0)with
      |none=>exact absurd hg (I9 _)
      |some p =>
       dsimp only
       by_cases e:p0=p
       .rw[Ya (e0.trans e),Al ⟨by simp,e⟩,Al ⟨ho,e⟩,BA];rfl
       .rw[PB (fun h=>e (e0.symm.trans h)),Ai (fun h=>e h.2),Ai (fun h=>e h.2)]
theorem UR(dec:List Cd):G8 roots dec=match Lu (Ir roots dec) (AR dec)with
  |none=>(mt,[])
  |some p=>(p,(DH roots dec).filter fun n=>decide (n.rq.path=p)):=by
 unfold G8 Lu;rw[ND dec _ (mt,[]) (fun h=>absurd rfl h),Al rfl,NA];cases DI (AR dec) (Ir roots dec) none with
 |none=>rfl
 |some p=>dsimp only;rw[Ai B0];rfl
theorem US{roots:List Rq}{dec:List Cd}:(G8 roots dec).2=[]↔Lu (Ir roots dec) (AR dec)=none:=by
 rw[UR];cases h:Lu (Ir roots dec) (AR dec)with
 |none=>simp
 |some p =>
  simp only[reduceCtorEq,iff_false];obtain⟨_,q,hq,e⟩:=UT h;rw[<-NA]at hq;obtain⟨n,hn,rfl⟩:=Ag.1 hq;exact List.ne_nil_of_mem (Bv.2 ⟨hn,by simpa using e⟩)
structure vf(roots:List Rq)(dec:List Cd)(p:ByteArray)(l:List Nd):Prop where
 next:Lu (Ir roots dec) (AR dec)=some p
 undone:DK dec p=false
 mem:∀n,n∈l↔n∈DH roots dec/\n.rq.path=p
theorem OI{roots:List Rq}{dec:List Cd}{n0:Nd}{l:List Nd}(h:(G8 roots dec).2=n0::l):vf roots dec (G8 roots dec).1 (n0::l):=by
 rw[<-h];rw[UR]at *
 cases hp:Lu (Ir roots dec) (AR dec)with
 |none=>rw[hp]at h;cases h
 |some p =>
  dsimp only;refine⟨hp,by rw[<-Gb];exact(UT hp).1,fun n=>?_⟩;rw[Bv];simp
theorem LN{x:List Rl}{p:ByteArray}{c:Cd}:c∈Cz x p↔∃r∈x,r.path=p/\r.yanked=false/\c=⟨plc r.ver,r⟩:=by
 unfold Cz;simp only[Ag,Bv,Ae,AA,CE];constructor
 .rintro⟨r,⟨h1,h2,h3⟩,rfl⟩;exact⟨r,h1,h2,h3,rfl⟩
 .rintro⟨r,h1,h2,h3,rfl⟩;exact⟨r,⟨h1,h2,h3⟩,rfl⟩
theorem NI{i:Nf}:∀{l:List Nf} {k m:Nat},My i k l=some m->∃j,m=k+j/\l[j]?=some i
 | [],_,_,h=>by cases h
 |y::l,k,m,h=>by
  unfold My at h;split at h
  .rename_i e;cases h;exact⟨0,rfl,by rw[<-e];rfl⟩
  .obtain⟨j,h1,h2⟩:=NI h;exact⟨j+1,by omega,h2⟩
theorem Ri{i:Nf}:∀{l:List Nf} {k:Nat},My i k l=none->i∉l
 | [],_,_=>by simp
 |y::l,k,h=>by
  unfold My at h;split at h
  .cases h
  .rename_i e
   have:=Ri h
   simp only[Az,not_or];exact⟨fun e'=>e e'.symm,this⟩
theorem Sq{α:Type}{d d' : List α}{i:Int}{a:α}(h:Kb d i=some a)(hp:d <+: d'):Kb d' i=some a:=by
 unfold Kb at *
 split at h
 .cases h
 .rename_i hi;rw[Ai hi];obtain⟨t,rfl⟩:=hp;rw[AY (Au.1 h).1];exact h
theorem ae{x:List Rl}{roots:List Rq}{d':List (List Tm)}{o:List Tm}(h:Ec x roots d i=some o)(hp:d <+: d'):Ec x roots d' i=some o:=by
 unfold Ec at *
 split
 .rename_i e;rw[Al e]at h;exact h
 rename_i e0;rw[Ai e0]at h;split
 .rename_i e;rw[Al e]at h;exact h
 rename_i e1;rw[Ai e1]at h;split
 .rename_i e;rw[Al e]at h;exact h
 rename_i e2;rw[Ai e2]at h;split
 .rename_i e;rw[Al e]at h;split
  .rename_i e4;rw[Al e4]at h;cases ha:Kb d i.left with
   |none=>rw[ha]at h;cases h
   |some a =>
    cases hb:Kb d i.right with
    |none=>rw[ha,hb]at h;cases h
    |some b =>
     rw[ha,hb]at h;rw[Sq ha hp,Sq hb hp];exact h
  .rename_i e4;rw[Ai e4]at h;cases h
 .rename_i e;rw[Ai e]at h;cases h
structure FE(x:List Rl)(roots:List Rq)(s:SS):Prop where
 der:Dp x roots s.infs []=some s.drv
 len:s.infs.length<=65536
theorem FE.dlen{x:List Rl}{roots:List Rq}{s:SS}(h:FE x roots s):s.drv.length=s.infs.length:=by simpa using JC h.der
theorem FE.nil:FE x roots ss0:=⟨rfl,by simp⟩
theorem FE.at{x:List Rl}{roots:List Rq}{s:SS}(h:FE x roots s){k:Nat}{i:Nf}(hk:s.infs[k]?=some i):Ec x roots s.drv i=some (s.drv.getD k []):=by
 have h1:=NW h.der (k+1);have h0:=NW h.der k;have Dz:=(Au.1 hk).1;rw[Bi,hk,Hw,h0]at h1;have h1:Dp x roots [i] (s.drv.take k)=some (s.drv.take (k+1)):=h1;unfold Dp at h1;cases hi:Ec x roots (s.drv.take k) i with
 |none=>rw[hi]at h1;cases h1
 |some t =>
  rw[hi]at h1;have h1:some (s.drv.take k++[t])=some (s.drv.take (k+1)):=h1;have hd:k<s.drv.length:=by rw[h.dlen];exact Dz
  have:t=s.drv[k]:=by
   have h2:=CK h1;rw[BW hd]at h2;exact List.singleton_inj.1 (List.append_cancel_left h2)
  rw[ae hi (List.take_prefix ..),this];simp[List.getD_eq_getElem?_getD,hd]
structure Grow(s s' : SS):Prop where
 pre:s.drv <+: s'.drv
 preI:s.infs <+: s'.infs
 full:s.full=true->s'.full=true
theorem Grow.refl:Grow s s:=⟨NL,NL,id⟩
theorem Grow.trans{a b c:SS}(h:Grow a b)(k:Grow b c):Grow a c:=⟨h.pre.trans k.pre,h.preI.trans k.preI,fun e=>k.full (h.full e)⟩
theorem Grow.at{s:SS}(h:Grow s s')(hk:k<s.drv.length):EJ s' k=EJ s k:=by
 obtain⟨t,e⟩:=h.pre;unfold EJ;rw[<-e,B5,B5,AY hk]
theorem Grow.len{s:SS}(h:Grow s s'):s.drv.length<=s'.drv.length:=h.pre.length_le
theorem Lk(i:Nf)(l:List Tm):Grow s (E5 s i l).2:=by
 unfold E5;split
 .exact .refl s
 .split
  .exact⟨NL,NL,fun _=>rfl⟩
  .exact⟨OX ..,OX ..,id⟩
theorem Lj{x:List Rl}{roots:List Rq}{s:SS}(h:FE x roots s)(hi:Ec x roots s.drv i=some l) :
  FE x roots (E5 s i l).2/\(E5 s i l).1<(E5 s i l).2.drv.length/\((E5 s i l).2.full=false->EJ (E5 s i l).2 (E5 s i l).1=l):=by
 have hdl:=h.dlen;unfold E5;split
 .rename_i k hk;obtain⟨j,e,hj⟩:=NI hk
  have:k=j:=by omega
  subst this;have Dz:=(Au.1 hj).1;refine⟨h,by show k<s.drv.length;omega,fun _=>?_⟩
  have:=h.at hj
  rw[hi]at this;exact(CK this).symm
 .rename_i hk;split
  .rename_i hf;exact⟨⟨h.der,h.len⟩,by show s.infs.length-1<s.drv.length;omega,fun e=>by cases e⟩
  .rename_i hf;refine⟨⟨?_,by show(s.infs++[i]).length<=65536;rw[Ac];simp;omega⟩,by show s.infs.length<(s.drv++[l]).length;rw[Ac];simp;omega,fun _=>?_⟩
   .show Dp x roots (s.infs++[i]) []=some (s.drv++[l]);rw[Hw,h.der];show Dp x roots [i] s.drv=_;unfold Dp;rw[hi];rfl
   .show(s.drv++[l]).getD s.infs.length []=l;rw[<-hdl];simp[List.getD_eq_getElem?_getD]
theorem T5(S:List Sl):∀{l:List (List Tm)} {i k:Nat},Pt S i l=some k->∃j,k=i+j/\∃t,l[j]?=some t/\Da t S=true
 | [],_,_,h=>by cases h
 |t::l,i,k,h=>by
  unfold Pt at h;split at h
  .rename_i e;cases h;exact⟨0,rfl,t,rfl,e⟩
  .obtain⟨j,h1,t',h2,h3⟩:=T5 S h;exact⟨j+1,by omega,t',h2,h3⟩
theorem Lo{S:List Sl}(h:Pv d S=some k):k<d.length/\Da (d.getD k []) S=true:=by
 obtain⟨j,h1,t,h2,h3⟩:=T5 S h
 have:k=j:=by omega
 subst this;refine⟨(Au.1 h2).1,?_⟩;rw[B5,h2];exact h3
end Go.Eng
