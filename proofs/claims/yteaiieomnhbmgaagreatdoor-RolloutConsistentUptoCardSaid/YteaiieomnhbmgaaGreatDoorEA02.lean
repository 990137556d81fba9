/- Lemmas 2. -/
import Derived.Test.YteaiieomnhbmgaaGreatDoorEA01
import Derived.Lib.SplitLaws
import Derived.Lib.IndexBytes
namespace Go.Eng
variable {x:Int×Int}{B:List Int}{s:List Tm}(m:List (Int×Int))(S:Bx)(l:List Tm)(r:Bx)(i:Nat)(k:Int)(t:Tm)(v j:Int)
def D1(l:Bx):Bx:=(l.map Jf).filter fun x=>decide (x.1<x.2)
theorem PS(a b:Bx):D1 (a++b)=D1 a++D1 b:=by unfold D1;rw[As,EK]
theorem Xc{l:Bx}(h:x∈D1 l):0<=x.1/\x.1<x.2/\x.2<=1000000:=by
 unfold D1 at h;rw[By,Ai]at h;obtain⟨⟨y,_,rfl⟩,h2⟩:=h;have h2:=AK h2;refine⟨?_,h2,?_⟩<;>simp only[Jf]<;>omega
theorem iE(l:Bx)(p:Int):(D1 l).any (BX p)=has l p:=by
 rw[<-LA]
 induction l with
 |nil=>rfl
 |cons x r ih=>
  have e:D1 (x::r)=(if(Jf x).1<(Jf x).2 then [Jf x]else [])++D1 r:=by
   unfold D1;rw[AL,El]
   by_cases h:(Jf x).1<(Jf x).2<;>simp[h]
  have ec:canon (x::r)=if(Jf x).1<(Jf x).2 then Yg (Jf x) (canon r)else canon r:=rfl
  rw[e,Ig,ih,ec]
  by_cases h:(Jf x).1<(Jf x).2
  .rw[Ao h,Ao h,PF _ p (CB r) h];simp
  .rw[Aj h,Aj h];simp
theorem OQ:∀{l:Bx} {lo:Int},Fb lo l↔(∀y∈l,lo<=y.1/\y.1<y.2/\y.2<=1000000)/\l.Pairwise fun a b=>a.2<b.1
 | [],lo=>by simp[Fb]
 |y::r,lo=>by
  rw[BH];constructor
  .intro h;have hl:=h.low;refine⟨hl,fun z hz=>?_,((OQ (l:=r)).1 h.2.2.2).2⟩
   have:=h.2.2.2.low z hz;omega
  .intro⟨h1,h2,h3⟩;have hy:=h1 y (Ab ..);refine⟨hy.1,hy.2.1,hy.2.2,OQ.2 ⟨fun z hz=>?_,h3⟩⟩
   have:=h1 z (Ah _ hz)
   have:=h2 z hz
   omega
def LU(x:Int×Int):Bx:=match r with
 | []=>[x]
 |y::t=>if x.1<=y.2 then(y.1,max y.2 x.2)::t else x::y::t
def BR(s:Bx):Bx:=s.foldl LU []
theorem GV(s:Bx)(i:Nat)(h:i<s.length):BR (s.take (i+1))=LU (BR (s.take i)) s[i]:=by
 unfold BR;rw[Bj,AB h,Et];rfl
theorem kk(x:Int×Int):(LU r x).length<=r.length+1/\r.length<=(LU r x).length/\0<(LU r x).length:=by
 unfold LU;split
 .simp
 .split<;>simp
theorem Vm(s:Bx):∀i,i<=s.length->(BR (s.take i)).length<=i/\(0<i->0<(BR (s.take i)).length):=by
 intro i
 induction i with
 |zero=>intro _;simp[BR]
 |succ i ih=>
  intro h;rw[GV s i ch]
  have:=kk (BR (s.take i)) s[i]
  have:=ih ch
  omega
structure tC(r done:Bx):Prop where
 ok:∀y∈r,0<=y.1/\y.1<y.2/\y.2<=1000000
 pw:r.Pairwise fun a b=>b.2<a.1
 has:∀p,r.any (BX p)=done.any (BX p)
 first:∀y t,r=y::t->∃x∈done,y.1=x.1
theorem kj{r done:Bx}(h:tC r done)(hx:0<=x.1/\x.1<x.2/\x.2<=1000000)(hs:∀y∈done,y.1<=x.1):tC (LU r x) (done++[x]):=by
 unfold LU;split
 .refine⟨fun y hy=>?_,by simp,fun p=>?_,fun y t e=>?_⟩
  .rw[Aq.1 hy];exact hx
  .rw[Ig,<-h.has];rfl
  .cases e;exact⟨x,by simp,rfl⟩
 .rename_i y t;have hy:=h.ok y (Ab ..);obtain⟨pw1,pw2⟩:=BH.1 h.pw;obtain⟨z,hz,e⟩:=h.first y t rfl
  have w8:=hs z hz;split
  .rename_i Ib;refine⟨fun u hu=>?_,BH.2 ⟨pw1,pw2⟩,fun p=>?_,fun u t' e'=>?_⟩
   .rcases AC.1 hu with rfl | hu
    .exact⟨hy.1,by dsimp only;omega,by dsimp only;omega⟩
    .exact h.ok u (Ah _ hu)
   .rw[Ig,<-h.has,Cj,Cj,Cj,List.any_nil,Bool.or_false]
    have:BX p (y.1,max y.2 x.2)=(BX p y||BX p x):=by
     simp only[BX];rw[B5];simp only[Ag,CO,AD];omega
    rw[this];cases BX p y<;>cases BX p x<;>cases t.any (BX p)<;>rfl
   .cases e';exact⟨z,BD _ hz,e⟩
  .rename_i Ib;refine⟨fun u hu=>?_,BH.2 ⟨fun u hu=>?_,h.pw⟩,fun p=>?_,fun u t' e'=>?_⟩
   .rcases AC.1 hu with rfl | hu
    .exact hx
    .exact h.ok u hu
   .rcases AC.1 hu with rfl | hu
    .omega
    .have:=pw1 u hu;omega
   .rw[Ig,<-h.has,Cj,Cj,Cj,List.any_nil,Bool.or_false];cases BX p y<;>cases BX p x<;>cases t.any (BX p)<;>rfl
   .cases e';exact⟨x,by simp,rfl⟩
theorem dF{s:Bx}(GU:∀y∈s,0<=y.1/\y.1<y.2/\y.2<=1000000)(hs:s.Pairwise fun a b=>a.1<=b.1):∀i,i<=s.length->tC (BR (s.take i)) (s.take i):=by
 intro i
 induction i with
 |zero=>intro _;exact⟨fun _ h=>by simp[BR]at h,by simp[BR],fun p=>by simp[BR],fun y t e=>by simp[BR]at e⟩
 |succ i ih=>
  intro h;have hi:i<s.length:=by omega
  rw[GV s i hi];have e:s.take (i+1)=s.take i++[s[i]]:=by rw[Bj,AB hi];rfl
  rw[e];refine kj (ih ch) (GU _ (Al hi)) fun y hy=>?_;obtain⟨j,hj,rfl⟩:=BU.1 hy;rw[GN];rw[Aw]at hj;exact(AT.1 hs) j i ch hi ch
theorem Tl{l s:Bx}(hp:s.Perm (D1 l))(hs:s.Pairwise fun a b=>a.1<=b.1):(BR s).reverse=canon l:=by
 have hi:=dF (s:=s) (fun y hy=>Xc (hp.mem_iff.1 hy)) hs s.length (Ak _);rw[B9]at hi;have hc:E6 (BR s).reverse:=by
  unfold E6;rw[OQ];refine⟨fun y hy=>hi.ok y (List.mem_reverse.1 hy),?_⟩;rw[List.pairwise_reverse];exact hi.pw
 refine Ut hc fun p=>?_;rw[Ir hc,List.any_reverse,hi.has,<-iE];rw[B5,Bd,Bd];constructor
 .rintro⟨y,h1,h2⟩;exact⟨y,hp.mem_iff.1 h1,h2⟩
 .rintro⟨y,h1,h2⟩;exact⟨y,hp.mem_iff.2 h1,h2⟩
-- maps from numbers to numbers,as lists in the order in which they are met
def FJ:Int:=match m.find? (fun p=>decide (p.1=k))with | some p=>p.2 | none=>0
def Mn:List (Int×Int):=if m.any (fun p=>decide (p.1=k))then m.map (fun p=>if p.1=k then(k,v)else p)else m++[(k,v)]
theorem H7(p:Int×Int)(m:List (Int×Int))(k:Int):FJ (p::m) k=if p.1=k then p.2 else FJ m k:=by
 unfold FJ;rw[Fg];by_cases h:p.1=k<;>simp[h]
theorem Ra:FJ (Mn m k v) j=if j=k then v else FJ m j:=by
 unfold Mn;split
 .rename_i h
  induction m with
  |nil=>simp at h
  |cons p m ih=>
   rw[AL,H7,H7]
   by_cases e:p.1=k
   .rw[Ao e];dsimp only
    by_cases ej:j=k
    .subst ej;simp
    .rw[Aj (fun c=>ej c.symm),Aj ej,Aj (fun c=>ej (c.symm.trans e))]
     by_cases hm:(m.any fun p=>decide (p.1=k))=true
     .rw[ih hm,Aj ej]
     .have:∀q∈m,q.1≠k:=fun q hq e=>hm (Bd.2 ⟨q,hq,by simp[e]⟩)
      have:m.map (fun p=>if p.1=k then(k,v)else p)=m:=by
       conv=>rhs;rw[<-Gc m]
       exact Bi fun q hq=>by simp[this q hq]
      rw[this]
   .rw[Aj e];have hm:(m.any fun p=>decide (p.1=k))=true:=by simpa[e]using h
    rw[ih hm]
    by_cases ej:j=k
    .subst ej;simp[e]
    .simp[ej]
 .rename_i h;have hn:∀q∈m,q.1≠k:=fun q hq e=>h (Bd.2 ⟨q,hq,by simp[e]⟩)
  induction m with
  |nil=>
   rw[FW,H7]
   by_cases ej:j=k
   .simp[ej]
   .have:¬k=j:=fun c=>ej c.symm
    simp[ej,this]
  |cons p m ih=>
   rw[Hr,H7,H7];have e:=hn p (Ab ..);have ih:=ih (by simpa[e]using h) fun q hq=>hn q (Ah _ hq)
   by_cases ep:p.1=j
   .have:¬j=k:=fun c=>e (ep.trans c)
    simp[ep,this]
   .simp only[ep,Gu];exact ih
def Fv:List Int:=m.map (·.1)
theorem Xz:Fv (Mn m k v)=if k∈Fv m then Fv m else Fv m++[k]:=by
 unfold Mn Fv;have e:(m.any fun p=>decide (p.1=k))=decide (k∈m.map (·.1)):=by
  rw[B5];simp only[Bd,AD,Ai]
 rw[e]
 by_cases h:k∈m.map (·.1)
 .simp only[h,decide_true,SJ,Br];apply Bi;intro p _;simp only[Function.comp];split
  .rename_i e;exact e.symm
  .rfl
 .simp[h]
theorem Nj{m:List (Int×Int)}(h:(Fv m).Nodup)(k v:Int):(Fv (Mn m k v)).Nodup:=by
 rw[Xz];split
 .exact h
 .rename_i hn;rw[FQ];exact⟨h,by simp,fun a ha b hb e=>by subst e;rw[Aq.1 hb]at ha;exact hn ha⟩
theorem IV:j∈Fv (Mn m k v)↔j=k\/j∈Fv m:=by
 rw[Xz];split
 .rename_i h;constructor
  .exact .inr
  .rintro(rfl | h')
   .exact h
   .exact h'
 .simp[or_comm]
theorem oM{m:List (Int×Int)}(h:(Fv m).Nodup){p:Int×Int}(hp:p∈m):FJ m p.1=p.2:=by
 induction m with
 |nil=>cases hp
 |cons q m ih=>
  rw[H7];unfold Fv at h ih;rw[AL,Dk]at h;rcases AC.1 hp with rfl | hp
  .simp
  .have:¬q.1=p.1:=fun e=>h.1 (e▸Ai.2 ⟨p,hp,rfl⟩)
   rw[Aj this];exact ih h.2 hp
theorem oN{m:List (Int×Int)}{k:Int}(h:k∉Fv m):FJ m k=0:=by
 unfold FJ
 have:m.find? (fun p=>decide (p.1=k))=none:=by
  rw[DU];intro p hp;simp only[AD];exact fun e=>h (Ai.2 ⟨p,hp,e⟩)
 rw[this]
-- counting
def cF:Nat:=S.countP fun x=>decide (x.1=k)
def cT:Nat:=S.countP fun x=>decide (x.2=k)
def lF:Nat:=S.countP fun x=>decide (x.1<=k)
def lT:Nat:=S.countP fun x=>decide (x.2<=k)
theorem JO{α:Type}{p q r:α->Bool}:∀{l:List α},(∀x∈l,(p x=true↔q x=true\/r x=true)/\¬(q x=true/\r x=true))->l.countP p=l.countP q+l.countP r
 | [],_=>rfl
 |x::l,h=>by
  have ih:=JO fun y hy=>h y (Ah _ hy);obtain⟨h1,h2⟩:=h x (Ab ..);rw[Ju,Ju,Ju,ih];cases hp:p x<;>cases hq:q x<;>cases hr:r x<;>simp_all<;>omega
structure JB(m:List (Int×Int))(S:Bx):Prop where
 nd:(Fv m).Nodup
 val:∀k,FJ m k=(cF S k:Int)-cT S k
 keys:0∈Fv m/\1000000∈Fv m/\∀x∈S,x.1∈Fv m/\x.2∈Fv m
 rng:∀k∈Fv m,0<=k/\k<=1000000
def xF:List (Int×Int):=[(0,0),(1000000,0)]
theorem p9:JB xF []:=⟨by decide,fun k=>by
  unfold xF;rw[H7,H7];simp[FJ,cF,cT],⟨by decide,by decide,fun _ h=>by cases h⟩,fun k hk=>by
  unfold xF Fv at hk;simp at hk;omega⟩
def bV(x:Int×Int):List (Int×Int):=Mn (Mn m x.1 (FJ m x.1+1)) x.2 (FJ (Mn m x.1 (FJ m x.1+1)) x.2-1)
theorem ki{m:List (Int×Int)}{S:Bx}(h:JB m S)(hx:0<=x.1/\x.1<x.2/\x.2<=1000000):JB (bV m x) (S++[x]):=by
 unfold bV;refine⟨Nj (Nj h.nd _ _) _ _,fun k=>?_,⟨?_,?_,fun y hy=>?_⟩,fun k hk=>?_⟩
 .rw[Ra,Ra,Ra,h.val,h.val,h.val];unfold cF cT;simp only[List.countP_append,List.countP_singleton,AD]
  by_cases e1:k=x.2
  .subst e1
   have:¬x.2=x.1:=by omega
   have:¬x.1=x.2:=by omega
   simp[*];omega
  .by_cases e2:k=x.1
   .subst e2
    have:¬x.2=x.1:=by omega
    have:¬x.1=x.2:=by omega
    simp[*];omega
   .have a1:¬x.1=k:=fun c=>e2 c.symm;have a2:¬x.2=k:=fun c=>e1 c.symm;simp[e1,e2,a1,a2]
 .rw[IV,IV];exact .inr (.inr h.keys.1)
 .rw[IV,IV];exact .inr (.inr h.keys.2.1)
 .simp only[IV];rcases AP.1 hy with hy | hy
  .have:=h.keys.2.2 y hy
   exact⟨.inr (.inr this.1),.inr (.inr this.2)⟩
  .rw[Aq.1 hy];exact⟨.inr (.inl rfl),.inl rfl⟩
 .rw[IV,IV]at hk;rcases hk with rfl | rfl | hk
  .omega
  .omega
  .exact h.rng k hk
def Jp(B:List Int):Int:=(B.map (FJ m)).foldl (·+·) 0
theorem Sd(B:List Int)(i:Nat)(h:i<B.length):Jp m (B.take (i+1))=Jp m (B.take i)+FJ m B[i]:=by
 unfold Jp;rw[Bj,AB h,As,Et];simp only[Option.toList_some,AL,E7,D0,List.foldl_nil]
structure pE(B:List Int)(m:List (Int×Int)):Prop where
 perm:B.Perm (Fv m)
 srt:B.Pairwise fun a b=>a<b
theorem gO{m:List (Int×Int)}{S:Bx}(h:JB m S)(hB:pE B m):∀i (hi:i<B.length),Jp m (B.take (i+1))=(lF S B[i]:Int)-lT S B[i]:=by
 have mem:∀k,k∈Fv m->∃j,∃hj:j<B.length,B[j]=k:=fun k hk=>by
  have:=hB.perm.mem_iff.2 hk
  obtain⟨j,hj,e⟩:=BU.1 this;exact⟨j,hj,e⟩
 have lt:∀i j (hi:i<B.length) (hj:j<B.length),i<j->B[i]<B[j]:=fun i j hi hj Pt=>(AT.1 hB.srt) i j hi hj Pt;intro i
 induction i with
 |zero=>
  intro hi;rw[Sd m B 0 hi,h.val]
  have:Jp m (B.take 0)=0:=by simp[Jp]
  rw[this];have low:∀k∈Fv m,B[0]<=k:=fun k hk=>by
   obtain⟨j,hj,rfl⟩:=mem k hk;cases j with
   |zero=>exact Bn _
   |succ j=>have:=lt 0 (j+1) hi hj ch;omega
  have e1:lF S B[0]=cF S B[0]:=by
   unfold lF cF;apply Sn;intro x hx
   have:=low _ (h.keys.2.2 x hx).1
   simp only[AD];omega
  have e2:lT S B[0]=cT S B[0]:=by
   unfold lT cT;apply Sn;intro x hx
   have:=low _ (h.keys.2.2 x hx).2
   simp only[AD];omega
  rw[e1,e2];omega
 |succ i ih=>
  intro hi;rw[Sd m B (i+1) hi,ih ch,h.val];have nb:∀k∈Fv m,k<=B[i+1]↔k<=B[i]\/k=B[i+1]:=fun k hk=>by
   obtain⟨j,hj,rfl⟩:=mem k hk;have l0:=lt i (i+1) ch hi ch;rcases Nat.lt_trichotomy j (i+1)with c | c | c
   .have:B[j]<=B[i]:=by
     rcases B4 j i with d | d
     .have:=lt j i hj ch d;omega
     .have:j=i:=by omega
      subst this;exact Bn _
    omega
   .subst c;omega
   .have:=lt (i+1) j hi hj c;omega
  have l0:=lt i (i+1) ch hi ch;have e1:lF S B[i+1]=lF S B[i]+cF S B[i+1]:=by
   unfold lF cF;apply JO;intro x hx
   have:=nb _ (h.keys.2.2 x hx).1
   simp only[AD];omega
  have e2:lT S B[i+1]=lT S B[i]+cT S B[i+1]:=by
   unfold lT cT;apply JO;intro x hx
   have:=nb _ (h.keys.2.2 x hx).2
   simp only[AD];omega
  rw[e1,e2];omega
theorem ZZ{S:Bx}(hS:∀x∈S,x.1<x.2)(p:Int):(lF S p:Int)-lT S p=(S.countP (BX p):Nat):=by
 have:lF S p=S.countP (BX p)+lT S p:=by
  unfold lF lT;apply JO;intro x hx
  have:=hS x hx
  simp only[BX,Ag,AD];omega
 omega
theorem PW:∀{l:Bx} {lo:Int} (p:Int),Fb lo l->l.countP (BX p)=if l.any (BX p)then 1 else 0
 | [],_,_,_=>rfl
 |y::r,lo,p,⟨h1,h2,h3,h4⟩=>by
  rw[Ju,PW p h4,Cj];cases hy:BX p y with
  |false=>rw[MQ];simp
  |true=>
   have:=D4.1 hy
   have:r.any (BX p)=false:=by
    rw[AN];intro hr;have:=NH h4 hr;omega
   simp[this]
theorem M1:∀(l:List Bx) (p:Int),((l.map canon).flatten).countP (BX p)=kE l p
 | [],_=>rfl
 |s::l,p=>by
  rw[AL,BC,List.countP_append,M1 l p,PW p (CB s),LA];unfold kE;rw[Ju];omega
def EU(keep:Nat->Bool)(m:List (Int×Int))(B:List Int):Nat->Bx
 |0=>[]
 |i+1=>EU keep m B i++(match B[i]?,B[i+1]? with
  |some a,some b=>if keep (Jp m (B.take (i+1))).toNat then [(a,b)]else []
  |_,_=>[])
theorem RD{keep:Nat->Bool}{m:List (Int×Int)}{B:List Int}{x:Int×Int}:∀{n:Nat},x∈EU keep m B n↔∃i,i<n/\∃(h1:i<B.length) (h2:i+1<B.length),keep (Jp m (B.take (i+1))).toNat=true/\x=(B[i],B[i+1])
 |0=>by simp[EU]
 |n+1=>by
  unfold EU;rw[AP,RD (n:=n)];constructor
  .rintro(⟨i,h1,h2⟩ | h)
   .exact⟨i,by omega,h2⟩
   .split at h
    .rename_i a b ha hb;obtain⟨h1,e1⟩:=Ay.1 ha;obtain⟨h2,e2⟩:=Ay.1 hb;split at h
     .rename_i hk;refine⟨n,by omega,h1,h2,hk,?_⟩;rw[Aq.1 h,e1,e2]
     .cases h
    .cases h
  .rintro⟨i,h1,h2,h3,h4,rfl⟩
   by_cases e:i=n
   .subst e;refine .inr ?_;rw[AB h2,AB h3];simp[h4]
   .exact .inl ⟨i,by omega,h2,h3,h4,rfl⟩
theorem PL{B:List Int}(hs:B.Pairwise fun a b=>a<b){p:Int}:∀(n:Nat) (h0:0<B.length) (hn:n<B.length),B[0]<=p->p<B[n]->∃i,∃(h1:i<B.length) (h2:i+1<B.length),B[i]<=p/\p<B[i+1]
 |0,h0,hn,h1,h2=>by omega
 |n+1,h0,hn,h1,h2=>by
  by_cases e:B[n]<=p
  .exact⟨n,by omega,hn,e,h2⟩
  .exact PL hs n h0 ch h1 ch
theorem mY{keep:Nat->Bool}{l:List Bx}{m:List (Int×Int)}(h:JB m (l.map canon).flatten)(hB:pE B m)(p:Int):has (EU keep m B (B.length-1)) p=(MN p&&keep (kE l p)):=by
 have hS:∀x∈(l.map canon).flatten,x.1<x.2:=fun x hx=>by
  obtain⟨s,hs,hx⟩:=D3.1 hx;obtain⟨t,_,rfl⟩:=Ai.1 hs;exact((CB t).low x hx).2.1
 have mem:∀k,k∈Fv m->∃j,∃hj:j<B.length,B[j]=k:=fun k hk=>by
  obtain⟨j,hj,e⟩:=BU.1 (hB.perm.mem_iff.2 hk);exact⟨j,hj,e⟩
 have lt:∀i j (hi:i<B.length) (hj:j<B.length),i<j->B[i]<B[j]:=fun i j hi hj Pt=>(AT.1 hB.srt) i j hi hj Pt;have rng:∀i (hi:i<B.length),0<=B[i]/\B[i]<=1000000:=fun i hi=>h.rng _ (hB.perm.mem_iff.1 (Al hi))
 -- Yp two bounds
 have Yp:∀i (h1:i<B.length) (h2:i+1<B.length),B[i]<=p->p<B[i+1]->(Jp m (B.take (i+1))).toNat=kE l p:=fun i h1 h2 a b=>by
  have same:∀k∈Fv m,k<=B[i]↔k<=p:=fun k hk=>by
   obtain⟨j,hj,rfl⟩:=mem k hk;constructor
   .intro c;omega
   .intro c;rcases B4 i j with d | d
    .rcases B4 (i+1) j with f | f
     .have:=lt (i+1) j h2 hj f;omega
     .have:j=i+1:=by omega
      subst this;omega
    .rcases B4 j i with f | f
     .have:=lt j i hj h1 f;omega
     .have:j=i:=by omega
      subst this;exact Bn _
  have e1:lF (l.map canon).flatten B[i]=lF (l.map canon).flatten p:=by
   unfold lF;apply Sn;intro x hx
   have:=same _ (h.keys.2.2 x hx).1
   simp only[AD];exact this
  have e2:lT (l.map canon).flatten B[i]=lT (l.map canon).flatten p:=by
   unfold lT;apply Sn;intro x hx
   have:=same _ (h.keys.2.2 x hx).2
   simp only[AD];exact this
  rw[gO h hB i h1,e1,e2,ZZ hS,M1];simp
 rw[B5];constructor
 .intro hh;have pn:=Ng hh;unfold has at hh;simp only[pn,decide_true,E5]at hh;obtain⟨x,hx,hp⟩:=Bd.1 hh;obtain⟨i,_,h1,h2,hk,rfl⟩:=RD.1 hx
  have:=D4.1 hp
  dsimp only at this;rw[<-Yp i h1 h2 this.1 this.2];simp[MN,pn,hk]
 .intro hh;simp only[Ag,MN,AD]at hh;obtain⟨⟨p0,p1⟩,hk⟩:=hh;obtain⟨j0,hj0,e0⟩:=mem 0 h.keys.1;obtain⟨j1,hj1,e1⟩:=mem 1000000 h.keys.2.1;have hb0:B[0]' ch<=p:=by
   have:B[0]' ch<=0:=by
    cases j0 with
    |zero=>omega
    |succ j=>have:=lt 0 (j+1) ch hj0 ch;omega
   omega
  obtain⟨i,h1,h2,a,b⟩:=PL hB.srt j1 ch hj1 hb0 ch;unfold has;simp only[p0,p1,decide_true,E5];exact Bd.2 ⟨(B[i],B[i+1]),RD.2 ⟨i,by omega,h1,h2,by rw[Yp i h1 h2 a b];exact hk,rfl⟩,D4.2 ⟨a,b⟩⟩
theorem oz{l:List Bx}{m:List (Int×Int)}(h:JB m (l.map canon).flatten)(hB:pE B m)(i:Nat)(hi:i<B.length):0<=Jp m (B.take (i+1))/\Jp m (B.take (i+1))<=l.length:=by
 have hS:∀x∈(l.map canon).flatten,x.1<x.2:=fun x hx=>by
  obtain⟨s,hs,hx⟩:=D3.1 hx;obtain⟨t,_,rfl⟩:=Ai.1 hs;exact((CB t).low x hx).2.1
 rw[gO h hB i hi,ZZ hS,M1]
 have:kE l B[i]<=l.length:=List.countP_le_length
 omega
def Zb(m:List Tm)(t:Tm):List Tm:=if m.any (fun u=>decide (u.path=t.path))then m.map (fun u=>if u.path=t.path then t else u)else m++[t]
def Td(m:List Tm)(t:Tm):List Tm:=Zb m (Pi (DC m t.path) t)
def DM:List Tm:=l.foldl Td []
theorem iV(p:ByteArray):∀m:List Tm,DC (Zb m t) p=if t.path=p then some t else DC m p:=by
 intro m;unfold Zb
 by_cases h:(m.any fun u=>decide (u.path=t.path))=true
 .rw[Ao h]
  induction m with
  |nil=>simp at h
  |cons u m ih=>
   rw[AL,De,De]
   by_cases e:u.path=t.path
   .rw[Ao e]
    by_cases ep:t.path=p
    .simp[ep]
    .rw[Aj ep,Aj ep,Aj (fun c=>ep (e.symm.trans c))]
     by_cases hm:(m.any fun u=>decide (u.path=t.path))=true
     .rw[ih hm,Aj ep]
     .have:∀q∈m,q.path≠t.path:=fun q hq c=>hm (Bd.2 ⟨q,hq,by simp[c]⟩)
      have:m.map (fun u=>if u.path=t.path then t else u)=m:=by
       conv=>rhs;rw[<-Gc m]
       exact Bi fun q hq=>by simp[this q hq]
      rw[this]
   .rw[Aj e];have hm:(m.any fun u=>decide (u.path=t.path))=true:=by simpa[e]using h
    rw[ih hm]
    by_cases ep:t.path=p
    .subst ep;simp[e]
    .simp[ep]
 .rw[Aj h];have hn:∀q∈m,q.path≠t.path:=fun q hq e=>h (Bd.2 ⟨q,hq,by simp[e]⟩)
  clear h
  induction m with
  |nil=>rw[FW,De]
  |cons u m ih=>
   rw[Hr,De,De,ih fun q hq=>hn q (Ah _ hq)]
   have:=hn u (Ab ..)
   by_cases e:u.path=p
   .have:¬t.path=p:=fun c=>this (e.trans c.symm)
    simp[e,this]
   .simp[e]
def EW(m:List Tm):List ByteArray:=m.map (·.path)
open Classical in
theorem dP(m:List Tm)(t:Tm):EW (Zb m t)=if t.path∈EW m then EW m else EW m++[t.path]:=by
 unfold Zb EW;have e:(m.any fun u=>decide (u.path=t.path))=true↔t.path∈m.map (·.path):=by
  simp only[Bd,AD,Ai]
 by_cases h:t.path∈m.map (·.path)
 .rw[Ao (e.2 h),Ao h,Br];apply Bi;intro p _;simp only[Function.comp];split
  .rename_i e;exact e.symm
  .rfl
 .rw[Aj (fun c=>h (e.1 c)),Aj h,As];rfl
theorem jE{m:List Tm}(h:(EW m).Nodup)(t:Tm):(EW (Zb m t)).Nodup:=by
 rw[dP];split
 .exact h
 .rename_i hn;rw[FQ];exact⟨h,by simp,fun a ha b hb e=>by subst e;rw[Aq.1 hb]at ha;exact hn ha⟩
theorem SU(h:i<l.length):DM (l.take (i+1))=Td (DM (l.take i)) l[i]:=by
 unfold DM;rw[Bj,AB h,Et];rfl
theorem Qk:∀(l m:List Tm),(EW m).Nodup->(EW (l.foldl Td m)).Nodup
 | [],_,h=>h
 |_::l,_,h=>Qk l _ (jE h _)
theorem Iv:(EW (DM l)).Nodup:=Qk l [] .nil
theorem ax(m:List Tm)(t:Tm)(p:ByteArray):DC (Td m t) p=KY p (DC m p) t:=by
 unfold Td KY;have hp:(Pi (DC m t.path) t).path=t.path:=RO _ _ fun u h=>HL h;rw[iV,hp]
 by_cases e:t.path=p
 .rw[Ao e,Ao e,e]
 .rw[Aj e,Aj e]
theorem Qh(p:ByteArray):∀(l m:List Tm),DC (l.foldl Td m) p=l.foldl (KY p) (DC m p)
 | [],_=>rfl
 |t::l,m=>by rw[D0,D0,Qh p l,ax]
theorem cZ(p:ByteArray):DC (DM l) p=DC (Fq l) p:=by
 unfold DM;rw[Qh,JR];rfl
theorem M7{m:List Tm}(h:(EW m).Nodup){t:Tm}:t∈m↔DC m t.path=some t:=by
 constructor
 .induction m with
  |nil=>intro h;cases h
  |cons u m ih=>
   intro ht;unfold EW at h ih;rw[AL,Dk]at h;rw[De];rcases AC.1 ht with rfl | ht
   .rw[Ao rfl]
   .have:¬u.path=t.path:=fun e=>h.1 (e▸Ai.2 ⟨t,ht,rfl⟩)
    rw[Aj this];exact ih h.2 ht
 .exact Fz
theorem Iy{m:List Tm}(h:(EW m).Nodup):m.Nodup:=by
 unfold EW at h
 induction m with
 |nil=>exact .nil
 |cons u m ih=>
  rw[AL,Dk]at h;exact Dk.2 ⟨fun hu=>h.1 (Ai.2 ⟨u,hu,rfl⟩),ih h.2⟩
theorem IF{l:List Tm}{lo:Option ByteArray}(h:Cs lo l):(EW l).Nodup:=by
 unfold EW
 induction l generalizing lo with
 |nil=>exact .nil
 |cons t l ih=>
  rw[AL,Dk];refine⟨fun hm=>?_,ih h.2.2⟩;obtain⟨u,hu,e⟩:=Ai.1 hm
  have:=h.2.2.low u hu
  rw[e,Dm]at this;cases this
theorem JZ:t∈DM l↔t∈Fq l:=by
 rw[M7 (Iv l),cZ,<-M7 (IF (EL l))]
theorem Qz:∀t∈DM l,E6 t.set:=fun t ht=>(EL l).canon t ((JZ l t).1 ht)
theorem kl(m:List Tm)(t:Tm):(Td m t).length<=m.length+1:=by
 unfold Td Zb;split<;>simp
theorem Pd:∀i,i<=l.length->(DM (l.take i)).length<=i:=by
 intro i
 induction i with
 |zero=>intro _;simp[DM]
 |succ i ih=>
  intro h;rw[SU l i ch]
  have:=kl (DM (l.take i)) l[i]
  have:=ih ch
  omega
theorem eu(hs:s.Pairwise fun x y=>Ef x.path y.path=true)(hc:∀t∈s,E6 t.set):Cs none s:=by
 have:∀(s:List Tm) (lo:Option ByteArray),s.Pairwise (fun x y=>Ef x.path y.path=true)->(∀t∈s,E6 t.set)->(∀p,lo=some p->∀t∈s,Ef p t.path=true)->Cs lo s:=by
  intro s
  induction s with
  |nil=>intro _ _ _ _;trivial
  |cons t s ih=>
   intro lo hs hc hl;obtain⟨h1,h2⟩:=BH.1 hs;exact⟨fun p e=>hl p e t (Ab ..),hc t (Ab ..),ih _ h2 (fun u hu=>hc u (Ah _ hu)) fun p e u hu=>by cases e;exact h1 u hu⟩
 exact this s none hs hc fun _ e=>by cases e
theorem Rn{l:List Tm}(q:Tm->Bool)(hp:s.Perm ((DM l).filter q))(hs:s.Pairwise fun x y=>Ef y.path x.path=false):s=(Fq l).filter q:=by
 have hm:∀t,t∈s↔t∈(Fq l).filter q:=fun t=>by
  rw[hp.mem_iff,By,By,JZ]
 have SD:(EW s).Nodup:=by
  have h1:(EW ((DM l).filter q)).Nodup:=by
   unfold EW;exact List.Nodup.sublist (List.Sublist.map _ List.filter_sublist) (Iv l)
  unfold EW at h1⊢;exact(hp.map (·.path)).nodup_iff.2 h1
 have Kh:s.Pairwise fun x y=>Ef x.path y.path=true:=by
  rw[AT]at hs⊢;intro i j hi hj Pt;cases hb:Ef s[i].path s[j].path with
  |true=>rfl
  |false=>
   have e:=Ik hb (hs i j hi hj Pt);unfold EW at SD
   have:=(AT.1 SD) i j (by simpa using hi) (by simpa using hj) Pt
   simp at this;exact absurd e this
 have hss:Cs none s:=eu Kh fun t ht=>(EL l).canon t (By.1 ((hm t).1 ht)).1;have pq:Cs none ((Fq l).filter q):=Cs.filter q (EL l);refine NC hss pq fun p=>?_;cases h1:DC s p with
 |some t=>
  have:=(hm t).1 (Fz h1)
  rw[F4 pq,HL h1]at this;exact this.symm
 |none=>
  cases h2:DC ((Fq l).filter q) p with
  |none=>rfl
  |some t=>
   have:=(hm t).2 (Fz h2)
   rw[F4 hss,HL h2,h1]at this;cases this
theorem cI:Hv t t=My t:=by unfold Hv My;rw[dy,Bool.and_self]
theorem gH(o:Option Tm)(t:Tm):Pi o t=Hv (o.getD t) t:=by cases o with | none=>exact(cI t).symm | some u=>rfl
theorem io{t:Tm}(h:E6 t.set):(t.absent&&(EZ t.set).isEmpty)=G5 t:=by
 unfold G5
 congr 1
 rw[B5,Ht,AD];have ha:E6 [(0,1000000)]:=⟨Bn _,by dsimp only;omega,Bn _,trivial⟩;constructor
 .intro e;refine Il h ha fun p=>?_
  have:=F5 t.set p
  rw[e]at this;have h0:has [] p=false:=by simp[has]
  rw[h0]at this;have h1:has [(0,1000000)] p=MN p:=by simp[has,MN,BX]
  rw[h1];cases hp:MN p with
  |true=>rw[hp]at this;simpa using this.symm
  |false=>
   rw[AN];intro hh
   have:=Ng hh
   simp[MN,this]at hp
 .intro e;rw[RI (H1 _)];intro p;rw[F5,e];have h1:has [(0,1000000)] p=MN p:=by simp[has,MN,BX]
  rw[h1];simp
theorem nl{t:Tm}(h:E6 t.set):(!t.absent&&(canon t.set).isEmpty)=IZ t:=by unfold IZ;rw[J9 h]
end Go.Eng
namespace Go.Eng
open Go.Lib
theorem RY(c:UInt8):∀(s:List UInt8) (k:Nat),s.count c<=k->splitK [c] 0 k s=FM c s
 | [],k,_=>by
  cases k with
  |zero=>rfl
  |succ k=>rfl
 |b::r,k,h=>by
  rw[FM]
  by_cases e:b=c
  .subst e;rw[List.count_cons_self]at h;obtain⟨k',rfl⟩:∃k',k=k'+1:=⟨k-1,by omega⟩;rw[Ao rfl,splitK,index_one,indexByte];simp only[beq_self_eq_true,SJ];rw[Aj Cl];show []::splitK [b] 0 k' r=_;rw[RY b r k' ch]
  .have DD:(b == c)=false:=by simpa using e
   rw[List.count_cons_of_ne (by simpa using e)]at h;have ih:=RY c r k h;rw[Aj e];cases k with
   |zero=>
    rw[<-ih];rfl
   |succ k=>
    rw[<-ih,splitK,splitK,index_one,index_one,indexByte,DD]
    by_cases h0:indexByte r c=-1
    .rw[h0];rfl
    .have h1:(indexByte r c == -1)=false:=by simpa using h0
     have h2:=indexByte_ge r c;have h3:(indexByte r c+1 == -1)=false:=by rw[beq_eq_false_iff_ne];omega
     simp only[Do,Gu,h1,h3];obtain⟨i,hi⟩:∃i:Nat,indexByte r c=i:=⟨(indexByte r c).toNat,by omega⟩;rw[hi];show(b::r).take (((i:Int)+1).toNat+0)::_=(b::r.take ((i:Int).toNat+0))::_;rw[show((i:Int)+1).toNat=i+1 by omega,show((i:Nat):Int).toNat=i by omega]
     rfl
theorem ZY(c:UInt8):∀(n:Nat) (s:List UInt8),s.length<=n->count s [c]=s.count c
 |n,s,hn=>by
  rcases Int.lt_or_le (indexByte s c) 0 with h | h
  .have h2:=indexByte_ge s c;have h3:indexByte s c=-1:=by omega
   rw[count_miss (by rw[index_one];exact h3)]
   symm
   rw[List.count_eq_zero];intro hm;obtain⟨k,hk,e⟩:=F2 hm;exact indexByte_none h3 k (by rw[AB hk,e])
  .obtain⟨i,hi⟩:∃i:Nat,indexByte s c=i:=⟨(indexByte s c).toNat,by omega⟩;obtain⟨h1,h2⟩:=indexByte_some hi;obtain⟨hl,hg⟩:=Ay.1 h1;cases n with
   |zero=>omega
   |succ n=>
    have hc:=count_hit (s:=s) (sub:=[c]) (i:=i) B0 (by rw[index_one];exact hi);rw[hc];have ih:=ZY c n (s.drop (i+1)) (by rw[Di];omega);have yW:s=s.take i++c::s.drop (i+1):=by
     rw[<-hg,<-AI hl,Gx]
    have h0:(s.take i).count c=0:=by
     rw[List.count_eq_zero];intro hm;obtain⟨k,hk,e⟩:=F2 hm;rw[Aw]at hk;rw[GN]at e;exact h2 k ch (by rw[AB ch,e])
    conv=>rhs;rw[yW]
    rw[List.count_append,h0,List.count_cons_self];show 1+count (s.drop (i+1)) [c]=_;rw[ih];omega
theorem kh(s:ByteArray)(c:UInt8):((splitB ⟨#[c]⟩ 0 (countB s ⟨#[c]⟩) s).map (·.data.toList))=FM c s.data.toList:=by
 rw[splitB_data];refine RY c _ _ ?_;show _<=count s.data.toList [c];rw[ZY c _ _ (Ak _)];exact Ak _
end Go.Eng
namespace Go.Eng
variable {U:List ByteArray}{d:List (List Tm)}{l t c:List Tm}{i:Nf}{k:Nat}(x:List Rl)(p:ByteArray)(roots:List Rq)
theorem RJ{α:Type}:∀{l m:List α},l.Nodup->(∀x∈l,x∈m)->l.length<=m.length
 | [],_,_,_=>AA _
 |a::l,m,hn,hs=>by
  obtain⟨h1,h2⟩:=Dk.1 hn;obtain⟨s,t,rfl⟩:=List.append_of_mem (hs a (Ab ..))
  have:l.length<=(s++t).length:=RJ h2 fun x hx=>by
   rcases AP.1 (hs x (Ah _ hx))with h | h
   .exact BD _ h
   .rcases AC.1 h with rfl | h
    .exact absurd hx h1
    .exact Bw _ h
  simp only[Ac,Am]at this⊢;omega
theorem MA(p:ByteArray):∀(l:List Tm) (o:Option Tm),(∀u∈l,u.path≠p)->l.foldl (KY p) o=o
 | [],_,_=>rfl
 |t::l,o,h=>by
  rw[D0,show KY p o t=o by unfold KY;rw[Aj (h t (Ab ..))]];exact MA p l o fun u hu=>h u (Ah _ hu)
theorem dG{t:Tm}(h:t∈Fq l):∃u∈l,u.path=t.path:=by
 apply AJ;intro hn
 have:∀u∈l,u.path≠t.path:=fun u hu e=>hn ⟨u,hu,e⟩
 have h1:=(F4 (EL l)).1 h;rw[JR,MA _ _ _ this]at h1;cases h1
def WG(U:List ByteArray)(t:List Tm):Prop:=Cs none t/\∀u∈t,u.path∈U
theorem WG.len(h:WG U t):t.length<=U.length:=by
 have:=RJ (IF h.1) (m:=U) fun p hp=>by
  obtain⟨u,hu,rfl⟩:=Ai.1 hp;exact h.2 u hu
 unfold EW at this
 rwa [Bb]at this
theorem cJ(h:Df l=some c){t:Tm}(ht:t∈c):t∈Fq l:=by
 unfold Df at h;split at h
 .cases h
 .cases h;exact(By.1 ht).1
theorem Rm(h:Df l=some c)(hu:∀u∈l,u.path∈U):WG U c:=
 ⟨Fj h,fun t ht=>by
  obtain⟨u,h1,h2⟩:=dG (cJ h ht);rw[<-h2];exact hu u h1⟩
theorem WG.nil(U:List ByteArray):WG U []:=⟨trivial,fun u hu=>by cases hu⟩
theorem Vv(hu:∀u∈l,u.path∈U):WG U (RK l):=by
 unfold RK;cases h:Df l with
 |none=>exact .nil U
 |some c=>exact Rm h hu
theorem Ta{a b:List Tm}{p:ByteArray}(ha:WG U a)(hb:WG U b):WG U (B1 a b p).1:=by
 have sp:∀{l r:List Tm} {t:Tm},WG U l->FN l p=some (t,r)->t.path∈U/\∀u∈r,u.path∈U:=by
  intro l r t hl h;unfold FN at h;cases e:Df l with
  |none=>rw[e]at h;cases h
  |some c=>
   rw[e]at h;have h:(match DC c p with | none=>none | some t=>some (t,Ga c p))=some (t,r):=h;have hc:=Rm e hl.2;cases e2:DC c p with
   |none=>rw[e2]at h;cases h
   |some u=>
    rw[e2]at h;cases h;exact⟨hc.2 _ (Fz e2),fun u hu=>hc.2 u (By.1 hu).1⟩
 unfold B1;split
 .rename_i t r u m e1 e2;obtain⟨a1,a2⟩:=sp ha e1;obtain⟨b1,b2⟩:=sp hb e2;split
  .rename_i o e3;refine Rm e3 fun v hv=>?_;rcases AP.1 hv with hv | hv
   .rcases AP.1 hv with hv | hv
    .exact a2 v hv
    .exact b2 v hv
   .rw[Aq.1 hv];exact a1
  .exact .nil U
 .exact .nil U
def Lk(l:List Nf):List ByteArray:=(x.map (·.path))++((x.map (·.reqs)).flatten.map (·.path)++(roots.map (·.path)++l.map (·.path)))
theorem jn{x:List Rl}{roots:List Rq}{l:List Nf}(hi:i∈l)(hd:∀t∈d,WG (Lk x roots l) t)(h:Ei x roots d i=some t):WG (Lk x roots l) t:=by
 have hp:i.path∈Lk x roots l:=by
  unfold Lk;exact Bw _ (Bw _ (Bw _ (Ai.2 ⟨i,hi,rfl⟩)))
 have nz:∀{α:Type} {l:List α} {k:Int} {a:α},Ko l k=some a->a∈l:=by
  intro α l k a h;unfold Ko at h;split at h
  .cases h
  .exact Az h
 have n0:∀{a b:List Tm},jx a=some b->b=a:=by
  intro a b h;unfold jx at h;split at h
  .cases h
  .cases h;rfl
 unfold Ei at h;split at h
 .split at h
  .cases e:Ko roots i.number with
   |none=>rw[e]at h;cases h
   |some q=>
    rw[e]at h;cases h;refine Vv fun u hu=>?_;rw[Aq.1 hu];unfold Lk;exact Bw _ (Bw _ (BD _ (Ai.2 ⟨q,nz e,rfl⟩)))
  .cases h
 split at h
 .split at h
  .cases e:QM x i.path i.place with
   |none=>rw[e]at h;cases h
   |some r=>
    rw[e]at h;have h:(match Ko r.reqs i.number with | none=>none | some q=>jx (EG i.path i.place q))=some t:=h;cases e2:Ko r.reqs i.number with
    |none=>rw[e2]at h;cases h
    |some q=>
     rw[e2]at h;have h:=n0 (show jx (EG i.path i.place q)=some t from h);subst h;refine Vv fun u hu=>?_;rcases AC.1 hu with rfl | hu
     .exact hp
     .rw[Aq.1 hu];unfold Lk;refine Bw _ (BD _ (Ai.2 ⟨q,?_,rfl⟩));exact D3.2 ⟨r.reqs,Ai.2 ⟨r,BF e,rfl⟩,nz e2⟩
  .cases h
 split at h
 .split at h
  .have h:=n0 h;subst h;refine Vv fun u hu=>?_;rw[Aq.1 hu];exact hp
  .cases h
 split at h
 .split at h
  .cases e:Ko d i.left with
   |none=>rw[e]at h;cases h
   |some a=>
    cases e2:Ko d i.right with
    |none=>rw[e,e2]at h;cases h
    |some b=>
     rw[e,e2]at h;have h:(if(B1 a b i.path).2=0 then some (B1 a b i.path).1 else none)=some t:=h;split at h
     .cases h;exact Ta (hd a (nz e)) (hd b (nz e2))
     .cases h
  .cases h
 .cases h
structure Cd where
 place:Int
 rel:Rl
structure Nd where
 rq:Rq
 path:ByteArray
 place:Int
 number:Int
variable (n:Nd)
structure SS where
 infs:List Nf
 drv:List (List Tm)
 full:Bool
variable {s':SS}(s:SS)
abbrev Vc(c:Cd):Sl:=⟨c.rel.path,c.rel.ver⟩
abbrev AU(l:List Cd):List Sl:=l.map Vc
def CE:List Cd:=(x.filter fun r=>decide (r.path=p)&&!r.yanked).map fun r=>⟨plc r.ver,r⟩
def Nr(f:Rq->Nat->Nd):Nat->List Rq->List Nd
 |_,[]=>[]
 |i,q::l=>f q i::Nr f (i+1) l
def bR:List Nd:=Nr (fun q i=>⟨q,mt,0,i⟩) 0 roots
def RQ(c:Cd):List Nd:=Nr (fun q i=>⟨q,c.rel.path,c.place,i⟩) 0 c.rel.reqs
def DN(dec:List Cd):List Nd:=bR roots++(dec.map RQ).flatten
def DQ(dec:List Cd)(p:ByteArray):Bool:=dec.any fun c=>decide (c.rel.path=p)
def EF(dec:List Cd)(a:ByteArray×List Nd)(n:Nd):ByteArray×List Nd:=
 if DQ dec n.rq.path=true\/(a.2≠[]/\Ef a.1 n.rq.path=true)then a
 else if a.2≠[]/\Ef n.rq.path a.1=true then(n.rq.path,[n])else(n.rq.path,a.2++[n])
def Hg(dec:List Cd):ByteArray×List Nd:=(DN roots dec).foldl (EF dec) (mt,[])
def gi(l:List Cd)(n:Nd):Bool:=l.any fun d=>decide (d.rel.path=n.rq.path)&&!has n.rq.set d.place
def Ey(dec:List Cd)(c:Cd):Option Nd:=(RQ c).find? (gi (dec++[c]))
def PZ(s:List Sl):Nat->List (List Tm)->Option Nat
 |_,[]=>none
 |i,t::l=>if Dg t s then some i else PZ s (i+1) l
def P0(d:List (List Tm))(s:List Sl):Option Nat:=PZ s 0 d
def Eb(l:List Tm)(p:ByteArray):Bool:=l.any fun t=>decide (t.path=p)
instance:DecidableEq Nf:=fun a b=>by
 obtain⟨a1,a2,a3,a4,a5,a6⟩:=a;obtain⟨b1,b2,b3,b4,b5,b6⟩:=b;exact decidable_of_iff (a1=b1/\a2=b2/\a3=b3/\a4=b4/\a5=b5/\a6=b6) ⟨fun⟨h1,h2,h3,h4,h5,h6⟩=>by subst h1 h2 h3 h4 h5 h6;rfl,fun h=>by cases h;exact⟨rfl,rfl,rfl,rfl,rfl,rfl⟩⟩
def MO(i:Nf):Nat->List Nf->Option Nat
 |_,[]=>none
 |k,j::l=>if j=i then some k else MO i (k+1) l
def Fc(i:Nf)(l:List Tm):Nat×SS:=
 match MO i 0 s.infs with
 |some k=>(k,s)
 |none=>if 65536<=s.infs.length then(s.infs.length-1,⟨s.infs,s.drv,true⟩)else(s.infs.length,⟨s.infs++[i],s.drv++[l],s.full⟩)
def U8:Nf:=if n.path=mt then⟨0,mt,0,n.number,0,0⟩else⟨1,n.path,n.place,n.number,0,0⟩
def JU:List Tm:=if n.path=mt then Ks n.rq else EG n.path n.place n.rq
def BW(n:Nd):Nat×SS:=Fc s (U8 n) (JU n)
abbrev EP(k:Nat):List Tm:=s.drv.getD k []
def CF(p:ByteArray):List Nat->Nat->SS->Nat×SS
 | [],k,s=>(k,s)
 |r::l,k,s=>
  if s.full=true\/Eb (EP s k) p=false then(k,s)
  else if r=k then CF p l k s
  else if(B1 (EP s k) (EP s r) p).2≠0 then CF p l k s
  else CF p l (Fc s ⟨3,p,0,0,k,r⟩ (B1 (EP s k) (EP s r) p).1).1 (Fc s ⟨3,p,0,0,k,r⟩ (B1 (EP s k) (EP s r) p).1).2
def EV:Nat×SS:=Fc s ⟨2,p,0,0,0,0⟩ (IM p (Cn x p))
def Eo(Gp:List Nat)(s:SS):Nat×SS:=
 CF p ((EV x p (BW s n).2).1::Gp) (BW s n).1 (EV x p (BW s n).2).2
structure K7 where
 res:Nat
 found:Bool
 ss:SS
 dec:List Cd
 stack:List (List Sk)
def ED(rec:List Cd->SS->List (List Sk)->K7)(x:List Rl)(p:ByteArray)(needs:List Nd)(n0:Nd)(dec:List Cd)(stack:List (List Sk)):List Cd->SS->List Nat->List Sk->K7
 | [],s,Gp,_=>⟨(Eo x p n0 Gp s).1,false,(Eo x p n0 Gp s).2,dec,stack⟩
 |c::cs,s,Gp,skips=>
  let after (k:Nat) (s:SS):K7:=if Eb (EP s k) p=false then⟨k,false,s,dec,stack⟩else ED rec x p needs n0 dec stack cs s (Gp++[k]) (skips++[⟨p,c.place,k⟩])
  if s.full=true then⟨0,false,s,dec,stack⟩
  else match needs.find? fun n=>!has n.rq.set c.place with
   |some n=>ED rec x p needs n0 dec stack cs (BW s n).2 (Gp++[(BW s n).1]) skips
   |none=>match P0 s.drv (AU (dec++[c]))with
    |some k=>after k s
    |none=>match Ey dec c with
     |some n=>after (BW s n).1 (BW s n).2
     |none=>
      let o:=rec (dec++[c]) s (stack++[skips])
      if o.found=true then⟨0,true,o.ss,o.dec,o.stack⟩
      else if o.ss.full=true then⟨0,false,o.ss,dec,stack⟩
      else after o.res o.ss
def DB(x:List Rl)(roots:List Rq):Nat->List Cd->SS->List (List Sk)->K7
 |0,dec,s,stack=>⟨0,false,s,dec,stack⟩
 |n+1,dec,s,stack=>match(Hg roots dec).2 with
  | []=>⟨0,true,s,dec,stack⟩
  |n0::l=>ED (DB x roots n) x (Hg roots dec).1 (n0::l) n0 dec stack (CE x (Hg roots dec).1) s [] []
abbrev ss0:SS:=⟨[],[],false⟩
def SB(dec:List Cd):Nat:=(x.filter fun r=>!r.yanked&&!DQ dec r.path).length
def EH:K7:=DB x roots (x.length+1) [] ss0 []
theorem QF(f:Rq->Nat->Nd):∀(l:List Rq) (i k:Nat),(Nr f i l)[k]?=(l[k]?).map fun q=>f q (i+k)
 | [],i,k=>by simp[Nr]
 |q::l,i,0=>by simp[Nr]
 |q::l,i,k+1=>by
  have h:=QF f l (i+1) k;simp only[Nr,Hs,h];rw[show i+1+k=i+(k+1) by omega]
theorem LN(f:Rq->Nat->Nd):∀(l:List Rq) (i:Nat),(Nr f i l).length=l.length
 | [],_=>rfl
 |_::l,i=>by simp[Nr,LN f l (i+1)]
theorem bx{f:Rq->Nat->Nd}{l:List Rq}{n:Nd}(h:n∈Nr f 0 l):∃k q,l[k]?=some q/\n=f q k:=by
 obtain⟨k,hk⟩:=Cp.1 h;rw[QF,AW]at hk;obtain⟨q,h1,h2⟩:=hk;exact⟨k,q,h1,by rw[<-h2,Bf]⟩
theorem TT{f:Rq->Nat->Nd}(hf:∀q i,(f q i).rq=q):∀(l:List Rq) (i:Nat),(Nr f i l).map (·.rq)=l
 | [],_=>rfl
 |q::l,i=>by simp[Nr,hf,TT hf l (i+1)]
abbrev IC(dec:List Cd):List Rq:=roots++(dec.map fun c=>c.rel.reqs).flatten
theorem NY(dec:List Cd):(DN roots dec).map (·.rq)=IC roots dec:=by
 unfold DN bR;rw[As,TT (fun _ _=>rfl),T9,Br]
 congr 2
 exact Bi fun c _=>TT (fun _ _=>rfl) _ _
theorem Gm(dec:List Cd)(p:ByteArray):CZ (AU dec) p=DQ dec p:=by
 unfold CZ DQ AU;rw[List.any_map];rfl
theorem Km(before:List Sl):∀{l:List Rq} {a p:ByteArray},DO before l (some a)=some p->p=a\/Ef p a=true
 | [],a,p,h=>by cases h;exact .inl rfl
 |q::l,a,p,h=>by
  unfold DO at h;split at h
  .exact Km before h
  .dsimp only at h;split at h
   .rename_i hb;rcases Km before h with e | e
    .exact .inr (by rw[e];exact hb)
    .exact .inr (D6 e hb)
   .exact Km before h
theorem Jm(before:List Sl):∀{l:List Rq} {a:ByteArray},DO before l (some a)≠none
 | [],a=>by simp[DO]
 |q::l,a=>by
  unfold DO;split
  .exact Jm before
  .dsimp only;split<;>exact Jm before
theorem Qg{n:Nd}{p:ByteArray}(e:n.rq.path≠p)(L:List Nd):((n::L).filter fun n=>decide (n.rq.path=p))=L.filter fun n=>decide (n.rq.path=p):=by rw[El,Aj (by simpa using e)]
theorem YJ{n:Nd}{p:ByteArray}(e:n.rq.path=p)(L:List Nd):((n::L).filter fun n=>decide (n.rq.path=p))=n::L.filter fun n=>decide (n.rq.path=p):=by rw[El,Ao (by simpa using e)]
theorem N0(dec:List Cd):∀(L:List Nd) (a:ByteArray×List Nd),(a.2≠[]->DQ dec a.1=false) ->
  L.foldl (EF dec) a=match DO (AU dec) (L.map (·.rq)) (if a.2=[]then none else some a.1)with
   |none=>a
   |some p=>(p,(if a.2≠[]/\a.1=p then a.2 else [])++L.filter fun n=>decide (n.rq.path=p))
 | [],a,h=>by
  obtain⟨p,o⟩:=a;cases o with
  |nil=>simp[DO]
  |cons n o=>simp[DO]
 |n::L,a,h=>by
  obtain⟨p0,o⟩:=a;rw[D0,AL];have yX:∀(acc:Option ByteArray) (l:List Rq),(∀p,acc=some p->DQ dec p=false)->∀p,DO (AU dec) l acc=some p->DQ dec p=false:=fun acc l ha p hp=>by
   have:=((KT (AU dec) (l:=l) (acc:=acc) (fun p e=>by rw[Gm];exact ha p e)).1 p hp).1
   rw[Gm]at this;exact this
  cases hd:DQ dec n.rq.path with
  |true=>
   have e1:EF dec (p0,o) n=(p0,o):=by unfold EF;rw[Ao (.inl hd)]
   have e2:DO (AU dec) (n.rq::L.map (·.rq)) (if o=[]then none else some p0)=DO (AU dec) (L.map (·.rq)) (if o=[]then none else some p0):=by
    conv=>lhs;unfold DO
    rw[Ao (by rw[Gm];exact hd)]
   rw[e1,e2,N0 dec L (p0,o) h];dsimp only;cases hg:DO (AU dec) (L.map (·.rq)) (if o=[]then none else some p0)with
   |none=>rfl
   |some p=>
    dsimp only;have hp:=yX _ _ (fun q e=>by
     split at e
     .cases e
     .rename_i ho;cases e;exact h ho) p hg
    have DD:n.rq.path≠p:=fun e=>by rw[e,hp]at hd;cases hd
    rw[Qg DD]
  |false=>
   have SD:CZ (AU dec) n.rq.path=false:=by rw[Gm];exact hd
   by_cases ho:o=[]
   .subst ho;have e1:EF dec (p0,[]) n=(n.rq.path,[n]):=by
     unfold EF;rw[Aj (by simp[hd]),Aj B0];rfl
    have e2:DO (AU dec) (n.rq::L.map (·.rq)) none=DO (AU dec) (L.map (·.rq)) (some n.rq.path):=by
     conv=>lhs;unfold DO
     rw[Aj (by rw[SD];decide)]
    rw[e1,N0 dec L (n.rq.path,[n]) (fun _=>hd),Ao rfl,e2];rw[Aj B0];cases hg:DO (AU dec) (L.map (·.rq)) (some n.rq.path)with
    |none=>exact absurd hg (Jm _)
    |some p=>
     dsimp only;rw[Aj (show ¬(([]:List Nd)≠[]/\p0=p)from fun h=>h.1 rfl)]
     by_cases e:n.rq.path=p
     .rw[YJ e,Ao ⟨by simp,e⟩];rfl
     .rw[Qg e,Aj (fun h=>e h.2)]
   .have hif:(if o=[]then none else some p0)=some p0:=Aj ho;rw[hif];cases hb:Ef p0 n.rq.path with
    |true=>
     have e1:EF dec (p0,o) n=(p0,o):=by unfold EF;rw[Ao (.inr ⟨ho,hb⟩)]
     have Ou:Ef n.rq.path p0=false:=NJ hb;have e2:DO (AU dec) (n.rq::L.map (·.rq)) (some p0)=DO (AU dec) (L.map (·.rq)) (some p0):=by
      conv=>lhs;unfold DO
      rw[Aj (by rw[SD];decide)];dsimp only;rw[Aj (by rw[Ou];decide)]
     rw[e1,e2,N0 dec L (p0,o) h];dsimp only;rw[hif];cases hg:DO (AU dec) (L.map (·.rq)) (some p0)with
     |none=>rfl
     |some p=>
      dsimp only;have DD:n.rq.path≠p:=fun e=>by
       rcases Km _ hg with e3 | e3
       .rw[e,e3,Dm]at hb;cases hb
       .rw[e,NJ e3]at hb;cases hb
      rw[Qg DD]
    |false=>
     cases Ou:Ef n.rq.path p0 with
     |true=>
      have e1:EF dec (p0,o) n=(n.rq.path,[n]):=by
       unfold EF;rw[Aj (by simp[hd,hb]),Ao ⟨ho,Ou⟩]
      have e2:DO (AU dec) (n.rq::L.map (·.rq)) (some p0)=DO (AU dec) (L.map (·.rq)) (some n.rq.path):=by
       conv=>lhs;unfold DO
       rw[Aj (by rw[SD];decide)];dsimp only;rw[Ao Ou]
      rw[e1,e2,N0 dec L (n.rq.path,[n]) (fun _=>hd),Aj B0];cases hg:DO (AU dec) (L.map (·.rq)) (some n.rq.path)with
      |none=>exact absurd hg (Jm _)
      |some p=>
       dsimp only;have DD:p0≠p:=fun e=>by
        rcases Km _ hg with e3 | e3
        .rw[e,e3,Dm]at Ou;cases Ou
        .rw[e]at Ou;rw[NJ e3]at Ou;cases Ou
       rw[Aj (show ¬(o≠[]/\p0=p)from fun h=>DD h.2)]
       by_cases e:n.rq.path=p
       .rw[YJ e,Ao ⟨by simp,e⟩];rfl
       .rw[Qg e,Aj (fun h=>e h.2)]
     |false=>
      have e0:n.rq.path=p0:=Ik Ou hb;have e1:EF dec (p0,o) n=(p0,o++[n]):=by
       unfold EF;rw[Aj (by simp[hd,hb]),Aj (by simp[Ou]),e0]
      have e2:DO (AU dec) (n.rq::L.map (·.rq)) (some p0)=DO (AU dec) (L.map (·.rq)) (some p0):=by
       conv=>lhs;unfold DO
       rw[Aj (by rw[SD];decide)];dsimp only;rw[Aj (by rw[Ou];decide)]
      rw[e1,e2,N0 dec L (p0,o++[n]) (fun _=>by rw[<-e0];exact hd),Aj B0];cases hg:DO (AU dec) (L.map (·.rq)) (some p0)with
      |none=>exact absurd hg (Jm _)
      |some p=>
       dsimp only
       by_cases e:p0=p
       .rw[YJ (e0.trans e),Ao ⟨by simp,e⟩,Ao ⟨ho,e⟩,BB];rfl
       .rw[Qg (fun h=>e (e0.symm.trans h)),Aj (fun h=>e h.2),Aj (fun h=>e h.2)]
theorem Vo(dec:List Cd):Hg roots dec=match LJ (IC roots dec) (AU dec)with
  |none=>(mt,[])
  |some p=>(p,(DN roots dec).filter fun n=>decide (n.rq.path=p)):=by
 unfold Hg LJ;rw[N0 dec _ (mt,[]) (fun h=>absurd rfl h),Ao rfl,NY];cases DO (AU dec) (IC roots dec) none with
 |none=>rfl
 |some p=>dsimp only;rw[Aj B0];rfl
theorem Vp{roots:List Rq}{dec:List Cd}:(Hg roots dec).2=[]↔LJ (IC roots dec) (AU dec)=none:=by
 rw[Vo];cases h:LJ (IC roots dec) (AU dec)with
 |none=>simp
 |some p=>
  simp only[reduceCtorEq,iff_false];obtain⟨_,q,hq,e⟩:=Vq h;rw[<-NY]at hq;obtain⟨n,hn,rfl⟩:=Ai.1 hq;exact List.ne_nil_of_mem (By.2 ⟨hn,by simpa using e⟩)
structure wD(roots:List Rq)(dec:List Cd)(p:ByteArray)(l:List Nd):Prop where
 next:LJ (IC roots dec) (AU dec)=some p
 undone:DQ dec p=false
 mem:∀n,n∈l↔n∈DN roots dec/\n.rq.path=p
theorem Ph{roots:List Rq}{dec:List Cd}{n0:Nd}{l:List Nd}(h:(Hg roots dec).2=n0::l):wD roots dec (Hg roots dec).1 (n0::l):=by
 rw[<-h];rw[Vo]at *
 cases hp:LJ (IC roots dec) (AU dec)with
 |none=>rw[hp]at h;cases h
 |some p=>
  dsimp only;refine⟨hp,by rw[<-Gm];exact(Vq hp).1,fun n=>?_⟩;rw[By];simp
theorem L5{x:List Rl}{p:ByteArray}{c:Cd}:c∈CE x p↔∃r∈x,r.path=p/\r.yanked=false/\c=⟨plc r.ver,r⟩:=by
 unfold CE;simp only[Ai,By,Ag,AD,CJ];constructor
 .rintro⟨r,⟨h1,h2,h3⟩,rfl⟩;exact⟨r,h1,h2,h3,rfl⟩
 .rintro⟨r,h1,h2,h3,rfl⟩;exact⟨r,⟨h1,h2,h3⟩,rfl⟩
theorem N5{i:Nf}:∀{l:List Nf} {k m:Nat},MO i k l=some m->∃j,m=k+j/\l[j]?=some i
 | [],_,_,h=>by cases h
 |y::l,k,m,h=>by
  unfold MO at h;split at h
  .rename_i e;cases h;exact⟨0,rfl,by rw[<-e];rfl⟩
  .obtain⟨j,h1,h2⟩:=N5 h;exact⟨j+1,by omega,h2⟩
theorem RN{i:Nf}:∀{l:List Nf} {k:Nat},MO i k l=none->i∉l
 | [],_,_=>by simp
 |y::l,k,h=>by
  unfold MO at h;split at h
  .cases h
  .rename_i e
   have:=RN h
   simp only[AC,not_or];exact⟨fun e'=>e e'.symm,this⟩
theorem SY{α:Type}{d d' : List α}{i:Int}{a:α}(h:Ko d i=some a)(hp:d <+: d'):Ko d' i=some a:=by
 unfold Ko at *
 split at h
 .cases h
 .rename_i hi;rw[Aj hi];obtain⟨t,rfl⟩:=hp;rw[A0 (Ay.1 h).1];exact h
theorem aU{x:List Rl}{roots:List Rq}{d':List (List Tm)}{o:List Tm}(h:Ei x roots d i=some o)(hp:d <+: d'):Ei x roots d' i=some o:=by
 unfold Ei at *
 split
 .rename_i e;rw[Ao e]at h;exact h
 rename_i e0;rw[Aj e0]at h;split
 .rename_i e;rw[Ao e]at h;exact h
 rename_i e1;rw[Aj e1]at h;split
 .rename_i e;rw[Ao e]at h;exact h
 rename_i e2;rw[Aj e2]at h;split
 .rename_i e;rw[Ao e]at h;split
  .rename_i e4;rw[Ao e4]at h;cases ha:Ko d i.left with
   |none=>rw[ha]at h;cases h
   |some a=>
    cases hb:Ko d i.right with
    |none=>rw[ha,hb]at h;cases h
    |some b=>
     rw[ha,hb]at h;rw[SY ha hp,SY hb hp];exact h
  .rename_i e4;rw[Aj e4]at h;cases h
 .rename_i e;rw[Aj e]at h;cases h
structure FO(x:List Rl)(roots:List Rq)(s:SS):Prop where
 der:Dv x roots s.infs []=some s.drv
 len:s.infs.length<=65536
theorem FO.dlen{x:List Rl}{roots:List Rq}{s:SS}(h:FO x roots s):s.drv.length=s.infs.length:=by simpa using JP h.der
theorem FO.nil:FO x roots ss0:=⟨rfl,by simp⟩
theorem FO.at{x:List Rl}{roots:List Rq}{s:SS}(h:FO x roots s){k:Nat}{i:Nf}(hk:s.infs[k]?=some i):Ei x roots s.drv i=some (s.drv.getD k []):=by
 have h1:=Oj h.der (k+1);have h0:=Oj h.der k;have DE:=(Ay.1 hk).1;rw[Bj,hk,HE,h0]at h1;have h1:Dv x roots [i] (s.drv.take k)=some (s.drv.take (k+1)):=h1;unfold Dv at h1;cases hi:Ei x roots (s.drv.take k) i with
 |none=>rw[hi]at h1;cases h1
 |some t=>
  rw[hi]at h1;have h1:some (s.drv.take k++[t])=some (s.drv.take (k+1)):=h1;have hd:k<s.drv.length:=by rw[h.dlen];exact DE
  have:t=s.drv[k]:=by
   have h2:=Cq h1;rw[BY hd]at h2;exact List.singleton_inj.1 (List.append_cancel_left h2)
  rw[aU hi (List.take_prefix ..),this];simp[List.getD_eq_getElem?_getD,hd]
structure Grow(s s' : SS):Prop where
 pre:s.drv <+: s'.drv
 preI:s.infs <+: s'.infs
 full:s.full=true->s'.full=true
theorem Grow.refl:Grow s s:=⟨N9,N9,id⟩
theorem Grow.trans{a b c:SS}(h:Grow a b)(k:Grow b c):Grow a c:=⟨h.pre.trans k.pre,h.preI.trans k.preI,fun e=>k.full (h.full e)⟩
theorem Grow.at{s:SS}(h:Grow s s')(hk:k<s.drv.length):EP s' k=EP s k:=by
 obtain⟨t,e⟩:=h.pre;unfold EP;rw[<-e,Ca,Ca,A0 hk]
theorem Grow.len{s:SS}(h:Grow s s'):s.drv.length<=s'.drv.length:=h.pre.length_le
theorem Lz(i:Nf)(l:List Tm):Grow s (Fc s i l).2:=by
 unfold Fc;split
 .exact .refl s
 .split
  .exact⟨N9,N9,fun _=>rfl⟩
  .exact⟨Pz ..,Pz ..,id⟩
theorem Ly{x:List Rl}{roots:List Rq}{s:SS}(h:FO x roots s)(hi:Ei x roots s.drv i=some l) :
  FO x roots (Fc s i l).2/\(Fc s i l).1<(Fc s i l).2.drv.length/\((Fc s i l).2.full=false->EP (Fc s i l).2 (Fc s i l).1=l):=by
 have hdl:=h.dlen;unfold Fc;split
 .rename_i k hk;obtain⟨j,e,hj⟩:=N5 hk
  have:k=j:=by omega
  subst this;have DE:=(Ay.1 hj).1;refine⟨h,by show k<s.drv.length;omega,fun _=>?_⟩
  have:=h.at hj
  rw[hi]at this;exact(Cq this).symm
 .rename_i hk;split
  .rename_i hf;exact⟨⟨h.der,h.len⟩,by show s.infs.length-1<s.drv.length;omega,fun e=>by cases e⟩
  .rename_i hf;refine⟨⟨?_,by show(s.infs++[i]).length<=65536;rw[Ac];simp;omega⟩,by show s.infs.length<(s.drv++[l]).length;rw[Ac];simp;omega,fun _=>?_⟩
   .show Dv x roots (s.infs++[i]) []=some (s.drv++[l]);rw[HE,h.der];show Dv x roots [i] s.drv=_;unfold Dv;rw[hi];rfl
   .show(s.drv++[l]).getD s.infs.length []=l;rw[<-hdl];simp[List.getD_eq_getElem?_getD]
theorem UB(S:List Sl):∀{l:List (List Tm)} {i k:Nat},PZ S i l=some k->∃j,k=i+j/\∃t,l[j]?=some t/\Dg t S=true
 | [],_,_,h=>by cases h
 |t::l,i,k,h=>by
  unfold PZ at h;split at h
  .rename_i e;cases h;exact⟨0,rfl,t,rfl,e⟩
  .obtain⟨j,h1,t',h2,h3⟩:=UB S h;exact⟨j+1,by omega,t',h2,h3⟩
theorem LC{S:List Sl}(h:P0 d S=some k):k<d.length/\Dg (d.getD k []) S=true:=by
 obtain⟨j,h1,t,h2,h3⟩:=UB S h
 have:k=j:=by omega
 subst this;refine⟨(Ay.1 h2).1,?_⟩;rw[Ca,h2];exact h3
end Go.Eng
