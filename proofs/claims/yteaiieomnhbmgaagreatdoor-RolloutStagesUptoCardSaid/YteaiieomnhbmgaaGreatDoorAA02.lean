/- Lemmas 2. -/
import Derived.Test.YteaiieomnhbmgaaGreatDoorAA01
import Derived.Lib.SplitLaws
import Derived.Lib.IndexBytes
namespace Go.Eng
variable {x:Int×Int}{B:List Int}{s:List Tm}(m:List (Int×Int))(S:By)(l:List Tm)(r:By)(i:Nat)(k:Int)(t:Tm)(v j:Int)
def D6(l:By):By:=(l.map Jh).filter fun x=>decide (x.1<x.2)
theorem PS(a b:By):D6 (a++b)=D6 a++D6 b:=by unfold D6;rw[As,EP]
theorem Xn{l:By}(h:x∈D6 l):0<=x.1/\x.1<x.2/\x.2<=1000000:=by
 unfold D6 at h;rw[Bz,Ai]at h;obtain⟨⟨y,_,rfl⟩,h2⟩:=h;have h2:=AU h2;refine⟨?_,h2,?_⟩<;>simp only[Jh]<;>omega
theorem iC(l:By)(p:Int):(D6 l).any (BY p)=has l p:=by
 rw[<-LF]
 induction l with
 |nil=>rfl
 |cons x r ih=>
  have e:D6 (x::r)=(if(Jh x).1<(Jh x).2 then [Jh x]else [])++D6 r:=by
   unfold D6;rw[AK,Ep]
   by_cases h:(Jh x).1<(Jh x).2<;>simp[h]
  have ec:canon (x::r)=if(Jh x).1<(Jh x).2 then Yp (Jh x) (canon r)else canon r:=rfl
  rw[e,Io,ih,ec]
  by_cases h:(Jh x).1<(Jh x).2
  .rw[Al h,Al h,PH _ p (Cz r) h];simp
  .rw[Aj h,Aj h];simp
theorem OS:∀{l:By} {lo:Int},Fj lo l↔(∀y∈l,lo<=y.1/\y.1<y.2/\y.2<=1000000)/\l.Pairwise fun a b=>a.2<b.1
 | [],lo=>by simp[Fj]
 |y::r,lo=>by
  rw[BR];constructor
  .intro h;have hl:=h.low;refine⟨hl,fun z hz=>?_,((OS (l:=r)).1 h.2.2.2).2⟩
   have:=h.2.2.2.low z hz;omega
  .intro⟨h1,h2,h3⟩;have hy:=h1 y (Ab ..);refine⟨hy.1,hy.2.1,hy.2.2,OS.2 ⟨fun z hz=>?_,h3⟩⟩
   have:=h1 z (Ah _ hz)
   have:=h2 z hz
   omega
def L0(x:Int×Int):By:=match r with
 | []=>[x]
 |y::t=>if x.1<=y.2 then(y.1,max y.2 x.2)::t else x::y::t
def BV(s:By):By:=s.foldl L0 []
theorem G3(s:By)(i:Nat)(h:i<s.length):BV (s.take (i+1))=L0 (BV (s.take i)) s[i]:=by
 unfold BV;rw[Bj,Az h,Ef];rfl
theorem ki(x:Int×Int):(L0 r x).length<=r.length+1/\r.length<=(L0 r x).length/\0<(L0 r x).length:=by
 unfold L0;split
 .simp
 .split<;>simp
theorem Vp(s:By):∀i,i<=s.length->(BV (s.take i)).length<=i/\(0<i->0<(BV (s.take i)).length):=by
 intro i
 induction i with
 |zero=>intro _;simp[BV]
 |succ i ih=>
  intro h;rw[G3 s i ch]
  have:=ki (BV (s.take i)) s[i]
  have:=ih ch
  omega
structure tw(r done:By):Prop where
 ok:∀y∈r,0<=y.1/\y.1<y.2/\y.2<=1000000
 pw:r.Pairwise fun a b=>b.2<a.1
 has:∀p,r.any (BY p)=done.any (BY p)
 first:∀y t,r=y::t->∃x∈done,y.1=x.1
theorem kh{r done:By}(h:tw r done)(hx:0<=x.1/\x.1<x.2/\x.2<=1000000)(hs:∀y∈done,y.1<=x.1):tw (L0 r x) (done++[x]):=by
 unfold L0;split
 .refine⟨fun y hy=>?_,by simp,fun p=>?_,fun y t e=>?_⟩
  .rw[Ar.1 hy];exact hx
  .rw[Io,<-h.has];rfl
  .cases e;exact⟨x,by simp,rfl⟩
 .rename_i y t;have hy:=h.ok y (Ab ..);obtain⟨pw1,pw2⟩:=BR.1 h.pw;obtain⟨z,hz,e⟩:=h.first y t rfl
  have w9:=hs z hz;split
  .rename_i Ij;refine⟨fun u hu=>?_,BR.2 ⟨pw1,pw2⟩,fun p=>?_,fun u t' e'=>?_⟩
   .rcases AA.1 hu with rfl | hu
    .exact⟨hy.1,by dsimp only;omega,by dsimp only;omega⟩
    .exact h.ok u (Ah _ hu)
   .rw[Io,<-h.has,Cj,Cj,Cj,List.any_nil,Bool.or_false]
    have:BY p (y.1,max y.2 x.2)=(BY p y||BY p x):=by
     simp only[BY];rw[B3];simp only[Af,CN,AC];omega
    rw[this];cases BY p y<;>cases BY p x<;>cases t.any (BY p)<;>rfl
   .cases e';exact⟨z,BE _ hz,e⟩
  .rename_i Ij;refine⟨fun u hu=>?_,BR.2 ⟨fun u hu=>?_,h.pw⟩,fun p=>?_,fun u t' e'=>?_⟩
   .rcases AA.1 hu with rfl | hu
    .exact hx
    .exact h.ok u hu
   .rcases AA.1 hu with rfl | hu
    .omega
    .have:=pw1 u hu;omega
   .rw[Io,<-h.has,Cj,Cj,Cj,List.any_nil,Bool.or_false];cases BY p y<;>cases BY p x<;>cases t.any (BY p)<;>rfl
   .cases e';exact⟨x,by simp,rfl⟩
theorem dR{s:By}(GM:∀y∈s,0<=y.1/\y.1<y.2/\y.2<=1000000)(hs:s.Pairwise fun a b=>a.1<=b.1):∀i,i<=s.length->tw (BV (s.take i)) (s.take i):=by
 intro i
 induction i with
 |zero=>intro _;exact⟨fun _ h=>by simp[BV]at h,by simp[BV],fun p=>by simp[BV],fun y t e=>by simp[BV]at e⟩
 |succ i ih=>
  intro h;have hi:i<s.length:=by omega
  rw[G3 s i hi];have e:s.take (i+1)=s.take i++[s[i]]:=by rw[Bj,Az hi];rfl
  rw[e];refine kh (ih ch) (GM _ (Aq hi)) fun y hy=>?_;obtain⟨j,hj,rfl⟩:=Ck.1 hy;rw[GU];rw[Au]at hj;exact(AY.1 hs) j i ch hi ch
theorem Tq{l s:By}(hp:s.Perm (D6 l))(hs:s.Pairwise fun a b=>a.1<=b.1):(BV s).reverse=canon l:=by
 have hi:=dR (s:=s) (fun y hy=>Xn (hp.mem_iff.1 hy)) hs s.length (Ak _);rw[B7]at hi;have hc:Fc (BV s).reverse:=by
  unfold Fc;rw[OS];refine⟨fun y hy=>hi.ok y (List.mem_reverse.1 hy),?_⟩;rw[List.pairwise_reverse];exact hi.pw
 refine Uv hc fun p=>?_;rw[Ix hc,List.any_reverse,hi.has,<-iC];rw[B3,Be,Be];constructor
 .rintro⟨y,h1,h2⟩;exact⟨y,hp.mem_iff.1 h1,h2⟩
 .rintro⟨y,h1,h2⟩;exact⟨y,hp.mem_iff.2 h1,h2⟩
-- maps from numbers to numbers,as lists in the order in which they are met
def FQ:Int:=match m.find? (fun p=>decide (p.1=k))with | some p=>p.2 | none=>0
def Mu:List (Int×Int):=if m.any (fun p=>decide (p.1=k))then m.map (fun p=>if p.1=k then(k,v)else p)else m++[(k,v)]
theorem If(p:Int×Int)(m:List (Int×Int))(k:Int):FQ (p::m) k=if p.1=k then p.2 else FQ m k:=by
 unfold FQ;rw[Fp];by_cases h:p.1=k<;>simp[h]
theorem Re:FQ (Mu m k v) j=if j=k then v else FQ m j:=by
 unfold Mu;split
 .rename_i h
  induction m with
  |nil=>simp at h
  |cons p m ih=>
   rw[AK,If,If]
   by_cases e:p.1=k
   .rw[Al e];dsimp only
    by_cases ej:j=k
    .subst ej;simp
    .rw[Aj (fun c=>ej c.symm),Aj ej,Aj (fun c=>ej (c.symm.trans e))]
     by_cases hm:(m.any fun p=>decide (p.1=k))=true
     .rw[ih hm,Aj ej]
     .have:∀q∈m,q.1≠k:=fun q hq e=>hm (Be.2 ⟨q,hq,by simp[e]⟩)
      have:m.map (fun p=>if p.1=k then(k,v)else p)=m:=by
       conv=>rhs;rw[<-Gk m]
       exact Bi fun q hq=>by simp[this q hq]
      rw[this]
   .rw[Aj e];have hm:(m.any fun p=>decide (p.1=k))=true:=by simpa[e]using h
    rw[ih hm]
    by_cases ej:j=k
    .subst ej;simp[e]
    .simp[ej]
 .rename_i h;have hn:∀q∈m,q.1≠k:=fun q hq e=>h (Be.2 ⟨q,hq,by simp[e]⟩)
  induction m with
  |nil=>
   rw[F1,If]
   by_cases ej:j=k
   .simp[ej]
   .have:¬k=j:=fun c=>ej c.symm
    simp[ej,this]
  |cons p m ih=>
   rw[Hx,If,If];have e:=hn p (Ab ..);have ih:=ih (by simpa[e]using h) fun q hq=>hn q (Ah _ hq)
   by_cases ep:p.1=j
   .have:¬j=k:=fun c=>e (ep.trans c)
    simp[ep,this]
   .simp only[ep,GB];exact ih
def FE:List Int:=m.map (·.1)
theorem XH:FE (Mu m k v)=if k∈FE m then FE m else FE m++[k]:=by
 unfold Mu FE;have e:(m.any fun p=>decide (p.1=k))=decide (k∈m.map (·.1)):=by
  rw[B3];simp only[Be,AC,Ai]
 rw[e]
 by_cases h:k∈m.map (·.1)
 .simp only[h,decide_true,SP,Bs];apply Bi;intro p _;simp only[Function.comp];split
  .rename_i e;exact e.symm
  .rfl
 .simp[h]
theorem No{m:List (Int×Int)}(h:(FE m).Nodup)(k v:Int):(FE (Mu m k v)).Nodup:=by
 rw[XH];split
 .exact h
 .rename_i hn;rw[FW];exact⟨h,by simp,fun a ha b hb e=>by subst e;rw[Ar.1 hb]at ha;exact hn ha⟩
theorem IX:j∈FE (Mu m k v)↔j=k\/j∈FE m:=by
 rw[XH];split
 .rename_i h;constructor
  .exact .inr
  .rintro(rfl | h')
   .exact h
   .exact h'
 .simp[or_comm]
theorem oP{m:List (Int×Int)}(h:(FE m).Nodup){p:Int×Int}(hp:p∈m):FQ m p.1=p.2:=by
 induction m with
 |nil=>cases hp
 |cons q m ih=>
  rw[If];unfold FE at h ih;rw[AK,Dm]at h;rcases AA.1 hp with rfl | hp
  .simp
  .have:¬q.1=p.1:=fun e=>h.1 (e▸Ai.2 ⟨p,hp,rfl⟩)
   rw[Aj this];exact ih h.2 hp
theorem oQ{m:List (Int×Int)}{k:Int}(h:k∉FE m):FQ m k=0:=by
 unfold FQ
 have:m.find? (fun p=>decide (p.1=k))=none:=by
  rw[DZ];intro p hp;simp only[AC];exact fun e=>h (Ai.2 ⟨p,hp,e⟩)
 rw[this]
-- counting
def cF:Nat:=S.countP fun x=>decide (x.1=k)
def cT:Nat:=S.countP fun x=>decide (x.2=k)
def lF:Nat:=S.countP fun x=>decide (x.1<=k)
def lT:Nat:=S.countP fun x=>decide (x.2<=k)
theorem JS{α:Type}{p q r:α->Bool}:∀{l:List α},(∀x∈l,(p x=true↔q x=true\/r x=true)/\¬(q x=true/\r x=true))->l.countP p=l.countP q+l.countP r
 | [],_=>rfl
 |x::l,h=>by
  have ih:=JS fun y hy=>h y (Ah _ hy);obtain⟨h1,h2⟩:=h x (Ab ..);rw[Jx,Jx,Jx,ih];cases hp:p x<;>cases hq:q x<;>cases hr:r x<;>simp_all<;>omega
structure JE(m:List (Int×Int))(S:By):Prop where
 nd:(FE m).Nodup
 val:∀k,FQ m k=(cF S k:Int)-cT S k
 keys:0∈FE m/\1000000∈FE m/\∀x∈S,x.1∈FE m/\x.2∈FE m
 rng:∀k∈FE m,0<=k/\k<=1000000
def xG:List (Int×Int):=[(0,0),(1000000,0)]
theorem qe:JE xG []:=⟨by decide,fun k=>by
  unfold xG;rw[If,If];simp[FQ,cF,cT],⟨by decide,by decide,fun _ h=>by cases h⟩,fun k hk=>by
  unfold xG FE at hk;simp at hk;omega⟩
def ca(x:Int×Int):List (Int×Int):=Mu (Mu m x.1 (FQ m x.1+1)) x.2 (FQ (Mu m x.1 (FQ m x.1+1)) x.2-1)
theorem kg{m:List (Int×Int)}{S:By}(h:JE m S)(hx:0<=x.1/\x.1<x.2/\x.2<=1000000):JE (ca m x) (S++[x]):=by
 unfold ca;refine⟨No (No h.nd _ _) _ _,fun k=>?_,⟨?_,?_,fun y hy=>?_⟩,fun k hk=>?_⟩
 .rw[Re,Re,Re,h.val,h.val,h.val];unfold cF cT;simp only[List.countP_append,List.countP_singleton,AC]
  by_cases e1:k=x.2
  .subst e1
   have:¬x.2=x.1:=by omega
   have:¬x.1=x.2:=by omega
   simp[*];omega
  .by_cases e2:k=x.1
   .subst e2
    have:¬x.2=x.1:=by omega
    have:¬x.1=x.2:=by omega
    simp[*];omega
   .have a1:¬x.1=k:=fun c=>e2 c.symm;have a2:¬x.2=k:=fun c=>e1 c.symm;simp[e1,e2,a1,a2]
 .rw[IX,IX];exact .inr (.inr h.keys.1)
 .rw[IX,IX];exact .inr (.inr h.keys.2.1)
 .simp only[IX];rcases AO.1 hy with hy | hy
  .have:=h.keys.2.2 y hy
   exact⟨.inr (.inr this.1),.inr (.inr this.2)⟩
  .rw[Ar.1 hy];exact⟨.inr (.inl rfl),.inl rfl⟩
 .rw[IX,IX]at hk;rcases hk with rfl | rfl | hk
  .omega
  .omega
  .exact h.rng k hk
def Js(B:List Int):Int:=(B.map (FQ m)).foldl (·+·) 0
theorem Sh(B:List Int)(i:Nat)(h:i<B.length):Js m (B.take (i+1))=Js m (B.take i)+FQ m B[i]:=by
 unfold Js;rw[Bj,Az h,As,Ef];simp only[Option.toList_some,AK,Fe,Fq,List.foldl_nil]
structure pK(B:List Int)(m:List (Int×Int)):Prop where
 perm:B.Perm (FE m)
 srt:B.Pairwise fun a b=>a<b
theorem gL{m:List (Int×Int)}{S:By}(h:JE m S)(hB:pK B m):∀i (hi:i<B.length),Js m (B.take (i+1))=(lF S B[i]:Int)-lT S B[i]:=by
 have mem:∀k,k∈FE m->∃j,∃hj:j<B.length,B[j]=k:=fun k hk=>by
  have:=hB.perm.mem_iff.2 hk
  obtain⟨j,hj,e⟩:=Ck.1 this;exact⟨j,hj,e⟩
 have lt:∀i j (hi:i<B.length) (hj:j<B.length),i<j->B[i]<B[j]:=fun i j hi hj Qs=>(AY.1 hB.srt) i j hi hj Qs;intro i
 induction i with
 |zero=>
  intro hi;rw[Sh m B 0 hi,h.val]
  have:Js m (B.take 0)=0:=by simp[Js]
  rw[this];have low:∀k∈FE m,B[0]<=k:=fun k hk=>by
   obtain⟨j,hj,rfl⟩:=mem k hk;cases j with
   |zero=>exact Bu _
   |succ j=>have:=lt 0 (j+1) hi hj ch;omega
  have e1:lF S B[0]=cF S B[0]:=by
   unfold lF cF;apply Ss;intro x hx
   have:=low _ (h.keys.2.2 x hx).1
   simp only[AC];omega
  have e2:lT S B[0]=cT S B[0]:=by
   unfold lT cT;apply Ss;intro x hx
   have:=low _ (h.keys.2.2 x hx).2
   simp only[AC];omega
  rw[e1,e2];omega
 |succ i ih=>
  intro hi;rw[Sh m B (i+1) hi,ih ch,h.val];have nb:∀k∈FE m,k<=B[i+1]↔k<=B[i]\/k=B[i+1]:=fun k hk=>by
   obtain⟨j,hj,rfl⟩:=mem k hk;have l0:=lt i (i+1) ch hi ch;rcases Nat.lt_trichotomy j (i+1)with c | c | c
   .have:B[j]<=B[i]:=by
     rcases D1 j i with d | d
     .have:=lt j i hj ch d;omega
     .have:j=i:=by omega
      subst this;exact Bu _
    omega
   .subst c;omega
   .have:=lt (i+1) j hi hj c;omega
  have l0:=lt i (i+1) ch hi ch;have e1:lF S B[i+1]=lF S B[i]+cF S B[i+1]:=by
   unfold lF cF;apply JS;intro x hx
   have:=nb _ (h.keys.2.2 x hx).1
   simp only[AC];omega
  have e2:lT S B[i+1]=lT S B[i]+cT S B[i+1]:=by
   unfold lT cT;apply JS;intro x hx
   have:=nb _ (h.keys.2.2 x hx).2
   simp only[AC];omega
  rw[e1,e2];omega
theorem ai{S:By}(hS:∀x∈S,x.1<x.2)(p:Int):(lF S p:Int)-lT S p=(S.countP (BY p):Nat):=by
 have:lF S p=S.countP (BY p)+lT S p:=by
  unfold lF lT;apply JS;intro x hx
  have:=hS x hx
  simp only[BY,Af,AC];omega
 omega
theorem PW:∀{l:By} {lo:Int} (p:Int),Fj lo l->l.countP (BY p)=if l.any (BY p)then 1 else 0
 | [],_,_,_=>rfl
 |y::r,lo,p,⟨h1,h2,h3,h4⟩=>by
  rw[Jx,PW p h4,Cj];cases hy:BY p y with
  |false=>rw[MX];simp
  |true=>
   have:=Eb.1 hy
   have:r.any (BY p)=false:=by
    rw[AM];intro hr;have:=NJ h4 hr;omega
   simp[this]
theorem M6:∀(l:List By) (p:Int),((l.map canon).flatten).countP (BY p)=kG l p
 | [],_=>rfl
 |s::l,p=>by
  rw[AK,BD,List.countP_append,M6 l p,PW p (Cz s),LF];unfold kG;rw[Jx];omega
def E0(keep:Nat->Bool)(m:List (Int×Int))(B:List Int):Nat->By
 |0=>[]
 |i+1=>E0 keep m B i++(match B[i]?,B[i+1]? with
  |some a,some b=>if keep (Js m (B.take (i+1))).toNat then [(a,b)]else []
  |_,_=>[])
theorem RI{keep:Nat->Bool}{m:List (Int×Int)}{B:List Int}{x:Int×Int}:∀{n:Nat},x∈E0 keep m B n↔∃i,i<n/\∃(h1:i<B.length) (h2:i+1<B.length),keep (Js m (B.take (i+1))).toNat=true/\x=(B[i],B[i+1])
 |0=>by simp[E0]
 |n+1=>by
  unfold E0;rw[AO,RI (n:=n)];constructor
  .rintro(⟨i,h1,h2⟩ | h)
   .exact⟨i,by omega,h2⟩
   .split at h
    .rename_i a b ha hb;obtain⟨h1,e1⟩:=Av.1 ha;obtain⟨h2,e2⟩:=Av.1 hb;split at h
     .rename_i hk;refine⟨n,by omega,h1,h2,hk,?_⟩;rw[Ar.1 h,e1,e2]
     .cases h
    .cases h
  .rintro⟨i,h1,h2,h3,h4,rfl⟩
   by_cases e:i=n
   .subst e;refine .inr ?_;rw[Az h2,Az h3];simp[h4]
   .exact .inl ⟨i,by omega,h2,h3,h4,rfl⟩
theorem PM{B:List Int}(hs:B.Pairwise fun a b=>a<b){p:Int}:∀(n:Nat) (h0:0<B.length) (hn:n<B.length),B[0]<=p->p<B[n]->∃i,∃(h1:i<B.length) (h2:i+1<B.length),B[i]<=p/\p<B[i+1]
 |0,h0,hn,h1,h2=>by omega
 |n+1,h0,hn,h1,h2=>by
  by_cases e:B[n]<=p
  .exact⟨n,by omega,hn,e,h2⟩
  .exact PM hs n h0 ch h1 ch
theorem m5{keep:Nat->Bool}{l:List By}{m:List (Int×Int)}(h:JE m (l.map canon).flatten)(hB:pK B m)(p:Int):has (E0 keep m B (B.length-1)) p=(MT p&&keep (kG l p)):=by
 have hS:∀x∈(l.map canon).flatten,x.1<x.2:=fun x hx=>by
  obtain⟨s,hs,hx⟩:=D8.1 hx;obtain⟨t,_,rfl⟩:=Ai.1 hs;exact((Cz t).low x hx).2.1
 have mem:∀k,k∈FE m->∃j,∃hj:j<B.length,B[j]=k:=fun k hk=>by
  obtain⟨j,hj,e⟩:=Ck.1 (hB.perm.mem_iff.2 hk);exact⟨j,hj,e⟩
 have lt:∀i j (hi:i<B.length) (hj:j<B.length),i<j->B[i]<B[j]:=fun i j hi hj Qs=>(AY.1 hB.srt) i j hi hj Qs;have rng:∀i (hi:i<B.length),0<=B[i]/\B[i]<=1000000:=fun i hi=>h.rng _ (hB.perm.mem_iff.1 (Aq hi))
 -- Yx two bounds
 have Yx:∀i (h1:i<B.length) (h2:i+1<B.length),B[i]<=p->p<B[i+1]->(Js m (B.take (i+1))).toNat=kG l p:=fun i h1 h2 a b=>by
  have same:∀k∈FE m,k<=B[i]↔k<=p:=fun k hk=>by
   obtain⟨j,hj,rfl⟩:=mem k hk;constructor
   .intro c;omega
   .intro c;rcases D1 i j with d | d
    .rcases D1 (i+1) j with f | f
     .have:=lt (i+1) j h2 hj f;omega
     .have:j=i+1:=by omega
      subst this;omega
    .rcases D1 j i with f | f
     .have:=lt j i hj h1 f;omega
     .have:j=i:=by omega
      subst this;exact Bu _
  have e1:lF (l.map canon).flatten B[i]=lF (l.map canon).flatten p:=by
   unfold lF;apply Ss;intro x hx
   have:=same _ (h.keys.2.2 x hx).1
   simp only[AC];exact this
  have e2:lT (l.map canon).flatten B[i]=lT (l.map canon).flatten p:=by
   unfold lT;apply Ss;intro x hx
   have:=same _ (h.keys.2.2 x hx).2
   simp only[AC];exact this
  rw[gL h hB i h1,e1,e2,ai hS,M6];simp
 rw[B3];constructor
 .intro hh;have px:=Nk hh;unfold has at hh;simp only[px,decide_true,Fb]at hh;obtain⟨x,hx,hp⟩:=Be.1 hh;obtain⟨i,_,h1,h2,hk,rfl⟩:=RI.1 hx
  have:=Eb.1 hp
  dsimp only at this;rw[<-Yx i h1 h2 this.1 this.2];simp[MT,px,hk]
 .intro hh;simp only[Af,MT,AC]at hh;obtain⟨⟨p0,p1⟩,hk⟩:=hh;obtain⟨j0,hj0,e0⟩:=mem 0 h.keys.1;obtain⟨j1,hj1,e1⟩:=mem 1000000 h.keys.2.1;have hb0:B[0]' ch<=p:=by
   have:B[0]' ch<=0:=by
    cases j0 with
    |zero=>omega
    |succ j=>have:=lt 0 (j+1) ch hj0 ch;omega
   omega
  obtain⟨i,h1,h2,a,b⟩:=PM hB.srt j1 ch hj1 hb0 ch;unfold has;simp only[p0,p1,decide_true,Fb];exact Be.2 ⟨(B[i],B[i+1]),RI.2 ⟨i,by omega,h1,h2,by rw[Yx i h1 h2 a b];exact hk,rfl⟩,Eb.2 ⟨a,b⟩⟩
theorem oD{l:List By}{m:List (Int×Int)}(h:JE m (l.map canon).flatten)(hB:pK B m)(i:Nat)(hi:i<B.length):0<=Js m (B.take (i+1))/\Js m (B.take (i+1))<=l.length:=by
 have hS:∀x∈(l.map canon).flatten,x.1<x.2:=fun x hx=>by
  obtain⟨s,hs,hx⟩:=D8.1 hx;obtain⟨t,_,rfl⟩:=Ai.1 hs;exact((Cz t).low x hx).2.1
 rw[gL h hB i hi,ai hS,M6]
 have:kG l B[i]<=l.length:=List.countP_le_length
 omega
def Zh(m:List Tm)(t:Tm):List Tm:=if m.any (fun u=>decide (u.path=t.path))then m.map (fun u=>if u.path=t.path then t else u)else m++[t]
def Ti(m:List Tm)(t:Tm):List Tm:=Zh m (Pl (DG m t.path) t)
def DQ:List Tm:=l.foldl Ti []
theorem iR(p:ByteArray):∀m:List Tm,DG (Zh m t) p=if t.path=p then some t else DG m p:=by
 intro m;unfold Zh
 by_cases h:(m.any fun u=>decide (u.path=t.path))=true
 .rw[Al h]
  induction m with
  |nil=>simp at h
  |cons u m ih=>
   rw[AK,Dg,Dg]
   by_cases e:u.path=t.path
   .rw[Al e]
    by_cases ep:t.path=p
    .simp[ep]
    .rw[Aj ep,Aj ep,Aj (fun c=>ep (e.symm.trans c))]
     by_cases hm:(m.any fun u=>decide (u.path=t.path))=true
     .rw[ih hm,Aj ep]
     .have:∀q∈m,q.path≠t.path:=fun q hq c=>hm (Be.2 ⟨q,hq,by simp[c]⟩)
      have:m.map (fun u=>if u.path=t.path then t else u)=m:=by
       conv=>rhs;rw[<-Gk m]
       exact Bi fun q hq=>by simp[this q hq]
      rw[this]
   .rw[Aj e];have hm:(m.any fun u=>decide (u.path=t.path))=true:=by simpa[e]using h
    rw[ih hm]
    by_cases ep:t.path=p
    .subst ep;simp[e]
    .simp[ep]
 .rw[Aj h];have hn:∀q∈m,q.path≠t.path:=fun q hq e=>h (Be.2 ⟨q,hq,by simp[e]⟩)
  clear h
  induction m with
  |nil=>rw[F1,Dg]
  |cons u m ih=>
   rw[Hx,Dg,Dg,ih fun q hq=>hn q (Ah _ hq)]
   have:=hn u (Ab ..)
   by_cases e:u.path=p
   .have:¬t.path=p:=fun c=>this (e.trans c.symm)
    simp[e,this]
   .simp[e]
def E2(m:List Tm):List ByteArray:=m.map (·.path)
open Classical in
theorem d5(m:List Tm)(t:Tm):E2 (Zh m t)=if t.path∈E2 m then E2 m else E2 m++[t.path]:=by
 unfold Zh E2;have e:(m.any fun u=>decide (u.path=t.path))=true↔t.path∈m.map (·.path):=by
  simp only[Be,AC,Ai]
 by_cases h:t.path∈m.map (·.path)
 .rw[Al (e.2 h),Al h,Bs];apply Bi;intro p _;simp only[Function.comp];split
  .rename_i e;exact e.symm
  .rfl
 .rw[Aj (fun c=>h (e.1 c)),Aj h,As];rfl
theorem jC{m:List Tm}(h:(E2 m).Nodup)(t:Tm):(E2 (Zh m t)).Nodup:=by
 rw[d5];split
 .exact h
 .rename_i hn;rw[FW];exact⟨h,by simp,fun a ha b hb e=>by subst e;rw[Ar.1 hb]at ha;exact hn ha⟩
theorem S0(h:i<l.length):DQ (l.take (i+1))=Ti (DQ (l.take i)) l[i]:=by
 unfold DQ;rw[Bj,Az h,Ef];rfl
theorem Ql:∀(l m:List Tm),(E2 m).Nodup->(E2 (l.foldl Ti m)).Nodup
 | [],_,h=>h
 |_::l,_,h=>Ql l _ (jC h _)
theorem IA:(E2 (DQ l)).Nodup:=Ql l [] .nil
theorem aF(m:List Tm)(t:Tm)(p:ByteArray):DG (Ti m t) p=K8 p (DG m p) t:=by
 unfold Ti K8;have hp:(Pl (DG m t.path) t).path=t.path:=RU _ _ fun u h=>HR h;rw[iR,hp]
 by_cases e:t.path=p
 .rw[Al e,Al e,e]
 .rw[Aj e,Aj e]
theorem Qh(p:ByteArray):∀(l m:List Tm),DG (l.foldl Ti m) p=l.foldl (K8 p) (DG m p)
 | [],_=>rfl
 |t::l,m=>by rw[Fq,Fq,Qh p l,aF]
theorem di(p:ByteArray):DG (DQ l) p=DG (Fy l) p:=by
 unfold DQ;rw[Qh,JV];rfl
theorem Nc{m:List Tm}(h:(E2 m).Nodup){t:Tm}:t∈m↔DG m t.path=some t:=by
 constructor
 .induction m with
  |nil=>intro h;cases h
  |cons u m ih=>
   intro ht;unfold E2 at h ih;rw[AK,Dm]at h;rw[Dg];rcases AA.1 ht with rfl | ht
   .rw[Al rfl]
   .have:¬u.path=t.path:=fun e=>h.1 (e▸Ai.2 ⟨t,ht,rfl⟩)
    rw[Aj this];exact ih h.2 ht
 .exact FH
theorem ID{m:List Tm}(h:(E2 m).Nodup):m.Nodup:=by
 unfold E2 at h
 induction m with
 |nil=>exact .nil
 |cons u m ih=>
  rw[AK,Dm]at h;exact Dm.2 ⟨fun hu=>h.1 (Ai.2 ⟨u,hu,rfl⟩),ih h.2⟩
theorem IJ{l:List Tm}{lo:Option ByteArray}(h:Cs lo l):(E2 l).Nodup:=by
 unfold E2
 induction l generalizing lo with
 |nil=>exact .nil
 |cons t l ih=>
  rw[AK,Dm];refine⟨fun hm=>?_,ih h.2.2⟩;obtain⟨u,hu,e⟩:=Ai.1 hm
  have:=h.2.2.low u hu
  rw[e,Dn]at this;cases this
theorem J7:t∈DQ l↔t∈Fy l:=by
 rw[Nc (IA l),di,<-Nc (IJ (EQ l))]
theorem QC:∀t∈DQ l,Fc t.set:=fun t ht=>(EQ l).canon t ((J7 l t).1 ht)
theorem kj(m:List Tm)(t:Tm):(Ti m t).length<=m.length+1:=by
 unfold Ti Zh;split<;>simp
theorem Pg:∀i,i<=l.length->(DQ (l.take i)).length<=i:=by
 intro i
 induction i with
 |zero=>intro _;simp[DQ]
 |succ i ih=>
  intro h;rw[S0 l i ch]
  have:=kj (DQ (l.take i)) l[i]
  have:=ih ch
  omega
theorem eJ(hs:s.Pairwise fun x y=>Ek x.path y.path=true)(hc:∀t∈s,Fc t.set):Cs none s:=by
 have:∀(s:List Tm) (lo:Option ByteArray),s.Pairwise (fun x y=>Ek x.path y.path=true)->(∀t∈s,Fc t.set)->(∀p,lo=some p->∀t∈s,Ek p t.path=true)->Cs lo s:=by
  intro s
  induction s with
  |nil=>intro _ _ _ _;trivial
  |cons t s ih=>
   intro lo hs hc hl;obtain⟨h1,h2⟩:=BR.1 hs;exact⟨fun p e=>hl p e t (Ab ..),hc t (Ab ..),ih _ h2 (fun u hu=>hc u (Ah _ hu)) fun p e u hu=>by cases e;exact h1 u hu⟩
 exact this s none hs hc fun _ e=>by cases e
theorem Ru{l:List Tm}(q:Tm->Bool)(hp:s.Perm ((DQ l).filter q))(hs:s.Pairwise fun x y=>Ek y.path x.path=false):s=(Fy l).filter q:=by
 have hm:∀t,t∈s↔t∈(Fy l).filter q:=fun t=>by
  rw[hp.mem_iff,Bz,Bz,J7]
 have Tu:(E2 s).Nodup:=by
  have h1:(E2 ((DQ l).filter q)).Nodup:=by
   unfold E2;exact List.Nodup.sublist (List.Sublist.map _ List.filter_sublist) (IA l)
  unfold E2 at h1⊢;exact(hp.map (·.path)).nodup_iff.2 h1
 have KL:s.Pairwise fun x y=>Ek x.path y.path=true:=by
  rw[AY]at hs⊢;intro i j hi hj Qs;cases hb:Ek s[i].path s[j].path with
  |true=>rfl
  |false=>
   have e:=Ir hb (hs i j hi hj Qs);unfold E2 at Tu
   have:=(AY.1 Tu) i j (by simpa using hi) (by simpa using hj) Qs
   simp at this;exact absurd e this
 have hss:Cs none s:=eJ KL fun t ht=>(EQ l).canon t (Bz.1 ((hm t).1 ht)).1;have pB:Cs none ((Fy l).filter q):=Cs.filter q (EQ l);refine ND hss pB fun p=>?_;cases h1:DG s p with
 |some t=>
  have:=(hm t).1 (FH h1)
  rw[F8 pB,HR h1]at this;exact this.symm
 |none=>
  cases h2:DG ((Fy l).filter q) p with
  |none=>rfl
  |some t=>
   have:=(hm t).2 (FH h2)
   rw[F8 hss,HR h2,h1]at this;cases this
theorem cQ:HB t t=MG t:=by unfold HB MG;rw[dK,Bool.and_self]
theorem gG(o:Option Tm)(t:Tm):Pl o t=HB (o.getD t) t:=by cases o with | none=>exact(cQ t).symm | some u=>rfl
theorem ig{t:Tm}(h:Fc t.set):(t.absent&&(E6 t.set).isEmpty)=Hd t:=by
 unfold Hd
 congr 1
 rw[B3,Hz,AC];have ha:Fc [(0,1000000)]:=⟨Bu _,by dsimp only;omega,Bu _,trivial⟩;constructor
 .intro e;refine Is h ha fun p=>?_
  have:=Ga t.set p
  rw[e]at this;have h0:has [] p=false:=by simp[has]
  rw[h0]at this;have h1:has [(0,1000000)] p=MT p:=by simp[has,MT,BY]
  rw[h1];cases hp:MT p with
  |true=>rw[hp]at this;simpa using this.symm
  |false=>
   rw[AM];intro hh
   have:=Nk hh
   simp[MT,this]at hp
 .intro e;rw[RN (H6 _)];intro p;rw[Ga,e];have h1:has [(0,1000000)] p=MT p:=by simp[has,MT,BY]
  rw[h1];simp
theorem ns{t:Tm}(h:Fc t.set):(!t.absent&&(canon t.set).isEmpty)=I1 t:=by unfold I1;rw[Kf h]
end Go.Eng
namespace Go.Eng
open Go.Lib
theorem Se(c:UInt8):∀(s:List UInt8) (k:Nat),s.count c<=k->splitK [c] 0 k s=FR c s
 | [],k,_=>by
  cases k with
  |zero=>rfl
  |succ k=>rfl
 |b::r,k,h=>by
  rw[FR]
  by_cases e:b=c
  .subst e;rw[List.count_cons_self]at h;obtain⟨k',rfl⟩:∃k',k=k'+1:=⟨k-1,by omega⟩;rw[Al rfl,splitK,index_one,indexByte];simp only[beq_self_eq_true,SP];rw[Aj Cl];show []::splitK [b] 0 k' r=_;rw[Se b r k' ch]
  .have DH:(b == c)=false:=by simpa using e
   rw[List.count_cons_of_ne (by simpa using e)]at h;have ih:=Se c r k h;rw[Aj e];cases k with
   |zero=>
    rw[<-ih];rfl
   |succ k=>
    rw[<-ih,splitK,splitK,index_one,index_one,indexByte,DH]
    by_cases h0:indexByte r c=-1
    .rw[h0];rfl
    .have h1:(indexByte r c == -1)=false:=by simpa using h0
     have h2:=indexByte_ge r c;have h3:(indexByte r c+1 == -1)=false:=by rw[beq_eq_false_iff_ne];omega
     simp only[Dp,GB,h1,h3];obtain⟨i,hi⟩:∃i:Nat,indexByte r c=i:=⟨(indexByte r c).toNat,by omega⟩;rw[hi];show(b::r).take (((i:Int)+1).toNat+0)::_=(b::r.take ((i:Int).toNat+0))::_;rw[show((i:Int)+1).toNat=i+1 by omega,show((i:Nat):Int).toNat=i by omega]
     rfl
theorem ah(c:UInt8):∀(n:Nat) (s:List UInt8),s.length<=n->count s [c]=s.count c
 |n,s,hn=>by
  rcases Int.lt_or_le (indexByte s c) 0 with h | h
  .have h2:=indexByte_ge s c;have h3:indexByte s c=-1:=by omega
   rw[count_miss (by rw[index_one];exact h3)]
   symm
   rw[List.count_eq_zero];intro hm;obtain⟨k,hk,e⟩:=JP hm;exact indexByte_none h3 k (by rw[Az hk,e])
  .obtain⟨i,hi⟩:∃i:Nat,indexByte s c=i:=⟨(indexByte s c).toNat,by omega⟩;obtain⟨h1,h2⟩:=indexByte_some hi;obtain⟨hl,hg⟩:=Av.1 h1;cases n with
   |zero=>omega
   |succ n=>
    have hc:=count_hit (s:=s) (sub:=[c]) (i:=i) B0 (by rw[index_one];exact hi);rw[hc];have ih:=ah c n (s.drop (i+1)) (by rw[CK];omega);have y6:s=s.take i++c::s.drop (i+1):=by
     rw[<-hg,<-AH hl,GF]
    have h0:(s.take i).count c=0:=by
     rw[List.count_eq_zero];intro hm;obtain⟨k,hk,e⟩:=JP hm;rw[Au]at hk;rw[GU]at e;exact h2 k ch (by rw[Az ch,e])
    conv=>rhs;rw[y6]
    rw[List.count_append,h0,List.count_cons_self];show 1+count (s.drop (i+1)) [c]=_;rw[ih];omega
theorem kf(s:ByteArray)(c:UInt8):((splitB ⟨#[c]⟩ 0 (countB s ⟨#[c]⟩) s).map (·.data.toList))=FR c s.data.toList:=by
 rw[splitB_data];refine Se c _ _ ?_;show _<=count s.data.toList [c];rw[ah c _ _ (Ak _)];exact Ak _
end Go.Eng
namespace Go.Eng
variable {U:List ByteArray}{d:List (List Tm)}{l t c:List Tm}{i:Nf}{k:Nat}(x:List Rl)(p:ByteArray)(roots:List Rq)
theorem RO{α:Type}:∀{l m:List α},l.Nodup->(∀x∈l,x∈m)->l.length<=m.length
 | [],_,_,_=>Ax _
 |a::l,m,hn,hs=>by
  obtain⟨h1,h2⟩:=Dm.1 hn;obtain⟨s,t,rfl⟩:=List.append_of_mem (hs a (Ab ..))
  have:l.length<=(s++t).length:=RO h2 fun x hx=>by
   rcases AO.1 (hs x (Ah _ hx))with h | h
   .exact BE _ h
   .rcases AA.1 h with rfl | h
    .exact absurd hx h1
    .exact Bx _ h
  simp only[Ac,Ag]at this⊢;omega
theorem MI(p:ByteArray):∀(l:List Tm) (o:Option Tm),(∀u∈l,u.path≠p)->l.foldl (K8 p) o=o
 | [],_,_=>rfl
 |t::l,o,h=>by
  rw[Fq,show K8 p o t=o by unfold K8;rw[Aj (h t (Ab ..))]];exact MI p l o fun u hu=>h u (Ah _ hu)
theorem dS{t:Tm}(h:t∈Fy l):∃u∈l,u.path=t.path:=by
 apply AJ;intro hn
 have:∀u∈l,u.path≠t.path:=fun u hu e=>hn ⟨u,hu,e⟩
 have h1:=(F8 (EQ l)).1 h;rw[JV,MI _ _ _ this]at h1;cases h1
def WS(U:List ByteArray)(t:List Tm):Prop:=Cs none t/\∀u∈t,u.path∈U
theorem WS.len(h:WS U t):t.length<=U.length:=by
 have:=RO (IJ h.1) (m:=U) fun p hp=>by
  obtain⟨u,hu,rfl⟩:=Ai.1 hp;exact h.2 u hu
 unfold E2 at this
 rwa [A8]at this
theorem cR(h:Dh l=some c){t:Tm}(ht:t∈c):t∈Fy l:=by
 unfold Dh at h;split at h
 .cases h
 .cases h;exact(Bz.1 ht).1
theorem Rt(h:Dh l=some c)(hu:∀u∈l,u.path∈U):WS U c:=
 ⟨Fr h,fun t ht=>by
  obtain⟨u,h1,h2⟩:=dS (cR h ht);rw[<-h2];exact hu u h1⟩
theorem WS.nil(U:List ByteArray):WS U []:=⟨trivial,fun u hu=>by cases hu⟩
theorem VB(hu:∀u∈l,u.path∈U):WS U (RQ l):=by
 unfold RQ;cases h:Dh l with
 |none=>exact .nil U
 |some c=>exact Rt h hu
theorem Tg{a b:List Tm}{p:ByteArray}(ha:WS U a)(hb:WS U b):WS U (BZ a b p).1:=by
 have sp:∀{l r:List Tm} {t:Tm},WS U l->FS l p=some (t,r)->t.path∈U/\∀u∈r,u.path∈U:=by
  intro l r t hl h;unfold FS at h;cases e:Dh l with
  |none=>rw[e]at h;cases h
  |some c=>
   rw[e]at h;have h:(match DG c p with | none=>none | some t=>some (t,Gg c p))=some (t,r):=h;have hc:=Rt e hl.2;cases e2:DG c p with
   |none=>rw[e2]at h;cases h
   |some u=>
    rw[e2]at h;cases h;exact⟨hc.2 _ (FH e2),fun u hu=>hc.2 u (Bz.1 hu).1⟩
 unfold BZ;split
 .rename_i t r u m e1 e2;obtain⟨a1,a2⟩:=sp ha e1;obtain⟨b1,b2⟩:=sp hb e2;split
  .rename_i o e3;refine Rt e3 fun v hv=>?_;rcases AO.1 hv with hv | hv
   .rcases AO.1 hv with hv | hv
    .exact a2 v hv
    .exact b2 v hv
   .rw[Ar.1 hv];exact a1
  .exact .nil U
 .exact .nil U
def Lo(l:List Nf):List ByteArray:=(x.map (·.path))++((x.map (·.reqs)).flatten.map (·.path)++(roots.map (·.path)++l.map (·.path)))
theorem jk{x:List Rl}{roots:List Rq}{l:List Nf}(hi:i∈l)(hd:∀t∈d,WS (Lo x roots l) t)(h:En x roots d i=some t):WS (Lo x roots l) t:=by
 have hp:i.path∈Lo x roots l:=by
  unfold Lo;exact Bx _ (Bx _ (Bx _ (Ai.2 ⟨i,hi,rfl⟩)))
 have nz:∀{α:Type} {l:List α} {k:Int} {a:α},Ks l k=some a->a∈l:=by
  intro α l k a h;unfold Ks at h;split at h
  .cases h
  .exact Aw h
 have n0:∀{a b:List Tm},jv a=some b->b=a:=by
  intro a b h;unfold jv at h;split at h
  .cases h
  .cases h;rfl
 unfold En at h;split at h
 .split at h
  .cases e:Ks roots i.number with
   |none=>rw[e]at h;cases h
   |some q=>
    rw[e]at h;cases h;refine VB fun u hu=>?_;rw[Ar.1 hu];unfold Lo;exact Bx _ (Bx _ (BE _ (Ai.2 ⟨q,nz e,rfl⟩)))
  .cases h
 split at h
 .split at h
  .cases e:QR x i.path i.place with
   |none=>rw[e]at h;cases h
   |some r=>
    rw[e]at h;have h:(match Ks r.reqs i.number with | none=>none | some q=>jv (EL i.path i.place q))=some t:=h;cases e2:Ks r.reqs i.number with
    |none=>rw[e2]at h;cases h
    |some q=>
     rw[e2]at h;have h:=n0 (show jv (EL i.path i.place q)=some t from h);subst h;refine VB fun u hu=>?_;rcases AA.1 hu with rfl | hu
     .exact hp
     .rw[Ar.1 hu];unfold Lo;refine Bx _ (BE _ (Ai.2 ⟨q,?_,rfl⟩));exact D8.2 ⟨r.reqs,Ai.2 ⟨r,BG e,rfl⟩,nz e2⟩
  .cases h
 split at h
 .split at h
  .have h:=n0 h;subst h;refine VB fun u hu=>?_;rw[Ar.1 hu];exact hp
  .cases h
 split at h
 .split at h
  .cases e:Ks d i.left with
   |none=>rw[e]at h;cases h
   |some a=>
    cases e2:Ks d i.right with
    |none=>rw[e,e2]at h;cases h
    |some b=>
     rw[e,e2]at h;have h:(if(BZ a b i.path).2=0 then some (BZ a b i.path).1 else none)=some t:=h;split at h
     .cases h;exact Tg (hd a (nz e)) (hd b (nz e2))
     .cases h
  .cases h
 .cases h
structure Cd where
 place:Int
 rel:Rl
structure Nd where
 rq:Rq
 path:ByteArray
 place:Int
 number:Int
variable (n:Nd)
structure SS where
 infs:List Nf
 drv:List (List Tm)
 full:Bool
variable {s':SS}(s:SS)
abbrev Vf(c:Cd):Sl:=⟨c.rel.path,c.rel.ver⟩
abbrev AR(l:List Cd):List Sl:=l.map Vf
def CC:List Cd:=(x.filter fun r=>decide (r.path=p)&&!r.yanked).map fun r=>⟨plc r.ver,r⟩
def Nu(f:Rq->Nat->Nd):Nat->List Rq->List Nd
 |_,[]=>[]
 |i,q::l=>f q i::Nu f (i+1) l
def bV:List Nd:=Nu (fun q i=>⟨q,mt,0,i⟩) 0 roots
def RW(c:Cd):List Nd:=Nu (fun q i=>⟨q,c.rel.path,c.place,i⟩) 0 c.rel.reqs
def DR(dec:List Cd):List Nd:=bV roots++(dec.map RW).flatten
def DU(dec:List Cd)(p:ByteArray):Bool:=dec.any fun c=>decide (c.rel.path=p)
def EK(dec:List Cd)(a:ByteArray×List Nd)(n:Nd):ByteArray×List Nd:=
 if DU dec n.rq.path=true\/(a.2≠[]/\Ek a.1 n.rq.path=true)then a
 else if a.2≠[]/\Ek n.rq.path a.1=true then(n.rq.path,[n])else(n.rq.path,a.2++[n])
def Ho(dec:List Cd):ByteArray×List Nd:=(DR roots dec).foldl (EK dec) (mt,[])
def gg(l:List Cd)(n:Nd):Bool:=l.any fun d=>decide (d.rel.path=n.rq.path)&&!has n.rq.set d.place
def ED(dec:List Cd)(c:Cd):Option Nd:=(RW c).find? (gg (dec++[c]))
def PZ(s:List Sl):Nat->List (List Tm)->Option Nat
 |_,[]=>none
 |i,t::l=>if Di t s then some i else PZ s (i+1) l
def P0(d:List (List Tm))(s:List Sl):Option Nat:=PZ s 0 d
def Eh(l:List Tm)(p:ByteArray):Bool:=l.any fun t=>decide (t.path=p)
instance:DecidableEq Nf:=fun a b=>by
 obtain⟨a1,a2,a3,a4,a5,a6⟩:=a;obtain⟨b1,b2,b3,b4,b5,b6⟩:=b;exact decidable_of_iff (a1=b1/\a2=b2/\a3=b3/\a4=b4/\a5=b5/\a6=b6) ⟨fun⟨h1,h2,h3,h4,h5,h6⟩=>by subst h1 h2 h3 h4 h5 h6;rfl,fun h=>by cases h;exact⟨rfl,rfl,rfl,rfl,rfl,rfl⟩⟩
def MV(i:Nf):Nat->List Nf->Option Nat
 |_,[]=>none
 |k,j::l=>if j=i then some k else MV i (k+1) l
def Fk(i:Nf)(l:List Tm):Nat×SS:=
 match MV i 0 s.infs with
 |some k=>(k,s)
 |none=>if 65536<=s.infs.length then(s.infs.length-1,⟨s.infs,s.drv,true⟩)else(s.infs.length,⟨s.infs++[i],s.drv++[l],s.full⟩)
def Vb:Nf:=if n.path=mt then⟨0,mt,0,n.number,0,0⟩else⟨1,n.path,n.place,n.number,0,0⟩
def JY:List Tm:=if n.path=mt then Kw n.rq else EL n.path n.place n.rq
def BX(n:Nd):Nat×SS:=Fk s (Vb n) (JY n)
abbrev EW(k:Nat):List Tm:=s.drv.getD k []
def CD(p:ByteArray):List Nat->Nat->SS->Nat×SS
 | [],k,s=>(k,s)
 |r::l,k,s=>
  if s.full=true\/Eh (EW s k) p=false then(k,s)
  else if r=k then CD p l k s
  else if(BZ (EW s k) (EW s r) p).2≠0 then CD p l k s
  else CD p l (Fk s ⟨3,p,0,0,k,r⟩ (BZ (EW s k) (EW s r) p).1).1 (Fk s ⟨3,p,0,0,k,r⟩ (BZ (EW s k) (EW s r) p).1).2
def E1:Nat×SS:=Fk s ⟨2,p,0,0,0,0⟩ (IR p (Cn x p))
def Es(Gv:List Nat)(s:SS):Nat×SS:=
 CD p ((E1 x p (BX s n).2).1::Gv) (BX s n).1 (E1 x p (BX s n).2).2
structure La where
 res:Nat
 found:Bool
 ss:SS
 dec:List Cd
 stack:List (List Sk)
def EJ(rec:List Cd->SS->List (List Sk)->La)(x:List Rl)(p:ByteArray)(needs:List Nd)(n0:Nd)(dec:List Cd)(stack:List (List Sk)):List Cd->SS->List Nat->List Sk->La
 | [],s,Gv,_=>⟨(Es x p n0 Gv s).1,false,(Es x p n0 Gv s).2,dec,stack⟩
 |c::cs,s,Gv,skips=>
  let after (k:Nat) (s:SS):La:=if Eh (EW s k) p=false then⟨k,false,s,dec,stack⟩else EJ rec x p needs n0 dec stack cs s (Gv++[k]) (skips++[⟨p,c.place,k⟩])
  if s.full=true then⟨0,false,s,dec,stack⟩
  else match needs.find? fun n=>!has n.rq.set c.place with
   |some n=>EJ rec x p needs n0 dec stack cs (BX s n).2 (Gv++[(BX s n).1]) skips
   |none=>match P0 s.drv (AR (dec++[c]))with
    |some k=>after k s
    |none=>match ED dec c with
     |some n=>after (BX s n).1 (BX s n).2
     |none=>
      let o:=rec (dec++[c]) s (stack++[skips])
      if o.found=true then⟨0,true,o.ss,o.dec,o.stack⟩
      else if o.ss.full=true then⟨0,false,o.ss,dec,stack⟩
      else after o.res o.ss
def DF(x:List Rl)(roots:List Rq):Nat->List Cd->SS->List (List Sk)->La
 |0,dec,s,stack=>⟨0,false,s,dec,stack⟩
 |n+1,dec,s,stack=>match(Ho roots dec).2 with
  | []=>⟨0,true,s,dec,stack⟩
  |n0::l=>EJ (DF x roots n) x (Ho roots dec).1 (n0::l) n0 dec stack (CC x (Ho roots dec).1) s [] []
abbrev ss0:SS:=⟨[],[],false⟩
def SH(dec:List Cd):Nat:=(x.filter fun r=>!r.yanked&&!DU dec r.path).length
def EM:La:=DF x roots (x.length+1) [] ss0 []
theorem QJ(f:Rq->Nat->Nd):∀(l:List Rq) (i k:Nat),(Nu f i l)[k]?=(l[k]?).map fun q=>f q (i+k)
 | [],i,k=>by simp[Nu]
 |q::l,i,0=>by simp[Nu]
 |q::l,i,k+1=>by
  have h:=QJ f l (i+1) k;simp only[Nu,Hy,h];rw[show i+1+k=i+(k+1) by omega]
theorem LV(f:Rq->Nat->Nd):∀(l:List Rq) (i:Nat),(Nu f i l).length=l.length
 | [],_=>rfl
 |_::l,i=>by simp[Nu,LV f l (i+1)]
theorem bE{f:Rq->Nat->Nd}{l:List Rq}{n:Nd}(h:n∈Nu f 0 l):∃k q,l[k]?=some q/\n=f q k:=by
 obtain⟨k,hk⟩:=Cp.1 h;rw[QJ,AS]at hk;obtain⟨q,h1,h2⟩:=hk;exact⟨k,q,h1,by rw[<-h2,Bg]⟩
theorem TT{f:Rq->Nat->Nd}(hf:∀q i,(f q i).rq=q):∀(l:List Rq) (i:Nat),(Nu f i l).map (·.rq)=l
 | [],_=>rfl
 |q::l,i=>by simp[Nu,hf,TT hf l (i+1)]
abbrev IG(dec:List Cd):List Rq:=roots++(dec.map fun c=>c.rel.reqs).flatten
theorem NZ(dec:List Cd):(DR roots dec).map (·.rq)=IG roots dec:=by
 unfold DR bV;rw[As,TT (fun _ _=>rfl),T9,Bs]
 congr 2
 exact Bi fun c _=>TT (fun _ _=>rfl) _ _
theorem Gt(dec:List Cd)(p:ByteArray):Db (AR dec) p=DU dec p:=by
 unfold Db DU AR;rw[List.any_map];rfl
theorem Kr(before:List Sl):∀{l:List Rq} {a p:ByteArray},DS before l (some a)=some p->p=a\/Ek p a=true
 | [],a,p,h=>by cases h;exact .inl rfl
 |q::l,a,p,h=>by
  unfold DS at h;split at h
  .exact Kr before h
  .dsimp only at h;split at h
   .rename_i hb;rcases Kr before h with e | e
    .exact .inr (by rw[e];exact hb)
    .exact .inr (Ed e hb)
   .exact Kr before h
theorem Jp(before:List Sl):∀{l:List Rq} {a:ByteArray},DS before l (some a)≠none
 | [],a=>by simp[DS]
 |q::l,a=>by
  unfold DS;split
  .exact Jp before
  .dsimp only;split<;>exact Jp before
theorem Qg{n:Nd}{p:ByteArray}(e:n.rq.path≠p)(L:List Nd):((n::L).filter fun n=>decide (n.rq.path=p))=L.filter fun n=>decide (n.rq.path=p):=by rw[Ep,Aj (by simpa using e)]
theorem YP{n:Nd}{p:ByteArray}(e:n.rq.path=p)(L:List Nd):((n::L).filter fun n=>decide (n.rq.path=p))=n::L.filter fun n=>decide (n.rq.path=p):=by rw[Ep,Al (by simpa using e)]
theorem N1(dec:List Cd):∀(L:List Nd) (a:ByteArray×List Nd),(a.2≠[]->DU dec a.1=false) ->
  L.foldl (EK dec) a=match DS (AR dec) (L.map (·.rq)) (if a.2=[]then none else some a.1)with
   |none=>a
   |some p=>(p,(if a.2≠[]/\a.1=p then a.2 else [])++L.filter fun n=>decide (n.rq.path=p))
 | [],a,h=>by
  obtain⟨p,o⟩:=a;cases o with
  |nil=>simp[DS]
  |cons n o=>simp[DS]
 |n::L,a,h=>by
  obtain⟨p0,o⟩:=a;rw[Fq,AK];have y7:∀(acc:Option ByteArray) (l:List Rq),(∀p,acc=some p->DU dec p=false)->∀p,DS (AR dec) l acc=some p->DU dec p=false:=fun acc l ha p hp=>by
   have:=((K4 (AR dec) (l:=l) (acc:=acc) (fun p e=>by rw[Gt];exact ha p e)).1 p hp).1
   rw[Gt]at this;exact this
  cases hd:DU dec n.rq.path with
  |true=>
   have e1:EK dec (p0,o) n=(p0,o):=by unfold EK;rw[Al (.inl hd)]
   have e2:DS (AR dec) (n.rq::L.map (·.rq)) (if o=[]then none else some p0)=DS (AR dec) (L.map (·.rq)) (if o=[]then none else some p0):=by
    conv=>lhs;unfold DS
    rw[Al (by rw[Gt];exact hd)]
   rw[e1,e2,N1 dec L (p0,o) h];dsimp only;cases hg:DS (AR dec) (L.map (·.rq)) (if o=[]then none else some p0)with
   |none=>rfl
   |some p=>
    dsimp only;have hp:=y7 _ _ (fun q e=>by
     split at e
     .cases e
     .rename_i ho;cases e;exact h ho) p hg
    have DH:n.rq.path≠p:=fun e=>by rw[e,hp]at hd;cases hd
    rw[Qg DH]
  |false=>
   have Tu:Db (AR dec) n.rq.path=false:=by rw[Gt];exact hd
   by_cases ho:o=[]
   .subst ho;have e1:EK dec (p0,[]) n=(n.rq.path,[n]):=by
     unfold EK;rw[Aj (by simp[hd]),Aj B0];rfl
    have e2:DS (AR dec) (n.rq::L.map (·.rq)) none=DS (AR dec) (L.map (·.rq)) (some n.rq.path):=by
     conv=>lhs;unfold DS
     rw[Aj (by rw[Tu];decide)]
    rw[e1,N1 dec L (n.rq.path,[n]) (fun _=>hd),Al rfl,e2];rw[Aj B0];cases hg:DS (AR dec) (L.map (·.rq)) (some n.rq.path)with
    |none=>exact absurd hg (Jp _)
    |some p=>
     dsimp only;rw[Aj (show ¬(([]:List Nd)≠[]/\p0=p)from fun h=>h.1 rfl)]
     by_cases e:n.rq.path=p
     .rw[YP e,Al ⟨by simp,e⟩];rfl
     .rw[Qg e,Aj (fun h=>e h.2)]
   .have hif:(if o=[]then none else some p0)=some p0:=Aj ho;rw[hif];cases hb:Ek p0 n.rq.path with
    |true=>
     have e1:EK dec (p0,o) n=(p0,o):=by unfold EK;rw[Al (.inr ⟨ho,hb⟩)]
     have Ri:Ek n.rq.path p0=false:=NL hb;have e2:DS (AR dec) (n.rq::L.map (·.rq)) (some p0)=DS (AR dec) (L.map (·.rq)) (some p0):=by
      conv=>lhs;unfold DS
      rw[Aj (by rw[Tu];decide)];dsimp only;rw[Aj (by rw[Ri];decide)]
     rw[e1,e2,N1 dec L (p0,o) h];dsimp only;rw[hif];cases hg:DS (AR dec) (L.map (·.rq)) (some p0)with
     |none=>rfl
     |some p=>
      dsimp only;have DH:n.rq.path≠p:=fun e=>by
       rcases Kr _ hg with e3 | e3
       .rw[e,e3,Dn]at hb;cases hb
       .rw[e,NL e3]at hb;cases hb
      rw[Qg DH]
    |false=>
     cases Ri:Ek n.rq.path p0 with
     |true=>
      have e1:EK dec (p0,o) n=(n.rq.path,[n]):=by
       unfold EK;rw[Aj (by simp[hd,hb]),Al ⟨ho,Ri⟩]
      have e2:DS (AR dec) (n.rq::L.map (·.rq)) (some p0)=DS (AR dec) (L.map (·.rq)) (some n.rq.path):=by
       conv=>lhs;unfold DS
       rw[Aj (by rw[Tu];decide)];dsimp only;rw[Al Ri]
      rw[e1,e2,N1 dec L (n.rq.path,[n]) (fun _=>hd),Aj B0];cases hg:DS (AR dec) (L.map (·.rq)) (some n.rq.path)with
      |none=>exact absurd hg (Jp _)
      |some p=>
       dsimp only;have DH:p0≠p:=fun e=>by
        rcases Kr _ hg with e3 | e3
        .rw[e,e3,Dn]at Ri;cases Ri
        .rw[e]at Ri;rw[NL e3]at Ri;cases Ri
       rw[Aj (show ¬(o≠[]/\p0=p)from fun h=>DH h.2)]
       by_cases e:n.rq.path=p
       .rw[YP e,Al ⟨by simp,e⟩];rfl
       .rw[Qg e,Aj (fun h=>e h.2)]
     |false=>
      have e0:n.rq.path=p0:=Ir Ri hb;have e1:EK dec (p0,o) n=(p0,o++[n]):=by
       unfold EK;rw[Aj (by simp[hd,hb]),Aj (by simp[Ri]),e0]
      have e2:DS (AR dec) (n.rq::L.map (·.rq)) (some p0)=DS (AR dec) (L.map (·.rq)) (some p0):=by
       conv=>lhs;unfold DS
       rw[Aj (by rw[Tu];decide)];dsimp only;rw[Aj (by rw[Ri];decide)]
      rw[e1,e2,N1 dec L (p0,o++[n]) (fun _=>by rw[<-e0];exact hd),Aj B0];cases hg:DS (AR dec) (L.map (·.rq)) (some p0)with
      |none=>exact absurd hg (Jp _)
      |some p=>
       dsimp only
       by_cases e:p0=p
       .rw[YP (e0.trans e),Al ⟨by simp,e⟩,Al ⟨ho,e⟩,BA];rfl
       .rw[Qg (fun h=>e (e0.symm.trans h)),Aj (fun h=>e h.2),Aj (fun h=>e h.2)]
theorem Vs(dec:List Cd):Ho roots dec=match LQ (IG roots dec) (AR dec)with
  |none=>(mt,[])
  |some p=>(p,(DR roots dec).filter fun n=>decide (n.rq.path=p)):=by
 unfold Ho LQ;rw[N1 dec _ (mt,[]) (fun h=>absurd rfl h),Al rfl,NZ];cases DS (AR dec) (IG roots dec) none with
 |none=>rfl
 |some p=>dsimp only;rw[Aj B0];rfl
theorem Vt{roots:List Rq}{dec:List Cd}:(Ho roots dec).2=[]↔LQ (IG roots dec) (AR dec)=none:=by
 rw[Vs];cases h:LQ (IG roots dec) (AR dec)with
 |none=>simp
 |some p=>
  simp only[reduceCtorEq,iff_false];obtain⟨_,q,hq,e⟩:=Vu h;rw[<-NZ]at hq;obtain⟨n,hn,rfl⟩:=Ai.1 hq;exact List.ne_nil_of_mem (Bz.2 ⟨hn,by simpa using e⟩)
structure wG(roots:List Rq)(dec:List Cd)(p:ByteArray)(l:List Nd):Prop where
 next:LQ (IG roots dec) (AR dec)=some p
 undone:DU dec p=false
 mem:∀n,n∈l↔n∈DR roots dec/\n.rq.path=p
theorem Pk{roots:List Rq}{dec:List Cd}{n0:Nd}{l:List Nd}(h:(Ho roots dec).2=n0::l):wG roots dec (Ho roots dec).1 (n0::l):=by
 rw[<-h];rw[Vs]at *
 cases hp:LQ (IG roots dec) (AR dec)with
 |none=>rw[hp]at h;cases h
 |some p=>
  dsimp only;refine⟨hp,by rw[<-Gt];exact(Vu hp).1,fun n=>?_⟩;rw[Bz];simp
theorem Ma{x:List Rl}{p:ByteArray}{c:Cd}:c∈CC x p↔∃r∈x,r.path=p/\r.yanked=false/\c=⟨plc r.ver,r⟩:=by
 unfold CC;simp only[Ai,Bz,Af,AC,CH];constructor
 .rintro⟨r,⟨h1,h2,h3⟩,rfl⟩;exact⟨r,h1,h2,h3,rfl⟩
 .rintro⟨r,h1,h2,h3,rfl⟩;exact⟨r,⟨h1,h2,h3⟩,rfl⟩
theorem N7{i:Nf}:∀{l:List Nf} {k m:Nat},MV i k l=some m->∃j,m=k+j/\l[j]?=some i
 | [],_,_,h=>by cases h
 |y::l,k,m,h=>by
  unfold MV at h;split at h
  .rename_i e;cases h;exact⟨0,rfl,by rw[<-e];rfl⟩
  .obtain⟨j,h1,h2⟩:=N7 h;exact⟨j+1,by omega,h2⟩
theorem RT{i:Nf}:∀{l:List Nf} {k:Nat},MV i k l=none->i∉l
 | [],_,_=>by simp
 |y::l,k,h=>by
  unfold MV at h;split at h
  .cases h
  .rename_i e
   have:=RT h
   simp only[AA,not_or];exact⟨fun e'=>e e'.symm,this⟩
theorem Tc{α:Type}{d d' : List α}{i:Int}{a:α}(h:Ks d i=some a)(hp:d <+: d'):Ks d' i=some a:=by
 unfold Ks at *
 split at h
 .cases h
 .rename_i hi;rw[Aj hi];obtain⟨t,rfl⟩:=hp;rw[AZ (Av.1 h).1];exact h
theorem bc{x:List Rl}{roots:List Rq}{d':List (List Tm)}{o:List Tm}(h:En x roots d i=some o)(hp:d <+: d'):En x roots d' i=some o:=by
 unfold En at *
 split
 .rename_i e;rw[Al e]at h;exact h
 rename_i e0;rw[Aj e0]at h;split
 .rename_i e;rw[Al e]at h;exact h
 rename_i e1;rw[Aj e1]at h;split
 .rename_i e;rw[Al e]at h;exact h
 rename_i e2;rw[Aj e2]at h;split
 .rename_i e;rw[Al e]at h;split
  .rename_i e4;rw[Al e4]at h;cases ha:Ks d i.left with
   |none=>rw[ha]at h;cases h
   |some a=>
    cases hb:Ks d i.right with
    |none=>rw[ha,hb]at h;cases h
    |some b=>
     rw[ha,hb]at h;rw[Tc ha hp,Tc hb hp];exact h
  .rename_i e4;rw[Aj e4]at h;cases h
 .rename_i e;rw[Aj e]at h;cases h
structure FU(x:List Rl)(roots:List Rq)(s:SS):Prop where
 der:Dy x roots s.infs []=some s.drv
 len:s.infs.length<=65536
theorem FU.dlen{x:List Rl}{roots:List Rq}{s:SS}(h:FU x roots s):s.drv.length=s.infs.length:=by simpa using JT h.der
theorem FU.nil:FU x roots ss0:=⟨rfl,by simp⟩
theorem FU.at{x:List Rl}{roots:List Rq}{s:SS}(h:FU x roots s){k:Nat}{i:Nf}(hk:s.infs[k]?=some i):En x roots s.drv i=some (s.drv.getD k []):=by
 have h1:=On h.der (k+1);have h0:=On h.der k;have Du:=(Av.1 hk).1;rw[Bj,hk,HL,h0]at h1;have h1:Dy x roots [i] (s.drv.take k)=some (s.drv.take (k+1)):=h1;unfold Dy at h1;cases hi:En x roots (s.drv.take k) i with
 |none=>rw[hi]at h1;cases h1
 |some t=>
  rw[hi]at h1;have h1:some (s.drv.take k++[t])=some (s.drv.take (k+1)):=h1;have hd:k<s.drv.length:=by rw[h.dlen];exact Du
  have:t=s.drv[k]:=by
   have h2:=CO h1;rw[BM hd]at h2;exact List.singleton_inj.1 (List.append_cancel_left h2)
  rw[bc hi (List.take_prefix ..),this];simp[List.getD_eq_getElem?_getD,hd]
structure Grow(s s' : SS):Prop where
 pre:s.drv <+: s'.drv
 preI:s.infs <+: s'.infs
 full:s.full=true->s'.full=true
theorem Grow.refl:Grow s s:=⟨Oa,Oa,id⟩
theorem Grow.trans{a b c:SS}(h:Grow a b)(k:Grow b c):Grow a c:=⟨h.pre.trans k.pre,h.preI.trans k.preI,fun e=>k.full (h.full e)⟩
theorem Grow.at{s:SS}(h:Grow s s')(hk:k<s.drv.length):EW s' k=EW s k:=by
 obtain⟨t,e⟩:=h.pre;unfold EW;rw[<-e,B9,B9,AZ hk]
theorem Grow.len{s:SS}(h:Grow s s'):s.drv.length<=s'.drv.length:=h.pre.length_le
theorem LD(i:Nf)(l:List Tm):Grow s (Fk s i l).2:=by
 unfold Fk;split
 .exact .refl s
 .split
  .exact⟨Oa,Oa,fun _=>rfl⟩
  .exact⟨PD ..,PD ..,id⟩
theorem LC{x:List Rl}{roots:List Rq}{s:SS}(h:FU x roots s)(hi:En x roots s.drv i=some l) :
  FU x roots (Fk s i l).2/\(Fk s i l).1<(Fk s i l).2.drv.length/\((Fk s i l).2.full=false->EW (Fk s i l).2 (Fk s i l).1=l):=by
 have hdl:=h.dlen;unfold Fk;split
 .rename_i k hk;obtain⟨j,e,hj⟩:=N7 hk
  have:k=j:=by omega
  subst this;have Du:=(Av.1 hj).1;refine⟨h,by show k<s.drv.length;omega,fun _=>?_⟩
  have:=h.at hj
  rw[hi]at this;exact(CO this).symm
 .rename_i hk;split
  .rename_i hf;exact⟨⟨h.der,h.len⟩,by show s.infs.length-1<s.drv.length;omega,fun e=>by cases e⟩
  .rename_i hf;refine⟨⟨?_,by show(s.infs++[i]).length<=65536;rw[Ac];simp;omega⟩,by show s.infs.length<(s.drv++[l]).length;rw[Ac];simp;omega,fun _=>?_⟩
   .show Dy x roots (s.infs++[i]) []=some (s.drv++[l]);rw[HL,h.der];show Dy x roots [i] s.drv=_;unfold Dy;rw[hi];rfl
   .show(s.drv++[l]).getD s.infs.length []=l;rw[<-hdl];simp[List.getD_eq_getElem?_getD]
theorem UD(S:List Sl):∀{l:List (List Tm)} {i k:Nat},PZ S i l=some k->∃j,k=i+j/\∃t,l[j]?=some t/\Di t S=true
 | [],_,_,h=>by cases h
 |t::l,i,k,h=>by
  unfold PZ at h;split at h
  .rename_i e;cases h;exact⟨0,rfl,t,rfl,e⟩
  .obtain⟨j,h1,t',h2,h3⟩:=UD S h;exact⟨j+1,by omega,t',h2,h3⟩
theorem LI{S:List Sl}(h:P0 d S=some k):k<d.length/\Di (d.getD k []) S=true:=by
 obtain⟨j,h1,t,h2,h3⟩:=UD S h
 have:k=j:=by omega
 subst this;refine⟨(Av.1 h2).1,?_⟩;rw[B9,h2];exact h3
end Go.Eng
