/- Lemmas 2. -/
import Derived.Test.YteaiieomnhbmgaaGreatDoorFA01
import Derived.Lib.SplitLaws
import Derived.Lib.IndexBytes
namespace Go.Eng
variable {x:Int×Int}{B:List Int}{s:List Tm}(m:List (Int×Int))(S:Bz)(l:List Tm)(r:Bz)(i:Nat)(k:Int)(t:Tm)(v j:Int)
def D2(l:Bz):Bz:=(l.map Ju).filter fun x=>decide (x.1<x.2)
theorem P0(a b:Bz):D2 (a++b)=D2 a++D2 b:=by unfold D2;rw[At,EL]
theorem Xw{l:Bz}(h:x∈D2 l):0<=x.1/\x.1<x.2/\x.2<=1000000:=by
 unfold D2 at h;rw[Br,Ai]at h;obtain⟨⟨y,_,rfl⟩,h2⟩:=h;have h2:=AP h2;refine⟨?_,h2,?_⟩<;>simp only[Ju]<;>omega
theorem jg(l:Bz)(p:Int):(D2 l).any (B4 p)=has l p:=by
 rw[<-LQ]
 induction l with
 |nil=>rfl
 |cons x r ih=>
  have e:D2 (x::r)=(if(Ju x).1<(Ju x).2 then [Ju x]else [])++D2 r:=by
   unfold D2;rw[AJ,Dx]
   by_cases h:(Ju x).1<(Ju x).2<;>simp[h]
  have ec:canon (x::r)=if(Ju x).1<(Ju x).2 then Yz (Ju x) (canon r)else canon r:=rfl
  rw[e,FW,ih,ec]
  by_cases h:(Ju x).1<(Ju x).2
  .rw[Ap h,Ap h,PP _ p (CE r) h];simp
  .rw[Aj h,Aj h];simp
theorem OY:∀{l:Bz} {lo:Int},Fe lo l↔(∀y∈l,lo<=y.1/\y.1<y.2/\y.2<=1000000)/\l.Pairwise fun a b=>a.2<b.1
 | [],lo=>by simp[Fe]
 |y::r,lo=>by
  rw[Bw];constructor
  .intro h;have hl:=h.low;refine⟨hl,fun z hz=>?_,((OY (l:=r)).1 h.2.2.2).2⟩
   have:=h.2.2.2.low z hz;omega
  .intro⟨h1,h2,h3⟩;have hy:=h1 y (Ab ..);refine⟨hy.1,hy.2.1,hy.2.2,OY.2 ⟨fun z hz=>?_,h3⟩⟩
   have:=h1 z (Ah _ hz)
   have:=h2 z hz
   omega
def Ma(x:Int×Int):Bz:=match r with
 | []=>[x]
 |y::t=>if x.1<=y.2 then(y.1,max y.2 x.2)::t else x::y::t
def BY(s:Bz):Bz:=s.foldl Ma []
theorem G3(s:Bz)(i:Nat)(h:i<s.length):BY (s.take (i+1))=Ma (BY (s.take i)) s[i]:=by
 unfold BY;rw[Bh,AD h,Et];rfl
theorem kT(x:Int×Int):(Ma r x).length<=r.length+1/\r.length<=(Ma r x).length/\0<(Ma r x).length:=by
 unfold Ma;split
 .simp
 .split<;>simp
theorem Vv(s:Bz):∀i,i<=s.length->(BY (s.take i)).length<=i/\(0<i->0<(BY (s.take i)).length):=by
 intro i
 induction i with
 |zero=>intro _;simp[BY]
 |succ i ih=>
  intro h;rw[G3 s i ch]
  have:=kT (BY (s.take i)) s[i]
  have:=ih ch
  omega
structure ua(r done:Bz):Prop where
 ok:∀y∈r,0<=y.1/\y.1<y.2/\y.2<=1000000
 pw:r.Pairwise fun a b=>b.2<a.1
 has:∀p,r.any (B4 p)=done.any (B4 p)
 first:∀y t,r=y::t->∃x∈done,y.1=x.1
theorem kS{r done:Bz}(h:ua r done)(hx:0<=x.1/\x.1<x.2/\x.2<=1000000)(hs:∀y∈done,y.1<=x.1):ua (Ma r x) (done++[x]):=by
 unfold Ma;split
 .refine⟨fun y hy=>?_,by simp,fun p=>?_,fun y t e=>?_⟩
  .rw[Ar.1 hy];exact hx
  .rw[FW,<-h.has];rfl
  .cases e;exact⟨x,by simp,rfl⟩
 .rename_i y t;have hy:=h.ok y (Ab ..);obtain⟨pw1,pw2⟩:=Bw.1 h.pw;obtain⟨z,hz,e⟩:=h.first y t rfl
  have xM:=hs z hz;split
  .rename_i Is;refine⟨fun u hu=>?_,Bw.2 ⟨pw1,pw2⟩,fun p=>?_,fun u t' e'=>?_⟩
   .rcases Ay.1 hu with rfl|hu
    .exact⟨hy.1,by dsimp only;omega,by dsimp only;omega⟩
    .exact h.ok u (Ah _ hu)
   .rw[FW,<-h.has,BM,BM,BM,Iq,E3]
    have:B4 p (y.1,max y.2 x.2)=(B4 p y||B4 p x):=by
     simp only[B4];rw[Ca];simp only[Af,CQ,AA];omega
    rw[this];cases B4 p y<;>cases B4 p x<;>cases t.any (B4 p)<;>rfl
   .cases e';exact⟨z,By _ hz,e⟩
  .rename_i Is;refine⟨fun u hu=>?_,Bw.2 ⟨fun u hu=>?_,h.pw⟩,fun p=>?_,fun u t' e'=>?_⟩
   .rcases Ay.1 hu with rfl|hu
    .exact hx
    .exact h.ok u hu
   .rcases Ay.1 hu with rfl|hu
    .omega
    .have:=pw1 u hu;omega
   .rw[FW,<-h.has,BM,BM,BM,Iq,E3];cases B4 p y<;>cases B4 p x<;>cases t.any (B4 p)<;>rfl
   .cases e';exact⟨x,by simp,rfl⟩
theorem eJ{s:Bz}(G1:∀y∈s,0<=y.1/\y.1<y.2/\y.2<=1000000)(hs:s.Pairwise fun a b=>a.1<=b.1):∀i,i<=s.length->ua (BY (s.take i)) (s.take i):=by
 intro i
 induction i with
 |zero=>intro _;exact⟨fun _ h=>by simp[BY]at h,by simp[BY],fun p=>by simp[BY],fun y t e=>by simp[BY]at e⟩
 |succ i ih=>
  intro h;have hi:i<s.length:=by omega
  rw[G3 s i hi];have e:s.take (i+1)=s.take i++[s[i]]:=by rw[Bh,AD hi];rfl
  rw[e];refine kS (ih ch) (G1 _ (Ao hi)) fun y hy=>?_;obtain⟨j,hj,rfl⟩:=Cc.1 hy;rw[GS];rw[Ax]at hj;exact(AU.1 hs) j i ch hi ch
theorem Ty{l s:Bz}(hp:s.Perm (D2 l))(hs:s.Pairwise fun a b=>a.1<=b.1):(BY s).reverse=canon l:=by
 have hi:=eJ (s:=s) (fun y hy=>Xw (hp.mem_iff.1 hy)) hs s.length (Am _);rw[Ce]at hi;have hc:E5 (BY s).reverse:=by
  unfold E5;rw[OY];refine⟨fun y hy=>hi.ok y (List.mem_reverse.1 hy),?_⟩;rw[List.pairwise_reverse];exact hi.pw
 refine UB hc fun p=>?_;rw[IG hc,List.any_reverse,hi.has,<-jg];rw[Ca,Ba,Ba];constructor
 .rintro⟨y,h1,h2⟩;exact⟨y,hp.mem_iff.1 h1,h2⟩
 .rintro⟨y,h1,h2⟩;exact⟨y,hp.mem_iff.2 h1,h2⟩
-- maps from numbers to numbers,as lists in the order in which they are met
def FL:Int:=match m.find? (fun p=>decide (p.1=k))with|some p=>p.2|none=>0
def MG:List (Int×Int):=if m.any (fun p=>decide (p.1=k))then m.map (fun p=>if p.1=k then(k,v)else p)else m++[(k,v)]
theorem Il(p:Int×Int)(m:List (Int×Int))(k:Int):FL (p::m) k=if p.1=k then p.2 else FL m k:=by
 unfold FL;rw[Fj];by_cases h:p.1=k<;>simp[h]
theorem Rk:FL (MG m k v) j=if j=k then v else FL m j:=by
 unfold MG;split
 .rename_i h
  induction m with
  |nil=>simp at h
  |cons p m ih=>
   rw[AJ,Il,Il]
   by_cases e:p.1=k
   .rw[Ap e];dsimp only
    by_cases ej:j=k
    .subst ej;simp
    .rw[Aj (fun c=>ej c.symm),Aj ej,Aj (fun c=>ej (c.symm.trans e))]
     by_cases hm:(m.any fun p=>decide (p.1=k))=true
     .rw[ih hm,Aj ej]
     .have:∀q∈m,q.1≠k:=fun q hq e=>hm (Ba.2 ⟨q,hq,by simp[e]⟩)
      have:m.map (fun p=>if p.1=k then(k,v)else p)=m:=by
       conv=>rhs;rw[<-Gj m]
       exact Bg fun q hq=>by simp[this q hq]
      rw[this]
   .rw[Aj e];have hm:(m.any fun p=>decide (p.1=k))=true:=by simpa[e]using h
    rw[ih hm]
    by_cases ej:j=k
    .subst ej;simp[e]
    .simp[ej]
 .rename_i h;have hn:∀q∈m,q.1≠k:=fun q hq e=>h (Ba.2 ⟨q,hq,by simp[e]⟩)
  induction m with
  |nil=>
   rw[FY,Il]
   by_cases ej:j=k
   .simp[ej]
   .have:¬k=j:=fun c=>ej c.symm
    simp[ej,this]
  |cons p m ih=>
   rw[HB,Il,Il];have e:=hn p (Ab ..);have ih:=ih (by simpa[e]using h) fun q hq=>hn q (Ah _ hq)
   by_cases ep:p.1=j
   .have:¬j=k:=fun c=>e (ep.trans c)
    simp[ep,this]
   .simp only[ep,Gz];exact ih
def Fz:List Int:=m.map (·.1)
theorem XS:Fz (MG m k v)=if k∈Fz m then Fz m else Fz m++[k]:=by
 unfold MG Fz;have e:(m.any fun p=>decide (p.1=k))=decide (k∈m.map (·.1)):=by
  rw[Ca];simp only[Ba,AA,Ai]
 rw[e]
 by_cases h:k∈m.map (·.1)
 .simp only[h,decide_true,SV,Bq];apply Bg;intro p _;simp only[Function.comp];split
  .rename_i e;exact e.symm
  .rfl
 .simp[h]
theorem NC{m:List (Int×Int)}(h:(Fz m).Nodup)(k v:Int):(Fz (MG m k v)).Nodup:=by
 rw[XS];split
 .exact h
 .rename_i hn;rw[FQ];exact⟨h,by simp,fun a ha b hb e=>by subst e;rw[Ar.1 hb]at ha;exact hn ha⟩
theorem I8:j∈Fz (MG m k v)↔j=k\/j∈Fz m:=by
 rw[XS];split
 .rename_i h;constructor
  .exact .inr
  .rintro(rfl|h')
   .exact h
   .exact h'
 .simp[or_comm]
theorem pv{m:List (Int×Int)}(h:(Fz m).Nodup){p:Int×Int}(hp:p∈m):FL m p.1=p.2:=by
 induction m with
 |nil=>cases hp
 |cons q m ih=>
  rw[Il];unfold Fz at h ih;rw[AJ,Dk]at h;rcases Ay.1 hp with rfl|hp
  .simp
  .have:¬q.1=p.1:=fun e=>h.1 (e▸Ai.2 ⟨p,hp,rfl⟩)
   rw[Aj this];exact ih h.2 hp
theorem px{m:List (Int×Int)}{k:Int}(h:k∉Fz m):FL m k=0:=by
 unfold FL
 have:m.find? (fun p=>decide (p.1=k))=none:=by
  rw[DI];intro p hp;simp only[AA];exact fun e=>h (Ai.2 ⟨p,hp,e⟩)
 rw[this]
-- counting
def cF:Nat:=S.countP fun x=>decide (x.1=k)
def cT:Nat:=S.countP fun x=>decide (x.2=k)
def lF:Nat:=S.countP fun x=>decide (x.1<=k)
def lT:Nat:=S.countP fun x=>decide (x.2<=k)
theorem J8{α:Type}{p q r:α->Bool}:∀{l:List α},(∀x∈l,(p x=true↔q x=true\/r x=true)/\¬(q x=true/\r x=true))->l.countP p=l.countP q+l.countP r
 | [],_=>rfl
 |x::l,h=>by
  have ih:=J8 fun y hy=>h y (Ah _ hy);obtain⟨h1,h2⟩:=h x (Ab ..);rw[JJ,JJ,JJ,ih];cases hp:p x<;>cases hq:q x<;>cases hr:r x<;>simp_all<;>omega
structure JT(m:List (Int×Int))(S:Bz):Prop where
 nd:(Fz m).Nodup
 val:∀k,FL m k=(cF S k:Int)-cT S k
 keys:0∈Fz m/\1000000∈Fz m/\∀x∈S,x.1∈Fz m/\x.2∈Fz m
 rng:∀k∈Fz m,0<=k/\k<=1000000
def yr:List (Int×Int):=[(0,0),(1000000,0)]
theorem qF:JT yr []:=⟨by decide,fun k=>by
  unfold yr;rw[Il,Il];simp[FL,cF,cT],⟨by decide,by decide,fun _ h=>by cases h⟩,fun k hk=>by
  unfold yr Fz at hk;simp at hk;omega⟩
def cN(x:Int×Int):List (Int×Int):=MG (MG m x.1 (FL m x.1+1)) x.2 (FL (MG m x.1 (FL m x.1+1)) x.2-1)
theorem kR{m:List (Int×Int)}{S:Bz}(h:JT m S)(hx:0<=x.1/\x.1<x.2/\x.2<=1000000):JT (cN m x) (S++[x]):=by
 unfold cN;refine⟨NC (NC h.nd _ _) _ _,fun k=>?_,⟨?_,?_,fun y hy=>?_⟩,fun k hk=>?_⟩
 .rw[Rk,Rk,Rk,h.val,h.val,h.val];unfold cF cT;simp only[List.countP_append,List.countP_singleton,AA]
  by_cases e1:k=x.2
  .subst e1
   have:¬x.2=x.1:=by omega
   have:¬x.1=x.2:=by omega
   simp[*];omega
  .by_cases e2:k=x.1
   .subst e2
    have:¬x.2=x.1:=by omega
    have:¬x.1=x.2:=by omega
    simp[*];omega
   .have a1:¬x.1=k:=fun c=>e2 c.symm;have a2:¬x.2=k:=fun c=>e1 c.symm;simp[e1,e2,a1,a2]
 .rw[I8,I8];exact .inr (.inr h.keys.1)
 .rw[I8,I8];exact .inr (.inr h.keys.2.1)
 .simp only[I8];rcases AN.1 hy with hy|hy
  .have:=h.keys.2.2 y hy
   exact⟨.inr (.inr this.1),.inr (.inr this.2)⟩
  .rw[Ar.1 hy];exact⟨.inr (.inl rfl),.inl rfl⟩
 .rw[I8,I8]at hk;rcases hk with rfl|rfl|hk
  .omega
  .omega
  .exact h.rng k hk
def JF(B:List Int):Int:=(B.map (FL m)).foldl (·+·) 0
theorem So(B:List Int)(i:Nat)(h:i<B.length):JF m (B.take (i+1))=JF m (B.take i)+FL m B[i]:=by
 unfold JF;rw[Bh,AD h,At,Et];simp only[Option.toList_some,AJ,E6,Fk,List.foldl_nil]
structure qg(B:List Int)(m:List (Int×Int)):Prop where
 perm:B.Perm (Fz m)
 srt:B.Pairwise fun a b=>a<b
theorem iu{m:List (Int×Int)}{S:Bz}(h:JT m S)(hB:qg B m):∀i (hi:i<B.length),JF m (B.take (i+1))=(lF S B[i]:Int)-lT S B[i]:=by
 have mem:∀k,k∈Fz m->∃j,∃hj:j<B.length,B[j]=k:=fun k hk=>by
  have:=hB.perm.mem_iff.2 hk
  obtain⟨j,hj,e⟩:=Cc.1 this;exact⟨j,hj,e⟩
 have lt:∀i j (hi:i<B.length) (hj:j<B.length),i<j->B[i]<B[j]:=fun i j hi hj QC=>(AU.1 hB.srt) i j hi hj QC;intro i
 induction i with
 |zero=>
  intro hi;rw[So m B 0 hi,h.val]
  have:JF m (B.take 0)=0:=by simp[JF]
  rw[this];have low:∀k∈Fz m,B[0]<=k:=fun k hk=>by
   obtain⟨j,hj,rfl⟩:=mem k hk;cases j with
   |zero=>exact Bs _
   |succ j=>have:=lt 0 (j+1) hi hj ch;omega
  have e1:lF S B[0]=cF S B[0]:=by
   unfold lF cF;apply Sy;intro x hx
   have:=low _ (h.keys.2.2 x hx).1
   simp only[AA];omega
  have e2:lT S B[0]=cT S B[0]:=by
   unfold lT cT;apply Sy;intro x hx
   have:=low _ (h.keys.2.2 x hx).2
   simp only[AA];omega
  rw[e1,e2];omega
 |succ i ih=>
  intro hi;rw[So m B (i+1) hi,ih ch,h.val];have nb:∀k∈Fz m,k<=B[i+1]↔k<=B[i]\/k=B[i+1]:=fun k hk=>by
   obtain⟨j,hj,rfl⟩:=mem k hk;have l0:=lt i (i+1) ch hi ch;rcases Nat.lt_trichotomy j (i+1)with c|c|c
   .have:B[j]<=B[i]:=by
     rcases CR j i with d|d
     .have:=lt j i hj ch d;omega
     .have:j=i:=by omega
      subst this;exact Bs _
    omega
   .subst c;omega
   .have:=lt (i+1) j hi hj c;omega
  have l0:=lt i (i+1) ch hi ch;have e1:lF S B[i+1]=lF S B[i]+cF S B[i+1]:=by
   unfold lF cF;apply J8;intro x hx
   have:=nb _ (h.keys.2.2 x hx).1
   simp only[AA];omega
  have e2:lT S B[i+1]=lT S B[i]+cT S B[i+1]:=by
   unfold lT cT;apply J8;intro x hx
   have:=nb _ (h.keys.2.2 x hx).2
   simp only[AA];omega
  rw[e1,e2];omega
theorem aG{S:Bz}(hS:∀x∈S,x.1<x.2)(p:Int):(lF S p:Int)-lT S p=(S.countP (B4 p):Nat):=by
 have:lF S p=S.countP (B4 p)+lT S p:=by
  unfold lF lT;apply J8;intro x hx
  have:=hS x hx
  simp only[B4,Af,AA];omega
 omega
theorem Qd:∀{l:Bz} {lo:Int} (p:Int),Fe lo l->l.countP (B4 p)=if l.any (B4 p)then 1 else 0
 | [],_,_,_=>rfl
 |y::r,lo,p,⟨h1,h2,h3,h4⟩=>by
  rw[JJ,Qd p h4,BM];cases hy:B4 p y with
  |false=>rw[Na];simp
  |true=>
   have:=D6.1 hy
   have:r.any (B4 p)=false:=by
    rw[AM];intro hr;have:=NT h4 hr;omega
   simp[this]
theorem Nm:∀(l:List Bz) (p:Int),((l.map canon).flatten).countP (B4 p)=lk l p
 | [],_=>rfl
 |s::l,p=>by
  rw[AJ,BE,List.countP_append,Nm l p,Qd p (CE s),LQ];unfold lk;rw[JJ];omega
def ET(keep:Nat->Bool)(m:List (Int×Int))(B:List Int):Nat->Bz
 |0=>[]
 |i+1=>ET keep m B i++(match B[i]?,B[i+1]? with
  |some a,some b=>if keep (JF m (B.take (i+1))).toNat then [(a,b)]else []
  |_,_=>[])
theorem RP{keep:Nat->Bool}{m:List (Int×Int)}{B:List Int}{x:Int×Int}:∀{n:Nat},x∈ET keep m B n↔∃i,i<n/\∃(h1:i<B.length) (h2:i+1<B.length),keep (JF m (B.take (i+1))).toNat=true/\x=(B[i],B[i+1])
 |0=>by simp[ET]
 |n+1=>by
  unfold ET;rw[AN,RP (n:=n)];constructor
  .rintro(⟨i,h1,h2⟩|h)
   .exact⟨i,by omega,h2⟩
   .split at h
    .rename_i a b ha hb;obtain⟨h1,e1⟩:=Aw.1 ha;obtain⟨h2,e2⟩:=Aw.1 hb;split at h
     .rename_i hk;refine⟨n,by omega,h1,h2,hk,?_⟩;rw[Ar.1 h,e1,e2]
     .cases h
    .cases h
  .rintro⟨i,h1,h2,h3,h4,rfl⟩
   by_cases e:i=n
   .subst e;refine .inr ?_;rw[AD h2,AD h3];simp[h4]
   .exact .inl ⟨i,by omega,h2,h3,h4,rfl⟩
theorem PU{B:List Int}(hs:B.Pairwise fun a b=>a<b){p:Int}:∀(n:Nat) (h0:0<B.length) (hn:n<B.length),B[0]<=p->p<B[n]->∃i,∃(h1:i<B.length) (h2:i+1<B.length),B[i]<=p/\p<B[i+1]
 |0,h0,hn,h1,h2=>by omega
 |n+1,h0,hn,h1,h2=>by
  by_cases e:B[n]<=p
  .exact⟨n,by omega,hn,e,h2⟩
  .exact PU hs n h0 ch h1 ch
theorem nH{keep:Nat->Bool}{l:List Bz}{m:List (Int×Int)}(h:JT m (l.map canon).flatten)(hB:qg B m)(p:Int):has (ET keep m B (B.length-1)) p=(M7 p&&keep (lk l p)):=by
 have hS:∀x∈(l.map canon).flatten,x.1<x.2:=fun x hx=>by
  obtain⟨s,hs,hx⟩:=D4.1 hx;obtain⟨t,_,rfl⟩:=Ai.1 hs;exact((CE t).low x hx).2.1
 have mem:∀k,k∈Fz m->∃j,∃hj:j<B.length,B[j]=k:=fun k hk=>by
  obtain⟨j,hj,e⟩:=Cc.1 (hB.perm.mem_iff.2 hk);exact⟨j,hj,e⟩
 have lt:∀i j (hi:i<B.length) (hj:j<B.length),i<j->B[i]<B[j]:=fun i j hi hj QC=>(AU.1 hB.srt) i j hi hj QC;have rng:∀i (hi:i<B.length),0<=B[i]/\B[i]<=1000000:=fun i hi=>h.rng _ (hB.perm.mem_iff.1 (Ao hi))
 -- YH two bounds
 have YH:∀i (h1:i<B.length) (h2:i+1<B.length),B[i]<=p->p<B[i+1]->(JF m (B.take (i+1))).toNat=lk l p:=fun i h1 h2 a b=>by
  have same:∀k∈Fz m,k<=B[i]↔k<=p:=fun k hk=>by
   obtain⟨j,hj,rfl⟩:=mem k hk;constructor
   .intro c;omega
   .intro c;rcases CR i j with d|d
    .rcases CR (i+1) j with f|f
     .have:=lt (i+1) j h2 hj f;omega
     .have:j=i+1:=by omega
      subst this;omega
    .rcases CR j i with f|f
     .have:=lt j i hj h1 f;omega
     .have:j=i:=by omega
      subst this;exact Bs _
  have e1:lF (l.map canon).flatten B[i]=lF (l.map canon).flatten p:=by
   unfold lF;apply Sy;intro x hx
   have:=same _ (h.keys.2.2 x hx).1
   simp only[AA];exact this
  have e2:lT (l.map canon).flatten B[i]=lT (l.map canon).flatten p:=by
   unfold lT;apply Sy;intro x hx
   have:=same _ (h.keys.2.2 x hx).2
   simp only[AA];exact this
  rw[iu h hB i h1,e1,e2,aG hS,Nm];simp
 rw[Ca];constructor
 .intro hh;have lr:=Ny hh;unfold has at hh;simp only[lr,decide_true,E4]at hh;obtain⟨x,hx,hp⟩:=Ba.1 hh;obtain⟨i,_,h1,h2,hk,rfl⟩:=RP.1 hx
  have:=D6.1 hp
  dsimp only at this;rw[<-YH i h1 h2 this.1 this.2];simp[M7,lr,hk]
 .intro hh;simp only[Af,M7,AA]at hh;obtain⟨⟨p0,p1⟩,hk⟩:=hh;obtain⟨j0,hj0,e0⟩:=mem 0 h.keys.1;obtain⟨j1,hj1,e1⟩:=mem 1000000 h.keys.2.1;have hb0:B[0]' ch<=p:=by
   have:B[0]' ch<=0:=by
    cases j0 with
    |zero=>omega
    |succ j=>have:=lt 0 (j+1) ch hj0 ch;omega
   omega
  obtain⟨i,h1,h2,a,b⟩:=PU hB.srt j1 ch hj1 hb0 ch;unfold has;simp only[p0,p1,decide_true,E4];exact Ba.2 ⟨(B[i],B[i+1]),RP.2 ⟨i,by omega,h1,h2,by rw[YH i h1 h2 a b];exact hk,rfl⟩,D6.2 ⟨a,b⟩⟩
theorem pf{l:List Bz}{m:List (Int×Int)}(h:JT m (l.map canon).flatten)(hB:qg B m)(i:Nat)(hi:i<B.length):0<=JF m (B.take (i+1))/\JF m (B.take (i+1))<=l.length:=by
 have hS:∀x∈(l.map canon).flatten,x.1<x.2:=fun x hx=>by
  obtain⟨s,hs,hx⟩:=D4.1 hx;obtain⟨t,_,rfl⟩:=Ai.1 hs;exact((CE t).low x hx).2.1
 rw[iu h hB i hi,aG hS,Nm]
 have:lk l B[i]<=l.length:=List.countP_le_length
 omega
def Zz(m:List Tm)(t:Tm):List Tm:=if m.any (fun u=>decide (u.path=t.path))then m.map (fun u=>if u.path=t.path then t else u)else m++[t]
def Tp(m:List Tm)(t:Tm):List Tm:=Zz m (Pt (DH m t.path) t)
def DQ:List Tm:=l.foldl Tp []
theorem jw(p:ByteArray):∀m:List Tm,DH (Zz m t) p=if t.path=p then some t else DH m p:=by
 intro m;unfold Zz
 by_cases h:(m.any fun u=>decide (u.path=t.path))=true
 .rw[Ap h]
  induction m with
  |nil=>simp at h
  |cons u m ih=>
   rw[AJ,De,De]
   by_cases e:u.path=t.path
   .rw[Ap e]
    by_cases ep:t.path=p
    .simp[ep]
    .rw[Aj ep,Aj ep,Aj (fun c=>ep (e.symm.trans c))]
     by_cases hm:(m.any fun u=>decide (u.path=t.path))=true
     .rw[ih hm,Aj ep]
     .have:∀q∈m,q.path≠t.path:=fun q hq c=>hm (Ba.2 ⟨q,hq,by simp[c]⟩)
      have:m.map (fun u=>if u.path=t.path then t else u)=m:=by
       conv=>rhs;rw[<-Gj m]
       exact Bg fun q hq=>by simp[this q hq]
      rw[this]
   .rw[Aj e];have hm:(m.any fun u=>decide (u.path=t.path))=true:=by simpa[e]using h
    rw[ih hm]
    by_cases ep:t.path=p
    .subst ep;simp[e]
    .simp[ep]
 .rw[Aj h];have hn:∀q∈m,q.path≠t.path:=fun q hq e=>h (Ba.2 ⟨q,hq,by simp[e]⟩)
  clear h
  induction m with
  |nil=>rw[FY,De]
  |cons u m ih=>
   rw[HB,De,De,ih fun q hq=>hn q (Ah _ hq)]
   have:=hn u (Ab ..)
   by_cases e:u.path=p
   .have:¬t.path=p:=fun c=>this (e.trans c.symm)
    simp[e,this]
   .simp[e]
def EU(m:List Tm):List ByteArray:=m.map (·.path)
open Classical in
theorem fc(m:List Tm)(t:Tm):EU (Zz m t)=if t.path∈EU m then EU m else EU m++[t.path]:=by
 unfold Zz EU;have e:(m.any fun u=>decide (u.path=t.path))=true↔t.path∈m.map (·.path):=by
  simp only[Ba,AA,Ai]
 by_cases h:t.path∈m.map (·.path)
 .rw[Ap (e.2 h),Ap h,Bq];apply Bg;intro p _;simp only[Function.comp];split
  .rename_i e;exact e.symm
  .rfl
 .rw[Aj (fun c=>h (e.1 c)),Aj h,At];rfl
theorem kb{m:List Tm}(h:(EU m).Nodup)(t:Tm):(EU (Zz m t)).Nodup:=by
 rw[fc];split
 .exact h
 .rename_i hn;rw[FQ];exact⟨h,by simp,fun a ha b hb e=>by subst e;rw[Ar.1 hb]at ha;exact hn ha⟩
theorem Tb(h:i<l.length):DQ (l.take (i+1))=Tp (DQ (l.take i)) l[i]:=by
 unfold DQ;rw[Bh,AD h,Et];rfl
theorem Qt:∀(l m:List Tm),(EU m).Nodup->(EU (l.foldl Tp m)).Nodup
 | [],_,h=>h
 |_::l,_,h=>Qt l _ (kb h _)
theorem IK:(EU (DQ l)).Nodup:=Qt l [] .nil
theorem aW(m:List Tm)(t:Tm)(p:ByteArray):DH (Tp m t) p=Lo p (DH m p) t:=by
 unfold Tp Lo;have hp:(Pt (DH m t.path) t).path=t.path:=RZ _ _ fun u h=>HZ h;rw[jw,hp]
 by_cases e:t.path=p
 .rw[Ap e,Ap e,e]
 .rw[Aj e,Aj e]
theorem Qp(p:ByteArray):∀(l m:List Tm),DH (l.foldl Tp m) p=l.foldl (Lo p) (DH m p)
 | [],_=>rfl
 |t::l,m=>by rw[Fk,Fk,Qp p l,aW]
theorem dN(p:ByteArray):DH (DQ l) p=DH (Ft l) p:=by
 unfold DQ;rw[Qp,Kc];rfl
theorem Nt{m:List Tm}(h:(EU m).Nodup){t:Tm}:t∈m↔DH m t.path=some t:=by
 constructor
 .induction m with
  |nil=>intro h;cases h
  |cons u m ih=>
   intro ht;unfold EU at h ih;rw[AJ,Dk]at h;rw[De];rcases Ay.1 ht with rfl|ht
   .rw[Ap rfl]
   .have:¬u.path=t.path:=fun e=>h.1 (e▸Ai.2 ⟨t,ht,rfl⟩)
    rw[Aj this];exact ih h.2 ht
 .exact FD
theorem IN{m:List Tm}(h:(EU m).Nodup):m.Nodup:=by
 unfold EU at h
 induction m with
 |nil=>exact .nil
 |cons u m ih=>
  rw[AJ,Dk]at h;exact Dk.2 ⟨fun hu=>h.1 (Ai.2 ⟨u,hu,rfl⟩),ih h.2⟩
theorem IV{l:List Tm}{lo:Option ByteArray}(h:Cv lo l):(EU l).Nodup:=by
 unfold EU
 induction l generalizing lo with
 |nil=>exact .nil
 |cons t l ih=>
  rw[AJ,Dk];refine⟨fun hm=>?_,ih h.2.2⟩;obtain⟨u,hu,e⟩:=Ai.1 hm
  have:=h.2.2.low u hu
  rw[e,Dm]at this;cases this
theorem Kl:t∈DQ l↔t∈Ft l:=by
 rw[Nt (IK l),dN,<-Nt (IV (EM l))]
theorem QK:∀t∈DQ l,E5 t.set:=fun t ht=>(EM l).canon t ((Kl l t).1 ht)
theorem kU(m:List Tm)(t:Tm):(Tp m t).length<=m.length+1:=by
 unfold Tp Zz;split<;>simp
theorem Po:∀i,i<=l.length->(DQ (l.take i)).length<=i:=by
 intro i
 induction i with
 |zero=>intro _;simp[DQ]
 |succ i ih=>
  intro h;rw[Tb l i ch]
  have:=kU (DQ (l.take i)) l[i]
  have:=ih ch
  omega
theorem fC(hs:s.Pairwise fun x y=>Ed x.path y.path=true)(hc:∀t∈s,E5 t.set):Cv none s:=by
 have:∀(s:List Tm) (lo:Option ByteArray),s.Pairwise (fun x y=>Ed x.path y.path=true)->(∀t∈s,E5 t.set)->(∀p,lo=some p->∀t∈s,Ed p t.path=true)->Cv lo s:=by
  intro s
  induction s with
  |nil=>intro _ _ _ _;trivial
  |cons t s ih=>
   intro lo hs hc hl;obtain⟨h1,h2⟩:=Bw.1 hs;exact⟨fun p e=>hl p e t (Ab ..),hc t (Ab ..),ih _ h2 (fun u hu=>hc u (Ah _ hu)) fun p e u hu=>by cases e;exact h1 u hu⟩
 exact this s none hs hc fun _ e=>by cases e
theorem RA{l:List Tm}(q:Tm->Bool)(hp:s.Perm ((DQ l).filter q))(hs:s.Pairwise fun x y=>Ed y.path x.path=false):s=(Ft l).filter q:=by
 have hm:∀t,t∈s↔t∈(Ft l).filter q:=fun t=>by
  rw[hp.mem_iff,Br,Br,Kl]
 have TC:(EU s).Nodup:=by
  have h1:(EU ((DQ l).filter q)).Nodup:=by
   unfold EU;exact List.Nodup.sublist (List.Sublist.map _ List.filter_sublist) (IK l)
  unfold EU at h1⊢;exact(hp.map (·.path)).nodup_iff.2 h1
 have K4:s.Pairwise fun x y=>Ed x.path y.path=true:=by
  rw[AU]at hs⊢;intro i j hi hj QC;cases hb:Ed s[i].path s[j].path with
  |true=>rfl
  |false=>
   have e:=HQ hb (hs i j hi hj QC);unfold EU at TC
   have:=(AU.1 TC) i j (by simpa using hi) (by simpa using hj) QC
   simp at this;exact absurd e this
 have hss:Cv none s:=fC K4 fun t ht=>(EM l).canon t (Br.1 ((hm t).1 ht)).1;have qa:Cv none ((Ft l).filter q):=Cv.filter q (EM l);refine NP hss qa fun p=>?_;cases h1:DH s p with
 |some t=>
  have:=(hm t).1 (FD h1)
  rw[F6 qa,HZ h1]at this;exact this.symm
 |none=>
  cases h2:DH ((Ft l).filter q) p with
  |none=>rfl
  |some t=>
   have:=(hm t).2 (FD h2)
   rw[F6 hss,HZ h2,h1]at this;cases this
theorem dx:HF t t=MS t:=by unfold HF MS;rw[eu,Bool.and_self]
theorem ie(o:Option Tm)(t:Tm):Pt o t=HF (o.getD t) t:=by cases o with|none=>exact(dx t).symm|some u=>rfl
theorem iT{t:Tm}(h:E5 t.set):(t.absent&&(EX t.set).isEmpty)=Hd t:=by
 unfold Hd
 congr 1
 rw[Ca,HD,AA];have ha:E5 [(0,1000000)]:=⟨Bs _,by dsimp only;omega,Bs _,trivial⟩;constructor
 .intro e;refine IB h ha fun p=>?_
  have:=F8 t.set p
  rw[e]at this;have h0:has [] p=false:=by simp[has]
  rw[h0]at this;have h1:has [(0,1000000)] p=M7 p:=by simp[has,M7,B4]
  rw[h1];cases hp:M7 p with
  |true=>rw[hp]at this;simpa using this.symm
  |false=>
   rw[AM];intro hh
   have:=Ny hh
   simp[M7,this]at hp
 .intro e;rw[RS (Ia _)];intro p;rw[F8,e];have h1:has [(0,1000000)] p=M7 p:=by simp[has,M7,B4]
  rw[h1];simp
theorem nV{t:Tm}(h:E5 t.set):(!t.absent&&(canon t.set).isEmpty)=Jd t:=by unfold Jd;rw[Ku h]
end Go.Eng
namespace Go.Eng
open Go.Lib
theorem Sj(c:UInt8):∀(s:List UInt8) (k:Nat),s.count c<=k->splitK [c] 0 k s=FM c s
 | [],k,_=>by
  cases k with
  |zero=>rfl
  |succ k=>rfl
 |b::r,k,h=>by
  rw[FM]
  by_cases e:b=c
  .subst e;rw[List.count_cons_self]at h;obtain⟨k',rfl⟩:∃k',k=k'+1:=⟨k-1,by omega⟩;rw[Ap rfl,splitK,index_one,indexByte];simp only[beq_self_eq_true,SV];rw[Aj Cl];show []::splitK [b] 0 k' r=_;rw[Sj b r k' ch]
  .have DJ:(b == c)=false:=by simpa using e
   rw[List.count_cons_of_ne (by simpa using e)]at h;have ih:=Sj c r k h;rw[Aj e];cases k with
   |zero=>
    rw[<-ih];rfl
   |succ k=>
    rw[<-ih,splitK,splitK,index_one,index_one,indexByte,DJ]
    by_cases h0:indexByte r c=-1
    .rw[h0];rfl
    .have h1:(indexByte r c == -1)=false:=by simpa using h0
     have h2:=indexByte_ge r c;have h3:(indexByte r c+1 == -1)=false:=by rw[beq_eq_false_iff_ne];omega
     simp only[Dr,Gz,h1,h3];obtain⟨i,hi⟩:∃i:Nat,indexByte r c=i:=⟨(indexByte r c).toNat,by omega⟩;rw[hi];show(b::r).take (((i:Int)+1).toNat+0)::_=(b::r.take ((i:Int).toNat+0))::_;rw[show((i:Int)+1).toNat=i+1 by omega,show((i:Nat):Int).toNat=i by omega]
     rfl
theorem aF(c:UInt8):∀(n:Nat) (s:List UInt8),s.length<=n->count s [c]=s.count c
 |n,s,hn=>by
  rcases Int.lt_or_le (indexByte s c) 0 with h|h
  .have h2:=indexByte_ge s c;have h3:indexByte s c=-1:=by omega
   rw[count_miss (by rw[index_one];exact h3)]
   symm
   rw[List.count_eq_zero];intro hm;obtain⟨k,hk,e⟩:=F4 hm;exact indexByte_none h3 k (by rw[AD hk,e])
  .obtain⟨i,hi⟩:∃i:Nat,indexByte s c=i:=⟨(indexByte s c).toNat,by omega⟩;obtain⟨h1,h2⟩:=indexByte_some hi;obtain⟨hl,hg⟩:=Aw.1 h1;cases n with
   |zero=>omega
   |succ n=>
    have hc:=count_hit (s:=s) (sub:=[c]) (i:=i) B0 (by rw[index_one];exact hi);rw[hc];have ih:=aF c n (s.drop (i+1)) (by rw[Di];omega);have zF:s=s.take i++c::s.drop (i+1):=by
     rw[<-hg,<-AI hl,GD]
    have h0:(s.take i).count c=0:=by
     rw[List.count_eq_zero];intro hm;obtain⟨k,hk,e⟩:=F4 hm;rw[Ax]at hk;rw[GS]at e;exact h2 k ch (by rw[AD ch,e])
    conv=>rhs;rw[zF]
    rw[List.count_append,h0,List.count_cons_self];show 1+count (s.drop (i+1)) [c]=_;rw[ih];omega
theorem kQ(s:ByteArray)(c:UInt8):((splitB ⟨#[c]⟩ 0 (countB s ⟨#[c]⟩) s).map (·.data.toList))=FM c s.data.toList:=by
 rw[splitB_data];refine Sj c _ _ ?_;show _<=count s.data.toList [c];rw[aF c _ _ (Am _)];exact Am _
end Go.Eng
namespace Go.Eng
variable {U:List ByteArray}{d:List (List Tm)}{l t c:List Tm}{k:Nat}(x:List Rl)(p:ByteArray)(roots:List Rq)
theorem RT{α:Type}:∀{l m:List α},l.Nodup->(∀x∈l,x∈m)->l.length<=m.length
 | [],_,_,_=>AB _
 |a::l,m,hn,hs=>by
  obtain⟨h1,h2⟩:=Dk.1 hn;obtain⟨s,t,rfl⟩:=List.append_of_mem (hs a (Ab ..))
  have:l.length<=(s++t).length:=RT h2 fun x hx=>by
   rcases AN.1 (hs x (Ah _ hx))with h|h
   .exact By _ h
   .rcases Ay.1 h with rfl|h
    .exact absurd hx h1
    .exact Bo _ h
  simp only[Ac,Al]at this⊢;omega
theorem MV(p:ByteArray):∀(l:List Tm) (o:Option Tm),(∀u∈l,u.path≠p)->l.foldl (Lo p) o=o
 | [],_,_=>rfl
 |t::l,o,h=>by
  rw[Fk,show Lo p o t=o by unfold Lo;rw[Aj (h t (Ab ..))]];exact MV p l o fun u hu=>h u (Ah _ hu)
theorem eK{t:Tm}(h:t∈Ft l):∃u∈l,u.path=t.path:=by
 apply AH;intro hn
 have:∀u∈l,u.path≠t.path:=fun u hu e=>hn ⟨u,hu,e⟩
 have h1:=(F6 (EM l)).1 h;rw[Kc,MV _ _ _ this]at h1;cases h1
def WY(U:List ByteArray)(t:List Tm):Prop:=Cv none t/\∀u∈t,u.path∈U
theorem WY.len(h:WY U t):t.length<=U.length:=by
 have:=RT (IV h.1) (m:=U) fun p hp=>by
  obtain⟨u,hu,rfl⟩:=Ai.1 hp;exact h.2 u hu
 unfold EU at this
 rwa [A7]at this
theorem dz(h:Dg l=some c){t:Tm}(ht:t∈c):t∈Ft l:=by
 unfold Dg at h;split at h
 .cases h
 .cases h;exact(Br.1 ht).1
theorem Rz(h:Dg l=some c)(hu:∀u∈l,u.path∈U):WY U c:=
 ⟨Fm h,fun t ht=>by
  obtain⟨u,h1,h2⟩:=eK (dz h ht);rw[<-h2];exact hu u h1⟩
theorem WY.nil(U:List ByteArray):WY U []:=⟨trivial,fun u hu=>by cases hu⟩
theorem VF(hu:∀u∈l,u.path∈U):WY U (RV l):=by
 unfold RV;cases h:Dg l with
 |none=>exact .nil U
 |some c=>exact Rz h hu
theorem Tl{a b:List Tm}{p:ByteArray}(ha:WY U a)(hb:WY U b):WY U (B2 a b p).1:=by
 have sp:∀{l r:List Tm} {t:Tm},WY U l->FN l p=some (t,r)->t.path∈U/\∀u∈r,u.path∈U:=by
  intro l r t hl h;unfold FN at h;cases e:Dg l with
  |none=>rw[e]at h;cases h
  |some c=>
   rw[e]at h;have h:(match DH c p with|none=>none|some t=>some (t,Gg c p))=some (t,r):=h;have hc:=Rz e hl.2;cases e2:DH c p with
   |none=>rw[e2]at h;cases h
   |some u=>
    rw[e2]at h;cases h;exact⟨hc.2 _ (FD e2),fun u hu=>hc.2 u (Br.1 hu).1⟩
 unfold B2;split
 .rename_i t r u m e1 e2;obtain⟨a1,a2⟩:=sp ha e1;obtain⟨b1,b2⟩:=sp hb e2;split
  .rename_i o e3;refine Rz e3 fun v hv=>?_;rcases AN.1 hv with hv|hv
   .rcases AN.1 hv with hv|hv
    .exact a2 v hv
    .exact b2 v hv
   .rw[Ar.1 hv];exact a1
  .exact .nil U
 .exact .nil U
def LA(l:List Nf):List ByteArray:=(x.map (·.path))++((x.map (·.reqs)).flatten.map (·.path)++(roots.map (·.path)++l.map (·.path)))
theorem jO{x:List Rl}{roots:List Rq}{l:List Nf}{i:Nf}(hi:i∈l)(hd:∀t∈d,WY (LA x roots l) t)(h:Ei x roots d i=some t):WY (LA x roots l) t:=by
 have hp:i.path∈LA x roots l:=by
  unfold LA;exact Bo _ (Bo _ (Bo _ (Ai.2 ⟨i,hi,rfl⟩)))
 have nz:∀{α:Type} {l:List α} {k:Int} {a:α},KJ l k=some a->a∈l:=by
  intro α l k a h;unfold KJ at h;split at h
  .cases h
  .exact Az h
 have n0:∀{a b:List Tm},jX a=some b->b=a:=by
  intro a b h;unfold jX at h;split at h
  .cases h
  .cases h;rfl
 unfold Ei at h;split at h
 .split at h
  .cases e:KJ roots i.number with
   |none=>rw[e]at h;cases h
   |some q=>
    rw[e]at h;cases h;refine VF fun u hu=>?_;rw[Ar.1 hu];unfold LA;exact Bo _ (Bo _ (By _ (Ai.2 ⟨q,nz e,rfl⟩)))
  .cases h
 split at h
 .split at h
  .cases e:QY x i.path i.place with
   |none=>rw[e]at h;cases h
   |some r=>
    rw[e]at h;have h:(match KJ r.reqs i.number with|none=>none|some q=>jX (EH i.path i.place q))=some t:=h;cases e2:KJ r.reqs i.number with
    |none=>rw[e2]at h;cases h
    |some q=>
     rw[e2]at h;have h:=n0 (show jX (EH i.path i.place q)=some t from h);subst h;refine VF fun u hu=>?_;rcases Ay.1 hu with rfl|hu
     .exact hp
     .rw[Ar.1 hu];unfold LA;refine Bo _ (By _ (Ai.2 ⟨q,?_,rfl⟩));exact D4.2 ⟨r.reqs,Ai.2 ⟨r,BI e,rfl⟩,nz e2⟩
  .cases h
 split at h
 .split at h
  .have h:=n0 h;subst h;refine VF fun u hu=>?_;rw[Ar.1 hu];exact hp
  .cases h
 split at h
 .split at h
  .cases e:KJ d i.left with
   |none=>rw[e]at h;cases h
   |some a=>
    cases e2:KJ d i.right with
    |none=>rw[e,e2]at h;cases h
    |some b=>
     rw[e,e2]at h;have h:(if(B2 a b i.path).2=0 then some (B2 a b i.path).1 else none)=some t:=h;split at h
     .cases h;exact Tl (hd a (nz e)) (hd b (nz e2))
     .cases h
  .cases h
 .cases h
structure Cd where
 place:Int
 rel:Rl
structure Nd where
 rq:Rq
 path:ByteArray
 place:Int
 number:Int
variable (n:Nd)
structure SS where
 infs:List Nf
 drv:List (List Tm)
 full:Bool
variable {s':SS}(s:SS)
abbrev Vk(c:Cd):Sl:=⟨c.rel.path,c.rel.ver⟩
abbrev AS(l:List Cd):List Sl:=l.map Vk
def B7:List Cd:=(x.filter fun r=>decide (r.path=p)&&!r.yanked).map fun r=>⟨plc r.ver,r⟩
def NH(f:Rq->Nat->Nd):Nat->List Rq->List Nd
 |_,[]=>[]
 |i,q::l=>f q i::NH f (i+1) l
def cD:List Nd:=NH (fun q i=>⟨q,mt,0,i⟩) 0 roots
def Sb(c:Cd):List Nd:=NH (fun q i=>⟨q,c.rel.path,c.place,i⟩) 0 c.rel.reqs
def DR(dec:List Cd):List Nd:=cD roots++(dec.map Sb).flatten
def Dt(dec:List Cd)(p:ByteArray):Bool:=dec.any fun c=>decide (c.rel.path=p)
def EG(dec:List Cd)(a:ByteArray×List Nd)(n:Nd):ByteArray×List Nd:=
 if Dt dec n.rq.path=true\/(a.2≠[]/\Ed a.1 n.rq.path=true)then a
 else if a.2≠[]/\Ed n.rq.path a.1=true then(n.rq.path,[n])else(n.rq.path,a.2++[n])
def Fb(dec:List Cd):ByteArray×List Nd:=(DR roots dec).foldl (EG dec) (mt,[])
def gO(l:List Cd)(n:Nd):Bool:=l.any fun d=>decide (d.rel.path=n.rq.path)&&!has n.rq.set d.place
def En(dec:List Cd)(c:Cd):Option Nd:=(Sb c).find? (gO (dec++[c]))
def Qg(s:List Sl):Nat->List (List Tm)->Option Nat
 |_,[]=>none
 |i,t::l=>if Dh t s then some i else Qg s (i+1) l
def Pb(d:List (List Tm))(s:List Sl):Option Nat:=Qg s 0 d
def Ee(l:List Tm)(p:ByteArray):Bool:=l.any fun t=>decide (t.path=p)
instance:DecidableEq Nf:=fun a b=>by
 obtain⟨a1,a2,a3,a4,a5,a6⟩:=a;obtain⟨b1,b2,b3,b4,b5,b6⟩:=b;exact decidable_of_iff (a1=b1/\a2=b2/\a3=b3/\a4=b4/\a5=b5/\a6=b6) ⟨fun⟨h1,h2,h3,h4,h5,h6⟩=>by subst h1 h2 h3 h4 h5 h6;rfl,fun h=>by cases h;exact⟨rfl,rfl,rfl,rfl,rfl,rfl⟩⟩
def M8(i:Nf):Nat->List Nf->Option Nat
 |_,[]=>none
 |k,j::l=>if j=i then some k else M8 i (k+1) l
def Er(i:Nf)(l:List Tm):Nat×SS:=
 match M8 i 0 s.infs with
 |some k=>(k,s)
 |none=>if 65536<=s.infs.length then(s.infs.length-1,⟨s.infs,s.drv,true⟩)else(s.infs.length,⟨s.infs++[i],s.drv++[l],s.full⟩)
def Om:Nf:=if n.path=mt then⟨0,mt,0,n.number,0,0⟩else⟨1,n.path,n.place,n.number,0,0⟩
def II:List Tm:=if n.path=mt then KN n.rq else EH n.path n.place n.rq
def BS(n:Nd):Nat×SS:=Er s (Om n) (II n)
abbrev EC(k:Nat):List Tm:=s.drv.getD k []
def Cw(p:ByteArray):List Nat->Nat->SS->Nat×SS
 | [],k,s=>(k,s)
 |r::l,k,s=>
  if s.full=true\/Ee (EC s k) p=false then(k,s)
  else if r=k then Cw p l k s
  else if(B2 (EC s k) (EC s r) p).2≠0 then Cw p l k s
  else Cw p l (Er s ⟨3,p,0,0,k,r⟩ (B2 (EC s k) (EC s r) p).1).1 (Er s ⟨3,p,0,0,k,r⟩ (B2 (EC s k) (EC s r) p).1).2
def Ev:Nat×SS:=Er s ⟨2,p,0,0,0,0⟩ (IP p (Co x p))
def D7(reasons:List Nat)(s:SS):Nat×SS:=
 Cw p ((Ev x p (BS s n).2).1::reasons) (BS s n).1 (Ev x p (BS s n).2).2
structure KW where
 res:Nat
 found:Bool
 ss:SS
 dec:List Cd
 stack:List (List Sk)
def Eh(rec:List Cd->SS->List (List Sk)->KW)(x:List Rl)(p:ByteArray)(needs:List Nd)(n0:Nd)(dec:List Cd)(stack:List (List Sk)):List Cd->SS->List Nat->List Sk->KW
 | [],s,reasons,_=>⟨(D7 x p n0 reasons s).1,false,(D7 x p n0 reasons s).2,dec,stack⟩
 |c::cs,s,reasons,skips=>
  let after (k:Nat) (s:SS):KW:=if Ee (EC s k) p=false then⟨k,false,s,dec,stack⟩else Eh rec x p needs n0 dec stack cs s (reasons++[k]) (skips++[⟨p,c.place,k⟩])
  if s.full=true then⟨0,false,s,dec,stack⟩
  else match needs.find? fun n=>!has n.rq.set c.place with
   |some n=>Eh rec x p needs n0 dec stack cs (BS s n).2 (reasons++[(BS s n).1]) skips
   |none=>match Pb s.drv (AS (dec++[c]))with
    |some k=>after k s
    |none=>match En dec c with
     |some n=>after (BS s n).1 (BS s n).2
     |none=>
      let o:=rec (dec++[c]) s (stack++[skips])
      if o.found=true then⟨0,true,o.ss,o.dec,o.stack⟩
      else if o.ss.full=true then⟨0,false,o.ss,dec,stack⟩
      else after o.res o.ss
def Do(x:List Rl)(roots:List Rq):Nat->List Cd->SS->List (List Sk)->KW
 |0,dec,s,stack=>⟨0,false,s,dec,stack⟩
 |n+1,dec,s,stack=>match(Fb roots dec).2 with
  | []=>⟨0,true,s,dec,stack⟩
  |n0::l=>Eh (Do x roots n) x (Fb roots dec).1 (n0::l) n0 dec stack (B7 x (Fb roots dec).1) s [] []
abbrev ss0:SS:=⟨[],[],false⟩
def Gn(dec:List Cd):Nat:=(x.filter fun r=>!r.yanked&&!Dt dec r.path).length
def DM:KW:=Do x roots (x.length+1) [] ss0 []
theorem QS(f:Rq->Nat->Nd):∀(l:List Rq) (i k:Nat),(NH f i l)[k]?=(l[k]?).map fun q=>f q (i+k)
 | [],i,k=>by simp[NH]
 |q::l,i,0=>by simp[NH]
 |q::l,i,k+1=>by
  have h:=QS f l (i+1) k;simp only[NH,HC,h];rw[show i+1+k=i+(k+1) by omega]
theorem L4(f:Rq->Nat->Nd):∀(l:List Rq) (i:Nat),(NH f i l).length=l.length
 | [],_=>rfl
 |_::l,i=>by simp[NH,L4 f l (i+1)]
theorem ca{f:Rq->Nat->Nd}{l:List Rq}{n:Nd}(h:n∈NH f 0 l):∃k q,l[k]?=some q/\n=f q k:=by
 obtain⟨k,hk⟩:=Ct.1 h;rw[QS,AX]at hk;obtain⟨q,h1,h2⟩:=hk;exact⟨k,q,h1,by rw[<-h2,Bb]⟩
theorem T0{f:Rq->Nat->Nd}(hf:∀q i,(f q i).rq=q):∀(l:List Rq) (i:Nat),(NH f i l).map (·.rq)=l
 | [],_=>rfl
 |q::l,i=>by simp[NH,hf,T0 hf l (i+1)]
abbrev IS(dec:List Cd):List Rq:=roots++(dec.map fun c=>c.rel.reqs).flatten
theorem N8(dec:List Cd):(DR roots dec).map (·.rq)=IS roots dec:=by
 unfold DR cD;rw[At,T0 (fun _ _=>rfl),Uf,Bq]
 congr 2
 exact Bg fun c _=>T0 (fun _ _=>rfl) _ _
theorem Gu(dec:List Cd)(p:ByteArray):Db (AS dec) p=Dt dec p:=by
 unfold Db Dt AS;rw[List.any_map];rfl
theorem KI(before:List Sl):∀{l:List Rq} {a p:ByteArray},DS before l (some a)=some p->p=a\/Ed p a=true
 | [],a,p,h=>by cases h;exact .inl rfl
 |q::l,a,p,h=>by
  unfold DS at h;split at h
  .exact KI before h
  .dsimp only at h;split at h
   .rename_i hb;rcases KI before h with e|e
    .exact .inr (by rw[e];exact hb)
    .exact .inr (D8 e hb)
   .exact KI before h
theorem JC(before:List Sl):∀{l:List Rq} {a:ByteArray},DS before l (some a)≠none
 | [],a=>by simp[DS]
 |q::l,a=>by
  unfold DS;split
  .exact JC before
  .dsimp only;split<;>exact JC before
theorem Qo{n:Nd}{p:ByteArray}(e:n.rq.path≠p)(L:List Nd):((n::L).filter fun n=>decide (n.rq.path=p))=L.filter fun n=>decide (n.rq.path=p):=by rw[Dx,Aj (by simpa using e)]
theorem Y1{n:Nd}{p:ByteArray}(e:n.rq.path=p)(L:List Nd):((n::L).filter fun n=>decide (n.rq.path=p))=n::L.filter fun n=>decide (n.rq.path=p):=by rw[Dx,Ap (by simpa using e)]
theorem Oa(dec:List Cd):∀(L:List Nd) (a:ByteArray×List Nd),(a.2≠[]->Dt dec a.1=false) ->
  L.foldl (EG dec) a=match DS (AS dec) (L.map (·.rq)) (if a.2=[]then none else some a.1)with
   |none=>a
   |some p=>(p,(if a.2≠[]/\a.1=p then a.2 else [])++L.filter fun n=>decide (n.rq.path=p))
 | [],a,h=>by
  obtain⟨p,o⟩:=a;cases o with
  |nil=>simp[DS]
  |cons n o=>simp[DS]
 |n::L,a,h=>by
  obtain⟨p0,o⟩:=a;rw[Fk,AJ];have zG:∀(acc:Option ByteArray) (l:List Rq),(∀p,acc=some p->Dt dec p=false)->∀p,DS (AS dec) l acc=some p->Dt dec p=false:=fun acc l ha p hp=>by
   have:=((Lj (AS dec) (l:=l) (acc:=acc) (fun p e=>by rw[Gu];exact ha p e)).1 p hp).1
   rw[Gu]at this;exact this
  cases hd:Dt dec n.rq.path with
  |true=>
   have e1:EG dec (p0,o) n=(p0,o):=by unfold EG;rw[Ap (.inl hd)]
   have e2:DS (AS dec) (n.rq::L.map (·.rq)) (if o=[]then none else some p0)=DS (AS dec) (L.map (·.rq)) (if o=[]then none else some p0):=by
    conv=>lhs;unfold DS
    rw[Ap (by rw[Gu];exact hd)]
   rw[e1,e2,Oa dec L (p0,o) h];dsimp only;cases hg:DS (AS dec) (L.map (·.rq)) (if o=[]then none else some p0)with
   |none=>rfl
   |some p=>
    dsimp only;have hp:=zG _ _ (fun q e=>by
     split at e
     .cases e
     .rename_i ho;cases e;exact h ho) p hg
    have DJ:n.rq.path≠p:=fun e=>by rw[e,hp]at hd;cases hd
    rw[Qo DJ]
  |false=>
   have TC:Db (AS dec) n.rq.path=false:=by rw[Gu];exact hd
   by_cases ho:o=[]
   .subst ho;have e1:EG dec (p0,[]) n=(n.rq.path,[n]):=by
     unfold EG;rw[Aj (by simp[hd]),Aj B0];rfl
    have e2:DS (AS dec) (n.rq::L.map (·.rq)) none=DS (AS dec) (L.map (·.rq)) (some n.rq.path):=by
     conv=>lhs;unfold DS
     rw[Aj (by rw[TC];decide)]
    rw[e1,Oa dec L (n.rq.path,[n]) (fun _=>hd),Ap rfl,e2];rw[Aj B0];cases hg:DS (AS dec) (L.map (·.rq)) (some n.rq.path)with
    |none=>exact absurd hg (JC _)
    |some p=>
     dsimp only;rw[Aj (show ¬(([]:List Nd)≠[]/\p0=p)from fun h=>h.1 rfl)]
     by_cases e:n.rq.path=p
     .rw[Y1 e,Ap ⟨by simp,e⟩];rfl
     .rw[Qo e,Aj (fun h=>e h.2)]
   .have hif:(if o=[]then none else some p0)=some p0:=Aj ho;rw[hif];cases hb:Ed p0 n.rq.path with
    |true=>
     have e1:EG dec (p0,o) n=(p0,o):=by unfold EG;rw[Ap (.inr ⟨ho,hb⟩)]
     have Rr:Ed n.rq.path p0=false:=NV hb;have e2:DS (AS dec) (n.rq::L.map (·.rq)) (some p0)=DS (AS dec) (L.map (·.rq)) (some p0):=by
      conv=>lhs;unfold DS
      rw[Aj (by rw[TC];decide)];dsimp only;rw[Aj (by rw[Rr];decide)]
     rw[e1,e2,Oa dec L (p0,o) h];dsimp only;rw[hif];cases hg:DS (AS dec) (L.map (·.rq)) (some p0)with
     |none=>rfl
     |some p=>
      dsimp only;have DJ:n.rq.path≠p:=fun e=>by
       rcases KI _ hg with e3|e3
       .rw[e,e3,Dm]at hb;cases hb
       .rw[e,NV e3]at hb;cases hb
      rw[Qo DJ]
    |false=>
     cases Rr:Ed n.rq.path p0 with
     |true=>
      have e1:EG dec (p0,o) n=(n.rq.path,[n]):=by
       unfold EG;rw[Aj (by simp[hd,hb]),Ap ⟨ho,Rr⟩]
      have e2:DS (AS dec) (n.rq::L.map (·.rq)) (some p0)=DS (AS dec) (L.map (·.rq)) (some n.rq.path):=by
       conv=>lhs;unfold DS
       rw[Aj (by rw[TC];decide)];dsimp only;rw[Ap Rr]
      rw[e1,e2,Oa dec L (n.rq.path,[n]) (fun _=>hd),Aj B0];cases hg:DS (AS dec) (L.map (·.rq)) (some n.rq.path)with
      |none=>exact absurd hg (JC _)
      |some p=>
       dsimp only;have DJ:p0≠p:=fun e=>by
        rcases KI _ hg with e3|e3
        .rw[e,e3,Dm]at Rr;cases Rr
        .rw[e]at Rr;rw[NV e3]at Rr;cases Rr
       rw[Aj (show ¬(o≠[]/\p0=p)from fun h=>DJ h.2)]
       by_cases e:n.rq.path=p
       .rw[Y1 e,Ap ⟨by simp,e⟩];rfl
       .rw[Qo e,Aj (fun h=>e h.2)]
     |false=>
      have e0:n.rq.path=p0:=HQ Rr hb;have e1:EG dec (p0,o) n=(p0,o++[n]):=by
       unfold EG;rw[Aj (by simp[hd,hb]),Aj (by simp[Rr]),e0]
      have e2:DS (AS dec) (n.rq::L.map (·.rq)) (some p0)=DS (AS dec) (L.map (·.rq)) (some p0):=by
       conv=>lhs;unfold DS
       rw[Aj (by rw[TC];decide)];dsimp only;rw[Aj (by rw[Rr];decide)]
      rw[e1,e2,Oa dec L (p0,o++[n]) (fun _=>by rw[<-e0];exact hd),Aj B0];cases hg:DS (AS dec) (L.map (·.rq)) (some p0)with
      |none=>exact absurd hg (JC _)
      |some p=>
       dsimp only
       by_cases e:p0=p
       .rw[Y1 (e0.trans e),Ap ⟨by simp,e⟩,Ap ⟨ho,e⟩,BD];rfl
       .rw[Qo (fun h=>e (e0.symm.trans h)),Aj (fun h=>e h.2),Aj (fun h=>e h.2)]
theorem Vy(dec:List Cd):Fb roots dec=match L0 (IS roots dec) (AS dec)with
  |none=>(mt,[])
  |some p=>(p,(DR roots dec).filter fun n=>decide (n.rq.path=p)):=by
 unfold Fb L0;rw[Oa dec _ (mt,[]) (fun h=>absurd rfl h),Ap rfl,N8];cases DS (AS dec) (IS roots dec) none with
 |none=>rfl
 |some p=>dsimp only;rw[Aj B0];rfl
theorem Vz{roots:List Rq}{dec:List Cd}:(Fb roots dec).2=[]↔L0 (IS roots dec) (AS dec)=none:=by
 rw[Vy];cases h:L0 (IS roots dec) (AS dec)with
 |none=>simp
 |some p=>
  simp only[reduceCtorEq,iff_false];obtain⟨_,q,hq,e⟩:=VA h;rw[<-N8]at hq;obtain⟨n,hn,rfl⟩:=Ai.1 hq;exact List.ne_nil_of_mem (Br.2 ⟨hn,by simpa using e⟩)
structure xk(roots:List Rq)(dec:List Cd)(p:ByteArray)(l:List Nd):Prop where
 next:L0 (IS roots dec) (AS dec)=some p
 undone:Dt dec p=false
 mem:∀n,n∈l↔n∈DR roots dec/\n.rq.path=p
theorem MB{roots:List Rq}{dec:List Cd}{n0:Nd}{l:List Nd}(h:(Fb roots dec).2=n0::l):xk roots dec (Fb roots dec).1 (n0::l):=by
 rw[<-h];rw[Vy]at *
 cases hp:L0 (IS roots dec) (AS dec)with
 |none=>rw[hp]at h;cases h
 |some p=>
  dsimp only;refine⟨hp,by rw[<-Gu];exact(VA hp).1,fun n=>?_⟩;rw[Br];simp
theorem Mk{x:List Rl}{p:ByteArray}{c:Cd}:c∈B7 x p↔∃r∈x,r.path=p/\r.yanked=false/\c=⟨plc r.ver,r⟩:=by
 unfold B7;simp only[Ai,Br,Af,AA,CK];constructor
 .rintro⟨r,⟨h1,h2,h3⟩,rfl⟩;exact⟨r,h1,h2,h3,rfl⟩
 .rintro⟨r,h1,h2,h3,rfl⟩;exact⟨r,⟨h1,h2,h3⟩,rfl⟩
theorem Of{i:Nf}:∀{l:List Nf} {k m:Nat},M8 i k l=some m->∃j,m=k+j/\l[j]?=some i
 | [],_,_,h=>by cases h
 |y::l,k,m,h=>by
  unfold M8 at h;split at h
  .rename_i e;cases h;exact⟨0,rfl,by rw[<-e];rfl⟩
  .obtain⟨j,h1,h2⟩:=Of h;exact⟨j+1,by omega,h2⟩
theorem RY{i:Nf}:∀{l:List Nf} {k:Nat},M8 i k l=none->i∉l
 | [],_,_=>by simp
 |y::l,k,h=>by
  unfold M8 at h;split at h
  .cases h
  .rename_i e
   have:=RY h
   simp only[Ay,not_or];exact⟨fun e'=>e e'.symm,this⟩
theorem Tf{α:Type}{d d' : List α}{i:Int}{a:α}(h:KJ d i=some a)(hp:d <+: d'):KJ d' i=some a:=by
 unfold KJ at *
 split at h
 .cases h
 .rename_i hi;rw[Aj hi];obtain⟨t,rfl⟩:=hp;rw[AT (Aw.1 h).1];exact h
theorem bC{x:List Rl}{roots:List Rq}{d':List (List Tm)}{i:Nf}{o:List Tm}(h:Ei x roots d i=some o)(hp:d <+: d'):Ei x roots d' i=some o:=by
 unfold Ei at *
 split
 .rename_i e;rw[Ap e]at h;exact h
 rename_i e0;rw[Aj e0]at h;split
 .rename_i e;rw[Ap e]at h;exact h
 rename_i e1;rw[Aj e1]at h;split
 .rename_i e;rw[Ap e]at h;exact h
 rename_i e2;rw[Aj e2]at h;split
 .rename_i e;rw[Ap e]at h;split
  .rename_i e4;rw[Ap e4]at h;cases ha:KJ d i.left with
   |none=>rw[ha]at h;cases h
   |some a=>
    cases hb:KJ d i.right with
    |none=>rw[ha,hb]at h;cases h
    |some b=>
     rw[ha,hb]at h;rw[Tf ha hp,Tf hb hp];exact h
  .rename_i e4;rw[Aj e4]at h;cases h
 .rename_i e;rw[Aj e]at h;cases h
structure FO(x:List Rl)(roots:List Rq)(s:SS):Prop where
 der:DA x roots s.infs []=some s.drv
 len:s.infs.length<=65536
theorem FO.dlen{x:List Rl}{roots:List Rq}{s:SS}(h:FO x roots s):s.drv.length=s.infs.length:=by simpa using J9 h.der
theorem FO.nil:FO x roots ss0:=⟨rfl,by simp⟩
theorem FO.at{x:List Rl}{roots:List Rq}{s:SS}(h:FO x roots s){k:Nat}{i:Nf}(hk:s.infs[k]?=some i):Ei x roots s.drv i=some (s.drv.getD k []):=by
 have h1:=Ov h.der (k+1);have h0:=Ov h.der k;have DF:=(Aw.1 hk).1;rw[Bh,hk,HT,h0]at h1;have h1:DA x roots [i] (s.drv.take k)=some (s.drv.take (k+1)):=h1;unfold DA at h1;cases hi:Ei x roots (s.drv.take k) i with
 |none=>rw[hi]at h1;cases h1
 |some t=>
  rw[hi]at h1;have h1:some (s.drv.take k++[t])=some (s.drv.take (k+1)):=h1;have hd:k<s.drv.length:=by rw[h.dlen];exact DF
  have:t=s.drv[k]:=by
   have h2:=Cj h1;rw[BN hd]at h2;exact List.singleton_inj.1 (List.append_cancel_left h2)
  rw[bC hi (List.take_prefix ..),this];simp[List.getD_eq_getElem?_getD,hd]
structure Grow(s s' : SS):Prop where
 pre:s.drv <+: s'.drv
 preI:s.infs <+: s'.infs
 full:s.full=true->s'.full=true
theorem Grow.refl:Grow s s:=⟨Oi,Oi,id⟩
theorem Grow.trans{a b c:SS}(h:Grow a b)(k:Grow b c):Grow a c:=⟨h.pre.trans k.pre,h.preI.trans k.preI,fun e=>k.full (h.full e)⟩
theorem Grow.at{s:SS}(h:Grow s s')(hk:k<s.drv.length):EC s' k=EC s k:=by
 obtain⟨t,e⟩:=h.pre;unfold EC;rw[<-e,Cf,Cf,AT hk]
theorem Grow.len{s:SS}(h:Grow s s'):s.drv.length<=s'.drv.length:=h.pre.length_le
theorem LP(i:Nf)(l:List Tm):Grow s (Er s i l).2:=by
 unfold Er;split
 .exact .refl s
 .split
  .exact⟨Oi,Oi,fun _=>rfl⟩
  .exact⟨PL ..,PL ..,id⟩
theorem LO{x:List Rl}{roots:List Rq}{s:SS}(h:FO x roots s){i:Nf}(hi:Ei x roots s.drv i=some l) :
  FO x roots (Er s i l).2/\(Er s i l).1<(Er s i l).2.drv.length/\((Er s i l).2.full=false->EC (Er s i l).2 (Er s i l).1=l):=by
 have hdl:=h.dlen;unfold Er;split
 .rename_i k hk;obtain⟨j,e,hj⟩:=Of hk
  have:k=j:=by omega
  subst this;have DF:=(Aw.1 hj).1;refine⟨h,by show k<s.drv.length;omega,fun _=>?_⟩
  have:=h.at hj
  rw[hi]at this;exact(Cj this).symm
 .rename_i hk;split
  .rename_i hf;exact⟨⟨h.der,h.len⟩,by show s.infs.length-1<s.drv.length;omega,fun e=>by cases e⟩
  .rename_i hf;refine⟨⟨?_,by show(s.infs++[i]).length<=65536;rw[Ac];simp;omega⟩,by show s.infs.length<(s.drv++[l]).length;rw[Ac];simp;omega,fun _=>?_⟩
   .show DA x roots (s.infs++[i]) []=some (s.drv++[l]);rw[HT,h.der];show DA x roots [i] s.drv=_;unfold DA;rw[hi];rfl
   .show(s.drv++[l]).getD s.infs.length []=l;rw[<-hdl];simp[List.getD_eq_getElem?_getD]
theorem dj(i:Nf)(l:List Tm):(Er s i l).2.infs.length<=s.infs.length+1:=by
 unfold Er;split
 .simp
 .split<;>simp
theorem am{s:SS}(i:Nf)(l:List Tm)(hf:s.full=false)(hc:s.infs.length<65536):(Er s i l).2.full=false:=by
 unfold Er;split
 .exact hf
 .split
  .omega
  .exact hf
theorem UL(S:List Sl):∀{l:List (List Tm)} {i k:Nat},Qg S i l=some k->∃j,k=i+j/\∃t,l[j]?=some t/\Dh t S=true
 | [],_,_,h=>by cases h
 |t::l,i,k,h=>by
  unfold Qg at h;split at h
  .rename_i e;cases h;exact⟨0,rfl,t,rfl,e⟩
  .obtain⟨j,h1,t',h2,h3⟩:=UL S h;exact⟨j+1,by omega,t',h2,h3⟩
theorem LU{S:List Sl}(h:Pb d S=some k):k<d.length/\Dh (d.getD k []) S=true:=by
 obtain⟨j,h1,t,h2,h3⟩:=UL S h
 have:k=j:=by omega
 subst this;refine⟨(Aw.1 h2).1,?_⟩;rw[Cf,h2];exact h3
end Go.Eng
