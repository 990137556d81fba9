/- Lemmas for the claims of this seat, without a condition: part 2 (P8, P9, P10, P11, P12, P13, P14, Q1). -/
import Derived.Test.YtddfphmpfnmknaaGreatDoorDA01
import Derived.Lib.SplitLaws
import Derived.Lib.IndexBytes
namespace Go.Eng
def CE(l:Ba):Ba:=(l.map Ee).filter fun x=>decide (x.1<x.2)
theorem OE(a b:Ba):CE (a++b)=CE a++CE b:=by unfold CE;rw[Ay,Cf]
theorem Va{l:Ba}{x:Int×Int}(h:x∈CE l):0≤x.1∧x.1<x.2∧x.2≤1000000:=by
 unfold CE at h;rw[BO,Am]at h;obtain⟨⟨y,_,rfl⟩,h2⟩:=h;have h2:=A5 h2;refine⟨?_,h2,?_⟩<;>simp only[Ee]<;>omega
theorem cc(l:Ba)(p:Int):(CE l).any (BL p)=has l p:=by
 rw[←KC]
 induction l with
 |nil=>rfl
 |cons x r ih =>
  have e:CE (x::r)=(if(Ee x).1<(Ee x).2 then [Ee x]else [])++CE r:=by
   unfold CE;rw[AP,Ch]
   by_cases h:(Ee x).1<(Ee x).2<;>simp[h]
  have ec:canon (x::r)=if(Ee x).1<(Ee x).2 then Wj (Ee x) (canon r)else canon r:=rfl
  rw[e,HE,ih,ec]
  by_cases h:(Ee x).1<(Ee x).2
  ·rw[Ap h,Ap h,Ov _ p (Ck r) h];simp
  ·rw[Aj h,Aj h];simp
theorem NI:∀{l:Ba} {lo:Int},EW lo l↔(∀y∈l,lo≤y.1∧y.1<y.2∧y.2≤1000000)∧l.Pairwise fun a b=>a.2<b.1
 | [],lo=>by simp[EW]
 |y::r,lo=>by
  rw[BG];constructor
  ·intro h;have hl:=h.low;refine⟨hl,fun z hz=>?_,((NI (l:=r)).1 h.2.2.2).2⟩
   have:=h.2.2.2.low z hz;omega
  ·intro⟨h1,h2,h3⟩;have hy:=h1 y (Ab ..);refine⟨hy.1,hy.2.1,hy.2.2,NI.2 ⟨fun z hz=>?_,h3⟩⟩
   have:=h1 z (Ai _ hz)
   have:=h2 z hz
   omega
def JJ(r:Ba)(x:Int×Int):Ba:=match r with
 | []=>[x]
 |y::t=>if x.1≤y.2 then(y.1,max y.2 x.2)::t else x::y::t
def Bq(s:Ba):Ba:=s.foldl JJ []
theorem Fv(s:Ba)(i:Nat)(h:i<s.length):Bq (s.take (i+1))=JJ (Bq (s.take i)) s[i]:=by
 unfold Bq;rw[Bk,Ax h,FE];rfl
theorem dP(r:Ba)(x:Int×Int):(JJ r x).length≤r.length+1∧r.length≤(JJ r x).length∧0<(JJ r x).length:=by
 unfold JJ;split
 ·simp
 ·split<;>simp
theorem N4(s:Ba):∀i,i≤s.length→(Bq (s.take i)).length≤i∧(0<i→0<(Bq (s.take i)).length):=by
 intro i
 induction i with
 |zero=>intro _;simp[Bq]
 |succ i ih =>
  intro h;rw[Fv s i (by omega)]
  have:=dP (Bq (s.take i)) s[i]
  have:=ih (by omega)
  omega
structure m9(r done:Ba):Prop where
 ok:∀y∈r,0≤y.1∧y.1<y.2∧y.2≤1000000
 pw:r.Pairwise fun a b=>b.2<a.1
 has:∀p,r.any (BL p)=done.any (BL p)
 first:∀y t,r=y::t→∃x∈done,y.1=x.1
theorem dO{r done:Ba}{x:Int×Int}(h:m9 r done)(hx:0≤x.1∧x.1<x.2∧x.2≤1000000)(hs:∀y∈done,y.1≤x.1):m9 (JJ r x) (done++[x]):=by
 unfold JJ;split
 ·refine⟨fun y hy=>?_,by simp,fun p=>?_,fun y t e=>?_⟩
  ·rw[Aq.1 hy];exact hx
  ·rw[HE,←h.has];rfl
  ·cases e;exact⟨x,by simp,rfl⟩
 ·rename_i y t;have hy:=h.ok y (Ab ..);obtain⟨pw1,pw2⟩:=BG.1 h.pw;obtain⟨z,hz,e⟩:=h.first y t rfl
  have qe:=hs z hz;split
  ·rename_i He;refine⟨fun u hu=>?_,BG.2 ⟨pw1,pw2⟩,fun p=>?_,fun u t' e'=>?_⟩
   ·rcases AA.1 hu with rfl | hu
    ·exact⟨hy.1,by dsimp only;omega,by dsimp only;omega⟩
    ·exact h.ok u (Ai _ hu)
   ·rw[HE,←h.has,B6,B6,B6,List.any_nil,Bool.or_false]
    have:BL p (y.1,max y.2 x.2)=(BL p y||BL p x):=by
     simp only[BL];rw[BR];simp only[Ah,Cj,Au];omega
    rw[this];cases BL p y<;>cases BL p x<;>cases t.any (BL p)<;>rfl
   ·cases e';exact⟨z,Bn _ hz,e⟩
  ·rename_i He;refine⟨fun u hu=>?_,BG.2 ⟨fun u hu=>?_,h.pw⟩,fun p=>?_,fun u t' e'=>?_⟩
   ·rcases AA.1 hu with rfl | hu
    ·exact hx
    ·exact h.ok u hu
   ·rcases AA.1 hu with rfl | hu
    ·omega
    ·have:=pw1 u hu;omega
   ·rw[HE,←h.has,B6,B6,B6,List.any_nil,Bool.or_false];cases BL p y<;>cases BL p x<;>cases t.any (BL p)<;>rfl
   ·cases e';exact⟨x,by simp,rfl⟩
theorem ZS{s:Ba}(GO:∀y∈s,0≤y.1∧y.1<y.2∧y.2≤1000000)(hs:s.Pairwise fun a b=>a.1≤b.1):∀i,i≤s.length→m9 (Bq (s.take i)) (s.take i):=by
 intro i
 induction i with
 |zero=>intro _;exact⟨fun _ h=>by simp[Bq]at h,by simp[Bq],fun p=>by simp[Bq],fun y t e=>by simp[Bq]at e⟩
 |succ i ih =>
  intro h;have hi:i<s.length:=by omega
  rw[Fv s i hi];have e:s.take (i+1)=s.take i++[s[i]]:=by rw[Bk,Ax hi];rfl
  rw[e];refine dO (ih (by omega)) (GO _ (At hi)) fun y hy=>?_;obtain⟨j,hj,rfl⟩:=Dm.1 hy;rw[GA];rw[AC]at hj;exact(AZ.1 hs) j i (by omega) hi (by omega)
theorem LA{l s:Ba}(hp:s.Perm (CE l))(hs:s.Pairwise fun a b=>a.1≤b.1):(Bq s).reverse=canon l:=by
 have hi:=ZS (s:=s) (fun y hy=>Va (hp.mem_iff.1 hy)) hs s.length (Al _);rw[DM]at hi;have hc:EM (Bq s).reverse:=by
  unfold EM;rw[NI];refine⟨fun y hy=>hi.ok y (List.mem_reverse.1 hy),?_⟩;rw[List.pairwise_reverse];exact hi.pw
 refine SK hc fun p=>?_;rw[HP hc,List.any_reverse,hi.has,←cc];rw[BR,Bc,Bc];constructor
 ·rintro⟨y,h1,h2⟩;exact⟨y,hp.mem_iff.1 h1,h2⟩
 ·rintro⟨y,h1,h2⟩;exact⟨y,hp.mem_iff.2 h1,h2⟩
-- maps from numbers to numbers,as lists in the order in which they are met
def Fx(m:List (Int×Int))(k:Int):Int:=match m.find? (fun p=>decide (p.1=k))with | some p=>p.2 | none=>0
def Lq(m:List (Int×Int))(k v:Int):List (Int×Int):=if m.any (fun p=>decide (p.1=k))then m.map (fun p=>if p.1=k then(k,v)else p)else m++[(k,v)]
theorem Hw(p:Int×Int)(m:List (Int×Int))(k:Int):Fx (p::m) k=if p.1=k then p.2 else Fx m k:=by
 unfold Fx;rw[E0];by_cases h:p.1=k<;>simp[h]
theorem PG(m:List (Int×Int))(k v j:Int):Fx (Lq m k v) j=if j=k then v else Fx m j:=by
 unfold Lq;split
 ·rename_i h
  induction m with
  |nil=>simp at h
  |cons p m ih =>
   rw[AP,Hw,Hw]
   by_cases e:p.1=k
   ·rw[Ap e];dsimp only
    by_cases ej:j=k
    ·subst ej;simp
    ·rw[Aj (fun c=>ej c.symm),Aj ej,Aj (fun c=>ej (c.symm.trans e))]
     by_cases hm:(m.any fun p=>decide (p.1=k))=true
     ·rw[ih hm,Aj ej]
     ·have:∀q∈m,q.1≠k:=fun q hq e=>hm (Bc.2 ⟨q,hq,by simp[e]⟩)
      have:m.map (fun p=>if p.1=k then(k,v)else p)=m:=by
       conv=>rhs;rw[←JU m]
       exact Be fun q hq=>by simp[this q hq]
      rw[this]
   ·rw[Aj e];have hm:(m.any fun p=>decide (p.1=k))=true:=by simpa[e]using h
    rw[ih hm]
    by_cases ej:j=k
    ·subst ej;simp[e]
    ·simp[ej]
 ·rename_i h;have hn:∀q∈m,q.1≠k:=fun q hq e=>h (Bc.2 ⟨q,hq,by simp[e]⟩)
  induction m with
  |nil =>
   rw[FK,Hw]
   by_cases ej:j=k
   ·simp[ej]
   ·have:¬k=j:=fun c=>ej c.symm
    simp[ej,this]
  |cons p m ih =>
   rw[D4,Hw,Hw];have e:=hn p (Ab ..);have ih:=ih (by simpa[e]using h) fun q hq=>hn q (Ai _ hq)
   by_cases ep:p.1=j
   ·have:¬j=k:=fun c=>e (ep.trans c)
    simp[ep,this]
   ·simp only[ep,GF];exact ih
def Ff(m:List (Int×Int)):List Int:=m.map (·.1)
theorem Vw(m:List (Int×Int))(k v:Int):Ff (Lq m k v)=if k∈Ff m then Ff m else Ff m++[k]:=by
 unfold Lq Ff;have e:(m.any fun p=>decide (p.1=k))=decide (k∈m.map (·.1)):=by
  rw[BR];simp only[Bc,Au,Am]
 rw[e]
 by_cases h:k∈m.map (·.1)
 ·simp only[h,decide_true,Rj,BQ];apply Be;intro p _;simp only[Function.comp];split
  ·rename_i e;exact e.symm
  ·rfl
 ·simp[h]
theorem Mk{m:List (Int×Int)}(h:(Ff m).Nodup)(k v:Int):(Ff (Lq m k v)).Nodup:=by
 rw[Vw];split
 ·exact h
 ·rename_i hn;rw[GB];exact⟨h,by simp,fun a ha b hb e=>by subst e;rw[Aq.1 hb]at ha;exact hn ha⟩
theorem Io(m:List (Int×Int))(k v j:Int):j∈Ff (Lq m k v)↔j=k∨j∈Ff m:=by
 rw[Vw];split
 ·rename_i h;constructor
  ·exact .inr
  ·rintro(rfl | h')
   ·exact h
   ·exact h'
 ·simp[or_comm]
theorem jv{m:List (Int×Int)}(h:(Ff m).Nodup){p:Int×Int}(hp:p∈m):Fx m p.1=p.2:=by
 induction m with
 |nil=>cases hp
 |cons q m ih =>
  rw[Hw];unfold Ff at h ih;rw[AP,CU]at h;rcases AA.1 hp with rfl | hp
  ·simp
  ·have:¬q.1=p.1:=fun e=>h.1 (e▸Am.2 ⟨p,hp,rfl⟩)
   rw[Aj this];exact ih h.2 hp
theorem jw{m:List (Int×Int)}{k:Int}(h:k∉Ff m):Fx m k=0:=by
 unfold Fx
 have:m.find? (fun p=>decide (p.1=k))=none:=by
  rw[DC];intro p hp;simp only[Au];exact fun e=>h (Am.2 ⟨p,hp,e⟩)
 rw[this]
-- counting
def cF(S:Ba)(k:Int):Nat:=S.countP fun x=>decide (x.1=k)
def cT(S:Ba)(k:Int):Nat:=S.countP fun x=>decide (x.2=k)
def lF(S:Ba)(k:Int):Nat:=S.countP fun x=>decide (x.1≤k)
def lT(S:Ba)(k:Int):Nat:=S.countP fun x=>decide (x.2≤k)
theorem I8{α:Type}{p q r:α→Bool}:∀{l:List α},(∀x∈l,(p x=true↔q x=true∨r x=true)∧¬(q x=true∧r x=true))→l.countP p=l.countP q+l.countP r
 | [],_=>rfl
 |x::l,h=>by
  have ih:=I8 fun y hy=>h y (Ai _ hy);obtain⟨h1,h2⟩:=h x (Ab ..);rw[IR,IR,IR,ih];cases hp:p x<;>cases hq:q x<;>cases hr:r x<;>simp_all<;>omega
structure IA(m:List (Int×Int))(S:Ba):Prop where
 nd:(Ff m).Nodup
 val:∀k,Fx m k=(cF S k:Int)-cT S k
 keys:0∈Ff m∧1000000∈Ff m∧∀x∈S,x.1∈Ff m∧x.2∈Ff m
 rng:∀k∈Ff m,0≤k∧k≤1000000
def qP:List (Int×Int):=[(0,0),(1000000,0)]
theorem kg:IA qP []:=⟨by decide,fun k=>by
  unfold qP;rw[Hw,Hw];simp[Fx,cF,cT],⟨by decide,by decide,fun _ h=>by cases h⟩,fun k hk=>by
  unfold qP Ff at hk;simp at hk;omega⟩
def YW(m:List (Int×Int))(x:Int×Int):List (Int×Int):=Lq (Lq m x.1 (Fx m x.1+1)) x.2 (Fx (Lq m x.1 (Fx m x.1+1)) x.2-1)
theorem dN{m:List (Int×Int)}{S:Ba}{x:Int×Int}(h:IA m S)(hx:0≤x.1∧x.1<x.2∧x.2≤1000000):IA (YW m x) (S++[x]):=by
 unfold YW;refine⟨Mk (Mk h.nd _ _) _ _,fun k=>?_,⟨?_,?_,fun y hy=>?_⟩,fun k hk=>?_⟩
 ·rw[PG,PG,PG,h.val,h.val,h.val];unfold cF cT;simp only[List.countP_append,List.countP_singleton,Au]
  by_cases e1:k=x.2
  ·subst e1
   have:¬x.2=x.1:=by omega
   have:¬x.1=x.2:=by omega
   simp[*];omega
  ·by_cases e2:k=x.1
   ·subst e2
    have:¬x.2=x.1:=by omega
    have:¬x.1=x.2:=by omega
    simp[*];omega
   ·have a1:¬x.1=k:=fun c=>e2 c.symm;have a2:¬x.2=k:=fun c=>e1 c.symm;simp[e1,e2,a1,a2]
 ·rw[Io,Io];exact .inr (.inr h.keys.1)
 ·rw[Io,Io];exact .inr (.inr h.keys.2.1)
 ·simp only[Io];rcases A1.1 hy with hy | hy
  ·have:=h.keys.2.2 y hy
   exact⟨.inr (.inr this.1),.inr (.inr this.2)⟩
  ·rw[Aq.1 hy];exact⟨.inr (.inl rfl),.inl rfl⟩
 ·rw[Io,Io]at hk;rcases hk with rfl | rfl | hk
  ·omega
  ·omega
  ·exact h.rng k hk
def IM(m:List (Int×Int))(B:List Int):Int:=(B.map (Fx m)).foldl (·+·) 0
theorem QI(m:List (Int×Int))(B:List Int)(i:Nat)(h:i<B.length):IM m (B.take (i+1))=IM m (B.take i)+Fx m B[i]:=by
 unfold IM;rw[Bk,Ax h,Ay,FE];simp only[Option.toList_some,AP,Fg,Eo,List.foldl_nil]
structure jS(B:List Int)(m:List (Int×Int)):Prop where
 perm:B.Perm (Ff m)
 srt:B.Pairwise fun a b=>a<b
theorem bC{m:List (Int×Int)}{S:Ba}{B:List Int}(h:IA m S)(hB:jS B m):∀i (hi:i<B.length),IM m (B.take (i+1))=(lF S B[i]:Int)-lT S B[i]:=by
 have mem:∀k,k∈Ff m→∃j,∃hj:j<B.length,B[j]=k:=fun k hk=>by
  have:=hB.perm.mem_iff.2 hk
  obtain⟨j,hj,e⟩:=Dm.1 this;exact⟨j,hj,e⟩
 have lt:∀i j (hi:i<B.length) (hj:j<B.length),i<j→B[i]<B[j]:=fun i j hi hj PK=>(AZ.1 hB.srt) i j hi hj PK;intro i
 induction i with
 |zero =>
  intro hi;rw[QI m B 0 hi,h.val]
  have:IM m (B.take 0)=0:=by simp[IM]
  rw[this];have low:∀k∈Ff m,B[0]≤k:=fun k hk=>by
   obtain⟨j,hj,rfl⟩:=mem k hk;cases j with
   |zero=>exact BJ _
   |succ j=>have:=lt 0 (j+1) hi hj (by omega);omega
  have e1:lF S B[0]=cF S B[0]:=by
   unfold lF cF;apply QR;intro x hx
   have:=low _ (h.keys.2.2 x hx).1
   simp only[Au];omega
  have e2:lT S B[0]=cT S B[0]:=by
   unfold lT cT;apply QR;intro x hx
   have:=low _ (h.keys.2.2 x hx).2
   simp only[Au];omega
  rw[e1,e2];omega
 |succ i ih =>
  intro hi;rw[QI m B (i+1) hi,ih (by omega),h.val];have nb:∀k∈Ff m,k≤B[i+1]↔k≤B[i]∨k=B[i+1]:=fun k hk=>by
   obtain⟨j,hj,rfl⟩:=mem k hk;have l0:=lt i (i+1) (by omega) hi (by omega);rcases QT j (i+1)with c | c | c
   ·have:B[j]≤B[i]:=by
     rcases B7 j i with d | d
     ·have:=lt j i hj (by omega) d;omega
     ·have:j=i:=by omega
      subst this;exact BJ _
    omega
   ·subst c;omega
   ·have:=lt (i+1) j hi hj c;omega
  have l0:=lt i (i+1) (by omega) hi (by omega);have e1:lF S B[i+1]=lF S B[i]+cF S B[i+1]:=by
   unfold lF cF;apply I8;intro x hx
   have:=nb _ (h.keys.2.2 x hx).1
   simp only[Au];omega
  have e2:lT S B[i+1]=lT S B[i]+cT S B[i+1]:=by
   unfold lT cT;apply I8;intro x hx
   have:=nb _ (h.keys.2.2 x hx).2
   simp only[Au];omega
  rw[e1,e2];omega
theorem XG{S:Ba}(hS:∀x∈S,x.1<x.2)(p:Int):(lF S p:Int)-lT S p=(S.countP (BL p):Nat):=by
 have:lF S p=S.countP (BL p)+lT S p:=by
  unfold lF lT;apply I8;intro x hx
  have:=hS x hx
  simp only[BL,Ah,Au];omega
 omega
theorem OG:∀{l:Ba} {lo:Int} (p:Int),EW lo l→l.countP (BL p)=if l.any (BL p)then 1 else 0
 | [],_,_,_=>rfl
 |y::r,lo,p,⟨h1,h2,h3,h4⟩=>by
  rw[IR,OG p h4,B6];cases hy:BL p y with
  |false=>rw[Jp];simp
  |true =>
   have:=DN.1 hy
   have:r.any (BL p)=false:=by
    rw[AK];intro hr;have:=MD h4 hr;omega
   simp[this]
theorem LZ:∀(l:List Ba) (p:Int),((l.map canon).flatten).countP (BL p)=dX l p
 | [],_=>rfl
 |s::l,p=>by
  rw[AP,BC,List.countP_append,LZ l p,OG p (Ck s),KC];unfold dX;rw[IR];omega
def EE(keep:Nat→Bool)(m:List (Int×Int))(B:List Int):Nat→Ba
 |0=>[]
 |i+1=>EE keep m B i++(match B[i]?,B[i+1]? with
  |some a,some b=>if keep (IM m (B.take (i+1))).toNat then [(a,b)]else []
  |_,_=>[])
theorem Qf{keep:Nat→Bool}{m:List (Int×Int)}{B:List Int}{x:Int×Int}:∀{n:Nat},x∈EE keep m B n↔∃i,i<n∧∃(h1:i<B.length) (h2:i+1<B.length),keep (IM m (B.take (i+1))).toNat=true∧x=(B[i],B[i+1])
 |0=>by simp[EE]
 |n+1=>by
  unfold EE;rw[A1,Qf (n:=n)];constructor
  ·rintro(⟨i,h1,h2⟩ | h)
   ·exact⟨i,by omega,h2⟩
   ·split at h
    ·rename_i a b ha hb;obtain⟨h1,e1⟩:=As.1 ha;obtain⟨h2,e2⟩:=As.1 hb;split at h
     ·rename_i hk;refine⟨n,by omega,h1,h2,hk,?_⟩;rw[Aq.1 h,e1,e2]
     ·cases h
    ·cases h
  ·rintro⟨i,h1,h2,h3,h4,rfl⟩
   by_cases e:i=n
   ·subst e;refine .inr ?_;rw[Ax h2,Ax h3];simp[h4]
   ·exact .inl ⟨i,by omega,h2,h3,h4,rfl⟩
theorem OA{B:List Int}(hs:B.Pairwise fun a b=>a<b){p:Int}:∀(n:Nat) (h0:0<B.length) (hn:n<B.length),B[0]≤p→p<B[n]→∃i,∃(h1:i<B.length) (h2:i+1<B.length),B[i]≤p∧p<B[i+1]
 |0,h0,hn,h1,h2=>by omega
 |n+1,h0,hn,h1,h2=>by
  by_cases e:B[n]≤p
  ·exact⟨n,by omega,hn,e,h2⟩
  ·exact OA hs n h0 (by omega) h1 (by omega)
theorem ia{keep:Nat→Bool}{l:List Ba}{m:List (Int×Int)}{B:List Int}(h:IA m (l.map canon).flatten)(hB:jS B m)(p:Int):has (EE keep m B (B.length-1)) p=(LO p&&keep (dX l p)):=by
 have hS:∀x∈(l.map canon).flatten,x.1<x.2:=fun x hx=>by
  obtain⟨s,hs,hx⟩:=EA.1 hx;obtain⟨t,_,rfl⟩:=Am.1 hs;exact((Ck t).low x hx).2.1
 have mem:∀k,k∈Ff m→∃j,∃hj:j<B.length,B[j]=k:=fun k hk=>by
  obtain⟨j,hj,e⟩:=Dm.1 (hB.perm.mem_iff.2 hk);exact⟨j,hj,e⟩
 have lt:∀i j (hi:i<B.length) (hj:j<B.length),i<j→B[i]<B[j]:=fun i j hi hj PK=>(AZ.1 hB.srt) i j hi hj PK;have rng:∀i (hi:i<B.length),0≤B[i]∧B[i]≤1000000:=fun i hi=>h.rng _ (hB.perm.mem_iff.1 (At hi))
 -- Ws two bounds
 have Ws:∀i (h1:i<B.length) (h2:i+1<B.length),B[i]≤p→p<B[i+1]→(IM m (B.take (i+1))).toNat=dX l p:=fun i h1 h2 a b=>by
  have same:∀k∈Ff m,k≤B[i]↔k≤p:=fun k hk=>by
   obtain⟨j,hj,rfl⟩:=mem k hk;constructor
   ·intro c;omega
   ·intro c;rcases B7 i j with d | d
    ·rcases B7 (i+1) j with f | f
     ·have:=lt (i+1) j h2 hj f;omega
     ·have:j=i+1:=by omega
      subst this;omega
    ·rcases B7 j i with f | f
     ·have:=lt j i hj h1 f;omega
     ·have:j=i:=by omega
      subst this;exact BJ _
  have e1:lF (l.map canon).flatten B[i]=lF (l.map canon).flatten p:=by
   unfold lF;apply QR;intro x hx
   have:=same _ (h.keys.2.2 x hx).1
   simp only[Au];exact this
  have e2:lT (l.map canon).flatten B[i]=lT (l.map canon).flatten p:=by
   unfold lT;apply QR;intro x hx
   have:=same _ (h.keys.2.2 x hx).2
   simp only[Au];exact this
  rw[bC h hB i h1,e1,e2,XG hS,LZ];simp
 rw[BR];constructor
 ·intro hh;have Y3:=Ma hh;unfold has at hh;simp only[Y3,decide_true,EL]at hh;obtain⟨x,hx,hp⟩:=Bc.1 hh;obtain⟨i,_,h1,h2,hk,rfl⟩:=Qf.1 hx
  have:=DN.1 hp
  dsimp only at this;rw[←Ws i h1 h2 this.1 this.2];simp[LO,Y3,hk]
 ·intro hh;simp only[Ah,LO,Au]at hh;obtain⟨⟨p0,p1⟩,hk⟩:=hh;obtain⟨j0,hj0,e0⟩:=mem 0 h.keys.1;obtain⟨j1,hj1,e1⟩:=mem 1000000 h.keys.2.1;have wG:B[0]'(by omega)≤p:=by
   have:B[0]'(by omega)≤0:=by
    cases j0 with
    |zero=>omega
    |succ j=>have:=lt 0 (j+1) (by omega) hj0 (by omega);omega
   omega
  obtain⟨i,h1,h2,a,b⟩:=OA hB.srt j1 (by omega) hj1 wG (by omega);unfold has;simp only[p0,p1,decide_true,EL];exact Bc.2 ⟨(B[i],B[i+1]),Qf.2 ⟨i,by omega,h1,h2,by rw[Ws i h1 h2 a b];exact hk,rfl⟩,DN.2 ⟨a,b⟩⟩
theorem jl{l:List Ba}{m:List (Int×Int)}{B:List Int}(h:IA m (l.map canon).flatten)(hB:jS B m)(i:Nat)(hi:i<B.length):0≤IM m (B.take (i+1))∧IM m (B.take (i+1))≤l.length:=by
 have hS:∀x∈(l.map canon).flatten,x.1<x.2:=fun x hx=>by
  obtain⟨s,hs,hx⟩:=EA.1 hx;obtain⟨t,_,rfl⟩:=Am.1 hs;exact((Ck t).low x hx).2.1
 rw[bC h hB i hi,XG hS,LZ]
 have:dX l B[i]≤l.length:=List.countP_le_length
 omega
def W3(m:List Tm)(t:Tm):List Tm:=if m.any (fun u=>decide (u.path=t.path))then m.map (fun u=>if u.path=t.path then t else u)else m++[t]
def RC(m:List Tm)(t:Tm):List Tm:=W3 m (N9 (Dt m t.path) t)
def CY(l:List Tm):List Tm:=l.foldl RC []
theorem cq(t:Tm)(p:ByteArray):∀m:List Tm,Dt (W3 m t) p=if t.path=p then some t else Dt m p:=by
 intro m;unfold W3
 by_cases h:(m.any fun u=>decide (u.path=t.path))=true
 ·rw[Ap h]
  induction m with
  |nil=>simp at h
  |cons u m ih =>
   rw[AP,CN,CN]
   by_cases e:u.path=t.path
   ·rw[Ap e]
    by_cases ep:t.path=p
    ·simp[ep]
    ·rw[Aj ep,Aj ep,Aj (fun c=>ep (e.symm.trans c))]
     by_cases hm:(m.any fun u=>decide (u.path=t.path))=true
     ·rw[ih hm,Aj ep]
     ·have:∀q∈m,q.path≠t.path:=fun q hq c=>hm (Bc.2 ⟨q,hq,by simp[c]⟩)
      have:m.map (fun u=>if u.path=t.path then t else u)=m:=by
       conv=>rhs;rw[←JU m]
       exact Be fun q hq=>by simp[this q hq]
      rw[this]
   ·rw[Aj e];have hm:(m.any fun u=>decide (u.path=t.path))=true:=by simpa[e]using h
    rw[ih hm]
    by_cases ep:t.path=p
    ·subst ep;simp[e]
    ·simp[ep]
 ·rw[Aj h];have hn:∀q∈m,q.path≠t.path:=fun q hq e=>h (Bc.2 ⟨q,hq,by simp[e]⟩)
  clear h
  induction m with
  |nil=>rw[FK,CN]
  |cons u m ih =>
   rw[D4,CN,CN,ih fun q hq=>hn q (Ai _ hq)]
   have:=hn u (Ab ..)
   by_cases e:u.path=p
   ·have:¬t.path=p:=fun c=>this (e.trans c.symm)
    simp[e,this]
   ·simp[e]
def EF(m:List Tm):List ByteArray:=m.map (·.path)
open Classical in
theorem aa(m:List Tm)(t:Tm):EF (W3 m t)=if t.path∈EF m then EF m else EF m++[t.path]:=by
 unfold W3 EF;have e:(m.any fun u=>decide (u.path=t.path))=true↔t.path∈m.map (·.path):=by
  simp only[Bc,Au,Am]
 by_cases h:t.path∈m.map (·.path)
 ·rw[Ap (e.2 h),Ap h,BQ];apply Be;intro p _;simp only[Function.comp];split
  ·rename_i e;exact e.symm
  ·rfl
 ·rw[Aj (fun c=>h (e.1 c)),Aj h,Ay];rfl
theorem dh{m:List Tm}(h:(EF m).Nodup)(t:Tm):(EF (W3 m t)).Nodup:=by
 rw[aa];split
 ·exact h
 ·rename_i hn;rw[GB];exact⟨h,by simp,fun a ha b hb e=>by subst e;rw[Aq.1 hb]at ha;exact hn ha⟩
theorem Rt(l:List Tm)(i:Nat)(h:i<l.length):CY (l.take (i+1))=RC (CY (l.take i)) l[i]:=by
 unfold CY;rw[Bk,Ax h,FE];rfl
theorem OT:∀(l m:List Tm),(EF m).Nodup→(EF (l.foldl RC m)).Nodup
 | [],_,h=>h
 |_::l,_,h=>OT l _ (dh h _)
theorem HT(l:List Tm):(EF (CY l)).Nodup:=OT l [] .nil
theorem XU(m:List Tm)(t:Tm)(p:ByteArray):Dt (RC m t) p=Kc p (Dt m p) t:=by
 unfold RC Kc;have hp:(N9 (Dt m t.path) t).path=t.path:=Qr _ _ fun u h=>Hd h;rw[cq,hp]
 by_cases e:t.path=p
 ·rw[Ap e,Ap e,e]
 ·rw[Aj e,Aj e]
theorem OQ(p:ByteArray):∀(l m:List Tm),Dt (l.foldl RC m) p=l.foldl (Kc p) (Dt m p)
 | [],_=>rfl
 |t::l,m=>by rw[Eo,Eo,OQ p l,XU]
theorem Zv(l:List Tm)(p:ByteArray):Dt (CY l) p=Dt (Fa l) p:=by
 unfold CY;rw[OQ,Jc];rfl
theorem L5{m:List Tm}(h:(EF m).Nodup){t:Tm}:t∈m↔Dt m t.path=some t:=by
 constructor
 ·induction m with
  |nil=>intro h;cases h
  |cons u m ih =>
   intro ht;unfold EF at h ih;rw[AP,CU]at h;rw[CN];rcases AA.1 ht with rfl | ht
   ·rw[Ap rfl]
   ·have:¬u.path=t.path:=fun e=>h.1 (e▸Am.2 ⟨t,ht,rfl⟩)
    rw[Aj this];exact ih h.2 ht
 ·exact Fm
theorem HY{m:List Tm}(h:(EF m).Nodup):m.Nodup:=by
 unfold EF at h
 induction m with
 |nil=>exact .nil
 |cons u m ih =>
  rw[AP,CU]at h;exact CU.2 ⟨fun hu=>h.1 (Am.2 ⟨u,hu,rfl⟩),ih h.2⟩
theorem H6{l:List Tm}{lo:Option ByteArray}(h:Cc lo l):(EF l).Nodup:=by
 unfold EF
 induction l generalizing lo with
 |nil=>exact .nil
 |cons t l ih =>
  rw[AP,CU];refine⟨fun hm=>?_,ih h.2.2⟩;obtain⟨u,hu,e⟩:=Am.1 hm
  have:=h.2.2.low u hu
  rw[e,Dd]at this;cases this
theorem Jk(l:List Tm)(t:Tm):t∈CY l↔t∈Fa l:=by
 rw[L5 (HT l),Zv,←L5 (H6 (Ey l))]
theorem Pi(l:List Tm):∀t∈CY l,EM t.set:=fun t ht=>(Ey l).canon t ((Jk l t).1 ht)
theorem dQ(m:List Tm)(t:Tm):(RC m t).length≤m.length+1:=by
 unfold RC W3;split<;>simp
theorem N3(l:List Tm):∀i,i≤l.length→(CY (l.take i)).length≤i:=by
 intro i
 induction i with
 |zero=>intro _;simp[CY]
 |succ i ih =>
  intro h;rw[Rt l i (by omega)]
  have:=dQ (CY (l.take i)) l[i]
  have:=ih (by omega)
  omega
theorem au{s:List Tm}(hs:s.Pairwise fun x y=>Eg x.path y.path=true)(hc:∀t∈s,EM t.set):Cc none s:=by
 have:∀(s:List Tm) (lo:Option ByteArray),s.Pairwise (fun x y=>Eg x.path y.path=true)→(∀t∈s,EM t.set)→(∀p,lo=some p→∀t∈s,Eg p t.path=true)→Cc lo s:=by
  intro s
  induction s with
  |nil=>intro _ _ _ _;trivial
  |cons t s ih =>
   intro lo hs hc hl;obtain⟨h1,h2⟩:=BG.1 hs;exact⟨fun p e=>hl p e t (Ab ..),hc t (Ab ..),ih _ h2 (fun u hu=>hc u (Ai _ hu)) fun p e u hu=>by cases e;exact h1 u hu⟩
 exact this s none hs hc fun _ e=>by cases e
theorem PT{l s:List Tm}(q:Tm→Bool)(hp:s.Perm ((CY l).filter q))(hs:s.Pairwise fun x y=>Eg y.path x.path=false):s=(Fa l).filter q:=by
 have hm:∀t,t∈s↔t∈(Fa l).filter q:=fun t=>by
  rw[hp.mem_iff,BO,BO,Jk]
 have RK:(EF s).Nodup:=by
  have h1:(EF ((CY l).filter q)).Nodup:=by
   unfold EF;exact List.Nodup.sublist (List.Sublist.map _ List.filter_sublist) (HT l)
  unfold EF at h1⊢;exact(hp.map (·.path)).nodup_iff.2 h1
 have Jy:s.Pairwise fun x y=>Eg x.path y.path=true:=by
  rw[AZ]at hs⊢;intro i j hi hj PK;cases hb:Eg s[i].path s[j].path with
  |true=>rfl
  |false =>
   have e:=HH hb (hs i j hi hj PK);unfold EF at RK
   have:=(AZ.1 RK) i j (by simpa using hi) (by simpa using hj) PK
   simp at this;exact absurd e this
 have zY:Cc none s:=au Jy fun t ht=>(Ey l).canon t (BO.1 ((hm t).1 ht)).1;have eu:Cc none ((Fa l).filter q):=Cc.filter q (Ey l);refine MB zY eu fun p=>?_;cases h1:Dt s p with
 |some t =>
  have:=(hm t).1 (Fm h1)
  rw[FR eu,Hd h1]at this;exact this.symm
 |none =>
  cases h2:Dt ((Fa l).filter q) p with
  |none=>rfl
  |some t =>
   have:=(hm t).2 (Fm h2)
   rw[FR zY,Hd h2,h1]at this;cases this
theorem Zj(t:Tm):G3 t t=Lz t:=by unfold G3 Lz;rw[ZL,Bool.and_self]
theorem bw(o:Option Tm)(t:Tm):N9 o t=G3 (o.getD t) t:=by cases o with | none=>exact(Zj t).symm | some u=>rfl
theorem bP{t:Tm}(h:EM t.set):(t.absent&&(Et t.set).isEmpty)=GL t:=by
 unfold GL
 congr 1
 rw[BR,F4,Au];have ha:EM [(0,1000000)]:=⟨BJ _,by dsimp only;omega,BJ _,trivial⟩;constructor
 ·intro e;refine HI h ha fun p=>?_
  have:=FS t.set p
  rw[e]at this;have h0:has [] p=false:=by simp[has]
  rw[h0]at this;have h1:has [(0,1000000)] p=LO p:=by simp[has,LO,BL]
  rw[h1];cases hp:LO p with
  |true=>rw[hp]at this;simpa using this.symm
  |false =>
   rw[AK];intro hh
   have:=Ma hh
   simp[LO,this]at hp
 ·intro e;rw[Qn (Hm _)];intro p;rw[FS,e];have h1:has [(0,1000000)] p=LO p:=by simp[has,LO,BL]
  rw[h1];simp
theorem ir{t:Tm}(h:EM t.set):(!t.absent&&(canon t.set).isEmpty)=HX t:=by unfold HX;rw[Js h]
end Go.Eng
namespace Go.Eng
open Go.Lib
theorem QF(c:UInt8):∀(s:List UInt8) (k:Nat),s.count c≤k→splitK [c] 0 k s=CH c s
 | [],k,_=>by
  cases k with
  |zero=>rfl
  |succ k=>rfl
 |b::r,k,h=>by
  rw[CH]
  by_cases e:b=c
  ·subst e;rw[List.count_cons_self]at h;obtain⟨k',rfl⟩:∃k',k=k'+1:=⟨k-1,by omega⟩;rw[Ap rfl,splitK,index_one,indexByte];simp only[beq_self_eq_true,Rj];rw[Aj (by decide)];show []::splitK [b] 0 k' r=_;rw[QF b r k' (by omega)]
  ·have DF:(b == c)=false:=by simpa using e
   rw[List.count_cons_of_ne (by simpa using e)]at h;have ih:=QF c r k h;rw[Aj e];cases k with
   |zero =>
    rw[←ih];rfl
   |succ k =>
    rw[←ih,splitK,splitK,index_one,index_one,indexByte,DF]
    by_cases h0:indexByte r c=-1
    ·rw[h0];rfl
    ·have h1:(indexByte r c == -1)=false:=by simpa using h0
     have h2:=indexByte_ge r c;have h3:(indexByte r c+1 == -1)=false:=by rw[beq_eq_false_iff_ne];omega
     simp only[Du,GF,h1,h3];obtain⟨i,hi⟩:∃i:Nat,indexByte r c=i:=⟨(indexByte r c).toNat,by omega⟩;rw[hi];show(b::r).take (((i:Int)+1).toNat+0)::_=(b::r.take ((i:Int).toNat+0))::_;rw[show((i:Int)+1).toNat=i+1 by omega,show((i:Nat):Int).toNat=i by omega]
     rfl
theorem XF(c:UInt8):∀(n:Nat) (s:List UInt8),s.length≤n→count s [c]=s.count c
 |n,s,hn=>by
  rcases Int.lt_or_le (indexByte s c) 0 with h | h
  ·have h2:=indexByte_ge s c;have h3:indexByte s c=-1:=by omega
   rw[count_miss (by rw[index_one];exact h3)]
   symm
   rw[List.count_eq_zero];intro hm;obtain⟨k,hk,e⟩:=BU hm;exact indexByte_none h3 k (by rw[Ax hk,e])
  ·obtain⟨i,hi⟩:∃i:Nat,indexByte s c=i:=⟨(indexByte s c).toNat,by omega⟩;obtain⟨h1,h2⟩:=indexByte_some hi;obtain⟨hl,hg⟩:=As.1 h1;cases n with
   |zero=>omega
   |succ n =>
    have hc:=count_hit (s:=s) (sub:=[c]) (i:=i) (by simp) (by rw[index_one];exact hi);rw[hc];have ih:=XF c n (s.drop (i+1)) (by rw[Cu];omega);have so:s=s.take i++c::s.drop (i+1):=by
     rw[←hg,←A7 hl,H8]
    have h0:(s.take i).count c=0:=by
     rw[List.count_eq_zero];intro hm;obtain⟨k,hk,e⟩:=BU hm;rw[AC]at hk;rw[GA]at e;exact h2 k (by omega) (by rw[Ax (by omega),e])
    conv=>rhs;rw[so]
    rw[List.count_append,h0,List.count_cons_self];show 1+count (s.drop (i+1)) [c]=_;rw[ih];omega
theorem dM(s:ByteArray)(c:UInt8):((splitB ⟨#[c]⟩ 0 (countB s ⟨#[c]⟩) s).map (·.data.toList))=CH c s.data.toList:=by
 rw[splitB_data];refine QF c _ _ ?_;show _≤count s.data.toList [c];rw[XF c _ _ (Al _)];exact Al _
end Go.Eng
namespace Go.Eng
theorem VE{α:Type}:∀{l m:List α},l.Nodup→(∀x∈l,x∈m)→l.length≤m.length
 | [],_,_,_=>AD _
 |a::l,m,hn,hs=>by
  obtain⟨h1,h2⟩:=CU.1 hn;obtain⟨s,t,rfl⟩:=List.append_of_mem (hs a (Ab ..))
  have:l.length≤(s++t).length:=VE h2 fun x hx=>by
   rcases A1.1 (hs x (Ai _ hx))with h | h
   ·exact Bn _ h
   ·rcases AA.1 h with rfl | h
    ·exact absurd hx h1
    ·exact Bg _ h
  simp only[Ae,Az]at this⊢;omega
theorem LC(p:ByteArray):∀(l:List Tm) (o:Option Tm),(∀u∈l,u.path≠p)→l.foldl (Kc p) o=o
 | [],_,_=>rfl
 |t::l,o,h=>by
  rw[Eo,show Kc p o t=o by unfold Kc;rw[Aj (h t (Ab ..))]];exact LC p l o fun u hu=>h u (Ai _ hu)
theorem ZT{l:List Tm}{t:Tm}(h:t∈Fa l):∃u∈l,u.path=t.path:=by
 apply AN;intro hn
 have:∀u∈l,u.path≠t.path:=fun u hu e=>hn ⟨u,hu,e⟩
 have h1:=(FR (Ey l)).1 h;rw[Jc,LC _ _ _ this]at h1;cases h1
def UR(U:List ByteArray)(t:List Tm):Prop:=Cc none t∧∀u∈t,u.path∈U
theorem UR.len{U:List ByteArray}{t:List Tm}(h:UR U t):t.length≤U.length:=by
 have:=VE (H6 h.1) (m:=U) fun p hp=>by
  obtain⟨u,hu,rfl⟩:=Am.1 hp;exact h.2 u hu
 unfold EF at this
 rwa [Bb]at this
theorem Zk{l c:List Tm}(h:CR l=some c){t:Tm}(ht:t∈c):t∈Fa l:=by
 unfold CR at h;split at h
 ·cases h
 ·cases h;exact(BO.1 ht).1
theorem PS{U:List ByteArray}{l c:List Tm}(h:CR l=some c)(hu:∀u∈l,u.path∈U):UR U c :=
 ⟨E2 h,fun t ht=>by
  obtain⟨u,h1,h2⟩:=ZT (Zk h ht);rw[←h2];exact hu u h1⟩
theorem UR.nil(U:List ByteArray):UR U []:=⟨trivial,fun u hu=>by cases hu⟩
theorem TZ{U:List ByteArray}{l:List Tm}(hu:∀u∈l,u.path∈U):UR U (Qo l):=by
 unfold Qo;cases h:CR l with
 |none=>exact .nil U
 |some c=>exact PS h hu
theorem Rz{U:List ByteArray}{a b:List Tm}{p:ByteArray}(ha:UR U a)(hb:UR U b):UR U (Bz a b p).1:=by
 have sp:∀{l r:List Tm} {t:Tm},UR U l→FB l p=some (t,r)→t.path∈U∧∀u∈r,u.path∈U:=by
  intro l r t hl h;unfold FB at h;cases e:CR l with
  |none=>rw[e]at h;cases h
  |some c =>
   rw[e]at h;have h:(match Dt c p with | none=>none | some t=>some (t,FY c p))=some (t,r):=h;have hc:=PS e hl.2;cases e2:Dt c p with
   |none=>rw[e2]at h;cases h
   |some u =>
    rw[e2]at h;cases h;exact⟨hc.2 _ (Fm e2),fun u hu=>hc.2 u (BO.1 hu).1⟩
 unfold Bz;split
 ·rename_i t r u m e1 e2;obtain⟨a1,a2⟩:=sp ha e1;obtain⟨b1,b2⟩:=sp hb e2;split
  ·rename_i o e3;refine PS e3 fun v hv=>?_;rcases A1.1 hv with hv | hv
   ·rcases A1.1 hv with hv | hv
    ·exact a2 v hv
    ·exact b2 v hv
   ·rw[Aq.1 hv];exact a1
  ·exact .nil U
 ·exact .nil U
def Kp(x:List Rl)(roots:List Rq)(l:List Nf):List ByteArray:=(x.map (·.path))++((x.map (·.reqs)).flatten.map (·.path)++(roots.map (·.path)++l.map (·.path)))
theorem cO{x:List Rl}{roots:List Rq}{l:List Nf}{d:List (List Tm)}{i:Nf}(hi:i∈l)(hd:∀t∈d,UR (Kp x roots l) t){t:List Tm}(h:DW x roots d i=some t):UR (Kp x roots l) t:=by
 have hp:i.path∈Kp x roots l:=by
  unfold Kp;exact Bg _ (Bg _ (Bg _ (Am.2 ⟨i,hi,rfl⟩)))
 have nz:∀{α:Type} {l:List α} {k:Int} {a:α},JE l k=some a→a∈l:=by
  intro α l k a h;unfold JE at h;split at h
  ·cases h
  ·exact Av h
 have n0:∀{a b:List Tm},c9 a=some b→b=a:=by
  intro a b h;unfold c9 at h;split at h
  ·cases h
  ·cases h;rfl
 unfold DW at h;split at h
 ·split at h
  ·cases e:JE roots i.number with
   |none=>rw[e]at h;cases h
   |some q =>
    rw[e]at h;cases h;refine TZ fun u hu=>?_;rw[Aq.1 hu];unfold Kp;exact Bg _ (Bg _ (Bn _ (Am.2 ⟨q,nz e,rfl⟩)))
  ·cases h
 split at h
 ·split at h
  ·cases e:Pr x i.path i.place with
   |none=>rw[e]at h;cases h
   |some r =>
    rw[e]at h;have h:(match JE r.reqs i.number with | none=>none | some q=>c9 (Es i.path i.place q))=some t:=h;cases e2:JE r.reqs i.number with
    |none=>rw[e2]at h;cases h
    |some q =>
     rw[e2]at h;have h:=n0 (show c9 (Es i.path i.place q)=some t from h);subst h;refine TZ fun u hu=>?_;rcases AA.1 hu with rfl | hu
     ·exact hp
     ·rw[Aq.1 hu];unfold Kp;refine Bg _ (Bn _ (Am.2 ⟨q,?_,rfl⟩));exact EA.2 ⟨r.reqs,Am.2 ⟨r,Cn e,rfl⟩,nz e2⟩
  ·cases h
 split at h
 ·split at h
  ·have h:=n0 h;subst h;refine TZ fun u hu=>?_;rw[Aq.1 hu];exact hp
  ·cases h
 split at h
 ·split at h
  ·cases e:JE d i.left with
   |none=>rw[e]at h;cases h
   |some a =>
    cases e2:JE d i.right with
    |none=>rw[e,e2]at h;cases h
    |some b =>
     rw[e,e2]at h;have h:(if(Bz a b i.path).2=0 then some (Bz a b i.path).1 else none)=some t:=h;split at h
     ·cases h;exact Rz (hd a (nz e)) (hd b (nz e2))
     ·cases h
  ·cases h
 ·cases h
def oV:List (List UInt8):=[[97,110,100],[97,110,121],[97,115],[98,111,111,108],[100,101,112,114,101,99,97,116,101,100],[101,108,115,101],[101,120,112,111,114,116],[102,97,108,115,101],[102,110],[102,111,108,100],[102,114,111,109],[105,102],[105,109,112,111,114,116],[105,110],[105,110,116],[108,101,110,103,116,104],[108,101,116],[108,105,115,116],[109,97,116,99,104],[109,111,100,117,108,101],[110,111,110,101],[110,111,116],[111,114],[116,101,120,116],[116,104,101,110],[116,114,117,101],[116,121,112,101],[117,115,101]]
theorem cR:ZO=32::oV.flatMap (fun w=>w++[32]):=by decide +kernel
theorem oW:∀w∈oV,∀c∈w,c≠32:=by decide +kernel
theorem VJ:∀(s w r:List UInt8),(∀c∈s,c≠32)→(∀c∈w,c≠32)→Na (s++[32]) (w++32::r)=decide (w=s)
 | [],[],r,_,_=>by simp[Na]
 | [],b::w,r,_,hw=>by
  have:=hw b (Ab ..)
  simp[Na,this.symm]
 |a::s,[],r,hs,_=>by
  have:=hs a (Ab ..)
  simp[Na,this]
 |a::s,b::w,r,hs,hw=>by
  have ih:=VJ s w r (fun c hc=>hs c (Ai _ hc)) (fun c hc=>hw c (Ai _ hc));rw[D4,D4,Na,ih]
  by_cases e:a=b
  ·subst e;simp
  ·have e2:¬b=a:=fun h=>e h.symm;simp[e,e2]
theorem Yf(x:List UInt8):∀(w r:List UInt8),(∀c∈w,c≠32)→gU (32::x) (w++r)=gU (32::x) r
 | [],_,_=>rfl
 |b::w,r,h=>by
  have hb:=h b (Ab ..);rw[D4,gU,Yf x w r (fun c hc=>h c (Ai _ hc))]
  have:Na (32::x) (b::(w++r))=false:=by simp[Na,hb.symm]
  rw[this,Jp]
theorem Vo(s:List UInt8)(hs:∀c∈s,c≠32):∀ws:List (List UInt8),(∀w∈ws,∀c∈w,c≠32)→gU (32::(s++[32])) (32::ws.flatMap (fun w=>w++[32]))=ws.any (fun w=>decide (w=s))
 | [],_=>by
  cases s with
  |nil=>simp[gU,Na]
  |cons a s=>simp[gU,Na]
 |w::ws,h=>by
  have hw:=h w (Ab ..);have ih:=Vo s hs ws (fun v hv=>h v (Ai _ hv));have e:(w::ws).flatMap (fun w=>w++[32])=w++32::ws.flatMap (fun w=>w++[32]):=by simp[List.flatMap_cons]
  rw[e,gU,Na,VJ s w _ hs hw,Yf _ w _ hw,ih,B6];simp
theorem me{s:List UInt8}(h:s.all FZ=true):∀c∈s,c≠32:=fun c hc e=>by
 have:=AY.1 h c hc
 rw[e]at this;exact absurd this (by decide)
theorem ZN{s:List UInt8}(h:s.all FZ=true):UL s=oV.any (fun w=>decide (w=s)):=by
 unfold UL;rw[cR,Vo s (me h) oV oW]
theorem Yk(s:Ba)(x:Int×Int)(k:Nat){t:Ba}(h:s.Perm t):(s.take k++([x]++s.drop k)).Perm (t++[x]):=by
 have h1:(s.take k++([x]++s.drop k)).Perm (x::(s.take k++s.drop k)):=by
  rw[List.singleton_append];exact List.perm_middle
 rw[H8]at h1;exact h1.trans ((List.Perm.cons x h).trans (List.perm_append_singleton x t).symm)
theorem TF(s:Ba)(x:Int×Int)(k:Nat)(hs:s.Pairwise fun a b=>a.1≤b.1)(h1:∀j (hj:j<s.length),k≤j→x.1<s[j].1)(h2:k=0∨∃h:k-1<s.length,s[k-1].1≤x.1):(s.take k++([x]++s.drop k)).Pairwise fun a b=>a.1≤b.1:=by
 have oy:∀a∈s.take k,a.1≤x.1:=fun a ha=>by
  obtain⟨j,hj,e⟩:=BU ha;rw[AC]at hj;rw[GA]at e;rcases h2 with h2 | ⟨hk,h2⟩
  ·omega
  ·rcases B7 j (k-1)with z | z
   ·have:=AZ.1 hs j (k-1) (by omega) hk z
    rw[e]at this;omega
   ·have:j=k-1:=by omega
    subst this;rw[←e];exact h2
 have zI:∀b∈s.drop k,x.1≤b.1:=fun b hb=>by
  obtain⟨j,hj,e⟩:=BU hb;rw[Cu]at hj;rw[List.getElem_drop]at e
  have:=h1 (k+j) (by omega) (by omega)
  rw[e]at this;omega
 rw[List.pairwise_append];refine⟨hs.sublist (List.take_sublist ..),?_,fun a ha b hb=>?_⟩
 ·rw[List.singleton_append,BG];exact⟨zI,hs.sublist (List.drop_sublist ..)⟩
 ·rw[List.singleton_append]at hb;rcases AA.1 hb with e | hb
  ·rw[e];exact oy a ha
  ·have:=oy a ha
   have:=zI b hb
   omega
structure Cd where
 place:Int
 rel:Rl
structure Nd where
 rq:Rq
 path:ByteArray
 place:Int
 number:Int
structure SS where
 infs:List Nf
 drv:List (List Tm)
 full:Bool
abbrev TH(c:Cd):Sl:=⟨c.rel.path,c.rel.ver⟩
abbrev AO(l:List Cd):List Sl:=l.map TH
def Co(x:List Rl)(p:ByteArray):List Cd:=(x.filter fun r=>decide (r.path=p)&&!r.yanked).map fun r=>⟨plc r.ver,r⟩
def Mo(f:Rq→Nat→Nd):Nat→List Rq→List Nd
 |_,[]=>[]
 |i,q::l=>f q i::Mo f (i+1) l
def YU(roots:List Rq):List Nd:=Mo (fun q i=>⟨q,mt,0,i⟩) 0 roots
def Qt(c:Cd):List Nd:=Mo (fun q i=>⟨q,c.rel.path,c.place,i⟩) 0 c.rel.reqs
def Dx(roots:List Rq)(dec:List Cd):List Nd:=YU roots++(dec.map Qt).flatten
def Do(dec:List Cd)(p:ByteArray):Bool:=dec.any fun c=>decide (c.rel.path=p)
def Er(dec:List Cd)(a:ByteArray×List Nd)(n:Nd):ByteArray×List Nd :=
 if Do dec n.rq.path=true∨(a.2≠[]∧Eg a.1 n.rq.path=true)then a
 else if a.2≠[]∧Eg n.rq.path a.1=true then(n.rq.path,[n])else(n.rq.path,a.2++[n])
def GT(roots:List Rq)(dec:List Cd):ByteArray×List Nd:=(Dx roots dec).foldl (Er dec) (mt,[])
def bf(l:List Cd)(n:Nd):Bool:=l.any fun d=>decide (d.rel.path=n.rq.path)&&!has n.rq.set d.place
def Ek(dec:List Cd)(c:Cd):Option Nd:=(Qt c).find? (bf (dec++[c]))
def OI(s:List Sl):Nat→List (List Tm)→Option Nat
 |_,[]=>none
 |i,t::l=>if CG t s then some i else OI s (i+1) l
def OJ(d:List (List Tm))(s:List Sl):Option Nat:=OI s 0 d
def De(l:List Tm)(p:ByteArray):Bool:=l.any fun t=>decide (t.path=p)
instance:DecidableEq Nf:=fun a b=>by
 obtain⟨a1,a2,a3,a4,a5,a6⟩:=a;obtain⟨b1,b2,b3,b4,b5,b6⟩:=b;exact decidable_of_iff (a1=b1∧a2=b2∧a3=b3∧a4=b4∧a5=b5∧a6=b6) ⟨fun⟨h1,h2,h3,h4,h5,h6⟩=>by subst h1 h2 h3 h4 h5 h6;rfl,fun h=>by cases h;exact⟨rfl,rfl,rfl,rfl,rfl,rfl⟩⟩
def LQ(i:Nf):Nat→List Nf→Option Nat
 |_,[]=>none
 |k,j::l=>if j=i then some k else LQ i (k+1) l
def Em(s:SS)(i:Nf)(l:List Tm):Nat×SS :=
 match LQ i 0 s.infs with
 |some k=>(k,s)
 |none=>if 65536≤s.infs.length then(s.infs.length-1,⟨s.infs,s.drv,true⟩)else(s.infs.length,⟨s.infs++[i],s.drv++[l],s.full⟩)
def TB(n:Nd):Nf:=if n.path=mt then⟨0,mt,0,n.number,0,0⟩else⟨1,n.path,n.place,n.number,0,0⟩
def Jf(n:Nd):List Tm:=if n.path=mt then JH n.rq else Es n.path n.place n.rq
def Bm(s:SS)(n:Nd):Nat×SS:=Em s (TB n) (Jf n)
abbrev DP(s:SS)(k:Nat):List Tm:=s.drv.getD k []
def Ci(p:ByteArray):List Nat→Nat→SS→Nat×SS
 | [],k,s=>(k,s)
 |r::l,k,s =>
  if s.full=true∨De (DP s k) p=false then(k,s)
  else if r=k then Ci p l k s
  else if(Bz (DP s k) (DP s r) p).2≠0 then Ci p l k s
  else Ci p l (Em s ⟨3,p,0,0,k,r⟩ (Bz (DP s k) (DP s r) p).1).1 (Em s ⟨3,p,0,0,k,r⟩ (Bz (DP s k) (DP s r) p).1).2
def Eu(x:List Rl)(p:ByteArray)(s:SS):Nat×SS:=Em s ⟨2,p,0,0,0,0⟩ (Ig p (B8 x p))
def Ec(x:List Rl)(p:ByteArray)(n:Nd)(F8:List Nat)(s:SS):Nat×SS :=
 Ci p ((Eu x p (Bm s n).2).1::F8) (Bm s n).1 (Eu x p (Bm s n).2).2
structure Kf where
 res:Nat
 found:Bool
 ss:SS
 dec:List Cd
 stack:List (List Sk)
def D7(rec:List Cd→SS→List (List Sk)→Kf)(x:List Rl)(p:ByteArray)(needs:List Nd)(n0:Nd)(dec:List Cd)(stack:List (List Sk)):List Cd→SS→List Nat→List Sk→Kf
 | [],s,F8,_=>⟨(Ec x p n0 F8 s).1,false,(Ec x p n0 F8 s).2,dec,stack⟩
 |c::cs,s,F8,skips =>
  let after (k:Nat) (s:SS):Kf:=if De (DP s k) p=false then⟨k,false,s,dec,stack⟩else D7 rec x p needs n0 dec stack cs s (F8++[k]) (skips++[⟨p,c.place,k⟩])
  if s.full=true then⟨0,false,s,dec,stack⟩
  else match needs.find? fun n=>!has n.rq.set c.place with
   |some n=>D7 rec x p needs n0 dec stack cs (Bm s n).2 (F8++[(Bm s n).1]) skips
   |none=>match OJ s.drv (AO (dec++[c]))with
    |some k=>after k s
    |none=>match Ek dec c with
     |some n=>after (Bm s n).1 (Bm s n).2
     |none =>
      let o:=rec (dec++[c]) s (stack++[skips])
      if o.found=true then⟨0,true,o.ss,o.dec,o.stack⟩
      else if o.ss.full=true then⟨0,false,o.ss,dec,stack⟩
      else after o.res o.ss
def Df(x:List Rl)(roots:List Rq):Nat→List Cd→SS→List (List Sk)→Kf
 |0,dec,s,stack=>⟨0,false,s,dec,stack⟩
 |n+1,dec,s,stack=>match(GT roots dec).2 with
  | []=>⟨0,true,s,dec,stack⟩
  |n0::l=>D7 (Df x roots n) x (GT roots dec).1 (n0::l) n0 dec stack (Co x (GT roots dec).1) s [] []
abbrev uF:SS:=⟨[],[],false⟩
def Rd(x:List Rl)(dec:List Cd):Nat:=(x.filter fun r=>!r.yanked&&!Do dec r.path).length
def FW(x:List Rl)(roots:List Rq):Kf:=Df x roots (x.length+1) [] uF []
end Go.Eng
