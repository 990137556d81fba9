/- Lemmas for the claims of this seat, without a condition: part 2 (P8, P9, P10, P11, P12, P13, P14, Q1). -/
import Derived.Test.YtmcbkdbfaneofaaGreatDoorBA01
import Derived.Lib.SplitLaws
import Derived.Lib.IndexBytes
namespace Go.Eng
def CM(l:Bc):Bc:=(l.map Ef).filter fun x=>decide (x.1<x.2)
theorem OZ(a b:Bc):CM (a++b)=CM a++CM b:=by unfold CM;rw[AG,DA]
theorem Vo{l:Bc}{x:Int×Int}(h:x∈CM l):0≤x.1∧x.1<x.2∧x.2≤1000000:=by
 unfold CM at h;rw[Bu,Ao]at h;obtain⟨⟨y,_,rfl⟩,h2⟩:=h;have h2:=BC h2;refine⟨?_,h2,?_⟩<;>simp only[Ef]<;>omega
theorem cH(l:Bc)(p:Int):(CM l).any (BR p)=has l p:=by
 rw[←KO]
 induction l with
 |nil=>rfl
 |cons x r ih =>
  have e:CM (x::r)=(if(Ef x).1<(Ef x).2 then [Ef x]else [])++CM r:=by
   unfold CM;rw[AQ,D8]
   by_cases h:(Ef x).1<(Ef x).2<;>simp[h]
  have ec:canon (x::r)=if(Ef x).1<(Ef x).2 then Wo (Ef x) (canon r)else canon r:=rfl
  rw[e,HL,ih,ec]
  by_cases h:(Ef x).1<(Ef x).2
  ·rw[Au h,Au h,OQ _ p (Cs r) h];simp
  ·rw[Al h,Al h];simp
theorem N4:∀{l:Bc} {lo:Int},EV lo l↔(∀y∈l,lo≤y.1∧y.1<y.2∧y.2≤1000000)∧l.Pairwise fun a b=>a.2<b.1
 | [],lo=>by simp[EV]
 |y::r,lo=>by
  rw[CD];constructor
  ·intro h;have hl:=h.low;refine⟨hl,fun z hz=>?_,((N4 (l:=r)).1 h.2.2.2).2⟩
   have:=h.2.2.2.low z hz;omega
  ·intro⟨h1,h2,h3⟩;have hy:=h1 y (Ac ..);refine⟨hy.1,hy.2.1,hy.2.2,N4.2 ⟨fun z hz=>?_,h3⟩⟩
   have:=h1 z (Ah _ hz)
   have:=h2 z hz
   omega
def JU(r:Bc)(x:Int×Int):Bc:=match r with
 | []=>[x]
 |y::t=>if x.1≤y.2 then(y.1,max y.2 x.2)::t else x::y::t
def By(s:Bc):Bc:=s.foldl JU []
theorem Fy(s:Bc)(i:Nat)(h:i<s.length):By (s.take (i+1))=JU (By (s.take i)) s[i]:=by
 unfold By;rw[BA,AB h,KD];rfl
theorem eQ(r:Bc)(x:Int×Int):(JU r x).length≤r.length+1∧r.length≤(JU r x).length∧0<(JU r x).length:=by
 unfold JU;split
 ·simp
 ·split<;>simp
theorem Oo(s:Bc):∀i,i≤s.length→(By (s.take i)).length≤i∧(0<i→0<(By (s.take i)).length):=by
 intro i
 induction i with
 |zero=>intro _;simp[By]
 |succ i ih =>
  intro h;rw[Fy s i (by omega)]
  have:=eQ (By (s.take i)) s[i]
  have:=ih (by omega)
  omega
structure nN(r done:Bc):Prop where
 ok:∀y∈r,0≤y.1∧y.1<y.2∧y.2≤1000000
 pw:r.Pairwise fun a b=>b.2<a.1
 has:∀p,r.any (BR p)=done.any (BR p)
 first:∀y t,r=y::t→∃x∈done,y.1=x.1
theorem eK{r done:Bc}{x:Int×Int}(h:nN r done)(hx:0≤x.1∧x.1<x.2∧x.2≤1000000)(hs:∀y∈done,y.1≤x.1):nN (JU r x) (done++[x]):=by
 unfold JU;split
 ·refine⟨fun y hy=>?_,by simp,fun p=>?_,fun y t e=>?_⟩
  ·rw[As.1 hy];exact hx
  ·rw[HL,←h.has];rfl
  ·cases e;exact⟨x,by simp,rfl⟩
 ·rename_i y t;have hy:=h.ok y (Ac ..);obtain⟨pw1,pw2⟩:=CD.1 h.pw;obtain⟨z,hz,e⟩:=h.first y t rfl
  have qy:=hs z hz;split
  ·rename_i Ho;refine⟨fun u hu=>?_,CD.2 ⟨pw1,pw2⟩,fun p=>?_,fun u t' e'=>?_⟩
   ·rcases AC.1 hu with rfl | hu
    ·exact⟨hy.1,by dsimp only;omega,by dsimp only;omega⟩
    ·exact h.ok u (Ah _ hu)
   ·rw[HL,←h.has,Cc,Cc,Cc,List.any_nil,Bool.or_false]
    have:BR p (y.1,max y.2 x.2)=(BR p y||BR p x):=by
     simp only[BR];rw[BZ];simp only[Ai,CG,Ay];omega
    rw[this];cases BR p y<;>cases BR p x<;>cases t.any (BR p)<;>rfl
   ·cases e';exact⟨z,Bz _ hz,e⟩
  ·rename_i Ho;refine⟨fun u hu=>?_,CD.2 ⟨fun u hu=>?_,h.pw⟩,fun p=>?_,fun u t' e'=>?_⟩
   ·rcases AC.1 hu with rfl | hu
    ·exact hx
    ·exact h.ok u hu
   ·rcases AC.1 hu with rfl | hu
    ·omega
    ·have:=pw1 u hu;omega
   ·rw[HL,←h.has,Cc,Cc,Cc,List.any_nil,Bool.or_false];cases BR p y<;>cases BR p x<;>cases t.any (BR p)<;>rfl
   ·cases e';exact⟨x,by simp,rfl⟩
theorem ai{s:Bc}(GR:∀y∈s,0≤y.1∧y.1<y.2∧y.2≤1000000)(hs:s.Pairwise fun a b=>a.1≤b.1):∀i,i≤s.length→nN (By (s.take i)) (s.take i):=by
 intro i
 induction i with
 |zero=>intro _;exact⟨fun _ h=>by simp[By]at h,by simp[By],fun p=>by simp[By],fun y t e=>by simp[By]at e⟩
 |succ i ih =>
  intro h;have hi:i<s.length:=by omega
  rw[Fy s i hi];have e:s.take (i+1)=s.take i++[s[i]]:=by rw[BA,AB hi];rfl
  rw[e];refine eK (ih (by omega)) (GR _ (Ak hi)) fun y hy=>?_;obtain⟨j,hj,rfl⟩:=Ce.1 hy;rw[Il];rw[AH]at hj;exact(Be.1 hs) j i (by omega) hi (by omega)
theorem LQ{l s:Bc}(hp:s.Perm (CM l))(hs:s.Pairwise fun a b=>a.1≤b.1):(By s).reverse=canon l:=by
 have hi:=ai (s:=s) (fun y hy=>Vo (hp.mem_iff.1 hy)) hs s.length (Am _);rw[Dq]at hi;have hc:EQ (By s).reverse:=by
  unfold EQ;rw[N4];refine⟨fun y hy=>hi.ok y (List.mem_reverse.1 hy),?_⟩;rw[List.pairwise_reverse];exact hi.pw
 refine S0 hc fun p=>?_;rw[HW hc,List.any_reverse,hi.has,←cH];rw[BZ,A8,A8];constructor
 ·rintro⟨y,h1,h2⟩;exact⟨y,hp.mem_iff.1 h1,h2⟩
 ·rintro⟨y,h1,h2⟩;exact⟨y,hp.mem_iff.2 h1,h2⟩
-- maps from numbers to numbers,as lists in the order in which they are met
def FA(m:List (Int×Int))(k:Int):Int:=match m.find? (fun p=>decide (p.1=k))with | some p=>p.2 | none=>0
def LH(m:List (Int×Int))(k v:Int):List (Int×Int):=if m.any (fun p=>decide (p.1=k))then m.map (fun p=>if p.1=k then(k,v)else p)else m++[(k,v)]
theorem HC(p:Int×Int)(m:List (Int×Int))(k:Int):FA (p::m) k=if p.1=k then p.2 else FA m k:=by
 unfold FA;rw[FK];by_cases h:p.1=k<;>simp[h]
theorem PY(m:List (Int×Int))(k v j:Int):FA (LH m k v) j=if j=k then v else FA m j:=by
 unfold LH;split
 ·rename_i h
  induction m with
  |nil=>simp at h
  |cons p m ih =>
   rw[AQ,HC,HC]
   by_cases e:p.1=k
   ·rw[Au e];dsimp only
    by_cases ej:j=k
    ·subst ej;simp
    ·rw[Al (fun c=>ej c.symm),Al ej,Al (fun c=>ej (c.symm.trans e))]
     by_cases hm:(m.any fun p=>decide (p.1=k))=true
     ·rw[ih hm,Al ej]
     ·have:∀q∈m,q.1≠k:=fun q hq e=>hm (A8.2 ⟨q,hq,by simp[e]⟩)
      have:m.map (fun p=>if p.1=k then(k,v)else p)=m:=by
       conv=>rhs;rw[←J4 m]
       exact Bk fun q hq=>by simp[this q hq]
      rw[this]
   ·rw[Al e];have hm:(m.any fun p=>decide (p.1=k))=true:=by simpa[e]using h
    rw[ih hm]
    by_cases ej:j=k
    ·subst ej;simp[e]
    ·simp[ej]
 ·rename_i h;have hn:∀q∈m,q.1≠k:=fun q hq e=>h (A8.2 ⟨q,hq,by simp[e]⟩)
  induction m with
  |nil =>
   rw[Ep,HC]
   by_cases ej:j=k
   ·simp[ej]
   ·have:¬k=j:=fun c=>ej c.symm
    simp[ej,this]
  |cons p m ih =>
   rw[D7,HC,HC];have e:=hn p (Ac ..);have ih:=ih (by simpa[e]using h) fun q hq=>hn q (Ah _ hq)
   by_cases ep:p.1=j
   ·have:¬j=k:=fun c=>e (ep.trans c)
    simp[ep,this]
   ·simp only[ep,Gd];exact ih
def Fi(m:List (Int×Int)):List Int:=m.map (·.1)
theorem VK(m:List (Int×Int))(k v:Int):Fi (LH m k v)=if k∈Fi m then Fi m else Fi m++[k]:=by
 unfold LH Fi;have e:(m.any fun p=>decide (p.1=k))=decide (k∈m.map (·.1)):=by
  rw[BZ];simp only[A8,Ay,Ao]
 rw[e]
 by_cases h:k∈m.map (·.1)
 ·simp only[h,decide_true,Og,BU];apply Bk;intro p _;simp only[Function.comp];split
  ·rename_i e;exact e.symm
  ·rfl
 ·simp[h]
theorem MA{m:List (Int×Int)}(h:(Fi m).Nodup)(k v:Int):(Fi (LH m k v)).Nodup:=by
 rw[VK];split
 ·exact h
 ·rename_i hn;rw[Gy];exact⟨h,by simp,fun a ha b hb e=>by subst e;rw[As.1 hb]at ha;exact hn ha⟩
theorem Iw(m:List (Int×Int))(k v j:Int):j∈Fi (LH m k v)↔j=k∨j∈Fi m:=by
 rw[VK];split
 ·rename_i h;constructor
  ·exact .inr
  ·rintro(rfl | h')
   ·exact h
   ·exact h'
 ·simp[or_comm]
theorem kb{m:List (Int×Int)}(h:(Fi m).Nodup){p:Int×Int}(hp:p∈m):FA m p.1=p.2:=by
 induction m with
 |nil=>cases hp
 |cons q m ih =>
  rw[HC];unfold Fi at h ih;rw[AQ,CI]at h;rcases AC.1 hp with rfl | hp
  ·simp
  ·have:¬q.1=p.1:=fun e=>h.1 (e▸Ao.2 ⟨p,hp,rfl⟩)
   rw[Al this];exact ih h.2 hp
theorem kc{m:List (Int×Int)}{k:Int}(h:k∉Fi m):FA m k=0:=by
 unfold FA
 have:m.find? (fun p=>decide (p.1=k))=none:=by
  rw[D2];intro p hp;simp only[Ay];exact fun e=>h (Ao.2 ⟨p,hp,e⟩)
 rw[this]
-- counting
def cF(S:Bc)(k:Int):Nat:=S.countP fun x=>decide (x.1=k)
def cT(S:Bc)(k:Int):Nat:=S.countP fun x=>decide (x.2=k)
def lF(S:Bc)(k:Int):Nat:=S.countP fun x=>decide (x.1≤k)
def lT(S:Bc)(k:Int):Nat:=S.countP fun x=>decide (x.2≤k)
theorem Jj{α:Type}{p q r:α→Bool}:∀{l:List α},(∀x∈l,(p x=true↔q x=true∨r x=true)∧¬(q x=true∧r x=true))→l.countP p=l.countP q+l.countP r
 | [],_=>rfl
 |x::l,h=>by
  have ih:=Jj fun y hy=>h y (Ah _ hy);obtain⟨h1,h2⟩:=h x (Ac ..);rw[I2,I2,I2,ih];cases hp:p x<;>cases hq:q x<;>cases hr:r x<;>simp_all<;>omega
structure IL(m:List (Int×Int))(S:Bc):Prop where
 nd:(Fi m).Nodup
 val:∀k,FA m k=(cF S k:Int)-cT S k
 keys:0∈Fi m∧1000000∈Fi m∧∀x∈S,x.1∈Fi m∧x.2∈Fi m
 rng:∀k∈Fi m,0≤k∧k≤1000000
def rr:List (Int×Int):=[(0,0),(1000000,0)]
theorem kW:IL rr []:=⟨by decide,fun k=>by
  unfold rr;rw[HC,HC];simp[FA,cF,cT],⟨by decide,by decide,fun _ h=>by cases h⟩,fun k hk=>by
  unfold rr Fi at hk;simp at hk;omega⟩
def Y5(m:List (Int×Int))(x:Int×Int):List (Int×Int):=LH (LH m x.1 (FA m x.1+1)) x.2 (FA (LH m x.1 (FA m x.1+1)) x.2-1)
theorem eJ{m:List (Int×Int)}{S:Bc}{x:Int×Int}(h:IL m S)(hx:0≤x.1∧x.1<x.2∧x.2≤1000000):IL (Y5 m x) (S++[x]):=by
 unfold Y5;refine⟨MA (MA h.nd _ _) _ _,fun k=>?_,⟨?_,?_,fun y hy=>?_⟩,fun k hk=>?_⟩
 ·rw[PY,PY,PY,h.val,h.val,h.val];unfold cF cT;simp only[List.countP_append,List.countP_singleton,Ay]
  by_cases e1:k=x.2
  ·subst e1
   have:¬x.2=x.1:=by omega
   have:¬x.1=x.2:=by omega
   simp[*];omega
  ·by_cases e2:k=x.1
   ·subst e2
    have:¬x.2=x.1:=by omega
    have:¬x.1=x.2:=by omega
    simp[*];omega
   ·have a1:¬x.1=k:=fun c=>e2 c.symm;have a2:¬x.2=k:=fun c=>e1 c.symm;simp[e1,e2,a1,a2]
 ·rw[Iw,Iw];exact .inr (.inr h.keys.1)
 ·rw[Iw,Iw];exact .inr (.inr h.keys.2.1)
 ·simp only[Iw];rcases Ba.1 hy with hy | hy
  ·have:=h.keys.2.2 y hy
   exact⟨.inr (.inr this.1),.inr (.inr this.2)⟩
  ·rw[As.1 hy];exact⟨.inr (.inl rfl),.inl rfl⟩
 ·rw[Iw,Iw]at hk;rcases hk with rfl | rfl | hk
  ·omega
  ·omega
  ·exact h.rng k hk
def IZ(m:List (Int×Int))(B:List Int):Int:=(B.map (FA m)).foldl (·+·) 0
theorem Rb(m:List (Int×Int))(B:List Int)(i:Nat)(h:i<B.length):IZ m (B.take (i+1))=IZ m (B.take i)+FA m B[i]:=by
 unfold IZ;rw[BA,AB h,AG,KD];simp only[Option.toList_some,AQ,Fk,FL,List.foldl_nil]
structure kB(B:List Int)(m:List (Int×Int)):Prop where
 perm:B.Perm (Fi m)
 srt:B.Pairwise fun a b=>a<b
theorem bX{m:List (Int×Int)}{S:Bc}{B:List Int}(h:IL m S)(hB:kB B m):∀i (hi:i<B.length),IZ m (B.take (i+1))=(lF S B[i]:Int)-lT S B[i]:=by
 have mem:∀k,k∈Fi m→∃j,∃hj:j<B.length,B[j]=k:=fun k hk=>by
  have:=hB.perm.mem_iff.2 hk
  obtain⟨j,hj,e⟩:=Ce.1 this;exact⟨j,hj,e⟩
 have lt:∀i j (hi:i<B.length) (hj:j<B.length),i<j→B[i]<B[j]:=fun i j hi hj VB=>(Be.1 hB.srt) i j hi hj VB;intro i
 induction i with
 |zero =>
  intro hi;rw[Rb m B 0 hi,h.val]
  have:IZ m (B.take 0)=0:=by simp[IZ]
  rw[this];have low:∀k∈Fi m,B[0]≤k:=fun k hk=>by
   obtain⟨j,hj,rfl⟩:=mem k hk;cases j with
   |zero=>exact AZ _
   |succ j=>have:=lt 0 (j+1) hi hj (by omega);omega
  have e1:lF S B[0]=cF S B[0]:=by
   unfold lF cF;apply Rj;intro x hx
   have:=low _ (h.keys.2.2 x hx).1
   simp only[Ay];omega
  have e2:lT S B[0]=cT S B[0]:=by
   unfold lT cT;apply Rj;intro x hx
   have:=low _ (h.keys.2.2 x hx).2
   simp only[Ay];omega
  rw[e1,e2];omega
 |succ i ih =>
  intro hi;rw[Rb m B (i+1) hi,ih (by omega),h.val];have nb:∀k∈Fi m,k≤B[i+1]↔k≤B[i]∨k=B[i+1]:=fun k hk=>by
   obtain⟨j,hj,rfl⟩:=mem k hk;have l0:=lt i (i+1) (by omega) hi (by omega);rcases Nat.lt_trichotomy j (i+1)with c | c | c
   ·have:B[j]≤B[i]:=by
     rcases Cv j i with d | d
     ·have:=lt j i hj (by omega) d;omega
     ·have:j=i:=by omega
      subst this;exact AZ _
    omega
   ·subst c;omega
   ·have:=lt (i+1) j hi hj c;omega
  have l0:=lt i (i+1) (by omega) hi (by omega);have e1:lF S B[i+1]=lF S B[i]+cF S B[i+1]:=by
   unfold lF cF;apply Jj;intro x hx
   have:=nb _ (h.keys.2.2 x hx).1
   simp only[Ay];omega
  have e2:lT S B[i+1]=lT S B[i]+cT S B[i+1]:=by
   unfold lT cT;apply Jj;intro x hx
   have:=nb _ (h.keys.2.2 x hx).2
   simp only[Ay];omega
  rw[e1,e2];omega
theorem XO{S:Bc}(hS:∀x∈S,x.1<x.2)(p:Int):(lF S p:Int)-lT S p=(S.countP (BR p):Nat):=by
 have:lF S p=S.countP (BR p)+lT S p:=by
  unfold lF lT;apply Jj;intro x hx
  have:=hS x hx
  simp only[BR,Ai,Ay];omega
 omega
theorem O0:∀{l:Bc} {lo:Int} (p:Int),EV lo l→l.countP (BR p)=if l.any (BR p)then 1 else 0
 | [],_,_,_=>rfl
 |y::r,lo,p,⟨h1,h2,h3,h4⟩=>by
  rw[I2,O0 p h4,Cc];cases hy:BR p y with
  |false=>rw[Jz];simp
  |true =>
   have:=DU.1 hy
   have:r.any (BR p)=false:=by
    rw[AD];intro hr;have:=MX h4 hr;omega
   simp[this]
theorem Mk:∀(l:List Bc) (p:Int),((l.map canon).flatten).countP (BR p)=fc l p
 | [],_=>rfl
 |s::l,p=>by
  rw[AQ,BI,List.countP_append,Mk l p,O0 p (Cs s),KO];unfold fc;rw[I2];omega
def EF(keep:Nat→Bool)(m:List (Int×Int))(B:List Int):Nat→Bc
 |0=>[]
 |i+1=>EF keep m B i++(match B[i]?,B[i+1]? with
  |some a,some b=>if keep (IZ m (B.take (i+1))).toNat then [(a,b)]else []
  |_,_=>[])
theorem QC{keep:Nat→Bool}{m:List (Int×Int)}{B:List Int}{x:Int×Int}:∀{n:Nat},x∈EF keep m B n↔∃i,i<n∧∃(h1:i<B.length) (h2:i+1<B.length),keep (IZ m (B.take (i+1))).toNat=true∧x=(B[i],B[i+1])
 |0=>by simp[EF]
 |n+1=>by
  unfold EF;rw[Ba,QC (n:=n)];constructor
  ·rintro(⟨i,h1,h2⟩ | h)
   ·exact⟨i,by omega,h2⟩
   ·split at h
    ·rename_i a b ha hb;obtain⟨h1,e1⟩:=Aw.1 ha;obtain⟨h2,e2⟩:=Aw.1 hb;split at h
     ·rename_i hk;refine⟨n,by omega,h1,h2,hk,?_⟩;rw[As.1 h,e1,e2]
     ·cases h
    ·cases h
  ·rintro⟨i,h1,h2,h3,h4,rfl⟩
   by_cases e:i=n
   ·subst e;refine .inr ?_;rw[AB h2,AB h3];simp[h4]
   ·exact .inl ⟨i,by omega,h2,h3,h4,rfl⟩
theorem OW{B:List Int}(hs:B.Pairwise fun a b=>a<b){p:Int}:∀(n:Nat) (h0:0<B.length) (hn:n<B.length),B[0]≤p→p<B[n]→∃i,∃(h1:i<B.length) (h2:i+1<B.length),B[i]≤p∧p<B[i+1]
 |0,h0,hn,h1,h2=>by omega
 |n+1,h0,hn,h1,h2=>by
  by_cases e:B[n]≤p
  ·exact⟨n,by omega,hn,e,h2⟩
  ·exact OW hs n h0 (by omega) h1 (by omega)
theorem iA{keep:Nat→Bool}{l:List Bc}{m:List (Int×Int)}{B:List Int}(h:IL m (l.map canon).flatten)(hB:kB B m)(p:Int):has (EF keep m B (B.length-1)) p=(L5 p&&keep (fc l p)):=by
 have hS:∀x∈(l.map canon).flatten,x.1<x.2:=fun x hx=>by
  obtain⟨s,hs,hx⟩:=EC.1 hx;obtain⟨t,_,rfl⟩:=Ao.1 hs;exact((Cs t).low x hx).2.1
 have mem:∀k,k∈Fi m→∃j,∃hj:j<B.length,B[j]=k:=fun k hk=>by
  obtain⟨j,hj,e⟩:=Ce.1 (hB.perm.mem_iff.2 hk);exact⟨j,hj,e⟩
 have lt:∀i j (hi:i<B.length) (hj:j<B.length),i<j→B[i]<B[j]:=fun i j hi hj VB=>(Be.1 hB.srt) i j hi hj VB;have rng:∀i (hi:i<B.length),0≤B[i]∧B[i]≤1000000:=fun i hi=>h.rng _ (hB.perm.mem_iff.1 (Ak hi))
 -- Wv two bounds
 have Wv:∀i (h1:i<B.length) (h2:i+1<B.length),B[i]≤p→p<B[i+1]→(IZ m (B.take (i+1))).toNat=fc l p:=fun i h1 h2 a b=>by
  have same:∀k∈Fi m,k≤B[i]↔k≤p:=fun k hk=>by
   obtain⟨j,hj,rfl⟩:=mem k hk;constructor
   ·intro c;omega
   ·intro c;rcases Cv i j with d | d
    ·rcases Cv (i+1) j with f | f
     ·have:=lt (i+1) j h2 hj f;omega
     ·have:j=i+1:=by omega
      subst this;omega
    ·rcases Cv j i with f | f
     ·have:=lt j i hj h1 f;omega
     ·have:j=i:=by omega
      subst this;exact AZ _
  have e1:lF (l.map canon).flatten B[i]=lF (l.map canon).flatten p:=by
   unfold lF;apply Rj;intro x hx
   have:=same _ (h.keys.2.2 x hx).1
   simp only[Ay];exact this
  have e2:lT (l.map canon).flatten B[i]=lT (l.map canon).flatten p:=by
   unfold lT;apply Rj;intro x hx
   have:=same _ (h.keys.2.2 x hx).2
   simp only[Ay];exact this
  rw[bX h hB i h1,e1,e2,XO hS,Mk];simp
 rw[BZ];constructor
 ·intro hh;have Zc:=Mu hh;unfold has at hh;simp only[Zc,decide_true,EP]at hh;obtain⟨x,hx,hp⟩:=A8.1 hh;obtain⟨i,_,h1,h2,hk,rfl⟩:=QC.1 hx
  have:=DU.1 hp
  dsimp only at this;rw[←Wv i h1 h2 this.1 this.2];simp[L5,Zc,hk]
 ·intro hh;simp only[Ai,L5,Ay]at hh;obtain⟨⟨p0,p1⟩,hk⟩:=hh;obtain⟨j0,hj0,e0⟩:=mem 0 h.keys.1;obtain⟨j1,hj1,e1⟩:=mem 1000000 h.keys.2.1;have wC:B[0]'(by omega)≤p:=by
   have:B[0]'(by omega)≤0:=by
    cases j0 with
    |zero=>omega
    |succ j=>have:=lt 0 (j+1) (by omega) hj0 (by omega);omega
   omega
  obtain⟨i,h1,h2,a,b⟩:=OW hB.srt j1 (by omega) hj1 wC (by omega);unfold has;simp only[p0,p1,decide_true,EP];exact A8.2 ⟨(B[i],B[i+1]),QC.2 ⟨i,by omega,h1,h2,by rw[Wv i h1 h2 a b];exact hk,rfl⟩,DU.2 ⟨a,b⟩⟩
theorem jR{l:List Bc}{m:List (Int×Int)}{B:List Int}(h:IL m (l.map canon).flatten)(hB:kB B m)(i:Nat)(hi:i<B.length):0≤IZ m (B.take (i+1))∧IZ m (B.take (i+1))≤l.length:=by
 have hS:∀x∈(l.map canon).flatten,x.1<x.2:=fun x hx=>by
  obtain⟨s,hs,hx⟩:=EC.1 hx;obtain⟨t,_,rfl⟩:=Ao.1 hs;exact((Cs t).low x hx).2.1
 rw[bX h hB i hi,XO hS,Mk]
 have:fc l B[i]≤l.length:=List.countP_le_length
 omega
def W8(m:List Tm)(t:Tm):List Tm:=if m.any (fun u=>decide (u.path=t.path))then m.map (fun u=>if u.path=t.path then t else u)else m++[t]
def RS(m:List Tm)(t:Tm):List Tm:=W8 m (Ox (Dz m t.path) t)
def Dh(l:List Tm):List Tm:=l.foldl RS []
theorem cR(t:Tm)(p:ByteArray):∀m:List Tm,Dz (W8 m t) p=if t.path=p then some t else Dz m p:=by
 intro m;unfold W8
 by_cases h:(m.any fun u=>decide (u.path=t.path))=true
 ·rw[Au h]
  induction m with
  |nil=>simp at h
  |cons u m ih =>
   rw[AQ,CW,CW]
   by_cases e:u.path=t.path
   ·rw[Au e]
    by_cases ep:t.path=p
    ·simp[ep]
    ·rw[Al ep,Al ep,Al (fun c=>ep (e.symm.trans c))]
     by_cases hm:(m.any fun u=>decide (u.path=t.path))=true
     ·rw[ih hm,Al ep]
     ·have:∀q∈m,q.path≠t.path:=fun q hq c=>hm (A8.2 ⟨q,hq,by simp[c]⟩)
      have:m.map (fun u=>if u.path=t.path then t else u)=m:=by
       conv=>rhs;rw[←J4 m]
       exact Bk fun q hq=>by simp[this q hq]
      rw[this]
   ·rw[Al e];have hm:(m.any fun u=>decide (u.path=t.path))=true:=by simpa[e]using h
    rw[ih hm]
    by_cases ep:t.path=p
    ·subst ep;simp[e]
    ·simp[ep]
 ·rw[Al h];have hn:∀q∈m,q.path≠t.path:=fun q hq e=>h (A8.2 ⟨q,hq,by simp[e]⟩)
  clear h
  induction m with
  |nil=>rw[Ep,CW]
  |cons u m ih =>
   rw[D7,CW,CW,ih fun q hq=>hn q (Ah _ hq)]
   have:=hn u (Ac ..)
   by_cases e:u.path=p
   ·have:¬t.path=p:=fun c=>this (e.trans c.symm)
    simp[e,this]
   ·simp[e]
def EG(m:List Tm):List ByteArray:=m.map (·.path)
open Classical in
theorem az(m:List Tm)(t:Tm):EG (W8 m t)=if t.path∈EG m then EG m else EG m++[t.path]:=by
 unfold W8 EG;have e:(m.any fun u=>decide (u.path=t.path))=true↔t.path∈m.map (·.path):=by
  simp only[A8,Ay,Ao]
 by_cases h:t.path∈m.map (·.path)
 ·rw[Au (e.2 h),Au h,BU];apply Bk;intro p _;simp only[Function.comp];split
  ·rename_i e;exact e.symm
  ·rfl
 ·rw[Al (fun c=>h (e.1 c)),Al h,AG];rfl
theorem dG{m:List Tm}(h:(EG m).Nodup)(t:Tm):(EG (W8 m t)).Nodup:=by
 rw[az];split
 ·exact h
 ·rename_i hn;rw[Gy];exact⟨h,by simp,fun a ha b hb e=>by subst e;rw[As.1 hb]at ha;exact hn ha⟩
theorem RJ(l:List Tm)(i:Nat)(h:i<l.length):Dh (l.take (i+1))=RS (Dh (l.take i)) l[i]:=by
 unfold Dh;rw[BA,AB h,KD];rfl
theorem Pm:∀(l m:List Tm),(EG m).Nodup→(EG (l.foldl RS m)).Nodup
 | [],_,h=>h
 |_::l,_,h=>Pm l _ (dG h _)
theorem H2(l:List Tm):(EG (Dh l)).Nodup:=Pm l [] .nil
theorem X1(m:List Tm)(t:Tm)(p:ByteArray):Dz (RS m t) p=Kj p (Dz m p) t:=by
 unfold RS Kj;have hp:(Ox (Dz m t.path) t).path=t.path:=QP _ _ fun u h=>Hl h;rw[cR,hp]
 by_cases e:t.path=p
 ·rw[Au e,Au e,e]
 ·rw[Al e,Al e]
theorem Pj(p:ByteArray):∀(l m:List Tm),Dz (l.foldl RS m) p=l.foldl (Kj p) (Dz m p)
 | [],_=>rfl
 |t::l,m=>by rw[FL,FL,Pj p l,X1]
theorem ZI(l:List Tm)(p:ByteArray):Dz (Dh l) p=Dz (Fb l) p:=by
 unfold Dh;rw[Pj,Jm];rfl
theorem Mp{m:List Tm}(h:(EG m).Nodup){t:Tm}:t∈m↔Dz m t.path=some t:=by
 constructor
 ·induction m with
  |nil=>intro h;cases h
  |cons u m ih =>
   intro ht;unfold EG at h ih;rw[AQ,CI]at h;rw[CW];rcases AC.1 ht with rfl | ht
   ·rw[Au rfl]
   ·have:¬u.path=t.path:=fun e=>h.1 (e▸Ao.2 ⟨t,ht,rfl⟩)
    rw[Al this];exact ih h.2 ht
 ·exact Fq
theorem H4{m:List Tm}(h:(EG m).Nodup):m.Nodup:=by
 unfold EG at h
 induction m with
 |nil=>exact .nil
 |cons u m ih =>
  rw[AQ,CI]at h;exact CI.2 ⟨fun hu=>h.1 (Ao.2 ⟨u,hu,rfl⟩),ih h.2⟩
theorem Ib{l:List Tm}{lo:Option ByteArray}(h:Cm lo l):(EG l).Nodup:=by
 unfold EG
 induction l generalizing lo with
 |nil=>exact .nil
 |cons t l ih =>
  rw[AQ,CI];refine⟨fun hm=>?_,ih h.2.2⟩;obtain⟨u,hu,e⟩:=Ao.1 hm
  have:=h.2.2.low u hu
  rw[e,Dk]at this;cases this
theorem Jt(l:List Tm)(t:Tm):t∈Dh l↔t∈Fb l:=by
 rw[Mp (H2 l),ZI,←Mp (Ib (EA l))]
theorem PD(l:List Tm):∀t∈Dh l,EQ t.set:=fun t ht=>(EA l).canon t ((Jt l t).1 ht)
theorem eS(m:List Tm)(t:Tm):(RS m t).length≤m.length+1:=by
 unfold RS W8;split<;>simp
theorem On(l:List Tm):∀i,i≤l.length→(Dh (l.take i)).length≤i:=by
 intro i
 induction i with
 |zero=>intro _;simp[Dh]
 |succ i ih =>
  intro h;rw[RJ l i (by omega)]
  have:=eS (Dh (l.take i)) l[i]
  have:=ih (by omega)
  omega
theorem aL{s:List Tm}(hs:s.Pairwise fun x y=>EJ x.path y.path=true)(hc:∀t∈s,EQ t.set):Cm none s:=by
 have:∀(s:List Tm) (lo:Option ByteArray),s.Pairwise (fun x y=>EJ x.path y.path=true)→(∀t∈s,EQ t.set)→(∀p,lo=some p→∀t∈s,EJ p t.path=true)→Cm lo s:=by
  intro s
  induction s with
  |nil=>intro _ _ _ _;trivial
  |cons t s ih =>
   intro lo hs hc hl;obtain⟨h1,h2⟩:=CD.1 hs;exact⟨fun p e=>hl p e t (Ac ..),hc t (Ac ..),ih _ h2 (fun u hu=>hc u (Ah _ hu)) fun p e u hu=>by cases e;exact h1 u hu⟩
 exact this s none hs hc fun _ e=>by cases e
theorem Qn{l s:List Tm}(q:Tm→Bool)(hp:s.Perm ((Dh l).filter q))(hs:s.Pairwise fun x y=>EJ y.path x.path=false):s=(Fb l).filter q:=by
 have hm:∀t,t∈s↔t∈(Fb l).filter q:=fun t=>by
  rw[hp.mem_iff,Bu,Bu,Jt]
 have Sb:(EG s).Nodup:=by
  have h1:(EG ((Dh l).filter q)).Nodup:=by
   unfold EG;exact List.Nodup.sublist (List.Sublist.map _ List.filter_sublist) (H2 l)
  unfold EG at h1⊢;exact(hp.map (·.path)).nodup_iff.2 h1
 have JH:s.Pairwise fun x y=>EJ x.path y.path=true:=by
  rw[Be]at hs⊢;intro i j hi hj VB;cases hb:EJ s[i].path s[j].path with
  |true=>rfl
  |false =>
   have e:=HP hb (hs i j hi hj VB);unfold EG at Sb
   have:=(Be.1 Sb) i j (by simpa using hi) (by simpa using hj) VB
   simp at this;exact absurd e this
 have zX:Cm none s:=aL JH fun t ht=>(EA l).canon t (Bu.1 ((hm t).1 ht)).1;have fm:Cm none ((Fb l).filter q):=Cm.filter q (EA l);refine MV zX fm fun p=>?_;cases h1:Dz s p with
 |some t =>
  have:=(hm t).1 (Fq h1)
  rw[FV fm,Hl h1]at this;exact this.symm
 |none =>
  cases h2:Dz ((Fb l).filter q) p with
  |none=>rfl
  |some t =>
   have:=(hm t).2 (Fq h2)
   rw[FV zX,Hl h2,h1]at this;cases this
theorem Zv(t:Tm):G8 t t=LP t:=by unfold G8 LP;rw[ZY,Bool.and_self]
theorem bP(o:Option Tm)(t:Tm):Ox o t=G8 (o.getD t) t:=by cases o with | none=>exact(Zv t).symm | some u=>rfl
theorem cq{t:Tm}(h:EQ t.set):(t.absent&&(En t.set).isEmpty)=GO t:=by
 unfold GO
 congr 1
 rw[BZ,F7,Ay];have ha:EQ [(0,1000000)]:=⟨AZ _,by dsimp only;omega,AZ _,trivial⟩;constructor
 ·intro e;refine HQ h ha fun p=>?_
  have:=FW t.set p
  rw[e]at this;have h0:has [] p=false:=by simp[has]
  rw[h0]at this;have h1:has [(0,1000000)] p=L5 p:=by simp[has,L5,BR]
  rw[h1];cases hp:L5 p with
  |true=>rw[hp]at this;simpa using this.symm
  |false =>
   rw[AD];intro hh
   have:=Mu hh
   simp[L5,this]at hp
 ·intro e;rw[QL (Hu _)];intro p;rw[FW,e];have h1:has [(0,1000000)] p=L5 p:=by simp[has,L5,BR]
  rw[h1];simp
theorem iR{t:Tm}(h:EQ t.set):(!t.absent&&(canon t.set).isEmpty)=H3 t:=by unfold H3;rw[JB h]
end Go.Eng
namespace Go.Eng
open Go.Lib
theorem QZ(c:UInt8):∀(s:List UInt8) (k:Nat),s.count c≤k→splitK [c] 0 k s=CQ c s
 | [],k,_=>by
  cases k with
  |zero=>rfl
  |succ k=>rfl
 |b::r,k,h=>by
  rw[CQ]
  by_cases e:b=c
  ·subst e;rw[List.count_cons_self]at h;obtain⟨k',rfl⟩:∃k',k=k'+1:=⟨k-1,by omega⟩;rw[Au rfl,splitK,index_one,indexByte];simp only[beq_self_eq_true,Og];rw[Al (by decide)];show []::splitK [b] 0 k' r=_;rw[QZ b r k' (by omega)]
  ·have DM:(b == c)=false:=by simpa using e
   rw[List.count_cons_of_ne (by simpa using e)]at h;have ih:=QZ c r k h;rw[Al e];cases k with
   |zero =>
    rw[←ih];rfl
   |succ k =>
    rw[←ih,splitK,splitK,index_one,index_one,indexByte,DM]
    by_cases h0:indexByte r c=-1
    ·rw[h0];rfl
    ·have h1:(indexByte r c == -1)=false:=by simpa using h0
     have h2:=indexByte_ge r c;have h3:(indexByte r c+1 == -1)=false:=by rw[beq_eq_false_iff_ne];omega
     simp only[Df,Gd,h1,h3];obtain⟨i,hi⟩:∃i:Nat,indexByte r c=i:=⟨(indexByte r c).toNat,by omega⟩;rw[hi];show(b::r).take (((i:Int)+1).toNat+0)::_=(b::r.take ((i:Int).toNat+0))::_;rw[show((i:Int)+1).toNat=i+1 by omega,show((i:Nat):Int).toNat=i by omega]
     rfl
theorem XN(c:UInt8):∀(n:Nat) (s:List UInt8),s.length≤n→count s [c]=s.count c
 |n,s,hn=>by
  rcases Int.lt_or_le (indexByte s c) 0 with h | h
  ·have h2:=indexByte_ge s c;have h3:indexByte s c=-1:=by omega
   rw[count_miss (by rw[index_one];exact h3)]
   symm
   rw[List.count_eq_zero];intro hm;obtain⟨k,hk,e⟩:=B9 hm;exact indexByte_none h3 k (by rw[AB hk,e])
  ·obtain⟨i,hi⟩:∃i:Nat,indexByte s c=i:=⟨(indexByte s c).toNat,by omega⟩;obtain⟨h1,h2⟩:=indexByte_some hi;obtain⟨hl,hg⟩:=Aw.1 h1;cases n with
   |zero=>omega
   |succ n =>
    have hc:=count_hit (s:=s) (sub:=[c]) (i:=i) (by simp) (by rw[index_one];exact hi);rw[hc];have ih:=XN c n (s.drop (i+1)) (by rw[Ar];omega);have sJ:s=s.take i++c::s.drop (i+1):=by
     rw[←hg,←Bd hl,If]
    have h0:(s.take i).count c=0:=by
     rw[List.count_eq_zero];intro hm;obtain⟨k,hk,e⟩:=B9 hm;rw[AH]at hk;rw[Il]at e;exact h2 k (by omega) (by rw[AB (by omega),e])
    conv=>rhs;rw[sJ]
    rw[List.count_append,h0,List.count_cons_self];show 1+count (s.drop (i+1)) [c]=_;rw[ih];omega
theorem eI(s:ByteArray)(c:UInt8):((splitB ⟨#[c]⟩ 0 (countB s ⟨#[c]⟩) s).map (·.data.toList))=CQ c s.data.toList:=by
 rw[splitB_data];refine QZ c _ _ ?_;show _≤count s.data.toList [c];rw[XN c _ _ (Am _)];exact Am _
end Go.Eng
namespace Go.Eng
theorem K4{α:Type}:∀{l m:List α},l.Nodup→(∀x∈l,x∈m)→l.length≤m.length
 | [],_,_,_=>AF _
 |a::l,m,hn,hs=>by
  obtain⟨h1,h2⟩:=CI.1 hn;obtain⟨s,t,rfl⟩:=List.append_of_mem (hs a (Ac ..))
  have:l.length≤(s++t).length:=K4 h2 fun x hx=>by
   rcases Ba.1 (hs x (Ah _ hx))with h | h
   ·exact Bz _ h
   ·rcases AC.1 h with rfl | h
    ·exact absurd hx h1
    ·exact Bq _ h
  simp only[Ad,Av]at this⊢;omega
theorem LT(p:ByteArray):∀(l:List Tm) (o:Option Tm),(∀u∈l,u.path≠p)→l.foldl (Kj p) o=o
 | [],_,_=>rfl
 |t::l,o,h=>by
  rw[FL,show Kj p o t=o by unfold Kj;rw[Al (h t (Ac ..))]];exact LT p l o fun u hu=>h u (Ah _ hu)
theorem am{l:List Tm}{t:Tm}(h:t∈Fb l):∃u∈l,u.path=t.path:=by
 apply A9;intro hn
 have:∀u∈l,u.path≠t.path:=fun u hu e=>hn ⟨u,hu,e⟩
 have h1:=(FV (EA l)).1 h;rw[Jm,LT _ _ _ this]at h1;cases h1
def U7(U:List ByteArray)(t:List Tm):Prop:=Cm none t∧∀u∈t,u.path∈U
theorem U7.len{U:List ByteArray}{t:List Tm}(h:U7 U t):t.length≤U.length:=by
 have:=K4 (Ib h.1) (m:=U) fun p hp=>by
  obtain⟨u,hu,rfl⟩:=Ao.1 hp;exact h.2 u hu
 unfold EG at this
 rwa [Bg]at this
theorem Zx{l c:List Tm}(h:CZ l=some c){t:Tm}(ht:t∈c):t∈Fb l:=by
 unfold CZ at h;split at h
 ·cases h
 ·cases h;exact(Bu.1 ht).1
theorem Qm{U:List ByteArray}{l c:List Tm}(h:CZ l=some c)(hu:∀u∈l,u.path∈U):U7 U c :=
 ⟨E1 h,fun t ht=>by
  obtain⟨u,h1,h2⟩:=am (Zx h ht);rw[←h2];exact hu u h1⟩
theorem U7.nil(U:List ByteArray):U7 U []:=⟨trivial,fun u hu=>by cases hu⟩
theorem Ue{U:List ByteArray}{l:List Tm}(hu:∀u∈l,u.path∈U):U7 U (QM l):=by
 unfold QM;cases h:CZ l with
 |none=>exact .nil U
 |some c=>exact Qm h hu
theorem RP{U:List ByteArray}{a b:List Tm}{p:ByteArray}(ha:U7 U a)(hb:U7 U b):U7 U (BF a b p).1:=by
 have sp:∀{l r:List Tm} {t:Tm},U7 U l→FC l p=some (t,r)→t.path∈U∧∀u∈r,u.path∈U:=by
  intro l r t hl h;unfold FC at h;cases e:CZ l with
  |none=>rw[e]at h;cases h
  |some c =>
   rw[e]at h;have h:(match Dz c p with | none=>none | some t=>some (t,F1 c p))=some (t,r):=h;have hc:=Qm e hl.2;cases e2:Dz c p with
   |none=>rw[e2]at h;cases h
   |some u =>
    rw[e2]at h;cases h;exact⟨hc.2 _ (Fq e2),fun u hu=>hc.2 u (Bu.1 hu).1⟩
 unfold BF;split
 ·rename_i t r u m e1 e2;obtain⟨a1,a2⟩:=sp ha e1;obtain⟨b1,b2⟩:=sp hb e2;split
  ·rename_i o e3;refine Qm e3 fun v hv=>?_;rcases Ba.1 hv with hv | hv
   ·rcases Ba.1 hv with hv | hv
    ·exact a2 v hv
    ·exact b2 v hv
   ·rw[As.1 hv];exact a1
  ·exact .nil U
 ·exact .nil U
def KA(x:List Rl)(roots:List Rq)(l:List Nf):List ByteArray:=(x.map (·.path))++((x.map (·.reqs)).flatten.map (·.path)++(roots.map (·.path)++l.map (·.path)))
theorem dn{x:List Rl}{roots:List Rq}{l:List Nf}{d:List (List Tm)}{i:Nf}(hi:i∈l)(hd:∀t∈d,U7 (KA x roots l) t){t:List Tm}(h:D1 x roots d i=some t):U7 (KA x roots l) t:=by
 have hp:i.path∈KA x roots l:=by
  unfold KA;exact Bq _ (Bq _ (Bq _ (Ao.2 ⟨i,hi,rfl⟩)))
 have nz:∀{α:Type} {l:List α} {k:Int} {a:α},JP l k=some a→a∈l:=by
  intro α l k a h;unfold JP at h;split at h
  ·cases h
  ·exact Ax h
 have n0:∀{a b:List Tm},dA a=some b→b=a:=by
  intro a b h;unfold dA at h;split at h
  ·cases h
  ·cases h;rfl
 unfold D1 at h;split at h
 ·split at h
  ·cases e:JP roots i.number with
   |none=>rw[e]at h;cases h
   |some q =>
    rw[e]at h;cases h;refine Ue fun u hu=>?_;rw[As.1 hu];unfold KA;exact Bq _ (Bq _ (Bz _ (Ao.2 ⟨q,nz e,rfl⟩)))
  ·cases h
 split at h
 ·split at h
  ·cases e:PM x i.path i.place with
   |none=>rw[e]at h;cases h
   |some r =>
    rw[e]at h;have h:(match JP r.reqs i.number with | none=>none | some q=>dA (Ev i.path i.place q))=some t:=h;cases e2:JP r.reqs i.number with
    |none=>rw[e2]at h;cases h
    |some q =>
     rw[e2]at h;have h:=n0 (show dA (Ev i.path i.place q)=some t from h);subst h;refine Ue fun u hu=>?_;rcases AC.1 hu with rfl | hu
     ·exact hp
     ·rw[As.1 hu];unfold KA;refine Bq _ (Bz _ (Ao.2 ⟨q,?_,rfl⟩));exact EC.2 ⟨r.reqs,Ao.2 ⟨r,Cu e,rfl⟩,nz e2⟩
  ·cases h
 split at h
 ·split at h
  ·have h:=n0 h;subst h;refine Ue fun u hu=>?_;rw[As.1 hu];exact hp
  ·cases h
 split at h
 ·split at h
  ·cases e:JP d i.left with
   |none=>rw[e]at h;cases h
   |some a =>
    cases e2:JP d i.right with
    |none=>rw[e,e2]at h;cases h
    |some b =>
     rw[e,e2]at h;have h:(if(BF a b i.path).2=0 then some (BF a b i.path).1 else none)=some t:=h;split at h
     ·cases h;exact RP (hd a (nz e)) (hd b (nz e2))
     ·cases h
  ·cases h
 ·cases h
def pA:List (List UInt8):=[[97,110,100],[97,110,121],[97,115],[98,111,111,108],[100,101,112,114,101,99,97,116,101,100],[101,108,115,101],[101,120,112,111,114,116],[102,97,108,115,101],[102,110],[102,111,108,100],[102,114,111,109],[105,102],[105,109,112,111,114,116],[105,110],[105,110,116],[108,101,110,103,116,104],[108,101,116],[108,105,115,116],[109,97,116,99,104],[109,111,100,117,108,101],[110,111,110,101],[110,111,116],[111,114],[116,101,120,116],[116,104,101,110],[116,114,117,101],[116,121,112,101],[117,115,101]]
theorem dt:aa=32::pA.flatMap (fun w=>w++[32]):=by decide +kernel
theorem pB:∀w∈pA,∀c∈w,c≠32:=by decide +kernel
theorem VX:∀(s w r:List UInt8),(∀c∈s,c≠32)→(∀c∈w,c≠32)→Ny (s++[32]) (w++32::r)=decide (w=s)
 | [],[],r,_,_=>by simp[Ny]
 | [],b::w,r,_,hw=>by
  have:=hw b (Ac ..)
  simp[Ny,this.symm]
 |a::s,[],r,hs,_=>by
  have:=hs a (Ac ..)
  simp[Ny,this]
 |a::s,b::w,r,hs,hw=>by
  have ih:=VX s w r (fun c hc=>hs c (Ah _ hc)) (fun c hc=>hw c (Ah _ hc));rw[D7,D7,Ny,ih]
  by_cases e:a=b
  ·subst e;simp
  ·have e2:¬b=a:=fun h=>e h.symm;simp[e,e2]
theorem Yq(x:List UInt8):∀(w r:List UInt8),(∀c∈w,c≠32)→iq (32::x) (w++r)=iq (32::x) r
 | [],_,_=>rfl
 |b::w,r,h=>by
  have hb:=h b (Ac ..);rw[D7,iq,Yq x w r (fun c hc=>h c (Ah _ hc))]
  have:Ny (32::x) (b::(w++r))=false:=by simp[Ny,hb.symm]
  rw[this,Jz]
theorem VE(s:List UInt8)(hs:∀c∈s,c≠32):∀ws:List (List UInt8),(∀w∈ws,∀c∈w,c≠32)→iq (32::(s++[32])) (32::ws.flatMap (fun w=>w++[32]))=ws.any (fun w=>decide (w=s))
 | [],_=>by
  cases s with
  |nil=>simp[iq,Ny]
  |cons a s=>simp[iq,Ny]
 |w::ws,h=>by
  have hw:=h w (Ac ..);have ih:=VE s hs ws (fun v hv=>h v (Ah _ hv));have e:(w::ws).flatMap (fun w=>w++[32])=w++32::ws.flatMap (fun w=>w++[32]):=by simp[List.flatMap_cons]
  rw[e,iq,Ny,VX s w _ hs hw,Yq _ w _ hw,ih,Cc];simp
theorem mO{s:List UInt8}(h:s.all F2=true):∀c∈s,c≠32:=fun c hc e=>by
 have:=AS.1 h c hc
 rw[e]at this;exact absurd this (by decide)
theorem Z0{s:List UInt8}(h:s.all F2=true):UY s=pA.any (fun w=>decide (w=s)):=by
 unfold UY;rw[dt,VE s (mO h) pA pB]
theorem Yu(s:Bc)(x:Int×Int)(k:Nat){t:Bc}(h:s.Perm t):(s.take k++([x]++s.drop k)).Perm (t++[x]):=by
 have h1:(s.take k++([x]++s.drop k)).Perm (x::(s.take k++s.drop k)):=by
  rw[List.singleton_append];exact List.perm_middle
 rw[If]at h1;exact h1.trans ((List.Perm.cons x h).trans (List.perm_append_singleton x t).symm)
theorem TV(s:Bc)(x:Int×Int)(k:Nat)(hs:s.Pairwise fun a b=>a.1≤b.1)(h1:∀j (hj:j<s.length),k≤j→x.1<s[j].1)(h2:k=0∨∃h:k-1<s.length,s[k-1].1≤x.1):(s.take k++([x]++s.drop k)).Pairwise fun a b=>a.1≤b.1:=by
 have o8:∀a∈s.take k,a.1≤x.1:=fun a ha=>by
  obtain⟨j,hj,e⟩:=B9 ha;rw[AH]at hj;rw[Il]at e;rcases h2 with h2 | ⟨hk,h2⟩
  ·omega
  ·rcases Cv j (k-1)with z | z
   ·have:=Be.1 hs j (k-1) (by omega) hk z
    rw[e]at this;omega
   ·have:j=k-1:=by omega
    subst this;rw[←e];exact h2
 have zH:∀b∈s.drop k,x.1≤b.1:=fun b hb=>by
  obtain⟨j,hj,e⟩:=B9 hb;rw[Ar]at hj;rw[Gx]at e
  have:=h1 (k+j) (by omega) (by omega)
  rw[e]at this;omega
 rw[List.pairwise_append];refine⟨hs.sublist (List.take_sublist ..),?_,fun a ha b hb=>?_⟩
 ·rw[List.singleton_append,CD];exact⟨zH,hs.sublist (List.drop_sublist ..)⟩
 ·rw[List.singleton_append]at hb;rcases AC.1 hb with e | hb
  ·rw[e];exact o8 a ha
  ·have:=o8 a ha
   have:=zH b hb
   omega
structure Cd where
 place:Int
 rel:Rl
structure Nd where
 rq:Rq
 path:ByteArray
 place:Int
 number:Int
structure SS where
 infs:List Nf
 drv:List (List Tm)
 full:Bool
abbrev TY(c:Cd):Sl:=⟨c.rel.path,c.rel.ver⟩
abbrev AO(l:List Cd):List Sl:=l.map TY
def Cw(x:List Rl)(p:ByteArray):List Cd:=(x.filter fun r=>decide (r.path=p)&&!r.yanked).map fun r=>⟨plc r.ver,r⟩
def MJ(f:Rq→Nat→Nd):Nat→List Rq→List Nd
 |_,[]=>[]
 |i,q::l=>f q i::MJ f (i+1) l
def Y4(roots:List Rq):List Nd:=MJ (fun q i=>⟨q,mt,0,i⟩) 0 roots
def QR(c:Cd):List Nd:=MJ (fun q i=>⟨q,c.rel.path,c.place,i⟩) 0 c.rel.reqs
def DE(roots:List Rq)(dec:List Cd):List Nd:=Y4 roots++(dec.map QR).flatten
def Du(dec:List Cd)(p:ByteArray):Bool:=dec.any fun c=>decide (c.rel.path=p)
def Eu(dec:List Cd)(a:ByteArray×List Nd)(n:Nd):ByteArray×List Nd :=
 if Du dec n.rq.path=true∨(a.2≠[]∧EJ a.1 n.rq.path=true)then a
 else if a.2≠[]∧EJ n.rq.path a.1=true then(n.rq.path,[n])else(n.rq.path,a.2++[n])
def GW(roots:List Rq)(dec:List Cd):ByteArray×List Nd:=(DE roots dec).foldl (Eu dec) (mt,[])
def bB(l:List Cd)(n:Nd):Bool:=l.any fun d=>decide (d.rel.path=n.rq.path)&&!has n.rq.set d.place
def Ej(dec:List Cd)(c:Cd):Option Nd:=(QR c).find? (bB (dec++[c]))
def Pb(s:List Sl):Nat→List (List Tm)→Option Nat
 |_,[]=>none
 |i,t::l=>if CP t s then some i else Pb s (i+1) l
def Pc(d:List (List Tm))(s:List Sl):Option Nat:=Pb s 0 d
def Dm(l:List Tm)(p:ByteArray):Bool:=l.any fun t=>decide (t.path=p)
instance:DecidableEq Nf:=fun a b=>by
 obtain⟨a1,a2,a3,a4,a5,a6⟩:=a;obtain⟨b1,b2,b3,b4,b5,b6⟩:=b;exact decidable_of_iff (a1=b1∧a2=b2∧a3=b3∧a4=b4∧a5=b5∧a6=b6) ⟨fun⟨h1,h2,h3,h4,h5,h6⟩=>by subst h1 h2 h3 h4 h5 h6;rfl,fun h=>by cases h;exact⟨rfl,rfl,rfl,rfl,rfl,rfl⟩⟩
def L7(i:Nf):Nat→List Nf→Option Nat
 |_,[]=>none
 |k,j::l=>if j=i then some k else L7 i (k+1) l
def Em(s:SS)(i:Nf)(l:List Tm):Nat×SS :=
 match L7 i 0 s.infs with
 |some k=>(k,s)
 |none=>if 65536≤s.infs.length then(s.infs.length-1,⟨s.infs,s.drv,true⟩)else(s.infs.length,⟨s.infs++[i],s.drv++[l],s.full⟩)
def TT(n:Nd):Nf:=if n.path=mt then⟨0,mt,0,n.number,0,0⟩else⟨1,n.path,n.place,n.number,0,0⟩
def Jo(n:Nd):List Tm:=if n.path=mt then JS n.rq else Ev n.path n.place n.rq
def Br(s:SS)(n:Nd):Nat×SS:=Em s (TT n) (Jo n)
abbrev DV(s:SS)(k:Nat):List Tm:=s.drv.getD k []
def Cp(p:ByteArray):List Nat→Nat→SS→Nat×SS
 | [],k,s=>(k,s)
 |r::l,k,s =>
  if s.full=true∨Dm (DV s k) p=false then(k,s)
  else if r=k then Cp p l k s
  else if(BF (DV s k) (DV s r) p).2≠0 then Cp p l k s
  else Cp p l (Em s ⟨3,p,0,0,k,r⟩ (BF (DV s k) (DV s r) p).1).1 (Em s ⟨3,p,0,0,k,r⟩ (BF (DV s k) (DV s r) p).1).2
def Ew(x:List Rl)(p:ByteArray)(s:SS):Nat×SS:=Em s ⟨2,p,0,0,0,0⟩ (Io p (Cg x p))
def Ee(x:List Rl)(p:ByteArray)(n:Nd)(Ga:List Nat)(s:SS):Nat×SS :=
 Cp p ((Ew x p (Br s n).2).1::Ga) (Br s n).1 (Ew x p (Br s n).2).2
structure Km where
 res:Nat
 found:Bool
 ss:SS
 dec:List Cd
 stack:List (List Sk)
def Ec(rec:List Cd→SS→List (List Sk)→Km)(x:List Rl)(p:ByteArray)(needs:List Nd)(n0:Nd)(dec:List Cd)(stack:List (List Sk)):List Cd→SS→List Nat→List Sk→Km
 | [],s,Ga,_=>⟨(Ee x p n0 Ga s).1,false,(Ee x p n0 Ga s).2,dec,stack⟩
 |c::cs,s,Ga,skips =>
  let after (k:Nat) (s:SS):Km:=if Dm (DV s k) p=false then⟨k,false,s,dec,stack⟩else Ec rec x p needs n0 dec stack cs s (Ga++[k]) (skips++[⟨p,c.place,k⟩])
  if s.full=true then⟨0,false,s,dec,stack⟩
  else match needs.find? fun n=>!has n.rq.set c.place with
   |some n=>Ec rec x p needs n0 dec stack cs (Br s n).2 (Ga++[(Br s n).1]) skips
   |none=>match Pc s.drv (AO (dec++[c]))with
    |some k=>after k s
    |none=>match Ej dec c with
     |some n=>after (Br s n).1 (Br s n).2
     |none =>
      let o:=rec (dec++[c]) s (stack++[skips])
      if o.found=true then⟨0,true,o.ss,o.dec,o.stack⟩
      else if o.ss.full=true then⟨0,false,o.ss,dec,stack⟩
      else after o.res o.ss
def Do(x:List Rl)(roots:List Rq):Nat→List Cd→SS→List (List Sk)→Km
 |0,dec,s,stack=>⟨0,false,s,dec,stack⟩
 |n+1,dec,s,stack=>match(GW roots dec).2 with
  | []=>⟨0,true,s,dec,stack⟩
  |n0::l=>Ec (Do x roots n) x (GW roots dec).1 (n0::l) n0 dec stack (Cw x (GW roots dec).1) s [] []
abbrev uN:SS:=⟨[],[],false⟩
def Rz(x:List Rl)(dec:List Cd):Nat:=(x.filter fun r=>!r.yanked&&!Du dec r.path).length
def FZ(x:List Rl)(roots:List Rq):Km:=Do x roots (x.length+1) [] uN []
end Go.Eng
