/- Lemmas for the claims of this seat, without a condition: part 2 (P8, P9, P10, P11, P12, Q1, Q2). -/
import Derived.Test.YtkmnnpmneamgoaaGreatDoorA01
import Derived.Lib.SplitLaws
import Derived.Lib.IndexBytes
namespace Go.Eng
def CK(l:Bc):Bc:=(l.map Ee).filter fun x=>decide (x.1<x.2)
theorem OE(a b:Bc):CK (a++b)=CK a++CK b:=by unfold CK;rw[Az,D0]
theorem U8{l:Bc}{x:Int×Int}(h:x∈CK l):0≤x.1∧x.1<x.2∧x.2≤1000000:=by
 unfold CK at h;rw[BM,Ar]at h;obtain⟨⟨y,_,rfl⟩,h2⟩:=h;have h2:=Cq h2;refine⟨?_,h2,?_⟩<;>simp only[Ee]<;>omega
theorem ct(l:Bc)(p:Int):(CK l).any (BV p)=has l p:=by
 rw[←KH]
 induction l with
 |nil=>rfl
 |cons x r ih =>
  have e:CK (x::r)=(if(Ee x).1<(Ee x).2 then [Ee x]else [])++CK r:=by
   unfold CK;rw[AN,DD]
   by_cases h:(Ee x).1<(Ee x).2<;>simp[h]
  have ec:canon (x::r)=if(Ee x).1<(Ee x).2 then Wb (Ee x) (canon r)else canon r:=rfl
  rw[e,Gt,ih,ec]
  by_cases h:(Ee x).1<(Ee x).2
  ·rw[Ax h,Ax h,Ow _ p (Cs r) h];simp
  ·rw[Aq h,Aq h];simp
theorem NO:∀{l:Bc} {lo:Int},EX lo l↔(∀y∈l,lo≤y.1∧y.1<y.2∧y.2≤1000000)∧l.Pairwise fun a b=>a.2<b.1
 | [],lo=>by simp[EX]
 |y::r,lo=>by
  rw[Dg];constructor
  ·intro h;have hl:=h.low;refine⟨hl,fun z hz=>?_,((NO (l:=r)).1 h.2.2.2).2⟩
   have:=h.2.2.2.low z hz;omega
  ·intro⟨h1,h2,h3⟩;have hy:=h1 y (Ab ..);refine⟨hy.1,hy.2.1,hy.2.2,NO.2 ⟨fun z hz=>?_,h3⟩⟩
   have:=h1 z (Ai _ hz)
   have:=h2 z hz
   omega
def JN(r:Bc)(x:Int×Int):Bc:=match r with
 | []=>[x]
 |y::t=>if x.1≤y.2 then(y.1,max y.2 x.2)::t else x::y::t
def Bx(s:Bc):Bc:=s.foldl JN []
theorem Fz(s:Bc)(i:Nat)(h:i<s.length):Bx (s.take (i+1))=JN (Bx (s.take i)) s[i]:=by
 unfold Bx;rw[Bd,AE h,Ky];rfl
theorem eG(r:Bc)(x:Int×Int):(JN r x).length≤r.length+1∧r.length≤(JN r x).length∧0<(JN r x).length:=by
 unfold JN;split
 ·simp
 ·split<;>simp
theorem N3(s:Bc):∀i,i≤s.length→(Bx (s.take i)).length≤i∧(0<i→0<(Bx (s.take i)).length):=by
 intro i
 induction i with
 |zero=>intro _;simp[Bx]
 |succ i ih =>
  intro h;rw[Fz s i (by omega)]
  have:=eG (Bx (s.take i)) s[i]
  have:=ih (by omega)
  omega
structure nC(r done:Bc):Prop where
 ok:∀y∈r,0≤y.1∧y.1<y.2∧y.2≤1000000
 pw:r.Pairwise fun a b=>b.2<a.1
 has:∀p,r.any (BV p)=done.any (BV p)
 first:∀y t,r=y::t→∃x∈done,y.1=x.1
theorem eD{r done:Bc}{x:Int×Int}(h:nC r done)(hx:0≤x.1∧x.1<x.2∧x.2≤1000000)(hs:∀y∈done,y.1≤x.1):nC (JN r x) (done++[x]):=by
 unfold JN;split
 ·refine⟨fun y hy=>?_,by simp,fun p=>?_,fun y t e=>?_⟩
  ·rw[As.1 hy];exact hx
  ·rw[Gt,←h.has];rfl
  ·cases e;exact⟨x,by simp,rfl⟩
 ·rename_i y t;have hy:=h.ok y (Ab ..);obtain⟨pw1,pw2⟩:=Dg.1 h.pw;obtain⟨z,hz,e⟩:=h.first y t rfl
  have qq:=hs z hz;split
  ·rename_i HN;refine⟨fun u hu=>?_,Dg.2 ⟨pw1,pw2⟩,fun p=>?_,fun u t' e'=>?_⟩
   ·rcases AF.1 hu with rfl | hu
    ·exact⟨hy.1,by dsimp only;omega,by dsimp only;omega⟩
    ·exact h.ok u (Ai _ hu)
   ·rw[Gt,←h.has,BX,BX,BX,List.any_nil,Rw]
    have:BV p (y.1,max y.2 x.2)=(BV p y||BV p x):=by
     simp only[BV];rw[B3];simp only[Af,CU,AD];omega
    rw[this];cases BV p y<;>cases BV p x<;>cases t.any (BV p)<;>rfl
   ·cases e';exact⟨z,Bz _ hz,e⟩
  ·rename_i HN;refine⟨fun u hu=>?_,Dg.2 ⟨fun u hu=>?_,h.pw⟩,fun p=>?_,fun u t' e'=>?_⟩
   ·rcases AF.1 hu with rfl | hu
    ·exact hx
    ·exact h.ok u hu
   ·rcases AF.1 hu with rfl | hu
    ·omega
    ·have:=pw1 u hu;omega
   ·rw[Gt,←h.has,BX,BX,BX,List.any_nil,Rw];cases BV p y<;>cases BV p x<;>cases t.any (BV p)<;>rfl
   ·cases e';exact⟨x,by simp,rfl⟩
theorem Z0{s:Bc}(FV:∀y∈s,0≤y.1∧y.1<y.2∧y.2≤1000000)(hs:s.Pairwise fun a b=>a.1≤b.1):∀i,i≤s.length→nC (Bx (s.take i)) (s.take i):=by
 intro i
 induction i with
 |zero=>intro _;exact⟨fun _ h=>by simp[Bx]at h,by simp[Bx],fun p=>by simp[Bx],fun y t e=>by simp[Bx]at e⟩
 |succ i ih =>
  intro h;have hi:i<s.length:=by omega
  rw[Fz s i hi];have e:s.take (i+1)=s.take i++[s[i]]:=by rw[Bd,AE hi];rfl
  rw[e];refine eD (ih (by omega)) (FV _ (Am hi)) fun y hy=>?_;obtain⟨j,hj,rfl⟩:=CG.1 hy;rw[H8];rw[AG]at hj;exact(Bm.1 hs) j i (by omega) hi (by omega)
theorem LJ{l s:Bc}(hp:s.Perm (CK l))(hs:s.Pairwise fun a b=>a.1≤b.1):(Bx s).reverse=canon l:=by
 have hi:=Z0 (s:=s) (fun y hy=>U8 (hp.mem_iff.1 hy)) hs s.length (Ao _);rw[CN]at hi;have hc:EQ (Bx s).reverse:=by
  unfold EQ;rw[NO];refine⟨fun y hy=>hi.ok y (List.mem_reverse.1 hy),?_⟩;rw[List.pairwise_reverse];exact hi.pw
 refine SD hc fun p=>?_;rw[HJ hc,List.any_reverse,hi.has,←ct];rw[B3,A5,A5];constructor
 ·rintro⟨y,h1,h2⟩;exact⟨y,hp.mem_iff.1 h1,h2⟩
 ·rintro⟨y,h1,h2⟩;exact⟨y,hp.mem_iff.2 h1,h2⟩
end Go.Eng

namespace Go.Eng
-- maps from numbers to numbers,as lists in the order in which they are met
def FC(m:List (Int×Int))(k:Int):Int:=match m.find? (fun p=>decide (p.1=k))with | some p=>p.2 | none=>0
def Ly(m:List (Int×Int))(k v:Int):List (Int×Int):=if m.any (fun p=>decide (p.1=k))then m.map (fun p=>if p.1=k then(k,v)else p)else m++[(k,v)]
theorem Hu(p:Int×Int)(m:List (Int×Int))(k:Int):FC (p::m) k=if p.1=k then p.2 else FC m k:=by
 unfold FC;rw[E0];by_cases h:p.1=k<;>simp[h]
theorem Pu(m:List (Int×Int))(k v j:Int):FC (Ly m k v) j=if j=k then v else FC m j:=by
 unfold Ly;split
 ·rename_i h
  induction m with
  |nil=>simp at h
  |cons p m ih =>
   rw[AN,Hu,Hu]
   by_cases e:p.1=k
   ·rw[Ax e];dsimp only
    by_cases ej:j=k
    ·subst ej;simp
    ·rw[Aq (fun c=>ej c.symm),Aq ej,Aq (fun c=>ej (c.symm.trans e))]
     by_cases hm:(m.any fun p=>decide (p.1=k))=true
     ·rw[ih hm,Aq ej]
     ·have:∀q∈m,q.1≠k:=fun q hq e=>hm (A5.2 ⟨q,hq,by simp[e]⟩)
      have:m.map (fun p=>if p.1=k then(k,v)else p)=m:=by
       conv=>rhs;rw[←L8 m]
       exact A8 fun q hq=>by simp[this q hq]
      rw[this]
   ·rw[Aq e];have hm:(m.any fun p=>decide (p.1=k))=true:=by simpa[e]using h
    rw[ih hm]
    by_cases ej:j=k
    ·subst ej;simp[e]
    ·simp[ej]
 ·rename_i h;have hn:∀q∈m,q.1≠k:=fun q hq e=>h (A5.2 ⟨q,hq,by simp[e]⟩)
  induction m with
  |nil =>
   rw[DL,Hu]
   by_cases ej:j=k
   ·simp[ej]
   ·have:¬k=j:=fun c=>ej c.symm
    simp[ej,this]
  |cons p m ih =>
   rw[D7,Hu,Hu];have e:=hn p (Ab ..);have ih:=ih (by simpa[e]using h) fun q hq=>hn q (Ai _ hq)
   by_cases ep:p.1=j
   ·have:¬j=k:=fun c=>e (ep.trans c)
    simp[ep,this]
   ·simp only[ep,Gc];exact ih
def Fi(m:List (Int×Int)):List Int:=m.map (·.1)
theorem Vu(m:List (Int×Int))(k v:Int):Fi (Ly m k v)=if k∈Fi m then Fi m else Fi m++[k]:=by
 unfold Ly Fi;have e:(m.any fun p=>decide (p.1=k))=decide (k∈m.map (·.1)):=by
  rw[B3];simp only[A5,AD,Ar]
 rw[e]
 by_cases h:k∈m.map (·.1)
 ·simp only[h,decide_true,L5,BY];apply A8;intro p _;simp only[Function.comp];split
  ·rename_i e;exact e.symm
  ·rfl
 ·simp[h]
theorem Mv{m:List (Int×Int)}(h:(Fi m).Nodup)(k v:Int):(Fi (Ly m k v)).Nodup:=by
 rw[Vu];split
 ·exact h
 ·rename_i hn;rw[Gz];exact⟨h,by simp,fun a ha b hb e=>by subst e;rw[As.1 hb]at ha;exact hn ha⟩
theorem Il(m:List (Int×Int))(k v j:Int):j∈Fi (Ly m k v)↔j=k∨j∈Fi m:=by
 rw[Vu];split
 ·rename_i h;constructor
  ·exact .inr
  ·rintro(rfl | h')
   ·exact h
   ·exact h'
 ·simp[or_comm]
theorem jM{m:List (Int×Int)}(h:(Fi m).Nodup){p:Int×Int}(hp:p∈m):FC m p.1=p.2:=by
 induction m with
 |nil=>cases hp
 |cons q m ih =>
  rw[Hu];unfold Fi at h ih;rw[AN,Db]at h;rcases AF.1 hp with rfl | hp
  ·simp
  ·have:¬q.1=p.1:=fun e=>h.1 (e▸Ar.2 ⟨p,hp,rfl⟩)
   rw[Aq this];exact ih h.2 hp
theorem jN{m:List (Int×Int)}{k:Int}(h:k∉Fi m):FC m k=0:=by
 unfold FC
 have:m.find? (fun p=>decide (p.1=k))=none:=by
  rw[Ev];intro p hp;simp only[AD];exact fun e=>h (Ar.2 ⟨p,hp,e⟩)
 rw[this]
-- counting
def cF(S:Bc)(k:Int):Nat:=S.countP fun x=>decide (x.1=k)
def cT(S:Bc)(k:Int):Nat:=S.countP fun x=>decide (x.2=k)
def lF(S:Bc)(k:Int):Nat:=S.countP fun x=>decide (x.1≤k)
def lT(S:Bc)(k:Int):Nat:=S.countP fun x=>decide (x.2≤k)
theorem I9{α:Type}{p q r:α→Bool}:∀{l:List α},(∀x∈l,(p x=true↔q x=true∨r x=true)∧¬(q x=true∧r x=true))→l.countP p=l.countP q+l.countP r
 | [],_=>rfl
 |x::l,h=>by
  have ih:=I9 fun y hy=>h y (Ai _ hy);obtain⟨h1,h2⟩:=h x (Ab ..);rw[IN,IN,IN,ih];cases hp:p x<;>cases hq:q x<;>cases hr:r x<;>simp_all<;>omega
structure It(m:List (Int×Int))(S:Bc):Prop where
 nd:(Fi m).Nodup
 val:∀k,FC m k=(cF S k:Int)-cT S k
 keys:0∈Fi m∧1000000∈Fi m∧∀x∈S,x.1∈Fi m∧x.2∈Fi m
 rng:∀k∈Fi m,0≤k∧k≤1000000
def re:List (Int×Int):=[(0,0),(1000000,0)]
theorem kE:It re []:=⟨by decide,fun k=>by
  unfold re;rw[Hu,Hu];simp[FC,cF,cT],⟨by decide,by decide,fun _ h=>by cases h⟩,fun k hk=>by
  unfold re Fi at hk;simp at hk;omega⟩
def YX(m:List (Int×Int))(x:Int×Int):List (Int×Int):=Ly (Ly m x.1 (FC m x.1+1)) x.2 (FC (Ly m x.1 (FC m x.1+1)) x.2-1)
theorem eu{m:List (Int×Int)}{S:Bc}{x:Int×Int}(h:It m S)(hx:0≤x.1∧x.1<x.2∧x.2≤1000000):It (YX m x) (S++[x]):=by
 unfold YX;refine⟨Mv (Mv h.nd _ _) _ _,fun k=>?_,⟨?_,?_,fun y hy=>?_⟩,fun k hk=>?_⟩
 ·rw[Pu,Pu,Pu,h.val,h.val,h.val];unfold cF cT;simp only[List.countP_append,List.countP_singleton,AD]
  by_cases e1:k=x.2
  ·subst e1
   have:¬x.2=x.1:=by omega
   have:¬x.1=x.2:=by omega
   simp[*];omega
  ·by_cases e2:k=x.1
   ·subst e2
    have:¬x.2=x.1:=by omega
    have:¬x.1=x.2:=by omega
    simp[*];omega
   ·have a1:¬x.1=k:=fun c=>e2 c.symm;have a2:¬x.2=k:=fun c=>e1 c.symm;simp[e1,e2,a1,a2]
 ·rw[Il,Il];exact .inr (.inr h.keys.1)
 ·rw[Il,Il];exact .inr (.inr h.keys.2.1)
 ·simp only[Il];rcases A4.1 hy with hy | hy
  ·have:=h.keys.2.2 y hy
   exact⟨.inr (.inr this.1),.inr (.inr this.2)⟩
  ·rw[As.1 hy];exact⟨.inr (.inl rfl),.inl rfl⟩
 ·rw[Il,Il]at hk;rcases hk with rfl | rfl | hk
  ·omega
  ·omega
  ·exact h.rng k hk
def IJ(m:List (Int×Int))(B:List Int):Int:=(B.map (FC m)).foldl (·+·) 0
theorem QE(m:List (Int×Int))(B:List Int)(i:Nat)(h:i<B.length):IJ m (B.take (i+1))=IJ m (B.take i)+FC m B[i]:=by
 unfold IJ;rw[Bd,AE h,Az,Ky];simp only[Option.toList_some,AN,Fj,FN,List.foldl_nil]
structure kg(B:List Int)(m:List (Int×Int)):Prop where
 perm:B.Perm (Fi m)
 srt:B.Pairwise fun a b=>a<b
theorem bO{m:List (Int×Int)}{S:Bc}{B:List Int}(h:It m S)(hB:kg B m):∀i (hi:i<B.length),IJ m (B.take (i+1))=(lF S B[i]:Int)-lT S B[i]:=by
 have mem:∀k,k∈Fi m→∃j,∃hj:j<B.length,B[j]=k:=fun k hk=>by
  have:=hB.perm.mem_iff.2 hk
  obtain⟨j,hj,e⟩:=CG.1 this;exact⟨j,hj,e⟩
 have lt:∀i j (hi:i<B.length) (hj:j<B.length),i<j→B[i]<B[j]:=fun i j hi hj Wy=>(Bm.1 hB.srt) i j hi hj Wy;intro i
 induction i with
 |zero =>
  intro hi;rw[QE m B 0 hi,h.val]
  have:IJ m (B.take 0)=0:=by simp[IJ]
  rw[this];have low:∀k∈Fi m,B[0]≤k:=fun k hk=>by
   obtain⟨j,hj,rfl⟩:=mem k hk;cases j with
   |zero=>exact BF _
   |succ j=>have:=lt 0 (j+1) hi hj (by omega);omega
  have e1:lF S B[0]=cF S B[0]:=by
   unfold lF cF;apply QN;intro x hx
   have:=low _ (h.keys.2.2 x hx).1
   simp only[AD];omega
  have e2:lT S B[0]=cT S B[0]:=by
   unfold lT cT;apply QN;intro x hx
   have:=low _ (h.keys.2.2 x hx).2
   simp only[AD];omega
  rw[e1,e2];omega
 |succ i ih =>
  intro hi;rw[QE m B (i+1) hi,ih (by omega),h.val];have nb:∀k∈Fi m,k≤B[i+1]↔k≤B[i]∨k=B[i+1]:=fun k hk=>by
   obtain⟨j,hj,rfl⟩:=mem k hk;have l0:=lt i (i+1) (by omega) hi (by omega);rcases Nat.lt_trichotomy j (i+1)with c | c | c
   ·have:B[j]≤B[i]:=by
     rcases BZ j i with d | d
     ·have:=lt j i hj (by omega) d;omega
     ·have:j=i:=by omega
      subst this;exact BF _
    omega
   ·subst c;omega
   ·have:=lt (i+1) j hi hj c;omega
  have l0:=lt i (i+1) (by omega) hi (by omega);have e1:lF S B[i+1]=lF S B[i]+cF S B[i+1]:=by
   unfold lF cF;apply I9;intro x hx
   have:=nb _ (h.keys.2.2 x hx).1
   simp only[AD];omega
  have e2:lT S B[i+1]=lT S B[i]+cT S B[i+1]:=by
   unfold lT cT;apply I9;intro x hx
   have:=nb _ (h.keys.2.2 x hx).2
   simp only[AD];omega
  rw[e1,e2];omega
theorem Xy{S:Bc}(hS:∀x∈S,x.1<x.2)(p:Int):(lF S p:Int)-lT S p=(S.countP (BV p):Nat):=by
 have:lF S p=S.countP (BV p)+lT S p:=by
  unfold lF lT;apply I9;intro x hx
  have:=hS x hx
  simp only[BV,Af,AD];omega
 omega
theorem OF:∀{l:Bc} {lo:Int} (p:Int),EX lo l→l.countP (BV p)=if l.any (BV p)then 1 else 0
 | [],_,_,_=>rfl
 |y::r,lo,p,⟨h1,h2,h3,h4⟩=>by
  rw[IN,OF p h4,BX];cases hy:BV p y with
  |false=>rw[Js];simp
  |true =>
   have:=DO.1 hy
   have:r.any (BV p)=false:=by
    rw[AI];intro hr;have:=MH h4 hr;omega
   simp[this]
theorem Mg:∀(l:List Bc) (p:Int),((l.map canon).flatten).countP (BV p)=eT l p
 | [],_=>rfl
 |s::l,p=>by
  rw[AN,Bu,List.countP_append,Mg l p,OF p (Cs s),KH];unfold eT;rw[IN];omega
def EG(keep:Nat→Bool)(m:List (Int×Int))(B:List Int):Nat→Bc
 |0=>[]
 |i+1=>EG keep m B i++(match B[i]?,B[i+1]? with
  |some a,some b=>if keep (IJ m (B.take (i+1))).toNat then [(a,b)]else []
  |_,_=>[])
theorem Qb{keep:Nat→Bool}{m:List (Int×Int)}{B:List Int}{x:Int×Int}:∀{n:Nat},x∈EG keep m B n↔∃i,i<n∧∃(h1:i<B.length) (h2:i+1<B.length),keep (IJ m (B.take (i+1))).toNat=true∧x=(B[i],B[i+1])
 |0=>by simp[EG]
 |n+1=>by
  unfold EG;rw[A4,Qb (n:=n)];constructor
  ·rintro(⟨i,h1,h2⟩ | h)
   ·exact⟨i,by omega,h2⟩
   ·split at h
    ·rename_i a b ha hb;obtain⟨h1,e1⟩:=Aw.1 ha;obtain⟨h2,e2⟩:=Aw.1 hb;split at h
     ·rename_i hk;refine⟨n,by omega,h1,h2,hk,?_⟩;rw[As.1 h,e1,e2]
     ·cases h
    ·cases h
  ·rintro⟨i,h1,h2,h3,h4,rfl⟩
   by_cases e:i=n
   ·subst e;refine .inr ?_;rw[AE h2,AE h3];simp[h4]
   ·exact .inl ⟨i,by omega,h2,h3,h4,rfl⟩
theorem OB{B:List Int}(hs:B.Pairwise fun a b=>a<b){p:Int}:∀(n:Nat) (h0:0<B.length) (hn:n<B.length),B[0]≤p→p<B[n]→∃i,∃(h1:i<B.length) (h2:i+1<B.length),B[i]≤p∧p<B[i+1]
 |0,h0,hn,h1,h2=>by omega
 |n+1,h0,hn,h1,h2=>by
  by_cases e:B[n]≤p
  ·exact⟨n,by omega,hn,e,h2⟩
  ·exact OB hs n h0 (by omega) h1 (by omega)
theorem ip{keep:Nat→Bool}{l:List Bc}{m:List (Int×Int)}{B:List Int}(h:It m (l.map canon).flatten)(hB:kg B m)(p:Int):has (EG keep m B (B.length-1)) p=(L0 p&&keep (eT l p)):=by
 have hS:∀x∈(l.map canon).flatten,x.1<x.2:=fun x hx=>by
  obtain⟨s,hs,hx⟩:=Ff.1 hx;obtain⟨t,_,rfl⟩:=Ar.1 hs;exact((Cs t).low x hx).2.1
 have mem:∀k,k∈Fi m→∃j,∃hj:j<B.length,B[j]=k:=fun k hk=>by
  obtain⟨j,hj,e⟩:=CG.1 (hB.perm.mem_iff.2 hk);exact⟨j,hj,e⟩
 have lt:∀i j (hi:i<B.length) (hj:j<B.length),i<j→B[i]<B[j]:=fun i j hi hj Wy=>(Bm.1 hB.srt) i j hi hj Wy;have rng:∀i (hi:i<B.length),0≤B[i]∧B[i]≤1000000:=fun i hi=>h.rng _ (hB.perm.mem_iff.1 (Am hi))
 -- Wg two bounds
 have Wg:∀i (h1:i<B.length) (h2:i+1<B.length),B[i]≤p→p<B[i+1]→(IJ m (B.take (i+1))).toNat=eT l p:=fun i h1 h2 a b=>by
  have same:∀k∈Fi m,k≤B[i]↔k≤p:=fun k hk=>by
   obtain⟨j,hj,rfl⟩:=mem k hk;constructor
   ·intro c;omega
   ·intro c;rcases BZ i j with d | d
    ·rcases BZ (i+1) j with f | f
     ·have:=lt (i+1) j h2 hj f;omega
     ·have:j=i+1:=by omega
      subst this;omega
    ·rcases BZ j i with f | f
     ·have:=lt j i hj h1 f;omega
     ·have:j=i:=by omega
      subst this;exact BF _
  have e1:lF (l.map canon).flatten B[i]=lF (l.map canon).flatten p:=by
   unfold lF;apply QN;intro x hx
   have:=same _ (h.keys.2.2 x hx).1
   simp only[AD];exact this
  have e2:lT (l.map canon).flatten B[i]=lT (l.map canon).flatten p:=by
   unfold lT;apply QN;intro x hx
   have:=same _ (h.keys.2.2 x hx).2
   simp only[AD];exact this
  rw[bO h hB i h1,e1,e2,Xy hS,Mg];simp
 rw[B3];constructor
 ·intro hh;have Y4:=Mp hh;unfold has at hh;simp only[Y4,decide_true,El]at hh;obtain⟨x,hx,hp⟩:=A5.1 hh;obtain⟨i,_,h1,h2,hk,rfl⟩:=Qb.1 hx
  have:=DO.1 hp
  dsimp only at this;rw[←Wg i h1 h2 this.1 this.2];simp[L0,Y4,hk]
 ·intro hh;simp only[Af,L0,AD]at hh;obtain⟨⟨p0,p1⟩,hk⟩:=hh;obtain⟨j0,hj0,e0⟩:=mem 0 h.keys.1;obtain⟨j1,hj1,e1⟩:=mem 1000000 h.keys.2.1;have wQ:B[0]'(by omega)≤p:=by
   have:B[0]'(by omega)≤0:=by
    cases j0 with
    |zero=>omega
    |succ j=>have:=lt 0 (j+1) (by omega) hj0 (by omega);omega
   omega
  obtain⟨i,h1,h2,a,b⟩:=OB hB.srt j1 (by omega) hj1 wQ (by omega);unfold has;simp only[p0,p1,decide_true,El];exact A5.2 ⟨(B[i],B[i+1]),Qb.2 ⟨i,by omega,h1,h2,by rw[Wg i h1 h2 a b];exact hk,rfl⟩,DO.2 ⟨a,b⟩⟩
theorem jz{l:List Bc}{m:List (Int×Int)}{B:List Int}(h:It m (l.map canon).flatten)(hB:kg B m)(i:Nat)(hi:i<B.length):0≤IJ m (B.take (i+1))∧IJ m (B.take (i+1))≤l.length:=by
 have hS:∀x∈(l.map canon).flatten,x.1<x.2:=fun x hx=>by
  obtain⟨s,hs,hx⟩:=Ff.1 hx;obtain⟨t,_,rfl⟩:=Ar.1 hs;exact((Cs t).low x hx).2.1
 rw[bO h hB i hi,Xy hS,Mg]
 have:eT l B[i]≤l.length:=List.countP_le_length
 omega
end Go.Eng

namespace Go.Eng
def WW(m:List Tm)(t:Tm):List Tm:=if m.any (fun u=>decide (u.path=t.path))then m.map (fun u=>if u.path=t.path then t else u)else m++[t]
def Ru(m:List Tm)(t:Tm):List Tm:=WW m (N9 (Dx m t.path) t)
def Dh(l:List Tm):List Tm:=l.foldl Ru []
theorem cI(t:Tm)(p:ByteArray):∀m:List Tm,Dx (WW m t) p=if t.path=p then some t else Dx m p:=by
 intro m;unfold WW
 by_cases h:(m.any fun u=>decide (u.path=t.path))=true
 ·rw[Ax h]
  induction m with
  |nil=>simp at h
  |cons u m ih =>
   rw[AN,C0,C0]
   by_cases e:u.path=t.path
   ·rw[Ax e]
    by_cases ep:t.path=p
    ·simp[ep]
    ·rw[Aq ep,Aq ep,Aq (fun c=>ep (e.symm.trans c))]
     by_cases hm:(m.any fun u=>decide (u.path=t.path))=true
     ·rw[ih hm,Aq ep]
     ·have:∀q∈m,q.path≠t.path:=fun q hq c=>hm (A5.2 ⟨q,hq,by simp[c]⟩)
      have:m.map (fun u=>if u.path=t.path then t else u)=m:=by
       conv=>rhs;rw[←L8 m]
       exact A8 fun q hq=>by simp[this q hq]
      rw[this]
   ·rw[Aq e];have hm:(m.any fun u=>decide (u.path=t.path))=true:=by simpa[e]using h
    rw[ih hm]
    by_cases ep:t.path=p
    ·subst ep;simp[e]
    ·simp[ep]
 ·rw[Aq h];have hn:∀q∈m,q.path≠t.path:=fun q hq e=>h (A5.2 ⟨q,hq,by simp[e]⟩)
  clear h
  induction m with
  |nil=>rw[DL,C0]
  |cons u m ih =>
   rw[D7,C0,C0,ih fun q hq=>hn q (Ai _ hq)]
   have:=hn u (Ab ..)
   by_cases e:u.path=p
   ·have:¬t.path=p:=fun c=>this (e.trans c.symm)
    simp[e,this]
   ·simp[e]
def EI(m:List Tm):List ByteArray:=m.map (·.path)
open Classical in
theorem ao(m:List Tm)(t:Tm):EI (WW m t)=if t.path∈EI m then EI m else EI m++[t.path]:=by
 unfold WW EI;have e:(m.any fun u=>decide (u.path=t.path))=true↔t.path∈m.map (·.path):=by
  simp only[A5,AD,Ar]
 by_cases h:t.path∈m.map (·.path)
 ·rw[Ax (e.2 h),Ax h,BY];apply A8;intro p _;simp only[Function.comp];split
  ·rename_i e;exact e.symm
  ·rfl
 ·rw[Aq (fun c=>h (e.1 c)),Aq h,Az];rfl
theorem dH{m:List Tm}(h:(EI m).Nodup)(t:Tm):(EI (WW m t)).Nodup:=by
 rw[ao];split
 ·exact h
 ·rename_i hn;rw[Gz];exact⟨h,by simp,fun a ha b hb e=>by subst e;rw[As.1 hb]at ha;exact hn ha⟩
theorem Rh(l:List Tm)(i:Nat)(h:i<l.length):Dh (l.take (i+1))=Ru (Dh (l.take i)) l[i]:=by
 unfold Dh;rw[Bd,AE h,Ky];rfl
theorem OQ:∀(l m:List Tm),(EI m).Nodup→(EI (l.foldl Ru m)).Nodup
 | [],_,h=>h
 |_::l,_,h=>OQ l _ (dH h _)
theorem HR(l:List Tm):(EI (Dh l)).Nodup:=OQ l [] .nil
theorem XI(m:List Tm)(t:Tm)(p:ByteArray):Dx (Ru m t) p=Kd p (Dx m p) t:=by
 unfold Ru Kd;have hp:(N9 (Dx m t.path) t).path=t.path:=Qp _ _ fun u h=>Hh h;rw[cI,hp]
 by_cases e:t.path=p
 ·rw[Ax e,Ax e,e]
 ·rw[Aq e,Aq e]
theorem ON(p:ByteArray):∀(l m:List Tm),Dx (l.foldl Ru m) p=l.foldl (Kd p) (Dx m p)
 | [],_=>rfl
 |t::l,m=>by rw[FN,FN,ON p l,XI]
theorem ZB(l:List Tm)(p:ByteArray):Dx (Dh l) p=Dx (Fa l) p:=by
 unfold Dh;rw[ON,Jc];rfl
theorem Ml{m:List Tm}(h:(EI m).Nodup){t:Tm}:t∈m↔Dx m t.path=some t:=by
 constructor
 ·induction m with
  |nil=>intro h;cases h
  |cons u m ih =>
   intro ht;unfold EI at h ih;rw[AN,Db]at h;rw[C0];rcases AF.1 ht with rfl | ht
   ·rw[Ax rfl]
   ·have:¬u.path=t.path:=fun e=>h.1 (e▸Ar.2 ⟨t,ht,rfl⟩)
    rw[Aq this];exact ih h.2 ht
 ·exact Fr
theorem HW{m:List Tm}(h:(EI m).Nodup):m.Nodup:=by
 unfold EI at h
 induction m with
 |nil=>exact .nil
 |cons u m ih =>
  rw[AN,Db]at h;exact Db.2 ⟨fun hu=>h.1 (Ar.2 ⟨u,hu,rfl⟩),ih h.2⟩
theorem H2{l:List Tm}{lo:Option ByteArray}(h:Cm lo l):(EI l).Nodup:=by
 unfold EI
 induction l generalizing lo with
 |nil=>exact .nil
 |cons t l ih =>
  rw[AN,Db];refine⟨fun hm=>?_,ih h.2.2⟩;obtain⟨u,hu,e⟩:=Ar.1 hm
  have:=h.2.2.low u hu
  rw[e,DY]at this;cases this
theorem Jl(l:List Tm)(t:Tm):t∈Dh l↔t∈Fa l:=by
 rw[Ml (HR l),ZB,←Ml (H2 (Ew l))]
theorem O8(l:List Tm):∀t∈Dh l,EQ t.set:=fun t ht=>(Ew l).canon t ((Jl l t).1 ht)
theorem eH(m:List Tm)(t:Tm):(Ru m t).length≤m.length+1:=by
 unfold Ru WW;split<;>simp
theorem N2(l:List Tm):∀i,i≤l.length→(Dh (l.take i)).length≤i:=by
 intro i
 induction i with
 |zero=>intro _;simp[Dh]
 |succ i ih =>
  intro h;rw[Rh l i (by omega)]
  have:=eH (Dh (l.take i)) l[i]
  have:=ih (by omega)
  omega
theorem aI{s:List Tm}(hs:s.Pairwise fun x y=>EN x.path y.path=true)(hc:∀t∈s,EQ t.set):Cm none s:=by
 have:∀(s:List Tm) (lo:Option ByteArray),s.Pairwise (fun x y=>EN x.path y.path=true)→(∀t∈s,EQ t.set)→(∀p,lo=some p→∀t∈s,EN p t.path=true)→Cm lo s:=by
  intro s
  induction s with
  |nil=>intro _ _ _ _;trivial
  |cons t s ih =>
   intro lo hs hc hl;obtain⟨h1,h2⟩:=Dg.1 hs;exact⟨fun p e=>hl p e t (Ab ..),hc t (Ab ..),ih _ h2 (fun u hu=>hc u (Ai _ hu)) fun p e u hu=>by cases e;exact h1 u hu⟩
 exact this s none hs hc fun _ e=>by cases e
theorem PK{l s:List Tm}(q:Tm→Bool)(hp:s.Perm ((Dh l).filter q))(hs:s.Pairwise fun x y=>EN y.path x.path=false):s=(Fa l).filter q:=by
 have hm:∀t,t∈s↔t∈(Fa l).filter q:=fun t=>by
  rw[hp.mem_iff,BM,BM,Jl]
 have MP:(EI s).Nodup:=by
  have h1:(EI ((Dh l).filter q)).Nodup:=by
   unfold EI;exact List.Nodup.sublist (List.Sublist.map _ List.filter_sublist) (HR l)
  unfold EI at h1⊢;exact(hp.map (·.path)).nodup_iff.2 h1
 have GD:s.Pairwise fun x y=>EN x.path y.path=true:=by
  rw[Bm]at hs⊢;intro i j hi hj Wy;cases hb:EN s[i].path s[j].path with
  |true=>rfl
  |false =>
   have e:=I7 hb (hs i j hi hj Wy);unfold EI at MP
   have:=(Bm.1 MP) i j (by simpa using hi) (by simpa using hj) Wy
   simp at this;exact absurd e this
 have hss:Cm none s:=aI GD fun t ht=>(Ew l).canon t (BM.1 ((hm t).1 ht)).1;have ZR:Cm none ((Fa l).filter q):=Cm.filter q (Ew l);refine MF hss ZR fun p=>?_;cases h1:Dx s p with
 |some t =>
  have:=(hm t).1 (Fr h1)
  rw[FS ZR,Hh h1]at this;exact this.symm
 |none =>
  cases h2:Dx ((Fa l).filter q) p with
  |none=>rfl
  |some t =>
   have:=(hm t).2 (Fr h2)
   rw[FS hss,Hh h2,h1]at this;cases this
theorem Zm(t:Tm):G4 t t=LI t:=by unfold G4 LI;rw[ZT,Bool.and_self]
theorem bK(o:Option Tm)(t:Tm):N9 o t=G4 (o.getD t) t:=by cases o with | none=>exact(Zm t).symm | some u=>rfl
theorem cd{t:Tm}(h:EQ t.set):(t.absent&&(Eu t.set).isEmpty)=GK t:=by
 unfold GK
 congr 1
 rw[B3,F4,AD];have ha:EQ [(0,1000000)]:=⟨BF _,by dsimp only;omega,BF _,trivial⟩;constructor
 ·intro e;refine HD h ha fun p=>?_
  have:=FU t.set p
  rw[e]at this;have h0:has [] p=false:=by simp[has]
  rw[h0]at this;have h1:has [(0,1000000)] p=L0 p:=by simp[has,L0,BV]
  rw[h1];cases hp:L0 p with
  |true=>rw[hp]at this;simpa using this.symm
  |false =>
   rw[AI];intro hh
   have:=Mp hh
   simp[L0,this]at hp
 ·intro e;rw[Qj (Hm _)];intro p;rw[FU,e];have h1:has [(0,1000000)] p=L0 p:=by simp[has,L0,BV]
  rw[h1];simp
theorem iH{t:Tm}(h:EQ t.set):(!t.absent&&(canon t.set).isEmpty)=HS t:=by unfold HS;rw[Ju h]
end Go.Eng

namespace Go.Eng
open Go.Lib
theorem QA(c:UInt8):∀(s:List UInt8) (k:Nat),s.count c≤k→splitK [c] 0 k s=CT c s
 | [],k,_=>by
  cases k with
  |zero=>rfl
  |succ k=>rfl
 |b::r,k,h=>by
  rw[CT]
  by_cases e:b=c
  ·subst e;rw[List.count_cons_self]at h;obtain⟨k',rfl⟩:∃k',k=k'+1:=⟨k-1,by omega⟩;rw[Ax rfl,splitK,index_one,indexByte];simp only[beq_self_eq_true,L5];rw[Aq (by decide)];show []::splitK [b] 0 k' r=_;rw[QA b r k' (by omega)]
  ·have DB:(b == c)=false:=by simpa using e
   rw[List.count_cons_of_ne (by simpa using e)]at h;have ih:=QA c r k h;rw[Aq e];cases k with
   |zero =>
    rw[←ih];rfl
   |succ k =>
    rw[←ih,splitK,splitK,index_one,index_one,indexByte,DB]
    by_cases h0:indexByte r c=-1
    ·rw[h0];rfl
    ·have h1:(indexByte r c == -1)=false:=by simpa using h0
     have h2:=indexByte_ge r c;have h3:(indexByte r c+1 == -1)=false:=by rw[beq_eq_false_iff_ne];omega
     simp only[Df,Gc,h1,h3];obtain⟨i,hi⟩:∃i:Nat,indexByte r c=i:=⟨(indexByte r c).toNat,by omega⟩;rw[hi];show(b::r).take (((i:Int)+1).toNat+0)::_=(b::r.take ((i:Int).toNat+0))::_;rw[show((i:Int)+1).toNat=i+1 by omega,show((i:Nat):Int).toNat=i by omega]
     rfl
theorem Xx(c:UInt8):∀(n:Nat) (s:List UInt8),s.length≤n→count s [c]=s.count c
 |n,s,hn=>by
  rcases Int.lt_or_le (indexByte s c) 0 with h | h
  ·have h2:=indexByte_ge s c;have h3:indexByte s c=-1:=by omega
   rw[count_miss (by rw[index_one];exact h3)]
   symm
   rw[List.count_eq_zero];intro hm;obtain⟨k,hk,e⟩:=B1 hm;exact indexByte_none h3 k (by rw[AE hk,e])
  ·obtain⟨i,hi⟩:∃i:Nat,indexByte s c=i:=⟨(indexByte s c).toNat,by omega⟩;obtain⟨h1,h2⟩:=indexByte_some hi;obtain⟨hl,hg⟩:=Aw.1 h1;cases n with
   |zero=>omega
   |succ n =>
    have hc:=count_hit (s:=s) (sub:=[c]) (i:=i) (by simp) (by rw[index_one];exact hi);rw[hc];have ih:=Xx c n (s.drop (i+1)) (by rw[B4];omega);have sy:s=s.take i++c::s.drop (i+1):=by
     rw[←hg,←Bl hl,Ek]
    have h0:(s.take i).count c=0:=by
     rw[List.count_eq_zero];intro hm;obtain⟨k,hk,e⟩:=B1 hm;rw[AG]at hk;rw[H8]at e;exact h2 k (by omega) (by rw[AE (by omega),e])
    conv=>rhs;rw[sy]
    rw[List.count_append,h0,List.count_cons_self];show 1+count (s.drop (i+1)) [c]=_;rw[ih];omega
theorem ek(s:ByteArray)(c:UInt8):((splitB ⟨#[c]⟩ 0 (countB s ⟨#[c]⟩) s).map (·.data.toList))=CT c s.data.toList:=by
 rw[splitB_data];refine QA c _ _ ?_;show _≤count s.data.toList [c];rw[Xx c _ _ (Ao _)];exact Ao _
end Go.Eng

namespace Go.Eng
theorem VA{α:Type}:∀{l m:List α},l.Nodup→(∀x∈l,x∈m)→l.length≤m.length
 | [],_,_,_=>AL _
 |a::l,m,hn,hs=>by
  obtain⟨h1,h2⟩:=Db.1 hn;obtain⟨s,t,rfl⟩:=List.append_of_mem (hs a (Ab ..))
  have:l.length≤(s++t).length:=VA h2 fun x hx=>by
   rcases A4.1 (hs x (Ai _ hx))with h | h
   ·exact Bz _ h
   ·rcases AF.1 h with rfl | h
    ·exact absurd hx h1
    ·exact Bq _ h
  simp only[Ad,Aj]at this⊢;omega
theorem LL(p:ByteArray):∀(l:List Tm) (o:Option Tm),(∀u∈l,u.path≠p)→l.foldl (Kd p) o=o
 | [],_,_=>rfl
 |t::l,o,h=>by
  rw[FN,show Kd p o t=o by unfold Kd;rw[Aq (h t (Ab ..))]];exact LL p l o fun u hu=>h u (Ai _ hu)
theorem aa{l:List Tm}{t:Tm}(h:t∈Fa l):∃u∈l,u.path=t.path:=by
 apply Ch;intro hn
 have:∀u∈l,u.path≠t.path:=fun u hu e=>hn ⟨u,hu,e⟩
 have h1:=(FS (Ew l)).1 h;rw[Jc,LL _ _ _ this]at h1;cases h1
def UQ(U:List ByteArray)(t:List Tm):Prop:=Cm none t∧∀u∈t,u.path∈U
theorem UQ.len{U:List ByteArray}{t:List Tm}(h:UQ U t):t.length≤U.length:=by
 have:=VA (H2 h.1) (m:=U) fun p hp=>by
  obtain⟨u,hu,rfl⟩:=Ar.1 hp;exact h.2 u hu
 unfold EI at this
 rwa [Bs]at this
theorem Zo{l c:List Tm}(h:Da l=some c){t:Tm}(ht:t∈c):t∈Fa l:=by
 unfold Da at h;split at h
 ·cases h
 ·cases h;exact(BM.1 ht).1
theorem PJ{U:List ByteArray}{l c:List Tm}(h:Da l=some c)(hu:∀u∈l,u.path∈U):UQ U c :=
 ⟨E1 h,fun t ht=>by
  obtain⟨u,h1,h2⟩:=aa (Zo h ht);rw[←h2];exact hu u h1⟩
theorem UQ.nil(U:List ByteArray):UQ U []:=⟨trivial,fun u hu=>by cases hu⟩
theorem TT{U:List ByteArray}{l:List Tm}(hu:∀u∈l,u.path∈U):UQ U (Qk l):=by
 unfold Qk;cases h:Da l with
 |none=>exact .nil U
 |some c=>exact PJ h hu
theorem Rr{U:List ByteArray}{a b:List Tm}{p:ByteArray}(ha:UQ U a)(hb:UQ U b):UQ U (BA a b p).1:=by
 have sp:∀{l r:List Tm} {t:Tm},UQ U l→FH l p=some (t,r)→t.path∈U∧∀u∈r,u.path∈U:=by
  intro l r t hl h;unfold FH at h;cases e:Da l with
  |none=>rw[e]at h;cases h
  |some c =>
   rw[e]at h;have h:(match Dx c p with | none=>none | some t=>some (t,FX c p))=some (t,r):=h;have hc:=PJ e hl.2;cases e2:Dx c p with
   |none=>rw[e2]at h;cases h
   |some u =>
    rw[e2]at h;cases h;exact⟨hc.2 _ (Fr e2),fun u hu=>hc.2 u (BM.1 hu).1⟩
 unfold BA;split
 ·rename_i t r u m e1 e2;obtain⟨a1,a2⟩:=sp ha e1;obtain⟨b1,b2⟩:=sp hb e2;split
  ·rename_i o e3;refine PJ e3 fun v hv=>?_;rcases A4.1 hv with hv | hv
   ·rcases A4.1 hv with hv | hv
    ·exact a2 v hv
    ·exact b2 v hv
   ·rw[As.1 hv];exact a1
  ·exact .nil U
 ·exact .nil U
def Kp(x:List Rl)(roots:List Rq)(l:List Nf):List ByteArray:=(x.map (·.path))++((x.map (·.reqs)).flatten.map (·.path)++(roots.map (·.path)++l.map (·.path)))
theorem dh{x:List Rl}{roots:List Rq}{l:List Nf}{d:List (List Tm)}{i:Nf}(hi:i∈l)(hd:∀t∈d,UQ (Kp x roots l) t){t:List Tm}(h:DZ x roots d i=some t):UQ (Kp x roots l) t:=by
 have hp:i.path∈Kp x roots l:=by
  unfold Kp;exact Bq _ (Bq _ (Bq _ (Ar.2 ⟨i,hi,rfl⟩)))
 have nz:∀{α:Type} {l:List α} {k:Int} {a:α},JG l k=some a→a∈l:=by
  intro α l k a h;unfold JG at h;split at h
  ·cases h
  ·exact AA h
 have n0:∀{a b:List Tm},dA a=some b→b=a:=by
  intro a b h;unfold dA at h;split at h
  ·cases h
  ·cases h;rfl
 unfold DZ at h;split at h
 ·split at h
  ·cases e:JG roots i.number with
   |none=>rw[e]at h;cases h
   |some q =>
    rw[e]at h;cases h;refine TT fun u hu=>?_;rw[As.1 hu];unfold Kp;exact Bq _ (Bq _ (Bz _ (Ar.2 ⟨q,nz e,rfl⟩)))
  ·cases h
 split at h
 ·split at h
  ·cases e:Ph x i.path i.place with
   |none=>rw[e]at h;cases h
   |some r =>
    rw[e]at h;have h:(match JG r.reqs i.number with | none=>none | some q=>dA (Es i.path i.place q))=some t:=h;cases e2:JG r.reqs i.number with
    |none=>rw[e2]at h;cases h
    |some q =>
     rw[e2]at h;have h:=n0 (show dA (Es i.path i.place q)=some t from h);subst h;refine TT fun u hu=>?_;rcases AF.1 hu with rfl | hu
     ·exact hp
     ·rw[As.1 hu];unfold Kp;refine Bq _ (Bz _ (Ar.2 ⟨q,?_,rfl⟩));exact Ff.2 ⟨r.reqs,Ar.2 ⟨r,CX e,rfl⟩,nz e2⟩
  ·cases h
 split at h
 ·split at h
  ·have h:=n0 h;subst h;refine TT fun u hu=>?_;rw[As.1 hu];exact hp
  ·cases h
 split at h
 ·split at h
  ·cases e:JG d i.left with
   |none=>rw[e]at h;cases h
   |some a =>
    cases e2:JG d i.right with
    |none=>rw[e,e2]at h;cases h
    |some b =>
     rw[e,e2]at h;have h:(if(BA a b i.path).2=0 then some (BA a b i.path).1 else none)=some t:=h;split at h
     ·cases h;exact Rr (hd a (nz e)) (hd b (nz e2))
     ·cases h
  ·cases h
 ·cases h
end Go.Eng

namespace Go.Eng
structure Cd where
 place:Int
 rel:Rl
structure Nd where
 rq:Rq
 path:ByteArray
 place:Int
 number:Int
structure SS where
 infs:List Nf
 drv:List (List Tm)
 full:Bool
abbrev Ng(c:Cd):Sl:=⟨c.rel.path,c.rel.ver⟩
abbrev Ap(l:List Cd):List Sl:=l.map Ng
def Br(x:List Rl)(p:ByteArray):List Cd:=(x.filter fun r=>decide (r.path=p)&&!r.yanked).map fun r=>⟨plc r.ver,r⟩
def Lv(f:Rq→Nat→Nd):Nat→List Rq→List Nd
 |_,[]=>[]
 |i,q::l=>f q i::Lv f (i+1) l
def YU(roots:List Rq):List Nd:=Lv (fun q i=>⟨q,mt,0,i⟩) 0 roots
def Pg(c:Cd):List Nd:=Lv (fun q i=>⟨q,c.rel.path,c.place,i⟩) 0 c.rel.reqs
def Dq(roots:List Rq)(dec:List Cd):List Nd:=YU roots++(dec.map Pg).flatten
def CR(dec:List Cd)(p:ByteArray):Bool:=dec.any fun c=>decide (c.rel.path=p)
def Er(dec:List Cd)(a:ByteArray×List Nd)(n:Nd):ByteArray×List Nd :=
 if CR dec n.rq.path=true∨(a.2≠[]∧EN a.1 n.rq.path=true)then a
 else if a.2≠[]∧EN n.rq.path a.1=true then(n.rq.path,[n])else(n.rq.path,a.2++[n])
def DR(roots:List Rq)(dec:List Cd):ByteArray×List Nd:=(Dq roots dec).foldl (Er dec) (mt,[])
def TK(l:List Cd)(n:Nd):Bool:=l.any fun d=>decide (d.rel.path=n.rq.path)&&!has n.rq.set d.place
def Co(dec:List Cd)(c:Cd):Option Nd:=(Pg c).find? (TK (dec++[c]))
def OI(s:List Sl):Nat→List (List Tm)→Option Nat
 |_,[]=>none
 |i,t::l=>if CB t s then some i else OI s (i+1) l
def NR(d:List (List Tm))(s:List Sl):Option Nat:=OI s 0 d
def CA(l:List Tm)(p:ByteArray):Bool:=l.any fun t=>decide (t.path=p)
instance:DecidableEq Nf:=fun a b=>by
 obtain⟨a1,a2,a3,a4,a5,a6⟩:=a;obtain⟨b1,b2,b3,b4,b5,b6⟩:=b;exact decidable_of_iff (a1=b1∧a2=b2∧a3=b3∧a4=b4∧a5=b5∧a6=b6) ⟨fun⟨h1,h2,h3,h4,h5,h6⟩=>by subst h1 h2 h3 h4 h5 h6;rfl,fun h=>by cases h;exact⟨rfl,rfl,rfl,rfl,rfl,rfl⟩⟩
def L3(i:Nf):Nat→List Nf→Option Nat
 |_,[]=>none
 |k,j::l=>if j=i then some k else L3 i (k+1) l
def DU(s:SS)(i:Nf)(l:List Tm):Nat×SS :=
 match L3 i 0 s.infs with
 |some k=>(k,s)
 |none=>if 65536≤s.infs.length then(s.infs.length-1,⟨s.infs,s.drv,true⟩)else(s.infs.length,⟨s.infs++[i],s.drv++[l],s.full⟩)
def Nc(n:Nd):Nf:=if n.path=mt then⟨0,mt,0,n.number,0,0⟩else⟨1,n.path,n.place,n.number,0,0⟩
def HP(n:Nd):List Tm:=if n.path=mt then JK n.rq else Es n.path n.place n.rq
def Bf(s:SS)(n:Nd):Nat×SS:=DU s (Nc n) (HP n)
abbrev DC(s:SS)(k:Nat):List Tm:=s.drv.getD k []
def Ci(p:ByteArray):List Nat→Nat→SS→Nat×SS
 | [],k,s=>(k,s)
 |r::l,k,s =>
  if s.full=true∨CA (DC s k) p=false then(k,s)
  else if r=k then Ci p l k s
  else if(BA (DC s k) (DC s r) p).2≠0 then Ci p l k s
  else Ci p l (DU s ⟨3,p,0,0,k,r⟩ (BA (DC s k) (DC s r) p).1).1 (DU s ⟨3,p,0,0,k,r⟩ (BA (DC s k) (DC s r) p).1).2
def Eb(x:List Rl)(p:ByteArray)(s:SS):Nat×SS:=DU s ⟨2,p,0,0,0,0⟩ (HX p (Cf x p))
def DP(x:List Rl)(p:ByteArray)(n:Nd)(reasons:List Nat)(s:SS):Nat×SS :=
 Ci p ((Eb x p (Bf s n).2).1::reasons) (Bf s n).1 (Eb x p (Bf s n).2).2
structure JS where
 res:Nat
 found:Bool
 ss:SS
 dec:List Cd
 stack:List (List Sk)
def DN(rec:List Cd→SS→List (List Sk)→JS)(x:List Rl)(p:ByteArray)(needs:List Nd)(n0:Nd)(dec:List Cd)(stack:List (List Sk)):List Cd→SS→List Nat→List Sk→JS
 | [],s,reasons,_=>⟨(DP x p n0 reasons s).1,false,(DP x p n0 reasons s).2,dec,stack⟩
 |c::cs,s,reasons,skips =>
  let after (k:Nat) (s:SS):JS:=if CA (DC s k) p=false then⟨k,false,s,dec,stack⟩else DN rec x p needs n0 dec stack cs s (reasons++[k]) (skips++[⟨p,c.place,k⟩])
  if s.full=true then⟨0,false,s,dec,stack⟩
  else match needs.find? fun n=>!has n.rq.set c.place with
   |some n=>DN rec x p needs n0 dec stack cs (Bf s n).2 (reasons++[(Bf s n).1]) skips
   |none=>match NR s.drv (Ap (dec++[c]))with
    |some k=>after k s
    |none=>match Co dec c with
     |some n=>after (Bf s n).1 (Bf s n).2
     |none =>
      let o:=rec (dec++[c]) s (stack++[skips])
      if o.found=true then⟨0,true,o.ss,o.dec,o.stack⟩
      else if o.ss.full=true then⟨0,false,o.ss,dec,stack⟩
      else after o.res o.ss
def C3(x:List Rl)(roots:List Rq):Nat→List Cd→SS→List (List Sk)→JS
 |0,dec,s,stack=>⟨0,false,s,dec,stack⟩
 |n+1,dec,s,stack=>match(DR roots dec).2 with
  | []=>⟨0,true,s,dec,stack⟩
  |n0::l=>DN (C3 x roots n) x (DR roots dec).1 (n0::l) n0 dec stack (Br x (DR roots dec).1) s [] []
abbrev Kr:SS:=⟨[],[],false⟩
def E9(x:List Rl)(dec:List Cd):Nat:=(x.filter fun r=>!r.yanked&&!CR dec r.path).length
def Fc(x:List Rl)(roots:List Rq):JS:=C3 x roots (x.length+1) [] Kr []
end Go.Eng

namespace Go.Eng
theorem Pe(f:Rq→Nat→Nd):∀(l:List Rq) (i k:Nat),(Lv f i l)[k]?=(l[k]?).map fun q=>f q (i+k)
 | [],i,k=>by simp[Lv]
 |q::l,i,0=>by simp[Lv]
 |q::l,i,k+1=>by
  have h:=Pe f l (i+1) k;simp only[Lv,EB,h];rw[show i+1+k=i+(k+1) by omega]
theorem KV(f:Rq→Nat→Nd):∀(l:List Rq) (i:Nat),(Lv f i l).length=l.length
 | [],_=>rfl
 |_::l,i=>by simp[Lv,KV f l (i+1)]
theorem YF{f:Rq→Nat→Nd}{l:List Rq}{n:Nd}(h:n∈Lv f 0 l):∃k q,l[k]?=some q∧n=f q k:=by
 obtain⟨k,hk⟩:=Cj.1 h;rw[Pe,AQ]at hk;obtain⟨q,h1,h2⟩:=hk;exact⟨k,q,h1,by rw[←h2,Be]⟩
theorem RY{f:Rq→Nat→Nd}(hf:∀q i,(f q i).rq=q):∀(l:List Rq) (i:Nat),(Lv f i l).map (·.rq)=l
 | [],_=>rfl
 |q::l,i=>by simp[Lv,hf,RY hf l (i+1)]
abbrev DH(roots:List Rq)(dec:List Cd):List Rq:=roots++(dec.map fun c=>c.rel.reqs).flatten
theorem Jm(roots:List Rq)(dec:List Cd):(Dq roots dec).map (·.rq)=DH roots dec:=by
 unfold Dq YU;rw[Az,RY (fun _ _=>rfl),List.map_flatten,BY]
 congr 2
 exact A8 fun c _=>RY (fun _ _=>rfl) _ _
theorem F5(dec:List Cd)(p:ByteArray):Cv (Ap dec) p=CR dec p:=by
 unfold Cv CR Ap;rw[List.any_map];rfl
theorem JF(before:List Sl):∀{l:List Rq} {a p:ByteArray},CC before l (some a)=some p→p=a∨EN p a=true
 | [],a,p,h=>by cases h;exact .inl rfl
 |q::l,a,p,h=>by
  unfold CC at h;split at h
  ·exact JF before h
  ·dsimp only at h;split at h
   ·rename_i hb;rcases JF before h with e | e
    ·exact .inr (by rw[e];exact hb)
    ·exact .inr (Ep e hb)
   ·exact JF before h
theorem IF(before:List Sl):∀{l:List Rq} {a:ByteArray},CC before l (some a)≠none
 | [],a=>by simp[CC]
 |q::l,a=>by
  unfold CC;split
  ·exact IF before
  ·dsimp only;split<;>exact IF before
theorem OM{n:Nd}{p:ByteArray}(e:n.rq.path≠p)(L:List Nd):((n::L).filter fun n=>decide (n.rq.path=p))=L.filter fun n=>decide (n.rq.path=p):=by rw[DD,Aq (by simpa using e)]
theorem Wp{n:Nd}{p:ByteArray}(e:n.rq.path=p)(L:List Nd):((n::L).filter fun n=>decide (n.rq.path=p))=n::L.filter fun n=>decide (n.rq.path=p):=by rw[DD,Ax (by simpa using e)]
theorem M0(dec:List Cd):∀(L:List Nd) (a:ByteArray×List Nd),(a.2≠[]→CR dec a.1=false) →
  L.foldl (Er dec) a=match CC (Ap dec) (L.map (·.rq)) (if a.2=[]then none else some a.1)with
   |none=>a
   |some p=>(p,(if a.2≠[]∧a.1=p then a.2 else [])++L.filter fun n=>decide (n.rq.path=p))
 | [],a,h=>by
  obtain⟨p,o⟩:=a;cases o with
  |nil=>simp[CC]
  |cons n o=>simp[CC]
 |n::L,a,h=>by
  obtain⟨p0,o⟩:=a;rw[FN,AN];have sA:∀(acc:Option ByteArray) (l:List Rq),(∀p,acc=some p→CR dec p=false)→∀p,CC (Ap dec) l acc=some p→CR dec p=false:=fun acc l ha p hp=>by
   have:=((J9 (Ap dec) (l:=l) (acc:=acc) (fun p e=>by rw[F5];exact ha p e)).1 p hp).1
   rw[F5]at this;exact this
  cases hd:CR dec n.rq.path with
  |true =>
   have e1:Er dec (p0,o) n=(p0,o):=by unfold Er;rw[Ax (.inl hd)]
   have e2:CC (Ap dec) (n.rq::L.map (·.rq)) (if o=[]then none else some p0)=CC (Ap dec) (L.map (·.rq)) (if o=[]then none else some p0):=by
    conv=>lhs;unfold CC
    rw[Ax (by rw[F5];exact hd)]
   rw[e1,e2,M0 dec L (p0,o) h];dsimp only;cases hg:CC (Ap dec) (L.map (·.rq)) (if o=[]then none else some p0)with
   |none=>rfl
   |some p =>
    dsimp only;have hp:=sA _ _ (fun q e=>by
     split at e
     ·cases e
     ·rename_i ho;cases e;exact h ho) p hg
    have DB:n.rq.path≠p:=fun e=>by rw[e,hp]at hd;cases hd
    rw[OM DB]
  |false =>
   have MP:Cv (Ap dec) n.rq.path=false:=by rw[F5];exact hd
   by_cases ho:o=[]
   ·subst ho;have e1:Er dec (p0,[]) n=(n.rq.path,[n]):=by
     unfold Er;rw[Aq (by simp[hd]),Aq (by simp)];rfl
    have e2:CC (Ap dec) (n.rq::L.map (·.rq)) none=CC (Ap dec) (L.map (·.rq)) (some n.rq.path):=by
     conv=>lhs;unfold CC
     rw[Aq (by rw[MP];decide)]
    rw[e1,M0 dec L (n.rq.path,[n]) (fun _=>hd),Ax rfl,e2];rw[Aq (by simp)];cases hg:CC (Ap dec) (L.map (·.rq)) (some n.rq.path)with
    |none=>exact absurd hg (IF _)
    |some p =>
     dsimp only;rw[Aq (show ¬(([]:List Nd)≠[]∧p0=p)from fun h=>h.1 rfl)]
     by_cases e:n.rq.path=p
     ·rw[Wp e,Ax ⟨by simp,e⟩];rfl
     ·rw[OM e,Aq (fun h=>e h.2)]
   ·have zQ:(if o=[]then none else some p0)=some p0:=Aq ho;rw[zQ];cases hb:EN p0 n.rq.path with
    |true =>
     have e1:Er dec (p0,o) n=(p0,o):=by unfold Er;rw[Ax (.inr ⟨ho,hb⟩)]
     have UA:EN n.rq.path p0=false:=PG hb;have e2:CC (Ap dec) (n.rq::L.map (·.rq)) (some p0)=CC (Ap dec) (L.map (·.rq)) (some p0):=by
      conv=>lhs;unfold CC
      rw[Aq (by rw[MP];decide)];dsimp only;rw[Aq (by rw[UA];decide)]
     rw[e1,e2,M0 dec L (p0,o) h];dsimp only;rw[zQ];cases hg:CC (Ap dec) (L.map (·.rq)) (some p0)with
     |none=>rfl
     |some p =>
      dsimp only;have DB:n.rq.path≠p:=fun e=>by
       rcases JF _ hg with e3 | e3
       ·rw[e,e3,DY]at hb;cases hb
       ·rw[e,PG e3]at hb;cases hb
      rw[OM DB]
    |false =>
     cases UA:EN n.rq.path p0 with
     |true =>
      have e1:Er dec (p0,o) n=(n.rq.path,[n]):=by
       unfold Er;rw[Aq (by simp[hd,hb]),Ax ⟨ho,UA⟩]
      have e2:CC (Ap dec) (n.rq::L.map (·.rq)) (some p0)=CC (Ap dec) (L.map (·.rq)) (some n.rq.path):=by
       conv=>lhs;unfold CC
       rw[Aq (by rw[MP];decide)];dsimp only;rw[Ax UA]
      rw[e1,e2,M0 dec L (n.rq.path,[n]) (fun _=>hd),Aq (by simp)];cases hg:CC (Ap dec) (L.map (·.rq)) (some n.rq.path)with
      |none=>exact absurd hg (IF _)
      |some p =>
       dsimp only;have DB:p0≠p:=fun e=>by
        rcases JF _ hg with e3 | e3
        ·rw[e,e3,DY]at UA;cases UA
        ·rw[e]at UA;rw[PG e3]at UA;cases UA
       rw[Aq (show ¬(o≠[]∧p0=p)from fun h=>DB h.2)]
       by_cases e:n.rq.path=p
       ·rw[Wp e,Ax ⟨by simp,e⟩];rfl
       ·rw[OM e,Aq (fun h=>e h.2)]
     |false =>
      have e0:n.rq.path=p0:=I7 UA hb;have e1:Er dec (p0,o) n=(p0,o++[n]):=by
       unfold Er;rw[Aq (by simp[hd,hb]),Aq (by simp[UA]),e0]
      have e2:CC (Ap dec) (n.rq::L.map (·.rq)) (some p0)=CC (Ap dec) (L.map (·.rq)) (some p0):=by
       conv=>lhs;unfold CC
       rw[Aq (by rw[MP];decide)];dsimp only;rw[Aq (by rw[UA];decide)]
      rw[e1,e2,M0 dec L (p0,o++[n]) (fun _=>by rw[←e0];exact hd),Aq (by simp)];cases hg:CC (Ap dec) (L.map (·.rq)) (some p0)with
      |none=>exact absurd hg (IF _)
      |some p =>
       dsimp only
       by_cases e:p0=p
       ·rw[Wp (e0.trans e),Ax ⟨by simp,e⟩,Ax ⟨ho,e⟩,BH];rfl
       ·rw[OM (fun h=>e (e0.symm.trans h)),Aq (fun h=>e h.2),Aq (fun h=>e h.2)]
theorem TO(roots:List Rq)(dec:List Cd):DR roots dec=match HT (DH roots dec) (Ap dec)with
  |none=>(mt,[])
  |some p=>(p,(Dq roots dec).filter fun n=>decide (n.rq.path=p)):=by
 unfold DR HT;rw[M0 dec _ (mt,[]) (fun h=>absurd rfl h),Ax rfl,Jm];cases CC (Ap dec) (DH roots dec) none with
 |none=>rfl
 |some p=>dsimp only;rw[Aq (by simp)];rfl
theorem N8{roots:List Rq}{dec:List Cd}:(DR roots dec).2=[]↔HT (DH roots dec) (Ap dec)=none:=by
 rw[TO];cases h:HT (DH roots dec) (Ap dec)with
 |none=>simp
 |some p =>
  simp only[reduceCtorEq,iff_false];obtain⟨_,q,hq,e⟩:=TP h;rw[←Jm]at hq;obtain⟨n,hn,rfl⟩:=Ar.1 hq;exact List.ne_nil_of_mem (BM.2 ⟨hn,by simpa using e⟩)
structure ki(roots:List Rq)(dec:List Cd)(p:ByteArray)(l:List Nd):Prop where
 next:HT (DH roots dec) (Ap dec)=some p
 undone:CR dec p=false
 mem:∀n,n∈l↔n∈Dq roots dec∧n.rq.path=p
theorem Im{roots:List Rq}{dec:List Cd}{n0:Nd}{l:List Nd}(h:(DR roots dec).2=n0::l):ki roots dec (DR roots dec).1 (n0::l):=by
 rw[←h];rw[TO]at *
 cases hp:HT (DH roots dec) (Ap dec)with
 |none=>rw[hp]at h;cases h
 |some p =>
  dsimp only;refine⟨hp,by rw[←F5];exact(TP hp).1,fun n=>?_⟩;rw[BM];simp
theorem Hf{x:List Rl}{p:ByteArray}{c:Cd}:c∈Br x p↔∃r∈x,r.path=p∧r.yanked=false∧c=⟨plc r.ver,r⟩:=by
 unfold Br;simp only[Ar,BM,Af,AD,Cy];constructor
 ·rintro⟨r,⟨h1,h2,h3⟩,rfl⟩;exact⟨r,h1,h2,h3,rfl⟩
 ·rintro⟨r,h1,h2,h3,rfl⟩;exact⟨r,⟨h1,h2,h3⟩,rfl⟩
theorem M3{i:Nf}:∀{l:List Nf} {k m:Nat},L3 i k l=some m→∃j,m=k+j∧l[j]?=some i
 | [],_,_,h=>by cases h
 |y::l,k,m,h=>by
  unfold L3 at h;split at h
  ·rename_i e;cases h;exact⟨0,rfl,by rw[←e];rfl⟩
  ·obtain⟨j,h1,h2⟩:=M3 h;exact⟨j+1,by omega,h2⟩
theorem Qn{i:Nf}:∀{l:List Nf} {k:Nat},L3 i k l=none→i∉l
 | [],_,_=>by simp
 |y::l,k,h=>by
  unfold L3 at h;split at h
  ·cases h
  ·rename_i e
   have:=Qn h
   simp only[AF,not_or];exact⟨fun e'=>e e'.symm,this⟩
theorem Rm{α:Type}{d d' : List α}{i:Int}{a:α}(h:JG d i=some a)(hp:d <+: d'):JG d' i=some a:=by
 unfold JG at *
 split at h
 ·cases h
 ·rename_i hi;rw[Aq hi];obtain⟨t,rfl⟩:=hp;rw[A2 (Aw.1 h).1];exact h
theorem Yg{x:List Rl}{roots:List Rq}{d d' : List (List Tm)}{i:Nf}{o:List Tm}(h:DZ x roots d i=some o)(hp:d <+: d'):DZ x roots d' i=some o:=by
 unfold DZ at *
 split
 ·rename_i e;rw[Ax e]at h;exact h
 rename_i e0;rw[Aq e0]at h;split
 ·rename_i e;rw[Ax e]at h;exact h
 rename_i e1;rw[Aq e1]at h;split
 ·rename_i e;rw[Ax e]at h;exact h
 rename_i e2;rw[Aq e2]at h;split
 ·rename_i e;rw[Ax e]at h;split
  ·rename_i e4;rw[Ax e4]at h;cases ha:JG d i.left with
   |none=>rw[ha]at h;cases h
   |some a =>
    cases hb:JG d i.right with
    |none=>rw[ha,hb]at h;cases h
    |some b =>
     rw[ha,hb]at h;rw[Rm ha hp,Rm hb hp];exact h
  ·rename_i e4;rw[Aq e4]at h;cases h
 ·rename_i e;rw[Aq e]at h;cases h
structure FI(x:List Rl)(roots:List Rq)(s:SS):Prop where
 der:Dt x roots s.infs []=some s.drv
 len:s.infs.length≤65536
theorem FI.dlen{x:List Rl}{roots:List Rq}{s:SS}(h:FI x roots s):s.drv.length=s.infs.length:=by simpa using Ja h.der
theorem FI.nil(x:List Rl)(roots:List Rq):FI x roots Kr:=⟨rfl,by simp⟩
theorem FI.at{x:List Rl}{roots:List Rq}{s:SS}(h:FI x roots s){k:Nat}{i:Nf}(hk:s.infs[k]?=some i):DZ x roots s.drv i=some (s.drv.getD k []):=by
 have h1:=Ns h.der (k+1);have h0:=Ns h.der k;have Dy:=(Aw.1 hk).1;rw[Bd,hk,Hc,h0]at h1;have h1:Dt x roots [i] (s.drv.take k)=some (s.drv.take (k+1)):=h1;unfold Dt at h1;cases hi:DZ x roots (s.drv.take k) i with
 |none=>rw[hi]at h1;cases h1
 |some t =>
  rw[hi]at h1;have h1:some (s.drv.take k++[t])=some (s.drv.take (k+1)):=h1;have hd:k<s.drv.length:=by rw[h.dlen];exact Dy
  have:t=s.drv[k]:=by
   have h2:=Ck h1;rw[CO hd]at h2;exact List.singleton_inj.1 (List.append_cancel_left h2)
  rw[Yg hi (List.take_prefix ..),this];simp[List.getD_eq_getElem?_getD,hd]
structure Grow(s s' : SS):Prop where
 pre:s.drv <+: s'.drv
 preI:s.infs <+: s'.infs
 full:s.full=true→s'.full=true
theorem Grow.refl(s:SS):Grow s s:=⟨M7,M7,id⟩
theorem Grow.trans{a b c:SS}(h:Grow a b)(k:Grow b c):Grow a c:=⟨h.pre.trans k.pre,h.preI.trans k.preI,fun e=>k.full (h.full e)⟩
theorem Grow.at{s s' : SS}(h:Grow s s'){k:Nat}(hk:k<s.drv.length):DC s' k=DC s k:=by
 obtain⟨t,e⟩:=h.pre;unfold DC;rw[←e,B6,B6,A2 hk]
theorem Grow.len{s s' : SS}(h:Grow s s'):s.drv.length≤s'.drv.length:=h.pre.length_le
theorem KE(s:SS)(i:Nf)(l:List Tm):Grow s (DU s i l).2:=by
 unfold DU;split
 ·exact .refl s
 ·split
  ·exact⟨M7,M7,fun _=>rfl⟩
  ·exact⟨Ot ..,Ot ..,id⟩
theorem KD{x:List Rl}{roots:List Rq}{s:SS}(h:FI x roots s){i:Nf}{l:List Tm}(hi:DZ x roots s.drv i=some l) :
  FI x roots (DU s i l).2∧(DU s i l).1<(DU s i l).2.drv.length∧((DU s i l).2.full=false→DC (DU s i l).2 (DU s i l).1=l):=by
 have hdl:=h.dlen;unfold DU;split
 ·rename_i k hk;obtain⟨j,e,hj⟩:=M3 hk
  have:k=j:=by omega
  subst this;have Dy:=(Aw.1 hj).1;refine⟨h,by show k<s.drv.length;omega,fun _=>?_⟩
  have:=h.at hj
  rw[hi]at this;exact(Ck this).symm
 ·rename_i hk;split
  ·rename_i hf;exact⟨⟨h.der,h.len⟩,by show s.infs.length-1<s.drv.length;omega,fun e=>by cases e⟩
  ·rename_i hf;refine⟨⟨?_,by show(s.infs++[i]).length≤65536;rw[Ad];simp;omega⟩,by show s.infs.length<(s.drv++[l]).length;rw[Ad];simp;omega,fun _=>?_⟩
   ·show Dt x roots (s.infs++[i]) []=some (s.drv++[l]);rw[Hc,h.der];show Dt x roots [i] s.drv=_;unfold Dt;rw[hi];rfl
   ·show(s.drv++[l]).getD s.infs.length []=l;rw[←hdl];simp[List.getD_eq_getElem?_getD]
theorem Zd(s:SS)(i:Nf)(l:List Tm):(DU s i l).2.infs.length≤s.infs.length+1:=by
 unfold DU;split
 ·simp
 ·split<;>simp
theorem Xl{s:SS}(i:Nf)(l:List Tm)(hf:s.full=false)(hc:s.infs.length<65536):(DU s i l).2.full=false:=by
 unfold DU;split
 ·exact hf
 ·split
  ·omega
  ·exact hf
theorem SN(S:List Sl):∀{l:List (List Tm)} {i k:Nat},OI S i l=some k→∃j,k=i+j∧∃t,l[j]?=some t∧CB t S=true
 | [],_,_,h=>by cases h
 |t::l,i,k,h=>by
  unfold OI at h;split at h
  ·rename_i e;cases h;exact⟨0,rfl,t,rfl,e⟩
  ·obtain⟨j,h1,t',h2,h3⟩:=SN S h;exact⟨j+1,by omega,t',h2,h3⟩
theorem KK{d:List (List Tm)}{S:List Sl}{k:Nat}(h:NR d S=some k):k<d.length∧CB (d.getD k []) S=true:=by
 obtain⟨j,h1,t,h2,h3⟩:=SN S h
 have:k=j:=by omega
 subst this;refine⟨(Aw.1 h2).1,?_⟩;rw[B6,h2];exact h3
end Go.Eng
