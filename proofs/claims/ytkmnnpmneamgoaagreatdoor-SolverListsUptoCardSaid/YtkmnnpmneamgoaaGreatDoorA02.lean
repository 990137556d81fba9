/- Lemmas for the claims of this seat, without a condition: part 2 (P8, P9, P10, P11, P12, Q1, Q2). -/
import Derived.Test.YtkmnnpmneamgoaaGreatDoorA01
import Derived.Lib.SplitLaws
import Derived.Lib.IndexBytes
namespace Go.Eng
def CJ(l:A9):A9:=(l.map D6).filter fun x=>decide (x.1<x.2)
theorem Ot(a b:A9):CJ (a++b)=CJ a++CJ b:=by unfold CJ;rw[AA,E8]
theorem UP{l:A9}{x:Int×Int}(h:x∈CJ l):0≤x.1∧x.1<x.2∧x.2≤1000000:=by
 unfold CJ at h;rw[BL,Aq]at h;obtain⟨⟨y,_,rfl⟩,h2⟩:=h;have h2:=Cm h2;refine⟨?_,h2,?_⟩<;>simp only[D6]<;>omega
theorem bP(l:A9)(p:Int):(CJ l).any (BR p)=has l p:=by
 rw[←Ky]
 induction l with
 |nil=>rfl
 |cons x r ih =>
  have e:CJ (x::r)=(if(D6 x).1<(D6 x).2 then [D6 x]else [])++CJ r:=by
   unfold CJ;rw[AN,Et]
   by_cases h:(D6 x).1<(D6 x).2<;>simp[h]
  have ec:canon (x::r)=if(D6 x).1<(D6 x).2 then VS (D6 x) (canon r)else canon r:=rfl
  rw[e,Hu,ih,ec]
  by_cases h:(D6 x).1<(D6 x).2
  ·rw[AB h,AB h,Oi _ p (Cq r) h];simp
  ·rw[Ar h,Ar h];simp
theorem ND:∀{l:A9} {lo:Int},ER lo l↔(∀y∈l,lo≤y.1∧y.1<y.2∧y.2≤1000000)∧l.Pairwise fun a b=>a.2<b.1
 | [],lo=>by simp[ER]
 |y::r,lo=>by
  rw[Db];constructor
  ·intro h;have hl:=h.low;refine⟨hl,fun z hz=>?_,((ND (l:=r)).1 h.2.2.2).2⟩
   have:=h.2.2.2.low z hz;omega
  ·intro⟨h1,h2,h3⟩;have hy:=h1 y (Ab ..);refine⟨hy.1,hy.2.1,hy.2.2,ND.2 ⟨fun z hz=>?_,h3⟩⟩
   have:=h1 z (Ai _ hz)
   have:=h2 z hz
   omega
def JE(r:A9)(x:Int×Int):A9:=match r with
 | []=>[x]
 |y::t=>if x.1≤y.2 then(y.1,max y.2 x.2)::t else x::y::t
def Bv(s:A9):A9:=s.foldl JE []
theorem Ft(s:A9)(i:Nat)(h:i<s.length):Bv (s.take (i+1))=JE (Bv (s.take i)) s[i]:=by
 unfold Bv;rw[Bb,AD h,Kp];rfl
theorem dM(r:A9)(x:Int×Int):(JE r x).length≤r.length+1∧r.length≤(JE r x).length∧0<(JE r x).length:=by
 unfold JE;split
 ·simp
 ·split<;>simp
theorem NR(s:A9):∀i,i≤s.length→(Bv (s.take i)).length≤i∧(0<i→0<(Bv (s.take i)).length):=by
 intro i
 induction i with
 |zero=>intro _;simp[Bv]
 |succ i ih =>
  intro h;rw[Ft s i (by omega)]
  have:=dM (Bv (s.take i)) s[i]
  have:=ih (by omega)
  omega
structure mN(r done:A9):Prop where
 ok:∀y∈r,0≤y.1∧y.1<y.2∧y.2≤1000000
 pw:r.Pairwise fun a b=>b.2<a.1
 has:∀p,r.any (BR p)=done.any (BR p)
 first:∀y t,r=y::t→∃x∈done,y.1=x.1
theorem dL{r done:A9}{x:Int×Int}(h:mN r done)(hx:0≤x.1∧x.1<x.2∧x.2≤1000000)(hs:∀y∈done,y.1≤x.1):mN (JE r x) (done++[x]):=by
 unfold JE;split
 ·refine⟨fun y hy=>?_,by simp,fun p=>?_,fun y t e=>?_⟩
  ·rw[Au.1 hy];exact hx
  ·rw[Hu,←h.has];rfl
  ·cases e;exact⟨x,by simp,rfl⟩
 ·rename_i y t;have hy:=h.ok y (Ab ..);obtain⟨zA,pw2⟩:=Db.1 h.pw;obtain⟨z,hz,e⟩:=h.first y t rfl
  have pL:=hs z hz;split
  ·rename_i Hs;refine⟨fun u hu=>?_,Db.2 ⟨zA,pw2⟩,fun p=>?_,fun u t' e'=>?_⟩
   ·rcases AF.1 hu with rfl | hu
    ·exact⟨hy.1,by dsimp only;omega,by dsimp only;omega⟩
    ·exact h.ok u (Ai _ hu)
   ·rw[Hu,←h.has,BW,BW,BW,List.any_nil,Bool.or_false]
    have:BR p (y.1,max y.2 x.2)=(BR p y||BR p x):=by
     simp only[BR];rw[B2];simp only[Ag,CQ,AE];omega
    rw[this];cases BR p y<;>cases BR p x<;>cases t.any (BR p)<;>rfl
   ·cases e';exact⟨z,Bz _ hz,e⟩
  ·rename_i Hs;refine⟨fun u hu=>?_,Db.2 ⟨fun u hu=>?_,h.pw⟩,fun p=>?_,fun u t' e'=>?_⟩
   ·rcases AF.1 hu with rfl | hu
    ·exact hx
    ·exact h.ok u hu
   ·rcases AF.1 hu with rfl | hu
    ·omega
    ·have:=zA u hu;omega
   ·rw[Hu,←h.has,BW,BW,BW,List.any_nil,Bool.or_false];cases BR p y<;>cases BR p x<;>cases t.any (BR p)<;>rfl
   ·cases e';exact⟨x,by simp,rfl⟩
theorem ZA{s:A9}(FO:∀y∈s,0≤y.1∧y.1<y.2∧y.2≤1000000)(hs:s.Pairwise fun a b=>a.1≤b.1):∀i,i≤s.length→mN (Bv (s.take i)) (s.take i):=by
 intro i
 induction i with
 |zero=>intro _;exact⟨fun _ h=>by simp[Bv]at h,by simp[Bv],fun p=>by simp[Bv],fun y t e=>by simp[Bv]at e⟩
 |succ i ih =>
  intro h;have hi:i<s.length:=by omega
  rw[Ft s i hi];have e:s.take (i+1)=s.take i++[s[i]]:=by rw[Bb,AD hi];rfl
  rw[e];refine dL (ih (by omega)) (FO _ (Aj hi)) fun y hy=>?_;obtain⟨j,hj,rfl⟩:=CE.1 hy;rw[HY];rw[AK]at hj;exact(Bl.1 hs) j i (by omega) hi (by omega)
theorem LD{l s:A9}(hp:s.Perm (CJ l))(hs:s.Pairwise fun a b=>a.1≤b.1):(Bv s).reverse=canon l:=by
 have hi:=ZA (s:=s) (fun y hy=>UP (hp.mem_iff.1 hy)) hs s.length (Ao _);rw[Do]at hi;have hc:EJ (Bv s).reverse:=by
  unfold EJ;rw[ND];refine⟨fun y hy=>hi.ok y (List.mem_reverse.1 hy),?_⟩;rw[List.pairwise_reverse];exact hi.pw
 refine Si hc fun p=>?_;rw[HD hc,List.any_reverse,hi.has,←bP];rw[B2,A3,A3];constructor
 ·rintro⟨y,h1,h2⟩;exact⟨y,hp.mem_iff.1 h1,h2⟩
 ·rintro⟨y,h1,h2⟩;exact⟨y,hp.mem_iff.2 h1,h2⟩
end Go.Eng

namespace Go.Eng
-- maps from numbers to numbers,as lists in the order in which they are met
def Fw(m:List (Int×Int))(k:Int):Int:=match m.find? (fun p=>decide (p.1=k))with | some p=>p.2 | none=>0
def Lr(m:List (Int×Int))(k v:Int):List (Int×Int):=if m.any (fun p=>decide (p.1=k))then m.map (fun p=>if p.1=k then(k,v)else p)else m++[(k,v)]
theorem Hm(p:Int×Int)(m:List (Int×Int))(k:Int):Fw (p::m) k=if p.1=k then p.2 else Fw m k:=by
 unfold Fw;rw[ET];by_cases h:p.1=k<;>simp[h]
theorem Pj(m:List (Int×Int))(k v j:Int):Fw (Lr m k v) j=if j=k then v else Fw m j:=by
 unfold Lr;split
 ·rename_i h
  induction m with
  |nil=>simp at h
  |cons p m ih =>
   rw[AN,Hm,Hm]
   by_cases e:p.1=k
   ·rw[AB e];dsimp only
    by_cases ej:j=k
    ·subst ej;simp
    ·rw[Ar (fun c=>ej c.symm),Ar ej,Ar (fun c=>ej (c.symm.trans e))]
     by_cases hm:(m.any fun p=>decide (p.1=k))=true
     ·rw[ih hm,Ar ej]
     ·have:∀q∈m,q.1≠k:=fun q hq e=>hm (A3.2 ⟨q,hq,by simp[e]⟩)
      have:m.map (fun p=>if p.1=k then(k,v)else p)=m:=by
       conv=>rhs;rw[←LZ m]
       exact Ba fun q hq=>by simp[this q hq]
      rw[this]
   ·rw[Ar e];have hm:(m.any fun p=>decide (p.1=k))=true:=by simpa[e]using h
    rw[ih hm]
    by_cases ej:j=k
    ·subst ej;simp[e]
    ·simp[ej]
 ·rename_i h;have hn:∀q∈m,q.1≠k:=fun q hq e=>h (A3.2 ⟨q,hq,by simp[e]⟩)
  induction m with
  |nil =>
   rw[EU,Hm]
   by_cases ej:j=k
   ·simp[ej]
   ·have:¬k=j:=fun c=>ej c.symm
    simp[ej,this]
  |cons p m ih =>
   rw[DZ,Hm,Hm];have e:=hn p (Ab ..);have ih:=ih (by simpa[e]using h) fun q hq=>hn q (Ai _ hq)
   by_cases ep:p.1=j
   ·have:¬j=k:=fun c=>e (ep.trans c)
    simp[ep,this]
   ·simp only[ep,Ga];exact ih
def Fd(m:List (Int×Int)):List Int:=m.map (·.1)
theorem Vb(m:List (Int×Int))(k v:Int):Fd (Lr m k v)=if k∈Fd m then Fd m else Fd m++[k]:=by
 unfold Lr Fd;have e:(m.any fun p=>decide (p.1=k))=decide (k∈m.map (·.1)):=by
  rw[B2];simp only[A3,AE,Aq]
 rw[e]
 by_cases h:k∈m.map (·.1)
 ·simp only[h,decide_true,NM,BX];apply Ba;intro p _;simp only[Function.comp];split
  ·rename_i e;exact e.symm
  ·rfl
 ·simp[h]
theorem Mn{m:List (Int×Int)}(h:(Fd m).Nodup)(k v:Int):(Fd (Lr m k v)).Nodup:=by
 rw[Vb];split
 ·exact h
 ·rename_i hn;rw[Gt];exact⟨h,by simp,fun a ha b hb e=>by subst e;rw[Au.1 hb]at ha;exact hn ha⟩
theorem Ib(m:List (Int×Int))(k v j:Int):j∈Fd (Lr m k v)↔j=k∨j∈Fd m:=by
 rw[Vb];split
 ·rename_i h;constructor
  ·exact .inr
  ·rintro(rfl | h')
   ·exact h
   ·exact h'
 ·simp[or_comm]
theorem jq{m:List (Int×Int)}(h:(Fd m).Nodup){p:Int×Int}(hp:p∈m):Fw m p.1=p.2:=by
 induction m with
 |nil=>cases hp
 |cons q m ih =>
  rw[Hm];unfold Fd at h ih;rw[AN,CZ]at h;rcases AF.1 hp with rfl | hp
  ·simp
  ·have:¬q.1=p.1:=fun e=>h.1 (e▸Aq.2 ⟨p,hp,rfl⟩)
   rw[Ar this];exact ih h.2 hp
theorem jr{m:List (Int×Int)}{k:Int}(h:k∉Fd m):Fw m k=0:=by
 unfold Fw
 have:m.find? (fun p=>decide (p.1=k))=none:=by
  rw[Ep];intro p hp;simp only[AE];exact fun e=>h (Aq.2 ⟨p,hp,e⟩)
 rw[this]
-- counting
def cF(S:A9)(k:Int):Nat:=S.countP fun x=>decide (x.1=k)
def cT(S:A9)(k:Int):Nat:=S.countP fun x=>decide (x.2=k)
def lF(S:A9)(k:Int):Nat:=S.countP fun x=>decide (x.1≤k)
def lT(S:A9)(k:Int):Nat:=S.countP fun x=>decide (x.2≤k)
theorem IX{α:Type}{p q r:α→Bool}:∀{l:List α},(∀x∈l,(p x=true↔q x=true∨r x=true)∧¬(q x=true∧r x=true))→l.countP p=l.countP q+l.countP r
 | [],_=>rfl
 |x::l,h=>by
  have ih:=IX fun y hy=>h y (Ai _ hy);obtain⟨h1,h2⟩:=h x (Ab ..);rw[IC,IC,IC,ih];cases hp:p x<;>cases hq:q x<;>cases hr:r x<;>simp_all<;>omega
structure Il(m:List (Int×Int))(S:A9):Prop where
 nd:(Fd m).Nodup
 val:∀k,Fw m k=(cF S k:Int)-cT S k
 keys:0∈Fd m∧1000000∈Fd m∧∀x∈S,x.1∈Fd m∧x.2∈Fd m
 rng:∀k∈Fd m,0≤k∧k≤1000000
def qy:List (Int×Int):=[(0,0),(1000000,0)]
theorem ka:Il qy []:=⟨by decide,fun k=>by
  unfold qy;rw[Hm,Hm];simp[Fw,cF,cT],⟨by decide,by decide,fun _ h=>by cases h⟩,fun k hk=>by
  unfold qy Fd at hk;simp at hk;omega⟩
def Yy(m:List (Int×Int))(x:Int×Int):List (Int×Int):=Lr (Lr m x.1 (Fw m x.1+1)) x.2 (Fw (Lr m x.1 (Fw m x.1+1)) x.2-1)
theorem dK{m:List (Int×Int)}{S:A9}{x:Int×Int}(h:Il m S)(hx:0≤x.1∧x.1<x.2∧x.2≤1000000):Il (Yy m x) (S++[x]):=by
 unfold Yy;refine⟨Mn (Mn h.nd _ _) _ _,fun k=>?_,⟨?_,?_,fun y hy=>?_⟩,fun k hk=>?_⟩
 ·rw[Pj,Pj,Pj,h.val,h.val,h.val];unfold cF cT;simp only[List.countP_append,List.countP_singleton,AE]
  by_cases e1:k=x.2
  ·subst e1
   have:¬x.2=x.1:=by omega
   have:¬x.1=x.2:=by omega
   simp[*];omega
  ·by_cases e2:k=x.1
   ·subst e2
    have:¬x.2=x.1:=by omega
    have:¬x.1=x.2:=by omega
    simp[*];omega
   ·have a1:¬x.1=k:=fun c=>e2 c.symm;have a2:¬x.2=k:=fun c=>e1 c.symm;simp[e1,e2,a1,a2]
 ·rw[Ib,Ib];exact .inr (.inr h.keys.1)
 ·rw[Ib,Ib];exact .inr (.inr h.keys.2.1)
 ·simp only[Ib];rcases A5.1 hy with hy | hy
  ·have:=h.keys.2.2 y hy
   exact⟨.inr (.inr this.1),.inr (.inr this.2)⟩
  ·rw[Au.1 hy];exact⟨.inr (.inl rfl),.inl rfl⟩
 ·rw[Ib,Ib]at hk;rcases hk with rfl | rfl | hk
  ·omega
  ·omega
  ·exact h.rng k hk
def Iy(m:List (Int×Int))(B:List Int):Int:=(B.map (Fw m)).foldl (·+·) 0
theorem Qp(m:List (Int×Int))(B:List Int)(i:Nat)(h:i<B.length):Iy m (B.take (i+1))=Iy m (B.take i)+Fw m B[i]:=by
 unfold Iy;rw[Bb,AD h,AA,Kp];simp only[Option.toList_some,AN,Fe,FH,List.foldl_nil]
structure jL(B:List Int)(m:List (Int×Int)):Prop where
 perm:B.Perm (Fd m)
 srt:B.Pairwise fun a b=>a<b
theorem bm{m:List (Int×Int)}{S:A9}{B:List Int}(h:Il m S)(hB:jL B m):∀i (hi:i<B.length),Iy m (B.take (i+1))=(lF S B[i]:Int)-lT S B[i]:=by
 have mem:∀k,k∈Fd m→∃j,∃hj:j<B.length,B[j]=k:=fun k hk=>by
  have:=hB.perm.mem_iff.2 hk
  obtain⟨j,hj,e⟩:=CE.1 this;exact⟨j,hj,e⟩
 have lt:∀i j (hi:i<B.length) (hj:j<B.length),i<j→B[i]<B[j]:=fun i j hi hj Wf=>(Bl.1 hB.srt) i j hi hj Wf;intro i
 induction i with
 |zero =>
  intro hi;rw[Qp m B 0 hi,h.val]
  have:Iy m (B.take 0)=0:=by simp[Iy]
  rw[this];have low:∀k∈Fd m,B[0]≤k:=fun k hk=>by
   obtain⟨j,hj,rfl⟩:=mem k hk;cases j with
   |zero=>exact BQ _
   |succ j=>have:=lt 0 (j+1) hi hj (by omega);omega
  have e1:lF S B[0]=cF S B[0]:=by
   unfold lF cF;apply Qz;intro x hx
   have:=low _ (h.keys.2.2 x hx).1
   simp only[AE];omega
  have e2:lT S B[0]=cT S B[0]:=by
   unfold lT cT;apply Qz;intro x hx
   have:=low _ (h.keys.2.2 x hx).2
   simp only[AE];omega
  rw[e1,e2];omega
 |succ i ih =>
  intro hi;rw[Qp m B (i+1) hi,ih (by omega),h.val];have nb:∀k∈Fd m,k≤B[i+1]↔k≤B[i]∨k=B[i+1]:=fun k hk=>by
   obtain⟨j,hj,rfl⟩:=mem k hk;have l0:=lt i (i+1) (by omega) hi (by omega);rcases Nat.lt_trichotomy j (i+1)with c | c | c
   ·have:B[j]≤B[i]:=by
     rcases BV j i with d | d
     ·have:=lt j i hj (by omega) d;omega
     ·have:j=i:=by omega
      subst this;exact BQ _
    omega
   ·subst c;omega
   ·have:=lt (i+1) j hi hj c;omega
  have l0:=lt i (i+1) (by omega) hi (by omega);have e1:lF S B[i+1]=lF S B[i]+cF S B[i+1]:=by
   unfold lF cF;apply IX;intro x hx
   have:=nb _ (h.keys.2.2 x hx).1
   simp only[AE];omega
  have e2:lT S B[i+1]=lT S B[i]+cT S B[i+1]:=by
   unfold lT cT;apply IX;intro x hx
   have:=nb _ (h.keys.2.2 x hx).2
   simp only[AE];omega
  rw[e1,e2];omega
theorem Xb{S:A9}(hS:∀x∈S,x.1<x.2)(p:Int):(lF S p:Int)-lT S p=(S.countP (BR p):Nat):=by
 have:lF S p=S.countP (BR p)+lT S p:=by
  unfold lF lT;apply IX;intro x hx
  have:=hS x hx
  simp only[BR,Ag,AE];omega
 omega
theorem Ou:∀{l:A9} {lo:Int} (p:Int),ER lo l→l.countP (BR p)=if l.any (BR p)then 1 else 0
 | [],_,_,_=>rfl
 |y::r,lo,p,⟨h1,h2,h3,h4⟩=>by
  rw[IC,Ou p h4,BW];cases hy:BR p y with
  |false=>rw[Jl];simp
  |true =>
   have:=DJ.1 hy
   have:r.any (BR p)=false:=by
    rw[AH];intro hr;have:=MA h4 hr;omega
   simp[this]
theorem L6:∀(l:List A9) (p:Int),((l.map canon).flatten).countP (BR p)=dV l p
 | [],_=>rfl
 |s::l,p=>by
  rw[AN,Bq,List.countP_append,L6 l p,Ou p (Cq s),Ky];unfold dV;rw[IC];omega
def EA(keep:Nat→Bool)(m:List (Int×Int))(B:List Int):Nat→A9
 |0=>[]
 |i+1=>EA keep m B i++(match B[i]?,B[i+1]? with
  |some a,some b=>if keep (Iy m (B.take (i+1))).toNat then [(a,b)]else []
  |_,_=>[])
theorem PP{keep:Nat→Bool}{m:List (Int×Int)}{B:List Int}{x:Int×Int}:∀{n:Nat},x∈EA keep m B n↔∃i,i<n∧∃(h1:i<B.length) (h2:i+1<B.length),keep (Iy m (B.take (i+1))).toNat=true∧x=(B[i],B[i+1])
 |0=>by simp[EA]
 |n+1=>by
  unfold EA;rw[A5,PP (n:=n)];constructor
  ·rintro(⟨i,h1,h2⟩ | h)
   ·exact⟨i,by omega,h2⟩
   ·split at h
    ·rename_i a b ha hb;obtain⟨h1,e1⟩:=Aw.1 ha;obtain⟨h2,e2⟩:=Aw.1 hb;split at h
     ·rename_i hk;refine⟨n,by omega,h1,h2,hk,?_⟩;rw[Au.1 h,e1,e2]
     ·cases h
    ·cases h
  ·rintro⟨i,h1,h2,h3,h4,rfl⟩
   by_cases e:i=n
   ·subst e;refine .inr ?_;rw[AD h2,AD h3];simp[h4]
   ·exact .inl ⟨i,by omega,h2,h3,h4,rfl⟩
theorem On{B:List Int}(hs:B.Pairwise fun a b=>a<b){p:Int}:∀(n:Nat) (h0:0<B.length) (hn:n<B.length),B[0]≤p→p<B[n]→∃i,∃(h1:i<B.length) (h2:i+1<B.length),B[i]≤p∧p<B[i+1]
 |0,h0,hn,h1,h2=>by omega
 |n+1,h0,hn,h1,h2=>by
  by_cases e:B[n]≤p
  ·exact⟨n,by omega,hn,e,h2⟩
  ·exact On hs n h0 (by omega) h1 (by omega)
theorem gS{keep:Nat→Bool}{l:List A9}{m:List (Int×Int)}{B:List Int}(h:Il m (l.map canon).flatten)(hB:jL B m)(p:Int):has (EA keep m B (B.length-1)) p=(LT p&&keep (dV l p)):=by
 have hS:∀x∈(l.map canon).flatten,x.1<x.2:=fun x hx=>by
  obtain⟨s,hs,hx⟩:=E9.1 hx;obtain⟨t,_,rfl⟩:=Aq.1 hs;exact((Cq t).low x hx).2.1
 have mem:∀k,k∈Fd m→∃j,∃hj:j<B.length,B[j]=k:=fun k hk=>by
  obtain⟨j,hj,e⟩:=CE.1 (hB.perm.mem_iff.2 hk);exact⟨j,hj,e⟩
 have lt:∀i j (hi:i<B.length) (hj:j<B.length),i<j→B[i]<B[j]:=fun i j hi hj Wf=>(Bl.1 hB.srt) i j hi hj Wf;have rng:∀i (hi:i<B.length),0≤B[i]∧B[i]≤1000000:=fun i hi=>h.rng _ (hB.perm.mem_iff.1 (Aj hi))
 -- VX two bounds
 have VX:∀i (h1:i<B.length) (h2:i+1<B.length),B[i]≤p→p<B[i+1]→(Iy m (B.take (i+1))).toNat=dV l p:=fun i h1 h2 a b=>by
  have same:∀k∈Fd m,k≤B[i]↔k≤p:=fun k hk=>by
   obtain⟨j,hj,rfl⟩:=mem k hk;constructor
   ·intro c;omega
   ·intro c;rcases BV i j with d | d
    ·rcases BV (i+1) j with f | f
     ·have:=lt (i+1) j h2 hj f;omega
     ·have:j=i+1:=by omega
      subst this;omega
    ·rcases BV j i with f | f
     ·have:=lt j i hj h1 f;omega
     ·have:j=i:=by omega
      subst this;exact BQ _
  have e1:lF (l.map canon).flatten B[i]=lF (l.map canon).flatten p:=by
   unfold lF;apply Qz;intro x hx
   have:=same _ (h.keys.2.2 x hx).1
   simp only[AE];exact this
  have e2:lT (l.map canon).flatten B[i]=lT (l.map canon).flatten p:=by
   unfold lT;apply Qz;intro x hx
   have:=same _ (h.keys.2.2 x hx).2
   simp only[AE];exact this
  rw[bm h hB i h1,e1,e2,Xb hS,L6];simp
 rw[B2];constructor
 ·intro hh;have YF:=Mh hh;unfold has at hh;simp only[YF,decide_true,Ef]at hh;obtain⟨x,hx,hp⟩:=A3.1 hh;obtain⟨i,_,h1,h2,hk,rfl⟩:=PP.1 hx
  have:=DJ.1 hp
  dsimp only at this;rw[←VX i h1 h2 this.1 this.2];simp[LT,YF,hk]
 ·intro hh;simp only[Ag,LT,AE]at hh;obtain⟨⟨p0,p1⟩,hk⟩:=hh;obtain⟨j0,hj0,e0⟩:=mem 0 h.keys.1;obtain⟨j1,hj1,e1⟩:=mem 1000000 h.keys.2.1;have vZ:B[0]'(by omega)≤p:=by
   have:B[0]'(by omega)≤0:=by
    cases j0 with
    |zero=>omega
    |succ j=>have:=lt 0 (j+1) (by omega) hj0 (by omega);omega
   omega
  obtain⟨i,h1,h2,a,b⟩:=On hB.srt j1 (by omega) hj1 vZ (by omega);unfold has;simp only[p0,p1,decide_true,Ef];exact A3.2 ⟨(B[i],B[i+1]),PP.2 ⟨i,by omega,h1,h2,by rw[VX i h1 h2 a b];exact hk,rfl⟩,DJ.2 ⟨a,b⟩⟩
theorem je{l:List A9}{m:List (Int×Int)}{B:List Int}(h:Il m (l.map canon).flatten)(hB:jL B m)(i:Nat)(hi:i<B.length):0≤Iy m (B.take (i+1))∧Iy m (B.take (i+1))≤l.length:=by
 have hS:∀x∈(l.map canon).flatten,x.1<x.2:=fun x hx=>by
  obtain⟨s,hs,hx⟩:=E9.1 hx;obtain⟨t,_,rfl⟩:=Aq.1 hs;exact((Cq t).low x hx).2.1
 rw[bm h hB i hi,Xb hS,L6]
 have:dV l B[i]≤l.length:=List.countP_le_length
 omega
end Go.Eng

namespace Go.Eng
def WB(m:List Tm)(t:Tm):List Tm:=if m.any (fun u=>decide (u.path=t.path))then m.map (fun u=>if u.path=t.path then t else u)else m++[t]
def Re(m:List Tm)(t:Tm):List Tm:=WB m (NX (Du m t.path) t)
def De(l:List Tm):List Tm:=l.foldl Re []
theorem bY(t:Tm)(p:ByteArray):∀m:List Tm,Du (WB m t) p=if t.path=p then some t else Du m p:=by
 intro m;unfold WB
 by_cases h:(m.any fun u=>decide (u.path=t.path))=true
 ·rw[AB h]
  induction m with
  |nil=>simp at h
  |cons u m ih =>
   rw[AN,CU,CU]
   by_cases e:u.path=t.path
   ·rw[AB e]
    by_cases ep:t.path=p
    ·simp[ep]
    ·rw[Ar ep,Ar ep,Ar (fun c=>ep (e.symm.trans c))]
     by_cases hm:(m.any fun u=>decide (u.path=t.path))=true
     ·rw[ih hm,Ar ep]
     ·have:∀q∈m,q.path≠t.path:=fun q hq c=>hm (A3.2 ⟨q,hq,by simp[c]⟩)
      have:m.map (fun u=>if u.path=t.path then t else u)=m:=by
       conv=>rhs;rw[←LZ m]
       exact Ba fun q hq=>by simp[this q hq]
      rw[this]
   ·rw[Ar e];have hm:(m.any fun u=>decide (u.path=t.path))=true:=by simpa[e]using h
    rw[ih hm]
    by_cases ep:t.path=p
    ·subst ep;simp[e]
    ·simp[ep]
 ·rw[Ar h];have hn:∀q∈m,q.path≠t.path:=fun q hq e=>h (A3.2 ⟨q,hq,by simp[e]⟩)
  clear h
  induction m with
  |nil=>rw[EU,CU]
  |cons u m ih =>
   rw[DZ,CU,CU,ih fun q hq=>hn q (Ai _ hq)]
   have:=hn u (Ab ..)
   by_cases e:u.path=p
   ·have:¬t.path=p:=fun c=>this (e.trans c.symm)
    simp[e,this]
   ·simp[e]
def EC(m:List Tm):List ByteArray:=m.map (·.path)
open Classical in
theorem ZM(m:List Tm)(t:Tm):EC (WB m t)=if t.path∈EC m then EC m else EC m++[t.path]:=by
 unfold WB EC;have e:(m.any fun u=>decide (u.path=t.path))=true↔t.path∈m.map (·.path):=by
  simp only[A3,AE,Aq]
 by_cases h:t.path∈m.map (·.path)
 ·rw[AB (e.2 h),AB h,BX];apply Ba;intro p _;simp only[Function.comp];split
  ·rename_i e;exact e.symm
  ·rfl
 ·rw[Ar (fun c=>h (e.1 c)),Ar h,AA];rfl
theorem cY{m:List Tm}(h:(EC m).Nodup)(t:Tm):(EC (WB m t)).Nodup:=by
 rw[ZM];split
 ·exact h
 ·rename_i hn;rw[Gt];exact⟨h,by simp,fun a ha b hb e=>by subst e;rw[Au.1 hb]at ha;exact hn ha⟩
theorem QV(l:List Tm)(i:Nat)(h:i<l.length):De (l.take (i+1))=Re (De (l.take i)) l[i]:=by
 unfold De;rw[Bb,AD h,Kp];rfl
theorem OF:∀(l m:List Tm),(EC m).Nodup→(EC (l.foldl Re m)).Nodup
 | [],_,h=>h
 |_::l,_,h=>OF l _ (cY h _)
theorem HH(l:List Tm):(EC (De l)).Nodup:=OF l [] .nil
theorem Xm(m:List Tm)(t:Tm)(p:ByteArray):Du (Re m t) p=J5 p (Du m p) t:=by
 unfold Re J5;have hp:(NX (Du m t.path) t).path=t.path:=Qc _ _ fun u h=>G9 h;rw[bY,hp]
 by_cases e:t.path=p
 ·rw[AB e,AB e,e]
 ·rw[Ar e,Ar e]
theorem OC(p:ByteArray):∀(l m:List Tm),Du (l.foldl Re m) p=l.foldl (J5 p) (Du m p)
 | [],_=>rfl
 |t::l,m=>by rw[FH,FH,OC p l,Xm]
theorem Za(l:List Tm)(p:ByteArray):Du (De l) p=Du (E3 l) p:=by
 unfold De;rw[OC,I1];rfl
theorem Md{m:List Tm}(h:(EC m).Nodup){t:Tm}:t∈m↔Du m t.path=some t:=by
 constructor
 ·induction m with
  |nil=>intro h;cases h
  |cons u m ih =>
   intro ht;unfold EC at h ih;rw[AN,CZ]at h;rw[CU];rcases AF.1 ht with rfl | ht
   ·rw[AB rfl]
   ·have:¬u.path=t.path:=fun e=>h.1 (e▸Aq.2 ⟨t,ht,rfl⟩)
    rw[Ar this];exact ih h.2 ht
 ·exact Fl
theorem HM{m:List Tm}(h:(EC m).Nodup):m.Nodup:=by
 unfold EC at h
 induction m with
 |nil=>exact .nil
 |cons u m ih =>
  rw[AN,CZ]at h;exact CZ.2 ⟨fun hu=>h.1 (Aq.2 ⟨u,hu,rfl⟩),ih h.2⟩
theorem HR{l:List Tm}{lo:Option ByteArray}(h:Cj lo l):(EC l).Nodup:=by
 unfold EC
 induction l generalizing lo with
 |nil=>exact .nil
 |cons t l ih =>
  rw[AN,CZ];refine⟨fun hm=>?_,ih h.2.2⟩;obtain⟨u,hu,e⟩:=Aq.1 hm
  have:=h.2.2.low u hu
  rw[e,DR]at this;cases this
theorem Je(l:List Tm)(t:Tm):t∈De l↔t∈E3 l:=by
 rw[Md (HH l),Za,←Md (HR (Er l))]
theorem OX(l:List Tm):∀t∈De l,EJ t.set:=fun t ht=>(Er l).canon t ((Je l t).1 ht)
theorem dN(m:List Tm)(t:Tm):(Re m t).length≤m.length+1:=by
 unfold Re WB;split<;>simp
theorem NQ(l:List Tm):∀i,i≤l.length→(De (l.take i)).length≤i:=by
 intro i
 induction i with
 |zero=>intro _;simp[De]
 |succ i ih =>
  intro h;rw[QV l i (by omega)]
  have:=dN (De (l.take i)) l[i]
  have:=ih (by omega)
  omega
theorem ab{s:List Tm}(hs:s.Pairwise fun x y=>EH x.path y.path=true)(hc:∀t∈s,EJ t.set):Cj none s:=by
 have:∀(s:List Tm) (lo:Option ByteArray),s.Pairwise (fun x y=>EH x.path y.path=true)→(∀t∈s,EJ t.set)→(∀p,lo=some p→∀t∈s,EH p t.path=true)→Cj lo s:=by
  intro s
  induction s with
  |nil=>intro _ _ _ _;trivial
  |cons t s ih =>
   intro lo hs hc hl;obtain⟨h1,h2⟩:=Db.1 hs;exact⟨fun p e=>hl p e t (Ab ..),hc t (Ab ..),ih _ h2 (fun u hu=>hc u (Ai _ hu)) fun p e u hu=>by cases e;exact h1 u hu⟩
 exact this s none hs hc fun _ e=>by cases e
theorem Pz{l s:List Tm}(q:Tm→Bool)(hp:s.Perm ((De l).filter q))(hs:s.Pairwise fun x y=>EH y.path x.path=false):s=(E3 l).filter q:=by
 have hm:∀t,t∈s↔t∈(E3 l).filter q:=fun t=>by
  rw[hp.mem_iff,BL,BL,Je]
 have MJ:(EC s).Nodup:=by
  have h1:(EC ((De l).filter q)).Nodup:=by
   unfold EC;exact List.Nodup.sublist (List.Sublist.map _ List.filter_sublist) (HH l)
  unfold EC at h1⊢;exact(hp.map (·.path)).nodup_iff.2 h1
 have Gy:s.Pairwise fun x y=>EH x.path y.path=true:=by
  rw[Bl]at hs⊢;intro i j hi hj Wf;cases hb:EH s[i].path s[j].path with
  |true=>rfl
  |false =>
   have e:=IV hb (hs i j hi hj Wf);unfold EC at MJ
   have:=(Bl.1 MJ) i j (by simpa using hi) (by simpa using hj) Wf
   simp at this;exact absurd e this
 have zp:Cj none s:=ab Gy fun t ht=>(Er l).canon t (BL.1 ((hm t).1 ht)).1;have d7:Cj none ((E3 l).filter q):=Cj.filter q (Er l);refine Mx zp d7 fun p=>?_;cases h1:Du s p with
 |some t =>
  have:=(hm t).1 (Fl h1)
  rw[FM d7,G9 h1]at this;exact this.symm
 |none =>
  cases h2:Du ((E3 l).filter q) p with
  |none=>rfl
  |some t =>
   have:=(hm t).2 (Fl h2)
   rw[FM zp,G9 h2,h1]at this;cases this
theorem YX(t:Tm):GZ t t=LC t:=by unfold GZ LC;rw[Zt,Bool.and_self]
theorem bh(o:Option Tm)(t:Tm):NX o t=GZ (o.getD t) t:=by cases o with | none=>exact(YX t).symm | some u=>rfl
theorem bE{t:Tm}(h:EJ t.set):(t.absent&&(En t.set).isEmpty)=GH t:=by
 unfold GH
 congr 1
 rw[B2,F0,AE];have ha:EJ [(0,1000000)]:=⟨BQ _,by dsimp only;omega,BQ _,trivial⟩;constructor
 ·intro e;refine Hx h ha fun p=>?_
  have:=FN t.set p
  rw[e]at this;have h0:has [] p=false:=by simp[has]
  rw[h0]at this;have h1:has [(0,1000000)] p=LT p:=by simp[has,LT,BR]
  rw[h1];cases hp:LT p with
  |true=>rw[hp]at this;simpa using this.symm
  |false =>
   rw[AH];intro hh
   have:=Mh hh
   simp[LT,this]at hp
 ·intro e;rw[PY (Hf _)];intro p;rw[FN,e];have h1:has [(0,1000000)] p=LT p:=by simp[has,LT,BR]
  rw[h1];simp
theorem ig{t:Tm}(h:EJ t.set):(!t.absent&&(canon t.set).isEmpty)=HI t:=by unfold HI;rw[Jn h]
end Go.Eng

namespace Go.Eng
open Go.Lib
theorem Ql(c:UInt8):∀(s:List UInt8) (k:Nat),s.count c≤k→splitK [c] 0 k s=CP c s
 | [],k,_=>by
  cases k with
  |zero=>rfl
  |succ k=>rfl
 |b::r,k,h=>by
  rw[CP]
  by_cases e:b=c
  ·subst e;rw[List.count_cons_self]at h;obtain⟨k',rfl⟩:∃k',k=k'+1:=⟨k-1,by omega⟩;rw[AB rfl,splitK,index_one,indexByte];simp only[beq_self_eq_true,NM];rw[Ar (by decide)];show []::splitK [b] 0 k' r=_;rw[Ql b r k' (by omega)]
  ·have Dy:(b == c)=false:=by simpa using e
   rw[List.count_cons_of_ne (by simpa using e)]at h;have ih:=Ql c r k h;rw[Ar e];cases k with
   |zero =>
    rw[←ih];rfl
   |succ k =>
    rw[←ih,splitK,splitK,index_one,index_one,indexByte,Dy]
    by_cases h0:indexByte r c=-1
    ·rw[h0];rfl
    ·have h1:(indexByte r c == -1)=false:=by simpa using h0
     have h2:=indexByte_ge r c;have h3:(indexByte r c+1 == -1)=false:=by rw[beq_eq_false_iff_ne];omega
     simp only[Da,Ga,h1,h3];obtain⟨i,hi⟩:∃i:Nat,indexByte r c=i:=⟨(indexByte r c).toNat,by omega⟩;rw[hi];show(b::r).take (((i:Int)+1).toNat+0)::_=(b::r.take ((i:Int).toNat+0))::_;rw[show((i:Int)+1).toNat=i+1 by omega,show((i:Nat):Int).toNat=i by omega]
     rfl
theorem Xa(c:UInt8):∀(n:Nat) (s:List UInt8),s.length≤n→count s [c]=s.count c
 |n,s,hn=>by
  rcases Int.lt_or_le (indexByte s c) 0 with h | h
  ·have h2:=indexByte_ge s c;have h3:indexByte s c=-1:=by omega
   rw[count_miss (by rw[index_one];exact h3)]
   symm
   rw[List.count_eq_zero];intro hm;obtain⟨k,hk,e⟩:=BY hm;exact indexByte_none h3 k (by rw[AD hk,e])
  ·obtain⟨i,hi⟩:∃i:Nat,indexByte s c=i:=⟨(indexByte s c).toNat,by omega⟩;obtain⟨h1,h2⟩:=indexByte_some hi;obtain⟨hl,hg⟩:=Aw.1 h1;cases n with
   |zero=>omega
   |succ n =>
    have hc:=count_hit (s:=s) (sub:=[c]) (i:=i) (by simp) (by rw[index_one];exact hi);rw[hc];have ih:=Xa c n (s.drop (i+1)) (by rw[B6];omega);have oc:s=s.take i++c::s.drop (i+1):=by
     rw[←hg,←Bk hl,Ee]
    have h0:(s.take i).count c=0:=by
     rw[List.count_eq_zero];intro hm;obtain⟨k,hk,e⟩:=BY hm;rw[AK]at hk;rw[HY]at e;exact h2 k (by omega) (by rw[AD (by omega),e])
    conv=>rhs;rw[oc]
    rw[List.count_append,h0,List.count_cons_self];show 1+count (s.drop (i+1)) [c]=_;rw[ih];omega
theorem dJ(s:ByteArray)(c:UInt8):((splitB ⟨#[c]⟩ 0 (countB s ⟨#[c]⟩) s).map (·.data.toList))=CP c s.data.toList:=by
 rw[splitB_data];refine Ql c _ _ ?_;show _≤count s.data.toList [c];rw[Xa c _ _ (Ao _)];exact Ao _
end Go.Eng

namespace Go.Eng
theorem Vi{α:Type}:∀{l m:List α},l.Nodup→(∀x∈l,x∈m)→l.length≤m.length
 | [],_,_,_=>AL _
 |a::l,m,hn,hs=>by
  obtain⟨h1,h2⟩:=CZ.1 hn;obtain⟨s,t,rfl⟩:=List.append_of_mem (hs a (Ab ..))
  have:l.length≤(s++t).length:=Vi h2 fun x hx=>by
   rcases A5.1 (hs x (Ai _ hx))with h | h
   ·exact Bz _ h
   ·rcases AF.1 h with rfl | h
    ·exact absurd hx h1
    ·exact Bp _ h
  simp only[Ad,Ak]at this⊢;omega
theorem LF(p:ByteArray):∀(l:List Tm) (o:Option Tm),(∀u∈l,u.path≠p)→l.foldl (J5 p) o=o
 | [],_,_=>rfl
 |t::l,o,h=>by
  rw[FH,show J5 p o t=o by unfold J5;rw[Ar (h t (Ab ..))]];exact LF p l o fun u hu=>h u (Ai _ hu)
theorem ZB{l:List Tm}{t:Tm}(h:t∈E3 l):∃u∈l,u.path=t.path:=by
 apply Cs;intro hn
 have:∀u∈l,u.path≠t.path:=fun u hu e=>hn ⟨u,hu,e⟩
 have h1:=(FM (Er l)).1 h;rw[I1,LF _ _ _ this]at h1;cases h1
def Uy(U:List ByteArray)(t:List Tm):Prop:=Cj none t∧∀u∈t,u.path∈U
theorem Uy.len{U:List ByteArray}{t:List Tm}(h:Uy U t):t.length≤U.length:=by
 have:=Vi (HR h.1) (m:=U) fun p hp=>by
  obtain⟨u,hu,rfl⟩:=Aq.1 hp;exact h.2 u hu
 unfold EC at this
 rwa [Bx]at this
theorem YZ{l c:List Tm}(h:CV l=some c){t:Tm}(ht:t∈c):t∈E3 l:=by
 unfold CV at h;split at h
 ·cases h
 ·cases h;exact(BL.1 ht).1
theorem Py{U:List ByteArray}{l c:List Tm}(h:CV l=some c)(hu:∀u∈l,u.path∈U):Uy U c :=
 ⟨EV h,fun t ht=>by
  obtain⟨u,h1,h2⟩:=ZB (YZ h ht);rw[←h2];exact hu u h1⟩
theorem Uy.nil(U:List ByteArray):Uy U []:=⟨trivial,fun u hu=>by cases hu⟩
theorem TA{U:List ByteArray}{l:List Tm}(hu:∀u∈l,u.path∈U):Uy U (PZ l):=by
 unfold PZ;cases h:CV l with
 |none=>exact .nil U
 |some c=>exact Py h hu
theorem Rb{U:List ByteArray}{a b:List Tm}{p:ByteArray}(ha:Uy U a)(hb:Uy U b):Uy U (BE a b p).1:=by
 have sp:∀{l r:List Tm} {t:Tm},Uy U l→FB l p=some (t,r)→t.path∈U∧∀u∈r,u.path∈U:=by
  intro l r t hl h;unfold FB at h;cases e:CV l with
  |none=>rw[e]at h;cases h
  |some c =>
   rw[e]at h;have h:(match Du c p with | none=>none | some t=>some (t,FR c p))=some (t,r):=h;have hc:=Py e hl.2;cases e2:Du c p with
   |none=>rw[e2]at h;cases h
   |some u =>
    rw[e2]at h;cases h;exact⟨hc.2 _ (Fl e2),fun u hu=>hc.2 u (BL.1 hu).1⟩
 unfold BE;split
 ·rename_i t r u m e1 e2;obtain⟨a1,a2⟩:=sp ha e1;obtain⟨b1,b2⟩:=sp hb e2;split
  ·rename_i o e3;refine Py e3 fun v hv=>?_;rcases A5.1 hv with hv | hv
   ·rcases A5.1 hv with hv | hv
    ·exact a2 v hv
    ·exact b2 v hv
   ·rw[Au.1 hv];exact a1
  ·exact .nil U
 ·exact .nil U
def Kj(x:List Rl)(roots:List Rq)(l:List Nf):List ByteArray:=(x.map (·.path))++((x.map (·.reqs)).flatten.map (·.path)++(roots.map (·.path)++l.map (·.path)))
theorem cD{x:List Rl}{roots:List Rq}{l:List Nf}{d:List (List Tm)}{i:Nf}(hi:i∈l)(hd:∀t∈d,Uy (Kj x roots l) t){t:List Tm}(h:DS x roots d i=some t):Uy (Kj x roots l) t:=by
 have hp:i.path∈Kj x roots l:=by
  unfold Kj;exact Bp _ (Bp _ (Bp _ (Aq.2 ⟨i,hi,rfl⟩)))
 have nz:∀{α:Type} {l:List α} {k:Int} {a:α},Jz l k=some a→a∈l:=by
  intro α l k a h;unfold Jz at h;split at h
  ·cases h
  ·exact Ay h
 have n0:∀{a b:List Tm},cQ a=some b→b=a:=by
  intro a b h;unfold cQ at h;split at h
  ·cases h
  ·cases h;rfl
 unfold DS at h;split at h
 ·split at h
  ·cases e:Jz roots i.number with
   |none=>rw[e]at h;cases h
   |some q =>
    rw[e]at h;cases h;refine TA fun u hu=>?_;rw[Au.1 hu];unfold Kj;exact Bp _ (Bp _ (Bz _ (Aq.2 ⟨q,nz e,rfl⟩)))
  ·cases h
 split at h
 ·split at h
  ·cases e:O6 x i.path i.place with
   |none=>rw[e]at h;cases h
   |some r =>
    rw[e]at h;have h:(match Jz r.reqs i.number with | none=>none | some q=>cQ (El i.path i.place q))=some t:=h;cases e2:Jz r.reqs i.number with
    |none=>rw[e2]at h;cases h
    |some q =>
     rw[e2]at h;have h:=n0 (show cQ (El i.path i.place q)=some t from h);subst h;refine TA fun u hu=>?_;rcases AF.1 hu with rfl | hu
     ·exact hp
     ·rw[Au.1 hu];unfold Kj;refine Bp _ (Bz _ (Aq.2 ⟨q,?_,rfl⟩));exact E9.2 ⟨r.reqs,Aq.2 ⟨r,CR e,rfl⟩,nz e2⟩
  ·cases h
 split at h
 ·split at h
  ·have h:=n0 h;subst h;refine TA fun u hu=>?_;rw[Au.1 hu];exact hp
  ·cases h
 split at h
 ·split at h
  ·cases e:Jz d i.left with
   |none=>rw[e]at h;cases h
   |some a =>
    cases e2:Jz d i.right with
    |none=>rw[e,e2]at h;cases h
    |some b =>
     rw[e,e2]at h;have h:(if(BE a b i.path).2=0 then some (BE a b i.path).1 else none)=some t:=h;split at h
     ·cases h;exact Rb (hd a (nz e)) (hd b (nz e2))
     ·cases h
  ·cases h
 ·cases h
end Go.Eng

namespace Go.Eng
structure Cd where
 place:Int
 rel:Rl
structure Nd where
 rq:Rq
 path:ByteArray
 place:Int
 number:Int
structure SS where
 infs:List Nf
 drv:List (List Tm)
 full:Bool
abbrev M4(c:Cd):Sl:=⟨c.rel.path,c.rel.ver⟩
abbrev Am(l:List Cd):List Sl:=l.map M4
def BH(x:List Rl)(p:ByteArray):List Cd:=(x.filter fun r=>decide (r.path=p)&&!r.yanked).map fun r=>⟨plc r.ver,r⟩
def Lo(f:Rq→Nat→Nd):Nat→List Rq→List Nd
 |_,[]=>[]
 |i,q::l=>f q i::Lo f (i+1) l
def Yx(roots:List Rq):List Nd:=Lo (fun q i=>⟨q,mt,0,i⟩) 0 roots
def O5(c:Cd):List Nd:=Lo (fun q i=>⟨q,c.rel.path,c.place,i⟩) 0 c.rel.reqs
def Dp(roots:List Rq)(dec:List Cd):List Nd:=Yx roots++(dec.map O5).flatten
def Df(dec:List Cd)(p:ByteArray):Bool:=dec.any fun c=>decide (c.rel.path=p)
def Ek(dec:List Cd)(a:ByteArray×List Nd)(n:Nd):ByteArray×List Nd :=
 if Df dec n.rq.path=true∨(a.2≠[]∧EH a.1 n.rq.path=true)then a
 else if a.2≠[]∧EH n.rq.path a.1=true then(n.rq.path,[n])else(n.rq.path,a.2++[n])
def EO(roots:List Rq)(dec:List Cd):ByteArray×List Nd:=(Dp roots dec).foldl (Ek dec) (mt,[])
def Tq(l:List Cd)(n:Nd):Bool:=l.any fun d=>decide (d.rel.path=n.rq.path)&&!has n.rq.set d.place
def Co(dec:List Cd)(c:Cd):Option Nd:=(O5 c).find? (Tq (dec++[c]))
def Ow(s:List Sl):Nat→List (List Tm)→Option Nat
 |_,[]=>none
 |i,t::l=>if Cz t s then some i else Ow s (i+1) l
def Ox(d:List (List Tm))(s:List Sl):Option Nat:=Ow s 0 d
def Cy(l:List Tm)(p:ByteArray):Bool:=l.any fun t=>decide (t.path=p)
instance:DecidableEq Nf:=fun a b=>by
 obtain⟨a1,a2,a3,a4,a5,a6⟩:=a;obtain⟨b1,b2,b3,b4,b5,b6⟩:=b;exact decidable_of_iff (a1=b1∧a2=b2∧a3=b3∧a4=b4∧a5=b5∧a6=b6) ⟨fun⟨h1,h2,h3,h4,h5,h6⟩=>by subst h1 h2 h3 h4 h5 h6;rfl,fun h=>by cases h;exact⟨rfl,rfl,rfl,rfl,rfl,rfl⟩⟩
def LW(i:Nf):Nat→List Nf→Option Nat
 |_,[]=>none
 |k,j::l=>if j=i then some k else LW i (k+1) l
def Eh(s:SS)(i:Nf)(l:List Tm):Nat×SS :=
 match LW i 0 s.infs with
 |some k=>(k,s)
 |none=>if 65536≤s.infs.length then(s.infs.length-1,⟨s.infs,s.drv,true⟩)else(s.infs.length,⟨s.infs++[i],s.drv++[l],s.full⟩)
def Tb(n:Nd):Nf:=if n.path=mt then⟨0,mt,0,n.number,0,0⟩else⟨1,n.path,n.place,n.number,0,0⟩
def I4(n:Nd):List Tm:=if n.path=mt then JC n.rq else El n.path n.place n.rq
def Bh(s:SS)(n:Nd):Nat×SS:=Eh s (Tb n) (I4 n)
abbrev DC(s:SS)(k:Nat):List Tm:=s.drv.getD k []
def Cp(p:ByteArray):List Nat→Nat→SS→Nat×SS
 | [],k,s=>(k,s)
 |r::l,k,s =>
  if s.full=true∨Cy (DC s k) p=false then(k,s)
  else if r=k then Cp p l k s
  else if(BE (DC s k) (DC s r) p).2≠0 then Cp p l k s
  else Cp p l (Eh s ⟨3,p,0,0,k,r⟩ (BE (DC s k) (DC s r) p).1).1 (Eh s ⟨3,p,0,0,k,r⟩ (BE (DC s k) (DC s r) p).1).2
def Eo(x:List Rl)(p:ByteArray)(s:SS):Nat×SS:=Eh s ⟨2,p,0,0,0,0⟩ (H1 p (Ce x p))
def D3(x:List Rl)(p:ByteArray)(n:Nd)(F2:List Nat)(s:SS):Nat×SS :=
 Cp p ((Eo x p (Bh s n).2).1::F2) (Bh s n).1 (Eo x p (Bh s n).2).2
structure J7 where
 res:Nat
 found:Bool
 ss:SS
 dec:List Cd
 stack:List (List Sk)
def D1(rec:List Cd→SS→List (List Sk)→J7)(x:List Rl)(p:ByteArray)(needs:List Nd)(n0:Nd)(dec:List Cd)(stack:List (List Sk)):List Cd→SS→List Nat→List Sk→J7
 | [],s,F2,_=>⟨(D3 x p n0 F2 s).1,false,(D3 x p n0 F2 s).2,dec,stack⟩
 |c::cs,s,F2,skips =>
  let after (k:Nat) (s:SS):J7:=if Cy (DC s k) p=false then⟨k,false,s,dec,stack⟩else D1 rec x p needs n0 dec stack cs s (F2++[k]) (skips++[⟨p,c.place,k⟩])
  if s.full=true then⟨0,false,s,dec,stack⟩
  else match needs.find? fun n=>!has n.rq.set c.place with
   |some n=>D1 rec x p needs n0 dec stack cs (Bh s n).2 (F2++[(Bh s n).1]) skips
   |none=>match Ox s.drv (Am (dec++[c]))with
    |some k=>after k s
    |none=>match Co dec c with
     |some n=>after (Bh s n).1 (Bh s n).2
     |none =>
      let o:=rec (dec++[c]) s (stack++[skips])
      if o.found=true then⟨0,true,o.ss,o.dec,o.stack⟩
      else if o.ss.full=true then⟨0,false,o.ss,dec,stack⟩
      else after o.res o.ss
def Dk(x:List Rl)(roots:List Rq):Nat→List Cd→SS→List (List Sk)→J7
 |0,dec,s,stack=>⟨0,false,s,dec,stack⟩
 |n+1,dec,s,stack=>match(EO roots dec).2 with
  | []=>⟨0,true,s,dec,stack⟩
  |n0::l=>D1 (Dk x roots n) x (EO roots dec).1 (n0::l) n0 dec stack (BH x (EO roots dec).1) s [] []
abbrev J4:SS:=⟨[],[],false⟩
def KE(x:List Rl)(dec:List Cd):Nat:=(x.filter fun r=>!r.yanked&&!Df dec r.path).length
def FP(x:List Rl)(roots:List Rq):J7:=Dk x roots (x.length+1) [] J4 []
end Go.Eng

namespace Go.Eng
theorem O3(f:Rq→Nat→Nd):∀(l:List Rq) (i k:Nat),(Lo f i l)[k]?=(l[k]?).map fun q=>f q (i+k)
 | [],i,k=>by simp[Lo]
 |q::l,i,0=>by simp[Lo]
 |q::l,i,k+1=>by
  have h:=O3 f l (i+1) k;simp only[Lo,Eu,h];rw[show i+1+k=i+(k+1) by omega]
theorem KO(f:Rq→Nat→Nd):∀(l:List Rq) (i:Nat),(Lo f i l).length=l.length
 | [],_=>rfl
 |_::l,i=>by simp[Lo,KO f l (i+1)]
theorem Yg{f:Rq→Nat→Nd}{l:List Rq}{n:Nd}(h:n∈Lo f 0 l):∃k q,l[k]?=some q∧n=f q k:=by
 obtain⟨k,hk⟩:=Cg.1 h;rw[O3,AQ]at hk;obtain⟨q,h1,h2⟩:=hk;exact⟨k,q,h1,by rw[←h2,Bc]⟩
theorem RG{f:Rq→Nat→Nd}(hf:∀q i,(f q i).rq=q):∀(l:List Rq) (i:Nat),(Lo f i l).map (·.rq)=l
 | [],_=>rfl
 |q::l,i=>by simp[Lo,hf,RG hf l (i+1)]
abbrev DD(roots:List Rq)(dec:List Cd):List Rq:=roots++(dec.map fun c=>c.rel.reqs).flatten
theorem Jf(roots:List Rq)(dec:List Cd):(Dp roots dec).map (·.rq)=DD roots dec:=by
 unfold Dp Yx;rw[AA,RG (fun _ _=>rfl),List.map_flatten,BX]
 congr 2
 exact Ba fun c _=>RG (fun _ _=>rfl) _ _
theorem F1(dec:List Cd)(p:ByteArray):Cv (Am dec) p=Df dec p:=by
 unfold Cv Df Am;rw[List.any_map];rfl
theorem Jx(before:List Sl):∀{l:List Rq} {a p:ByteArray},CA before l (some a)=some p→p=a∨EH p a=true
 | [],a,p,h=>by cases h;exact .inl rfl
 |q::l,a,p,h=>by
  unfold CA at h;split at h
  ·exact Jx before h
  ·dsimp only at h;split at h
   ·rename_i hb;rcases Jx before h with e | e
    ·exact .inr (by rw[e];exact hb)
    ·exact .inr (Ej e hb)
   ·exact Jx before h
theorem Iv(before:List Sl):∀{l:List Rq} {a:ByteArray},CA before l (some a)≠none
 | [],a=>by simp[CA]
 |q::l,a=>by
  unfold CA;split
  ·exact Iv before
  ·dsimp only;split<;>exact Iv before
theorem OB{n:Nd}{p:ByteArray}(e:n.rq.path≠p)(L:List Nd):((n::L).filter fun n=>decide (n.rq.path=p))=L.filter fun n=>decide (n.rq.path=p):=by rw[Et,Ar (by simpa using e)]
theorem V5{n:Nd}{p:ByteArray}(e:n.rq.path=p)(L:List Nd):((n::L).filter fun n=>decide (n.rq.path=p))=n::L.filter fun n=>decide (n.rq.path=p):=by rw[Et,AB (by simpa using e)]
theorem MS(dec:List Cd):∀(L:List Nd) (a:ByteArray×List Nd),(a.2≠[]→Df dec a.1=false) →
  L.foldl (Ek dec) a=match CA (Am dec) (L.map (·.rq)) (if a.2=[]then none else some a.1)with
   |none=>a
   |some p=>(p,(if a.2≠[]∧a.1=p then a.2 else [])++L.filter fun n=>decide (n.rq.path=p))
 | [],a,h=>by
  obtain⟨p,o⟩:=a;cases o with
  |nil=>simp[CA]
  |cons n o=>simp[CA]
 |n::L,a,h=>by
  obtain⟨p0,o⟩:=a;rw[FH,AN];have rV:∀(acc:Option ByteArray) (l:List Rq),(∀p,acc=some p→Df dec p=false)→∀p,CA (Am dec) l acc=some p→Df dec p=false:=fun acc l ha p hp=>by
   have:=((JY (Am dec) (l:=l) (acc:=acc) (fun p e=>by rw[F1];exact ha p e)).1 p hp).1
   rw[F1]at this;exact this
  cases hd:Df dec n.rq.path with
  |true =>
   have e1:Ek dec (p0,o) n=(p0,o):=by unfold Ek;rw[AB (.inl hd)]
   have e2:CA (Am dec) (n.rq::L.map (·.rq)) (if o=[]then none else some p0)=CA (Am dec) (L.map (·.rq)) (if o=[]then none else some p0):=by
    conv=>lhs;unfold CA
    rw[AB (by rw[F1];exact hd)]
   rw[e1,e2,MS dec L (p0,o) h];dsimp only;cases hg:CA (Am dec) (L.map (·.rq)) (if o=[]then none else some p0)with
   |none=>rfl
   |some p =>
    dsimp only;have hp:=rV _ _ (fun q e=>by
     split at e
     ·cases e
     ·rename_i ho;cases e;exact h ho) p hg
    have Dy:n.rq.path≠p:=fun e=>by rw[e,hp]at hd;cases hd
    rw[OB Dy]
  |false =>
   have MJ:Cv (Am dec) n.rq.path=false:=by rw[F1];exact hd
   by_cases ho:o=[]
   ·subst ho;have e1:Ek dec (p0,[]) n=(n.rq.path,[n]):=by
     unfold Ek;rw[Ar (by simp[hd]),Ar (by simp)];rfl
    have e2:CA (Am dec) (n.rq::L.map (·.rq)) none=CA (Am dec) (L.map (·.rq)) (some n.rq.path):=by
     conv=>lhs;unfold CA
     rw[Ar (by rw[MJ];decide)]
    rw[e1,MS dec L (n.rq.path,[n]) (fun _=>hd),AB rfl,e2];rw[Ar (by simp)];cases hg:CA (Am dec) (L.map (·.rq)) (some n.rq.path)with
    |none=>exact absurd hg (Iv _)
    |some p =>
     dsimp only;rw[Ar (show ¬(([]:List Nd)≠[]∧p0=p)from fun h=>h.1 rfl)]
     by_cases e:n.rq.path=p
     ·rw[V5 e,AB ⟨by simp,e⟩];rfl
     ·rw[OB e,Ar (fun h=>e h.2)]
   ·have zd:(if o=[]then none else some p0)=some p0:=Ar ho;rw[zd];cases hb:EH p0 n.rq.path with
    |true =>
     have e1:Ek dec (p0,o) n=(p0,o):=by unfold Ek;rw[AB (.inr ⟨ho,hb⟩)]
     have Uj:EH n.rq.path p0=false:=Pv hb;have e2:CA (Am dec) (n.rq::L.map (·.rq)) (some p0)=CA (Am dec) (L.map (·.rq)) (some p0):=by
      conv=>lhs;unfold CA
      rw[Ar (by rw[MJ];decide)];dsimp only;rw[Ar (by rw[Uj];decide)]
     rw[e1,e2,MS dec L (p0,o) h];dsimp only;rw[zd];cases hg:CA (Am dec) (L.map (·.rq)) (some p0)with
     |none=>rfl
     |some p =>
      dsimp only;have Dy:n.rq.path≠p:=fun e=>by
       rcases Jx _ hg with e3 | e3
       ·rw[e,e3,DR]at hb;cases hb
       ·rw[e,Pv e3]at hb;cases hb
      rw[OB Dy]
    |false =>
     cases Uj:EH n.rq.path p0 with
     |true =>
      have e1:Ek dec (p0,o) n=(n.rq.path,[n]):=by
       unfold Ek;rw[Ar (by simp[hd,hb]),AB ⟨ho,Uj⟩]
      have e2:CA (Am dec) (n.rq::L.map (·.rq)) (some p0)=CA (Am dec) (L.map (·.rq)) (some n.rq.path):=by
       conv=>lhs;unfold CA
       rw[Ar (by rw[MJ];decide)];dsimp only;rw[AB Uj]
      rw[e1,e2,MS dec L (n.rq.path,[n]) (fun _=>hd),Ar (by simp)];cases hg:CA (Am dec) (L.map (·.rq)) (some n.rq.path)with
      |none=>exact absurd hg (Iv _)
      |some p =>
       dsimp only;have Dy:p0≠p:=fun e=>by
        rcases Jx _ hg with e3 | e3
        ·rw[e,e3,DR]at Uj;cases Uj
        ·rw[e]at Uj;rw[Pv e3]at Uj;cases Uj
       rw[Ar (show ¬(o≠[]∧p0=p)from fun h=>Dy h.2)]
       by_cases e:n.rq.path=p
       ·rw[V5 e,AB ⟨by simp,e⟩];rfl
       ·rw[OB e,Ar (fun h=>e h.2)]
     |false =>
      have e0:n.rq.path=p0:=IV Uj hb;have e1:Ek dec (p0,o) n=(p0,o++[n]):=by
       unfold Ek;rw[Ar (by simp[hd,hb]),Ar (by simp[Uj]),e0]
      have e2:CA (Am dec) (n.rq::L.map (·.rq)) (some p0)=CA (Am dec) (L.map (·.rq)) (some p0):=by
       conv=>lhs;unfold CA
       rw[Ar (by rw[MJ];decide)];dsimp only;rw[Ar (by rw[Uj];decide)]
      rw[e1,e2,MS dec L (p0,o++[n]) (fun _=>by rw[←e0];exact hd),Ar (by simp)];cases hg:CA (Am dec) (L.map (·.rq)) (some p0)with
      |none=>exact absurd hg (Iv _)
      |some p =>
       dsimp only
       by_cases e:p0=p
       ·rw[V5 (e0.trans e),AB ⟨by simp,e⟩,AB ⟨ho,e⟩,BU];rfl
       ·rw[OB (fun h=>e (e0.symm.trans h)),Ar (fun h=>e h.2),Ar (fun h=>e h.2)]
theorem Tu(roots:List Rq)(dec:List Cd):EO roots dec=match HJ (DD roots dec) (Am dec)with
  |none=>(mt,[])
  |some p=>(p,(Dp roots dec).filter fun n=>decide (n.rq.path=p)):=by
 unfold EO HJ;rw[MS dec _ (mt,[]) (fun h=>absurd rfl h),AB rfl,Jf];cases CA (Am dec) (DD roots dec) none with
 |none=>rfl
 |some p=>dsimp only;rw[Ar (by simp)];rfl
theorem NW{roots:List Rq}{dec:List Cd}:(EO roots dec).2=[]↔HJ (DD roots dec) (Am dec)=none:=by
 rw[Tu];cases h:HJ (DD roots dec) (Am dec)with
 |none=>simp
 |some p =>
  simp only[reduceCtorEq,iff_false];obtain⟨_,q,hq,e⟩:=Tw h;rw[←Jf]at hq;obtain⟨n,hn,rfl⟩:=Aq.1 hq;exact List.ne_nil_of_mem (BL.2 ⟨hn,by simpa using e⟩)
structure jM(roots:List Rq)(dec:List Cd)(p:ByteArray)(l:List Nd):Prop where
 next:HJ (DD roots dec) (Am dec)=some p
 undone:Df dec p=false
 mem:∀n,n∈l↔n∈Dp roots dec∧n.rq.path=p
theorem Jy{roots:List Rq}{dec:List Cd}{n0:Nd}{l:List Nd}(h:(EO roots dec).2=n0::l):jM roots dec (EO roots dec).1 (n0::l):=by
 rw[←h];rw[Tu]at *
 cases hp:HJ (DD roots dec) (Am dec)with
 |none=>rw[hp]at h;cases h
 |some p =>
  dsimp only;refine⟨hp,by rw[←F1];exact(Tw hp).1,fun n=>?_⟩;rw[BL];simp
theorem G7{x:List Rl}{p:ByteArray}{c:Cd}:c∈BH x p↔∃r∈x,r.path=p∧r.yanked=false∧c=⟨plc r.ver,r⟩:=by
 unfold BH;simp only[Aq,BL,Ag,AE,CX];constructor
 ·rintro⟨r,⟨h1,h2,h3⟩,rfl⟩;exact⟨r,h1,h2,h3,rfl⟩
 ·rintro⟨r,h1,h2,h3,rfl⟩;exact⟨r,⟨h1,h2,h3⟩,rfl⟩
theorem MV{i:Nf}:∀{l:List Nf} {k m:Nat},LW i k l=some m→∃j,m=k+j∧l[j]?=some i
 | [],_,_,h=>by cases h
 |y::l,k,m,h=>by
  unfold LW at h;split at h
  ·rename_i e;cases h;exact⟨0,rfl,by rw[←e];rfl⟩
  ·obtain⟨j,h1,h2⟩:=MV h;exact⟨j+1,by omega,h2⟩
theorem Qb{i:Nf}:∀{l:List Nf} {k:Nat},LW i k l=none→i∉l
 | [],_,_=>by simp
 |y::l,k,h=>by
  unfold LW at h;split at h
  ·cases h
  ·rename_i e
   have:=Qb h
   simp only[AF,not_or];exact⟨fun e'=>e e'.symm,this⟩
theorem QY{α:Type}{d d' : List α}{i:Int}{a:α}(h:Jz d i=some a)(hp:d <+: d'):Jz d' i=some a:=by
 unfold Jz at *
 split at h
 ·cases h
 ·rename_i hi;rw[Ar hi];obtain⟨t,rfl⟩:=hp;rw[AZ (Aw.1 h).1];exact h
theorem XS{x:List Rl}{roots:List Rq}{d d' : List (List Tm)}{i:Nf}{o:List Tm}(h:DS x roots d i=some o)(hp:d <+: d'):DS x roots d' i=some o:=by
 unfold DS at *
 split
 ·rename_i e;rw[AB e]at h;exact h
 rename_i e0;rw[Ar e0]at h;split
 ·rename_i e;rw[AB e]at h;exact h
 rename_i e1;rw[Ar e1]at h;split
 ·rename_i e;rw[AB e]at h;exact h
 rename_i e2;rw[Ar e2]at h;split
 ·rename_i e;rw[AB e]at h;split
  ·rename_i e4;rw[AB e4]at h;cases ha:Jz d i.left with
   |none=>rw[ha]at h;cases h
   |some a =>
    cases hb:Jz d i.right with
    |none=>rw[ha,hb]at h;cases h
    |some b =>
     rw[ha,hb]at h;rw[QY ha hp,QY hb hp];exact h
  ·rename_i e4;rw[Ar e4]at h;cases h
 ·rename_i e;rw[Ar e]at h;cases h
structure FC(x:List Rl)(roots:List Rq)(s:SS):Prop where
 der:Dr x roots s.infs []=some s.drv
 len:s.infs.length≤65536
theorem FC.dlen{x:List Rl}{roots:List Rq}{s:SS}(h:FC x roots s):s.drv.length=s.infs.length:=by simpa using IY h.der
theorem FC.nil(x:List Rl)(roots:List Rq):FC x roots J4:=⟨rfl,by simp⟩
theorem FC.at{x:List Rl}{roots:List Rq}{s:SS}(h:FC x roots s){k:Nat}{i:Nf}(hk:s.infs[k]?=some i):DS x roots s.drv i=some (s.drv.getD k []):=by
 have h1:=Ng h.der (k+1);have h0:=Ng h.der k;have Dz:=(Aw.1 hk).1;rw[Bb,hk,G5,h0]at h1;have h1:Dr x roots [i] (s.drv.take k)=some (s.drv.take (k+1)):=h1;unfold Dr at h1;cases hi:DS x roots (s.drv.take k) i with
 |none=>rw[hi]at h1;cases h1
 |some t =>
  rw[hi]at h1;have h1:some (s.drv.take k++[t])=some (s.drv.take (k+1)):=h1;have hd:k<s.drv.length:=by rw[h.dlen];exact Dz
  have:t=s.drv[k]:=by
   have h2:=Ch h1;rw[DL hd]at h2;exact List.singleton_inj.1 (List.append_cancel_left h2)
  rw[XS hi (List.take_prefix ..),this];simp[List.getD_eq_getElem?_getD,hd]
structure Grow(s s' : SS):Prop where
 pre:s.drv <+: s'.drv
 preI:s.infs <+: s'.infs
 full:s.full=true→s'.full=true
theorem Grow.refl(s:SS):Grow s s:=⟨MZ,MZ,id⟩
theorem Grow.trans{a b c:SS}(h:Grow a b)(k:Grow b c):Grow a c:=⟨h.pre.trans k.pre,h.preI.trans k.preI,fun e=>k.full (h.full e)⟩
theorem Grow.at{s s' : SS}(h:Grow s s'){k:Nat}(hk:k<s.drv.length):DC s' k=DC s k:=by
 obtain⟨t,e⟩:=h.pre;unfold DC;rw[←e,B7,B7,AZ hk]
theorem Grow.len{s s' : SS}(h:Grow s s'):s.drv.length≤s'.drv.length:=h.pre.length_le
theorem Kv(s:SS)(i:Nf)(l:List Tm):Grow s (Eh s i l).2:=by
 unfold Eh;split
 ·exact .refl s
 ·split
  ·exact⟨MZ,MZ,fun _=>rfl⟩
  ·exact⟨Oe ..,Oe ..,id⟩
theorem Ku{x:List Rl}{roots:List Rq}{s:SS}(h:FC x roots s){i:Nf}{l:List Tm}(hi:DS x roots s.drv i=some l) :
  FC x roots (Eh s i l).2∧(Eh s i l).1<(Eh s i l).2.drv.length∧((Eh s i l).2.full=false→DC (Eh s i l).2 (Eh s i l).1=l):=by
 have hdl:=h.dlen;unfold Eh;split
 ·rename_i k hk;obtain⟨j,e,hj⟩:=MV hk
  have:k=j:=by omega
  subst this;have Dz:=(Aw.1 hj).1;refine⟨h,by show k<s.drv.length;omega,fun _=>?_⟩
  have:=h.at hj
  rw[hi]at this;exact(Ch this).symm
 ·rename_i hk;split
  ·rename_i hf;exact⟨⟨h.der,h.len⟩,by show s.infs.length-1<s.drv.length;omega,fun e=>by cases e⟩
  ·rename_i hf;refine⟨⟨?_,by show(s.infs++[i]).length≤65536;rw[Ad];simp;omega⟩,by show s.infs.length<(s.drv++[l]).length;rw[Ad];simp;omega,fun _=>?_⟩
   ·show Dr x roots (s.infs++[i]) []=some (s.drv++[l]);rw[G5,h.der];show Dr x roots [i] s.drv=_;unfold Dr;rw[hi];rfl
   ·show(s.drv++[l]).getD s.infs.length []=l;rw[←hdl];simp[List.getD_eq_getElem?_getD]
theorem Su(S:List Sl):∀{l:List (List Tm)} {i k:Nat},Ow S i l=some k→∃j,k=i+j∧∃t,l[j]?=some t∧Cz t S=true
 | [],_,_,h=>by cases h
 |t::l,i,k,h=>by
  unfold Ow at h;split at h
  ·rename_i e;cases h;exact⟨0,rfl,t,rfl,e⟩
  ·obtain⟨j,h1,t',h2,h3⟩:=Su S h;exact⟨j+1,by omega,t',h2,h3⟩
theorem KC{d:List (List Tm)}{S:List Sl}{k:Nat}(h:Ox d S=some k):k<d.length∧Cz (d.getD k []) S=true:=by
 obtain⟨j,h1,t,h2,h3⟩:=Su S h
 have:k=j:=by omega
 subst this;refine⟨(Aw.1 h2).1,?_⟩;rw[B7,h2];exact h3
end Go.Eng
