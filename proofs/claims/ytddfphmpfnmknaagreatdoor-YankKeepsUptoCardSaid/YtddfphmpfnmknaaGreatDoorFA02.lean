/- Lemmas for the claims of this seat, without a condition: part 2 (P8, P9, P10, P11, P12, P13, P14, Q1, Q2). -/
import Derived.Test.YtddfphmpfnmknaaGreatDoorFA01
import Derived.Lib.SplitLaws
import Derived.Lib.IndexBytes
namespace Go.Eng
def CH(l:Bh):Bh:=(l.map Hm).filter fun x=>decide (x.1<x.2)
theorem Og(a b:Bh):CH (a++b)=CH a++CH b:=by unfold CH;rw[Ay,De]
theorem UM{l:Bh}{x:Int×Int}(h:x∈CH l):0≤x.1∧x.1<x.2∧x.2≤1000000:=by
 unfold CH at h;rw[BI,Ak]at h;obtain⟨⟨y,_,rfl⟩,h2⟩:=h;have h2:=A2 h2;refine⟨?_,h2,?_⟩<;>simp only[Hm]<;>omega
theorem bM(l:Bh)(p:Int):(CH l).any (BG p)=has l p:=by
 rw[←Kn]
 induction l with
 |nil=>rfl
 |cons x r ih =>
  have e:CH (x::r)=(if(Hm x).1<(Hm x).2 then [Hm x]else [])++CH r:=by
   unfold CH;rw[AL,Ci]
   by_cases h:(Hm x).1<(Hm x).2<;>simp[h]
  have ec:canon (x::r)=if(Hm x).1<(Hm x).2 then VG (Hm x) (canon r)else canon r:=rfl
  rw[e,F9,ih,ec]
  by_cases h:(Hm x).1<(Hm x).2
  ·rw[Ao h,Ao h,N6 _ p (Cb r) h];simp
  ·rw[Ah h,Ah h];simp
theorem Nm:∀{l:Bh} {lo:Int},EG lo l↔(∀y∈l,lo≤y.1∧y.1<y.2∧y.2≤1000000)∧l.Pairwise fun a b=>a.2<b.1
 | [],lo=>by simp[EG]
 |y::r,lo=>by
  rw[BC];constructor
  ·intro h;have hl:=h.low;refine⟨hl,fun z hz=>?_,((Nm (l:=r)).1 h.2.2.2).2⟩
   have:=h.2.2.2.low z hz;omega
  ·intro⟨h1,h2,h3⟩;have hy:=h1 y (Aa ..);refine⟨hy.1,hy.2.1,hy.2.2,Nm.2 ⟨fun z hz=>?_,h3⟩⟩
   have:=h1 z (Ag _ hz)
   have:=h2 z hz
   omega
def KH(r:Bh)(x:Int×Int):Bh:=match r with
 | []=>[x]
 |y::t=>if x.1≤y.2 then(y.1,max y.2 x.2)::t else x::y::t
def By(s:Bh):Bh:=s.foldl KH []
theorem Gl(s:Bh)(i:Nat)(h:i<s.length):By (s.take (i+1))=KH (By (s.take i)) s[i]:=by
 unfold By;rw[Bq,At h,Fr];rfl
theorem dz(r:Bh)(x:Int×Int):(KH r x).length≤r.length+1∧r.length≤(KH r x).length∧0<(KH r x).length:=by
 unfold KH;split
 ·simp
 ·split<;>simp
theorem Th(s:Bh):∀i,i≤s.length→(By (s.take i)).length≤i∧(0<i→0<(By (s.take i)).length):=by
 intro i
 induction i with
 |zero=>intro _;simp[By]
 |succ i ih =>
  intro h;rw[Gl s i (by omega)]
  have:=dz (By (s.take i)) s[i]
  have:=ih (by omega)
  omega
structure mD(r done:Bh):Prop where
 ok:∀y∈r,0≤y.1∧y.1<y.2∧y.2≤1000000
 pw:r.Pairwise fun a b=>b.2<a.1
 has:∀p,r.any (BG p)=done.any (BG p)
 first:∀y t,r=y::t→∃x∈done,y.1=x.1
theorem dy{r done:Bh}{x:Int×Int}(h:mD r done)(hx:0≤x.1∧x.1<x.2∧x.2≤1000000)(hs:∀y∈done,y.1≤x.1):mD (KH r x) (done++[x]):=by
 unfold KH;split
 ·refine⟨fun y hy=>?_,by simp,fun p=>?_,fun y t e=>?_⟩
  ·rw[Am.1 hy];exact hx
  ·rw[F9,←h.has];rfl
  ·cases e;exact⟨x,by simp,rfl⟩
 ·rename_i y t;have hy:=h.ok y (Aa ..);obtain⟨yG,pw2⟩:=BC.1 h.pw;obtain⟨z,hz,e⟩:=h.first y t rfl
  have pm:=hs z hz;split
  ·rename_i Ho;refine⟨fun u hu=>?_,BC.2 ⟨yG,pw2⟩,fun p=>?_,fun u t' e'=>?_⟩
   ·rcases Au.1 hu with rfl | hu
    ·exact⟨hy.1,by dsimp only;omega,by dsimp only;omega⟩
    ·exact h.ok u (Ag _ hu)
   ·rw[F9,←h.has,B7,B7,B7,List.any_nil,Rb]
    have:BG p (y.1,max y.2 x.2)=(BG p y||BG p x):=by
     simp only[BG];rw[BO];simp only[Af,Cm,As];omega
    rw[this];cases BG p y<;>cases BG p x<;>cases t.any (BG p)<;>rfl
   ·cases e';exact⟨z,Bm _ hz,e⟩
  ·rename_i Ho;refine⟨fun u hu=>?_,BC.2 ⟨fun u hu=>?_,h.pw⟩,fun p=>?_,fun u t' e'=>?_⟩
   ·rcases Au.1 hu with rfl | hu
    ·exact hx
    ·exact h.ok u hu
   ·rcases Au.1 hu with rfl | hu
    ·omega
    ·have:=yG u hu;omega
   ·rw[F9,←h.has,B7,B7,B7,List.any_nil,Rb];cases BG p y<;>cases BG p x<;>cases t.any (BG p)<;>rfl
   ·cases e';exact⟨x,by simp,rfl⟩
theorem Zp{s:Bh}(Gw:∀y∈s,0≤y.1∧y.1<y.2∧y.2≤1000000)(hs:s.Pairwise fun a b=>a.1≤b.1):∀i,i≤s.length→mD (By (s.take i)) (s.take i):=by
 intro i
 induction i with
 |zero=>intro _;exact⟨fun _ h=>by simp[By]at h,by simp[By],fun p=>by simp[By],fun y t e=>by simp[By]at e⟩
 |succ i ih =>
  intro h;have hi:i<s.length:=by omega
  rw[Gl s i hi];have e:s.take (i+1)=s.take i++[s[i]]:=by rw[Bq,At hi];rfl
  rw[e];refine dy (ih (by omega)) (Gw _ (AC hi)) fun y hy=>?_;obtain⟨j,hj,rfl⟩:=Ca.1 hy;rw[EC];rw[AB]at hj;exact(AS.1 hs) j i (by omega) hi (by omega)
theorem Rd{l s:Bh}(hp:s.Perm (CH l))(hs:s.Pairwise fun a b=>a.1≤b.1):(By s).reverse=canon l:=by
 have hi:=Zp (s:=s) (fun y hy=>UM (hp.mem_iff.1 hy)) hs s.length (Al _);rw[DX]at hi;have hc:Ez (By s).reverse:=by
  unfold Ez;rw[Nm];refine⟨fun y hy=>hi.ok y (List.mem_reverse.1 hy),?_⟩;rw[List.pairwise_reverse];exact hi.pw
 refine Sd hc fun p=>?_;rw[Hz hc,List.any_reverse,hi.has,←bM];rw[BO,Bb,Bb];constructor
 ·rintro⟨y,h1,h2⟩;exact⟨y,hp.mem_iff.1 h1,h2⟩
 ·rintro⟨y,h1,h2⟩;exact⟨y,hp.mem_iff.2 h1,h2⟩
-- maps from numbers to numbers,as lists in the order in which they are met
def Fg(m:List (Int×Int))(k:Int):Int:=match m.find? (fun p=>decide (p.1=k))with | some p=>p.2 | none=>0
def K9(m:List (Int×Int))(k v:Int):List (Int×Int):=if m.any (fun p=>decide (p.1=k))then m.map (fun p=>if p.1=k then(k,v)else p)else m++[(k,v)]
theorem Hi(p:Int×Int)(m:List (Int×Int))(k:Int):Fg (p::m) k=if p.1=k then p.2 else Fg m k:=by
 unfold Fg;rw[EJ];by_cases h:p.1=k<;>simp[h]
theorem Pj(m:List (Int×Int))(k v j:Int):Fg (K9 m k v) j=if j=k then v else Fg m j:=by
 unfold K9;split
 ·rename_i h
  induction m with
  |nil=>simp at h
  |cons p m ih =>
   rw[AL,Hi,Hi]
   by_cases e:p.1=k
   ·rw[Ao e];dsimp only
    by_cases ej:j=k
    ·subst ej;simp
    ·rw[Ah (fun c=>ej c.symm),Ah ej,Ah (fun c=>ej (c.symm.trans e))]
     by_cases hm:(m.any fun p=>decide (p.1=k))=true
     ·rw[ih hm,Ah ej]
     ·have:∀q∈m,q.1≠k:=fun q hq e=>hm (Bb.2 ⟨q,hq,by simp[e]⟩)
      have:m.map (fun p=>if p.1=k then(k,v)else p)=m:=by
       conv=>rhs;rw[←G6 m]
       exact A5 fun q hq=>by simp[this q hq]
      rw[this]
   ·rw[Ah e];have hm:(m.any fun p=>decide (p.1=k))=true:=by simpa[e]using h
    rw[ih hm]
    by_cases ej:j=k
    ·subst ej;simp[e]
    ·simp[ej]
 ·rename_i h;have hn:∀q∈m,q.1≠k:=fun q hq e=>h (Bb.2 ⟨q,hq,by simp[e]⟩)
  induction m with
  |nil =>
   rw[Fx,Hi]
   by_cases ej:j=k
   ·simp[ej]
   ·have:¬k=j:=fun c=>ej c.symm
    simp[ej,this]
  |cons p m ih =>
   rw[ID,Hi,Hi];have e:=hn p (Aa ..);have ih:=ih (by simpa[e]using h) fun q hq=>hn q (Ag _ hq)
   by_cases ep:p.1=j
   ·have:¬j=k:=fun c=>e (ep.trans c)
    simp[ep,this]
   ·simp only[ep,Gk];exact ih
def E0(m:List (Int×Int)):List Int:=m.map (·.1)
theorem U7(m:List (Int×Int))(k v:Int):E0 (K9 m k v)=if k∈E0 m then E0 m else E0 m++[k]:=by
 unfold K9 E0;have e:(m.any fun p=>decide (p.1=k))=decide (k∈m.map (·.1)):=by
  rw[BO];simp only[Bb,As,Ak]
 rw[e]
 by_cases h:k∈m.map (·.1)
 ·simp only[h,decide_true,QK,BB];apply A5;intro p _;simp only[Function.comp];split
  ·rename_i e;exact e.symm
  ·rfl
 ·simp[h]
theorem L5{m:List (Int×Int)}(h:(E0 m).Nodup)(k v:Int):(E0 (K9 m k v)).Nodup:=by
 rw[U7];split
 ·exact h
 ·rename_i hn;rw[Gd];exact⟨h,by simp,fun a ha b hb e=>by subst e;rw[Am.1 hb]at ha;exact hn ha⟩
theorem H6(m:List (Int×Int))(k v j:Int):j∈E0 (K9 m k v)↔j=k∨j∈E0 m:=by
 rw[U7];split
 ·rename_i h;constructor
  ·exact .inr
  ·rintro(rfl | h')
   ·exact h
   ·exact h'
 ·simp[or_comm]
theorem iP{m:List (Int×Int)}(h:(E0 m).Nodup){p:Int×Int}(hp:p∈m):Fg m p.1=p.2:=by
 induction m with
 |nil=>cases hp
 |cons q m ih =>
  rw[Hi];unfold E0 at h ih;rw[AL,CK]at h;rcases Au.1 hp with rfl | hp
  ·simp
  ·have:¬q.1=p.1:=fun e=>h.1 (e▸Ak.2 ⟨p,hp,rfl⟩)
   rw[Ah this];exact ih h.2 hp
theorem iQ{m:List (Int×Int)}{k:Int}(h:k∉E0 m):Fg m k=0:=by
 unfold Fg
 have:m.find? (fun p=>decide (p.1=k))=none:=by
  rw[DP];intro p hp;simp only[As];exact fun e=>h (Ak.2 ⟨p,hp,e⟩)
 rw[this]
-- counting
def cF(S:Bh)(k:Int):Nat:=S.countP fun x=>decide (x.1=k)
def cT(S:Bh)(k:Int):Nat:=S.countP fun x=>decide (x.2=k)
def lF(S:Bh)(k:Int):Nat:=S.countP fun x=>decide (x.1≤k)
def lT(S:Bh)(k:Int):Nat:=S.countP fun x=>decide (x.2≤k)
theorem IX{α:Type}{p q r:α→Bool}:∀{l:List α},(∀x∈l,(p x=true↔q x=true∨r x=true)∧¬(q x=true∧r x=true))→l.countP p=l.countP q+l.countP r
 | [],_=>rfl
 |x::l,h=>by
  have ih:=IX fun y hy=>h y (Ag _ hy);obtain⟨h1,h2⟩:=h x (Aa ..);rw[IE,IE,IE,ih];cases hp:p x<;>cases hq:q x<;>cases hr:r x<;>simp_all<;>omega
structure Il(m:List (Int×Int))(S:Bh):Prop where
 nd:(E0 m).Nodup
 val:∀k,Fg m k=(cF S k:Int)-cT S k
 keys:0∈E0 m∧1000000∈E0 m∧∀x∈S,x.1∈E0 m∧x.2∈E0 m
 rng:∀k∈E0 m,0≤k∧k≤1000000
def pU:List (Int×Int):=[(0,0),(1000000,0)]
theorem jF:Il pU []:=⟨by decide,fun k=>by
  unfold pU;rw[Hi,Hi];simp[Fg,cF,cT],⟨by decide,by decide,fun _ h=>by cases h⟩,fun k hk=>by
  unfold pU E0 at hk;simp at hk;omega⟩
def Yx(m:List (Int×Int))(x:Int×Int):List (Int×Int):=K9 (K9 m x.1 (Fg m x.1+1)) x.2 (Fg (K9 m x.1 (Fg m x.1+1)) x.2-1)
theorem dx{m:List (Int×Int)}{S:Bh}{x:Int×Int}(h:Il m S)(hx:0≤x.1∧x.1<x.2∧x.2≤1000000):Il (Yx m x) (S++[x]):=by
 unfold Yx;refine⟨L5 (L5 h.nd _ _) _ _,fun k=>?_,⟨?_,?_,fun y hy=>?_⟩,fun k hk=>?_⟩
 ·rw[Pj,Pj,Pj,h.val,h.val,h.val];unfold cF cT;simp only[List.countP_append,List.countP_singleton,As]
  by_cases e1:k=x.2
  ·subst e1
   have:¬x.2=x.1:=by omega
   have:¬x.1=x.2:=by omega
   simp[*];omega
  ·by_cases e2:k=x.1
   ·subst e2
    have:¬x.2=x.1:=by omega
    have:¬x.1=x.2:=by omega
    simp[*];omega
   ·have a1:¬x.1=k:=fun c=>e2 c.symm;have a2:¬x.2=k:=fun c=>e1 c.symm;simp[e1,e2,a1,a2]
 ·rw[H6,H6];exact .inr (.inr h.keys.1)
 ·rw[H6,H6];exact .inr (.inr h.keys.2.1)
 ·simp only[H6];rcases AU.1 hy with hy | hy
  ·have:=h.keys.2.2 y hy
   exact⟨.inr (.inr this.1),.inr (.inr this.2)⟩
  ·rw[Am.1 hy];exact⟨.inr (.inl rfl),.inl rfl⟩
 ·rw[H6,H6]at hk;rcases hk with rfl | rfl | hk
  ·omega
  ·omega
  ·exact h.rng k hk
def Iz(m:List (Int×Int))(B:List Int):Int:=(B.map (Fg m)).foldl (·+·) 0
theorem Qi(m:List (Int×Int))(B:List Int)(i:Nat)(h:i<B.length):Iz m (B.take (i+1))=Iz m (B.take i)+Fg m B[i]:=by
 unfold Iz;rw[Bq,At h,Ay,Fr];simp only[Option.toList_some,AL,E1,Eb,List.foldl_nil]
structure jn(B:List Int)(m:List (Int×Int)):Prop where
 perm:B.Perm (E0 m)
 srt:B.Pairwise fun a b=>a<b
theorem bi{m:List (Int×Int)}{S:Bh}{B:List Int}(h:Il m S)(hB:jn B m):∀i (hi:i<B.length),Iz m (B.take (i+1))=(lF S B[i]:Int)-lT S B[i]:=by
 have mem:∀k,k∈E0 m→∃j,∃hj:j<B.length,B[j]=k:=fun k hk=>by
  have:=hB.perm.mem_iff.2 hk
  obtain⟨j,hj,e⟩:=Ca.1 this;exact⟨j,hj,e⟩
 have lt:∀i j (hi:i<B.length) (hj:j<B.length),i<j→B[i]<B[j]:=fun i j hi hj Pn=>(AS.1 hB.srt) i j hi hj Pn;intro i
 induction i with
 |zero =>
  intro hi;rw[Qi m B 0 hi,h.val]
  have:Iz m (B.take 0)=0:=by simp[Iz]
  rw[this];have low:∀k∈E0 m,B[0]≤k:=fun k hk=>by
   obtain⟨j,hj,rfl⟩:=mem k hk;cases j with
   |zero=>exact BM _
   |succ j=>have:=lt 0 (j+1) hi hj (by omega);omega
  have e1:lF S B[0]=cF S B[0]:=by
   unfold lF cF;apply Qr;intro x hx
   have:=low _ (h.keys.2.2 x hx).1
   simp only[As];omega
  have e2:lT S B[0]=cT S B[0]:=by
   unfold lT cT;apply Qr;intro x hx
   have:=low _ (h.keys.2.2 x hx).2
   simp only[As];omega
  rw[e1,e2];omega
 |succ i ih =>
  intro hi;rw[Qi m B (i+1) hi,ih (by omega),h.val];have nb:∀k∈E0 m,k≤B[i+1]↔k≤B[i]∨k=B[i+1]:=fun k hk=>by
   obtain⟨j,hj,rfl⟩:=mem k hk;have l0:=lt i (i+1) (by omega) hi (by omega);rcases Nat.lt_trichotomy j (i+1)with c | c | c
   ·have:B[j]≤B[i]:=by
     rcases ED j i with d | d
     ·have:=lt j i hj (by omega) d;omega
     ·have:j=i:=by omega
      subst this;exact BM _
    omega
   ·subst c;omega
   ·have:=lt (i+1) j hi hj c;omega
  have l0:=lt i (i+1) (by omega) hi (by omega);have e1:lF S B[i+1]=lF S B[i]+cF S B[i+1]:=by
   unfold lF cF;apply IX;intro x hx
   have:=nb _ (h.keys.2.2 x hx).1
   simp only[As];omega
  have e2:lT S B[i+1]=lT S B[i]+cT S B[i+1]:=by
   unfold lT cT;apply IX;intro x hx
   have:=nb _ (h.keys.2.2 x hx).2
   simp only[As];omega
  rw[e1,e2];omega
theorem Xf{S:Bh}(hS:∀x∈S,x.1<x.2)(p:Int):(lF S p:Int)-lT S p=(S.countP (BG p):Nat):=by
 have:lF S p=S.countP (BG p)+lT S p:=by
  unfold lF lT;apply IX;intro x hx
  have:=hS x hx
  simp only[BG,Af,As];omega
 omega
theorem Ok:∀{l:Bh} {lo:Int} (p:Int),EG lo l→l.countP (BG p)=if l.any (BG p)then 1 else 0
 | [],_,_,_=>rfl
 |y::r,lo,p,⟨h1,h2,h3,h4⟩=>by
  rw[IE,Ok p h4,B7];cases hy:BG p y with
  |false=>rw[LG];simp
  |true =>
   have:=DE.1 hy
   have:r.any (BG p)=false:=by
    rw[AM];intro hr;have:=Mn h4 hr;omega
   simp[this]
theorem LL:∀(l:List Bh) (p:Int),((l.map canon).flatten).countP (BG p)=dH l p
 | [],_=>rfl
 |s::l,p=>by
  rw[AL,Bv,List.countP_append,LL l p,Ok p (Cb s),Kn];unfold dH;rw[IE];omega
def Eo(keep:Nat→Bool)(m:List (Int×Int))(B:List Int):Nat→Bh
 |0=>[]
 |i+1=>Eo keep m B i++(match B[i]?,B[i+1]? with
  |some a,some b=>if keep (Iz m (B.take (i+1))).toNat then [(a,b)]else []
  |_,_=>[])
theorem PK{keep:Nat→Bool}{m:List (Int×Int)}{B:List Int}{x:Int×Int}:∀{n:Nat},x∈Eo keep m B n↔∃i,i<n∧∃(h1:i<B.length) (h2:i+1<B.length),keep (Iz m (B.take (i+1))).toNat=true∧x=(B[i],B[i+1])
 |0=>by simp[Eo]
 |n+1=>by
  unfold Eo;rw[AU,PK (n:=n)];constructor
  ·rintro(⟨i,h1,h2⟩ | h)
   ·exact⟨i,by omega,h2⟩
   ·split at h
    ·rename_i a b ha hb;obtain⟨h1,e1⟩:=Ap.1 ha;obtain⟨h2,e2⟩:=Ap.1 hb;split at h
     ·rename_i hk;refine⟨n,by omega,h1,h2,hk,?_⟩;rw[Am.1 h,e1,e2]
     ·cases h
    ·cases h
  ·rintro⟨i,h1,h2,h3,h4,rfl⟩
   by_cases e:i=n
   ·subst e;refine .inr ?_;rw[At h2,At h3];simp[h4]
   ·exact .inl ⟨i,by omega,h2,h3,h4,rfl⟩
theorem Ob{B:List Int}(hs:B.Pairwise fun a b=>a<b){p:Int}:∀(n:Nat) (h0:0<B.length) (hn:n<B.length),B[0]≤p→p<B[n]→∃i,∃(h1:i<B.length) (h2:i+1<B.length),B[i]≤p∧p<B[i+1]
 |0,h0,hn,h1,h2=>by omega
 |n+1,h0,hn,h1,h2=>by
  by_cases e:B[n]≤p
  ·exact⟨n,by omega,hn,e,h2⟩
  ·exact Ob hs n h0 (by omega) h1 (by omega)
theorem gw{keep:Nat→Bool}{l:List Bh}{m:List (Int×Int)}{B:List Int}(h:Il m (l.map canon).flatten)(hB:jn B m)(p:Int):has (Eo keep m B (B.length-1)) p=(Lz p&&keep (dH l p)):=by
 have hS:∀x∈(l.map canon).flatten,x.1<x.2:=fun x hx=>by
  obtain⟨s,hs,hx⟩:=El.1 hx;obtain⟨t,_,rfl⟩:=Ak.1 hs;exact((Cb t).low x hx).2.1
 have mem:∀k,k∈E0 m→∃j,∃hj:j<B.length,B[j]=k:=fun k hk=>by
  obtain⟨j,hj,e⟩:=Ca.1 (hB.perm.mem_iff.2 hk);exact⟨j,hj,e⟩
 have lt:∀i j (hi:i<B.length) (hj:j<B.length),i<j→B[i]<B[j]:=fun i j hi hj Pn=>(AS.1 hB.srt) i j hi hj Pn;have rng:∀i (hi:i<B.length),0≤B[i]∧B[i]≤1000000:=fun i hi=>h.rng _ (hB.perm.mem_iff.1 (AC hi))
 -- VO two bounds
 have VO:∀i (h1:i<B.length) (h2:i+1<B.length),B[i]≤p→p<B[i+1]→(Iz m (B.take (i+1))).toNat=dH l p:=fun i h1 h2 a b=>by
  have same:∀k∈E0 m,k≤B[i]↔k≤p:=fun k hk=>by
   obtain⟨j,hj,rfl⟩:=mem k hk;constructor
   ·intro c;omega
   ·intro c;rcases ED i j with d | d
    ·rcases ED (i+1) j with f | f
     ·have:=lt (i+1) j h2 hj f;omega
     ·have:j=i+1:=by omega
      subst this;omega
    ·rcases ED j i with f | f
     ·have:=lt j i hj h1 f;omega
     ·have:j=i:=by omega
      subst this;exact BM _
  have e1:lF (l.map canon).flatten B[i]=lF (l.map canon).flatten p:=by
   unfold lF;apply Qr;intro x hx
   have:=same _ (h.keys.2.2 x hx).1
   simp only[As];exact this
  have e2:lT (l.map canon).flatten B[i]=lT (l.map canon).flatten p:=by
   unfold lT;apply Qr;intro x hx
   have:=same _ (h.keys.2.2 x hx).2
   simp only[As];exact this
  rw[bi h hB i h1,e1,e2,Xf hS,LL];simp
 rw[BO];constructor
 ·intro hh;have je:=LX hh;unfold has at hh;simp only[je,decide_true,Ey]at hh;obtain⟨x,hx,hp⟩:=Bb.1 hh;obtain⟨i,_,h1,h2,hk,rfl⟩:=PK.1 hx
  have:=DE.1 hp
  dsimp only at this;rw[←VO i h1 h2 this.1 this.2];simp[Lz,je,hk]
 ·intro hh;simp only[Af,Lz,As]at hh;obtain⟨⟨p0,p1⟩,hk⟩:=hh;obtain⟨j0,hj0,e0⟩:=mem 0 h.keys.1;obtain⟨j1,hj1,e1⟩:=mem 1000000 h.keys.2.1;have uN:B[0]'(by omega)≤p:=by
   have:B[0]'(by omega)≤0:=by
    cases j0 with
    |zero=>omega
    |succ j=>have:=lt 0 (j+1) (by omega) hj0 (by omega);omega
   omega
  obtain⟨i,h1,h2,a,b⟩:=Ob hB.srt j1 (by omega) hj1 uN (by omega);unfold has;simp only[p0,p1,decide_true,Ey];exact Bb.2 ⟨(B[i],B[i+1]),PK.2 ⟨i,by omega,h1,h2,by rw[VO i h1 h2 a b];exact hk,rfl⟩,DE.2 ⟨a,b⟩⟩
theorem iD{l:List Bh}{m:List (Int×Int)}{B:List Int}(h:Il m (l.map canon).flatten)(hB:jn B m)(i:Nat)(hi:i<B.length):0≤Iz m (B.take (i+1))∧Iz m (B.take (i+1))≤l.length:=by
 have hS:∀x∈(l.map canon).flatten,x.1<x.2:=fun x hx=>by
  obtain⟨s,hs,hx⟩:=El.1 hx;obtain⟨t,_,rfl⟩:=Ak.1 hs;exact((Cb t).low x hx).2.1
 rw[bi h hB i hi,Xf hS,LL]
 have:dH l B[i]≤l.length:=List.countP_le_length
 omega
def Wy(m:List Tm)(t:Tm):List Tm:=if m.any (fun u=>decide (u.path=t.path))then m.map (fun u=>if u.path=t.path then t else u)else m++[t]
def QZ(m:List Tm)(t:Tm):List Tm:=Wy m (NO (Dc m t.path) t)
def CO(l:List Tm):List Tm:=l.foldl QZ []
theorem bX(t:Tm)(p:ByteArray):∀m:List Tm,Dc (Wy m t) p=if t.path=p then some t else Dc m p:=by
 intro m;unfold Wy
 by_cases h:(m.any fun u=>decide (u.path=t.path))=true
 ·rw[Ao h]
  induction m with
  |nil=>simp at h
  |cons u m ih =>
   rw[AL,CA,CA]
   by_cases e:u.path=t.path
   ·rw[Ao e]
    by_cases ep:t.path=p
    ·simp[ep]
    ·rw[Ah ep,Ah ep,Ah (fun c=>ep (e.symm.trans c))]
     by_cases hm:(m.any fun u=>decide (u.path=t.path))=true
     ·rw[ih hm,Ah ep]
     ·have:∀q∈m,q.path≠t.path:=fun q hq c=>hm (Bb.2 ⟨q,hq,by simp[c]⟩)
      have:m.map (fun u=>if u.path=t.path then t else u)=m:=by
       conv=>rhs;rw[←G6 m]
       exact A5 fun q hq=>by simp[this q hq]
      rw[this]
   ·rw[Ah e];have hm:(m.any fun u=>decide (u.path=t.path))=true:=by simpa[e]using h
    rw[ih hm]
    by_cases ep:t.path=p
    ·subst ep;simp[e]
    ·simp[ep]
 ·rw[Ah h];have hn:∀q∈m,q.path≠t.path:=fun q hq e=>h (Bb.2 ⟨q,hq,by simp[e]⟩)
  clear h
  induction m with
  |nil=>rw[Fx,CA]
  |cons u m ih =>
   rw[ID,CA,CA,ih fun q hq=>hn q (Ag _ hq)]
   have:=hn u (Aa ..)
   by_cases e:u.path=p
   ·have:¬t.path=p:=fun c=>this (e.trans c.symm)
    simp[e,this]
   ·simp[e]
def Ep(m:List Tm):List ByteArray:=m.map (·.path)
open Classical in
theorem ZA(m:List Tm)(t:Tm):Ep (Wy m t)=if t.path∈Ep m then Ep m else Ep m++[t.path]:=by
 unfold Wy Ep;have e:(m.any fun u=>decide (u.path=t.path))=true↔t.path∈m.map (·.path):=by
  simp only[Bb,As,Ak]
 by_cases h:t.path∈m.map (·.path)
 ·rw[Ao (e.2 h),Ao h,BB];apply A5;intro p _;simp only[Function.comp];split
  ·rename_i e;exact e.symm
  ·rfl
 ·rw[Ah (fun c=>h (e.1 c)),Ah h,Ay];rfl
theorem cO{m:List Tm}(h:(Ep m).Nodup)(t:Tm):(Ep (Wy m t)).Nodup:=by
 rw[ZA];split
 ·exact h
 ·rename_i hn;rw[Gd];exact⟨h,by simp,fun a ha b hb e=>by subst e;rw[Am.1 hb]at ha;exact hn ha⟩
theorem QR(l:List Tm)(i:Nat)(h:i<l.length):CO (l.take (i+1))=QZ (CO (l.take i)) l[i]:=by
 unfold CO;rw[Bq,At h,Fr];rfl
theorem Oz:∀(l m:List Tm),(Ep m).Nodup→(Ep (l.foldl QZ m)).Nodup
 | [],_,h=>h
 |_::l,_,h=>Oz l _ (cO h _)
theorem HE(l:List Tm):(Ep (CO l)).Nodup:=Oz l [] .nil
theorem Xu(m:List Tm)(t:Tm)(p:ByteArray):Dc (QZ m t) p=JU p (Dc m p) t:=by
 unfold QZ JU;have hp:(NO (Dc m t.path) t).path=t.path:=PT _ _ fun u h=>GY h;rw[bX,hp]
 by_cases e:t.path=p
 ·rw[Ao e,Ao e,e]
 ·rw[Ah e,Ah e]
theorem Ow(p:ByteArray):∀(l m:List Tm),Dc (l.foldl QZ m) p=l.foldl (JU p) (Dc m p)
 | [],_=>rfl
 |t::l,m=>by rw[Eb,Eb,Ow p l,Xu]
theorem Y5(l:List Tm)(p:ByteArray):Dc (CO l) p=Dc (EX l) p:=by
 unfold CO;rw[Ow,I1];rfl
theorem LQ{m:List Tm}(h:(Ep m).Nodup){t:Tm}:t∈m↔Dc m t.path=some t:=by
 constructor
 ·induction m with
  |nil=>intro h;cases h
  |cons u m ih =>
   intro ht;unfold Ep at h ih;rw[AL,CK]at h;rw[CA];rcases Au.1 ht with rfl | ht
   ·rw[Ao rfl]
   ·have:¬u.path=t.path:=fun e=>h.1 (e▸Ak.2 ⟨t,ht,rfl⟩)
    rw[Ah this];exact ih h.2 ht
 ·exact E7
theorem HI{m:List Tm}(h:(Ep m).Nodup):m.Nodup:=by
 unfold Ep at h
 induction m with
 |nil=>exact .nil
 |cons u m ih =>
  rw[AL,CK]at h;exact CK.2 ⟨fun hu=>h.1 (Ak.2 ⟨u,hu,rfl⟩),ih h.2⟩
theorem HT{l:List Tm}{lo:Option ByteArray}(h:B6 lo l):(Ep l).Nodup:=by
 unfold Ep
 induction l generalizing lo with
 |nil=>exact .nil
 |cons t l ih =>
  rw[AL,CK];refine⟨fun hm=>?_,ih h.2.2⟩;obtain⟨u,hu,e⟩:=Ak.1 hm
  have:=h.2.2.low u hu
  rw[e,CT]at this;cases this
theorem I7(l:List Tm)(t:Tm):t∈CO l↔t∈EX l:=by
 rw[LQ (HE l),Y5,←LQ (HT (Ek l))]
theorem OQ(l:List Tm):∀t∈CO l,Ez t.set:=fun t ht=>(Ek l).canon t ((I7 l t).1 ht)
theorem dA(m:List Tm)(t:Tm):(QZ m t).length≤m.length+1:=by
 unfold QZ Wy;split<;>simp
theorem NK(l:List Tm):∀i,i≤l.length→(CO (l.take i)).length≤i:=by
 intro i
 induction i with
 |zero=>intro _;simp[CO]
 |succ i ih =>
  intro h;rw[QR l i (by omega)]
  have:=dA (CO (l.take i)) l[i]
  have:=ih (by omega)
  omega
theorem ZQ{s:List Tm}(hs:s.Pairwise fun x y=>Er x.path y.path=true)(hc:∀t∈s,Ez t.set):B6 none s:=by
 have:∀(s:List Tm) (lo:Option ByteArray),s.Pairwise (fun x y=>Er x.path y.path=true)→(∀t∈s,Ez t.set)→(∀p,lo=some p→∀t∈s,Er p t.path=true)→B6 lo s:=by
  intro s
  induction s with
  |nil=>intro _ _ _ _;trivial
  |cons t s ih =>
   intro lo hs hc hl;obtain⟨h1,h2⟩:=BC.1 hs;exact⟨fun p e=>hl p e t (Aa ..),hc t (Aa ..),ih _ h2 (fun u hu=>hc u (Ag _ hu)) fun p e u hu=>by cases e;exact h1 u hu⟩
 exact this s none hs hc fun _ e=>by cases e
theorem Px{l s:List Tm}(q:Tm→Bool)(hp:s.Perm ((CO l).filter q))(hs:s.Pairwise fun x y=>Er y.path x.path=false):s=(EX l).filter q:=by
 have hm:∀t,t∈s↔t∈(EX l).filter q:=fun t=>by
  rw[hp.mem_iff,BI,BI,I7]
 have Rh:(Ep s).Nodup:=by
  have h1:(Ep ((CO l).filter q)).Nodup:=by
   unfold Ep;exact List.Nodup.sublist (List.Sublist.map _ List.filter_sublist) (HE l)
  unfold Ep at h1⊢;exact(hp.map (·.path)).nodup_iff.2 h1
 have Jl:s.Pairwise fun x y=>Er x.path y.path=true:=by
  rw[AS]at hs⊢;intro i j hi hj Pn;cases hb:Er s[i].path s[j].path with
  |true=>rfl
  |false =>
   have e:=Ht hb (hs i j hi hj Pn);unfold Ep at Rh
   have:=(AS.1 Rh) i j (by simpa using hi) (by simpa using hj) Pn
   simp at this;exact absurd e this
 have yr:B6 none s:=ZQ Jl fun t ht=>(Ek l).canon t (BI.1 ((hm t).1 ht)).1;have jh:B6 none ((EX l).filter q):=B6.filter q (Ek l);refine Mj yr jh fun p=>?_;cases h1:Dc s p with
 |some t =>
  have:=(hm t).1 (E7 h1)
  rw[FE jh,GY h1]at this;exact this.symm
 |none =>
  cases h2:Dc ((EX l).filter q) p with
  |none=>rfl
  |some t =>
   have:=(hm t).2 (E7 h2)
   rw[FE yr,GY h2,h1]at this;cases this
theorem YU(t:Tm):GN t t=Ln t:=by unfold GN Ln;rw[Zi,Bool.and_self]
theorem aW(o:Option Tm)(t:Tm):NO o t=GN (o.getD t) t:=by cases o with | none=>exact(YU t).symm | some u=>rfl
theorem bz{t:Tm}(h:Ez t.set):(t.absent&&(Eh t.set).isEmpty)=Gt t:=by
 unfold Gt
 congr 1
 rw[BO,GL,As];have ha:Ez [(0,1000000)]:=⟨BM _,by dsimp only;omega,BM _,trivial⟩;constructor
 ·intro e;refine Hu h ha fun p=>?_
  have:=FF t.set p
  rw[e]at this;have h0:has [] p=false:=by simp[has]
  rw[h0]at this;have h1:has [(0,1000000)] p=Lz p:=by simp[has,Lz,BG]
  rw[h1];cases hp:Lz p with
  |true=>rw[hp]at this;simpa using this.symm
  |false =>
   rw[AM];intro hh
   have:=LX hh
   simp[Lz,this]at hp
 ·intro e;rw[PO (Ha _)];intro p;rw[FF,e];have h1:has [(0,1000000)] p=Lz p:=by simp[has,Lz,BG]
  rw[h1];simp
theorem gJ{t:Tm}(h:Ez t.set):(!t.absent&&(canon t.set).isEmpty)=HH t:=by unfold HH;rw[Je h]
end Go.Eng
namespace Go.Eng
open Go.Lib
theorem Qf(c:UInt8):∀(s:List UInt8) (k:Nat),s.count c≤k→splitK [c] 0 k s=Fo c s
 | [],k,_=>by
  cases k with
  |zero=>rfl
  |succ k=>rfl
 |b::r,k,h=>by
  rw[Fo]
  by_cases e:b=c
  ·subst e;rw[List.count_cons_self]at h;obtain⟨k',rfl⟩:∃k',k=k'+1:=⟨k-1,by omega⟩;rw[Ao rfl,splitK,index_one,indexByte];simp only[beq_self_eq_true,QK];rw[Ah (by decide)];show []::splitK [b] 0 k' r=_;rw[Qf b r k' (by omega)]
  ·have Dt:(b == c)=false:=by simpa using e
   rw[List.count_cons_of_ne (by simpa using e)]at h;have ih:=Qf c r k h;rw[Ah e];cases k with
   |zero =>
    rw[←ih];rfl
   |succ k =>
    rw[←ih,splitK,splitK,index_one,index_one,indexByte,Dt]
    by_cases h0:indexByte r c=-1
    ·rw[h0];rfl
    ·have h1:(indexByte r c == -1)=false:=by simpa using h0
     have h2:=indexByte_ge r c;have h3:(indexByte r c+1 == -1)=false:=by rw[beq_eq_false_iff_ne];omega
     simp only[Dd,Gk,h1,h3];obtain⟨i,hi⟩:∃i:Nat,indexByte r c=i:=⟨(indexByte r c).toNat,by omega⟩;rw[hi];show(b::r).take (((i:Int)+1).toNat+0)::_=(b::r.take ((i:Int).toNat+0))::_;rw[show((i:Int)+1).toNat=i+1 by omega,show((i:Nat):Int).toNat=i by omega]
     rfl
theorem Xe(c:UInt8):∀(n:Nat) (s:List UInt8),s.length≤n→count s [c]=s.count c
 |n,s,hn=>by
  rcases Int.lt_or_le (indexByte s c) 0 with h | h
  ·have h2:=indexByte_ge s c;have h3:indexByte s c=-1:=by omega
   rw[count_miss (by rw[index_one];exact h3)]
   symm
   rw[List.count_eq_zero];intro hm;obtain⟨k,hk,e⟩:=FC hm;exact indexByte_none h3 k (by rw[At hk,e])
  ·obtain⟨i,hi⟩:∃i:Nat,indexByte s c=i:=⟨(indexByte s c).toNat,by omega⟩;obtain⟨h1,h2⟩:=indexByte_some hi;obtain⟨hl,hg⟩:=Ap.1 h1;cases n with
   |zero=>omega
   |succ n =>
    have hc:=count_hit (s:=s) (sub:=[c]) (i:=i) (by simp) (by rw[index_one];exact hi);rw[hc];have ih:=Xe c n (s.drop (i+1)) (by rw[Do];omega);have rc:s=s.take i++c::s.drop (i+1):=by
     rw[←hg,←Bk hl,Li]
    have h0:(s.take i).count c=0:=by
     rw[List.count_eq_zero];intro hm;obtain⟨k,hk,e⟩:=FC hm;rw[AB]at hk;rw[EC]at e;exact h2 k (by omega) (by rw[At (by omega),e])
    conv=>rhs;rw[rc]
    rw[List.count_append,h0,List.count_cons_self];show 1+count (s.drop (i+1)) [c]=_;rw[ih];omega
theorem dw(s:ByteArray)(c:UInt8):((splitB ⟨#[c]⟩ 0 (countB s ⟨#[c]⟩) s).map (·.data.toList))=Fo c s.data.toList:=by
 rw[splitB_data];refine Qf c _ _ ?_;show _≤count s.data.toList [c];rw[Xe c _ _ (Al _)];exact Al _
end Go.Eng
namespace Go.Eng
theorem PP{α:Type}:∀{l m:List α},l.Nodup→(∀x∈l,x∈m)→l.length≤m.length
 | [],_,_,_=>AJ _
 |a::l,m,hn,hs=>by
  obtain⟨h1,h2⟩:=CK.1 hn;obtain⟨s,t,rfl⟩:=List.append_of_mem (hs a (Aa ..))
  have:l.length≤(s++t).length:=PP h2 fun x hx=>by
   rcases AU.1 (hs x (Ag _ hx))with h | h
   ·exact Bm _ h
   ·rcases Au.1 h with rfl | h
    ·exact absurd hx h1
    ·exact Bd _ h
  simp only[Ad,Av]at this⊢;omega
theorem Lp(p:ByteArray):∀(l:List Tm) (o:Option Tm),(∀u∈l,u.path≠p)→l.foldl (JU p) o=o
 | [],_,_=>rfl
 |t::l,o,h=>by
  rw[Eb,show JU p o t=o by unfold JU;rw[Ah (h t (Aa ..))]];exact Lp p l o fun u hu=>h u (Ag _ hu)
theorem Zq{l:List Tm}{t:Tm}(h:t∈EX l):∃u∈l,u.path=t.path:=by
 apply A4;intro hn
 have:∀u∈l,u.path≠t.path:=fun u hu e=>hn ⟨u,hu,e⟩
 have h1:=(FE (Ek l)).1 h;rw[I1,Lp _ _ _ this]at h1;cases h1
def Ut(U:List ByteArray)(t:List Tm):Prop:=B6 none t∧∀u∈t,u.path∈U
theorem Ut.len{U:List ByteArray}{t:List Tm}(h:Ut U t):t.length≤U.length:=by
 have:=PP (HT h.1) (m:=U) fun p hp=>by
  obtain⟨u,hu,rfl⟩:=Ak.1 hp;exact h.2 u hu
 unfold Ep at this
 rwa [A6]at this
theorem YV{l c:List Tm}(h:CG l=some c){t:Tm}(ht:t∈c):t∈EX l:=by
 unfold CG at h;split at h
 ·cases h
 ·cases h;exact(BI.1 ht).1
theorem Pw{U:List ByteArray}{l c:List Tm}(h:CG l=some c)(hu:∀u∈l,u.path∈U):Ut U c :=
 ⟨EM h,fun t ht=>by
  obtain⟨u,h1,h2⟩:=Zq (YV h ht);rw[←h2];exact hu u h1⟩
theorem Ut.nil(U:List ByteArray):Ut U []:=⟨trivial,fun u hu=>by cases hu⟩
theorem Tr{U:List ByteArray}{l:List Tm}(hu:∀u∈l,u.path∈U):Ut U (PQ l):=by
 unfold PQ;cases h:CG l with
 |none=>exact .nil U
 |some c=>exact Pw h hu
theorem QX{U:List ByteArray}{a b:List Tm}{p:ByteArray}(ha:Ut U a)(hb:Ut U b):Ut U (Bn a b p).1:=by
 have sp:∀{l r:List Tm} {t:Tm},Ut U l→Fp l p=some (t,r)→t.path∈U∧∀u∈r,u.path∈U:=by
  intro l r t hl h;unfold Fp at h;cases e:CG l with
  |none=>rw[e]at h;cases h
  |some c =>
   rw[e]at h;have h:(match Dc c p with | none=>none | some t=>some (t,FL c p))=some (t,r):=h;have hc:=Pw e hl.2;cases e2:Dc c p with
   |none=>rw[e2]at h;cases h
   |some u =>
    rw[e2]at h;cases h;exact⟨hc.2 _ (E7 e2),fun u hu=>hc.2 u (BI.1 hu).1⟩
 unfold Bn;split
 ·rename_i t r u m e1 e2;obtain⟨a1,a2⟩:=sp ha e1;obtain⟨b1,b2⟩:=sp hb e2;split
  ·rename_i o e3;refine Pw e3 fun v hv=>?_;rcases AU.1 hv with hv | hv
   ·rcases AU.1 hv with hv | hv
    ·exact a2 v hv
    ·exact b2 v hv
   ·rw[Am.1 hv];exact a1
  ·exact .nil U
 ·exact .nil U
def Kb(x:List Rl)(roots:List Rq)(l:List Nf):List ByteArray:=(x.map (·.path))++((x.map (·.reqs)).flatten.map (·.path)++(roots.map (·.path)++l.map (·.path)))
theorem cu{x:List Rl}{roots:List Rq}{l:List Nf}{d:List (List Tm)}{i:Nf}(hi:i∈l)(hd:∀t∈d,Ut (Kb x roots l) t){t:List Tm}(h:DO x roots d i=some t):Ut (Kb x roots l) t:=by
 have hp:i.path∈Kb x roots l:=by
  unfold Kb;exact Bd _ (Bd _ (Bd _ (Ak.2 ⟨i,hi,rfl⟩)))
 have nz:∀{α:Type} {l:List α} {k:Int} {a:α},Js l k=some a→a∈l:=by
  intro α l k a h;unfold Js at h;split at h
  ·cases h
  ·exact Ar h
 have n0:∀{a b:List Tm},cI a=some b→b=a:=by
  intro a b h;unfold cI at h;split at h
  ·cases h
  ·cases h;rfl
 unfold DO at h;split at h
 ·split at h
  ·cases e:Js roots i.number with
   |none=>rw[e]at h;cases h
   |some q =>
    rw[e]at h;cases h;refine Tr fun u hu=>?_;rw[Am.1 hu];unfold Kb;exact Bd _ (Bd _ (Bm _ (Ak.2 ⟨q,nz e,rfl⟩)))
  ·cases h
 split at h
 ·split at h
  ·cases e:OZ x i.path i.place with
   |none=>rw[e]at h;cases h
   |some r =>
    rw[e]at h;have h:(match Js r.reqs i.number with | none=>none | some q=>cI (Ef i.path i.place q))=some t:=h;cases e2:Js r.reqs i.number with
    |none=>rw[e2]at h;cases h
    |some q =>
     rw[e2]at h;have h:=n0 (show cI (Ef i.path i.place q)=some t from h);subst h;refine Tr fun u hu=>?_;rcases Au.1 hu with rfl | hu
     ·exact hp
     ·rw[Am.1 hu];unfold Kb;refine Bd _ (Bm _ (Ak.2 ⟨q,?_,rfl⟩));exact El.2 ⟨r.reqs,Ak.2 ⟨r,Ce e,rfl⟩,nz e2⟩
  ·cases h
 split at h
 ·split at h
  ·have h:=n0 h;subst h;refine Tr fun u hu=>?_;rw[Am.1 hu];exact hp
  ·cases h
 split at h
 ·split at h
  ·cases e:Js d i.left with
   |none=>rw[e]at h;cases h
   |some a =>
    cases e2:Js d i.right with
    |none=>rw[e,e2]at h;cases h
    |some b =>
     rw[e,e2]at h;have h:(if(Bn a b i.path).2=0 then some (Bn a b i.path).1 else none)=some t:=h;split at h
     ·cases h;exact QX (hd a (nz e)) (hd b (nz e2))
     ·cases h
  ·cases h
 ·cases h
structure Cd where
 place:Int
 rel:Rl
structure Nd where
 rq:Rq
 path:ByteArray
 place:Int
 number:Int
structure SS where
 infs:List Nf
 drv:List (List Tm)
 full:Bool
abbrev S0(c:Cd):Sl:=⟨c.rel.path,c.rel.ver⟩
abbrev AI(l:List Cd):List Sl:=l.map S0
def BN(x:List Rl)(p:ByteArray):List Cd:=(x.filter fun r=>decide (r.path=p)&&!r.yanked).map fun r=>⟨plc r.ver,r⟩
def L9(f:Rq→Nat→Nd):Nat→List Rq→List Nd
 |_,[]=>[]
 |i,q::l=>f q i::L9 f (i+1) l
def Yt(roots:List Rq):List Nd:=L9 (fun q i=>⟨q,mt,0,i⟩) 0 roots
def PV(c:Cd):List Nd:=L9 (fun q i=>⟨q,c.rel.path,c.place,i⟩) 0 c.rel.reqs
def Dm(roots:List Rq)(dec:List Cd):List Nd:=Yt roots++(dec.map PV).flatten
def CC(dec:List Cd)(p:ByteArray):Bool:=dec.any fun c=>decide (c.rel.path=p)
def Ee(dec:List Cd)(a:ByteArray×List Nd)(n:Nd):ByteArray×List Nd :=
 if CC dec n.rq.path=true∨(a.2≠[]∧Er a.1 n.rq.path=true)then a
 else if a.2≠[]∧Er n.rq.path a.1=true then(n.rq.path,[n])else(n.rq.path,a.2++[n])
def EF(roots:List Rq)(dec:List Cd):ByteArray×List Nd:=(Dm roots dec).foldl (Ee dec) (mt,[])
def aH(l:List Cd)(n:Nd):Bool:=l.any fun d=>decide (d.rel.path=n.rq.path)&&!has n.rq.set d.place
def D0(dec:List Cd)(c:Cd):Option Nd:=(PV c).find? (aH (dec++[c]))
def Om(s:List Sl):Nat→List (List Tm)→Option Nat
 |_,[]=>none
 |i,t::l=>if Cr t s then some i else Om s (i+1) l
def Ns(d:List (List Tm))(s:List Sl):Option Nat:=Om s 0 d
def CU(l:List Tm)(p:ByteArray):Bool:=l.any fun t=>decide (t.path=p)
instance:DecidableEq Nf:=fun a b=>by
 obtain⟨a1,a2,a3,a4,a5,a6⟩:=a;obtain⟨b1,b2,b3,b4,b5,b6⟩:=b;exact decidable_of_iff (a1=b1∧a2=b2∧a3=b3∧a4=b4∧a5=b5∧a6=b6) ⟨fun⟨h1,h2,h3,h4,h5,h6⟩=>by subst h1 h2 h3 h4 h5 h6;rfl,fun h=>by cases h;exact⟨rfl,rfl,rfl,rfl,rfl,rfl⟩⟩
def LD(i:Nf):Nat→List Nf→Option Nat
 |_,[]=>none
 |k,j::l=>if j=i then some k else LD i (k+1) l
def DJ(s:SS)(i:Nf)(l:List Tm):Nat×SS :=
 match LD i 0 s.infs with
 |some k=>(k,s)
 |none=>if 65536≤s.infs.length then(s.infs.length-1,⟨s.infs,s.drv,true⟩)else(s.infs.length,⟨s.infs++[i],s.drv++[l],s.full⟩)
def MR(n:Nd):Nf:=if n.path=mt then⟨0,mt,0,n.number,0,0⟩else⟨1,n.path,n.place,n.number,0,0⟩
def HC(n:Nd):List Tm:=if n.path=mt then Jw n.rq else Ef n.path n.place n.rq
def Bf(s:SS)(n:Nd):Nat×SS:=DJ s (MR n) (HC n)
abbrev Dv(s:SS)(k:Nat):List Tm:=s.drv.getD k []
def B3(p:ByteArray):List Nat→Nat→SS→Nat×SS
 | [],k,s=>(k,s)
 |r::l,k,s =>
  if s.full=true∨CU (Dv s k) p=false then(k,s)
  else if r=k then B3 p l k s
  else if(Bn (Dv s k) (Dv s r) p).2≠0 then B3 p l k s
  else B3 p l (DJ s ⟨3,p,0,0,k,r⟩ (Bn (Dv s k) (Dv s r) p).1).1 (DJ s ⟨3,p,0,0,k,r⟩ (Bn (Dv s k) (Dv s r) p).1).2
def D2(x:List Rl)(p:ByteArray)(s:SS):Nat×SS:=DJ s ⟨2,p,0,0,0,0⟩ (HJ p (BZ x p))
def DF(x:List Rl)(p:ByteArray)(n:Nd)(reasons:List Nat)(s:SS):Nat×SS :=
 B3 p ((D2 x p (Bf s n).2).1::reasons) (Bf s n).1 (D2 x p (Bf s n).2).2
structure JC where
 res:Nat
 found:Bool
 ss:SS
 dec:List Cd
 stack:List (List Sk)
def DC(rec:List Cd→SS→List (List Sk)→JC)(x:List Rl)(p:ByteArray)(needs:List Nd)(n0:Nd)(dec:List Cd)(stack:List (List Sk)):List Cd→SS→List Nat→List Sk→JC
 | [],s,reasons,_=>⟨(DF x p n0 reasons s).1,false,(DF x p n0 reasons s).2,dec,stack⟩
 |c::cs,s,reasons,skips =>
  let after (k:Nat) (s:SS):JC:=if CU (Dv s k) p=false then⟨k,false,s,dec,stack⟩else DC rec x p needs n0 dec stack cs s (reasons++[k]) (skips++[⟨p,c.place,k⟩])
  if s.full=true then⟨0,false,s,dec,stack⟩
  else match needs.find? fun n=>!has n.rq.set c.place with
   |some n=>DC rec x p needs n0 dec stack cs (Bf s n).2 (reasons++[(Bf s n).1]) skips
   |none=>match Ns s.drv (AI (dec++[c]))with
    |some k=>after k s
    |none=>match D0 dec c with
     |some n=>after (Bf s n).1 (Bf s n).2
     |none =>
      let o:=rec (dec++[c]) s (stack++[skips])
      if o.found=true then⟨0,true,o.ss,o.dec,o.stack⟩
      else if o.ss.full=true then⟨0,false,o.ss,dec,stack⟩
      else after o.res o.ss
def CB(x:List Rl)(roots:List Rq):Nat→List Cd→SS→List (List Sk)→JC
 |0,dec,s,stack=>⟨0,false,s,dec,stack⟩
 |n+1,dec,s,stack=>match(EF roots dec).2 with
  | []=>⟨0,true,s,dec,stack⟩
  |n0::l=>DC (CB x roots n) x (EF roots dec).1 (n0::l) n0 dec stack (BN x (EF roots dec).1) s [] []
abbrev rW:SS:=⟨[],[],false⟩
def FP(x:List Rl)(dec:List Cd):Nat:=(x.filter fun r=>!r.yanked&&!CC dec r.path).length
def DK(x:List Rl)(roots:List Rq):JC:=CB x roots (x.length+1) [] rW []
theorem OW(f:Rq→Nat→Nd):∀(l:List Rq) (i k:Nat),(L9 f i l)[k]?=(l[k]?).map fun q=>f q (i+k)
 | [],i,k=>by simp[L9]
 |q::l,i,0=>by simp[L9]
 |q::l,i,k+1=>by
  have h:=OW f l (i+1) k;simp only[L9,GK,h];rw[show i+1+k=i+(k+1) by omega]
theorem Kz(f:Rq→Nat→Nd):∀(l:List Rq) (i:Nat),(L9 f i l).length=l.length
 | [],_=>rfl
 |_::l,i=>by simp[L9,Kz f l (i+1)]
theorem Ya{f:Rq→Nat→Nd}{l:List Rq}{n:Nd}(h:n∈L9 f 0 l):∃k q,l[k]?=some q∧n=f q k:=by
 obtain⟨k,hk⟩:=B4.1 h;rw[OW,AW]at hk;obtain⟨q,h1,h2⟩:=hk;exact⟨k,q,h1,by rw[←h2,Bg]⟩
theorem RC{f:Rq→Nat→Nd}(hf:∀q i,(f q i).rq=q):∀(l:List Rq) (i:Nat),(L9 f i l).map (·.rq)=l
 | [],_=>rfl
 |q::l,i=>by simp[L9,hf,RC hf l (i+1)]
abbrev HN(roots:List Rq)(dec:List Cd):List Rq:=roots++(dec.map fun c=>c.rel.reqs).flatten
theorem MD(roots:List Rq)(dec:List Cd):(Dm roots dec).map (·.rq)=HN roots dec:=by
 unfold Dm Yt;rw[Ay,RC (fun _ _=>rfl),RM,BB]
 congr 2
 exact A5 fun c _=>RC (fun _ _=>rfl) _ _
theorem FU(dec:List Cd)(p:ByteArray):Cv (AI dec) p=CC dec p:=by
 unfold Cv CC AI;rw[List.any_map];rfl
theorem Jr(before:List Sl):∀{l:List Rq} {a p:ByteArray},Dn before l (some a)=some p→p=a∨Er p a=true
 | [],a,p,h=>by cases h;exact .inl rfl
 |q::l,a,p,h=>by
  unfold Dn at h;split at h
  ·exact Jr before h
  ·dsimp only at h;split at h
   ·rename_i hb;rcases Jr before h with e | e
    ·exact .inr (by rw[e];exact hb)
    ·exact .inr (DR e hb)
   ·exact Jr before h
theorem Iw(before:List Sl):∀{l:List Rq} {a:ByteArray},Dn before l (some a)≠none
 | [],a=>by simp[Dn]
 |q::l,a=>by
  unfold Dn;split
  ·exact Iw before
  ·dsimp only;split<;>exact Iw before
theorem Ov{n:Nd}{p:ByteArray}(e:n.rq.path≠p)(L:List Nd):((n::L).filter fun n=>decide (n.rq.path=p))=L.filter fun n=>decide (n.rq.path=p):=by rw[Ci,Ah (by simpa using e)]
theorem VZ{n:Nd}{p:ByteArray}(e:n.rq.path=p)(L:List Nd):((n::L).filter fun n=>decide (n.rq.path=p))=n::L.filter fun n=>decide (n.rq.path=p):=by rw[Ci,Ao (by simpa using e)]
theorem MF(dec:List Cd):∀(L:List Nd) (a:ByteArray×List Nd),(a.2≠[]→CC dec a.1=false) →
  L.foldl (Ee dec) a=match Dn (AI dec) (L.map (·.rq)) (if a.2=[]then none else some a.1)with
   |none=>a
   |some p=>(p,(if a.2≠[]∧a.1=p then a.2 else [])++L.filter fun n=>decide (n.rq.path=p))
 | [],a,h=>by
  obtain⟨p,o⟩:=a;cases o with
  |nil=>simp[Dn]
  |cons n o=>simp[Dn]
 |n::L,a,h=>by
  obtain⟨p0,o⟩:=a;rw[Eb,AL];have rd:∀(acc:Option ByteArray) (l:List Rq),(∀p,acc=some p→CC dec p=false)→∀p,Dn (AI dec) l acc=some p→CC dec p=false:=fun acc l ha p hp=>by
   have:=((JR (AI dec) (l:=l) (acc:=acc) (fun p e=>by rw[FU];exact ha p e)).1 p hp).1
   rw[FU]at this;exact this
  cases hd:CC dec n.rq.path with
  |true =>
   have e1:Ee dec (p0,o) n=(p0,o):=by unfold Ee;rw[Ao (.inl hd)]
   have e2:Dn (AI dec) (n.rq::L.map (·.rq)) (if o=[]then none else some p0)=Dn (AI dec) (L.map (·.rq)) (if o=[]then none else some p0):=by
    conv=>lhs;unfold Dn
    rw[Ao (by rw[FU];exact hd)]
   rw[e1,e2,MF dec L (p0,o) h];dsimp only;cases hg:Dn (AI dec) (L.map (·.rq)) (if o=[]then none else some p0)with
   |none=>rfl
   |some p =>
    dsimp only;have hp:=rd _ _ (fun q e=>by
     split at e
     ·cases e
     ·rename_i ho;cases e;exact h ho) p hg
    have Dt:n.rq.path≠p:=fun e=>by rw[e,hp]at hd;cases hd
    rw[Ov Dt]
  |false =>
   have Rh:Cv (AI dec) n.rq.path=false:=by rw[FU];exact hd
   by_cases ho:o=[]
   ·subst ho;have e1:Ee dec (p0,[]) n=(n.rq.path,[n]):=by
     unfold Ee;rw[Ah (by simp[hd]),Ah (by simp)];rfl
    have e2:Dn (AI dec) (n.rq::L.map (·.rq)) none=Dn (AI dec) (L.map (·.rq)) (some n.rq.path):=by
     conv=>lhs;unfold Dn
     rw[Ah (by rw[Rh];decide)]
    rw[e1,MF dec L (n.rq.path,[n]) (fun _=>hd),Ao rfl,e2];rw[Ah (by simp)];cases hg:Dn (AI dec) (L.map (·.rq)) (some n.rq.path)with
    |none=>exact absurd hg (Iw _)
    |some p =>
     dsimp only;rw[Ah (show ¬(([]:List Nd)≠[]∧p0=p)from fun h=>h.1 rfl)]
     by_cases e:n.rq.path=p
     ·rw[VZ e,Ao ⟨by simp,e⟩];rfl
     ·rw[Ov e,Ah (fun h=>e h.2)]
   ·have x9:(if o=[]then none else some p0)=some p0:=Ah ho;rw[x9];cases hb:Er p0 n.rq.path with
    |true =>
     have e1:Ee dec (p0,o) n=(p0,o):=by unfold Ee;rw[Ao (.inr ⟨ho,hb⟩)]
     have SI:Er n.rq.path p0=false:=Mp hb;have e2:Dn (AI dec) (n.rq::L.map (·.rq)) (some p0)=Dn (AI dec) (L.map (·.rq)) (some p0):=by
      conv=>lhs;unfold Dn
      rw[Ah (by rw[Rh];decide)];dsimp only;rw[Ah (by rw[SI];decide)]
     rw[e1,e2,MF dec L (p0,o) h];dsimp only;rw[x9];cases hg:Dn (AI dec) (L.map (·.rq)) (some p0)with
     |none=>rfl
     |some p =>
      dsimp only;have Dt:n.rq.path≠p:=fun e=>by
       rcases Jr _ hg with e3 | e3
       ·rw[e,e3,CT]at hb;cases hb
       ·rw[e,Mp e3]at hb;cases hb
      rw[Ov Dt]
    |false =>
     cases SI:Er n.rq.path p0 with
     |true =>
      have e1:Ee dec (p0,o) n=(n.rq.path,[n]):=by
       unfold Ee;rw[Ah (by simp[hd,hb]),Ao ⟨ho,SI⟩]
      have e2:Dn (AI dec) (n.rq::L.map (·.rq)) (some p0)=Dn (AI dec) (L.map (·.rq)) (some n.rq.path):=by
       conv=>lhs;unfold Dn
       rw[Ah (by rw[Rh];decide)];dsimp only;rw[Ao SI]
      rw[e1,e2,MF dec L (n.rq.path,[n]) (fun _=>hd),Ah (by simp)];cases hg:Dn (AI dec) (L.map (·.rq)) (some n.rq.path)with
      |none=>exact absurd hg (Iw _)
      |some p =>
       dsimp only;have Dt:p0≠p:=fun e=>by
        rcases Jr _ hg with e3 | e3
        ·rw[e,e3,CT]at SI;cases SI
        ·rw[e]at SI;rw[Mp e3]at SI;cases SI
       rw[Ah (show ¬(o≠[]∧p0=p)from fun h=>Dt h.2)]
       by_cases e:n.rq.path=p
       ·rw[VZ e,Ao ⟨by simp,e⟩];rfl
       ·rw[Ov e,Ah (fun h=>e h.2)]
     |false =>
      have e0:n.rq.path=p0:=Ht SI hb;have e1:Ee dec (p0,o) n=(p0,o++[n]):=by
       unfold Ee;rw[Ah (by simp[hd,hb]),Ah (by simp[SI]),e0]
      have e2:Dn (AI dec) (n.rq::L.map (·.rq)) (some p0)=Dn (AI dec) (L.map (·.rq)) (some p0):=by
       conv=>lhs;unfold Dn
       rw[Ah (by rw[Rh];decide)];dsimp only;rw[Ah (by rw[SI];decide)]
      rw[e1,e2,MF dec L (p0,o++[n]) (fun _=>by rw[←e0];exact hd),Ah (by simp)];cases hg:Dn (AI dec) (L.map (·.rq)) (some p0)with
      |none=>exact absurd hg (Iw _)
      |some p =>
       dsimp only
       by_cases e:p0=p
       ·rw[VZ (e0.trans e),Ao ⟨by simp,e⟩,Ao ⟨ho,e⟩,BH];rfl
       ·rw[Ov (fun h=>e (e0.symm.trans h)),Ah (fun h=>e h.2),Ah (fun h=>e h.2)]
theorem Tj(roots:List Rq)(dec:List Cd):EF roots dec=match Kx (HN roots dec) (AI dec)with
  |none=>(mt,[])
  |some p=>(p,(Dm roots dec).filter fun n=>decide (n.rq.path=p)):=by
 unfold EF Kx;rw[MF dec _ (mt,[]) (fun h=>absurd rfl h),Ao rfl,MD];cases Dn (AI dec) (HN roots dec) none with
 |none=>rfl
 |some p=>dsimp only;rw[Ah (by simp)];rfl
theorem Tl{roots:List Rq}{dec:List Cd}:(EF roots dec).2=[]↔Kx (HN roots dec) (AI dec)=none:=by
 rw[Tj];cases h:Kx (HN roots dec) (AI dec)with
 |none=>simp
 |some p =>
  simp only[reduceCtorEq,iff_false];obtain⟨_,q,hq,e⟩:=Tn h;rw[←MD]at hq;obtain⟨n,hn,rfl⟩:=Ak.1 hq;exact List.ne_nil_of_mem (BI.2 ⟨hn,by simpa using e⟩)
structure oW(roots:List Rq)(dec:List Cd)(p:ByteArray)(l:List Nd):Prop where
 next:Kx (HN roots dec) (AI dec)=some p
 undone:CC dec p=false
 mem:∀n,n∈l↔n∈Dm roots dec∧n.rq.path=p
theorem K6{roots:List Rq}{dec:List Cd}{n0:Nd}{l:List Nd}(h:(EF roots dec).2=n0::l):oW roots dec (EF roots dec).1 (n0::l):=by
 rw[←h];rw[Tj]at *
 cases hp:Kx (HN roots dec) (AI dec)with
 |none=>rw[hp]at h;cases h
 |some p =>
  dsimp only;refine⟨hp,by rw[←FU];exact(Tn hp).1,fun n=>?_⟩;rw[BI];simp
theorem KN{x:List Rl}{p:ByteArray}{c:Cd}:c∈BN x p↔∃r∈x,r.path=p∧r.yanked=false∧c=⟨plc r.ver,r⟩:=by
 unfold BN;simp only[Ak,BI,Af,As,CI];constructor
 ·rintro⟨r,⟨h1,h2,h3⟩,rfl⟩;exact⟨r,h1,h2,h3,rfl⟩
 ·rintro⟨r,h1,h2,h3,rfl⟩;exact⟨r,⟨h1,h2,h3⟩,rfl⟩
theorem MK{i:Nf}:∀{l:List Nf} {k m:Nat},LD i k l=some m→∃j,m=k+j∧l[j]?=some i
 | [],_,_,h=>by cases h
 |y::l,k,m,h=>by
  unfold LD at h;split at h
  ·rename_i e;cases h;exact⟨0,rfl,by rw[←e];rfl⟩
  ·obtain⟨j,h1,h2⟩:=MK h;exact⟨j+1,by omega,h2⟩
theorem PS{i:Nf}:∀{l:List Nf} {k:Nat},LD i k l=none→i∉l
 | [],_,_=>by simp
 |y::l,k,h=>by
  unfold LD at h;split at h
  ·cases h
  ·rename_i e
   have:=PS h
   simp only[Au,not_or];exact⟨fun e'=>e e'.symm,this⟩
theorem QT{α:Type}{d d' : List α}{i:Int}{a:α}(h:Js d i=some a)(hp:d <+: d'):Js d' i=some a:=by
 unfold Js at *
 split at h
 ·cases h
 ·rename_i hi;rw[Ah hi];obtain⟨t,rfl⟩:=hp;rw[AX (Ap.1 h).1];exact h
theorem XS{x:List Rl}{roots:List Rq}{d d' : List (List Tm)}{i:Nf}{o:List Tm}(h:DO x roots d i=some o)(hp:d <+: d'):DO x roots d' i=some o:=by
 unfold DO at *
 split
 ·rename_i e;rw[Ao e]at h;exact h
 rename_i e0;rw[Ah e0]at h;split
 ·rename_i e;rw[Ao e]at h;exact h
 rename_i e1;rw[Ah e1]at h;split
 ·rename_i e;rw[Ao e]at h;exact h
 rename_i e2;rw[Ah e2]at h;split
 ·rename_i e;rw[Ao e]at h;split
  ·rename_i e4;rw[Ao e4]at h;cases ha:Js d i.left with
   |none=>rw[ha]at h;cases h
   |some a =>
    cases hb:Js d i.right with
    |none=>rw[ha,hb]at h;cases h
    |some b =>
     rw[ha,hb]at h;rw[QT ha hp,QT hb hp];exact h
  ·rename_i e4;rw[Ah e4]at h;cases h
 ·rename_i e;rw[Ah e]at h;cases h
structure Fq(x:List Rl)(roots:List Rq)(s:SS):Prop where
 der:CZ x roots s.infs []=some s.drv
 len:s.infs.length≤65536
theorem Fq.dlen{x:List Rl}{roots:List Rq}{s:SS}(h:Fq x roots s):s.drv.length=s.infs.length:=by simpa using IY h.der
theorem Fq.nil(x:List Rl)(roots:List Rq):Fq x roots rW:=⟨rfl,by simp⟩
theorem Fq.at{x:List Rl}{roots:List Rq}{s:SS}(h:Fq x roots s){k:Nat}{i:Nf}(hk:s.infs[k]?=some i):DO x roots s.drv i=some (s.drv.getD k []):=by
 have h1:=MY h.der (k+1);have h0:=MY h.der k;have DA:=(Ap.1 hk).1;rw[Bq,hk,GS,h0]at h1;have h1:CZ x roots [i] (s.drv.take k)=some (s.drv.take (k+1)):=h1;unfold CZ at h1;cases hi:DO x roots (s.drv.take k) i with
 |none=>rw[hi]at h1;cases h1
 |some t =>
  rw[hi]at h1;have h1:some (s.drv.take k++[t])=some (s.drv.take (k+1)):=h1;have hd:k<s.drv.length:=by rw[h.dlen];exact DA
  have:t=s.drv[k]:=by
   have h2:=Ct h1;rw[Kh hd]at h2;exact List.singleton_inj.1 (List.append_cancel_left h2)
  rw[XS hi (List.take_prefix ..),this];simp[List.getD_eq_getElem?_getD,hd]
structure Grow(s s' : SS):Prop where
 pre:s.drv <+: s'.drv
 preI:s.infs <+: s'.infs
 full:s.full=true→s'.full=true
theorem Grow.refl(s:SS):Grow s s:=⟨MO,MO,id⟩
theorem Grow.trans{a b c:SS}(h:Grow a b)(k:Grow b c):Grow a c:=⟨h.pre.trans k.pre,h.preI.trans k.preI,fun e=>k.full (h.full e)⟩
theorem Grow.at{s s' : SS}(h:Grow s s'){k:Nat}(hk:k<s.drv.length):Dv s' k=Dv s k:=by
 obtain⟨t,e⟩:=h.pre;unfold Dv;rw[←e,BT,BT,AX hk]
theorem Grow.len{s s' : SS}(h:Grow s s'):s.drv.length≤s'.drv.length:=h.pre.length_le
theorem Kl(s:SS)(i:Nf)(l:List Tm):Grow s (DJ s i l).2:=by
 unfold DJ;split
 ·exact .refl s
 ·split
  ·exact⟨MO,MO,fun _=>rfl⟩
  ·exact⟨N4 ..,N4 ..,id⟩
theorem Kk{x:List Rl}{roots:List Rq}{s:SS}(h:Fq x roots s){i:Nf}{l:List Tm}(hi:DO x roots s.drv i=some l) :
  Fq x roots (DJ s i l).2∧(DJ s i l).1<(DJ s i l).2.drv.length∧((DJ s i l).2.full=false→Dv (DJ s i l).2 (DJ s i l).1=l):=by
 have hdl:=h.dlen;unfold DJ;split
 ·rename_i k hk;obtain⟨j,e,hj⟩:=MK hk
  have:k=j:=by omega
  subst this;have DA:=(Ap.1 hj).1;refine⟨h,by show k<s.drv.length;omega,fun _=>?_⟩
  have:=h.at hj
  rw[hi]at this;exact(Ct this).symm
 ·rename_i hk;split
  ·rename_i hf;exact⟨⟨h.der,h.len⟩,by show s.infs.length-1<s.drv.length;omega,fun e=>by cases e⟩
  ·rename_i hf;refine⟨⟨?_,by show(s.infs++[i]).length≤65536;rw[Ad];simp;omega⟩,by show s.infs.length<(s.drv++[l]).length;rw[Ad];simp;omega,fun _=>?_⟩
   ·show CZ x roots (s.infs++[i]) []=some (s.drv++[l]);rw[GS,h.der];show CZ x roots [i] s.drv=_;unfold CZ;rw[hi];rfl
   ·show(s.drv++[l]).getD s.infs.length []=l;rw[←hdl];simp[List.getD_eq_getElem?_getD]
theorem YN(s:SS)(i:Nf)(l:List Tm):(DJ s i l).2.infs.length≤s.infs.length+1:=by
 unfold DJ;split
 ·simp
 ·split<;>simp
theorem WZ{s:SS}(i:Nf)(l:List Tm)(hf:s.full=false)(hc:s.infs.length<65536):(DJ s i l).2.full=false:=by
 unfold DJ;split
 ·exact hf
 ·split
  ·omega
  ·exact hf
theorem So(S:List Sl):∀{l:List (List Tm)} {i k:Nat},Om S i l=some k→∃j,k=i+j∧∃t,l[j]?=some t∧Cr t S=true
 | [],_,_,h=>by cases h
 |t::l,i,k,h=>by
  unfold Om at h;split at h
  ·rename_i e;cases h;exact⟨0,rfl,t,rfl,e⟩
  ·obtain⟨j,h1,t',h2,h3⟩:=So S h;exact⟨j+1,by omega,t',h2,h3⟩
theorem Kq{d:List (List Tm)}{S:List Sl}{k:Nat}(h:Ns d S=some k):k<d.length∧Cr (d.getD k []) S=true:=by
 obtain⟨j,h1,t,h2,h3⟩:=So S h
 have:k=j:=by omega
 subst this;refine⟨(Ap.1 h2).1,?_⟩;rw[BT,h2];exact h3
end Go.Eng
