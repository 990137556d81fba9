/- Lemmas for the claims of this seat, without a condition: part 2 (P8, P9, P10, P11, P12, P13, P14, Q1, Q2). -/
import Derived.Test.YtmcbkdbfaneofaaGreatDoorDA01
import Derived.Lib.SplitLaws
import Derived.Lib.IndexBytes
namespace Go.Eng
def CP(l:Bn):Bn:=(l.map Hh).filter fun x=>decide (x.1<x.2)
theorem N8(a b:Bn):CP (a++b)=CP a++CP b:=by unfold CP;rw[AH,Ej]
theorem Uz{l:Bn}{x:Int×Int}(h:x∈CP l):0≤x.1∧x.1<x.2∧x.2≤1000000:=by
 unfold CP at h;rw[Bx,Am]at h;obtain⟨⟨y,_,rfl⟩,h2⟩:=h;have h2:=BG h2;refine⟨?_,h2,?_⟩<;>simp only[Hh]<;>omega
theorem bt(l:Bn)(p:Int):(CP l).any (BK p)=has l p:=by
 rw[←Kn]
 induction l with
 |nil=>rfl
 |cons x r ih =>
  have e:CP (x::r)=(if(Hh x).1<(Hh x).2 then [Hh x]else [])++CP r:=by
   unfold CP;rw[AP,Eo]
   by_cases h:(Hh x).1<(Hh x).2<;>simp[h]
  have ec:canon (x::r)=if(Hh x).1<(Hh x).2 then Vx (Hh x) (canon r)else canon r:=rfl
  rw[e,Hk,ih,ec]
  by_cases h:(Hh x).1<(Hh x).2
  ·rw[Az h,Az h,NY _ p (Co r) h];simp
  ·rw[Al h,Al h];simp
theorem Ni:∀{l:Bn} {lo:Int},EI lo l↔(∀y∈l,lo≤y.1∧y.1<y.2∧y.2≤1000000)∧l.Pairwise fun a b=>a.2<b.1
 | [],lo=>by simp[EI]
 |y::r,lo=>by
  rw[BX];constructor
  ·intro h;have hl:=h.low;refine⟨hl,fun z hz=>?_,((Ni (l:=r)).1 h.2.2.2).2⟩
   have:=h.2.2.2.low z hz;omega
  ·intro⟨h1,h2,h3⟩;have hy:=h1 y (Aa ..);refine⟨hy.1,hy.2.1,hy.2.2,Ni.2 ⟨fun z hz=>?_,h3⟩⟩
   have:=h1 z (Af _ hz)
   have:=h2 z hz
   omega
def KH(r:Bn)(x:Int×Int):Bn:=match r with
 | []=>[x]
 |y::t=>if x.1≤y.2 then(y.1,max y.2 x.2)::t else x::y::t
def BC(s:Bn):Bn:=s.foldl KH []
theorem Gi(s:Bn)(i:Nat)(h:i<s.length):BC (s.take (i+1))=KH (BC (s.take i)) s[i]:=by
 unfold BC;rw[Bu,Ay h,Kb];rfl
theorem db(r:Bn)(x:Int×Int):(KH r x).length≤r.length+1∧r.length≤(KH r x).length∧0<(KH r x).length:=by
 unfold KH;split
 ·simp
 ·split<;>simp
theorem S7(s:Bn):∀i,i≤s.length→(BC (s.take i)).length≤i∧(0<i→0<(BC (s.take i)).length):=by
 intro i
 induction i with
 |zero=>intro _;simp[BC]
 |succ i ih =>
  intro h;rw[Gi s i (by omega)]
  have:=db (BC (s.take i)) s[i]
  have:=ih (by omega)
  omega
structure ma(r done:Bn):Prop where
 ok:∀y∈r,0≤y.1∧y.1<y.2∧y.2≤1000000
 pw:r.Pairwise fun a b=>b.2<a.1
 has:∀p,r.any (BK p)=done.any (BK p)
 first:∀y t,r=y::t→∃x∈done,y.1=x.1
theorem da{r done:Bn}{x:Int×Int}(h:ma r done)(hx:0≤x.1∧x.1<x.2∧x.2≤1000000)(hs:∀y∈done,y.1≤x.1):ma (KH r x) (done++[x]):=by
 unfold KH;split
 ·refine⟨fun y hy=>?_,by simp,fun p=>?_,fun y t e=>?_⟩
  ·rw[Ai.1 hy];exact hx
  ·rw[Hk,←h.has];rfl
  ·cases e;exact⟨x,by simp,rfl⟩
 ·rename_i y t;have hy:=h.ok y (Aa ..);obtain⟨xZ,pw2⟩:=BX.1 h.pw;obtain⟨z,hz,e⟩:=h.first y t rfl
  have oL:=hs z hz;split
  ·rename_i Hi;refine⟨fun u hu=>?_,BX.2 ⟨xZ,pw2⟩,fun p=>?_,fun u t' e'=>?_⟩
   ·rcases Au.1 hu with rfl | hu
    ·exact⟨hy.1,by dsimp only;omega,by dsimp only;omega⟩
    ·exact h.ok u (Af _ hu)
   ·rw[Hk,←h.has,Ce,Ce,Ce,List.any_nil,Bool.or_false]
    have:BK p (y.1,max y.2 x.2)=(BK p y||BK p x):=by
     simp only[BK];rw[BV];simp only[Ag,CE,AA];omega
    rw[this];cases BK p y<;>cases BK p x<;>cases t.any (BK p)<;>rfl
   ·cases e';exact⟨z,Bi _ hz,e⟩
  ·rename_i Hi;refine⟨fun u hu=>?_,BX.2 ⟨fun u hu=>?_,h.pw⟩,fun p=>?_,fun u t' e'=>?_⟩
   ·rcases Au.1 hu with rfl | hu
    ·exact hx
    ·exact h.ok u hu
   ·rcases Au.1 hu with rfl | hu
    ·omega
    ·have:=xZ u hu;omega
   ·rw[Hk,←h.has,Ce,Ce,Ce,List.any_nil,Bool.or_false];cases BK p y<;>cases BK p x<;>cases t.any (BK p)<;>rfl
   ·cases e';exact⟨x,by simp,rfl⟩
theorem Zb{s:Bn}(Gw:∀y∈s,0≤y.1∧y.1<y.2∧y.2≤1000000)(hs:s.Pairwise fun a b=>a.1≤b.1):∀i,i≤s.length→ma (BC (s.take i)) (s.take i):=by
 intro i
 induction i with
 |zero=>intro _;exact⟨fun _ h=>by simp[BC]at h,by simp[BC],fun p=>by simp[BC],fun y t e=>by simp[BC]at e⟩
 |succ i ih =>
  intro h;have hi:i<s.length:=by omega
  rw[Gi s i hi];have e:s.take (i+1)=s.take i++[s[i]]:=by rw[Bu,Ay hi];rfl
  rw[e];refine da (ih (by omega)) (Gw _ (Ao hi)) fun y hy=>?_;obtain⟨j,hj,rfl⟩:=Dz.1 hy;rw[Kc];rw[AJ]at hj;exact(Bc.1 hs) j i (by omega) hi (by omega)
theorem QU{l s:Bn}(hp:s.Perm (CP l))(hs:s.Pairwise fun a b=>a.1≤b.1):(BC s).reverse=canon l:=by
 have hi:=Zb (s:=s) (fun y hy=>Uz (hp.mem_iff.1 hy)) hs s.length (Ak _);rw[Dv]at hi;have hc:EC (BC s).reverse:=by
  unfold EC;rw[Ni];refine⟨fun y hy=>hi.ok y (List.mem_reverse.1 hy),?_⟩;rw[List.pairwise_reverse];exact hi.pw
 refine RQ hc fun p=>?_;rw[Hv hc,List.any_reverse,hi.has,←bt];rw[BV,A7,A7];constructor
 ·rintro⟨y,h1,h2⟩;exact⟨y,hp.mem_iff.1 h1,h2⟩
 ·rintro⟨y,h1,h2⟩;exact⟨y,hp.mem_iff.2 h1,h2⟩
-- maps from numbers to numbers,as lists in the order in which they are met
def Fe(m:List (Int×Int))(k:Int):Int:=match m.find? (fun p=>decide (p.1=k))with | some p=>p.2 | none=>0
def K9(m:List (Int×Int))(k v:Int):List (Int×Int):=if m.any (fun p=>decide (p.1=k))then m.map (fun p=>if p.1=k then(k,v)else p)else m++[(k,v)]
theorem He(p:Int×Int)(m:List (Int×Int))(k:Int):Fe (p::m) k=if p.1=k then p.2 else Fe m k:=by
 unfold Fe;rw[Ft];by_cases h:p.1=k<;>simp[h]
theorem Pb(m:List (Int×Int))(k v j:Int):Fe (K9 m k v) j=if j=k then v else Fe m j:=by
 unfold K9;split
 ·rename_i h
  induction m with
  |nil=>simp at h
  |cons p m ih =>
   rw[AP,He,He]
   by_cases e:p.1=k
   ·rw[Az e];dsimp only
    by_cases ej:j=k
    ·subst ej;simp
    ·rw[Al (fun c=>ej c.symm),Al ej,Al (fun c=>ej (c.symm.trans e))]
     by_cases hm:(m.any fun p=>decide (p.1=k))=true
     ·rw[ih hm,Al ej]
     ·have:∀q∈m,q.1≠k:=fun q hq e=>hm (A7.2 ⟨q,hq,by simp[e]⟩)
      have:m.map (fun p=>if p.1=k then(k,v)else p)=m:=by
       conv=>rhs;rw[←JA m]
       exact Bf fun q hq=>by simp[this q hq]
      rw[this]
   ·rw[Al e];have hm:(m.any fun p=>decide (p.1=k))=true:=by simpa[e]using h
    rw[ih hm]
    by_cases ej:j=k
    ·subst ej;simp[e]
    ·simp[ej]
 ·rename_i h;have hn:∀q∈m,q.1≠k:=fun q hq e=>h (A7.2 ⟨q,hq,by simp[e]⟩)
  induction m with
  |nil =>
   rw[D8,He]
   by_cases ej:j=k
   ·simp[ej]
   ·have:¬k=j:=fun c=>ej c.symm
    simp[ej,this]
  |cons p m ih =>
   rw[Iy,He,He];have e:=hn p (Aa ..);have ih:=ih (by simpa[e]using h) fun q hq=>hn q (Af _ hq)
   by_cases ep:p.1=j
   ·have:¬j=k:=fun c=>e (ep.trans c)
    simp[ep,this]
   ·simp only[ep,Gg];exact ih
def EZ(m:List (Int×Int)):List Int:=m.map (·.1)
theorem UV(m:List (Int×Int))(k v:Int):EZ (K9 m k v)=if k∈EZ m then EZ m else EZ m++[k]:=by
 unfold K9 EZ;have e:(m.any fun p=>decide (p.1=k))=decide (k∈m.map (·.1)):=by
  rw[BV];simp only[A7,AA,Am]
 rw[e]
 by_cases h:k∈m.map (·.1)
 ·simp only[h,decide_true,QB,BP];apply Bf;intro p _;simp only[Function.comp];split
  ·rename_i e;exact e.symm
  ·rfl
 ·simp[h]
theorem LZ{m:List (Int×Int)}(h:(EZ m).Nodup)(k v:Int):(EZ (K9 m k v)).Nodup:=by
 rw[UV];split
 ·exact h
 ·rename_i hn;rw[F9];exact⟨h,by simp,fun a ha b hb e=>by subst e;rw[Ai.1 hb]at ha;exact hn ha⟩
theorem H1(m:List (Int×Int))(k v j:Int):j∈EZ (K9 m k v)↔j=k∨j∈EZ m:=by
 rw[UV];split
 ·rename_i h;constructor
  ·exact .inr
  ·rintro(rfl | h')
   ·exact h
   ·exact h'
 ·simp[or_comm]
theorem iD{m:List (Int×Int)}(h:(EZ m).Nodup){p:Int×Int}(hp:p∈m):Fe m p.1=p.2:=by
 induction m with
 |nil=>cases hp
 |cons q m ih =>
  rw[He];unfold EZ at h ih;rw[AP,CT]at h;rcases Au.1 hp with rfl | hp
  ·simp
  ·have:¬q.1=p.1:=fun e=>h.1 (e▸Am.2 ⟨p,hp,rfl⟩)
   rw[Al this];exact ih h.2 hp
theorem iE{m:List (Int×Int)}{k:Int}(h:k∉EZ m):Fe m k=0:=by
 unfold Fe
 have:m.find? (fun p=>decide (p.1=k))=none:=by
  rw[Ek];intro p hp;simp only[AA];exact fun e=>h (Am.2 ⟨p,hp,e⟩)
 rw[this]
-- counting
def cF(S:Bn)(k:Int):Nat:=S.countP fun x=>decide (x.1=k)
def cT(S:Bn)(k:Int):Nat:=S.countP fun x=>decide (x.2=k)
def lF(S:Bn)(k:Int):Nat:=S.countP fun x=>decide (x.1≤k)
def lT(S:Bn)(k:Int):Nat:=S.countP fun x=>decide (x.2≤k)
theorem IR{α:Type}{p q r:α→Bool}:∀{l:List α},(∀x∈l,(p x=true↔q x=true∨r x=true)∧¬(q x=true∧r x=true))→l.countP p=l.countP q+l.countP r
 | [],_=>rfl
 |x::l,h=>by
  have ih:=IR fun y hy=>h y (Af _ hy);obtain⟨h1,h2⟩:=h x (Aa ..);rw[Iz,Iz,Iz,ih];cases hp:p x<;>cases hq:q x<;>cases hr:r x<;>simp_all<;>omega
structure Ij(m:List (Int×Int))(S:Bn):Prop where
 nd:(EZ m).Nodup
 val:∀k,Fe m k=(cF S k:Int)-cT S k
 keys:0∈EZ m∧1000000∈EZ m∧∀x∈S,x.1∈EZ m∧x.2∈EZ m
 rng:∀k∈EZ m,0≤k∧k≤1000000
def py:List (Int×Int):=[(0,0),(1000000,0)]
theorem jp:Ij py []:=⟨by decide,fun k=>by
  unfold py;rw[He,He];simp[Fe,cF,cT],⟨by decide,by decide,fun _ h=>by cases h⟩,fun k hk=>by
  unfold py EZ at hk;simp at hk;omega⟩
def Yc(m:List (Int×Int))(x:Int×Int):List (Int×Int):=K9 (K9 m x.1 (Fe m x.1+1)) x.2 (Fe (K9 m x.1 (Fe m x.1+1)) x.2-1)
theorem c9{m:List (Int×Int)}{S:Bn}{x:Int×Int}(h:Ij m S)(hx:0≤x.1∧x.1<x.2∧x.2≤1000000):Ij (Yc m x) (S++[x]):=by
 unfold Yc;refine⟨LZ (LZ h.nd _ _) _ _,fun k=>?_,⟨?_,?_,fun y hy=>?_⟩,fun k hk=>?_⟩
 ·rw[Pb,Pb,Pb,h.val,h.val,h.val];unfold cF cT;simp only[List.countP_append,List.countP_singleton,AA]
  by_cases e1:k=x.2
  ·subst e1
   have:¬x.2=x.1:=by omega
   have:¬x.1=x.2:=by omega
   simp[*];omega
  ·by_cases e2:k=x.1
   ·subst e2
    have:¬x.2=x.1:=by omega
    have:¬x.1=x.2:=by omega
    simp[*];omega
   ·have a1:¬x.1=k:=fun c=>e2 c.symm;have a2:¬x.2=k:=fun c=>e1 c.symm;simp[e1,e2,a1,a2]
 ·rw[H1,H1];exact .inr (.inr h.keys.1)
 ·rw[H1,H1];exact .inr (.inr h.keys.2.1)
 ·simp only[H1];rcases A3.1 hy with hy | hy
  ·have:=h.keys.2.2 y hy
   exact⟨.inr (.inr this.1),.inr (.inr this.2)⟩
  ·rw[Ai.1 hy];exact⟨.inr (.inl rfl),.inl rfl⟩
 ·rw[H1,H1]at hk;rcases hk with rfl | rfl | hk
  ·omega
  ·omega
  ·exact h.rng k hk
def Iv(m:List (Int×Int))(B:List Int):Int:=(B.map (Fe m)).foldl (·+·) 0
theorem P0(m:List (Int×Int))(B:List Int)(i:Nat)(h:i<B.length):Iv m (B.take (i+1))=Iv m (B.take i)+Fe m B[i]:=by
 unfold Iv;rw[Bu,Ay h,AH,Kb];simp only[Option.toList_some,AP,E0,Fv,List.foldl_nil]
structure iW(B:List Int)(m:List (Int×Int)):Prop where
 perm:B.Perm (EZ m)
 srt:B.Pairwise fun a b=>a<b
theorem aL{m:List (Int×Int)}{S:Bn}{B:List Int}(h:Ij m S)(hB:iW B m):∀i (hi:i<B.length),Iv m (B.take (i+1))=(lF S B[i]:Int)-lT S B[i]:=by
 have mem:∀k,k∈EZ m→∃j,∃hj:j<B.length,B[j]=k:=fun k hk=>by
  have:=hB.perm.mem_iff.2 hk
  obtain⟨j,hj,e⟩:=Dz.1 this;exact⟨j,hj,e⟩
 have lt:∀i j (hi:i<B.length) (hj:j<B.length),i<j→B[i]<B[j]:=fun i j hi hj UN=>(Bc.1 hB.srt) i j hi hj UN;intro i
 induction i with
 |zero =>
  intro hi;rw[P0 m B 0 hi,h.val]
  have:Iv m (B.take 0)=0:=by simp[Iv]
  rw[this];have low:∀k∈EZ m,B[0]≤k:=fun k hk=>by
   obtain⟨j,hj,rfl⟩:=mem k hk;cases j with
   |zero=>exact AX _
   |succ j=>have:=lt 0 (j+1) hi hj (by omega);omega
  have e1:lF S B[0]=cF S B[0]:=by
   unfold lF cF;apply Qi;intro x hx
   have:=low _ (h.keys.2.2 x hx).1
   simp only[AA];omega
  have e2:lT S B[0]=cT S B[0]:=by
   unfold lT cT;apply Qi;intro x hx
   have:=low _ (h.keys.2.2 x hx).2
   simp only[AA];omega
  rw[e1,e2];omega
 |succ i ih =>
  intro hi;rw[P0 m B (i+1) hi,ih (by omega),h.val];have nb:∀k∈EZ m,k≤B[i+1]↔k≤B[i]∨k=B[i+1]:=fun k hk=>by
   obtain⟨j,hj,rfl⟩:=mem k hk;have l0:=lt i (i+1) (by omega) hi (by omega);rcases Nat.lt_trichotomy j (i+1)with c | c | c
   ·have:B[j]≤B[i]:=by
     rcases EF j i with d | d
     ·have:=lt j i hj (by omega) d;omega
     ·have:j=i:=by omega
      subst this;exact AX _
    omega
   ·subst c;omega
   ·have:=lt (i+1) j hi hj c;omega
  have l0:=lt i (i+1) (by omega) hi (by omega);have e1:lF S B[i+1]=lF S B[i]+cF S B[i+1]:=by
   unfold lF cF;apply IR;intro x hx
   have:=nb _ (h.keys.2.2 x hx).1
   simp only[AA];omega
  have e2:lT S B[i+1]=lT S B[i]+cT S B[i+1]:=by
   unfold lT cT;apply IR;intro x hx
   have:=nb _ (h.keys.2.2 x hx).2
   simp only[AA];omega
  rw[e1,e2];omega
theorem WZ{S:Bn}(hS:∀x∈S,x.1<x.2)(p:Int):(lF S p:Int)-lT S p=(S.countP (BK p):Nat):=by
 have:lF S p=S.countP (BK p)+lT S p:=by
  unfold lF lT;apply IR;intro x hx
  have:=hS x hx
  simp only[BK,Ag,AA];omega
 omega
theorem N9:∀{l:Bn} {lo:Int} (p:Int),EI lo l→l.countP (BK p)=if l.any (BK p)then 1 else 0
 | [],_,_,_=>rfl
 |y::r,lo,p,⟨h1,h2,h3,h4⟩=>by
  rw[Iz,N9 p h4,Ce];cases hy:BK p y with
  |false=>rw[LA];simp
  |true =>
   have:=DM.1 hy
   have:r.any (BK p)=false:=by
    rw[AI];intro hr;have:=Mj h4 hr;omega
   simp[this]
theorem LI:∀(l:List Bn) (p:Int),((l.map canon).flatten).countP (BK p)=dk l p
 | [],_=>rfl
 |s::l,p=>by
  rw[AP,Bz,List.countP_append,LI l p,N9 p (Co s),Kn];unfold dk;rw[Iz];omega
def Eu(keep:Nat→Bool)(m:List (Int×Int))(B:List Int):Nat→Bn
 |0=>[]
 |i+1=>Eu keep m B i++(match B[i]?,B[i+1]? with
  |some a,some b=>if keep (Iv m (B.take (i+1))).toNat then [(a,b)]else []
  |_,_=>[])
theorem PE{keep:Nat→Bool}{m:List (Int×Int)}{B:List Int}{x:Int×Int}:∀{n:Nat},x∈Eu keep m B n↔∃i,i<n∧∃(h1:i<B.length) (h2:i+1<B.length),keep (Iv m (B.take (i+1))).toNat=true∧x=(B[i],B[i+1])
 |0=>by simp[Eu]
 |n+1=>by
  unfold Eu;rw[A3,PE (n:=n)];constructor
  ·rintro(⟨i,h1,h2⟩ | h)
   ·exact⟨i,by omega,h2⟩
   ·split at h
    ·rename_i a b ha hb;obtain⟨h1,e1⟩:=As.1 ha;obtain⟨h2,e2⟩:=As.1 hb;split at h
     ·rename_i hk;refine⟨n,by omega,h1,h2,hk,?_⟩;rw[Ai.1 h,e1,e2]
     ·cases h
    ·cases h
  ·rintro⟨i,h1,h2,h3,h4,rfl⟩
   by_cases e:i=n
   ·subst e;refine .inr ?_;rw[Ay h2,Ay h3];simp[h4]
   ·exact .inl ⟨i,by omega,h2,h3,h4,rfl⟩
theorem N3{B:List Int}(hs:B.Pairwise fun a b=>a<b){p:Int}:∀(n:Nat) (h0:0<B.length) (hn:n<B.length),B[0]≤p→p<B[n]→∃i,∃(h1:i<B.length) (h2:i+1<B.length),B[i]≤p∧p<B[i+1]
 |0,h0,hn,h1,h2=>by omega
 |n+1,h0,hn,h1,h2=>by
  by_cases e:B[n]≤p
  ·exact⟨n,by omega,hn,e,h2⟩
  ·exact N3 hs n h0 (by omega) h1 (by omega)
theorem fQ{keep:Nat→Bool}{l:List Bn}{m:List (Int×Int)}{B:List Int}(h:Ij m (l.map canon).flatten)(hB:iW B m)(p:Int):has (Eu keep m B (B.length-1)) p=(Lw p&&keep (dk l p)):=by
 have hS:∀x∈(l.map canon).flatten,x.1<x.2:=fun x hx=>by
  obtain⟨s,hs,hx⟩:=Ep.1 hx;obtain⟨t,_,rfl⟩:=Am.1 hs;exact((Co t).low x hx).2.1
 have mem:∀k,k∈EZ m→∃j,∃hj:j<B.length,B[j]=k:=fun k hk=>by
  obtain⟨j,hj,e⟩:=Dz.1 (hB.perm.mem_iff.2 hk);exact⟨j,hj,e⟩
 have lt:∀i j (hi:i<B.length) (hj:j<B.length),i<j→B[i]<B[j]:=fun i j hi hj UN=>(Bc.1 hB.srt) i j hi hj UN;have rng:∀i (hi:i<B.length),0≤B[i]∧B[i]≤1000000:=fun i hi=>h.rng _ (hB.perm.mem_iff.1 (Ao hi))
 -- VD two bounds
 have VD:∀i (h1:i<B.length) (h2:i+1<B.length),B[i]≤p→p<B[i+1]→(Iv m (B.take (i+1))).toNat=dk l p:=fun i h1 h2 a b=>by
  have same:∀k∈EZ m,k≤B[i]↔k≤p:=fun k hk=>by
   obtain⟨j,hj,rfl⟩:=mem k hk;constructor
   ·intro c;omega
   ·intro c;rcases EF i j with d | d
    ·rcases EF (i+1) j with f | f
     ·have:=lt (i+1) j h2 hj f;omega
     ·have:j=i+1:=by omega
      subst this;omega
    ·rcases EF j i with f | f
     ·have:=lt j i hj h1 f;omega
     ·have:j=i:=by omega
      subst this;exact AX _
  have e1:lF (l.map canon).flatten B[i]=lF (l.map canon).flatten p:=by
   unfold lF;apply Qi;intro x hx
   have:=same _ (h.keys.2.2 x hx).1
   simp only[AA];exact this
  have e2:lT (l.map canon).flatten B[i]=lT (l.map canon).flatten p:=by
   unfold lT;apply Qi;intro x hx
   have:=same _ (h.keys.2.2 x hx).2
   simp only[AA];exact this
  rw[aL h hB i h1,e1,e2,WZ hS,LI];simp
 rw[BV];constructor
 ·intro hh;have iK:=LV hh;unfold has at hh;simp only[iK,decide_true,EB]at hh;obtain⟨x,hx,hp⟩:=A7.1 hh;obtain⟨i,_,h1,h2,hk,rfl⟩:=PE.1 hx
  have:=DM.1 hp
  dsimp only at this;rw[←VD i h1 h2 this.1 this.2];simp[Lw,iK,hk]
 ·intro hh;simp only[Ag,Lw,AA]at hh;obtain⟨⟨p0,p1⟩,hk⟩:=hh;obtain⟨j0,zz,e0⟩:=mem 0 h.keys.1;obtain⟨j1,zA,e1⟩:=mem 1000000 h.keys.2.1;have t6:B[0]'(by omega)≤p:=by
   have:B[0]'(by omega)≤0:=by
    cases j0 with
    |zero=>omega
    |succ j=>have:=lt 0 (j+1) (by omega) zz (by omega);omega
   omega
  obtain⟨i,h1,h2,a,b⟩:=N3 hB.srt j1 (by omega) zA t6 (by omega);unfold has;simp only[p0,p1,decide_true,EB];exact A7.2 ⟨(B[i],B[i+1]),PE.2 ⟨i,by omega,h1,h2,by rw[VD i h1 h2 a b];exact hk,rfl⟩,DM.2 ⟨a,b⟩⟩
theorem io{l:List Bn}{m:List (Int×Int)}{B:List Int}(h:Ij m (l.map canon).flatten)(hB:iW B m)(i:Nat)(hi:i<B.length):0≤Iv m (B.take (i+1))∧Iv m (B.take (i+1))≤l.length:=by
 have hS:∀x∈(l.map canon).flatten,x.1<x.2:=fun x hx=>by
  obtain⟨s,hs,hx⟩:=Ep.1 hx;obtain⟨t,_,rfl⟩:=Am.1 hs;exact((Co t).low x hx).2.1
 rw[aL h hB i hi,WZ hS,LI]
 have:dk l B[i]≤l.length:=List.countP_le_length
 omega
def Wh(m:List Tm)(t:Tm):List Tm:=if m.any (fun u=>decide (u.path=t.path))then m.map (fun u=>if u.path=t.path then t else u)else m++[t]
def QQ(m:List Tm)(t:Tm):List Tm:=Wh m (NI (Dj m t.path) t)
def CW(l:List Tm):List Tm:=l.foldl QQ []
theorem bE(t:Tm)(p:ByteArray):∀m:List Tm,Dj (Wh m t) p=if t.path=p then some t else Dj m p:=by
 intro m;unfold Wh
 by_cases h:(m.any fun u=>decide (u.path=t.path))=true
 ·rw[Az h]
  induction m with
  |nil=>simp at h
  |cons u m ih =>
   rw[AP,CK,CK]
   by_cases e:u.path=t.path
   ·rw[Az e]
    by_cases ep:t.path=p
    ·simp[ep]
    ·rw[Al ep,Al ep,Al (fun c=>ep (e.symm.trans c))]
     by_cases hm:(m.any fun u=>decide (u.path=t.path))=true
     ·rw[ih hm,Al ep]
     ·have:∀q∈m,q.path≠t.path:=fun q hq c=>hm (A7.2 ⟨q,hq,by simp[c]⟩)
      have:m.map (fun u=>if u.path=t.path then t else u)=m:=by
       conv=>rhs;rw[←JA m]
       exact Bf fun q hq=>by simp[this q hq]
      rw[this]
   ·rw[Al e];have hm:(m.any fun u=>decide (u.path=t.path))=true:=by simpa[e]using h
    rw[ih hm]
    by_cases ep:t.path=p
    ·subst ep;simp[e]
    ·simp[ep]
 ·rw[Al h];have hn:∀q∈m,q.path≠t.path:=fun q hq e=>h (A7.2 ⟨q,hq,by simp[e]⟩)
  clear h
  induction m with
  |nil=>rw[D8,CK]
  |cons u m ih =>
   rw[Iy,CK,CK,ih fun q hq=>hn q (Af _ hq)]
   have:=hn u (Aa ..)
   by_cases e:u.path=p
   ·have:¬t.path=p:=fun c=>this (e.trans c.symm)
    simp[e,this]
   ·simp[e]
def Ev(m:List Tm):List ByteArray:=m.map (·.path)
open Classical in
theorem Zl(m:List Tm)(t:Tm):Ev (Wh m t)=if t.path∈Ev m then Ev m else Ev m++[t.path]:=by
 unfold Wh Ev;have e:(m.any fun u=>decide (u.path=t.path))=true↔t.path∈m.map (·.path):=by
  simp only[A7,AA,Am]
 by_cases h:t.path∈m.map (·.path)
 ·rw[Az (e.2 h),Az h,BP];apply Bf;intro p _;simp only[Function.comp];split
  ·rename_i e;exact e.symm
  ·rfl
 ·rw[Al (fun c=>h (e.1 c)),Al h,AH];rfl
theorem cy{m:List Tm}(h:(Ev m).Nodup)(t:Tm):(Ev (Wh m t)).Nodup:=by
 rw[Zl];split
 ·exact h
 ·rename_i hn;rw[F9];exact⟨h,by simp,fun a ha b hb e=>by subst e;rw[Ai.1 hb]at ha;exact hn ha⟩
theorem QH(l:List Tm)(i:Nat)(h:i<l.length):CW (l.take (i+1))=QQ (CW (l.take i)) l[i]:=by
 unfold CW;rw[Bu,Ay h,Kb];rfl
theorem On:∀(l m:List Tm),(Ev m).Nodup→(Ev (l.foldl QQ m)).Nodup
 | [],_,h=>h
 |_::l,_,h=>On l _ (cy h _)
theorem HB(l:List Tm):(Ev (CW l)).Nodup:=On l [] .nil
theorem Xd(m:List Tm)(t:Tm)(p:ByteArray):Dj (QQ m t) p=JQ p (Dj m p) t:=by
 unfold QQ JQ;have hp:(NI (Dj m t.path) t).path=t.path:=PN _ _ fun u h=>GY h;rw[bE,hp]
 by_cases e:t.path=p
 ·rw[Az e,Az e,e]
 ·rw[Al e,Al e]
theorem Ok(p:ByteArray):∀(l m:List Tm),Dj (l.foldl QQ m) p=l.foldl (JQ p) (Dj m p)
 | [],_=>rfl
 |t::l,m=>by rw[Fv,Fv,Ok p l,Xd]
theorem YN(l:List Tm)(p:ByteArray):Dj (CW l) p=Dj (EU l) p:=by
 unfold CW;rw[Ok,IU];rfl
theorem LP{m:List Tm}(h:(Ev m).Nodup){t:Tm}:t∈m↔Dj m t.path=some t:=by
 constructor
 ·induction m with
  |nil=>intro h;cases h
  |cons u m ih =>
   intro ht;unfold Ev at h ih;rw[AP,CT]at h;rw[CK];rcases Au.1 ht with rfl | ht
   ·rw[Az rfl]
   ·have:¬u.path=t.path:=fun e=>h.1 (e▸Am.2 ⟨t,ht,rfl⟩)
    rw[Al this];exact ih h.2 ht
 ·exact E5
theorem HD{m:List Tm}(h:(Ev m).Nodup):m.Nodup:=by
 unfold Ev at h
 induction m with
 |nil=>exact .nil
 |cons u m ih =>
  rw[AP,CT]at h;exact CT.2 ⟨fun hu=>h.1 (Am.2 ⟨u,hu,rfl⟩),ih h.2⟩
theorem HJ{l:List Tm}{lo:Option ByteArray}(h:Cc lo l):(Ev l).Nodup:=by
 unfold Ev
 induction l generalizing lo with
 |nil=>exact .nil
 |cons t l ih =>
  rw[AP,CT];refine⟨fun hm=>?_,ih h.2.2⟩;obtain⟨u,hu,e⟩:=Am.1 hm
  have:=h.2.2.low u hu
  rw[e,CY]at this;cases this
theorem I1(l:List Tm)(t:Tm):t∈CW l↔t∈EU l:=by
 rw[LP (HB l),YN,←LP (HJ (Em l))]
theorem OJ(l:List Tm):∀t∈CW l,EC t.set:=fun t ht=>(Em l).canon t ((I1 l t).1 ht)
theorem de(m:List Tm)(t:Tm):(QQ m t).length≤m.length+1:=by
 unfold QQ Wh;split<;>simp
theorem NC(l:List Tm):∀i,i≤l.length→(CW (l.take i)).length≤i:=by
 intro i
 induction i with
 |zero=>intro _;simp[CW]
 |succ i ih =>
  intro h;rw[QH l i (by omega)]
  have:=de (CW (l.take i)) l[i]
  have:=ih (by omega)
  omega
theorem Zz{s:List Tm}(hs:s.Pairwise fun x y=>Ff x.path y.path=true)(hc:∀t∈s,EC t.set):Cc none s:=by
 have:∀(s:List Tm) (lo:Option ByteArray),s.Pairwise (fun x y=>Ff x.path y.path=true)→(∀t∈s,EC t.set)→(∀p,lo=some p→∀t∈s,Ff p t.path=true)→Cc lo s:=by
  intro s
  induction s with
  |nil=>intro _ _ _ _;trivial
  |cons t s ih =>
   intro lo hs hc hl;obtain⟨h1,h2⟩:=BX.1 hs;exact⟨fun p e=>hl p e t (Aa ..),hc t (Aa ..),ih _ h2 (fun u hu=>hc u (Af _ hu)) fun p e u hu=>by cases e;exact h1 u hu⟩
 exact this s none hs hc fun _ e=>by cases e
theorem Pq{l s:List Tm}(q:Tm→Bool)(hp:s.Perm ((CW l).filter q))(hs:s.Pairwise fun x y=>Ff y.path x.path=false):s=(EU l).filter q:=by
 have hm:∀t,t∈s↔t∈(EU l).filter q:=fun t=>by
  rw[hp.mem_iff,Bx,Bx,I1]
 have QY:(Ev s).Nodup:=by
  have h1:(Ev ((CW l).filter q)).Nodup:=by
   unfold Ev;exact List.Nodup.sublist (List.Sublist.map _ List.filter_sublist) (HB l)
  unfold Ev at h1⊢;exact(hp.map (·.path)).nodup_iff.2 h1
 have Jc:s.Pairwise fun x y=>Ff x.path y.path=true:=by
  rw[Bc]at hs⊢;intro i j hi hj UN;cases hb:Ff s[i].path s[j].path with
  |true=>rfl
  |false =>
   have e:=Hp hb (hs i j hi hj UN);unfold Ev at QY
   have:=(Bc.1 QY) i j (by simpa using hi) (by simpa using hj) UN
   simp at this;exact absurd e this
 have xE:Cc none s:=Zz Jc fun t ht=>(Em l).canon t (Bx.1 ((hm t).1 ht)).1;have iN:Cc none ((EU l).filter q):=Cc.filter q (Em l);refine Mg xE iN fun p=>?_;cases h1:Dj s p with
 |some t =>
  have:=(hm t).1 (E5 h1)
  rw[FD iN,GY h1]at this;exact this.symm
 |none =>
  cases h2:Dj ((EU l).filter q) p with
  |none=>rfl
  |some t =>
   have:=(hm t).2 (E5 h2)
   rw[FD xE,GY h2,h1]at this;cases this
theorem Yz(t:Tm):GO t t=Li t:=by unfold GO Li;rw[Y4,Bool.and_self]
theorem aE(o:Option Tm)(t:Tm):NI o t=GO (o.getD t) t:=by cases o with | none=>exact(Yz t).symm | some u=>rfl
theorem aZ{t:Tm}(h:EC t.set):(t.absent&&(Eg t.set).isEmpty)=Gr t:=by
 unfold Gr
 congr 1
 rw[BV,GL,AA];have ha:EC [(0,1000000)]:=⟨AX _,by dsimp only;omega,AX _,trivial⟩;constructor
 ·intro e;refine Hq h ha fun p=>?_
  have:=FE t.set p
  rw[e]at this;have h0:has [] p=false:=by simp[has]
  rw[h0]at this;have h1:has [(0,1000000)] p=Lw p:=by simp[has,Lw,BK]
  rw[h1];cases hp:Lw p with
  |true=>rw[hp]at this;simpa using this.symm
  |false =>
   rw[AI];intro hh
   have:=LV hh
   simp[Lw,this]at hp
 ·intro e;rw[PJ (G6 _)];intro p;rw[FE,e];have h1:has [(0,1000000)] p=Lw p:=by simp[has,Lw,BK]
  rw[h1];simp
theorem gn{t:Tm}(h:EC t.set):(!t.absent&&(canon t.set).isEmpty)=HC t:=by unfold HC;rw[I7 h]
end Go.Eng
namespace Go.Eng
open Go.Lib
theorem PX(c:UInt8):∀(s:List UInt8) (k:Nat),s.count c≤k→splitK [c] 0 k s=Fi c s
 | [],k,_=>by
  cases k with
  |zero=>rfl
  |succ k=>rfl
 |b::r,k,h=>by
  rw[Fi]
  by_cases e:b=c
  ·subst e;rw[List.count_cons_self]at h;obtain⟨k',rfl⟩:∃k',k=k'+1:=⟨k-1,by omega⟩;rw[Az rfl,splitK,index_one,indexByte];simp only[beq_self_eq_true,QB];rw[Al (by decide)];show []::splitK [b] 0 k' r=_;rw[PX b r k' (by omega)]
  ·have DD:(b == c)=false:=by simpa using e
   rw[List.count_cons_of_ne (by simpa using e)]at h;have ih:=PX c r k h;rw[Al e];cases k with
   |zero =>
    rw[←ih];rfl
   |succ k =>
    rw[←ih,splitK,splitK,index_one,index_one,indexByte,DD]
    by_cases h0:indexByte r c=-1
    ·rw[h0];rfl
    ·have h1:(indexByte r c == -1)=false:=by simpa using h0
     have h2:=indexByte_ge r c;have h3:(indexByte r c+1 == -1)=false:=by rw[beq_eq_false_iff_ne];omega
     simp only[Dk,Gg,h1,h3];obtain⟨i,hi⟩:∃i:Nat,indexByte r c=i:=⟨(indexByte r c).toNat,by omega⟩;rw[hi];show(b::r).take (((i:Int)+1).toNat+0)::_=(b::r.take ((i:Int).toNat+0))::_;rw[show((i:Int)+1).toNat=i+1 by omega,show((i:Nat):Int).toNat=i by omega]
     rfl
theorem WY(c:UInt8):∀(n:Nat) (s:List UInt8),s.length≤n→count s [c]=s.count c
 |n,s,hn=>by
  rcases Int.lt_or_le (indexByte s c) 0 with h | h
  ·have h2:=indexByte_ge s c;have h3:indexByte s c=-1:=by omega
   rw[count_miss (by rw[index_one];exact h3)]
   symm
   rw[List.count_eq_zero];intro hm;obtain⟨k,hk,e⟩:=FB hm;exact indexByte_none h3 k (by rw[Ay hk,e])
  ·obtain⟨i,hi⟩:∃i:Nat,indexByte s c=i:=⟨(indexByte s c).toNat,by omega⟩;obtain⟨h1,h2⟩:=indexByte_some hi;obtain⟨hl,hg⟩:=As.1 h1;cases n with
   |zero=>omega
   |succ n =>
    have hc:=count_hit (s:=s) (sub:=[c]) (i:=i) (by simp) (by rw[index_one];exact hi);rw[hc];have ih:=WY c n (s.drop (i+1)) (by rw[Ar];omega);have qE:s=s.take i++c::s.drop (i+1):=by
     rw[←hg,←Bs hl,Ld]
    have h0:(s.take i).count c=0:=by
     rw[List.count_eq_zero];intro hm;obtain⟨k,hk,e⟩:=FB hm;rw[AJ]at hk;rw[Kc]at e;exact h2 k (by omega) (by rw[Ay (by omega),e])
    conv=>rhs;rw[qE]
    rw[List.count_append,h0,List.count_cons_self];show 1+count (s.drop (i+1)) [c]=_;rw[ih];omega
theorem c8(s:ByteArray)(c:UInt8):((splitB ⟨#[c]⟩ 0 (countB s ⟨#[c]⟩) s).map (·.data.toList))=Fi c s.data.toList:=by
 rw[splitB_data];refine PX c _ _ ?_;show _≤count s.data.toList [c];rw[WY c _ _ (Ak _)];exact Ak _
end Go.Eng
namespace Go.Eng
theorem U6{α:Type}:∀{l m:List α},l.Nodup→(∀x∈l,x∈m)→l.length≤m.length
 | [],_,_,_=>AM _
 |a::l,m,hn,hs=>by
  obtain⟨h1,h2⟩:=CT.1 hn;obtain⟨s,t,rfl⟩:=List.append_of_mem (hs a (Aa ..))
  have:l.length≤(s++t).length:=U6 h2 fun x hx=>by
   rcases A3.1 (hs x (Af _ hx))with h | h
   ·exact Bi _ h
   ·rcases Au.1 h with rfl | h
    ·exact absurd hx h1
    ·exact Bl _ h
  simp only[Ad,At]at this⊢;omega
theorem Lk(p:ByteArray):∀(l:List Tm) (o:Option Tm),(∀u∈l,u.path≠p)→l.foldl (JQ p) o=o
 | [],_,_=>rfl
 |t::l,o,h=>by
  rw[Fv,show JQ p o t=o by unfold JQ;rw[Al (h t (Aa ..))]];exact Lk p l o fun u hu=>h u (Af _ hu)
theorem Zd{l:List Tm}{t:Tm}(h:t∈EU l):∃u∈l,u.path=t.path:=by
 apply Br;intro hn
 have:∀u∈l,u.path≠t.path:=fun u hu e=>hn ⟨u,hu,e⟩
 have h1:=(FD (Em l)).1 h;rw[IU,Lk _ _ _ this]at h1;cases h1
def Uh(U:List ByteArray)(t:List Tm):Prop:=Cc none t∧∀u∈t,u.path∈U
theorem Uh.len{U:List ByteArray}{t:List Tm}(h:Uh U t):t.length≤U.length:=by
 have:=U6 (HJ h.1) (m:=U) fun p hp=>by
  obtain⟨u,hu,rfl⟩:=Am.1 hp;exact h.2 u hu
 unfold Ev at this
 rwa [Bb]at this
theorem YB{l c:List Tm}(h:CO l=some c){t:Tm}(ht:t∈c):t∈EU l:=by
 unfold CO at h;split at h
 ·cases h
 ·cases h;exact(Bx.1 ht).1
theorem Pp{U:List ByteArray}{l c:List Tm}(h:CO l=some c)(hu:∀u∈l,u.path∈U):Uh U c :=
 ⟨EK h,fun t ht=>by
  obtain⟨u,h1,h2⟩:=Zd (YB h ht);rw[←h2];exact hu u h1⟩
theorem Uh.nil(U:List ByteArray):Uh U []:=⟨trivial,fun u hu=>by cases hu⟩
theorem Ti{U:List ByteArray}{l:List Tm}(hu:∀u∈l,u.path∈U):Uh U (PK l):=by
 unfold PK;cases h:CO l with
 |none=>exact .nil U
 |some c=>exact Pp h hu
theorem QO{U:List ByteArray}{a b:List Tm}{p:ByteArray}(ha:Uh U a)(hb:Uh U b):Uh U (Bw a b p).1:=by
 have sp:∀{l r:List Tm} {t:Tm},Uh U l→Fj l p=some (t,r)→t.path∈U∧∀u∈r,u.path∈U:=by
  intro l r t hl h;unfold Fj at h;cases e:CO l with
  |none=>rw[e]at h;cases h
  |some c =>
   rw[e]at h;have h:(match Dj c p with | none=>none | some t=>some (t,FJ c p))=some (t,r):=h;have hc:=Pp e hl.2;cases e2:Dj c p with
   |none=>rw[e2]at h;cases h
   |some u =>
    rw[e2]at h;cases h;exact⟨hc.2 _ (E5 e2),fun u hu=>hc.2 u (Bx.1 hu).1⟩
 unfold Bw;split
 ·rename_i t r u m e1 e2;obtain⟨a1,a2⟩:=sp ha e1;obtain⟨b1,b2⟩:=sp hb e2;split
  ·rename_i o e3;refine Pp e3 fun v hv=>?_;rcases A3.1 hv with hv | hv
   ·rcases A3.1 hv with hv | hv
    ·exact a2 v hv
    ·exact b2 v hv
   ·rw[Ai.1 hv];exact a1
  ·exact .nil U
 ·exact .nil U
def J7(x:List Rl)(roots:List Rq)(l:List Nf):List ByteArray:=(x.map (·.path))++((x.map (·.reqs)).flatten.map (·.path)++(roots.map (·.path)++l.map (·.path)))
theorem bX{x:List Rl}{roots:List Rq}{l:List Nf}{d:List (List Tm)}{i:Nf}(hi:i∈l)(hd:∀t∈d,Uh (J7 x roots l) t){t:List Tm}(h:DR x roots d i=some t):Uh (J7 x roots l) t:=by
 have hp:i.path∈J7 x roots l:=by
  unfold J7;exact Bl _ (Bl _ (Bl _ (Am.2 ⟨i,hi,rfl⟩)))
 have nz:∀{α:Type} {l:List α} {k:Int} {a:α},Jj l k=some a→a∈l:=by
  intro α l k a h;unfold Jj at h;split at h
  ·cases h
  ·exact Av h
 have n0:∀{a b:List Tm},cp a=some b→b=a:=by
  intro a b h;unfold cp at h;split at h
  ·cases h
  ·cases h;rfl
 unfold DR at h;split at h
 ·split at h
  ·cases e:Jj roots i.number with
   |none=>rw[e]at h;cases h
   |some q =>
    rw[e]at h;cases h;refine Ti fun u hu=>?_;rw[Ai.1 hu];unfold J7;exact Bl _ (Bl _ (Bi _ (Am.2 ⟨q,nz e,rfl⟩)))
  ·cases h
 split at h
 ·split at h
  ·cases e:OS x i.path i.place with
   |none=>rw[e]at h;cases h
   |some r =>
    rw[e]at h;have h:(match Jj r.reqs i.number with | none=>none | some q=>cp (Ef i.path i.place q))=some t:=h;cases e2:Jj r.reqs i.number with
    |none=>rw[e2]at h;cases h
    |some q =>
     rw[e2]at h;have h:=n0 (show cp (Ef i.path i.place q)=some t from h);subst h;refine Ti fun u hu=>?_;rcases Au.1 hu with rfl | hu
     ·exact hp
     ·rw[Ai.1 hu];unfold J7;refine Bl _ (Bi _ (Am.2 ⟨q,?_,rfl⟩));exact Ep.2 ⟨r.reqs,Am.2 ⟨r,CH e,rfl⟩,nz e2⟩
  ·cases h
 split at h
 ·split at h
  ·have h:=n0 h;subst h;refine Ti fun u hu=>?_;rw[Ai.1 hu];exact hp
  ·cases h
 split at h
 ·split at h
  ·cases e:Jj d i.left with
   |none=>rw[e]at h;cases h
   |some a =>
    cases e2:Jj d i.right with
    |none=>rw[e,e2]at h;cases h
    |some b =>
     rw[e,e2]at h;have h:(if(Bw a b i.path).2=0 then some (Bw a b i.path).1 else none)=some t:=h;split at h
     ·cases h;exact QO (hd a (nz e)) (hd b (nz e2))
     ·cases h
  ·cases h
 ·cases h
structure Cd where
 place:Int
 rel:Rl
structure Nd where
 rq:Rq
 path:ByteArray
 place:Int
 number:Int
structure SS where
 infs:List Nf
 drv:List (List Tm)
 full:Bool
abbrev SO(c:Cd):Sl:=⟨c.rel.path,c.rel.ver⟩
abbrev AK(l:List Cd):List Sl:=l.map SO
def Cp(x:List Rl)(p:ByteArray):List Cd:=(x.filter fun r=>decide (r.path=p)&&!r.yanked).map fun r=>⟨plc r.ver,r⟩
def L5(f:Rq→Nat→Nd):Nat→List Rq→List Nd
 |_,[]=>[]
 |i,q::l=>f q i::L5 f (i+1) l
def Yb(roots:List Rq):List Nd:=L5 (fun q i=>⟨q,mt,0,i⟩) 0 roots
def PP(c:Cd):List Nd:=L5 (fun q i=>⟨q,c.rel.path,c.place,i⟩) 0 c.rel.reqs
def Ds(roots:List Rq)(dec:List Cd):List Nd:=Yb roots++(dec.map PP).flatten
def De(dec:List Cd)(p:ByteArray):Bool:=dec.any fun c=>decide (c.rel.path=p)
def Ee(dec:List Cd)(a:ByteArray×List Nd)(n:Nd):ByteArray×List Nd :=
 if De dec n.rq.path=true∨(a.2≠[]∧Ff a.1 n.rq.path=true)then a
 else if a.2≠[]∧Ff n.rq.path a.1=true then(n.rq.path,[n])else(n.rq.path,a.2++[n])
def GC(roots:List Rq)(dec:List Cd):ByteArray×List Nd:=(Ds roots dec).foldl (Ee dec) (mt,[])
def ao(l:List Cd)(n:Nd):Bool:=l.any fun d=>decide (d.rel.path=n.rq.path)&&!has n.rq.set d.place
def D3(dec:List Cd)(c:Cd):Option Nd:=(PP c).find? (ao (dec++[c]))
def Ob(s:List Sl):Nat→List (List Tm)→Option Nat
 |_,[]=>none
 |i,t::l=>if CD t s then some i else Ob s (i+1) l
def Oc(d:List (List Tm))(s:List Sl):Option Nat:=Ob s 0 d
def CZ(l:List Tm)(p:ByteArray):Bool:=l.any fun t=>decide (t.path=p)
instance:DecidableEq Nf:=fun a b=>by
 obtain⟨a1,a2,a3,a4,a5,a6⟩:=a;obtain⟨b1,b2,b3,b4,b5,b6⟩:=b;exact decidable_of_iff (a1=b1∧a2=b2∧a3=b3∧a4=b4∧a5=b5∧a6=b6) ⟨fun⟨h1,h2,h3,h4,h5,h6⟩=>by subst h1 h2 h3 h4 h5 h6;rfl,fun h=>by cases h;exact⟨rfl,rfl,rfl,rfl,rfl,rfl⟩⟩
def Ly(i:Nf):Nat→List Nf→Option Nat
 |_,[]=>none
 |k,j::l=>if j=i then some k else Ly i (k+1) l
def D6(s:SS)(i:Nf)(l:List Tm):Nat×SS :=
 match Ly i 0 s.infs with
 |some k=>(k,s)
 |none=>if 65536≤s.infs.length then(s.infs.length-1,⟨s.infs,s.drv,true⟩)else(s.infs.length,⟨s.infs++[i],s.drv++[l],s.full⟩)
def SL(n:Nd):Nf:=if n.path=mt then⟨0,mt,0,n.number,0,0⟩else⟨1,n.path,n.place,n.number,0,0⟩
def IW(n:Nd):List Tm:=if n.path=mt then Jm n.rq else Ef n.path n.place n.rq
def Bm(s:SS)(n:Nd):Nat×SS:=D6 s (SL n) (IW n)
abbrev DN(s:SS)(k:Nat):List Tm:=s.drv.getD k []
def Ck(p:ByteArray):List Nat→Nat→SS→Nat×SS
 | [],k,s=>(k,s)
 |r::l,k,s =>
  if s.full=true∨CZ (DN s k) p=false then(k,s)
  else if r=k then Ck p l k s
  else if(Bw (DN s k) (DN s r) p).2≠0 then Ck p l k s
  else Ck p l (D6 s ⟨3,p,0,0,k,r⟩ (Bw (DN s k) (DN s r) p).1).1 (D6 s ⟨3,p,0,0,k,r⟩ (Bw (DN s k) (DN s r) p).1).2
def Eh(x:List Rl)(p:ByteArray)(s:SS):Nat×SS:=D6 s ⟨2,p,0,0,0,0⟩ (HR p (B8 x p))
def DY(x:List Rl)(p:ByteArray)(n:Nd)(FQ:List Nat)(s:SS):Nat×SS :=
 Ck p ((Eh x p (Bm s n).2).1::FQ) (Bm s n).1 (Eh x p (Bm s n).2).2
structure JT where
 res:Nat
 found:Bool
 ss:SS
 dec:List Cd
 stack:List (List Sk)
def DX(rec:List Cd→SS→List (List Sk)→JT)(x:List Rl)(p:ByteArray)(needs:List Nd)(n0:Nd)(dec:List Cd)(stack:List (List Sk)):List Cd→SS→List Nat→List Sk→JT
 | [],s,FQ,_=>⟨(DY x p n0 FQ s).1,false,(DY x p n0 FQ s).2,dec,stack⟩
 |c::cs,s,FQ,skips =>
  let after (k:Nat) (s:SS):JT:=if CZ (DN s k) p=false then⟨k,false,s,dec,stack⟩else DX rec x p needs n0 dec stack cs s (FQ++[k]) (skips++[⟨p,c.place,k⟩])
  if s.full=true then⟨0,false,s,dec,stack⟩
  else match needs.find? fun n=>!has n.rq.set c.place with
   |some n=>DX rec x p needs n0 dec stack cs (Bm s n).2 (FQ++[(Bm s n).1]) skips
   |none=>match Oc s.drv (AK (dec++[c]))with
    |some k=>after k s
    |none=>match D3 dec c with
     |some n=>after (Bm s n).1 (Bm s n).2
     |none =>
      let o:=rec (dec++[c]) s (stack++[skips])
      if o.found=true then⟨0,true,o.ss,o.dec,o.stack⟩
      else if o.ss.full=true then⟨0,false,o.ss,dec,stack⟩
      else after o.res o.ss
def Da(x:List Rl)(roots:List Rq):Nat→List Cd→SS→List (List Sk)→JT
 |0,dec,s,stack=>⟨0,false,s,dec,stack⟩
 |n+1,dec,s,stack=>match(GC roots dec).2 with
  | []=>⟨0,true,s,dec,stack⟩
  |n0::l=>DX (Da x roots n) x (GC roots dec).1 (n0::l) n0 dec stack (Cp x (GC roots dec).1) s [] []
abbrev sH:SS:=⟨[],[],false⟩
def Qx(x:List Rl)(dec:List Cd):Nat:=(x.filter fun r=>!r.yanked&&!De dec r.path).length
def FH(x:List Rl)(roots:List Rq):JT:=Da x roots (x.length+1) [] sH []
theorem OP(f:Rq→Nat→Nd):∀(l:List Rq) (i k:Nat),(L5 f i l)[k]?=(l[k]?).map fun q=>f q (i+k)
 | [],i,k=>by simp[L5]
 |q::l,i,0=>by simp[L5]
 |q::l,i,k+1=>by
  have h:=OP f l (i+1) k;simp only[L5,GK,h];rw[show i+1+k=i+(k+1) by omega]
theorem KB(f:Rq→Nat→Nd):∀(l:List Rq) (i:Nat),(L5 f i l).length=l.length
 | [],_=>rfl
 |_::l,i=>by simp[L5,KB f l (i+1)]
theorem XV{f:Rq→Nat→Nd}{l:List Rq}{n:Nd}(h:n∈L5 f 0 l):∃k q,l[k]?=some q∧n=f q k:=by
 obtain⟨k,hk⟩:=B9.1 h;rw[OP,AZ]at hk;obtain⟨q,h1,h2⟩:=hk;exact⟨k,q,h1,by rw[←h2,Bk]⟩
theorem Rt{f:Rq→Nat→Nd}(hf:∀q i,(f q i).rq=q):∀(l:List Rq) (i:Nat),(L5 f i l).map (·.rq)=l
 | [],_=>rfl
 |q::l,i=>by simp[L5,hf,Rt hf l (i+1)]
abbrev HG(roots:List Rq)(dec:List Cd):List Rq:=roots++(dec.map fun c=>c.rel.reqs).flatten
theorem My(roots:List Rq)(dec:List Cd):(Ds roots dec).map (·.rq)=HG roots dec:=by
 unfold Ds Yb;rw[AH,Rt (fun _ _=>rfl),RB,BP]
 congr 2
 exact Bf fun c _=>Rt (fun _ _=>rfl) _ _
theorem FP(dec:List Cd)(p:ByteArray):CG (AK dec) p=De dec p:=by
 unfold CG De AK;rw[List.any_map];rfl
theorem Ji(before:List Sl):∀{l:List Rq} {a p:ByteArray},Dt before l (some a)=some p→p=a∨Ff p a=true
 | [],a,p,h=>by cases h;exact .inl rfl
 |q::l,a,p,h=>by
  unfold Dt at h;split at h
  ·exact Ji before h
  ·dsimp only at h;split at h
   ·rename_i hb;rcases Ji before h with e | e
    ·exact .inr (by rw[e];exact hb)
    ·exact .inr (Eb e hb)
   ·exact Ji before h
theorem Is(before:List Sl):∀{l:List Rq} {a:ByteArray},Dt before l (some a)≠none
 | [],a=>by simp[Dt]
 |q::l,a=>by
  unfold Dt;split
  ·exact Is before
  ·dsimp only;split<;>exact Is before
theorem Oj{n:Nd}{p:ByteArray}(e:n.rq.path≠p)(L:List Nd):((n::L).filter fun n=>decide (n.rq.path=p))=L.filter fun n=>decide (n.rq.path=p):=by rw[Eo,Al (by simpa using e)]
theorem VQ{n:Nd}{p:ByteArray}(e:n.rq.path=p)(L:List Nd):((n::L).filter fun n=>decide (n.rq.path=p))=n::L.filter fun n=>decide (n.rq.path=p):=by rw[Eo,Az (by simpa using e)]
theorem MA(dec:List Cd):∀(L:List Nd) (a:ByteArray×List Nd),(a.2≠[]→De dec a.1=false) →
  L.foldl (Ee dec) a=match Dt (AK dec) (L.map (·.rq)) (if a.2=[]then none else some a.1)with
   |none=>a
   |some p=>(p,(if a.2≠[]∧a.1=p then a.2 else [])++L.filter fun n=>decide (n.rq.path=p))
 | [],a,h=>by
  obtain⟨p,o⟩:=a;cases o with
  |nil=>simp[Dt]
  |cons n o=>simp[Dt]
 |n::L,a,h=>by
  obtain⟨p0,o⟩:=a;rw[Fv,AP];have qF:∀(acc:Option ByteArray) (l:List Rq),(∀p,acc=some p→De dec p=false)→∀p,Dt (AK dec) l acc=some p→De dec p=false:=fun acc l ha p hp=>by
   have:=((JN (AK dec) (l:=l) (acc:=acc) (fun p e=>by rw[FP];exact ha p e)).1 p hp).1
   rw[FP]at this;exact this
  cases hd:De dec n.rq.path with
  |true =>
   have e1:Ee dec (p0,o) n=(p0,o):=by unfold Ee;rw[Az (.inl hd)]
   have e2:Dt (AK dec) (n.rq::L.map (·.rq)) (if o=[]then none else some p0)=Dt (AK dec) (L.map (·.rq)) (if o=[]then none else some p0):=by
    conv=>lhs;unfold Dt
    rw[Az (by rw[FP];exact hd)]
   rw[e1,e2,MA dec L (p0,o) h];dsimp only;cases hg:Dt (AK dec) (L.map (·.rq)) (if o=[]then none else some p0)with
   |none=>rfl
   |some p =>
    dsimp only;have hp:=qF _ _ (fun q e=>by
     split at e
     ·cases e
     ·rename_i ho;cases e;exact h ho) p hg
    have DD:n.rq.path≠p:=fun e=>by rw[e,hp]at hd;cases hd
    rw[Oj DD]
  |false =>
   have QY:CG (AK dec) n.rq.path=false:=by rw[FP];exact hd
   by_cases ho:o=[]
   ·subst ho;have e1:Ee dec (p0,[]) n=(n.rq.path,[n]):=by
     unfold Ee;rw[Al (by simp[hd]),Al (by simp)];rfl
    have e2:Dt (AK dec) (n.rq::L.map (·.rq)) none=Dt (AK dec) (L.map (·.rq)) (some n.rq.path):=by
     conv=>lhs;unfold Dt
     rw[Al (by rw[QY];decide)]
    rw[e1,MA dec L (n.rq.path,[n]) (fun _=>hd),Az rfl,e2];rw[Al (by simp)];cases hg:Dt (AK dec) (L.map (·.rq)) (some n.rq.path)with
    |none=>exact absurd hg (Is _)
    |some p =>
     dsimp only;rw[Al (show ¬(([]:List Nd)≠[]∧p0=p)from fun h=>h.1 rfl)]
     by_cases e:n.rq.path=p
     ·rw[VQ e,Az ⟨by simp,e⟩];rfl
     ·rw[Oj e,Al (fun h=>e h.2)]
   ·have xo:(if o=[]then none else some p0)=some p0:=Al ho;rw[xo];cases hb:Ff p0 n.rq.path with
    |true =>
     have e1:Ee dec (p0,o) n=(p0,o):=by unfold Ee;rw[Az (.inr ⟨ho,hb⟩)]
     have T2:Ff n.rq.path p0=false:=Pn hb;have e2:Dt (AK dec) (n.rq::L.map (·.rq)) (some p0)=Dt (AK dec) (L.map (·.rq)) (some p0):=by
      conv=>lhs;unfold Dt
      rw[Al (by rw[QY];decide)];dsimp only;rw[Al (by rw[T2];decide)]
     rw[e1,e2,MA dec L (p0,o) h];dsimp only;rw[xo];cases hg:Dt (AK dec) (L.map (·.rq)) (some p0)with
     |none=>rfl
     |some p =>
      dsimp only;have DD:n.rq.path≠p:=fun e=>by
       rcases Ji _ hg with e3 | e3
       ·rw[e,e3,CY]at hb;cases hb
       ·rw[e,Pn e3]at hb;cases hb
      rw[Oj DD]
    |false =>
     cases T2:Ff n.rq.path p0 with
     |true =>
      have e1:Ee dec (p0,o) n=(n.rq.path,[n]):=by
       unfold Ee;rw[Al (by simp[hd,hb]),Az ⟨ho,T2⟩]
      have e2:Dt (AK dec) (n.rq::L.map (·.rq)) (some p0)=Dt (AK dec) (L.map (·.rq)) (some n.rq.path):=by
       conv=>lhs;unfold Dt
       rw[Al (by rw[QY];decide)];dsimp only;rw[Az T2]
      rw[e1,e2,MA dec L (n.rq.path,[n]) (fun _=>hd),Al (by simp)];cases hg:Dt (AK dec) (L.map (·.rq)) (some n.rq.path)with
      |none=>exact absurd hg (Is _)
      |some p =>
       dsimp only;have DD:p0≠p:=fun e=>by
        rcases Ji _ hg with e3 | e3
        ·rw[e,e3,CY]at T2;cases T2
        ·rw[e]at T2;rw[Pn e3]at T2;cases T2
       rw[Al (show ¬(o≠[]∧p0=p)from fun h=>DD h.2)]
       by_cases e:n.rq.path=p
       ·rw[VQ e,Az ⟨by simp,e⟩];rfl
       ·rw[Oj e,Al (fun h=>e h.2)]
     |false =>
      have e0:n.rq.path=p0:=Hp T2 hb;have e1:Ee dec (p0,o) n=(p0,o++[n]):=by
       unfold Ee;rw[Al (by simp[hd,hb]),Al (by simp[T2]),e0]
      have e2:Dt (AK dec) (n.rq::L.map (·.rq)) (some p0)=Dt (AK dec) (L.map (·.rq)) (some p0):=by
       conv=>lhs;unfold Dt
       rw[Al (by rw[QY];decide)];dsimp only;rw[Al (by rw[T2];decide)]
      rw[e1,e2,MA dec L (p0,o++[n]) (fun _=>by rw[←e0];exact hd),Al (by simp)];cases hg:Dt (AK dec) (L.map (·.rq)) (some p0)with
      |none=>exact absurd hg (Is _)
      |some p =>
       dsimp only
       by_cases e:p0=p
       ·rw[VQ (e0.trans e),Az ⟨by simp,e⟩,Az ⟨ho,e⟩,AO];rfl
       ·rw[Oj (fun h=>e (e0.symm.trans h)),Al (fun h=>e h.2),Al (fun h=>e h.2)]
theorem Tc(roots:List Rq)(dec:List Cd):GC roots dec=match Kz (HG roots dec) (AK dec)with
  |none=>(mt,[])
  |some p=>(p,(Ds roots dec).filter fun n=>decide (n.rq.path=p)):=by
 unfold GC Kz;rw[MA dec _ (mt,[]) (fun h=>absurd rfl h),Az rfl,My];cases Dt (AK dec) (HG roots dec) none with
 |none=>rfl
 |some p=>dsimp only;rw[Al (by simp)];rfl
theorem Td{roots:List Rq}{dec:List Cd}:(GC roots dec).2=[]↔Kz (HG roots dec) (AK dec)=none:=by
 rw[Tc];cases h:Kz (HG roots dec) (AK dec)with
 |none=>simp
 |some p =>
  simp only[reduceCtorEq,iff_false];obtain⟨_,q,hq,e⟩:=Te h;rw[←My]at hq;obtain⟨n,hn,rfl⟩:=Am.1 hq;exact List.ne_nil_of_mem (Bx.2 ⟨hn,by simpa using e⟩)
structure og(roots:List Rq)(dec:List Cd)(p:ByteArray)(l:List Nd):Prop where
 next:Kz (HG roots dec) (AK dec)=some p
 undone:De dec p=false
 mem:∀n,n∈l↔n∈Ds roots dec∧n.rq.path=p
theorem NH{roots:List Rq}{dec:List Cd}{n0:Nd}{l:List Nd}(h:(GC roots dec).2=n0::l):og roots dec (GC roots dec).1 (n0::l):=by
 rw[←h];rw[Tc]at *
 cases hp:Kz (HG roots dec) (AK dec)with
 |none=>rw[hp]at h;cases h
 |some p =>
  dsimp only;refine⟨hp,by rw[←FP];exact(Te hp).1,fun n=>?_⟩;rw[Bx];simp
theorem KO{x:List Rl}{p:ByteArray}{c:Cd}:c∈Cp x p↔∃r∈x,r.path=p∧r.yanked=false∧c=⟨plc r.ver,r⟩:=by
 unfold Cp;simp only[Am,Bx,Ag,AA,CQ];constructor
 ·rintro⟨r,⟨h1,h2,h3⟩,rfl⟩;exact⟨r,h1,h2,h3,rfl⟩
 ·rintro⟨r,h1,h2,h3,rfl⟩;exact⟨r,⟨h1,h2,h3⟩,rfl⟩
theorem MF{i:Nf}:∀{l:List Nf} {k m:Nat},Ly i k l=some m→∃j,m=k+j∧l[j]?=some i
 | [],_,_,h=>by cases h
 |y::l,k,m,h=>by
  unfold Ly at h;split at h
  ·rename_i e;cases h;exact⟨0,rfl,by rw[←e];rfl⟩
  ·obtain⟨j,h1,h2⟩:=MF h;exact⟨j+1,by omega,h2⟩
theorem PM{i:Nf}:∀{l:List Nf} {k:Nat},Ly i k l=none→i∉l
 | [],_,_=>by simp
 |y::l,k,h=>by
  unfold Ly at h;split at h
  ·cases h
  ·rename_i e
   have:=PM h
   simp only[Au,not_or];exact⟨fun e'=>e e'.symm,this⟩
theorem QJ{α:Type}{d d' : List α}{i:Int}{a:α}(h:Jj d i=some a)(hp:d <+: d'):Jj d' i=some a:=by
 unfold Jj at *
 split at h
 ·cases h
 ·rename_i hi;rw[Al hi];obtain⟨t,rfl⟩:=hp;rw[AY (As.1 h).1];exact h
theorem Xz{x:List Rl}{roots:List Rq}{d d' : List (List Tm)}{i:Nf}{o:List Tm}(h:DR x roots d i=some o)(hp:d <+: d'):DR x roots d' i=some o:=by
 unfold DR at *
 split
 ·rename_i e;rw[Az e]at h;exact h
 rename_i e0;rw[Al e0]at h;split
 ·rename_i e;rw[Az e]at h;exact h
 rename_i e1;rw[Al e1]at h;split
 ·rename_i e;rw[Az e]at h;exact h
 rename_i e2;rw[Al e2]at h;split
 ·rename_i e;rw[Az e]at h;split
  ·rename_i e4;rw[Az e4]at h;cases ha:Jj d i.left with
   |none=>rw[ha]at h;cases h
   |some a =>
    cases hb:Jj d i.right with
    |none=>rw[ha,hb]at h;cases h
    |some b =>
     rw[ha,hb]at h;rw[QJ ha hp,QJ hb hp];exact h
  ·rename_i e4;rw[Al e4]at h;cases h
 ·rename_i e;rw[Al e]at h;cases h
structure Fk(x:List Rl)(roots:List Rq)(s:SS):Prop where
 der:Dd x roots s.infs []=some s.drv
 len:s.infs.length≤65536
theorem Fk.dlen{x:List Rl}{roots:List Rq}{s:SS}(h:Fk x roots s):s.drv.length=s.infs.length:=by simpa using IS h.der
theorem Fk.nil(x:List Rl)(roots:List Rq):Fk x roots sH:=⟨rfl,by simp⟩
theorem Fk.at{x:List Rl}{roots:List Rq}{s:SS}(h:Fk x roots s){k:Nat}{i:Nf}(hk:s.infs[k]?=some i):DR x roots s.drv i=some (s.drv.getD k []):=by
 have h1:=MT h.der (k+1);have h0:=MT h.der k;have DI:=(As.1 hk).1;rw[Bu,hk,GT,h0]at h1;have h1:Dd x roots [i] (s.drv.take k)=some (s.drv.take (k+1)):=h1;unfold Dd at h1;cases hi:DR x roots (s.drv.take k) i with
 |none=>rw[hi]at h1;cases h1
 |some t =>
  rw[hi]at h1;have h1:some (s.drv.take k++[t])=some (s.drv.take (k+1)):=h1;have hd:k<s.drv.length:=by rw[h.dlen];exact DI
  have:t=s.drv[k]:=by
   have h2:=BM h1;rw[Ke hd]at h2;exact List.singleton_inj.1 (List.append_cancel_left h2)
  rw[Xz hi (List.take_prefix ..),this];simp[List.getD_eq_getElem?_getD,hd]
structure Grow(s s' : SS):Prop where
 pre:s.drv <+: s'.drv
 preI:s.infs <+: s'.infs
 full:s.full=true→s'.full=true
theorem Grow.refl(s:SS):Grow s s:=⟨MJ,MJ,id⟩
theorem Grow.trans{a b c:SS}(h:Grow a b)(k:Grow b c):Grow a c:=⟨h.pre.trans k.pre,h.preI.trans k.preI,fun e=>k.full (h.full e)⟩
theorem Grow.at{s s' : SS}(h:Grow s s'){k:Nat}(hk:k<s.drv.length):DN s' k=DN s k:=by
 obtain⟨t,e⟩:=h.pre;unfold DN;rw[←e,Ci,Ci,AY hk]
theorem Grow.len{s s' : SS}(h:Grow s s'):s.drv.length≤s'.drv.length:=h.pre.length_le
theorem Kl(s:SS)(i:Nf)(l:List Tm):Grow s (D6 s i l).2:=by
 unfold D6;split
 ·exact .refl s
 ·split
  ·exact⟨MJ,MJ,fun _=>rfl⟩
  ·exact⟨NV ..,NV ..,id⟩
theorem Kk{x:List Rl}{roots:List Rq}{s:SS}(h:Fk x roots s){i:Nf}{l:List Tm}(hi:DR x roots s.drv i=some l) :
  Fk x roots (D6 s i l).2∧(D6 s i l).1<(D6 s i l).2.drv.length∧((D6 s i l).2.full=false→DN (D6 s i l).2 (D6 s i l).1=l):=by
 have hdl:=h.dlen;unfold D6;split
 ·rename_i k hk;obtain⟨j,e,hj⟩:=MF hk
  have:k=j:=by omega
  subst this;have DI:=(As.1 hj).1;refine⟨h,by show k<s.drv.length;omega,fun _=>?_⟩
  have:=h.at hj
  rw[hi]at this;exact(BM this).symm
 ·rename_i hk;split
  ·rename_i hf;exact⟨⟨h.der,h.len⟩,by show s.infs.length-1<s.drv.length;omega,fun e=>by cases e⟩
  ·rename_i hf;refine⟨⟨?_,by show(s.infs++[i]).length≤65536;rw[Ad];simp;omega⟩,by show s.infs.length<(s.drv++[l]).length;rw[Ad];simp;omega,fun _=>?_⟩
   ·show Dd x roots (s.infs++[i]) []=some (s.drv++[l]);rw[GT,h.der];show Dd x roots [i] s.drv=_;unfold Dd;rw[hi];rfl
   ·show(s.drv++[l]).getD s.infs.length []=l;rw[←hdl];simp[List.getD_eq_getElem?_getD]
theorem Sb(S:List Sl):∀{l:List (List Tm)} {i k:Nat},Ob S i l=some k→∃j,k=i+j∧∃t,l[j]?=some t∧CD t S=true
 | [],_,_,h=>by cases h
 |t::l,i,k,h=>by
  unfold Ob at h;split at h
  ·rename_i e;cases h;exact⟨0,rfl,t,rfl,e⟩
  ·obtain⟨j,h1,t',h2,h3⟩:=Sb S h;exact⟨j+1,by omega,t',h2,h3⟩
theorem Kr{d:List (List Tm)}{S:List Sl}{k:Nat}(h:Oc d S=some k):k<d.length∧CD (d.getD k []) S=true:=by
 obtain⟨j,h1,t,h2,h3⟩:=Sb S h
 have:k=j:=by omega
 subst this;refine⟨(As.1 h2).1,?_⟩;rw[Ci,h2];exact h3
end Go.Eng
