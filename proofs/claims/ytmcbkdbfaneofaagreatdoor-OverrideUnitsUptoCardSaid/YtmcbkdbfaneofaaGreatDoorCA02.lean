/- Lemmas for the claims of this seat, without a condition: part 2 (P8, P9, P10, P11, P12, P13, P14, Q1, Q2). -/
import Derived.Test.YtmcbkdbfaneofaaGreatDoorCA01
import Derived.Lib.SplitLaws
import Derived.Lib.IndexBytes
namespace Go.Eng
def CO(l:Bl):Bl:=(l.map Hb).filter fun x=>decide (x.1<x.2)
theorem Oa(a b:Bl):CO (a++b)=CO a++CO b:=by unfold CO;rw[AH,Eg]
theorem UA{l:Bl}{x:Int×Int}(h:x∈CO l):0≤x.1∧x.1<x.2∧x.2≤1000000:=by
 unfold CO at h;rw[BK,Am]at h;obtain⟨⟨y,_,rfl⟩,h2⟩:=h;have h2:=BJ h2;refine⟨?_,h2,?_⟩<;>simp only[Hb]<;>omega
theorem bt(l:Bl)(p:Int):(CO l).any (BI p)=has l p:=by
 rw[←Kg]
 induction l with
 |nil=>rfl
 |cons x r ih =>
  have e:CO (x::r)=(if(Hb x).1<(Hb x).2 then [Hb x]else [])++CO r:=by
   unfold CO;rw[AP,Ek]
   by_cases h:(Hb x).1<(Hb x).2<;>simp[h]
  have ec:canon (x::r)=if(Hb x).1<(Hb x).2 then VB (Hb x) (canon r)else canon r:=rfl
  rw[e,Hf,ih,ec]
  by_cases h:(Hb x).1<(Hb x).2
  ·rw[Aw h,Aw h,N1 _ p (Cn r) h];simp
  ·rw[Ak h,Ak h];simp
theorem Nj:∀{l:Bl} {lo:Int},EC lo l↔(∀y∈l,lo≤y.1∧y.1<y.2∧y.2≤1000000)∧l.Pairwise fun a b=>a.2<b.1
 | [],lo=>by simp[EC]
 |y::r,lo=>by
  rw[BQ];constructor
  ·intro h;have hl:=h.low;refine⟨hl,fun z hz=>?_,((Nj (l:=r)).1 h.2.2.2).2⟩
   have:=h.2.2.2.low z hz;omega
  ·intro⟨h1,h2,h3⟩;have hy:=h1 y (Aa ..);refine⟨hy.1,hy.2.1,hy.2.2,Nj.2 ⟨fun z hz=>?_,h3⟩⟩
   have:=h1 z (Af _ hz)
   have:=h2 z hz
   omega
def KA(r:Bl)(x:Int×Int):Bl:=match r with
 | []=>[x]
 |y::t=>if x.1≤y.2 then(y.1,max y.2 x.2)::t else x::y::t
def BB(s:Bl):Bl:=s.foldl KA []
theorem F9(s:Bl)(i:Nat)(h:i<s.length):BB (s.take (i+1))=KA (BB (s.take i)) s[i]:=by
 unfold BB;rw[Bs,Ay h,J4];rfl
theorem c8(r:Bl)(x:Int×Int):(KA r x).length≤r.length+1∧r.length≤(KA r x).length∧0<(KA r x).length:=by
 unfold KA;split
 ·simp
 ·split<;>simp
theorem S7(s:Bl):∀i,i≤s.length→(BB (s.take i)).length≤i∧(0<i→0<(BB (s.take i)).length):=by
 intro i
 induction i with
 |zero=>intro _;simp[BB]
 |succ i ih =>
  intro h;rw[F9 s i (by omega)]
  have:=c8 (BB (s.take i)) s[i]
  have:=ih (by omega)
  omega
structure lP(r done:Bl):Prop where
 ok:∀y∈r,0≤y.1∧y.1<y.2∧y.2≤1000000
 pw:r.Pairwise fun a b=>b.2<a.1
 has:∀p,r.any (BI p)=done.any (BI p)
 first:∀y t,r=y::t→∃x∈done,y.1=x.1
theorem cZ{r done:Bl}{x:Int×Int}(h:lP r done)(hx:0≤x.1∧x.1<x.2∧x.2≤1000000)(hs:∀y∈done,y.1≤x.1):lP (KA r x) (done++[x]):=by
 unfold KA;split
 ·refine⟨fun y hy=>?_,by simp,fun p=>?_,fun y t e=>?_⟩
  ·rw[Al.1 hy];exact hx
  ·rw[Hf,←h.has];rfl
  ·cases e;exact⟨x,by simp,rfl⟩
 ·rename_i y t;have hy:=h.ok y (Aa ..);obtain⟨xI,pw2⟩:=BQ.1 h.pw;obtain⟨z,hz,e⟩:=h.first y t rfl
  have ov:=hs z hz;split
  ·rename_i Hc;refine⟨fun u hu=>?_,BQ.2 ⟨xI,pw2⟩,fun p=>?_,fun u t' e'=>?_⟩
   ·rcases Au.1 hu with rfl | hu
    ·exact⟨hy.1,by dsimp only;omega,by dsimp only;omega⟩
    ·exact h.ok u (Af _ hu)
   ·rw[Hf,←h.has,Cc,Cc,Cc,List.any_nil,Bool.or_false]
    have:BI p (y.1,max y.2 x.2)=(BI p y||BI p x):=by
     simp only[BI];rw[BT];simp only[Ag,CB,Az];omega
    rw[this];cases BI p y<;>cases BI p x<;>cases t.any (BI p)<;>rfl
   ·cases e';exact⟨z,Bn _ hz,e⟩
  ·rename_i Hc;refine⟨fun u hu=>?_,BQ.2 ⟨fun u hu=>?_,h.pw⟩,fun p=>?_,fun u t' e'=>?_⟩
   ·rcases Au.1 hu with rfl | hu
    ·exact hx
    ·exact h.ok u hu
   ·rcases Au.1 hu with rfl | hu
    ·omega
    ·have:=xI u hu;omega
   ·rw[Hf,←h.has,Cc,Cc,Cc,List.any_nil,Bool.or_false];cases BI p y<;>cases BI p x<;>cases t.any (BI p)<;>rfl
   ·cases e';exact⟨x,by simp,rfl⟩
theorem Zc{s:Bl}(Gq:∀y∈s,0≤y.1∧y.1<y.2∧y.2≤1000000)(hs:s.Pairwise fun a b=>a.1≤b.1):∀i,i≤s.length→lP (BB (s.take i)) (s.take i):=by
 intro i
 induction i with
 |zero=>intro _;exact⟨fun _ h=>by simp[BB]at h,by simp[BB],fun p=>by simp[BB],fun y t e=>by simp[BB]at e⟩
 |succ i ih =>
  intro h;have hi:i<s.length:=by omega
  rw[F9 s i hi];have e:s.take (i+1)=s.take i++[s[i]]:=by rw[Bs,Ay hi];rfl
  rw[e];refine cZ (ih (by omega)) (Gq _ (Aq hi)) fun y hy=>?_;obtain⟨j,hj,rfl⟩:=DP.1 hy;rw[J5];rw[AJ]at hj;exact(Bh.1 hs) j i (by omega) hi (by omega)
theorem QW{l s:Bl}(hp:s.Perm (CO l))(hs:s.Pairwise fun a b=>a.1≤b.1):(BB s).reverse=canon l:=by
 have hi:=Zc (s:=s) (fun y hy=>UA (hp.mem_iff.1 hy)) hs s.length (Aj _);rw[Du]at hi;have hc:Ew (BB s).reverse:=by
  unfold Ew;rw[Nj];refine⟨fun y hy=>hi.ok y (List.mem_reverse.1 hy),?_⟩;rw[List.pairwise_reverse];exact hi.pw
 refine RS hc fun p=>?_;rw[Hp hc,List.any_reverse,hi.has,←bt];rw[BT,Ba,Ba];constructor
 ·rintro⟨y,h1,h2⟩;exact⟨y,hp.mem_iff.1 h1,h2⟩
 ·rintro⟨y,h1,h2⟩;exact⟨y,hp.mem_iff.2 h1,h2⟩
-- maps from numbers to numbers,as lists in the order in which they are met
def E9(m:List (Int×Int))(k:Int):Int:=match m.find? (fun p=>decide (p.1=k))with | some p=>p.2 | none=>0
def K7(m:List (Int×Int))(k v:Int):List (Int×Int):=if m.any (fun p=>decide (p.1=k))then m.map (fun p=>if p.1=k then(k,v)else p)else m++[(k,v)]
theorem G7(p:Int×Int)(m:List (Int×Int))(k:Int):E9 (p::m) k=if p.1=k then p.2 else E9 m k:=by
 unfold E9;rw[Fl];by_cases h:p.1=k<;>simp[h]
theorem Pb(m:List (Int×Int))(k v j:Int):E9 (K7 m k v) j=if j=k then v else E9 m j:=by
 unfold K7;split
 ·rename_i h
  induction m with
  |nil=>simp at h
  |cons p m ih =>
   rw[AP,G7,G7]
   by_cases e:p.1=k
   ·rw[Aw e];dsimp only
    by_cases ej:j=k
    ·subst ej;simp
    ·rw[Ak (fun c=>ej c.symm),Ak ej,Ak (fun c=>ej (c.symm.trans e))]
     by_cases hm:(m.any fun p=>decide (p.1=k))=true
     ·rw[ih hm,Ak ej]
     ·have:∀q∈m,q.1≠k:=fun q hq e=>hm (Ba.2 ⟨q,hq,by simp[e]⟩)
      have:m.map (fun p=>if p.1=k then(k,v)else p)=m:=by
       conv=>rhs;rw[←Jw m]
       exact Be fun q hq=>by simp[this q hq]
      rw[this]
   ·rw[Ak e];have hm:(m.any fun p=>decide (p.1=k))=true:=by simpa[e]using h
    rw[ih hm]
    by_cases ej:j=k
    ·subst ej;simp[e]
    ·simp[ej]
 ·rename_i h;have hn:∀q∈m,q.1≠k:=fun q hq e=>h (Ba.2 ⟨q,hq,by simp[e]⟩)
  induction m with
  |nil =>
   rw[D6,G7]
   by_cases ej:j=k
   ·simp[ej]
   ·have:¬k=j:=fun c=>ej c.symm
    simp[ej,this]
  |cons p m ih =>
   rw[It,G7,G7];have e:=hn p (Aa ..);have ih:=ih (by simpa[e]using h) fun q hq=>hn q (Af _ hq)
   by_cases ep:p.1=j
   ·have:¬j=k:=fun c=>e (ep.trans c)
    simp[ep,this]
   ·simp only[ep,F8];exact ih
def EU(m:List (Int×Int)):List Int:=m.map (·.1)
theorem UX(m:List (Int×Int))(k v:Int):EU (K7 m k v)=if k∈EU m then EU m else EU m++[k]:=by
 unfold K7 EU;have e:(m.any fun p=>decide (p.1=k))=decide (k∈m.map (·.1)):=by
  rw[BT];simp only[Ba,Az,Am]
 rw[e]
 by_cases h:k∈m.map (·.1)
 ·simp only[h,decide_true,QD,BN];apply Be;intro p _;simp only[Function.comp];split
  ·rename_i e;exact e.symm
  ·rfl
 ·simp[h]
theorem LV{m:List (Int×Int)}(h:(EU m).Nodup)(k v:Int):(EU (K7 m k v)).Nodup:=by
 rw[UX];split
 ·exact h
 ·rename_i hn;rw[F0];exact⟨h,by simp,fun a ha b hb e=>by subst e;rw[Al.1 hb]at ha;exact hn ha⟩
theorem HW(m:List (Int×Int))(k v j:Int):j∈EU (K7 m k v)↔j=k∨j∈EU m:=by
 rw[UX];split
 ·rename_i h;constructor
  ·exact .inr
  ·rintro(rfl | h')
   ·exact h
   ·exact h'
 ·simp[or_comm]
theorem iu{m:List (Int×Int)}(h:(EU m).Nodup){p:Int×Int}(hp:p∈m):E9 m p.1=p.2:=by
 induction m with
 |nil=>cases hp
 |cons q m ih =>
  rw[G7];unfold EU at h ih;rw[AP,CT]at h;rcases Au.1 hp with rfl | hp
  ·simp
  ·have:¬q.1=p.1:=fun e=>h.1 (e▸Am.2 ⟨p,hp,rfl⟩)
   rw[Ak this];exact ih h.2 hp
theorem iv{m:List (Int×Int)}{k:Int}(h:k∉EU m):E9 m k=0:=by
 unfold E9
 have:m.find? (fun p=>decide (p.1=k))=none:=by
  rw[ES];intro p hp;simp only[Az];exact fun e=>h (Am.2 ⟨p,hp,e⟩)
 rw[this]
-- counting
def cF(S:Bl)(k:Int):Nat:=S.countP fun x=>decide (x.1=k)
def cT(S:Bl)(k:Int):Nat:=S.countP fun x=>decide (x.2=k)
def lF(S:Bl)(k:Int):Nat:=S.countP fun x=>decide (x.1≤k)
def lT(S:Bl)(k:Int):Nat:=S.countP fun x=>decide (x.2≤k)
theorem IL{α:Type}{p q r:α→Bool}:∀{l:List α},(∀x∈l,(p x=true↔q x=true∨r x=true)∧¬(q x=true∧r x=true))→l.countP p=l.countP q+l.countP r
 | [],_=>rfl
 |x::l,h=>by
  have ih:=IL fun y hy=>h y (Af _ hy);obtain⟨h1,h2⟩:=h x (Aa ..);rw[Iu,Iu,Iu,ih];cases hp:p x<;>cases hq:q x<;>cases hr:r x<;>simp_all<;>omega
structure Ib(m:List (Int×Int))(S:Bl):Prop where
 nd:(EU m).Nodup
 val:∀k,E9 m k=(cF S k:Int)-cT S k
 keys:0∈EU m∧1000000∈EU m∧∀x∈S,x.1∈EU m∧x.2∈EU m
 rng:∀k∈EU m,0≤k∧k≤1000000
def ph:List (Int×Int):=[(0,0),(1000000,0)]
theorem jf:Ib ph []:=⟨by decide,fun k=>by
  unfold ph;rw[G7,G7];simp[E9,cF,cT],⟨by decide,by decide,fun _ h=>by cases h⟩,fun k hk=>by
  unfold ph EU at hk;simp at hk;omega⟩
def Yc(m:List (Int×Int))(x:Int×Int):List (Int×Int):=K7 (K7 m x.1 (E9 m x.1+1)) x.2 (E9 (K7 m x.1 (E9 m x.1+1)) x.2-1)
theorem cY{m:List (Int×Int)}{S:Bl}{x:Int×Int}(h:Ib m S)(hx:0≤x.1∧x.1<x.2∧x.2≤1000000):Ib (Yc m x) (S++[x]):=by
 unfold Yc;refine⟨LV (LV h.nd _ _) _ _,fun k=>?_,⟨?_,?_,fun y hy=>?_⟩,fun k hk=>?_⟩
 ·rw[Pb,Pb,Pb,h.val,h.val,h.val];unfold cF cT;simp only[List.countP_append,List.countP_singleton,Az]
  by_cases e1:k=x.2
  ·subst e1
   have:¬x.2=x.1:=by omega
   have:¬x.1=x.2:=by omega
   simp[*];omega
  ·by_cases e2:k=x.1
   ·subst e2
    have:¬x.2=x.1:=by omega
    have:¬x.1=x.2:=by omega
    simp[*];omega
   ·have a1:¬x.1=k:=fun c=>e2 c.symm;have a2:¬x.2=k:=fun c=>e1 c.symm;simp[e1,e2,a1,a2]
 ·rw[HW,HW];exact .inr (.inr h.keys.1)
 ·rw[HW,HW];exact .inr (.inr h.keys.2.1)
 ·simp only[HW];rcases A6.1 hy with hy | hy
  ·have:=h.keys.2.2 y hy
   exact⟨.inr (.inr this.1),.inr (.inr this.2)⟩
  ·rw[Al.1 hy];exact⟨.inr (.inl rfl),.inl rfl⟩
 ·rw[HW,HW]at hk;rcases hk with rfl | rfl | hk
  ·omega
  ·omega
  ·exact h.rng k hk
def Iq(m:List (Int×Int))(B:List Int):Int:=(B.map (E9 m)).foldl (·+·) 0
theorem Qc(m:List (Int×Int))(B:List Int)(i:Nat)(h:i<B.length):Iq m (B.take (i+1))=Iq m (B.take i)+E9 m B[i]:=by
 unfold Iq;rw[Bs,Ay h,AH,J4];simp only[Option.toList_some,AP,EW,Fo,List.foldl_nil]
structure iM(B:List Int)(m:List (Int×Int)):Prop where
 perm:B.Perm (EU m)
 srt:B.Pairwise fun a b=>a<b
theorem aL{m:List (Int×Int)}{S:Bl}{B:List Int}(h:Ib m S)(hB:iM B m):∀i (hi:i<B.length),Iq m (B.take (i+1))=(lF S B[i]:Int)-lT S B[i]:=by
 have mem:∀k,k∈EU m→∃j,∃hj:j<B.length,B[j]=k:=fun k hk=>by
  have:=hB.perm.mem_iff.2 hk
  obtain⟨j,hj,e⟩:=DP.1 this;exact⟨j,hj,e⟩
 have lt:∀i j (hi:i<B.length) (hj:j<B.length),i<j→B[i]<B[j]:=fun i j hi hj UO=>(Bh.1 hB.srt) i j hi hj UO;intro i
 induction i with
 |zero =>
  intro hi;rw[Qc m B 0 hi,h.val]
  have:Iq m (B.take 0)=0:=by simp[Iq]
  rw[this];have low:∀k∈EU m,B[0]≤k:=fun k hk=>by
   obtain⟨j,hj,rfl⟩:=mem k hk;cases j with
   |zero=>exact AX _
   |succ j=>have:=lt 0 (j+1) hi hj (by omega);omega
  have e1:lF S B[0]=cF S B[0]:=by
   unfold lF cF;apply Qk;intro x hx
   have:=low _ (h.keys.2.2 x hx).1
   simp only[Az];omega
  have e2:lT S B[0]=cT S B[0]:=by
   unfold lT cT;apply Qk;intro x hx
   have:=low _ (h.keys.2.2 x hx).2
   simp only[Az];omega
  rw[e1,e2];omega
 |succ i ih =>
  intro hi;rw[Qc m B (i+1) hi,ih (by omega),h.val];have nb:∀k∈EU m,k≤B[i+1]↔k≤B[i]∨k=B[i+1]:=fun k hk=>by
   obtain⟨j,hj,rfl⟩:=mem k hk;have l0:=lt i (i+1) (by omega) hi (by omega);rcases Nat.lt_trichotomy j (i+1)with c | c | c
   ·have:B[j]≤B[i]:=by
     rcases Ez j i with d | d
     ·have:=lt j i hj (by omega) d;omega
     ·have:j=i:=by omega
      subst this;exact AX _
    omega
   ·subst c;omega
   ·have:=lt (i+1) j hi hj c;omega
  have l0:=lt i (i+1) (by omega) hi (by omega);have e1:lF S B[i+1]=lF S B[i]+cF S B[i+1]:=by
   unfold lF cF;apply IL;intro x hx
   have:=nb _ (h.keys.2.2 x hx).1
   simp only[Az];omega
  have e2:lT S B[i+1]=lT S B[i]+cT S B[i+1]:=by
   unfold lT cT;apply IL;intro x hx
   have:=nb _ (h.keys.2.2 x hx).2
   simp only[Az];omega
  rw[e1,e2];omega
theorem W0{S:Bl}(hS:∀x∈S,x.1<x.2)(p:Int):(lF S p:Int)-lT S p=(S.countP (BI p):Nat):=by
 have:lF S p=S.countP (BI p)+lT S p:=by
  unfold lF lT;apply IL;intro x hx
  have:=hS x hx
  simp only[BI,Ag,Az];omega
 omega
theorem Ob:∀{l:Bl} {lo:Int} (p:Int),EC lo l→l.countP (BI p)=if l.any (BI p)then 1 else 0
 | [],_,_,_=>rfl
 |y::r,lo,p,⟨h1,h2,h3,h4⟩=>by
  rw[Iu,Ob p h4,Cc];cases hy:BI p y with
  |false=>rw[Lx];simp
  |true =>
   have:=DJ.1 hy
   have:r.any (BI p)=false:=by
    rw[AI];intro hr;have:=Mj h4 hr;omega
   simp[this]
theorem LE:∀(l:List Bl) (p:Int),((l.map canon).flatten).countP (BI p)=dh l p
 | [],_=>rfl
 |s::l,p=>by
  rw[AP,By,List.countP_append,LE l p,Ob p (Cn s),Kg];unfold dh;rw[Iu];omega
def Eo(keep:Nat→Bool)(m:List (Int×Int))(B:List Int):Nat→Bl
 |0=>[]
 |i+1=>Eo keep m B i++(match B[i]?,B[i+1]? with
  |some a,some b=>if keep (Iq m (B.take (i+1))).toNat then [(a,b)]else []
  |_,_=>[])
theorem PH{keep:Nat→Bool}{m:List (Int×Int)}{B:List Int}{x:Int×Int}:∀{n:Nat},x∈Eo keep m B n↔∃i,i<n∧∃(h1:i<B.length) (h2:i+1<B.length),keep (Iq m (B.take (i+1))).toNat=true∧x=(B[i],B[i+1])
 |0=>by simp[Eo]
 |n+1=>by
  unfold Eo;rw[A6,PH (n:=n)];constructor
  ·rintro(⟨i,h1,h2⟩ | h)
   ·exact⟨i,by omega,h2⟩
   ·split at h
    ·rename_i a b ha hb;obtain⟨h1,e1⟩:=As.1 ha;obtain⟨h2,e2⟩:=As.1 hb;split at h
     ·rename_i hk;refine⟨n,by omega,h1,h2,hk,?_⟩;rw[Al.1 h,e1,e2]
     ·cases h
    ·cases h
  ·rintro⟨i,h1,h2,h3,h4,rfl⟩
   by_cases e:i=n
   ·subst e;refine .inr ?_;rw[Ay h2,Ay h3];simp[h4]
   ·exact .inl ⟨i,by omega,h2,h3,h4,rfl⟩
theorem N6{B:List Int}(hs:B.Pairwise fun a b=>a<b){p:Int}:∀(n:Nat) (h0:0<B.length) (hn:n<B.length),B[0]≤p→p<B[n]→∃i,∃(h1:i<B.length) (h2:i+1<B.length),B[i]≤p∧p<B[i+1]
 |0,h0,hn,h1,h2=>by omega
 |n+1,h0,hn,h1,h2=>by
  by_cases e:B[n]≤p
  ·exact⟨n,by omega,hn,e,h2⟩
  ·exact N6 hs n h0 (by omega) h1 (by omega)
theorem fM{keep:Nat→Bool}{l:List Bl}{m:List (Int×Int)}{B:List Int}(h:Ib m (l.map canon).flatten)(hB:iM B m)(p:Int):has (Eo keep m B (B.length-1)) p=(Lt p&&keep (dh l p)):=by
 have hS:∀x∈(l.map canon).flatten,x.1<x.2:=fun x hx=>by
  obtain⟨s,hs,hx⟩:=El.1 hx;obtain⟨t,_,rfl⟩:=Am.1 hs;exact((Cn t).low x hx).2.1
 have mem:∀k,k∈EU m→∃j,∃hj:j<B.length,B[j]=k:=fun k hk=>by
  obtain⟨j,hj,e⟩:=DP.1 (hB.perm.mem_iff.2 hk);exact⟨j,hj,e⟩
 have lt:∀i j (hi:i<B.length) (hj:j<B.length),i<j→B[i]<B[j]:=fun i j hi hj UO=>(Bh.1 hB.srt) i j hi hj UO;have rng:∀i (hi:i<B.length),0≤B[i]∧B[i]≤1000000:=fun i hi=>h.rng _ (hB.perm.mem_iff.1 (Aq hi))
 -- VH two bounds
 have VH:∀i (h1:i<B.length) (h2:i+1<B.length),B[i]≤p→p<B[i+1]→(Iq m (B.take (i+1))).toNat=dh l p:=fun i h1 h2 a b=>by
  have same:∀k∈EU m,k≤B[i]↔k≤p:=fun k hk=>by
   obtain⟨j,hj,rfl⟩:=mem k hk;constructor
   ·intro c;omega
   ·intro c;rcases Ez i j with d | d
    ·rcases Ez (i+1) j with f | f
     ·have:=lt (i+1) j h2 hj f;omega
     ·have:j=i+1:=by omega
      subst this;omega
    ·rcases Ez j i with f | f
     ·have:=lt j i hj h1 f;omega
     ·have:j=i:=by omega
      subst this;exact AX _
  have e1:lF (l.map canon).flatten B[i]=lF (l.map canon).flatten p:=by
   unfold lF;apply Qk;intro x hx
   have:=same _ (h.keys.2.2 x hx).1
   simp only[Az];exact this
  have e2:lT (l.map canon).flatten B[i]=lT (l.map canon).flatten p:=by
   unfold lT;apply Qk;intro x hx
   have:=same _ (h.keys.2.2 x hx).2
   simp only[Az];exact this
  rw[aL h hB i h1,e1,e2,W0 hS,LE];simp
 rw[BT];constructor
 ·intro hh;have iC:=LQ hh;unfold has at hh;simp only[iC,decide_true,Ev]at hh;obtain⟨x,hx,hp⟩:=Ba.1 hh;obtain⟨i,_,h1,h2,hk,rfl⟩:=PH.1 hx
  have:=DJ.1 hp
  dsimp only at this;rw[←VH i h1 h2 this.1 this.2];simp[Lt,iC,hk]
 ·intro hh;simp only[Ag,Lt,Az]at hh;obtain⟨⟨p0,p1⟩,hk⟩:=hh;obtain⟨j0,zh,e0⟩:=mem 0 h.keys.1;obtain⟨j1,zi,e1⟩:=mem 1000000 h.keys.2.1;have tG:B[0]'(by omega)≤p:=by
   have:B[0]'(by omega)≤0:=by
    cases j0 with
    |zero=>omega
    |succ j=>have:=lt 0 (j+1) (by omega) zh (by omega);omega
   omega
  obtain⟨i,h1,h2,a,b⟩:=N6 hB.srt j1 (by omega) zi tG (by omega);unfold has;simp only[p0,p1,decide_true,Ev];exact Ba.2 ⟨(B[i],B[i+1]),PH.2 ⟨i,by omega,h1,h2,by rw[VH i h1 h2 a b];exact hk,rfl⟩,DJ.2 ⟨a,b⟩⟩
theorem ib{l:List Bl}{m:List (Int×Int)}{B:List Int}(h:Ib m (l.map canon).flatten)(hB:iM B m)(i:Nat)(hi:i<B.length):0≤Iq m (B.take (i+1))∧Iq m (B.take (i+1))≤l.length:=by
 have hS:∀x∈(l.map canon).flatten,x.1<x.2:=fun x hx=>by
  obtain⟨s,hs,hx⟩:=El.1 hx;obtain⟨t,_,rfl⟩:=Am.1 hs;exact((Cn t).low x hx).2.1
 rw[aL h hB i hi,W0 hS,LE]
 have:dh l B[i]≤l.length:=List.countP_le_length
 omega
def Wj(m:List Tm)(t:Tm):List Tm:=if m.any (fun u=>decide (u.path=t.path))then m.map (fun u=>if u.path=t.path then t else u)else m++[t]
def QS(m:List Tm)(t:Tm):List Tm:=Wj m (NL (Di m t.path) t)
def CW(l:List Tm):List Tm:=l.foldl QS []
theorem bE(t:Tm)(p:ByteArray):∀m:List Tm,Di (Wj m t) p=if t.path=p then some t else Di m p:=by
 intro m;unfold Wj
 by_cases h:(m.any fun u=>decide (u.path=t.path))=true
 ·rw[Aw h]
  induction m with
  |nil=>simp at h
  |cons u m ih =>
   rw[AP,CJ,CJ]
   by_cases e:u.path=t.path
   ·rw[Aw e]
    by_cases ep:t.path=p
    ·simp[ep]
    ·rw[Ak ep,Ak ep,Ak (fun c=>ep (e.symm.trans c))]
     by_cases hm:(m.any fun u=>decide (u.path=t.path))=true
     ·rw[ih hm,Ak ep]
     ·have:∀q∈m,q.path≠t.path:=fun q hq c=>hm (Ba.2 ⟨q,hq,by simp[c]⟩)
      have:m.map (fun u=>if u.path=t.path then t else u)=m:=by
       conv=>rhs;rw[←Jw m]
       exact Be fun q hq=>by simp[this q hq]
      rw[this]
   ·rw[Ak e];have hm:(m.any fun u=>decide (u.path=t.path))=true:=by simpa[e]using h
    rw[ih hm]
    by_cases ep:t.path=p
    ·subst ep;simp[e]
    ·simp[ep]
 ·rw[Ak h];have hn:∀q∈m,q.path≠t.path:=fun q hq e=>h (Ba.2 ⟨q,hq,by simp[e]⟩)
  clear h
  induction m with
  |nil=>rw[D6,CJ]
  |cons u m ih =>
   rw[It,CJ,CJ,ih fun q hq=>hn q (Af _ hq)]
   have:=hn u (Aa ..)
   by_cases e:u.path=p
   ·have:¬t.path=p:=fun c=>this (e.trans c.symm)
    simp[e,this]
   ·simp[e]
def Ep(m:List Tm):List ByteArray:=m.map (·.path)
open Classical in
theorem Zm(m:List Tm)(t:Tm):Ep (Wj m t)=if t.path∈Ep m then Ep m else Ep m++[t.path]:=by
 unfold Wj Ep;have e:(m.any fun u=>decide (u.path=t.path))=true↔t.path∈m.map (·.path):=by
  simp only[Ba,Az,Am]
 by_cases h:t.path∈m.map (·.path)
 ·rw[Aw (e.2 h),Aw h,BN];apply Be;intro p _;simp only[Function.comp];split
  ·rename_i e;exact e.symm
  ·rfl
 ·rw[Ak (fun c=>h (e.1 c)),Ak h,AH];rfl
theorem ct{m:List Tm}(h:(Ep m).Nodup)(t:Tm):(Ep (Wj m t)).Nodup:=by
 rw[Zm];split
 ·exact h
 ·rename_i hn;rw[F0];exact⟨h,by simp,fun a ha b hb e=>by subst e;rw[Al.1 hb]at ha;exact hn ha⟩
theorem QJ(l:List Tm)(i:Nat)(h:i<l.length):CW (l.take (i+1))=QS (CW (l.take i)) l[i]:=by
 unfold CW;rw[Bs,Ay h,J4];rfl
theorem Oq:∀(l m:List Tm),(Ep m).Nodup→(Ep (l.foldl QS m)).Nodup
 | [],_,h=>h
 |_::l,_,h=>Oq l _ (ct h _)
theorem Hu(l:List Tm):(Ep (CW l)).Nodup:=Oq l [] .nil
theorem Xe(m:List Tm)(t:Tm)(p:ByteArray):Di (QS m t) p=JK p (Di m p) t:=by
 unfold QS JK;have hp:(NL (Di m t.path) t).path=t.path:=PP _ _ fun u h=>GR h;rw[bE,hp]
 by_cases e:t.path=p
 ·rw[Aw e,Aw e,e]
 ·rw[Ak e,Ak e]
theorem Om(p:ByteArray):∀(l m:List Tm),Di (l.foldl QS m) p=l.foldl (JK p) (Di m p)
 | [],_=>rfl
 |t::l,m=>by rw[Fo,Fo,Om p l,Xe]
theorem YN(l:List Tm)(p:ByteArray):Di (CW l) p=Di (EO l) p:=by
 unfold CW;rw[Om,IP];rfl
theorem LK{m:List Tm}(h:(Ep m).Nodup){t:Tm}:t∈m↔Di m t.path=some t:=by
 constructor
 ·induction m with
  |nil=>intro h;cases h
  |cons u m ih =>
   intro ht;unfold Ep at h ih;rw[AP,CT]at h;rw[CJ];rcases Au.1 ht with rfl | ht
   ·rw[Aw rfl]
   ·have:¬u.path=t.path:=fun e=>h.1 (e▸Am.2 ⟨t,ht,rfl⟩)
    rw[Ak this];exact ih h.2 ht
 ·exact E0
theorem Hx{m:List Tm}(h:(Ep m).Nodup):m.Nodup:=by
 unfold Ep at h
 induction m with
 |nil=>exact .nil
 |cons u m ih =>
  rw[AP,CT]at h;exact CT.2 ⟨fun hu=>h.1 (Am.2 ⟨u,hu,rfl⟩),ih h.2⟩
theorem HD{l:List Tm}{lo:Option ByteArray}(h:Cb lo l):(Ep l).Nodup:=by
 unfold Ep
 induction l generalizing lo with
 |nil=>exact .nil
 |cons t l ih =>
  rw[AP,CT];refine⟨fun hm=>?_,ih h.2.2⟩;obtain⟨u,hu,e⟩:=Am.1 hm
  have:=h.2.2.low u hu
  rw[e,CY]at this;cases this
theorem IY(l:List Tm)(t:Tm):t∈CW l↔t∈EO l:=by
 rw[LK (Hu l),YN,←LK (HD (Ei l))]
theorem OI(l:List Tm):∀t∈CW l,Ew t.set:=fun t ht=>(Ei l).canon t ((IY l t).1 ht)
theorem c9(m:List Tm)(t:Tm):(QS m t).length≤m.length+1:=by
 unfold QS Wj;split<;>simp
theorem NF(l:List Tm):∀i,i≤l.length→(CW (l.take i)).length≤i:=by
 intro i
 induction i with
 |zero=>intro _;simp[CW]
 |succ i ih =>
  intro h;rw[QJ l i (by omega)]
  have:=c9 (CW (l.take i)) l[i]
  have:=ih (by omega)
  omega
theorem Zz{s:List Tm}(hs:s.Pairwise fun x y=>Fa x.path y.path=true)(hc:∀t∈s,Ew t.set):Cb none s:=by
 have:∀(s:List Tm) (lo:Option ByteArray),s.Pairwise (fun x y=>Fa x.path y.path=true)→(∀t∈s,Ew t.set)→(∀p,lo=some p→∀t∈s,Fa p t.path=true)→Cb lo s:=by
  intro s
  induction s with
  |nil=>intro _ _ _ _;trivial
  |cons t s ih =>
   intro lo hs hc hl;obtain⟨h1,h2⟩:=BQ.1 hs;exact⟨fun p e=>hl p e t (Aa ..),hc t (Aa ..),ih _ h2 (fun u hu=>hc u (Af _ hu)) fun p e u hu=>by cases e;exact h1 u hu⟩
 exact this s none hs hc fun _ e=>by cases e
theorem Pu{l s:List Tm}(q:Tm→Bool)(hp:s.Perm ((CW l).filter q))(hs:s.Pairwise fun x y=>Fa y.path x.path=false):s=(EO l).filter q:=by
 have hm:∀t,t∈s↔t∈(EO l).filter q:=fun t=>by
  rw[hp.mem_iff,BK,BK,IY]
 have Q0:(Ep s).Nodup:=by
  have h1:(Ep ((CW l).filter q)).Nodup:=by
   unfold Ep;exact List.Nodup.sublist (List.Sublist.map _ List.filter_sublist) (Hu l)
  unfold Ep at h1⊢;exact(hp.map (·.path)).nodup_iff.2 h1
 have I9:s.Pairwise fun x y=>Fa x.path y.path=true:=by
  rw[Bh]at hs⊢;intro i j hi hj UO;cases hb:Fa s[i].path s[j].path with
  |true=>rfl
  |false =>
   have e:=Hi hb (hs i j hi hj UO);unfold Ep at Q0
   have:=(Bh.1 Q0) i j (by simpa using hi) (by simpa using hj) UO
   simp at this;exact absurd e this
 have xm:Cb none s:=Zz I9 fun t ht=>(Ei l).canon t (BK.1 ((hm t).1 ht)).1;have iF:Cb none ((EO l).filter q):=Cb.filter q (Ei l);refine Mg xm iF fun p=>?_;cases h1:Di s p with
 |some t =>
  have:=(hm t).1 (E0 h1)
  rw[Fw iF,GR h1]at this;exact this.symm
 |none =>
  cases h2:Di ((EO l).filter q) p with
  |none=>rfl
  |some t =>
   have:=(hm t).2 (E0 h2)
   rw[Fw xm,GR h2,h1]at this;cases this
theorem Yz(t:Tm):GH t t=Lg t:=by unfold GH Lg;rw[Y3,Bool.and_self]
theorem aE(o:Option Tm)(t:Tm):NL o t=GH (o.getD t) t:=by cases o with | none=>exact(Yz t).symm | some u=>rfl
theorem bc{t:Tm}(h:Ew t.set):(t.absent&&(Ed t.set).isEmpty)=Gk t:=by
 unfold Gk
 congr 1
 rw[BT,GE,Az];have ha:Ew [(0,1000000)]:=⟨AX _,by dsimp only;omega,AX _,trivial⟩;constructor
 ·intro e;refine Hj h ha fun p=>?_
  have:=Fx t.set p
  rw[e]at this;have h0:has [] p=false:=by simp[has]
  rw[h0]at this;have h1:has [(0,1000000)] p=Lt p:=by simp[has,Lt,BI]
  rw[h1];cases hp:Lt p with
  |true=>rw[hp]at this;simpa using this.symm
  |false =>
   rw[AI];intro hh
   have:=LQ hh
   simp[Lt,this]at hp
 ·intro e;rw[PL (GZ _)];intro p;rw[Fx,e];have h1:has [(0,1000000)] p=Lt p:=by simp[has,Lt,BI]
  rw[h1];simp
theorem fZ{t:Tm}(h:Ew t.set):(!t.absent&&(canon t.set).isEmpty)=Hw t:=by unfold Hw;rw[I4 h]
end Go.Eng
namespace Go.Eng
open Go.Lib
theorem PZ(c:UInt8):∀(s:List UInt8) (k:Nat),s.count c≤k→splitK [c] 0 k s=Fc c s
 | [],k,_=>by
  cases k with
  |zero=>rfl
  |succ k=>rfl
 |b::r,k,h=>by
  rw[Fc]
  by_cases e:b=c
  ·subst e;rw[List.count_cons_self]at h;obtain⟨k',rfl⟩:∃k',k=k'+1:=⟨k-1,by omega⟩;rw[Aw rfl,splitK,index_one,indexByte];simp only[beq_self_eq_true,QD];rw[Ak (by decide)];show []::splitK [b] 0 k' r=_;rw[PZ b r k' (by omega)]
  ·have Dz:(b == c)=false:=by simpa using e
   rw[List.count_cons_of_ne (by simpa using e)]at h;have ih:=PZ c r k h;rw[Ak e];cases k with
   |zero =>
    rw[←ih];rfl
   |succ k =>
    rw[←ih,splitK,splitK,index_one,index_one,indexByte,Dz]
    by_cases h0:indexByte r c=-1
    ·rw[h0];rfl
    ·have h1:(indexByte r c == -1)=false:=by simpa using h0
     have h2:=indexByte_ge r c;have h3:(indexByte r c+1 == -1)=false:=by rw[beq_eq_false_iff_ne];omega
     simp only[Dj,F8,h1,h3];obtain⟨i,hi⟩:∃i:Nat,indexByte r c=i:=⟨(indexByte r c).toNat,by omega⟩;rw[hi];show(b::r).take (((i:Int)+1).toNat+0)::_=(b::r.take ((i:Int).toNat+0))::_;rw[show((i:Int)+1).toNat=i+1 by omega,show((i:Nat):Int).toNat=i by omega]
     rfl
theorem WZ(c:UInt8):∀(n:Nat) (s:List UInt8),s.length≤n→count s [c]=s.count c
 |n,s,hn=>by
  rcases Int.lt_or_le (indexByte s c) 0 with h | h
  ·have h2:=indexByte_ge s c;have h3:indexByte s c=-1:=by omega
   rw[count_miss (by rw[index_one];exact h3)]
   symm
   rw[List.count_eq_zero];intro hm;obtain⟨k,hk,e⟩:=Fu hm;exact indexByte_none h3 k (by rw[Ay hk,e])
  ·obtain⟨i,hi⟩:∃i:Nat,indexByte s c=i:=⟨(indexByte s c).toNat,by omega⟩;obtain⟨h1,h2⟩:=indexByte_some hi;obtain⟨hl,hg⟩:=As.1 h1;cases n with
   |zero=>omega
   |succ n =>
    have hc:=count_hit (s:=s) (sub:=[c]) (i:=i) (by simp) (by rw[index_one];exact hi);rw[hc];have ih:=WZ c n (s.drop (i+1)) (by rw[Ar];omega);have qq:s=s.take i++c::s.drop (i+1):=by
     rw[←hg,←Br hl,Lb]
    have h0:(s.take i).count c=0:=by
     rw[List.count_eq_zero];intro hm;obtain⟨k,hk,e⟩:=Fu hm;rw[AJ]at hk;rw[J5]at e;exact h2 k (by omega) (by rw[Ay (by omega),e])
    conv=>rhs;rw[qq]
    rw[List.count_append,h0,List.count_cons_self];show 1+count (s.drop (i+1)) [c]=_;rw[ih];omega
theorem cX(s:ByteArray)(c:UInt8):((splitB ⟨#[c]⟩ 0 (countB s ⟨#[c]⟩) s).map (·.data.toList))=Fc c s.data.toList:=by
 rw[splitB_data];refine PZ c _ _ ?_;show _≤count s.data.toList [c];rw[WZ c _ _ (Aj _)];exact Aj _
end Go.Eng
namespace Go.Eng
theorem U9{α:Type}:∀{l m:List α},l.Nodup→(∀x∈l,x∈m)→l.length≤m.length
 | [],_,_,_=>AN _
 |a::l,m,hn,hs=>by
  obtain⟨h1,h2⟩:=CT.1 hn;obtain⟨s,t,rfl⟩:=List.append_of_mem (hs a (Aa ..))
  have:l.length≤(s++t).length:=U9 h2 fun x hx=>by
   rcases A6.1 (hs x (Af _ hx))with h | h
   ·exact Bn _ h
   ·rcases Au.1 h with rfl | h
    ·exact absurd hx h1
    ·exact Bj _ h
  simp only[Ad,At]at this⊢;omega
theorem Li(p:ByteArray):∀(l:List Tm) (o:Option Tm),(∀u∈l,u.path≠p)→l.foldl (JK p) o=o
 | [],_,_=>rfl
 |t::l,o,h=>by
  rw[Fo,show JK p o t=o by unfold JK;rw[Ak (h t (Aa ..))]];exact Li p l o fun u hu=>h u (Af _ hu)
theorem Ze{l:List Tm}{t:Tm}(h:t∈EO l):∃u∈l,u.path=t.path:=by
 apply Bq;intro hn
 have:∀u∈l,u.path≠t.path:=fun u hu e=>hn ⟨u,hu,e⟩
 have h1:=(Fw (Ei l)).1 h;rw[IP,Li _ _ _ this]at h1;cases h1
def Ui(U:List ByteArray)(t:List Tm):Prop:=Cb none t∧∀u∈t,u.path∈U
theorem Ui.len{U:List ByteArray}{t:List Tm}(h:Ui U t):t.length≤U.length:=by
 have:=U9 (HD h.1) (m:=U) fun p hp=>by
  obtain⟨u,hu,rfl⟩:=Am.1 hp;exact h.2 u hu
 unfold Ep at this
 rwa [A9]at this
theorem YB{l c:List Tm}(h:CN l=some c){t:Tm}(ht:t∈c):t∈EO l:=by
 unfold CN at h;split at h
 ·cases h
 ·cases h;exact(BK.1 ht).1
theorem Pt{U:List ByteArray}{l c:List Tm}(h:CN l=some c)(hu:∀u∈l,u.path∈U):Ui U c :=
 ⟨EF h,fun t ht=>by
  obtain⟨u,h1,h2⟩:=Ze (YB h ht);rw[←h2];exact hu u h1⟩
theorem Ui.nil(U:List ByteArray):Ui U []:=⟨trivial,fun u hu=>by cases hu⟩
theorem Th{U:List ByteArray}{l:List Tm}(hu:∀u∈l,u.path∈U):Ui U (PM l):=by
 unfold PM;cases h:CN l with
 |none=>exact .nil U
 |some c=>exact Pt h hu
theorem QQ{U:List ByteArray}{a b:List Tm}{p:ByteArray}(ha:Ui U a)(hb:Ui U b):Ui U (Bv a b p).1:=by
 have sp:∀{l r:List Tm} {t:Tm},Ui U l→Fd l p=some (t,r)→t.path∈U∧∀u∈r,u.path∈U:=by
  intro l r t hl h;unfold Fd at h;cases e:CN l with
  |none=>rw[e]at h;cases h
  |some c =>
   rw[e]at h;have h:(match Di c p with | none=>none | some t=>some (t,FC c p))=some (t,r):=h;have hc:=Pt e hl.2;cases e2:Di c p with
   |none=>rw[e2]at h;cases h
   |some u =>
    rw[e2]at h;cases h;exact⟨hc.2 _ (E0 e2),fun u hu=>hc.2 u (BK.1 hu).1⟩
 unfold Bv;split
 ·rename_i t r u m e1 e2;obtain⟨a1,a2⟩:=sp ha e1;obtain⟨b1,b2⟩:=sp hb e2;split
  ·rename_i o e3;refine Pt e3 fun v hv=>?_;rcases A6.1 hv with hv | hv
   ·rcases A6.1 hv with hv | hv
    ·exact a2 v hv
    ·exact b2 v hv
   ·rw[Al.1 hv];exact a1
  ·exact .nil U
 ·exact .nil U
def JY(x:List Rl)(roots:List Rq)(l:List Nf):List ByteArray:=(x.map (·.path))++((x.map (·.reqs)).flatten.map (·.path)++(roots.map (·.path)++l.map (·.path)))
theorem bX{x:List Rl}{roots:List Rq}{l:List Nf}{d:List (List Tm)}{i:Nf}(hi:i∈l)(hd:∀t∈d,Ui (JY x roots l) t){t:List Tm}(h:DO x roots d i=some t):Ui (JY x roots l) t:=by
 have hp:i.path∈JY x roots l:=by
  unfold JY;exact Bj _ (Bj _ (Bj _ (Am.2 ⟨i,hi,rfl⟩)))
 have nz:∀{α:Type} {l:List α} {k:Int} {a:α},Jg l k=some a→a∈l:=by
  intro α l k a h;unfold Jg at h;split at h
  ·cases h
  ·exact Av h
 have n0:∀{a b:List Tm},cj a=some b→b=a:=by
  intro a b h;unfold cj at h;split at h
  ·cases h
  ·cases h;rfl
 unfold DO at h;split at h
 ·split at h
  ·cases e:Jg roots i.number with
   |none=>rw[e]at h;cases h
   |some q =>
    rw[e]at h;cases h;refine Th fun u hu=>?_;rw[Al.1 hu];unfold JY;exact Bj _ (Bj _ (Bn _ (Am.2 ⟨q,nz e,rfl⟩)))
  ·cases h
 split at h
 ·split at h
  ·cases e:OS x i.path i.place with
   |none=>rw[e]at h;cases h
   |some r =>
    rw[e]at h;have h:(match Jg r.reqs i.number with | none=>none | some q=>cj (Ec i.path i.place q))=some t:=h;cases e2:Jg r.reqs i.number with
    |none=>rw[e2]at h;cases h
    |some q =>
     rw[e2]at h;have h:=n0 (show cj (Ec i.path i.place q)=some t from h);subst h;refine Th fun u hu=>?_;rcases Au.1 hu with rfl | hu
     ·exact hp
     ·rw[Al.1 hu];unfold JY;refine Bj _ (Bn _ (Am.2 ⟨q,?_,rfl⟩));exact El.2 ⟨r.reqs,Am.2 ⟨r,CF e,rfl⟩,nz e2⟩
  ·cases h
 split at h
 ·split at h
  ·have h:=n0 h;subst h;refine Th fun u hu=>?_;rw[Al.1 hu];exact hp
  ·cases h
 split at h
 ·split at h
  ·cases e:Jg d i.left with
   |none=>rw[e]at h;cases h
   |some a =>
    cases e2:Jg d i.right with
    |none=>rw[e,e2]at h;cases h
    |some b =>
     rw[e,e2]at h;have h:(if(Bv a b i.path).2=0 then some (Bv a b i.path).1 else none)=some t:=h;split at h
     ·cases h;exact QQ (hd a (nz e)) (hd b (nz e2))
     ·cases h
  ·cases h
 ·cases h
structure Cd where
 place:Int
 rel:Rl
structure Nd where
 rq:Rq
 path:ByteArray
 place:Int
 number:Int
structure SS where
 infs:List Nf
 drv:List (List Tm)
 full:Bool
abbrev SP(c:Cd):Sl:=⟨c.rel.path,c.rel.ver⟩
abbrev AK(l:List Cd):List Sl:=l.map SP
def Co(x:List Rl)(p:ByteArray):List Cd:=(x.filter fun r=>decide (r.path=p)&&!r.yanked).map fun r=>⟨plc r.ver,r⟩
def L5(f:Rq→Nat→Nd):Nat→List Rq→List Nd
 |_,[]=>[]
 |i,q::l=>f q i::L5 f (i+1) l
def Yb(roots:List Rq):List Nd:=L5 (fun q i=>⟨q,mt,0,i⟩) 0 roots
def PR(c:Cd):List Nd:=L5 (fun q i=>⟨q,c.rel.path,c.place,i⟩) 0 c.rel.reqs
def Dr(roots:List Rq)(dec:List Cd):List Nd:=Yb roots++(dec.map PR).flatten
def De(dec:List Cd)(p:ByteArray):Bool:=dec.any fun c=>decide (c.rel.path=p)
def Eb(dec:List Cd)(a:ByteArray×List Nd)(n:Nd):ByteArray×List Nd :=
 if De dec n.rq.path=true∨(a.2≠[]∧Fa a.1 n.rq.path=true)then a
 else if a.2≠[]∧Fa n.rq.path a.1=true then(n.rq.path,[n])else(n.rq.path,a.2++[n])
def Gw(roots:List Rq)(dec:List Cd):ByteArray×List Nd:=(Dr roots dec).foldl (Eb dec) (mt,[])
def ao(l:List Cd)(n:Nd):Bool:=l.any fun d=>decide (d.rel.path=n.rq.path)&&!has n.rq.set d.place
def D1(dec:List Cd)(c:Cd):Option Nd:=(PR c).find? (ao (dec++[c]))
def Od(s:List Sl):Nat→List (List Tm)→Option Nat
 |_,[]=>none
 |i,t::l=>if CA t s then some i else Od s (i+1) l
def Oe(d:List (List Tm))(s:List Sl):Option Nat:=Od s 0 d
def CZ(l:List Tm)(p:ByteArray):Bool:=l.any fun t=>decide (t.path=p)
instance:DecidableEq Nf:=fun a b=>by
 obtain⟨a1,a2,a3,a4,a5,a6⟩:=a;obtain⟨b1,b2,b3,b4,b5,b6⟩:=b;exact decidable_of_iff (a1=b1∧a2=b2∧a3=b3∧a4=b4∧a5=b5∧a6=b6) ⟨fun⟨h1,h2,h3,h4,h5,h6⟩=>by subst h1 h2 h3 h4 h5 h6;rfl,fun h=>by cases h;exact⟨rfl,rfl,rfl,rfl,rfl,rfl⟩⟩
def Lv(i:Nf):Nat→List Nf→Option Nat
 |_,[]=>none
 |k,j::l=>if j=i then some k else Lv i (k+1) l
def D4(s:SS)(i:Nf)(l:List Tm):Nat×SS :=
 match Lv i 0 s.infs with
 |some k=>(k,s)
 |none=>if 65536≤s.infs.length then(s.infs.length-1,⟨s.infs,s.drv,true⟩)else(s.infs.length,⟨s.infs++[i],s.drv++[l],s.full⟩)
def SM(n:Nd):Nf:=if n.path=mt then⟨0,mt,0,n.number,0,0⟩else⟨1,n.path,n.place,n.number,0,0⟩
def IR(n:Nd):List Tm:=if n.path=mt then Jk n.rq else Ec n.path n.place n.rq
def Bk(s:SS)(n:Nd):Nat×SS:=D4 s (SM n) (IR n)
abbrev DK(s:SS)(k:Nat):List Tm:=s.drv.getD k []
def Ck(p:ByteArray):List Nat→Nat→SS→Nat×SS
 | [],k,s=>(k,s)
 |r::l,k,s =>
  if s.full=true∨CZ (DK s k) p=false then(k,s)
  else if r=k then Ck p l k s
  else if(Bv (DK s k) (DK s r) p).2≠0 then Ck p l k s
  else Ck p l (D4 s ⟨3,p,0,0,k,r⟩ (Bv (DK s k) (DK s r) p).1).1 (D4 s ⟨3,p,0,0,k,r⟩ (Bv (DK s k) (DK s r) p).1).2
def Ee(x:List Rl)(p:ByteArray)(s:SS):Nat×SS:=D4 s ⟨2,p,0,0,0,0⟩ (HJ p (B7 x p))
def DX(x:List Rl)(p:ByteArray)(n:Nd)(FJ:List Nat)(s:SS):Nat×SS :=
 Ck p ((Ee x p (Bk s n).2).1::FJ) (Bk s n).1 (Ee x p (Bk s n).2).2
structure JN where
 res:Nat
 found:Bool
 ss:SS
 dec:List Cd
 stack:List (List Sk)
def DW(rec:List Cd→SS→List (List Sk)→JN)(x:List Rl)(p:ByteArray)(needs:List Nd)(n0:Nd)(dec:List Cd)(stack:List (List Sk)):List Cd→SS→List Nat→List Sk→JN
 | [],s,FJ,_=>⟨(DX x p n0 FJ s).1,false,(DX x p n0 FJ s).2,dec,stack⟩
 |c::cs,s,FJ,skips =>
  let after (k:Nat) (s:SS):JN:=if CZ (DK s k) p=false then⟨k,false,s,dec,stack⟩else DW rec x p needs n0 dec stack cs s (FJ++[k]) (skips++[⟨p,c.place,k⟩])
  if s.full=true then⟨0,false,s,dec,stack⟩
  else match needs.find? fun n=>!has n.rq.set c.place with
   |some n=>DW rec x p needs n0 dec stack cs (Bk s n).2 (FJ++[(Bk s n).1]) skips
   |none=>match Oe s.drv (AK (dec++[c]))with
    |some k=>after k s
    |none=>match D1 dec c with
     |some n=>after (Bk s n).1 (Bk s n).2
     |none =>
      let o:=rec (dec++[c]) s (stack++[skips])
      if o.found=true then⟨0,true,o.ss,o.dec,o.stack⟩
      else if o.ss.full=true then⟨0,false,o.ss,dec,stack⟩
      else after o.res o.ss
def Da(x:List Rl)(roots:List Rq):Nat→List Cd→SS→List (List Sk)→JN
 |0,dec,s,stack=>⟨0,false,s,dec,stack⟩
 |n+1,dec,s,stack=>match(Gw roots dec).2 with
  | []=>⟨0,true,s,dec,stack⟩
  |n0::l=>DW (Da x roots n) x (Gw roots dec).1 (n0::l) n0 dec stack (Co x (Gw roots dec).1) s [] []
abbrev sm:SS:=⟨[],[],false⟩
def Qz(x:List Rl)(dec:List Cd):Nat:=(x.filter fun r=>!r.yanked&&!De dec r.path).length
def FA(x:List Rl)(roots:List Rq):JN:=Da x roots (x.length+1) [] sm []
theorem OP(f:Rq→Nat→Nd):∀(l:List Rq) (i k:Nat),(L5 f i l)[k]?=(l[k]?).map fun q=>f q (i+k)
 | [],i,k=>by simp[L5]
 |q::l,i,0=>by simp[L5]
 |q::l,i,k+1=>by
  have h:=OP f l (i+1) k;simp only[L5,GD,h];rw[show i+1+k=i+(k+1) by omega]
theorem Ku(f:Rq→Nat→Nd):∀(l:List Rq) (i:Nat),(L5 f i l).length=l.length
 | [],_=>rfl
 |_::l,i=>by simp[L5,Ku f l (i+1)]
theorem XW{f:Rq→Nat→Nd}{l:List Rq}{n:Nd}(h:n∈L5 f 0 l):∃k q,l[k]?=some q∧n=f q k:=by
 obtain⟨k,hk⟩:=B8.1 h;rw[OP,AY]at hk;obtain⟨q,h1,h2⟩:=hk;exact⟨k,q,h1,by rw[←h2,Bi]⟩
theorem Ru{f:Rq→Nat→Nd}(hf:∀q i,(f q i).rq=q):∀(l:List Rq) (i:Nat),(L5 f i l).map (·.rq)=l
 | [],_=>rfl
 |q::l,i=>by simp[L5,hf,Ru hf l (i+1)]
abbrev HA(roots:List Rq)(dec:List Cd):List Rq:=roots++(dec.map fun c=>c.rel.reqs).flatten
theorem Mz(roots:List Rq)(dec:List Cd):(Dr roots dec).map (·.rq)=HA roots dec:=by
 unfold Dr Yb;rw[AH,Ru (fun _ _=>rfl),RD,BN]
 congr 2
 exact Be fun c _=>Ru (fun _ _=>rfl) _ _
theorem FI(dec:List Cd)(p:ByteArray):CD (AK dec) p=De dec p:=by
 unfold CD De AK;rw[List.any_map];rfl
theorem Jf(before:List Sl):∀{l:List Rq} {a p:ByteArray},Ds before l (some a)=some p→p=a∨Fa p a=true
 | [],a,p,h=>by cases h;exact .inl rfl
 |q::l,a,p,h=>by
  unfold Ds at h;split at h
  ·exact Jf before h
  ·dsimp only at h;split at h
   ·rename_i hb;rcases Jf before h with e | e
    ·exact .inr (by rw[e];exact hb)
    ·exact .inr (D8 e hb)
   ·exact Jf before h
theorem In(before:List Sl):∀{l:List Rq} {a:ByteArray},Ds before l (some a)≠none
 | [],a=>by simp[Ds]
 |q::l,a=>by
  unfold Ds;split
  ·exact In before
  ·dsimp only;split<;>exact In before
theorem Ol{n:Nd}{p:ByteArray}(e:n.rq.path≠p)(L:List Nd):((n::L).filter fun n=>decide (n.rq.path=p))=L.filter fun n=>decide (n.rq.path=p):=by rw[Ek,Ak (by simpa using e)]
theorem VT{n:Nd}{p:ByteArray}(e:n.rq.path=p)(L:List Nd):((n::L).filter fun n=>decide (n.rq.path=p))=n::L.filter fun n=>decide (n.rq.path=p):=by rw[Ek,Aw (by simpa using e)]
theorem MB(dec:List Cd):∀(L:List Nd) (a:ByteArray×List Nd),(a.2≠[]→De dec a.1=false) →
  L.foldl (Eb dec) a=match Ds (AK dec) (L.map (·.rq)) (if a.2=[]then none else some a.1)with
   |none=>a
   |some p=>(p,(if a.2≠[]∧a.1=p then a.2 else [])++L.filter fun n=>decide (n.rq.path=p))
 | [],a,h=>by
  obtain⟨p,o⟩:=a;cases o with
  |nil=>simp[Ds]
  |cons n o=>simp[Ds]
 |n::L,a,h=>by
  obtain⟨p0,o⟩:=a;rw[Fo,AP];have qr:∀(acc:Option ByteArray) (l:List Rq),(∀p,acc=some p→De dec p=false)→∀p,Ds (AK dec) l acc=some p→De dec p=false:=fun acc l ha p hp=>by
   have:=((JH (AK dec) (l:=l) (acc:=acc) (fun p e=>by rw[FI];exact ha p e)).1 p hp).1
   rw[FI]at this;exact this
  cases hd:De dec n.rq.path with
  |true =>
   have e1:Eb dec (p0,o) n=(p0,o):=by unfold Eb;rw[Aw (.inl hd)]
   have e2:Ds (AK dec) (n.rq::L.map (·.rq)) (if o=[]then none else some p0)=Ds (AK dec) (L.map (·.rq)) (if o=[]then none else some p0):=by
    conv=>lhs;unfold Ds
    rw[Aw (by rw[FI];exact hd)]
   rw[e1,e2,MB dec L (p0,o) h];dsimp only;cases hg:Ds (AK dec) (L.map (·.rq)) (if o=[]then none else some p0)with
   |none=>rfl
   |some p =>
    dsimp only;have hp:=qr _ _ (fun q e=>by
     split at e
     ·cases e
     ·rename_i ho;cases e;exact h ho) p hg
    have Dz:n.rq.path≠p:=fun e=>by rw[e,hp]at hd;cases hd
    rw[Ol Dz]
  |false =>
   have Q0:CD (AK dec) n.rq.path=false:=by rw[FI];exact hd
   by_cases ho:o=[]
   ·subst ho;have e1:Eb dec (p0,[]) n=(n.rq.path,[n]):=by
     unfold Eb;rw[Ak (by simp[hd]),Ak (by simp)];rfl
    have e2:Ds (AK dec) (n.rq::L.map (·.rq)) none=Ds (AK dec) (L.map (·.rq)) (some n.rq.path):=by
     conv=>lhs;unfold Ds
     rw[Ak (by rw[Q0];decide)]
    rw[e1,MB dec L (n.rq.path,[n]) (fun _=>hd),Aw rfl,e2];rw[Ak (by simp)];cases hg:Ds (AK dec) (L.map (·.rq)) (some n.rq.path)with
    |none=>exact absurd hg (In _)
    |some p =>
     dsimp only;rw[Ak (show ¬(([]:List Nd)≠[]∧p0=p)from fun h=>h.1 rfl)]
     by_cases e:n.rq.path=p
     ·rw[VT e,Aw ⟨by simp,e⟩];rfl
     ·rw[Ol e,Ak (fun h=>e h.2)]
   ·have w7:(if o=[]then none else some p0)=some p0:=Ak ho;rw[w7];cases hb:Fa p0 n.rq.path with
    |true =>
     have e1:Eb dec (p0,o) n=(p0,o):=by unfold Eb;rw[Aw (.inr ⟨ho,hb⟩)]
     have T2:Fa n.rq.path p0=false:=Pq hb;have e2:Ds (AK dec) (n.rq::L.map (·.rq)) (some p0)=Ds (AK dec) (L.map (·.rq)) (some p0):=by
      conv=>lhs;unfold Ds
      rw[Ak (by rw[Q0];decide)];dsimp only;rw[Ak (by rw[T2];decide)]
     rw[e1,e2,MB dec L (p0,o) h];dsimp only;rw[w7];cases hg:Ds (AK dec) (L.map (·.rq)) (some p0)with
     |none=>rfl
     |some p =>
      dsimp only;have Dz:n.rq.path≠p:=fun e=>by
       rcases Jf _ hg with e3 | e3
       ·rw[e,e3,CY]at hb;cases hb
       ·rw[e,Pq e3]at hb;cases hb
      rw[Ol Dz]
    |false =>
     cases T2:Fa n.rq.path p0 with
     |true =>
      have e1:Eb dec (p0,o) n=(n.rq.path,[n]):=by
       unfold Eb;rw[Ak (by simp[hd,hb]),Aw ⟨ho,T2⟩]
      have e2:Ds (AK dec) (n.rq::L.map (·.rq)) (some p0)=Ds (AK dec) (L.map (·.rq)) (some n.rq.path):=by
       conv=>lhs;unfold Ds
       rw[Ak (by rw[Q0];decide)];dsimp only;rw[Aw T2]
      rw[e1,e2,MB dec L (n.rq.path,[n]) (fun _=>hd),Ak (by simp)];cases hg:Ds (AK dec) (L.map (·.rq)) (some n.rq.path)with
      |none=>exact absurd hg (In _)
      |some p =>
       dsimp only;have Dz:p0≠p:=fun e=>by
        rcases Jf _ hg with e3 | e3
        ·rw[e,e3,CY]at T2;cases T2
        ·rw[e]at T2;rw[Pq e3]at T2;cases T2
       rw[Ak (show ¬(o≠[]∧p0=p)from fun h=>Dz h.2)]
       by_cases e:n.rq.path=p
       ·rw[VT e,Aw ⟨by simp,e⟩];rfl
       ·rw[Ol e,Ak (fun h=>e h.2)]
     |false =>
      have e0:n.rq.path=p0:=Hi T2 hb;have e1:Eb dec (p0,o) n=(p0,o++[n]):=by
       unfold Eb;rw[Ak (by simp[hd,hb]),Ak (by simp[T2]),e0]
      have e2:Ds (AK dec) (n.rq::L.map (·.rq)) (some p0)=Ds (AK dec) (L.map (·.rq)) (some p0):=by
       conv=>lhs;unfold Ds
       rw[Ak (by rw[Q0];decide)];dsimp only;rw[Ak (by rw[T2];decide)]
      rw[e1,e2,MB dec L (p0,o++[n]) (fun _=>by rw[←e0];exact hd),Ak (by simp)];cases hg:Ds (AK dec) (L.map (·.rq)) (some p0)with
      |none=>exact absurd hg (In _)
      |some p =>
       dsimp only
       by_cases e:p0=p
       ·rw[VT (e0.trans e),Aw ⟨by simp,e⟩,Aw ⟨ho,e⟩,AO];rfl
       ·rw[Ol (fun h=>e (e0.symm.trans h)),Ak (fun h=>e h.2),Ak (fun h=>e h.2)]
theorem Tb(roots:List Rq)(dec:List Cd):Gw roots dec=match Ks (HA roots dec) (AK dec)with
  |none=>(mt,[])
  |some p=>(p,(Dr roots dec).filter fun n=>decide (n.rq.path=p)):=by
 unfold Gw Ks;rw[MB dec _ (mt,[]) (fun h=>absurd rfl h),Aw rfl,Mz];cases Ds (AK dec) (HA roots dec) none with
 |none=>rfl
 |some p=>dsimp only;rw[Ak (by simp)];rfl
theorem Tc{roots:List Rq}{dec:List Cd}:(Gw roots dec).2=[]↔Ks (HA roots dec) (AK dec)=none:=by
 rw[Tb];cases h:Ks (HA roots dec) (AK dec)with
 |none=>simp
 |some p =>
  simp only[reduceCtorEq,iff_false];obtain⟨_,q,hq,e⟩:=Td h;rw[←Mz]at hq;obtain⟨n,hn,rfl⟩:=Am.1 hq;exact List.ne_nil_of_mem (BK.2 ⟨hn,by simpa using e⟩)
structure nS(roots:List Rq)(dec:List Cd)(p:ByteArray)(l:List Nd):Prop where
 next:Ks (HA roots dec) (AK dec)=some p
 undone:De dec p=false
 mem:∀n,n∈l↔n∈Dr roots dec∧n.rq.path=p
theorem NK{roots:List Rq}{dec:List Cd}{n0:Nd}{l:List Nd}(h:(Gw roots dec).2=n0::l):nS roots dec (Gw roots dec).1 (n0::l):=by
 rw[←h];rw[Tb]at *
 cases hp:Ks (HA roots dec) (AK dec)with
 |none=>rw[hp]at h;cases h
 |some p =>
  dsimp only;refine⟨hp,by rw[←FI];exact(Td hp).1,fun n=>?_⟩;rw[BK];simp
theorem KH{x:List Rl}{p:ByteArray}{c:Cd}:c∈Co x p↔∃r∈x,r.path=p∧r.yanked=false∧c=⟨plc r.ver,r⟩:=by
 unfold Co;simp only[Am,BK,Ag,Az,CQ];constructor
 ·rintro⟨r,⟨h1,h2,h3⟩,rfl⟩;exact⟨r,h1,h2,h3,rfl⟩
 ·rintro⟨r,h1,h2,h3,rfl⟩;exact⟨r,⟨h1,h2,h3⟩,rfl⟩
theorem MG{i:Nf}:∀{l:List Nf} {k m:Nat},Lv i k l=some m→∃j,m=k+j∧l[j]?=some i
 | [],_,_,h=>by cases h
 |y::l,k,m,h=>by
  unfold Lv at h;split at h
  ·rename_i e;cases h;exact⟨0,rfl,by rw[←e];rfl⟩
  ·obtain⟨j,h1,h2⟩:=MG h;exact⟨j+1,by omega,h2⟩
theorem PO{i:Nf}:∀{l:List Nf} {k:Nat},Lv i k l=none→i∉l
 | [],_,_=>by simp
 |y::l,k,h=>by
  unfold Lv at h;split at h
  ·cases h
  ·rename_i e
   have:=PO h
   simp only[Au,not_or];exact⟨fun e'=>e e'.symm,this⟩
theorem QM{α:Type}{d d' : List α}{i:Int}{a:α}(h:Jg d i=some a)(hp:d <+: d'):Jg d' i=some a:=by
 unfold Jg at *
 split at h
 ·cases h
 ·rename_i hi;rw[Ak hi];obtain⟨t,rfl⟩:=hp;rw[AW (As.1 h).1];exact h
theorem XA{x:List Rl}{roots:List Rq}{d d' : List (List Tm)}{i:Nf}{o:List Tm}(h:DO x roots d i=some o)(hp:d <+: d'):DO x roots d' i=some o:=by
 unfold DO at *
 split
 ·rename_i e;rw[Aw e]at h;exact h
 rename_i e0;rw[Ak e0]at h;split
 ·rename_i e;rw[Aw e]at h;exact h
 rename_i e1;rw[Ak e1]at h;split
 ·rename_i e;rw[Aw e]at h;exact h
 rename_i e2;rw[Ak e2]at h;split
 ·rename_i e;rw[Aw e]at h;split
  ·rename_i e4;rw[Aw e4]at h;cases ha:Jg d i.left with
   |none=>rw[ha]at h;cases h
   |some a =>
    cases hb:Jg d i.right with
    |none=>rw[ha,hb]at h;cases h
    |some b =>
     rw[ha,hb]at h;rw[QM ha hp,QM hb hp];exact h
  ·rename_i e4;rw[Ak e4]at h;cases h
 ·rename_i e;rw[Ak e]at h;cases h
structure Fe(x:List Rl)(roots:List Rq)(s:SS):Prop where
 der:Dd x roots s.infs []=some s.drv
 len:s.infs.length≤65536
theorem Fe.dlen{x:List Rl}{roots:List Rq}{s:SS}(h:Fe x roots s):s.drv.length=s.infs.length:=by simpa using IM h.der
theorem Fe.nil(x:List Rl)(roots:List Rq):Fe x roots sm:=⟨rfl,by simp⟩
theorem Fe.at{x:List Rl}{roots:List Rq}{s:SS}(h:Fe x roots s){k:Nat}{i:Nf}(hk:s.infs[k]?=some i):DO x roots s.drv i=some (s.drv.getD k []):=by
 have h1:=MU h.der (k+1);have h0:=MU h.der k;have DF:=(As.1 hk).1;rw[Bs,hk,GM,h0]at h1;have h1:Dd x roots [i] (s.drv.take k)=some (s.drv.take (k+1)):=h1;unfold Dd at h1;cases hi:DO x roots (s.drv.take k) i with
 |none=>rw[hi]at h1;cases h1
 |some t =>
  rw[hi]at h1;have h1:some (s.drv.take k++[t])=some (s.drv.take (k+1)):=h1;have hd:k<s.drv.length:=by rw[h.dlen];exact DF
  have:t=s.drv[k]:=by
   have h2:=BL h1;rw[J7 hd]at h2;exact List.singleton_inj.1 (List.append_cancel_left h2)
  rw[XA hi (List.take_prefix ..),this];simp[List.getD_eq_getElem?_getD,hd]
structure Grow(s s' : SS):Prop where
 pre:s.drv <+: s'.drv
 preI:s.infs <+: s'.infs
 full:s.full=true→s'.full=true
theorem Grow.refl(s:SS):Grow s s:=⟨MK,MK,id⟩
theorem Grow.trans{a b c:SS}(h:Grow a b)(k:Grow b c):Grow a c:=⟨h.pre.trans k.pre,h.preI.trans k.preI,fun e=>k.full (h.full e)⟩
theorem Grow.at{s s' : SS}(h:Grow s s'){k:Nat}(hk:k<s.drv.length):DK s' k=DK s k:=by
 obtain⟨t,e⟩:=h.pre;unfold DK;rw[←e,Ci,Ci,AW hk]
theorem Grow.len{s s' : SS}(h:Grow s s'):s.drv.length≤s'.drv.length:=h.pre.length_le
theorem Ke(s:SS)(i:Nf)(l:List Tm):Grow s (D4 s i l).2:=by
 unfold D4;split
 ·exact .refl s
 ·split
  ·exact⟨MK,MK,fun _=>rfl⟩
  ·exact⟨NY ..,NY ..,id⟩
theorem Kd{x:List Rl}{roots:List Rq}{s:SS}(h:Fe x roots s){i:Nf}{l:List Tm}(hi:DO x roots s.drv i=some l) :
  Fe x roots (D4 s i l).2∧(D4 s i l).1<(D4 s i l).2.drv.length∧((D4 s i l).2.full=false→DK (D4 s i l).2 (D4 s i l).1=l):=by
 have hdl:=h.dlen;unfold D4;split
 ·rename_i k hk;obtain⟨j,e,hj⟩:=MG hk
  have:k=j:=by omega
  subst this;have DF:=(As.1 hj).1;refine⟨h,by show k<s.drv.length;omega,fun _=>?_⟩
  have:=h.at hj
  rw[hi]at this;exact(BL this).symm
 ·rename_i hk;split
  ·rename_i hf;exact⟨⟨h.der,h.len⟩,by show s.infs.length-1<s.drv.length;omega,fun e=>by cases e⟩
  ·rename_i hf;refine⟨⟨?_,by show(s.infs++[i]).length≤65536;rw[Ad];simp;omega⟩,by show s.infs.length<(s.drv++[l]).length;rw[Ad];simp;omega,fun _=>?_⟩
   ·show Dd x roots (s.infs++[i]) []=some (s.drv++[l]);rw[GM,h.der];show Dd x roots [i] s.drv=_;unfold Dd;rw[hi];rfl
   ·show(s.drv++[l]).getD s.infs.length []=l;rw[←hdl];simp[List.getD_eq_getElem?_getD]
theorem Sc(S:List Sl):∀{l:List (List Tm)} {i k:Nat},Od S i l=some k→∃j,k=i+j∧∃t,l[j]?=some t∧CA t S=true
 | [],_,_,h=>by cases h
 |t::l,i,k,h=>by
  unfold Od at h;split at h
  ·rename_i e;cases h;exact⟨0,rfl,t,rfl,e⟩
  ·obtain⟨j,h1,t',h2,h3⟩:=Sc S h;exact⟨j+1,by omega,t',h2,h3⟩
theorem Kj{d:List (List Tm)}{S:List Sl}{k:Nat}(h:Oe d S=some k):k<d.length∧CA (d.getD k []) S=true:=by
 obtain⟨j,h1,t,h2,h3⟩:=Sc S h
 have:k=j:=by omega
 subst this;refine⟨(As.1 h2).1,?_⟩;rw[Ci,h2];exact h3
end Go.Eng
